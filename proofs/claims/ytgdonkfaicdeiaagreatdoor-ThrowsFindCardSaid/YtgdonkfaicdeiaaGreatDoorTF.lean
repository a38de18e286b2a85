/-
  What the law ThrowsFind gives: true, whatever the handlers, the place and the class.
-/
import Derived.Test.YtgdonkfaicdeiaaGreatDoorTF0
import Derived.Test.YtgdonkfaicdeiaaGreatDoorTF1
import Derived.Test.YtgdonkfaicdeiaaGreatDoorTF2
import Derived.Test.YtgdonkfaicdeiaaGreatDoorTF3
import Derived.Test.YtgdonkfaicdeiaaGreatDoorTF4
import Derived.Deep.Slices
import Derived.Carry
import Derived.ProofKit
set_option linter.unusedVariables false
set_option linter.unusedSimpArgs false
set_option maxRecDepth 100000
namespace Go.Proofs.YtgdonkfaicdeiaaGreatDoor.find
open Go.X Go.RowKit Go.ChangeShapes Go.WideShapes
noncomputable abbrev act0 (v : Value) (p x : Int) : Act := { tmps := #[v, .int .i64 p, .int .i64 x] ++ Array.replicate (Tryz.f3.ntmps - 3) undef, defers := [] }
section
variable {b o cap N : Nat} {p x : Int} {z : Nat → Int} {w : World}
theorem startS (U : Tab) (h0 : U.iv 1 = (.i64, (N : Int))) (h1 : U.iv 2 = (.i64, p)) (h2 : U.iv 3 = (.i64, x)) (h3 : U.fb 0 = (b, o)) (h4 : U.fcap 0 = cap) (hg : U.gv = fun _ _ => none) (hb : U.fb = fun _ => (b, o)) (hf : U.fv = (fgn b o cap N z).fv) (hcap : N ≤ cap)
    (hc : ∀ m, m < N * 4 → w.cell? ⟨b, o + m, none⟩ = some (.int .i64 (z m))) : St U (Kp.below w.heap.size) w (fun _ => none) Tryz.f3.ntmps (T.ofList 0 .leaf [.fo 0 1 4, .oi 2, .oi 3]) H.empty (act0 (.slice (some ⟨b, o, none⟩) N cap) p x) w := by
  letI := U
  refine @St.start U [.fo 0 1 4, .oi 2, .oi 3] #[.slice (some ⟨b, o, none⟩) N cap, .int .i64 p, .int .i64 x] Tryz.f3.ntmps w ⟨fun g o a h => (by rw [hg] at h; cases h), fun i m a h => ?_⟩ ?_ (show 3 ≤ Tryz.f3.ntmps by decide +kernel) (show 3 < limit by decide)
  · rw [hf] at h
    rw [hb]
    match i, h with
    | 0, h =>
      obtain ⟨hm, rfl⟩ := numV_some h
      have hcm := hc m hm
      refine ⟨World.block_lt_of_cell? _ _ hcm, _, hcm, ?_⟩
      simp only [vrel]
    | (i + 1), h => cases h
  · refine ⟨_, _, rfl, ?_, _, _, rfl, ?_, _, _, rfl, ?_, rfl⟩
    · simp only [vrel]
      rw [h0, h3, h4]
      exact ⟨⟨rfl, by simp⟩, by simpa using hcap, by simp⟩
    · simp only [vrel]; rw [h1]
    · simp only [vrel]; rw [h2]
theorem startN (U : Tab) (h1 : U.iv 2 = (.i64, p)) (h2 : U.iv 3 = (.i64, x)) (hg : U.gv = fun _ _ => none) (hf : U.fv = fun _ _ => none) : St U (Kp.below w.heap.size) w (fun _ => none) Tryz.f3.ntmps (T.ofList 0 .leaf [.nils, .oi 2, .oi 3]) H.empty (act0 (.slice none 0 0) p x) w := by
  letI := U
  refine @St.start U [.nils, .oi 2, .oi 3] #[.slice none 0 0, .int .i64 p, .int .i64 x] Tryz.f3.ntmps w ⟨fun g o a h => (by rw [hg] at h; cases h), fun i m a h => (by rw [hf] at h; cases h)⟩ ?_ (show 3 ≤ Tryz.f3.ntmps by decide +kernel) (show 3 < limit by decide)
  refine ⟨_, _, rfl, ?_, _, _, rfl, ?_, _, _, rfl, ?_, rfl⟩
  · simp only [vrel]
  · simp only [vrel]; rw [h1]
  · simp only [vrel]; rw [h2]
theorem five (x : Int) : (x.tmod 5 + 5).tmod 5 = 0 ∨ (x.tmod 5 + 5).tmod 5 = 1 ∨ (x.tmod 5 + 5).tmod 5 = 2 ∨ (x.tmod 5 + 5).tmod 5 = 3 ∨ (x.tmod 5 + 5).tmod 5 = 4 := by
  have h1 : x.tmod 5 < 5 := Int.tmod_lt_of_pos _ (by decide)
  have h2 : -5 < x.tmod 5 := Int.lt_tmod_of_pos _ (by decide)
  have h3 : (x.tmod 5 + 5).tmod 5 = (x.tmod 5 + 5) % 5 := Int.tmod_eq_emod_of_nonneg (by omega)
  omega
theorem slice_any (hcap : N ≤ cap) (hc : ∀ m, m < N * 4 → w.cell? ⟨b, o + m, none⟩ = some (.int .i64 (z m))) : Calls Tryz.prog 3 #[.slice (some ⟨b, o, none⟩) N cap, .int .i64 p, .int .i64 x] w fun e w' => e = .returned (.bool true) ∧ Below w.heap.size w w' := by
  refine yes_calls Tryz.func3 body_eq w ?_
  show body.wp Tryz.prog (Yes Tryz.prog Tryz.f3 (Kp.below w.heap.size) w) (act0 (.slice (some ⟨b, o, none⟩) N cap) p x) w
  rcases five x with h | h | h | h | h
  · exact c0.throwsFind_in (b := b) (o := o) (cap := cap) (N := N) (z := z) h (startS (c0.TB b o cap N p z h) rfl rfl rfl rfl rfl rfl rfl rfl hcap hc)
  · exact c1.throwsFind_in (b := b) (o := o) (cap := cap) (N := N) (z := z) h (startS (c1.TB b o cap N p z h) rfl rfl rfl rfl rfl rfl rfl rfl hcap hc)
  · exact c2.throwsFind_in (b := b) (o := o) (cap := cap) (N := N) (z := z) h (startS (c2.TB b o cap N p z h) rfl rfl rfl rfl rfl rfl rfl rfl hcap hc)
  · exact c3.throwsFind_in (b := b) (o := o) (cap := cap) (N := N) (z := z) h (startS (c3.TB b o cap N p z h) rfl rfl rfl rfl rfl rfl rfl rfl hcap hc)
  · exact c4.throwsFind_in (b := b) (o := o) (cap := cap) (N := N) (z := z) h (startS (c4.TB b o cap N p z h) rfl rfl rfl rfl rfl rfl rfl rfl hcap hc)
theorem nil_any : Calls Tryz.prog 3 #[.slice none 0 0, .int .i64 p, .int .i64 x] w fun e w' => e = .returned (.bool true) ∧ Below w.heap.size w w' := by
  refine yes_calls Tryz.func3 body_eq w ?_
  show body.wp Tryz.prog (Yes Tryz.prog Tryz.f3 (Kp.below w.heap.size) w) (act0 (.slice none 0 0) p x) w
  rcases five x with h | h | h | h | h
  · exact c0.throwsFind_nil h (startN (c0.RB 0 p h).tab rfl rfl rfl rfl)
  · exact c1.throwsFind_nil h (startN (c1.RB 0 p h).tab rfl rfl rfl rfl)
  · exact c2.throwsFind_nil h (startN (c2.RB 0 p h).tab rfl rfl rfl rfl)
  · exact c3.throwsFind_nil h (startN (c3.RB 0 p h).tab rfl rfl rfl rfl)
  · exact c4.throwsFind_nil h (startN (c4.RB 0 p h).tab rfl rfl rfl rfl)
end
/-- what a cell holds, where it is a number -/
def numAt (w : World) (a : Addr) : Int := match w.cell? a with
  | some (.int _ n) => n
  | _ => 0
theorem open_hs {H : Type} {enc : TypeId × Value → H} {w : World} {base : Nat} {spare : Nat → Bool} {held : Bool} {fuel : Nat} {cs : List Value} {y : DataW H × List MemPlace} (h : DataW.trod enc Tryz.prog w base spare held fuel 22 cs = some y) :
    (cs = [.slice none 0 0]) ∨ ∃ (a : Addr) (len cap : Nat), cs = [.slice (some a) len cap] ∧ len ≤ cap ∧ ∀ m, m < len * 4 → w.cell? (a.add m) = some (.int .i64 (numAt w (a.add m))) := by
  rcases Deep.open_slice Tryz.underlying22 h with ⟨h0, _⟩ | ⟨a, len, cap, m, n, D, Pl, rfl, hb, hl, hm, hmm, rfl, hx⟩
  · exact Or.inl h0
  refine Or.inr ⟨a, len, cap, rfl, hl, fun q hq => ?_⟩
  have hlm : len ≤ m := by rw [hmm]; split <;> omega
  obtain ⟨cs', h1, h2⟩ := hx (q / 4) (by omega)
  have c4 : Tryz.prog.cellsOf 26 = 4 := by kernel_rfl
  have c1 : Tryz.prog.cellsOf 3 = 1 := by kernel_rfl
  rw [c4] at h1
  obtain ⟨_, hlen, hcell⟩ := World.cells?_some h1
  obtain ⟨xs, k, hk, hxy, _, hxl, hf⟩ := DataW.trod_struct Tryz.underlying26 h2
  have hq4 : q % 4 < 4 := Nat.mod_lt _ (by decide)
  have e0 := hcell (q % 4) hq4
  have ea : (a.add (q / 4 * 4)).add (q % 4) = a.add q := by
    rw [Deep.add_add]
    congr 1
    omega
  rw [ea] at e0
  have hfield : ∃ f : Field, (#[{ name := "From", type := 3, offset := 0, embedded := false, tag := "", pkgPath := "", byteOffset := 0 },
        { name := "To", type := 3, offset := 1, embedded := false, tag := "", pkgPath := "", byteOffset := 8 },
        { name := "At", type := 3, offset := 2, embedded := false, tag := "", pkgPath := "", byteOffset := 16 },
        { name := "Type", type := 3, offset := 3, embedded := false, tag := "", pkgPath := "", byteOffset := 24 }] : Array Field)[q % 4]? = some f ∧ f.type = 3 ∧ f.offset = q % 4 := by
    generalize q % 4 = r at hq4
    obtain rfl | rfl | rfl | rfl : r = 0 ∨ r = 1 ∨ r = 2 ∨ r = 3 := by omega
    all_goals exact ⟨_, rfl, rfl, rfl⟩
  obtain ⟨f, hf1, hf2, hf3⟩ := hfield
  have g := hf (q % 4) f hf1
  rw [hf2, hf3, c1] at g
  have hxs : xs[q % 4]? = some (xs[q % 4]'(by rw [hxl]; exact hq4)) := List.getElem?_eq_getElem _
  rw [hxs] at g
  obtain ⟨v, hv, _, _⟩ := DataW.trod_int Tryz.underlying3 g
  have hcs : cs'[q % 4]? = some (.int .i64 v) := by
    have := congrArg (fun l => l[0]?) hv
    simpa [List.getElem?_take, List.getElem?_drop] using this
  rw [hcs] at e0
  have : numAt w (a.add q) = v := by unfold numAt; rw [e0]
  rw [this]; exact e0
/-- the law, for whatever slice the call is handed -/
theorem throwsFind_any {w : World} {v : Value} {p x : Int} {H : Type} {enc : TypeId × Value → H} {base : Nat} {spare : Nat → Bool} {held : Bool} {d : DataW H} {ps : List MemPlace} (hval : Value.okWide Tryz.prog w .any 0 22 v) (h : DataW.Trod enc Tryz.prog w base spare held 22 v d ps) :
    Calls Tryz.prog 3 #[v, .int .i64 p, .int .i64 x] w fun e w' => e = .returned (.bool true) ∧ Below w.heap.size w w' := by
  obtain ⟨a0, len0, cap0, rfl⟩ := okWide_slice Tryz.underlying22 hval
  obtain ⟨fuel, hf⟩ := h
  rcases open_hs hf with h0 | ⟨a, len, cap, h0, hcap, hc⟩
  · have h1 : Value.slice a0 len0 cap0 = .slice none 0 0 := by simpa [Value.cells] using h0
    rw [h1]; exact nil_any
  · have h1 : Value.slice a0 len0 cap0 = .slice (some a) len cap := by simpa [Value.cells] using h0
    rw [h1] at hval ⊢
    have hs : a.spot = none := by
      simp only [Value.okWide, Tryz.underlying22, Cell.okWide, Cell.ok] at hval
      exact hval.2.2.2.1
    obtain ⟨b, o, sp⟩ := a
    simp only at hs
    subst hs
    exact slice_any (z := fun m => numAt w (Addr.add ⟨b, o, none⟩ m)) hcap (fun m hm => by rw [← WideShapes.add_plain]; exact hc m hm)
end Go.Proofs.YtgdonkfaicdeiaaGreatDoor.find
