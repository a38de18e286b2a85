/-
  The law FrameStore, for whatever the call is handed.
-/
import Derived.Test.YtlnkclamdiohnaaGreatDoorFSY
set_option linter.unusedVariables false
set_option linter.unusedSimpArgs false
set_option linter.unusedSectionVars false
set_option maxRecDepth 1000000
set_option maxHeartbeats 0
namespace Go.Proofs.YtlnkclamdiohnaaGreatDoor.fp
open Go.X Go.RowKit Go.Proofs Go.ChangeShapes Go.WideShapes
def intAt (w : World) (a : Addr) : Int := match w.cell? a with
  | some (.int _ n) => n
  | _ => 0
def strAt (w : World) (a : Addr) : ByteArray := match w.cell? a with
  | some (.string s) => s
  | _ => strOf 0 0
theorem arg_any (n : Nat) (hn8 : n ≤ 8) {w : World} {v : Value} {H : Type} {enc : TypeId × Value → H} {base : Nat} {spare : Nat → Bool} {held : Bool} {d : DataW H} {ps : List MemPlace} (hval : Value.okWide Tryz.prog w .any 0 22 v) (h : DataW.Trod enc Tryz.prog w base spare held 22 v d ps) : ∃ c V len r, Arg w n v c V len r := by
  obtain ⟨a0, len0, cap0, rfl⟩ := okWide_slice Tryz.underlying22 hval
  obtain ⟨fuel, hf⟩ := h
  rcases Deep.open_slice Tryz.underlying22 hf with ⟨h0, _⟩ | ⟨a, len, cap, m, n', D, Pl, h0, hb, hl, hm, hmm, _, hx⟩
  · have h1 : Value.slice a0 len0 cap0 = .slice none 0 0 := by simpa [Value.cells] using h0
    rw [h1]
    obtain ⟨r, g⟩ := givU6 (n := n) hn8 (V := ⟨0, 0, 0, 0, fun _ => 0, fun _ => strOf 0 0, fun _ => 0⟩) (len := 0) (Nat.le_refl _) (Nat.le_refl _)
    exact ⟨0, _, 0, r, ⟨by omega, fun m hm => absurd hm (by show ¬ m < 3 * 0; omega), g, Nat.zero_min n, .inl ⟨rfl, rfl⟩⟩⟩
  · have h1 : Value.slice a0 len0 cap0 = .slice (some a) len cap := by simpa [Value.cells] using h0
    rw [h1] at hval ⊢
    have hs : a.spot = none := by
      simp only [Value.okWide, Tryz.underlying22, Cell.okWide, Cell.ok] at hval
      exact hval.2.2.2.1
    obtain ⟨b, o, sp⟩ := a
    simp only at hs
    subst hs
    have hlm : len ≤ m := by rw [hmm]; split <;> omega
    let V : Vs := ⟨b, o, cap, len, fun t => intAt w ⟨b, o + 3 * t, none⟩, fun t => strAt w ⟨b, o + (3 * t + 1), none⟩, fun t => intAt w ⟨b, o + (3 * t + 2), none⟩⟩
    have c3 : Tryz.prog.cellsOf 36 = 3 := by kernel_rfl
    have c1 : Tryz.prog.cellsOf 3 = 1 := by kernel_rfl
    have c9 : Tryz.prog.cellsOf 9 = 1 := by kernel_rfl
    have key : ∀ t, t < len → (∃ k, w.cell? ⟨b, o + 3 * t, none⟩ = some (.int .i64 k)) ∧ (∃ s, w.cell? ⟨b, o + (3 * t + 1), none⟩ = some (.string s)) ∧ ∃ k, w.cell? ⟨b, o + (3 * t + 2), none⟩ = some (.int .i64 k) := by
      intro t ht
      obtain ⟨cs', g1, g2⟩ := hx t (by omega)
      rw [c3] at g1
      obtain ⟨_, hlen, hcell⟩ := World.cells?_some g1
      obtain ⟨xs, k, hk, hxy, _, hxl, hfl⟩ := DataW.trod_struct Tryz.underlying36 g2
      have hxl3 : xs.length = 3 := hxl
      have ea : ∀ q, Addr.add (Addr.add ⟨b, o, none⟩ (t * 3)) q = ⟨b, o + (3 * t + q), none⟩ := fun q => by
        rw [Deep.add_add, WideShapes.add_plain]
        congr 1
        omega
      have e0 := hcell 0 (by decide)
      have e1 := hcell 1 (by decide)
      have e2 := hcell 2 (by decide)
      rw [ea] at e0 e1 e2
      have f0 : DataW.trod enc Tryz.prog w base spare held k 3 ((cs'.drop 0).take (Tryz.prog.cellsOf 3)) = xs[0]? := hfl 0 _ rfl
      have f1 : DataW.trod enc Tryz.prog w base spare held k 9 ((cs'.drop 1).take (Tryz.prog.cellsOf 9)) = xs[1]? := hfl 1 _ rfl
      have f2 : DataW.trod enc Tryz.prog w base spare held k 3 ((cs'.drop 2).take (Tryz.prog.cellsOf 3)) = xs[2]? := hfl 2 _ rfl
      rw [c1] at f0 f2
      rw [c9] at f1
      rw [List.getElem?_eq_getElem (by omega)] at f0 f1 f2
      obtain ⟨v0, w0, _, _⟩ := DataW.trod_int Tryz.underlying3 f0
      obtain ⟨v1, w1, _, _⟩ := DataW.trod_string Tryz.underlying9 f1
      obtain ⟨v2, w2, _, _⟩ := DataW.trod_int Tryz.underlying3 f2
      have x0 : cs'[0]? = some (.int .i64 v0) := by
        have := congrArg (fun l => l[0]?) w0
        simpa [List.getElem?_take, List.getElem?_drop] using this
      have x1 : cs'[1]? = some (.string v1) := by
        have := congrArg (fun l => l[0]?) w1
        simpa [List.getElem?_take, List.getElem?_drop] using this
      have x2 : cs'[2]? = some (.int .i64 v2) := by
        have := congrArg (fun l => l[0]?) w2
        simpa [List.getElem?_take, List.getElem?_drop] using this
      exact ⟨⟨v0, by rw [show o + 3 * t = o + (3 * t + 0) by omega, e0, x0]⟩, ⟨v1, by rw [e1, x1]⟩, v2, by rw [e2, x2]⟩
    have cell : ∀ q, q < 3 * V.cnt → w.cell? ⟨V.b, V.o + q, none⟩ = some (valU V q) := by
      intro q hq
      have hq' : q < 3 * len := hq
      obtain ⟨⟨k0, y0⟩, ⟨s1, y1⟩, k2, y2⟩ := key (q / 3) (by omega)
      show w.cell? ⟨b, o + q, none⟩ = some (valU V q)
      unfold valU
      by_cases m0 : q % 3 = 0
      · rw [if_pos m0]
        have e : q = 3 * (q / 3) := by omega
        have : V.kf (q / 3) = k0 := by show intAt w ⟨b, o + 3 * (q / 3), none⟩ = k0; unfold intAt; rw [y0]
        rw [this]
        rw [← y0]
        congr 2
        omega
      · rw [if_neg m0]
        by_cases m1 : q % 3 = 1
        · rw [if_pos m1]
          have : V.nf (q / 3) = s1 := by show strAt w ⟨b, o + (3 * (q / 3) + 1), none⟩ = s1; unfold strAt; rw [y1]
          rw [this, ← y1]
          congr 2
          omega
        · rw [if_neg m1]
          have : V.af (q / 3) = k2 := by show intAt w ⟨b, o + (3 * (q / 3) + 2), none⟩ = k2; unfold intAt; rw [y2]
          rw [this, ← y2]
          congr 2
          omega
    obtain ⟨r, g⟩ := givU6 (n := n) hn8 (V := V) (len := len) (Nat.le_refl _) hl
    exact ⟨min len n + 1, V, len, r, ⟨by omega, cell, g, by omega, .inr ⟨by omega, rfl, hl⟩⟩⟩
/-- the law, for whatever the call is handed -/
theorem any {w : World} {at_ : Int} {v u : Value} {H : Type} {enc : TypeId × Value → H} {base : Nat} {spare : Nat → Bool} {held : Bool} {d : DataW H} {ps : List MemPlace} (hval : Value.okWide Tryz.prog w .any 0 22 v) (h : DataW.Trod enc Tryz.prog w base spare held 22 v d ps)
    {base' : Nat} {spare' : Nat → Bool} {held' : Bool} {d' : DataW H} {ps' : List MemPlace} (hval' : Value.okWide Tryz.prog w .any 0 22 u) (h' : DataW.Trod enc Tryz.prog w base' spare' held' 22 u d' ps') :
    Calls Tryz.prog 4 #[v, .int .i64 at_, u] w fun e w' => e = .returned (.bool true) ∧ Below w.heap.size w w' := by
  obtain ⟨c, V, len, r, ha⟩ := arg_any 8 (by decide) hval h
  obtain ⟨c', V', len', r', hb⟩ := arg_any 1 (by decide) hval' h'
  exact law_args ha hb
end Go.Proofs.YtlnkclamdiohnaaGreatDoor.fp
