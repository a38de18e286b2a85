/-
  What the law NativeThrowable gives: the law.
-/
import Derived.Test.YtgejhjencodinaaGreatDoorNTB0
import Derived.Test.YtgejhjencodinaaGreatDoorNTB1
import Derived.Test.YtgejhjencodinaaGreatDoorNTB2
import Derived.Test.YtgejhjencodinaaGreatDoorNTB3
import Derived.Test.YtgejhjencodinaaGreatDoorNTB4
import Derived.Test.YtgejhjencodinaaGreatDoorNTB5
import Derived.Test.YtgejhjencodinaaGreatDoorNTB6
import Derived.Test.YtgejhjencodinaaGreatDoorNTB7
import Derived.Test.YtgejhjencodinaaGreatDoorNTBL
import Derived.ChangeSlices
import Derived.ChangeShapes
import Derived.Carry
set_option linter.unusedSectionVars false
set_option linter.unusedVariables false
set_option maxRecDepth 1000000
set_option maxHeartbeats 0
namespace Go.Proofs.YtgejhjencodinaaGreatDoor.nt
open Go.X Go.RowKit Go.X.chars Go.ChangeShapes Go.WideShapes
theorem allIn : ∀ L < 61, ∀ c < 3, ∀ n : Bool, (L, c, n) ∈ cs0 ++ cs1 ++ cs2 ++ cs3 ++ cs4 ++ cs5 ++ cs6 ++ cs7 := by decide +kernel
theorem good {L c : Nat} (n : Bool) (h1 : L ≤ 60) (h2 : c < 3) : GS L c n := by
  have hm := allIn L (by omega) c h2 n
  simp only [List.mem_append] at hm
  rcases hm with ((((((hm | hm) | hm) | hm) | hm) | hm) | hm) | hm
  · exact all0 _ hm
  · exact all1 _ hm
  · exact all2 _ hm
  · exact all3 _ hm
  · exact all4 _ hm
  · exact all5 _ hm
  · exact all6 _ hm
  · exact all7 _ hm
theorem cls (kind : Int) : ∃ c : Nat, c < 3 ∧ (kind.tmod 3 + 3).tmod 3 = (c : Int) := by
  have h1 : -3 < kind.tmod 3 := tmod_lo (by decide)
  have h2 : kind.tmod 3 < 3 := tmod_hi (by decide)
  have h3 : (kind.tmod 3 + 3).tmod 3 = (kind.tmod 3 + 3) % 3 := Int.tmod_eq_emod_of_nonneg (by omega)
  refine ⟨((kind.tmod 3 + 3) % 3).toNat, by omega, ?_⟩
  rw [h3, Int.toNat_of_nonneg (by omega)]
section
variable {w : World} {kind : Int} {null : Bool}
theorem nil_any : Calls Tryz.prog 3 #[.slice none 0 0, .int .i64 kind, .bool null] w fun e w' => e = .returned (.bool true) ∧ Below w.heap.size w w' := by
  obtain ⟨c, hc, hk⟩ := cls kind
  letI : Tab := (VN_ kind c hk).tab
  obtain ⟨q_, hq_⟩ := CallOk.of_okTrue (P := Tryz.prog) mixed K_top0_ok (allN c hc null kind hk)
  exact CallOk.yes hq_ (vrels_cons (by simp only [vrel]) (vrels_cons (by simp only [vrel]; rfl) (vrels_cons (by simp only [vrel]) (by simp [vrels])))) w ⟨fun g o a h => (by cases h), fun i m a h => (by cases h)⟩
theorem glU {T : Tab} {p : Pm} (hg : T.gv = fun _ _ => none) (hf : T.fv = p.F.fv) (hb : T.fb = p.F.fb) (hc : ∀ m, m < p.A → w.cell? ⟨p.b, p.o + m, none⟩ = some (.int .u16 (p.U m))) : @Gl T (Kp.below w.heap.size) w := by
  refine ⟨fun g o a h => (by rw [hg] at h; cases h), fun i m a h => ?_⟩
  rw [hf] at h
  rw [hb]
  match i, h with
  | 0, h =>
    obtain ⟨hm, rfl⟩ := numV_some h
    have hcm := hc m hm
    exact ⟨World.block_lt_of_cell? _ _ hcm, _, hcm, by simp only [vrel]⟩
  | (i + 1), h => cases h
theorem slice_any {b o cap len A : Nat} {U : Nat → Int} (hlen : len ≤ 9223372036854775807) (hcap : len ≤ cap) (hA : len ≤ A) (hU : ∀ k, 0 ≤ U k ∧ U k < 65536) (hc : ∀ m, m < A → w.cell? ⟨b, o + m, none⟩ = some (.int .u16 (U m))) :
    Calls Tryz.prog 3 #[.slice (some ⟨b, o, none⟩) len cap, .int .i64 kind, .bool null] w fun e w' => e = .returned (.bool true) ∧ Below w.heap.size w w' := by
  obtain ⟨c, hc3, hk⟩ := cls kind
  by_cases h60 : len ≤ 60
  · have ok : OkS ⟨(len : Int), kind, U, b, o, cap, A⟩ len c := ⟨rfl, h60, hU, hk, hA⟩
    letI : Tab := TS _ len c ok
    obtain ⟨q_, hq_⟩ := CallOk.of_okTrue (P := Tryz.prog) mixed K_top0_ok (good null h60 hc3 _ ok)
    refine CallOk.yes hq_ (vrels_cons ?_ (vrels_cons (by simp only [vrel]; rfl) (vrels_cons (by simp only [vrel]) (by simp [vrels])))) w (glU (p := ⟨(len : Int), kind, U, b, o, cap, A⟩) rfl rfl rfl hc)
    simp only [vrel]
    exact ⟨⟨rfl, Int.natCast_nonneg _⟩, hcap, rfl⟩
  · have ok : OkL ⟨(len : Int), kind, U, b, o, cap, A⟩ c := ⟨show (60 : Int) < (len : Int) by omega, show (len : Int) ≤ _ by omega, hU, hk, show 60 ≤ A by omega⟩
    letI : Tab := TL _ c ok
    obtain ⟨q_, hq_⟩ := CallOk.of_okTrue (P := Tryz.prog) mixed K_top0_ok (allL c hc3 null _ ok)
    refine CallOk.yes hq_ (vrels_cons ?_ (vrels_cons (by simp only [vrel]; rfl) (vrels_cons (by simp only [vrel]) (by simp [vrels])))) w (glU (p := ⟨(len : Int), kind, U, b, o, cap, A⟩) rfl rfl rfl hc)
    simp only [vrel]
    exact ⟨⟨rfl, Int.natCast_nonneg _⟩, hcap, rfl⟩
end
/-- the law, for whatever slice the call is handed -/
theorem any {w : World} {v : Value} {kind : Int} {null : Bool} {H : Type} {enc : TypeId × Value → H} {base : Nat} {spare : Nat → Bool} {held : Bool} {d : DataW H} {ps : List MemPlace} (hval : Value.okWide Tryz.prog w .any 0 22 v) (h : DataW.Trod enc Tryz.prog w base spare held 22 v d ps) :
    Calls Tryz.prog 3 #[v, .int .i64 kind, .bool null] w fun e w' => e = .returned (.bool true) ∧ Below w.heap.size w w' := by
  obtain ⟨a0, len0, cap0, rfl⟩ := okWide_slice Tryz.underlying22 hval
  obtain ⟨fuel, hf⟩ := h
  rcases open_ints Tryz.underlying22 Tryz.underlying44 (by kernel_rfl) hf with ⟨h0, _⟩ | ⟨a, len, cap, zs, h0, _, hcap, hm, hz, _, hc, hw⟩
  · have h1 : Value.slice a0 len0 cap0 = .slice none 0 0 := by simpa [Value.cells] using h0
    rw [h1]; exact nil_any
  · have h1 : Value.slice a0 len0 cap0 = .slice (some a) len cap := by simpa [Value.cells] using h0
    rw [h1] at hval ⊢
    have hs : a.spot = none := by
      simp only [Value.okWide, Tryz.underlying22, Cell.okWide, Cell.ok] at hval
      exact hval.2.2.2.1
    obtain ⟨b, o, sp⟩ := a
    simp only at hs
    subst hs
    have hA : len ≤ zs.length := by rw [hz]; split <;> omega
    refine slice_any (U := fun k => zs.getD k 0) (A := zs.length) (by unfold maxLen at hm; omega) hcap hA ?_ (fun m hm => by rw [← WideShapes.add_plain]; exact hc m hm)
    intro k
    by_cases hk : k < zs.length
    · have hmem : zs.getD k 0 ∈ zs := by
        rw [List.getD_eq_getElem?_getD, List.getElem?_eq_getElem hk]
        exact List.getElem_mem hk
      have := hw _ hmem
      simp only [Lit.wf, Bool.and_eq_true, decide_eq_true_eq] at this
      have h3 : (0 : Int) ≤ zs.getD k 0 := this.1
      have h4 : zs.getD k 0 ≤ 65535 := this.2
      omega
    · have : zs.getD k 0 = 0 := by
        rw [List.getD_eq_getElem?_getD, List.getElem?_eq_none (by omega)]; rfl
      rw [this]; omega
end Go.Proofs.YtgejhjencodinaaGreatDoor.nt
