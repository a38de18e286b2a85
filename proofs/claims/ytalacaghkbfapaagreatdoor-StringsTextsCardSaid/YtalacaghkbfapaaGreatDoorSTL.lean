/-
  The law StringsTexts, for whatever the call is handed.
-/
import Derived.Test.YtalacaghkbfapaaGreatDoorSTR0
import Derived.Test.YtalacaghkbfapaaGreatDoorSTR1
import Derived.Test.YtalacaghkbfapaaGreatDoorSTR2
import Derived.ChangeSlices
import Derived.ChangeShapes
import Derived.Carry
import Derived.Test.YtalacaghkbfapaaGreatDoorRows
import Derived.LaidSub
import Derived.Lib.LaidTab
import Derived.Test.YtalacaghkbfapaaGreatDoorXN4
set_option linter.unusedVariables false
set_option linter.unusedSimpArgs false
set_option linter.unusedSectionVars false
set_option maxRecDepth 1000000
set_option maxHeartbeats 0
namespace Go.Proofs.YtalacaghkbfapaaGreatDoor.stx
open Go.X Go.RowKit Go.Proofs Go.ChangeShapes Go.WideShapes
theorem gl_pow1 {T : Tab} (hp : T.gv = gvP) {w : World} (ht : PowIs w) : ∀ g o a, T.gv g o = some a → (Kp.below w.heap.size).kept g ∧ ∃ v, w.cell? ⟨g, o, none⟩ = some v ∧ (@vrel T (fun _ => none) a v ∧ (T.gv g (o + 1) = none → w.cell? ⟨g, o + 1, none⟩ = none)) := by
  obtain ⟨t, f, hb⟩ := pow_cells ht
  have hlt : 0 < w.heap.size := by
    rcases Nat.lt_or_ge 0 w.heap.size with h | h
    · exact h
    · rw [Array.getElem?_eq_none h] at hb; cases hb
  have key : ∀ q, w.cell? ⟨0, q, none⟩ = ((Lib.pow10Tab.map fun z => Value.int .u64 z).toArray)[q]? := fun q => by
    unfold World.cell?
    rw [hb]
    rfl
  intro g o a hg
  rw [hp] at hg
  unfold gvP at hg
  cases h1 : Nat.beq g 0 with
  | false => rw [h1] at hg; cases hg
  | true =>
    rw [h1] at hg
    unfold powRow at hg
    cases h2 : Nat.blt o 20 with
    | false => rw [h2] at hg; cases hg
    | true =>
      rw [h2] at hg
      cases hg
      obtain rfl := Nat.eq_of_beq_eq_true h1
      have ho : o < 20 := by rw [Nat.blt_eq] at h2; exact h2
      refine ⟨hlt, .int .u64 ((10 ^ o : Nat) : Int), ?_, by simp only [vrel], fun e => ?_⟩
      · rw [key]
        simp [Lib.pow10Tab, ho]
      · rw [key]
        rw [hp] at e
        have h3 : ¬ o + 1 < 20 := fun h => by rw [gvP_at h] at e; cases e
        rw [Array.getElem?_eq_none]
        simp [Lib.pow10Tab]
        omega
theorem all1 : ∀ c, c < 43 → M1 c
  | 0, _ => m1_0
  | 1, _ => m1_1
  | 2, _ => m1_2
  | 3, _ => m1_3
  | 4, _ => m1_4
  | 5, _ => m1_5
  | 6, _ => m1_6
  | 7, _ => m1_7
  | 8, _ => m1_8
  | 9, _ => m1_9
  | 10, _ => m1_10
  | 11, _ => m1_11
  | 12, _ => m1_12
  | 13, _ => m1_13
  | 14, _ => m1_14
  | 15, _ => m1_15
  | 16, _ => m1_16
  | 17, _ => m1_17
  | 18, _ => m1_18
  | 19, _ => m1_19
  | 20, _ => m1_20
  | 21, _ => m1_21
  | 22, _ => m1_22
  | 23, _ => m1_23
  | 24, _ => m1_24
  | 25, _ => m1_25
  | 26, _ => m1_26
  | 27, _ => m1_27
  | 28, _ => m1_28
  | 29, _ => m1_29
  | 30, _ => m1_30
  | 31, _ => m1_31
  | 32, _ => m1_32
  | 33, _ => m1_33
  | 34, _ => m1_34
  | 35, _ => m1_35
  | 36, _ => m1_36
  | 37, _ => m1_37
  | 38, _ => m1_38
  | 39, _ => m1_39
  | 40, _ => m1_40
  | 41, _ => m1_41
  | 42, _ => m1_42
  | c + 43, h => by omega
theorem all2 : ∀ c, c < 43 → M2 c
  | 0, _ => m2_0
  | 1, _ => m2_1
  | 2, _ => m2_2
  | 3, _ => m2_3
  | 4, _ => m2_4
  | 5, _ => m2_5
  | 6, _ => m2_6
  | 7, _ => m2_7
  | 8, _ => m2_8
  | 9, _ => m2_9
  | 10, _ => m2_10
  | 11, _ => m2_11
  | 12, _ => m2_12
  | 13, _ => m2_13
  | 14, _ => m2_14
  | 15, _ => m2_15
  | 16, _ => m2_16
  | 17, _ => m2_17
  | 18, _ => m2_18
  | 19, _ => m2_19
  | 20, _ => m2_20
  | 21, _ => m2_21
  | 22, _ => m2_22
  | 23, _ => m2_23
  | 24, _ => m2_24
  | 25, _ => m2_25
  | 26, _ => m2_26
  | 27, _ => m2_27
  | 28, _ => m2_28
  | 29, _ => m2_29
  | 30, _ => m2_30
  | 31, _ => m2_31
  | 32, _ => m2_32
  | 33, _ => m2_33
  | 34, _ => m2_34
  | 35, _ => m2_35
  | 36, _ => m2_36
  | 37, _ => m2_37
  | 38, _ => m2_38
  | 39, _ => m2_39
  | 40, _ => m2_40
  | 41, _ => m2_41
  | 42, _ => m2_42
  | c + 43, h => by omega
/-- a slice that came in -/
def Arg (w : World) (v : Value) (c : Nat) (x : Int) (b o cap : Nat) (A : Nat → Int) : Prop :=
  c < 43 ∧ (∀ m, m < lnc c → w.cell? ⟨b, o + m, none⟩ = some (.int .u16 (A m))) ∧ ((c = 0 ∧ v = .slice none 0 0) ∨ ∃ len : Nat, 1 ≤ c ∧ v = .slice (some ⟨b, o, none⟩) len cap ∧ (len : Int) = lenOf c x ∧ len ≤ cap)
theorem arg_rel [Tab] {w : World} {v : Value} {c : Nat} {x : Int} {b o cap i j : Nat} {A : Nat → Int} (h : Arg w v c x b o cap A) (hj : Tab.iv j = (.i64, lenOf c x)) (hb : Tab.fb i = (b, o)) (hc : Tab.fcap i = cap) : vrel (fun _ => none) (argF i j c) v := by
  obtain ⟨h1, h2, ⟨rfl, rfl⟩ | ⟨len, h3, rfl, h4, h5⟩⟩ := h
  · show vrel (fun _ => none) .nils _
    simp only [vrel]
  · have e : argF i j c = .fo i j 1 := by
      unfold argF
      cases h6 : Nat.beq c 0 with
      | false => rfl
      | true => have := Nat.eq_of_beq_eq_true h6; omega
    rw [e]
    simp only [vrel]
    rw [hj, hb, hc, ← h4]
    exact ⟨⟨rfl, Int.natCast_nonneg _⟩, by simpa using h5, by simp⟩
theorem arg_slice {w : World} {b o cap len A : Nat} {U : Nat → Int} (hlen : len ≤ 9223372036854775807) (hcap : len ≤ cap) (hA : len ≤ A) (hc : ∀ m, m < A → w.cell? ⟨b, o + m, none⟩ = some (.int .u16 (U m))) :
    ∃ c x, Arg w (.slice (some ⟨b, o, none⟩) len cap) c x b o cap U ∧ 40 < x ∧ x ≤ 9223372036854775807 := by
  by_cases h : len ≤ 40
  · have e : lnc (len + 1) = len := by rw [lnc_is (by omega)]; omega
    refine ⟨len + 1, 41, ⟨by omega, fun m hm => hc m (by omega), .inr ⟨len, by omega, rfl, ?_, hcap⟩⟩, by decide, by decide⟩
    unfold lenOf
    rw [if_neg (by omega), e]
  · refine ⟨42, (len : Int), ⟨by decide, fun m hm => hc m (by have := lnc_le 42; omega), .inr ⟨len, by decide, rfl, ?_, hcap⟩⟩, by omega, by omega⟩
    unfold lenOf
    rw [if_pos rfl]
section
variable {w : World} {n : Int} {v u : Value} {c d : Nat} {x y : Int} {b o cap b' o' cap' : Nat} {A A' : Nat → Int}
theorem glM {p : Pm} {h : Lng p} (ht : PowIs w) (ha : ∀ m, m < lnc c → w.cell? ⟨p.ba, p.oa + m, none⟩ = some (.int .u16 (p.A m))) (hb : ∀ m, m < lnc d → w.cell? ⟨p.bb, p.ob + m, none⟩ = some (.int .u16 (p.B m))) : @Gl (TM p c d h) (Kp.below w.heap.size) w := by
  refine ⟨gl_pow1 (T := TM p c d h) rfl ht, fun i m a h => ?_⟩
  match i, h with
  | 0, h =>
    obtain ⟨hm, rfl⟩ := numV_some h
    have hcm := ha m hm
    exact ⟨World.block_lt_of_cell? _ _ hcm, _, hcm, by simp only [vrel]⟩
  | 1, h =>
    obtain ⟨hm, rfl⟩ := numV_some h
    have hcm := hb m hm
    exact ⟨World.block_lt_of_cell? _ _ hcm, _, hcm, by simp only [vrel]⟩
  | (i + 2), h => cases h
theorem beg_hand [Tab] (hp : Tab.gv = gvP) : HandOk Tryz.prog (oneHand 4 [] (.bool true)) :=
  oneHand_ok fun q => callTrue_ok (args := []) (vs := []) (fun μ l h => by simpa [vrels] using h) (fun w hg => begun_is (tab_of hp w hg)) q
theorem k1_ok (p : Pm) (h : Lng p) (hr : Rng p.n) (hn : p.n < 0 ∨ 10 ≤ p.n) (hl : p.ln = (Lib.itoa p.n).length) (hC : p.C = Cn p.n) : @HandOk (TM p c d h) Tryz.prog K1 := by
  letI : Tab := TM p c d h
  have h21 := Lib.itoa_length_le p.n hr.lo hr.hi
  refine HandOk.or (beg_hand rfl) (HandOk.or (newHand_ok fun h1 h2 x e => ?_) (HandOk.or (newHand_ok fun h1 h2 x e => ?_) (HandOk.or (vecSame_ok (L := p.ln) (C := p.C) rfl rfl (by omega)) (rowSame_ok fun i hi => ivM_ge i hi))))
  · exact callVec_ok (vs := [.int .i64 p.n]) (L := p.ln) (C := p.C) (one_is rfl) rfl rfl rfl (fun w hg => by rw [hl, hC]; exact int_is hr.lo hr.hi (tab_of rfl w hg)) e
  · exact callVec_ok (vs := [.int .i64 p.n]) (L := p.ln) (C := p.C) (one_is rfl) rfl rfl rfl (fun w hg => by rw [hl, hC]; exact dec_wide hr hn) e
theorem k2_ok (p : Pm) (h : Lng p) (h0 : 0 ≤ p.n) (h9 : p.n < 10) (hC : p.C = Cn p.n) : @HandOk (TM p c d h) Tryz.prog K2 := by
  letI : Tab := TM p c d h
  have e1 := len_one h0 h9
  refine HandOk.or (beg_hand rfl) (HandOk.or (newHand_ok fun h1 h2 x e => ?_) (HandOk.or (newHand_ok fun h1 h2 x e => ?_) (rowSame_ok fun i hi => ivM_ge i hi)))
  · exact callOne_ok (vs := [.int .i64 p.n]) (C := p.C) (one_is rfl) (q := 8) rfl (fun w hg => by rw [hC, ← e1]; exact int_is (by omega) (by omega) (tab_of rfl w hg)) e
  · exact callFix_ok (vs := [.int .i64 p.n]) (C := p.C) (one_is rfl) (q := 8) rfl (fun w hg => by rw [hC]; exact dec_fix h0 h9) e
theorem law_args (ht : PowIs w) (hr : Rng n) (ha : Arg w v c x b o cap A) (hb : Arg w u d y b' o' cap' A') (hx0 : 40 < x) (hx1 : x ≤ 9223372036854775807) (hy0 : 40 < y) (hy1 : y ≤ 9223372036854775807) :
    Calls Tryz.prog 3 #[.int .i64 n, v, u] w fun e w' => e = .returned (.bool true) ∧ Below w.heap.size w w' := by
  let p : Pm := ⟨n, (Lib.itoa n).length, Cn n, A, A', x, y, b, o, cap, b', o', cap'⟩
  have hp : Lng p := ⟨hx0, hx1, hy0, hy1⟩
  have fin : ∀ K : Hand, @HandOk (TM p c d hp) Tryz.prog K → chk (TM p c d hp) K c d = true → Calls Tryz.prog 3 #[.int .i64 n, v, u] w fun e w' => e = .returned (.bool true) ∧ Below w.heap.size w w' := by
    intro K hK hc
    letI : Tab := TM p c d hp
    obtain ⟨q, hq⟩ := CallOk.of_okTrue (P := Tryz.prog) mixed hK hc
    exact CallOk.yes hq (vrels_cons (by simp only [vrel]; rfl) (vrels_cons (arg_rel ha rfl rfl rfl) (vrels_cons (arg_rel hb rfl rfl rfl) (by simp [vrels])))) w (glM (p := p) ht ha.2.1 hb.2.1)
  by_cases h : n < 0 ∨ 10 ≤ n
  · exact fin K1 (k1_ok p hp hr h rfl rfl) (allTo_at (all1 c ha.1 p hp) d hb.1)
  · exact fin K2 (k2_ok p hp (show 0 ≤ n by omega) (show n < 10 by omega) rfl) (allTo_at (all2 c ha.1 p hp) d hb.1)
end
theorem arg_any {w : World} {v : Value} {H : Type} {enc : TypeId × Value → H} {base : Nat} {spare : Nat → Bool} {held : Bool} {d : DataW H} {ps : List MemPlace} (hval : Value.okWide Tryz.prog w .any 0 22 v) (h : DataW.Trod enc Tryz.prog w base spare held 22 v d ps) :
    ∃ c x b o cap A, Arg w v c x b o cap A ∧ 40 < x ∧ x ≤ 9223372036854775807 := by
  obtain ⟨a0, len0, cap0, rfl⟩ := okWide_slice Tryz.underlying22 hval
  obtain ⟨fuel, hf⟩ := h
  rcases open_ints Tryz.underlying22 Tryz.underlying36 (by kernel_rfl) hf with ⟨h0, _⟩ | ⟨a, len, cap, zs, h0, _, hcap, hm, hz, _, hc, hw⟩
  · have h1 : Value.slice a0 len0 cap0 = .slice none 0 0 := by simpa [Value.cells] using h0
    rw [h1]
    exact ⟨0, 41, 0, 0, 0, fun _ => 0, ⟨by decide, fun m hm => absurd hm (by rw [lnc_is (by decide)]; omega), .inl ⟨rfl, rfl⟩⟩, by decide, by decide⟩
  · have h1 : Value.slice a0 len0 cap0 = .slice (some a) len cap := by simpa [Value.cells] using h0
    rw [h1] at hval ⊢
    have hs : a.spot = none := by
      simp only [Value.okWide, Tryz.underlying22, Cell.okWide, Cell.ok] at hval
      exact hval.2.2.2.1
    obtain ⟨b, o, sp⟩ := a
    simp only at hs
    subst hs
    have hA : len ≤ zs.length := by rw [hz]; split <;> omega
    obtain ⟨c, x, h2, h3, h4⟩ := arg_slice (U := fun k => zs.getD k 0) (A := zs.length) (by unfold maxLen at hm; omega) hcap hA (fun m hm => by rw [← WideShapes.add_plain]; exact hc m hm)
    exact ⟨c, x, b, o, cap, _, h2, h3, h4⟩
def nm : String := ((Rows.stringsTextsRow.laid.find? fun x => x.1 == "internal/strconv.uint64pow10").map fun x => x.1).getD default
theorem laid_eq : (Rows.stringsTextsRow.laid.filter fun x => x.1 == nm) = [(nm, Lib.tabData .u64 Lib.pow10Tab)] := by kernel_rfl
theorem nm_is : nm = "internal/strconv.uint64pow10" := by kernel_rfl
theorem globals0 : Tryz.prog.globalNamed nm = some 0 := by kernel_rfl
theorem tabIs {W : World} (h : laidMetH Tryz.prog Rows.stringsTextsRow.laid W) : PowIs W := by
  have h1 := h.filter fun x => x.1 == nm
  rw [laid_eq] at h1
  have h2 : laidMet Tryz.prog [(nm, Lib.tabData .u64 Lib.pow10Tab)] W := h1
  show Lib.TabIs Tryz.prog W "internal/strconv.uint64pow10" .u64 Lib.pow10Tab
  rw [← nm_is]
  exact Lib.tabIs_of_head (t := 122) (e := 59) (n := 20) globals0 (by kernel_rfl) (by kernel_rfl) (by kernel_rfl) (by kernel_rfl) (by kernel_rfl) h2
/-- the law, for whatever the call is handed -/
theorem any {w : World} {n : Int} (w0 : (Lit.int .i64 n).wf = true) {v u : Value} {H : Type} {enc : TypeId × Value → H} {base : Nat} {spare : Nat → Bool} {held : Bool} {d : DataW H} {ps : List MemPlace} (hval : Value.okWide Tryz.prog w .any 0 22 v) (h : DataW.Trod enc Tryz.prog w base spare held 22 v d ps)
    {base' : Nat} {spare' : Nat → Bool} {held' : Bool} {d' : DataW H} {ps' : List MemPlace} (hval' : Value.okWide Tryz.prog w .any 0 22 u) (h' : DataW.Trod enc Tryz.prog w base' spare' held' 22 u d' ps') (hL : laidMetH Tryz.prog Rows.stringsTextsRow.laid w) :
    Calls Tryz.prog 3 #[.int .i64 n, v, u] w fun e w' => e = .returned (.bool true) ∧ Below w.heap.size w w' := by
  obtain ⟨c, x, b, o, cap, A, g1, g2, g3⟩ := arg_any hval h
  obtain ⟨c', x', b', o', cap', A', g4, g5, g6⟩ := arg_any hval' h'
  have hr : Rng n := by
    simp only [Lit.wf, Bool.and_eq_true, decide_eq_true_eq] at w0
    exact ⟨w0.1, w0.2⟩
  exact law_args (tabIs hL) hr g1 g4 g2 g3 g5 g6
end Go.Proofs.YtalacaghkbfapaaGreatDoor.stx
