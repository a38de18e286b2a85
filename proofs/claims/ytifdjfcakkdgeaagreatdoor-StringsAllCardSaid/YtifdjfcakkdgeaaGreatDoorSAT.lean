/-
  The law StringsAll, for whatever the call is handed.
-/
import Derived.Test.YtifdjfcakkdgeaaGreatDoorSAS
import Derived.ChangeSlices
import Derived.ChangeShapes
import Derived.Carry
import Derived.Deep.Slices
import Derived.Test.YtifdjfcakkdgeaaGreatDoorRows
import Derived.LaidSub
import Derived.Lib.LaidTab
set_option linter.unusedVariables false
set_option linter.unusedSimpArgs false
set_option linter.unusedSectionVars false
set_option maxRecDepth 1000000
set_option maxHeartbeats 0
namespace Go.Proofs.YtifdjfcakkdgeaaGreatDoor.sa
open Go.X Go.RowKit Go.Proofs Go.ChangeShapes Go.WideShapes
theorem cell_lt' {w : World} {a : Addr} {v : Value} (h : w.cell? a = some v) : a.block < w.heap.size ∧ a.spot = none := by
  unfold World.cell? at h
  split at h
  · rename_i e
    refine ⟨(Array.getElem?_eq_some_iff.1 e).1, ?_⟩
    cases hs : a.spot with
    | none => rfl
    | some x => rw [hs] at h; simp at h
  all_goals cases h
theorem el_of {w : World} {v : Value} {H : Type} {enc : TypeId × Value → H} {base fuel : Nat} {spare : Nat → Bool} {held : Bool} {x : DataW H × List MemPlace} (h : DataW.trod enc Tryz.prog w base spare held fuel 31 [v] = some x) : ∃ e, ElOk e ∧ e.v = v ∧ Cl w e := by
  rcases open_ints Tryz.underlying31 Tryz.underlying41 (by kernel_rfl) h with ⟨h0, _⟩ | ⟨a, len, cap, zs, h0, _, hcap, hm, hz, _, hc, hw⟩
  · have h1 : v = .slice none 0 0 := by simpa using h0
    exact ⟨dEl, dEl_ok, h1.symm, fun m hm => by have hm : m < 0 := hm; omega⟩
  · have h1 : v = .slice (some a) len cap := by simpa using h0
    subst h1
    have hA : len ≤ zs.length := by rw [hz]; split <;> omega
    have hr : ∀ m, 0 ≤ zs.getD m 0 ∧ zs.getD m 0 < 65536 := fun m => by
      rw [List.getD_eq_getElem?_getD]
      cases e : zs[m]? with
      | none => exact ⟨by decide, by decide⟩
      | some z =>
        have hz' := hw z (List.mem_of_getElem? e)
        simp only [Lit.wf, Bool.and_eq_true, decide_eq_true_eq] at hz'
        obtain ⟨q1, q2⟩ := hz'
        have q3 : (IntKind.u16.min : Int) = 0 := by decide
        have q4 : (IntKind.u16.max : Int) = 65535 := by decide
        show 0 ≤ z ∧ z < 65536
        omega
    have hl : cap < 9223372036854775808 := by unfold maxLen at hm; omega
    rcases Nat.eq_zero_or_pos len with e | e
    · subst e
      exact ⟨⟨3, 0, 0, fun _ => 0, 0, 0, 0, .slice (some a) 0 cap⟩, ⟨Nat.zero_le _, fun _ => by show (0 : Int) ≤ 0 ∧ (0 : Int) < 65536; decide, (fun e => by cases e), (fun e => by cases e), (fun e => by cases e), fun _ => ⟨rfl, a, cap, rfl⟩⟩, rfl, fun m hm => by have hm : m < 0 := hm; omega⟩
    · have hs : a.spot = none := (cell_lt' (hc 0 (by omega))).2
      obtain ⟨b, o, sp⟩ := a
      simp only at hs
      subst hs
      have cells : ∀ m, m < len → w.cell? ⟨b, o + m, none⟩ = some (.int .u16 (zs.getD m 0)) := fun m hm => by rw [← WideShapes.add_plain]; exact hc m (by omega)
      by_cases h40 : len ≤ 40
      · exact ⟨⟨0, len, len, fun m => zs.getD m 0, b, o, cap, .slice (some ⟨b, o, none⟩) len cap⟩, ⟨h40, hr, fun _ => ⟨e, rfl, hcap⟩, (fun e => by cases e), (fun e => by cases e), (fun e => by have e : 3 ≤ 0 := e; omega)⟩, rfl, cells⟩
      · exact ⟨⟨1, 40, len, fun m => zs.getD m 0, b, o, cap, .slice (some ⟨b, o, none⟩) len cap⟩, ⟨Nat.le_refl _, hr, (fun e => by cases e), fun _ => ⟨rfl, by show 40 < len; omega, by show len < _; omega, rfl, hcap⟩, (fun e => by cases e), (fun e => by have e : 3 ≤ 1 := e; omega)⟩, rfl, fun m hm => cells m (by have hm : m < 40 := hm; omega)⟩
theorem chooseN {P : Nat → El → Prop} {n : Nat} (h : ∀ j, j < n → ∃ e, ElOk e ∧ P j e) : ∃ f : Nat → El, (∀ j, ElOk (f j)) ∧ ∀ j, j < n → P j (f j) := by
  refine ⟨fun j => if hj : j < n then Classical.choose (h j hj) else dEl, fun j => ?_, fun j hj => ?_⟩
  · by_cases hj : j < n
    · simp only [dif_pos hj]; exact (Classical.choose_spec (h j hj)).1
    · simp only [dif_neg hj]; exact dEl_ok
  · simp only [dif_pos hj]; exact (Classical.choose_spec (h j hj)).2
/-- what is known of the slice of texts -/
structure UsOk (u : Us) (w : World) : Prop where
  o : ∀ j, ElOk (u.us j)
  ul : u.lu < 9223372036854775808
  hc : u.lu ≤ u.cu
  c : ∀ j, j < u.lu → w.cell? ⟨u.bu, u.ou + j, none⟩ = some (u.us j).v ∧ Cl w (u.us j)
theorem ElOk.oneV' {e : El} (o : ElOk e) : oneV e.v = true := by
  obtain ⟨k, hk⟩ : ∃ k, e.ek = k := ⟨_, rfl⟩
  match k, hk with
  | 0, hk => exact oneSl (o.k0 hk).2.1
  | 1, hk => exact oneSl (o.k1 hk).2.2.2.1
  | 2, hk => exact oneSl (o.k2 hk).2
  | k + 3, hk =>
    obtain ⟨_, _, _, h⟩ := o.k3 (by omega)
    exact oneSl h
theorem glU {u : Us} {w : World} (g : UsOk u w) (p : Pm) (m : Nat) (v : Inv u p m) : @Gl (TP p) (Kp.below w.heap.size) w := by
  have cu : Cl w p.e := by
    rw [v.e]
    by_cases c : p.i < u.lu
    · unfold Us.at; rw [if_pos c]; exact (g.c _ c).2
    · unfold Us.at; rw [if_neg c]; intro m hm; have hm : m < 0 := hm; omega
  have cq : ∀ j, Cl w (p.q j) := fun j => by
    by_cases c : j < m
    · obtain ⟨i, hi, h⟩ := v.q j c
      rw [h]; exact (g.c i hi).2
    · rw [v.qd j (by omega)]; intro m hm; have hm : m < 0 := hm; omega
  refine ⟨fun g' o a h => (by cases h), fun i m a h => ?_⟩
  match i, h with
  | 0, h =>
    have h : (if m = p.i ∧ p.i < p.lu then some (AV.rw 0) else none) = some a := h
    split at h
    · rename_i e
      cases h
      obtain ⟨rfl, e2⟩ := e
      have e3 : p.i < u.lu := by rw [← v.f1]; exact e2
      obtain ⟨c1, c2⟩ := g.c _ e3
      have he : p.e.v = (u.us p.i).v := by rw [v.e]; unfold Us.at; rw [if_pos e3]
      have c1 : w.cell? ⟨p.bu, p.ou + p.i, none⟩ = some p.v := by rw [v.f2, v.f3, c1, ← he]; rfl
      refine ⟨(cell_lt' c1).1, p.v, c1, ?_⟩
      simp only [vrel]
      exact ⟨rfl, by have := (g.o p.i).oneV'; rw [← he] at this; exact this⟩
    · cases h
  | 1, h =>
    obtain ⟨hm, rfl⟩ := numV_some (show numV .u16 p.la p.A m = some a from h)
    have := cu m hm
    exact ⟨(cell_lt' this).1, _, this, by simp only [vrel]; rfl⟩
  | i + 2, h =>
    obtain ⟨hm, rfl⟩ := numV_some (show numV .u16 (p.q (i + 2 - 10)).la (p.q (i + 2 - 10)).A m = some a from h)
    have := cq _ m hm
    exact ⟨(cell_lt' this).1, _, this, by simp only [vrel]⟩
theorem gl_pow1 {T : Tab} (hp : T.gv = gvP) {w : World} (ht : PowIs w) : ∀ g o a, T.gv g o = some a → (Kp.below w.heap.size).kept g ∧ ∃ v, w.cell? ⟨g, o, none⟩ = some v ∧ (@vrel T (fun _ => none) a v ∧ (T.gv g (o + 1) = none → w.cell? ⟨g, o + 1, none⟩ = none)) := by
  obtain ⟨t, f, hb⟩ := pow_cells ht
  have hlt : 0 < w.heap.size := by
    rcases Nat.lt_or_ge 0 w.heap.size with h | h
    · exact h
    · rw [Array.getElem?_eq_none h] at hb; cases hb
  have key : ∀ q, w.cell? ⟨0, q, none⟩ = ((Lib.pow10Tab.map fun z => Value.int .u64 z).toArray)[q]? := fun q => by
    unfold World.cell?
    rw [hb]
    rfl
  intro g o a hg
  rw [hp] at hg
  unfold gvP at hg
  cases h1 : Nat.beq g 0 with
  | false => rw [h1] at hg; cases hg
  | true =>
    rw [h1] at hg
    unfold powRow at hg
    cases h2 : Nat.blt o 20 with
    | false => rw [h2] at hg; cases hg
    | true =>
      rw [h2] at hg
      cases hg
      obtain rfl := Nat.eq_of_beq_eq_true h1
      have ho : o < 20 := by rw [Nat.blt_eq] at h2; exact h2
      refine ⟨hlt, .int .u64 ((10 ^ o : Nat) : Int), ?_, by simp only [vrel], fun e => ?_⟩
      · rw [key]
        simp [Lib.pow10Tab, ho]
      · rw [key]
        rw [hp] at e
        have h3 : ¬ o + 1 < 20 := fun h => by rw [gvP_at h] at e; cases e
        rw [Array.getElem?_eq_none]
        simp [Lib.pow10Tab]
        omega
def p0 (u : Us) : Pm := { ek := (u.at 0).ek, la := (u.at 0).la, fa := (u.at 0).fa, A := (u.at 0).A, ba := (u.at 0).ba, oa := (u.at 0).oa, ca := (u.at 0).ca, v := (u.at 0).v, tot := 0, W := fun _ => 0#64, cnt := 0, S := fun _ => 0, i := 0, lu := u.lu, bu := u.bu, ou := u.ou, cu := u.cu, lim := u.lim, q := fun _ => dEl, adr := fun _ => 0 }
theorem inv0 (u : Us) : Inv u (p0 u) 0 where
  f1 := rfl
  f2 := rfl
  f3 := rfl
  f4 := rfl
  f5 := rfl
  e := rfl
  mi := Nat.zero_le _
  i15 := Nat.zero_le _
  tt := Nat.zero_le _
  cn := rfl
  t0 := Nat.zero_le _
  s0 := fun h => absurd h (Nat.lt_irrefl _)
  sm := fun m h => absurd h (Nat.not_lt_zero m)
  inc := fun m k _ h => absurd h (Nat.not_lt_zero k)
  q := fun j h => absurd h (Nat.not_lt_zero j)
  qd := fun _ _ => rfl
  dif := fun i j h => absurd h (Nat.not_lt_zero i)
  a1 := fun j h => absurd h (Nat.not_lt_zero j)
  a2 := fun i j _ h => absurd h (Nat.not_lt_zero j)
  m0 := fun _ => rfl
theorem walkS {u : Us} {w : World} (ht : PowIs w) (g : UsOk u w) (hl : 0 < u.lu) : Ends w (.slice (some ⟨u.bu, u.ou, none⟩) u.lu u.cu) u.lim := by
  refine yes_calls Tryz.func3 lC_eq w ?_
  have gp := glU g (p0 u) 0 (inv0 u)
  have gg : @Gl (TG' (p0 u)) (Kp.below w.heap.size) w := ⟨gl_pow1 rfl ht, fun i m a h => by
    obtain ⟨k1, v, k2, k3⟩ := gp.2 i m a h
    refine ⟨k1, v, k2, ?_⟩
    match i, h with
    | 0, h =>
      have h : (if m = (p0 u).i ∧ (p0 u).i < (p0 u).lu then some (AV.rw 0) else none) = some a := h
      split at h
      · cases h
        simp only [vrel] at k3 ⊢; exact k3
      · cases h
    | 1, h => obtain ⟨_, rfl⟩ := numV_some h; simpa only [vrel] using k3
    | i + 2, h => obtain ⟨_, rfl⟩ := numV_some (show numV .u16 ((p0 u).q (i + 2 - 10)).la ((p0 u).q (i + 2 - 10)).A m = some a from h); simpa only [vrel] using k3⟩
  have s0 := @St.start (TG' (p0 u)) [.fo 0 15 1, .oi 30] #[.slice (some ⟨u.bu, u.ou, none⟩) u.lu u.cu, .int .i64 u.lim] Tryz.f3.ntmps w gg
    (@vrels_cons (TG' (p0 u)) _ _ _ _ _ (foRel rfl rfl rfl g.hc) (@vrels_cons (TG' (p0 u)) _ _ _ _ _ (by simp only [vrel]; rfl) (by simp [vrels]))) (show 2 ≤ Tryz.f3.ntmps by decide +kernel) (show 2 < limit by decide)
  have hb : Base (Kp.below w.heap.size) (fun _ => none) 20000 := baseUp (Base.none _) (Nat.zero_le _)
  refine firstTo_sound (T := TG' (p0 u)) (T' := TP (p0 u)) (n := 7) mixed (K := K0) (K0_ok rfl) (C := cvB0) (rl := []) (fs := fsB') (bs := bsL 0 0 0 0 0 0 0)
    hb (show 20000 ≤ 20010 by decide) rfl (by kernel_rfl) (ipG (ipE (ipE ipNil))) vpNil (fun _ => gp) (gs0 _) s0 fun a1 w1 s1 => ?_
  have s1 : St (TP (p0 u)) (Kp.below w.heap.size) w (fun _ => none) Tryz.f3.ntmps (frOf fsB') (hOf 20010 (bsL 0 0 0 0 0 0 0)) a1 w1 := s1
  rw [hL_eq] at s1
  rw [l7_eq]
  refine wp_seq (wp_seq (wp_mono (runTo_sound (fs := fsL' 0) (bs := bsL 0 0 0 0 0 0 0) (T := TP (p0 u)) (T' := TP (p0 u)) mixed hNo (C := cvI0) (ex := .normal) hb (show 20000 ≤ 20010 by decide) (rl := []) rfl (by kernel_rfl) (ipG (ipE (ipE (ipK' ipNil (e := rfl))))) vpNil (fun _ => gp) (gi00 _) s1) ?_))
  rintro x a2 w2 ⟨rfl, s2⟩
  show (Code.block 0 (.loop lL)).wp _ _ _ _
  have s2 : St (TP (p0 u)) (Kp.below w.heap.size) w (fun _ => none) Tryz.f3.ntmps (frOf (fsL' 0)) (hOf 20010 (bsL 0 0 0 0 0 0 0)) a2 w2 := s2
  rw [hL_eq] at s2
  refine wp_block (wp_mono (wp_loop_rounds 16 (loop hb g.o g.ul (fun p m v => glU g p m v) 16 (p0 u) 0 a2 w2 rfl (inv0 u) hl s2)) ?_)
  rintro x a3 w3 ⟨rfl, p, m, v, h0, s3⟩
  show (restn 8 lC).wp _ _ _ _
  have h1 := v.mi; have h2 := v.i15
  exact endE (b := decide (0 < p.lim)) (v.re g.o h0 decide_eq_true_iff) (by omega) h0 s3
/- the table that is laid -/
def nm : String := ((Rows.stringsAllRow.laid.find? fun x => x.1 == "internal/strconv.uint64pow10").map fun x => x.1).getD default
theorem laid_eq : (Rows.stringsAllRow.laid.filter fun x => x.1 == nm) = [(nm, Lib.tabData .u64 Lib.pow10Tab)] := by kernel_rfl
theorem nm_is : nm = "internal/strconv.uint64pow10" := by kernel_rfl
theorem globals0 : Tryz.prog.globalNamed nm = some 0 := by kernel_rfl
theorem tabIs {W : World} (h : laidMetH Tryz.prog Rows.stringsAllRow.laid W) : PowIs W := by
  have h1 := h.filter fun x => x.1 == nm
  rw [laid_eq] at h1
  have h2 : laidMet Tryz.prog [(nm, Lib.tabData .u64 Lib.pow10Tab)] W := h1
  show Lib.TabIs Tryz.prog W "internal/strconv.uint64pow10" .u64 Lib.pow10Tab
  rw [← nm_is]
  exact Lib.tabIs_of_head (t := 141) (e := 61) (n := 20) globals0 (by kernel_rfl) (by kernel_rfl) (by kernel_rfl) (by kernel_rfl) (by kernel_rfl) h2
/-- the law, for whatever the call is handed -/
theorem any {w : World} {n : Int} {v : Value} {H : Type} {enc : TypeId × Value → H} {base : Nat} {spare : Nat → Bool} {held : Bool} {d : DataW H} {ps : List MemPlace} (hval : Value.okWide Tryz.prog w .any 0 22 v) (h : DataW.Trod enc Tryz.prog w base spare held 22 v d ps) (hL : laidMetH Tryz.prog Rows.stringsAllRow.laid w) : Ends w v n := by
  obtain ⟨a0, len0, cap0, rfl⟩ := okWide_slice Tryz.underlying22 hval
  obtain ⟨fuel, hf⟩ := h
  rcases Deep.open_slice1 Tryz.underlying22 (by kernel_rfl) hf with ⟨h0, _⟩ | ⟨a, len, cap, m, n', V, D, Pl, h0, _, hcap, hmx, hm, _, hx⟩
  · have h1 : Value.slice a0 len0 cap0 = .slice none 0 0 := by simpa [Value.cells] using h0
    rw [h1]
    exact none_ok (tabIs hL) (zN0 n) (by simp only [vrel])
  · have h1 : Value.slice a0 len0 cap0 = .slice (some a) len cap := by simpa [Value.cells] using h0
    rw [h1] at hval ⊢
    have hs : a.spot = none := by
      simp only [Value.okWide, Tryz.underlying22, Cell.okWide, Cell.ok] at hval
      exact hval.2.2.2.1
    obtain ⟨b, o, sp⟩ := a
    simp only at hs
    subst hs
    rcases Nat.eq_zero_or_pos len with e | e
    · subst e
      exact none_ok (tabIs hL) (zE0 n) (by simp only [vrel]; exact ⟨_, _, rfl⟩)
    · have hmm : len ≤ m := by rw [hm]; split <;> omega
      obtain ⟨us, u1, u2⟩ := chooseN (n := len) (P := fun j e => e.v = V j ∧ Cl w e) fun j hj => el_of (hx j (by omega)).2
      have hl : len < 9223372036854775808 := by unfold maxLen at hmx; omega
      exact walkS (u := ⟨len, b, o, cap, us, n⟩) (tabIs hL) ⟨u1, hl, hcap, fun j hj => by
        obtain ⟨q1, q2⟩ := u2 j hj
        refine ⟨?_, q2⟩
        rw [q1, ← WideShapes.add_plain]
        exact (hx j (by have hj : j < len := hj; omega)).1⟩ e
end Go.Proofs.YtifdjfcakkdgeaaGreatDoor.sa
