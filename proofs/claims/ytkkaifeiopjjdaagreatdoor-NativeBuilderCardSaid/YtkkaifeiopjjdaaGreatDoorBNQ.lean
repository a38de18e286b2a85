/-
  Two rows of the same 16-bit numbers are the same, whatever their length: the law's comparison, and hands for it.
-/
import Derived.Test.YtkkaifeiopjjdaaGreatDoorBNH
import Derived.Test.YtkkaifeiopjjdaaGreatDoorXN3
set_option linter.unusedVariables false
set_option linter.unusedSimpArgs false
set_option linter.unusedSectionVars false
set_option maxRecDepth 1000000
namespace Go.Proofs.YtkkaifeiopjjdaaGreatDoor.stx
open Go.X Go.RowKit Go.Proofs
noncomputable def codeOf (f : Func) : Code := f.body.getD .skip
noncomputable def hd : Code → Code
  | .seq a _ => a
  | c => c
noncomputable def tl : Code → Code
  | .seq _ b => b
  | c => c
noncomputable def lpIn : Code → Code
  | .block _ (.loop c) => c
  | _ => .skip
noncomputable def sb : Code := codeOf Tryz.f12
theorem sb_eq : Tryz.f12.body = some sb := by kernel_rfl
noncomputable def sA : Code := hd (hd (restn 2 sb))
noncomputable def sL : Code := lpIn (tl (hd (restn 2 sb)))
noncomputable def sT : Code := tl (restn 2 sb)
theorem s_eq : restn 2 sb = .seq (.seq sA (.block 0 (.loop sL))) sT := by kernel_rfl
theorem ibNe16 {iv : Nat → IntKind × Int} {x : AV} {a : Int} (hx : denI iv x = some (.u16, a)) : IbOk iv (10, x, x, .bool false) := by
  intro op ho
  cases op <;> first | (simp [bcode] at ho; done) | skip
  exact ⟨.u16, a, .u16, a, .bool (a != a), hx, hx, rfl, by simp [outI]⟩
abbrev ivS (L k : Nat) (C : Nat → Int) : Nat → IntKind × Int
  | 0 => (.i64, (L : Int))
  | 1 => (.i64, (k : Int))
  | 2 => (.i64, ((k + 1 : Nat) : Int))
  | _ => (.u16, C k)
section
variable {b o c b' o' c' L k : Nat} {C : Nat → Int} {B : Kp} {w0 w : World} {μ : M} {a : Act}
abbrev fgS (b o c b' o' c' L : Nat) (C : Nat → Int) : Fgn where
  fb := fun i => match i with | 0 => (b, o) | _ => (b', o')
  fcap := fun i => match i with | 0 => c | _ => c'
  fv := fun i m => match i with | 0 => numV .u16 L C m | 1 => numV .u16 L C m | _ => none
abbrev plS (b o c b' o' c' L : Nat) (C : Nat → Int) (k : Nat) : Tab := (bare (ivS L k C) noV noK noVp).ftab (fgS b o c b' o' c' L C) [] (by exact fun _ h => nomatch h)
abbrev RS (L k : Nat) (C : Nat → Int) (l : List BRow) (h : ∀ r ∈ l, IbOk (ivS L k C) r) : VRows (ivS L k C) noV noK where
  vvp := noVp
  ib := l
  ibok := h
abbrev flS : List VL := [⟨0, 1, 1, 0, [.oi 3]⟩, ⟨1, 1, 1, 0, [.oi 3]⟩]
theorem flS_ok (hk : k < L) : ∀ r ∈ flS, FlOk (ivS L k C) (fgS b o c b' o' c' L C) r := by
  have key : ∀ (i : Nat), (fgS b o c b' o' c' L C).fv i = numV .u16 L C → FlOk (ivS L k C) (fgS b o c b' o' c' L C) ⟨i, 1, 1, 0, [.oi 3]⟩ := fun i hi => by
    refine flN (K := .u16) (k := k) (A := L) (e := C) rfl hi (show k * 1 + 0 + 1 ≤ L by omega) fun m x hx => ?_
    have hm : m = 0 := by
      have := (List.getElem?_eq_some_iff.1 hx).1
      simpa using this
    subst hm
    simp at hx
    subst hx
    show some (IntKind.u16, C k) = some (IntKind.u16, C (k * 1 + 0 + 0))
    rw [show k * 1 + 0 + 0 = k by omega]
  exact allCons (key 0 rfl) (allCons (key 1 rfl) (by exact fun _ h => nomatch h))
theorem r1 : ∀ r ∈ ([(10, .oi 0, .oi 0, .bool false)] : List BRow), IbOk (ivS L k C) r := ibCons (ibNe (a := (L : Int)) (b := (L : Int)) rfl rfl (decide_eq_true rfl)) ibNil
theorem r2 (hk : k < L) (hL : L < 4611686018427387904) : ∀ r ∈ ([(11, .oi 1, .oi 0, .bool true), (14, .oi 1, .int .i64 0, .bool true), (10, .oi 3, .oi 3, .bool false), (0, .oi 1, .int .i64 1, .oi 2)] : List BRow), IbOk (ivS L k C) r := by
  letI := Tab.empty
  exact ibCons (ibLt (a := (k : Int)) (b := (L : Int)) rfl rfl (decide_eq_true (by omega))) (ibCons (ibGe (a := (k : Int)) (b := 0) rfl rfl (decide_eq_true (by omega))) (ibCons (ibNe16 (a := C k) rfl) (ibCons (ibAdd (a := (k : Int)) (b := 1) (c := ((k + 1 : Nat) : Int)) rfl rfl rfl (by omega) (by omega) (by omega)) ibNil)))
theorem r3 (hk : ¬ k < L) : ∀ r ∈ ([(11, .oi 1, .oi 0, .bool false)] : List BRow), IbOk (ivS L k C) r := ibCons (ibLt (a := (k : Int)) (b := (L : Int)) rfl rfl (decide_eq_false (by omega))) ibNil
theorem fS {i m : Nat} {q : AV} (h : (fgS b o c b' o' c' L C).fv i m = some q) : ∃ k n, q = .int k n := by
  match i, h with
  | 0, h => exact ⟨_, _, (numV_some h).2⟩
  | 1, h => exact ⟨_, _, (numV_some h).2⟩
  | (i + 2), h => cases h
theorem ipF {T T' : Tab} {i j z : Nat} (h1 : T'.fb i = T.fb i) (h2 : T'.fcap i = T.fcap i) : IpOk1 T T' (.fo i j z, i) := ⟨h1, h2⟩
noncomputable abbrev fsS (l : List (Nat × AV)) : List (Nat × AV) := (0, .fo 0 0 1) :: (1, .fo 1 0 1) :: l
def SS (b o c b' o' c' L : Nat) (C : Nat → Int) (k : Nat) (B : Kp) (w0 : World) (μ : M) (a : Act) (w : World) : Prop := St (plS b o c b' o' c' L C k) B w0 μ Tryz.f12.ntmps (frOf (fsS [(5, .oi 1)])) (hOf 0 []) a w
noncomputable abbrev cvS (j : AV) : Cv := ⟨0, 0, ofPairs [], [(.fo 0 0 1, 0), (.fo 1 0 1, 1), (.oi 0, 0), (j, 1)]⟩
theorem ipS {T T' : Tab} {j : AV} (h1 : T'.fb = T.fb) (h2 : T'.fcap = T.fcap) (h3 : T.iv 0 = (.i64, (L : Int))) (h4 : T'.iv 0 = (.i64, (L : Int))) (h5 : IpOk1 T T' (j, 1)) : IpOk T T' [(.fo 0 0 1, 0), (.fo 1 0 1, 1), (.oi 0, 0), (j, 1)] :=
  ipCons (ipF (by rw [h1]) (by rw [h2])) (ipCons (ipF (by rw [h1]) (by rw [h2])) (ipCons (ipO (.i64, (L : Int)) h3 h4) (ipCons h5 ipNil)))
theorem startS (hb : Base B μ 0) (s : St (plS b o c b' o' c' L C 0) B w0 μ Tryz.f12.ntmps (frOf (fsS [])) (hOf 0 []) a w) : sA.wp Tryz.prog (fun e a' w' => e = .normal ∧ SS b o c b' o' c' L C 0 B w0 μ a' w') a w :=
  runTo_sound (T := plS b o c b' o' c' L C 0) (T' := plS b o c b' o' c' L C 0) (K := Hand.none) (n := 100) mixed (@HandOk.none (plS b o c b' o' c' L C 0) Tryz.prog) (C := cvS (.int .i64 0)) (rl := []) (ex := .normal) (vp := []) (fs := fsS [(5, .oi 1)]) (bs := [])
    hb (Nat.le_refl _) rfl (by kernel_rfl) (ipS (L := L) rfl rfl rfl rfl (ipC rfl)) vpNil (glF rfl rfl rfl fun _ _ _ h => fS h) (by as_aux_lemma => kernel_rfl) s
theorem goS (hb : Base B μ 0) (hk : k < L) (hL : L < 4611686018427387904) (s : SS b o c b' o' c' L C k B w0 μ a w) : sL.wp Tryz.prog (fun e a' w' => e = .normal ∧ SS b o c b' o' c' L C (k + 1) B w0 μ a' w') a w :=
  runTo_sound (T := (RS L k C _ (r2 hk hL)).ftab (fgS b o c b' o' c' L C) flS (flS_ok hk)) (T' := plS b o c b' o' c' L C (k + 1)) (K := Hand.none) (n := 100) mixed (@HandOk.none ((RS L k C _ (r2 hk hL)).ftab (fgS b o c b' o' c' L C) flS (flS_ok hk)) Tryz.prog) (C := cvS (.oi 2)) (rl := []) (ex := .normal) (vp := []) (fs := fsS [(5, .oi 1)]) (bs := [])
    hb (Nat.le_refl _) rfl (by kernel_rfl) (ipS (L := L) rfl rfl rfl rfl (ipO (.i64, ((k + 1 : Nat) : Int)) rfl rfl)) vpNil (glF rfl rfl rfl fun _ _ _ h => fS h) (by as_aux_lemma => kernel_rfl) (St.same (VRows.fsame _ _ _ _ _ _ _) s)
theorem outS (hb : Base B μ 0) (hk : ¬ k < L) (s : SS b o c b' o' c' L C k B w0 μ a w) : sL.wp Tryz.prog (fun e a' w' => e = .exit 0 ∧ SS b o c b' o' c' L C k B w0 μ a' w') a w :=
  runTo_sound (T := (RS L k C _ (r3 hk)).ftab (fgS b o c b' o' c' L C) [] (by exact fun _ h => nomatch h)) (T' := plS b o c b' o' c' L C k) (K := Hand.none) (n := 100) mixed (@HandOk.none ((RS L k C _ (r3 hk)).ftab (fgS b o c b' o' c' L C) [] (by exact fun _ h => nomatch h)) Tryz.prog) (C := cvS (.oi 1)) (rl := []) (ex := .exit 0) (vp := []) (fs := fsS [(5, .oi 1)]) (bs := [])
    hb (Nat.le_refl _) rfl (by kernel_rfl) (ipS (L := L) rfl rfl rfl rfl (ipO (.i64, (k : Int)) rfl rfl)) vpNil (glF rfl rfl rfl fun _ _ _ h => fS h) (by as_aux_lemma => kernel_rfl) (St.same (VRows.fsame _ _ _ _ _ _ _) s)
theorem roundsS (hb : Base B μ 0) (hL : L < 4611686018427387904) : ∀ (j k : Nat) (a : Act) (w : World), k + j = L + 1 → k ≤ L → SS b o c b' o' c' L C k B w0 μ a w → Code.rounds Tryz.prog sL (fun e a w => e = .exit 0 ∧ SS b o c b' o' c' L C L B w0 μ a w) j a w
  | 0, k, a, w, h1, h2, s => by omega
  | j + 1, k, a, w, h1, h2, s => by
    by_cases hk : k < L
    · refine rounds_of (wp_mono (goS hb hk hL s) ?_)
      rintro e a' w' ⟨rfl, s'⟩
      exact roundsS hb hL j (k + 1) a' w' (by omega) (by omega) s'
    · have hkL : k = L := by omega
      refine rounds_of (wp_mono (outS hb hk s) ?_)
      rintro e a' w' ⟨rfl, s'⟩
      rw [hkL] at s'
      exact ⟨rfl, s'⟩
abbrev tS (b o c b' o' c' L : Nat) (C : Nat → Int) : Tab := (RS L 0 C _ r1).ftab (fgS b o c b' o' c' L C) [] (by exact fun _ h => nomatch h)
theorem endS (hb : Base B μ 0) (s : SS b o c b' o' c' L C k B w0 μ a w) : sT.wp Tryz.prog (fun e a' w' => e = .ret ∧ St (tS b o c b' o' c' L C) B w0 μ Tryz.f12.ntmps (frOf [(4, .bool true)]) (hOf 0 []) a' w') a w :=
  runTo_sound (T := plS b o c b' o' c' L C k) (T' := tS b o c b' o' c' L C) (K := Hand.none) (n := 100) mixed (@HandOk.none (plS b o c b' o' c' L C k) Tryz.prog) (C := (⟨0, 0, ofPairs [], []⟩ : Cv)) (rl := []) (ex := .ret) (vp := []) (fs := [(4, .bool true)]) (bs := [])
    hb (Nat.le_refl _) rfl (by kernel_rfl) ipNil vpNil (glF rfl rfl rfl fun _ _ _ h => fS h) (by as_aux_lemma => kernel_rfl) s
theorem first_chk : firstTo (tS b o c b' o' c' L C) Tryz.prog Hand.none 100 Tryz.f12.ntmps 2 sb (T.ofList 0 .leaf [.fo 0 0 1, .fo 1 0 1]) H.empty (cvS (.int .i64 0)) [] (fsS []) [] = true := by kernel_rfl
theorem same_call (hL : L < 4611686018427387904) : @CallOk (tS b o c b' o' c' L C) Tryz.prog 12 [.fo 0 0 1, .fo 1 0 1] H.empty (.bool true, hOf 0 []) := by
  refine @callOk_of Tryz.prog (tS b o c b' o' c' L C) 12 Tryz.f12 sb [.fo 0 0 1, .fo 1 0 1] H.empty (hOf 0 []) (.bool true) Tryz.func12 sb_eq (show 2 ≤ Tryz.f12.ntmps by decide +kernel) (show 2 < limit by decide) fun B w0 μ a w hb s => ?_
  refine firstTo_sound (T := tS b o c b' o' c' L C) (T' := plS b o c b' o' c' L C 0) (K := Hand.none) (m := 100) (n := 2) mixed (@HandOk.none (tS b o c b' o' c' L C) Tryz.prog) (C := cvS (.int .i64 0)) (rl := []) (vp := []) (fs := fsS []) (bs := [])
    hb (Nat.le_refl _) rfl (by kernel_rfl) (ipS (L := L) rfl rfl rfl rfl (ipC rfl)) vpNil (glF rfl rfl rfl fun _ _ _ h => fS h) first_chk s fun a1 w1 s1 => ?_
  rw [s_eq]
  refine wp_seq (wp_seq (wp_mono (startS hb s1) ?_))
  rintro e a2 w2 ⟨rfl, s2⟩
  show (Code.block 0 (.loop sL)).wp _ _ _ _
  refine wp_block (wp_mono (wp_loop_rounds (Q := fun e a w => e = .exit 0 ∧ SS b o c b' o' c' L C L B w0 μ a w) (L + 1) (roundsS hb hL (L + 1) 0 a2 w2 (by omega) (Nat.zero_le _) s2)) ?_)
  rintro e a3 w3 ⟨rfl, s3⟩
  show sT.wp _ _ _ _
  refine wp_mono (endS hb s3) ?_
  rintro e a4 w4 ⟨rfl, s4⟩
  exact St.done (τ := tS b o c b' o' c' L C) (e := .ret) (.inr rfl) (by kernel_rfl) s4
/-- two rows in the world -/
theorem same_rows (hL : L < 4611686018427387904) (hc : L ≤ c) (hc' : L ≤ c') (h1 : ∀ k, k < L → w.cell? ⟨b, o + k, none⟩ = some (.int .u16 (C k))) (h2 : ∀ k, k < L → w.cell? ⟨b', o' + k, none⟩ = some (.int .u16 (C k))) :
    Calls Tryz.prog 12 #[.slice (some ⟨b, o, none⟩) L c, .slice (some ⟨b', o', none⟩) L c'] w fun e w' => e = .returned (.bool true) ∧ Below w.heap.size w w' := by
  letI : Tab := tS b o c b' o' c' L C
  refine CallOk.yes (same_call hL) (vrels_cons ?_ (vrels_cons ?_ (by simp [vrels]))) w ⟨fun g o a h => (by cases h), fun i m a h => ?_⟩
  · simp only [vrel]
    exact ⟨⟨rfl, Int.natCast_nonneg _⟩, hc, rfl⟩
  · simp only [vrel]
    exact ⟨⟨rfl, Int.natCast_nonneg _⟩, hc', rfl⟩
  · match i, h with
    | 0, h =>
      obtain ⟨hm, rfl⟩ := numV_some h
      have hcm := h1 m hm
      exact ⟨World.block_lt_of_cell? _ _ hcm, _, hcm, by simp only [vrel]⟩
    | 1, h =>
      obtain ⟨hm, rfl⟩ := numV_some h
      have hcm := h2 m hm
      exact ⟨World.block_lt_of_cell? _ _ hcm, _, hcm, by simp only [vrel]⟩
    | (i + 2), h => cases h
end
/- hands -/
def isVec (i : Nat) : Option Blk → Bool
  | some (.vec k) => Nat.beq k i
  | _ => false
noncomputable def vecSame (i j : Nat) : Hand := fun f args h => ifb (Nat.beq 12 f) (match args with
  | [.ov x j1 _, .ov y j2 _] => ifb (Nat.beq j1 j && (Nat.beq j2 j && (isVec i (h.get x) && isVec i (h.get y)))) (some (.bool true, h))
  | _ => none)
theorem isVec_some {i : Nat} {b : Option Blk} (h : isVec i b = true) : b = some (.vec i) := by
  unfold isVec at h
  split at h
  · rw [Nat.eq_of_beq_eq_true h]
  · cases h
theorem vecSame_ok [Tab] {i j L : Nat} {C : Nat → Int} (hj : Tab.iv j = (.i64, (L : Int))) (hv : Tab.vv i = numV .u16 L C) (hL : L < 4611686018427387904) : HandOk Tryz.prog (vecSame i j) := by
  intro f args h p e
  unfold vecSame at e
  obtain ⟨h1, e⟩ := ifb_some e
  have h1 := nbeq_iff.1 h1
  subst h1
  split at e
  · rename_i x j1 z1 y j2 z2 e2
    obtain ⟨h2, e3⟩ := ifb_some e2
    cases e3
    simp only [Bool.and_eq_true, nbeq_iff] at h2
    obtain ⟨rfl, rfl, h3, h4⟩ := h2
    have h3 := isVec_some h3
    have h4 := isVec_some h4
    intro B w0 μ w args' r hva
    obtain ⟨v1, l1, e1, g1, v2, l2, e2, g2, e3⟩ := hva
    have e3' : l2 = [] := e3
    subst e3' e2
    simp only [vrel] at g1 g2
    obtain ⟨_, la, c, k1, k2, k3, rfl⟩ := g1
    obtain ⟨_, lb, c', k4, k5, k6, rfl⟩ := g2
    have eL : (Tab.iv j2).2.toNat = L := by rw [hj]; simp
    have key : ∀ (x : Nat) (l : X.Loc), h.get x = some (.vec i) → μ x = some l → ∀ k, k < L → w.cell? ⟨l.block, l.base + k, none⟩ = some (.int .u16 (C k)) := by
      intro x l hx hl k hk
      obtain ⟨l', q1, _, _, q4⟩ := r.blk x _ hx
      rw [hl] at q1; cases q1
      obtain ⟨arr, el, fz, m1, m2, m3, m4, m5⟩ := q4
      obtain ⟨v, n1, n2⟩ := m5 k (.int .u16 (C k)) (by rw [hv]; exact numV_lt hk)
      simp only [vrel] at n2
      rw [← n2]
      simpa [World.cell?, m1] using n1
    have ea : args' = #[.slice (some ⟨la.block, la.base, none⟩) L c, .slice (some ⟨lb.block, lb.base, none⟩) L c'] := by
      cases args' with
      | mk l => rw [eL] at e1; rw [← e1]
    subst ea
    refine (same_rows hL (by rw [← eL]; exact k2) (by rw [← eL]; exact k5) (key x la h3 k1) (key y lb h4 k4)).mono ?_
    rintro e w' ⟨rfl, hb⟩
    exact ⟨_, μ, rfl, Ext.refl _, by simp only [vrel], r.grow hb⟩
  · cases e
noncomputable def rowAV (v : AV) : Option (Nat × Nat × Nat) := match v with
  | .sl x o n c => ifb (Nat.ble n c) (some (x, o, n))
  | .so x o n _ => some (x, o, n)
  | _ => none
noncomputable def isOi (lo : Nat) (l : List AV) : Bool := List.rec (motive := fun _ => Bool) true (fun v _ ih => match v with
  | .oi i => Bool.rec false ih (Nat.ble lo i)
  | _ => false) l
noncomputable def rowSame (lo : Nat) : Hand := fun f args h => ifb (Nat.beq 12 f) (match args with
  | [u, v] => ob (rowAV u) fun p => ob (rowAV v) fun q => ob (h.loads p.1 p.2.1 p.2.2) fun l => ob (h.loads q.1 q.2.1 q.2.2) fun m => ifb (Nat.blt p.2.2 limit && (peqs l m && isOi lo l)) (some (.bool true, h))
  | _ => none)
theorem isOi_mem {lo : Nat} : ∀ {l : List AV}, isOi lo l = true → ∀ a ∈ l, ∃ i, a = .oi i ∧ lo ≤ i
  | [], _, a, h => by simp at h
  | v :: l, e, a, h => by
    cases v with
    | oi i =>
      have e' : (@Bool.rec (fun _ => Bool) false (isOi lo l) (Nat.ble lo i)) = true := e
      cases h1 : Nat.ble lo i with
      | false => rw [h1] at e'; cases e'
      | true =>
        rw [h1] at e'
        simp only [List.mem_cons] at h
        rcases h with rfl | h
        · exact ⟨i, rfl, Nat.le_of_ble_eq_true h1⟩
        · exact isOi_mem e' a h
    | _ => exact absurd (show false = true from e) (by decide)
theorem rowAV_some [Tab] {u : AV} {x o n : Nat} (e : rowAV u = some (x, o, n)) {μ : M} {v : Value} (h : vrel μ u v) : ∃ l c, μ x = some l ∧ v = .slice (some ⟨l.block, l.base + o, none⟩) n c ∧ n ≤ c := by
  unfold rowAV at e
  split at e
  · obtain ⟨h0, e⟩ := ifb_some e
    cases e
    simp only [vrel] at h
    obtain ⟨l, h1, rfl⟩ := h
    exact ⟨l, _, h1, rfl, Nat.le_of_ble_eq_true h0⟩
  · cases e
    simp only [vrel] at h
    obtain ⟨l, c, h1, h2, h3, rfl⟩ := h
    exact ⟨l, c, h1, rfl, h2⟩
  · cases e
theorem rowSame_ok [Tab] {lo : Nat} (hlo : ∀ i, lo ≤ i → (Tab.iv i).1 = .u16) : HandOk Tryz.prog (rowSame lo) := by
  intro f args h p e
  unfold rowSame at e
  obtain ⟨h1, e⟩ := ifb_some e
  have h1 := nbeq_iff.1 h1
  subst h1
  split at e
  · rename_i u v _hx
    obtain ⟨⟨x, o, n⟩, hu, e⟩ := ob_some e
    obtain ⟨⟨y, o', n'⟩, hv, e⟩ := ob_some e
    obtain ⟨l, hl, e⟩ := ob_some e
    obtain ⟨m, hm, e⟩ := ob_some e
    obtain ⟨h2, e⟩ := ifb_some e
    cases e
    simp only [Bool.and_eq_true] at h2
    have h3 := peqs_eq h2.2.1
    subst h3
    have h4 := isOi_mem h2.2.2
    have hn0 : n < 1000000 := blt_iff.1 h2.1
    intro B w0 μ w args' r hva
    obtain ⟨v1, l1, e1, g1, v2, l2, e2, g2, e3⟩ := hva
    have e3' : l2 = [] := e3
    subst e3' e2
    obtain ⟨la, c, k1, rfl, k2⟩ := rowAV_some hu g1
    obtain ⟨lb, c', k4, rfl, k5⟩ := rowAV_some hv g2
    obtain ⟨vs, q1, q2, q3⟩ := r.loads k1 n o l hl
    obtain ⟨vs', q4, q5, q6⟩ := r.loads k4 n' o' l hm
    have hn : n = n' := by rw [← q2, vrels_length q1, ← q5, vrels_length q4]
    subst hn
    have hvs : vs' = vs := by
      apply List.ext_getElem?
      intro k
      by_cases hk : k < n
      · have hl2 : k < l.length := by rw [← vrels_length q1, q2]; exact hk
        have e1 : l[k]? = some l[k] := List.getElem?_eq_getElem hl2
        obtain ⟨y1, y2, y3⟩ := vrels_get q1 e1
        obtain ⟨z1, z2, z3⟩ := vrels_get q4 e1
        obtain ⟨i, hi, _⟩ := h4 _ (List.getElem_mem hl2)
        rw [hi] at y3 z3
        simp only [vrel] at y3 z3
        rw [y2, z2, y3, z3]
      · rw [List.getElem?_eq_none (by omega), List.getElem?_eq_none (by omega)]
    subst hvs
    let C : Nat → Int := fun k => match l[k]? with
      | some (.oi i) => (Tab.iv i).2
      | _ => 0
    have key : ∀ k, k < n → vs'[k]? = some (.int .u16 (C k)) := by
      intro k hk
      have hl2 : k < l.length := by rw [← vrels_length q1, q2]; exact hk
      have e1 : l[k]? = some l[k] := List.getElem?_eq_getElem hl2
      obtain ⟨y1, y2, y3⟩ := vrels_get q1 e1
      obtain ⟨i, hi, h5⟩ := h4 _ (List.getElem_mem hl2)
      have hC : C k = (Tab.iv i).2 := by
        show (match l[k]? with
          | some (.oi i) => (Tab.iv i).2
          | _ => 0) = _
        rw [e1, hi]
      rw [hi] at y3
      simp only [vrel] at y3
      rw [y2, y3, hC, hlo i h5]
    have hn : n < 4611686018427387904 := by omega
    have ea : args' = #[.slice (some ⟨la.block, la.base + o, none⟩) n c, .slice (some ⟨lb.block, lb.base + o', none⟩) n c'] := by
      cases args' with
      | mk l => rw [← e1]
    subst ea
    refine (same_rows hn k2 k5 (fun k hk => by rw [q3 k hk]; exact key k hk) (fun k hk => by rw [q6 k hk]; exact key k hk)).mono ?_
    rintro e w' ⟨rfl, hb⟩
    exact ⟨_, μ, rfl, Ext.refl _, by simp only [vrel], r.grow hb⟩
  · cases e
end Go.Proofs.YtkkaifeiopjjdaaGreatDoor.stx
