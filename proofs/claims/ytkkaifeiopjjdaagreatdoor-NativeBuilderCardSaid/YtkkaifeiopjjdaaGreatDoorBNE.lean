/-
  The reference writes a number as its decimal numeral.
-/
import Derived.Test.YtkkaifeiopjjdaaGreatDoorBND
import Derived.Test.YtkkaifeiopjjdaaGreatDoorXN3
set_option linter.unusedVariables false
set_option linter.unusedSimpArgs false
set_option linter.unusedSectionVars false
set_option maxRecDepth 1000000
set_option maxHeartbeats 0
namespace Go.Proofs.YtkkaifeiopjjdaaGreatDoor.stx
open Go.X Go.RowKit Go.Proofs
def toI (l : List UInt8) : List Int := l.map fun b => (b.toNat : Int)
def digs (n : Int) : List Int := toI (Lib.decDigits n.natAbs)
def lead (u : Nat) : List Int := if u = 0 then [] else toI (Lib.decDigits u)
theorem lead_step (u : Nat) (h : u ≠ 0) : lead u = lead (u / 10) ++ [((48 + u % 10 : Nat) : Int)] := by
  have hd : (UInt8.ofNat (48 + u % 10)).toNat = 48 + u % 10 := by
    rw [UInt8.toNat_ofNat']
    omega
  unfold lead
  rw [if_neg h]
  by_cases h10 : u < 10
  · rw [if_pos (by omega), Lib.decDigits, dif_pos h10, List.nil_append]
    have e : u % 10 = u := by omega
    rw [e] at hd ⊢
    unfold toI
    rw [List.map_cons, List.map_nil, hd]
  · rw [if_neg (by omega), Lib.decDigits, dif_neg h10]
    unfold toI
    rw [List.map_append, List.map_cons, List.map_nil, hd]
theorem dg_is (k : Int) : dg k = ((k.natAbs % 10 : Nat) : Int) := by
  unfold dg
  obtain ⟨u, rfl | rfl⟩ := Int.eq_nat_or_neg k
  · have e : ((u : Int)).tmod 10 = ((u % 10 : Nat) : Int) := rfl
    rw [e, if_neg (by omega), Int.natAbs_natCast]
  · have e : (-(u : Int)).tmod 10 = -((u % 10 : Nat) : Int) := by
      rw [Int.neg_tmod]
      rfl
    rw [e, Int.natAbs_neg, Int.natAbs_natCast]
    split <;> omega
theorem quo_is (k : Int) : (k.tdiv 10).natAbs = k.natAbs / 10 := by
  rw [Int.natAbs_tdiv]
  rfl
structure Good (n k : Int) (i : Nat) (cs : List Int) : Prop where
  eq : lead k.natAbs ++ cs = digs n
  len : cs.length = i
  lt : k.natAbs < 10 ^ (19 - i)
  rng : Rng k
theorem Good.next {n k : Int} {i : Nat} {cs : List Int} (g : Good n k i cs) (hk : k ≠ 0) (hi : i < 19) : Good n (k.tdiv 10) (i + 1) ((48 + dg k) :: cs) := by
  refine ⟨?_, by simp [g.len], ?_, ⟨(tdiv_lo g.rng).1, (tdiv_lo g.rng).2⟩⟩
  · rw [← g.eq, quo_is, dg_is, lead_step k.natAbs (by omega), List.append_assoc]
    congr 1
  · rw [quo_is]
    have h := g.lt
    have e : 10 ^ (19 - i) = 10 * 10 ^ (19 - (i + 1)) := by
      rw [show 19 - i = (19 - (i + 1)) + 1 by omega, Nat.pow_succ, Nat.mul_comm]
    omega
section
variable {n k : Int} {cs : List Int} {B : Kp} {w0 w : World} {μ : M} {a : Act}
theorem go_all (hb : Base B μ 0) (h : Rng k) (hk : k ≠ 0) : ∀ i, i < 19 → DS i n k cs B w0 μ a w → dL.wp Tryz.prog (fun e a' w' => e = .normal ∧ DS (i + 1) n (k.tdiv 10) ((48 + dg k) :: cs) B w0 μ a' w') a w
  | 0, _, s => by
    by_cases hd : k.tmod 10 < 0
    · exact goN0 hb h hk hd s
    · exact goP0 hb h hk hd s
  | 1, _, s => by
    by_cases hd : k.tmod 10 < 0
    · exact goN1 hb h hk hd s
    · exact goP1 hb h hk hd s
  | 2, _, s => by
    by_cases hd : k.tmod 10 < 0
    · exact goN2 hb h hk hd s
    · exact goP2 hb h hk hd s
  | 3, _, s => by
    by_cases hd : k.tmod 10 < 0
    · exact goN3 hb h hk hd s
    · exact goP3 hb h hk hd s
  | 4, _, s => by
    by_cases hd : k.tmod 10 < 0
    · exact goN4 hb h hk hd s
    · exact goP4 hb h hk hd s
  | 5, _, s => by
    by_cases hd : k.tmod 10 < 0
    · exact goN5 hb h hk hd s
    · exact goP5 hb h hk hd s
  | 6, _, s => by
    by_cases hd : k.tmod 10 < 0
    · exact goN6 hb h hk hd s
    · exact goP6 hb h hk hd s
  | 7, _, s => by
    by_cases hd : k.tmod 10 < 0
    · exact goN7 hb h hk hd s
    · exact goP7 hb h hk hd s
  | 8, _, s => by
    by_cases hd : k.tmod 10 < 0
    · exact goN8 hb h hk hd s
    · exact goP8 hb h hk hd s
  | 9, _, s => by
    by_cases hd : k.tmod 10 < 0
    · exact goN9 hb h hk hd s
    · exact goP9 hb h hk hd s
  | 10, _, s => by
    by_cases hd : k.tmod 10 < 0
    · exact goN10 hb h hk hd s
    · exact goP10 hb h hk hd s
  | 11, _, s => by
    by_cases hd : k.tmod 10 < 0
    · exact goN11 hb h hk hd s
    · exact goP11 hb h hk hd s
  | 12, _, s => by
    by_cases hd : k.tmod 10 < 0
    · exact goN12 hb h hk hd s
    · exact goP12 hb h hk hd s
  | 13, _, s => by
    by_cases hd : k.tmod 10 < 0
    · exact goN13 hb h hk hd s
    · exact goP13 hb h hk hd s
  | 14, _, s => by
    by_cases hd : k.tmod 10 < 0
    · exact goN14 hb h hk hd s
    · exact goP14 hb h hk hd s
  | 15, _, s => by
    by_cases hd : k.tmod 10 < 0
    · exact goN15 hb h hk hd s
    · exact goP15 hb h hk hd s
  | 16, _, s => by
    by_cases hd : k.tmod 10 < 0
    · exact goN16 hb h hk hd s
    · exact goP16 hb h hk hd s
  | 17, _, s => by
    by_cases hd : k.tmod 10 < 0
    · exact goN17 hb h hk hd s
    · exact goP17 hb h hk hd s
  | 18, _, s => by
    by_cases hd : k.tmod 10 < 0
    · exact goN18 hb h hk hd s
    · exact goP18 hb h hk hd s
  | i + 19, h, _ => by omega
theorem out_all (hb : Base B μ 0) (hk : k = 0) : ∀ i, 1 ≤ i → i ≤ 19 → DS i n k cs B w0 μ a w → dL.wp Tryz.prog (fun e a' w' => e = .exit 0 ∧ DS i n k cs B w0 μ a' w') a w
  | 0, h, _, _ => by omega
  | 1, _, _, s => out1 hb hk s
  | 2, _, _, s => out2 hb hk s
  | 3, _, _, s => out3 hb hk s
  | 4, _, _, s => out4 hb hk s
  | 5, _, _, s => out5 hb hk s
  | 6, _, _, s => out6 hb hk s
  | 7, _, _, s => out7 hb hk s
  | 8, _, _, s => out8 hb hk s
  | 9, _, _, s => out9 hb hk s
  | 10, _, _, s => out10 hb hk s
  | 11, _, _, s => out11 hb hk s
  | 12, _, _, s => out12 hb hk s
  | 13, _, _, s => out13 hb hk s
  | 14, _, _, s => out14 hb hk s
  | 15, _, _, s => out15 hb hk s
  | 16, _, _, s => out16 hb hk s
  | 17, _, _, s => out17 hb hk s
  | 18, _, _, s => out18 hb hk s
  | 19, _, _, s => out19 hb hk s
  | i + 20, _, h, _ => by omega
theorem fin_all (hb : Base B μ 0) (hn : ¬ n < 0) : ∀ i, 1 ≤ i → i ≤ 19 → DS i n k cs B w0 μ a w → dT.wp Tryz.prog (fun e a' w' => e = .ret ∧ St (plD n k cs) B w0 μ Tryz.f16.ntmps (frOf [(2, rD i)]) (hOf 1 (bsD i)) a' w') a w
  | 0, h, _, _ => by omega
  | 1, _, _, s => fin1 hb hn s
  | 2, _, _, s => fin2 hb hn s
  | 3, _, _, s => fin3 hb hn s
  | 4, _, _, s => fin4 hb hn s
  | 5, _, _, s => fin5 hb hn s
  | 6, _, _, s => fin6 hb hn s
  | 7, _, _, s => fin7 hb hn s
  | 8, _, _, s => fin8 hb hn s
  | 9, _, _, s => fin9 hb hn s
  | 10, _, _, s => fin10 hb hn s
  | 11, _, _, s => fin11 hb hn s
  | 12, _, _, s => fin12 hb hn s
  | 13, _, _, s => fin13 hb hn s
  | 14, _, _, s => fin14 hb hn s
  | 15, _, _, s => fin15 hb hn s
  | 16, _, _, s => fin16 hb hn s
  | 17, _, _, s => fin17 hb hn s
  | 18, _, _, s => fin18 hb hn s
  | 19, _, _, s => fin19 hb hn s
  | i + 20, _, h, _ => by omega
theorem fen_all (hb : Base B μ 0) (hn : n < 0) : ∀ i, 1 ≤ i → i ≤ 19 → DS i n k cs B w0 μ a w → dT.wp Tryz.prog (fun e a' w' => e = .ret ∧ St (plD n k cs) B w0 μ Tryz.f16.ntmps (frOf [(2, .so 0 0 (i + 1) 1)]) (hOf 1 (bsN 0 i)) a' w') a w
  | 0, h, _, _ => by omega
  | 1, _, _, s => fen1 hb hn s
  | 2, _, _, s => fen2 hb hn s
  | 3, _, _, s => fen3 hb hn s
  | 4, _, _, s => fen4 hb hn s
  | 5, _, _, s => fen5 hb hn s
  | 6, _, _, s => fen6 hb hn s
  | 7, _, _, s => fen7 hb hn s
  | 8, _, _, s => fen8 hb hn s
  | 9, _, _, s => fen9 hb hn s
  | 10, _, _, s => fen10 hb hn s
  | 11, _, _, s => fen11 hb hn s
  | 12, _, _, s => fen12 hb hn s
  | 13, _, _, s => fen13 hb hn s
  | 14, _, _, s => fen14 hb hn s
  | 15, _, _, s => fen15 hb hn s
  | 16, _, _, s => fen16 hb hn s
  | 17, _, _, s => fen17 hb hn s
  | 18, _, _, s => fen18 hb hn s
  | 19, _, _, s => fen19 hb hn s
  | i + 20, _, h, _ => by omega
theorem ld_all : ∀ i, 1 ≤ i → i ≤ 19 → (hOf 1 (bsD i)).loads 0 0 i = some (nmD i)
  | 0, h, _ => by omega
  | 1, _, _ => ld1
  | 2, _, _ => ld2
  | 3, _, _ => ld3
  | 4, _, _ => ld4
  | 5, _, _ => ld5
  | 6, _, _ => ld6
  | 7, _, _ => ld7
  | 8, _, _ => ld8
  | 9, _, _ => ld9
  | 10, _, _ => ld10
  | 11, _, _ => ld11
  | 12, _, _ => ld12
  | 13, _, _ => ld13
  | 14, _, _ => ld14
  | 15, _, _ => ld15
  | 16, _, _ => ld16
  | 17, _, _ => ld17
  | 18, _, _ => ld18
  | 19, _, _ => ld19
  | i + 20, _, h => by omega
theorem le_all : ∀ i, 1 ≤ i → i ≤ 19 → (hOf 1 (bsN 0 i)).loads 0 0 (i + 1) = some (.int .u16 45 :: nmD i)
  | 0, h, _ => by omega
  | 1, _, _ => le1
  | 2, _, _ => le2
  | 3, _, _ => le3
  | 4, _, _ => le4
  | 5, _, _ => le5
  | 6, _, _ => le6
  | 7, _, _ => le7
  | 8, _, _ => le8
  | 9, _, _ => le9
  | 10, _, _ => le10
  | 11, _, _ => le11
  | 12, _, _ => le12
  | 13, _, _ => le13
  | 14, _, _ => le14
  | 15, _, _ => le15
  | 16, _, _ => le16
  | 17, _, _ => le17
  | 18, _, _ => le18
  | 19, _, _ => le19
  | i + 20, _, h => by omega
abbrev EndD (n : Int) (B : Kp) (w0 : World) (μ : M) (a : Act) (w : World) : Prop := 1 ≤ (digs n).length ∧ (digs n).length ≤ 19 ∧ DS (digs n).length n 0 (digs n) B w0 μ a w
theorem roundsD (hb : Base B μ 0) : ∀ (j i : Nat) (k : Int) (cs : List Int) (a : Act) (w : World), i + j = 20 → i ≤ 19 → (k = 0 → 1 ≤ i) → Good n k i cs → DS i n k cs B w0 μ a w → Code.rounds Tryz.prog dL (fun e a w => e = .exit 0 ∧ EndD n B w0 μ a w) j a w
  | 0, i, k, cs, a, w, h1, h2, h3, g, s => by omega
  | j + 1, i, k, cs, a, w, h1, h2, h3, g, s => by
    by_cases hk : k = 0
    · refine rounds_of (wp_mono (out_all hb hk i (h3 hk) h2 s) ?_)
      rintro e a' w' ⟨rfl, s'⟩
      subst hk
      have e1 : cs = digs n := by
        have := g.eq
        simpa [lead] using this
      have e2 : (digs n).length = i := by rw [← e1]; exact g.len
      have h4 := h3 rfl
      rw [e1] at s'
      exact ⟨rfl, by omega, by omega, by rw [e2]; exact s'⟩
    · have hi : i < 19 := by
        rcases Nat.lt_or_ge i 19 with h | h
        · exact h
        · have : i = 19 := by omega
          subst this
          have := g.lt
          simp at this
          exact absurd this hk
      refine rounds_of (wp_mono (go_all hb g.rng hk i hi s) ?_)
      rintro e a' w' ⟨rfl, s'⟩
      exact roundsD hb j (i + 1) _ _ a' w' (by omega) (by omega) (fun _ => by omega) (g.next hk hi) s'
theorem n0_ok (hn : n ≠ 0) : ∀ r ∈ ([(9, .oi 0, .int .i64 0, .bool false)] : List BRow), IbOk (ivD n k cs) r := ibCons (ibEq (a := n) (b := 0) rfl rfl (decide_eq_false hn)) ibNil
abbrev TD (n : Int) (hn : n ≠ 0) : Tab := (R1 n 0 (digs n) _ (n0_ok hn)).tab
theorem firstD (hn : n ≠ 0) : firstTo (TD n hn) Tryz.prog Hand.none 100 Tryz.f16.ntmps 3 db (T.ofList 0 .leaf [.oi 0]) H.empty (⟨0, 0, ofPairs [], [(.oi 0, 0)]⟩ : Cv) [] [(0, .oi 0), (3, .nils)] [] = true := by kernel_rfl
theorem startD (hb : Base B μ 0) (s : St (plD n n []) B w0 μ Tryz.f16.ntmps (frOf [(0, .oi 0), (3, .nils)]) (hOf 0 []) a w) : dA.wp Tryz.prog (fun e a' w' => e = .normal ∧ DS 0 n n [] B w0 μ a' w') a w :=
  runTo_sound (T := plD n n []) (T' := plD n n []) (K := Hand.none) (n := 100) mixed (@HandOk.none (plD n n []) Tryz.prog) (C := (⟨0, 0, ofPairs [], [(.oi 0, 0), (.oi 0, 1)]⟩ : Cv)) (rl := []) (ex := .normal) (vp := []) (fs := fsD 0) (bs := [])
    hb (Nat.le_refl _) rfl (by kernel_rfl) (iU (iU ipNil)) vpNil (glNone rfl rfl) (by as_aux_lemma => kernel_rfl) s
theorem good0 (hn : n ≠ 0) (h : Rng n) : Good n n 0 [] := by
  refine ⟨?_, rfl, ?_, h⟩
  · unfold lead digs
    rw [if_neg (by omega), List.append_nil]
  · have := h.lo
    have := h.hi
    show n.natAbs < 10000000000000000000
    omega
theorem loopD (hn : n ≠ 0) (h : Rng n) (hb : Base B μ 0) {v : AV} {h' : H} (hT : ∀ a w, EndD n B w0 μ a w → dT.wp Tryz.prog (@Done (TD n hn) Tryz.prog Tryz.f16 B w0 μ v h') a w)
    (s : St (TD n hn) B w0 μ Tryz.f16.ntmps (T.ofList 0 .leaf [.oi 0]) H.empty a w) : db.wp Tryz.prog (@Done (TD n hn) Tryz.prog Tryz.f16 B w0 μ v h') a w := by
  refine firstTo_sound (T := TD n hn) (T' := plD n n []) (K := Hand.none) (m := 100) (n := 3) mixed (@HandOk.none (TD n hn) Tryz.prog) (C := (⟨0, 0, ofPairs [], [(.oi 0, 0)]⟩ : Cv)) (rl := []) (vp := []) (fs := [(0, .oi 0), (3, .nils)]) (bs := [])
    hb (Nat.le_refl _) rfl (by kernel_rfl) (iU ipNil) vpNil (glNone rfl rfl) (firstD hn) s fun a1 w1 s1 => ?_
  rw [d_eq]
  refine wp_seq (wp_seq (wp_mono (startD hb s1) ?_))
  rintro e a2 w2 ⟨rfl, s2⟩
  show (Code.block 0 (.loop dL)).wp _ _ _ _
  refine wp_block (wp_mono (wp_loop_rounds (Q := fun e a w => e = .exit 0 ∧ EndD n B w0 μ a w) 20 (roundsD hb 20 0 n [] a2 w2 rfl (by decide) (fun h0 => absurd h0 hn) (good0 hn h) s2)) ?_)
  rintro e a3 w3 ⟨rfl, s3⟩
  exact hT a3 w3 s3
end
theorem resP (i : Nat) : results? Tryz.prog Tryz.f16 (frOf [(2, rD i)]) (hOf 1 (bsD i)) = some (rD i) := by kernel_rfl
theorem resN (i : Nat) : results? Tryz.prog Tryz.f16 (frOf [(2, .so 0 0 (i + 1) 1)]) (hOf 1 (bsN 0 i)) = some (.so 0 0 (i + 1) 1) := by kernel_rfl
theorem dec_callP {n : Int} (hn : n ≠ 0) (h : Rng n) (h0 : ¬ n < 0) : @CallOk (TD n hn) Tryz.prog 16 [.oi 0] H.empty (rD (digs n).length, hOf 1 (bsD (digs n).length)) := by
  refine @callOk_of Tryz.prog (TD n hn) 16 Tryz.f16 db [.oi 0] H.empty _ _ Tryz.func16 db_eq (show 1 ≤ Tryz.f16.ntmps by decide +kernel) (show 1 < limit by decide) fun B w0 μ a w hb s => ?_
  refine loopD hn h hb (fun a3 w3 s3 => ?_) s
  refine wp_mono (fin_all hb h0 _ s3.1 s3.2.1 s3.2.2) ?_
  rintro e a4 w4 ⟨rfl, s4⟩
  exact St.done (τ := TD n hn) (e := .ret) (.inr rfl) (resP _) (St.same (VRows.same _ _) s4)
theorem dec_callN {n : Int} (hn : n ≠ 0) (h : Rng n) (h0 : n < 0) : @CallOk (TD n hn) Tryz.prog 16 [.oi 0] H.empty (.so 0 0 ((digs n).length + 1) 1, hOf 1 (bsN 0 (digs n).length)) := by
  refine @callOk_of Tryz.prog (TD n hn) 16 Tryz.f16 db [.oi 0] H.empty _ _ Tryz.func16 db_eq (show 1 ≤ Tryz.f16.ntmps by decide +kernel) (show 1 < limit by decide) fun B w0 μ a w hb s => ?_
  refine loopD hn h hb (fun a3 w3 s3 => ?_) s
  refine wp_mono (fen_all hb h0 _ s3.1 s3.2.1 s3.2.2) ?_
  rintro e a4 w4 ⟨rfl, s4⟩
  exact St.done (τ := TD n hn) (e := .ret) (.inr rfl) (resN _) (St.same (VRows.same _ _) s4)
theorem dd_len : ∀ (m u : Nat), u < 10 ^ (m + 1) → (Lib.decDigits u).length ≤ m + 1
  | 0, u, h => by
    rw [Lib.decDigits, dif_pos (by simpa using h)]
    simp
  | m + 1, u, h => by
    have e : 10 ^ (m + 1 + 1) = 10 * 10 ^ (m + 1) := by rw [Nat.pow_succ, Nat.mul_comm]
    rw [Lib.decDigits]
    split
    · simp
    · have := dd_len m (u / 10) (by omega)
      simp only [List.length_append, List.length_cons, List.length_nil]
      omega
theorem dd_pos (u : Nat) : 1 ≤ (Lib.decDigits u).length := by
  rw [Lib.decDigits]
  split <;> simp
theorem dd_two {u : Nat} (h : ¬ u < 10) : 2 ≤ (Lib.decDigits u).length := by
  rw [Lib.decDigits, dif_neg h]
  have := dd_pos (u / 10)
  simp only [List.length_append, List.length_cons, List.length_nil]
  omega
theorem digs_len (n : Int) : (digs n).length = (Lib.decDigits n.natAbs).length := by simp [digs, toI]
theorem digs_hi {n : Int} (h : Rng n) : (digs n).length ≤ 19 := by
  rw [digs_len]
  have := h.lo
  have := h.hi
  exact dd_len 18 n.natAbs (by show n.natAbs < 10000000000000000000; omega)
theorem digs_lo (n : Int) : 1 ≤ (digs n).length := by
  rw [digs_len]
  exact dd_pos _
theorem digs_at (n : Int) (k : Nat) : (digs n).getD k 0 = (((Lib.decDigits n.natAbs).getD k 0).toNat : Int) := by
  unfold digs toI
  rw [List.getD_eq_getElem?_getD, List.getD_eq_getElem?_getD, List.getElem?_map]
  cases (Lib.decDigits n.natAbs)[k]? <;> rfl
theorem CnP {n : Int} (h0 : ¬ n < 0) (k : Nat) : Cn n k = (digs n).getD k 0 := by
  rw [digs_at]
  unfold Cn Lib.itoa
  rw [if_neg h0, show n.toNat = n.natAbs by omega]
theorem CnN0 {n : Int} (h0 : n < 0) : Cn n 0 = 45 := by
  unfold Cn Lib.itoa
  rw [if_pos h0]
  rfl
theorem CnN {n : Int} (h0 : n < 0) (k : Nat) : Cn n (k + 1) = (digs n).getD k 0 := by
  rw [digs_at]
  unfold Cn Lib.itoa
  rw [if_pos h0]
  rfl
theorem lenP {n : Int} (h0 : ¬ n < 0) : (Lib.itoa n).length = (digs n).length := by
  rw [digs_len]
  unfold Lib.itoa
  rw [if_neg h0, show n.toNat = n.natAbs by omega]
theorem lenN {n : Int} (h0 : n < 0) : (Lib.itoa n).length = (digs n).length + 1 := by
  rw [digs_len]
  unfold Lib.itoa
  rw [if_pos h0]
  rfl
theorem nmD_at {i k : Nat} (h : k < i) : (nmD i)[k]? = some (.oi (7 + k)) := by
  unfold nmD
  rw [List.getElem?_map, List.getElem?_range h]
  rfl
theorem ivD_at (n k : Int) (cs : List Int) (m : Nat) : ivD n k cs (7 + m) = (.u16, cs.getD m 0) := by
  rw [Nat.add_comm]
theorem gl_none {T : Tab} {w : World} (h1 : T.gv = fun _ _ => none) (h2 : T.fv = fun _ _ => none) : @Gl T (Kp.below w.heap.size) w := ⟨fun g o a h => (by rw [h1] at h; cases h), fun i m a h => (by rw [h2] at h; cases h)⟩
theorem bsD_get (i : Nat) : (hOf 1 (bsD (i + 2))).get 0 = some (rowOf (nmD (i + 2)) true) := rfl
theorem bsN_get (i : Nat) : (hOf 1 (bsN 0 i)).get 0 = some (rowOf (.int .u16 45 :: nmD i) true) := rfl
theorem dec_wide {n : Int} (h : Rng n) (h0 : n < 0 ∨ 10 ≤ n) {w : World} : Gives 16 #[.int .i64 n] w (Lib.itoa n).length (Cn n) Wide := by
  have hn : n ≠ 0 := by omega
  letI : Tab := TD n hn
  by_cases hneg : n < 0
  · rw [lenN hneg]
    refine gives_so (dec_callN hn h hneg) (bsN_get _) (le_all _ (digs_lo n) (digs_hi h)) (fun k hk => ?_) (vrels_cons (by simp only [vrel]; rfl) (by simp [vrels])) (gl_none rfl rfl)
    match k, hk with
    | 0, _ => exact ⟨.int .u16 45, rfl, by rw [CnN0 hneg]; rfl⟩
    | k + 1, hk =>
      refine ⟨.oi (7 + k), by rw [List.getElem?_cons_succ]; exact nmD_at (by omega), ?_⟩
      rw [CnN hneg]
      show some (ivD n 0 (digs n) (7 + k)) = _
      rw [ivD_at]
  · rw [lenP hneg]
    have h2 : 2 ≤ (digs n).length := by
      rw [digs_len]
      exact dd_two (by omega)
    obtain ⟨i, hi⟩ : ∃ i, (digs n).length = i + 2 := ⟨(digs n).length - 2, by omega⟩
    have hc := dec_callP hn h hneg
    have hl := ld_all _ (digs_lo n) (digs_hi h)
    rw [hi] at hc hl ⊢
    refine gives_so hc (bsD_get i) hl (fun k hk => ⟨.oi (7 + k), nmD_at hk, ?_⟩) (vrels_cons (by simp only [vrel]; rfl) (by simp [vrels])) (gl_none rfl rfl)
    rw [CnP hneg]
    show some (ivD n 0 (digs n) (7 + k)) = _
    rw [ivD_at]
theorem len_one {n : Int} (h0 : 0 ≤ n) (h1 : n < 10) : (Lib.itoa n).length = 1 := by
  rw [lenP (by omega), digs_len, Lib.decDigits, dif_pos (by omega)]
  rfl
def has1 : Option Blk → Bool
  | some (.cells n _ _ _) => Nat.ble 1 n
  | _ => false
noncomputable def oneIs (v : AV) (q : H) : Bool := match v with
  | .sl x o m c => Nat.beq x 0 && (Nat.beq o 0 && (Nat.beq m 1 && (Nat.beq c 1 && (has1 (q.get 0) && Option.rec false (fun l' => peqs l' [.int .u16 48]) (q.loads 0 0 1)))))
  | _ => false
noncomputable def okOne (r : Option (AV × H)) : Bool := Option.rec false (fun p => oneIs p.1 p.2) r
theorem has1_some {b : Option Blk} (h : has1 b = true) : ∃ n p z t, b = some (.cells n p z t) ∧ 1 ≤ n := by
  unfold has1 at h
  split at h
  · exact ⟨_, _, _, _, rfl, Nat.le_of_ble_eq_true h⟩
  · cases h
theorem okOne_some [Tab] {r : Option (AV × H)} (h : okOne r = true) : ∃ q n p z t, r = some (.sl 0 0 1 1, q) ∧ q.get 0 = some (.cells n p z t) ∧ 1 ≤ n ∧ q.loads 0 0 1 = some [.int .u16 48] := by
  cases r with
  | none => exact absurd (show false = true from h) (by decide)
  | some p =>
    obtain ⟨v, q⟩ := p
    have h' : oneIs v q = true := h
    cases v with
    | sl x o m c =>
      have h2 : (Nat.beq x 0 && (Nat.beq o 0 && (Nat.beq m 1 && (Nat.beq c 1 && (has1 (q.get 0) && @Option.rec (List AV) (fun _ => Bool) false (fun l' => peqs l' [.int .u16 48]) (q.loads 0 0 1)))))) = true := h'
      simp only [Bool.and_eq_true, nbeq_iff] at h2
      obtain ⟨rfl, rfl, rfl, rfl, h3, h4⟩ := h2
      obtain ⟨n, p, z, t, h3, h5⟩ := has1_some h3
      cases h6 : q.loads 0 0 1 with
      | none => rw [h6] at h4; exact absurd (show false = true from h4) (by decide)
      | some l' =>
        rw [h6] at h4
        have h7 : peqs l' [.int .u16 48] = true := h4
        exact ⟨q, n, p, z, t, rfl, h3, h5, by rw [h6, peqs_eq h7]⟩
    | _ => exact absurd (show false = true from h') (by decide)
theorem dec_zero_call : ∃ q n p z t l, @CallOk Tab.empty Tryz.prog 16 [.int .i64 0] H.empty (.sl 0 0 1 1, q) ∧ q.get 0 = some (.cells n p z t) ∧ 1 ≤ n ∧ q.loads 0 0 1 = some l ∧ l = [.int .u16 48] := by
  have e : okOne (@call Tab.empty Tryz.prog Hand.none 100 16 [.int .i64 0] H.empty) = true := by kernel_rfl
  obtain ⟨q, n, p, z, t, e1, e2, e3, e4⟩ := @okOne_some Tab.empty _ e
  refine ⟨q, n, p, z, t, _, ?_, e2, e3, e4, rfl⟩
  letI : Tab := Tab.empty
  exact call_sound mixed (HandOk.none) e1
theorem dec_fix {n : Int} (h0 : 0 ≤ n) (h1 : n < 10) {w : World} : Gives 16 #[.int .i64 n] w 1 (Cn n) Fix1 := by
  by_cases hn : n = 0
  · subst hn
    letI : Tab := Tab.empty
    obtain ⟨q, n, p, z, t, l, c, e1, e2, e3, rfl⟩ := dec_zero_call
    refine gives_sl c e1 e2 e3 (fun k hk => ⟨.int .u16 48, ?_, ?_⟩) (vrels_cons (by simp only [vrel]) (by simp [vrels])) (gl_none rfl rfl)
    · have : k = 0 := by omega
      subst this
      rfl
    · have : k = 0 := by omega
      subst this
      have hz : Cn 0 0 = 48 := by
        unfold Cn Lib.itoa
        rw [if_neg (by decide), show (0 : Int).toNat = 0 from rfl, Lib.decDigits_one (by decide)]
        rfl
      rw [hz]
      rfl
  · have h : Rng n := ⟨by omega, by omega⟩
    have hl := len_one h0 h1
    rw [lenP (by omega)] at hl
    letI : Tab := TD n hn
    have hc := dec_callP hn h (by omega)
    rw [hl] at hc
    refine gives_sl hc (show (hOf 1 (bsD 1)).get 0 = some (rowOf (nmD 1) false) from rfl) (Nat.le_refl _) (ld_all 1 (by decide) (by decide)) (fun k hk => ⟨.oi (7 + k), nmD_at hk, ?_⟩) (vrels_cons (by simp only [vrel]; rfl) (by simp [vrels])) (gl_none rfl rfl)
    rw [CnP (by omega)]
    show some (ivD n 0 (digs n) (7 + k)) = _
    rw [ivD_at]
end Go.Proofs.YtkkaifeiopjjdaaGreatDoor.stx
