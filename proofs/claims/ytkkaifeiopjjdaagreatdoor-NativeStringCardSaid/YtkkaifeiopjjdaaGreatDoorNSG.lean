/-
  The law NativeString: a text is made: the loop that writes its chars, and all of the call.
-/
import Derived.Test.YtkkaifeiopjjdaaGreatDoorNSF
set_option linter.unusedVariables false
set_option linter.unusedSimpArgs false
set_option linter.unusedSectionVars false
set_option maxRecDepth 1000000
set_option maxHeartbeats 0
namespace Go.Proofs.YtkkaifeiopjjdaaGreatDoor.ns
open Go.X Go.RowKit Go.Proofs
noncomputable abbrev KK : Hand := nq.K_top0
noncomputable def xN : Nat := 13445
noncomputable def tNo (o : Nat) : Nat := Nat.rec 13242 (fun k _ => Nat.rec 13282 (fun _ _ => 13446) k) o
noncomputable def srcT (o : Nat) : AV := Nat.rec (.fo 0 0 1) (fun k _ => Nat.rec (.fo 1 1 1) (fun _ _ => .ov xN 3 1) k) o
noncomputable abbrev map1 : Nat × Blk := (9898, .map [(.str 16 137483774941304901841256615957136564586, .int .i64 0, 0)] 1)
noncomputable def take5 (l : BL) : BL := l.take 5
noncomputable def xb (o : Nat) : BL := Nat.rec (map1 :: nq.I12423.bs.take 5) (fun k _ => Nat.rec [map1] (fun _ _ => [map1, (xN, .vec 5)]) k) o
noncomputable def preT (o : Nat) : BL := Nat.rec nq.I12423.bs (fun k _ => Nat.rec (map1 :: bL 0) (fun _ _ => (xN, .vec 5) :: map1 :: bL 1) k) o
noncomputable def tHeap (o j : Nat) : BS := (9899, 9899, .cells 5 false [] (T.ofList 0 .leaf [.ptr 6646 0, .ov 20001 j 1, .so 20002 0 (Nat.succ o) 1, .so 13256 0 1 3, .map 9898])) :: (13256, 13256, .cells 3 true [] (T.ofList 0 .leaf [.str 16 137483774941304901841256615957136564586, .nils, .int .u8 67])) :: same (xb o)
noncomputable def bsT (o j v a b : Nat) : BS := (20001, a, .vec v) :: (20002, b, .cells (Nat.succ o) true [] (T.ofList 0 .leaf (stL o))) :: tHeap o j
noncomputable abbrev ipLaw : IP := [(.fo 0 0 1, 0), (.fo 1 1 1, 1), (.oi 0, 0), (.oi 1, 1), (.oi 3, 3), (.oi 4, 4), (.oi 5, 5), (.oi 6, 6), (.oi 7, 7), (.oi 8, 8)]
noncomputable abbrev fsA (o : Nat) : List (Nat × AV) := [(0, .ptr 9899 0), (1, srcT o), (5, adO o)]
noncomputable abbrev fsA2 (o : Nat) : List (Nat × AV) := (18, .bool true) :: fsA o
noncomputable abbrev fsL (o : Nat) : List (Nat × AV) := [(0, .ptr 9899 0), (1, srcT o), (5, adO o), (29, srcT o), (30, .oi 42), (31, .oi 40)]
noncomputable abbrev cvA (a b : Nat) : Cv := ⟨20000, 20003, ofPairs [(20001, a), (20002, b)], ipLaw⟩
def HA (o a b : Nat) : Prop := ∀ p h, firstTo (RT p h).T Tryz.prog KK 3000 Tryz.f9.ntmps 3 tC (T.ofList 0 .leaf [.ptr 9899 0, srcT o]) (hIn (tNo o) (preT o)) (cvA a b) [(a, .vec (Nat.add 26 o), Nat.add 26 o), (xN, .vec 5, 5)] (fsA o) (bsT o (lw o) (Nat.add 26 o) a b) = true
noncomputable def aT (o : Nat) : Nat := Nat.rec 13257 (fun k _ => Nat.rec 13282 (fun _ _ => 13446) k) o
noncomputable def bT (o : Nat) : Nat := Nat.rec 13259 (fun k _ => Nat.rec 13284 (fun _ _ => 13448) k) o
/-- is the address there? -/
def HR_ (o : Nat) : Prop := ∀ p h, runTo (RT p h).T Tryz.prog KK 3000 Tryz.f9.ntmps tR (frOf (fsA o)) (hOf 20003 (bsT o (lw o) (Nat.add 26 o) 20001 20002)) .normal (cvA 20001 20002) [(20001, .vec (Nat.add 26 o), Nat.add 26 o), (xN, .vec 5, 5)] (fsA2 o) (bsT o (lw o) (Nat.add 26 o) 20001 20002) = true
noncomputable abbrev ipIn (o : Nat) : IP := [(.fo 0 0 1, 0), (.fo 1 1 1, 1), (.oi 0, 0), (.oi 1, 1), (.oi 3, 3), (.oi 4, 4), (.oi 5, 5), (.oi 7, 7), (.oi 8, 8), (.oi (jO o), 42), (.int .i64 0, 40), (.oi (lw o), 54)]
noncomputable abbrev cvIn (o : Nat) : Cv := ⟨20000, 20003, ofPairs [(20001, 20001), (20002, 20002)], ipIn o⟩
/-- to the loop -/
def HI (o : Nat) : Prop := ∀ p h, firstTo (RT p h).T Tryz.prog KK 3000 Tryz.f9.ntmps 2 tX (frOf (fsA2 o)) (hOf 20003 (bsT o (lw o) (Nat.add 26 o) 20001 20002)) (cvIn o) [(20001, .vec (Nat.add 23 o), 10), (xN, .vec 5, 5)] (fsL o) (bsT o 54 10 20001 20002) = true
/-- what is known within the loop -/
structure TF (p : Pm) (q : Lq) (o : Nat) : Prop where
  hn : q.n ≤ 120
  ht : q.tot ≤ 300
  hs : q.s + wd q.n ≤ q.tot
  hf : 0 ≤ q.f q.k ∧ q.f q.k < 65536
  en : q.n = oN p o
  ef : q.f = oF p o
  et : q.tot = tS p o
  es : q.s = oS p o
noncomputable abbrev rowsW (o : Nat) : List BRow := [(11, .oi 40, .oi 42, .bool true), (14, .oi 40, .int .i64 0, .bool true), (11, .oi 40, .oi (jO o), .bool true), (3, .oi 40, .int .i64 4, .oi 44), (4, .oi 40, .int .i64 4, .oi 48), (2, .oi 48, .int .i64 2, .oi 49), (2, .oi 49, .int .i64 8, .oi 50), (0, .oi 40, .int .i64 1, .oi 41), (11, .oi 47, .oi 54, .bool true), (14, .oi 47, .int .i64 0, .bool true),
  (15, .int .u64 65535, .oi 50, .oi 56), (8, .oi 55, .oi 56, .oi 57), (15, .oi 60, .oi 50, .oi 61), (5, .oi 61, .oi 56, .oi 62), (6, .oi 57, .oi 62, .oi 63)]
noncomputable def rowsP (o : Nat) : List BRow := Nat.rec [(0, .int .i64 3, .oi 44, .oi 47)] (fun k _ => Nat.rec [(1, .oi 7, .int .i64 1, .oi 45), (0, .oi 45, .int .i64 3, .oi 46), (0, .oi 46, .oi 44, .oi 47)] (fun _ _ => [(1, .oi 8, .int .i64 1, .oi 45), (0, .oi 45, .int .i64 3, .oi 46), (0, .oi 46, .oi 44, .oi 47)]) k) o
theorem rowsP_ok {p : Pm} {q : Lq} (ht : q.tot ≤ 300) (hs : q.s + wd q.n ≤ q.tot) (hk : q.k < q.n) : ∀ o, q.s = oS p o → ∀ r ∈ rowsP o, IbOk (ivL p q o) r
  | 0, es => by have es : q.s = 0 := es; have h4 := wd_k hk; exact rAdd ibNil
  | 1, es => by have es : q.s = p.s1 := es; have h4 := wd_k hk; exact rSub (rAdd (rAdd ibNil))
  | _ + 2, es => by have es : q.s = p.s2 := es; have h4 := wd_k hk; exact rSub (rAdd (rAdd ibNil))
theorem rowsW_ok {p : Pm} {q : Lq} {o : Nat} (c : TF p q o) (o3 : o < 3) (hk : q.k < q.n) : ∀ r ∈ rowsW o, IbOk (ivL p q o) r := by
  have h1 := c.hn; have h2 := c.ht; have h3 := c.hs; have h4 := wd_k hk; have h5 := c.en; have h6 := c.et
  have h7 : q.k < oN p o := by rw [← h5]; exact hk
  exact rLt (rGe (rLt (hy := congrArg some (jO_iv p q o o o3)) (rQuo (rRem (rMul (rMul (rAdd (rLt (rGe (rShl (W := BitVec.ofNat 64 65535) (rAndNot (rShl (rAnd (rOr ibNil))))))))))))))
theorem w_eq (q : Lq) : (q.at (q.k + 1)).w (q.s + 3 + q.k / 4) = (q.w (q.s + 3 + q.k / 4) &&& ~~~msk 16 (q.k % 4 * 2 * 8)) ||| ((fV q.f q.k <<< (q.k % 4 * 2 * 8)) &&& msk 16 (q.k % 4 * 2 * 8)) := by
  show wn q.s q.n q.f q.Wo (q.k + 1) (q.s + 3 + q.k / 4) = (wn q.s q.n q.f q.Wo q.k (q.s + 3 + q.k / 4) &&& _) ||| _
  have e : ∀ j, objW q.n q.f j (3 + q.k / 4) = putsTo 4 16 (fV q.f) j (q.k / 4) := fun j => by
    unfold objW
    rw [if_neg (by omega), if_pos (by omega), show 3 + q.k / 4 - 3 = q.k / 4 by omega]
  rw [Nat.add_assoc, wn_hi, wn_hi, e, e, show q.k % 4 * 2 * 8 = q.k % 4 * 16 by omega]
  show upd 4 16 (putsTo 4 16 (fV q.f) q.k) q.k (fV q.f q.k) (q.k / 4) = _
  unfold upd
  rw [if_pos rfl]
  rfl
theorem w_ne (q : Lq) (m : Nat) (h : m ≠ q.s + 3 + q.k / 4) : (q.at (q.k + 1)).w m = q.w m := by
  show wn q.s q.n q.f q.Wo (q.k + 1) m = wn q.s q.n q.f q.Wo q.k m
  by_cases c : m < q.s
  · rw [wn_lo c, wn_lo c]
  · obtain ⟨j, rfl⟩ : ∃ j, m = q.s + j := ⟨m - q.s, by omega⟩
    rw [wn_hi, wn_hi]
    unfold objW
    by_cases c2 : j = 2
    · rw [if_pos c2, if_pos c2]
    · rw [if_neg c2, if_neg c2]
      by_cases c3 : 3 ≤ j
      · rw [if_pos c3, if_pos c3]
        show upd 4 16 (putsTo 4 16 (fV q.f) q.k) q.k (fV q.f q.k) (j - 3) = _
        unfold upd
        rw [if_neg (by omega)]
      · rw [if_neg c3, if_neg c3]
theorem icW_ok {p : Pm} {q : Lq} {o : Nat} (c : TF p q o) : ∀ r ∈ ([(.i64, .oi 53, .oi 59), (.u64, .oi 59, .oi 60)] : List (IntKind × AV × AV)), IcOk' (ivL p q o) r := by
  have h1 := c.hf
  exact rConv (h := wrap64 (by omega) (by omega)) (rConv (h := u64OfInt _) icNil)
noncomputable def flW (o : Nat) : List VL := Nat.rec [⟨0, 40, 1, 0, [.oi 53]⟩] (fun k _ => Nat.rec [⟨1, 40, 1, 0, [.oi 53]⟩] (fun _ _ => []) k) o
noncomputable def vlW (o : Nat) : List VL := Nat.rec [] (fun k _ => Nat.rec [] (fun _ _ => [⟨5, 40, 1, 0, [.oi 53]⟩]) k) o
theorem flW_ok {p : Pm} {q : Lq} (hk : q.k < q.n) : ∀ o, TF p q o → ∀ r ∈ flW o, FlOk (ivL p q o) (fgL p) r
  | 0, c => by have h1 : q.n = p.la := c.en; have h2 : q.f = p.A := c.ef; exact fgN allNil (n := p.la) (e := p.A) (hy := by rw [← h2]; rfl)
  | 1, c => by have h1 : q.n = p.lb := c.en; have h2 : q.f = p.B := c.ef; exact fgN allNil (n := p.lb) (e := p.B) (hy := by rw [← h2]; rfl)
  | _ + 2, c => allNil
theorem vlW_ok {p : Pm} {q : Lq} (hk : q.k < q.n) : ∀ o, TF p q o → ∀ r ∈ vlW o, VlOk (ivL p q o) (vvL p q) r
  | 0, c => allNil
  | 1, c => allNil
  | _ + 2, c => by have h1 : q.n = p.lc := c.en; have h2 : q.f = p.C := c.ef; exact lN allNil (n := p.lc) (e := p.C) (hy := by rw [← h2]; rfl)
noncomputable abbrev RW (p : Pm) (q : Lq) (o : Nat) (c : TF p q o) (o3 : o < 3) (hk : q.k < q.n) : Rw (ivL p q o) (vvL p q) (vkL p q) (fgL p) (txL p q o) where
  vvp := vvLp p q
  ib := rowsP o ++ rowsW o
  ibok := fun r hr => (List.mem_append.1 hr).elim (rowsP_ok c.ht c.hs hk o c.es r) (rowsW_ok c o3 hk r)
  ic := [(.i64, .oi 53, .oi 59), (.u64, .oi 59, .oi 60)]
  icok := icW_ok c
  vl := ⟨10, 47, 1, 0, [.oi 55]⟩ :: vlW o
  vlok := by
    have h2 := c.ht; have h3 := c.hs; have h4 := wd_k hk
    as_aux_lemma => exact lN (vlW_ok hk o c)
  fl := flW o
  flok := flW_ok hk o c
  vs := [⟨10, 47, 1, 0, [.oi 63], 11⟩]
  vsok := by
    have h2 := c.ht; have h3 := c.hs; have h4 := wd_k hk
    as_aux_lemma => exact sN (q := q.s + 3 + q.k / 4) (e' := fun m => wI ((q.at (q.k + 1)).w m)) allNil (hy := congrArg (fun z => some (IntKind.u64, wI z)) (w_eq q).symm) (hw := fun m _ hm => congrArg wI (w_ne q m hm))
noncomputable abbrev ipW (k : Nat) : IP := [(.fo 0 0 1, 0), (.fo 1 1 1, 1), (.oi 0, 0), (.oi 1, 1), (.oi 3, 3), (.oi 4, 4), (.oi 5, 5), (.oi 7, 7), (.oi 8, 8), (.oi k, 40), (.oi 42, 42), (.oi 54, 54)]
noncomputable abbrev cvW (k : Nat) : Cv := ⟨20000, 20003, ofPairs [(20001, 20001), (20002, 20002)], ipW k⟩
def HW (o : Nat) : Prop := ∀ p q c o3 hk, runTo (RW p q o c o3 hk).T Tryz.prog Hand.none 3000 Tryz.f9.ntmps tL (frOf (fsL o)) (hOf 20003 (bsT o 54 10 20001 20002)) .normal (cvW 41) [(20001, .vec 11, 10), (xN, .vec 5, 5)] (fsL o) (bsT o 54 10 20001 20002) = true
abbrev RY (p : Pm) (q : Lq) (o : Nat) (hk : ¬ q.k < q.n) : Rw (ivL p q o) (vvL p q) (vkL p q) (fgL p) (txL p q o) where
  vvp := vvLp p q
  ib := [(11, .oi 40, .oi 42, .bool false)]
  ibok := by as_aux_lemma => exact rLt ibNil
def HY (o : Nat) : Prop := ∀ p q hk, runTo (RY p q o hk).T Tryz.prog Hand.none 3000 Tryz.f9.ntmps tL (frOf (fsL o)) (hOf 20003 (bsT o 54 10 20001 20002)) (.exit 0) (cvW 40) [(20001, .vec 10, 10), (xN, .vec 5, 5)] (fsL o) (bsT o 54 10 20001 20002) = true
noncomputable def postT (o : Nat) : BS := (nW o, 20001, .vec o) :: (nS o, 20002, .cells (Nat.succ o) true [] (T.ofList 0 .leaf (stL o))) :: (9899, 9899, .cells 5 false [] (T.ofList 0 .leaf [.ptr 6646 0, .ov (nW o) (lw o) 1, .so (nS o) 0 (Nat.succ o) 1, .so 13256 0 1 3, .map 9898])) :: (13256, 13256, .cells 3 true [] (T.ofList 0 .leaf [.str 16 137483774941304901841256615957136564586, .nils, .int .u8 67])) :: same (xb o)
noncomputable abbrev cvZ (o : Nat) : Cv := ⟨tNo o, Nat.add (tNo o) 40, ofPairs [(nW o, 20001), (nS o, 20002), (13256, 13256)], [(.fo 0 0 1, 0), (.fo 1 1 1, 1), (.oi 0, 0), (.oi 1, 1), (.oi 3, 3), (.oi 4, 4), (.oi 5, 5), (.oi 7, 7), (.oi 8, 8), (.oi 54, lw o)]⟩
/-- behind the loop -/
def HZ (o : Nat) : Prop := ∀ p q, runTo (T0 p q o) Tryz.prog Hand.none 3000 Tryz.f9.ntmps (restn 4 tC) (frOf (fsL o)) (hOf 20003 (bsT o 54 10 20001 20002)) .ret (cvZ o) [(20001, .vec 10, o), (xN, .vec 5, 5)] [(4, adO o)] (postT o) = true
end Go.Proofs.YtkkaifeiopjjdaaGreatDoor.ns
