/-
  The law StringsAll: a round, the loop.
-/
import Derived.Test.YtifdjfcakkdgeaaGreatDoorSAN
import Derived.Test.YtifdjfcakkdgeaaGreatDoorSAR
import Derived.Test.YtifdjfcakkdgeaaGreatDoorSAR2
set_option linter.unusedVariables false
set_option linter.unusedSimpArgs false
set_option linter.unusedSectionVars false
set_option maxRecDepth 1000000
set_option maxHeartbeats 0
namespace Go.Proofs.YtifdjfcakkdgeaaGreatDoor.sa
open Go.X Go.RowKit Go.Proofs
theorem hL_eq : ∀ (m a b c d e f : Nat), hOf 20010 (bsL m a b c d e f) = hL m
  | 0, _, _, _, _, _, _ => rfl
  | _ + 1, _, _, _, _, _, _ => rfl
def Sa (p : Pm) (m : Nat) (B : Kp) (w0 : World) (μ : M) (a : Act) (w : World) : Prop := St (TP p) B w0 μ Tryz.f3.ntmps (frOf (fsL' m)) (hL m) a w
/-- the next round's record -/
def Pm.nx (p : Pm) (n : El) (new : Bool) (m : Nat) : Pm := { ek := n.ek, la := n.la, fa := n.fa, A := n.A, ba := n.ba, oa := n.oa, ca := n.ca, v := n.v, tot := p.t1, W := p.w p.la, cnt := p.cnt + 1, S := p.S1, i := p.i + 1, lu := p.lu, bu := p.bu, ou := p.ou, cu := p.cu, lim := p.lim, q := fun j => if new = true ∧ j = m then p.e else p.q j, adr := fun j => if new = true ∧ j = m then p.tot + 1 else p.adr j }
theorem ipApp {T T' : Tab} {a b : IP} (h1 : IpOk T T' a) (h2 : IpOk T T' b) : IpOk T T' (a ++ b) := fun r hr => (List.mem_append.1 hr).elim (h1 r) (h2 r)
theorem ipM_ok {p p' : Pm} {T T' : Tab} (h1 : T.iv = ivP p 0) (h2 : T'.iv = ivP p' 0) (h3 : T.str = stP p) (h4 : T'.str = stP p') (h5 : T.rv = rvP p) (h6 : T'.rv = rvP p') : ∀ m, m ≤ 15 → (∀ j, j < m → p'.adr j = p.adr j ∧ p'.q j = p.q j) → IpOk T T' (ipM m)
  | 0, _, _ => ipNil
  | m + 1, hm, h => by
    obtain ⟨a1, a2⟩ := h m (Nat.lt_succ_self m)
    refine ipCons ?_ (ipCons ?_ (ipCons ?_ (ipM_ok h1 h2 h3 h4 h5 h6 m (by omega) fun j hj => h j (by omega))))
    · show denI T.iv (.oi (Nat.add 200 m)) = some (T'.iv (Nat.add 200 m))
      show some (T.iv (Nat.add 200 m)) = _
      rw [h1, h2, iv200, iv200, a1]
    · show T'.str m = T.str m
      rw [h3, h4]
      show (if m = 99 then keyE p'.e else keyE (p'.q m)) = if m = 99 then keyE p.e else keyE (p.q m)
      rw [if_neg (by omega), if_neg (by omega), a2]
    · show T'.rv (300 + m) = T.rv (300 + m)
      rw [h5, h6]
      show (if 300 + m = 0 then p'.v else if 300 + m = 1 then p'.e.cv else (p'.q (300 + m - 300)).cv) = if 300 + m = 0 then p.v else if 300 + m = 1 then p.e.cv else (p.q (300 + m - 300)).cv
      rw [if_neg (by omega), if_neg (by omega), if_neg (by omega), if_neg (by omega), Nat.add_sub_cancel_left, a2]
section
variable {p : Pm} {m k : Nat} {s : Bool} {n : El} {B : Kp} {w0 : World} {μ : M} {a : Act} {w : World}
theorem nx_adr {new : Bool} {j : Nat} (h : ¬ (new = true ∧ j = m)) : (p.nx n new m).adr j = p.adr j := by
  show (if new = true ∧ j = m then p.tot + 1 else p.adr j) = _
  rw [if_neg h]
theorem nx_q {new : Bool} {j : Nat} (h : ¬ (new = true ∧ j = m)) : (p.nx n new m).q j = p.q j := by
  show (if new = true ∧ j = m then p.e else p.q j) = _
  rw [if_neg h]
theorem rlO_ok : okRn (cvO m) (rlO m) = true := by kernel_rfl
theorem rlN_ok : okRn (cvN m) (rlN m) = true := by kernel_rfl
theorem rlX_ok : okRn (cvX' m) rlX = true := by kernel_rfl
theorem stepO (hb : Base B μ 20000) (h : Rd p m k s) (hm : m < 15) (hk : k < m) (gl : @Gl (TP (p.nx n false m)) B w0) (st : Sa p m B w0 μ a w) : lL.wp Tryz.prog (fun e a' w' => e = .normal ∧ Sa (p.nx n false m) m B w0 μ a' w') a w := by
  have q : lL.wp Tryz.prog (fun e a' w' => e = .normal ∧ St (TP (p.nx n false m)) B w0 μ Tryz.f3.ntmps (frOf (fsL' m)) (hOf 20010 (bsL m 20011 20012 20003 20004 20005 20006)) a' w') a w := runTo_sound (T := Pt p (RL p m k s h)) (T' := TP (p.nx n false m)) mixed (K := KL m k s) (KL_ok h (Pt.same _ _)) (C := cvO m) (ex := .normal) hb (show 20000 ≤ 20010 by decide) (rl := rlO m) rfl rlO_ok
    (ipApp (ipG (ipE (ipE (ipE (ipE (ipE ipNil)))))) (ipM_ok rfl rfl rfl rfl rfl rfl m (by omega) fun j hj => ⟨nx_adr (by simp), nx_q (by simp)⟩))
    (vpNum (n := p.t1) (e := fun m => wI (p.w p.la m)) (e' := fun m => wI (p.w p.la m)) (vpNum (n := p.cnt + 1) (e := p.S1) (e' := p.S1) vpNil)) (fun _ => gl) (goM m hm k hk s p h) (St.same (Pt.same _ _) st)
  rw [hL_eq] at q
  exact q
theorem stepN (hb : Base B μ 20000) (h : Rd p m m s) (hm : m < 15) (gl : @Gl (TP (p.nx n true m)) B w0) (st : Sa p m B w0 μ a w) : lL.wp Tryz.prog (fun e a' w' => e = .normal ∧ Sa (p.nx n true m) (m + 1) B w0 μ a' w') a w := by
  have q : lL.wp Tryz.prog (fun e a' w' => e = .normal ∧ St (TP (p.nx n true m)) B w0 μ Tryz.f3.ntmps (frOf (fsL' (m + 1))) (hOf 20010 (bsL (m + 1) 20011 20012 (hN (zOf m)) 20061 20063 20065)) a' w') a w := runTo_sound (T := Pt p (RL p m m s h)) (T' := TP (p.nx n true m)) mixed (K := KL m m s) (KL_ok h (Pt.same _ _)) (C := cvN m) (ex := .normal) hb (show 20000 ≤ 20010 by decide) (rl := rlN m) rfl rlN_ok
    (ipApp (ipG (ipE (ipE (ipE (ipE (ipE ipNil)))))) (ipApp (ipCons (by
        show some (ivP p 0 4) = some (ivP (p.nx n true m) 0 (Nat.add 200 m))
        rw [iv200]
        show some (IntKind.i64, ((p.tot + 1 : Nat) : Int)) = some (IntKind.i64, ((if true = true ∧ m = m then p.tot + 1 else p.adr m : Nat) : Int))
        rw [if_pos ⟨rfl, rfl⟩]) (ipCons (by
        show (if m = 99 then keyE (p.nx n true m).e else keyE (if true = true ∧ m = m then p.e else p.q m)) = keyE p.e
        rw [if_neg (by omega), if_pos ⟨rfl, rfl⟩]) (ipCons (by
        show (if 300 + m = 0 then _ else if 300 + m = 1 then _ else ((p.nx n true m).q (300 + m - 300)).cv) = p.e.cv
        rw [if_neg (by omega), if_neg (by omega), Nat.add_sub_cancel_left]
        show (if true = true ∧ m = m then p.e else p.q m).cv = _
        rw [if_pos ⟨rfl, rfl⟩]) ipNil))) (ipM_ok rfl rfl rfl rfl rfl rfl m (by omega) fun j hj => ⟨nx_adr (by omega), nx_q (by omega)⟩)))
    (vpNum (n := p.t1) (e := fun m => wI (p.w p.la m)) (e' := fun m => wI (p.w p.la m)) (vpNum (n := p.cnt + 1) (e := p.S1) (e' := p.S1) vpNil)) (fun _ => gl) (gnM m hm s p h) (St.same (Pt.same _ _) st)
  rw [hL_eq] at q
  exact q
theorem vpId {T : Tab} {C : Cv} (h1 : T.vv = vvP p 0 := by exact rfl) (h3 : T.vk = vkP p 0 := by exact rfl) : VpOk T (TP p) C [(20001, .vec 0, 0), (20002, .vec 1, 1)] :=
  vpNum (K := .u64) (n := p.tot) (e := fun m => wI (p.W m)) (e' := fun m => wI (p.W m)) (vpNum (K := .i64) (n := p.cnt) (e := p.S) (e' := p.S) vpNil (by rw [h1]; rfl) rfl (by rw [h3]; rfl) rfl (fun _ _ => rfl)) (by rw [h1]; rfl) rfl (by rw [h3]; rfl) rfl (fun _ _ => rfl)
theorem exitA (hb : Base B μ 20000) (h : ¬ p.i < p.lu) (hm : m < 16) (h0 : 0 < m) (st : Sa p m B w0 μ a w) : lL.wp Tryz.prog (fun e a' w' => e = .exit 0 ∧ Sa p m B w0 μ a' w') a w := by
  have q : lL.wp Tryz.prog (fun e a' w' => e = .exit 0 ∧ St (TP p) B w0 μ Tryz.f3.ntmps (frOf (fsL' m)) (hOf 20010 (bsL m 20001 20002 20003 20004 20005 20006)) a' w') a w := runTo_sound (T := Pt p (RXa p h)) (T' := TP p) mixed hNo (C := cvX' m) (ex := .exit 0) hb (show 20000 ≤ 20010 by decide) (rl := rlX) rfl rlX_ok
    (ipApp (ipG (ipE (ipE (ipE (ipE (ipE ipNil)))))) (ipM_ok rfl rfl rfl rfl rfl rfl m (by omega) fun j hj => ⟨rfl, rfl⟩)) (vpId (p := p)) (glL (p := p)) (gxa m hm h0 p h) (St.same (Pt.same _ _) st)
  rw [hL_eq] at q
  exact q
theorem exitB (hb : Base B μ 20000) (h : p.i < p.lu) (h2 : p.i = 15) (hm : m < 16) (h0 : 0 < m) (st : Sa p m B w0 μ a w) : lL.wp Tryz.prog (fun e a' w' => e = .exit 0 ∧ Sa p m B w0 μ a' w') a w := by
  have q : lL.wp Tryz.prog (fun e a' w' => e = .exit 0 ∧ St (TP p) B w0 μ Tryz.f3.ntmps (frOf (fsL' m)) (hOf 20010 (bsL m 20001 20002 20003 20004 20005 20006)) a' w') a w := runTo_sound (T := Pt p (RXb p h h2)) (T' := TP p) mixed hNo (C := cvX' m) (ex := .exit 0) hb (show 20000 ≤ 20010 by decide) (rl := rlX) rfl rlX_ok
    (ipApp (ipG (ipE (ipE (ipE (ipE (ipE ipNil)))))) (ipM_ok rfl rfl rfl rfl rfl rfl m (by omega) fun j hj => ⟨rfl, rfl⟩)) (vpId (p := p)) (glL (p := p)) (gxb m hm h0 p h h2) (St.same (Pt.same _ _) st)
  rw [hL_eq] at q
  exact q
theorem endE {b : Bool} (h : Re p m b) (hm : m < 16) (h0 : 0 < m) (st : Sa p m B w0 μ a w) : (restn 8 lC).wp Tryz.prog (Yes Tryz.prog Tryz.f3 B w0) a w :=
  runTrue_sound (T := Pt p (RE' p m b h)) mixed (KE_ok h.ar (Pt.same _ _)) (ge m hm h0 b p h) (St.same (Pt.same _ _) st)
end
/- the invariant -/
structure Us where
  lu : Nat
  bu : Nat
  ou : Nat
  cu : Nat
  us : Nat → El
  lim : Int
def dEl : El := ⟨2, 0, 0, fun _ => 0, 0, 0, 0, .slice none 0 0⟩
theorem dEl_ok : ElOk dEl := ⟨Nat.zero_le _, fun _ => by show (0 : Int) ≤ 0 ∧ (0 : Int) < 65536; decide, (fun h => by cases h), (fun h => by cases h), fun _ => ⟨rfl, rfl⟩, (fun h => by have h : 3 ≤ 2 := h; omega)⟩
/-- what is looked at next -/
def Us.at (u : Us) (i : Nat) : El := if i < u.lu then u.us i else dEl
structure Inv (u : Us) (p : Pm) (m : Nat) : Prop where
  f1 : p.lu = u.lu
  f2 : p.bu = u.bu
  f3 : p.ou = u.ou
  f4 : p.cu = u.cu
  f5 : p.lim = u.lim
  e : p.e = u.at p.i
  mi : m ≤ p.i
  i15 : p.i ≤ 15
  tt : p.tot ≤ 13 * p.i
  cn : p.cnt = p.i
  t0 : 3 * p.i ≤ p.tot
  s0 : 0 < p.cnt → p.S 0 = 0
  sm : ∀ m, m < p.cnt → p.S m < p.tot
  inc : ∀ m k, m < k → k < p.cnt → p.S m < p.S k
  q : ∀ j, j < m → ∃ i, i < u.lu ∧ p.q j = u.us i
  qd : ∀ j, m ≤ j → p.q j = dEl
  dif : ∀ i j, i < m → j < m → sameT (p.q i) (p.q j) → i = j
  a1 : ∀ j, j < m → 1 ≤ p.adr j ∧ p.adr j ≤ p.tot
  a2 : ∀ i j, i < j → j < m → p.adr i < p.adr j
  m0 : m = 0 → p.i = 0
theorem Us.at_ok {u : Us} (o : ∀ j, ElOk (u.us j)) (i : Nat) : ElOk (u.at i) := by
  unfold Us.at; split
  · exact o i
  · exact dEl_ok
theorem sameT.symm {e e' : El} (h : sameT e e') : sameT e' e := ⟨h.1.symm, fun k hk => (h.2 k (by rw [h.1]; exact hk)).symm⟩
theorem sameT.trans {e e' e2 : El} (h : sameT e e') (g : sameT e' e2) : sameT e e2 := ⟨h.1.trans g.1, fun k hk => (h.2 k hk).trans (g.2 k (by rw [← h.1]; exact hk))⟩
section
variable {u : Us} {p : Pm} {m : Nat}
theorem Inv.ar (v : Inv u p m) (o : ∀ j, ElOk (u.us j)) : Ar p := by
  have he : ElOk p.e := by rw [v.e]; exact Us.at_ok o _
  have h1 := v.i15; have h2 := v.tt; have h3 := v.cn; have h4 := v.t0
  exact ⟨he.a40, he.hA, by omega, by omega, ⟨fun h => by omega, fun h => by omega⟩, v.s0, v.sm, v.inc⟩
theorem Inv.oq (v : Inv u p m) (o : ∀ j, ElOk (u.us j)) (j : Nat) : ElOk (p.q j) := by
  by_cases c : j < m
  · obtain ⟨i, _, h⟩ := v.q j c
    rw [h]; exact o i
  · rw [v.qd j (by omega)]; exact dEl_ok
theorem Inv.rd {k : Nat} {s : Bool} (v : Inv u p m) (o : ∀ j, ElOk (u.us j)) (ul : u.lu < 9223372036854775808) (hi : p.i < p.lu) (h15 : p.i < 15) (hs : ∀ j, j < m → (sameT (p.q j) p.e ↔ j = k)) (hz : s = true ↔ p.la = 0) : Rd p m k s :=
  ⟨v.ar o, by rw [v.e]; exact Us.at_ok o _, fun j _ => v.oq o j, hs, hz, hi, h15, by rw [v.f1]; exact ul, fun j hj => (v.a1 j hj).1, fun h => by have := v.m0 h; have := v.tt; omega, by have := v.mi; omega⟩
/-- which one it is -/
theorem Inv.find (v : Inv u p m) : (∃ k, k < m ∧ ∀ j, j < m → (sameT (p.q j) p.e ↔ j = k)) ∨ ∀ j, j < m → (sameT (p.q j) p.e ↔ j = m) := by
  by_cases c : ∃ k, k < m ∧ sameT (p.q k) p.e
  · obtain ⟨k, hk, h⟩ := c
    exact .inl ⟨k, hk, fun j hj => ⟨fun g => v.dif j k hj hk (g.trans h.symm), fun g => by rw [g]; exact h⟩⟩
  · exact .inr fun j hj => ⟨fun g => absurd ⟨j, hj, g⟩ c, fun g => by omega⟩
theorem Inv.nx {new : Bool} (v : Inv u p m) (o : ∀ j, ElOk (u.us j)) (hi : p.i < p.lu) (h15 : p.i < 15) (hn : new = true → ∀ j, j < m → ¬ sameT (p.q j) p.e) (h0 : new = false → 0 < m) : Inv u (p.nx (u.at (p.i + 1)) new m) (if new then m + 1 else m) := by
  have ar := v.ar o
  have h1 := t1_gt p; have h2 := wd_le ar.a60
  have h3 : p.t1 = p.tot + wd p.la := rfl
  have h4 := v.tt; have h5 := v.cn; have h6 := v.t0; have h7 := v.mi
  have hm' : (if new = true then m + 1 else m) ≤ m + 1 := by split <;> omega
  have hl : ∀ j, j < (if new = true then m + 1 else m) → j < m ∨ (new = true ∧ j = m) := fun j hj => by
    cases new with
    | false => exact .inl hj
    | true => have hj : j < m + 1 := hj; rcases Nat.lt_or_ge j m with c | c
              · exact .inl c
              · exact .inr ⟨rfl, by omega⟩
  have qo : ∀ j, ¬ (new = true ∧ j = m) → (p.nx (u.at (p.i + 1)) new m).q j = p.q j := fun j h => if_neg h
  have qn : ∀ j, (new = true ∧ j = m) → (p.nx (u.at (p.i + 1)) new m).q j = p.e := fun j h => if_pos h
  have ao : ∀ j, ¬ (new = true ∧ j = m) → (p.nx (u.at (p.i + 1)) new m).adr j = p.adr j := fun j h => if_neg h
  have an : ∀ j, (new = true ∧ j = m) → (p.nx (u.at (p.i + 1)) new m).adr j = p.tot + 1 := fun j h => if_pos h
  refine ⟨v.f1, v.f2, v.f3, v.f4, v.f5, rfl, by show _ ≤ p.i + 1; omega, h15, by show p.t1 ≤ 13 * (p.i + 1); omega, by show p.cnt + 1 = p.i + 1; omega, by show 3 * (p.i + 1) ≤ p.t1; omega, fun _ => S1_0 ar, fun j hj => ?_, S1_inc ar, fun j hj => ?_, fun j hj => ?_, fun i j hi' hj' hs => ?_, fun j hj => ?_, fun i j hij hj => ?_, fun h => ?_⟩
  · show (if j < p.cnt then p.S j else (p.tot : Int)) < (p.t1 : Int)
    split
    · have := v.sm j (by assumption); omega
    · omega
  · rcases hl j hj with c | c
    · rw [qo j (by omega)]; exact v.q j c
    · rw [qn j c]
      have hi : p.i < u.lu := by rw [← v.f1]; exact hi
      exact ⟨p.i, hi, by rw [v.e]; exact if_pos hi⟩
  · have : ¬ (new = true ∧ j = m) := fun ⟨a, b⟩ => by rw [if_pos a] at hj; omega
    rw [qo j this]
    refine v.qd j ?_
    split at hj <;> omega
  · rcases hl i hi' with c | c <;> rcases hl j hj' with d | d
    · rw [qo i (by omega), qo j (by omega)] at hs
      exact v.dif i j c d hs
    · rw [qo i (by omega), qn j d] at hs
      exact absurd hs (hn d.1 i c)
    · rw [qn i c, qo j (by omega)] at hs
      exact absurd hs.symm (hn c.1 j d)
    · omega
  · rcases hl j hj with c | c
    · rw [ao j (by omega)]
      have := v.a1 j c
      exact ⟨this.1, by show _ ≤ p.t1; omega⟩
    · rw [an j c]
      exact ⟨by omega, by show _ ≤ p.t1; omega⟩
  · rcases hl j hj with d | d
    · rw [ao i (by omega), ao j (by omega)]; exact v.a2 i j hij d
    · rw [ao i (by omega), an j d]
      have := v.a1 i (by omega); omega
  · exfalso
    cases new with
    | true => rw [if_pos rfl] at h; omega
    | false =>
      have := h0 rfl
      rw [if_neg (by decide)] at h; omega
/-- the loop -/
theorem loop {B : Kp} {w0 : World} {μ : M} (hb : Base B μ 20000) (o : ∀ j, ElOk (u.us j)) (ul : u.lu < 9223372036854775808) (gu : ∀ p m, Inv u p m → @Gl (TP p) B w0) : ∀ (f : Nat) (p : Pm) (m : Nat) (a : Act) (w : World), p.i + f = 16 → Inv u p m → 0 < u.lu → Sa p m B w0 μ a w → Code.rounds Tryz.prog lL (fun e a w => e = .exit 0 ∧ ∃ p m, Inv u p m ∧ 0 < m ∧ Sa p m B w0 μ a w) f a w
  | 0, p, m, a, w, hf, v, hu, s => by have := v.i15; omega
  | f + 1, p, m, a, w, hf, v, hu, s => by
    have hm := v.mi
    have h15 := v.i15
    by_cases c : p.i < p.lu
    · by_cases d : p.i < 15
      · have hz : decide (p.la = 0) = true ↔ p.la = 0 := decide_eq_true_iff
        rcases v.find with ⟨k, hk, hs⟩ | hs
        · have v' := v.nx (new := false) o c d (fun h => by cases h) (fun _ => by omega)
          refine rounds_of (wp_mono (stepO (n := u.at (p.i + 1)) hb (v.rd o ul c d hs hz) (by omega) hk (gu _ _ v') s) ?_)
          rintro e a' w' ⟨rfl, s'⟩
          exact loop hb o ul gu f _ _ a' w' (by show p.i + 1 + f = 16; omega) v' hu s'
        · have v' := v.nx (new := true) o c d (fun _ j hj h => by have := (hs j hj).1 h; omega) (fun h => by cases h)
          refine rounds_of (wp_mono (stepN (n := u.at (p.i + 1)) hb (v.rd o ul c d hs hz) (by omega) (gu _ _ v') s) ?_)
          rintro e a' w' ⟨rfl, s'⟩
          exact loop hb o ul gu f _ _ a' w' (by show p.i + 1 + f = 16; omega) v' hu s'
      · have h0 : 0 < m := by rcases Nat.eq_zero_or_pos m with h | h; have := v.m0 h; omega; exact h
        refine rounds_of (wp_mono (exitB hb c (by omega) (by omega) h0 s) ?_)
        rintro e a' w' ⟨rfl, s'⟩
        exact ⟨rfl, p, m, v, h0, s'⟩
    · have h0 : 0 < m := by
        rcases Nat.eq_zero_or_pos m with h | h
        · have h1 := v.m0 h; have h2 := v.f1; omega
        · exact h
      refine rounds_of (wp_mono (exitA hb c (by omega) h0 s) ?_)
      rintro e a' w' ⟨rfl, s'⟩
      exact ⟨rfl, p, m, v, h0, s'⟩
theorem Inv.re {b : Bool} (v : Inv u p m) (o : ∀ j, ElOk (u.us j)) (h0 : 0 < m) (hb : b = true ↔ 0 < p.lim) : Re p m b := by
  have h1 := v.mi; have h2 := v.t0
  refine ⟨v.ar o, fun j hj => (v.a1 j hj).1, fun i j hi hj h => ?_, hb, by omega⟩
  rcases Nat.lt_trichotomy i j with c | c | c
  · have := v.a2 i j c hj; omega
  · exact c
  · have := v.a2 j i c hi; omega
end
end Go.Proofs.YtifdjfcakkdgeaaGreatDoor.sa
