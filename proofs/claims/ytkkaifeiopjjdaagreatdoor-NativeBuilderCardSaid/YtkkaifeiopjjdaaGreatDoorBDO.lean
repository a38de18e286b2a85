/-
  The law NativeBuilder: its loop: states and steps.
-/
import Derived.Test.YtkkaifeiopjjdaaGreatDoorBDM2
set_option linter.unusedVariables false
set_option linter.unusedSimpArgs false
set_option linter.unusedSectionVars false
set_option maxRecDepth 1000000
set_option maxHeartbeats 0
namespace Go.Proofs.YtkkaifeiopjjdaaGreatDoor.bd
open Go.X Go.RowKit Go.Proofs
structure El where
  ek : Nat
  la : Nat
  fa : Nat
  A : Nat → Int
  ba : Nat
  oa : Nat
  ca : Nat
structure Ue where
  lu : Nat
  bu : Nat
  ou : Nat
  cu : Nat
  us : Nat → El
  ln : Nat
  bn : Nat
  on : Nat
  cn : Nat
  ns : Nat → Int
/-- the heap, the builder's text -/
structure Co where
  tot : Nat
  W : Nat → BitVec 64
  cnt : Nat
  S : Nat → Int
  sb : Nat
  ix : Nat
  lt : Nat
  C : Nat → Int
def pM (u : Ue) (i : Nat) : Int := if i % 4 = 0 then IntKind.i32.wrap (u.ns i) else u.ns i
def odd (n : Int) : Int := IntKind.i64.wrap (BitVec.ofInt IntKind.i64.bits n &&& BitVec.ofInt IntKind.i64.bits 1).toNat
def pL (u : Ue) (i : Nat) : Nat := if i % 4 < 2 then (Lib.itoa (pM u i)).length else if i % 4 = 2 then 1 else if odd (u.ns i) = 1 then 4 else 5
def pC (u : Ue) (i : Nat) : Nat → Int := if i % 4 < 2 then stx.Cn (pM u i) else if i % 4 = 2 then fun _ => IntKind.u16.wrap (u.ns i) else if odd (u.ns i) = 1 then chT else chF
def pA1 (u : Ue) (c : Co) (i : Nat) : P where
  x := ⟨(u.us i).la, (u.us i).A, c.tot, c.W, c.cnt, c.S⟩
  sb := c.sb
  ix := c.ix
  lt := c.lt
  C := c.C
  sa := 0
  ia := 0
  pl := (u.us i).la
  A := (u.us i).A
  i := i
  lu := u.lu
  ln := u.ln
  ek := (u.us i).ek
  fa := (u.us i).fa
  fz := 0
  bu := u.bu
  ou := u.ou
  cu := u.cu
  ba := (u.us i).ba
  oa := (u.us i).oa
  ca := (u.us i).ca
  bn := u.bn
  on := u.on
  cn := u.cn
  ns := u.ns
  m := 0
/-- behind the text that is made -/
def cT (u : Ue) (c : Co) (i : Nat) : Co := ⟨(pA1 u c i).x.t1, (pA1 u c i).x.w (u.us i).la, c.cnt + 1, (pA1 u c i).x.S1, c.sb, c.ix, c.lt, c.C⟩
def pA2 (u : Ue) (c : Co) (i : Nat) : P where
  x := ⟨c.lt + (u.us i).la, cat c.lt c.C (u.us i).A, (cT u c i).tot, (cT u c i).W, (cT u c i).cnt, (cT u c i).S⟩
  sb := c.sb
  ix := c.ix
  lt := c.lt
  C := c.C
  sa := c.tot
  ia := c.cnt
  pl := (u.us i).la
  A := (u.us i).A
  i := i
  lu := u.lu
  ln := u.ln
  ek := (u.us i).ek
  fa := (u.us i).fa
  fz := 1
  bu := u.bu
  ou := u.ou
  cu := u.cu
  ba := (u.us i).ba
  oa := (u.us i).oa
  ca := (u.us i).ca
  bn := u.bn
  on := u.on
  cn := u.cn
  ns := u.ns
  m := 0
def pB (u : Ue) (c : Co) (i : Nat) : P where
  x := ⟨c.lt + pL u i, cat c.lt c.C (pC u i), c.tot, c.W, c.cnt, c.S⟩
  sb := c.sb
  ix := c.ix
  lt := c.lt
  C := c.C
  sa := 0
  ia := 0
  pl := pL u i
  A := pC u i
  i := i
  lu := u.lu
  ln := u.ln
  ek := (u.us i).ek
  fa := (u.us i).fa
  fz := 2
  bu := u.bu
  ou := u.ou
  cu := u.cu
  ba := (u.us i).ba
  oa := (u.us i).oa
  ca := (u.us i).ca
  bn := u.bn
  on := u.on
  cn := u.cn
  ns := u.ns
  m := pM u i
/-- behind the piece that is appended -/
def cQ (p : P) : Co := ⟨p.x.t1, p.W2, p.x.cnt + 1, p.x.S1, p.x.tot, p.x.cnt, p.x.la, p.x.A⟩
def SA (y z : Bool) (u : Ue) (c : Co) (i : Nat) (n : Bool) (B : Kp) (w0 : World) (μ : M) (a : Act) (w : World) : Prop := St (TP (pA1 u c i)) B w0 μ Tryz.f4.ntmps (frOf (fsS y z n)) (hS n) a w
def SU (z : Bool) (u : Ue) (c : Co) (i : Nat) (n : Bool) (B : Kp) (w0 : World) (μ : M) (a : Act) (w : World) : Prop := St (TP (pA1 u c i)) B w0 μ Tryz.f4.ntmps (frOf ((67, .bool true) :: fsS false z n)) (hS n) a w
def SC (z : Bool) (u : Ue) (c : Co) (i : Nat) (n : Bool) (e : Nat) (B : Kp) (w0 : World) (μ : M) (a : Act) (w : World) : Prop := St (TP (pA2 u c i)) B w0 μ Tryz.f4.ntmps (frOf (fsT z n e)) (hS n) a w
def SB (y z : Bool) (u : Ue) (c : Co) (i : Nat) (n : Bool) (B : Kp) (w0 : World) (μ : M) (a : Act) (w : World) : Prop := St (TP (pB u c i)) B w0 μ Tryz.f4.ntmps (frOf (fsS y z n)) (hS n) a w
section
variable {y z : Bool} {u : Ue} {c : Co} {i : Nat} {B : Kp} {w0 : World} {μ : M} {a : Act} {w : World}
theorem ip_S {T T' : Tab} {k : Nat} (h1 : T.iv k = T'.iv 140 := by exact rfl) (h2 : T.iv 1 = T'.iv 1 := by exact rfl) (h3 : T.iv 2 = T'.iv 2 := by exact rfl) (h4 : T.iv 84 = T'.iv 84 := by exact rfl) (f1 : T'.fb 0 = T.fb 0 := by exact rfl) (f2 : T'.fcap 0 = T.fcap 0 := by exact rfl) (f3 : T'.fb 2 = T.fb 2 := by exact rfl) (f4 : T'.fcap 2 = T.fcap 2 := by exact rfl) (h5 : T.iv 143 = T'.iv 143 := by exact rfl) (h6 : T.iv 144 = T'.iv 144 := by exact rfl) : IpOk T T' ((.oi k, 140) :: (.oi 1, 1) :: (.oi 2, 2) :: (.oi 84, 84) :: ipB) :=
  ipE (ipE (ipE (ipE (ipG (ipG (ipE (ipE ipNil rfl h6.symm) rfl h5.symm) f3 f4) f1 f2) rfl h4.symm) rfl h3.symm) rfl h2.symm) rfl h1.symm
theorem ip_B {T T' : Tab} (f1 : T'.fb 0 = T.fb 0 := by exact rfl) (f2 : T'.fcap 0 = T.fcap 0 := by exact rfl) (f3 : T'.fb 2 = T.fb 2 := by exact rfl) (f4 : T'.fcap 2 = T.fcap 2 := by exact rfl) (h5 : T.iv 143 = T'.iv 143 := by exact rfl) (h6 : T.iv 144 = T'.iv 144 := by exact rfl) : IpOk T T' ipB :=
  ipG (ipG (ipE (ipE ipNil rfl h6.symm) rfl h5.symm) f3 f4) f1 f2
theorem vp_S {T T' : Tab} {C : Cv} : ∀ n, (T.vv 0 = numV .u64 c.tot (fun m => wI (c.W m))) → (T'.vv 0 = numV .u64 c.tot (fun m => wI (c.W m))) → (T.vv 1 = numV .i64 c.cnt c.S) → (T'.vv 1 = numV .i64 c.cnt c.S) → (T.vv 50 = numV .u16 c.lt c.C) → (T'.vv 50 = numV .u16 c.lt c.C) → (T.vk 0 = c.tot) → (T'.vk 0 = c.tot) → (T.vk 1 = c.cnt) → (T'.vk 1 = c.cnt) → (T.vk 50 = c.lt) → (T'.vk 50 = c.lt) → VpOk T T' C (vpSS n)
  | false, a1, a2, b1, b2, c1, c2, d1, d2, e1, e2, f1, f2 => vpNum (vpNum (vpNum vpNil c1 c2 f1 f2 (fun _ _ => rfl)) b1 b2 e1 e2 (fun _ _ => rfl)) a1 a2 d1 d2 (fun _ _ => rfl)
  | true, a1, a2, b1, b2, c1, c2, d1, d2, e1, e2, f1, f2 => vpNum (vpNum vpNil b1 b2 e1 e2 (fun _ _ => rfl)) a1 a2 d1 d2 (fun _ _ => rfl)
theorem sHf (hb : Base B μ 20000) (h : i < 8) (s : SA y z u c i false B w0 μ a w) : cH.wp Tryz.prog (fun x a' w' => x = .normal ∧ SA y z u c i false B w0 μ a' w') a w :=
  runTo_sound (fs := fsS y z false) (bs := bsS false 20001 20002 20003) (T := Pt (RH (pA1 u c i) h)) (T' := TP (pA1 u c i)) mixed hNo (C := cvS false 140) (ex := .normal) hb (show 20000 ≤ 20010 by decide) (rl := rlS false 20001 20002 20003) rfl (by kernel_rfl) ip_S (vp_S (c := c) false rfl rfl rfl rfl rfl rfl rfl rfl rfl rfl rfl rfl) (glL (p := pA1 u c i)) (kHf _ _ _ h) (St.same (Pt.same _ _) s)
theorem sHt (hb : Base B μ 20000) (h : i < 8) (s : SA y z u c i true B w0 μ a w) : cH.wp Tryz.prog (fun x a' w' => x = .normal ∧ SA y z u c i true B w0 μ a' w') a w :=
  runTo_sound (fs := fsS y z true) (bs := bsS true 20001 20002 20003) (T := Pt (RH (pA1 u c i) h)) (T' := TP (pA1 u c i)) mixed hNo (C := cvS true 140) (ex := .normal) hb (show 20000 ≤ 20010 by decide) (rl := rlS true 20001 20002 20003) rfl (by kernel_rfl) ip_S (vp_S (c := c) true rfl rfl rfl rfl rfl rfl rfl rfl rfl rfl rfl rfl) (glL (p := pA1 u c i)) (kHt _ _ _ h) (St.same (Pt.same _ _) s)
theorem sXf (hb : Base B μ 20000) (h : ¬ i < 8) (s : SA y z u c i false B w0 μ a w) : cH.wp Tryz.prog (fun x a' w' => x = .exit 0 ∧ SA y z u c i false B w0 μ a' w') a w :=
  runTo_sound (fs := fsS y z false) (bs := bsS false 20001 20002 20003) (T := Pt (RX (pA1 u c i) h)) (T' := TP (pA1 u c i)) mixed hNo (C := cvS false 140) (ex := .exit 0) hb (show 20000 ≤ 20010 by decide) (rl := rlS false 20001 20002 20003) rfl (by kernel_rfl) ip_S (vp_S (c := c) false rfl rfl rfl rfl rfl rfl rfl rfl rfl rfl rfl rfl) (glL (p := pA1 u c i)) (kXf _ _ _ h) (St.same (Pt.same _ _) s)
theorem sXt (hb : Base B μ 20000) (h : ¬ i < 8) (s : SA y z u c i true B w0 μ a w) : cH.wp Tryz.prog (fun x a' w' => x = .exit 0 ∧ SA y z u c i true B w0 μ a' w') a w :=
  runTo_sound (fs := fsS y z true) (bs := bsS true 20001 20002 20003) (T := Pt (RX (pA1 u c i) h)) (T' := TP (pA1 u c i)) mixed hNo (C := cvS true 140) (ex := .exit 0) hb (show 20000 ≤ 20010 by decide) (rl := rlS true 20001 20002 20003) rfl (by kernel_rfl) ip_S (vp_S (c := c) true rfl rfl rfl rfl rfl rfl rfl rfl rfl rfl rfl rfl) (glL (p := pA1 u c i)) (kXt _ _ _ h) (St.same (Pt.same _ _) s)
theorem sIf (hb : Base B μ 20000) (h : i < 8) (G : @Gl (TP (pA1 u c (i + 1))) B w0) (s : SA y z u c i false B w0 μ a w) : cInc.wp Tryz.prog (fun x a' w' => x = .normal ∧ SA y z u c (i + 1) false B w0 μ a' w') a w :=
  runTo_sound (fs := fsS y z false) (bs := bsS false 20001 20002 20003) (T := Pt (RH (pA1 u c i) h)) (T' := TP (pA1 u c (i + 1))) mixed hNo (C := cvS false 141) (ex := .normal) hb (show 20000 ≤ 20010 by decide) (rl := rlS false 20001 20002 20003) rfl (by kernel_rfl) ip_S (vp_S (c := c) false rfl rfl rfl rfl rfl rfl rfl rfl rfl rfl rfl rfl) (fun _ => G) (kIf _ _ _ h) (St.same (Pt.same _ _) s)
theorem sIt (hb : Base B μ 20000) (h : i < 8) (G : @Gl (TP (pA1 u c (i + 1))) B w0) (s : SA y z u c i true B w0 μ a w) : cInc.wp Tryz.prog (fun x a' w' => x = .normal ∧ SA y z u c (i + 1) true B w0 μ a' w') a w :=
  runTo_sound (fs := fsS y z true) (bs := bsS true 20001 20002 20003) (T := Pt (RH (pA1 u c i) h)) (T' := TP (pA1 u c (i + 1))) mixed hNo (C := cvS true 141) (ex := .normal) hb (show 20000 ≤ 20010 by decide) (rl := rlS true 20001 20002 20003) rfl (by kernel_rfl) ip_S (vp_S (c := c) true rfl rfl rfl rfl rfl rfl rfl rfl rfl rfl rfl rfl) (fun _ => G) (kIt _ _ _ h) (St.same (Pt.same _ _) s)
theorem sUf (hb : Base B μ 20000) (h : i < u.lu) (s : SA false z u c i false B w0 μ a w) : cA0.wp Tryz.prog (fun x a' w' => x = .normal ∧ SU z u c i false B w0 μ a' w') a w :=
  runTo_sound (fs := (67, .bool true) :: fsS false z false) (bs := bsS false 20001 20002 20003) (T := Pt (RU (pA1 u c i) h)) (T' := TP (pA1 u c i)) mixed hNo (C := cvS false 140) (ex := .normal) hb (show 20000 ≤ 20010 by decide) (rl := rlS false 20001 20002 20003) rfl (by kernel_rfl) ip_S (vp_S (c := c) false rfl rfl rfl rfl rfl rfl rfl rfl rfl rfl rfl rfl) (glL (p := pA1 u c i)) (kUf _ _ h) (St.same (Pt.same _ _) s)
theorem sUt (hb : Base B μ 20000) (h : i < u.lu) (s : SA false z u c i true B w0 μ a w) : cA0.wp Tryz.prog (fun x a' w' => x = .normal ∧ SU z u c i true B w0 μ a' w') a w :=
  runTo_sound (fs := (67, .bool true) :: fsS false z true) (bs := bsS true 20001 20002 20003) (T := Pt (RU (pA1 u c i) h)) (T' := TP (pA1 u c i)) mixed hNo (C := cvS true 140) (ex := .normal) hb (show 20000 ≤ 20010 by decide) (rl := rlS true 20001 20002 20003) rfl (by kernel_rfl) ip_S (vp_S (c := c) true rfl rfl rfl rfl rfl rfl rfl rfl rfl rfl rfl rfl) (glL (p := pA1 u c i)) (kUt _ _ h) (St.same (Pt.same _ _) s)
theorem sVf (hb : Base B μ 20000) (h : ¬ i < u.lu) (G : @Gl (TP (pB u c i)) B w0) (s : SA y z u c i false B w0 μ a w) : cA.wp Tryz.prog (fun x a' w' => x = .normal ∧ SB y z u c i false B w0 μ a' w') a w :=
  runTo_sound (fs := fsS y z false) (bs := bsS false 20001 20002 20003) (T := Pt (RUx (pA1 u c i) h)) (T' := TP (pB u c i)) mixed hNo (C := cvS false 140) (ex := .normal) hb (show 20000 ≤ 20010 by decide) (rl := rlS false 20001 20002 20003) rfl (by kernel_rfl) ip_S (vp_S (c := c) false rfl rfl rfl rfl rfl rfl rfl rfl rfl rfl rfl rfl) (fun _ => G) (kVf _ _ _ h) (St.same (Pt.same _ _) s)
theorem sVt (hb : Base B μ 20000) (h : ¬ i < u.lu) (G : @Gl (TP (pB u c i)) B w0) (s : SA y z u c i true B w0 μ a w) : cA.wp Tryz.prog (fun x a' w' => x = .normal ∧ SB y z u c i true B w0 μ a' w') a w :=
  runTo_sound (fs := fsS y z true) (bs := bsS true 20001 20002 20003) (T := Pt (RUx (pA1 u c i) h)) (T' := TP (pB u c i)) mixed hNo (C := cvS true 140) (ex := .normal) hb (show 20000 ≤ 20010 by decide) (rl := rlS true 20001 20002 20003) rfl (by kernel_rfl) ip_S (vp_S (c := c) true rfl rfl rfl rfl rfl rfl rfl rfl rfl rfl rfl rfl) (fun _ => G) (kVt _ _ _ h) (St.same (Pt.same _ _) s)
theorem sNf (hb : Base B μ 20000) (h : ¬ i < u.ln) (G : @Gl (TP (pA1 u c i)) B w0) (s : SB y z u c i false B w0 μ a w) : cB.wp Tryz.prog (fun x a' w' => x = .normal ∧ SA y z u c i false B w0 μ a' w') a w :=
  runTo_sound (fs := fsS y z false) (bs := bsS false 20001 20002 20003) (T := Pt (RNx (pB u c i) h)) (T' := TP (pA1 u c i)) mixed hNo (C := cvS false 140) (ex := .normal) hb (show 20000 ≤ 20010 by decide) (rl := rlS false 20001 20002 20003) rfl (by kernel_rfl) ip_S (vp_S (c := c) false rfl rfl rfl rfl rfl rfl rfl rfl rfl rfl rfl rfl) (fun _ => G) (kNf _ _ _ h) (St.same (Pt.same _ _) s)
theorem sNt (hb : Base B μ 20000) (h : ¬ i < u.ln) (G : @Gl (TP (pA1 u c i)) B w0) (s : SB y z u c i true B w0 μ a w) : cB.wp Tryz.prog (fun x a' w' => x = .normal ∧ SA y z u c i true B w0 μ a' w') a w :=
  runTo_sound (fs := fsS y z true) (bs := bsS true 20001 20002 20003) (T := Pt (RNx (pB u c i) h)) (T' := TP (pA1 u c i)) mixed hNo (C := cvS true 140) (ex := .normal) hb (show 20000 ≤ 20010 by decide) (rl := rlS true 20001 20002 20003) rfl (by kernel_rfl) ip_S (vp_S (c := c) true rfl rfl rfl rfl rfl rfl rfl rfl rfl rfl rfl rfl) (fun _ => G) (kNt _ _ _ h) (St.same (Pt.same _ _) s)
theorem KT0_ok {p : P} {T : Tab} (h : TxOk p.x) (q : FOk p) (e : SameTab (TP p) T) : @HandOk T Tryz.prog (KTx 0) := by
  letI := T
  exact inHand_ok (InOk.tab e (txF_ok h q)) (by kernel_rfl)
theorem KT1_ok {p : P} {T : Tab} (h : TxOk p.x) (q : FOk p) (e : SameTab (TP p) T) : @HandOk T Tryz.prog (KTx 1) := KT0_ok h q e
theorem KT2_ok {p : P} {T : Tab} (h : TxOk p.x) (q : p.x.la = 0) (e : SameTab (TP p) T) : @HandOk T Tryz.prog (KTx 2) := by
  letI := T
  exact inHand_ok (InOk.tab e (teN_ok h q)) (by kernel_rfl)
theorem KT3_ok {p : P} {T : Tab} (h : TxOk p.x) (q : p.x.la = 0) (e : SameTab (TP p) T) : @HandOk T Tryz.prog (KTx 3) := by
  letI := T
  exact inHand_ok (InOk.tab e (teE_ok h q)) (by kernel_rfl)
theorem sA10f (hb : Base B μ 20000) (h : TxOk (pA1 u c i).x) (hu : i < u.lu) (he : (u.us i).ek = 0) (q : EkC (pA1 u c i) 0) (G : @Gl (TP (pA2 u c i)) B w0) (s : SU z u c i false B w0 μ a w) {Q : Exit → Act → World → Prop} (k : ∀ a' w', SC z u c i false 0 B w0 μ a' w' → (restn 3 cAB).wp Tryz.prog Q a' w') : cAB.wp Tryz.prog Q a w := by
  have q2 : FOk (pA1 u c i) := ⟨rfl⟩
  exact firstTo_sound (T := Pt (RA0 (pA1 u c i) h rfl hu he q)) (T' := TP (pA2 u c i)) (n := 3) mixed (K := KTx 0) (KT0_ok h q2 (Pt.same (R0 (pA1 u c i) 0) (RA0 (pA1 u c i) h rfl hu he q))) (C := cvT false 0) (rl := [(20001, 20011), (20002, 20012), (20003, 20003)]) (fs := fsT z false 0) (bs := bsS' false) hb (show 20000 ≤ 20010 by decide) rfl (by kernel_rfl) (ipE (ipE (ipE (ipE (ipE (ipG (ipG (ipE (ipE (ipG (ipE ipNil))))))))))) (vpNum (n := (pA1 u c i).x.t1) (e := fun m => wI ((pA1 u c i).x.w (u.us i).la m)) (e' := fun m => wI ((pA1 u c i).x.w (u.us i).la m)) (vpNum (n := c.cnt + 1) (K := .i64) (e := (pA1 u c i).x.S1) (e' := (pA1 u c i).x.S1) (vpNum (n := c.lt) (K := .u16) (e := c.C) (e' := c.C) vpNil))) (fun _ => G) (kA0f _ _ h rfl hu he q) (St.same (Pt.same _ _) s) k
theorem sA10t (hb : Base B μ 20000) (h : TxOk (pA1 u c i).x) (hu : i < u.lu) (he : (u.us i).ek = 0) (q : EkC (pA1 u c i) 0) (G : @Gl (TP (pA2 u c i)) B w0) (s : SU z u c i true B w0 μ a w) {Q : Exit → Act → World → Prop} (k : ∀ a' w', SC z u c i true 0 B w0 μ a' w' → (restn 3 cAB).wp Tryz.prog Q a' w') : cAB.wp Tryz.prog Q a w := by
  have q2 : FOk (pA1 u c i) := ⟨rfl⟩
  exact firstTo_sound (T := Pt (RA0 (pA1 u c i) h rfl hu he q)) (T' := TP (pA2 u c i)) (n := 3) mixed (K := KTx 0) (KT0_ok h q2 (Pt.same (R0 (pA1 u c i) 0) (RA0 (pA1 u c i) h rfl hu he q))) (C := cvT true 0) (rl := [(20001, 20011), (20002, 20012)]) (fs := fsT z true 0) (bs := bsS' true) hb (show 20000 ≤ 20010 by decide) rfl (by kernel_rfl) (ipE (ipE (ipE (ipE (ipE (ipG (ipG (ipE (ipE (ipG (ipE ipNil))))))))))) (vpNum (n := (pA1 u c i).x.t1) (e := fun m => wI ((pA1 u c i).x.w (u.us i).la m)) (e' := fun m => wI ((pA1 u c i).x.w (u.us i).la m)) (vpNum (n := c.cnt + 1) (K := .i64) (e := (pA1 u c i).x.S1) (e' := (pA1 u c i).x.S1) vpNil)) (fun _ => G) (kA0t _ _ h rfl hu he q) (St.same (Pt.same _ _) s) k
theorem sA11f (hb : Base B μ 20000) (h : TxOk (pA1 u c i).x) (hu : i < u.lu) (he : (u.us i).ek = 1) (q : EkC (pA1 u c i) 1) (G : @Gl (TP (pA2 u c i)) B w0) (s : SU z u c i false B w0 μ a w) {Q : Exit → Act → World → Prop} (k : ∀ a' w', SC z u c i false 1 B w0 μ a' w' → (restn 3 cAB).wp Tryz.prog Q a' w') : cAB.wp Tryz.prog Q a w := by
  have q2 : FOk (pA1 u c i) := ⟨rfl⟩
  exact firstTo_sound (T := Pt (RA1 (pA1 u c i) h rfl hu he q)) (T' := TP (pA2 u c i)) (n := 3) mixed (K := KTx 1) (KT1_ok h q2 (Pt.same (R0 (pA1 u c i) 0) (RA1 (pA1 u c i) h rfl hu he q))) (C := cvT false 1) (rl := [(20001, 20011), (20002, 20012), (20003, 20003)]) (fs := fsT z false 1) (bs := bsS' false) hb (show 20000 ≤ 20010 by decide) rfl (by kernel_rfl) (ipE (ipE (ipE (ipE (ipE (ipG (ipG (ipE (ipE (ipG (ipE ipNil))))))))))) (vpNum (n := (pA1 u c i).x.t1) (e := fun m => wI ((pA1 u c i).x.w (u.us i).la m)) (e' := fun m => wI ((pA1 u c i).x.w (u.us i).la m)) (vpNum (n := c.cnt + 1) (K := .i64) (e := (pA1 u c i).x.S1) (e' := (pA1 u c i).x.S1) (vpNum (n := c.lt) (K := .u16) (e := c.C) (e' := c.C) vpNil))) (fun _ => G) (kA1f _ _ h rfl hu he q) (St.same (Pt.same _ _) s) k
theorem sA11t (hb : Base B μ 20000) (h : TxOk (pA1 u c i).x) (hu : i < u.lu) (he : (u.us i).ek = 1) (q : EkC (pA1 u c i) 1) (G : @Gl (TP (pA2 u c i)) B w0) (s : SU z u c i true B w0 μ a w) {Q : Exit → Act → World → Prop} (k : ∀ a' w', SC z u c i true 1 B w0 μ a' w' → (restn 3 cAB).wp Tryz.prog Q a' w') : cAB.wp Tryz.prog Q a w := by
  have q2 : FOk (pA1 u c i) := ⟨rfl⟩
  exact firstTo_sound (T := Pt (RA1 (pA1 u c i) h rfl hu he q)) (T' := TP (pA2 u c i)) (n := 3) mixed (K := KTx 1) (KT1_ok h q2 (Pt.same (R0 (pA1 u c i) 0) (RA1 (pA1 u c i) h rfl hu he q))) (C := cvT true 1) (rl := [(20001, 20011), (20002, 20012)]) (fs := fsT z true 1) (bs := bsS' true) hb (show 20000 ≤ 20010 by decide) rfl (by kernel_rfl) (ipE (ipE (ipE (ipE (ipE (ipG (ipG (ipE (ipE (ipG (ipE ipNil))))))))))) (vpNum (n := (pA1 u c i).x.t1) (e := fun m => wI ((pA1 u c i).x.w (u.us i).la m)) (e' := fun m => wI ((pA1 u c i).x.w (u.us i).la m)) (vpNum (n := c.cnt + 1) (K := .i64) (e := (pA1 u c i).x.S1) (e' := (pA1 u c i).x.S1) vpNil)) (fun _ => G) (kA1t _ _ h rfl hu he q) (St.same (Pt.same _ _) s) k
theorem sA12f (hb : Base B μ 20000) (h : TxOk (pA1 u c i).x) (hu : i < u.lu) (he : (u.us i).ek = 2) (q : EkC (pA1 u c i) 2) (G : @Gl (TP (pA2 u c i)) B w0) (s : SU z u c i false B w0 μ a w) {Q : Exit → Act → World → Prop} (k : ∀ a' w', SC z u c i false 2 B w0 μ a' w' → (restn 3 cAB).wp Tryz.prog Q a' w') : cAB.wp Tryz.prog Q a w := by
  have q2 : FOk (pA1 u c i) := ⟨rfl⟩
  exact firstTo_sound (T := Pt (RA2 (pA1 u c i) h rfl hu he q)) (T' := TP (pA2 u c i)) (n := 3) mixed (K := KTx 2) (KT2_ok h q (Pt.same (R0 (pA1 u c i) 0) (RA2 (pA1 u c i) h rfl hu he q))) (C := cvT false 2) (rl := [(20001, 20011), (20002, 20012), (20003, 20003)]) (fs := fsT z false 2) (bs := bsS' false) hb (show 20000 ≤ 20010 by decide) rfl (by kernel_rfl) (ipE (ipE (ipE (ipE (ipE (ipG (ipG (ipE (ipE ipNil))))))))) (vpNum (n := (pA1 u c i).x.t1) (e := fun m => wI ((pA1 u c i).x.w (u.us i).la m)) (e' := fun m => wI ((pA1 u c i).x.w (u.us i).la m)) (vpNum (n := c.cnt + 1) (K := .i64) (e := (pA1 u c i).x.S1) (e' := (pA1 u c i).x.S1) (vpNum (n := c.lt) (K := .u16) (e := c.C) (e' := c.C) vpNil))) (fun _ => G) (kA2f _ _ h rfl hu he q) (St.same (Pt.same _ _) s) k
theorem sA12t (hb : Base B μ 20000) (h : TxOk (pA1 u c i).x) (hu : i < u.lu) (he : (u.us i).ek = 2) (q : EkC (pA1 u c i) 2) (G : @Gl (TP (pA2 u c i)) B w0) (s : SU z u c i true B w0 μ a w) {Q : Exit → Act → World → Prop} (k : ∀ a' w', SC z u c i true 2 B w0 μ a' w' → (restn 3 cAB).wp Tryz.prog Q a' w') : cAB.wp Tryz.prog Q a w := by
  have q2 : FOk (pA1 u c i) := ⟨rfl⟩
  exact firstTo_sound (T := Pt (RA2 (pA1 u c i) h rfl hu he q)) (T' := TP (pA2 u c i)) (n := 3) mixed (K := KTx 2) (KT2_ok h q (Pt.same (R0 (pA1 u c i) 0) (RA2 (pA1 u c i) h rfl hu he q))) (C := cvT true 2) (rl := [(20001, 20011), (20002, 20012)]) (fs := fsT z true 2) (bs := bsS' true) hb (show 20000 ≤ 20010 by decide) rfl (by kernel_rfl) (ipE (ipE (ipE (ipE (ipE (ipG (ipG (ipE (ipE ipNil))))))))) (vpNum (n := (pA1 u c i).x.t1) (e := fun m => wI ((pA1 u c i).x.w (u.us i).la m)) (e' := fun m => wI ((pA1 u c i).x.w (u.us i).la m)) (vpNum (n := c.cnt + 1) (K := .i64) (e := (pA1 u c i).x.S1) (e' := (pA1 u c i).x.S1) vpNil)) (fun _ => G) (kA2t _ _ h rfl hu he q) (St.same (Pt.same _ _) s) k
theorem sA13f (hb : Base B μ 20000) (h : TxOk (pA1 u c i).x) (hu : i < u.lu) (he : (u.us i).ek = 3) (q : EkC (pA1 u c i) 3) (G : @Gl (TP (pA2 u c i)) B w0) (s : SU z u c i false B w0 μ a w) {Q : Exit → Act → World → Prop} (k : ∀ a' w', SC z u c i false 3 B w0 μ a' w' → (restn 3 cAB).wp Tryz.prog Q a' w') : cAB.wp Tryz.prog Q a w := by
  have q2 : FOk (pA1 u c i) := ⟨rfl⟩
  exact firstTo_sound (T := Pt (RA3 (pA1 u c i) h rfl hu he q)) (T' := TP (pA2 u c i)) (n := 3) mixed (K := KTx 3) (KT3_ok h q (Pt.same (R0 (pA1 u c i) 0) (RA3 (pA1 u c i) h rfl hu he q))) (C := cvT false 3) (rl := [(20001, 20011), (20002, 20012), (20003, 20003)]) (fs := fsT z false 3) (bs := bsS' false) hb (show 20000 ≤ 20010 by decide) rfl (by kernel_rfl) (ipE (ipE (ipE (ipE (ipE (ipG (ipG (ipE (ipE ipNil))))))))) (vpNum (n := (pA1 u c i).x.t1) (e := fun m => wI ((pA1 u c i).x.w (u.us i).la m)) (e' := fun m => wI ((pA1 u c i).x.w (u.us i).la m)) (vpNum (n := c.cnt + 1) (K := .i64) (e := (pA1 u c i).x.S1) (e' := (pA1 u c i).x.S1) (vpNum (n := c.lt) (K := .u16) (e := c.C) (e' := c.C) vpNil))) (fun _ => G) (kA3f _ _ h rfl hu he q) (St.same (Pt.same _ _) s) k
theorem sA13t (hb : Base B μ 20000) (h : TxOk (pA1 u c i).x) (hu : i < u.lu) (he : (u.us i).ek = 3) (q : EkC (pA1 u c i) 3) (G : @Gl (TP (pA2 u c i)) B w0) (s : SU z u c i true B w0 μ a w) {Q : Exit → Act → World → Prop} (k : ∀ a' w', SC z u c i true 3 B w0 μ a' w' → (restn 3 cAB).wp Tryz.prog Q a' w') : cAB.wp Tryz.prog Q a w := by
  have q2 : FOk (pA1 u c i) := ⟨rfl⟩
  exact firstTo_sound (T := Pt (RA3 (pA1 u c i) h rfl hu he q)) (T' := TP (pA2 u c i)) (n := 3) mixed (K := KTx 3) (KT3_ok h q (Pt.same (R0 (pA1 u c i) 0) (RA3 (pA1 u c i) h rfl hu he q))) (C := cvT true 3) (rl := [(20001, 20011), (20002, 20012)]) (fs := fsT z true 3) (bs := bsS' true) hb (show 20000 ≤ 20010 by decide) rfl (by kernel_rfl) (ipE (ipE (ipE (ipE (ipE (ipG (ipG (ipE (ipE ipNil))))))))) (vpNum (n := (pA1 u c i).x.t1) (e := fun m => wI ((pA1 u c i).x.w (u.us i).la m)) (e' := fun m => wI ((pA1 u c i).x.w (u.us i).la m)) (vpNum (n := c.cnt + 1) (K := .i64) (e := (pA1 u c i).x.S1) (e' := (pA1 u c i).x.S1) vpNil)) (fun _ => G) (kA3t _ _ h rfl hu he q) (St.same (Pt.same _ _) s) k
end
end Go.Proofs.YtkkaifeiopjjdaaGreatDoor.bd
