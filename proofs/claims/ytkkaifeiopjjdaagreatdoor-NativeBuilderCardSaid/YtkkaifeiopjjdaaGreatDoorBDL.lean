/-
  The law NativeBuilder: its loop: code, states, heads, exits.
-/
import Derived.Test.YtkkaifeiopjjdaaGreatDoorBDJ
set_option linter.unusedVariables false
set_option linter.unusedSimpArgs false
set_option linter.unusedSectionVars false
set_option maxRecDepth 1000000
set_option maxHeartbeats 0
namespace Go.Proofs.YtkkaifeiopjjdaaGreatDoor.bd
open Go.X Go.RowKit Go.Proofs
noncomputable def aC : Code := codeOf Tryz.f4
theorem aC_eq : Tryz.f4.body = some aC := by kernel_rfl
noncomputable def aL : Code := lpIn (tl (hd (restn 10 aC)))
noncomputable def aI : Code := hd (hd (restn 10 aC))
theorem a10_eq : restn 10 aC = .seq (.seq aI (.block 0 (.loop aL))) (restn 11 aC) := by kernel_rfl
noncomputable def blIn : Code → Code
  | .block _ c => c
  | c => c
noncomputable def cdIn : Code → Code
  | .cond _ x _ => x
  | c => c
noncomputable def cH : Code := hd aL
noncomputable def cB1 : Code := blIn (hd (tl aL))
noncomputable def cInc : Code := tl (tl aL)
theorem aL_eq : aL = .seq cH (.seq (.block 1 cB1) cInc) := by kernel_rfl
noncomputable def cA : Code := hd cB1
noncomputable def cB : Code := tl cB1
theorem cB1_eq : cB1 = .seq cA cB := by kernel_rfl
noncomputable def cA0 : Code := hd cA
noncomputable def cAB : Code := cdIn (tl cA)
theorem cA_eq : cA = .seq cA0 (.cond (.tmp 67) cAB .skip) := by kernel_rfl
noncomputable abbrev sbS : AV := (.str 23 10956966084090815260342509131105871416374185281426186602)
noncomputable def allA (x : Nat) (n : Bool) : AV := Bool.rec (.ov x 84 1) .nils n
noncomputable def fsS (y z n : Bool) : List (Nat × AV) := [(0, Bool.rec (.fo 0 143 1) .nils y), (1, Bool.rec (.fo 2 144 1) .nils z), (5, .bool true), (6, .ptr 9899 0), (7, .ptr 9902 0), (8, sbS), (9, .int .i64 1), (13, .sl 13320 0 4 4), (14, allA 20003 n), (15, .oi 140)]
noncomputable def bsS (n : Bool) (wN sN aN : Nat) : BS := same kb ++ ((9898, 9898, mp) :: (13316, 13316, shp) :: (9902, 9902, wld) :: (9899, 9899, hp 20001 1 20002 2) :: (20001, wN, .vec 0) :: (20002, sN, .vec 1) :: Bool.rec [(20003, aN, .vec 50)] [] n)
noncomputable abbrev hS (n : Bool) : H := hOf 20010 (bsS n 20001 20002 20003)
noncomputable abbrev ipB : IP := [(.fo 0 143 1, 0), (.fo 2 144 1, 2), (.oi 143, 143), (.oi 144, 144)]
noncomputable abbrev rlS (n : Bool) (wN sN aN : Nat) : List (Nat × Nat) := Bool.rec [(20001, wN), (20002, sN), (20003, aN)] [(20001, wN), (20002, sN)] n
noncomputable abbrev vpSS (n : Bool) : VP := Bool.rec [(20001, .vec 0, 0), (20002, .vec 1, 1), (20003, .vec 50, 50)] [(20001, .vec 0, 0), (20002, .vec 1, 1)] n
noncomputable abbrev cvS (n : Bool) (k : Nat) : Cv := ⟨20000, 20010, ofPairs (rlS n 20001 20002 20003), (.oi k, 140) :: (.oi 1, 1) :: (.oi 2, 2) :: (.oi 84, 84) :: ipB⟩
/- the head, the count -/
abbrev RH (p : P) (h : p.i < 8) : Rw (ivP p 0) (vvP p 0) (vkP p 0) (fgP p) (txP p 0) where
  vvp := vvPp p 0
  ib := [(11, .oi 140, .int .i64 8, .bool true), (0, .oi 140, .int .i64 1, .oi 141)]
  ibok := rLt (rAdd ibNil)
abbrev RX (p : P) (h : ¬ p.i < 8) : Rw (ivP p 0) (vvP p 0) (vkP p 0) (fgP p) (txP p 0) where
  vvp := vvPp p 0
  ib := [(11, .oi 140, .int .i64 8, .bool false)]
  ibok := rLt ibNil
abbrev RU (p : P) (h : p.i < p.lu) : Rw (ivP p 0) (vvP p 0) (vkP p 0) (fgP p) (txP p 0) where
  vvp := vvPp p 0
  ib := [(11, .oi 140, .oi 143, .bool true)]
  ibok := rLt ibNil
abbrev RUx (p : P) (h : ¬ p.i < p.lu) : Rw (ivP p 0) (vvP p 0) (vkP p 0) (fgP p) (txP p 0) where
  vvp := vvPp p 0
  ib := [(11, .oi 140, .oi 143, .bool false), (11, .oi 140, .int .i64 0, .bool false)]
  ibok := rLt (rLt ibNil)
abbrev RNx (p : P) (h : ¬ p.i < p.ln) : Rw (ivP p 0) (vvP p 0) (vkP p 0) (fgP p) (txP p 0) where
  vvp := vvPp p 0
  ib := [(11, .oi 140, .oi 144, .bool false), (11, .oi 140, .int .i64 0, .bool false)]
  ibok := rLt (rLt ibNil)
theorem kHf : ∀ (y : Bool) (z : Bool) p h, runTo (Pt (RH p h)) Tryz.prog Hand.none 3000 Tryz.f4.ntmps cH (frOf (fsS y z false)) (hS false) .normal (cvS false 140) (vpSS false) (fsS y z false) (bsS false 20001 20002 20003) = true := fun y z p h => by cases y <;> cases z <;> (as_aux_lemma => kernel_rfl)
theorem kXf : ∀ (y : Bool) (z : Bool) p h, runTo (Pt (RX p h)) Tryz.prog Hand.none 3000 Tryz.f4.ntmps cH (frOf (fsS y z false)) (hS false) (.exit 0) (cvS false 140) (vpSS false) (fsS y z false) (bsS false 20001 20002 20003) = true := fun y z p h => by cases y <;> cases z <;> (as_aux_lemma => kernel_rfl)
theorem kIf : ∀ (y : Bool) (z : Bool) p h, runTo (Pt (RH p h)) Tryz.prog Hand.none 3000 Tryz.f4.ntmps cInc (frOf (fsS y z false)) (hS false) .normal (cvS false 141) (vpSS false) (fsS y z false) (bsS false 20001 20002 20003) = true := fun y z p h => by cases y <;> cases z <;> (as_aux_lemma => kernel_rfl)
theorem kUf : ∀ (z : Bool) p h, runTo (Pt (RU p h)) Tryz.prog Hand.none 3000 Tryz.f4.ntmps cA0 (frOf (fsS false z false)) (hS false) .normal (cvS false 140) (vpSS false) ((67, .bool true) :: fsS false z false) (bsS false 20001 20002 20003) = true := fun z p h => by cases z <;> (as_aux_lemma => kernel_rfl)
theorem kVf : ∀ (y : Bool) (z : Bool) p h, runTo (Pt (RUx p h)) Tryz.prog Hand.none 3000 Tryz.f4.ntmps cA (frOf (fsS y z false)) (hS false) .normal (cvS false 140) (vpSS false) (fsS y z false) (bsS false 20001 20002 20003) = true := fun y z p h => by cases y <;> cases z <;> (as_aux_lemma => kernel_rfl)
theorem kNf : ∀ (y : Bool) (z : Bool) p h, runTo (Pt (RNx p h)) Tryz.prog Hand.none 3000 Tryz.f4.ntmps cB (frOf (fsS y z false)) (hS false) .normal (cvS false 140) (vpSS false) (fsS y z false) (bsS false 20001 20002 20003) = true := fun y z p h => by cases y <;> cases z <;> (as_aux_lemma => kernel_rfl)
theorem kHt : ∀ (y : Bool) (z : Bool) p h, runTo (Pt (RH p h)) Tryz.prog Hand.none 3000 Tryz.f4.ntmps cH (frOf (fsS y z true)) (hS true) .normal (cvS true 140) (vpSS true) (fsS y z true) (bsS true 20001 20002 20003) = true := fun y z p h => by cases y <;> cases z <;> (as_aux_lemma => kernel_rfl)
theorem kXt : ∀ (y : Bool) (z : Bool) p h, runTo (Pt (RX p h)) Tryz.prog Hand.none 3000 Tryz.f4.ntmps cH (frOf (fsS y z true)) (hS true) (.exit 0) (cvS true 140) (vpSS true) (fsS y z true) (bsS true 20001 20002 20003) = true := fun y z p h => by cases y <;> cases z <;> (as_aux_lemma => kernel_rfl)
theorem kIt : ∀ (y : Bool) (z : Bool) p h, runTo (Pt (RH p h)) Tryz.prog Hand.none 3000 Tryz.f4.ntmps cInc (frOf (fsS y z true)) (hS true) .normal (cvS true 141) (vpSS true) (fsS y z true) (bsS true 20001 20002 20003) = true := fun y z p h => by cases y <;> cases z <;> (as_aux_lemma => kernel_rfl)
theorem kUt : ∀ (z : Bool) p h, runTo (Pt (RU p h)) Tryz.prog Hand.none 3000 Tryz.f4.ntmps cA0 (frOf (fsS false z true)) (hS true) .normal (cvS true 140) (vpSS true) ((67, .bool true) :: fsS false z true) (bsS true 20001 20002 20003) = true := fun z p h => by cases z <;> (as_aux_lemma => kernel_rfl)
theorem kVt : ∀ (y : Bool) (z : Bool) p h, runTo (Pt (RUx p h)) Tryz.prog Hand.none 3000 Tryz.f4.ntmps cA (frOf (fsS y z true)) (hS true) .normal (cvS true 140) (vpSS true) (fsS y z true) (bsS true 20001 20002 20003) = true := fun y z p h => by cases y <;> cases z <;> (as_aux_lemma => kernel_rfl)
theorem kNt : ∀ (y : Bool) (z : Bool) p h, runTo (Pt (RNx p h)) Tryz.prog Hand.none 3000 Tryz.f4.ntmps cB (frOf (fsS y z true)) (hS true) .normal (cvS true 140) (vpSS true) (fsS y z true) (bsS true 20001 20002 20003) = true := fun y z p h => by cases y <;> cases z <;> (as_aux_lemma => kernel_rfl)
/- a text is made -/
/-- what is known of the element, by what it is -/
def EkC (p : P) : Nat → Prop
  | 0 => 0 < p.x.la ∧ p.x.la ≤ 60
  | 1 => p.x.la = 60 ∧ 60 < p.fa ∧ p.fa < 9223372036854775808
  | _ => p.x.la = 0
theorem flU_ok {p : P} {k e : Nat} (hz : p.fz = 0) (hu : p.i < p.lu) (h : p.ek = e) : ∀ r ∈ ([⟨0, 140, 1, 0, [elK e]⟩] : List VL), FlOk (ivP p k) (fgP p) r := by
  refine allCons ⟨⟨rfl, Int.natCast_nonneg _⟩, fun m b hb => ?_⟩ allNil
  match m, hb with
  | 0, hb =>
    cases hb
    refine ⟨elK e, ?_, .inl rfl⟩
    show (if p.fz = 0 ∧ ((p.i : Nat) : Int).toNat * 1 + 0 + 0 = p.i ∧ p.i < p.lu then some (elK p.ek) else none) = _
    rw [Int.toNat_natCast, if_pos ⟨hz, by omega, hu⟩, h]
noncomputable abbrev srcK (e : Nat) : AV := Nat.rec (.fo 1 100 1) (fun e _ => Nat.rec (.fo 1 100 1) (fun e _ => Nat.rec .nils (fun _ _ => .es) e) e) e
noncomputable abbrev fsT (z n : Bool) (e : Nat) : List (Nat × AV) := (16, srcK e) :: (17, .oi 121) :: fsS false z n
noncomputable abbrev bsS' (n : Bool) : BS := same kb ++ ((9898, 9898, mp) :: (13316, 13316, shp) :: (9902, 9902, wld) :: (9899, 9899, hp 20001 1 20002 2) :: (20001, 20011, .vec 0) :: (20002, 20012, .vec 1) :: Bool.rec [(20003, 20003, .vec 50)] [] n)
noncomputable abbrev KTx (e : Nat) : Hand := Nat.rec (inHand (txIF 20010)) (fun e _ => Nat.rec (inHand (txIF 20010)) (fun e _ => Nat.rec (inHand (teI 20010 .nils [])) (fun _ _ => inHand (teI 20010 .es [])) e) e) e
noncomputable abbrev ipU (e : Nat) : IP := Nat.rec [(.fo 1 0 1, 1), (.oi 0, 100)] (fun e _ => Nat.rec [(.fo 1 0 1, 1), (.oi 0, 100)] (fun _ _ => []) e) e
noncomputable abbrev cvT (n : Bool) (e : Nat) : Cv := ⟨20000, 20010, ofPairs (Bool.rec [(20001, 20011), (20002, 20012), (20003, 20003)] [(20001, 20011), (20002, 20012)] n), (.oi 140, 140) :: (.oi 3, 1) :: (.oi 7, 2) :: (.oi 84, 84) :: (.oi 4, 121) :: (ipB ++ ipU e)⟩
noncomputable abbrev vpST (n : Bool) : VP := Bool.rec [(20011, .vec 3, 0), (20012, .vec 4, 1), (20003, .vec 50, 50)] [(20011, .vec 3, 0), (20012, .vec 4, 1)] n
noncomputable abbrev rowsU : List BRow := [(11, .oi 140, .oi 143, .bool true), (14, .oi 140, .int .i64 0, .bool true), (9, .oi 4, .int .i64 0, .bool false)]
noncomputable abbrev cu0 : List BRow := [(13, .oi 0, .int .i64 60, .bool false)]
theorem cu0_ok {p : P} (q : EkC p 0) : ∀ r ∈ cu0, IbOk (ivP p 0) r := by
  obtain ⟨q1, q2⟩ : 0 < p.x.la ∧ p.x.la ≤ 60 := q
  exact rGt ibNil
noncomputable abbrev RA0 (p : P) (h : TxOk p.x) (hz : p.fz = 0) (hu : p.i < p.lu) (he : p.ek = 0) (q : EkC p 0) : Rw (ivP p 0) (vvP p 0) (vkP p 0) (fgP p) (txP p 0) where
  vvp := vvPp p 0
  ib := rowsU ++ cu0
  ibok := by
    have h1 := h.t0
    exact catR (rLt (rGe (rEq ibNil))) (cu0_ok q)
  fl := [⟨0, 140, 1, 0, [elK 0]⟩]
  flok := flU_ok hz hu he
theorem kA0f : ∀ (z : Bool) p h hz hu he q, firstTo (Pt (RA0 p h hz hu he q)) Tryz.prog (KTx 0) 3000 Tryz.f4.ntmps 3 cAB (frOf ((67, .bool true) :: fsS false z false)) (hS false) (cvT false 0) (vpST false) (fsT z false 0) (bsS' false) = true := fun z p h hz hu he q => by cases z <;> (as_aux_lemma => kernel_rfl)
theorem kA0t : ∀ (z : Bool) p h hz hu he q, firstTo (Pt (RA0 p h hz hu he q)) Tryz.prog (KTx 0) 3000 Tryz.f4.ntmps 3 cAB (frOf ((67, .bool true) :: fsS false z true)) (hS true) (cvT true 0) (vpST true) (fsT z true 0) (bsS' true) = true := fun z p h hz hu he q => by cases z <;> (as_aux_lemma => kernel_rfl)
noncomputable abbrev cu1 : List BRow := [(13, .oi 147, .int .i64 60, .bool true), (12, .oi 0, .oi 147, .bool true), (14, .oi 0, .int .i64 0, .bool true)]
theorem cu1_ok {p : P} (q : EkC p 1) : ∀ r ∈ cu1, IbOk (ivP p 0) r := by
  obtain ⟨q1, q2, q3⟩ : p.x.la = 60 ∧ 60 < p.fa ∧ p.fa < 9223372036854775808 := q
  exact rGt (rLe (rGe ibNil))
noncomputable abbrev RA1 (p : P) (h : TxOk p.x) (hz : p.fz = 0) (hu : p.i < p.lu) (he : p.ek = 1) (q : EkC p 1) : Rw (ivP p 0) (vvP p 0) (vkP p 0) (fgP p) (txP p 0) where
  vvp := vvPp p 0
  ib := rowsU ++ cu1
  ibok := by
    have h1 := h.t0
    exact catR (rLt (rGe (rEq ibNil))) (cu1_ok q)
  fl := [⟨0, 140, 1, 0, [elK 1]⟩]
  flok := flU_ok hz hu he
  vc := [(60, 0)]
  vcok := cN allNil (h := by show ((IntKind.i64, (p.x.la : Int)) : IntKind × Int) = _; rw [q.1])
theorem kA1f : ∀ (z : Bool) p h hz hu he q, firstTo (Pt (RA1 p h hz hu he q)) Tryz.prog (KTx 1) 3000 Tryz.f4.ntmps 3 cAB (frOf ((67, .bool true) :: fsS false z false)) (hS false) (cvT false 1) (vpST false) (fsT z false 1) (bsS' false) = true := fun z p h hz hu he q => by cases z <;> (as_aux_lemma => kernel_rfl)
theorem kA1t : ∀ (z : Bool) p h hz hu he q, firstTo (Pt (RA1 p h hz hu he q)) Tryz.prog (KTx 1) 3000 Tryz.f4.ntmps 3 cAB (frOf ((67, .bool true) :: fsS false z true)) (hS true) (cvT true 1) (vpST true) (fsT z true 1) (bsS' true) = true := fun z p h hz hu he q => by cases z <;> (as_aux_lemma => kernel_rfl)
noncomputable abbrev cu2 : List BRow := []
theorem cu2_ok {p : P} (q : EkC p 2) : ∀ r ∈ cu2, IbOk (ivP p 0) r := ibNil
noncomputable abbrev RA2 (p : P) (h : TxOk p.x) (hz : p.fz = 0) (hu : p.i < p.lu) (he : p.ek = 2) (q : EkC p 2) : Rw (ivP p 0) (vvP p 0) (vkP p 0) (fgP p) (txP p 0) where
  vvp := vvPp p 0
  ib := rowsU ++ cu2
  ibok := by
    have h1 := h.t0
    exact catR (rLt (rGe (rEq ibNil))) (cu2_ok q)
  fl := [⟨0, 140, 1, 0, [elK 2]⟩]
  flok := flU_ok hz hu he
theorem kA2f : ∀ (z : Bool) p h hz hu he q, firstTo (Pt (RA2 p h hz hu he q)) Tryz.prog (KTx 2) 3000 Tryz.f4.ntmps 3 cAB (frOf ((67, .bool true) :: fsS false z false)) (hS false) (cvT false 2) (vpST false) (fsT z false 2) (bsS' false) = true := fun z p h hz hu he q => by cases z <;> (as_aux_lemma => kernel_rfl)
theorem kA2t : ∀ (z : Bool) p h hz hu he q, firstTo (Pt (RA2 p h hz hu he q)) Tryz.prog (KTx 2) 3000 Tryz.f4.ntmps 3 cAB (frOf ((67, .bool true) :: fsS false z true)) (hS true) (cvT true 2) (vpST true) (fsT z true 2) (bsS' true) = true := fun z p h hz hu he q => by cases z <;> (as_aux_lemma => kernel_rfl)
noncomputable abbrev cu3 : List BRow := []
theorem cu3_ok {p : P} (q : EkC p 3) : ∀ r ∈ cu3, IbOk (ivP p 0) r := ibNil
noncomputable abbrev RA3 (p : P) (h : TxOk p.x) (hz : p.fz = 0) (hu : p.i < p.lu) (he : p.ek = 3) (q : EkC p 3) : Rw (ivP p 0) (vvP p 0) (vkP p 0) (fgP p) (txP p 0) where
  vvp := vvPp p 0
  ib := rowsU ++ cu3
  ibok := by
    have h1 := h.t0
    exact catR (rLt (rGe (rEq ibNil))) (cu3_ok q)
  fl := [⟨0, 140, 1, 0, [elK 3]⟩]
  flok := flU_ok hz hu he
theorem kA3f : ∀ (z : Bool) p h hz hu he q, firstTo (Pt (RA3 p h hz hu he q)) Tryz.prog (KTx 3) 3000 Tryz.f4.ntmps 3 cAB (frOf ((67, .bool true) :: fsS false z false)) (hS false) (cvT false 3) (vpST false) (fsT z false 3) (bsS' false) = true := fun z p h hz hu he q => by cases z <;> (as_aux_lemma => kernel_rfl)
theorem kA3t : ∀ (z : Bool) p h hz hu he q, firstTo (Pt (RA3 p h hz hu he q)) Tryz.prog (KTx 3) 3000 Tryz.f4.ntmps 3 cAB (frOf ((67, .bool true) :: fsS false z true)) (hS true) (cvT true 3) (vpST true) (fsT z true 3) (bsS' true) = true := fun z p h hz hu he q => by cases z <;> (as_aux_lemma => kernel_rfl)
end Go.Proofs.YtkkaifeiopjjdaaGreatDoor.bd
