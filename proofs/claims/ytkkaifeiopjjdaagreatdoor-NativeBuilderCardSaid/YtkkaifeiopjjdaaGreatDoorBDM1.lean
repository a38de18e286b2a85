/-
  The law NativeBuilder: a text is appended: runs.
-/
import Derived.Test.YtkkaifeiopjjdaaGreatDoorBDL
set_option linter.unusedVariables false
set_option linter.unusedSimpArgs false
set_option linter.unusedSectionVars false
set_option maxRecDepth 1000000
set_option maxHeartbeats 0
namespace Go.Proofs.YtkkaifeiopjjdaaGreatDoor.bd
open Go.X Go.RowKit Go.Proofs
noncomputable abbrev apS : AV := .str 6 110425311047777
noncomputable abbrev stS : AV := .str 16 137483774941304901841256615957136564586
noncomputable abbrev kbB : BL := [b6644, b6645, b6646, b9448]
noncomputable abbrev kbS : BL := [b6644, b6645, b6646, b9391]
noncomputable def naI (m d : AV) (N n k : Nat) : In := ⟨11, [sbS, m, d], N, [], .int .i64 (n : Int), Nat.add N k, []⟩
noncomputable def ibI (N : Nat) : In := ⟨53, [.ptr 6646 0, sbS, sbS], N, kbB, .bool true, Nat.add N 7, kbB⟩
noncomputable def isI (N : Nat) : In := ⟨53, [.ptr 6646 0, stS, stS], N, kbS, .bool true, Nat.add N 7, kbS⟩
noncomputable def naL20010 : In := naI apS (.str 45 545365161084908818682307871509240926086432362262523517738950247884810123871997999633158636370693479484509224) 20010 15 33
theorem naL20010_ok {T : Tab} : @InOk Tryz.prog naL20010 T := @InOk.of_run Tryz.prog T KN mixed (@KN_ok T) 5000 _ (by kernel_rfl) (by as_aux_lemma => kernel_rfl)
noncomputable def ib20045 : In := ibI 20045
theorem ib20045_ok {T : Tab} : @InOk Tryz.prog ib20045 T := @InOk.of_run Tryz.prog T KN mixed (@KN_ok T) 5000 _ (by kernel_rfl) (by as_aux_lemma => kernel_rfl)
theorem gbA20052 : GBA 20052 := fun p h b h0 => by as_aux_lemma => kernel_rfl
theorem geA20052 : GEA 20052 := fun p k => by as_aux_lemma => kernel_rfl
noncomputable def chA20052 : In := chIA 20052
theorem chA20052_ok {p : P} (h : TxOk p.x) (b : TextOk p.x p.sa p.ia p.pl p.A) (h0 : 0 < p.pl) : @InOk Tryz.prog chA20052 (TP p) := chIA_ok h b h0 gbA20052 geA20052 (by decide) (by kernel_rfl) (by kernel_rfl) (by kernel_rfl) (by kernel_rfl) (by kernel_rfl)
noncomputable def is20062 : In := isI 20062
theorem is20062_ok {T : Tab} : @InOk Tryz.prog is20062 T := @InOk.of_run Tryz.prog T KN mixed (@KN_ok T) 5000 _ (by kernel_rfl) (by as_aux_lemma => kernel_rfl)
theorem gbB20069 : GBB 20069 := fun p h b h0 => by as_aux_lemma => kernel_rfl
theorem geB20069 : GEB 20069 := fun p k => by as_aux_lemma => kernel_rfl
noncomputable def chB20069 : In := chIB 20069
theorem chB20069_ok {p : P} (h : TxOk p.x) (b : TextOk p.x p.sb p.ix p.lt p.C) (h0 : 0 < p.lt) : @InOk Tryz.prog chB20069 (TP p) := chIB_ok h b h0 gbB20069 geB20069 (by decide) (by kernel_rfl) (by kernel_rfl) (by kernel_rfl) (by kernel_rfl) (by kernel_rfl)
theorem ha20082_20081 : HAV 20082 20081 := fun p h => by as_aux_lemma => kernel_rfl
theorem hz20082_20081 : HZV 20082 20081 := fun p k => by as_aux_lemma => kernel_rfl
noncomputable def tx20082_20081 : In := txIV 20082 20081
theorem tx20082_20081_ok {p : P} (h : TxOk p.x) : @InOk Tryz.prog tx20082_20081 (TP p) := txIV_ok h ha20082_20081 hz20082_20081 (by decide) (by kernel_rfl) (by kernel_rfl) (by kernel_rfl) (by kernel_rfl) (by kernel_rfl)
noncomputable def chBz20069 : In := upIn (czIB 20069) 20079
theorem chBz20069_ok {p : P} (h : TxOk p.x) (b : TextOk p.x p.sb p.ix p.lt p.C) (hz : p.lt = 0) : @InOk Tryz.prog chBz20069 (TP p) := @upOk (TP p) Tryz.prog (czIB 20069) 20079 (by decide +kernel) (InOk.tab (Pt.same _ _) (@InOk.of_run Tryz.prog (Pt (RZB p h b hz)) KBB mixed (KBB_ok (k := 0) h b (Pt.same (R0 p 0) (RZB p h b hz))) 3000 (czIB 20069) (by kernel_rfl) (by as_aux_lemma => kernel_rfl)))
theorem ha20081_20080 : HAV 20081 20080 := fun p h => by as_aux_lemma => kernel_rfl
theorem hz20081_20080 : HZV 20081 20080 := fun p k => by as_aux_lemma => kernel_rfl
noncomputable def tx20081_20080 : In := txIV 20081 20080
theorem tx20081_20080_ok {p : P} (h : TxOk p.x) : @InOk Tryz.prog tx20081_20080 (TP p) := txIV_ok h ha20081_20080 hz20081_20080 (by decide) (by kernel_rfl) (by kernel_rfl) (by kernel_rfl) (by kernel_rfl) (by kernel_rfl)
noncomputable def chAz20052 : In := upIn (czIA 20052) 20062
theorem chAz20052_ok {p : P} (h : TxOk p.x) (b : TextOk p.x p.sa p.ia p.pl p.A) (hz : p.pl = 0) : @InOk Tryz.prog chAz20052 (TP p) := @upOk (TP p) Tryz.prog (czIA 20052) 20062 (by decide +kernel) (InOk.tab (Pt.same _ _) (@InOk.of_run Tryz.prog (Pt (RZA p h b hz)) KBA mixed (KBA_ok (k := 0) h b (Pt.same (R0 p 0) (RZA p h b hz))) 3000 (czIA 20052) (by kernel_rfl) (by as_aux_lemma => kernel_rfl)))
noncomputable def te20080 : In := teI 20080 (.sl 20079 0 0 0) []
theorem he20080 : HE 20080 (.sl 20079 0 0 0) [] := fun p h hz => by as_aux_lemma => kernel_rfl
theorem te20080_ok {p : P} (h : TxOk p.x) (hz : p.x.la = 0) : @InOk Tryz.prog te20080 (TP p) := teI_ok h hz he20080 (by kernel_rfl) (by kernel_rfl) (by kernel_rfl) (by kernel_rfl)
/- a text is appended -/
noncomputable abbrev rowsQ : List BRow := (9, .oi 121, .int .i64 0, .bool false) :: rowsGA
noncomputable abbrev icQ : List (IntKind × AV × AV) := [(.i64, .oi 121, .oi 121), (.i64, .oi 125, .oi 100)]
theorem icQ_ok {p : P} (o : Ok p) (bA : TextOk p.x p.sa p.ia p.pl p.A) : ∀ r ∈ icQ, IcOk' (ivP p 0) r := by
  have h1 := bA.room; have h2 := o.x.t2; have h3 := t1_gt p.x; have h4 := bA.n7
  exact rConv (rConv icNil)
theorem rowsQ_ok {p : P} (o : Ok p) (bA : TextOk p.x p.sa p.ia p.pl p.A) : ∀ r ∈ rowsQ, IbOk (ivP p 0) r := rEq (rowsGA_ok o.x bA)
noncomputable abbrev RA2Ff (p : P) (o : Ok p) (j : Jn p) (bA : TextOk p.x p.sa p.ia p.pl p.A) (hf : (fgP p).fv 1 = numV .u16 p.pl p.A) (hp : 0 < p.pl) (hl : 0 < p.lt) : Rw (ivP p 0) (vvP p 0) (vkP p 0) (fgP p) (txP p 0) where
  vvp := vvPp p 0
  ib := rowsO ++ (rowsP ++ rowsQ)
  ibok := catR (rowsO_ok o) (catR (rowsP_ok o) (rowsQ_ok o bA))
  ic := icO ++ icQ
  icok := catR (icO_ok o) (icQ_ok o bA)
  vl := vlO ++ (vlP ++ vlGA)
  vlok := catR (vlO_ok o) (catR (vlP_ok o) (vlGA_ok o.x bA))
  vs := [⟨3, 96, 1, 0, [.oi 99], 70⟩]
  vsok := vsP_ok o
  vc := [(0, 97), (2, 96)]
  vcok := vcO_ok
  vb := [⟨true, 0, 0, 1, true, 50, 84, 50, 84⟩, ⟨false, 50, 84, 1, true, 60, 100, 5, 0⟩, ⟨false, 50, 84, 1, false, 1, 100, 5, 0⟩]
  vbok := vbC o hl (vbJ o j hp (vbJ o j hp (allNil) hf) rfl)
noncomputable abbrev KA2Ff : Hand := (inHand naL20010).or ((inHand ib20045).or ((inHand chA20052).or ((inHand is20062).or ((inHand chB20069).or ((inHand tx20082_20081).or ((KO).or ((KBA).or ((KBB).or ((KP))))))))))
theorem KA2Ff_ok {p : P} {T : Tab} (o : Ok p) (j : Jn p) (bA : TextOk p.x p.sa p.ia p.pl p.A) (hf : (fgP p).fv 1 = numV .u16 p.pl p.A) (hp : 0 < p.pl) (hl : 0 < p.lt) (e : SameTab (TP p) T) : @HandOk T Tryz.prog KA2Ff := by
  letI := T
  exact HandOk.or (inHand_ok naL20010_ok (by kernel_rfl)) (HandOk.or (inHand_ok ib20045_ok (by kernel_rfl)) (HandOk.or (inHand_ok (InOk.tab e (chA20052_ok o.x bA hp)) (by kernel_rfl)) (HandOk.or (inHand_ok is20062_ok (by kernel_rfl)) (HandOk.or (inHand_ok (InOk.tab e (chB20069_ok o.x o.b hl)) (by kernel_rfl)) (HandOk.or (inHand_ok (InOk.tab e (tx20082_20081_ok o.x)) (by kernel_rfl)) (HandOk.or (KO_ok (k := 0) o.x e) (HandOk.or (KBA_ok (k := 0) o.x bA e) (HandOk.or (KBB_ok (k := 0) o.x o.b e) (KP_ok (k := 0) o e)))))))))
noncomputable abbrev cvA2Ff : Cv := ⟨20000, 20010, ofPairs [(20001, 20083), (20002, 20084), (20003, 20122)], (.oi 140, 140) :: (.oi 3, 1) :: (.oi 7, 2) :: (.oi 0, 84) :: ipB⟩
theorem kA2Ff : ∀ (z : Bool) p o j bA hf hp hl, runTo (Pt (RA2Ff p o j bA hf hp hl)) Tryz.prog KA2Ff 5000 Tryz.f4.ntmps (restn 3 cAB) (frOf (fsT z false 0)) (hS false) .normal cvA2Ff [(20083, .vec 70, 0), (20084, .vec 4, 1), (20122, .vec 5, 50)] (fsS false z false) (bsS false 20083 20084 20122) = true := fun z p o j bA hf hp hl => by cases z <;> (as_aux_lemma => kernel_rfl)
noncomputable abbrev RA2Ft (p : P) (o : Ok p) (j : Jn p) (bA : TextOk p.x p.sa p.ia p.pl p.A) (hf : (fgP p).fv 1 = numV .u16 p.pl p.A) (hp : 0 < p.pl) (hl : p.lt = 0) : Rw (ivP p 0) (vvP p 0) (vkP p 0) (fgP p) (txP p 0) where
  vvp := vvPp p 0
  ib := rowsO ++ (rowsP ++ rowsQ)
  ibok := catR (rowsO_ok o) (catR (rowsP_ok o) (rowsQ_ok o bA))
  ic := icO ++ icQ
  icok := catR (icO_ok o) (icQ_ok o bA)
  vl := vlO ++ (vlP ++ vlGA)
  vlok := catR (vlO_ok o) (catR (vlP_ok o) (vlGA_ok o.x bA))
  vs := [⟨3, 96, 1, 0, [.oi 99], 70⟩]
  vsok := vsP_ok o
  vc := [(0, 97), (2, 96)]
  vcok := vcO_ok
  vb := [⟨true, 0, 0, 1, true, 60, 100, 5, 0⟩, ⟨true, 0, 0, 1, false, 1, 100, 5, 0⟩]
  vbok := vbZ o j hp hl (vbZ o j hp hl (allNil) hf) rfl
noncomputable abbrev KA2Ft : Hand := (inHand naL20010).or ((inHand ib20045).or ((inHand chA20052).or ((inHand is20062).or ((inHand chBz20069).or ((inHand tx20081_20080).or ((KO).or ((KBA).or ((KBB).or ((KP))))))))))
theorem KA2Ft_ok {p : P} {T : Tab} (o : Ok p) (j : Jn p) (bA : TextOk p.x p.sa p.ia p.pl p.A) (hf : (fgP p).fv 1 = numV .u16 p.pl p.A) (hp : 0 < p.pl) (hl : p.lt = 0) (e : SameTab (TP p) T) : @HandOk T Tryz.prog KA2Ft := by
  letI := T
  exact HandOk.or (inHand_ok naL20010_ok (by kernel_rfl)) (HandOk.or (inHand_ok ib20045_ok (by kernel_rfl)) (HandOk.or (inHand_ok (InOk.tab e (chA20052_ok o.x bA hp)) (by kernel_rfl)) (HandOk.or (inHand_ok is20062_ok (by kernel_rfl)) (HandOk.or (inHand_ok (InOk.tab e (chBz20069_ok o.x o.b hl)) (by kernel_rfl)) (HandOk.or (inHand_ok (InOk.tab e (tx20081_20080_ok o.x)) (by kernel_rfl)) (HandOk.or (KO_ok (k := 0) o.x e) (HandOk.or (KBA_ok (k := 0) o.x bA e) (HandOk.or (KBB_ok (k := 0) o.x o.b e) (KP_ok (k := 0) o e)))))))))
noncomputable abbrev cvA2Ft : Cv := ⟨20000, 20010, ofPairs [(20001, 20082), (20002, 20083), (20003, 20121)], (.oi 140, 140) :: (.oi 3, 1) :: (.oi 7, 2) :: (.oi 0, 84) :: ipB⟩
theorem kA2Ft : ∀ (z : Bool) p o j bA hf hp hl, runTo (Pt (RA2Ft p o j bA hf hp hl)) Tryz.prog KA2Ft 5000 Tryz.f4.ntmps (restn 3 cAB) (frOf (fsT z true 0)) (hS true) .normal cvA2Ft [(20082, .vec 70, 0), (20083, .vec 4, 1), (20121, .vec 5, 50)] (fsS false z false) (bsS false 20082 20083 20121) = true := fun z p o j bA hf hp hl => by cases z <;> (as_aux_lemma => kernel_rfl)
noncomputable abbrev RA2nf (p : P) (o : Ok p) (j : Jn p) (bA : TextOk p.x p.sa p.ia p.pl p.A) (hf : (fgP p).fv 1 = numV .u16 p.pl p.A) (hp : p.pl = 0) (hl : 0 < p.lt) : Rw (ivP p 0) (vvP p 0) (vkP p 0) (fgP p) (txP p 0) where
  vvp := vvPp p 0
  ib := rowsO ++ (rowsP ++ rowsQ)
  ibok := catR (rowsO_ok o) (catR (rowsP_ok o) (rowsQ_ok o bA))
  ic := icO ++ icQ
  icok := catR (icO_ok o) (icQ_ok o bA)
  vl := vlO ++ (vlP ++ vlGA)
  vlok := catR (vlO_ok o) (catR (vlP_ok o) (vlGA_ok o.x bA))
  vs := [⟨3, 96, 1, 0, [.oi 99], 70⟩]
  vsok := vsP_ok o
  vc := [(0, 97), (2, 96)]
  vcok := vcO_ok
  vb := [⟨true, 0, 0, 1, true, 50, 84, 50, 84⟩]
  vbok := vbC o hl (allNil)
  va := [⟨50, 84, 1, [], 5, 0⟩]
  vaok := vaN o j hp
noncomputable abbrev KA2nf : Hand := (inHand naL20010).or ((inHand ib20045).or ((inHand chAz20052).or ((inHand is20062).or ((inHand chB20069).or ((inHand tx20082_20081).or ((KO).or ((KBA).or ((KBB).or ((KP))))))))))
theorem KA2nf_ok {p : P} {T : Tab} (o : Ok p) (j : Jn p) (bA : TextOk p.x p.sa p.ia p.pl p.A) (hf : (fgP p).fv 1 = numV .u16 p.pl p.A) (hp : p.pl = 0) (hl : 0 < p.lt) (e : SameTab (TP p) T) : @HandOk T Tryz.prog KA2nf := by
  letI := T
  exact HandOk.or (inHand_ok naL20010_ok (by kernel_rfl)) (HandOk.or (inHand_ok ib20045_ok (by kernel_rfl)) (HandOk.or (inHand_ok (InOk.tab e (chAz20052_ok o.x bA hp)) (by kernel_rfl)) (HandOk.or (inHand_ok is20062_ok (by kernel_rfl)) (HandOk.or (inHand_ok (InOk.tab e (chB20069_ok o.x o.b hl)) (by kernel_rfl)) (HandOk.or (inHand_ok (InOk.tab e (tx20082_20081_ok o.x)) (by kernel_rfl)) (HandOk.or (KO_ok (k := 0) o.x e) (HandOk.or (KBA_ok (k := 0) o.x bA e) (HandOk.or (KBB_ok (k := 0) o.x o.b e) (KP_ok (k := 0) o e)))))))))
noncomputable abbrev cvA2nf : Cv := ⟨20000, 20010, ofPairs [(20001, 20083), (20002, 20084), (20003, 20122)], (.oi 140, 140) :: (.oi 3, 1) :: (.oi 7, 2) :: (.oi 0, 84) :: ipB⟩
theorem kA2nf : ∀ (z : Bool) p o j bA hf hp hl, runTo (Pt (RA2nf p o j bA hf hp hl)) Tryz.prog KA2nf 5000 Tryz.f4.ntmps (restn 3 cAB) (frOf (fsT z false 2)) (hS false) .normal cvA2nf [(20083, .vec 70, 0), (20084, .vec 4, 1), (20122, .vec 5, 50)] (fsS false z false) (bsS false 20083 20084 20122) = true := fun z p o j bA hf hp hl => by cases z <;> (as_aux_lemma => kernel_rfl)
noncomputable abbrev RA2nt (p : P) (o : Ok p) (j : Jn p) (bA : TextOk p.x p.sa p.ia p.pl p.A) (hf : (fgP p).fv 1 = numV .u16 p.pl p.A) (hp : p.pl = 0) (hl : p.lt = 0) : Rw (ivP p 0) (vvP p 0) (vkP p 0) (fgP p) (txP p 0) where
  vvp := vvPp p 0
  ib := rowsO ++ (rowsP ++ rowsQ)
  ibok := catR (rowsO_ok o) (catR (rowsP_ok o) (rowsQ_ok o bA))
  ic := icO ++ icQ
  icok := catR (icO_ok o) (icQ_ok o bA)
  vl := vlO ++ (vlP ++ vlGA)
  vlok := catR (vlO_ok o) (catR (vlP_ok o) (vlGA_ok o.x bA))
  vs := [⟨3, 96, 1, 0, [.oi 99], 70⟩]
  vsok := vsP_ok o
  vc := [(0, 97), (2, 96)]
  vcok := vcO_ok
noncomputable abbrev KA2nt : Hand := (inHand naL20010).or ((inHand ib20045).or ((inHand chAz20052).or ((inHand is20062).or ((inHand chBz20069).or ((inHand te20080).or ((KO).or ((KBA).or ((KBB).or ((KP))))))))))
theorem KA2nt_ok {p : P} {T : Tab} (o : Ok p) (j : Jn p) (bA : TextOk p.x p.sa p.ia p.pl p.A) (hf : (fgP p).fv 1 = numV .u16 p.pl p.A) (hp : p.pl = 0) (hl : p.lt = 0) (e : SameTab (TP p) T) : @HandOk T Tryz.prog KA2nt := by
  letI := T
  exact HandOk.or (inHand_ok naL20010_ok (by kernel_rfl)) (HandOk.or (inHand_ok ib20045_ok (by kernel_rfl)) (HandOk.or (inHand_ok (InOk.tab e (chAz20052_ok o.x bA hp)) (by kernel_rfl)) (HandOk.or (inHand_ok is20062_ok (by kernel_rfl)) (HandOk.or (inHand_ok (InOk.tab e (chBz20069_ok o.x o.b hl)) (by kernel_rfl)) (HandOk.or (inHand_ok (InOk.tab e (te20080_ok o.x (by have h1 := j.la; omega))) (by kernel_rfl)) (HandOk.or (KO_ok (k := 0) o.x e) (HandOk.or (KBA_ok (k := 0) o.x bA e) (HandOk.or (KBB_ok (k := 0) o.x o.b e) (KP_ok (k := 0) o e)))))))))
noncomputable abbrev cvA2nt : Cv := ⟨20000, 20010, ofPairs [(20001, 20081), (20002, 20082)], (.oi 140, 140) :: (.oi 3, 1) :: (.oi 7, 2) ::  ipB⟩
theorem kA2nt : ∀ (z : Bool) p o j bA hf hp hl, runTo (Pt (RA2nt p o j bA hf hp hl)) Tryz.prog KA2nt 5000 Tryz.f4.ntmps (restn 3 cAB) (frOf (fsT z true 2)) (hS true) .normal cvA2nt [(20081, .vec 70, 0), (20082, .vec 4, 1)] (fsS false z true) (bsS true 20081 20082 20003) = true := fun z p o j bA hf hp hl => by cases z <;> (as_aux_lemma => kernel_rfl)
noncomputable abbrev RA2ef (p : P) (o : Ok p) (j : Jn p) (bA : TextOk p.x p.sa p.ia p.pl p.A) (hf : (fgP p).fv 1 = numV .u16 p.pl p.A) (hp : p.pl = 0) (hl : 0 < p.lt) : Rw (ivP p 0) (vvP p 0) (vkP p 0) (fgP p) (txP p 0) where
  vvp := vvPp p 0
  ib := rowsO ++ (rowsP ++ rowsQ)
  ibok := catR (rowsO_ok o) (catR (rowsP_ok o) (rowsQ_ok o bA))
  ic := icO ++ icQ
  icok := catR (icO_ok o) (icQ_ok o bA)
  vl := vlO ++ (vlP ++ vlGA)
  vlok := catR (vlO_ok o) (catR (vlP_ok o) (vlGA_ok o.x bA))
  vs := [⟨3, 96, 1, 0, [.oi 99], 70⟩]
  vsok := vsP_ok o
  vc := [(0, 97), (2, 96)]
  vcok := vcO_ok
  vb := [⟨true, 0, 0, 1, true, 50, 84, 50, 84⟩]
  vbok := vbC o hl (allNil)
  va := [⟨50, 84, 1, [], 5, 0⟩]
  vaok := vaN o j hp
noncomputable abbrev KA2ef : Hand := (inHand naL20010).or ((inHand ib20045).or ((inHand chAz20052).or ((inHand is20062).or ((inHand chB20069).or ((inHand tx20082_20081).or ((KO).or ((KBA).or ((KBB).or ((KP))))))))))
theorem KA2ef_ok {p : P} {T : Tab} (o : Ok p) (j : Jn p) (bA : TextOk p.x p.sa p.ia p.pl p.A) (hf : (fgP p).fv 1 = numV .u16 p.pl p.A) (hp : p.pl = 0) (hl : 0 < p.lt) (e : SameTab (TP p) T) : @HandOk T Tryz.prog KA2ef := by
  letI := T
  exact HandOk.or (inHand_ok naL20010_ok (by kernel_rfl)) (HandOk.or (inHand_ok ib20045_ok (by kernel_rfl)) (HandOk.or (inHand_ok (InOk.tab e (chAz20052_ok o.x bA hp)) (by kernel_rfl)) (HandOk.or (inHand_ok is20062_ok (by kernel_rfl)) (HandOk.or (inHand_ok (InOk.tab e (chB20069_ok o.x o.b hl)) (by kernel_rfl)) (HandOk.or (inHand_ok (InOk.tab e (tx20082_20081_ok o.x)) (by kernel_rfl)) (HandOk.or (KO_ok (k := 0) o.x e) (HandOk.or (KBA_ok (k := 0) o.x bA e) (HandOk.or (KBB_ok (k := 0) o.x o.b e) (KP_ok (k := 0) o e)))))))))
noncomputable abbrev cvA2ef : Cv := ⟨20000, 20010, ofPairs [(20001, 20083), (20002, 20084), (20003, 20122)], (.oi 140, 140) :: (.oi 3, 1) :: (.oi 7, 2) :: (.oi 0, 84) :: ipB⟩
theorem kA2ef : ∀ (z : Bool) p o j bA hf hp hl, runTo (Pt (RA2ef p o j bA hf hp hl)) Tryz.prog KA2ef 5000 Tryz.f4.ntmps (restn 3 cAB) (frOf (fsT z false 3)) (hS false) .normal cvA2ef [(20083, .vec 70, 0), (20084, .vec 4, 1), (20122, .vec 5, 50)] (fsS false z false) (bsS false 20083 20084 20122) = true := fun z p o j bA hf hp hl => by cases z <;> (as_aux_lemma => kernel_rfl)
noncomputable abbrev RA2et (p : P) (o : Ok p) (j : Jn p) (bA : TextOk p.x p.sa p.ia p.pl p.A) (hf : (fgP p).fv 1 = numV .u16 p.pl p.A) (hp : p.pl = 0) (hl : p.lt = 0) : Rw (ivP p 0) (vvP p 0) (vkP p 0) (fgP p) (txP p 0) where
  vvp := vvPp p 0
  ib := rowsO ++ (rowsP ++ rowsQ)
  ibok := catR (rowsO_ok o) (catR (rowsP_ok o) (rowsQ_ok o bA))
  ic := icO ++ icQ
  icok := catR (icO_ok o) (icQ_ok o bA)
  vl := vlO ++ (vlP ++ vlGA)
  vlok := catR (vlO_ok o) (catR (vlP_ok o) (vlGA_ok o.x bA))
  vs := [⟨3, 96, 1, 0, [.oi 99], 70⟩]
  vsok := vsP_ok o
  vc := [(0, 97), (2, 96)]
  vcok := vcO_ok
noncomputable abbrev KA2et : Hand := (inHand naL20010).or ((inHand ib20045).or ((inHand chAz20052).or ((inHand is20062).or ((inHand chBz20069).or ((inHand te20080).or ((KO).or ((KBA).or ((KBB).or ((KP))))))))))
theorem KA2et_ok {p : P} {T : Tab} (o : Ok p) (j : Jn p) (bA : TextOk p.x p.sa p.ia p.pl p.A) (hf : (fgP p).fv 1 = numV .u16 p.pl p.A) (hp : p.pl = 0) (hl : p.lt = 0) (e : SameTab (TP p) T) : @HandOk T Tryz.prog KA2et := by
  letI := T
  exact HandOk.or (inHand_ok naL20010_ok (by kernel_rfl)) (HandOk.or (inHand_ok ib20045_ok (by kernel_rfl)) (HandOk.or (inHand_ok (InOk.tab e (chAz20052_ok o.x bA hp)) (by kernel_rfl)) (HandOk.or (inHand_ok is20062_ok (by kernel_rfl)) (HandOk.or (inHand_ok (InOk.tab e (chBz20069_ok o.x o.b hl)) (by kernel_rfl)) (HandOk.or (inHand_ok (InOk.tab e (te20080_ok o.x (by have h1 := j.la; omega))) (by kernel_rfl)) (HandOk.or (KO_ok (k := 0) o.x e) (HandOk.or (KBA_ok (k := 0) o.x bA e) (HandOk.or (KBB_ok (k := 0) o.x o.b e) (KP_ok (k := 0) o e)))))))))
noncomputable abbrev cvA2et : Cv := ⟨20000, 20010, ofPairs [(20001, 20081), (20002, 20082)], (.oi 140, 140) :: (.oi 3, 1) :: (.oi 7, 2) ::  ipB⟩
theorem kA2et : ∀ (z : Bool) p o j bA hf hp hl, runTo (Pt (RA2et p o j bA hf hp hl)) Tryz.prog KA2et 5000 Tryz.f4.ntmps (restn 3 cAB) (frOf (fsT z true 3)) (hS true) .normal cvA2et [(20081, .vec 70, 0), (20082, .vec 4, 1)] (fsS false z true) (bsS true 20081 20082 20003) = true := fun z p o j bA hf hp hl => by cases z <;> (as_aux_lemma => kernel_rfl)
end Go.Proofs.YtkkaifeiopjjdaaGreatDoor.bd
