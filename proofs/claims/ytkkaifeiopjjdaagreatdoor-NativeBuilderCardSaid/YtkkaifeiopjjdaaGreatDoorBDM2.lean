/-
  The law NativeBuilder: a number is appended: runs.
-/
import Derived.Test.YtkkaifeiopjjdaaGreatDoorBDM1
import Derived.Test.YtkkaifeiopjjdaaGreatDoorBDN
set_option linter.unusedVariables false
set_option linter.unusedSimpArgs false
set_option linter.unusedSectionVars false
set_option maxRecDepth 1000000
set_option maxHeartbeats 0
namespace Go.Proofs.YtkkaifeiopjjdaaGreatDoor.bd
open Go.X Go.RowKit Go.Proofs
noncomputable def naI20011 : In := naI apS (.str 28 6260485019439425252614312435813236600861718953314767591699208816936) 20011 16 34
theorem naI20011_ok {T : Tab} : @InOk Tryz.prog naI20011 T := @InOk.of_run Tryz.prog T KN mixed (@KN_ok T) 5000 _ (by kernel_rfl) (by as_aux_lemma => kernel_rfl)
noncomputable def ib20047 : In := ibI 20047
theorem ib20047_ok {T : Tab} : @InOk Tryz.prog ib20047 T := @InOk.of_run Tryz.prog T KN mixed (@KN_ok T) 5000 _ (by kernel_rfl) (by as_aux_lemma => kernel_rfl)
theorem gbB20055 : GBB 20055 := fun p h b h0 => by as_aux_lemma => kernel_rfl
theorem geB20055 : GEB 20055 := fun p k => by as_aux_lemma => kernel_rfl
noncomputable def chB20055 : In := chIB 20055
theorem chB20055_ok {p : P} (h : TxOk p.x) (b : TextOk p.x p.sb p.ix p.lt p.C) (h0 : 0 < p.lt) : @InOk Tryz.prog chB20055 (TP p) := chIB_ok h b h0 gbB20055 geB20055 (by decide) (by kernel_rfl) (by kernel_rfl) (by kernel_rfl) (by kernel_rfl) (by kernel_rfl)
theorem ha20068_20067 : HAV 20068 20067 := fun p h => by as_aux_lemma => kernel_rfl
theorem hz20068_20067 : HZV 20068 20067 := fun p k => by as_aux_lemma => kernel_rfl
noncomputable def tx20068_20067 : In := txIV 20068 20067
theorem tx20068_20067_ok {p : P} (h : TxOk p.x) : @InOk Tryz.prog tx20068_20067 (TP p) := txIV_ok h ha20068_20067 hz20068_20067 (by decide) (by kernel_rfl) (by kernel_rfl) (by kernel_rfl) (by kernel_rfl) (by kernel_rfl)
noncomputable def chBz20055 : In := upIn (czIB 20055) 20065
theorem chBz20055_ok {p : P} (h : TxOk p.x) (b : TextOk p.x p.sb p.ix p.lt p.C) (hz : p.lt = 0) : @InOk Tryz.prog chBz20055 (TP p) := @upOk (TP p) Tryz.prog (czIB 20055) 20065 (by decide +kernel) (InOk.tab (Pt.same _ _) (@InOk.of_run Tryz.prog (Pt (RZB p h b hz)) KBB mixed (KBB_ok (k := 0) h b (Pt.same (R0 p 0) (RZB p h b hz))) 3000 (czIB 20055) (by kernel_rfl) (by as_aux_lemma => kernel_rfl)))
theorem ha20067_20066 : HAV 20067 20066 := fun p h => by as_aux_lemma => kernel_rfl
theorem hz20067_20066 : HZV 20067 20066 := fun p k => by as_aux_lemma => kernel_rfl
noncomputable def tx20067_20066 : In := txIV 20067 20066
theorem tx20067_20066_ok {p : P} (h : TxOk p.x) : @InOk Tryz.prog tx20067_20066 (TP p) := txIV_ok h ha20067_20066 hz20067_20066 (by decide) (by kernel_rfl) (by kernel_rfl) (by kernel_rfl) (by kernel_rfl) (by kernel_rfl)
noncomputable def naJ20011 : In := naI apS (.str 28 6260485019439425252614312435813236600861718953314767591699208817192) 20011 17 35
theorem naJ20011_ok {T : Tab} : @InOk Tryz.prog naJ20011 T := @InOk.of_run Tryz.prog T KN mixed (@KN_ok T) 5000 _ (by kernel_rfl) (by as_aux_lemma => kernel_rfl)
noncomputable def ib20048 : In := ibI 20048
theorem ib20048_ok {T : Tab} : @InOk Tryz.prog ib20048 T := @InOk.of_run Tryz.prog T KN mixed (@KN_ok T) 5000 _ (by kernel_rfl) (by as_aux_lemma => kernel_rfl)
theorem gbB20056 : GBB 20056 := fun p h b h0 => by as_aux_lemma => kernel_rfl
theorem geB20056 : GEB 20056 := fun p k => by as_aux_lemma => kernel_rfl
noncomputable def chB20056 : In := chIB 20056
theorem chB20056_ok {p : P} (h : TxOk p.x) (b : TextOk p.x p.sb p.ix p.lt p.C) (h0 : 0 < p.lt) : @InOk Tryz.prog chB20056 (TP p) := chIB_ok h b h0 gbB20056 geB20056 (by decide) (by kernel_rfl) (by kernel_rfl) (by kernel_rfl) (by kernel_rfl) (by kernel_rfl)
theorem ha20069_20068 : HAV 20069 20068 := fun p h => by as_aux_lemma => kernel_rfl
theorem hz20069_20068 : HZV 20069 20068 := fun p k => by as_aux_lemma => kernel_rfl
noncomputable def tx20069_20068 : In := txIV 20069 20068
theorem tx20069_20068_ok {p : P} (h : TxOk p.x) : @InOk Tryz.prog tx20069_20068 (TP p) := txIV_ok h ha20069_20068 hz20069_20068 (by decide) (by kernel_rfl) (by kernel_rfl) (by kernel_rfl) (by kernel_rfl) (by kernel_rfl)
noncomputable def naC20011 : In := naI apS (.str 28 6260485019439425252614312435813236600861718953314767591699208815400) 20011 18 36
theorem naC20011_ok {T : Tab} : @InOk Tryz.prog naC20011 T := @InOk.of_run Tryz.prog T KN mixed (@KN_ok T) 5000 _ (by kernel_rfl) (by as_aux_lemma => kernel_rfl)
noncomputable def ib20049 : In := ibI 20049
theorem ib20049_ok {T : Tab} : @InOk Tryz.prog ib20049 T := @InOk.of_run Tryz.prog T KN mixed (@KN_ok T) 5000 _ (by kernel_rfl) (by as_aux_lemma => kernel_rfl)
theorem gbB20057 : GBB 20057 := fun p h b h0 => by as_aux_lemma => kernel_rfl
theorem geB20057 : GEB 20057 := fun p k => by as_aux_lemma => kernel_rfl
noncomputable def chB20057 : In := chIB 20057
theorem chB20057_ok {p : P} (h : TxOk p.x) (b : TextOk p.x p.sb p.ix p.lt p.C) (h0 : 0 < p.lt) : @InOk Tryz.prog chB20057 (TP p) := chIB_ok h b h0 gbB20057 geB20057 (by decide) (by kernel_rfl) (by kernel_rfl) (by kernel_rfl) (by kernel_rfl) (by kernel_rfl)
theorem ha20070_20069 : HAV 20070 20069 := fun p h => by as_aux_lemma => kernel_rfl
theorem hz20070_20069 : HZV 20070 20069 := fun p k => by as_aux_lemma => kernel_rfl
noncomputable def tx20070_20069 : In := txIV 20070 20069
theorem tx20070_20069_ok {p : P} (h : TxOk p.x) : @InOk Tryz.prog tx20070_20069 (TP p) := txIV_ok h ha20070_20069 hz20070_20069 (by decide) (by kernel_rfl) (by kernel_rfl) (by kernel_rfl) (by kernel_rfl) (by kernel_rfl)
noncomputable def naZ20019 : In := naI apS (.str 28 6260485019439425252614312435813236600861718953314767591699208821288) 20019 19 37
theorem naZ20019_ok {T : Tab} : @InOk Tryz.prog naZ20019 T := @InOk.of_run Tryz.prog T KN mixed (@KN_ok T) 5000 _ (by kernel_rfl) (by as_aux_lemma => kernel_rfl)
noncomputable def ib20058 : In := ibI 20058
theorem ib20058_ok {T : Tab} : @InOk Tryz.prog ib20058 T := @InOk.of_run Tryz.prog T KN mixed (@KN_ok T) 5000 _ (by kernel_rfl) (by as_aux_lemma => kernel_rfl)
theorem gbB20074 : GBB 20074 := fun p h b h0 => by as_aux_lemma => kernel_rfl
theorem geB20074 : GEB 20074 := fun p k => by as_aux_lemma => kernel_rfl
noncomputable def chB20074 : In := chIB 20074
theorem chB20074_ok {p : P} (h : TxOk p.x) (b : TextOk p.x p.sb p.ix p.lt p.C) (h0 : 0 < p.lt) : @InOk Tryz.prog chB20074 (TP p) := chIB_ok h b h0 gbB20074 geB20074 (by decide) (by kernel_rfl) (by kernel_rfl) (by kernel_rfl) (by kernel_rfl) (by kernel_rfl)
theorem ha20087_20086 : HAV 20087 20086 := fun p h => by as_aux_lemma => kernel_rfl
theorem hz20087_20086 : HZV 20087 20086 := fun p k => by as_aux_lemma => kernel_rfl
noncomputable def tx20087_20086 : In := txIV 20087 20086
theorem tx20087_20086_ok {p : P} (h : TxOk p.x) : @InOk Tryz.prog tx20087_20086 (TP p) := txIV_ok h ha20087_20086 hz20087_20086 (by decide) (by kernel_rfl) (by kernel_rfl) (by kernel_rfl) (by kernel_rfl) (by kernel_rfl)
noncomputable def naZ20021 : In := naI apS (.str 28 6260485019439425252614312435813236600861718953314767591699208821288) 20021 19 37
theorem naZ20021_ok {T : Tab} : @InOk Tryz.prog naZ20021 T := @InOk.of_run Tryz.prog T KN mixed (@KN_ok T) 5000 _ (by kernel_rfl) (by as_aux_lemma => kernel_rfl)
noncomputable def ib20060 : In := ibI 20060
theorem ib20060_ok {T : Tab} : @InOk Tryz.prog ib20060 T := @InOk.of_run Tryz.prog T KN mixed (@KN_ok T) 5000 _ (by kernel_rfl) (by as_aux_lemma => kernel_rfl)
theorem gbB20078 : GBB 20078 := fun p h b h0 => by as_aux_lemma => kernel_rfl
theorem geB20078 : GEB 20078 := fun p k => by as_aux_lemma => kernel_rfl
noncomputable def chB20078 : In := chIB 20078
theorem chB20078_ok {p : P} (h : TxOk p.x) (b : TextOk p.x p.sb p.ix p.lt p.C) (h0 : 0 < p.lt) : @InOk Tryz.prog chB20078 (TP p) := chIB_ok h b h0 gbB20078 geB20078 (by decide) (by kernel_rfl) (by kernel_rfl) (by kernel_rfl) (by kernel_rfl) (by kernel_rfl)
theorem ha20091_20090 : HAV 20091 20090 := fun p h => by as_aux_lemma => kernel_rfl
theorem hz20091_20090 : HZV 20091 20090 := fun p k => by as_aux_lemma => kernel_rfl
noncomputable def tx20091_20090 : In := txIV 20091 20090
theorem tx20091_20090_ok {p : P} (h : TxOk p.x) : @InOk Tryz.prog tx20091_20090 (TP p) := txIV_ok h ha20091_20090 hz20091_20090 (by decide) (by kernel_rfl) (by kernel_rfl) (by kernel_rfl) (by kernel_rfl) (by kernel_rfl)
/- a number is appended -/
noncomputable abbrev rowsN (k : Int) : List BRow := [(11, .oi 140, .oi 144, .bool true), (14, .oi 140, .int .i64 0, .bool true), (4, .oi 140, .int .i64 4, .int .i64 k)]
theorem rowsN_ok {p : P} {c : Nat} (hi : p.i < p.ln) (hk : p.i % 4 = c) : ∀ r ∈ rowsN (c : Int), IbOk (ivP p 0) r := by
  exact rLt (rGe (rRem ibNil))
theorem rAndK {iv : Nat → IntKind × Int} {x y z : AV} {l : List BRow} {K : IntKind} {a b c : Int} (k : ∀ r ∈ l, IbOk iv r) (hx : denI iv x = some (K, a) := by exact rfl) (hy : denI iv y = some (K, b) := by exact rfl) (hz : denI iv z = some (K, c) := by exact rfl) (h : K.wrap (BitVec.ofInt K.bits a &&& BitVec.ofInt K.bits b).toNat = c) : ∀ q ∈ (5, x, y, z) :: l, IbOk iv q := ibCons (ibAnd hx hy hz h) k
theorem flN_ok {p : P} {y : Nat} (hi : p.i < p.ln) (hy : ivP p 0 y = (.i64, p.ns p.i)) : ∀ r ∈ ([⟨2, 140, 1, 0, [.oi y]⟩] : List VL), FlOk (ivP p 0) (fgP p) r := fgN allNil (n := p.ln) (e := p.ns) (hy := hy)
theorem va1_ok {p : P} (o : Ok p) (j : Jn p) (h1 : p.pl = 1) : ∀ r ∈ ([⟨50, 84, 1, [.oi 102], 5, 0⟩] : List VA), VaOk (ivP p 0) (vvP p 0) (vkP p 0) r := vaJ o j h1.symm fun m hm => by
  obtain rfl : m = 0 := by omega
  exact ⟨_, rfl, rfl⟩
def chT : Nat → Int := fun m => ([116, 114, 117, 101] : List Int).getD m 0
def chF : Nat → Int := fun m => ([102, 97, 108, 115, 101] : List Int).getD m 0
theorem vaT_ok {p : P} (o : Ok p) (j : Jn p) (h1 : p.pl = 4) (hA : p.A = chT) : ∀ r ∈ ([⟨50, 84, 1, [.int .u16 116, .int .u16 114, .int .u16 117, .int .u16 101], 5, 0⟩] : List VA), VaOk (ivP p 0) (vvP p 0) (vkP p 0) r := vaJ o j h1.symm fun m hm => by
  rw [hA]
  rw [h1] at hm
  match m, hm with
  | 0, _ => exact ⟨_, rfl, rfl⟩
  | 1, _ => exact ⟨_, rfl, rfl⟩
  | 2, _ => exact ⟨_, rfl, rfl⟩
  | 3, _ => exact ⟨_, rfl, rfl⟩
theorem vaF_ok {p : P} (o : Ok p) (j : Jn p) (h1 : p.pl = 5) (hA : p.A = chF) : ∀ r ∈ ([⟨50, 84, 1, [.int .u16 102, .int .u16 97, .int .u16 108, .int .u16 115, .int .u16 101], 5, 0⟩] : List VA), VaOk (ivP p 0) (vvP p 0) (vkP p 0) r := vaJ o j h1.symm fun m hm => by
  rw [hA]
  rw [h1] at hm
  match m, hm with
  | 0, _ => exact ⟨_, rfl, rfl⟩
  | 1, _ => exact ⟨_, rfl, rfl⟩
  | 2, _ => exact ⟨_, rfl, rfl⟩
  | 3, _ => exact ⟨_, rfl, rfl⟩
  | 4, _ => exact ⟨_, rfl, rfl⟩
noncomputable abbrev RB0wf (p : P) (o : Ok p) (j : Jn p) (hi : p.i < p.ln) (hk : p.i % 4 = 0) (hl : 0 < p.lt) (h : Nm p) (hd : p.m < 0 ∨ 10 ≤ p.m) (hm : IntKind.i32.wrap (p.ns p.i) = p.m) (hm2 : IntKind.i32.wrap p.m = p.m) : Rw (ivP p 0) (vvP p 0) (vkP p 0) (fgP p) (txP p 0) where
  vvp := vvPp p 0
  ib := rowsO ++ (rowsP ++ rowsN 0)
  ibok := catR (rowsO_ok o) (catR (rowsP_ok o) (rowsN_ok hi hk))
  ic := icO ++ [(.i32, .oi 145, .oi 149), (.i64, .oi 149, .oi 146), (.i32, .oi 146, .oi 149)]
  icok := catR (icO_ok o) (rConv (rConv (rConv icNil (h := hm2)) (h := wrap64 h.m0 h.m1)) (h := hm))
  vl := vlO ++ vlP
  vlok := catR (vlO_ok o) (vlP_ok o)
  vs := [⟨3, 96, 1, 0, [.oi 99], 70⟩]
  vsok := vsP_ok o
  vc := [(0, 97), (2, 96)]
  vcok := vcO_ok
  fl := [⟨2, 140, 1, 0, [.oi 145]⟩]
  flok := flN_ok hi rfl
  vb := [⟨true, 0, 0, 1, true, 50, 84, 50, 84⟩, ⟨false, 50, 84, 1, true, 60, 100, 5, 0⟩]
  vbok := vbC o hl (vbJ o j h.pos (allNil) rfl)
noncomputable abbrev KB0wf : Hand := (KI).or ((KD).or ((inHand naI20011).or ((inHand ib20047).or ((inHand chB20055).or ((inHand tx20068_20067).or ((KO).or ((KBB).or ((KP)))))))))
theorem KB0wf_ok {p : P} {T : Tab} (o : Ok p) (j : Jn p) (hi : p.i < p.ln) (hk : p.i % 4 = 0) (hl : 0 < p.lt) (h : Nm p) (hd : p.m < 0 ∨ 10 ≤ p.m) (hm : IntKind.i32.wrap (p.ns p.i) = p.m) (hm2 : IntKind.i32.wrap p.m = p.m) (e : SameTab (TP p) T) : @HandOk T Tryz.prog KB0wf := by
  letI := T
  exact HandOk.or (KI_ok h e) (HandOk.or (KD_ok h hd e) (HandOk.or (inHand_ok naI20011_ok (by kernel_rfl)) (HandOk.or (inHand_ok ib20047_ok (by kernel_rfl)) (HandOk.or (inHand_ok (InOk.tab e (chB20055_ok o.x o.b hl)) (by kernel_rfl)) (HandOk.or (inHand_ok (InOk.tab e (tx20068_20067_ok o.x)) (by kernel_rfl)) (HandOk.or (KO_ok (k := 0) o.x e) (HandOk.or (KBB_ok (k := 0) o.x o.b e) (KP_ok (k := 0) o e))))))))
noncomputable abbrev cvB0wf : Cv := ⟨20000, 20010, ofPairs [(20001, 20069), (20002, 20070), (20003, 20108)], (.oi 140, 140) :: (.oi 3, 1) :: (.oi 7, 2) :: (.oi 0, 84) :: ipB⟩
theorem kB0wf : ∀ (y : Bool) p o j hi hk hl h hd hm hm2, runTo (Pt (RB0wf p o j hi hk hl h hd hm hm2)) Tryz.prog KB0wf 5000 Tryz.f4.ntmps cB (frOf (fsS y false false)) (hS false) .normal cvB0wf [(20069, .vec 70, 0), (20070, .vec 4, 1), (20108, .vec 5, 50)] (fsS y false false) (bsS false 20069 20070 20108) = true := fun y p o j hi hk hl h hd hm hm2 => by cases y <;> (as_aux_lemma => kernel_rfl)
noncomputable abbrev RB0wt (p : P) (o : Ok p) (j : Jn p) (hi : p.i < p.ln) (hk : p.i % 4 = 0) (hl : p.lt = 0) (h : Nm p) (hd : p.m < 0 ∨ 10 ≤ p.m) (hm : IntKind.i32.wrap (p.ns p.i) = p.m) (hm2 : IntKind.i32.wrap p.m = p.m) : Rw (ivP p 0) (vvP p 0) (vkP p 0) (fgP p) (txP p 0) where
  vvp := vvPp p 0
  ib := rowsO ++ (rowsP ++ rowsN 0)
  ibok := catR (rowsO_ok o) (catR (rowsP_ok o) (rowsN_ok hi hk))
  ic := icO ++ [(.i32, .oi 145, .oi 149), (.i64, .oi 149, .oi 146), (.i32, .oi 146, .oi 149)]
  icok := catR (icO_ok o) (rConv (rConv (rConv icNil (h := hm2)) (h := wrap64 h.m0 h.m1)) (h := hm))
  vl := vlO ++ vlP
  vlok := catR (vlO_ok o) (vlP_ok o)
  vs := [⟨3, 96, 1, 0, [.oi 99], 70⟩]
  vsok := vsP_ok o
  vc := [(0, 97), (2, 96)]
  vcok := vcO_ok
  fl := [⟨2, 140, 1, 0, [.oi 145]⟩]
  flok := flN_ok hi rfl
  vb := [⟨true, 0, 0, 1, true, 60, 100, 5, 0⟩]
  vbok := vbZ o j h.pos hl (allNil) rfl
noncomputable abbrev KB0wt : Hand := (KI).or ((KD).or ((inHand naI20011).or ((inHand ib20047).or ((inHand chBz20055).or ((inHand tx20067_20066).or ((KO).or ((KBB).or ((KP)))))))))
theorem KB0wt_ok {p : P} {T : Tab} (o : Ok p) (j : Jn p) (hi : p.i < p.ln) (hk : p.i % 4 = 0) (hl : p.lt = 0) (h : Nm p) (hd : p.m < 0 ∨ 10 ≤ p.m) (hm : IntKind.i32.wrap (p.ns p.i) = p.m) (hm2 : IntKind.i32.wrap p.m = p.m) (e : SameTab (TP p) T) : @HandOk T Tryz.prog KB0wt := by
  letI := T
  exact HandOk.or (KI_ok h e) (HandOk.or (KD_ok h hd e) (HandOk.or (inHand_ok naI20011_ok (by kernel_rfl)) (HandOk.or (inHand_ok ib20047_ok (by kernel_rfl)) (HandOk.or (inHand_ok (InOk.tab e (chBz20055_ok o.x o.b hl)) (by kernel_rfl)) (HandOk.or (inHand_ok (InOk.tab e (tx20067_20066_ok o.x)) (by kernel_rfl)) (HandOk.or (KO_ok (k := 0) o.x e) (HandOk.or (KBB_ok (k := 0) o.x o.b e) (KP_ok (k := 0) o e))))))))
noncomputable abbrev cvB0wt : Cv := ⟨20000, 20010, ofPairs [(20001, 20068), (20002, 20069), (20003, 20107)], (.oi 140, 140) :: (.oi 3, 1) :: (.oi 7, 2) :: (.oi 0, 84) :: ipB⟩
theorem kB0wt : ∀ (y : Bool) p o j hi hk hl h hd hm hm2, runTo (Pt (RB0wt p o j hi hk hl h hd hm hm2)) Tryz.prog KB0wt 5000 Tryz.f4.ntmps cB (frOf (fsS y false true)) (hS true) .normal cvB0wt [(20068, .vec 70, 0), (20069, .vec 4, 1), (20107, .vec 5, 50)] (fsS y false false) (bsS false 20068 20069 20107) = true := fun y p o j hi hk hl h hd hm hm2 => by cases y <;> (as_aux_lemma => kernel_rfl)
noncomputable abbrev RB0ff (p : P) (o : Ok p) (j : Jn p) (hi : p.i < p.ln) (hk : p.i % 4 = 0) (hl : 0 < p.lt) (h : Nm p) (hd : 0 ≤ p.m ∧ p.m < 10) (hm : IntKind.i32.wrap (p.ns p.i) = p.m) (hm2 : IntKind.i32.wrap p.m = p.m) : Rw (ivP p 0) (vvP p 0) (vkP p 0) (fgP p) (txP p 0) where
  vvp := vvPp p 0
  ib := rowsO ++ (rowsP ++ rowsN 0)
  ibok := catR (rowsO_ok o) (catR (rowsP_ok o) (rowsN_ok hi hk))
  ic := icO ++ [(.i32, .oi 145, .oi 149), (.i64, .oi 149, .oi 146), (.i32, .oi 146, .oi 149)]
  icok := catR (icO_ok o) (rConv (rConv (rConv icNil (h := hm2)) (h := wrap64 h.m0 h.m1)) (h := hm))
  vl := vlO ++ vlP
  vlok := catR (vlO_ok o) (vlP_ok o)
  vs := [⟨3, 96, 1, 0, [.oi 99], 70⟩]
  vsok := vsP_ok o
  vc := [(0, 97), (2, 96)]
  vcok := vcO_ok
  fl := [⟨2, 140, 1, 0, [.oi 145]⟩]
  flok := flN_ok hi rfl
  vb := [⟨true, 0, 0, 1, true, 50, 84, 50, 84⟩, ⟨false, 50, 84, 1, true, 60, 100, 5, 0⟩]
  vbok := vbC o hl (vbJ o j h.pos (allNil) rfl)
  va := [⟨50, 84, 1, [.oi 102], 5, 0⟩]
  vaok := va1_ok o j (by rw [h.pl]; exact stx.len_one hd.1 hd.2)
noncomputable abbrev KB0ff : Hand := (KI).or ((KF).or ((inHand naI20011).or ((inHand ib20047).or ((inHand chB20055).or ((inHand tx20068_20067).or ((KO).or ((KBB).or ((KP)))))))))
theorem KB0ff_ok {p : P} {T : Tab} (o : Ok p) (j : Jn p) (hi : p.i < p.ln) (hk : p.i % 4 = 0) (hl : 0 < p.lt) (h : Nm p) (hd : 0 ≤ p.m ∧ p.m < 10) (hm : IntKind.i32.wrap (p.ns p.i) = p.m) (hm2 : IntKind.i32.wrap p.m = p.m) (e : SameTab (TP p) T) : @HandOk T Tryz.prog KB0ff := by
  letI := T
  exact HandOk.or (KI_ok h e) (HandOk.or (KF_ok h hd.1 hd.2 e) (HandOk.or (inHand_ok naI20011_ok (by kernel_rfl)) (HandOk.or (inHand_ok ib20047_ok (by kernel_rfl)) (HandOk.or (inHand_ok (InOk.tab e (chB20055_ok o.x o.b hl)) (by kernel_rfl)) (HandOk.or (inHand_ok (InOk.tab e (tx20068_20067_ok o.x)) (by kernel_rfl)) (HandOk.or (KO_ok (k := 0) o.x e) (HandOk.or (KBB_ok (k := 0) o.x o.b e) (KP_ok (k := 0) o e))))))))
noncomputable abbrev cvB0ff : Cv := ⟨20000, 20010, ofPairs [(20001, 20069), (20002, 20070), (20003, 20108)], (.oi 140, 140) :: (.oi 3, 1) :: (.oi 7, 2) :: (.oi 0, 84) :: ipB⟩
theorem kB0ff : ∀ (y : Bool) p o j hi hk hl h hd hm hm2, runTo (Pt (RB0ff p o j hi hk hl h hd hm hm2)) Tryz.prog KB0ff 5000 Tryz.f4.ntmps cB (frOf (fsS y false false)) (hS false) .normal cvB0ff [(20069, .vec 70, 0), (20070, .vec 4, 1), (20108, .vec 5, 50)] (fsS y false false) (bsS false 20069 20070 20108) = true := fun y p o j hi hk hl h hd hm hm2 => by cases y <;> (as_aux_lemma => kernel_rfl)
noncomputable abbrev RB0ft (p : P) (o : Ok p) (j : Jn p) (hi : p.i < p.ln) (hk : p.i % 4 = 0) (hl : p.lt = 0) (h : Nm p) (hd : 0 ≤ p.m ∧ p.m < 10) (hm : IntKind.i32.wrap (p.ns p.i) = p.m) (hm2 : IntKind.i32.wrap p.m = p.m) : Rw (ivP p 0) (vvP p 0) (vkP p 0) (fgP p) (txP p 0) where
  vvp := vvPp p 0
  ib := rowsO ++ (rowsP ++ rowsN 0)
  ibok := catR (rowsO_ok o) (catR (rowsP_ok o) (rowsN_ok hi hk))
  ic := icO ++ [(.i32, .oi 145, .oi 149), (.i64, .oi 149, .oi 146), (.i32, .oi 146, .oi 149)]
  icok := catR (icO_ok o) (rConv (rConv (rConv icNil (h := hm2)) (h := wrap64 h.m0 h.m1)) (h := hm))
  vl := vlO ++ vlP
  vlok := catR (vlO_ok o) (vlP_ok o)
  vs := [⟨3, 96, 1, 0, [.oi 99], 70⟩]
  vsok := vsP_ok o
  vc := [(0, 97), (2, 96)]
  vcok := vcO_ok
  fl := [⟨2, 140, 1, 0, [.oi 145]⟩]
  flok := flN_ok hi rfl
  vb := [⟨true, 0, 0, 1, true, 60, 100, 5, 0⟩]
  vbok := vbZ o j h.pos hl (allNil) rfl
noncomputable abbrev KB0ft : Hand := (KI).or ((KF).or ((inHand naI20011).or ((inHand ib20047).or ((inHand chBz20055).or ((inHand tx20067_20066).or ((KO).or ((KBB).or ((KP)))))))))
theorem KB0ft_ok {p : P} {T : Tab} (o : Ok p) (j : Jn p) (hi : p.i < p.ln) (hk : p.i % 4 = 0) (hl : p.lt = 0) (h : Nm p) (hd : 0 ≤ p.m ∧ p.m < 10) (hm : IntKind.i32.wrap (p.ns p.i) = p.m) (hm2 : IntKind.i32.wrap p.m = p.m) (e : SameTab (TP p) T) : @HandOk T Tryz.prog KB0ft := by
  letI := T
  exact HandOk.or (KI_ok h e) (HandOk.or (KF_ok h hd.1 hd.2 e) (HandOk.or (inHand_ok naI20011_ok (by kernel_rfl)) (HandOk.or (inHand_ok ib20047_ok (by kernel_rfl)) (HandOk.or (inHand_ok (InOk.tab e (chBz20055_ok o.x o.b hl)) (by kernel_rfl)) (HandOk.or (inHand_ok (InOk.tab e (tx20067_20066_ok o.x)) (by kernel_rfl)) (HandOk.or (KO_ok (k := 0) o.x e) (HandOk.or (KBB_ok (k := 0) o.x o.b e) (KP_ok (k := 0) o e))))))))
noncomputable abbrev cvB0ft : Cv := ⟨20000, 20010, ofPairs [(20001, 20068), (20002, 20069), (20003, 20107)], (.oi 140, 140) :: (.oi 3, 1) :: (.oi 7, 2) :: (.int .i64 1, 84) :: ipB⟩
theorem kB0ft : ∀ (y : Bool) p o j hi hk hl h hd hm hm2, runTo (Pt (RB0ft p o j hi hk hl h hd hm hm2)) Tryz.prog KB0ft 5000 Tryz.f4.ntmps cB (frOf (fsS y false true)) (hS true) .normal cvB0ft [(20068, .vec 70, 0), (20069, .vec 4, 1), (20107, rowOf [.oi 102] true, 50)] (fsS y false false) (bsS false 20068 20069 20107) = true := fun y p o j hi hk hl h hd hm hm2 => by cases y <;> (as_aux_lemma => kernel_rfl)
noncomputable abbrev RB1w (p : P) (o : Ok p) (j : Jn p) (hi : p.i < p.ln) (hk : p.i % 4 = 1) (hl : 0 < p.lt) (h : Nm p) (hd : p.m < 0 ∨ 10 ≤ p.m) (hm : p.ns p.i = p.m) : Rw (ivP p 0) (vvP p 0) (vkP p 0) (fgP p) (txP p 0) where
  vvp := vvPp p 0
  ib := rowsO ++ (rowsP ++ rowsN 1)
  ibok := catR (rowsO_ok o) (catR (rowsP_ok o) (rowsN_ok hi hk))
  ic := icO
  icok := icO_ok o
  vl := vlO ++ vlP
  vlok := catR (vlO_ok o) (vlP_ok o)
  vs := [⟨3, 96, 1, 0, [.oi 99], 70⟩]
  vsok := vsP_ok o
  vc := [(0, 97), (2, 96)]
  vcok := vcO_ok
  fl := [⟨2, 140, 1, 0, [.oi 146]⟩]
  flok := flN_ok hi (by show ((IntKind.i64, p.m) : IntKind × Int) = _; rw [hm])
  vb := [⟨true, 0, 0, 1, true, 50, 84, 50, 84⟩, ⟨false, 50, 84, 1, true, 60, 100, 5, 0⟩]
  vbok := vbC o hl (vbJ o j h.pos (allNil) rfl)
noncomputable abbrev KB1w : Hand := (KI).or ((KD).or ((inHand naJ20011).or ((inHand ib20048).or ((inHand chB20056).or ((inHand tx20069_20068).or ((KO).or ((KBB).or ((KP)))))))))
theorem KB1w_ok {p : P} {T : Tab} (o : Ok p) (j : Jn p) (hi : p.i < p.ln) (hk : p.i % 4 = 1) (hl : 0 < p.lt) (h : Nm p) (hd : p.m < 0 ∨ 10 ≤ p.m) (hm : p.ns p.i = p.m) (e : SameTab (TP p) T) : @HandOk T Tryz.prog KB1w := by
  letI := T
  exact HandOk.or (KI_ok h e) (HandOk.or (KD_ok h hd e) (HandOk.or (inHand_ok naJ20011_ok (by kernel_rfl)) (HandOk.or (inHand_ok ib20048_ok (by kernel_rfl)) (HandOk.or (inHand_ok (InOk.tab e (chB20056_ok o.x o.b hl)) (by kernel_rfl)) (HandOk.or (inHand_ok (InOk.tab e (tx20069_20068_ok o.x)) (by kernel_rfl)) (HandOk.or (KO_ok (k := 0) o.x e) (HandOk.or (KBB_ok (k := 0) o.x o.b e) (KP_ok (k := 0) o e))))))))
noncomputable abbrev cvB1w : Cv := ⟨20000, 20010, ofPairs [(20001, 20070), (20002, 20071), (20003, 20109)], (.oi 140, 140) :: (.oi 3, 1) :: (.oi 7, 2) :: (.oi 0, 84) :: ipB⟩
theorem kB1w : ∀ (y : Bool) p o j hi hk hl h hd hm, runTo (Pt (RB1w p o j hi hk hl h hd hm)) Tryz.prog KB1w 5000 Tryz.f4.ntmps cB (frOf (fsS y false false)) (hS false) .normal cvB1w [(20070, .vec 70, 0), (20071, .vec 4, 1), (20109, .vec 5, 50)] (fsS y false false) (bsS false 20070 20071 20109) = true := fun y p o j hi hk hl h hd hm => by cases y <;> (as_aux_lemma => kernel_rfl)
noncomputable abbrev RB1f (p : P) (o : Ok p) (j : Jn p) (hi : p.i < p.ln) (hk : p.i % 4 = 1) (hl : 0 < p.lt) (h : Nm p) (hd : 0 ≤ p.m ∧ p.m < 10) (hm : p.ns p.i = p.m) : Rw (ivP p 0) (vvP p 0) (vkP p 0) (fgP p) (txP p 0) where
  vvp := vvPp p 0
  ib := rowsO ++ (rowsP ++ rowsN 1)
  ibok := catR (rowsO_ok o) (catR (rowsP_ok o) (rowsN_ok hi hk))
  ic := icO
  icok := icO_ok o
  vl := vlO ++ vlP
  vlok := catR (vlO_ok o) (vlP_ok o)
  vs := [⟨3, 96, 1, 0, [.oi 99], 70⟩]
  vsok := vsP_ok o
  vc := [(0, 97), (2, 96)]
  vcok := vcO_ok
  fl := [⟨2, 140, 1, 0, [.oi 146]⟩]
  flok := flN_ok hi (by show ((IntKind.i64, p.m) : IntKind × Int) = _; rw [hm])
  vb := [⟨true, 0, 0, 1, true, 50, 84, 50, 84⟩, ⟨false, 50, 84, 1, true, 60, 100, 5, 0⟩]
  vbok := vbC o hl (vbJ o j h.pos (allNil) rfl)
  va := [⟨50, 84, 1, [.oi 102], 5, 0⟩]
  vaok := va1_ok o j (by rw [h.pl]; exact stx.len_one hd.1 hd.2)
noncomputable abbrev KB1f : Hand := (KI).or ((KF).or ((inHand naJ20011).or ((inHand ib20048).or ((inHand chB20056).or ((inHand tx20069_20068).or ((KO).or ((KBB).or ((KP)))))))))
theorem KB1f_ok {p : P} {T : Tab} (o : Ok p) (j : Jn p) (hi : p.i < p.ln) (hk : p.i % 4 = 1) (hl : 0 < p.lt) (h : Nm p) (hd : 0 ≤ p.m ∧ p.m < 10) (hm : p.ns p.i = p.m) (e : SameTab (TP p) T) : @HandOk T Tryz.prog KB1f := by
  letI := T
  exact HandOk.or (KI_ok h e) (HandOk.or (KF_ok h hd.1 hd.2 e) (HandOk.or (inHand_ok naJ20011_ok (by kernel_rfl)) (HandOk.or (inHand_ok ib20048_ok (by kernel_rfl)) (HandOk.or (inHand_ok (InOk.tab e (chB20056_ok o.x o.b hl)) (by kernel_rfl)) (HandOk.or (inHand_ok (InOk.tab e (tx20069_20068_ok o.x)) (by kernel_rfl)) (HandOk.or (KO_ok (k := 0) o.x e) (HandOk.or (KBB_ok (k := 0) o.x o.b e) (KP_ok (k := 0) o e))))))))
noncomputable abbrev cvB1f : Cv := ⟨20000, 20010, ofPairs [(20001, 20070), (20002, 20071), (20003, 20109)], (.oi 140, 140) :: (.oi 3, 1) :: (.oi 7, 2) :: (.oi 0, 84) :: ipB⟩
theorem kB1f : ∀ (y : Bool) p o j hi hk hl h hd hm, runTo (Pt (RB1f p o j hi hk hl h hd hm)) Tryz.prog KB1f 5000 Tryz.f4.ntmps cB (frOf (fsS y false false)) (hS false) .normal cvB1f [(20070, .vec 70, 0), (20071, .vec 4, 1), (20109, .vec 5, 50)] (fsS y false false) (bsS false 20070 20071 20109) = true := fun y p o j hi hk hl h hd hm => by cases y <;> (as_aux_lemma => kernel_rfl)
noncomputable abbrev RB2 (p : P) (o : Ok p) (j : Jn p) (hi : p.i < p.ln) (hk : p.i % 4 = 2) (hl : 0 < p.lt) (h1 : p.pl = 1) (hm : IntKind.u16.wrap (p.ns p.i) = p.A 0) : Rw (ivP p 0) (vvP p 0) (vkP p 0) (fgP p) (txP p 0) where
  vvp := vvPp p 0
  ib := rowsO ++ (rowsP ++ rowsN 2)
  ibok := catR (rowsO_ok o) (catR (rowsP_ok o) (rowsN_ok hi hk))
  ic := icO ++ [(.u16, .oi 145, .oi 102)]
  icok := catR (icO_ok o) (rConv icNil (h := hm))
  vl := vlO ++ vlP
  vlok := catR (vlO_ok o) (vlP_ok o)
  vs := [⟨3, 96, 1, 0, [.oi 99], 70⟩]
  vsok := vsP_ok o
  vc := [(0, 97), (2, 96)]
  vcok := vcO_ok
  fl := [⟨2, 140, 1, 0, [.oi 145]⟩]
  flok := flN_ok hi rfl
  vb := [⟨true, 0, 0, 1, true, 50, 84, 50, 84⟩]
  vbok := vbC o hl (allNil)
  va := [⟨50, 84, 1, [.oi 102], 5, 0⟩]
  vaok := va1_ok o j h1
noncomputable abbrev KB2 : Hand := (inHand naC20011).or ((inHand ib20049).or ((inHand chB20057).or ((inHand tx20070_20069).or ((KO).or ((KBB).or ((KP)))))))
theorem KB2_ok {p : P} {T : Tab} (o : Ok p) (j : Jn p) (hi : p.i < p.ln) (hk : p.i % 4 = 2) (hl : 0 < p.lt) (h1 : p.pl = 1) (hm : IntKind.u16.wrap (p.ns p.i) = p.A 0) (e : SameTab (TP p) T) : @HandOk T Tryz.prog KB2 := by
  letI := T
  exact HandOk.or (inHand_ok naC20011_ok (by kernel_rfl)) (HandOk.or (inHand_ok ib20049_ok (by kernel_rfl)) (HandOk.or (inHand_ok (InOk.tab e (chB20057_ok o.x o.b hl)) (by kernel_rfl)) (HandOk.or (inHand_ok (InOk.tab e (tx20070_20069_ok o.x)) (by kernel_rfl)) (HandOk.or (KO_ok (k := 0) o.x e) (HandOk.or (KBB_ok (k := 0) o.x o.b e) (KP_ok (k := 0) o e))))))
noncomputable abbrev cvB2 : Cv := ⟨20000, 20010, ofPairs [(20001, 20071), (20002, 20072), (20003, 20110)], (.oi 140, 140) :: (.oi 3, 1) :: (.oi 7, 2) :: (.oi 0, 84) :: ipB⟩
theorem kB2 : ∀ (y : Bool) p o j hi hk hl h1 hm, runTo (Pt (RB2 p o j hi hk hl h1 hm)) Tryz.prog KB2 5000 Tryz.f4.ntmps cB (frOf (fsS y false false)) (hS false) .normal cvB2 [(20071, .vec 70, 0), (20072, .vec 4, 1), (20110, .vec 5, 50)] (fsS y false false) (bsS false 20071 20072 20110) = true := fun y p o j hi hk hl h1 hm => by cases y <;> (as_aux_lemma => kernel_rfl)
noncomputable abbrev RB3t (p : P) (o : Ok p) (j : Jn p) (hi : p.i < p.ln) (hk : p.i % 4 = 3) (hl : 0 < p.lt) (h1 : p.pl = 4) (hA : p.A = chT) (hm : IntKind.i64.wrap (BitVec.ofInt IntKind.i64.bits (p.ns p.i) &&& BitVec.ofInt IntKind.i64.bits 1).toNat = 1) : Rw (ivP p 0) (vvP p 0) (vkP p 0) (fgP p) (txP p 0) where
  vvp := vvPp p 0
  ib := rowsO ++ (rowsP ++ (rowsN 3 ++ [(5, .oi 145, .int .i64 1, .int .i64 1)]))
  ibok := catR (rowsO_ok o) (catR (rowsP_ok o) (catR (rowsN_ok hi hk) (rAndK ibNil (h := hm))))
  ic := icO
  icok := icO_ok o
  vl := vlO ++ vlP
  vlok := catR (vlO_ok o) (vlP_ok o)
  vs := [⟨3, 96, 1, 0, [.oi 99], 70⟩]
  vsok := vsP_ok o
  vc := [(0, 97), (2, 96)]
  vcok := vcO_ok
  fl := [⟨2, 140, 1, 0, [.oi 145]⟩]
  flok := flN_ok hi rfl
  vb := [⟨true, 0, 0, 1, true, 50, 84, 50, 84⟩]
  vbok := vbC o hl (allNil)
  va := [⟨50, 84, 1, [.int .u16 116, .int .u16 114, .int .u16 117, .int .u16 101], 5, 0⟩]
  vaok := vaT_ok o j h1 hA
noncomputable abbrev KB3t : Hand := (inHand naZ20019).or ((inHand ib20058).or ((inHand chB20074).or ((inHand tx20087_20086).or ((KO).or ((KBB).or ((KP)))))))
theorem KB3t_ok {p : P} {T : Tab} (o : Ok p) (j : Jn p) (hi : p.i < p.ln) (hk : p.i % 4 = 3) (hl : 0 < p.lt) (h1 : p.pl = 4) (hA : p.A = chT) (hm : IntKind.i64.wrap (BitVec.ofInt IntKind.i64.bits (p.ns p.i) &&& BitVec.ofInt IntKind.i64.bits 1).toNat = 1) (e : SameTab (TP p) T) : @HandOk T Tryz.prog KB3t := by
  letI := T
  exact HandOk.or (inHand_ok naZ20019_ok (by kernel_rfl)) (HandOk.or (inHand_ok ib20058_ok (by kernel_rfl)) (HandOk.or (inHand_ok (InOk.tab e (chB20074_ok o.x o.b hl)) (by kernel_rfl)) (HandOk.or (inHand_ok (InOk.tab e (tx20087_20086_ok o.x)) (by kernel_rfl)) (HandOk.or (KO_ok (k := 0) o.x e) (HandOk.or (KBB_ok (k := 0) o.x o.b e) (KP_ok (k := 0) o e))))))
noncomputable abbrev cvB3t : Cv := ⟨20000, 20010, ofPairs [(20001, 20088), (20002, 20089), (20003, 20127)], (.oi 140, 140) :: (.oi 3, 1) :: (.oi 7, 2) :: (.oi 0, 84) :: ipB⟩
theorem kB3t : ∀ (y : Bool) p o j hi hk hl h1 hA hm, runTo (Pt (RB3t p o j hi hk hl h1 hA hm)) Tryz.prog KB3t 5000 Tryz.f4.ntmps cB (frOf (fsS y false false)) (hS false) .normal cvB3t [(20088, .vec 70, 0), (20089, .vec 4, 1), (20127, .vec 5, 50)] (fsS y false false) (bsS false 20088 20089 20127) = true := fun y p o j hi hk hl h1 hA hm => by cases y <;> (as_aux_lemma => kernel_rfl)
noncomputable abbrev RB3f (p : P) (o : Ok p) (j : Jn p) (hi : p.i < p.ln) (hk : p.i % 4 = 3) (hl : 0 < p.lt) (h1 : p.pl = 5) (hA : p.A = chF) (hm : IntKind.i64.wrap (BitVec.ofInt IntKind.i64.bits (p.ns p.i) &&& BitVec.ofInt IntKind.i64.bits 1).toNat = 0) : Rw (ivP p 0) (vvP p 0) (vkP p 0) (fgP p) (txP p 0) where
  vvp := vvPp p 0
  ib := rowsO ++ (rowsP ++ (rowsN 3 ++ [(5, .oi 145, .int .i64 1, .int .i64 0)]))
  ibok := catR (rowsO_ok o) (catR (rowsP_ok o) (catR (rowsN_ok hi hk) (rAndK ibNil (h := hm))))
  ic := icO
  icok := icO_ok o
  vl := vlO ++ vlP
  vlok := catR (vlO_ok o) (vlP_ok o)
  vs := [⟨3, 96, 1, 0, [.oi 99], 70⟩]
  vsok := vsP_ok o
  vc := [(0, 97), (2, 96)]
  vcok := vcO_ok
  fl := [⟨2, 140, 1, 0, [.oi 145]⟩]
  flok := flN_ok hi rfl
  vb := [⟨true, 0, 0, 1, true, 50, 84, 50, 84⟩]
  vbok := vbC o hl (allNil)
  va := [⟨50, 84, 1, [.int .u16 102, .int .u16 97, .int .u16 108, .int .u16 115, .int .u16 101], 5, 0⟩]
  vaok := vaF_ok o j h1 hA
noncomputable abbrev KB3f : Hand := (inHand naZ20021).or ((inHand ib20060).or ((inHand chB20078).or ((inHand tx20091_20090).or ((KO).or ((KBB).or ((KP)))))))
theorem KB3f_ok {p : P} {T : Tab} (o : Ok p) (j : Jn p) (hi : p.i < p.ln) (hk : p.i % 4 = 3) (hl : 0 < p.lt) (h1 : p.pl = 5) (hA : p.A = chF) (hm : IntKind.i64.wrap (BitVec.ofInt IntKind.i64.bits (p.ns p.i) &&& BitVec.ofInt IntKind.i64.bits 1).toNat = 0) (e : SameTab (TP p) T) : @HandOk T Tryz.prog KB3f := by
  letI := T
  exact HandOk.or (inHand_ok naZ20021_ok (by kernel_rfl)) (HandOk.or (inHand_ok ib20060_ok (by kernel_rfl)) (HandOk.or (inHand_ok (InOk.tab e (chB20078_ok o.x o.b hl)) (by kernel_rfl)) (HandOk.or (inHand_ok (InOk.tab e (tx20091_20090_ok o.x)) (by kernel_rfl)) (HandOk.or (KO_ok (k := 0) o.x e) (HandOk.or (KBB_ok (k := 0) o.x o.b e) (KP_ok (k := 0) o e))))))
noncomputable abbrev cvB3f : Cv := ⟨20000, 20010, ofPairs [(20001, 20092), (20002, 20093), (20003, 20131)], (.oi 140, 140) :: (.oi 3, 1) :: (.oi 7, 2) :: (.oi 0, 84) :: ipB⟩
theorem kB3f : ∀ (y : Bool) p o j hi hk hl h1 hA hm, runTo (Pt (RB3f p o j hi hk hl h1 hA hm)) Tryz.prog KB3f 5000 Tryz.f4.ntmps cB (frOf (fsS y false false)) (hS false) .normal cvB3f [(20092, .vec 70, 0), (20093, .vec 4, 1), (20131, .vec 5, 50)] (fsS y false false) (bsS false 20092 20093 20131) = true := fun y p o j hi hk hl h1 hA hm => by cases y <;> (as_aux_lemma => kernel_rfl)
end Go.Proofs.YtkkaifeiopjjdaaGreatDoor.bd
