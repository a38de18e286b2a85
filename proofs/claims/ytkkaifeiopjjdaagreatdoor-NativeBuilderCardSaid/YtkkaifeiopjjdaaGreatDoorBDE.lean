/-
  The law NativeBuilder: behind its loop.
-/
import Derived.Test.YtkkaifeiopjjdaaGreatDoorBDQ3
set_option linter.unusedVariables false
set_option linter.unusedSimpArgs false
set_option linter.unusedSectionVars false
set_option maxRecDepth 1000000
set_option maxHeartbeats 0
namespace Go.Proofs.YtkkaifeiopjjdaaGreatDoor.bd
open Go.X Go.RowKit Go.Proofs
noncomputable def naT : In := naI (.str 8 7453010373643562868) (.str 20 339137050467292191589805048747422779071890467112) 20010 21 39
noncomputable def naL : In := naI (.str 6 114849160783212) (.str 3 4794664) 20058 20 38
theorem naT_ok {T : Tab} : @InOk Tryz.prog naT T := @InOk.of_run Tryz.prog T KN mixed (@KN_ok T) 5000 _ (by kernel_rfl) (by as_aux_lemma => kernel_rfl)
theorem naL_ok {T : Tab} : @InOk Tryz.prog naL T := @InOk.of_run Tryz.prog T KN mixed (@KN_ok T) 5000 _ (by kernel_rfl) (by as_aux_lemma => kernel_rfl)
noncomputable def ibT : In := ibI 20051
noncomputable def ibL : In := ibI 20098
theorem ibT_ok {T : Tab} : @InOk Tryz.prog ibT T := @InOk.of_run Tryz.prog T KN mixed (@KN_ok T) 5000 _ (by kernel_rfl) (by as_aux_lemma => kernel_rfl)
theorem ibL_ok {T : Tab} : @InOk Tryz.prog ibL T := @InOk.of_run Tryz.prog T KN mixed (@KN_ok T) 5000 _ (by kernel_rfl) (by as_aux_lemma => kernel_rfl)
theorem gbE : GBB 20105 := fun p h b h0 => by as_aux_lemma => kernel_rfl
theorem geE : GEB 20105 := fun p k => by as_aux_lemma => kernel_rfl
theorem chE_ok {p : P} (h : TxOk p.x) (b : TextOk p.x p.sb p.ix p.lt p.C) (h0 : 0 < p.lt) : @InOk Tryz.prog (chIB 20105) (TP p) := chIB_ok h b h0 gbE geE (by decide) (by kernel_rfl) (by kernel_rfl) (by kernel_rfl) (by kernel_rfl) (by kernel_rfl)
theorem czE_ok {p : P} (h : TxOk p.x) (b : TextOk p.x p.sb p.ix p.lt p.C) (hz : p.lt = 0) : @InOk Tryz.prog (czIB 20105) (TP p) := InOk.tab (Pt.same _ _) (@InOk.of_run Tryz.prog (Pt (RZB p h b hz)) KBB mixed (KBB_ok (k := 0) h b (Pt.same (R0 p 0) (RZB p h b hz))) 3000 (czIB 20105) (by kernel_rfl) (by as_aux_lemma => kernel_rfl))
noncomputable abbrev REv (p : P) (o : Ok p) (hl : 0 < p.lt) : Rw (ivP p 0) (vvP p 0) (vkP p 0) (fgP p) (txP p 0) where
  vvp := vvPp p 0
  ib := rowsO ++ (rowsGB ++ [(9, .oi 84, .oi 84, .bool true)])
  ibok := catR (rowsO_ok o) (catR (rowsGB_ok o.x o.b) (rEq ibNil))
  ic := icO ++ [(.i64, .oi 85, .oi 84), (.i64, .oi 84, .oi 84)]
  icok := catR (icO_ok o) (by have h1 := o.b.n7; exact rConv (rConv icNil))
  vl := vlO ++ vlGB
  vlok := catR (vlO_ok o) (vlGB_ok o.x o.b)
  vc := [(0, 97), (2, 96)]
  vcok := vcO_ok
noncomputable abbrev REz (p : P) (o : Ok p) (hl : p.lt = 0) : Rw (ivP p 0) (vvP p 0) (vkP p 0) (fgP p) (txP p 0) where
  vvp := vvPp p 0
  ib := rowsO ++ rowsGB
  ibok := catR (rowsO_ok o) (rowsGB_ok o.x o.b)
  ic := icO ++ [(.i64, .oi 85, .int .i64 0)]
  icok := catR (icO_ok o) (rConv (n := (p.lt : Int)) icNil (h := by rw [hl]; rfl))
  vl := vlO ++ vlGB
  vlok := catR (vlO_ok o) (vlGB_ok o.x o.b)
  vc := [(0, 97), (2, 96)]
  vcok := vcO_ok
noncomputable abbrev KEc : Hand := (inHand naT).or ((inHand ibT).or ((inHand naL).or ((inHand ibL).or (KO.or KBB))))
theorem KEc_ok {p : P} {T : Tab} (o : Ok p) (e : SameTab (TP p) T) : @HandOk T Tryz.prog KEc := by
  letI := T
  exact HandOk.or (inHand_ok naT_ok (by kernel_rfl)) (HandOk.or (inHand_ok ibT_ok (by kernel_rfl)) (HandOk.or (inHand_ok naL_ok (by kernel_rfl)) (HandOk.or (inHand_ok ibL_ok (by kernel_rfl)) (HandOk.or (KO_ok (k := 0) o.x e) (KBB_ok (k := 0) o.x o.b e)))))
noncomputable abbrev KEv : Hand := (inHand (chIB 20105)).or ((stx.vecSame 50 84).or KEc)
theorem KEv_ok {p : P} {T : Tab} (o : Ok p) (hl : 0 < p.lt) (e : SameTab (TP p) T) : @HandOk T Tryz.prog KEv := by
  letI := T
  have h7 := o.b.n7
  exact HandOk.or (inHand_ok (InOk.tab e (chE_ok o.x o.b hl)) (by kernel_rfl)) (HandOk.or (stx.vecSame_ok (L := p.lt) (C := p.C) (by rw [← e.iv]; rfl) (by rw [← e.vv]; rfl) (by omega)) (KEc_ok o e))
noncomputable abbrev KEz : Hand := (inHand (czIB 20105)).or KEc
theorem KEz_ok {p : P} {T : Tab} (o : Ok p) (hl : p.lt = 0) (e : SameTab (TP p) T) : @HandOk T Tryz.prog KEz := by
  letI := T
  exact HandOk.or (inHand_ok (InOk.tab e (czE_ok o.x o.b hl)) (by kernel_rfl)) (KEc_ok o e)
theorem kEv : ∀ (y z : Bool) p o hl, runTrue (Pt (REv p o hl)) Tryz.prog KEv 5000 Tryz.f4 (restn 11 aC) (frOf (fsS y z false)) (hS false) = true := fun y z p o hl => by cases y <;> cases z <;> (as_aux_lemma => kernel_rfl)
theorem kEz : ∀ (y z : Bool) p o hl, runTrue (Pt (REz p o hl)) Tryz.prog KEz 5000 Tryz.f4 (restn 11 aC) (frOf (fsS y z true)) (hS true) = true := fun y z p o hl => by cases y <;> cases z <;> (as_aux_lemma => kernel_rfl)
theorem endS {y z : Bool} {u : Ue} {c : Co} {n : Bool} {B : Kp} {w0 : World} {μ : M} {a : Act} {w : World} (o : UOk u) (v : Iv u c 8 n 648 1620 26) (s : SA y z u c 8 n B w0 μ a w) : (restn 11 aC).wp Tryz.prog (Yes Tryz.prog Tryz.f4 B w0) a w := by
  have oe := o.el 8
  have k1 := oe.a60
  have k2 := wd_mono k1
  rw [wd60] at k2
  have k3 := v.b.lt
  have h1 : TxOk (pA1 u c 8).x := v.r.tx v.b (n := (u.us 8).la) (by omega) (by omega) (by omega) oe.hA
  have ok : Ok (pA1 u c 8) := ⟨h1, v.r.bld rfl rfl rfl rfl (by omega), v.r.w0, v.r.w2⟩
  cases n with
  | false =>
    have hl : 0 < c.lt := Nat.pos_of_ne_zero fun e => by have := v.n.2 e; cases this
    exact @runTrue_sound _ _ _ _ _ _ (Pt (REv (pA1 u c 8) ok hl)) _ _ mixed KEv (KEv_ok ok hl (Pt.same (R0 (pA1 u c 8) 0) (REv _ ok hl))) 5000 Tryz.f4 _ (kEv y z _ ok hl) (St.same (Pt.same _ _) s)
  | true =>
    have hl : c.lt = 0 := v.n.1 rfl
    exact @runTrue_sound _ _ _ _ _ _ (Pt (REz (pA1 u c 8) ok hl)) _ _ mixed KEz (KEz_ok ok hl (Pt.same (R0 (pA1 u c 8) 0) (REz _ ok hl))) 5000 Tryz.f4 _ (kEz y z _ ok hl) (St.same (Pt.same _ _) s)
end Go.Proofs.YtkkaifeiopjjdaaGreatDoor.bd
