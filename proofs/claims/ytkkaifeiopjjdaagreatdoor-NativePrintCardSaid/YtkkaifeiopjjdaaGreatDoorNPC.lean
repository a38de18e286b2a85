/-
  The law NativePrint: a text is made: states.
-/
import Derived.Test.YtkkaifeiopjjdaaGreatDoorNPK
import Derived.Test.YtkkaifeiopjjdaaGreatDoorXN3
set_option linter.unusedVariables false
set_option linter.unusedSimpArgs false
set_option linter.unusedSectionVars false
set_option maxRecDepth 1000000
set_option maxHeartbeats 0
namespace Go.Proofs.YtkkaifeiopjjdaaGreatDoor.np
open Go.X Go.RowKit Go.Proofs
noncomputable abbrev KN : Hand := nr.KN
theorem KN_ok {T : Tab} : @HandOk T Tryz.prog KN := @nr.KN_ok T
theorem hNo {T : Tab} : @HandOk T Tryz.prog Hand.none := @HandOk.none T Tryz.prog
noncomputable abbrev psS : AV := .str 19 2439265639030268300842157990401791553877467498
noncomputable abbrev stS : AV := .str 16 137483774941304901841256615957136564586
/-- the shapes' block, the shapes' numbers: before the first text (0), behind it -/
noncomputable def shp (z : Nat) : Blk := Nat.rec (.cells 3 true [] (T.ofList 0 .leaf [psS, .nils, .int .u8 0])) (fun _ _ => .cells 6 true [] (T.ofList 0 .leaf [psS, .nils, .int .u8 0, stS, .nils, .int .u8 67])) z
noncomputable def mp (z : Nat) : Blk := Nat.rec (.map [(psS, .int .i64 0, 0)] 1) (fun _ _ => .map [(psS, .int .i64 0, 0), (stS, .int .i64 1, 1)] 2) z
/-- the heap: words, their number, starts, their number, shapes -/
noncomputable def hp (w j s c h z : Nat) : Blk := .cells 5 false [] (T.ofList 0 .leaf [.ptr 6646 0, .ov w j 1, .ov s c 1, .so h 0 (Nat.succ z) 3, .map 9898])
noncomputable def same : BL → BS := List.rec [] fun p _ ih => (p.1, p.1, p.2) :: ih
noncomputable abbrev kb5 : BL := [b6644, b6645, b6646, b9060, b9391]
/-- a text is asked for -/
noncomputable def preT (z : Nat) : BL := Nat.rec (kb5 ++ [(9898, mp 0), (9899, hp 20001 1 20002 2 20003 0), (20001, .vec 0), (20002, .vec 1), (20003, shp 0)]) (fun _ _ => [(9898, mp 1), (9899, hp 20001 1 20002 2 20003 1), (20001, .vec 0), (20002, .vec 1), (20003, shp 1)]) z
/-- which is the shapes' block behind it -/
noncomputable def hN (z : Nat) : Nat := Nat.rec 20013 (fun _ _ => 20003) z
noncomputable def xk (z : Nat) : BL := Nat.rec kb5 (fun _ _ => []) z
noncomputable def shI : In := ⟨26, [.ptr 9899 0, stS], 20010, kb5 ++ [(9898, mp 0), (9899, hp 20001 1 20002 2 20003 0), (20003, shp 0)], .int .i64 1, 20025, kb5 ++ [(9898, mp 1), (9899, hp 20001 1 20002 2 20024 1), (20024, shp 1)]⟩
def upIn (c : In) (m : Nat) : In := ⟨c.f, c.xs, c.N, c.bs, c.v, m, c.bs'⟩
/-- a contract's next number may be told greater -/
theorem upOk [Tab] {P : Go.Program} {c : In} (m : Nat) (h : c.N' ≤ m) (o : InOk P c) : InOk P (upIn c m) := by
  obtain ⟨h', k1, k2, k3⟩ := o.run
  have hs : SameH h' ⟨m, h'.t⟩ := ⟨by rw [← k2]; exact h, fun x => ⟨fun b hb => ⟨b, hb, .inl rfl⟩, fun a ha => ⟨a, ha⟩⟩⟩
  refine ⟨o.lim, ⟨m, h'.t⟩, ?_, rfl, k3⟩
  intro B w0 μ w args' r ha
  refine (k1 B w0 μ w args' r ha).mono ?_
  rintro e' w' ⟨v', μ', h1, h2, h3, h4⟩
  exact ⟨v', μ', h1, h2, h3, HR.sameH hs h4⟩
noncomputable def tC : Code := codeOf Tryz.f9
theorem tC_eq : Tryz.f9.body = some tC := by kernel_rfl
noncomputable def tR : Code := hd (hd (restn 3 tC))
noncomputable def tX : Code := cIn (restn 3 tC)
noncomputable def tL : Code := lpIn (restn 2 tX)
theorem t3_eq : restn 3 tC = .seq (.seq tR (.cond (.tmp 18) tX .skip)) (restn 4 tC) := by kernel_rfl
theorem tX_eq : restn 2 tX = .block 0 (.loop tL) := by kernel_rfl
theorem shI_ok {p : Pm} : @InOk Tryz.prog (upIn shI 20030) (TP p) := @upOk (TP p) Tryz.prog shI 20030 (by decide +kernel) (@InOk.of_run Tryz.prog (TP p) KN mixed (@KN_ok (TP p)) 3000 shI (by kernel_rfl) (by as_aux_lemma => kernel_rfl))
noncomputable def KT (z : Nat) : Hand := Nat.rec ((inHand (upIn shI 20030)).or KN) (fun _ _ => KN) z
theorem KT_ok {p : Pm} {T : Tab} (e : SameTab (TP p) T) : ∀ z, @HandOk T Tryz.prog (KT z)
  | 0 => by
    letI := T
    exact HandOk.or (inHand_ok (InOk.tab e (shI_ok (p := p))) (by kernel_rfl)) KN_ok
  | _ + 1 => KN_ok
/-- the shapes' block within the call -/
noncomputable def hM (z : Nat) : Nat := Nat.rec 30003 (fun _ _ => 20003) z
noncomputable def bsT (z v a b h : Nat) : BS := (30001, a, .vec v) :: (30002, b, .vec 4) :: (hM z, h, shp 1) :: (9899, 9899, hp 30001 3 30002 7 (hM z) 1) :: (9898, 9898, mp 1) :: same (xk z)
noncomputable abbrev src : AV := .fo 1 0 1
noncomputable abbrev ipL (k : Nat) : IP := [(.fo 1 0 1, 1), (.oi 0, 0), (.oi 1, 1), (.oi 2, 2), (.oi 3, 3), (.oi 4, 4), (.oi 7, 7), (.oi k, 40)]
noncomputable abbrev fsA : List (Nat × AV) := [(0, .ptr 9899 0), (1, src), (5, .oi 4)]
noncomputable abbrev fsA2 : List (Nat × AV) := (18, .bool true) :: fsA
noncomputable abbrev fsL : List (Nat × AV) := [(0, .ptr 9899 0), (1, src), (5, .oi 4), (29, src), (30, .oi 0), (31, .oi 40)]
/-- renamings: within the call -/
noncomputable def rlM (z a b h : Nat) : List (Nat × Nat) := Nat.rec [(30001, a), (30002, b), (30003, h)] (fun _ _ => [(30001, a), (30002, b)]) z
noncomputable def cvA (z a b h : Nat) : Cv := ⟨30000, 30004, ofPairs (rlM z a b h), ipL 40⟩
def HA (z a b h : Nat) : Prop := ∀ p hh hf, firstTo (RT p hh hf).T Tryz.prog (KT z) 3000 Tryz.f9.ntmps 3 tC (T.ofList 0 .leaf [.ptr 9899 0, src]) (hIn 20010 (preT z)) (cvA z a b h) [(a, .vec 27, 27), (b, .vec 4, 4)] fsA (bsT z 27 a b h) = true
/-- is the address there? -/
def HR_ (z : Nat) : Prop := ∀ p hh hf, runTo (RT p hh hf).T Tryz.prog KN 3000 Tryz.f9.ntmps tR (frOf fsA) (hOf 30004 (bsT z 27 30001 30002 (hM z))) .normal (cvA z 30001 30002 30003) [(30001, .vec 27, 27), (30002, .vec 4, 4)] fsA2 (bsT z 27 30001 30002 (hM z)) = true
noncomputable abbrev ipI : IP := [(.fo 1 0 1, 1), (.oi 0, 0), (.oi 1, 1), (.oi 2, 2), (.oi 3, 3), (.oi 4, 4), (.oi 7, 7), (.int .i64 0, 40)]
noncomputable def cvI (z : Nat) : Cv := ⟨30000, 30004, ofPairs (rlM z 30001 30002 30003), ipI⟩
/-- to the loop -/
def HI (z : Nat) : Prop := ∀ p hh hf, firstTo (RT p hh hf).T Tryz.prog KN 3000 Tryz.f9.ntmps 2 tX (frOf fsA2) (hOf 30004 (bsT z 27 30001 30002 (hM z))) (cvI z) [(30001, .vec 28, 10), (30002, .vec 4, 4)] fsL (bsT z 10 30001 30002 (hM z)) = true
noncomputable abbrev rowsW : List BRow := [(11, .oi 40, .oi 0, .bool true), (14, .oi 40, .int .i64 0, .bool true), (3, .oi 40, .int .i64 4, .oi 44), (4, .oi 40, .int .i64 4, .oi 48), (2, .oi 48, .int .i64 2, .oi 49), (2, .oi 49, .int .i64 8, .oi 50), (0, .oi 40, .int .i64 1, .oi 41), (11, .oi 47, .oi 3, .bool true), (14, .oi 47, .int .i64 0, .bool true),
  (1, .oi 4, .int .i64 1, .oi 1), (0, .oi 1, .int .i64 3, .oi 46), (0, .oi 46, .oi 44, .oi 47)]
noncomputable abbrev rowsM : List BRow := [(15, .int .u64 65535, .oi 50, .oi 56), (8, .oi 55, .oi 56, .oi 57), (15, .oi 60, .oi 50, .oi 61), (5, .oi 61, .oi 56, .oi 62), (6, .oi 57, .oi 62, .oi 63)]
section
variable {p : Pm} {k : Nat}
theorem rowsW_ok (h : Ar p) (hf : p.t1 ≤ 2048) (hk : k < p.la) : ∀ r ∈ rowsW, IbOk (ivP p k) r := by
  have h1 := h.a60; have h2 := wd_k hk
  have h3 : p.t1 = p.tot + wd p.la := rfl
  exact rLt (rGe (rQuo (rRem (rMul (rMul (rAdd (rLt (rGe (rSub (rAdd (rAdd ibNil)))))))))))
theorem rowsM_ok : ∀ r ∈ rowsM, IbOk (ivP p k) r := rShl (W := BitVec.ofNat 64 65535) (rAndNot (rShl (rAnd (rOr ibNil))))
theorem icW_ok (h : Ar p) : ∀ r ∈ ([(.i64, .oi 53, .oi 59), (.u64, .oi 59, .oi 60)] : List (IntKind × AV × AV)), IcOk' (ivP p k) r := by
  have h1 := h.hA k
  exact rConv (h := wrap64 (by omega) (by omega)) (rConv (h := u64OfInt _) icNil)
end
noncomputable abbrev RW (p : Pm) (k : Nat) (h : Ar p) (hf : p.t1 ≤ 2048) (hk : k < p.la) : Rw (ivP p k) (vvP p k) (vkP p k) (fgP p) (txP p k) where
  vvp := vvPp p k
  ib := rowsW ++ rowsM
  ibok := catR (rowsW_ok h hf hk) rowsM_ok
  ic := [(.i64, .oi 53, .oi 59), (.u64, .oi 59, .oi 60)]
  icok := icW_ok h
  vl := [⟨10, 47, 1, 0, [.oi 55]⟩]
  vlok := by
    have h2 := wd_k hk
    have h3 : p.t1 = p.tot + wd p.la := rfl
    as_aux_lemma => exact lN allNil
  fl := [⟨1, 40, 1, 0, [.oi 53]⟩]
  flok := by as_aux_lemma => exact fgN allNil (n := p.la) (e := p.A)
  vs := [⟨10, 47, 1, 0, [.oi 63], 11⟩]
  vsok := by
    have h2 := wd_k hk
    have h3 : p.t1 = p.tot + wd p.la := rfl
    as_aux_lemma => exact sN (q := p.tot + 3 + k / 4) (e' := fun m => wI (p.w (k + 1) m)) allNil (hy := congrArg (fun z => some (IntKind.u64, wI z)) (w_eq p k).symm) (hw := fun m _ hm => congrArg wI (w_ne p k m hm))
noncomputable def cvW (z k : Nat) : Cv := ⟨30000, 30004, ofPairs (rlM z 30001 30002 30003), ipL k⟩
def HW (z : Nat) : Prop := ∀ p k h hf hk, runTo (RW p k h hf hk).T Tryz.prog Hand.none 3000 Tryz.f9.ntmps tL (frOf fsL) (hOf 30004 (bsT z 10 30001 30002 (hM z))) .normal (cvW z 41) [(30001, .vec 11, 10), (30002, .vec 4, 4)] fsL (bsT z 10 30001 30002 (hM z)) = true
abbrev RY (p : Pm) (k : Nat) (hk : ¬ k < p.la) : Rw (ivP p k) (vvP p k) (vkP p k) (fgP p) (txP p k) where
  vvp := vvPp p k
  ib := [(11, .oi 40, .oi 0, .bool false)]
  ibok := by as_aux_lemma => exact rLt ibNil
def HY (z : Nat) : Prop := ∀ p k hk, runTo (RY p k hk).T Tryz.prog Hand.none 3000 Tryz.f9.ntmps tL (frOf fsL) (hOf 30004 (bsT z 10 30001 30002 (hM z))) (.exit 0) (cvW z 40) [(30001, .vec 10, 10), (30002, .vec 4, 4)] fsL (bsT z 10 30001 30002 (hM z)) = true
/-- told behind the call -/
noncomputable def postT (z a b h : Nat) : BS := (20011, a, .vec 3) :: (20012, b, .vec 4) :: (hN z, h, shp 1) :: (9899, 9899, hp 20011 3 20012 7 (hN z) 1) :: (9898, 9898, mp 1) :: same (xk z)
noncomputable def rlZ (z a b h : Nat) : List (Nat × Nat) := Nat.rec [(20011, a), (20012, b), (20013, h)] (fun _ _ => [(20011, a), (20012, b)]) z
noncomputable abbrev ipZ : IP := [(.fo 1 0 1, 1), (.oi 0, 0), (.oi 1, 1), (.oi 2, 2), (.oi 3, 3), (.oi 4, 4), (.oi 7, 7)]
noncomputable def cvZ (z a b h : Nat) : Cv := ⟨20010, 20050, ofPairs (rlZ z a b h), ipZ⟩
/-- behind the loop -/
def HZ (z : Nat) : Prop := ∀ p k, runTo (T0 p k) Tryz.prog Hand.none 3000 Tryz.f9.ntmps (restn 4 tC) (frOf fsL) (hOf 30004 (bsT z 10 30001 30002 (hM z))) .ret (cvZ z 30001 30002 30003) [(30001, .vec 10, 3), (30002, .vec 4, 4)] [(4, .oi 4)] (postT z 30001 30002 (hM z)) = true
end Go.Proofs.YtkkaifeiopjjdaaGreatDoor.np
