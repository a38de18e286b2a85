/-
  The law StringsAll: a text is made: states.
-/
import Derived.Test.YtifdjfcakkdgeaaGreatDoorSAK
import Derived.Test.YtifdjfcakkdgeaaGreatDoorXN3
set_option linter.unusedVariables false
set_option linter.unusedSimpArgs false
set_option linter.unusedSectionVars false
set_option maxRecDepth 1000000
set_option maxHeartbeats 0
namespace Go.Proofs.YtifdjfcakkdgeaaGreatDoor.sa
open Go.X Go.RowKit Go.Proofs
noncomputable abbrev KN : Hand := sq.K_top0
theorem KN_ok {T : Tab} : @HandOk T Tryz.prog KN := @sq.K_top0_ok T
theorem hNo {T : Tab} : @HandOk T Tryz.prog Hand.none := @HandOk.none T Tryz.prog
noncomputable abbrev stS : AV := .str 16 137483774941304901841256615957136564586
/-- the shapes' block, the shapes' numbers -/
noncomputable def shp : Blk := .cells 3 true [] (T.ofList 0 .leaf [stS, .nils, .int .u8 67])
noncomputable def mp (z : Nat) : Blk := Nat.rec (.map [] 0) (fun _ _ => .map [(stS, .int .i64 0, 0)] 1) z
/-- the heap: words, their number, starts, their number, shapes; ahead of the first text -/
noncomputable def hp (w j s c h : Nat) : Blk := .cells 5 false [] (T.ofList 0 .leaf [.ptr 2 0, .ov w j 1, .ov s c 1, .so h 0 1 3, .map 3254])
noncomputable def hp0 : Blk := .cells 5 false [] (T.ofList 0 .leaf [.ptr 2 0, .nils, .nils, .nils, .map 3254])
noncomputable def same : BL → BS := List.rec [] fun p _ ih => (p.1, p.1, p.2) :: ih
/-- a text is asked for -/
noncomputable def preT (z : Nat) : BL := Nat.rec (kb ++ [(3254, mp 0), (3255, hp0)]) (fun _ _ => [(3254, mp 1), (3255, hp 20001 1 20002 2 20003), (20001, .vec 0), (20002, .vec 1), (20003, shp)]) z
/-- which is the shapes' block behind it -/
noncomputable def hN (z : Nat) : Nat := Nat.rec 20013 (fun _ _ => 20003) z
noncomputable def xk (z : Nat) : BL := Nat.rec kb (fun _ _ => []) z
def upIn (c : In) (m : Nat) : In := ⟨c.f, c.xs, c.N, c.bs, c.v, m, c.bs'⟩
/-- a contract's next number may be told greater -/
theorem upOk [Tab] {P : Go.Program} {c : In} (m : Nat) (h : c.N' ≤ m) (o : InOk P c) : InOk P (upIn c m) := by
  obtain ⟨h', k1, k2, k3⟩ := o.run
  have hs : SameH h' ⟨m, h'.t⟩ := ⟨by rw [← k2]; exact h, fun x => ⟨fun b hb => ⟨b, hb, .inl rfl⟩, fun a ha => ⟨a, ha⟩⟩⟩
  refine ⟨o.lim, ⟨m, h'.t⟩, ?_, rfl, k3⟩
  intro B w0 μ w args' r ha
  refine (k1 B w0 μ w args' r ha).mono ?_
  rintro e' w' ⟨v', μ', h1, h2, h3, h4⟩
  exact ⟨v', μ', h1, h2, h3, HR.sameH hs h4⟩
noncomputable def tC : Code := codeOf Tryz.f11
theorem tC_eq : Tryz.f11.body = some tC := by kernel_rfl
noncomputable def tR : Code := hd (hd (restn 3 tC))
noncomputable def tX : Code := cIn (restn 3 tC)
noncomputable def tL : Code := lpIn (restn 2 tX)
theorem t3_eq : restn 3 tC = .seq (.seq tR (.cond (.tmp 18) tX .skip)) (restn 4 tC) := by kernel_rfl
theorem tX_eq : restn 2 tX = .block 0 (.loop tL) := by kernel_rfl
/-- the shapes' block within the call -/
noncomputable def hM (z : Nat) : Nat := Nat.rec 30003 (fun _ _ => 20003) z
noncomputable def bsT (z v a b h : Nat) : BS := (30001, a, .vec v) :: (30002, b, .vec 4) :: (hM z, h, shp) :: (3255, 3255, hp 30001 3 30002 7 (hM z)) :: (3254, 3254, mp 1) :: same (xk z)
noncomputable abbrev src : AV := .fo 1 0 1
noncomputable abbrev ipL (k : Nat) : IP := [(.fo 1 0 1, 1), (.oi 0, 0), (.oi 1, 1), (.oi 2, 2), (.oi 3, 3), (.oi 4, 4), (.oi 7, 7), (.oi k, 40)]
noncomputable abbrev fsA : List (Nat × AV) := [(0, .ptr 3255 0), (1, src), (5, .oi 4)]
noncomputable abbrev fsA2 : List (Nat × AV) := (18, .bool true) :: fsA
noncomputable abbrev fsL : List (Nat × AV) := [(0, .ptr 3255 0), (1, src), (5, .oi 4), (29, src), (30, .oi 0), (31, .oi 40)]
/-- renamings: within the call -/
noncomputable def rlM (z a b h : Nat) : List (Nat × Nat) := Nat.rec [(30001, a), (30002, b), (30003, h)] (fun _ _ => [(30001, a), (30002, b)]) z
noncomputable def cvA (z a b h : Nat) : Cv := ⟨30000, 30004, ofPairs (rlM z a b h), ipL 40⟩
noncomputable def cvA0 (a b h : Nat) : Cv := ⟨30000, 30004, ofPairs (rlM 0 a b h), [(.fo 1 0 1, 1), (.oi 0, 0), (.oi 1, 1), (.oi 2, 2), (.oi 5, 3), (.int .i64 1, 4), (.int .i64 1, 7), (.oi 40, 40)]⟩
def HA1 : Prop := ∀ p hh hf, firstTo (Pt p (RT p hh hf)) Tryz.prog KN 3000 Tryz.f11.ntmps 3 tC (T.ofList 0 .leaf [.ptr 3255 0, src]) (hIn 20010 (preT 1)) (cvA 1 20010 20012 20003) [(20010, .vec 27, 27), (20012, .vec 4, 4)] fsA (bsT 1 27 20010 20012 20003) = true
def HA0 (a b h : Nat) : Prop := ∀ p hh hf h0 ht, firstTo (Pt p (RT0 p hh hf h0 ht)) Tryz.prog KN 3000 Tryz.f11.ntmps 3 tC (T.ofList 0 .leaf [.ptr 3255 0, src]) (hIn 20010 (preT 0)) (cvA0 a b h) [(a, .vec 27, 27), (b, rowOf [.int .i64 0] true, 4)] fsA (bsT 0 27 a b h) = true
/-- is the address there? -/
def HR_ (z : Nat) : Prop := ∀ p hh hf, runTo (Pt p (RT p hh hf)) Tryz.prog KN 3000 Tryz.f11.ntmps tR (frOf fsA) (hOf 30004 (bsT z 27 30001 30002 (hM z))) .normal (cvA z 30001 30002 30003) [(30001, .vec 27, 27), (30002, .vec 4, 4)] fsA2 (bsT z 27 30001 30002 (hM z)) = true
noncomputable abbrev ipI : IP := [(.fo 1 0 1, 1), (.oi 0, 0), (.oi 1, 1), (.oi 2, 2), (.oi 3, 3), (.oi 4, 4), (.oi 7, 7), (.int .i64 0, 40)]
noncomputable def cvI (z : Nat) : Cv := ⟨30000, 30004, ofPairs (rlM z 30001 30002 30003), ipI⟩
/-- to the loop -/
def HI (z : Nat) : Prop := ∀ p hh hf, firstTo (Pt p (RT p hh hf)) Tryz.prog KN 3000 Tryz.f11.ntmps 2 tX (frOf fsA2) (hOf 30004 (bsT z 27 30001 30002 (hM z))) (cvI z) [(30001, .vec 28, 10), (30002, .vec 4, 4)] fsL (bsT z 10 30001 30002 (hM z)) = true
noncomputable abbrev rowsW : List BRow := [(11, .oi 40, .oi 0, .bool true), (14, .oi 40, .int .i64 0, .bool true), (3, .oi 40, .int .i64 4, .oi 44), (4, .oi 40, .int .i64 4, .oi 48), (2, .oi 48, .int .i64 2, .oi 49), (2, .oi 49, .int .i64 8, .oi 50), (0, .oi 40, .int .i64 1, .oi 41), (11, .oi 47, .oi 3, .bool true), (14, .oi 47, .int .i64 0, .bool true),
  (1, .oi 4, .int .i64 1, .oi 1), (0, .oi 1, .int .i64 3, .oi 46), (0, .oi 46, .oi 44, .oi 47)]
noncomputable abbrev rowsM : List BRow := [(15, .int .u64 65535, .oi 50, .oi 56), (8, .oi 55, .oi 56, .oi 57), (15, .oi 60, .oi 50, .oi 61), (5, .oi 61, .oi 56, .oi 62), (6, .oi 57, .oi 62, .oi 63)]
section
variable {p : Pm} {k : Nat}
theorem rowsW_ok (h : Ar p) (hf : p.t1 ≤ 2048) (hk : k < p.la) : ∀ r ∈ rowsW, IbOk (ivP p k) r := by
  have h1 := h.a60; have h2 := wd_k hk
  have h3 : p.t1 = p.tot + wd p.la := rfl
  exact rLt (rGe (rQuo (rRem (rMul (rMul (rAdd (rLt (rGe (rSub (rAdd (rAdd ibNil)))))))))))
theorem rowsM_ok : ∀ r ∈ rowsM, IbOk (ivP p k) r := rShl (W := BitVec.ofNat 64 65535) (rAndNot (rShl (rAnd (rOr ibNil))))
theorem icW_ok (h : Ar p) : ∀ r ∈ ([(.i64, .oi 53, .oi 59), (.u64, .oi 59, .oi 60)] : List (IntKind × AV × AV)), IcOk' (ivP p k) r := by
  have h1 := h.hA k
  exact rConv (h := wrap64 (by omega) (by omega)) (rConv (h := u64OfInt _) icNil)
end
noncomputable abbrev RW (p : Pm) (k : Nat) (h : Ar p) (hf : p.t1 ≤ 2048) (hk : k < p.la) : Rw (ivP p k) (vvP p k) (vkP p k) (fgP p) (txP p k) where
  vvp := vvPp p k
  ib := rowsW ++ rowsM
  ibok := catR (rowsW_ok h hf hk) rowsM_ok
  ic := [(.i64, .oi 53, .oi 59), (.u64, .oi 59, .oi 60)]
  icok := icW_ok h
  vl := [⟨10, 47, 1, 0, [.oi 55]⟩]
  vlok := by
    have h2 := wd_k hk
    have h3 : p.t1 = p.tot + wd p.la := rfl
    as_aux_lemma => exact lN allNil
  fl := [⟨1, 40, 1, 0, [.oi 53]⟩]
  flok := by as_aux_lemma => exact fgN allNil (n := p.la) (e := p.A)
  vs := [⟨10, 47, 1, 0, [.oi 63], 11⟩]
  vsok := by
    have h2 := wd_k hk
    have h3 : p.t1 = p.tot + wd p.la := rfl
    as_aux_lemma => exact sN (q := p.tot + 3 + k / 4) (e' := fun m => wI (p.w (k + 1) m)) allNil (hy := congrArg (fun z => some (IntKind.u64, wI z)) (w_eq p k).symm) (hw := fun m _ hm => congrArg wI (w_ne p k m hm))
noncomputable def cvW (z k : Nat) : Cv := ⟨30000, 30004, ofPairs (rlM z 30001 30002 30003), ipL k⟩
def HW (z : Nat) : Prop := ∀ p k h hf hk, runTo (Pt p (RW p k h hf hk)) Tryz.prog Hand.none 3000 Tryz.f11.ntmps tL (frOf fsL) (hOf 30004 (bsT z 10 30001 30002 (hM z))) .normal (cvW z 41) [(30001, .vec 11, 10), (30002, .vec 4, 4)] fsL (bsT z 10 30001 30002 (hM z)) = true
abbrev RY (p : Pm) (k : Nat) (hk : ¬ k < p.la) : Rw (ivP p k) (vvP p k) (vkP p k) (fgP p) (txP p k) where
  vvp := vvPp p k
  ib := [(11, .oi 40, .oi 0, .bool false)]
  ibok := by as_aux_lemma => exact rLt ibNil
def HY (z : Nat) : Prop := ∀ p k hk, runTo (Pt p (RY p k hk)) Tryz.prog Hand.none 3000 Tryz.f11.ntmps tL (frOf fsL) (hOf 30004 (bsT z 10 30001 30002 (hM z))) (.exit 0) (cvW z 40) [(30001, .vec 10, 10), (30002, .vec 4, 4)] fsL (bsT z 10 30001 30002 (hM z)) = true
/-- told behind the call -/
noncomputable def postT (z a b h : Nat) : BS := (20011, a, .vec 3) :: (20012, b, .vec 4) :: (hN z, h, shp) :: (3255, 3255, hp 20011 3 20012 7 (hN z)) :: (3254, 3254, mp 1) :: same (xk z)
noncomputable def rlZ (z a b h : Nat) : List (Nat × Nat) := Nat.rec [(20011, a), (20012, b), (20013, h)] (fun _ _ => [(20011, a), (20012, b)]) z
noncomputable abbrev ipZ : IP := [(.fo 1 0 1, 1), (.oi 0, 0), (.oi 1, 1), (.oi 2, 2), (.oi 3, 3), (.oi 4, 4), (.oi 7, 7)]
noncomputable def cvZ (z a b h : Nat) : Cv := ⟨20010, 20050, ofPairs (rlZ z a b h), ipZ⟩
/-- behind the loop -/
def HZ (z : Nat) : Prop := ∀ p k, runTo (T0 p k) Tryz.prog Hand.none 3000 Tryz.f11.ntmps (restn 4 tC) (frOf fsL) (hOf 30004 (bsT z 10 30001 30002 (hM z))) .ret (cvZ z 30001 30002 30003) [(30001, .vec 10, 3), (30002, .vec 4, 4)] [(4, .oi 4)] (postT z 30001 30002 (hM z)) = true
end Go.Proofs.YtifdjfcakkdgeaaGreatDoor.sa
