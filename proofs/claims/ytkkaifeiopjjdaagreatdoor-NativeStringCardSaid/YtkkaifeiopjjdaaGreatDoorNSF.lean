/-
  The law NativeString: a text is made: the way to the loop.
-/
import Derived.Test.YtkkaifeiopjjdaaGreatDoorNSE
import Derived.Test.YtkkaifeiopjjdaaGreatDoorNQT0
set_option linter.unusedVariables false
set_option linter.unusedSimpArgs false
set_option linter.unusedSectionVars false
set_option maxRecDepth 1000000
set_option maxHeartbeats 0
namespace Go.Proofs.YtkkaifeiopjjdaaGreatDoor.ns
open Go.X Go.RowKit Go.Proofs
noncomputable def tC : Code := codeOf Tryz.f9
theorem tC_eq : Tryz.f9.body = some tC := by kernel_rfl
noncomputable def cIn : Code → Code
  | .seq (.seq _ (.cond _ x _)) _ => x
  | _ => .skip
noncomputable def tR : Code := hd (hd (restn 3 tC))
noncomputable def tX : Code := cIn (restn 3 tC)
noncomputable def tL : Code := lpIn (restn 2 tX)
theorem t3_eq : restn 3 tC = .seq (.seq tR (.cond (.tmp 18) tX .skip)) (restn 4 tC) := by kernel_rfl
theorem tX_eq : restn 2 tX = .block 0 (.loop tL) := by kernel_rfl
/-- the loop's numbers -/
def oW (p : Pm) : Nat → Nat → BitVec 64
  | 0 => fun _ => 0#64
  | 1 => p.W1
  | _ => p.W2
def qT (p : Pm) (o k : Nat) : Lq := ⟨oS p o, oN p o, k, tS p o, oF p o, oW p o⟩
theorem put0 {f : Nat → BitVec 64} {m : Nat} : putsTo 4 16 f 0 m = 0#64 := rfl
theorem objZ {n m : Nat} {f : Nat → Int} (h : m ≠ 2) : objW n f 0 m = 0#64 := by
  unfold objW
  rw [if_neg h]
  split
  · rfl
  · rfl
theorem WB_ne (p : Pm) : ∀ o m, m ≠ oS p o + 2 → WB p o m = WZ p o m
  | 0, m, h => by
    have h : m ≠ 0 + 2 := h
    show wn 0 p.la p.A (fun _ => 0#64) 0 m = 0#64
    rw [show m = 0 + m by omega, wn_hi]; exact objZ (by omega)
  | 1, m, h => by
    have h : m ≠ p.s1 + 2 := h
    show wn p.s1 p.lb p.B p.W1 0 m = if m < p.s1 then p.W1 m else 0#64
    by_cases c : m < p.s1
    · rw [if_pos c, wn_lo c]
    · rw [if_neg c, show m = p.s1 + (m - p.s1) by omega, wn_hi]; exact objZ (by omega)
  | _ + 2, m, h => by
    have h : m ≠ p.s2 + 2 := h
    show wn p.s2 p.lc p.C p.W2 0 m = if m < p.s2 then p.W2 m else 0#64
    by_cases c : m < p.s2
    · rw [if_pos c, wn_lo c]
    · rw [if_neg c, show m = p.s2 + (m - p.s2) by omega, wn_hi]; exact objZ (by omega)
theorem WB_n (p : Pm) (h : Ar p) : ∀ o, o < 3 → wI (WB p o (oS p o + 2)) = (oN p o : Int)
  | 0, _ => by
    show wI (wn 0 p.la p.A (fun _ => 0#64) 0 (0 + 2)) = (p.la : Int)
    rw [wn_hi]; exact objW2 (by have := h.a60; omega)
  | 1, _ => by
    show wI (wn p.s1 p.lb p.B p.W1 0 (p.s1 + 2)) = (p.lb : Int)
    rw [wn_hi]; exact objW2 (by have := h.b60; omega)
  | 2, _ => by
    show wI (wn p.s2 p.lc p.C p.W2 0 (p.s2 + 2)) = (p.lc : Int)
    rw [wn_hi]; exact objW2 (by have := h.hN 2; have : p.lc ≤ 120 := this; omega)
  | _ + 3, h => by omega
noncomputable abbrev rowsT : List BRow := [(11, .oi 0, .int .i64 0, .bool false), (11, .oi 1, .int .i64 0, .bool false), (11, .oi 3, .int .i64 0, .bool false), (13, .oi 0, .int .i64 2147483647, .bool false), (13, .oi 1, .int .i64 2147483647, .bool false), (13, .oi 3, .int .i64 2147483647, .bool false),
  (2, .oi 0, .int .i64 2, .oi 20), (0, .oi 20, .int .i64 8, .oi 21), (1, .oi 21, .int .i64 1, .oi 22), (3, .oi 22, .int .i64 8, .oi 23), (0, .int .i64 3, .oi 23, .oi 4),
  (2, .oi 1, .int .i64 2, .oi 24), (0, .oi 24, .int .i64 8, .oi 25), (1, .oi 25, .int .i64 1, .oi 26), (3, .oi 26, .int .i64 8, .oi 27), (0, .int .i64 3, .oi 27, .oi 16),
  (2, .oi 3, .int .i64 2, .oi 28), (0, .oi 28, .int .i64 8, .oi 29), (1, .oi 29, .int .i64 1, .oi 30), (3, .oi 30, .int .i64 8, .oi 31), (0, .int .i64 3, .oi 31, .oi 17),
  (1, .int .i64 2048, .oi 4, .oi 18), (1, .int .i64 2048, .oi 5, .oi 19), (13, .oi 4, .int .i64 2048, .bool false), (13, .oi 16, .oi 18, .bool false), (13, .oi 17, .oi 19, .bool false),
  (11, .oi 11, .oi 4, .bool true), (11, .oi 12, .oi 4, .bool true), (0, .oi 4, .int .i64 1, .oi 7), (0, .oi 5, .int .i64 1, .oi 8), (13, .oi 7, .int .i64 0, .bool true), (13, .oi 8, .int .i64 0, .bool true)]
section
variable {p : Pm} {q : Lq} {st : Nat}
theorem rowsT_ok (h : Ar p) : ∀ r ∈ rowsT, IbOk (ivL p q st) r := by
  have h1 := h.s1; have h2 := h.s2; have h3 := h.s3; have h4 := h.a60; have h5 := h.b60
  have e1 : p.s1 = wd p.la := rfl
  have e2 : p.s2 = p.s1 + wd p.lb := rfl
  have e3 : p.s3 = p.s2 + wd p.lc := rfl
  have e4 : p.lc = p.la + p.lb := rfl
  have w1 : wd p.la = 3 + (p.la * 2 + 7) / 8 := rfl
  have w2 : wd p.lb = 3 + (p.lb * 2 + 7) / 8 := rfl
  have w3 : wd p.lc = 3 + (p.lc * 2 + 7) / 8 := rfl
  exact rLt (rLt (rLt (rGt (rGt (rGt (rMul (rAdd (rSub (rQuo (rAdd (rMul (rAdd (rSub (rQuo (rAdd (rMul (rAdd (rSub (rQuo (rAdd (rSub (rSub (rGt (rGt (rGt (rLt (rLt (rAdd (rAdd (rGt (rGt ibNil)))))))))))))))))))))))))))))))
noncomputable abbrev icT : List (IntKind × AV × AV) := [(.u64, .oi 0, .oi 13), (.u64, .oi 1, .oi 14), (.u64, .oi 3, .oi 15)]
theorem wrapU64 {n : Int} (h0 : 0 ≤ n) (h1 : n < 65536) : IntKind.u64.wrap n = n := by
  unfold IntKind.wrap IntKind.bits IntKind.signed
  simp only [Bool.false_and]
  exact Int.emod_eq_of_lt h0 (by omega)
theorem icT_ok (h : Ar p) : ∀ r ∈ icT, IcOk' (ivL p q st) r := by
  have h1 := h.a60; have h2 := h.b60
  have h3 : (p.lc : Int) = p.la + p.lb := by show ((p.la + p.lb : Nat) : Int) = _; omega
  exact rConv (rConv (rConv icNil (h := wrapU64 (by omega) (by omega))) (h := wrapU64 (by omega) (by omega))) (h := wrapU64 (by omega) (by omega))
noncomputable abbrev vsT : List VS := [⟨26, 11, 1, 0, [.int .u64 0], 26⟩, ⟨27, 4, 1, 0, [.int .u64 0], 27⟩, ⟨28, 5, 1, 0, [.int .u64 0], 28⟩, ⟨26, 12, 1, 0, [.oi 13], 23⟩, ⟨27, 9, 1, 0, [.oi 14], 24⟩, ⟨28, 10, 1, 0, [.oi 15], 25⟩]
theorem vsT_ok (h : Ar p) : ∀ r ∈ vsT, VsOk (ivL p q st) (vvL p q) (vkL p q) r := by
  have h1 := h.s1; have h2 := h.s2; have h3 := h.s3
  have z1 : WZ p 1 p.s1 = 0#64 := if_neg (Nat.lt_irrefl _)
  have z2 : WZ p 2 p.s2 = 0#64 := if_neg (Nat.lt_irrefl _)
  have n0 := WB_n p h 0 (by decide)
  have n1 := WB_n p h 1 (by decide)
  have n2 := WB_n p h 2 (by decide)
  have r6 := sN (K := .u64) (i := 28) (j := 10) (i' := 25) (x := .oi 15) (q := p.s2 + 2) (e' := fun m => wI (WB p 2 m)) (iv := ivL p q st) (vv := vvL p q) (vk := vkL p q) allNil (hy := congrArg (fun z => some (IntKind.u64, z)) n2.symm) (hw := fun m _ hm => congrArg wI (WB_ne p 2 m hm))
  have r5 := sN (K := .u64) (i := 27) (j := 9) (i' := 24) (x := .oi 14) (q := p.s1 + 2) (e' := fun m => wI (WB p 1 m)) (iv := ivL p q st) (vv := vvL p q) (vk := vkL p q) r6 (hy := congrArg (fun z => some (IntKind.u64, z)) n1.symm) (hw := fun m _ hm => congrArg wI (WB_ne p 1 m hm))
  have r4 := sN (K := .u64) (i := 26) (j := 12) (i' := 23) (x := .oi 13) (q := 2) (e' := fun m => wI (WB p 0 m)) (iv := ivL p q st) (vv := vvL p q) (vk := vkL p q) r5 (hy := congrArg (fun z => some (IntKind.u64, z)) n0.symm) (hw := fun m _ hm => congrArg wI (WB_ne p 0 m (by show m ≠ 0 + 2; exact hm)))
  have r3 := sN (K := .u64) (i := 28) (j := 5) (i' := 28) (x := .int .u64 0) (q := p.s2) (e' := fun m => wI (WZ p 2 m)) (iv := ivL p q st) (vv := vvL p q) (vk := vkL p q) r4 (hy := congrArg (fun z => some (IntKind.u64, wI z)) z2.symm) (hw := fun _ _ _ => rfl)
  have r2 := sN (K := .u64) (i := 27) (j := 4) (i' := 27) (x := .int .u64 0) (q := p.s1) (e' := fun m => wI (WZ p 1 m)) (iv := ivL p q st) (vv := vvL p q) (vk := vkL p q) r3 (hy := congrArg (fun z => some (IntKind.u64, wI z)) z1.symm) (hw := fun _ _ _ => rfl)
  exact sN (K := .u64) (i := 26) (j := 11) (i' := 26) (x := .int .u64 0) (q := 0) (e' := fun m => wI (WZ p 0 m)) r2 (hw := fun _ _ _ => rfl)
theorem vzT_ok (h : Ar p) : ∀ r ∈ ([⟨0, 4, 1, 16, [.int .u64 0], 27, 5⟩, ⟨1, 5, 1, 17, [.int .u64 0], 28, 6⟩] : List VZ), VzOk (ivL p q st) (vvL p q) (vkL p q) r := by
  have h1 := h.s1; have h2 := h.s2; have h3 := h.s3
  have e2 : p.s2 = p.s1 + wd p.lb := rfl
  have e3 : p.s3 = p.s2 + wd p.lc := rfl
  exact zN (zN allNil (n := p.s2) (c := wd p.lc) (h1 := fun m hm => congrArg wI (if_pos hm)) (h0 := fun m hm => congrArg wI (if_neg (Nat.not_lt.2 hm)))) (n := p.s1) (c := wd p.lb) (h1 := fun m hm => congrArg wI (if_pos hm)) (h0 := fun m hm => congrArg wI (if_neg (Nat.not_lt.2 hm)))
end
noncomputable abbrev RT (p : Pm) (h : Ar p) : Rw (ivL p qZ 0) (vvL p qZ) (vkL p qZ) (fgL p) (txL p qZ 0) where
  vvp := vvLp p qZ
  ib := rowsT ++ rowsL
  ibok := fun r hr => (List.mem_append.1 hr).elim (rowsT_ok h r) (rowsL_ok h r)
  ic := icT ++ icL
  icok := fun r hr => (List.mem_append.1 hr).elim (icT_ok h r) (icL_ok h r)
  vs := vsT
  vsok := vsT_ok h
  vz := [⟨0, 4, 1, 16, [.int .u64 0], 27, 5⟩, ⟨1, 5, 1, 17, [.int .u64 0], 28, 6⟩]
  vzok := vzT_ok h
  vn := [⟨1, 4, [.int .u64 0], 26, 4⟩]
  vnok := by have h1 := h.s1; exact nN allNil
  vc := [(0, 11), (2, 12)]
  vcok := cN (cN allNil)
end Go.Proofs.YtkkaifeiopjjdaaGreatDoor.ns
