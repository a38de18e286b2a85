/-
  What the law StackFull gives: true, whatever the numbers.
-/
import Derived.Test.YtpkpfgiboodekaaXRow
import Derived.Test.YtpkpfgiboodekaaChecked
import Derived.KernelRfl
set_option linter.unusedVariables false
set_option maxRecDepth 100000
namespace Go.Proofs.Ytpkpfgiboodekaa
open Go.X Go.RowKit

theorem mixed : Try.prog.follows .mixedOrders = true := by kernel_rfl
abbrev cI (n : Int) : AV := .int .i64 n
noncomputable def codeOf (f : Func) : Code := f.body.getD .skip
noncomputable def loopOf : Code → Code
  | .seq (.block _ (.loop c)) _ => c
  | _ => .skip
noncomputable def tailOf : Code → Code
  | .seq _ c => c
  | _ => .skip
noncomputable def full : Code := codeOf Try.f3
noncomputable def fullLoop : Code := loopOf (restn 6 full)
noncomputable def fullTail : Code := tailOf (restn 6 full)
theorem full_eq : Try.f3.body = some full := by kernel_rfl
theorem full_rest : restn 6 full = .seq (.block 0 (.loop fullLoop)) fullTail := by kernel_rfl

abbrev ivF (l o k kw kl : Int) : Nat → IntKind × Int := fun i => (.i64, match i with
  | 0 => l | 1 => o | 2 => k | 3 => kw | 4 => kl | 5 => k | 6 => l + o | 7 => l + o + 4 | 8 => 2048 - kw | 9 => kw + (l + o + 4) | 10 => k + 1 | 11 => kl + l | 12 => k + 1 | 13 => 2048 - kw - 4 | 14 => kl + (2048 - kw - 4) | _ => 0)

structure Num (l o k kw kl : Int) : Prop where
  l0 : 0 ≤ l
  l1 : l ≤ 300
  o0 : 0 ≤ o
  o1 : o ≤ 300
  k0 : 0 ≤ k
  kw0 : 4 * k ≤ kw
  kw1 : kw ≤ 2048
  kl0 : 0 ≤ kl
  kl1 : kl ≤ kw

abbrev rGoL : List BRow := [(11, .oi 0, cI 0, .bool false), (13, .oi 0, cI 2048, .bool false), (11, .oi 1, cI 0, .bool false), (13, .oi 1, cI 2048, .bool false), (0, .oi 0, .oi 1, .oi 6), (0, .oi 6, cI 4, .oi 7), (1, cI 2048, .oi 3, .oi 8), (13, .oi 7, .oi 8, .bool false), (0, .oi 3, .oi 7, .oi 9), (0, .oi 2, cI 1, .oi 10)]
theorem rGoL_ok {l o k kw kl : Int} (n : Num l o k kw kl) (hg : ¬ l + o + 4 > 2048 - kw) : ∀ r ∈ rGoL, IbOk (ivF l o k kw kl) r := by
  letI := Tab.empty
  obtain ⟨l0, l1, o0, o1, k0, kw0, kw1, kl0, kl1⟩ := n
  exact (ibCons (ibLt (a := (l)) (b := (0)) rfl rfl (decide_eq_false (by omega)))
    (ibCons (ibGt (a := (l)) (b := (2048)) rfl rfl (decide_eq_false (by omega)))
    (ibCons (ibLt (a := (o)) (b := (0)) rfl rfl (decide_eq_false (by omega)))
    (ibCons (ibGt (a := (o)) (b := (2048)) rfl rfl (decide_eq_false (by omega)))
    (ibCons (ibAdd (a := (l)) (b := (o)) (c := (l + o)) rfl rfl rfl (by omega) (by omega) (by omega))
    (ibCons (ibAdd (a := (l + o)) (b := (4)) (c := (l + o + 4)) rfl rfl rfl (by omega) (by omega) (by omega))
    (ibCons (ibSub (a := (2048)) (b := (kw)) (c := (2048 - kw)) rfl rfl rfl (by omega) (by omega) (by omega))
    (ibCons (ibGt (a := (l + o + 4)) (b := (2048 - kw)) rfl rfl (decide_eq_false (by omega)))
    (ibCons (ibAdd (a := (kw)) (b := (l + o + 4)) (c := (kw + (l + o + 4))) rfl rfl rfl (by omega) (by omega) (by omega))
    (ibCons (ibAdd (a := (k)) (b := (1)) (c := (k + 1)) rfl rfl rfl (by omega) (by omega) (by omega))
    ibNil))))))))))

abbrev rEndL : List BRow := [(11, .oi 0, cI 0, .bool false), (13, .oi 0, cI 2048, .bool false), (11, .oi 1, cI 0, .bool false), (13, .oi 1, cI 2048, .bool false), (0, .oi 0, .oi 1, .oi 6), (0, .oi 6, cI 4, .oi 7), (1, cI 2048, .oi 3, .oi 8), (13, .oi 7, .oi 8, .bool true)]
theorem rEndL_ok {l o k kw kl : Int} (n : Num l o k kw kl) (hg : l + o + 4 > 2048 - kw) : ∀ r ∈ rEndL, IbOk (ivF l o k kw kl) r := by
  letI := Tab.empty
  obtain ⟨l0, l1, o0, o1, k0, kw0, kw1, kl0, kl1⟩ := n
  exact (ibCons (ibLt (a := (l)) (b := (0)) rfl rfl (decide_eq_false (by omega)))
    (ibCons (ibGt (a := (l)) (b := (2048)) rfl rfl (decide_eq_false (by omega)))
    (ibCons (ibLt (a := (o)) (b := (0)) rfl rfl (decide_eq_false (by omega)))
    (ibCons (ibGt (a := (o)) (b := (2048)) rfl rfl (decide_eq_false (by omega)))
    (ibCons (ibAdd (a := (l)) (b := (o)) (c := (l + o)) rfl rfl rfl (by omega) (by omega) (by omega))
    (ibCons (ibAdd (a := (l + o)) (b := (4)) (c := (l + o + 4)) rfl rfl rfl (by omega) (by omega) (by omega))
    (ibCons (ibSub (a := (2048)) (b := (kw)) (c := (2048 - kw)) rfl rfl rfl (by omega) (by omega) (by omega))
    (ibCons (ibGt (a := (l + o + 4)) (b := (2048 - kw)) rfl rfl (decide_eq_true (by omega)))
    ibNil))))))))

abbrev rOneL : List BRow := [(11, .oi 0, cI 0, .bool false), (13, .oi 0, cI 2048, .bool false), (11, .oi 1, cI 0, .bool false), (13, .oi 1, cI 2048, .bool false), (0, .oi 0, .oi 1, .oi 6), (0, .oi 6, cI 4, .oi 7), (13, .oi 7, cI 2048, .bool false), (0, cI 0, .oi 7, .oi 7)]
theorem rOneL_ok {l o k kw kl : Int} (n : Num l o k kw kl) : ∀ r ∈ rOneL, IbOk (ivF l o k kw kl) r := by
  letI := Tab.empty
  obtain ⟨l0, l1, o0, o1, k0, kw0, kw1, kl0, kl1⟩ := n
  exact (ibCons (ibLt (a := (l)) (b := (0)) rfl rfl (decide_eq_false (by omega)))
    (ibCons (ibGt (a := (l)) (b := (2048)) rfl rfl (decide_eq_false (by omega)))
    (ibCons (ibLt (a := (o)) (b := (0)) rfl rfl (decide_eq_false (by omega)))
    (ibCons (ibGt (a := (o)) (b := (2048)) rfl rfl (decide_eq_false (by omega)))
    (ibCons (ibAdd (a := (l)) (b := (o)) (c := (l + o)) rfl rfl rfl (by omega) (by omega) (by omega))
    (ibCons (ibAdd (a := (l + o)) (b := (4)) (c := (l + o + 4)) rfl rfl rfl (by omega) (by omega) (by omega))
    (ibCons (ibGt (a := (l + o + 4)) (b := (2048)) rfl rfl (decide_eq_false (by omega)))
    (ibCons (ibAdd (a := (0)) (b := (l + o + 4)) (c := (l + o + 4)) rfl rfl rfl (by omega) (by omega) (by omega))
    ibNil))))))))

abbrev rLessL : List BRow := [(0, .oi 0, .oi 1, .oi 6), (0, .oi 6, cI 4, .oi 7), (2, .oi 2, .oi 7, .oi 3), (1, cI 2048, .oi 3, .oi 8), (3, cI 2048, .oi 7, .oi 2), (9, .oi 2, .oi 2, .bool true), (9, .oi 3, .oi 3, .bool true), (11, .oi 8, cI 4, .bool true)]
theorem rLessL_ok {l o k kw kl : Int} (n : Num l o k kw kl) (hm : k * (l + o + 4) = kw) (hq : Int.tdiv 2048 (l + o + 4) = k) (h4 : 2048 - kw < 4) : ∀ r ∈ rLessL, IbOk (ivF l o k kw kl) r := by
  letI := Tab.empty
  obtain ⟨l0, l1, o0, o1, k0, kw0, kw1, kl0, kl1⟩ := n
  exact (ibCons (ibAdd (a := (l)) (b := (o)) (c := (l + o)) rfl rfl rfl (by omega) (by omega) (by omega))
    (ibCons (ibAdd (a := (l + o)) (b := (4)) (c := (l + o + 4)) rfl rfl rfl (by omega) (by omega) (by omega))
    (ibCons (ibMul (a := (k)) (b := (l + o + 4)) (c := (kw)) rfl rfl rfl hm (by omega) (by omega))
    (ibCons (ibSub (a := (2048)) (b := (kw)) (c := (2048 - kw)) rfl rfl rfl (by omega) (by omega) (by omega))
    (ibCons (ibQuo (a := (2048)) (b := (l + o + 4)) (c := (k)) rfl rfl rfl (by omega) hq (by omega) (by omega))
    (ibCons (ibEq (a := (k)) (b := (k)) rfl rfl (decide_eq_true rfl))
    (ibCons (ibEq (a := (kw)) (b := (kw)) rfl rfl (decide_eq_true rfl))
    (ibCons (ibLt (a := (2048 - kw)) (b := (4)) rfl rfl (decide_eq_true (by omega)))
    ibNil))))))))

abbrev rMoreL : List BRow := [(0, .oi 0, .oi 1, .oi 6), (0, .oi 6, cI 4, .oi 7), (2, .oi 2, .oi 7, .oi 3), (1, cI 2048, .oi 3, .oi 8), (3, cI 2048, .oi 7, .oi 2), (9, .oi 2, .oi 2, .bool true), (9, .oi 3, .oi 3, .bool true), (11, .oi 8, cI 4, .bool false), (1, .oi 8, cI 4, .oi 13), (11, .oi 13, cI 0, .bool false), (13, .oi 13, cI 2048, .bool false), (0, .oi 13, cI 0, .oi 13), (0, .oi 13, cI 4, .oi 8), (13, .oi 8, .oi 8, .bool false), (0, .oi 3, .oi 8, cI 2048)]
theorem rMoreL_ok {l o k kw kl : Int} (n : Num l o k kw kl) (hm : k * (l + o + 4) = kw) (hq : Int.tdiv 2048 (l + o + 4) = k) (h4 : ¬ 2048 - kw < 4) : ∀ r ∈ rMoreL, IbOk (ivF l o k kw kl) r := by
  letI := Tab.empty
  obtain ⟨l0, l1, o0, o1, k0, kw0, kw1, kl0, kl1⟩ := n
  exact (ibCons (ibAdd (a := (l)) (b := (o)) (c := (l + o)) rfl rfl rfl (by omega) (by omega) (by omega))
    (ibCons (ibAdd (a := (l + o)) (b := (4)) (c := (l + o + 4)) rfl rfl rfl (by omega) (by omega) (by omega))
    (ibCons (ibMul (a := (k)) (b := (l + o + 4)) (c := (kw)) rfl rfl rfl hm (by omega) (by omega))
    (ibCons (ibSub (a := (2048)) (b := (kw)) (c := (2048 - kw)) rfl rfl rfl (by omega) (by omega) (by omega))
    (ibCons (ibQuo (a := (2048)) (b := (l + o + 4)) (c := (k)) rfl rfl rfl (by omega) hq (by omega) (by omega))
    (ibCons (ibEq (a := (k)) (b := (k)) rfl rfl (decide_eq_true rfl))
    (ibCons (ibEq (a := (kw)) (b := (kw)) rfl rfl (decide_eq_true rfl))
    (ibCons (ibLt (a := (2048 - kw)) (b := (4)) rfl rfl (decide_eq_false (by omega)))
    (ibCons (ibSub (a := (2048 - kw)) (b := (4)) (c := (2048 - kw - 4)) rfl rfl rfl (by omega) (by omega) (by omega))
    (ibCons (ibLt (a := (2048 - kw - 4)) (b := (0)) rfl rfl (decide_eq_false (by omega)))
    (ibCons (ibGt (a := (2048 - kw - 4)) (b := (2048)) rfl rfl (decide_eq_false (by omega)))
    (ibCons (ibAdd (a := (2048 - kw - 4)) (b := (0)) (c := (2048 - kw - 4)) rfl rfl rfl (by omega) (by omega) (by omega))
    (ibCons (ibAdd (a := (2048 - kw - 4)) (b := (4)) (c := (2048 - kw)) rfl rfl rfl (by omega) (by omega) (by omega))
    (ibCons (ibGt (a := (2048 - kw)) (b := (2048 - kw)) rfl rfl (decide_eq_false (by omega)))
    (ibCons (ibAdd (a := (kw)) (b := (2048 - kw)) (c := (2048)) rfl rfl rfl (by omega) (by omega) (by omega))
    ibNil)))))))))))))))

abbrev rGoZ : List BRow := [(11, .oi 1, cI 0, .bool false), (13, .oi 1, cI 2048, .bool false), (0, cI 0, .oi 1, .oi 6), (0, .oi 6, cI 4, .oi 7), (1, cI 2048, .oi 3, .oi 8), (13, .oi 7, .oi 8, .bool false), (0, .oi 3, .oi 7, .oi 9), (0, .oi 2, cI 1, .oi 10)]
theorem rGoZ_ok {l o k kw kl : Int} (n : Num l o k kw kl) (hg : ¬ l + o + 4 > 2048 - kw) (hl : l = 0) : ∀ r ∈ rGoZ, IbOk (ivF l o k kw kl) r := by
  letI := Tab.empty
  obtain ⟨l0, l1, o0, o1, k0, kw0, kw1, kl0, kl1⟩ := n
  exact (ibCons (ibLt (a := (o)) (b := (0)) rfl rfl (decide_eq_false (by omega)))
    (ibCons (ibGt (a := (o)) (b := (2048)) rfl rfl (decide_eq_false (by omega)))
    (ibCons (ibAdd (a := (0)) (b := (o)) (c := (l + o)) rfl rfl rfl (by omega) (by omega) (by omega))
    (ibCons (ibAdd (a := (l + o)) (b := (4)) (c := (l + o + 4)) rfl rfl rfl (by omega) (by omega) (by omega))
    (ibCons (ibSub (a := (2048)) (b := (kw)) (c := (2048 - kw)) rfl rfl rfl (by omega) (by omega) (by omega))
    (ibCons (ibGt (a := (l + o + 4)) (b := (2048 - kw)) rfl rfl (decide_eq_false (by omega)))
    (ibCons (ibAdd (a := (kw)) (b := (l + o + 4)) (c := (kw + (l + o + 4))) rfl rfl rfl (by omega) (by omega) (by omega))
    (ibCons (ibAdd (a := (k)) (b := (1)) (c := (k + 1)) rfl rfl rfl (by omega) (by omega) (by omega))
    ibNil))))))))

abbrev rEndZ : List BRow := [(11, .oi 1, cI 0, .bool false), (13, .oi 1, cI 2048, .bool false), (0, cI 0, .oi 1, .oi 6), (0, .oi 6, cI 4, .oi 7), (1, cI 2048, .oi 3, .oi 8), (13, .oi 7, .oi 8, .bool true)]
theorem rEndZ_ok {l o k kw kl : Int} (n : Num l o k kw kl) (hg : l + o + 4 > 2048 - kw) (hl : l = 0) : ∀ r ∈ rEndZ, IbOk (ivF l o k kw kl) r := by
  letI := Tab.empty
  obtain ⟨l0, l1, o0, o1, k0, kw0, kw1, kl0, kl1⟩ := n
  exact (ibCons (ibLt (a := (o)) (b := (0)) rfl rfl (decide_eq_false (by omega)))
    (ibCons (ibGt (a := (o)) (b := (2048)) rfl rfl (decide_eq_false (by omega)))
    (ibCons (ibAdd (a := (0)) (b := (o)) (c := (l + o)) rfl rfl rfl (by omega) (by omega) (by omega))
    (ibCons (ibAdd (a := (l + o)) (b := (4)) (c := (l + o + 4)) rfl rfl rfl (by omega) (by omega) (by omega))
    (ibCons (ibSub (a := (2048)) (b := (kw)) (c := (2048 - kw)) rfl rfl rfl (by omega) (by omega) (by omega))
    (ibCons (ibGt (a := (l + o + 4)) (b := (2048 - kw)) rfl rfl (decide_eq_true (by omega)))
    ibNil))))))

abbrev rOneZ : List BRow := [(11, .oi 1, cI 0, .bool false), (13, .oi 1, cI 2048, .bool false), (0, cI 0, .oi 1, .oi 6), (0, .oi 6, cI 4, .oi 7), (13, .oi 7, cI 2048, .bool false), (0, cI 0, .oi 7, .oi 7)]
theorem rOneZ_ok {l o k kw kl : Int} (n : Num l o k kw kl) (hl : l = 0) : ∀ r ∈ rOneZ, IbOk (ivF l o k kw kl) r := by
  letI := Tab.empty
  obtain ⟨l0, l1, o0, o1, k0, kw0, kw1, kl0, kl1⟩ := n
  exact (ibCons (ibLt (a := (o)) (b := (0)) rfl rfl (decide_eq_false (by omega)))
    (ibCons (ibGt (a := (o)) (b := (2048)) rfl rfl (decide_eq_false (by omega)))
    (ibCons (ibAdd (a := (0)) (b := (o)) (c := (l + o)) rfl rfl rfl (by omega) (by omega) (by omega))
    (ibCons (ibAdd (a := (l + o)) (b := (4)) (c := (l + o + 4)) rfl rfl rfl (by omega) (by omega) (by omega))
    (ibCons (ibGt (a := (l + o + 4)) (b := (2048)) rfl rfl (decide_eq_false (by omega)))
    (ibCons (ibAdd (a := (0)) (b := (l + o + 4)) (c := (l + o + 4)) rfl rfl rfl (by omega) (by omega) (by omega))
    ibNil))))))

abbrev rLessZ : List BRow := [(0, cI 0, .oi 1, .oi 6), (0, .oi 6, cI 4, .oi 7), (2, .oi 2, .oi 7, .oi 3), (1, cI 2048, .oi 3, .oi 8), (3, cI 2048, .oi 7, .oi 2), (9, .oi 2, .oi 2, .bool true), (9, .oi 3, .oi 3, .bool true), (11, .oi 8, cI 4, .bool true)]
theorem rLessZ_ok {l o k kw kl : Int} (n : Num l o k kw kl) (hm : k * (l + o + 4) = kw) (hq : Int.tdiv 2048 (l + o + 4) = k) (hl : l = 0) (h4 : 2048 - kw < 4) : ∀ r ∈ rLessZ, IbOk (ivF l o k kw kl) r := by
  letI := Tab.empty
  obtain ⟨l0, l1, o0, o1, k0, kw0, kw1, kl0, kl1⟩ := n
  exact (ibCons (ibAdd (a := (0)) (b := (o)) (c := (l + o)) rfl rfl rfl (by omega) (by omega) (by omega))
    (ibCons (ibAdd (a := (l + o)) (b := (4)) (c := (l + o + 4)) rfl rfl rfl (by omega) (by omega) (by omega))
    (ibCons (ibMul (a := (k)) (b := (l + o + 4)) (c := (kw)) rfl rfl rfl hm (by omega) (by omega))
    (ibCons (ibSub (a := (2048)) (b := (kw)) (c := (2048 - kw)) rfl rfl rfl (by omega) (by omega) (by omega))
    (ibCons (ibQuo (a := (2048)) (b := (l + o + 4)) (c := (k)) rfl rfl rfl (by omega) hq (by omega) (by omega))
    (ibCons (ibEq (a := (k)) (b := (k)) rfl rfl (decide_eq_true rfl))
    (ibCons (ibEq (a := (kw)) (b := (kw)) rfl rfl (decide_eq_true rfl))
    (ibCons (ibLt (a := (2048 - kw)) (b := (4)) rfl rfl (decide_eq_true (by omega)))
    ibNil))))))))

abbrev rMoreZ : List BRow := [(0, cI 0, .oi 1, .oi 6), (0, .oi 6, cI 4, .oi 7), (2, .oi 2, .oi 7, .oi 3), (1, cI 2048, .oi 3, .oi 8), (3, cI 2048, .oi 7, .oi 2), (9, .oi 2, .oi 2, .bool true), (9, .oi 3, .oi 3, .bool true), (11, .oi 8, cI 4, .bool false), (1, .oi 8, cI 4, .oi 13), (11, .oi 13, cI 0, .bool false), (13, .oi 13, cI 2048, .bool false), (0, .oi 13, cI 0, .oi 13), (0, .oi 13, cI 4, .oi 8), (13, .oi 8, .oi 8, .bool false), (0, .oi 3, .oi 8, cI 2048)]
theorem rMoreZ_ok {l o k kw kl : Int} (n : Num l o k kw kl) (hm : k * (l + o + 4) = kw) (hq : Int.tdiv 2048 (l + o + 4) = k) (hl : l = 0) (h4 : ¬ 2048 - kw < 4) : ∀ r ∈ rMoreZ, IbOk (ivF l o k kw kl) r := by
  letI := Tab.empty
  obtain ⟨l0, l1, o0, o1, k0, kw0, kw1, kl0, kl1⟩ := n
  exact (ibCons (ibAdd (a := (0)) (b := (o)) (c := (l + o)) rfl rfl rfl (by omega) (by omega) (by omega))
    (ibCons (ibAdd (a := (l + o)) (b := (4)) (c := (l + o + 4)) rfl rfl rfl (by omega) (by omega) (by omega))
    (ibCons (ibMul (a := (k)) (b := (l + o + 4)) (c := (kw)) rfl rfl rfl hm (by omega) (by omega))
    (ibCons (ibSub (a := (2048)) (b := (kw)) (c := (2048 - kw)) rfl rfl rfl (by omega) (by omega) (by omega))
    (ibCons (ibQuo (a := (2048)) (b := (l + o + 4)) (c := (k)) rfl rfl rfl (by omega) hq (by omega) (by omega))
    (ibCons (ibEq (a := (k)) (b := (k)) rfl rfl (decide_eq_true rfl))
    (ibCons (ibEq (a := (kw)) (b := (kw)) rfl rfl (decide_eq_true rfl))
    (ibCons (ibLt (a := (2048 - kw)) (b := (4)) rfl rfl (decide_eq_false (by omega)))
    (ibCons (ibSub (a := (2048 - kw)) (b := (4)) (c := (2048 - kw - 4)) rfl rfl rfl (by omega) (by omega) (by omega))
    (ibCons (ibLt (a := (2048 - kw - 4)) (b := (0)) rfl rfl (decide_eq_false (by omega)))
    (ibCons (ibGt (a := (2048 - kw - 4)) (b := (2048)) rfl rfl (decide_eq_false (by omega)))
    (ibCons (ibAdd (a := (2048 - kw - 4)) (b := (0)) (c := (2048 - kw - 4)) rfl rfl rfl (by omega) (by omega) (by omega))
    (ibCons (ibAdd (a := (2048 - kw - 4)) (b := (4)) (c := (2048 - kw)) rfl rfl rfl (by omega) (by omega) (by omega))
    (ibCons (ibGt (a := (2048 - kw)) (b := (2048 - kw)) rfl rfl (decide_eq_false (by omega)))
    (ibCons (ibAdd (a := (kw)) (b := (2048 - kw)) (c := (2048)) rfl rfl rfl (by omega) (by omega) (by omega))
    ibNil)))))))))))))))

abbrev rJustZ : List BRow := [(0, cI 0, .oi 1, .oi 6), (0, .oi 6, cI 4, .oi 7), (2, .oi 2, .oi 7, .oi 3), (1, cI 2048, .oi 3, cI 4), (3, cI 2048, .oi 7, .oi 2), (9, .oi 2, .oi 2, .bool true), (9, .oi 3, .oi 3, .bool true), (0, .oi 3, cI 4, cI 2048)]
theorem rJustZ_ok {l o k kw kl : Int} (n : Num l o k kw kl) (hm : k * (l + o + 4) = kw) (hq : Int.tdiv 2048 (l + o + 4) = k) (hl : l = 0) (h4 : 2048 - kw = 4) : ∀ r ∈ rJustZ, IbOk (ivF l o k kw kl) r := by
  letI := Tab.empty
  obtain ⟨l0, l1, o0, o1, k0, kw0, kw1, kl0, kl1⟩ := n
  exact (ibCons (ibAdd (a := (0)) (b := (o)) (c := (l + o)) rfl rfl rfl (by omega) (by omega) (by omega))
    (ibCons (ibAdd (a := (l + o)) (b := (4)) (c := (l + o + 4)) rfl rfl rfl (by omega) (by omega) (by omega))
    (ibCons (ibMul (a := (k)) (b := (l + o + 4)) (c := (kw)) rfl rfl rfl hm (by omega) (by omega))
    (ibCons (ibSub (a := (2048)) (b := (kw)) (c := (4)) rfl rfl rfl (by omega) (by omega) (by omega))
    (ibCons (ibQuo (a := (2048)) (b := (l + o + 4)) (c := (k)) rfl rfl rfl (by omega) hq (by omega) (by omega))
    (ibCons (ibEq (a := (k)) (b := (k)) rfl rfl (decide_eq_true rfl))
    (ibCons (ibEq (a := (kw)) (b := (kw)) rfl rfl (decide_eq_true rfl))
    (ibCons (ibAdd (a := (kw)) (b := (4)) (c := (2048)) rfl rfl rfl (by omega) (by omega) (by omega))
    ibNil))))))))

abbrev rA1 : List BRow := [(11, .oi 0, cI 0, .bool true)]
theorem rA1_ok {l o k kw kl : Int} (h : l < 0) : ∀ r ∈ rA1, IbOk (ivF l o k kw kl) r := by
  letI := Tab.empty
  exact (ibCons (ibLt (a := (l)) (b := (0)) rfl rfl (decide_eq_true (by omega)))
    ibNil)

abbrev rA2 : List BRow := [(11, .oi 0, cI 0, .bool false), (11, .oi 1, cI 0, .bool true)]
theorem rA2_ok {l o k kw kl : Int} (h : ¬ l < 0) (h2 : o < 0) : ∀ r ∈ rA2, IbOk (ivF l o k kw kl) r := by
  letI := Tab.empty
  exact (ibCons (ibLt (a := (l)) (b := (0)) rfl rfl (decide_eq_false (by omega)))
    (ibCons (ibLt (a := (o)) (b := (0)) rfl rfl (decide_eq_true (by omega)))
    ibNil))

abbrev rA3 : List BRow := [(11, .oi 0, cI 0, .bool false), (11, .oi 1, cI 0, .bool false), (13, .oi 0, cI 300, .bool true)]
theorem rA3_ok {l o k kw kl : Int} (h : ¬ l < 0) (h2 : ¬ o < 0) (h3 : l > 300) : ∀ r ∈ rA3, IbOk (ivF l o k kw kl) r := by
  letI := Tab.empty
  exact (ibCons (ibLt (a := (l)) (b := (0)) rfl rfl (decide_eq_false (by omega)))
    (ibCons (ibLt (a := (o)) (b := (0)) rfl rfl (decide_eq_false (by omega)))
    (ibCons (ibGt (a := (l)) (b := (300)) rfl rfl (decide_eq_true (by omega)))
    ibNil)))

abbrev rA4 : List BRow := [(11, .oi 0, cI 0, .bool false), (11, .oi 1, cI 0, .bool false), (13, .oi 0, cI 300, .bool false), (13, .oi 1, cI 300, .bool true)]
theorem rA4_ok {l o k kw kl : Int} (h : ¬ l < 0) (h2 : ¬ o < 0) (h3 : ¬ l > 300) (h4 : o > 300) : ∀ r ∈ rA4, IbOk (ivF l o k kw kl) r := by
  letI := Tab.empty
  exact (ibCons (ibLt (a := (l)) (b := (0)) rfl rfl (decide_eq_false (by omega)))
    (ibCons (ibLt (a := (o)) (b := (0)) rfl rfl (decide_eq_false (by omega)))
    (ibCons (ibGt (a := (l)) (b := (300)) rfl rfl (decide_eq_false (by omega)))
    (ibCons (ibGt (a := (o)) (b := (300)) rfl rfl (decide_eq_true (by omega)))
    ibNil))))

abbrev rInL : List BRow := [(11, .oi 0, cI 0, .bool false), (11, .oi 1, cI 0, .bool false), (13, .oi 0, cI 300, .bool false), (13, .oi 1, cI 300, .bool false)]
theorem rInL_ok {l o k kw kl : Int} (h : ¬ l < 0) (h2 : ¬ o < 0) (h3 : ¬ l > 300) (h4 : ¬ o > 300) : ∀ r ∈ rInL, IbOk (ivF l o k kw kl) r := by
  letI := Tab.empty
  exact (ibCons (ibLt (a := (l)) (b := (0)) rfl rfl (decide_eq_false (by omega)))
    (ibCons (ibLt (a := (o)) (b := (0)) rfl rfl (decide_eq_false (by omega)))
    (ibCons (ibGt (a := (l)) (b := (300)) rfl rfl (decide_eq_false (by omega)))
    (ibCons (ibGt (a := (o)) (b := (300)) rfl rfl (decide_eq_false (by omega)))
    ibNil))))

abbrev rInZ : List BRow := [(11, .oi 1, cI 0, .bool false), (13, .oi 1, cI 300, .bool false)]
theorem rInZ_ok {l o k kw kl : Int} (h2 : ¬ o < 0) (h4 : ¬ o > 300) : ∀ r ∈ rInZ, IbOk (ivF l o k kw kl) r := by
  letI := Tab.empty
  exact (ibCons (ibLt (a := (o)) (b := (0)) rfl rfl (decide_eq_false (by omega)))
    (ibCons (ibGt (a := (o)) (b := (300)) rfl rfl (decide_eq_false (by omega)))
    ibNil))

/- states: s is the name 0; slots 1, marks 2, frames 3 -/
noncomputable abbrev fs (l n : AV) : List (Nat × AV) := [(0, l), (1, .oi 1), (4, .bool false), (5, .bool true), (6, .ptr 0 0), (7, n)]
noncomputable abbrev bs0 (a : Nat) : BS := [(0, a, rowOf [.nils, .nils, .nils, cI 0] false)]
noncomputable abbrev bsL (b c d : Nat) : BS := [(0, 0, rowOf [.ov 1 4 1, .ov 2 4 1, .ov 3 5 7, .oi 3] false), (1, b, .vec 0), (2, c, .vec 0), (3, d, .vec 0)]
noncomputable abbrev bsZ (d : Nat) : BS := [(0, 0, rowOf [.nils, .nils, .ov 3 5 7, .oi 3] false), (3, d, .vec 0)]

section
variable {l o k kw kl : Int} {w0 w : World} {a : Act}
abbrev plainTab (l o k kw kl : Int) : Tab := (bare (ivF l o k kw kl) noV noK noVp).tab
/-- k frames, locals in each -/
def SL (l o k kw kl : Int) (w0 : World) (a : Act) (w : World) : Prop := St (plainTab l o k kw kl) (Kp.below w0.heap.size) w0 (fun _ => none) 73 (frOf (fs (.oi 0) (.oi 2))) (hOf 4 (bsL 1 2 3)) a w
/-- k frames, no locals -/
def SZ (l o k kw kl : Int) (w0 : World) (a : Act) (w : World) : Prop := St (plainTab l o k kw kl) (Kp.below w0.heap.size) w0 (fun _ => none) 73 (frOf (fs (cI 0) (.oi 2))) (hOf 4 (bsZ 3)) a w
def S0 (l o : Int) (loc : AV) (w0 : World) (a : Act) (w : World) : Prop := St (plainTab l o 0 0 0) (Kp.below w0.heap.size) w0 (fun _ => none) 73 (frOf (fs loc (cI 0))) (hOf 1 (bs0 0)) a w

abbrev RgoL (n : Num l o k kw kl) (hg : ¬ l + o + 4 > 2048 - kw) : VRows (ivF l o k kw kl) noV noK where
  vvp := noVp
  ib := rGoL
  ibok := rGoL_ok n hg
  va := [⟨0, 5, 7, [cI 0, cI 0, cI 0, .oi 4, .oi 0, .oi 1, cI 0], 0, 12⟩]
  vaok := allCons (va0 (a := k) (b := k + 1) (c := 1) rfl rfl n.k0 rfl rfl (by have := n.kw0; have := n.kw1; omega)) allNil
  vz := [⟨0, 4, 1, 0, [cI 0], 0, 11⟩, ⟨0, 4, 1, 0, [.bool false], 0, 11⟩]
  vzok := allCons (vz0 (a := kl) (c := l) (b := kl + l) rfl rfl rfl n.kl0 n.l0 rfl (by have := n.kl1; have := n.kw1; have := n.l1; omega)) (allCons (vz0 (a := kl) (c := l) (b := kl + l) rfl rfl rfl n.kl0 n.l0 rfl (by have := n.kl1; have := n.kw1; have := n.l1; omega)) allNil)
abbrev rlGoL : List (Nat × Nat) := [(0, 0), (1, 6), (2, 7), (3, 5)]
noncomputable abbrev cvGoL : Cv := ⟨0, 4, ofPairs rlGoL, [(.oi 0, 0), (.oi 1, 1), (.oi 10, 2), (.oi 9, 3), (.oi 11, 4), (.oi 12, 5)]⟩
noncomputable abbrev vpGoL : VP := [(6, .vec 0, 0), (7, .vec 0, 0), (5, .vec 0, 0)]
theorem stepL (n : Num l o k kw kl) (hg : ¬ l + o + 4 > 2048 - kw) (s : SL l o k kw kl w0 a w) : fullLoop.wp Try.prog (fun e a' w' => e = .normal ∧ SL l o (k + 1) (kw + (l + o + 4)) (kl + l) w0 a' w') a w :=
  runTo_sound (T := (RgoL n hg).tab) (T' := plainTab l o (k + 1) (kw + (l + o + 4)) (kl + l)) (K := Hand.none) (n := 200) mixed (@HandOk.none (RgoL n hg).tab Try.prog) (C := cvGoL) (rl := rlGoL) (ex := .normal) (vp := vpGoL) (fs := fs (.oi 0) (.oi 2)) (bs := bsL 6 7 5)
    (Base.none _) (Nat.zero_le _) rfl (by kernel_rfl) (ipCons rfl (ipCons rfl (ipCons rfl (ipCons rfl (ipCons rfl (ipCons rfl ipNil))))))
    (vpCons (toVec rfl (fun _ => rfl) rfl) (vpCons (toVec rfl (fun _ => rfl) rfl) (vpCons (toVec rfl (fun _ => rfl) rfl) vpNil))) (glNone rfl) (by kernel_rfl) (St.same (VRows.same _ _) s)

abbrev RendL (n : Num l o k kw kl) (hg : l + o + 4 > 2048 - kw) : VRows (ivF l o k kw kl) noV noK where
  vvp := noVp
  ib := rEndL
  ibok := rEndL_ok n hg
abbrev rlEndL : List (Nat × Nat) := [(0, 0), (1, 1), (2, 2), (3, 3)]
noncomputable abbrev cvEndL : Cv := ⟨0, 4, ofPairs rlEndL, [(.oi 0, 0), (.oi 1, 1), (.oi 2, 2), (.oi 3, 3), (.oi 4, 4), (.oi 5, 5)]⟩
noncomputable abbrev vpEndL : VP := [(1, .vec 0, 0), (2, .vec 0, 0), (3, .vec 0, 0)]
theorem endL (n : Num l o k kw kl) (hg : l + o + 4 > 2048 - kw) (s : SL l o k kw kl w0 a w) : fullLoop.wp Try.prog (fun e a' w' => e = .exit 0 ∧ SL l o k kw kl w0 a' w') a w :=
  runTo_sound (T := (RendL n hg).tab) (T' := plainTab l o k kw kl) (K := Hand.none) (n := 200) mixed (@HandOk.none (RendL n hg).tab Try.prog) (C := cvEndL) (rl := rlEndL) (ex := .exit 0) (vp := vpEndL) (fs := fs (.oi 0) (.oi 2)) (bs := bsL 1 2 3)
    (Base.none _) (Nat.zero_le _) rfl (by kernel_rfl) (ipCons rfl (ipCons rfl (ipCons rfl (ipCons rfl (ipCons rfl (ipCons rfl ipNil))))))
    (vpCons (toVec rfl (fun _ => rfl) rfl) (vpCons (toVec rfl (fun _ => rfl) rfl) (vpCons (toVec rfl (fun _ => rfl) rfl) vpNil))) (glNone rfl) (by kernel_rfl) (St.same (VRows.same _ _) s)

abbrev RoneL (n : Num l o 0 0 0) (hl : 0 < l) : VRows (ivF l o 0 0 0) noV noK where
  vvp := noVp
  ib := rOneL
  ibok := rOneL_ok n
  vn := [⟨1, 0, [cI 0], 0, 0⟩, ⟨1, 0, [.bool false], 0, 0⟩]
  vnok := allCons (vn0 (c := l) rfl rfl hl (by have := n.l1; omega)) (allCons (vn0 (c := l) rfl rfl hl (by have := n.l1; omega)) allNil)
abbrev rlOneL : List (Nat × Nat) := [(0, 0), (1, 3), (2, 4), (3, 2)]
noncomputable abbrev cvOneL : Cv := ⟨0, 4, ofPairs rlOneL, [(.oi 0, 0), (.oi 1, 1), (cI 1, 2), (.oi 7, 3), (.oi 0, 4), (cI 1, 5)]⟩
noncomputable abbrev vpOneL : VP := [(3, .vec 0, 0), (4, .vec 0, 0), (2, rowOf [cI 0, cI 0, cI 0, cI 0, .oi 0, .oi 1, cI 0] true, 0)]
theorem oneL (n : Num l o 0 0 0) (hl : 0 < l) (s : S0 l o (.oi 0) w0 a w) : fullLoop.wp Try.prog (fun e a' w' => e = .normal ∧ SL l o 1 (l + o + 4) l w0 a' w') a w :=
  runTo_sound (T := (RoneL n hl).tab) (T' := plainTab l o 1 (l + o + 4) l) (K := Hand.none) (n := 200) mixed (@HandOk.none (RoneL n hl).tab Try.prog) (C := cvOneL) (rl := rlOneL) (ex := .normal) (vp := vpOneL) (fs := fs (.oi 0) (.oi 2)) (bs := bsL 3 4 2)
    (Base.none _) (Nat.zero_le _) rfl (by kernel_rfl) (ipCons rfl (ipCons rfl (ipCons rfl (ipCons rfl (ipCons rfl (ipCons rfl ipNil))))))
    (vpCons (toVec rfl (fun _ => rfl) rfl) (vpCons (toVec rfl (fun _ => rfl) rfl) (vpCons (toVec rfl (fun _ => rfl) rfl) vpNil))) (glNone rfl) (by kernel_rfl) (St.same (VRows.same _ _) s)

/- no locals -/
abbrev RgoZ (n : Num l o k kw kl) (hg : ¬ l + o + 4 > 2048 - kw) (hl : l = 0) : VRows (ivF l o k kw kl) noV noK where
  vvp := noVp
  ib := rGoZ
  ibok := rGoZ_ok n hg hl
  va := [⟨0, 5, 7, [cI 0, cI 0, cI 0, cI 0, cI 0, .oi 1, cI 0], 0, 12⟩]
  vaok := allCons (va0 (a := k) (b := k + 1) (c := 1) rfl rfl n.k0 rfl rfl (by have := n.kw0; have := n.kw1; omega)) allNil
abbrev rlGoZ : List (Nat × Nat) := [(0, 0), (3, 5)]
noncomputable abbrev cvGoZ : Cv := ⟨0, 4, ofPairs rlGoZ, [(.oi 0, 0), (.oi 1, 1), (.oi 10, 2), (.oi 9, 3), (.oi 11, 4), (.oi 12, 5)]⟩
noncomputable abbrev vpGoZ : VP := [(5, .vec 0, 0)]
theorem stepZ (n : Num l o k kw kl) (hg : ¬ l + o + 4 > 2048 - kw) (hl : l = 0) (s : SZ l o k kw kl w0 a w) : fullLoop.wp Try.prog (fun e a' w' => e = .normal ∧ SZ l o (k + 1) (kw + (l + o + 4)) (kl + l) w0 a' w') a w :=
  runTo_sound (T := (RgoZ n hg hl).tab) (T' := plainTab l o (k + 1) (kw + (l + o + 4)) (kl + l)) (K := Hand.none) (n := 200) mixed (@HandOk.none (RgoZ n hg hl).tab Try.prog) (C := cvGoZ) (rl := rlGoZ) (ex := .normal) (vp := vpGoZ) (fs := fs (cI 0) (.oi 2)) (bs := bsZ 5)
    (Base.none _) (Nat.zero_le _) rfl (by kernel_rfl) (ipCons rfl (ipCons rfl (ipCons rfl (ipCons rfl (ipCons rfl (ipCons rfl ipNil))))))
    (vpCons (toVec rfl (fun _ => rfl) rfl) vpNil) (glNone rfl) (by kernel_rfl) (St.same (VRows.same _ _) s)
abbrev RendZ (n : Num l o k kw kl) (hg : l + o + 4 > 2048 - kw) (hl : l = 0) : VRows (ivF l o k kw kl) noV noK where
  vvp := noVp
  ib := rEndZ
  ibok := rEndZ_ok n hg hl
abbrev rlEndZ : List (Nat × Nat) := [(0, 0), (3, 3)]
noncomputable abbrev cvEndZ : Cv := ⟨0, 4, ofPairs rlEndZ, [(.oi 0, 0), (.oi 1, 1), (.oi 2, 2), (.oi 3, 3), (.oi 4, 4), (.oi 5, 5)]⟩
noncomputable abbrev vpEndZ : VP := [(3, .vec 0, 0)]
theorem endZ (n : Num l o k kw kl) (hg : l + o + 4 > 2048 - kw) (hl : l = 0) (s : SZ l o k kw kl w0 a w) : fullLoop.wp Try.prog (fun e a' w' => e = .exit 0 ∧ SZ l o k kw kl w0 a' w') a w :=
  runTo_sound (T := (RendZ n hg hl).tab) (T' := plainTab l o k kw kl) (K := Hand.none) (n := 200) mixed (@HandOk.none (RendZ n hg hl).tab Try.prog) (C := cvEndZ) (rl := rlEndZ) (ex := .exit 0) (vp := vpEndZ) (fs := fs (cI 0) (.oi 2)) (bs := bsZ 3)
    (Base.none _) (Nat.zero_le _) rfl (by kernel_rfl) (ipCons rfl (ipCons rfl (ipCons rfl (ipCons rfl (ipCons rfl (ipCons rfl ipNil))))))
    (vpCons (toVec rfl (fun _ => rfl) rfl) vpNil) (glNone rfl) (by kernel_rfl) (St.same (VRows.same _ _) s)
abbrev RoneZ (n : Num l o 0 0 0) (hl : l = 0) : VRows (ivF l o 0 0 0) noV noK where
  vvp := noVp
  ib := rOneZ
  ibok := rOneZ_ok n hl
abbrev rlOneZ : List (Nat × Nat) := [(0, 0), (3, 2)]
noncomputable abbrev cvOneZ : Cv := ⟨0, 4, ofPairs rlOneZ, [(.oi 0, 0), (.oi 1, 1), (cI 1, 2), (.oi 7, 3), (.oi 0, 4), (cI 1, 5)]⟩
noncomputable abbrev vpOneZ : VP := [(2, rowOf [cI 0, cI 0, cI 0, cI 0, cI 0, .oi 1, cI 0] true, 0)]
theorem oneZ (n : Num l o 0 0 0) (hl : l = 0) (s : S0 l o (cI 0) w0 a w) : fullLoop.wp Try.prog (fun e a' w' => e = .normal ∧ SZ l o 1 (l + o + 4) l w0 a' w') a w :=
  runTo_sound (T := (RoneZ n hl).tab) (T' := plainTab l o 1 (l + o + 4) l) (K := Hand.none) (n := 200) mixed (@HandOk.none (RoneZ n hl).tab Try.prog) (C := cvOneZ) (rl := rlOneZ) (ex := .normal) (vp := vpOneZ) (fs := fs (cI 0) (.oi 2)) (bs := bsZ 2)
    (Base.none _) (Nat.zero_le _) rfl (by kernel_rfl) (ipCons rfl (ipCons rfl (ipCons rfl (ipCons rfl (ipCons rfl (ipCons rfl ipNil))))))
    (vpCons (toVec rfl (fun _ => rfl) rfl) vpNil) (glNone rfl) (by kernel_rfl) (St.same (VRows.same _ _) s)

/- what stands behind the loop -/
abbrev Out (w0 : World) := Yes Try.prog Try.f3 (Kp.below w0.heap.size) w0
abbrev RlessL (n : Num l o k kw kl) (hm : k * (l + o + 4) = kw) (hq : Int.tdiv 2048 (l + o + 4) = k) (h4 : 2048 - kw < 4) : VRows (ivF l o k kw kl) noV noK where
  vvp := noVp
  ib := rLessL
  ibok := rLessL_ok n hm hq h4
abbrev RmoreL (n : Num l o k kw kl) (hm : k * (l + o + 4) = kw) (hq : Int.tdiv 2048 (l + o + 4) = k) (h4 : ¬ 2048 - kw < 4) : VRows (ivF l o k kw kl) noV noK where
  vvp := noVp
  ib := rMoreL
  ibok := rMoreL_ok n hm hq h4
  va := [⟨0, 5, 7, [cI 0, cI 0, cI 0, .oi 4, .oi 13, cI 0, cI 0], 0, 12⟩]
  vaok := allCons (va0 (a := k) (b := k + 1) (c := 1) rfl rfl n.k0 rfl rfl (by have := n.kw0; have := n.kw1; omega)) allNil
  vz := [⟨0, 4, 1, 13, [cI 0], 0, 14⟩, ⟨0, 4, 1, 13, [.bool false], 0, 14⟩]
  vzok := allCons (vz0 (a := kl) (c := 2048 - kw - 4) (b := kl + (2048 - kw - 4)) rfl rfl rfl n.kl0 (by omega) rfl (by have := n.kl1; have := n.kw1; have := n.l1; omega)) (allCons (vz0 (a := kl) (c := 2048 - kw - 4) (b := kl + (2048 - kw - 4)) rfl rfl rfl n.kl0 (by omega) rfl (by have := n.kl1; have := n.kw1; have := n.l1; omega)) allNil)
theorem tailL (n : Num l o k kw kl) (hm : k * (l + o + 4) = kw) (hq : Int.tdiv 2048 (l + o + 4) = k) (s : SL l o k kw kl w0 a w) : fullTail.wp Try.prog (Out w0) a w := by
  by_cases h4 : 2048 - kw < 4
  · exact @runTrue_sound _ _ _ _ _ _ (RlessL n hm hq h4).tab (frOf (fs (.oi 0) (.oi 2))) (hOf 4 (bsL 1 2 3)) mixed Hand.none (@HandOk.none (RlessL n hm hq h4).tab Try.prog) 200 Try.f3 fullTail (by kernel_rfl) (St.same (VRows.same _ _) s)
  · exact @runTrue_sound _ _ _ _ _ _ (RmoreL n hm hq h4).tab (frOf (fs (.oi 0) (.oi 2))) (hOf 4 (bsL 1 2 3)) mixed Hand.none (@HandOk.none (RmoreL n hm hq h4).tab Try.prog) 200 Try.f3 fullTail (by kernel_rfl) (St.same (VRows.same _ _) s)
abbrev RlessZ (n : Num l o k kw kl) (hm : k * (l + o + 4) = kw) (hq : Int.tdiv 2048 (l + o + 4) = k) (hl : l = 0) (h4 : 2048 - kw < 4) : VRows (ivF l o k kw kl) noV noK where
  vvp := noVp
  ib := rLessZ
  ibok := rLessZ_ok n hm hq hl h4
abbrev RjustZ (n : Num l o k kw kl) (hm : k * (l + o + 4) = kw) (hq : Int.tdiv 2048 (l + o + 4) = k) (hl : l = 0) (h4 : 2048 - kw = 4) : VRows (ivF l o k kw kl) noV noK where
  vvp := noVp
  ib := rJustZ
  ibok := rJustZ_ok n hm hq hl h4
  va := [⟨0, 5, 7, [cI 0, cI 0, cI 0, cI 0, cI 0, cI 0, cI 0], 0, 12⟩]
  vaok := allCons (va0 (a := k) (b := k + 1) (c := 1) rfl rfl n.k0 rfl rfl (by have := n.kw0; have := n.kw1; omega)) allNil
abbrev RmoreZ (n : Num l o k kw kl) (hm : k * (l + o + 4) = kw) (hq : Int.tdiv 2048 (l + o + 4) = k) (hl : l = 0) (h4 : ¬ 2048 - kw < 4) (h5 : ¬ 2048 - kw = 4) : VRows (ivF l o k kw kl) noV noK where
  vvp := noVp
  ib := rMoreZ
  ibok := rMoreZ_ok n hm hq hl h4
  va := [⟨0, 5, 7, [cI 0, cI 0, cI 0, cI 0, .oi 13, cI 0, cI 0], 0, 12⟩]
  vaok := allCons (va0 (a := k) (b := k + 1) (c := 1) rfl rfl n.k0 rfl rfl (by have := n.kw0; have := n.kw1; omega)) allNil
  vn := [⟨1, 13, [cI 0], 0, 13⟩, ⟨1, 13, [.bool false], 0, 13⟩]
  vnok := allCons (vn0 (c := 2048 - kw - 4) rfl rfl (by omega) (by have := n.kw0; have := n.k0; omega)) (allCons (vn0 (c := 2048 - kw - 4) rfl rfl (by omega) (by have := n.kw0; have := n.k0; omega)) allNil)
theorem tailZ (n : Num l o k kw kl) (hm : k * (l + o + 4) = kw) (hq : Int.tdiv 2048 (l + o + 4) = k) (hl : l = 0) (s : SZ l o k kw kl w0 a w) : fullTail.wp Try.prog (Out w0) a w := by
  by_cases h4 : 2048 - kw < 4
  · exact @runTrue_sound _ _ _ _ _ _ (RlessZ n hm hq hl h4).tab (frOf (fs (cI 0) (.oi 2))) (hOf 4 (bsZ 3)) mixed Hand.none (@HandOk.none (RlessZ n hm hq hl h4).tab Try.prog) 200 Try.f3 fullTail (by kernel_rfl) (St.same (VRows.same _ _) s)
  · by_cases h5 : 2048 - kw = 4
    · exact @runTrue_sound _ _ _ _ _ _ (RjustZ n hm hq hl h5).tab (frOf (fs (cI 0) (.oi 2))) (hOf 4 (bsZ 3)) mixed Hand.none (@HandOk.none (RjustZ n hm hq hl h5).tab Try.prog) 200 Try.f3 fullTail (by kernel_rfl) (St.same (VRows.same _ _) s)
    · exact @runTrue_sound _ _ _ _ _ _ (RmoreZ n hm hq hl h4 h5).tab (frOf (fs (cI 0) (.oi 2))) (hOf 4 (bsZ 3)) mixed Hand.none (@HandOk.none (RmoreZ n hm hq hl h4 h5).tab Try.prog) 200 Try.f3 fullTail (by kernel_rfl) (St.same (VRows.same _ _) s)
end

section
variable {l o : Int} {w0 : World}
/-- behind the loop: so many frames that one more does not fit -/
def Past (l o : Int) (S : Int → Int → Int → World → Act → World → Prop) (w0 : World) (e : Exit) (a : Act) (w : World) : Prop :=
  e = .exit 0 ∧ ∃ k kw kl, Num l o k kw kl ∧ k * (l + o + 4) = kw ∧ l + o + 4 > 2048 - kw ∧ S k kw kl w0 a w

theorem roundsOf {S : Int → Int → Int → World → Act → World → Prop} (hl0 : 0 ≤ l) (ho0 : 0 ≤ o)
    (step : ∀ {k kw kl : Int} {a : Act} {w : World}, Num l o k kw kl → ¬ l + o + 4 > 2048 - kw → S k kw kl w0 a w → fullLoop.wp Try.prog (fun e a' w' => e = .normal ∧ S (k + 1) (kw + (l + o + 4)) (kl + l) w0 a' w') a w)
    (last : ∀ {k kw kl : Int} {a : Act} {w : World}, Num l o k kw kl → l + o + 4 > 2048 - kw → S k kw kl w0 a w → fullLoop.wp Try.prog (fun e a' w' => e = .exit 0 ∧ S k kw kl w0 a' w') a w) :
    ∀ (j : Nat) (k kw kl : Int) (a : Act) (w : World), Num l o k kw kl → k * (l + o + 4) = kw → 2048 < kw + 4 * j → S k kw kl w0 a w → Code.rounds Try.prog fullLoop (Past l o S w0) j a w
  | 0, k, kw, kl, a, w, n, hm, hj, s => by have := n.kw1; omega
  | j + 1, k, kw, kl, a, w, n, hm, hj, s => by
    by_cases hg : l + o + 4 > 2048 - kw
    · refine rounds_of (wp_mono (last n hg s) ?_)
      rintro e a' w' ⟨rfl, s'⟩
      exact ⟨rfl, k, kw, kl, n, hm, hg, s'⟩
    · refine rounds_of (wp_mono (step n hg s) ?_)
      rintro e a' w' ⟨rfl, s'⟩
      obtain ⟨l0, l1, o0, o1, k0, kw0, kw1, kl0, kl1⟩ := n
      exact roundsOf hl0 ho0 step last j (k + 1) _ _ a' w' ⟨l0, l1, o0, o1, by omega, by omega, by omega, by omega, by omega⟩ (by rw [Int.add_mul, hm]; omega) (by omega) s'

theorem quoIs {k v kw : Int} (h0 : 0 < v) (hm : k * v = kw) (h1 : kw ≤ 2048) (h2 : v > 2048 - kw) : Int.tdiv 2048 v = k := by
  rw [Int.tdiv_eq_ediv_of_nonneg (by omega)]
  refine Int.le_antisymm (Int.lt_add_one_iff.1 (Int.ediv_lt_of_lt_mul h0 ?_)) (Int.le_ediv_of_mul_le h0 (by omega))
  rw [Int.add_mul, hm]; omega

theorem backL (hl : 0 < l) (hl1 : l ≤ 300) (ho : 0 ≤ o) (ho1 : o ≤ 300) {a : Act} {w : World} (s : S0 l o (.oi 0) w0 a w) : (restn 6 full).wp Try.prog (Out w0) a w := by
  rw [full_rest]
  have n0 : Num l o 0 0 0 := ⟨by omega, by omega, by omega, by omega, by omega, by omega, by omega, by omega, by omega⟩
  refine wp_seq (wp_block (wp_mono (wp_loop_rounds (Q := Past l o (SL l o) w0) 600 (rounds_of (wp_mono (oneL n0 hl s) ?_))) ?_))
  · rintro e a' w' ⟨rfl, s'⟩
    exact roundsOf (by omega) ho (fun n hg s => stepL n hg s) (fun n hg s => endL n hg s) 599 1 (l + o + 4) l a' w' ⟨by omega, by omega, by omega, by omega, by omega, by omega, by omega, by omega, by omega⟩ (by omega) (by omega) s'
  · rintro e a' w' ⟨rfl, k, kw, kl, n, hm, hg, s'⟩
    exact tailL n hm (quoIs (by omega) hm n.kw1 hg) s'
theorem backZ (hl : l = 0) (ho : 0 ≤ o) (ho1 : o ≤ 300) {a : Act} {w : World} (s : S0 l o (cI 0) w0 a w) : (restn 6 full).wp Try.prog (Out w0) a w := by
  rw [full_rest]
  have n0 : Num l o 0 0 0 := ⟨by omega, by omega, by omega, by omega, by omega, by omega, by omega, by omega, by omega⟩
  refine wp_seq (wp_block (wp_mono (wp_loop_rounds (Q := Past l o (SZ l o) w0) 600 (rounds_of (wp_mono (oneZ n0 hl s) ?_))) ?_))
  · rintro e a' w' ⟨rfl, s'⟩
    exact roundsOf (by omega) ho (fun n hg s => stepZ n hg hl s) (fun n hg s => endZ n hg hl s) 599 1 (l + o + 4) l a' w' ⟨by omega, by omega, by omega, by omega, by omega, by omega, by omega, by omega, by omega⟩ (by omega) (by omega) s'
  · rintro e a' w' ⟨rfl, k, kw, kl, n, hm, hg, s'⟩
    exact tailZ n hm (quoIs (by omega) hm n.kw1 hg) hl s'

abbrev rowsOf {ib : List BRow} (h : ∀ r ∈ ib, IbOk (ivF l o 0 0 0) r) : VRows (ivF l o 0 0 0) noV noK where
  vvp := noVp
  ib := ib
  ibok := h
noncomputable abbrev act0 (l o : Int) : Act := { tmps := #[.int .i64 l, .int .i64 o] ++ Array.replicate (Try.f3.ntmps - 2) undef, defers := [] }
noncomputable abbrev cv0 : Cv := ⟨0, 1, ofPairs [(0, 11)], [(.oi 0, 0), (.oi 1, 1)]⟩

theorem startS (R : VRows (ivF l o 0 0 0) noV noK) (x : AV) (hx : @vrel R.tab (fun _ => none) x (.int .i64 l)) (w : World) : St R.tab (Kp.below w.heap.size) w (fun _ => none) Try.f3.ntmps (T.ofList 0 .leaf [x, .oi 1]) H.empty (act0 l o) w :=
  @St.start R.tab [x, .oi 1] #[.int .i64 l, .int .i64 o] Try.f3.ntmps w (fun g o a h => by cases h) (@vrels_cons R.tab _ _ _ _ _ hx (@vrels_cons R.tab _ _ _ _ _ (by simp only [vrel]; rfl) (by simp [vrels]))) (show 2 ≤ Try.f3.ntmps by decide +kernel) (show 2 < limit by decide)

theorem stackFull_any (l o : Int) (w : World) : Calls Try.prog 3 #[.int .i64 l, .int .i64 o] w fun e w' => e = .returned (.bool true) ∧ Below w.heap.size w w' := by
  refine yes_calls Try.func3 full_eq w ?_
  show full.wp Try.prog (Out w) (act0 l o) w
  have out : ∀ {ib : List BRow} (h : ∀ r ∈ ib, IbOk (ivF l o 0 0 0) r), runTrue (rowsOf h).tab Try.prog Hand.none 400 Try.f3 full (T.ofList 0 .leaf [.oi 0, .oi 1]) H.empty = true → full.wp Try.prog (Out w) (act0 l o) w := fun h e =>
    @runTrue_sound _ _ _ _ _ _ (rowsOf h).tab _ _ mixed Hand.none (@HandOk.none (rowsOf h).tab Try.prog) 400 Try.f3 full e (startS (rowsOf h) (.oi 0) (by simp only [vrel]; rfl) w)
  by_cases h1 : l < 0
  · exact out (rA1_ok h1) (by kernel_rfl)
  by_cases h2 : o < 0
  · exact out (rA2_ok h1 h2) (by kernel_rfl)
  by_cases h3 : l > 300
  · exact out (rA3_ok h1 h2 h3) (by kernel_rfl)
  by_cases h4 : o > 300
  · exact out (rA4_ok h1 h2 h3 h4) (by kernel_rfl)
  by_cases hz : l = 0
  · refine firstTo_sound (T := (rowsOf (rInZ_ok (l := l) h2 h4)).tab) (T' := plainTab l o 0 0 0) (K := Hand.none) (m := 400) (n := 6) mixed (@HandOk.none (rowsOf (rInZ_ok (l := l) h2 h4)).tab Try.prog) (C := cv0) (rl := [(0, 11)]) (vp := []) (fs := fs (cI 0) (cI 0)) (bs := bs0 11)
      (Base.none _) (Nat.zero_le _) rfl (by kernel_rfl) (ipCons rfl (ipCons rfl ipNil)) vpNil (glNone rfl) (by kernel_rfl) (startS (rowsOf (rInZ_ok (l := l) h2 h4)) (cI 0) (by simp [vrel, hz]) w) fun a' w' s => ?_
    exact backZ hz (by omega) (by omega) s
  · refine firstTo_sound (T := (rowsOf (rInL_ok h1 h2 h3 h4)).tab) (T' := plainTab l o 0 0 0) (K := Hand.none) (m := 400) (n := 6) mixed (@HandOk.none (rowsOf (rInL_ok h1 h2 h3 h4)).tab Try.prog) (C := cv0) (rl := [(0, 11)]) (vp := []) (fs := fs (.oi 0) (cI 0)) (bs := bs0 11)
      (Base.none _) (Nat.zero_le _) rfl (by kernel_rfl) (ipCons rfl (ipCons rfl ipNil)) vpNil (glNone rfl) (by kernel_rfl) (startS (rowsOf (rInL_ok h1 h2 h3 h4)) (.oi 0) (by simp only [vrel]; rfl) w) fun a' w' s => ?_
    exact backL (by omega) (by omega) (by omega) (by omega) s
end

end Go.Proofs.Ytpkpfgiboodekaa
