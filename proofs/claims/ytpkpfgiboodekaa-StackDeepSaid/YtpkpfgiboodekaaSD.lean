/-
  What the law StackDeep gives: true, whatever the numbers.
-/
import Derived.Test.YtpkpfgiboodekaaXRow
import Derived.Test.YtpkpfgiboodekaaChecked
import Derived.KernelRfl
set_option linter.unusedVariables false
set_option linter.unusedSimpArgs false
set_option maxRecDepth 100000
namespace Go.Proofs.Ytpkpfgiboodekaa.deep
open Go.X Go.RowKit

theorem mixed : Try.prog.follows .mixedOrders = true := by kernel_rfl
abbrev cI (n : Int) : AV := .int .i64 n
noncomputable def codeOf (f : Func) : Code := f.body.getD .skip
noncomputable def headOf : Code → Code
  | .seq c _ => c
  | _ => .skip
noncomputable def tailOf : Code → Code
  | .seq _ c => c
  | _ => .skip
noncomputable def loopIn : Code → Code
  | .block _ (.loop c) => c
  | _ => .skip
noncomputable def body : Code := codeOf Try.f4
noncomputable def up0 : Code := headOf (headOf (restn 5 body))
noncomputable def up : Code := loopIn (tailOf (headOf (restn 5 body)))
noncomputable def down0 : Code := headOf (headOf (tailOf (restn 5 body)))
noncomputable def down : Code := loopIn (tailOf (headOf (tailOf (restn 5 body))))
noncomputable def last : Code := tailOf (tailOf (restn 5 body))
theorem body_eq : Try.f4.body = some body := by kernel_rfl
theorem body_rest : restn 5 body = .seq (.seq up0 (.block 0 (.loop up))) (.seq (.seq down0 (.block 2 (.loop down))) last) := by kernel_rfl

/- numbers: 0 n; 1 the frames; 2 words; 3 slots .. -/
abbrev ivD (c k n : Nat) : Nat → IntKind × Int := fun i => (.i64, match i with
  | 0 => (n : Int) | 1 => (k : Int) | 2 => ((k * (c + 6) : Nat) : Int) | 3 => ((k * (c + 1) : Nat) : Int) | 4 => (k : Int) - 1 | 5 => ((k + 1 : Nat) : Int) | 6 => (((k + 1) * (c + 6) : Nat) : Int) | 7 => ((k * (c + 1) + c : Nat) : Int) | 8 => 3 * (k : Int) | 9 => ((k * (c + 1) + (c - 1) : Nat) : Int) | 10 => (((k + 1) * (c + 1) : Nat) : Int) | 11 => 2048 - ((k * (c + 6) : Nat) : Int) | 12 => (c : Int) | 13 => (c : Int) + 2 | 14 => (c : Int) + 6 | 15 => ((c - 1 : Nat) : Int) | 16 => 3 * ((k : Int) - 1) | 17 => (((k - 1) * (c + 1) : Nat) : Int) | 18 => (((k - 1) * (c + 1) + (c - 1) : Nat) : Int) | 19 => ((k * (c + 1) - 1 : Nat) : Int) | 20 => (((k - 1) * (c + 6) : Nat) : Int) | 21 => (k : Int) - 1 - 1 | _ => 0)

/- what the frames, the slots and the marks hold, by their places -/
def fld (c j f : Nat) : Int := if f = 0 then (j : Int) else if f = 1 then ((j + 1 : Nat) : Int) else if f = 2 then 3 * (j : Int) else if f = 3 then ((j * (c + 1) : Nat) : Int) else if f = 4 then (c : Int) else if f = 5 then 2 else 1
def eF (c m : Nat) : Int := fld c (m / 7) (m % 7)
def eS (c m : Nat) : Int := if c ≤ m % (c + 1) + 1 then ((m / (c + 1) : Nat) : Int) else 0
def eM (c m : Nat) : Bool := if m % (c + 1) + 1 = c then decide (m / (c + 1) % 2 = 0) else if m % (c + 1) = c then decide (m / (c + 1) % 3 = 0) else false
def vvD (c k : Nat) : Nat → Nat → Option AV := fun i => match i with
  | 0 => intV (k * 7) (eF c)
  | 1 => intV ((k + 1) * 7) (fun m => if m = k * 7 + 2 then 0 else if m = k * 7 + 6 then 0 else eF c m)
  | 2 => intV ((k + 1) * 7) (fun m => if m = k * 7 + 6 then 0 else eF c m)
  | 3 => intV ((k + 1) * 7) (eF c)
  | 4 => intV (k * (c + 1)) (eS c)
  | 5 => intV (k * (c + 1) + c) (fun m => if m < k * (c + 1) then eS c m else 0)
  | 6 => intV (k * (c + 1) + c) (eS c)
  | 7 => intV ((k + 1) * (c + 1)) (eS c)
  | 8 => boolV (k * (c + 1)) (eM c)
  | 9 => boolV (k * (c + 1) + c) (fun m => if m < k * (c + 1) then eM c m else false)
  | 10 => boolV (k * (c + 1) + c) (eM c)
  | 11 => boolV ((k + 1) * (c + 1)) (eM c)
  | 12 => intV (k * 7) (fun m => if m = (k - 1) * 7 + 6 then 0 else eF c m)
  | _ => fun _ => none
abbrev vkD (c k : Nat) : Nat → Nat := fun i => match i with
  | 0 => k * 7 | 1 => (k + 1) * 7 | 2 => (k + 1) * 7 | 3 => (k + 1) * 7 | 4 => k * (c + 1) | 5 => k * (c + 1) + c | 6 => k * (c + 1) + c | 7 => (k + 1) * (c + 1) | 8 => k * (c + 1) | 9 => k * (c + 1) + c | 10 => k * (c + 1) + c | 11 => (k + 1) * (c + 1)
  | 12 => k * 7 | _ => 0
theorem vvp (c k : Nat) : ∀ i m a, vvD c k i m = some a → plain a = true := by
  intro i m a h
  unfold vvD at h
  split at h
  all_goals first | (cases h; done) | (obtain ⟨_, rfl⟩ := intV_some h; rfl) | (obtain ⟨_, rfl⟩ := boolV_some h; rfl)
abbrev CC (c : Nat) : Prop := c = 1 ∨ c = 2 ∨ c = 3 ∨ c = 4 ∨ c = 5
theorem eF_at (c k q : Nat) (hq : q < 7) : eF c (k * 7 + q) = fld c k q := by
  unfold eF
  rw [show (k * 7 + q) / 7 = k by omega, show (k * 7 + q) % 7 = q by omega]
theorem eS_at {c : Nat} (hc : CC c) (k q : Nat) (hq : q ≤ c) : eS c (k * (c + 1) + q) = if c ≤ q + 1 then (k : Int) else 0 := by
  unfold eS
  rw [show (k * (c + 1) + q) / (c + 1) = k by rcases hc with rfl | rfl | rfl | rfl | rfl <;> omega, show (k * (c + 1) + q) % (c + 1) = q by rcases hc with rfl | rfl | rfl | rfl | rfl <;> omega]
theorem eM_at {c : Nat} (hc : CC c) (k q : Nat) (hq : q ≤ c) : eM c (k * (c + 1) + q) = if q + 1 = c then decide (k % 2 = 0) else if q = c then decide (k % 3 = 0) else false := by
  unfold eM
  rw [show (k * (c + 1) + q) / (c + 1) = k by rcases hc with rfl | rfl | rfl | rfl | rfl <;> omega, show (k * (c + 1) + q) % (c + 1) = q by rcases hc with rfl | rfl | rfl | rfl | rfl <;> omega]


abbrev rPush00 : List BRow := [(11, .oi 1, .oi 0, .bool true), (0, .oi 1, cI 1, .oi 5), (11, .oi 1, cI 0, .bool false), (11, .oi 5, cI 0, .bool false), (11, .oi 12, cI 0, .bool false), (13, .oi 12, cI 2048, .bool false), (0, .oi 12, cI 2, .oi 13), (0, .oi 13, cI 4, .oi 14), (1, cI 2048, .oi 2, .oi 11), (13, .oi 14, .oi 11, .bool false), (0, .oi 2, .oi 14, .oi 6), (2, .oi 1, cI 3, .oi 8), (9, .oi 5, cI 0, .bool false), (1, .oi 5, cI 1, .oi 1), (11, .oi 1, .oi 5, .bool true), (14, .oi 1, cI 0, .bool true), (1, .oi 12, cI 1, .oi 15), (4, .oi 1, cI 2, cI 0), (4, .oi 1, cI 3, cI 0), (11, .oi 15, cI 0, .bool false), (14, .oi 15, .oi 12, .bool false), (0, .oi 3, .oi 15, .oi 9), (14, .oi 9, cI 0, .bool true), (11, .oi 9, .oi 7, .bool true)]
theorem rPush00_ok {c k n : Nat} (hc : c = 1 ∨ c = 2 ∨ c = 3 ∨ c = 4 ∨ c = 5) (hk : k < n) (hn : n ≤ 200) (hw : (k + 1) * (c + 6) ≤ 2048) (h2 : k % 2 = 0) (h3 : k % 3 = 0) : ∀ r ∈ rPush00, IbOk (ivD c k n) r := by
  letI := Tab.empty
  exact (ibCons (ibLt (a := ((k : Int))) (b := ((n : Int))) rfl rfl (decide_eq_true (by (rcases hc with rfl | rfl | rfl | rfl | rfl <;> omega))))
    (ibCons (ibAdd (a := ((k : Int))) (b := (1)) (c := (((k + 1 : Nat) : Int))) rfl rfl rfl (by (rcases hc with rfl | rfl | rfl | rfl | rfl <;> omega)) (by (rcases hc with rfl | rfl | rfl | rfl | rfl <;> omega)) (by (rcases hc with rfl | rfl | rfl | rfl | rfl <;> omega)))
    (ibCons (ibLt (a := ((k : Int))) (b := (0)) rfl rfl (decide_eq_false (by (rcases hc with rfl | rfl | rfl | rfl | rfl <;> omega))))
    (ibCons (ibLt (a := (((k + 1 : Nat) : Int))) (b := (0)) rfl rfl (decide_eq_false (by (rcases hc with rfl | rfl | rfl | rfl | rfl <;> omega))))
    (ibCons (ibLt (a := ((c : Int))) (b := (0)) rfl rfl (decide_eq_false (by (rcases hc with rfl | rfl | rfl | rfl | rfl <;> omega))))
    (ibCons (ibGt (a := ((c : Int))) (b := (2048)) rfl rfl (decide_eq_false (by (rcases hc with rfl | rfl | rfl | rfl | rfl <;> omega))))
    (ibCons (ibAdd (a := ((c : Int))) (b := (2)) (c := ((c : Int) + 2)) rfl rfl rfl (by (rcases hc with rfl | rfl | rfl | rfl | rfl <;> omega)) (by (rcases hc with rfl | rfl | rfl | rfl | rfl <;> omega)) (by (rcases hc with rfl | rfl | rfl | rfl | rfl <;> omega)))
    (ibCons (ibAdd (a := ((c : Int) + 2)) (b := (4)) (c := ((c : Int) + 6)) rfl rfl rfl (by (rcases hc with rfl | rfl | rfl | rfl | rfl <;> omega)) (by (rcases hc with rfl | rfl | rfl | rfl | rfl <;> omega)) (by (rcases hc with rfl | rfl | rfl | rfl | rfl <;> omega)))
    (ibCons (ibSub (a := (2048)) (b := (((k * (c + 6) : Nat) : Int))) (c := (2048 - ((k * (c + 6) : Nat) : Int))) rfl rfl rfl (by (rcases hc with rfl | rfl | rfl | rfl | rfl <;> omega)) (by (rcases hc with rfl | rfl | rfl | rfl | rfl <;> omega)) (by (rcases hc with rfl | rfl | rfl | rfl | rfl <;> omega)))
    (ibCons (ibGt (a := ((c : Int) + 6)) (b := (2048 - ((k * (c + 6) : Nat) : Int))) rfl rfl (decide_eq_false (by (rcases hc with rfl | rfl | rfl | rfl | rfl <;> omega))))
    (ibCons (ibAdd (a := (((k * (c + 6) : Nat) : Int))) (b := ((c : Int) + 6)) (c := ((((k + 1) * (c + 6) : Nat) : Int))) rfl rfl rfl (by (rcases hc with rfl | rfl | rfl | rfl | rfl <;> omega)) (by (rcases hc with rfl | rfl | rfl | rfl | rfl <;> omega)) (by (rcases hc with rfl | rfl | rfl | rfl | rfl <;> omega)))
    (ibCons (ibMul (a := ((k : Int))) (b := (3)) (c := (3 * (k : Int))) rfl rfl rfl (by (rcases hc with rfl | rfl | rfl | rfl | rfl <;> omega)) (by (rcases hc with rfl | rfl | rfl | rfl | rfl <;> omega)) (by (rcases hc with rfl | rfl | rfl | rfl | rfl <;> omega)))
    (ibCons (ibEq (a := (((k + 1 : Nat) : Int))) (b := (0)) rfl rfl (decide_eq_false (by (rcases hc with rfl | rfl | rfl | rfl | rfl <;> omega))))
    (ibCons (ibSub (a := (((k + 1 : Nat) : Int))) (b := (1)) (c := ((k : Int))) rfl rfl rfl (by (rcases hc with rfl | rfl | rfl | rfl | rfl <;> omega)) (by (rcases hc with rfl | rfl | rfl | rfl | rfl <;> omega)) (by (rcases hc with rfl | rfl | rfl | rfl | rfl <;> omega)))
    (ibCons (ibLt (a := ((k : Int))) (b := (((k + 1 : Nat) : Int))) rfl rfl (decide_eq_true (by (rcases hc with rfl | rfl | rfl | rfl | rfl <;> omega))))
    (ibCons (ibGe (a := ((k : Int))) (b := (0)) rfl rfl (decide_eq_true (by (rcases hc with rfl | rfl | rfl | rfl | rfl <;> omega))))
    (ibCons (ibSub (a := ((c : Int))) (b := (1)) (c := (((c - 1 : Nat) : Int))) rfl rfl rfl (by (rcases hc with rfl | rfl | rfl | rfl | rfl <;> omega)) (by (rcases hc with rfl | rfl | rfl | rfl | rfl <;> omega)) (by (rcases hc with rfl | rfl | rfl | rfl | rfl <;> omega)))
    (ibCons (ibRem (a := ((k : Int))) (b := (2)) (c := (0)) rfl rfl rfl (by omega) (by rw [Int.tmod_eq_emod_of_nonneg (by omega)]; omega))
    (ibCons (ibRem (a := ((k : Int))) (b := (3)) (c := (0)) rfl rfl rfl (by omega) (by rw [Int.tmod_eq_emod_of_nonneg (by omega)]; omega))
    (ibCons (ibLt (a := (((c - 1 : Nat) : Int))) (b := (0)) rfl rfl (decide_eq_false (by (rcases hc with rfl | rfl | rfl | rfl | rfl <;> omega))))
    (ibCons (ibGe (a := (((c - 1 : Nat) : Int))) (b := ((c : Int))) rfl rfl (decide_eq_false (by (rcases hc with rfl | rfl | rfl | rfl | rfl <;> omega))))
    (ibCons (ibAdd (a := (((k * (c + 1) : Nat) : Int))) (b := (((c - 1 : Nat) : Int))) (c := (((k * (c + 1) + (c - 1) : Nat) : Int))) rfl rfl rfl (by (rcases hc with rfl | rfl | rfl | rfl | rfl <;> omega)) (by (rcases hc with rfl | rfl | rfl | rfl | rfl <;> omega)) (by (rcases hc with rfl | rfl | rfl | rfl | rfl <;> omega)))
    (ibCons (ibGe (a := (((k * (c + 1) + (c - 1) : Nat) : Int))) (b := (0)) rfl rfl (decide_eq_true (by (rcases hc with rfl | rfl | rfl | rfl | rfl <;> omega))))
    (ibCons (ibLt (a := (((k * (c + 1) + (c - 1) : Nat) : Int))) (b := (((k * (c + 1) + c : Nat) : Int))) rfl rfl (decide_eq_true (by (rcases hc with rfl | rfl | rfl | rfl | rfl <;> omega))))
    ibNil))))))))))))))))))))))))

abbrev rPop00 : List BRow := [(14, .oi 4, cI 0, .bool true), (9, .oi 1, cI 0, .bool false), (1, .oi 1, cI 1, .oi 4), (11, .oi 4, .oi 1, .bool true), (1, .oi 12, cI 1, .oi 15), (11, .oi 15, cI 0, .bool false), (14, .oi 15, .oi 12, .bool false), (0, .oi 17, .oi 15, .oi 18), (11, .oi 18, cI 0, .bool false), (11, .oi 18, .oi 3, .bool true), (14, .oi 18, cI 0, .bool true), (1, .oi 3, cI 1, .oi 19), (1, .oi 19, cI 0, .oi 19), (11, .oi 19, .oi 3, .bool true), (14, .oi 19, cI 0, .bool true), (12, .oi 19, .oi 3, .bool true), (10, .oi 4, .oi 4, .bool false), (0, .oi 4, cI 1, .oi 1), (10, .oi 1, .oi 1, .bool false), (2, .oi 4, cI 3, .oi 16), (10, .oi 16, .oi 16, .bool false), (4, .oi 4, cI 2, cI 0), (4, .oi 4, cI 3, cI 0), (0, .oi 12, cI 2, .oi 13), (0, .oi 13, cI 4, .oi 14), (1, .oi 2, .oi 14, .oi 20), (12, .oi 17, .oi 19, .bool true), (14, .oi 17, cI 0, .bool true), (12, .oi 4, .oi 1, .bool true), (1, .oi 4, cI 1, .oi 21)]
theorem rPop00_ok {c k n : Nat} (hc : c = 1 ∨ c = 2 ∨ c = 3 ∨ c = 4 ∨ c = 5) (hk : 1 ≤ k) (hn : k ≤ 200) (h2 : (k - 1) % 2 = 0) (h3 : (k - 1) % 3 = 0) : ∀ r ∈ rPop00, IbOk (ivD c k n) r := by
  letI := Tab.empty
  exact (ibCons (ibGe (a := ((k : Int) - 1)) (b := (0)) rfl rfl (decide_eq_true (by (rcases hc with rfl | rfl | rfl | rfl | rfl <;> omega))))
    (ibCons (ibEq (a := ((k : Int))) (b := (0)) rfl rfl (decide_eq_false (by (rcases hc with rfl | rfl | rfl | rfl | rfl <;> omega))))
    (ibCons (ibSub (a := ((k : Int))) (b := (1)) (c := ((k : Int) - 1)) rfl rfl rfl (by (rcases hc with rfl | rfl | rfl | rfl | rfl <;> omega)) (by (rcases hc with rfl | rfl | rfl | rfl | rfl <;> omega)) (by (rcases hc with rfl | rfl | rfl | rfl | rfl <;> omega)))
    (ibCons (ibLt (a := ((k : Int) - 1)) (b := ((k : Int))) rfl rfl (decide_eq_true (by (rcases hc with rfl | rfl | rfl | rfl | rfl <;> omega))))
    (ibCons (ibSub (a := ((c : Int))) (b := (1)) (c := (((c - 1 : Nat) : Int))) rfl rfl rfl (by (rcases hc with rfl | rfl | rfl | rfl | rfl <;> omega)) (by (rcases hc with rfl | rfl | rfl | rfl | rfl <;> omega)) (by (rcases hc with rfl | rfl | rfl | rfl | rfl <;> omega)))
    (ibCons (ibLt (a := (((c - 1 : Nat) : Int))) (b := (0)) rfl rfl (decide_eq_false (by (rcases hc with rfl | rfl | rfl | rfl | rfl <;> omega))))
    (ibCons (ibGe (a := (((c - 1 : Nat) : Int))) (b := ((c : Int))) rfl rfl (decide_eq_false (by (rcases hc with rfl | rfl | rfl | rfl | rfl <;> omega))))
    (ibCons (ibAdd (a := ((((k - 1) * (c + 1) : Nat) : Int))) (b := (((c - 1 : Nat) : Int))) (c := ((((k - 1) * (c + 1) + (c - 1) : Nat) : Int))) rfl rfl rfl (by (rcases hc with rfl | rfl | rfl | rfl | rfl <;> omega)) (by (rcases hc with rfl | rfl | rfl | rfl | rfl <;> omega)) (by (rcases hc with rfl | rfl | rfl | rfl | rfl <;> omega)))
    (ibCons (ibLt (a := ((((k - 1) * (c + 1) + (c - 1) : Nat) : Int))) (b := (0)) rfl rfl (decide_eq_false (by (rcases hc with rfl | rfl | rfl | rfl | rfl <;> omega))))
    (ibCons (ibLt (a := ((((k - 1) * (c + 1) + (c - 1) : Nat) : Int))) (b := (((k * (c + 1) : Nat) : Int))) rfl rfl (decide_eq_true (by (rcases hc with rfl | rfl | rfl | rfl | rfl <;> omega))))
    (ibCons (ibGe (a := ((((k - 1) * (c + 1) + (c - 1) : Nat) : Int))) (b := (0)) rfl rfl (decide_eq_true (by (rcases hc with rfl | rfl | rfl | rfl | rfl <;> omega))))
    (ibCons (ibSub (a := (((k * (c + 1) : Nat) : Int))) (b := (1)) (c := (((k * (c + 1) - 1 : Nat) : Int))) rfl rfl rfl (by (rcases hc with rfl | rfl | rfl | rfl | rfl <;> omega)) (by (rcases hc with rfl | rfl | rfl | rfl | rfl <;> omega)) (by (rcases hc with rfl | rfl | rfl | rfl | rfl <;> omega)))
    (ibCons (ibSub (a := (((k * (c + 1) - 1 : Nat) : Int))) (b := (0)) (c := (((k * (c + 1) - 1 : Nat) : Int))) rfl rfl rfl (by (rcases hc with rfl | rfl | rfl | rfl | rfl <;> omega)) (by (rcases hc with rfl | rfl | rfl | rfl | rfl <;> omega)) (by (rcases hc with rfl | rfl | rfl | rfl | rfl <;> omega)))
    (ibCons (ibLt (a := (((k * (c + 1) - 1 : Nat) : Int))) (b := (((k * (c + 1) : Nat) : Int))) rfl rfl (decide_eq_true (by (rcases hc with rfl | rfl | rfl | rfl | rfl <;> omega))))
    (ibCons (ibGe (a := (((k * (c + 1) - 1 : Nat) : Int))) (b := (0)) rfl rfl (decide_eq_true (by (rcases hc with rfl | rfl | rfl | rfl | rfl <;> omega))))
    (ibCons (ibLe (a := (((k * (c + 1) - 1 : Nat) : Int))) (b := (((k * (c + 1) : Nat) : Int))) rfl rfl (decide_eq_true (by (rcases hc with rfl | rfl | rfl | rfl | rfl <;> omega))))
    (ibCons (ibNe (a := ((k : Int) - 1)) (b := ((k : Int) - 1)) rfl rfl (decide_eq_true rfl))
    (ibCons (ibAdd (a := ((k : Int) - 1)) (b := (1)) (c := ((k : Int))) rfl rfl rfl (by (rcases hc with rfl | rfl | rfl | rfl | rfl <;> omega)) (by (rcases hc with rfl | rfl | rfl | rfl | rfl <;> omega)) (by (rcases hc with rfl | rfl | rfl | rfl | rfl <;> omega)))
    (ibCons (ibNe (a := ((k : Int))) (b := ((k : Int))) rfl rfl (decide_eq_true rfl))
    (ibCons (ibMul (a := ((k : Int) - 1)) (b := (3)) (c := (3 * ((k : Int) - 1))) rfl rfl rfl (by (rcases hc with rfl | rfl | rfl | rfl | rfl <;> omega)) (by (rcases hc with rfl | rfl | rfl | rfl | rfl <;> omega)) (by (rcases hc with rfl | rfl | rfl | rfl | rfl <;> omega)))
    (ibCons (ibNe (a := (3 * ((k : Int) - 1))) (b := (3 * ((k : Int) - 1))) rfl rfl (decide_eq_true rfl))
    (ibCons (ibRem (a := ((k : Int) - 1)) (b := (2)) (c := (0)) rfl rfl rfl (by omega) (by rw [Int.tmod_eq_emod_of_nonneg (by omega)]; omega))
    (ibCons (ibRem (a := ((k : Int) - 1)) (b := (3)) (c := (0)) rfl rfl rfl (by omega) (by rw [Int.tmod_eq_emod_of_nonneg (by omega)]; omega))
    (ibCons (ibAdd (a := ((c : Int))) (b := (2)) (c := ((c : Int) + 2)) rfl rfl rfl (by (rcases hc with rfl | rfl | rfl | rfl | rfl <;> omega)) (by (rcases hc with rfl | rfl | rfl | rfl | rfl <;> omega)) (by (rcases hc with rfl | rfl | rfl | rfl | rfl <;> omega)))
    (ibCons (ibAdd (a := ((c : Int) + 2)) (b := (4)) (c := ((c : Int) + 6)) rfl rfl rfl (by (rcases hc with rfl | rfl | rfl | rfl | rfl <;> omega)) (by (rcases hc with rfl | rfl | rfl | rfl | rfl <;> omega)) (by (rcases hc with rfl | rfl | rfl | rfl | rfl <;> omega)))
    (ibCons (ibSub (a := (((k * (c + 6) : Nat) : Int))) (b := ((c : Int) + 6)) (c := ((((k - 1) * (c + 6) : Nat) : Int))) rfl rfl rfl (by (rcases hc with rfl | rfl | rfl | rfl | rfl <;> omega)) (by (rcases hc with rfl | rfl | rfl | rfl | rfl <;> omega)) (by (rcases hc with rfl | rfl | rfl | rfl | rfl <;> omega)))
    (ibCons (ibLe (a := ((((k - 1) * (c + 1) : Nat) : Int))) (b := (((k * (c + 1) - 1 : Nat) : Int))) rfl rfl (decide_eq_true (by (rcases hc with rfl | rfl | rfl | rfl | rfl <;> omega))))
    (ibCons (ibGe (a := ((((k - 1) * (c + 1) : Nat) : Int))) (b := (0)) rfl rfl (decide_eq_true (by (rcases hc with rfl | rfl | rfl | rfl | rfl <;> omega))))
    (ibCons (ibLe (a := ((k : Int) - 1)) (b := ((k : Int))) rfl rfl (decide_eq_true (by (rcases hc with rfl | rfl | rfl | rfl | rfl <;> omega))))
    (ibCons (ibSub (a := ((k : Int) - 1)) (b := (1)) (c := ((k : Int) - 1 - 1)) rfl rfl rfl (by (rcases hc with rfl | rfl | rfl | rfl | rfl <;> omega)) (by (rcases hc with rfl | rfl | rfl | rfl | rfl <;> omega)) (by (rcases hc with rfl | rfl | rfl | rfl | rfl <;> omega)))
    ibNil))))))))))))))))))))))))))))))

abbrev rPush01 : List BRow := [(11, .oi 1, .oi 0, .bool true), (0, .oi 1, cI 1, .oi 5), (11, .oi 1, cI 0, .bool false), (11, .oi 5, cI 0, .bool false), (11, .oi 12, cI 0, .bool false), (13, .oi 12, cI 2048, .bool false), (0, .oi 12, cI 2, .oi 13), (0, .oi 13, cI 4, .oi 14), (1, cI 2048, .oi 2, .oi 11), (13, .oi 14, .oi 11, .bool false), (0, .oi 2, .oi 14, .oi 6), (2, .oi 1, cI 3, .oi 8), (9, .oi 5, cI 0, .bool false), (1, .oi 5, cI 1, .oi 1), (11, .oi 1, .oi 5, .bool true), (14, .oi 1, cI 0, .bool true), (1, .oi 12, cI 1, .oi 15), (4, .oi 1, cI 2, cI 0), (4, .oi 1, cI 3, cI 1), (11, .oi 15, cI 0, .bool false), (14, .oi 15, .oi 12, .bool false), (0, .oi 3, .oi 15, .oi 9), (14, .oi 9, cI 0, .bool true), (11, .oi 9, .oi 7, .bool true)]
theorem rPush01_ok {c k n : Nat} (hc : c = 1 ∨ c = 2 ∨ c = 3 ∨ c = 4 ∨ c = 5) (hk : k < n) (hn : n ≤ 200) (hw : (k + 1) * (c + 6) ≤ 2048) (h2 : k % 2 = 0) (h3 : k % 3 = 1) : ∀ r ∈ rPush01, IbOk (ivD c k n) r := by
  letI := Tab.empty
  exact (ibCons (ibLt (a := ((k : Int))) (b := ((n : Int))) rfl rfl (decide_eq_true (by (rcases hc with rfl | rfl | rfl | rfl | rfl <;> omega))))
    (ibCons (ibAdd (a := ((k : Int))) (b := (1)) (c := (((k + 1 : Nat) : Int))) rfl rfl rfl (by (rcases hc with rfl | rfl | rfl | rfl | rfl <;> omega)) (by (rcases hc with rfl | rfl | rfl | rfl | rfl <;> omega)) (by (rcases hc with rfl | rfl | rfl | rfl | rfl <;> omega)))
    (ibCons (ibLt (a := ((k : Int))) (b := (0)) rfl rfl (decide_eq_false (by (rcases hc with rfl | rfl | rfl | rfl | rfl <;> omega))))
    (ibCons (ibLt (a := (((k + 1 : Nat) : Int))) (b := (0)) rfl rfl (decide_eq_false (by (rcases hc with rfl | rfl | rfl | rfl | rfl <;> omega))))
    (ibCons (ibLt (a := ((c : Int))) (b := (0)) rfl rfl (decide_eq_false (by (rcases hc with rfl | rfl | rfl | rfl | rfl <;> omega))))
    (ibCons (ibGt (a := ((c : Int))) (b := (2048)) rfl rfl (decide_eq_false (by (rcases hc with rfl | rfl | rfl | rfl | rfl <;> omega))))
    (ibCons (ibAdd (a := ((c : Int))) (b := (2)) (c := ((c : Int) + 2)) rfl rfl rfl (by (rcases hc with rfl | rfl | rfl | rfl | rfl <;> omega)) (by (rcases hc with rfl | rfl | rfl | rfl | rfl <;> omega)) (by (rcases hc with rfl | rfl | rfl | rfl | rfl <;> omega)))
    (ibCons (ibAdd (a := ((c : Int) + 2)) (b := (4)) (c := ((c : Int) + 6)) rfl rfl rfl (by (rcases hc with rfl | rfl | rfl | rfl | rfl <;> omega)) (by (rcases hc with rfl | rfl | rfl | rfl | rfl <;> omega)) (by (rcases hc with rfl | rfl | rfl | rfl | rfl <;> omega)))
    (ibCons (ibSub (a := (2048)) (b := (((k * (c + 6) : Nat) : Int))) (c := (2048 - ((k * (c + 6) : Nat) : Int))) rfl rfl rfl (by (rcases hc with rfl | rfl | rfl | rfl | rfl <;> omega)) (by (rcases hc with rfl | rfl | rfl | rfl | rfl <;> omega)) (by (rcases hc with rfl | rfl | rfl | rfl | rfl <;> omega)))
    (ibCons (ibGt (a := ((c : Int) + 6)) (b := (2048 - ((k * (c + 6) : Nat) : Int))) rfl rfl (decide_eq_false (by (rcases hc with rfl | rfl | rfl | rfl | rfl <;> omega))))
    (ibCons (ibAdd (a := (((k * (c + 6) : Nat) : Int))) (b := ((c : Int) + 6)) (c := ((((k + 1) * (c + 6) : Nat) : Int))) rfl rfl rfl (by (rcases hc with rfl | rfl | rfl | rfl | rfl <;> omega)) (by (rcases hc with rfl | rfl | rfl | rfl | rfl <;> omega)) (by (rcases hc with rfl | rfl | rfl | rfl | rfl <;> omega)))
    (ibCons (ibMul (a := ((k : Int))) (b := (3)) (c := (3 * (k : Int))) rfl rfl rfl (by (rcases hc with rfl | rfl | rfl | rfl | rfl <;> omega)) (by (rcases hc with rfl | rfl | rfl | rfl | rfl <;> omega)) (by (rcases hc with rfl | rfl | rfl | rfl | rfl <;> omega)))
    (ibCons (ibEq (a := (((k + 1 : Nat) : Int))) (b := (0)) rfl rfl (decide_eq_false (by (rcases hc with rfl | rfl | rfl | rfl | rfl <;> omega))))
    (ibCons (ibSub (a := (((k + 1 : Nat) : Int))) (b := (1)) (c := ((k : Int))) rfl rfl rfl (by (rcases hc with rfl | rfl | rfl | rfl | rfl <;> omega)) (by (rcases hc with rfl | rfl | rfl | rfl | rfl <;> omega)) (by (rcases hc with rfl | rfl | rfl | rfl | rfl <;> omega)))
    (ibCons (ibLt (a := ((k : Int))) (b := (((k + 1 : Nat) : Int))) rfl rfl (decide_eq_true (by (rcases hc with rfl | rfl | rfl | rfl | rfl <;> omega))))
    (ibCons (ibGe (a := ((k : Int))) (b := (0)) rfl rfl (decide_eq_true (by (rcases hc with rfl | rfl | rfl | rfl | rfl <;> omega))))
    (ibCons (ibSub (a := ((c : Int))) (b := (1)) (c := (((c - 1 : Nat) : Int))) rfl rfl rfl (by (rcases hc with rfl | rfl | rfl | rfl | rfl <;> omega)) (by (rcases hc with rfl | rfl | rfl | rfl | rfl <;> omega)) (by (rcases hc with rfl | rfl | rfl | rfl | rfl <;> omega)))
    (ibCons (ibRem (a := ((k : Int))) (b := (2)) (c := (0)) rfl rfl rfl (by omega) (by rw [Int.tmod_eq_emod_of_nonneg (by omega)]; omega))
    (ibCons (ibRem (a := ((k : Int))) (b := (3)) (c := (1)) rfl rfl rfl (by omega) (by rw [Int.tmod_eq_emod_of_nonneg (by omega)]; omega))
    (ibCons (ibLt (a := (((c - 1 : Nat) : Int))) (b := (0)) rfl rfl (decide_eq_false (by (rcases hc with rfl | rfl | rfl | rfl | rfl <;> omega))))
    (ibCons (ibGe (a := (((c - 1 : Nat) : Int))) (b := ((c : Int))) rfl rfl (decide_eq_false (by (rcases hc with rfl | rfl | rfl | rfl | rfl <;> omega))))
    (ibCons (ibAdd (a := (((k * (c + 1) : Nat) : Int))) (b := (((c - 1 : Nat) : Int))) (c := (((k * (c + 1) + (c - 1) : Nat) : Int))) rfl rfl rfl (by (rcases hc with rfl | rfl | rfl | rfl | rfl <;> omega)) (by (rcases hc with rfl | rfl | rfl | rfl | rfl <;> omega)) (by (rcases hc with rfl | rfl | rfl | rfl | rfl <;> omega)))
    (ibCons (ibGe (a := (((k * (c + 1) + (c - 1) : Nat) : Int))) (b := (0)) rfl rfl (decide_eq_true (by (rcases hc with rfl | rfl | rfl | rfl | rfl <;> omega))))
    (ibCons (ibLt (a := (((k * (c + 1) + (c - 1) : Nat) : Int))) (b := (((k * (c + 1) + c : Nat) : Int))) rfl rfl (decide_eq_true (by (rcases hc with rfl | rfl | rfl | rfl | rfl <;> omega))))
    ibNil))))))))))))))))))))))))

abbrev rPop01 : List BRow := [(14, .oi 4, cI 0, .bool true), (9, .oi 1, cI 0, .bool false), (1, .oi 1, cI 1, .oi 4), (11, .oi 4, .oi 1, .bool true), (1, .oi 12, cI 1, .oi 15), (11, .oi 15, cI 0, .bool false), (14, .oi 15, .oi 12, .bool false), (0, .oi 17, .oi 15, .oi 18), (11, .oi 18, cI 0, .bool false), (11, .oi 18, .oi 3, .bool true), (14, .oi 18, cI 0, .bool true), (1, .oi 3, cI 1, .oi 19), (1, .oi 19, cI 0, .oi 19), (11, .oi 19, .oi 3, .bool true), (14, .oi 19, cI 0, .bool true), (12, .oi 19, .oi 3, .bool true), (10, .oi 4, .oi 4, .bool false), (0, .oi 4, cI 1, .oi 1), (10, .oi 1, .oi 1, .bool false), (2, .oi 4, cI 3, .oi 16), (10, .oi 16, .oi 16, .bool false), (4, .oi 4, cI 2, cI 0), (4, .oi 4, cI 3, cI 1), (0, .oi 12, cI 2, .oi 13), (0, .oi 13, cI 4, .oi 14), (1, .oi 2, .oi 14, .oi 20), (12, .oi 17, .oi 19, .bool true), (14, .oi 17, cI 0, .bool true), (12, .oi 4, .oi 1, .bool true), (1, .oi 4, cI 1, .oi 21)]
theorem rPop01_ok {c k n : Nat} (hc : c = 1 ∨ c = 2 ∨ c = 3 ∨ c = 4 ∨ c = 5) (hk : 1 ≤ k) (hn : k ≤ 200) (h2 : (k - 1) % 2 = 0) (h3 : (k - 1) % 3 = 1) : ∀ r ∈ rPop01, IbOk (ivD c k n) r := by
  letI := Tab.empty
  exact (ibCons (ibGe (a := ((k : Int) - 1)) (b := (0)) rfl rfl (decide_eq_true (by (rcases hc with rfl | rfl | rfl | rfl | rfl <;> omega))))
    (ibCons (ibEq (a := ((k : Int))) (b := (0)) rfl rfl (decide_eq_false (by (rcases hc with rfl | rfl | rfl | rfl | rfl <;> omega))))
    (ibCons (ibSub (a := ((k : Int))) (b := (1)) (c := ((k : Int) - 1)) rfl rfl rfl (by (rcases hc with rfl | rfl | rfl | rfl | rfl <;> omega)) (by (rcases hc with rfl | rfl | rfl | rfl | rfl <;> omega)) (by (rcases hc with rfl | rfl | rfl | rfl | rfl <;> omega)))
    (ibCons (ibLt (a := ((k : Int) - 1)) (b := ((k : Int))) rfl rfl (decide_eq_true (by (rcases hc with rfl | rfl | rfl | rfl | rfl <;> omega))))
    (ibCons (ibSub (a := ((c : Int))) (b := (1)) (c := (((c - 1 : Nat) : Int))) rfl rfl rfl (by (rcases hc with rfl | rfl | rfl | rfl | rfl <;> omega)) (by (rcases hc with rfl | rfl | rfl | rfl | rfl <;> omega)) (by (rcases hc with rfl | rfl | rfl | rfl | rfl <;> omega)))
    (ibCons (ibLt (a := (((c - 1 : Nat) : Int))) (b := (0)) rfl rfl (decide_eq_false (by (rcases hc with rfl | rfl | rfl | rfl | rfl <;> omega))))
    (ibCons (ibGe (a := (((c - 1 : Nat) : Int))) (b := ((c : Int))) rfl rfl (decide_eq_false (by (rcases hc with rfl | rfl | rfl | rfl | rfl <;> omega))))
    (ibCons (ibAdd (a := ((((k - 1) * (c + 1) : Nat) : Int))) (b := (((c - 1 : Nat) : Int))) (c := ((((k - 1) * (c + 1) + (c - 1) : Nat) : Int))) rfl rfl rfl (by (rcases hc with rfl | rfl | rfl | rfl | rfl <;> omega)) (by (rcases hc with rfl | rfl | rfl | rfl | rfl <;> omega)) (by (rcases hc with rfl | rfl | rfl | rfl | rfl <;> omega)))
    (ibCons (ibLt (a := ((((k - 1) * (c + 1) + (c - 1) : Nat) : Int))) (b := (0)) rfl rfl (decide_eq_false (by (rcases hc with rfl | rfl | rfl | rfl | rfl <;> omega))))
    (ibCons (ibLt (a := ((((k - 1) * (c + 1) + (c - 1) : Nat) : Int))) (b := (((k * (c + 1) : Nat) : Int))) rfl rfl (decide_eq_true (by (rcases hc with rfl | rfl | rfl | rfl | rfl <;> omega))))
    (ibCons (ibGe (a := ((((k - 1) * (c + 1) + (c - 1) : Nat) : Int))) (b := (0)) rfl rfl (decide_eq_true (by (rcases hc with rfl | rfl | rfl | rfl | rfl <;> omega))))
    (ibCons (ibSub (a := (((k * (c + 1) : Nat) : Int))) (b := (1)) (c := (((k * (c + 1) - 1 : Nat) : Int))) rfl rfl rfl (by (rcases hc with rfl | rfl | rfl | rfl | rfl <;> omega)) (by (rcases hc with rfl | rfl | rfl | rfl | rfl <;> omega)) (by (rcases hc with rfl | rfl | rfl | rfl | rfl <;> omega)))
    (ibCons (ibSub (a := (((k * (c + 1) - 1 : Nat) : Int))) (b := (0)) (c := (((k * (c + 1) - 1 : Nat) : Int))) rfl rfl rfl (by (rcases hc with rfl | rfl | rfl | rfl | rfl <;> omega)) (by (rcases hc with rfl | rfl | rfl | rfl | rfl <;> omega)) (by (rcases hc with rfl | rfl | rfl | rfl | rfl <;> omega)))
    (ibCons (ibLt (a := (((k * (c + 1) - 1 : Nat) : Int))) (b := (((k * (c + 1) : Nat) : Int))) rfl rfl (decide_eq_true (by (rcases hc with rfl | rfl | rfl | rfl | rfl <;> omega))))
    (ibCons (ibGe (a := (((k * (c + 1) - 1 : Nat) : Int))) (b := (0)) rfl rfl (decide_eq_true (by (rcases hc with rfl | rfl | rfl | rfl | rfl <;> omega))))
    (ibCons (ibLe (a := (((k * (c + 1) - 1 : Nat) : Int))) (b := (((k * (c + 1) : Nat) : Int))) rfl rfl (decide_eq_true (by (rcases hc with rfl | rfl | rfl | rfl | rfl <;> omega))))
    (ibCons (ibNe (a := ((k : Int) - 1)) (b := ((k : Int) - 1)) rfl rfl (decide_eq_true rfl))
    (ibCons (ibAdd (a := ((k : Int) - 1)) (b := (1)) (c := ((k : Int))) rfl rfl rfl (by (rcases hc with rfl | rfl | rfl | rfl | rfl <;> omega)) (by (rcases hc with rfl | rfl | rfl | rfl | rfl <;> omega)) (by (rcases hc with rfl | rfl | rfl | rfl | rfl <;> omega)))
    (ibCons (ibNe (a := ((k : Int))) (b := ((k : Int))) rfl rfl (decide_eq_true rfl))
    (ibCons (ibMul (a := ((k : Int) - 1)) (b := (3)) (c := (3 * ((k : Int) - 1))) rfl rfl rfl (by (rcases hc with rfl | rfl | rfl | rfl | rfl <;> omega)) (by (rcases hc with rfl | rfl | rfl | rfl | rfl <;> omega)) (by (rcases hc with rfl | rfl | rfl | rfl | rfl <;> omega)))
    (ibCons (ibNe (a := (3 * ((k : Int) - 1))) (b := (3 * ((k : Int) - 1))) rfl rfl (decide_eq_true rfl))
    (ibCons (ibRem (a := ((k : Int) - 1)) (b := (2)) (c := (0)) rfl rfl rfl (by omega) (by rw [Int.tmod_eq_emod_of_nonneg (by omega)]; omega))
    (ibCons (ibRem (a := ((k : Int) - 1)) (b := (3)) (c := (1)) rfl rfl rfl (by omega) (by rw [Int.tmod_eq_emod_of_nonneg (by omega)]; omega))
    (ibCons (ibAdd (a := ((c : Int))) (b := (2)) (c := ((c : Int) + 2)) rfl rfl rfl (by (rcases hc with rfl | rfl | rfl | rfl | rfl <;> omega)) (by (rcases hc with rfl | rfl | rfl | rfl | rfl <;> omega)) (by (rcases hc with rfl | rfl | rfl | rfl | rfl <;> omega)))
    (ibCons (ibAdd (a := ((c : Int) + 2)) (b := (4)) (c := ((c : Int) + 6)) rfl rfl rfl (by (rcases hc with rfl | rfl | rfl | rfl | rfl <;> omega)) (by (rcases hc with rfl | rfl | rfl | rfl | rfl <;> omega)) (by (rcases hc with rfl | rfl | rfl | rfl | rfl <;> omega)))
    (ibCons (ibSub (a := (((k * (c + 6) : Nat) : Int))) (b := ((c : Int) + 6)) (c := ((((k - 1) * (c + 6) : Nat) : Int))) rfl rfl rfl (by (rcases hc with rfl | rfl | rfl | rfl | rfl <;> omega)) (by (rcases hc with rfl | rfl | rfl | rfl | rfl <;> omega)) (by (rcases hc with rfl | rfl | rfl | rfl | rfl <;> omega)))
    (ibCons (ibLe (a := ((((k - 1) * (c + 1) : Nat) : Int))) (b := (((k * (c + 1) - 1 : Nat) : Int))) rfl rfl (decide_eq_true (by (rcases hc with rfl | rfl | rfl | rfl | rfl <;> omega))))
    (ibCons (ibGe (a := ((((k - 1) * (c + 1) : Nat) : Int))) (b := (0)) rfl rfl (decide_eq_true (by (rcases hc with rfl | rfl | rfl | rfl | rfl <;> omega))))
    (ibCons (ibLe (a := ((k : Int) - 1)) (b := ((k : Int))) rfl rfl (decide_eq_true (by (rcases hc with rfl | rfl | rfl | rfl | rfl <;> omega))))
    (ibCons (ibSub (a := ((k : Int) - 1)) (b := (1)) (c := ((k : Int) - 1 - 1)) rfl rfl rfl (by (rcases hc with rfl | rfl | rfl | rfl | rfl <;> omega)) (by (rcases hc with rfl | rfl | rfl | rfl | rfl <;> omega)) (by (rcases hc with rfl | rfl | rfl | rfl | rfl <;> omega)))
    ibNil))))))))))))))))))))))))))))))

abbrev rPush02 : List BRow := [(11, .oi 1, .oi 0, .bool true), (0, .oi 1, cI 1, .oi 5), (11, .oi 1, cI 0, .bool false), (11, .oi 5, cI 0, .bool false), (11, .oi 12, cI 0, .bool false), (13, .oi 12, cI 2048, .bool false), (0, .oi 12, cI 2, .oi 13), (0, .oi 13, cI 4, .oi 14), (1, cI 2048, .oi 2, .oi 11), (13, .oi 14, .oi 11, .bool false), (0, .oi 2, .oi 14, .oi 6), (2, .oi 1, cI 3, .oi 8), (9, .oi 5, cI 0, .bool false), (1, .oi 5, cI 1, .oi 1), (11, .oi 1, .oi 5, .bool true), (14, .oi 1, cI 0, .bool true), (1, .oi 12, cI 1, .oi 15), (4, .oi 1, cI 2, cI 0), (4, .oi 1, cI 3, cI 2), (11, .oi 15, cI 0, .bool false), (14, .oi 15, .oi 12, .bool false), (0, .oi 3, .oi 15, .oi 9), (14, .oi 9, cI 0, .bool true), (11, .oi 9, .oi 7, .bool true)]
theorem rPush02_ok {c k n : Nat} (hc : c = 1 ∨ c = 2 ∨ c = 3 ∨ c = 4 ∨ c = 5) (hk : k < n) (hn : n ≤ 200) (hw : (k + 1) * (c + 6) ≤ 2048) (h2 : k % 2 = 0) (h3 : k % 3 = 2) : ∀ r ∈ rPush02, IbOk (ivD c k n) r := by
  letI := Tab.empty
  exact (ibCons (ibLt (a := ((k : Int))) (b := ((n : Int))) rfl rfl (decide_eq_true (by (rcases hc with rfl | rfl | rfl | rfl | rfl <;> omega))))
    (ibCons (ibAdd (a := ((k : Int))) (b := (1)) (c := (((k + 1 : Nat) : Int))) rfl rfl rfl (by (rcases hc with rfl | rfl | rfl | rfl | rfl <;> omega)) (by (rcases hc with rfl | rfl | rfl | rfl | rfl <;> omega)) (by (rcases hc with rfl | rfl | rfl | rfl | rfl <;> omega)))
    (ibCons (ibLt (a := ((k : Int))) (b := (0)) rfl rfl (decide_eq_false (by (rcases hc with rfl | rfl | rfl | rfl | rfl <;> omega))))
    (ibCons (ibLt (a := (((k + 1 : Nat) : Int))) (b := (0)) rfl rfl (decide_eq_false (by (rcases hc with rfl | rfl | rfl | rfl | rfl <;> omega))))
    (ibCons (ibLt (a := ((c : Int))) (b := (0)) rfl rfl (decide_eq_false (by (rcases hc with rfl | rfl | rfl | rfl | rfl <;> omega))))
    (ibCons (ibGt (a := ((c : Int))) (b := (2048)) rfl rfl (decide_eq_false (by (rcases hc with rfl | rfl | rfl | rfl | rfl <;> omega))))
    (ibCons (ibAdd (a := ((c : Int))) (b := (2)) (c := ((c : Int) + 2)) rfl rfl rfl (by (rcases hc with rfl | rfl | rfl | rfl | rfl <;> omega)) (by (rcases hc with rfl | rfl | rfl | rfl | rfl <;> omega)) (by (rcases hc with rfl | rfl | rfl | rfl | rfl <;> omega)))
    (ibCons (ibAdd (a := ((c : Int) + 2)) (b := (4)) (c := ((c : Int) + 6)) rfl rfl rfl (by (rcases hc with rfl | rfl | rfl | rfl | rfl <;> omega)) (by (rcases hc with rfl | rfl | rfl | rfl | rfl <;> omega)) (by (rcases hc with rfl | rfl | rfl | rfl | rfl <;> omega)))
    (ibCons (ibSub (a := (2048)) (b := (((k * (c + 6) : Nat) : Int))) (c := (2048 - ((k * (c + 6) : Nat) : Int))) rfl rfl rfl (by (rcases hc with rfl | rfl | rfl | rfl | rfl <;> omega)) (by (rcases hc with rfl | rfl | rfl | rfl | rfl <;> omega)) (by (rcases hc with rfl | rfl | rfl | rfl | rfl <;> omega)))
    (ibCons (ibGt (a := ((c : Int) + 6)) (b := (2048 - ((k * (c + 6) : Nat) : Int))) rfl rfl (decide_eq_false (by (rcases hc with rfl | rfl | rfl | rfl | rfl <;> omega))))
    (ibCons (ibAdd (a := (((k * (c + 6) : Nat) : Int))) (b := ((c : Int) + 6)) (c := ((((k + 1) * (c + 6) : Nat) : Int))) rfl rfl rfl (by (rcases hc with rfl | rfl | rfl | rfl | rfl <;> omega)) (by (rcases hc with rfl | rfl | rfl | rfl | rfl <;> omega)) (by (rcases hc with rfl | rfl | rfl | rfl | rfl <;> omega)))
    (ibCons (ibMul (a := ((k : Int))) (b := (3)) (c := (3 * (k : Int))) rfl rfl rfl (by (rcases hc with rfl | rfl | rfl | rfl | rfl <;> omega)) (by (rcases hc with rfl | rfl | rfl | rfl | rfl <;> omega)) (by (rcases hc with rfl | rfl | rfl | rfl | rfl <;> omega)))
    (ibCons (ibEq (a := (((k + 1 : Nat) : Int))) (b := (0)) rfl rfl (decide_eq_false (by (rcases hc with rfl | rfl | rfl | rfl | rfl <;> omega))))
    (ibCons (ibSub (a := (((k + 1 : Nat) : Int))) (b := (1)) (c := ((k : Int))) rfl rfl rfl (by (rcases hc with rfl | rfl | rfl | rfl | rfl <;> omega)) (by (rcases hc with rfl | rfl | rfl | rfl | rfl <;> omega)) (by (rcases hc with rfl | rfl | rfl | rfl | rfl <;> omega)))
    (ibCons (ibLt (a := ((k : Int))) (b := (((k + 1 : Nat) : Int))) rfl rfl (decide_eq_true (by (rcases hc with rfl | rfl | rfl | rfl | rfl <;> omega))))
    (ibCons (ibGe (a := ((k : Int))) (b := (0)) rfl rfl (decide_eq_true (by (rcases hc with rfl | rfl | rfl | rfl | rfl <;> omega))))
    (ibCons (ibSub (a := ((c : Int))) (b := (1)) (c := (((c - 1 : Nat) : Int))) rfl rfl rfl (by (rcases hc with rfl | rfl | rfl | rfl | rfl <;> omega)) (by (rcases hc with rfl | rfl | rfl | rfl | rfl <;> omega)) (by (rcases hc with rfl | rfl | rfl | rfl | rfl <;> omega)))
    (ibCons (ibRem (a := ((k : Int))) (b := (2)) (c := (0)) rfl rfl rfl (by omega) (by rw [Int.tmod_eq_emod_of_nonneg (by omega)]; omega))
    (ibCons (ibRem (a := ((k : Int))) (b := (3)) (c := (2)) rfl rfl rfl (by omega) (by rw [Int.tmod_eq_emod_of_nonneg (by omega)]; omega))
    (ibCons (ibLt (a := (((c - 1 : Nat) : Int))) (b := (0)) rfl rfl (decide_eq_false (by (rcases hc with rfl | rfl | rfl | rfl | rfl <;> omega))))
    (ibCons (ibGe (a := (((c - 1 : Nat) : Int))) (b := ((c : Int))) rfl rfl (decide_eq_false (by (rcases hc with rfl | rfl | rfl | rfl | rfl <;> omega))))
    (ibCons (ibAdd (a := (((k * (c + 1) : Nat) : Int))) (b := (((c - 1 : Nat) : Int))) (c := (((k * (c + 1) + (c - 1) : Nat) : Int))) rfl rfl rfl (by (rcases hc with rfl | rfl | rfl | rfl | rfl <;> omega)) (by (rcases hc with rfl | rfl | rfl | rfl | rfl <;> omega)) (by (rcases hc with rfl | rfl | rfl | rfl | rfl <;> omega)))
    (ibCons (ibGe (a := (((k * (c + 1) + (c - 1) : Nat) : Int))) (b := (0)) rfl rfl (decide_eq_true (by (rcases hc with rfl | rfl | rfl | rfl | rfl <;> omega))))
    (ibCons (ibLt (a := (((k * (c + 1) + (c - 1) : Nat) : Int))) (b := (((k * (c + 1) + c : Nat) : Int))) rfl rfl (decide_eq_true (by (rcases hc with rfl | rfl | rfl | rfl | rfl <;> omega))))
    ibNil))))))))))))))))))))))))

abbrev rPop02 : List BRow := [(14, .oi 4, cI 0, .bool true), (9, .oi 1, cI 0, .bool false), (1, .oi 1, cI 1, .oi 4), (11, .oi 4, .oi 1, .bool true), (1, .oi 12, cI 1, .oi 15), (11, .oi 15, cI 0, .bool false), (14, .oi 15, .oi 12, .bool false), (0, .oi 17, .oi 15, .oi 18), (11, .oi 18, cI 0, .bool false), (11, .oi 18, .oi 3, .bool true), (14, .oi 18, cI 0, .bool true), (1, .oi 3, cI 1, .oi 19), (1, .oi 19, cI 0, .oi 19), (11, .oi 19, .oi 3, .bool true), (14, .oi 19, cI 0, .bool true), (12, .oi 19, .oi 3, .bool true), (10, .oi 4, .oi 4, .bool false), (0, .oi 4, cI 1, .oi 1), (10, .oi 1, .oi 1, .bool false), (2, .oi 4, cI 3, .oi 16), (10, .oi 16, .oi 16, .bool false), (4, .oi 4, cI 2, cI 0), (4, .oi 4, cI 3, cI 2), (0, .oi 12, cI 2, .oi 13), (0, .oi 13, cI 4, .oi 14), (1, .oi 2, .oi 14, .oi 20), (12, .oi 17, .oi 19, .bool true), (14, .oi 17, cI 0, .bool true), (12, .oi 4, .oi 1, .bool true), (1, .oi 4, cI 1, .oi 21)]
theorem rPop02_ok {c k n : Nat} (hc : c = 1 ∨ c = 2 ∨ c = 3 ∨ c = 4 ∨ c = 5) (hk : 1 ≤ k) (hn : k ≤ 200) (h2 : (k - 1) % 2 = 0) (h3 : (k - 1) % 3 = 2) : ∀ r ∈ rPop02, IbOk (ivD c k n) r := by
  letI := Tab.empty
  exact (ibCons (ibGe (a := ((k : Int) - 1)) (b := (0)) rfl rfl (decide_eq_true (by (rcases hc with rfl | rfl | rfl | rfl | rfl <;> omega))))
    (ibCons (ibEq (a := ((k : Int))) (b := (0)) rfl rfl (decide_eq_false (by (rcases hc with rfl | rfl | rfl | rfl | rfl <;> omega))))
    (ibCons (ibSub (a := ((k : Int))) (b := (1)) (c := ((k : Int) - 1)) rfl rfl rfl (by (rcases hc with rfl | rfl | rfl | rfl | rfl <;> omega)) (by (rcases hc with rfl | rfl | rfl | rfl | rfl <;> omega)) (by (rcases hc with rfl | rfl | rfl | rfl | rfl <;> omega)))
    (ibCons (ibLt (a := ((k : Int) - 1)) (b := ((k : Int))) rfl rfl (decide_eq_true (by (rcases hc with rfl | rfl | rfl | rfl | rfl <;> omega))))
    (ibCons (ibSub (a := ((c : Int))) (b := (1)) (c := (((c - 1 : Nat) : Int))) rfl rfl rfl (by (rcases hc with rfl | rfl | rfl | rfl | rfl <;> omega)) (by (rcases hc with rfl | rfl | rfl | rfl | rfl <;> omega)) (by (rcases hc with rfl | rfl | rfl | rfl | rfl <;> omega)))
    (ibCons (ibLt (a := (((c - 1 : Nat) : Int))) (b := (0)) rfl rfl (decide_eq_false (by (rcases hc with rfl | rfl | rfl | rfl | rfl <;> omega))))
    (ibCons (ibGe (a := (((c - 1 : Nat) : Int))) (b := ((c : Int))) rfl rfl (decide_eq_false (by (rcases hc with rfl | rfl | rfl | rfl | rfl <;> omega))))
    (ibCons (ibAdd (a := ((((k - 1) * (c + 1) : Nat) : Int))) (b := (((c - 1 : Nat) : Int))) (c := ((((k - 1) * (c + 1) + (c - 1) : Nat) : Int))) rfl rfl rfl (by (rcases hc with rfl | rfl | rfl | rfl | rfl <;> omega)) (by (rcases hc with rfl | rfl | rfl | rfl | rfl <;> omega)) (by (rcases hc with rfl | rfl | rfl | rfl | rfl <;> omega)))
    (ibCons (ibLt (a := ((((k - 1) * (c + 1) + (c - 1) : Nat) : Int))) (b := (0)) rfl rfl (decide_eq_false (by (rcases hc with rfl | rfl | rfl | rfl | rfl <;> omega))))
    (ibCons (ibLt (a := ((((k - 1) * (c + 1) + (c - 1) : Nat) : Int))) (b := (((k * (c + 1) : Nat) : Int))) rfl rfl (decide_eq_true (by (rcases hc with rfl | rfl | rfl | rfl | rfl <;> omega))))
    (ibCons (ibGe (a := ((((k - 1) * (c + 1) + (c - 1) : Nat) : Int))) (b := (0)) rfl rfl (decide_eq_true (by (rcases hc with rfl | rfl | rfl | rfl | rfl <;> omega))))
    (ibCons (ibSub (a := (((k * (c + 1) : Nat) : Int))) (b := (1)) (c := (((k * (c + 1) - 1 : Nat) : Int))) rfl rfl rfl (by (rcases hc with rfl | rfl | rfl | rfl | rfl <;> omega)) (by (rcases hc with rfl | rfl | rfl | rfl | rfl <;> omega)) (by (rcases hc with rfl | rfl | rfl | rfl | rfl <;> omega)))
    (ibCons (ibSub (a := (((k * (c + 1) - 1 : Nat) : Int))) (b := (0)) (c := (((k * (c + 1) - 1 : Nat) : Int))) rfl rfl rfl (by (rcases hc with rfl | rfl | rfl | rfl | rfl <;> omega)) (by (rcases hc with rfl | rfl | rfl | rfl | rfl <;> omega)) (by (rcases hc with rfl | rfl | rfl | rfl | rfl <;> omega)))
    (ibCons (ibLt (a := (((k * (c + 1) - 1 : Nat) : Int))) (b := (((k * (c + 1) : Nat) : Int))) rfl rfl (decide_eq_true (by (rcases hc with rfl | rfl | rfl | rfl | rfl <;> omega))))
    (ibCons (ibGe (a := (((k * (c + 1) - 1 : Nat) : Int))) (b := (0)) rfl rfl (decide_eq_true (by (rcases hc with rfl | rfl | rfl | rfl | rfl <;> omega))))
    (ibCons (ibLe (a := (((k * (c + 1) - 1 : Nat) : Int))) (b := (((k * (c + 1) : Nat) : Int))) rfl rfl (decide_eq_true (by (rcases hc with rfl | rfl | rfl | rfl | rfl <;> omega))))
    (ibCons (ibNe (a := ((k : Int) - 1)) (b := ((k : Int) - 1)) rfl rfl (decide_eq_true rfl))
    (ibCons (ibAdd (a := ((k : Int) - 1)) (b := (1)) (c := ((k : Int))) rfl rfl rfl (by (rcases hc with rfl | rfl | rfl | rfl | rfl <;> omega)) (by (rcases hc with rfl | rfl | rfl | rfl | rfl <;> omega)) (by (rcases hc with rfl | rfl | rfl | rfl | rfl <;> omega)))
    (ibCons (ibNe (a := ((k : Int))) (b := ((k : Int))) rfl rfl (decide_eq_true rfl))
    (ibCons (ibMul (a := ((k : Int) - 1)) (b := (3)) (c := (3 * ((k : Int) - 1))) rfl rfl rfl (by (rcases hc with rfl | rfl | rfl | rfl | rfl <;> omega)) (by (rcases hc with rfl | rfl | rfl | rfl | rfl <;> omega)) (by (rcases hc with rfl | rfl | rfl | rfl | rfl <;> omega)))
    (ibCons (ibNe (a := (3 * ((k : Int) - 1))) (b := (3 * ((k : Int) - 1))) rfl rfl (decide_eq_true rfl))
    (ibCons (ibRem (a := ((k : Int) - 1)) (b := (2)) (c := (0)) rfl rfl rfl (by omega) (by rw [Int.tmod_eq_emod_of_nonneg (by omega)]; omega))
    (ibCons (ibRem (a := ((k : Int) - 1)) (b := (3)) (c := (2)) rfl rfl rfl (by omega) (by rw [Int.tmod_eq_emod_of_nonneg (by omega)]; omega))
    (ibCons (ibAdd (a := ((c : Int))) (b := (2)) (c := ((c : Int) + 2)) rfl rfl rfl (by (rcases hc with rfl | rfl | rfl | rfl | rfl <;> omega)) (by (rcases hc with rfl | rfl | rfl | rfl | rfl <;> omega)) (by (rcases hc with rfl | rfl | rfl | rfl | rfl <;> omega)))
    (ibCons (ibAdd (a := ((c : Int) + 2)) (b := (4)) (c := ((c : Int) + 6)) rfl rfl rfl (by (rcases hc with rfl | rfl | rfl | rfl | rfl <;> omega)) (by (rcases hc with rfl | rfl | rfl | rfl | rfl <;> omega)) (by (rcases hc with rfl | rfl | rfl | rfl | rfl <;> omega)))
    (ibCons (ibSub (a := (((k * (c + 6) : Nat) : Int))) (b := ((c : Int) + 6)) (c := ((((k - 1) * (c + 6) : Nat) : Int))) rfl rfl rfl (by (rcases hc with rfl | rfl | rfl | rfl | rfl <;> omega)) (by (rcases hc with rfl | rfl | rfl | rfl | rfl <;> omega)) (by (rcases hc with rfl | rfl | rfl | rfl | rfl <;> omega)))
    (ibCons (ibLe (a := ((((k - 1) * (c + 1) : Nat) : Int))) (b := (((k * (c + 1) - 1 : Nat) : Int))) rfl rfl (decide_eq_true (by (rcases hc with rfl | rfl | rfl | rfl | rfl <;> omega))))
    (ibCons (ibGe (a := ((((k - 1) * (c + 1) : Nat) : Int))) (b := (0)) rfl rfl (decide_eq_true (by (rcases hc with rfl | rfl | rfl | rfl | rfl <;> omega))))
    (ibCons (ibLe (a := ((k : Int) - 1)) (b := ((k : Int))) rfl rfl (decide_eq_true (by (rcases hc with rfl | rfl | rfl | rfl | rfl <;> omega))))
    (ibCons (ibSub (a := ((k : Int) - 1)) (b := (1)) (c := ((k : Int) - 1 - 1)) rfl rfl rfl (by (rcases hc with rfl | rfl | rfl | rfl | rfl <;> omega)) (by (rcases hc with rfl | rfl | rfl | rfl | rfl <;> omega)) (by (rcases hc with rfl | rfl | rfl | rfl | rfl <;> omega)))
    ibNil))))))))))))))))))))))))))))))

abbrev rPush10 : List BRow := [(11, .oi 1, .oi 0, .bool true), (0, .oi 1, cI 1, .oi 5), (11, .oi 1, cI 0, .bool false), (11, .oi 5, cI 0, .bool false), (11, .oi 12, cI 0, .bool false), (13, .oi 12, cI 2048, .bool false), (0, .oi 12, cI 2, .oi 13), (0, .oi 13, cI 4, .oi 14), (1, cI 2048, .oi 2, .oi 11), (13, .oi 14, .oi 11, .bool false), (0, .oi 2, .oi 14, .oi 6), (2, .oi 1, cI 3, .oi 8), (9, .oi 5, cI 0, .bool false), (1, .oi 5, cI 1, .oi 1), (11, .oi 1, .oi 5, .bool true), (14, .oi 1, cI 0, .bool true), (1, .oi 12, cI 1, .oi 15), (4, .oi 1, cI 2, cI 1), (4, .oi 1, cI 3, cI 0), (11, .oi 15, cI 0, .bool false), (14, .oi 15, .oi 12, .bool false), (0, .oi 3, .oi 15, .oi 9), (14, .oi 9, cI 0, .bool true), (11, .oi 9, .oi 7, .bool true)]
theorem rPush10_ok {c k n : Nat} (hc : c = 1 ∨ c = 2 ∨ c = 3 ∨ c = 4 ∨ c = 5) (hk : k < n) (hn : n ≤ 200) (hw : (k + 1) * (c + 6) ≤ 2048) (h2 : k % 2 = 1) (h3 : k % 3 = 0) : ∀ r ∈ rPush10, IbOk (ivD c k n) r := by
  letI := Tab.empty
  exact (ibCons (ibLt (a := ((k : Int))) (b := ((n : Int))) rfl rfl (decide_eq_true (by (rcases hc with rfl | rfl | rfl | rfl | rfl <;> omega))))
    (ibCons (ibAdd (a := ((k : Int))) (b := (1)) (c := (((k + 1 : Nat) : Int))) rfl rfl rfl (by (rcases hc with rfl | rfl | rfl | rfl | rfl <;> omega)) (by (rcases hc with rfl | rfl | rfl | rfl | rfl <;> omega)) (by (rcases hc with rfl | rfl | rfl | rfl | rfl <;> omega)))
    (ibCons (ibLt (a := ((k : Int))) (b := (0)) rfl rfl (decide_eq_false (by (rcases hc with rfl | rfl | rfl | rfl | rfl <;> omega))))
    (ibCons (ibLt (a := (((k + 1 : Nat) : Int))) (b := (0)) rfl rfl (decide_eq_false (by (rcases hc with rfl | rfl | rfl | rfl | rfl <;> omega))))
    (ibCons (ibLt (a := ((c : Int))) (b := (0)) rfl rfl (decide_eq_false (by (rcases hc with rfl | rfl | rfl | rfl | rfl <;> omega))))
    (ibCons (ibGt (a := ((c : Int))) (b := (2048)) rfl rfl (decide_eq_false (by (rcases hc with rfl | rfl | rfl | rfl | rfl <;> omega))))
    (ibCons (ibAdd (a := ((c : Int))) (b := (2)) (c := ((c : Int) + 2)) rfl rfl rfl (by (rcases hc with rfl | rfl | rfl | rfl | rfl <;> omega)) (by (rcases hc with rfl | rfl | rfl | rfl | rfl <;> omega)) (by (rcases hc with rfl | rfl | rfl | rfl | rfl <;> omega)))
    (ibCons (ibAdd (a := ((c : Int) + 2)) (b := (4)) (c := ((c : Int) + 6)) rfl rfl rfl (by (rcases hc with rfl | rfl | rfl | rfl | rfl <;> omega)) (by (rcases hc with rfl | rfl | rfl | rfl | rfl <;> omega)) (by (rcases hc with rfl | rfl | rfl | rfl | rfl <;> omega)))
    (ibCons (ibSub (a := (2048)) (b := (((k * (c + 6) : Nat) : Int))) (c := (2048 - ((k * (c + 6) : Nat) : Int))) rfl rfl rfl (by (rcases hc with rfl | rfl | rfl | rfl | rfl <;> omega)) (by (rcases hc with rfl | rfl | rfl | rfl | rfl <;> omega)) (by (rcases hc with rfl | rfl | rfl | rfl | rfl <;> omega)))
    (ibCons (ibGt (a := ((c : Int) + 6)) (b := (2048 - ((k * (c + 6) : Nat) : Int))) rfl rfl (decide_eq_false (by (rcases hc with rfl | rfl | rfl | rfl | rfl <;> omega))))
    (ibCons (ibAdd (a := (((k * (c + 6) : Nat) : Int))) (b := ((c : Int) + 6)) (c := ((((k + 1) * (c + 6) : Nat) : Int))) rfl rfl rfl (by (rcases hc with rfl | rfl | rfl | rfl | rfl <;> omega)) (by (rcases hc with rfl | rfl | rfl | rfl | rfl <;> omega)) (by (rcases hc with rfl | rfl | rfl | rfl | rfl <;> omega)))
    (ibCons (ibMul (a := ((k : Int))) (b := (3)) (c := (3 * (k : Int))) rfl rfl rfl (by (rcases hc with rfl | rfl | rfl | rfl | rfl <;> omega)) (by (rcases hc with rfl | rfl | rfl | rfl | rfl <;> omega)) (by (rcases hc with rfl | rfl | rfl | rfl | rfl <;> omega)))
    (ibCons (ibEq (a := (((k + 1 : Nat) : Int))) (b := (0)) rfl rfl (decide_eq_false (by (rcases hc with rfl | rfl | rfl | rfl | rfl <;> omega))))
    (ibCons (ibSub (a := (((k + 1 : Nat) : Int))) (b := (1)) (c := ((k : Int))) rfl rfl rfl (by (rcases hc with rfl | rfl | rfl | rfl | rfl <;> omega)) (by (rcases hc with rfl | rfl | rfl | rfl | rfl <;> omega)) (by (rcases hc with rfl | rfl | rfl | rfl | rfl <;> omega)))
    (ibCons (ibLt (a := ((k : Int))) (b := (((k + 1 : Nat) : Int))) rfl rfl (decide_eq_true (by (rcases hc with rfl | rfl | rfl | rfl | rfl <;> omega))))
    (ibCons (ibGe (a := ((k : Int))) (b := (0)) rfl rfl (decide_eq_true (by (rcases hc with rfl | rfl | rfl | rfl | rfl <;> omega))))
    (ibCons (ibSub (a := ((c : Int))) (b := (1)) (c := (((c - 1 : Nat) : Int))) rfl rfl rfl (by (rcases hc with rfl | rfl | rfl | rfl | rfl <;> omega)) (by (rcases hc with rfl | rfl | rfl | rfl | rfl <;> omega)) (by (rcases hc with rfl | rfl | rfl | rfl | rfl <;> omega)))
    (ibCons (ibRem (a := ((k : Int))) (b := (2)) (c := (1)) rfl rfl rfl (by omega) (by rw [Int.tmod_eq_emod_of_nonneg (by omega)]; omega))
    (ibCons (ibRem (a := ((k : Int))) (b := (3)) (c := (0)) rfl rfl rfl (by omega) (by rw [Int.tmod_eq_emod_of_nonneg (by omega)]; omega))
    (ibCons (ibLt (a := (((c - 1 : Nat) : Int))) (b := (0)) rfl rfl (decide_eq_false (by (rcases hc with rfl | rfl | rfl | rfl | rfl <;> omega))))
    (ibCons (ibGe (a := (((c - 1 : Nat) : Int))) (b := ((c : Int))) rfl rfl (decide_eq_false (by (rcases hc with rfl | rfl | rfl | rfl | rfl <;> omega))))
    (ibCons (ibAdd (a := (((k * (c + 1) : Nat) : Int))) (b := (((c - 1 : Nat) : Int))) (c := (((k * (c + 1) + (c - 1) : Nat) : Int))) rfl rfl rfl (by (rcases hc with rfl | rfl | rfl | rfl | rfl <;> omega)) (by (rcases hc with rfl | rfl | rfl | rfl | rfl <;> omega)) (by (rcases hc with rfl | rfl | rfl | rfl | rfl <;> omega)))
    (ibCons (ibGe (a := (((k * (c + 1) + (c - 1) : Nat) : Int))) (b := (0)) rfl rfl (decide_eq_true (by (rcases hc with rfl | rfl | rfl | rfl | rfl <;> omega))))
    (ibCons (ibLt (a := (((k * (c + 1) + (c - 1) : Nat) : Int))) (b := (((k * (c + 1) + c : Nat) : Int))) rfl rfl (decide_eq_true (by (rcases hc with rfl | rfl | rfl | rfl | rfl <;> omega))))
    ibNil))))))))))))))))))))))))

abbrev rPop10 : List BRow := [(14, .oi 4, cI 0, .bool true), (9, .oi 1, cI 0, .bool false), (1, .oi 1, cI 1, .oi 4), (11, .oi 4, .oi 1, .bool true), (1, .oi 12, cI 1, .oi 15), (11, .oi 15, cI 0, .bool false), (14, .oi 15, .oi 12, .bool false), (0, .oi 17, .oi 15, .oi 18), (11, .oi 18, cI 0, .bool false), (11, .oi 18, .oi 3, .bool true), (14, .oi 18, cI 0, .bool true), (1, .oi 3, cI 1, .oi 19), (1, .oi 19, cI 0, .oi 19), (11, .oi 19, .oi 3, .bool true), (14, .oi 19, cI 0, .bool true), (12, .oi 19, .oi 3, .bool true), (10, .oi 4, .oi 4, .bool false), (0, .oi 4, cI 1, .oi 1), (10, .oi 1, .oi 1, .bool false), (2, .oi 4, cI 3, .oi 16), (10, .oi 16, .oi 16, .bool false), (4, .oi 4, cI 2, cI 1), (4, .oi 4, cI 3, cI 0), (0, .oi 12, cI 2, .oi 13), (0, .oi 13, cI 4, .oi 14), (1, .oi 2, .oi 14, .oi 20), (12, .oi 17, .oi 19, .bool true), (14, .oi 17, cI 0, .bool true), (12, .oi 4, .oi 1, .bool true), (1, .oi 4, cI 1, .oi 21)]
theorem rPop10_ok {c k n : Nat} (hc : c = 1 ∨ c = 2 ∨ c = 3 ∨ c = 4 ∨ c = 5) (hk : 1 ≤ k) (hn : k ≤ 200) (h2 : (k - 1) % 2 = 1) (h3 : (k - 1) % 3 = 0) : ∀ r ∈ rPop10, IbOk (ivD c k n) r := by
  letI := Tab.empty
  exact (ibCons (ibGe (a := ((k : Int) - 1)) (b := (0)) rfl rfl (decide_eq_true (by (rcases hc with rfl | rfl | rfl | rfl | rfl <;> omega))))
    (ibCons (ibEq (a := ((k : Int))) (b := (0)) rfl rfl (decide_eq_false (by (rcases hc with rfl | rfl | rfl | rfl | rfl <;> omega))))
    (ibCons (ibSub (a := ((k : Int))) (b := (1)) (c := ((k : Int) - 1)) rfl rfl rfl (by (rcases hc with rfl | rfl | rfl | rfl | rfl <;> omega)) (by (rcases hc with rfl | rfl | rfl | rfl | rfl <;> omega)) (by (rcases hc with rfl | rfl | rfl | rfl | rfl <;> omega)))
    (ibCons (ibLt (a := ((k : Int) - 1)) (b := ((k : Int))) rfl rfl (decide_eq_true (by (rcases hc with rfl | rfl | rfl | rfl | rfl <;> omega))))
    (ibCons (ibSub (a := ((c : Int))) (b := (1)) (c := (((c - 1 : Nat) : Int))) rfl rfl rfl (by (rcases hc with rfl | rfl | rfl | rfl | rfl <;> omega)) (by (rcases hc with rfl | rfl | rfl | rfl | rfl <;> omega)) (by (rcases hc with rfl | rfl | rfl | rfl | rfl <;> omega)))
    (ibCons (ibLt (a := (((c - 1 : Nat) : Int))) (b := (0)) rfl rfl (decide_eq_false (by (rcases hc with rfl | rfl | rfl | rfl | rfl <;> omega))))
    (ibCons (ibGe (a := (((c - 1 : Nat) : Int))) (b := ((c : Int))) rfl rfl (decide_eq_false (by (rcases hc with rfl | rfl | rfl | rfl | rfl <;> omega))))
    (ibCons (ibAdd (a := ((((k - 1) * (c + 1) : Nat) : Int))) (b := (((c - 1 : Nat) : Int))) (c := ((((k - 1) * (c + 1) + (c - 1) : Nat) : Int))) rfl rfl rfl (by (rcases hc with rfl | rfl | rfl | rfl | rfl <;> omega)) (by (rcases hc with rfl | rfl | rfl | rfl | rfl <;> omega)) (by (rcases hc with rfl | rfl | rfl | rfl | rfl <;> omega)))
    (ibCons (ibLt (a := ((((k - 1) * (c + 1) + (c - 1) : Nat) : Int))) (b := (0)) rfl rfl (decide_eq_false (by (rcases hc with rfl | rfl | rfl | rfl | rfl <;> omega))))
    (ibCons (ibLt (a := ((((k - 1) * (c + 1) + (c - 1) : Nat) : Int))) (b := (((k * (c + 1) : Nat) : Int))) rfl rfl (decide_eq_true (by (rcases hc with rfl | rfl | rfl | rfl | rfl <;> omega))))
    (ibCons (ibGe (a := ((((k - 1) * (c + 1) + (c - 1) : Nat) : Int))) (b := (0)) rfl rfl (decide_eq_true (by (rcases hc with rfl | rfl | rfl | rfl | rfl <;> omega))))
    (ibCons (ibSub (a := (((k * (c + 1) : Nat) : Int))) (b := (1)) (c := (((k * (c + 1) - 1 : Nat) : Int))) rfl rfl rfl (by (rcases hc with rfl | rfl | rfl | rfl | rfl <;> omega)) (by (rcases hc with rfl | rfl | rfl | rfl | rfl <;> omega)) (by (rcases hc with rfl | rfl | rfl | rfl | rfl <;> omega)))
    (ibCons (ibSub (a := (((k * (c + 1) - 1 : Nat) : Int))) (b := (0)) (c := (((k * (c + 1) - 1 : Nat) : Int))) rfl rfl rfl (by (rcases hc with rfl | rfl | rfl | rfl | rfl <;> omega)) (by (rcases hc with rfl | rfl | rfl | rfl | rfl <;> omega)) (by (rcases hc with rfl | rfl | rfl | rfl | rfl <;> omega)))
    (ibCons (ibLt (a := (((k * (c + 1) - 1 : Nat) : Int))) (b := (((k * (c + 1) : Nat) : Int))) rfl rfl (decide_eq_true (by (rcases hc with rfl | rfl | rfl | rfl | rfl <;> omega))))
    (ibCons (ibGe (a := (((k * (c + 1) - 1 : Nat) : Int))) (b := (0)) rfl rfl (decide_eq_true (by (rcases hc with rfl | rfl | rfl | rfl | rfl <;> omega))))
    (ibCons (ibLe (a := (((k * (c + 1) - 1 : Nat) : Int))) (b := (((k * (c + 1) : Nat) : Int))) rfl rfl (decide_eq_true (by (rcases hc with rfl | rfl | rfl | rfl | rfl <;> omega))))
    (ibCons (ibNe (a := ((k : Int) - 1)) (b := ((k : Int) - 1)) rfl rfl (decide_eq_true rfl))
    (ibCons (ibAdd (a := ((k : Int) - 1)) (b := (1)) (c := ((k : Int))) rfl rfl rfl (by (rcases hc with rfl | rfl | rfl | rfl | rfl <;> omega)) (by (rcases hc with rfl | rfl | rfl | rfl | rfl <;> omega)) (by (rcases hc with rfl | rfl | rfl | rfl | rfl <;> omega)))
    (ibCons (ibNe (a := ((k : Int))) (b := ((k : Int))) rfl rfl (decide_eq_true rfl))
    (ibCons (ibMul (a := ((k : Int) - 1)) (b := (3)) (c := (3 * ((k : Int) - 1))) rfl rfl rfl (by (rcases hc with rfl | rfl | rfl | rfl | rfl <;> omega)) (by (rcases hc with rfl | rfl | rfl | rfl | rfl <;> omega)) (by (rcases hc with rfl | rfl | rfl | rfl | rfl <;> omega)))
    (ibCons (ibNe (a := (3 * ((k : Int) - 1))) (b := (3 * ((k : Int) - 1))) rfl rfl (decide_eq_true rfl))
    (ibCons (ibRem (a := ((k : Int) - 1)) (b := (2)) (c := (1)) rfl rfl rfl (by omega) (by rw [Int.tmod_eq_emod_of_nonneg (by omega)]; omega))
    (ibCons (ibRem (a := ((k : Int) - 1)) (b := (3)) (c := (0)) rfl rfl rfl (by omega) (by rw [Int.tmod_eq_emod_of_nonneg (by omega)]; omega))
    (ibCons (ibAdd (a := ((c : Int))) (b := (2)) (c := ((c : Int) + 2)) rfl rfl rfl (by (rcases hc with rfl | rfl | rfl | rfl | rfl <;> omega)) (by (rcases hc with rfl | rfl | rfl | rfl | rfl <;> omega)) (by (rcases hc with rfl | rfl | rfl | rfl | rfl <;> omega)))
    (ibCons (ibAdd (a := ((c : Int) + 2)) (b := (4)) (c := ((c : Int) + 6)) rfl rfl rfl (by (rcases hc with rfl | rfl | rfl | rfl | rfl <;> omega)) (by (rcases hc with rfl | rfl | rfl | rfl | rfl <;> omega)) (by (rcases hc with rfl | rfl | rfl | rfl | rfl <;> omega)))
    (ibCons (ibSub (a := (((k * (c + 6) : Nat) : Int))) (b := ((c : Int) + 6)) (c := ((((k - 1) * (c + 6) : Nat) : Int))) rfl rfl rfl (by (rcases hc with rfl | rfl | rfl | rfl | rfl <;> omega)) (by (rcases hc with rfl | rfl | rfl | rfl | rfl <;> omega)) (by (rcases hc with rfl | rfl | rfl | rfl | rfl <;> omega)))
    (ibCons (ibLe (a := ((((k - 1) * (c + 1) : Nat) : Int))) (b := (((k * (c + 1) - 1 : Nat) : Int))) rfl rfl (decide_eq_true (by (rcases hc with rfl | rfl | rfl | rfl | rfl <;> omega))))
    (ibCons (ibGe (a := ((((k - 1) * (c + 1) : Nat) : Int))) (b := (0)) rfl rfl (decide_eq_true (by (rcases hc with rfl | rfl | rfl | rfl | rfl <;> omega))))
    (ibCons (ibLe (a := ((k : Int) - 1)) (b := ((k : Int))) rfl rfl (decide_eq_true (by (rcases hc with rfl | rfl | rfl | rfl | rfl <;> omega))))
    (ibCons (ibSub (a := ((k : Int) - 1)) (b := (1)) (c := ((k : Int) - 1 - 1)) rfl rfl rfl (by (rcases hc with rfl | rfl | rfl | rfl | rfl <;> omega)) (by (rcases hc with rfl | rfl | rfl | rfl | rfl <;> omega)) (by (rcases hc with rfl | rfl | rfl | rfl | rfl <;> omega)))
    ibNil))))))))))))))))))))))))))))))

abbrev rPush11 : List BRow := [(11, .oi 1, .oi 0, .bool true), (0, .oi 1, cI 1, .oi 5), (11, .oi 1, cI 0, .bool false), (11, .oi 5, cI 0, .bool false), (11, .oi 12, cI 0, .bool false), (13, .oi 12, cI 2048, .bool false), (0, .oi 12, cI 2, .oi 13), (0, .oi 13, cI 4, .oi 14), (1, cI 2048, .oi 2, .oi 11), (13, .oi 14, .oi 11, .bool false), (0, .oi 2, .oi 14, .oi 6), (2, .oi 1, cI 3, .oi 8), (9, .oi 5, cI 0, .bool false), (1, .oi 5, cI 1, .oi 1), (11, .oi 1, .oi 5, .bool true), (14, .oi 1, cI 0, .bool true), (1, .oi 12, cI 1, .oi 15), (4, .oi 1, cI 2, cI 1), (4, .oi 1, cI 3, cI 1), (11, .oi 15, cI 0, .bool false), (14, .oi 15, .oi 12, .bool false), (0, .oi 3, .oi 15, .oi 9), (14, .oi 9, cI 0, .bool true), (11, .oi 9, .oi 7, .bool true)]
theorem rPush11_ok {c k n : Nat} (hc : c = 1 ∨ c = 2 ∨ c = 3 ∨ c = 4 ∨ c = 5) (hk : k < n) (hn : n ≤ 200) (hw : (k + 1) * (c + 6) ≤ 2048) (h2 : k % 2 = 1) (h3 : k % 3 = 1) : ∀ r ∈ rPush11, IbOk (ivD c k n) r := by
  letI := Tab.empty
  exact (ibCons (ibLt (a := ((k : Int))) (b := ((n : Int))) rfl rfl (decide_eq_true (by (rcases hc with rfl | rfl | rfl | rfl | rfl <;> omega))))
    (ibCons (ibAdd (a := ((k : Int))) (b := (1)) (c := (((k + 1 : Nat) : Int))) rfl rfl rfl (by (rcases hc with rfl | rfl | rfl | rfl | rfl <;> omega)) (by (rcases hc with rfl | rfl | rfl | rfl | rfl <;> omega)) (by (rcases hc with rfl | rfl | rfl | rfl | rfl <;> omega)))
    (ibCons (ibLt (a := ((k : Int))) (b := (0)) rfl rfl (decide_eq_false (by (rcases hc with rfl | rfl | rfl | rfl | rfl <;> omega))))
    (ibCons (ibLt (a := (((k + 1 : Nat) : Int))) (b := (0)) rfl rfl (decide_eq_false (by (rcases hc with rfl | rfl | rfl | rfl | rfl <;> omega))))
    (ibCons (ibLt (a := ((c : Int))) (b := (0)) rfl rfl (decide_eq_false (by (rcases hc with rfl | rfl | rfl | rfl | rfl <;> omega))))
    (ibCons (ibGt (a := ((c : Int))) (b := (2048)) rfl rfl (decide_eq_false (by (rcases hc with rfl | rfl | rfl | rfl | rfl <;> omega))))
    (ibCons (ibAdd (a := ((c : Int))) (b := (2)) (c := ((c : Int) + 2)) rfl rfl rfl (by (rcases hc with rfl | rfl | rfl | rfl | rfl <;> omega)) (by (rcases hc with rfl | rfl | rfl | rfl | rfl <;> omega)) (by (rcases hc with rfl | rfl | rfl | rfl | rfl <;> omega)))
    (ibCons (ibAdd (a := ((c : Int) + 2)) (b := (4)) (c := ((c : Int) + 6)) rfl rfl rfl (by (rcases hc with rfl | rfl | rfl | rfl | rfl <;> omega)) (by (rcases hc with rfl | rfl | rfl | rfl | rfl <;> omega)) (by (rcases hc with rfl | rfl | rfl | rfl | rfl <;> omega)))
    (ibCons (ibSub (a := (2048)) (b := (((k * (c + 6) : Nat) : Int))) (c := (2048 - ((k * (c + 6) : Nat) : Int))) rfl rfl rfl (by (rcases hc with rfl | rfl | rfl | rfl | rfl <;> omega)) (by (rcases hc with rfl | rfl | rfl | rfl | rfl <;> omega)) (by (rcases hc with rfl | rfl | rfl | rfl | rfl <;> omega)))
    (ibCons (ibGt (a := ((c : Int) + 6)) (b := (2048 - ((k * (c + 6) : Nat) : Int))) rfl rfl (decide_eq_false (by (rcases hc with rfl | rfl | rfl | rfl | rfl <;> omega))))
    (ibCons (ibAdd (a := (((k * (c + 6) : Nat) : Int))) (b := ((c : Int) + 6)) (c := ((((k + 1) * (c + 6) : Nat) : Int))) rfl rfl rfl (by (rcases hc with rfl | rfl | rfl | rfl | rfl <;> omega)) (by (rcases hc with rfl | rfl | rfl | rfl | rfl <;> omega)) (by (rcases hc with rfl | rfl | rfl | rfl | rfl <;> omega)))
    (ibCons (ibMul (a := ((k : Int))) (b := (3)) (c := (3 * (k : Int))) rfl rfl rfl (by (rcases hc with rfl | rfl | rfl | rfl | rfl <;> omega)) (by (rcases hc with rfl | rfl | rfl | rfl | rfl <;> omega)) (by (rcases hc with rfl | rfl | rfl | rfl | rfl <;> omega)))
    (ibCons (ibEq (a := (((k + 1 : Nat) : Int))) (b := (0)) rfl rfl (decide_eq_false (by (rcases hc with rfl | rfl | rfl | rfl | rfl <;> omega))))
    (ibCons (ibSub (a := (((k + 1 : Nat) : Int))) (b := (1)) (c := ((k : Int))) rfl rfl rfl (by (rcases hc with rfl | rfl | rfl | rfl | rfl <;> omega)) (by (rcases hc with rfl | rfl | rfl | rfl | rfl <;> omega)) (by (rcases hc with rfl | rfl | rfl | rfl | rfl <;> omega)))
    (ibCons (ibLt (a := ((k : Int))) (b := (((k + 1 : Nat) : Int))) rfl rfl (decide_eq_true (by (rcases hc with rfl | rfl | rfl | rfl | rfl <;> omega))))
    (ibCons (ibGe (a := ((k : Int))) (b := (0)) rfl rfl (decide_eq_true (by (rcases hc with rfl | rfl | rfl | rfl | rfl <;> omega))))
    (ibCons (ibSub (a := ((c : Int))) (b := (1)) (c := (((c - 1 : Nat) : Int))) rfl rfl rfl (by (rcases hc with rfl | rfl | rfl | rfl | rfl <;> omega)) (by (rcases hc with rfl | rfl | rfl | rfl | rfl <;> omega)) (by (rcases hc with rfl | rfl | rfl | rfl | rfl <;> omega)))
    (ibCons (ibRem (a := ((k : Int))) (b := (2)) (c := (1)) rfl rfl rfl (by omega) (by rw [Int.tmod_eq_emod_of_nonneg (by omega)]; omega))
    (ibCons (ibRem (a := ((k : Int))) (b := (3)) (c := (1)) rfl rfl rfl (by omega) (by rw [Int.tmod_eq_emod_of_nonneg (by omega)]; omega))
    (ibCons (ibLt (a := (((c - 1 : Nat) : Int))) (b := (0)) rfl rfl (decide_eq_false (by (rcases hc with rfl | rfl | rfl | rfl | rfl <;> omega))))
    (ibCons (ibGe (a := (((c - 1 : Nat) : Int))) (b := ((c : Int))) rfl rfl (decide_eq_false (by (rcases hc with rfl | rfl | rfl | rfl | rfl <;> omega))))
    (ibCons (ibAdd (a := (((k * (c + 1) : Nat) : Int))) (b := (((c - 1 : Nat) : Int))) (c := (((k * (c + 1) + (c - 1) : Nat) : Int))) rfl rfl rfl (by (rcases hc with rfl | rfl | rfl | rfl | rfl <;> omega)) (by (rcases hc with rfl | rfl | rfl | rfl | rfl <;> omega)) (by (rcases hc with rfl | rfl | rfl | rfl | rfl <;> omega)))
    (ibCons (ibGe (a := (((k * (c + 1) + (c - 1) : Nat) : Int))) (b := (0)) rfl rfl (decide_eq_true (by (rcases hc with rfl | rfl | rfl | rfl | rfl <;> omega))))
    (ibCons (ibLt (a := (((k * (c + 1) + (c - 1) : Nat) : Int))) (b := (((k * (c + 1) + c : Nat) : Int))) rfl rfl (decide_eq_true (by (rcases hc with rfl | rfl | rfl | rfl | rfl <;> omega))))
    ibNil))))))))))))))))))))))))

abbrev rPop11 : List BRow := [(14, .oi 4, cI 0, .bool true), (9, .oi 1, cI 0, .bool false), (1, .oi 1, cI 1, .oi 4), (11, .oi 4, .oi 1, .bool true), (1, .oi 12, cI 1, .oi 15), (11, .oi 15, cI 0, .bool false), (14, .oi 15, .oi 12, .bool false), (0, .oi 17, .oi 15, .oi 18), (11, .oi 18, cI 0, .bool false), (11, .oi 18, .oi 3, .bool true), (14, .oi 18, cI 0, .bool true), (1, .oi 3, cI 1, .oi 19), (1, .oi 19, cI 0, .oi 19), (11, .oi 19, .oi 3, .bool true), (14, .oi 19, cI 0, .bool true), (12, .oi 19, .oi 3, .bool true), (10, .oi 4, .oi 4, .bool false), (0, .oi 4, cI 1, .oi 1), (10, .oi 1, .oi 1, .bool false), (2, .oi 4, cI 3, .oi 16), (10, .oi 16, .oi 16, .bool false), (4, .oi 4, cI 2, cI 1), (4, .oi 4, cI 3, cI 1), (0, .oi 12, cI 2, .oi 13), (0, .oi 13, cI 4, .oi 14), (1, .oi 2, .oi 14, .oi 20), (12, .oi 17, .oi 19, .bool true), (14, .oi 17, cI 0, .bool true), (12, .oi 4, .oi 1, .bool true), (1, .oi 4, cI 1, .oi 21)]
theorem rPop11_ok {c k n : Nat} (hc : c = 1 ∨ c = 2 ∨ c = 3 ∨ c = 4 ∨ c = 5) (hk : 1 ≤ k) (hn : k ≤ 200) (h2 : (k - 1) % 2 = 1) (h3 : (k - 1) % 3 = 1) : ∀ r ∈ rPop11, IbOk (ivD c k n) r := by
  letI := Tab.empty
  exact (ibCons (ibGe (a := ((k : Int) - 1)) (b := (0)) rfl rfl (decide_eq_true (by (rcases hc with rfl | rfl | rfl | rfl | rfl <;> omega))))
    (ibCons (ibEq (a := ((k : Int))) (b := (0)) rfl rfl (decide_eq_false (by (rcases hc with rfl | rfl | rfl | rfl | rfl <;> omega))))
    (ibCons (ibSub (a := ((k : Int))) (b := (1)) (c := ((k : Int) - 1)) rfl rfl rfl (by (rcases hc with rfl | rfl | rfl | rfl | rfl <;> omega)) (by (rcases hc with rfl | rfl | rfl | rfl | rfl <;> omega)) (by (rcases hc with rfl | rfl | rfl | rfl | rfl <;> omega)))
    (ibCons (ibLt (a := ((k : Int) - 1)) (b := ((k : Int))) rfl rfl (decide_eq_true (by (rcases hc with rfl | rfl | rfl | rfl | rfl <;> omega))))
    (ibCons (ibSub (a := ((c : Int))) (b := (1)) (c := (((c - 1 : Nat) : Int))) rfl rfl rfl (by (rcases hc with rfl | rfl | rfl | rfl | rfl <;> omega)) (by (rcases hc with rfl | rfl | rfl | rfl | rfl <;> omega)) (by (rcases hc with rfl | rfl | rfl | rfl | rfl <;> omega)))
    (ibCons (ibLt (a := (((c - 1 : Nat) : Int))) (b := (0)) rfl rfl (decide_eq_false (by (rcases hc with rfl | rfl | rfl | rfl | rfl <;> omega))))
    (ibCons (ibGe (a := (((c - 1 : Nat) : Int))) (b := ((c : Int))) rfl rfl (decide_eq_false (by (rcases hc with rfl | rfl | rfl | rfl | rfl <;> omega))))
    (ibCons (ibAdd (a := ((((k - 1) * (c + 1) : Nat) : Int))) (b := (((c - 1 : Nat) : Int))) (c := ((((k - 1) * (c + 1) + (c - 1) : Nat) : Int))) rfl rfl rfl (by (rcases hc with rfl | rfl | rfl | rfl | rfl <;> omega)) (by (rcases hc with rfl | rfl | rfl | rfl | rfl <;> omega)) (by (rcases hc with rfl | rfl | rfl | rfl | rfl <;> omega)))
    (ibCons (ibLt (a := ((((k - 1) * (c + 1) + (c - 1) : Nat) : Int))) (b := (0)) rfl rfl (decide_eq_false (by (rcases hc with rfl | rfl | rfl | rfl | rfl <;> omega))))
    (ibCons (ibLt (a := ((((k - 1) * (c + 1) + (c - 1) : Nat) : Int))) (b := (((k * (c + 1) : Nat) : Int))) rfl rfl (decide_eq_true (by (rcases hc with rfl | rfl | rfl | rfl | rfl <;> omega))))
    (ibCons (ibGe (a := ((((k - 1) * (c + 1) + (c - 1) : Nat) : Int))) (b := (0)) rfl rfl (decide_eq_true (by (rcases hc with rfl | rfl | rfl | rfl | rfl <;> omega))))
    (ibCons (ibSub (a := (((k * (c + 1) : Nat) : Int))) (b := (1)) (c := (((k * (c + 1) - 1 : Nat) : Int))) rfl rfl rfl (by (rcases hc with rfl | rfl | rfl | rfl | rfl <;> omega)) (by (rcases hc with rfl | rfl | rfl | rfl | rfl <;> omega)) (by (rcases hc with rfl | rfl | rfl | rfl | rfl <;> omega)))
    (ibCons (ibSub (a := (((k * (c + 1) - 1 : Nat) : Int))) (b := (0)) (c := (((k * (c + 1) - 1 : Nat) : Int))) rfl rfl rfl (by (rcases hc with rfl | rfl | rfl | rfl | rfl <;> omega)) (by (rcases hc with rfl | rfl | rfl | rfl | rfl <;> omega)) (by (rcases hc with rfl | rfl | rfl | rfl | rfl <;> omega)))
    (ibCons (ibLt (a := (((k * (c + 1) - 1 : Nat) : Int))) (b := (((k * (c + 1) : Nat) : Int))) rfl rfl (decide_eq_true (by (rcases hc with rfl | rfl | rfl | rfl | rfl <;> omega))))
    (ibCons (ibGe (a := (((k * (c + 1) - 1 : Nat) : Int))) (b := (0)) rfl rfl (decide_eq_true (by (rcases hc with rfl | rfl | rfl | rfl | rfl <;> omega))))
    (ibCons (ibLe (a := (((k * (c + 1) - 1 : Nat) : Int))) (b := (((k * (c + 1) : Nat) : Int))) rfl rfl (decide_eq_true (by (rcases hc with rfl | rfl | rfl | rfl | rfl <;> omega))))
    (ibCons (ibNe (a := ((k : Int) - 1)) (b := ((k : Int) - 1)) rfl rfl (decide_eq_true rfl))
    (ibCons (ibAdd (a := ((k : Int) - 1)) (b := (1)) (c := ((k : Int))) rfl rfl rfl (by (rcases hc with rfl | rfl | rfl | rfl | rfl <;> omega)) (by (rcases hc with rfl | rfl | rfl | rfl | rfl <;> omega)) (by (rcases hc with rfl | rfl | rfl | rfl | rfl <;> omega)))
    (ibCons (ibNe (a := ((k : Int))) (b := ((k : Int))) rfl rfl (decide_eq_true rfl))
    (ibCons (ibMul (a := ((k : Int) - 1)) (b := (3)) (c := (3 * ((k : Int) - 1))) rfl rfl rfl (by (rcases hc with rfl | rfl | rfl | rfl | rfl <;> omega)) (by (rcases hc with rfl | rfl | rfl | rfl | rfl <;> omega)) (by (rcases hc with rfl | rfl | rfl | rfl | rfl <;> omega)))
    (ibCons (ibNe (a := (3 * ((k : Int) - 1))) (b := (3 * ((k : Int) - 1))) rfl rfl (decide_eq_true rfl))
    (ibCons (ibRem (a := ((k : Int) - 1)) (b := (2)) (c := (1)) rfl rfl rfl (by omega) (by rw [Int.tmod_eq_emod_of_nonneg (by omega)]; omega))
    (ibCons (ibRem (a := ((k : Int) - 1)) (b := (3)) (c := (1)) rfl rfl rfl (by omega) (by rw [Int.tmod_eq_emod_of_nonneg (by omega)]; omega))
    (ibCons (ibAdd (a := ((c : Int))) (b := (2)) (c := ((c : Int) + 2)) rfl rfl rfl (by (rcases hc with rfl | rfl | rfl | rfl | rfl <;> omega)) (by (rcases hc with rfl | rfl | rfl | rfl | rfl <;> omega)) (by (rcases hc with rfl | rfl | rfl | rfl | rfl <;> omega)))
    (ibCons (ibAdd (a := ((c : Int) + 2)) (b := (4)) (c := ((c : Int) + 6)) rfl rfl rfl (by (rcases hc with rfl | rfl | rfl | rfl | rfl <;> omega)) (by (rcases hc with rfl | rfl | rfl | rfl | rfl <;> omega)) (by (rcases hc with rfl | rfl | rfl | rfl | rfl <;> omega)))
    (ibCons (ibSub (a := (((k * (c + 6) : Nat) : Int))) (b := ((c : Int) + 6)) (c := ((((k - 1) * (c + 6) : Nat) : Int))) rfl rfl rfl (by (rcases hc with rfl | rfl | rfl | rfl | rfl <;> omega)) (by (rcases hc with rfl | rfl | rfl | rfl | rfl <;> omega)) (by (rcases hc with rfl | rfl | rfl | rfl | rfl <;> omega)))
    (ibCons (ibLe (a := ((((k - 1) * (c + 1) : Nat) : Int))) (b := (((k * (c + 1) - 1 : Nat) : Int))) rfl rfl (decide_eq_true (by (rcases hc with rfl | rfl | rfl | rfl | rfl <;> omega))))
    (ibCons (ibGe (a := ((((k - 1) * (c + 1) : Nat) : Int))) (b := (0)) rfl rfl (decide_eq_true (by (rcases hc with rfl | rfl | rfl | rfl | rfl <;> omega))))
    (ibCons (ibLe (a := ((k : Int) - 1)) (b := ((k : Int))) rfl rfl (decide_eq_true (by (rcases hc with rfl | rfl | rfl | rfl | rfl <;> omega))))
    (ibCons (ibSub (a := ((k : Int) - 1)) (b := (1)) (c := ((k : Int) - 1 - 1)) rfl rfl rfl (by (rcases hc with rfl | rfl | rfl | rfl | rfl <;> omega)) (by (rcases hc with rfl | rfl | rfl | rfl | rfl <;> omega)) (by (rcases hc with rfl | rfl | rfl | rfl | rfl <;> omega)))
    ibNil))))))))))))))))))))))))))))))

abbrev rPush12 : List BRow := [(11, .oi 1, .oi 0, .bool true), (0, .oi 1, cI 1, .oi 5), (11, .oi 1, cI 0, .bool false), (11, .oi 5, cI 0, .bool false), (11, .oi 12, cI 0, .bool false), (13, .oi 12, cI 2048, .bool false), (0, .oi 12, cI 2, .oi 13), (0, .oi 13, cI 4, .oi 14), (1, cI 2048, .oi 2, .oi 11), (13, .oi 14, .oi 11, .bool false), (0, .oi 2, .oi 14, .oi 6), (2, .oi 1, cI 3, .oi 8), (9, .oi 5, cI 0, .bool false), (1, .oi 5, cI 1, .oi 1), (11, .oi 1, .oi 5, .bool true), (14, .oi 1, cI 0, .bool true), (1, .oi 12, cI 1, .oi 15), (4, .oi 1, cI 2, cI 1), (4, .oi 1, cI 3, cI 2), (11, .oi 15, cI 0, .bool false), (14, .oi 15, .oi 12, .bool false), (0, .oi 3, .oi 15, .oi 9), (14, .oi 9, cI 0, .bool true), (11, .oi 9, .oi 7, .bool true)]
theorem rPush12_ok {c k n : Nat} (hc : c = 1 ∨ c = 2 ∨ c = 3 ∨ c = 4 ∨ c = 5) (hk : k < n) (hn : n ≤ 200) (hw : (k + 1) * (c + 6) ≤ 2048) (h2 : k % 2 = 1) (h3 : k % 3 = 2) : ∀ r ∈ rPush12, IbOk (ivD c k n) r := by
  letI := Tab.empty
  exact (ibCons (ibLt (a := ((k : Int))) (b := ((n : Int))) rfl rfl (decide_eq_true (by (rcases hc with rfl | rfl | rfl | rfl | rfl <;> omega))))
    (ibCons (ibAdd (a := ((k : Int))) (b := (1)) (c := (((k + 1 : Nat) : Int))) rfl rfl rfl (by (rcases hc with rfl | rfl | rfl | rfl | rfl <;> omega)) (by (rcases hc with rfl | rfl | rfl | rfl | rfl <;> omega)) (by (rcases hc with rfl | rfl | rfl | rfl | rfl <;> omega)))
    (ibCons (ibLt (a := ((k : Int))) (b := (0)) rfl rfl (decide_eq_false (by (rcases hc with rfl | rfl | rfl | rfl | rfl <;> omega))))
    (ibCons (ibLt (a := (((k + 1 : Nat) : Int))) (b := (0)) rfl rfl (decide_eq_false (by (rcases hc with rfl | rfl | rfl | rfl | rfl <;> omega))))
    (ibCons (ibLt (a := ((c : Int))) (b := (0)) rfl rfl (decide_eq_false (by (rcases hc with rfl | rfl | rfl | rfl | rfl <;> omega))))
    (ibCons (ibGt (a := ((c : Int))) (b := (2048)) rfl rfl (decide_eq_false (by (rcases hc with rfl | rfl | rfl | rfl | rfl <;> omega))))
    (ibCons (ibAdd (a := ((c : Int))) (b := (2)) (c := ((c : Int) + 2)) rfl rfl rfl (by (rcases hc with rfl | rfl | rfl | rfl | rfl <;> omega)) (by (rcases hc with rfl | rfl | rfl | rfl | rfl <;> omega)) (by (rcases hc with rfl | rfl | rfl | rfl | rfl <;> omega)))
    (ibCons (ibAdd (a := ((c : Int) + 2)) (b := (4)) (c := ((c : Int) + 6)) rfl rfl rfl (by (rcases hc with rfl | rfl | rfl | rfl | rfl <;> omega)) (by (rcases hc with rfl | rfl | rfl | rfl | rfl <;> omega)) (by (rcases hc with rfl | rfl | rfl | rfl | rfl <;> omega)))
    (ibCons (ibSub (a := (2048)) (b := (((k * (c + 6) : Nat) : Int))) (c := (2048 - ((k * (c + 6) : Nat) : Int))) rfl rfl rfl (by (rcases hc with rfl | rfl | rfl | rfl | rfl <;> omega)) (by (rcases hc with rfl | rfl | rfl | rfl | rfl <;> omega)) (by (rcases hc with rfl | rfl | rfl | rfl | rfl <;> omega)))
    (ibCons (ibGt (a := ((c : Int) + 6)) (b := (2048 - ((k * (c + 6) : Nat) : Int))) rfl rfl (decide_eq_false (by (rcases hc with rfl | rfl | rfl | rfl | rfl <;> omega))))
    (ibCons (ibAdd (a := (((k * (c + 6) : Nat) : Int))) (b := ((c : Int) + 6)) (c := ((((k + 1) * (c + 6) : Nat) : Int))) rfl rfl rfl (by (rcases hc with rfl | rfl | rfl | rfl | rfl <;> omega)) (by (rcases hc with rfl | rfl | rfl | rfl | rfl <;> omega)) (by (rcases hc with rfl | rfl | rfl | rfl | rfl <;> omega)))
    (ibCons (ibMul (a := ((k : Int))) (b := (3)) (c := (3 * (k : Int))) rfl rfl rfl (by (rcases hc with rfl | rfl | rfl | rfl | rfl <;> omega)) (by (rcases hc with rfl | rfl | rfl | rfl | rfl <;> omega)) (by (rcases hc with rfl | rfl | rfl | rfl | rfl <;> omega)))
    (ibCons (ibEq (a := (((k + 1 : Nat) : Int))) (b := (0)) rfl rfl (decide_eq_false (by (rcases hc with rfl | rfl | rfl | rfl | rfl <;> omega))))
    (ibCons (ibSub (a := (((k + 1 : Nat) : Int))) (b := (1)) (c := ((k : Int))) rfl rfl rfl (by (rcases hc with rfl | rfl | rfl | rfl | rfl <;> omega)) (by (rcases hc with rfl | rfl | rfl | rfl | rfl <;> omega)) (by (rcases hc with rfl | rfl | rfl | rfl | rfl <;> omega)))
    (ibCons (ibLt (a := ((k : Int))) (b := (((k + 1 : Nat) : Int))) rfl rfl (decide_eq_true (by (rcases hc with rfl | rfl | rfl | rfl | rfl <;> omega))))
    (ibCons (ibGe (a := ((k : Int))) (b := (0)) rfl rfl (decide_eq_true (by (rcases hc with rfl | rfl | rfl | rfl | rfl <;> omega))))
    (ibCons (ibSub (a := ((c : Int))) (b := (1)) (c := (((c - 1 : Nat) : Int))) rfl rfl rfl (by (rcases hc with rfl | rfl | rfl | rfl | rfl <;> omega)) (by (rcases hc with rfl | rfl | rfl | rfl | rfl <;> omega)) (by (rcases hc with rfl | rfl | rfl | rfl | rfl <;> omega)))
    (ibCons (ibRem (a := ((k : Int))) (b := (2)) (c := (1)) rfl rfl rfl (by omega) (by rw [Int.tmod_eq_emod_of_nonneg (by omega)]; omega))
    (ibCons (ibRem (a := ((k : Int))) (b := (3)) (c := (2)) rfl rfl rfl (by omega) (by rw [Int.tmod_eq_emod_of_nonneg (by omega)]; omega))
    (ibCons (ibLt (a := (((c - 1 : Nat) : Int))) (b := (0)) rfl rfl (decide_eq_false (by (rcases hc with rfl | rfl | rfl | rfl | rfl <;> omega))))
    (ibCons (ibGe (a := (((c - 1 : Nat) : Int))) (b := ((c : Int))) rfl rfl (decide_eq_false (by (rcases hc with rfl | rfl | rfl | rfl | rfl <;> omega))))
    (ibCons (ibAdd (a := (((k * (c + 1) : Nat) : Int))) (b := (((c - 1 : Nat) : Int))) (c := (((k * (c + 1) + (c - 1) : Nat) : Int))) rfl rfl rfl (by (rcases hc with rfl | rfl | rfl | rfl | rfl <;> omega)) (by (rcases hc with rfl | rfl | rfl | rfl | rfl <;> omega)) (by (rcases hc with rfl | rfl | rfl | rfl | rfl <;> omega)))
    (ibCons (ibGe (a := (((k * (c + 1) + (c - 1) : Nat) : Int))) (b := (0)) rfl rfl (decide_eq_true (by (rcases hc with rfl | rfl | rfl | rfl | rfl <;> omega))))
    (ibCons (ibLt (a := (((k * (c + 1) + (c - 1) : Nat) : Int))) (b := (((k * (c + 1) + c : Nat) : Int))) rfl rfl (decide_eq_true (by (rcases hc with rfl | rfl | rfl | rfl | rfl <;> omega))))
    ibNil))))))))))))))))))))))))

abbrev rPop12 : List BRow := [(14, .oi 4, cI 0, .bool true), (9, .oi 1, cI 0, .bool false), (1, .oi 1, cI 1, .oi 4), (11, .oi 4, .oi 1, .bool true), (1, .oi 12, cI 1, .oi 15), (11, .oi 15, cI 0, .bool false), (14, .oi 15, .oi 12, .bool false), (0, .oi 17, .oi 15, .oi 18), (11, .oi 18, cI 0, .bool false), (11, .oi 18, .oi 3, .bool true), (14, .oi 18, cI 0, .bool true), (1, .oi 3, cI 1, .oi 19), (1, .oi 19, cI 0, .oi 19), (11, .oi 19, .oi 3, .bool true), (14, .oi 19, cI 0, .bool true), (12, .oi 19, .oi 3, .bool true), (10, .oi 4, .oi 4, .bool false), (0, .oi 4, cI 1, .oi 1), (10, .oi 1, .oi 1, .bool false), (2, .oi 4, cI 3, .oi 16), (10, .oi 16, .oi 16, .bool false), (4, .oi 4, cI 2, cI 1), (4, .oi 4, cI 3, cI 2), (0, .oi 12, cI 2, .oi 13), (0, .oi 13, cI 4, .oi 14), (1, .oi 2, .oi 14, .oi 20), (12, .oi 17, .oi 19, .bool true), (14, .oi 17, cI 0, .bool true), (12, .oi 4, .oi 1, .bool true), (1, .oi 4, cI 1, .oi 21)]
theorem rPop12_ok {c k n : Nat} (hc : c = 1 ∨ c = 2 ∨ c = 3 ∨ c = 4 ∨ c = 5) (hk : 1 ≤ k) (hn : k ≤ 200) (h2 : (k - 1) % 2 = 1) (h3 : (k - 1) % 3 = 2) : ∀ r ∈ rPop12, IbOk (ivD c k n) r := by
  letI := Tab.empty
  exact (ibCons (ibGe (a := ((k : Int) - 1)) (b := (0)) rfl rfl (decide_eq_true (by (rcases hc with rfl | rfl | rfl | rfl | rfl <;> omega))))
    (ibCons (ibEq (a := ((k : Int))) (b := (0)) rfl rfl (decide_eq_false (by (rcases hc with rfl | rfl | rfl | rfl | rfl <;> omega))))
    (ibCons (ibSub (a := ((k : Int))) (b := (1)) (c := ((k : Int) - 1)) rfl rfl rfl (by (rcases hc with rfl | rfl | rfl | rfl | rfl <;> omega)) (by (rcases hc with rfl | rfl | rfl | rfl | rfl <;> omega)) (by (rcases hc with rfl | rfl | rfl | rfl | rfl <;> omega)))
    (ibCons (ibLt (a := ((k : Int) - 1)) (b := ((k : Int))) rfl rfl (decide_eq_true (by (rcases hc with rfl | rfl | rfl | rfl | rfl <;> omega))))
    (ibCons (ibSub (a := ((c : Int))) (b := (1)) (c := (((c - 1 : Nat) : Int))) rfl rfl rfl (by (rcases hc with rfl | rfl | rfl | rfl | rfl <;> omega)) (by (rcases hc with rfl | rfl | rfl | rfl | rfl <;> omega)) (by (rcases hc with rfl | rfl | rfl | rfl | rfl <;> omega)))
    (ibCons (ibLt (a := (((c - 1 : Nat) : Int))) (b := (0)) rfl rfl (decide_eq_false (by (rcases hc with rfl | rfl | rfl | rfl | rfl <;> omega))))
    (ibCons (ibGe (a := (((c - 1 : Nat) : Int))) (b := ((c : Int))) rfl rfl (decide_eq_false (by (rcases hc with rfl | rfl | rfl | rfl | rfl <;> omega))))
    (ibCons (ibAdd (a := ((((k - 1) * (c + 1) : Nat) : Int))) (b := (((c - 1 : Nat) : Int))) (c := ((((k - 1) * (c + 1) + (c - 1) : Nat) : Int))) rfl rfl rfl (by (rcases hc with rfl | rfl | rfl | rfl | rfl <;> omega)) (by (rcases hc with rfl | rfl | rfl | rfl | rfl <;> omega)) (by (rcases hc with rfl | rfl | rfl | rfl | rfl <;> omega)))
    (ibCons (ibLt (a := ((((k - 1) * (c + 1) + (c - 1) : Nat) : Int))) (b := (0)) rfl rfl (decide_eq_false (by (rcases hc with rfl | rfl | rfl | rfl | rfl <;> omega))))
    (ibCons (ibLt (a := ((((k - 1) * (c + 1) + (c - 1) : Nat) : Int))) (b := (((k * (c + 1) : Nat) : Int))) rfl rfl (decide_eq_true (by (rcases hc with rfl | rfl | rfl | rfl | rfl <;> omega))))
    (ibCons (ibGe (a := ((((k - 1) * (c + 1) + (c - 1) : Nat) : Int))) (b := (0)) rfl rfl (decide_eq_true (by (rcases hc with rfl | rfl | rfl | rfl | rfl <;> omega))))
    (ibCons (ibSub (a := (((k * (c + 1) : Nat) : Int))) (b := (1)) (c := (((k * (c + 1) - 1 : Nat) : Int))) rfl rfl rfl (by (rcases hc with rfl | rfl | rfl | rfl | rfl <;> omega)) (by (rcases hc with rfl | rfl | rfl | rfl | rfl <;> omega)) (by (rcases hc with rfl | rfl | rfl | rfl | rfl <;> omega)))
    (ibCons (ibSub (a := (((k * (c + 1) - 1 : Nat) : Int))) (b := (0)) (c := (((k * (c + 1) - 1 : Nat) : Int))) rfl rfl rfl (by (rcases hc with rfl | rfl | rfl | rfl | rfl <;> omega)) (by (rcases hc with rfl | rfl | rfl | rfl | rfl <;> omega)) (by (rcases hc with rfl | rfl | rfl | rfl | rfl <;> omega)))
    (ibCons (ibLt (a := (((k * (c + 1) - 1 : Nat) : Int))) (b := (((k * (c + 1) : Nat) : Int))) rfl rfl (decide_eq_true (by (rcases hc with rfl | rfl | rfl | rfl | rfl <;> omega))))
    (ibCons (ibGe (a := (((k * (c + 1) - 1 : Nat) : Int))) (b := (0)) rfl rfl (decide_eq_true (by (rcases hc with rfl | rfl | rfl | rfl | rfl <;> omega))))
    (ibCons (ibLe (a := (((k * (c + 1) - 1 : Nat) : Int))) (b := (((k * (c + 1) : Nat) : Int))) rfl rfl (decide_eq_true (by (rcases hc with rfl | rfl | rfl | rfl | rfl <;> omega))))
    (ibCons (ibNe (a := ((k : Int) - 1)) (b := ((k : Int) - 1)) rfl rfl (decide_eq_true rfl))
    (ibCons (ibAdd (a := ((k : Int) - 1)) (b := (1)) (c := ((k : Int))) rfl rfl rfl (by (rcases hc with rfl | rfl | rfl | rfl | rfl <;> omega)) (by (rcases hc with rfl | rfl | rfl | rfl | rfl <;> omega)) (by (rcases hc with rfl | rfl | rfl | rfl | rfl <;> omega)))
    (ibCons (ibNe (a := ((k : Int))) (b := ((k : Int))) rfl rfl (decide_eq_true rfl))
    (ibCons (ibMul (a := ((k : Int) - 1)) (b := (3)) (c := (3 * ((k : Int) - 1))) rfl rfl rfl (by (rcases hc with rfl | rfl | rfl | rfl | rfl <;> omega)) (by (rcases hc with rfl | rfl | rfl | rfl | rfl <;> omega)) (by (rcases hc with rfl | rfl | rfl | rfl | rfl <;> omega)))
    (ibCons (ibNe (a := (3 * ((k : Int) - 1))) (b := (3 * ((k : Int) - 1))) rfl rfl (decide_eq_true rfl))
    (ibCons (ibRem (a := ((k : Int) - 1)) (b := (2)) (c := (1)) rfl rfl rfl (by omega) (by rw [Int.tmod_eq_emod_of_nonneg (by omega)]; omega))
    (ibCons (ibRem (a := ((k : Int) - 1)) (b := (3)) (c := (2)) rfl rfl rfl (by omega) (by rw [Int.tmod_eq_emod_of_nonneg (by omega)]; omega))
    (ibCons (ibAdd (a := ((c : Int))) (b := (2)) (c := ((c : Int) + 2)) rfl rfl rfl (by (rcases hc with rfl | rfl | rfl | rfl | rfl <;> omega)) (by (rcases hc with rfl | rfl | rfl | rfl | rfl <;> omega)) (by (rcases hc with rfl | rfl | rfl | rfl | rfl <;> omega)))
    (ibCons (ibAdd (a := ((c : Int) + 2)) (b := (4)) (c := ((c : Int) + 6)) rfl rfl rfl (by (rcases hc with rfl | rfl | rfl | rfl | rfl <;> omega)) (by (rcases hc with rfl | rfl | rfl | rfl | rfl <;> omega)) (by (rcases hc with rfl | rfl | rfl | rfl | rfl <;> omega)))
    (ibCons (ibSub (a := (((k * (c + 6) : Nat) : Int))) (b := ((c : Int) + 6)) (c := ((((k - 1) * (c + 6) : Nat) : Int))) rfl rfl rfl (by (rcases hc with rfl | rfl | rfl | rfl | rfl <;> omega)) (by (rcases hc with rfl | rfl | rfl | rfl | rfl <;> omega)) (by (rcases hc with rfl | rfl | rfl | rfl | rfl <;> omega)))
    (ibCons (ibLe (a := ((((k - 1) * (c + 1) : Nat) : Int))) (b := (((k * (c + 1) - 1 : Nat) : Int))) rfl rfl (decide_eq_true (by (rcases hc with rfl | rfl | rfl | rfl | rfl <;> omega))))
    (ibCons (ibGe (a := ((((k - 1) * (c + 1) : Nat) : Int))) (b := (0)) rfl rfl (decide_eq_true (by (rcases hc with rfl | rfl | rfl | rfl | rfl <;> omega))))
    (ibCons (ibLe (a := ((k : Int) - 1)) (b := ((k : Int))) rfl rfl (decide_eq_true (by (rcases hc with rfl | rfl | rfl | rfl | rfl <;> omega))))
    (ibCons (ibSub (a := ((k : Int) - 1)) (b := (1)) (c := ((k : Int) - 1 - 1)) rfl rfl rfl (by (rcases hc with rfl | rfl | rfl | rfl | rfl <;> omega)) (by (rcases hc with rfl | rfl | rfl | rfl | rfl <;> omega)) (by (rcases hc with rfl | rfl | rfl | rfl | rfl <;> omega)))
    ibNil))))))))))))))))))))))))))))))

abbrev rOver : List BRow := [(11, .oi 1, .oi 0, .bool true), (0, .oi 1, cI 1, .oi 5), (11, .oi 1, cI 0, .bool false), (11, .oi 5, cI 0, .bool false), (11, .oi 12, cI 0, .bool false), (13, .oi 12, cI 2048, .bool false), (0, .oi 12, cI 2, .oi 13), (0, .oi 13, cI 4, .oi 14), (1, cI 2048, .oi 2, .oi 11), (13, .oi 14, .oi 11, .bool true), (2, .oi 5, .oi 14, .oi 6), (13, .oi 6, cI 2048, .bool true)]
theorem rOver_ok {c k n : Nat} (hc : c = 1 ∨ c = 2 ∨ c = 3 ∨ c = 4 ∨ c = 5) (hk : k < n) (hn : n ≤ 200) (hw0 : k * (c + 6) ≤ 2048) (hw : ¬ (k + 1) * (c + 6) ≤ 2048) : ∀ r ∈ rOver, IbOk (ivD c k n) r := by
  letI := Tab.empty
  exact (ibCons (ibLt (a := ((k : Int))) (b := ((n : Int))) rfl rfl (decide_eq_true (by (rcases hc with rfl | rfl | rfl | rfl | rfl <;> omega))))
    (ibCons (ibAdd (a := ((k : Int))) (b := (1)) (c := (((k + 1 : Nat) : Int))) rfl rfl rfl (by (rcases hc with rfl | rfl | rfl | rfl | rfl <;> omega)) (by (rcases hc with rfl | rfl | rfl | rfl | rfl <;> omega)) (by (rcases hc with rfl | rfl | rfl | rfl | rfl <;> omega)))
    (ibCons (ibLt (a := ((k : Int))) (b := (0)) rfl rfl (decide_eq_false (by (rcases hc with rfl | rfl | rfl | rfl | rfl <;> omega))))
    (ibCons (ibLt (a := (((k + 1 : Nat) : Int))) (b := (0)) rfl rfl (decide_eq_false (by (rcases hc with rfl | rfl | rfl | rfl | rfl <;> omega))))
    (ibCons (ibLt (a := ((c : Int))) (b := (0)) rfl rfl (decide_eq_false (by (rcases hc with rfl | rfl | rfl | rfl | rfl <;> omega))))
    (ibCons (ibGt (a := ((c : Int))) (b := (2048)) rfl rfl (decide_eq_false (by (rcases hc with rfl | rfl | rfl | rfl | rfl <;> omega))))
    (ibCons (ibAdd (a := ((c : Int))) (b := (2)) (c := ((c : Int) + 2)) rfl rfl rfl (by (rcases hc with rfl | rfl | rfl | rfl | rfl <;> omega)) (by (rcases hc with rfl | rfl | rfl | rfl | rfl <;> omega)) (by (rcases hc with rfl | rfl | rfl | rfl | rfl <;> omega)))
    (ibCons (ibAdd (a := ((c : Int) + 2)) (b := (4)) (c := ((c : Int) + 6)) rfl rfl rfl (by (rcases hc with rfl | rfl | rfl | rfl | rfl <;> omega)) (by (rcases hc with rfl | rfl | rfl | rfl | rfl <;> omega)) (by (rcases hc with rfl | rfl | rfl | rfl | rfl <;> omega)))
    (ibCons (ibSub (a := (2048)) (b := (((k * (c + 6) : Nat) : Int))) (c := (2048 - ((k * (c + 6) : Nat) : Int))) rfl rfl rfl (by (rcases hc with rfl | rfl | rfl | rfl | rfl <;> omega)) (by (rcases hc with rfl | rfl | rfl | rfl | rfl <;> omega)) (by (rcases hc with rfl | rfl | rfl | rfl | rfl <;> omega)))
    (ibCons (ibGt (a := ((c : Int) + 6)) (b := (2048 - ((k * (c + 6) : Nat) : Int))) rfl rfl (decide_eq_true (by (rcases hc with rfl | rfl | rfl | rfl | rfl <;> omega))))
    (ibCons (ibMul (a := (((k + 1 : Nat) : Int))) (b := ((c : Int) + 6)) (c := ((((k + 1) * (c + 6) : Nat) : Int))) rfl rfl rfl (by (rcases hc with rfl | rfl | rfl | rfl | rfl <;> omega)) (by (rcases hc with rfl | rfl | rfl | rfl | rfl <;> omega)) (by (rcases hc with rfl | rfl | rfl | rfl | rfl <;> omega)))
    (ibCons (ibGt (a := ((((k + 1) * (c + 6) : Nat) : Int))) (b := (2048)) rfl rfl (decide_eq_true (by (rcases hc with rfl | rfl | rfl | rfl | rfl <;> omega))))
    ibNil))))))))))))

abbrev rStop : List BRow := [(11, .oi 1, .oi 0, .bool false)]
theorem rStop_ok {c k n : Nat} (hc : c = 1 ∨ c = 2 ∨ c = 3 ∨ c = 4 ∨ c = 5) (hk : ¬ k < n) : ∀ r ∈ rStop, IbOk (ivD c k n) r := by
  letI := Tab.empty
  exact (ibCons (ibLt (a := ((k : Int))) (b := ((n : Int))) rfl rfl (decide_eq_false (by (rcases hc with rfl | rfl | rfl | rfl | rfl <;> omega))))
    ibNil)

abbrev rTurn : List BRow := [(1, .oi 0, cI 1, .oi 4)]
theorem rTurn_ok {c k n : Nat} (hk : k = n) (hn : n ≤ 200) (hc : c = 1 ∨ c = 2 ∨ c = 3 ∨ c = 4 ∨ c = 5) : ∀ r ∈ rTurn, IbOk (ivD c k n) r := by
  letI := Tab.empty
  exact (ibCons (ibSub (a := ((n : Int))) (b := (1)) (c := ((k : Int) - 1)) rfl rfl rfl (by (rcases hc with rfl | rfl | rfl | rfl | rfl <;> omega)) (by (rcases hc with rfl | rfl | rfl | rfl | rfl <;> omega)) (by (rcases hc with rfl | rfl | rfl | rfl | rfl <;> omega)))
    ibNil)

abbrev rDone : List BRow := [(14, .oi 4, cI 0, .bool false)]
theorem rDone_ok {c k n : Nat} (hk : k = 0) (hc : c = 1 ∨ c = 2 ∨ c = 3 ∨ c = 4 ∨ c = 5) : ∀ r ∈ rDone, IbOk (ivD c k n) r := by
  letI := Tab.empty
  exact (ibCons (ibGe (a := ((k : Int) - 1)) (b := (0)) rfl rfl (decide_eq_false (by (rcases hc with rfl | rfl | rfl | rfl | rfl <;> omega))))
    ibNil)

abbrev rTail : List BRow := [(9, .oi 1, cI 0, .bool true), (9, .oi 2, cI 0, .bool true)]
theorem rTail_ok {c k n : Nat} (hk : k = 0) (hc : c = 1 ∨ c = 2 ∨ c = 3 ∨ c = 4 ∨ c = 5) : ∀ r ∈ rTail, IbOk (ivD c k n) r := by
  letI := Tab.empty
  exact (ibCons (ibEq (a := ((k : Int))) (b := (0)) rfl rfl (decide_eq_true (by (rcases hc with rfl | rfl | rfl | rfl | rfl <;> omega))))
    (ibCons (ibEq (a := (((k * (c + 6) : Nat) : Int))) (b := (0)) rfl rfl (decide_eq_true (by (rcases hc with rfl | rfl | rfl | rfl | rfl <;> omega))))
    ibNil))

abbrev rFirst : List BRow := [(11, cI 0, .oi 0, .bool true), (11, .oi 12, cI 0, .bool false), (13, .oi 12, cI 2048, .bool false), (0, .oi 12, cI 2, .oi 13), (0, .oi 13, cI 4, .oi 14), (13, .oi 14, cI 2048, .bool false), (0, cI 0, .oi 14, .oi 14), (1, .oi 12, cI 1, .oi 15), (11, .oi 15, cI 0, .bool false), (14, .oi 15, .oi 12, .bool false), (0, cI 0, .oi 15, .oi 15), (14, .oi 15, cI 0, .bool true), (11, .oi 15, .oi 7, .bool true)]
theorem rFirst_ok {c k n : Nat} (hc : c = 1 ∨ c = 2 ∨ c = 3 ∨ c = 4 ∨ c = 5) (hk : k = 0) (hn : 0 < n) : ∀ r ∈ rFirst, IbOk (ivD c k n) r := by
  letI := Tab.empty
  exact (ibCons (ibLt (a := (0)) (b := ((n : Int))) rfl rfl (decide_eq_true (by (rcases hc with rfl | rfl | rfl | rfl | rfl <;> omega))))
    (ibCons (ibLt (a := ((c : Int))) (b := (0)) rfl rfl (decide_eq_false (by (rcases hc with rfl | rfl | rfl | rfl | rfl <;> omega))))
    (ibCons (ibGt (a := ((c : Int))) (b := (2048)) rfl rfl (decide_eq_false (by (rcases hc with rfl | rfl | rfl | rfl | rfl <;> omega))))
    (ibCons (ibAdd (a := ((c : Int))) (b := (2)) (c := ((c : Int) + 2)) rfl rfl rfl (by (rcases hc with rfl | rfl | rfl | rfl | rfl <;> omega)) (by (rcases hc with rfl | rfl | rfl | rfl | rfl <;> omega)) (by (rcases hc with rfl | rfl | rfl | rfl | rfl <;> omega)))
    (ibCons (ibAdd (a := ((c : Int) + 2)) (b := (4)) (c := ((c : Int) + 6)) rfl rfl rfl (by (rcases hc with rfl | rfl | rfl | rfl | rfl <;> omega)) (by (rcases hc with rfl | rfl | rfl | rfl | rfl <;> omega)) (by (rcases hc with rfl | rfl | rfl | rfl | rfl <;> omega)))
    (ibCons (ibGt (a := ((c : Int) + 6)) (b := (2048)) rfl rfl (decide_eq_false (by (rcases hc with rfl | rfl | rfl | rfl | rfl <;> omega))))
    (ibCons (ibAdd (a := (0)) (b := ((c : Int) + 6)) (c := ((c : Int) + 6)) rfl rfl rfl (by (rcases hc with rfl | rfl | rfl | rfl | rfl <;> omega)) (by (rcases hc with rfl | rfl | rfl | rfl | rfl <;> omega)) (by (rcases hc with rfl | rfl | rfl | rfl | rfl <;> omega)))
    (ibCons (ibSub (a := ((c : Int))) (b := (1)) (c := (((c - 1 : Nat) : Int))) rfl rfl rfl (by (rcases hc with rfl | rfl | rfl | rfl | rfl <;> omega)) (by (rcases hc with rfl | rfl | rfl | rfl | rfl <;> omega)) (by (rcases hc with rfl | rfl | rfl | rfl | rfl <;> omega)))
    (ibCons (ibLt (a := (((c - 1 : Nat) : Int))) (b := (0)) rfl rfl (decide_eq_false (by (rcases hc with rfl | rfl | rfl | rfl | rfl <;> omega))))
    (ibCons (ibGe (a := (((c - 1 : Nat) : Int))) (b := ((c : Int))) rfl rfl (decide_eq_false (by (rcases hc with rfl | rfl | rfl | rfl | rfl <;> omega))))
    (ibCons (ibAdd (a := (0)) (b := (((c - 1 : Nat) : Int))) (c := (((c - 1 : Nat) : Int))) rfl rfl rfl (by (rcases hc with rfl | rfl | rfl | rfl | rfl <;> omega)) (by (rcases hc with rfl | rfl | rfl | rfl | rfl <;> omega)) (by (rcases hc with rfl | rfl | rfl | rfl | rfl <;> omega)))
    (ibCons (ibGe (a := (((c - 1 : Nat) : Int))) (b := (0)) rfl rfl (decide_eq_true (by (rcases hc with rfl | rfl | rfl | rfl | rfl <;> omega))))
    (ibCons (ibLt (a := (((c - 1 : Nat) : Int))) (b := (((k * (c + 1) + c : Nat) : Int))) rfl rfl (decide_eq_true (by (rcases hc with rfl | rfl | rfl | rfl | rfl <;> omega))))
    ibNil)))))))))))))

abbrev rZero : List BRow := [(11, cI 0, .oi 0, .bool false), (1, .oi 0, cI 1, cI (-1))]
theorem rZero_ok {c k n : Nat} (hn : n = 0) (hc : c = 1 ∨ c = 2 ∨ c = 3 ∨ c = 4 ∨ c = 5) : ∀ r ∈ rZero, IbOk (ivD c k n) r := by
  letI := Tab.empty
  exact (ibCons (ibLt (a := (0)) (b := ((n : Int))) rfl rfl (decide_eq_false (by (rcases hc with rfl | rfl | rfl | rfl | rfl <;> omega))))
    (ibCons (ibSub (a := ((n : Int))) (b := (1)) (c := (-1)) rfl rfl rfl (by (rcases hc with rfl | rfl | rfl | rfl | rfl <;> omega)) (by (rcases hc with rfl | rfl | rfl | rfl | rfl <;> omega)) (by (rcases hc with rfl | rfl | rfl | rfl | rfl <;> omega)))
    ibNil))

section
variable {c k n : Nat} {w0 w : World} {a : Act}
theorem oiIs {iv : Nat → IntKind × Int} {i : Nat} {x y : Int} (h : iv i = (.i64, x)) (e : x = y) : denI iv (.oi i) = some (.i64, y) := by rw [← e, ← h]; rfl
theorem ciIs {iv : Nat → IntKind × Int} {x y : Int} (e : x = y) : denI iv (cI x) = some (.i64, y) := by rw [← e]; rfl
theorem ivEq {x y : Int} (e : x = y) : (some (IntKind.i64, x) : Option (IntKind × Int)) = some (IntKind.i64, y) := by rw [e]

/- a frame comes -/
abbrev rFrame : VA := ⟨0, 1, 7, [.oi 1, .oi 5, cI 0, .oi 3, .oi 12, cI 2, cI 0], 1, 5⟩
theorem frame_ok (hk : k < 1000) : VaOk (ivD c k n) (vvD c k) (vkD c k) rFrame := by
  refine vaI (a := k) (b := k + 1) (A' := (k + 1) * 7) (e := eF c) (e' := fun m => if m = k * 7 + 2 then 0 else if m = k * 7 + 6 then 0 else eF c m) rfl rfl rfl rfl rfl (by show (k + 1) * 7 = k * 7 + 7; omega) rfl (by omega)
    (fun m hm => by have hm : m < k * 7 := hm; rw [if_neg (by omega), if_neg (by omega)]) fun q x hx => ?_
  have hq : q < 7 := (List.getElem?_eq_some_iff.1 hx).1
  show denI (ivD c k n) x = some (.i64, if k * 7 + q = k * 7 + 2 then 0 else if k * 7 + q = k * 7 + 6 then 0 else eF c (k * 7 + q))
  obtain rfl | rfl | rfl | rfl | rfl | rfl | rfl : q = 0 ∨ q = 1 ∨ q = 2 ∨ q = 3 ∨ q = 4 ∨ q = 5 ∨ q = 6 := by omega
  · have hx' : some (AV.oi 1) = some x := hx
    cases hx'; rw [if_neg (by omega), if_neg (by omega), eF_at c k 0 (by omega)]; rfl
  · have hx' : some (AV.oi 5) = some x := hx
    cases hx'; rw [if_neg (by omega), if_neg (by omega), eF_at c k 1 (by omega)]; rfl
  · have hx' : some (cI 0) = some x := hx
    cases hx'; rw [if_pos rfl]; rfl
  · have hx' : some (AV.oi 3) = some x := hx
    cases hx'; rw [if_neg (by omega), if_neg (by omega), eF_at c k 3 (by omega)]; rfl
  · have hx' : some (AV.oi 12) = some x := hx
    cases hx'; rw [if_neg (by omega), if_neg (by omega), eF_at c k 4 (by omega)]; rfl
  · have hx' : some (cI 2) = some x := hx
    cases hx'; rw [if_neg (by omega), if_neg (by omega), eF_at c k 5 (by omega)]; rfl
  · have hx' : some (cI 0) = some x := hx
    cases hx'; rw [if_neg (by omega), if_pos rfl]; rfl
theorem slot_ok (hc : CC c) (hk : (k + 1) * (c + 1) < 1000000) : VaOk (ivD c k n) (vvD c k) (vkD c k) ⟨6, 7, 1, [.oi 1], 7, 10⟩ := by
  refine vaI (a := k * (c + 1) + c) (b := (k + 1) * (c + 1)) (A' := (k + 1) * (c + 1)) (e := eS c) (e' := eS c) rfl rfl (by show _ = intV (_ * 1) _; rw [Nat.mul_one]; rfl) rfl rfl
    (by show _ = _ * 1 + 1; rw [Nat.mul_one, Nat.add_mul]; omega) (Nat.mul_one _) hk (fun _ _ => rfl) fun q x hx => ?_
  have hq : q < 1 := (List.getElem?_eq_some_iff.1 hx).1
  obtain rfl : q = 0 := by omega
  have hx' : some (AV.oi 1) = some x := hx
  cases hx'
  refine oiIs rfl ?_
  show (k : Int) = eS c ((k * (c + 1) + c) * 1 + 0)
  rw [Nat.mul_one, Nat.add_zero, eS_at hc k c (Nat.le_refl _), if_pos (by omega)]
theorem mark_ok {b : Bool} (hc : CC c) (hk : (k + 1) * (c + 1) < 1000000) (hb : decide (k % 3 = 0) = b) : VaOk (ivD c k n) (vvD c k) (vkD c k) ⟨10, 7, 1, [.bool b], 11, 10⟩ := by
  refine vaB (a := k * (c + 1) + c) (b := (k + 1) * (c + 1)) (A' := (k + 1) * (c + 1)) (e := eM c) (e' := eM c) rfl rfl (by show _ = boolV (_ * 1) _; rw [Nat.mul_one]; rfl) rfl rfl
    (by show _ = _ * 1 + 1; rw [Nat.mul_one, Nat.add_mul]; omega) (Nat.mul_one _) hk (fun _ _ => rfl) fun q x hx => ?_
  have hq : q < 1 := (List.getElem?_eq_some_iff.1 hx).1
  obtain rfl : q = 0 := by omega
  have hx' : some (AV.bool b) = some x := hx
  cases hx'
  show AV.bool b = .bool (eM c ((k * (c + 1) + c) * 1 + 0))
  rw [Nat.mul_one, Nat.add_zero, eM_at hc k c (Nat.le_refl _), if_neg (by omega), if_pos rfl, hb]
theorem slots_ok (hk : k * (c + 1) + c < 1000000) : VzOk (ivD c k n) (vvD c k) (vkD c k) ⟨4, 3, 1, 12, [cI 0], 5, 7⟩ :=
  vzI (a := k * (c + 1)) (b := k * (c + 1) + c) (c := c) (e := eS c) (e' := fun m => if m < k * (c + 1) then eS c m else 0) rfl rfl rfl rfl rfl rfl rfl rfl rfl hk (fun m hm => if_pos hm) (fun m hm _ => if_neg (by omega))
theorem marks_ok (hk : k * (c + 1) + c < 1000000) : VzOk (ivD c k n) (vvD c k) (vkD c k) ⟨8, 3, 1, 12, [.bool false], 9, 7⟩ :=
  vzB (a := k * (c + 1)) (b := k * (c + 1) + c) (c := c) (e := eM c) (e' := fun m => if m < k * (c + 1) then eM c m else false) rfl rfl rfl rfl rfl rfl rfl rfl rfl hk (fun m hm => if_pos hm) (fun m hm _ => if_neg (by omega))
theorem top4 : VlOk (ivD c k n) (vvD c k) ⟨2, 1, 7, 4, [.oi 12]⟩ :=
  vlI (k := k) (A := (k + 1) * 7) (e := fun m => if m = k * 7 + 6 then 0 else eF c m) rfl rfl rfl (by show k * 7 + 4 < _; omega) (oiIs rfl (by show (c : Int) = if k * 7 + 4 = k * 7 + 6 then 0 else eF c (k * 7 + 4); rw [if_neg (by omega), eF_at c k 4 (by omega)]; rfl))
theorem top3 : VlOk (ivD c k n) (vvD c k) ⟨2, 1, 7, 3, [.oi 3]⟩ :=
  vlI (k := k) (A := (k + 1) * 7) (e := fun m => if m = k * 7 + 6 then 0 else eF c m) rfl rfl rfl (by show k * 7 + 3 < _; omega) (oiIs rfl (by show ((k * (c + 1) : Nat) : Int) = if k * 7 + 3 = k * 7 + 6 then 0 else eF c (k * 7 + 3); rw [if_neg (by omega), eF_at c k 3 (by omega)]; rfl))
theorem top6 : VlOk (ivD c k n) (vvD c k) ⟨2, 1, 7, 6, [cI 0]⟩ :=
  vlI (k := k) (A := (k + 1) * 7) (e := fun m => if m = k * 7 + 6 then 0 else eF c m) rfl rfl rfl (by show k * 7 + 6 < _; omega) (ciIs (by show (0 : Int) = if k * 7 + 6 = k * 7 + 6 then 0 else eF c (k * 7 + 6); rw [if_pos rfl]))
theorem top5 : VlOk (ivD c k n) (vvD c k) ⟨2, 1, 7, 5, [cI 2]⟩ :=
  vlI (k := k) (A := (k + 1) * 7) (e := fun m => if m = k * 7 + 6 then 0 else eF c m) rfl rfl rfl (by show k * 7 + 5 < _; omega) (ciIs (by show (2 : Int) = if k * 7 + 5 = k * 7 + 6 then 0 else eF c (k * 7 + 5); rw [if_neg (by omega), eF_at c k 5 (by omega)]; rfl))
theorem at_ok : VsOk (ivD c k n) (vvD c k) (vkD c k) ⟨1, 1, 7, 2, [.oi 8], 2⟩ :=
  vsI (k := k) (A := (k + 1) * 7) (e := fun m => if m = k * 7 + 2 then 0 else if m = k * 7 + 6 then 0 else eF c m) (e' := fun m => if m = k * 7 + 6 then 0 else eF c m) rfl rfl rfl rfl rfl rfl (by show k * 7 + 2 < _; omega)
    (oiIs rfl (by show 3 * (k : Int) = if k * 7 + 2 = k * 7 + 6 then 0 else eF c (k * 7 + 2); rw [if_neg (by omega), eF_at c k 2 (by omega)]; rfl)) (fun m _ hm => by have hm : m ≠ k * 7 + 2 := hm; show _ = if _ then _ else _; rw [if_neg hm])
theorem slotAt_ok (hc : CC c) : VsOk (ivD c k n) (vvD c k) (vkD c k) ⟨5, 9, 1, 0, [.oi 1], 6⟩ :=
  vsI (k := k * (c + 1) + (c - 1)) (A := k * (c + 1) + c) (e := fun m => if m < k * (c + 1) then eS c m else 0) (e' := eS c) rfl rfl rfl rfl rfl rfl (by show (k * (c + 1) + (c - 1)) * 1 + 0 < _; rcases hc with rfl | rfl | rfl | rfl | rfl <;> omega)
    (oiIs rfl (by show (k : Int) = eS c ((k * (c + 1) + (c - 1)) * 1 + 0); rw [Nat.mul_one, Nat.add_zero, eS_at hc k (c - 1) (by omega), if_pos (by rcases hc with rfl | rfl | rfl | rfl | rfl <;> omega)]))
    (fun m hA hm => by
      have hm : m ≠ (k * (c + 1) + (c - 1)) * 1 + 0 := hm
      show eS c m = if m < k * (c + 1) then eS c m else 0
      by_cases h : m < k * (c + 1)
      · rw [if_pos h]
      · rw [if_neg h]
        have e : m = k * (c + 1) + (m - k * (c + 1)) := by omega
        have hlt : c ≤ m - k * (c + 1) + 1 → False := by intro h1; apply hm; rcases hc with rfl | rfl | rfl | rfl | rfl <;> omega
        rw [e, eS_at hc k _ (by omega), if_neg hlt])
theorem markAt_ok {b : Bool} (hc : CC c) (hb : decide (k % 2 = 0) = b) : VsOk (ivD c k n) (vvD c k) (vkD c k) ⟨9, 9, 1, 0, [.bool b], 10⟩ :=
  vsB (k := k * (c + 1) + (c - 1)) (A := k * (c + 1) + c) (e := fun m => if m < k * (c + 1) then eM c m else false) (e' := eM c) rfl rfl rfl rfl rfl rfl (by show (k * (c + 1) + (c - 1)) * 1 + 0 < _; rcases hc with rfl | rfl | rfl | rfl | rfl <;> omega)
    (by show eM c ((k * (c + 1) + (c - 1)) * 1 + 0) = b; rw [Nat.mul_one, Nat.add_zero, eM_at hc k (c - 1) (by omega), if_pos (by rcases hc with rfl | rfl | rfl | rfl | rfl <;> omega), hb])
    (fun m hA hm => by
      have hm : m ≠ (k * (c + 1) + (c - 1)) * 1 + 0 := hm
      show eM c m = if m < k * (c + 1) then eM c m else false
      by_cases h : m < k * (c + 1)
      · rw [if_pos h]
      · rw [if_neg h]
        have e : m = k * (c + 1) + (m - k * (c + 1)) := by omega
        rw [e, eM_at hc k _ (by omega), if_neg (by intro h1; apply hm; rcases hc with rfl | rfl | rfl | rfl | rfl <;> omega), if_neg (by omega)])
theorem high_ok : VsOk (ivD c k n) (vvD c k) (vkD c k) ⟨2, 1, 7, 6, [cI 1], 3⟩ :=
  vsI (k := k) (A := (k + 1) * 7) (e := fun m => if m = k * 7 + 6 then 0 else eF c m) (e' := eF c) rfl rfl rfl rfl rfl rfl (by show k * 7 + 6 < _; omega)
    (ciIs (by show (1 : Int) = eF c (k * 7 + 6); rw [eF_at c k 6 (by omega)]; rfl)) (fun m _ hm => by have hm : m ≠ k * 7 + 6 := hm; show _ = if _ then _ else _; rw [if_neg hm])

/- a frame goes -/
theorem iv4 (hk : 1 ≤ k) : ivD c k n 4 = (.i64, ((k - 1 : Nat) : Int)) := by
  show (IntKind.i64, (k : Int) - 1) = _
  congr 1
  omega
theorem was0 (hk : 1 ≤ k) : VlOk (ivD c k n) (vvD c k) ⟨0, 4, 7, 0, [.oi 4]⟩ :=
  vlI (k := k - 1) (A := k * 7) (e := eF c) (iv4 hk) rfl rfl (by show (k - 1) * 7 + 0 < _; omega) (oiIs rfl (by show (k : Int) - 1 = eF c ((k - 1) * 7 + 0); rw [eF_at c (k - 1) 0 (by omega)]; show _ = ((k - 1 : Nat) : Int); omega))
theorem was1 (hk : 1 ≤ k) : VlOk (ivD c k n) (vvD c k) ⟨0, 4, 7, 1, [.oi 1]⟩ :=
  vlI (k := k - 1) (A := k * 7) (e := eF c) (iv4 hk) rfl rfl (by show (k - 1) * 7 + 1 < _; omega) (oiIs rfl (by show (k : Int) = eF c ((k - 1) * 7 + 1); rw [eF_at c (k - 1) 1 (by omega)]; show _ = ((k - 1 + 1 : Nat) : Int); omega))
theorem was2 (hk : 1 ≤ k) : VlOk (ivD c k n) (vvD c k) ⟨0, 4, 7, 2, [.oi 16]⟩ :=
  vlI (k := k - 1) (A := k * 7) (e := eF c) (iv4 hk) rfl rfl (by show (k - 1) * 7 + 2 < _; omega) (oiIs rfl (by show 3 * ((k : Int) - 1) = eF c ((k - 1) * 7 + 2); rw [eF_at c (k - 1) 2 (by omega)]; show _ = 3 * ((k - 1 : Nat) : Int); omega))
theorem was3 (hk : 1 ≤ k) : VlOk (ivD c k n) (vvD c k) ⟨0, 4, 7, 3, [.oi 17]⟩ :=
  vlI (k := k - 1) (A := k * 7) (e := eF c) (iv4 hk) rfl rfl (by show (k - 1) * 7 + 3 < _; omega) (oiIs rfl (by show (((k - 1) * (c + 1) : Nat) : Int) = eF c ((k - 1) * 7 + 3); rw [eF_at c (k - 1) 3 (by omega)]; rfl))
theorem was4 (hk : 1 ≤ k) : VlOk (ivD c k n) (vvD c k) ⟨0, 4, 7, 4, [.oi 12]⟩ :=
  vlI (k := k - 1) (A := k * 7) (e := eF c) (iv4 hk) rfl rfl (by show (k - 1) * 7 + 4 < _; omega) (oiIs rfl (by show (c : Int) = eF c ((k - 1) * 7 + 4); rw [eF_at c (k - 1) 4 (by omega)]; rfl))
theorem was6 (hk : 1 ≤ k) : VlOk (ivD c k n) (vvD c k) ⟨0, 4, 7, 6, [cI 1]⟩ :=
  vlI (k := k - 1) (A := k * 7) (e := eF c) (iv4 hk) rfl rfl (by show (k - 1) * 7 + 6 < _; omega) (ciIs (by show (1 : Int) = eF c ((k - 1) * 7 + 6); rw [eF_at c (k - 1) 6 (by omega)]; rfl))
abbrev eLow (c k m : Nat) : Int := if m = (k - 1) * 7 + 6 then 0 else eF c m
theorem low3 (hk : 1 ≤ k) : VlOk (ivD c k n) (vvD c k) ⟨12, 4, 7, 3, [.oi 17]⟩ :=
  vlI (k := k - 1) (A := k * 7) (e := eLow c k) (iv4 hk) rfl rfl (by show (k - 1) * 7 + 3 < _; omega) (oiIs rfl (by show (((k - 1) * (c + 1) : Nat) : Int) = if (k - 1) * 7 + 3 = (k - 1) * 7 + 6 then 0 else eF c ((k - 1) * 7 + 3); rw [if_neg (by omega), eF_at c (k - 1) 3 (by omega)]; rfl))
theorem low4 (hk : 1 ≤ k) : VlOk (ivD c k n) (vvD c k) ⟨12, 4, 7, 4, [.oi 12]⟩ :=
  vlI (k := k - 1) (A := k * 7) (e := eLow c k) (iv4 hk) rfl rfl (by show (k - 1) * 7 + 4 < _; omega) (oiIs rfl (by show (c : Int) = if (k - 1) * 7 + 4 = (k - 1) * 7 + 6 then 0 else eF c ((k - 1) * 7 + 4); rw [if_neg (by omega), eF_at c (k - 1) 4 (by omega)]; rfl))
theorem low5 (hk : 1 ≤ k) : VlOk (ivD c k n) (vvD c k) ⟨12, 4, 7, 5, [cI 2]⟩ :=
  vlI (k := k - 1) (A := k * 7) (e := eLow c k) (iv4 hk) rfl rfl (by show (k - 1) * 7 + 5 < _; omega) (ciIs (by show (2 : Int) = if (k - 1) * 7 + 5 = (k - 1) * 7 + 6 then 0 else eF c ((k - 1) * 7 + 5); rw [if_neg (by omega), eF_at c (k - 1) 5 (by omega)]; rfl))
theorem lower_ok (hk : 1 ≤ k) : VsOk (ivD c k n) (vvD c k) (vkD c k) ⟨0, 4, 7, 6, [cI 0], 12⟩ :=
  vsI (k := k - 1) (A := k * 7) (e := eF c) (e' := eLow c k) (iv4 hk) rfl rfl rfl rfl rfl (by show (k - 1) * 7 + 6 < _; omega)
    (ciIs (by show (0 : Int) = if (k - 1) * 7 + 6 = (k - 1) * 7 + 6 then 0 else _; rw [if_pos rfl])) (fun m _ hm => if_neg hm)
theorem lower_sub (hk : 1 ≤ k) : ∀ m a, vvD c (k - 1) 0 m = some a → vvD c k 12 m = some a ∧ ((∃ n, a = .int .i64 n) ∨ ∃ b, a = .bool b) := fun m a h => by
  obtain ⟨hm, rfl⟩ := intV_some (show intV ((k - 1) * 7) (eF c) m = some a from h)
  refine ⟨?_, .inl ⟨_, rfl⟩⟩
  show intV (k * 7) (eLow c k) m = _
  rw [intV_lt (by omega)]
  show some (AV.int .i64 (if m = (k - 1) * 7 + 6 then 0 else eF c m)) = _
  rw [if_neg (by omega)]
theorem loc_ok (hc : CC c) (hk : 1 ≤ k) : VlOk (ivD c k n) (vvD c k) ⟨4, 18, 1, 0, [.oi 4]⟩ :=
  vlI (k := (k - 1) * (c + 1) + (c - 1)) (A := k * (c + 1)) (e := eS c) rfl rfl rfl (by show ((k - 1) * (c + 1) + (c - 1)) * 1 + 0 < _; rcases hc with rfl | rfl | rfl | rfl | rfl <;> omega)
    (oiIs rfl (by show (k : Int) - 1 = eS c (((k - 1) * (c + 1) + (c - 1)) * 1 + 0); rw [Nat.mul_one, Nat.add_zero, eS_at hc (k - 1) (c - 1) (by omega), if_pos (by rcases hc with rfl | rfl | rfl | rfl | rfl <;> omega)]; omega))
theorem locM_ok {b : Bool} (hc : CC c) (hk : 1 ≤ k) (hb : decide ((k - 1) % 2 = 0) = b) : VlOk (ivD c k n) (vvD c k) ⟨8, 18, 1, 0, [.bool b]⟩ :=
  vlB (k := (k - 1) * (c + 1) + (c - 1)) (A := k * (c + 1)) (e := eM c) rfl rfl rfl (by show ((k - 1) * (c + 1) + (c - 1)) * 1 + 0 < _; rcases hc with rfl | rfl | rfl | rfl | rfl <;> omega)
    (by show eM c (((k - 1) * (c + 1) + (c - 1)) * 1 + 0) = b; rw [Nat.mul_one, Nat.add_zero, eM_at hc (k - 1) (c - 1) (by omega), if_pos (by rcases hc with rfl | rfl | rfl | rfl | rfl <;> omega), hb])
theorem last_eq (hk : 1 ≤ k) : k * (c + 1) - 1 = (k - 1) * (c + 1) + c := by
  obtain ⟨j, rfl⟩ : ∃ j, k = j + 1 := ⟨k - 1, by omega⟩
  rw [Nat.add_mul]
  show _ = j * (c + 1) + c
  omega
theorem opd_ok (hc : CC c) (hk : 1 ≤ k) : VlOk (ivD c k n) (vvD c k) ⟨4, 19, 1, 0, [.oi 4]⟩ :=
  vlI (k := k * (c + 1) - 1) (A := k * (c + 1)) (e := eS c) rfl rfl rfl (by show (k * (c + 1) - 1) * 1 + 0 < _; rcases hc with rfl | rfl | rfl | rfl | rfl <;> omega)
    (oiIs rfl (by show (k : Int) - 1 = eS c ((k * (c + 1) - 1) * 1 + 0); rw [Nat.mul_one, Nat.add_zero, last_eq hk, eS_at hc (k - 1) c (Nat.le_refl _), if_pos (by omega)]; omega))
theorem opdM_ok {b : Bool} (hc : CC c) (hk : 1 ≤ k) (hb : decide ((k - 1) % 3 = 0) = b) : VlOk (ivD c k n) (vvD c k) ⟨8, 19, 1, 0, [.bool b]⟩ :=
  vlB (k := k * (c + 1) - 1) (A := k * (c + 1)) (e := eM c) rfl rfl rfl (by show (k * (c + 1) - 1) * 1 + 0 < _; rcases hc with rfl | rfl | rfl | rfl | rfl <;> omega)
    (by show eM c ((k * (c + 1) - 1) * 1 + 0) = b; rw [Nat.mul_one, Nat.add_zero, last_eq hk, eM_at hc (k - 1) c (Nat.le_refl _), if_neg (by omega), if_pos rfl, hb])

/- states: s is the name 0; slots 1, marks 2, frames 3 -/
noncomputable abbrev fsA : List (Nat × AV) := [(0, .oi 0), (1, .oi 12), (4, .bool false), (5, .bool true), (6, .ptr 0 0), (7, .oi 1)]
noncomputable abbrev fsB : List (Nat × AV) := [(0, .oi 0), (1, .oi 12), (4, .bool false), (5, .bool true), (6, .ptr 0 0), (8, .oi 4)]
noncomputable abbrev bsD (b c d : Nat) : BS := [(0, 0, rowOf [.ov 1 3 1, .ov 2 3 1, .ov 3 1 7, .oi 2] false), (1, b, .vec 4), (2, c, .vec 8), (3, d, .vec 0)]
abbrev plainD (c k n : Nat) : Tab := (bare (ivD c k n) (vvD c k) (vkD c k) (vvp c k)).tab
/-- k frames, going up -/
def SA (c k n : Nat) (w0 : World) (a : Act) (w : World) : Prop := St (plainD c k n) (Kp.below w0.heap.size) w0 (fun _ => none) 159 (frOf fsA) (hOf 4 (bsD 1 2 3)) a w
/-- k frames, going down -/
def SB (c k n : Nat) (w0 : World) (a : Act) (w : World) : Prop := St (plainD c k n) (Kp.below w0.heap.size) w0 (fun _ => none) 159 (frOf fsB) (hOf 4 (bsD 1 2 3)) a w
abbrev rlPush : List (Nat × Nat) := [(0, 0), (1, 10), (2, 11), (3, 5)]
noncomputable abbrev cvPush : Cv := ⟨0, 4, ofPairs rlPush, [(.oi 0, 0), (.oi 5, 1), (.oi 6, 2), (.oi 10, 3), (.oi 12, 12)]⟩
noncomputable abbrev vpPush : VP := [(10, .vec 7, 4), (11, .vec 11, 8), (5, .vec 3, 0)]
abbrev rlPop : List (Nat × Nat) := [(0, 0), (1, 1), (2, 2), (3, 3)]
noncomputable abbrev cvPop : Cv := ⟨0, 4, ofPairs rlPop, [(.oi 0, 0), (.oi 4, 1), (.oi 20, 2), (.oi 17, 3), (.oi 21, 4), (.oi 12, 12)]⟩
noncomputable abbrev vpPop : VP := [(1, .vec 4, 4), (2, .vec 8, 8), (3, .vec 12, 0)]


abbrev RPush00 (hc : CC c) (hk : k < n) (hn : n ≤ 200) (hw : (k + 1) * (c + 6) ≤ 2048) (h2 : k % 2 = 0) (h3 : k % 3 = 0) : VRows (ivD c k n) (vvD c k) (vkD c k) where
  vvp := vvp c k
  ib := rPush00
  ibok := rPush00_ok hc hk hn hw h2 h3
  va := [rFrame, ⟨6, 7, 1, [.oi 1], 7, 10⟩, ⟨10, 7, 1, [.bool true], 11, 10⟩]
  vaok := allCons (frame_ok (by omega)) (allCons (slot_ok hc (by rcases hc with rfl | rfl | rfl | rfl | rfl <;> omega)) (allCons (mark_ok hc (by rcases hc with rfl | rfl | rfl | rfl | rfl <;> omega) (by simp [h3])) allNil))
  vz := [⟨4, 3, 1, 12, [cI 0], 5, 7⟩, ⟨8, 3, 1, 12, [.bool false], 9, 7⟩]
  vzok := allCons (slots_ok (by rcases hc with rfl | rfl | rfl | rfl | rfl <;> omega)) (allCons (marks_ok (by rcases hc with rfl | rfl | rfl | rfl | rfl <;> omega)) allNil)
  vl := [⟨2, 1, 7, 4, [.oi 12]⟩, ⟨2, 1, 7, 3, [.oi 3]⟩, ⟨2, 1, 7, 6, [cI 0]⟩, ⟨2, 1, 7, 5, [cI 2]⟩]
  vlok := allCons top4 (allCons top3 (allCons top6 (allCons top5 allNil)))
  vs := [⟨1, 1, 7, 2, [.oi 8], 2⟩, ⟨5, 9, 1, 0, [.oi 1], 6⟩, ⟨9, 9, 1, 0, [.bool true], 10⟩, ⟨2, 1, 7, 6, [cI 1], 3⟩]
  vsok := allCons at_ok (allCons (slotAt_ok hc) (allCons (markAt_ok hc (by simp [h2])) (allCons high_ok allNil)))
theorem push00 (hc : CC c) (hk : k < n) (hn : n ≤ 200) (hw : (k + 1) * (c + 6) ≤ 2048) (h2 : k % 2 = 0) (h3 : k % 3 = 0) (s : SA c k n w0 a w) : up.wp Try.prog (fun e a' w' => e = .normal ∧ SA c (k + 1) n w0 a' w') a w :=
  runTo_sound (T := (RPush00 hc hk hn hw h2 h3).tab) (T' := plainD c (k + 1) n) (K := Hand.none) (n := 300) mixed (@HandOk.none (RPush00 hc hk hn hw h2 h3).tab Try.prog) (C := cvPush) (rl := rlPush) (ex := .normal) (vp := vpPush) (fs := fsA) (bs := bsD 10 11 5)
    (Base.none _) (Nat.zero_le _) rfl (by kernel_rfl) (ipCons rfl (ipCons rfl (ipCons rfl (ipCons rfl (ipCons rfl ipNil)))))
    (vpCons (vecSub (intV_sub (Nat.le_refl _)) (Nat.le_refl _)) (vpCons (vecSub (boolV_sub (Nat.le_refl _)) (Nat.le_refl _)) (vpCons (vecSub (intV_sub (Nat.le_refl _)) (Nat.le_refl _)) vpNil))) (glNone rfl) (by kernel_rfl) (St.same (VRows.same _ _) s)

abbrev RPush01 (hc : CC c) (hk : k < n) (hn : n ≤ 200) (hw : (k + 1) * (c + 6) ≤ 2048) (h2 : k % 2 = 0) (h3 : k % 3 = 1) : VRows (ivD c k n) (vvD c k) (vkD c k) where
  vvp := vvp c k
  ib := rPush01
  ibok := rPush01_ok hc hk hn hw h2 h3
  va := [rFrame, ⟨6, 7, 1, [.oi 1], 7, 10⟩, ⟨10, 7, 1, [.bool false], 11, 10⟩]
  vaok := allCons (frame_ok (by omega)) (allCons (slot_ok hc (by rcases hc with rfl | rfl | rfl | rfl | rfl <;> omega)) (allCons (mark_ok hc (by rcases hc with rfl | rfl | rfl | rfl | rfl <;> omega) (by simp [h3])) allNil))
  vz := [⟨4, 3, 1, 12, [cI 0], 5, 7⟩, ⟨8, 3, 1, 12, [.bool false], 9, 7⟩]
  vzok := allCons (slots_ok (by rcases hc with rfl | rfl | rfl | rfl | rfl <;> omega)) (allCons (marks_ok (by rcases hc with rfl | rfl | rfl | rfl | rfl <;> omega)) allNil)
  vl := [⟨2, 1, 7, 4, [.oi 12]⟩, ⟨2, 1, 7, 3, [.oi 3]⟩, ⟨2, 1, 7, 6, [cI 0]⟩, ⟨2, 1, 7, 5, [cI 2]⟩]
  vlok := allCons top4 (allCons top3 (allCons top6 (allCons top5 allNil)))
  vs := [⟨1, 1, 7, 2, [.oi 8], 2⟩, ⟨5, 9, 1, 0, [.oi 1], 6⟩, ⟨9, 9, 1, 0, [.bool true], 10⟩, ⟨2, 1, 7, 6, [cI 1], 3⟩]
  vsok := allCons at_ok (allCons (slotAt_ok hc) (allCons (markAt_ok hc (by simp [h2])) (allCons high_ok allNil)))
theorem push01 (hc : CC c) (hk : k < n) (hn : n ≤ 200) (hw : (k + 1) * (c + 6) ≤ 2048) (h2 : k % 2 = 0) (h3 : k % 3 = 1) (s : SA c k n w0 a w) : up.wp Try.prog (fun e a' w' => e = .normal ∧ SA c (k + 1) n w0 a' w') a w :=
  runTo_sound (T := (RPush01 hc hk hn hw h2 h3).tab) (T' := plainD c (k + 1) n) (K := Hand.none) (n := 300) mixed (@HandOk.none (RPush01 hc hk hn hw h2 h3).tab Try.prog) (C := cvPush) (rl := rlPush) (ex := .normal) (vp := vpPush) (fs := fsA) (bs := bsD 10 11 5)
    (Base.none _) (Nat.zero_le _) rfl (by kernel_rfl) (ipCons rfl (ipCons rfl (ipCons rfl (ipCons rfl (ipCons rfl ipNil)))))
    (vpCons (vecSub (intV_sub (Nat.le_refl _)) (Nat.le_refl _)) (vpCons (vecSub (boolV_sub (Nat.le_refl _)) (Nat.le_refl _)) (vpCons (vecSub (intV_sub (Nat.le_refl _)) (Nat.le_refl _)) vpNil))) (glNone rfl) (by kernel_rfl) (St.same (VRows.same _ _) s)

abbrev RPush02 (hc : CC c) (hk : k < n) (hn : n ≤ 200) (hw : (k + 1) * (c + 6) ≤ 2048) (h2 : k % 2 = 0) (h3 : k % 3 = 2) : VRows (ivD c k n) (vvD c k) (vkD c k) where
  vvp := vvp c k
  ib := rPush02
  ibok := rPush02_ok hc hk hn hw h2 h3
  va := [rFrame, ⟨6, 7, 1, [.oi 1], 7, 10⟩, ⟨10, 7, 1, [.bool false], 11, 10⟩]
  vaok := allCons (frame_ok (by omega)) (allCons (slot_ok hc (by rcases hc with rfl | rfl | rfl | rfl | rfl <;> omega)) (allCons (mark_ok hc (by rcases hc with rfl | rfl | rfl | rfl | rfl <;> omega) (by simp [h3])) allNil))
  vz := [⟨4, 3, 1, 12, [cI 0], 5, 7⟩, ⟨8, 3, 1, 12, [.bool false], 9, 7⟩]
  vzok := allCons (slots_ok (by rcases hc with rfl | rfl | rfl | rfl | rfl <;> omega)) (allCons (marks_ok (by rcases hc with rfl | rfl | rfl | rfl | rfl <;> omega)) allNil)
  vl := [⟨2, 1, 7, 4, [.oi 12]⟩, ⟨2, 1, 7, 3, [.oi 3]⟩, ⟨2, 1, 7, 6, [cI 0]⟩, ⟨2, 1, 7, 5, [cI 2]⟩]
  vlok := allCons top4 (allCons top3 (allCons top6 (allCons top5 allNil)))
  vs := [⟨1, 1, 7, 2, [.oi 8], 2⟩, ⟨5, 9, 1, 0, [.oi 1], 6⟩, ⟨9, 9, 1, 0, [.bool true], 10⟩, ⟨2, 1, 7, 6, [cI 1], 3⟩]
  vsok := allCons at_ok (allCons (slotAt_ok hc) (allCons (markAt_ok hc (by simp [h2])) (allCons high_ok allNil)))
theorem push02 (hc : CC c) (hk : k < n) (hn : n ≤ 200) (hw : (k + 1) * (c + 6) ≤ 2048) (h2 : k % 2 = 0) (h3 : k % 3 = 2) (s : SA c k n w0 a w) : up.wp Try.prog (fun e a' w' => e = .normal ∧ SA c (k + 1) n w0 a' w') a w :=
  runTo_sound (T := (RPush02 hc hk hn hw h2 h3).tab) (T' := plainD c (k + 1) n) (K := Hand.none) (n := 300) mixed (@HandOk.none (RPush02 hc hk hn hw h2 h3).tab Try.prog) (C := cvPush) (rl := rlPush) (ex := .normal) (vp := vpPush) (fs := fsA) (bs := bsD 10 11 5)
    (Base.none _) (Nat.zero_le _) rfl (by kernel_rfl) (ipCons rfl (ipCons rfl (ipCons rfl (ipCons rfl (ipCons rfl ipNil)))))
    (vpCons (vecSub (intV_sub (Nat.le_refl _)) (Nat.le_refl _)) (vpCons (vecSub (boolV_sub (Nat.le_refl _)) (Nat.le_refl _)) (vpCons (vecSub (intV_sub (Nat.le_refl _)) (Nat.le_refl _)) vpNil))) (glNone rfl) (by kernel_rfl) (St.same (VRows.same _ _) s)

abbrev RPush10 (hc : CC c) (hk : k < n) (hn : n ≤ 200) (hw : (k + 1) * (c + 6) ≤ 2048) (h2 : k % 2 = 1) (h3 : k % 3 = 0) : VRows (ivD c k n) (vvD c k) (vkD c k) where
  vvp := vvp c k
  ib := rPush10
  ibok := rPush10_ok hc hk hn hw h2 h3
  va := [rFrame, ⟨6, 7, 1, [.oi 1], 7, 10⟩, ⟨10, 7, 1, [.bool true], 11, 10⟩]
  vaok := allCons (frame_ok (by omega)) (allCons (slot_ok hc (by rcases hc with rfl | rfl | rfl | rfl | rfl <;> omega)) (allCons (mark_ok hc (by rcases hc with rfl | rfl | rfl | rfl | rfl <;> omega) (by simp [h3])) allNil))
  vz := [⟨4, 3, 1, 12, [cI 0], 5, 7⟩, ⟨8, 3, 1, 12, [.bool false], 9, 7⟩]
  vzok := allCons (slots_ok (by rcases hc with rfl | rfl | rfl | rfl | rfl <;> omega)) (allCons (marks_ok (by rcases hc with rfl | rfl | rfl | rfl | rfl <;> omega)) allNil)
  vl := [⟨2, 1, 7, 4, [.oi 12]⟩, ⟨2, 1, 7, 3, [.oi 3]⟩, ⟨2, 1, 7, 6, [cI 0]⟩, ⟨2, 1, 7, 5, [cI 2]⟩]
  vlok := allCons top4 (allCons top3 (allCons top6 (allCons top5 allNil)))
  vs := [⟨1, 1, 7, 2, [.oi 8], 2⟩, ⟨5, 9, 1, 0, [.oi 1], 6⟩, ⟨9, 9, 1, 0, [.bool false], 10⟩, ⟨2, 1, 7, 6, [cI 1], 3⟩]
  vsok := allCons at_ok (allCons (slotAt_ok hc) (allCons (markAt_ok hc (by simp [h2])) (allCons high_ok allNil)))
theorem push10 (hc : CC c) (hk : k < n) (hn : n ≤ 200) (hw : (k + 1) * (c + 6) ≤ 2048) (h2 : k % 2 = 1) (h3 : k % 3 = 0) (s : SA c k n w0 a w) : up.wp Try.prog (fun e a' w' => e = .normal ∧ SA c (k + 1) n w0 a' w') a w :=
  runTo_sound (T := (RPush10 hc hk hn hw h2 h3).tab) (T' := plainD c (k + 1) n) (K := Hand.none) (n := 300) mixed (@HandOk.none (RPush10 hc hk hn hw h2 h3).tab Try.prog) (C := cvPush) (rl := rlPush) (ex := .normal) (vp := vpPush) (fs := fsA) (bs := bsD 10 11 5)
    (Base.none _) (Nat.zero_le _) rfl (by kernel_rfl) (ipCons rfl (ipCons rfl (ipCons rfl (ipCons rfl (ipCons rfl ipNil)))))
    (vpCons (vecSub (intV_sub (Nat.le_refl _)) (Nat.le_refl _)) (vpCons (vecSub (boolV_sub (Nat.le_refl _)) (Nat.le_refl _)) (vpCons (vecSub (intV_sub (Nat.le_refl _)) (Nat.le_refl _)) vpNil))) (glNone rfl) (by kernel_rfl) (St.same (VRows.same _ _) s)

abbrev RPush11 (hc : CC c) (hk : k < n) (hn : n ≤ 200) (hw : (k + 1) * (c + 6) ≤ 2048) (h2 : k % 2 = 1) (h3 : k % 3 = 1) : VRows (ivD c k n) (vvD c k) (vkD c k) where
  vvp := vvp c k
  ib := rPush11
  ibok := rPush11_ok hc hk hn hw h2 h3
  va := [rFrame, ⟨6, 7, 1, [.oi 1], 7, 10⟩, ⟨10, 7, 1, [.bool false], 11, 10⟩]
  vaok := allCons (frame_ok (by omega)) (allCons (slot_ok hc (by rcases hc with rfl | rfl | rfl | rfl | rfl <;> omega)) (allCons (mark_ok hc (by rcases hc with rfl | rfl | rfl | rfl | rfl <;> omega) (by simp [h3])) allNil))
  vz := [⟨4, 3, 1, 12, [cI 0], 5, 7⟩, ⟨8, 3, 1, 12, [.bool false], 9, 7⟩]
  vzok := allCons (slots_ok (by rcases hc with rfl | rfl | rfl | rfl | rfl <;> omega)) (allCons (marks_ok (by rcases hc with rfl | rfl | rfl | rfl | rfl <;> omega)) allNil)
  vl := [⟨2, 1, 7, 4, [.oi 12]⟩, ⟨2, 1, 7, 3, [.oi 3]⟩, ⟨2, 1, 7, 6, [cI 0]⟩, ⟨2, 1, 7, 5, [cI 2]⟩]
  vlok := allCons top4 (allCons top3 (allCons top6 (allCons top5 allNil)))
  vs := [⟨1, 1, 7, 2, [.oi 8], 2⟩, ⟨5, 9, 1, 0, [.oi 1], 6⟩, ⟨9, 9, 1, 0, [.bool false], 10⟩, ⟨2, 1, 7, 6, [cI 1], 3⟩]
  vsok := allCons at_ok (allCons (slotAt_ok hc) (allCons (markAt_ok hc (by simp [h2])) (allCons high_ok allNil)))
theorem push11 (hc : CC c) (hk : k < n) (hn : n ≤ 200) (hw : (k + 1) * (c + 6) ≤ 2048) (h2 : k % 2 = 1) (h3 : k % 3 = 1) (s : SA c k n w0 a w) : up.wp Try.prog (fun e a' w' => e = .normal ∧ SA c (k + 1) n w0 a' w') a w :=
  runTo_sound (T := (RPush11 hc hk hn hw h2 h3).tab) (T' := plainD c (k + 1) n) (K := Hand.none) (n := 300) mixed (@HandOk.none (RPush11 hc hk hn hw h2 h3).tab Try.prog) (C := cvPush) (rl := rlPush) (ex := .normal) (vp := vpPush) (fs := fsA) (bs := bsD 10 11 5)
    (Base.none _) (Nat.zero_le _) rfl (by kernel_rfl) (ipCons rfl (ipCons rfl (ipCons rfl (ipCons rfl (ipCons rfl ipNil)))))
    (vpCons (vecSub (intV_sub (Nat.le_refl _)) (Nat.le_refl _)) (vpCons (vecSub (boolV_sub (Nat.le_refl _)) (Nat.le_refl _)) (vpCons (vecSub (intV_sub (Nat.le_refl _)) (Nat.le_refl _)) vpNil))) (glNone rfl) (by kernel_rfl) (St.same (VRows.same _ _) s)

abbrev RPush12 (hc : CC c) (hk : k < n) (hn : n ≤ 200) (hw : (k + 1) * (c + 6) ≤ 2048) (h2 : k % 2 = 1) (h3 : k % 3 = 2) : VRows (ivD c k n) (vvD c k) (vkD c k) where
  vvp := vvp c k
  ib := rPush12
  ibok := rPush12_ok hc hk hn hw h2 h3
  va := [rFrame, ⟨6, 7, 1, [.oi 1], 7, 10⟩, ⟨10, 7, 1, [.bool false], 11, 10⟩]
  vaok := allCons (frame_ok (by omega)) (allCons (slot_ok hc (by rcases hc with rfl | rfl | rfl | rfl | rfl <;> omega)) (allCons (mark_ok hc (by rcases hc with rfl | rfl | rfl | rfl | rfl <;> omega) (by simp [h3])) allNil))
  vz := [⟨4, 3, 1, 12, [cI 0], 5, 7⟩, ⟨8, 3, 1, 12, [.bool false], 9, 7⟩]
  vzok := allCons (slots_ok (by rcases hc with rfl | rfl | rfl | rfl | rfl <;> omega)) (allCons (marks_ok (by rcases hc with rfl | rfl | rfl | rfl | rfl <;> omega)) allNil)
  vl := [⟨2, 1, 7, 4, [.oi 12]⟩, ⟨2, 1, 7, 3, [.oi 3]⟩, ⟨2, 1, 7, 6, [cI 0]⟩, ⟨2, 1, 7, 5, [cI 2]⟩]
  vlok := allCons top4 (allCons top3 (allCons top6 (allCons top5 allNil)))
  vs := [⟨1, 1, 7, 2, [.oi 8], 2⟩, ⟨5, 9, 1, 0, [.oi 1], 6⟩, ⟨9, 9, 1, 0, [.bool false], 10⟩, ⟨2, 1, 7, 6, [cI 1], 3⟩]
  vsok := allCons at_ok (allCons (slotAt_ok hc) (allCons (markAt_ok hc (by simp [h2])) (allCons high_ok allNil)))
theorem push12 (hc : CC c) (hk : k < n) (hn : n ≤ 200) (hw : (k + 1) * (c + 6) ≤ 2048) (h2 : k % 2 = 1) (h3 : k % 3 = 2) (s : SA c k n w0 a w) : up.wp Try.prog (fun e a' w' => e = .normal ∧ SA c (k + 1) n w0 a' w') a w :=
  runTo_sound (T := (RPush12 hc hk hn hw h2 h3).tab) (T' := plainD c (k + 1) n) (K := Hand.none) (n := 300) mixed (@HandOk.none (RPush12 hc hk hn hw h2 h3).tab Try.prog) (C := cvPush) (rl := rlPush) (ex := .normal) (vp := vpPush) (fs := fsA) (bs := bsD 10 11 5)
    (Base.none _) (Nat.zero_le _) rfl (by kernel_rfl) (ipCons rfl (ipCons rfl (ipCons rfl (ipCons rfl (ipCons rfl ipNil)))))
    (vpCons (vecSub (intV_sub (Nat.le_refl _)) (Nat.le_refl _)) (vpCons (vecSub (boolV_sub (Nat.le_refl _)) (Nat.le_refl _)) (vpCons (vecSub (intV_sub (Nat.le_refl _)) (Nat.le_refl _)) vpNil))) (glNone rfl) (by kernel_rfl) (St.same (VRows.same _ _) s)

abbrev RPop00 (hc : CC c) (hk : 1 ≤ k) (hn : k ≤ 200) (h2 : (k - 1) % 2 = 0) (h3 : (k - 1) % 3 = 0) : VRows (ivD c k n) (vvD c k) (vkD c k) where
  vvp := vvp c k
  ib := rPop00
  ibok := rPop00_ok hc hk hn h2 h3
  vl := [⟨0, 4, 7, 0, [.oi 4]⟩, ⟨0, 4, 7, 1, [.oi 1]⟩, ⟨0, 4, 7, 2, [.oi 16]⟩, ⟨0, 4, 7, 4, [.oi 12]⟩, ⟨0, 4, 7, 3, [.oi 17]⟩, ⟨0, 4, 7, 6, [cI 1]⟩, ⟨12, 4, 7, 4, [.oi 12]⟩, ⟨12, 4, 7, 5, [cI 2]⟩, ⟨12, 4, 7, 3, [.oi 17]⟩, ⟨4, 18, 1, 0, [.oi 4]⟩, ⟨8, 18, 1, 0, [.bool true]⟩, ⟨4, 19, 1, 0, [.oi 4]⟩, ⟨8, 19, 1, 0, [.bool true]⟩]
  vlok := allCons (was0 hk) (allCons (was1 hk) (allCons (was2 hk) (allCons (was4 hk) (allCons (was3 hk) (allCons (was6 hk) (allCons (low4 hk) (allCons (low5 hk) (allCons (low3 hk) (allCons (loc_ok hc hk) (allCons (locM_ok hc hk (by simp [h2])) (allCons (opd_ok hc hk) (allCons (opdM_ok hc hk (by simp [h3])) allNil))))))))))))
  vs := [⟨0, 4, 7, 6, [cI 0], 12⟩]
  vsok := allCons (lower_ok hk) allNil
theorem pop00 (hc : CC c) (hk : 1 ≤ k) (hn : k ≤ 200) (h2 : (k - 1) % 2 = 0) (h3 : (k - 1) % 3 = 0) (s : SB c k n w0 a w) : down.wp Try.prog (fun e a' w' => e = .normal ∧ SB c (k - 1) n w0 a' w') a w :=
  runTo_sound (T := (RPop00 (n := n) hc hk hn h2 h3).tab) (T' := plainD c (k - 1) n) (K := Hand.none) (n := 300) mixed (@HandOk.none (RPop00 (n := n) hc hk hn h2 h3).tab Try.prog) (C := cvPop) (rl := rlPop) (ex := .normal) (vp := vpPop) (fs := fsB) (bs := bsD 1 2 3)
    (Base.none _) (Nat.zero_le _) rfl (by kernel_rfl) (ipCons rfl (ipCons (ivEq (show (k : Int) - 1 = ((k - 1 : Nat) : Int) by omega)) (ipCons rfl (ipCons rfl (ipCons (ivEq (show (k : Int) - 1 - 1 = ((k - 1 : Nat) : Int) - 1 by omega)) (ipCons rfl ipNil))))))
    (vpCons (vecSub (intV_sub (Nat.mul_le_mul_right _ (by omega))) (Nat.mul_le_mul_right _ (by omega))) (vpCons (vecSub (boolV_sub (Nat.mul_le_mul_right _ (by omega))) (Nat.mul_le_mul_right _ (by omega))) (vpCons (vecSub (lower_sub hk) (Nat.mul_le_mul_right _ (by omega))) vpNil))) (glNone rfl) (by kernel_rfl) (St.same (VRows.same _ _) s)

abbrev RPop01 (hc : CC c) (hk : 1 ≤ k) (hn : k ≤ 200) (h2 : (k - 1) % 2 = 0) (h3 : (k - 1) % 3 = 1) : VRows (ivD c k n) (vvD c k) (vkD c k) where
  vvp := vvp c k
  ib := rPop01
  ibok := rPop01_ok hc hk hn h2 h3
  vl := [⟨0, 4, 7, 0, [.oi 4]⟩, ⟨0, 4, 7, 1, [.oi 1]⟩, ⟨0, 4, 7, 2, [.oi 16]⟩, ⟨0, 4, 7, 4, [.oi 12]⟩, ⟨0, 4, 7, 3, [.oi 17]⟩, ⟨0, 4, 7, 6, [cI 1]⟩, ⟨12, 4, 7, 4, [.oi 12]⟩, ⟨12, 4, 7, 5, [cI 2]⟩, ⟨12, 4, 7, 3, [.oi 17]⟩, ⟨4, 18, 1, 0, [.oi 4]⟩, ⟨8, 18, 1, 0, [.bool true]⟩, ⟨4, 19, 1, 0, [.oi 4]⟩, ⟨8, 19, 1, 0, [.bool false]⟩]
  vlok := allCons (was0 hk) (allCons (was1 hk) (allCons (was2 hk) (allCons (was4 hk) (allCons (was3 hk) (allCons (was6 hk) (allCons (low4 hk) (allCons (low5 hk) (allCons (low3 hk) (allCons (loc_ok hc hk) (allCons (locM_ok hc hk (by simp [h2])) (allCons (opd_ok hc hk) (allCons (opdM_ok hc hk (by simp [h3])) allNil))))))))))))
  vs := [⟨0, 4, 7, 6, [cI 0], 12⟩]
  vsok := allCons (lower_ok hk) allNil
theorem pop01 (hc : CC c) (hk : 1 ≤ k) (hn : k ≤ 200) (h2 : (k - 1) % 2 = 0) (h3 : (k - 1) % 3 = 1) (s : SB c k n w0 a w) : down.wp Try.prog (fun e a' w' => e = .normal ∧ SB c (k - 1) n w0 a' w') a w :=
  runTo_sound (T := (RPop01 (n := n) hc hk hn h2 h3).tab) (T' := plainD c (k - 1) n) (K := Hand.none) (n := 300) mixed (@HandOk.none (RPop01 (n := n) hc hk hn h2 h3).tab Try.prog) (C := cvPop) (rl := rlPop) (ex := .normal) (vp := vpPop) (fs := fsB) (bs := bsD 1 2 3)
    (Base.none _) (Nat.zero_le _) rfl (by kernel_rfl) (ipCons rfl (ipCons (ivEq (show (k : Int) - 1 = ((k - 1 : Nat) : Int) by omega)) (ipCons rfl (ipCons rfl (ipCons (ivEq (show (k : Int) - 1 - 1 = ((k - 1 : Nat) : Int) - 1 by omega)) (ipCons rfl ipNil))))))
    (vpCons (vecSub (intV_sub (Nat.mul_le_mul_right _ (by omega))) (Nat.mul_le_mul_right _ (by omega))) (vpCons (vecSub (boolV_sub (Nat.mul_le_mul_right _ (by omega))) (Nat.mul_le_mul_right _ (by omega))) (vpCons (vecSub (lower_sub hk) (Nat.mul_le_mul_right _ (by omega))) vpNil))) (glNone rfl) (by kernel_rfl) (St.same (VRows.same _ _) s)

abbrev RPop02 (hc : CC c) (hk : 1 ≤ k) (hn : k ≤ 200) (h2 : (k - 1) % 2 = 0) (h3 : (k - 1) % 3 = 2) : VRows (ivD c k n) (vvD c k) (vkD c k) where
  vvp := vvp c k
  ib := rPop02
  ibok := rPop02_ok hc hk hn h2 h3
  vl := [⟨0, 4, 7, 0, [.oi 4]⟩, ⟨0, 4, 7, 1, [.oi 1]⟩, ⟨0, 4, 7, 2, [.oi 16]⟩, ⟨0, 4, 7, 4, [.oi 12]⟩, ⟨0, 4, 7, 3, [.oi 17]⟩, ⟨0, 4, 7, 6, [cI 1]⟩, ⟨12, 4, 7, 4, [.oi 12]⟩, ⟨12, 4, 7, 5, [cI 2]⟩, ⟨12, 4, 7, 3, [.oi 17]⟩, ⟨4, 18, 1, 0, [.oi 4]⟩, ⟨8, 18, 1, 0, [.bool true]⟩, ⟨4, 19, 1, 0, [.oi 4]⟩, ⟨8, 19, 1, 0, [.bool false]⟩]
  vlok := allCons (was0 hk) (allCons (was1 hk) (allCons (was2 hk) (allCons (was4 hk) (allCons (was3 hk) (allCons (was6 hk) (allCons (low4 hk) (allCons (low5 hk) (allCons (low3 hk) (allCons (loc_ok hc hk) (allCons (locM_ok hc hk (by simp [h2])) (allCons (opd_ok hc hk) (allCons (opdM_ok hc hk (by simp [h3])) allNil))))))))))))
  vs := [⟨0, 4, 7, 6, [cI 0], 12⟩]
  vsok := allCons (lower_ok hk) allNil
theorem pop02 (hc : CC c) (hk : 1 ≤ k) (hn : k ≤ 200) (h2 : (k - 1) % 2 = 0) (h3 : (k - 1) % 3 = 2) (s : SB c k n w0 a w) : down.wp Try.prog (fun e a' w' => e = .normal ∧ SB c (k - 1) n w0 a' w') a w :=
  runTo_sound (T := (RPop02 (n := n) hc hk hn h2 h3).tab) (T' := plainD c (k - 1) n) (K := Hand.none) (n := 300) mixed (@HandOk.none (RPop02 (n := n) hc hk hn h2 h3).tab Try.prog) (C := cvPop) (rl := rlPop) (ex := .normal) (vp := vpPop) (fs := fsB) (bs := bsD 1 2 3)
    (Base.none _) (Nat.zero_le _) rfl (by kernel_rfl) (ipCons rfl (ipCons (ivEq (show (k : Int) - 1 = ((k - 1 : Nat) : Int) by omega)) (ipCons rfl (ipCons rfl (ipCons (ivEq (show (k : Int) - 1 - 1 = ((k - 1 : Nat) : Int) - 1 by omega)) (ipCons rfl ipNil))))))
    (vpCons (vecSub (intV_sub (Nat.mul_le_mul_right _ (by omega))) (Nat.mul_le_mul_right _ (by omega))) (vpCons (vecSub (boolV_sub (Nat.mul_le_mul_right _ (by omega))) (Nat.mul_le_mul_right _ (by omega))) (vpCons (vecSub (lower_sub hk) (Nat.mul_le_mul_right _ (by omega))) vpNil))) (glNone rfl) (by kernel_rfl) (St.same (VRows.same _ _) s)

abbrev RPop10 (hc : CC c) (hk : 1 ≤ k) (hn : k ≤ 200) (h2 : (k - 1) % 2 = 1) (h3 : (k - 1) % 3 = 0) : VRows (ivD c k n) (vvD c k) (vkD c k) where
  vvp := vvp c k
  ib := rPop10
  ibok := rPop10_ok hc hk hn h2 h3
  vl := [⟨0, 4, 7, 0, [.oi 4]⟩, ⟨0, 4, 7, 1, [.oi 1]⟩, ⟨0, 4, 7, 2, [.oi 16]⟩, ⟨0, 4, 7, 4, [.oi 12]⟩, ⟨0, 4, 7, 3, [.oi 17]⟩, ⟨0, 4, 7, 6, [cI 1]⟩, ⟨12, 4, 7, 4, [.oi 12]⟩, ⟨12, 4, 7, 5, [cI 2]⟩, ⟨12, 4, 7, 3, [.oi 17]⟩, ⟨4, 18, 1, 0, [.oi 4]⟩, ⟨8, 18, 1, 0, [.bool false]⟩, ⟨4, 19, 1, 0, [.oi 4]⟩, ⟨8, 19, 1, 0, [.bool true]⟩]
  vlok := allCons (was0 hk) (allCons (was1 hk) (allCons (was2 hk) (allCons (was4 hk) (allCons (was3 hk) (allCons (was6 hk) (allCons (low4 hk) (allCons (low5 hk) (allCons (low3 hk) (allCons (loc_ok hc hk) (allCons (locM_ok hc hk (by simp [h2])) (allCons (opd_ok hc hk) (allCons (opdM_ok hc hk (by simp [h3])) allNil))))))))))))
  vs := [⟨0, 4, 7, 6, [cI 0], 12⟩]
  vsok := allCons (lower_ok hk) allNil
theorem pop10 (hc : CC c) (hk : 1 ≤ k) (hn : k ≤ 200) (h2 : (k - 1) % 2 = 1) (h3 : (k - 1) % 3 = 0) (s : SB c k n w0 a w) : down.wp Try.prog (fun e a' w' => e = .normal ∧ SB c (k - 1) n w0 a' w') a w :=
  runTo_sound (T := (RPop10 (n := n) hc hk hn h2 h3).tab) (T' := plainD c (k - 1) n) (K := Hand.none) (n := 300) mixed (@HandOk.none (RPop10 (n := n) hc hk hn h2 h3).tab Try.prog) (C := cvPop) (rl := rlPop) (ex := .normal) (vp := vpPop) (fs := fsB) (bs := bsD 1 2 3)
    (Base.none _) (Nat.zero_le _) rfl (by kernel_rfl) (ipCons rfl (ipCons (ivEq (show (k : Int) - 1 = ((k - 1 : Nat) : Int) by omega)) (ipCons rfl (ipCons rfl (ipCons (ivEq (show (k : Int) - 1 - 1 = ((k - 1 : Nat) : Int) - 1 by omega)) (ipCons rfl ipNil))))))
    (vpCons (vecSub (intV_sub (Nat.mul_le_mul_right _ (by omega))) (Nat.mul_le_mul_right _ (by omega))) (vpCons (vecSub (boolV_sub (Nat.mul_le_mul_right _ (by omega))) (Nat.mul_le_mul_right _ (by omega))) (vpCons (vecSub (lower_sub hk) (Nat.mul_le_mul_right _ (by omega))) vpNil))) (glNone rfl) (by kernel_rfl) (St.same (VRows.same _ _) s)

abbrev RPop11 (hc : CC c) (hk : 1 ≤ k) (hn : k ≤ 200) (h2 : (k - 1) % 2 = 1) (h3 : (k - 1) % 3 = 1) : VRows (ivD c k n) (vvD c k) (vkD c k) where
  vvp := vvp c k
  ib := rPop11
  ibok := rPop11_ok hc hk hn h2 h3
  vl := [⟨0, 4, 7, 0, [.oi 4]⟩, ⟨0, 4, 7, 1, [.oi 1]⟩, ⟨0, 4, 7, 2, [.oi 16]⟩, ⟨0, 4, 7, 4, [.oi 12]⟩, ⟨0, 4, 7, 3, [.oi 17]⟩, ⟨0, 4, 7, 6, [cI 1]⟩, ⟨12, 4, 7, 4, [.oi 12]⟩, ⟨12, 4, 7, 5, [cI 2]⟩, ⟨12, 4, 7, 3, [.oi 17]⟩, ⟨4, 18, 1, 0, [.oi 4]⟩, ⟨8, 18, 1, 0, [.bool false]⟩, ⟨4, 19, 1, 0, [.oi 4]⟩, ⟨8, 19, 1, 0, [.bool false]⟩]
  vlok := allCons (was0 hk) (allCons (was1 hk) (allCons (was2 hk) (allCons (was4 hk) (allCons (was3 hk) (allCons (was6 hk) (allCons (low4 hk) (allCons (low5 hk) (allCons (low3 hk) (allCons (loc_ok hc hk) (allCons (locM_ok hc hk (by simp [h2])) (allCons (opd_ok hc hk) (allCons (opdM_ok hc hk (by simp [h3])) allNil))))))))))))
  vs := [⟨0, 4, 7, 6, [cI 0], 12⟩]
  vsok := allCons (lower_ok hk) allNil
theorem pop11 (hc : CC c) (hk : 1 ≤ k) (hn : k ≤ 200) (h2 : (k - 1) % 2 = 1) (h3 : (k - 1) % 3 = 1) (s : SB c k n w0 a w) : down.wp Try.prog (fun e a' w' => e = .normal ∧ SB c (k - 1) n w0 a' w') a w :=
  runTo_sound (T := (RPop11 (n := n) hc hk hn h2 h3).tab) (T' := plainD c (k - 1) n) (K := Hand.none) (n := 300) mixed (@HandOk.none (RPop11 (n := n) hc hk hn h2 h3).tab Try.prog) (C := cvPop) (rl := rlPop) (ex := .normal) (vp := vpPop) (fs := fsB) (bs := bsD 1 2 3)
    (Base.none _) (Nat.zero_le _) rfl (by kernel_rfl) (ipCons rfl (ipCons (ivEq (show (k : Int) - 1 = ((k - 1 : Nat) : Int) by omega)) (ipCons rfl (ipCons rfl (ipCons (ivEq (show (k : Int) - 1 - 1 = ((k - 1 : Nat) : Int) - 1 by omega)) (ipCons rfl ipNil))))))
    (vpCons (vecSub (intV_sub (Nat.mul_le_mul_right _ (by omega))) (Nat.mul_le_mul_right _ (by omega))) (vpCons (vecSub (boolV_sub (Nat.mul_le_mul_right _ (by omega))) (Nat.mul_le_mul_right _ (by omega))) (vpCons (vecSub (lower_sub hk) (Nat.mul_le_mul_right _ (by omega))) vpNil))) (glNone rfl) (by kernel_rfl) (St.same (VRows.same _ _) s)

abbrev RPop12 (hc : CC c) (hk : 1 ≤ k) (hn : k ≤ 200) (h2 : (k - 1) % 2 = 1) (h3 : (k - 1) % 3 = 2) : VRows (ivD c k n) (vvD c k) (vkD c k) where
  vvp := vvp c k
  ib := rPop12
  ibok := rPop12_ok hc hk hn h2 h3
  vl := [⟨0, 4, 7, 0, [.oi 4]⟩, ⟨0, 4, 7, 1, [.oi 1]⟩, ⟨0, 4, 7, 2, [.oi 16]⟩, ⟨0, 4, 7, 4, [.oi 12]⟩, ⟨0, 4, 7, 3, [.oi 17]⟩, ⟨0, 4, 7, 6, [cI 1]⟩, ⟨12, 4, 7, 4, [.oi 12]⟩, ⟨12, 4, 7, 5, [cI 2]⟩, ⟨12, 4, 7, 3, [.oi 17]⟩, ⟨4, 18, 1, 0, [.oi 4]⟩, ⟨8, 18, 1, 0, [.bool false]⟩, ⟨4, 19, 1, 0, [.oi 4]⟩, ⟨8, 19, 1, 0, [.bool false]⟩]
  vlok := allCons (was0 hk) (allCons (was1 hk) (allCons (was2 hk) (allCons (was4 hk) (allCons (was3 hk) (allCons (was6 hk) (allCons (low4 hk) (allCons (low5 hk) (allCons (low3 hk) (allCons (loc_ok hc hk) (allCons (locM_ok hc hk (by simp [h2])) (allCons (opd_ok hc hk) (allCons (opdM_ok hc hk (by simp [h3])) allNil))))))))))))
  vs := [⟨0, 4, 7, 6, [cI 0], 12⟩]
  vsok := allCons (lower_ok hk) allNil
theorem pop12 (hc : CC c) (hk : 1 ≤ k) (hn : k ≤ 200) (h2 : (k - 1) % 2 = 1) (h3 : (k - 1) % 3 = 2) (s : SB c k n w0 a w) : down.wp Try.prog (fun e a' w' => e = .normal ∧ SB c (k - 1) n w0 a' w') a w :=
  runTo_sound (T := (RPop12 (n := n) hc hk hn h2 h3).tab) (T' := plainD c (k - 1) n) (K := Hand.none) (n := 300) mixed (@HandOk.none (RPop12 (n := n) hc hk hn h2 h3).tab Try.prog) (C := cvPop) (rl := rlPop) (ex := .normal) (vp := vpPop) (fs := fsB) (bs := bsD 1 2 3)
    (Base.none _) (Nat.zero_le _) rfl (by kernel_rfl) (ipCons rfl (ipCons (ivEq (show (k : Int) - 1 = ((k - 1 : Nat) : Int) by omega)) (ipCons rfl (ipCons rfl (ipCons (ivEq (show (k : Int) - 1 - 1 = ((k - 1 : Nat) : Int) - 1 by omega)) (ipCons rfl ipNil))))))
    (vpCons (vecSub (intV_sub (Nat.mul_le_mul_right _ (by omega))) (Nat.mul_le_mul_right _ (by omega))) (vpCons (vecSub (boolV_sub (Nat.mul_le_mul_right _ (by omega))) (Nat.mul_le_mul_right _ (by omega))) (vpCons (vecSub (lower_sub hk) (Nat.mul_le_mul_right _ (by omega))) vpNil))) (glNone rfl) (by kernel_rfl) (St.same (VRows.same _ _) s)

theorem pushAny (hc : CC c) (hk : k < n) (hn : n ≤ 200) (hw : (k + 1) * (c + 6) ≤ 2048) (s : SA c k n w0 a w) : up.wp Try.prog (fun e a' w' => e = .normal ∧ SA c (k + 1) n w0 a' w') a w := by
  obtain h2 | h2 : k % 2 = 0 ∨ k % 2 = 1 := by omega
  · obtain h3 | h3 | h3 : k % 3 = 0 ∨ k % 3 = 1 ∨ k % 3 = 2 := by omega
    · exact push00 hc hk hn hw h2 h3 s
    · exact push01 hc hk hn hw h2 h3 s
    · exact push02 hc hk hn hw h2 h3 s
  · obtain h3 | h3 | h3 : k % 3 = 0 ∨ k % 3 = 1 ∨ k % 3 = 2 := by omega
    · exact push10 hc hk hn hw h2 h3 s
    · exact push11 hc hk hn hw h2 h3 s
    · exact push12 hc hk hn hw h2 h3 s
theorem popAny (hc : CC c) (hk : 1 ≤ k) (hn : k ≤ 200) (s : SB c k n w0 a w) : down.wp Try.prog (fun e a' w' => e = .normal ∧ SB c (k - 1) n w0 a' w') a w := by
  obtain h2 | h2 : (k - 1) % 2 = 0 ∨ (k - 1) % 2 = 1 := by omega
  · obtain h3 | h3 | h3 : (k - 1) % 3 = 0 ∨ (k - 1) % 3 = 1 ∨ (k - 1) % 3 = 2 := by omega
    · exact pop00 hc hk hn h2 h3 s
    · exact pop01 hc hk hn h2 h3 s
    · exact pop02 hc hk hn h2 h3 s
  · obtain h3 | h3 | h3 : (k - 1) % 3 = 0 ∨ (k - 1) % 3 = 1 ∨ (k - 1) % 3 = 2 := by omega
    · exact pop10 hc hk hn h2 h3 s
    · exact pop11 hc hk hn h2 h3 s
    · exact pop12 hc hk hn h2 h3 s

abbrev only {ib : List BRow} (h : ∀ r ∈ ib, IbOk (ivD c k n) r) : VRows (ivD c k n) (vvD c k) (vkD c k) where
  vvp := vvp c k
  ib := ib
  ibok := h
noncomputable abbrev cvKeep : Cv := ⟨0, 4, ofPairs rlPop, [(.oi 0, 0), (.oi 1, 1), (.oi 2, 2), (.oi 3, 3), (.oi 4, 4), (.oi 12, 12)]⟩
noncomputable abbrev vpKeep : VP := [(1, .vec 4, 4), (2, .vec 8, 8), (3, .vec 0, 0)]
theorem vpKeep_ok {T : Tab} (h : T = (plainD c k n) ∨ True) {R : VRows (ivD c k n) (vvD c k) (vkD c k)} : VpOk R.tab (plainD c k n) cvKeep vpKeep :=
  vpCons (vecSub (intV_sub (Nat.le_refl _)) (Nat.le_refl _)) (vpCons (vecSub (boolV_sub (Nat.le_refl _)) (Nat.le_refl _)) (vpCons (vecSub (intV_sub (Nat.le_refl _)) (Nat.le_refl _)) vpNil))
theorem ipKeep {R : VRows (ivD c k n) (vvD c k) (vkD c k)} : IpOk R.tab (plainD c k n) cvKeep.ip := ipCons rfl (ipCons rfl (ipCons rfl (ipCons rfl (ipCons rfl (ipCons rfl ipNil)))))

abbrev Out (w0 : World) := Yes Try.prog Try.f4 (Kp.below w0.heap.size) w0
/-- one frame more does not fit -/
theorem over (hc : CC c) (hk : k < n) (hn : n ≤ 200) (hw0 : k * (c + 6) ≤ 2048) (hw : ¬ (k + 1) * (c + 6) ≤ 2048) (s : SA c k n w0 a w) : up.wp Try.prog (fun e a' w' => e = .ret ∧ Out w0 e a' w') a w := by
  refine wp_mono (runTo_sound (T := (only (rOver_ok hc hk hn hw0 hw)).tab) (T' := plainD c k n) (K := Hand.none) (n := 300) mixed (@HandOk.none (only (rOver_ok hc hk hn hw0 hw)).tab Try.prog) (C := cvKeep) (rl := rlPop) (ex := .ret) (vp := vpKeep) (fs := [(4, .bool true)]) (bs := [])
    (Base.none _) (Nat.zero_le _) rfl (by kernel_rfl) ipKeep (vpKeep_ok (T := plainD c k n) (.inr trivial)) (glNone rfl) (by kernel_rfl) (St.same (VRows.same _ _) s)) ?_
  rintro e a' w' ⟨rfl, s'⟩
  exact ⟨rfl, @St.yes _ _ _ _ _ _ (plainD c k n) Try.f4 (frOf [(4, .bool true)]) (hOf 4 []) (hOf 4 []) (by kernel_rfl) s'⟩
theorem stop (hc : CC c) (hk : ¬ k < n) (s : SA c k n w0 a w) : up.wp Try.prog (fun e a' w' => e = .exit 0 ∧ SA c k n w0 a' w') a w :=
  runTo_sound (T := (only (rStop_ok hc hk)).tab) (T' := plainD c k n) (K := Hand.none) (n := 300) mixed (@HandOk.none (only (rStop_ok hc hk)).tab Try.prog) (C := cvKeep) (rl := rlPop) (ex := .exit 0) (vp := vpKeep) (fs := fsA) (bs := bsD 1 2 3)
    (Base.none _) (Nat.zero_le _) rfl (by kernel_rfl) ipKeep (vpKeep_ok (T := plainD c k n) (.inr trivial)) (glNone rfl) (by kernel_rfl) (St.same (VRows.same _ _) s)
theorem turns (hk : k = n) (hn : n ≤ 200) (hc : CC c) (s : SA c k n w0 a w) : down0.wp Try.prog (fun e a' w' => e = .normal ∧ SB c k n w0 a' w') a w :=
  runTo_sound (T := (only (rTurn_ok hk hn hc)).tab) (T' := plainD c k n) (K := Hand.none) (n := 300) mixed (@HandOk.none (only (rTurn_ok hk hn hc)).tab Try.prog) (C := cvKeep) (rl := rlPop) (ex := .normal) (vp := vpKeep) (fs := fsB) (bs := bsD 1 2 3)
    (Base.none _) (Nat.zero_le _) rfl (by kernel_rfl) ipKeep (vpKeep_ok (T := plainD c k n) (.inr trivial)) (glNone rfl) (by kernel_rfl) (St.same (VRows.same _ _) s)
theorem empty (hk : k = 0) (hc : CC c) (s : SB c k n w0 a w) : down.wp Try.prog (fun e a' w' => e = .exit 2 ∧ SB c k n w0 a' w') a w :=
  runTo_sound (T := (only (rDone_ok hk hc)).tab) (T' := plainD c k n) (K := Hand.none) (n := 300) mixed (@HandOk.none (only (rDone_ok hk hc)).tab Try.prog) (C := cvKeep) (rl := rlPop) (ex := .exit 2) (vp := vpKeep) (fs := fsB) (bs := bsD 1 2 3)
    (Base.none _) (Nat.zero_le _) rfl (by kernel_rfl) ipKeep (vpKeep_ok (T := plainD c k n) (.inr trivial)) (glNone rfl) (by kernel_rfl) (St.same (VRows.same _ _) s)
theorem ends (hk : k = 0) (hc : CC c) (s : SB c k n w0 a w) : last.wp Try.prog (Out w0) a w :=
  @runTrue_sound _ _ _ _ _ _ (only (rTail_ok hk hc)).tab (frOf fsB) (hOf 4 (bsD 1 2 3)) mixed Hand.none (@HandOk.none (only (rTail_ok hk hc)).tab Try.prog) 300 Try.f4 last (by kernel_rfl) (St.same (VRows.same _ _) s)
end

end Go.Proofs.Ytpkpfgiboodekaa.deep
