/-
  Numbers of 64 bits.
-/
import Derived.Test.YtdknapjpeegooaaGreatDoorHK
namespace Go.Proofs.YtdknapjpeegooaaGreatDoor.kinds
theorem wfI64 {v : Int} (h : (Lit.int .i64 v).wf = true) : -9223372036854775808 ≤ v ∧ v ≤ 9223372036854775807 := by
  have h1 : decide (IntKind.i64.min ≤ v) = true ∧ decide (v ≤ IntKind.i64.max) = true := by simpa [Lit.wf] using h
  have a := of_decide_eq_true h1.1
  have b := of_decide_eq_true h1.2
  have e1 : IntKind.i64.min = -9223372036854775808 := by decide
  have e2 : IntKind.i64.max = 9223372036854775807 := by decide
  omega
end Go.Proofs.YtdknapjpeegooaaGreatDoor.kinds
