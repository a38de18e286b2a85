/-
  What the law TopHello gives.
-/
import Derived.Test.YtbgkinjicnnkiaaGreatDoorHLM
import Derived.Test.YtbgkinjicnnkiaaGreatDoorRows
import Derived.LaidSub
import Derived.Lib.LaidTab
set_option linter.unusedVariables false
set_option maxRecDepth 100000
namespace Go.Proofs.YtbgkinjicnnkiaaGreatDoor.hl
open Go.X Go.RowKit
def nm : String := ((Rows.topHelloRow.laid[2]?).map fun x => x.1).getD default
theorem laid_eq : (Rows.topHelloRow.laid.filter fun x => x.1 == nm) = [(nm, Lib.tabData .u64 Lib.pow10Tab)] := by kernel_rfl
theorem nm_is : nm = "internal/strconv.uint64pow10" := by kernel_rfl
theorem globals0 : Tryz.prog.globalNamed nm = some 0 := by kernel_rfl
theorem tabIs {W : World} (h : laidMetH Tryz.prog Rows.topHelloRow.laid W) : Lib.TabIs Tryz.prog W "internal/strconv.uint64pow10" .u64 Lib.pow10Tab := by
  have h1 := h.filter fun x => x.1 == nm
  rw [laid_eq] at h1
  have h2 : laidMet Tryz.prog [(nm, Lib.tabData .u64 Lib.pow10Tab)] W := h1
  rw [← nm_is]
  exact Lib.tabIs_of_head (t := 495) (e := 215) (n := 20) globals0 (by kernel_rfl) (by kernel_rfl) (by kernel_rfl) (by kernel_rfl) (by kernel_rfl) h2
theorem walk (a0 : Int) (w0 : (Lit.int .i64 a0).wf = true) (a1 : Int) (w1 : (Lit.int .i64 a1).wf = true) (w : World) (hL : laidMetH Tryz.prog Rows.topHelloRow.laid w) : Calls Tryz.prog 4 #[.int .i64 a0, .int .i64 a1] w fun e w' => e = .returned (.bool true) ∧ Below w.heap.size w w' := by
  have key : ∀ x : Int, (Lit.int .i64 x).wf = true → -9223372036854775808 ≤ x ∧ x ≤ 9223372036854775807 := by
    intro x h
    simp only [Lit.wf, Bool.and_eq_true, decide_eq_true_eq] at h
    exact h
  obtain ⟨h1, h2⟩ := key _ w1
  exact any h1 h2 w (tabIs hL)
end Go.Proofs.YtbgkinjicnnkiaaGreatDoor.hl
