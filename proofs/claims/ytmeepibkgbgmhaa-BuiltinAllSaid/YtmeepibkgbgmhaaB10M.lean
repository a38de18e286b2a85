import Derived.Test.YtmeepibkgbgmhaaXSum
import Derived.Test.YtmeepibkgbgmhaaChecked
import Derived.KernelRfl
import Derived.Test.YtmeepibkgbgmhaaB10A
import Derived.Test.YtmeepibkgbgmhaaB10B
import Derived.Test.YtmeepibkgbgmhaaB10C
import Derived.Test.YtmeepibkgbgmhaaB10D
import Derived.Test.YtmeepibkgbgmhaaB10F
import Derived.Test.YtmeepibkgbgmhaaB10G
import Derived.Test.YtmeepibkgbgmhaaB10H
import Derived.Test.YtmeepibkgbgmhaaB10I
import Derived.Test.YtmeepibkgbgmhaaB10J
import Derived.Test.YtmeepibkgbgmhaaB10K
import Derived.Test.YtmeepibkgbgmhaaB10L
set_option linter.unusedSectionVars false
set_option maxRecDepth 1000000
namespace Go.Proofs.Ytmeepibkgbgmhaa
open Go.X
variable [Tab]

def M_0 : Sum := ⟨(.bool true), 32417, []⟩
theorem M_0_ok : SumOk Try.prog 5 [] M_0 := SumOk.of_run (K := (sumsHand tabL)) (n := 2000) (keep := []) mixed (sumsHand_ok tabL_ok) (by kernel_rfl) (by kernel_rfl)

def tabM : List (FuncId × SRows) := (5, [([], M_0)]) :: tabL
theorem tabM_ok : TabOk Try.prog tabM := (TabOk.cons (RowsOk.cons M_0_ok RowsOk.nil) tabL_ok)
end Go.Proofs.Ytmeepibkgbgmhaa
