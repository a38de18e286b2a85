import Derived.Test.YtmeepibkgbgmhaaXSum
import Derived.Test.YtmeepibkgbgmhaaChecked
import Derived.KernelRfl
import Derived.Test.YtmeepibkgbgmhaaB10A
import Derived.Test.YtmeepibkgbgmhaaB10B
import Derived.Test.YtmeepibkgbgmhaaB10C
import Derived.Test.YtmeepibkgbgmhaaB10D
import Derived.Test.YtmeepibkgbgmhaaB10F
import Derived.Test.YtmeepibkgbgmhaaB10G
import Derived.Test.YtmeepibkgbgmhaaB10H
set_option linter.unusedSectionVars false
set_option maxRecDepth 1000000
namespace Go.Proofs.Ytmeepibkgbgmhaa
open Go.X
variable [Tab]

def I_0 : Sum := ⟨(.bool true), 209, []⟩
theorem I_0_ok : SumOk Try.prog 6 [] I_0 := SumOk.of_run (K := (sumsHand tabH)) (n := 400) (keep := []) mixed (sumsHand_ok tabH_ok) (by kernel_rfl) (by kernel_rfl)

def tabI : List (FuncId × SRows) := (6, [([], I_0)]) :: tabH
theorem tabI_ok : TabOk Try.prog tabI := (TabOk.cons (RowsOk.cons I_0_ok RowsOk.nil) tabH_ok)
end Go.Proofs.Ytmeepibkgbgmhaa
