import Derived.Test.YtgdonkfaicdeiaaGreatDoorXShut
import Derived.Test.YtgdonkfaicdeiaaGreatDoorChecked
import Derived.KernelRfl
import Derived.Test.YtgdonkfaicdeiaaGreatDoorFQBA
import Derived.Test.YtgdonkfaicdeiaaGreatDoorFQBB
import Derived.Test.YtgdonkfaicdeiaaGreatDoorFQBC
import Derived.Test.YtgdonkfaicdeiaaGreatDoorFQBD
import Derived.Test.YtgdonkfaicdeiaaGreatDoorFQBF
import Derived.Test.YtgdonkfaicdeiaaGreatDoorFQBJ
import Derived.Test.YtgdonkfaicdeiaaGreatDoorFQT
set_option linter.unusedSectionVars false
set_option maxRecDepth 1000000
set_option maxHeartbeats 4000000
namespace Go.Proofs.YtgdonkfaicdeiaaGreatDoor
open Go.X
variable [Tab]

def G_0 : Sum := ⟨(.bool true), 3390, []⟩
theorem G_0_ok : SumOk Tryz.prog 4 [] G_0 := SumOk.of_run (K := (sumsHand tabT)) (n := 2000) (keep := []) mixed (sumsHand_ok tabT_ok) (by kernel_rfl) (by kernel_rfl)

def G_1 : Sum := ⟨(.so 11 0 11 5), 12, [(11, (.cells 55 true [] (.node (.node (.node (.node (.node (.node .leaf (.some (.str 0 0)) .leaf) (.some (.int .i64 1)) (.node .leaf (.some (.int .i64 0)) .leaf)) (.some (.int .i64 0)) (.node (.node .leaf (.some (.int .i64 0)) .leaf) (.some (.int .i64 3)) .leaf)) (.some (.int .i64 0)) (.node (.node (.node .leaf (.some (.int .i64 1)) .leaf) (.some (.int .i64 0)) (.node .leaf (.some (.str 0 0)) .leaf)) (.some (.str 0 0)) (.node (.node .leaf (.some (.int .i64 7)) .leaf) (.some (.int .i64 0)) .leaf))) (.some (.str 0 0)) (.node (.node (.node (.node .leaf (.some (.int .i64 5)) .leaf) (.some (.int .i64 0)) (.node .leaf (.some (.int .i64 0)) .leaf)) (.some (.int .i64 0)) (.node (.node .leaf (.some (.str 0 0)) .leaf) (.some (.int .i64 1)) .leaf)) (.some (.int .i64 1)) (.node (.node (.node .leaf (.some (.int .i64 0)) .leaf) (.some (.str 0 0)) (.node .leaf (.some (.int .i64 9)) .leaf)) (.some (.int .i64 1)) (.node (.node .leaf (.some (.int .i64 1)) .leaf) (.some (.int .i64 0)) .leaf)))) (.some (.int .i64 0)) (.node (.node (.node (.node (.node .leaf (.some (.int .i64 0)) .leaf) (.some (.str 26 177462528906270532328520934635542489792491443287338843928682858)) (.node .leaf (.some (.int .i64 0)) .leaf)) (.some (.int .i64 0)) (.node (.node .leaf (.some (.int .i64 7)) .leaf) (.some (.int .i64 0)) .leaf)) (.some (.int .i64 0)) (.node (.node (.node .leaf (.some (.str 4 1701736302)) .leaf) (.some (.int .i64 7)) (.node .leaf (.some (.int .i64 0)) .leaf)) (.some (.int .i64 0)) (.node (.node .leaf (.some (.int .i64 0)) .leaf) (.some (.int .i64 0)) .leaf))) (.some (.int .i64 0)) (.node (.node (.node (.node .leaf (.some (.int .i64 0)) .leaf) (.some (.int .i64 0)) (.node .leaf (.some (.int .i64 7)) .leaf)) (.some (.int .i64 7)) (.node (.node .leaf (.some (.int .i64 0)) .leaf) (.some (.str 15 594182256714433171583859471190221162)) .leaf)) (.some (.str 19 2261816869159440624969593107871851903301607786)) (.node (.node (.node .leaf (.some (.int .i64 0)) .leaf) (.some (.int .i64 0)) (.node .leaf (.some (.int .i64 0)) .leaf)) (.some (.int .i64 0)) (.node (.node .leaf (.some (.str 29 2977327179366744475310567174670984700336777289692309623825572795146602)) .leaf) (.some (.int .i64 7)) .leaf)))))))]⟩
theorem G_1_ok : SumOk Tryz.prog 5 [] G_1 := SumOk.of_run (K := (sumsHand tabT)) (n := 2000) (keep := [11]) mixed (sumsHand_ok tabT_ok) (by kernel_rfl) (by kernel_rfl)

def tabG : List (FuncId × SRows) := (5, [([], G_1)]) :: (4, [([], G_0)]) :: tabT
theorem tabG_ok : TabOk Tryz.prog tabG := (TabOk.cons (RowsOk.cons G_1_ok RowsOk.nil) (TabOk.cons (RowsOk.cons G_0_ok RowsOk.nil) tabT_ok))
end Go.Proofs.YtgdonkfaicdeiaaGreatDoor
