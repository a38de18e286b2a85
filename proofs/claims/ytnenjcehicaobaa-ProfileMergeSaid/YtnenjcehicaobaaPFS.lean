/-
  What internal/bytealg.CompareString gives (the shelf's contract, laid plain).
-/
import Derived.Test.YtnenjcehicaobaaProg
import Derived.Lib.Strings
import Derived.Lib.Bytealg
import Derived.WalkKit
import Derived.KernelRfl
namespace Go.Proofs.Ytnenjcehicaobaa.pf
set_option maxHeartbeats 1000000 in
set_option maxRecDepth 100000 in
theorem cmpString (a b : ByteArray) (w : World) :
    Calls Try.prog 39 #[.string a, .string b] w fun e w' => e = .returned (.int .i64 (Lib.compareBytes a.data.toList b.data.toList)) ∧ w' = w := by
  go_enter Try.func39, Try.ntmps39
  go_wp2
  rw [run_callFunc_extern Try.func40 (by kernel_rfl) (by kernel_rfl) (by kernel_rfl) (e := Extern.BytealgCompare.compare) (by kernel_rfl), Lib.run_compareString]
  simp only [Result.andThen]
  rw [Oper.upon_value]
  go_wp2
  go_ret
  exact ⟨rfl, rfl⟩
end Go.Proofs.Ytnenjcehicaobaa.pf
