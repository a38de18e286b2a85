/-
  The law NativeString: a contract (one more name).
-/
import Derived.Test.YtkkaifeiopjjdaaGreatDoorNSU
set_option linter.unusedVariables false
set_option linter.unusedSimpArgs false
set_option linter.unusedSectionVars false
set_option maxRecDepth 1000000
set_option maxHeartbeats 0
namespace Go.Proofs.YtkkaifeiopjjdaaGreatDoor.ns
open Go.X Go.RowKit Go.Proofs
theorem gb13839 : GB 13839 2 2 := fun p h o3 h0 => by as_aux_lemma => kernel_rfl
theorem ge13839 : GE 13839 2 2 := fun p q => by as_aux_lemma => kernel_rfl
theorem c13839_ok {p : Pm} (h : Ar p) (h0 : 0 < oN p 2) : @InOk Tryz.prog (chU 13839 2 2) (TL p) := @upOk (TL p) _ _ _ (Nat.le_of_ble_eq_true rfl) (chI_ok h (by decide) (by decide) (by decide) (RB p 2 h (by decide) h0) gc2 gi2 gx2 (by decide) (by kernel_rfl) (by kernel_rfl) (by kernel_rfl) (by kernel_rfl) (gb13839 p h (by decide) h0) ge13839 (by kernel_rfl))
end Go.Proofs.YtkkaifeiopjjdaaGreatDoor.ns
