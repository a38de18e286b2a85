/-
  What the law TopNarrow gives.
-/
import Derived.Test.YtedimikdpclpnaaGreatDoorNAT0
import Derived.Test.YtedimikdpclpnaaGreatDoorNAL
set_option linter.unusedVariables false
namespace Go.Proofs.YtedimikdpclpnaaGreatDoor.na
open Go.X Go.RowKit
theorem walk (a0 : Int) (w : World) : Calls Tryz.prog 5 #[.int .i64 a0] w fun e w' => e = .returned (.bool true) ∧ Below w.heap.size w w' := by
  obtain ⟨l8, h8⟩ := wr8 a0
  obtain ⟨l16, h16⟩ := wr16 a0
  obtain ⟨lu, hu⟩ := wru16 a0
  obtain ⟨lb, hb⟩ := wr32 a0
  have f2 : IntKind.i64.wrap ((BitVec.ofInt IntKind.i64.bits (IntKind.i32.wrap a0) &&& BitVec.ofInt IntKind.i64.bits 1).toNat : Int) = a0 % 2 := by rw [and1, w32_two]
  have l2 : 0 ≤ a0 % 2 := by omega
  have h2 : a0 % 2 ≤ 1 := by omega
  exact yes0 (a := a0) (b := IntKind.i32.wrap a0) (p8 := IntKind.i8.wrap a0) (p16 := IntKind.i16.wrap a0) (pu := IntKind.u16.wrap a0) (m2 := a0 % 2)
    rfl (wrap_wrap (by decide) a0) rfl (wrap_wrap (by decide) a0) rfl (wrap_wrap (by decide) a0) (and1 a0) f2 rfl (wrap_wrap (by decide) a0)
    (back64 (by omega) (by omega)) (back64 (by omega) (by omega)) (back64 (by omega) (by omega)) l8 h8 l16 h16 lu hu l2 h2 lb hb w
end Go.Proofs.YtedimikdpclpnaaGreatDoor.na
