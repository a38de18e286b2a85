/-
  The law's function Cut gives a text's first letters.
-/
import Derived.Test.YtmeepibkgbgmhaaXShut
import Derived.Test.YtmeepibkgbgmhaaChecked
import Derived.WalkKit
import Derived.WalkSpells
set_option linter.unusedVariables false
namespace Go.Proofs.Ytmeepibkgbgmhaa
open Go.RowKit

def cutS (s : ByteArray) (n : Nat) : ByteArray := if s.size > n then s.extract 0 n else s

theorem cut_long (s : ByteArray) (n : Nat) (w : World) (hs : s.size ≤ maxLen) (h : n < s.size) :
    Calls Try.prog 7 #[.string s, .int .i64 n] w fun e w' => e = .returned (.string (s.extract 0 n)) ∧ w = w' := by
  unfold maxLen at hs
  go_enter Try.func7, Try.ntmps7
  go_wp2
  go_ret
  exact ⟨by simp, rfl⟩
theorem cut_short (s : ByteArray) (n : Nat) (w : World) (hs : s.size ≤ maxLen) (h : ¬ n < s.size) :
    Calls Try.prog 7 #[.string s, .int .i64 n] w fun e w' => e = .returned (.string s) ∧ w = w' := by
  unfold maxLen at hs
  go_enter Try.func7, Try.ntmps7
  go_wp2
  go_ret
  exact ⟨rfl, rfl⟩
end Go.Proofs.Ytmeepibkgbgmhaa
