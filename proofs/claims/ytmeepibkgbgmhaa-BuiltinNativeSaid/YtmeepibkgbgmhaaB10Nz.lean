/-
  The law BuiltinNative answers true at any three texts.
-/
import Derived.Test.YtmeepibkgbgmhaaB10N1
import Derived.Test.YtmeepibkgbgmhaaB10N2
import Derived.Test.YtmeepibkgbgmhaaB10N3
import Derived.Test.YtmeepibkgbgmhaaB10N4
import Derived.Test.YtmeepibkgbgmhaaB10N5
import Derived.Test.YtmeepibkgbgmhaaB10N6
set_option maxHeartbeats 4000000
set_option linter.unusedVariables false
set_option maxRecDepth 1000000
namespace Go.Proofs.Ytmeepibkgbgmhaa
open Go.X Go.RowKit

theorem nat_any (a : ByteArray) (sa : a.size ≤ maxLen) (b : ByteArray) (sb : b.size ≤ maxLen) (c : ByteArray) (sc : c.size ≤ maxLen) : Fine #[.string a, .string b, .string c] := by
  letI := Tab.empty
  rcases pick allNames a with ⟨p, hp, rfl⟩ | h
  · simp only [allNames, List.mem_cons, List.not_mem_nil, or_false] at hp
    rcases hp with rfl | rfl | rfl | rfl | rfl | rfl | rfl | rfl | rfl | rfl | rfl | rfl | rfl | rfl | rfl | rfl | rfl | rfl | rfl | rfl | rfl | rfl | rfl | rfl | rfl | rfl | rfl | rfl | rfl | rfl | rfl | rfl | rfl
    · exact nat_0 sb sc
    · exact nat_1 sb sc
    · exact nat_2 sb sc
    · exact nat_3 sb sc
    · exact nat_4 sb sc
    · exact nat_5 sb sc
    · exact nat_6 sb sc
    · exact nat_7 sb sc
    · exact nat_8 sb sc
    · exact nat_9 sb sc
    · exact nat_10 sb sc
    · exact nat_11 sb sc
    · exact nat_12 sb sc
    · exact nat_13 sb sc
    · exact nat_14 sb sc
    · exact nat_15 sb sc
    · exact nat_16 sb sc
    · exact nat_17 sb sc
    · exact nat_18 sb sc
    · exact nat_19 sb sc
    · exact nat_20 sb sc
    · exact nat_21 sb sc
    · exact nat_22 sb sc
    · exact nat_23 sb sc
    · exact nat_24 sb sc
    · exact nat_25 sb sc
    · exact nat_26 sb sc
    · exact nat_27 sb sc
    · exact nat_28 sb sc
    · exact nat_29 sb sc
    · exact nat_30 sb sc
    · exact nat_31 sb sc
    · exact nat_32 sb sc
  · exact nat_other sa sb sc h
end Go.Proofs.Ytmeepibkgbgmhaa
