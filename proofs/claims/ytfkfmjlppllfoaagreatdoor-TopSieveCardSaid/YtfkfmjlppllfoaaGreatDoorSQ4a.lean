/-
  Contracts of calls, by the kernel.
-/
import Derived.Test.YtfkfmjlppllfoaaGreatDoorXN3
import Derived.Test.YtfkfmjlppllfoaaGreatDoorProg
import Derived.KernelRfl
import Derived.Test.YtfkfmjlppllfoaaGreatDoorSQ0a
import Derived.Test.YtfkfmjlppllfoaaGreatDoorSQ1a
import Derived.Test.YtfkfmjlppllfoaaGreatDoorSQ2a
import Derived.Test.YtfkfmjlppllfoaaGreatDoorSQ3a
set_option linter.unusedSectionVars false
set_option linter.unusedVariables false
set_option maxRecDepth 1000000
set_option maxHeartbeats 0
namespace Go.Proofs.YtfkfmjlppllfoaaGreatDoor.sq
open Go.X Go.RowKit
variable [Tab]
noncomputable def K_SQ4a : Hand := ((H_SQ3a).or ((H_SQ2a).or ((H_SQ1a).or H_SQ0a)))
theorem K_SQ4a_ok : HandOk Tryz.prog K_SQ4a := (HandOk.or H_SQ3a_ok (HandOk.or H_SQ2a_ok (HandOk.or H_SQ1a_ok H_SQ0a_ok)))

noncomputable def I10121 : In := ⟨52, [(.ptr 7164 0)], 10416, [(7162, (.map [] 0)), q13, q14, q15, q16, q17, q18, q19, q20, q21], (.ptr 13767 0), 13988, [(7162, (.map [] 0)), q13, q14, q15, q16, q17, q18, q19, q20, q21, (10416, (.map [((.str 19 2439265639030268300842157990401791553877467498), (.int .i64 0), 0), ((.str 28 12051447909911140811364177168575840195048631602135540194265359868266), (.int .i64 1), 1), ((.str 26 183890501555043540957095622503328518117729969598634276033028458), (.int .i64 2), 2)] 3)), (10417, (.cells 5 false [] (T.ofList 0 .leaf [(.ptr 7164 0), (.so 13985 0 8 1), (.so 13987 0 3 1), (.so 13984 0 3 3), (.map 10416)]))), (10420, (.map [] 0)), (10421, (.map [] 0)), (10422, (.cells 3 false [] (T.ofList 0 .leaf [(.ptr 7164 0), (.map 10420), (.map 10421)]))), (10423, (.cells 7 false [] (T.ofList 0 .leaf [(.ptr 10417 0), (.ptr 10419 0), (.ptr 7164 0), (.so 11137 0 39 3), .nils, (.bool false), (.bool false)]))), (13763, (.cells 4 false [] (T.ofList 0 .leaf [.nils, .nils, .nils, (.int .i64 0)]))), (13764, (.map [] 0)), (13765, (.map [] 0)), (13766, (.map [] 0)), (13767, (.cells 32 false [] (T.ofList 0 .leaf [(.ptr 7164 0), (.ptr 10422 0), (.ptr 10417 0), (.ptr 10419 0), (.ptr 10423 0), (.ptr 13763 0), .nils, (.map 13764), (.map 13765), .nils, (.int .i64 1), (.int .i64 3), (.int .i64 6), (.int .i64 0), .nilp, (.bool false), (.int .i64 0), (.int .i64 0), (.int .i64 0), (.int .i64 0), (.int .i64 0), (.int .i64 0), (.int .u8 0), (.int .i64 0), (.str 0 0), (.str 0 0), (.bool false), (.int .i64 0), .nils, (.int .i64 0), (.int .i64 0), (.map 13766)]))), (13984, (.cells 9 true [] (T.ofList 0 .leaf [(.str 19 2439265639030268300842157990401791553877467498), .nils, (.int .u8 0), (.str 28 12051447909911140811364177168575840195048631602135540194265359868266), (.so 13886 0 1 1), (.int .u8 0), (.str 26 183890501555043540957095622503328518117729969598634276033028458), (.so 13982 0 1 1), (.int .u8 0)]))), (13985, (.cells 8 true [] (T.ofList 0 .leaf [(.int .u64 0), (.int .u64 0), (.int .u64 1), (.int .u64 0), (.int .u64 0), (.int .u64 2), (.int .u64 0), (.int .u64 0)]))), (13987, (.cells 3 true [] (T.ofList 0 .leaf [(.int .i64 0), (.int .i64 2), (.int .i64 5)])))]⟩
theorem I10121_ok : InOk Tryz.prog I10121 := InOk.of_run (K := K_SQ4a) (n := 5000) mixed K_SQ4a_ok (by kernel_rfl) (by as_aux_lemma => kernel_rfl)

noncomputable def I3015 : In := ⟨52, [(.ptr 3 0)], 3255, [(1, (.map [] 0)), q32, q33, q34, q35, q36, q37, q38, q39, q40], (.ptr 6606 0), 6827, [(1, (.map [] 0)), q32, q33, q34, q35, q36, q37, q38, q39, q40, q22, (3258, (.cells 3 false [] (T.ofList 0 .leaf [(.ptr 3256 0), .nils, (.map 3257)]))), (3262, (.cells 7 false [] (T.ofList 0 .leaf [(.ptr 3256 0), (.ptr 3258 0), (.ptr 3 0), (.so 3976 0 39 3), .nils, (.bool false), (.bool false)]))), (6602, (.cells 4 false [] (T.ofList 0 .leaf [.nils, .nils, .nils, (.int .i64 0)]))), (6603, (.map [] 0)), (6606, (.cells 32 false [] (T.ofList 0 .leaf [(.ptr 3 0), (.ptr 3261 0), (.ptr 3256 0), (.ptr 3258 0), (.ptr 3262 0), (.ptr 6602 0), .nils, (.map 6603), (.map 6604), .nils, (.int .i64 1), (.int .i64 3), (.int .i64 6), (.int .i64 0), .nilp, (.bool false), (.int .i64 0), (.int .i64 0), (.int .i64 0), (.int .i64 0), (.int .i64 0), (.int .i64 0), (.int .u8 0), (.int .i64 0), (.str 0 0), (.str 0 0), (.bool false), (.int .i64 0), .nils, (.int .i64 0), (.int .i64 0), (.map 6605)]))), (6725, (.cells 1 true [] (T.ofList 0 .leaf [(.int .u8 76)]))), (6821, (.cells 1 true [] (T.ofList 0 .leaf [(.int .u8 76)]))), q23, q24, q25]⟩
theorem I3015_ok : InOk Tryz.prog I3015 := InOk.of_run (K := K_SQ4a) (n := 5000) mixed K_SQ4a_ok (by kernel_rfl) (by as_aux_lemma => kernel_rfl)
noncomputable def H_SQ4a : Hand := (Hand.at 52 ((inHand I3015).or (inHand I10121)))
theorem H_SQ4a_ok : HandOk Tryz.prog H_SQ4a := (HandOk.at 52 (HandOk.or (inHand_ok I3015_ok (by kernel_rfl)) (inHand_ok I10121_ok (by kernel_rfl))))
end Go.Proofs.YtfkfmjlppllfoaaGreatDoor.sq
