/-
  Contracts of calls, by the kernel.
-/
import Derived.Test.YtgejhjencodinaaGreatDoorXN3
import Derived.Test.YtgejhjencodinaaGreatDoorProg
import Derived.KernelRfl
import Derived.Test.YtgejhjencodinaaGreatDoorNT0a
import Derived.Test.YtgejhjencodinaaGreatDoorNT2a
set_option linter.unusedSectionVars false
set_option linter.unusedVariables false
set_option maxRecDepth 1000000
set_option maxHeartbeats 0
namespace Go.Proofs.YtgejhjencodinaaGreatDoor.nt
open Go.X Go.RowKit
variable [Tab]
noncomputable def K_NT3a : Hand := ((H_NT2a).or H_NT0a)
theorem K_NT3a_ok : HandOk Tryz.prog K_NT3a := (HandOk.or H_NT2a_ok H_NT0a_ok)

noncomputable def I65864 : In := ⟨25, [(.ptr 9899 0), (.str 26 183890501555043540957095622503328518117729969598634276033028458)], 13256, [(6644, (.map [] 0)), q0, q1, q2, q3, q4, q5, q8, (9898, (.map [] 0)), q18], (.int .i64 0), 13335, [(6644, (.map [] 0)), q0, q1, q2, q3, q4, q5, q8, q14, q19, (13332, (.cells 1 true [] (T.ofList 0 .leaf [(.int .u8 76)]))), q16]⟩
theorem I65864_ok : InOk Tryz.prog I65864 := InOk.of_run (K := K_NT3a) (n := 5000) mixed K_NT3a_ok (by kernel_rfl) (by as_aux_lemma => kernel_rfl)

noncomputable def I38789 : In := ⟨25, [(.ptr 9899 0), (.str 26 177462528906270532328520934635542489792491443287338843928682858)], 13256, [(6644, (.map [] 0)), q0, q1, q21, q3, q22, q5, q8, (9898, (.map [] 0)), q18], (.int .i64 0), 13335, [(6644, (.map [] 0)), q0, q1, q21, q3, q22, q5, q8, q25, q19, (13332, (.cells 1 true [] (T.ofList 0 .leaf [(.int .u8 76)]))), q26]⟩
theorem I38789_ok : InOk Tryz.prog I38789 := InOk.of_run (K := K_NT3a) (n := 5000) mixed K_NT3a_ok (by kernel_rfl) (by as_aux_lemma => kernel_rfl)

noncomputable def I12438 : In := ⟨25, [(.ptr 9899 0), (.str 19 2261816869159440624969593107871851903301607786)], 13252, [(6644, (.map [] 0)), q0, q1, q3, q5, q8, (9898, (.map [] 0)), q18], (.int .i64 0), 13323, [(6644, (.map [] 0)), q0, q1, q3, q5, q8, q31, (9899, (.cells 5 false [] (T.ofList 0 .leaf [(.ptr 6646 0), .nils, .nils, (.so 13322 0 1 3), (.map 9898)]))), (13320, (.cells 1 true [] (T.ofList 0 .leaf [(.int .u8 76)]))), q33]⟩
theorem I12438_ok : InOk Tryz.prog I12438 := InOk.of_run (K := K_NT3a) (n := 5000) mixed K_NT3a_ok (by kernel_rfl) (by as_aux_lemma => kernel_rfl)

noncomputable def S3133 : Sum := ⟨(.tup [.nils, (.agg [(.int .u8 76), (.str 16 137483774941304901841256615957136564586), (.int .i64 0), (.int .u8 0)]), (.bool true)]), 41, []⟩
theorem S3133_ok : SumOk Tryz.prog 102 [(.str 20 339137050467292191589805048747422779071890467112)] S3133 := SumOk.of_run (K := K_NT3a) (n := 5000) (keep := []) mixed K_NT3a_ok (by kernel_rfl) (by as_aux_lemma => kernel_rfl)

noncomputable def tab_NT3a : List (FuncId × SRows) := (102, [([(.str 20 339137050467292191589805048747422779071890467112)], S3133)]) :: []
theorem tab_NT3a_ok : TabOk Tryz.prog tab_NT3a := (TabOk.cons (RowsOk.cons S3133_ok RowsOk.nil) TabOk.nil)
noncomputable def H_NT3a : Hand := ((Hand.at 25 (Hand.sp 13256 (inHand I12438) ((inHand I38789).or (inHand I65864)))).or (sumsHand tab_NT3a))
theorem H_NT3a_ok : HandOk Tryz.prog H_NT3a := (HandOk.or (HandOk.at 25 (HandOk.sp 13256 (inHand_ok I12438_ok (by kernel_rfl)) (HandOk.or (inHand_ok I38789_ok (by kernel_rfl)) (inHand_ok I65864_ok (by kernel_rfl))))) (sumsHand_ok tab_NT3a_ok))
end Go.Proofs.YtgejhjencodinaaGreatDoor.nt
