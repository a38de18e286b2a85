/-
  Contracts of calls, by the kernel.
-/
import Derived.Test.YtnhgdcgeehcebaaGreatDoorXN3
import Derived.Test.YtnhgdcgeehcebaaGreatDoorProg
import Derived.KernelRfl
import Derived.Test.YtnhgdcgeehcebaaGreatDoorTQ0a
import Derived.Test.YtnhgdcgeehcebaaGreatDoorTQ1a
set_option linter.unusedSectionVars false
set_option linter.unusedVariables false
set_option maxRecDepth 1000000
set_option maxHeartbeats 0
namespace Go.Proofs.YtnhgdcgeehcebaaGreatDoor.tq
open Go.X Go.RowKit
variable [Tab]
noncomputable def K_TQ2a:Hand:=((H_TQ1a).or H_TQ0a)
theorem K_TQ2a_ok:HandOk Tryz.prog K_TQ2a:=(HandOk.or H_TQ1a_ok H_TQ0a_ok)
noncomputable def I42407:In:=⟨47,[(.ptr 14333 0)],21767,[q19,q20,q21,q10,q22,q23,q11,q12,q24,q25,q16,q17,q26,q27],(.bool true),21850,[q6,q8,q9,q10,q22,q23,q11,q12,q14,q15,q16,q17,q18]⟩
theorem I42407_ok:InOk Tryz.prog I42407:=InOk.of_run (K:=K_TQ2a) (n:=5000) mixed K_TQ2a_ok (by kernel_rfl) (by as_aux_lemma=>kernel_rfl)
noncomputable def I42217:In:=⟨47,[(.ptr 14333 0)],21536,[q42,q43,q44,q45,q6,q7,(14331,(.map [((.str 1 77),(.int .i64 0),0)] 1)),q46,q47,q10,q48,q22,q23,q11,q12,q13,q49,q50,q51,q17,q32],(.bool true),21630,[q42,q43,q44,q45,q28,q7,(14331,(.map [((.str 1 77),(.int .i64 0),0)] 1)),q38,q39,q10,q48,q22,q23,q11,q12,q13,q24,q40,q16,q17,q32,q41]⟩
theorem I42217_ok:InOk Tryz.prog I42217:=InOk.of_run (K:=K_TQ2a) (n:=5000) mixed K_TQ2a_ok (by kernel_rfl) (by as_aux_lemma=>kernel_rfl)
noncomputable def I19238:In:=⟨47,[(.ptr 14333 0)],21397,[q42,q43,q44,q45,q136,q0,(10986,(.map [((.str 1 77),(.int .i64 0),0)] 1)),(10987,(.map [] 1)),q137,q61,q7,q62,q63,q1,q2,q3,q105,q119,q138,q106,q107,q10,q48,q55,q56,q12,(21115,(.cells 2 false [] (T.ofList 0 .leaf [(.int .i64 2),.nils]))),q64,(21252,(.cells 6 false [] (T.ofList 0 .leaf [(.int .i64 0),(.int .i64 0),(.ptr 15191 0),(.int .i64 0),(.int .i64 8),.nilp]))),q51,q139,q66],(.bool true),21794,[q42,q43,q44,q45,q97,q137,q52,(14330,(.map [((.str 1 77),(.ptr 21110 0),0),((.str 16 154706541852025644484233205990057992554),(.ptr 21115 0),1),((.str 1 84),(.ptr 21448 0),2)] 3)),q53,q54,q105,q119,q138,q106,q107,q10,q48,q55,q56,q12,(21115,(.cells 2 false [] (T.ofList 0 .leaf [(.int .i64 2),.nils]))),q133,q134,q51,q135,q60,(21448,(.cells 2 false [] (T.ofList 0 .leaf [(.int .i64 2),(.sl 21682 0 2 2)]))),(21682,(.cells 2 false [(.int .i64 0)] .leaf)),(21760,(.cells 2 true [] (T.ofList 0 .leaf [(.int .u8 76),(.int .u8 76)]))),q98,q99,q100]⟩
theorem I19238_ok:InOk Tryz.prog I19238:=InOk.of_run (K:=K_TQ2a) (n:=5000) mixed K_TQ2a_ok (by kernel_rfl) (by as_aux_lemma=>kernel_rfl)
noncomputable def I17974:In:=⟨282,[(.ptr 7730 0),(.ptr 15191 0),(.int .i64 1)],19478,[q10,q48,q22,q142,q23,q12],(.tup [(.so 20609 0 14 3),(.bool true)]),20659,[q10,q48,q22,q142,q23,q12]⟩
theorem I17974_ok:InOk Tryz.prog I17974:=InOk.of_run (K:=K_TQ2a) (n:=5000) mixed K_TQ2a_ok (by kernel_rfl) (by as_aux_lemma=>kernel_rfl)
noncomputable def S15360:Sum:=⟨(.tup [(.so 5 0 1 4),(.agg [(.int .u8 76),(.str 1 84),(.int .i64 0),(.int .u8 0)]),(.bool true)]),16,[q144]⟩
theorem S15360_ok:SumOk Tryz.prog 111 [(.str 6 65233241065768)] S15360:=SumOk.of_run (K:=K_TQ2a) (n:=5000) (keep:=[5]) mixed K_TQ2a_ok (by kernel_rfl) (by as_aux_lemma=>kernel_rfl)
noncomputable def I14001:In:=⟨63,[(.ptr 14623 0)],14624,[q150,(14621,(.cells 3 false [] (T.ofList 0 .leaf [(.so 14620 0 138 1),(.int .i64 0),(.bool false)]))),(14622,(.cells 8 false [] (T.ofList 0 .leaf [(.int .i64 52),.nils,(.int .i64 0),(.str 0 0),(.str 0 0),.nils,.nils,.nils]))),q151],(.tup []),15107,[q150,q105,q151,q119,q138,q106,q107]⟩
theorem I14001_ok:InOk Tryz.prog I14001:=InOk.of_run (K:=K_TQ2a) (n:=5000) mixed K_TQ2a_ok (by kernel_rfl) (by as_aux_lemma=>kernel_rfl)
noncomputable def S4909:Sum:=⟨(.tup [(.agg [(.int .u8 76),(.str 23 10956966084090815260342509131105871416374185281426186602),(.int .i64 0),(.int .u8 0)]),(.int .i64 25)]),52,[]⟩
theorem S4909_ok:SumOk Tryz.prog 203 [(.str 25 373153985705341413772959258306815421632630762655423140031052)] S4909:=SumOk.of_run (K:=K_TQ2a) (n:=5000) (keep:=[]) mixed K_TQ2a_ok (by kernel_rfl) (by as_aux_lemma=>kernel_rfl)
noncomputable def S4708:Sum:=⟨(.tup [(.so 5 0 1 4),(.agg [(.int .u8 76),(.str 16 137483774941304901841256615957136564586),(.int .i64 0),(.int .u8 0)]),(.bool true)]),46,[q265]⟩
theorem S4708_ok:SumOk Tryz.prog 111 [(.str 21 86819084919626801046990092479340231442403959593512)] S4708:=SumOk.of_run (K:=K_TQ2a) (n:=5000) (keep:=[5]) mixed K_TQ2a_ok (by kernel_rfl) (by as_aux_lemma=>kernel_rfl)
noncomputable def S4602:Sum:=⟨(.tup [(.so 5 0 1 4),(.agg [(.int .u8 76),(.str 16 137483774941304901841256615957136564586),(.int .i64 0),(.int .u8 0)]),(.bool true)]),46,[q266]⟩
theorem S4602_ok:SumOk Tryz.prog 111 [(.str 21 86819084919626801046990092479340231442403959587624)] S4602:=SumOk.of_run (K:=K_TQ2a) (n:=5000) (keep:=[5]) mixed K_TQ2a_ok (by kernel_rfl) (by as_aux_lemma=>kernel_rfl)
noncomputable def S4497:Sum:=⟨(.tup [(.so 5 0 1 4),(.agg [(.int .u8 76),(.str 16 137483774941304901841256615957136564586),(.int .i64 0),(.int .u8 0)]),(.bool true)]),46,[q267]⟩
theorem S4497_ok:SumOk Tryz.prog 111 [(.str 21 86819084919626801046990092479340231442403959589416)] S4497:=SumOk.of_run (K:=K_TQ2a) (n:=5000) (keep:=[5]) mixed K_TQ2a_ok (by kernel_rfl) (by as_aux_lemma=>kernel_rfl)
noncomputable def S4393:Sum:=⟨(.tup [(.so 5 0 1 4),(.agg [(.int .u8 76),(.str 16 137483774941304901841256615957136564586),(.int .i64 0),(.int .u8 0)]),(.bool true)]),46,[q144]⟩
theorem S4393_ok:SumOk Tryz.prog 111 [(.str 21 86819084919626801046990092479340231442403959589160)] S4393:=SumOk.of_run (K:=K_TQ2a) (n:=5000) (keep:=[5]) mixed K_TQ2a_ok (by kernel_rfl) (by as_aux_lemma=>kernel_rfl)
noncomputable def S3926:Sum:=⟨(.tup [(.so 40 0 1 4),(.agg [(.int .u8 76),(.str 16 137483774941304901841256615957136564586),(.int .i64 0),(.int .u8 0)]),(.bool true)]),81,[q268]⟩
theorem S3926_ok:SumOk Tryz.prog 111 [(.str 38 7563008949852303964789352941943798567979605024965410989119580465925847369046121658274434088)] S3926:=SumOk.of_run (K:=K_TQ2a) (n:=5000) (keep:=[40]) mixed K_TQ2a_ok (by kernel_rfl) (by as_aux_lemma=>kernel_rfl)
noncomputable def tab_TQ2a:List (FuncId×SRows):=(203,[([(.str 25 373153985705341413772959258306815421632630762655423140031052)],S4909)])::(111,[([(.str 6 65233241065768)],S15360),([(.str 21 86819084919626801046990092479340231442403959593512)],S4708),([(.str 21 86819084919626801046990092479340231442403959587624)],S4602),([(.str 21 86819084919626801046990092479340231442403959589416)],S4497),([(.str 21 86819084919626801046990092479340231442403959589160)],S4393),([(.str 38 7563008949852303964789352941943798567979605024965410989119580465925847369046121658274434088)],S3926)])::[]
theorem tab_TQ2a_ok:TabOk Tryz.prog tab_TQ2a:=(TabOk.cons (RowsOk.cons S4909_ok RowsOk.nil) (TabOk.cons (RowsOk.cons S15360_ok (RowsOk.cons S4708_ok (RowsOk.cons S4602_ok (RowsOk.cons S4497_ok (RowsOk.cons S4393_ok (RowsOk.cons S3926_ok RowsOk.nil)))))) TabOk.nil))
noncomputable def H_TQ2a:Hand:=(((Hand.at 63 (inHand I14001)).or ((Hand.at 282 (inHand I17974)).or (Hand.at 47 (Hand.sp 21536 (inHand I19238) ((inHand I42407).or (inHand I42217)))))).or (sumsHand tab_TQ2a))
theorem H_TQ2a_ok:HandOk Tryz.prog H_TQ2a:=(HandOk.or (HandOk.or (HandOk.at 63 (inHand_ok I14001_ok (by kernel_rfl))) (HandOk.or (HandOk.at 282 (inHand_ok I17974_ok (by kernel_rfl))) (HandOk.at 47 (HandOk.sp 21536 (inHand_ok I19238_ok (by kernel_rfl)) (HandOk.or (inHand_ok I42407_ok (by kernel_rfl)) (inHand_ok I42217_ok (by kernel_rfl))))))) (sumsHand_ok tab_TQ2a_ok))
end Go.Proofs.YtnhgdcgeehcebaaGreatDoor.tq
