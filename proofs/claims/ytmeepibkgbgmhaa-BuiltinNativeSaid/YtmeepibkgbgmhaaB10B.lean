import Derived.Test.YtmeepibkgbgmhaaXSum
import Derived.Test.YtmeepibkgbgmhaaChecked
import Derived.KernelRfl
import Derived.Test.YtmeepibkgbgmhaaB10A
set_option linter.unusedSectionVars false
set_option maxRecDepth 1000000
namespace Go.Proofs.Ytmeepibkgbgmhaa
open Go.X
variable [Tab]

def B_0 : Sum := ⟨(.str 0 0), 1, []⟩
theorem B_0_ok : SumOk Try.prog 15 [(.int .i64 (-1))] B_0 := SumOk.of_run (K := (sumsHand tabA)) (n := 400) (keep := []) mixed (sumsHand_ok tabA_ok) (by kernel_rfl) (by kernel_rfl)

def B_1 : Sum := ⟨(.str 0 0), 1, []⟩
theorem B_1_ok : SumOk Try.prog 15 [(.int .i64 0)] B_1 := SumOk.of_run (K := (sumsHand tabA)) (n := 400) (keep := []) mixed (sumsHand_ok tabA_ok) (by kernel_rfl) (by kernel_rfl)

def B_2 : Sum := ⟨(.str 26 183890501555036136351903328603364899342229922045770665733546346), 1, []⟩
theorem B_2_ok : SumOk Try.prog 15 [(.int .i64 1)] B_2 := SumOk.of_run (K := (sumsHand tabA)) (n := 400) (keep := []) mixed (sumsHand_ok tabA_ok) (by kernel_rfl) (by kernel_rfl)

def B_3 : Sum := ⟨(.str 38 14569306542031293471471962209605688152784288289213751582725315083544705153644676387098222954), 1, []⟩
theorem B_3_ok : SumOk Try.prog 15 [(.int .i64 2)] B_3 := SumOk.of_run (K := (sumsHand tabA)) (n := 400) (keep := []) mixed (sumsHand_ok tabA_ok) (by kernel_rfl) (by kernel_rfl)

def B_4 : Sum := ⟨(.str 30 789803690223817235625993454897404583541813632134065715887439951296881002), 1, []⟩
theorem B_4_ok : SumOk Try.prog 15 [(.int .i64 3)] B_4 := SumOk.of_run (K := (sumsHand tabA)) (n := 400) (keep := []) mixed (sumsHand_ok tabA_ok) (by kernel_rfl) (by kernel_rfl)

def B_5 : Sum := ⟨(.str 31 202189744697330995387852485397630371027294446829100397077902765524415570282), 1, []⟩
theorem B_5_ok : SumOk Try.prog 15 [(.int .i64 4)] B_5 := SumOk.of_run (K := (sumsHand tabA)) (n := 400) (keep := []) mixed (sumsHand_ok tabA_ok) (by kernel_rfl) (by kernel_rfl)

def B_6 : Sum := ⟨(.str 38 14569306542030247732875768419210667608278730874565438596096215620376147580735894642209743210), 1, []⟩
theorem B_6_ok : SumOk Try.prog 15 [(.int .i64 5)] B_6 := SumOk.of_run (K := (sumsHand tabA)) (n := 400) (keep := []) mixed (sumsHand_ok tabA_ok) (by kernel_rfl) (by kernel_rfl)

def B_7 : Sum := ⟨(.str 22 42815343838886881203639546329033052610660173325164906), 1, []⟩
theorem B_7_ok : SumOk Try.prog 15 [(.int .i64 6)] B_7 := SumOk.of_run (K := (sumsHand tabA)) (n := 400) (keep := []) mixed (sumsHand_ok tabA_ok) (by kernel_rfl) (by kernel_rfl)

def B_8 : Sum := ⟨(.str 21 167247436870678459232146883126634948762985622298986), 1, []⟩
theorem B_8_ok : SumOk Try.prog 15 [(.int .i64 7)] B_8 := SumOk.of_run (K := (sumsHand tabA)) (n := 400) (keep := []) mixed (sumsHand_ok tabA_ok) (by kernel_rfl) (by kernel_rfl)

def B_9 : Sum := ⟨(.str 26 183890501555012814945400634590948384637649511452497603397575018), 1, []⟩
theorem B_9_ok : SumOk Try.prog 15 [(.int .i64 8)] B_9 := SumOk.of_run (K := (sumsHand tabA)) (n := 400) (keep := []) mixed (sumsHand_ok tabA_ok) (by kernel_rfl) (by kernel_rfl)

def B_10 : Sum := ⟨(.str 27 47075968398083285027902446257440240237115773113246055769402925418), 1, []⟩
theorem B_10_ok : SumOk Try.prog 15 [(.int .i64 9)] B_10 := SumOk.of_run (K := (sumsHand tabA)) (n := 400) (keep := []) mixed (sumsHand_ok tabA_ok) (by kernel_rfl) (by kernel_rfl)

def B_11 : Sum := ⟨(.str 28 12051447909910759173808661238977857107111767888823090726697178653034), 1, []⟩
theorem B_11_ok : SumOk Try.prog 15 [(.int .i64 10)] B_11 := SumOk.of_run (K := (sumsHand tabA)) (n := 400) (keep := []) mixed (sumsHand_ok tabA_ok) (by kernel_rfl) (by kernel_rfl)

def B_12 : Sum := ⟨(.str 29 3085170664936786167588614718972924591866388410301586339335837578584426), 1, []⟩
theorem B_12_ok : SumOk Try.prog 15 [(.int .i64 11)] B_12 := SumOk.of_run (K := (sumsHand tabA)) (n := 400) (keep := []) mixed (sumsHand_ok tabA_ok) (by kernel_rfl) (by kernel_rfl)

def B_13 : Sum := ⟨(.str 28 12051447909910278778317482300033197087305720853520054876288643916138), 1, []⟩
theorem B_13_ok : SumOk Try.prog 15 [(.int .i64 12)] B_13 := SumOk.of_run (K := (sumsHand tabA)) (n := 400) (keep := []) mixed (sumsHand_ok tabA_ok) (by kernel_rfl) (by kernel_rfl)

def B_14 : Sum := ⟨(.str 37 56911353679811531822920492603033782110087255578636309514658723732473720363105297718731114), 1, []⟩
theorem B_14_ok : SumOk Try.prog 15 [(.int .i64 13)] B_14 := SumOk.of_run (K := (sumsHand tabA)) (n := 400) (keep := []) mixed (sumsHand_ok tabA_ok) (by kernel_rfl) (by kernel_rfl)

def B_15 : Sum := ⟨(.str 28 12051447909911140811364177168575840195048631602135540194265359868266), 1, []⟩
theorem B_15_ok : SumOk Try.prog 15 [(.int .i64 14)] B_15 := SumOk.of_run (K := (sumsHand tabA)) (n := 400) (keep := []) mixed (sumsHand_ok tabA_ok) (by kernel_rfl) (by kernel_rfl)

def B_16 : Sum := ⟨(.str 26 183890501555043540957095622503328518117729969598634276033028458), 1, []⟩
theorem B_16_ok : SumOk Try.prog 15 [(.int .i64 15)] B_16 := SumOk.of_run (K := (sumsHand tabA)) (n := 400) (keep := []) mixed (sumsHand_ok tabA_ok) (by kernel_rfl) (by kernel_rfl)

def B_17 : Sum := ⟨(.str 29 2977327179366744475310567174670984700336777289692309623825572795146602), 1, []⟩
theorem B_17_ok : SumOk Try.prog 15 [(.int .i64 16)] B_17 := SumOk.of_run (K := (sumsHand tabA)) (n := 400) (keep := []) mixed (sumsHand_ok tabA_ok) (by kernel_rfl) (by kernel_rfl)

def B_18 : Sum := ⟨(.str 30 762195757917886585679527096405151622096281774544538073876077408773628266), 1, []⟩
theorem B_18_ok : SumOk Try.prog 15 [(.int .i64 17)] B_18 := SumOk.of_run (K := (sumsHand tabA)) (n := 400) (keep := []) mixed (sumsHand_ok tabA_ok) (by kernel_rfl) (by kernel_rfl)

def B_19 : Sum := ⟨(.str 40 921438131347674524995356669863897659779420152864154109574888483886346161678995665599280333611370), 1, []⟩
theorem B_19_ok : SumOk Try.prog 15 [(.int .i64 18)] B_19 := SumOk.of_run (K := (sumsHand tabA)) (n := 400) (keep := []) mixed (sumsHand_ok tabA_ok) (by kernel_rfl) (by kernel_rfl)

def B_20 : Sum := ⟨(.str 36 214539033208897925213755128370838752992305990670598911423725060199978812837976799076714), 1, []⟩
theorem B_20_ok : SumOk Try.prog 15 [(.int .i64 19)] B_20 := SumOk.of_run (K := (sumsHand tabA)) (n := 400) (keep := []) mixed (sumsHand_ok tabA_ok) (by kernel_rfl) (by kernel_rfl)

def B_21 : Sum := ⟨(.str 28 11630184294401345606682283003339240975915084228737354846334270988650), 1, []⟩
theorem B_21_ok : SumOk Try.prog 15 [(.int .i64 20)] B_21 := SumOk.of_run (K := (sumsHand tabA)) (n := 400) (keep := []) mixed (sumsHand_ok tabA_ok) (by kernel_rfl) (by kernel_rfl)

def B_22 : Sum := ⟨(.str 29 2977327179366744475310578792928741468592950331792981622238945052352874), 1, []⟩
theorem B_22_ok : SumOk Try.prog 15 [(.int .i64 21)] B_22 := SumOk.of_run (K := (sumsHand tabA)) (n := 400) (keep := []) mixed (sumsHand_ok tabA_ok) (by kernel_rfl) (by kernel_rfl)

def B_23 : Sum := ⟨(.str 38 14060030080378334426808655457799320232265086119729716606675995945190890063755479020322840938), 1, []⟩
theorem B_23_ok : SumOk Try.prog 15 [(.int .i64 22)] B_23 := SumOk.of_run (K := (sumsHand tabA)) (n := 400) (keep := []) mixed (sumsHand_ok tabA_ok) (by kernel_rfl) (by kernel_rfl)

def B_24 : Sum := ⟨(.str 41 235888161625004678398811307485157800903531559133223452051171428016118026562849321940164899390251370), 1, []⟩
theorem B_24_ok : SumOk Try.prog 15 [(.int .i64 23)] B_24 := SumOk.of_run (K := (sumsHand tabA)) (n := 400) (keep := []) mixed (sumsHand_ok tabA_ok) (by kernel_rfl) (by kernel_rfl)

def B_25 : Sum := ⟨(.str 0 0), 1, []⟩
theorem B_25_ok : SumOk Try.prog 15 [(.int .i64 24)] B_25 := SumOk.of_run (K := (sumsHand tabA)) (n := 400) (keep := []) mixed (sumsHand_ok tabA_ok) (by kernel_rfl) (by kernel_rfl)

def B_26 : Sum := ⟨(.str 0 0), 1, []⟩
theorem B_26_ok : SumOk Try.prog 15 [(.int .i64 25)] B_26 := SumOk.of_run (K := (sumsHand tabA)) (n := 400) (keep := []) mixed (sumsHand_ok tabA_ok) (by kernel_rfl) (by kernel_rfl)

def B_27 : Sum := ⟨(.str 0 0), 1, []⟩
theorem B_27_ok : SumOk Try.prog 15 [(.int .i64 26)] B_27 := SumOk.of_run (K := (sumsHand tabA)) (n := 400) (keep := []) mixed (sumsHand_ok tabA_ok) (by kernel_rfl) (by kernel_rfl)

def B_28 : Sum := ⟨(.str 0 0), 1, []⟩
theorem B_28_ok : SumOk Try.prog 15 [(.int .i64 27)] B_28 := SumOk.of_run (K := (sumsHand tabA)) (n := 400) (keep := []) mixed (sumsHand_ok tabA_ok) (by kernel_rfl) (by kernel_rfl)

def B_29 : Sum := ⟨(.str 0 0), 1, []⟩
theorem B_29_ok : SumOk Try.prog 15 [(.int .i64 28)] B_29 := SumOk.of_run (K := (sumsHand tabA)) (n := 400) (keep := []) mixed (sumsHand_ok tabA_ok) (by kernel_rfl) (by kernel_rfl)

def B_30 : Sum := ⟨(.str 0 0), 1, []⟩
theorem B_30_ok : SumOk Try.prog 15 [(.int .i64 29)] B_30 := SumOk.of_run (K := (sumsHand tabA)) (n := 400) (keep := []) mixed (sumsHand_ok tabA_ok) (by kernel_rfl) (by kernel_rfl)

def B_31 : Sum := ⟨(.str 0 0), 1, []⟩
theorem B_31_ok : SumOk Try.prog 16 [(.int .i64 (-1))] B_31 := SumOk.of_run (K := (sumsHand tabA)) (n := 400) (keep := []) mixed (sumsHand_ok tabA_ok) (by kernel_rfl) (by kernel_rfl)

def B_32 : Sum := ⟨(.str 0 0), 1, []⟩
theorem B_32_ok : SumOk Try.prog 16 [(.int .i64 0)] B_32 := SumOk.of_run (K := (sumsHand tabA)) (n := 400) (keep := []) mixed (sumsHand_ok tabA_ok) (by kernel_rfl) (by kernel_rfl)

def B_33 : Sum := ⟨(.str 26 183890501555036136351903328603364899342229922045770665733546346), 1, []⟩
theorem B_33_ok : SumOk Try.prog 16 [(.int .i64 1)] B_33 := SumOk.of_run (K := (sumsHand tabA)) (n := 400) (keep := []) mixed (sumsHand_ok tabA_ok) (by kernel_rfl) (by kernel_rfl)

def B_34 : Sum := ⟨(.str 38 14569306542031293471471962209605688152784288289213751582725315083544705153644676387098222954), 1, []⟩
theorem B_34_ok : SumOk Try.prog 16 [(.int .i64 2)] B_34 := SumOk.of_run (K := (sumsHand tabA)) (n := 400) (keep := []) mixed (sumsHand_ok tabA_ok) (by kernel_rfl) (by kernel_rfl)

def B_35 : Sum := ⟨(.str 30 789803690223817235625993454897404583541813632134065715887439951296881002), 1, []⟩
theorem B_35_ok : SumOk Try.prog 16 [(.int .i64 3)] B_35 := SumOk.of_run (K := (sumsHand tabA)) (n := 400) (keep := []) mixed (sumsHand_ok tabA_ok) (by kernel_rfl) (by kernel_rfl)

def B_36 : Sum := ⟨(.str 31 202189744697330995387852485397630371027294446829100397077902765524415570282), 1, []⟩
theorem B_36_ok : SumOk Try.prog 16 [(.int .i64 4)] B_36 := SumOk.of_run (K := (sumsHand tabA)) (n := 400) (keep := []) mixed (sumsHand_ok tabA_ok) (by kernel_rfl) (by kernel_rfl)

def B_37 : Sum := ⟨(.str 38 14569306542030247732875768419210667608278730874565438596096215620376147580735894642209743210), 1, []⟩
theorem B_37_ok : SumOk Try.prog 16 [(.int .i64 5)] B_37 := SumOk.of_run (K := (sumsHand tabA)) (n := 400) (keep := []) mixed (sumsHand_ok tabA_ok) (by kernel_rfl) (by kernel_rfl)

def B_38 : Sum := ⟨(.str 22 42815343838886881203639546329033052610660173325164906), 1, []⟩
theorem B_38_ok : SumOk Try.prog 16 [(.int .i64 6)] B_38 := SumOk.of_run (K := (sumsHand tabA)) (n := 400) (keep := []) mixed (sumsHand_ok tabA_ok) (by kernel_rfl) (by kernel_rfl)

def B_39 : Sum := ⟨(.str 21 167247436870678459232146883126634948762985622298986), 1, []⟩
theorem B_39_ok : SumOk Try.prog 16 [(.int .i64 7)] B_39 := SumOk.of_run (K := (sumsHand tabA)) (n := 400) (keep := []) mixed (sumsHand_ok tabA_ok) (by kernel_rfl) (by kernel_rfl)

def B_40 : Sum := ⟨(.str 26 183890501555012814945400634590948384637649511452497603397575018), 1, []⟩
theorem B_40_ok : SumOk Try.prog 16 [(.int .i64 8)] B_40 := SumOk.of_run (K := (sumsHand tabA)) (n := 400) (keep := []) mixed (sumsHand_ok tabA_ok) (by kernel_rfl) (by kernel_rfl)

def B_41 : Sum := ⟨(.str 27 47075968398083285027902446257440240237115773113246055769402925418), 1, []⟩
theorem B_41_ok : SumOk Try.prog 16 [(.int .i64 9)] B_41 := SumOk.of_run (K := (sumsHand tabA)) (n := 400) (keep := []) mixed (sumsHand_ok tabA_ok) (by kernel_rfl) (by kernel_rfl)

def B_42 : Sum := ⟨(.str 28 12051447909910759173808661238977857107111767888823090726697178653034), 1, []⟩
theorem B_42_ok : SumOk Try.prog 16 [(.int .i64 10)] B_42 := SumOk.of_run (K := (sumsHand tabA)) (n := 400) (keep := []) mixed (sumsHand_ok tabA_ok) (by kernel_rfl) (by kernel_rfl)

def B_43 : Sum := ⟨(.str 29 3085170664936786167588614718972924591866388410301586339335837578584426), 1, []⟩
theorem B_43_ok : SumOk Try.prog 16 [(.int .i64 11)] B_43 := SumOk.of_run (K := (sumsHand tabA)) (n := 400) (keep := []) mixed (sumsHand_ok tabA_ok) (by kernel_rfl) (by kernel_rfl)

def B_44 : Sum := ⟨(.str 28 12051447909910278778317482300033197087305720853520054876288643916138), 1, []⟩
theorem B_44_ok : SumOk Try.prog 16 [(.int .i64 12)] B_44 := SumOk.of_run (K := (sumsHand tabA)) (n := 400) (keep := []) mixed (sumsHand_ok tabA_ok) (by kernel_rfl) (by kernel_rfl)

def B_45 : Sum := ⟨(.str 37 56911353679811531822920492603033782110087255578636309514658723732473720363105297718731114), 1, []⟩
theorem B_45_ok : SumOk Try.prog 16 [(.int .i64 13)] B_45 := SumOk.of_run (K := (sumsHand tabA)) (n := 400) (keep := []) mixed (sumsHand_ok tabA_ok) (by kernel_rfl) (by kernel_rfl)

def B_46 : Sum := ⟨(.str 28 12051447909911140811364177168575840195048631602135540194265359868266), 1, []⟩
theorem B_46_ok : SumOk Try.prog 16 [(.int .i64 14)] B_46 := SumOk.of_run (K := (sumsHand tabA)) (n := 400) (keep := []) mixed (sumsHand_ok tabA_ok) (by kernel_rfl) (by kernel_rfl)

def B_47 : Sum := ⟨(.str 26 183890501555043540957095622503328518117729969598634276033028458), 1, []⟩
theorem B_47_ok : SumOk Try.prog 16 [(.int .i64 15)] B_47 := SumOk.of_run (K := (sumsHand tabA)) (n := 400) (keep := []) mixed (sumsHand_ok tabA_ok) (by kernel_rfl) (by kernel_rfl)

def B_48 : Sum := ⟨(.str 29 2977327179366744475310567174670984700336777289692309623825572795146602), 1, []⟩
theorem B_48_ok : SumOk Try.prog 16 [(.int .i64 16)] B_48 := SumOk.of_run (K := (sumsHand tabA)) (n := 400) (keep := []) mixed (sumsHand_ok tabA_ok) (by kernel_rfl) (by kernel_rfl)

def B_49 : Sum := ⟨(.str 30 762195757917886585679527096405151622096281774544538073876077408773628266), 1, []⟩
theorem B_49_ok : SumOk Try.prog 16 [(.int .i64 17)] B_49 := SumOk.of_run (K := (sumsHand tabA)) (n := 400) (keep := []) mixed (sumsHand_ok tabA_ok) (by kernel_rfl) (by kernel_rfl)

def B_50 : Sum := ⟨(.str 40 921438131347674524995356669863897659779420152864154109574888483886346161678995665599280333611370), 1, []⟩
theorem B_50_ok : SumOk Try.prog 16 [(.int .i64 18)] B_50 := SumOk.of_run (K := (sumsHand tabA)) (n := 400) (keep := []) mixed (sumsHand_ok tabA_ok) (by kernel_rfl) (by kernel_rfl)

def B_51 : Sum := ⟨(.str 36 214539033208897925213755128370838752992305990670598911423725060199978812837976799076714), 1, []⟩
theorem B_51_ok : SumOk Try.prog 16 [(.int .i64 19)] B_51 := SumOk.of_run (K := (sumsHand tabA)) (n := 400) (keep := []) mixed (sumsHand_ok tabA_ok) (by kernel_rfl) (by kernel_rfl)

def B_52 : Sum := ⟨(.str 28 11630184294401345606682283003339240975915084228737354846334270988650), 1, []⟩
theorem B_52_ok : SumOk Try.prog 16 [(.int .i64 20)] B_52 := SumOk.of_run (K := (sumsHand tabA)) (n := 400) (keep := []) mixed (sumsHand_ok tabA_ok) (by kernel_rfl) (by kernel_rfl)

def B_53 : Sum := ⟨(.str 29 2977327179366744475310578792928741468592950331792981622238945052352874), 1, []⟩
theorem B_53_ok : SumOk Try.prog 16 [(.int .i64 21)] B_53 := SumOk.of_run (K := (sumsHand tabA)) (n := 400) (keep := []) mixed (sumsHand_ok tabA_ok) (by kernel_rfl) (by kernel_rfl)

def B_54 : Sum := ⟨(.str 38 14060030080378334426808655457799320232265086119729716606675995945190890063755479020322840938), 1, []⟩
theorem B_54_ok : SumOk Try.prog 16 [(.int .i64 22)] B_54 := SumOk.of_run (K := (sumsHand tabA)) (n := 400) (keep := []) mixed (sumsHand_ok tabA_ok) (by kernel_rfl) (by kernel_rfl)

def B_55 : Sum := ⟨(.str 41 235888161625004678398811307485157800903531559133223452051171428016118026562849321940164899390251370), 1, []⟩
theorem B_55_ok : SumOk Try.prog 16 [(.int .i64 23)] B_55 := SumOk.of_run (K := (sumsHand tabA)) (n := 400) (keep := []) mixed (sumsHand_ok tabA_ok) (by kernel_rfl) (by kernel_rfl)

def B_56 : Sum := ⟨(.str 0 0), 1, []⟩
theorem B_56_ok : SumOk Try.prog 16 [(.int .i64 24)] B_56 := SumOk.of_run (K := (sumsHand tabA)) (n := 400) (keep := []) mixed (sumsHand_ok tabA_ok) (by kernel_rfl) (by kernel_rfl)

def B_57 : Sum := ⟨(.str 0 0), 1, []⟩
theorem B_57_ok : SumOk Try.prog 16 [(.int .i64 25)] B_57 := SumOk.of_run (K := (sumsHand tabA)) (n := 400) (keep := []) mixed (sumsHand_ok tabA_ok) (by kernel_rfl) (by kernel_rfl)

def B_58 : Sum := ⟨(.str 0 0), 1, []⟩
theorem B_58_ok : SumOk Try.prog 16 [(.int .i64 26)] B_58 := SumOk.of_run (K := (sumsHand tabA)) (n := 400) (keep := []) mixed (sumsHand_ok tabA_ok) (by kernel_rfl) (by kernel_rfl)

def B_59 : Sum := ⟨(.str 0 0), 1, []⟩
theorem B_59_ok : SumOk Try.prog 16 [(.int .i64 27)] B_59 := SumOk.of_run (K := (sumsHand tabA)) (n := 400) (keep := []) mixed (sumsHand_ok tabA_ok) (by kernel_rfl) (by kernel_rfl)

def B_60 : Sum := ⟨(.str 0 0), 1, []⟩
theorem B_60_ok : SumOk Try.prog 16 [(.int .i64 28)] B_60 := SumOk.of_run (K := (sumsHand tabA)) (n := 400) (keep := []) mixed (sumsHand_ok tabA_ok) (by kernel_rfl) (by kernel_rfl)

def B_61 : Sum := ⟨(.str 0 0), 1, []⟩
theorem B_61_ok : SumOk Try.prog 16 [(.int .i64 29)] B_61 := SumOk.of_run (K := (sumsHand tabA)) (n := 400) (keep := []) mixed (sumsHand_ok tabA_ok) (by kernel_rfl) (by kernel_rfl)

def B_62 : Sum := ⟨(.so 2 0 3 3), 3, [(2, (.cells 9 true [] (.node (.node (.node (.node .leaf (.some (.str 20 339137050467292191589805048747422779071890467112)) .leaf) (.some (.str 6 68669705972028)) .leaf) (.some (.str 3 5646632)) (.node .leaf (.some (.bool false)) .leaf)) (.some (.str 6 68669705972028)) (.node (.node (.node .leaf (.some (.bool false)) .leaf) (.some (.str 21 125924534186164816246133852188561726513007718714408)) .leaf) (.some (.bool false)) (.node .leaf (.some (.str 10 478866051492549179499879)) .leaf)))))]⟩
theorem B_62_ok : SumOk Try.prog 28 [(.str 19 2261816869159440624969593107871851903301607786)] B_62 := SumOk.of_run (K := (sumsHand tabA)) (n := 400) (keep := [2]) mixed (sumsHand_ok tabA_ok) (by kernel_rfl) (by kernel_rfl)

def B_63 : Sum := ⟨(.sl 0 0 2 2), 1, [(0, (.cells 6 false [] (.node (.node (.node .leaf (.some (.str 6 68669705972028)) .leaf) (.some (.str 3 5646632)) (.node .leaf (.some (.bool false)) .leaf)) (.some (.str 6 68669705972028)) (.node (.node .leaf (.some (.str 21 125924534186164816246133852188561726513007718714408)) .leaf) (.some (.bool false)) .leaf))))]⟩
theorem B_63_ok : SumOk Try.prog 28 [(.str 19 2462787319999361794871408518597065734545105258)] B_63 := SumOk.of_run (K := (sumsHand tabA)) (n := 400) (keep := [0]) mixed (sumsHand_ok tabA_ok) (by kernel_rfl) (by kernel_rfl)

def B_64 : Sum := ⟨(.sl 0 0 2 2), 1, [(0, (.cells 6 false [] (.node (.node (.node .leaf (.some (.str 6 68669705972028)) .leaf) (.some (.str 3 5646632)) (.node .leaf (.some (.bool false)) .leaf)) (.some (.str 6 68669705972028)) (.node (.node .leaf (.some (.str 21 125924534186164816246133852188561726513007718714408)) .leaf) (.some (.bool false)) .leaf))))]⟩
theorem B_64_ok : SumOk Try.prog 28 [(.str 15 594182256714433171583859471190221162)] B_64 := SumOk.of_run (K := (sumsHand tabA)) (n := 400) (keep := [0]) mixed (sumsHand_ok tabA_ok) (by kernel_rfl) (by kernel_rfl)

def B_65 : Sum := ⟨(.sl 0 0 2 2), 1, [(0, (.cells 6 false [] (.node (.node (.node .leaf (.some (.str 6 68669705972028)) .leaf) (.some (.str 3 5646632)) (.node .leaf (.some (.bool false)) .leaf)) (.some (.str 6 68669705972028)) (.node (.node .leaf (.some (.str 21 125924534186164816246133852188561726513007718714408)) .leaf) (.some (.bool false)) .leaf))))]⟩
theorem B_65_ok : SumOk Try.prog 28 [(.str 26 177462528906270532328520934635542489792491443287338843928682858)] B_65 := SumOk.of_run (K := (sumsHand tabA)) (n := 400) (keep := [0]) mixed (sumsHand_ok tabA_ok) (by kernel_rfl) (by kernel_rfl)

def B_66 : Sum := ⟨(.sl 0 0 2 2), 1, [(0, (.cells 6 false [] (.node (.node (.node .leaf (.some (.str 6 68669705972028)) .leaf) (.some (.str 3 5646632)) (.node .leaf (.some (.bool false)) .leaf)) (.some (.str 6 68669705972028)) (.node (.node .leaf (.some (.str 21 125924534186164816246133852188561726513007718714408)) .leaf) (.some (.bool false)) .leaf))))]⟩
theorem B_66_ok : SumOk Try.prog 28 [(.str 35 838043098472257520366253329360822735706660890049674080341799799296269125818196058474)] B_66 := SumOk.of_run (K := (sumsHand tabA)) (n := 400) (keep := [0]) mixed (sumsHand_ok tabA_ok) (by kernel_rfl) (by kernel_rfl)

def B_67 : Sum := ⟨(.sl 0 0 2 2), 1, [(0, (.cells 6 false [] (.node (.node (.node .leaf (.some (.str 6 68669705972028)) .leaf) (.some (.str 3 5646632)) (.node .leaf (.some (.bool false)) .leaf)) (.some (.str 6 68669705972028)) (.node (.node .leaf (.some (.str 21 125924534186164816246133852188561726513007718714408)) .leaf) (.some (.bool false)) .leaf))))]⟩
theorem B_67_ok : SumOk Try.prog 28 [(.str 26 183890501555036136351903328603364899342229922045770665733546346)] B_67 := SumOk.of_run (K := (sumsHand tabA)) (n := 400) (keep := [0]) mixed (sumsHand_ok tabA_ok) (by kernel_rfl) (by kernel_rfl)

def B_68 : Sum := ⟨(.sl 0 0 2 2), 1, [(0, (.cells 6 false [] (.node (.node (.node .leaf (.some (.str 6 68669705972028)) .leaf) (.some (.str 3 5646632)) (.node .leaf (.some (.bool false)) .leaf)) (.some (.str 6 68669705972028)) (.node (.node .leaf (.some (.str 21 125924534186164816246133852188561726513007718714408)) .leaf) (.some (.bool false)) .leaf))))]⟩
theorem B_68_ok : SumOk Try.prog 28 [(.str 38 14569306542031293471471962209605688152784288289213751582725315083544705153644676387098222954)] B_68 := SumOk.of_run (K := (sumsHand tabA)) (n := 400) (keep := [0]) mixed (sumsHand_ok tabA_ok) (by kernel_rfl) (by kernel_rfl)

def B_69 : Sum := ⟨(.sl 0 0 2 2), 1, [(0, (.cells 6 false [] (.node (.node (.node .leaf (.some (.str 6 68669705972028)) .leaf) (.some (.str 3 5646632)) (.node .leaf (.some (.bool false)) .leaf)) (.some (.str 6 68669705972028)) (.node (.node .leaf (.some (.str 21 125924534186164816246133852188561726513007718714408)) .leaf) (.some (.bool false)) .leaf))))]⟩
theorem B_69_ok : SumOk Try.prog 28 [(.str 30 789803690223817235625993454897404583541813632134065715887439951296881002)] B_69 := SumOk.of_run (K := (sumsHand tabA)) (n := 400) (keep := [0]) mixed (sumsHand_ok tabA_ok) (by kernel_rfl) (by kernel_rfl)

def B_70 : Sum := ⟨(.sl 0 0 2 2), 1, [(0, (.cells 6 false [] (.node (.node (.node .leaf (.some (.str 6 68669705972028)) .leaf) (.some (.str 3 5646632)) (.node .leaf (.some (.bool false)) .leaf)) (.some (.str 6 68669705972028)) (.node (.node .leaf (.some (.str 21 125924534186164816246133852188561726513007718714408)) .leaf) (.some (.bool false)) .leaf))))]⟩
theorem B_70_ok : SumOk Try.prog 28 [(.str 31 202189744697330995387852485397630371027294446829100397077902765524415570282)] B_70 := SumOk.of_run (K := (sumsHand tabA)) (n := 400) (keep := [0]) mixed (sumsHand_ok tabA_ok) (by kernel_rfl) (by kernel_rfl)

def B_71 : Sum := ⟨(.sl 0 0 2 2), 1, [(0, (.cells 6 false [] (.node (.node (.node .leaf (.some (.str 6 68669705972028)) .leaf) (.some (.str 3 5646632)) (.node .leaf (.some (.bool false)) .leaf)) (.some (.str 6 68669705972028)) (.node (.node .leaf (.some (.str 21 125924534186164816246133852188561726513007718714408)) .leaf) (.some (.bool false)) .leaf))))]⟩
theorem B_71_ok : SumOk Try.prog 28 [(.str 38 14569306542030247732875768419210667608278730874565438596096215620376147580735894642209743210)] B_71 := SumOk.of_run (K := (sumsHand tabA)) (n := 400) (keep := [0]) mixed (sumsHand_ok tabA_ok) (by kernel_rfl) (by kernel_rfl)

def B_72 : Sum := ⟨(.sl 0 0 2 2), 1, [(0, (.cells 6 false [] (.node (.node (.node .leaf (.some (.str 6 68669705972028)) .leaf) (.some (.str 3 5646632)) (.node .leaf (.some (.bool false)) .leaf)) (.some (.str 6 68669705972028)) (.node (.node .leaf (.some (.str 21 125924534186164816246133852188561726513007718714408)) .leaf) (.some (.bool false)) .leaf))))]⟩
theorem B_72_ok : SumOk Try.prog 28 [(.str 22 42815343838886881203639546329033052610660173325164906)] B_72 := SumOk.of_run (K := (sumsHand tabA)) (n := 400) (keep := [0]) mixed (sumsHand_ok tabA_ok) (by kernel_rfl) (by kernel_rfl)

def B_73 : Sum := ⟨(.sl 0 0 2 2), 1, [(0, (.cells 6 false [] (.node (.node (.node .leaf (.some (.str 6 68669705972028)) .leaf) (.some (.str 3 5646632)) (.node .leaf (.some (.bool false)) .leaf)) (.some (.str 6 68669705972028)) (.node (.node .leaf (.some (.str 21 125924534186164816246133852188561726513007718714408)) .leaf) (.some (.bool false)) .leaf))))]⟩
theorem B_73_ok : SumOk Try.prog 28 [(.str 21 167247436870678459232146883126634948762985622298986)] B_73 := SumOk.of_run (K := (sumsHand tabA)) (n := 400) (keep := [0]) mixed (sumsHand_ok tabA_ok) (by kernel_rfl) (by kernel_rfl)

def B_74 : Sum := ⟨(.sl 0 0 2 2), 1, [(0, (.cells 6 false [] (.node (.node (.node .leaf (.some (.str 6 68669705972028)) .leaf) (.some (.str 3 5646632)) (.node .leaf (.some (.bool false)) .leaf)) (.some (.str 6 68669705972028)) (.node (.node .leaf (.some (.str 21 125924534186164816246133852188561726513007718714408)) .leaf) (.some (.bool false)) .leaf))))]⟩
theorem B_74_ok : SumOk Try.prog 28 [(.str 26 183890501555012814945400634590948384637649511452497603397575018)] B_74 := SumOk.of_run (K := (sumsHand tabA)) (n := 400) (keep := [0]) mixed (sumsHand_ok tabA_ok) (by kernel_rfl) (by kernel_rfl)

def B_75 : Sum := ⟨(.sl 0 0 2 2), 1, [(0, (.cells 6 false [] (.node (.node (.node .leaf (.some (.str 6 68669705972028)) .leaf) (.some (.str 3 5646632)) (.node .leaf (.some (.bool false)) .leaf)) (.some (.str 6 68669705972028)) (.node (.node .leaf (.some (.str 21 125924534186164816246133852188561726513007718714408)) .leaf) (.some (.bool false)) .leaf))))]⟩
theorem B_75_ok : SumOk Try.prog 28 [(.str 27 47075968398083285027902446257440240237115773113246055769402925418)] B_75 := SumOk.of_run (K := (sumsHand tabA)) (n := 400) (keep := [0]) mixed (sumsHand_ok tabA_ok) (by kernel_rfl) (by kernel_rfl)

def B_76 : Sum := ⟨(.sl 0 0 2 2), 1, [(0, (.cells 6 false [] (.node (.node (.node .leaf (.some (.str 6 68669705972028)) .leaf) (.some (.str 3 5646632)) (.node .leaf (.some (.bool false)) .leaf)) (.some (.str 6 68669705972028)) (.node (.node .leaf (.some (.str 21 125924534186164816246133852188561726513007718714408)) .leaf) (.some (.bool false)) .leaf))))]⟩
theorem B_76_ok : SumOk Try.prog 28 [(.str 28 12051447909910759173808661238977857107111767888823090726697178653034)] B_76 := SumOk.of_run (K := (sumsHand tabA)) (n := 400) (keep := [0]) mixed (sumsHand_ok tabA_ok) (by kernel_rfl) (by kernel_rfl)

def B_77 : Sum := ⟨(.sl 0 0 2 2), 1, [(0, (.cells 6 false [] (.node (.node (.node .leaf (.some (.str 6 68669705972028)) .leaf) (.some (.str 3 5646632)) (.node .leaf (.some (.bool false)) .leaf)) (.some (.str 6 68669705972028)) (.node (.node .leaf (.some (.str 21 125924534186164816246133852188561726513007718714408)) .leaf) (.some (.bool false)) .leaf))))]⟩
theorem B_77_ok : SumOk Try.prog 28 [(.str 29 3085170664936786167588614718972924591866388410301586339335837578584426)] B_77 := SumOk.of_run (K := (sumsHand tabA)) (n := 400) (keep := [0]) mixed (sumsHand_ok tabA_ok) (by kernel_rfl) (by kernel_rfl)

def B_78 : Sum := ⟨(.sl 0 0 2 2), 1, [(0, (.cells 6 false [] (.node (.node (.node .leaf (.some (.str 6 68669705972028)) .leaf) (.some (.str 3 5646632)) (.node .leaf (.some (.bool false)) .leaf)) (.some (.str 6 68669705972028)) (.node (.node .leaf (.some (.str 21 125924534186164816246133852188561726513007718714408)) .leaf) (.some (.bool false)) .leaf))))]⟩
theorem B_78_ok : SumOk Try.prog 28 [(.str 28 12051447909910278778317482300033197087305720853520054876288643916138)] B_78 := SumOk.of_run (K := (sumsHand tabA)) (n := 400) (keep := [0]) mixed (sumsHand_ok tabA_ok) (by kernel_rfl) (by kernel_rfl)

def B_79 : Sum := ⟨(.sl 0 0 2 2), 1, [(0, (.cells 6 false [] (.node (.node (.node .leaf (.some (.str 6 68669705972028)) .leaf) (.some (.str 3 5646632)) (.node .leaf (.some (.bool false)) .leaf)) (.some (.str 6 68669705972028)) (.node (.node .leaf (.some (.str 21 125924534186164816246133852188561726513007718714408)) .leaf) (.some (.bool false)) .leaf))))]⟩
theorem B_79_ok : SumOk Try.prog 28 [(.str 37 56911353679811531822920492603033782110087255578636309514658723732473720363105297718731114)] B_79 := SumOk.of_run (K := (sumsHand tabA)) (n := 400) (keep := [0]) mixed (sumsHand_ok tabA_ok) (by kernel_rfl) (by kernel_rfl)

def B_80 : Sum := ⟨(.sl 0 0 2 2), 1, [(0, (.cells 6 false [] (.node (.node (.node .leaf (.some (.str 6 68669705972028)) .leaf) (.some (.str 3 5646632)) (.node .leaf (.some (.bool false)) .leaf)) (.some (.str 6 68669705972028)) (.node (.node .leaf (.some (.str 21 125924534186164816246133852188561726513007718714408)) .leaf) (.some (.bool false)) .leaf))))]⟩
theorem B_80_ok : SumOk Try.prog 28 [(.str 28 12051447909911140811364177168575840195048631602135540194265359868266)] B_80 := SumOk.of_run (K := (sumsHand tabA)) (n := 400) (keep := [0]) mixed (sumsHand_ok tabA_ok) (by kernel_rfl) (by kernel_rfl)

def B_81 : Sum := ⟨(.sl 0 0 2 2), 1, [(0, (.cells 6 false [] (.node (.node (.node .leaf (.some (.str 6 68669705972028)) .leaf) (.some (.str 3 5646632)) (.node .leaf (.some (.bool false)) .leaf)) (.some (.str 6 68669705972028)) (.node (.node .leaf (.some (.str 21 125924534186164816246133852188561726513007718714408)) .leaf) (.some (.bool false)) .leaf))))]⟩
theorem B_81_ok : SumOk Try.prog 28 [(.str 26 183890501555043540957095622503328518117729969598634276033028458)] B_81 := SumOk.of_run (K := (sumsHand tabA)) (n := 400) (keep := [0]) mixed (sumsHand_ok tabA_ok) (by kernel_rfl) (by kernel_rfl)

def B_82 : Sum := ⟨(.sl 0 0 2 2), 1, [(0, (.cells 6 false [] (.node (.node (.node .leaf (.some (.str 6 68669705972028)) .leaf) (.some (.str 3 5646632)) (.node .leaf (.some (.bool false)) .leaf)) (.some (.str 6 68669705972028)) (.node (.node .leaf (.some (.str 21 125924534186164816246133852188561726513007718714408)) .leaf) (.some (.bool false)) .leaf))))]⟩
theorem B_82_ok : SumOk Try.prog 28 [(.str 29 2977327179366744475310567174670984700336777289692309623825572795146602)] B_82 := SumOk.of_run (K := (sumsHand tabA)) (n := 400) (keep := [0]) mixed (sumsHand_ok tabA_ok) (by kernel_rfl) (by kernel_rfl)

def B_83 : Sum := ⟨(.sl 0 0 2 2), 1, [(0, (.cells 6 false [] (.node (.node (.node .leaf (.some (.str 6 68669705972028)) .leaf) (.some (.str 3 5646632)) (.node .leaf (.some (.bool false)) .leaf)) (.some (.str 6 68669705972028)) (.node (.node .leaf (.some (.str 21 125924534186164816246133852188561726513007718714408)) .leaf) (.some (.bool false)) .leaf))))]⟩
theorem B_83_ok : SumOk Try.prog 28 [(.str 30 762195757917886585679527096405151622096281774544538073876077408773628266)] B_83 := SumOk.of_run (K := (sumsHand tabA)) (n := 400) (keep := [0]) mixed (sumsHand_ok tabA_ok) (by kernel_rfl) (by kernel_rfl)

def B_84 : Sum := ⟨(.sl 0 0 2 2), 1, [(0, (.cells 6 false [] (.node (.node (.node .leaf (.some (.str 6 68669705972028)) .leaf) (.some (.str 3 5646632)) (.node .leaf (.some (.bool false)) .leaf)) (.some (.str 6 68669705972028)) (.node (.node .leaf (.some (.str 21 125924534186164816246133852188561726513007718714408)) .leaf) (.some (.bool false)) .leaf))))]⟩
theorem B_84_ok : SumOk Try.prog 28 [(.str 40 921438131347674524995356669863897659779420152864154109574888483886346161678995665599280333611370)] B_84 := SumOk.of_run (K := (sumsHand tabA)) (n := 400) (keep := [0]) mixed (sumsHand_ok tabA_ok) (by kernel_rfl) (by kernel_rfl)

def B_85 : Sum := ⟨(.sl 0 0 2 2), 1, [(0, (.cells 6 false [] (.node (.node (.node .leaf (.some (.str 6 68669705972028)) .leaf) (.some (.str 3 5646632)) (.node .leaf (.some (.bool false)) .leaf)) (.some (.str 6 68669705972028)) (.node (.node .leaf (.some (.str 21 125924534186164816246133852188561726513007718714408)) .leaf) (.some (.bool false)) .leaf))))]⟩
theorem B_85_ok : SumOk Try.prog 28 [(.str 36 214539033208897925213755128370838752992305990670598911423725060199978812837976799076714)] B_85 := SumOk.of_run (K := (sumsHand tabA)) (n := 400) (keep := [0]) mixed (sumsHand_ok tabA_ok) (by kernel_rfl) (by kernel_rfl)

def B_86 : Sum := ⟨(.sl 0 0 2 2), 1, [(0, (.cells 6 false [] (.node (.node (.node .leaf (.some (.str 6 68669705972028)) .leaf) (.some (.str 3 5646632)) (.node .leaf (.some (.bool false)) .leaf)) (.some (.str 6 68669705972028)) (.node (.node .leaf (.some (.str 21 125924534186164816246133852188561726513007718714408)) .leaf) (.some (.bool false)) .leaf))))]⟩
theorem B_86_ok : SumOk Try.prog 28 [(.str 28 11630184294401345606682283003339240975915084228737354846334270988650)] B_86 := SumOk.of_run (K := (sumsHand tabA)) (n := 400) (keep := [0]) mixed (sumsHand_ok tabA_ok) (by kernel_rfl) (by kernel_rfl)

def B_87 : Sum := ⟨(.sl 0 0 2 2), 1, [(0, (.cells 6 false [] (.node (.node (.node .leaf (.some (.str 6 68669705972028)) .leaf) (.some (.str 3 5646632)) (.node .leaf (.some (.bool false)) .leaf)) (.some (.str 6 68669705972028)) (.node (.node .leaf (.some (.str 21 125924534186164816246133852188561726513007718714408)) .leaf) (.some (.bool false)) .leaf))))]⟩
theorem B_87_ok : SumOk Try.prog 28 [(.str 29 2977327179366744475310578792928741468592950331792981622238945052352874)] B_87 := SumOk.of_run (K := (sumsHand tabA)) (n := 400) (keep := [0]) mixed (sumsHand_ok tabA_ok) (by kernel_rfl) (by kernel_rfl)

def B_88 : Sum := ⟨(.sl 0 0 2 2), 1, [(0, (.cells 6 false [] (.node (.node (.node .leaf (.some (.str 6 68669705972028)) .leaf) (.some (.str 3 5646632)) (.node .leaf (.some (.bool false)) .leaf)) (.some (.str 6 68669705972028)) (.node (.node .leaf (.some (.str 21 125924534186164816246133852188561726513007718714408)) .leaf) (.some (.bool false)) .leaf))))]⟩
theorem B_88_ok : SumOk Try.prog 28 [(.str 38 14060030080378334426808655457799320232265086119729716606675995945190890063755479020322840938)] B_88 := SumOk.of_run (K := (sumsHand tabA)) (n := 400) (keep := [0]) mixed (sumsHand_ok tabA_ok) (by kernel_rfl) (by kernel_rfl)

def B_89 : Sum := ⟨(.sl 0 0 2 2), 1, [(0, (.cells 6 false [] (.node (.node (.node .leaf (.some (.str 6 68669705972028)) .leaf) (.some (.str 3 5646632)) (.node .leaf (.some (.bool false)) .leaf)) (.some (.str 6 68669705972028)) (.node (.node .leaf (.some (.str 21 125924534186164816246133852188561726513007718714408)) .leaf) (.some (.bool false)) .leaf))))]⟩
theorem B_89_ok : SumOk Try.prog 28 [(.str 41 235888161625004678398811307485157800903531559133223452051171428016118026562849321940164899390251370)] B_89 := SumOk.of_run (K := (sumsHand tabA)) (n := 400) (keep := [0]) mixed (sumsHand_ok tabA_ok) (by kernel_rfl) (by kernel_rfl)

def tabB : List (FuncId × SRows) := (28, [([(.str 19 2261816869159440624969593107871851903301607786)], B_62), ([(.str 19 2462787319999361794871408518597065734545105258)], B_63), ([(.str 15 594182256714433171583859471190221162)], B_64), ([(.str 26 177462528906270532328520934635542489792491443287338843928682858)], B_65), ([(.str 35 838043098472257520366253329360822735706660890049674080341799799296269125818196058474)], B_66), ([(.str 26 183890501555036136351903328603364899342229922045770665733546346)], B_67), ([(.str 38 14569306542031293471471962209605688152784288289213751582725315083544705153644676387098222954)], B_68), ([(.str 30 789803690223817235625993454897404583541813632134065715887439951296881002)], B_69), ([(.str 31 202189744697330995387852485397630371027294446829100397077902765524415570282)], B_70), ([(.str 38 14569306542030247732875768419210667608278730874565438596096215620376147580735894642209743210)], B_71), ([(.str 22 42815343838886881203639546329033052610660173325164906)], B_72), ([(.str 21 167247436870678459232146883126634948762985622298986)], B_73), ([(.str 26 183890501555012814945400634590948384637649511452497603397575018)], B_74), ([(.str 27 47075968398083285027902446257440240237115773113246055769402925418)], B_75), ([(.str 28 12051447909910759173808661238977857107111767888823090726697178653034)], B_76), ([(.str 29 3085170664936786167588614718972924591866388410301586339335837578584426)], B_77), ([(.str 28 12051447909910278778317482300033197087305720853520054876288643916138)], B_78), ([(.str 37 56911353679811531822920492603033782110087255578636309514658723732473720363105297718731114)], B_79), ([(.str 28 12051447909911140811364177168575840195048631602135540194265359868266)], B_80), ([(.str 26 183890501555043540957095622503328518117729969598634276033028458)], B_81), ([(.str 29 2977327179366744475310567174670984700336777289692309623825572795146602)], B_82), ([(.str 30 762195757917886585679527096405151622096281774544538073876077408773628266)], B_83), ([(.str 40 921438131347674524995356669863897659779420152864154109574888483886346161678995665599280333611370)], B_84), ([(.str 36 214539033208897925213755128370838752992305990670598911423725060199978812837976799076714)], B_85), ([(.str 28 11630184294401345606682283003339240975915084228737354846334270988650)], B_86), ([(.str 29 2977327179366744475310578792928741468592950331792981622238945052352874)], B_87), ([(.str 38 14060030080378334426808655457799320232265086119729716606675995945190890063755479020322840938)], B_88), ([(.str 41 235888161625004678398811307485157800903531559133223452051171428016118026562849321940164899390251370)], B_89)]) :: (16, [([(.int .i64 (-1))], B_31), ([(.int .i64 0)], B_32), ([(.int .i64 1)], B_33), ([(.int .i64 2)], B_34), ([(.int .i64 3)], B_35), ([(.int .i64 4)], B_36), ([(.int .i64 5)], B_37), ([(.int .i64 6)], B_38), ([(.int .i64 7)], B_39), ([(.int .i64 8)], B_40), ([(.int .i64 9)], B_41), ([(.int .i64 10)], B_42), ([(.int .i64 11)], B_43), ([(.int .i64 12)], B_44), ([(.int .i64 13)], B_45), ([(.int .i64 14)], B_46), ([(.int .i64 15)], B_47), ([(.int .i64 16)], B_48), ([(.int .i64 17)], B_49), ([(.int .i64 18)], B_50), ([(.int .i64 19)], B_51), ([(.int .i64 20)], B_52), ([(.int .i64 21)], B_53), ([(.int .i64 22)], B_54), ([(.int .i64 23)], B_55), ([(.int .i64 24)], B_56), ([(.int .i64 25)], B_57), ([(.int .i64 26)], B_58), ([(.int .i64 27)], B_59), ([(.int .i64 28)], B_60), ([(.int .i64 29)], B_61)]) :: (15, [([(.int .i64 (-1))], B_0), ([(.int .i64 0)], B_1), ([(.int .i64 1)], B_2), ([(.int .i64 2)], B_3), ([(.int .i64 3)], B_4), ([(.int .i64 4)], B_5), ([(.int .i64 5)], B_6), ([(.int .i64 6)], B_7), ([(.int .i64 7)], B_8), ([(.int .i64 8)], B_9), ([(.int .i64 9)], B_10), ([(.int .i64 10)], B_11), ([(.int .i64 11)], B_12), ([(.int .i64 12)], B_13), ([(.int .i64 13)], B_14), ([(.int .i64 14)], B_15), ([(.int .i64 15)], B_16), ([(.int .i64 16)], B_17), ([(.int .i64 17)], B_18), ([(.int .i64 18)], B_19), ([(.int .i64 19)], B_20), ([(.int .i64 20)], B_21), ([(.int .i64 21)], B_22), ([(.int .i64 22)], B_23), ([(.int .i64 23)], B_24), ([(.int .i64 24)], B_25), ([(.int .i64 25)], B_26), ([(.int .i64 26)], B_27), ([(.int .i64 27)], B_28), ([(.int .i64 28)], B_29), ([(.int .i64 29)], B_30)]) :: tabA
theorem tabB_ok : TabOk Try.prog tabB := (TabOk.cons (RowsOk.cons B_62_ok (RowsOk.cons B_63_ok (RowsOk.cons B_64_ok (RowsOk.cons B_65_ok (RowsOk.cons B_66_ok (RowsOk.cons B_67_ok (RowsOk.cons B_68_ok (RowsOk.cons B_69_ok (RowsOk.cons B_70_ok (RowsOk.cons B_71_ok (RowsOk.cons B_72_ok (RowsOk.cons B_73_ok (RowsOk.cons B_74_ok (RowsOk.cons B_75_ok (RowsOk.cons B_76_ok (RowsOk.cons B_77_ok (RowsOk.cons B_78_ok (RowsOk.cons B_79_ok (RowsOk.cons B_80_ok (RowsOk.cons B_81_ok (RowsOk.cons B_82_ok (RowsOk.cons B_83_ok (RowsOk.cons B_84_ok (RowsOk.cons B_85_ok (RowsOk.cons B_86_ok (RowsOk.cons B_87_ok (RowsOk.cons B_88_ok (RowsOk.cons B_89_ok RowsOk.nil)))))))))))))))))))))))))))) (TabOk.cons (RowsOk.cons B_31_ok (RowsOk.cons B_32_ok (RowsOk.cons B_33_ok (RowsOk.cons B_34_ok (RowsOk.cons B_35_ok (RowsOk.cons B_36_ok (RowsOk.cons B_37_ok (RowsOk.cons B_38_ok (RowsOk.cons B_39_ok (RowsOk.cons B_40_ok (RowsOk.cons B_41_ok (RowsOk.cons B_42_ok (RowsOk.cons B_43_ok (RowsOk.cons B_44_ok (RowsOk.cons B_45_ok (RowsOk.cons B_46_ok (RowsOk.cons B_47_ok (RowsOk.cons B_48_ok (RowsOk.cons B_49_ok (RowsOk.cons B_50_ok (RowsOk.cons B_51_ok (RowsOk.cons B_52_ok (RowsOk.cons B_53_ok (RowsOk.cons B_54_ok (RowsOk.cons B_55_ok (RowsOk.cons B_56_ok (RowsOk.cons B_57_ok (RowsOk.cons B_58_ok (RowsOk.cons B_59_ok (RowsOk.cons B_60_ok (RowsOk.cons B_61_ok RowsOk.nil))))))))))))))))))))))))))))))) (TabOk.cons (RowsOk.cons B_0_ok (RowsOk.cons B_1_ok (RowsOk.cons B_2_ok (RowsOk.cons B_3_ok (RowsOk.cons B_4_ok (RowsOk.cons B_5_ok (RowsOk.cons B_6_ok (RowsOk.cons B_7_ok (RowsOk.cons B_8_ok (RowsOk.cons B_9_ok (RowsOk.cons B_10_ok (RowsOk.cons B_11_ok (RowsOk.cons B_12_ok (RowsOk.cons B_13_ok (RowsOk.cons B_14_ok (RowsOk.cons B_15_ok (RowsOk.cons B_16_ok (RowsOk.cons B_17_ok (RowsOk.cons B_18_ok (RowsOk.cons B_19_ok (RowsOk.cons B_20_ok (RowsOk.cons B_21_ok (RowsOk.cons B_22_ok (RowsOk.cons B_23_ok (RowsOk.cons B_24_ok (RowsOk.cons B_25_ok (RowsOk.cons B_26_ok (RowsOk.cons B_27_ok (RowsOk.cons B_28_ok (RowsOk.cons B_29_ok (RowsOk.cons B_30_ok RowsOk.nil))))))))))))))))))))))))))))))) tabA_ok)))
end Go.Proofs.Ytmeepibkgbgmhaa
