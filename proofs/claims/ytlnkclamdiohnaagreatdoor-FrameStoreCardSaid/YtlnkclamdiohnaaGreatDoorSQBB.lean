import Derived.Test.YtlnkclamdiohnaaGreatDoorXN3
import Derived.Test.YtlnkclamdiohnaaGreatDoorChecked
import Derived.KernelRfl
import Derived.Test.YtlnkclamdiohnaaGreatDoorSQBA
set_option linter.unusedSectionVars false
set_option maxRecDepth 1000000
set_option maxHeartbeats 4000000
namespace Go.Proofs.YtlnkclamdiohnaaGreatDoor
open Go.X
variable [Tab]

def BB_0 : Sum := ⟨(.str 26 183890501555036136351903328603364899342229922045770665733546346), 1, []⟩
theorem BB_0_ok : SumOk Tryz.prog 37 [(.int .i64 1)] BB_0 := SumOk.of_run (K := (sumsHand tabBA)) (n := 2000) (keep := []) mixed (sumsHand_ok tabBA_ok) (by kernel_rfl) (by kernel_rfl)

def BB_1 : Sum := ⟨(.str 38 14569306542031293471471962209605688152784288289213751582725315083544705153644676387098222954), 1, []⟩
theorem BB_1_ok : SumOk Tryz.prog 37 [(.int .i64 2)] BB_1 := SumOk.of_run (K := (sumsHand tabBA)) (n := 2000) (keep := []) mixed (sumsHand_ok tabBA_ok) (by kernel_rfl) (by kernel_rfl)

def BB_2 : Sum := ⟨(.str 30 789803690223817235625993454897404583541813632134065715887439951296881002), 1, []⟩
theorem BB_2_ok : SumOk Tryz.prog 37 [(.int .i64 3)] BB_2 := SumOk.of_run (K := (sumsHand tabBA)) (n := 2000) (keep := []) mixed (sumsHand_ok tabBA_ok) (by kernel_rfl) (by kernel_rfl)

def BB_3 : Sum := ⟨(.str 31 202189744697330995387852485397630371027294446829100397077902765524415570282), 1, []⟩
theorem BB_3_ok : SumOk Tryz.prog 37 [(.int .i64 4)] BB_3 := SumOk.of_run (K := (sumsHand tabBA)) (n := 2000) (keep := []) mixed (sumsHand_ok tabBA_ok) (by kernel_rfl) (by kernel_rfl)

def BB_4 : Sum := ⟨(.str 38 14569306542030247732875768419210667608278730874565438596096215620376147580735894642209743210), 1, []⟩
theorem BB_4_ok : SumOk Tryz.prog 37 [(.int .i64 5)] BB_4 := SumOk.of_run (K := (sumsHand tabBA)) (n := 2000) (keep := []) mixed (sumsHand_ok tabBA_ok) (by kernel_rfl) (by kernel_rfl)

def BB_5 : Sum := ⟨(.str 22 42815343838886881203639546329033052610660173325164906), 1, []⟩
theorem BB_5_ok : SumOk Tryz.prog 37 [(.int .i64 6)] BB_5 := SumOk.of_run (K := (sumsHand tabBA)) (n := 2000) (keep := []) mixed (sumsHand_ok tabBA_ok) (by kernel_rfl) (by kernel_rfl)

def BB_6 : Sum := ⟨(.str 21 167247436870678459232146883126634948762985622298986), 1, []⟩
theorem BB_6_ok : SumOk Tryz.prog 37 [(.int .i64 7)] BB_6 := SumOk.of_run (K := (sumsHand tabBA)) (n := 2000) (keep := []) mixed (sumsHand_ok tabBA_ok) (by kernel_rfl) (by kernel_rfl)

def BB_7 : Sum := ⟨(.str 26 183890501555012814945400634590948384637649511452497603397575018), 1, []⟩
theorem BB_7_ok : SumOk Tryz.prog 37 [(.int .i64 8)] BB_7 := SumOk.of_run (K := (sumsHand tabBA)) (n := 2000) (keep := []) mixed (sumsHand_ok tabBA_ok) (by kernel_rfl) (by kernel_rfl)

def BB_8 : Sum := ⟨(.str 27 47075968398083285027902446257440240237115773113246055769402925418), 1, []⟩
theorem BB_8_ok : SumOk Tryz.prog 37 [(.int .i64 9)] BB_8 := SumOk.of_run (K := (sumsHand tabBA)) (n := 2000) (keep := []) mixed (sumsHand_ok tabBA_ok) (by kernel_rfl) (by kernel_rfl)

def BB_9 : Sum := ⟨(.str 28 12051447909910759173808661238977857107111767888823090726697178653034), 1, []⟩
theorem BB_9_ok : SumOk Tryz.prog 37 [(.int .i64 10)] BB_9 := SumOk.of_run (K := (sumsHand tabBA)) (n := 2000) (keep := []) mixed (sumsHand_ok tabBA_ok) (by kernel_rfl) (by kernel_rfl)

def BB_10 : Sum := ⟨(.str 29 3085170664936786167588614718972924591866388410301586339335837578584426), 1, []⟩
theorem BB_10_ok : SumOk Tryz.prog 37 [(.int .i64 11)] BB_10 := SumOk.of_run (K := (sumsHand tabBA)) (n := 2000) (keep := []) mixed (sumsHand_ok tabBA_ok) (by kernel_rfl) (by kernel_rfl)

def BB_11 : Sum := ⟨(.str 28 12051447909910278778317482300033197087305720853520054876288643916138), 1, []⟩
theorem BB_11_ok : SumOk Tryz.prog 37 [(.int .i64 12)] BB_11 := SumOk.of_run (K := (sumsHand tabBA)) (n := 2000) (keep := []) mixed (sumsHand_ok tabBA_ok) (by kernel_rfl) (by kernel_rfl)

def BB_12 : Sum := ⟨(.str 37 56911353679811531822920492603033782110087255578636309514658723732473720363105297718731114), 1, []⟩
theorem BB_12_ok : SumOk Tryz.prog 37 [(.int .i64 13)] BB_12 := SumOk.of_run (K := (sumsHand tabBA)) (n := 2000) (keep := []) mixed (sumsHand_ok tabBA_ok) (by kernel_rfl) (by kernel_rfl)

def BB_13 : Sum := ⟨(.str 28 12051447909911140811364177168575840195048631602135540194265359868266), 1, []⟩
theorem BB_13_ok : SumOk Tryz.prog 37 [(.int .i64 14)] BB_13 := SumOk.of_run (K := (sumsHand tabBA)) (n := 2000) (keep := []) mixed (sumsHand_ok tabBA_ok) (by kernel_rfl) (by kernel_rfl)

def BB_14 : Sum := ⟨(.str 26 183890501555043540957095622503328518117729969598634276033028458), 1, []⟩
theorem BB_14_ok : SumOk Tryz.prog 37 [(.int .i64 15)] BB_14 := SumOk.of_run (K := (sumsHand tabBA)) (n := 2000) (keep := []) mixed (sumsHand_ok tabBA_ok) (by kernel_rfl) (by kernel_rfl)

def BB_15 : Sum := ⟨(.str 29 2977327179366744475310567174670984700336777289692309623825572795146602), 1, []⟩
theorem BB_15_ok : SumOk Tryz.prog 37 [(.int .i64 16)] BB_15 := SumOk.of_run (K := (sumsHand tabBA)) (n := 2000) (keep := []) mixed (sumsHand_ok tabBA_ok) (by kernel_rfl) (by kernel_rfl)

def BB_16 : Sum := ⟨(.str 30 762195757917886585679527096405151622096281774544538073876077408773628266), 1, []⟩
theorem BB_16_ok : SumOk Tryz.prog 37 [(.int .i64 17)] BB_16 := SumOk.of_run (K := (sumsHand tabBA)) (n := 2000) (keep := []) mixed (sumsHand_ok tabBA_ok) (by kernel_rfl) (by kernel_rfl)

def BB_17 : Sum := ⟨(.str 40 921438131347674524995356669863897659779420152864154109574888483886346161678995665599280333611370), 1, []⟩
theorem BB_17_ok : SumOk Tryz.prog 37 [(.int .i64 18)] BB_17 := SumOk.of_run (K := (sumsHand tabBA)) (n := 2000) (keep := []) mixed (sumsHand_ok tabBA_ok) (by kernel_rfl) (by kernel_rfl)

def BB_18 : Sum := ⟨(.str 36 214539033208897925213755128370838752992305990670598911423725060199978812837976799076714), 1, []⟩
theorem BB_18_ok : SumOk Tryz.prog 37 [(.int .i64 19)] BB_18 := SumOk.of_run (K := (sumsHand tabBA)) (n := 2000) (keep := []) mixed (sumsHand_ok tabBA_ok) (by kernel_rfl) (by kernel_rfl)

def BB_19 : Sum := ⟨(.str 28 11630184294401345606682283003339240975915084228737354846334270988650), 1, []⟩
theorem BB_19_ok : SumOk Tryz.prog 37 [(.int .i64 20)] BB_19 := SumOk.of_run (K := (sumsHand tabBA)) (n := 2000) (keep := []) mixed (sumsHand_ok tabBA_ok) (by kernel_rfl) (by kernel_rfl)

def BB_20 : Sum := ⟨(.str 29 2977327179366744475310578792928741468592950331792981622238945052352874), 1, []⟩
theorem BB_20_ok : SumOk Tryz.prog 37 [(.int .i64 21)] BB_20 := SumOk.of_run (K := (sumsHand tabBA)) (n := 2000) (keep := []) mixed (sumsHand_ok tabBA_ok) (by kernel_rfl) (by kernel_rfl)

def BB_21 : Sum := ⟨(.str 38 14060030080378334426808655457799320232265086119729716606675995945190890063755479020322840938), 1, []⟩
theorem BB_21_ok : SumOk Tryz.prog 37 [(.int .i64 22)] BB_21 := SumOk.of_run (K := (sumsHand tabBA)) (n := 2000) (keep := []) mixed (sumsHand_ok tabBA_ok) (by kernel_rfl) (by kernel_rfl)

def BB_22 : Sum := ⟨(.str 41 235888161625004678398811307485157800903531559133223452051171428016118026562849321940164899390251370), 1, []⟩
theorem BB_22_ok : SumOk Tryz.prog 37 [(.int .i64 23)] BB_22 := SumOk.of_run (K := (sumsHand tabBA)) (n := 2000) (keep := []) mixed (sumsHand_ok tabBA_ok) (by kernel_rfl) (by kernel_rfl)

def BB_23 : Sum := ⟨(.str 22 42815343838886881203639546329033052610660173325164906), 0, []⟩
theorem BB_23_ok : SumOk Tryz.prog 38 [(.int .i64 1)] BB_23 := SumOk.of_run (K := (sumsHand tabBA)) (n := 2000) (keep := []) mixed (sumsHand_ok tabBA_ok) (by kernel_rfl) (by kernel_rfl)

def BB_24 : Sum := ⟨(.str 22 42815343838886881203639546329033052610660173325164906), 0, []⟩
theorem BB_24_ok : SumOk Tryz.prog 38 [(.int .i64 2)] BB_24 := SumOk.of_run (K := (sumsHand tabBA)) (n := 2000) (keep := []) mixed (sumsHand_ok tabBA_ok) (by kernel_rfl) (by kernel_rfl)

def BB_25 : Sum := ⟨(.str 22 42815343838886881203639546329033052610660173325164906), 0, []⟩
theorem BB_25_ok : SumOk Tryz.prog 38 [(.int .i64 3)] BB_25 := SumOk.of_run (K := (sumsHand tabBA)) (n := 2000) (keep := []) mixed (sumsHand_ok tabBA_ok) (by kernel_rfl) (by kernel_rfl)

def BB_26 : Sum := ⟨(.str 22 42815343838886881203639546329033052610660173325164906), 0, []⟩
theorem BB_26_ok : SumOk Tryz.prog 38 [(.int .i64 4)] BB_26 := SumOk.of_run (K := (sumsHand tabBA)) (n := 2000) (keep := []) mixed (sumsHand_ok tabBA_ok) (by kernel_rfl) (by kernel_rfl)

def BB_27 : Sum := ⟨(.str 22 42815343838886881203639546329033052610660173325164906), 0, []⟩
theorem BB_27_ok : SumOk Tryz.prog 38 [(.int .i64 5)] BB_27 := SumOk.of_run (K := (sumsHand tabBA)) (n := 2000) (keep := []) mixed (sumsHand_ok tabBA_ok) (by kernel_rfl) (by kernel_rfl)

def BB_28 : Sum := ⟨(.str 15 594182256714433171583859471190221162), 0, []⟩
theorem BB_28_ok : SumOk Tryz.prog 38 [(.int .i64 6)] BB_28 := SumOk.of_run (K := (sumsHand tabBA)) (n := 2000) (keep := []) mixed (sumsHand_ok tabBA_ok) (by kernel_rfl) (by kernel_rfl)

def BB_29 : Sum := ⟨(.str 22 42815343838886881203639546329033052610660173325164906), 0, []⟩
theorem BB_29_ok : SumOk Tryz.prog 38 [(.int .i64 7)] BB_29 := SumOk.of_run (K := (sumsHand tabBA)) (n := 2000) (keep := []) mixed (sumsHand_ok tabBA_ok) (by kernel_rfl) (by kernel_rfl)

def BB_30 : Sum := ⟨(.str 38 14569306542030247732875768419210667608278730874565438596096215620376147580735894642209743210), 1, []⟩
theorem BB_30_ok : SumOk Tryz.prog 38 [(.int .i64 8)] BB_30 := SumOk.of_run (K := (sumsHand tabBA)) (n := 2000) (keep := []) mixed (sumsHand_ok tabBA_ok) (by kernel_rfl) (by kernel_rfl)

def BB_31 : Sum := ⟨(.str 38 14569306542030247732875768419210667608278730874565438596096215620376147580735894642209743210), 1, []⟩
theorem BB_31_ok : SumOk Tryz.prog 38 [(.int .i64 9)] BB_31 := SumOk.of_run (K := (sumsHand tabBA)) (n := 2000) (keep := []) mixed (sumsHand_ok tabBA_ok) (by kernel_rfl) (by kernel_rfl)

def BB_32 : Sum := ⟨(.str 38 14569306542030247732875768419210667608278730874565438596096215620376147580735894642209743210), 1, []⟩
theorem BB_32_ok : SumOk Tryz.prog 38 [(.int .i64 10)] BB_32 := SumOk.of_run (K := (sumsHand tabBA)) (n := 2000) (keep := []) mixed (sumsHand_ok tabBA_ok) (by kernel_rfl) (by kernel_rfl)

def BB_33 : Sum := ⟨(.str 38 14569306542030247732875768419210667608278730874565438596096215620376147580735894642209743210), 1, []⟩
theorem BB_33_ok : SumOk Tryz.prog 38 [(.int .i64 11)] BB_33 := SumOk.of_run (K := (sumsHand tabBA)) (n := 2000) (keep := []) mixed (sumsHand_ok tabBA_ok) (by kernel_rfl) (by kernel_rfl)

def BB_34 : Sum := ⟨(.str 38 14569306542030247732875768419210667608278730874565438596096215620376147580735894642209743210), 1, []⟩
theorem BB_34_ok : SumOk Tryz.prog 38 [(.int .i64 12)] BB_34 := SumOk.of_run (K := (sumsHand tabBA)) (n := 2000) (keep := []) mixed (sumsHand_ok tabBA_ok) (by kernel_rfl) (by kernel_rfl)

def BB_35 : Sum := ⟨(.str 22 42815343838886881203639546329033052610660173325164906), 0, []⟩
theorem BB_35_ok : SumOk Tryz.prog 38 [(.int .i64 13)] BB_35 := SumOk.of_run (K := (sumsHand tabBA)) (n := 2000) (keep := []) mixed (sumsHand_ok tabBA_ok) (by kernel_rfl) (by kernel_rfl)

def BB_36 : Sum := ⟨(.str 15 594182256714433171583859471190221162), 0, []⟩
theorem BB_36_ok : SumOk Tryz.prog 38 [(.int .i64 14)] BB_36 := SumOk.of_run (K := (sumsHand tabBA)) (n := 2000) (keep := []) mixed (sumsHand_ok tabBA_ok) (by kernel_rfl) (by kernel_rfl)

def BB_37 : Sum := ⟨(.str 15 594182256714433171583859471190221162), 0, []⟩
theorem BB_37_ok : SumOk Tryz.prog 38 [(.int .i64 15)] BB_37 := SumOk.of_run (K := (sumsHand tabBA)) (n := 2000) (keep := []) mixed (sumsHand_ok tabBA_ok) (by kernel_rfl) (by kernel_rfl)

def BB_38 : Sum := ⟨(.str 26 177462528906270532328520934635542489792491443287338843928682858), 0, []⟩
theorem BB_38_ok : SumOk Tryz.prog 38 [(.int .i64 16)] BB_38 := SumOk.of_run (K := (sumsHand tabBA)) (n := 2000) (keep := []) mixed (sumsHand_ok tabBA_ok) (by kernel_rfl) (by kernel_rfl)

def BB_39 : Sum := ⟨(.str 26 177462528906270532328520934635542489792491443287338843928682858), 0, []⟩
theorem BB_39_ok : SumOk Tryz.prog 38 [(.int .i64 17)] BB_39 := SumOk.of_run (K := (sumsHand tabBA)) (n := 2000) (keep := []) mixed (sumsHand_ok tabBA_ok) (by kernel_rfl) (by kernel_rfl)

def BB_40 : Sum := ⟨(.str 35 838043098472257520366253329360822735706660890049674080341799799296269125818196058474), 0, []⟩
theorem BB_40_ok : SumOk Tryz.prog 38 [(.int .i64 18)] BB_40 := SumOk.of_run (K := (sumsHand tabBA)) (n := 2000) (keep := []) mixed (sumsHand_ok tabBA_ok) (by kernel_rfl) (by kernel_rfl)

def BB_41 : Sum := ⟨(.str 26 177462528906270532328520934635542489792491443287338843928682858), 0, []⟩
theorem BB_41_ok : SumOk Tryz.prog 38 [(.int .i64 19)] BB_41 := SumOk.of_run (K := (sumsHand tabBA)) (n := 2000) (keep := []) mixed (sumsHand_ok tabBA_ok) (by kernel_rfl) (by kernel_rfl)

def BB_42 : Sum := ⟨(.str 26 177462528906270532328520934635542489792491443287338843928682858), 0, []⟩
theorem BB_42_ok : SumOk Tryz.prog 38 [(.int .i64 20)] BB_42 := SumOk.of_run (K := (sumsHand tabBA)) (n := 2000) (keep := []) mixed (sumsHand_ok tabBA_ok) (by kernel_rfl) (by kernel_rfl)

def BB_43 : Sum := ⟨(.str 26 177462528906270532328520934635542489792491443287338843928682858), 0, []⟩
theorem BB_43_ok : SumOk Tryz.prog 38 [(.int .i64 21)] BB_43 := SumOk.of_run (K := (sumsHand tabBA)) (n := 2000) (keep := []) mixed (sumsHand_ok tabBA_ok) (by kernel_rfl) (by kernel_rfl)

def BB_44 : Sum := ⟨(.str 26 177462528906270532328520934635542489792491443287338843928682858), 0, []⟩
theorem BB_44_ok : SumOk Tryz.prog 38 [(.int .i64 22)] BB_44 := SumOk.of_run (K := (sumsHand tabBA)) (n := 2000) (keep := []) mixed (sumsHand_ok tabBA_ok) (by kernel_rfl) (by kernel_rfl)

def BB_45 : Sum := ⟨(.str 35 838043098472257520366253329360822735706660890049674080341799799296269125818196058474), 0, []⟩
theorem BB_45_ok : SumOk Tryz.prog 38 [(.int .i64 23)] BB_45 := SumOk.of_run (K := (sumsHand tabBA)) (n := 2000) (keep := []) mixed (sumsHand_ok tabBA_ok) (by kernel_rfl) (by kernel_rfl)

def BB_46 : Sum := ⟨(.so 2 0 3 3), 3, [(2, (.cells 9 true [] (.node (.node (.node (.node .leaf (.some (.str 20 339137050467292191589805048747422779071890467112)) .leaf) (.some (.str 6 68669705972028)) .leaf) (.some (.str 3 5646632)) (.node .leaf (.some (.bool false)) .leaf)) (.some (.str 6 68669705972028)) (.node (.node (.node .leaf (.some (.bool false)) .leaf) (.some (.str 21 125924534186164816246133852188561726513007718714408)) .leaf) (.some (.bool false)) (.node .leaf (.some (.str 10 478866051492549179499879)) .leaf)))))]⟩
theorem BB_46_ok : SumOk Tryz.prog 42 [(.str 19 2261816869159440624969593107871851903301607786)] BB_46 := SumOk.of_run (K := (sumsHand tabBA)) (n := 2000) (keep := [2]) mixed (sumsHand_ok tabBA_ok) (by kernel_rfl) (by kernel_rfl)

def BB_47 : Sum := ⟨(.sl 0 0 2 2), 1, [(0, (.cells 6 false [] (.node (.node (.node .leaf (.some (.str 6 68669705972028)) .leaf) (.some (.str 3 5646632)) (.node .leaf (.some (.bool false)) .leaf)) (.some (.str 6 68669705972028)) (.node (.node .leaf (.some (.str 21 125924534186164816246133852188561726513007718714408)) .leaf) (.some (.bool false)) .leaf))))]⟩
theorem BB_47_ok : SumOk Tryz.prog 42 [(.str 19 2462787319999361794871408518597065734545105258)] BB_47 := SumOk.of_run (K := (sumsHand tabBA)) (n := 2000) (keep := [0]) mixed (sumsHand_ok tabBA_ok) (by kernel_rfl) (by kernel_rfl)

def BB_48 : Sum := ⟨(.sl 0 0 2 2), 1, [(0, (.cells 6 false [] (.node (.node (.node .leaf (.some (.str 6 68669705972028)) .leaf) (.some (.str 3 5646632)) (.node .leaf (.some (.bool false)) .leaf)) (.some (.str 6 68669705972028)) (.node (.node .leaf (.some (.str 21 125924534186164816246133852188561726513007718714408)) .leaf) (.some (.bool false)) .leaf))))]⟩
theorem BB_48_ok : SumOk Tryz.prog 42 [(.str 15 594182256714433171583859471190221162)] BB_48 := SumOk.of_run (K := (sumsHand tabBA)) (n := 2000) (keep := [0]) mixed (sumsHand_ok tabBA_ok) (by kernel_rfl) (by kernel_rfl)

def BB_49 : Sum := ⟨(.sl 0 0 2 2), 1, [(0, (.cells 6 false [] (.node (.node (.node .leaf (.some (.str 6 68669705972028)) .leaf) (.some (.str 3 5646632)) (.node .leaf (.some (.bool false)) .leaf)) (.some (.str 6 68669705972028)) (.node (.node .leaf (.some (.str 21 125924534186164816246133852188561726513007718714408)) .leaf) (.some (.bool false)) .leaf))))]⟩
theorem BB_49_ok : SumOk Tryz.prog 42 [(.str 26 177462528906270532328520934635542489792491443287338843928682858)] BB_49 := SumOk.of_run (K := (sumsHand tabBA)) (n := 2000) (keep := [0]) mixed (sumsHand_ok tabBA_ok) (by kernel_rfl) (by kernel_rfl)

def BB_50 : Sum := ⟨(.sl 0 0 2 2), 1, [(0, (.cells 6 false [] (.node (.node (.node .leaf (.some (.str 6 68669705972028)) .leaf) (.some (.str 3 5646632)) (.node .leaf (.some (.bool false)) .leaf)) (.some (.str 6 68669705972028)) (.node (.node .leaf (.some (.str 21 125924534186164816246133852188561726513007718714408)) .leaf) (.some (.bool false)) .leaf))))]⟩
theorem BB_50_ok : SumOk Tryz.prog 42 [(.str 35 838043098472257520366253329360822735706660890049674080341799799296269125818196058474)] BB_50 := SumOk.of_run (K := (sumsHand tabBA)) (n := 2000) (keep := [0]) mixed (sumsHand_ok tabBA_ok) (by kernel_rfl) (by kernel_rfl)

def BB_51 : Sum := ⟨(.sl 0 0 2 2), 1, [(0, (.cells 6 false [] (.node (.node (.node .leaf (.some (.str 6 68669705972028)) .leaf) (.some (.str 3 5646632)) (.node .leaf (.some (.bool false)) .leaf)) (.some (.str 6 68669705972028)) (.node (.node .leaf (.some (.str 21 125924534186164816246133852188561726513007718714408)) .leaf) (.some (.bool false)) .leaf))))]⟩
theorem BB_51_ok : SumOk Tryz.prog 42 [(.str 26 183890501555036136351903328603364899342229922045770665733546346)] BB_51 := SumOk.of_run (K := (sumsHand tabBA)) (n := 2000) (keep := [0]) mixed (sumsHand_ok tabBA_ok) (by kernel_rfl) (by kernel_rfl)

def BB_52 : Sum := ⟨(.sl 0 0 2 2), 1, [(0, (.cells 6 false [] (.node (.node (.node .leaf (.some (.str 6 68669705972028)) .leaf) (.some (.str 3 5646632)) (.node .leaf (.some (.bool false)) .leaf)) (.some (.str 6 68669705972028)) (.node (.node .leaf (.some (.str 21 125924534186164816246133852188561726513007718714408)) .leaf) (.some (.bool false)) .leaf))))]⟩
theorem BB_52_ok : SumOk Tryz.prog 42 [(.str 38 14569306542031293471471962209605688152784288289213751582725315083544705153644676387098222954)] BB_52 := SumOk.of_run (K := (sumsHand tabBA)) (n := 2000) (keep := [0]) mixed (sumsHand_ok tabBA_ok) (by kernel_rfl) (by kernel_rfl)

def BB_53 : Sum := ⟨(.sl 0 0 2 2), 1, [(0, (.cells 6 false [] (.node (.node (.node .leaf (.some (.str 6 68669705972028)) .leaf) (.some (.str 3 5646632)) (.node .leaf (.some (.bool false)) .leaf)) (.some (.str 6 68669705972028)) (.node (.node .leaf (.some (.str 21 125924534186164816246133852188561726513007718714408)) .leaf) (.some (.bool false)) .leaf))))]⟩
theorem BB_53_ok : SumOk Tryz.prog 42 [(.str 30 789803690223817235625993454897404583541813632134065715887439951296881002)] BB_53 := SumOk.of_run (K := (sumsHand tabBA)) (n := 2000) (keep := [0]) mixed (sumsHand_ok tabBA_ok) (by kernel_rfl) (by kernel_rfl)

def BB_54 : Sum := ⟨(.sl 0 0 2 2), 1, [(0, (.cells 6 false [] (.node (.node (.node .leaf (.some (.str 6 68669705972028)) .leaf) (.some (.str 3 5646632)) (.node .leaf (.some (.bool false)) .leaf)) (.some (.str 6 68669705972028)) (.node (.node .leaf (.some (.str 21 125924534186164816246133852188561726513007718714408)) .leaf) (.some (.bool false)) .leaf))))]⟩
theorem BB_54_ok : SumOk Tryz.prog 42 [(.str 31 202189744697330995387852485397630371027294446829100397077902765524415570282)] BB_54 := SumOk.of_run (K := (sumsHand tabBA)) (n := 2000) (keep := [0]) mixed (sumsHand_ok tabBA_ok) (by kernel_rfl) (by kernel_rfl)

def BB_55 : Sum := ⟨(.sl 0 0 2 2), 1, [(0, (.cells 6 false [] (.node (.node (.node .leaf (.some (.str 6 68669705972028)) .leaf) (.some (.str 3 5646632)) (.node .leaf (.some (.bool false)) .leaf)) (.some (.str 6 68669705972028)) (.node (.node .leaf (.some (.str 21 125924534186164816246133852188561726513007718714408)) .leaf) (.some (.bool false)) .leaf))))]⟩
theorem BB_55_ok : SumOk Tryz.prog 42 [(.str 38 14569306542030247732875768419210667608278730874565438596096215620376147580735894642209743210)] BB_55 := SumOk.of_run (K := (sumsHand tabBA)) (n := 2000) (keep := [0]) mixed (sumsHand_ok tabBA_ok) (by kernel_rfl) (by kernel_rfl)

def BB_56 : Sum := ⟨(.sl 0 0 2 2), 1, [(0, (.cells 6 false [] (.node (.node (.node .leaf (.some (.str 6 68669705972028)) .leaf) (.some (.str 3 5646632)) (.node .leaf (.some (.bool false)) .leaf)) (.some (.str 6 68669705972028)) (.node (.node .leaf (.some (.str 21 125924534186164816246133852188561726513007718714408)) .leaf) (.some (.bool false)) .leaf))))]⟩
theorem BB_56_ok : SumOk Tryz.prog 42 [(.str 22 42815343838886881203639546329033052610660173325164906)] BB_56 := SumOk.of_run (K := (sumsHand tabBA)) (n := 2000) (keep := [0]) mixed (sumsHand_ok tabBA_ok) (by kernel_rfl) (by kernel_rfl)

def BB_57 : Sum := ⟨(.sl 0 0 2 2), 1, [(0, (.cells 6 false [] (.node (.node (.node .leaf (.some (.str 6 68669705972028)) .leaf) (.some (.str 3 5646632)) (.node .leaf (.some (.bool false)) .leaf)) (.some (.str 6 68669705972028)) (.node (.node .leaf (.some (.str 21 125924534186164816246133852188561726513007718714408)) .leaf) (.some (.bool false)) .leaf))))]⟩
theorem BB_57_ok : SumOk Tryz.prog 42 [(.str 21 167247436870678459232146883126634948762985622298986)] BB_57 := SumOk.of_run (K := (sumsHand tabBA)) (n := 2000) (keep := [0]) mixed (sumsHand_ok tabBA_ok) (by kernel_rfl) (by kernel_rfl)

def BB_58 : Sum := ⟨(.sl 0 0 2 2), 1, [(0, (.cells 6 false [] (.node (.node (.node .leaf (.some (.str 6 68669705972028)) .leaf) (.some (.str 3 5646632)) (.node .leaf (.some (.bool false)) .leaf)) (.some (.str 6 68669705972028)) (.node (.node .leaf (.some (.str 21 125924534186164816246133852188561726513007718714408)) .leaf) (.some (.bool false)) .leaf))))]⟩
theorem BB_58_ok : SumOk Tryz.prog 42 [(.str 26 183890501555012814945400634590948384637649511452497603397575018)] BB_58 := SumOk.of_run (K := (sumsHand tabBA)) (n := 2000) (keep := [0]) mixed (sumsHand_ok tabBA_ok) (by kernel_rfl) (by kernel_rfl)

def BB_59 : Sum := ⟨(.sl 0 0 2 2), 1, [(0, (.cells 6 false [] (.node (.node (.node .leaf (.some (.str 6 68669705972028)) .leaf) (.some (.str 3 5646632)) (.node .leaf (.some (.bool false)) .leaf)) (.some (.str 6 68669705972028)) (.node (.node .leaf (.some (.str 21 125924534186164816246133852188561726513007718714408)) .leaf) (.some (.bool false)) .leaf))))]⟩
theorem BB_59_ok : SumOk Tryz.prog 42 [(.str 27 47075968398083285027902446257440240237115773113246055769402925418)] BB_59 := SumOk.of_run (K := (sumsHand tabBA)) (n := 2000) (keep := [0]) mixed (sumsHand_ok tabBA_ok) (by kernel_rfl) (by kernel_rfl)

def BB_60 : Sum := ⟨(.sl 0 0 2 2), 1, [(0, (.cells 6 false [] (.node (.node (.node .leaf (.some (.str 6 68669705972028)) .leaf) (.some (.str 3 5646632)) (.node .leaf (.some (.bool false)) .leaf)) (.some (.str 6 68669705972028)) (.node (.node .leaf (.some (.str 21 125924534186164816246133852188561726513007718714408)) .leaf) (.some (.bool false)) .leaf))))]⟩
theorem BB_60_ok : SumOk Tryz.prog 42 [(.str 28 12051447909910759173808661238977857107111767888823090726697178653034)] BB_60 := SumOk.of_run (K := (sumsHand tabBA)) (n := 2000) (keep := [0]) mixed (sumsHand_ok tabBA_ok) (by kernel_rfl) (by kernel_rfl)

def BB_61 : Sum := ⟨(.sl 0 0 2 2), 1, [(0, (.cells 6 false [] (.node (.node (.node .leaf (.some (.str 6 68669705972028)) .leaf) (.some (.str 3 5646632)) (.node .leaf (.some (.bool false)) .leaf)) (.some (.str 6 68669705972028)) (.node (.node .leaf (.some (.str 21 125924534186164816246133852188561726513007718714408)) .leaf) (.some (.bool false)) .leaf))))]⟩
theorem BB_61_ok : SumOk Tryz.prog 42 [(.str 29 3085170664936786167588614718972924591866388410301586339335837578584426)] BB_61 := SumOk.of_run (K := (sumsHand tabBA)) (n := 2000) (keep := [0]) mixed (sumsHand_ok tabBA_ok) (by kernel_rfl) (by kernel_rfl)

def BB_62 : Sum := ⟨(.sl 0 0 2 2), 1, [(0, (.cells 6 false [] (.node (.node (.node .leaf (.some (.str 6 68669705972028)) .leaf) (.some (.str 3 5646632)) (.node .leaf (.some (.bool false)) .leaf)) (.some (.str 6 68669705972028)) (.node (.node .leaf (.some (.str 21 125924534186164816246133852188561726513007718714408)) .leaf) (.some (.bool false)) .leaf))))]⟩
theorem BB_62_ok : SumOk Tryz.prog 42 [(.str 28 12051447909910278778317482300033197087305720853520054876288643916138)] BB_62 := SumOk.of_run (K := (sumsHand tabBA)) (n := 2000) (keep := [0]) mixed (sumsHand_ok tabBA_ok) (by kernel_rfl) (by kernel_rfl)

def BB_63 : Sum := ⟨(.sl 0 0 2 2), 1, [(0, (.cells 6 false [] (.node (.node (.node .leaf (.some (.str 6 68669705972028)) .leaf) (.some (.str 3 5646632)) (.node .leaf (.some (.bool false)) .leaf)) (.some (.str 6 68669705972028)) (.node (.node .leaf (.some (.str 21 125924534186164816246133852188561726513007718714408)) .leaf) (.some (.bool false)) .leaf))))]⟩
theorem BB_63_ok : SumOk Tryz.prog 42 [(.str 37 56911353679811531822920492603033782110087255578636309514658723732473720363105297718731114)] BB_63 := SumOk.of_run (K := (sumsHand tabBA)) (n := 2000) (keep := [0]) mixed (sumsHand_ok tabBA_ok) (by kernel_rfl) (by kernel_rfl)

def BB_64 : Sum := ⟨(.sl 0 0 2 2), 1, [(0, (.cells 6 false [] (.node (.node (.node .leaf (.some (.str 6 68669705972028)) .leaf) (.some (.str 3 5646632)) (.node .leaf (.some (.bool false)) .leaf)) (.some (.str 6 68669705972028)) (.node (.node .leaf (.some (.str 21 125924534186164816246133852188561726513007718714408)) .leaf) (.some (.bool false)) .leaf))))]⟩
theorem BB_64_ok : SumOk Tryz.prog 42 [(.str 28 12051447909911140811364177168575840195048631602135540194265359868266)] BB_64 := SumOk.of_run (K := (sumsHand tabBA)) (n := 2000) (keep := [0]) mixed (sumsHand_ok tabBA_ok) (by kernel_rfl) (by kernel_rfl)

def BB_65 : Sum := ⟨(.sl 0 0 2 2), 1, [(0, (.cells 6 false [] (.node (.node (.node .leaf (.some (.str 6 68669705972028)) .leaf) (.some (.str 3 5646632)) (.node .leaf (.some (.bool false)) .leaf)) (.some (.str 6 68669705972028)) (.node (.node .leaf (.some (.str 21 125924534186164816246133852188561726513007718714408)) .leaf) (.some (.bool false)) .leaf))))]⟩
theorem BB_65_ok : SumOk Tryz.prog 42 [(.str 26 183890501555043540957095622503328518117729969598634276033028458)] BB_65 := SumOk.of_run (K := (sumsHand tabBA)) (n := 2000) (keep := [0]) mixed (sumsHand_ok tabBA_ok) (by kernel_rfl) (by kernel_rfl)

def BB_66 : Sum := ⟨(.sl 0 0 2 2), 1, [(0, (.cells 6 false [] (.node (.node (.node .leaf (.some (.str 6 68669705972028)) .leaf) (.some (.str 3 5646632)) (.node .leaf (.some (.bool false)) .leaf)) (.some (.str 6 68669705972028)) (.node (.node .leaf (.some (.str 21 125924534186164816246133852188561726513007718714408)) .leaf) (.some (.bool false)) .leaf))))]⟩
theorem BB_66_ok : SumOk Tryz.prog 42 [(.str 29 2977327179366744475310567174670984700336777289692309623825572795146602)] BB_66 := SumOk.of_run (K := (sumsHand tabBA)) (n := 2000) (keep := [0]) mixed (sumsHand_ok tabBA_ok) (by kernel_rfl) (by kernel_rfl)

def BB_67 : Sum := ⟨(.sl 0 0 2 2), 1, [(0, (.cells 6 false [] (.node (.node (.node .leaf (.some (.str 6 68669705972028)) .leaf) (.some (.str 3 5646632)) (.node .leaf (.some (.bool false)) .leaf)) (.some (.str 6 68669705972028)) (.node (.node .leaf (.some (.str 21 125924534186164816246133852188561726513007718714408)) .leaf) (.some (.bool false)) .leaf))))]⟩
theorem BB_67_ok : SumOk Tryz.prog 42 [(.str 30 762195757917886585679527096405151622096281774544538073876077408773628266)] BB_67 := SumOk.of_run (K := (sumsHand tabBA)) (n := 2000) (keep := [0]) mixed (sumsHand_ok tabBA_ok) (by kernel_rfl) (by kernel_rfl)

def BB_68 : Sum := ⟨(.sl 0 0 2 2), 1, [(0, (.cells 6 false [] (.node (.node (.node .leaf (.some (.str 6 68669705972028)) .leaf) (.some (.str 3 5646632)) (.node .leaf (.some (.bool false)) .leaf)) (.some (.str 6 68669705972028)) (.node (.node .leaf (.some (.str 21 125924534186164816246133852188561726513007718714408)) .leaf) (.some (.bool false)) .leaf))))]⟩
theorem BB_68_ok : SumOk Tryz.prog 42 [(.str 40 921438131347674524995356669863897659779420152864154109574888483886346161678995665599280333611370)] BB_68 := SumOk.of_run (K := (sumsHand tabBA)) (n := 2000) (keep := [0]) mixed (sumsHand_ok tabBA_ok) (by kernel_rfl) (by kernel_rfl)

def BB_69 : Sum := ⟨(.sl 0 0 2 2), 1, [(0, (.cells 6 false [] (.node (.node (.node .leaf (.some (.str 6 68669705972028)) .leaf) (.some (.str 3 5646632)) (.node .leaf (.some (.bool false)) .leaf)) (.some (.str 6 68669705972028)) (.node (.node .leaf (.some (.str 21 125924534186164816246133852188561726513007718714408)) .leaf) (.some (.bool false)) .leaf))))]⟩
theorem BB_69_ok : SumOk Tryz.prog 42 [(.str 36 214539033208897925213755128370838752992305990670598911423725060199978812837976799076714)] BB_69 := SumOk.of_run (K := (sumsHand tabBA)) (n := 2000) (keep := [0]) mixed (sumsHand_ok tabBA_ok) (by kernel_rfl) (by kernel_rfl)

def BB_70 : Sum := ⟨(.sl 0 0 2 2), 1, [(0, (.cells 6 false [] (.node (.node (.node .leaf (.some (.str 6 68669705972028)) .leaf) (.some (.str 3 5646632)) (.node .leaf (.some (.bool false)) .leaf)) (.some (.str 6 68669705972028)) (.node (.node .leaf (.some (.str 21 125924534186164816246133852188561726513007718714408)) .leaf) (.some (.bool false)) .leaf))))]⟩
theorem BB_70_ok : SumOk Tryz.prog 42 [(.str 28 11630184294401345606682283003339240975915084228737354846334270988650)] BB_70 := SumOk.of_run (K := (sumsHand tabBA)) (n := 2000) (keep := [0]) mixed (sumsHand_ok tabBA_ok) (by kernel_rfl) (by kernel_rfl)

def BB_71 : Sum := ⟨(.sl 0 0 2 2), 1, [(0, (.cells 6 false [] (.node (.node (.node .leaf (.some (.str 6 68669705972028)) .leaf) (.some (.str 3 5646632)) (.node .leaf (.some (.bool false)) .leaf)) (.some (.str 6 68669705972028)) (.node (.node .leaf (.some (.str 21 125924534186164816246133852188561726513007718714408)) .leaf) (.some (.bool false)) .leaf))))]⟩
theorem BB_71_ok : SumOk Tryz.prog 42 [(.str 29 2977327179366744475310578792928741468592950331792981622238945052352874)] BB_71 := SumOk.of_run (K := (sumsHand tabBA)) (n := 2000) (keep := [0]) mixed (sumsHand_ok tabBA_ok) (by kernel_rfl) (by kernel_rfl)

def BB_72 : Sum := ⟨(.sl 0 0 2 2), 1, [(0, (.cells 6 false [] (.node (.node (.node .leaf (.some (.str 6 68669705972028)) .leaf) (.some (.str 3 5646632)) (.node .leaf (.some (.bool false)) .leaf)) (.some (.str 6 68669705972028)) (.node (.node .leaf (.some (.str 21 125924534186164816246133852188561726513007718714408)) .leaf) (.some (.bool false)) .leaf))))]⟩
theorem BB_72_ok : SumOk Tryz.prog 42 [(.str 38 14060030080378334426808655457799320232265086119729716606675995945190890063755479020322840938)] BB_72 := SumOk.of_run (K := (sumsHand tabBA)) (n := 2000) (keep := [0]) mixed (sumsHand_ok tabBA_ok) (by kernel_rfl) (by kernel_rfl)

def BB_73 : Sum := ⟨(.sl 0 0 2 2), 1, [(0, (.cells 6 false [] (.node (.node (.node .leaf (.some (.str 6 68669705972028)) .leaf) (.some (.str 3 5646632)) (.node .leaf (.some (.bool false)) .leaf)) (.some (.str 6 68669705972028)) (.node (.node .leaf (.some (.str 21 125924534186164816246133852188561726513007718714408)) .leaf) (.some (.bool false)) .leaf))))]⟩
theorem BB_73_ok : SumOk Tryz.prog 42 [(.str 41 235888161625004678398811307485157800903531559133223452051171428016118026562849321940164899390251370)] BB_73 := SumOk.of_run (K := (sumsHand tabBA)) (n := 2000) (keep := [0]) mixed (sumsHand_ok tabBA_ok) (by kernel_rfl) (by kernel_rfl)

def tabBB : List (FuncId × SRows) := (42, [([(.str 19 2261816869159440624969593107871851903301607786)], BB_46), ([(.str 19 2462787319999361794871408518597065734545105258)], BB_47), ([(.str 15 594182256714433171583859471190221162)], BB_48), ([(.str 26 177462528906270532328520934635542489792491443287338843928682858)], BB_49), ([(.str 35 838043098472257520366253329360822735706660890049674080341799799296269125818196058474)], BB_50), ([(.str 26 183890501555036136351903328603364899342229922045770665733546346)], BB_51), ([(.str 38 14569306542031293471471962209605688152784288289213751582725315083544705153644676387098222954)], BB_52), ([(.str 30 789803690223817235625993454897404583541813632134065715887439951296881002)], BB_53), ([(.str 31 202189744697330995387852485397630371027294446829100397077902765524415570282)], BB_54), ([(.str 38 14569306542030247732875768419210667608278730874565438596096215620376147580735894642209743210)], BB_55), ([(.str 22 42815343838886881203639546329033052610660173325164906)], BB_56), ([(.str 21 167247436870678459232146883126634948762985622298986)], BB_57), ([(.str 26 183890501555012814945400634590948384637649511452497603397575018)], BB_58), ([(.str 27 47075968398083285027902446257440240237115773113246055769402925418)], BB_59), ([(.str 28 12051447909910759173808661238977857107111767888823090726697178653034)], BB_60), ([(.str 29 3085170664936786167588614718972924591866388410301586339335837578584426)], BB_61), ([(.str 28 12051447909910278778317482300033197087305720853520054876288643916138)], BB_62), ([(.str 37 56911353679811531822920492603033782110087255578636309514658723732473720363105297718731114)], BB_63), ([(.str 28 12051447909911140811364177168575840195048631602135540194265359868266)], BB_64), ([(.str 26 183890501555043540957095622503328518117729969598634276033028458)], BB_65), ([(.str 29 2977327179366744475310567174670984700336777289692309623825572795146602)], BB_66), ([(.str 30 762195757917886585679527096405151622096281774544538073876077408773628266)], BB_67), ([(.str 40 921438131347674524995356669863897659779420152864154109574888483886346161678995665599280333611370)], BB_68), ([(.str 36 214539033208897925213755128370838752992305990670598911423725060199978812837976799076714)], BB_69), ([(.str 28 11630184294401345606682283003339240975915084228737354846334270988650)], BB_70), ([(.str 29 2977327179366744475310578792928741468592950331792981622238945052352874)], BB_71), ([(.str 38 14060030080378334426808655457799320232265086119729716606675995945190890063755479020322840938)], BB_72), ([(.str 41 235888161625004678398811307485157800903531559133223452051171428016118026562849321940164899390251370)], BB_73)]) :: (38, [([(.int .i64 1)], BB_23), ([(.int .i64 2)], BB_24), ([(.int .i64 3)], BB_25), ([(.int .i64 4)], BB_26), ([(.int .i64 5)], BB_27), ([(.int .i64 6)], BB_28), ([(.int .i64 7)], BB_29), ([(.int .i64 8)], BB_30), ([(.int .i64 9)], BB_31), ([(.int .i64 10)], BB_32), ([(.int .i64 11)], BB_33), ([(.int .i64 12)], BB_34), ([(.int .i64 13)], BB_35), ([(.int .i64 14)], BB_36), ([(.int .i64 15)], BB_37), ([(.int .i64 16)], BB_38), ([(.int .i64 17)], BB_39), ([(.int .i64 18)], BB_40), ([(.int .i64 19)], BB_41), ([(.int .i64 20)], BB_42), ([(.int .i64 21)], BB_43), ([(.int .i64 22)], BB_44), ([(.int .i64 23)], BB_45)]) :: (37, [([(.int .i64 1)], BB_0), ([(.int .i64 2)], BB_1), ([(.int .i64 3)], BB_2), ([(.int .i64 4)], BB_3), ([(.int .i64 5)], BB_4), ([(.int .i64 6)], BB_5), ([(.int .i64 7)], BB_6), ([(.int .i64 8)], BB_7), ([(.int .i64 9)], BB_8), ([(.int .i64 10)], BB_9), ([(.int .i64 11)], BB_10), ([(.int .i64 12)], BB_11), ([(.int .i64 13)], BB_12), ([(.int .i64 14)], BB_13), ([(.int .i64 15)], BB_14), ([(.int .i64 16)], BB_15), ([(.int .i64 17)], BB_16), ([(.int .i64 18)], BB_17), ([(.int .i64 19)], BB_18), ([(.int .i64 20)], BB_19), ([(.int .i64 21)], BB_20), ([(.int .i64 22)], BB_21), ([(.int .i64 23)], BB_22)]) :: tabBA
theorem tabBB_ok : TabOk Tryz.prog tabBB := (TabOk.cons (RowsOk.cons BB_46_ok (RowsOk.cons BB_47_ok (RowsOk.cons BB_48_ok (RowsOk.cons BB_49_ok (RowsOk.cons BB_50_ok (RowsOk.cons BB_51_ok (RowsOk.cons BB_52_ok (RowsOk.cons BB_53_ok (RowsOk.cons BB_54_ok (RowsOk.cons BB_55_ok (RowsOk.cons BB_56_ok (RowsOk.cons BB_57_ok (RowsOk.cons BB_58_ok (RowsOk.cons BB_59_ok (RowsOk.cons BB_60_ok (RowsOk.cons BB_61_ok (RowsOk.cons BB_62_ok (RowsOk.cons BB_63_ok (RowsOk.cons BB_64_ok (RowsOk.cons BB_65_ok (RowsOk.cons BB_66_ok (RowsOk.cons BB_67_ok (RowsOk.cons BB_68_ok (RowsOk.cons BB_69_ok (RowsOk.cons BB_70_ok (RowsOk.cons BB_71_ok (RowsOk.cons BB_72_ok (RowsOk.cons BB_73_ok RowsOk.nil)))))))))))))))))))))))))))) (TabOk.cons (RowsOk.cons BB_23_ok (RowsOk.cons BB_24_ok (RowsOk.cons BB_25_ok (RowsOk.cons BB_26_ok (RowsOk.cons BB_27_ok (RowsOk.cons BB_28_ok (RowsOk.cons BB_29_ok (RowsOk.cons BB_30_ok (RowsOk.cons BB_31_ok (RowsOk.cons BB_32_ok (RowsOk.cons BB_33_ok (RowsOk.cons BB_34_ok (RowsOk.cons BB_35_ok (RowsOk.cons BB_36_ok (RowsOk.cons BB_37_ok (RowsOk.cons BB_38_ok (RowsOk.cons BB_39_ok (RowsOk.cons BB_40_ok (RowsOk.cons BB_41_ok (RowsOk.cons BB_42_ok (RowsOk.cons BB_43_ok (RowsOk.cons BB_44_ok (RowsOk.cons BB_45_ok RowsOk.nil))))))))))))))))))))))) (TabOk.cons (RowsOk.cons BB_0_ok (RowsOk.cons BB_1_ok (RowsOk.cons BB_2_ok (RowsOk.cons BB_3_ok (RowsOk.cons BB_4_ok (RowsOk.cons BB_5_ok (RowsOk.cons BB_6_ok (RowsOk.cons BB_7_ok (RowsOk.cons BB_8_ok (RowsOk.cons BB_9_ok (RowsOk.cons BB_10_ok (RowsOk.cons BB_11_ok (RowsOk.cons BB_12_ok (RowsOk.cons BB_13_ok (RowsOk.cons BB_14_ok (RowsOk.cons BB_15_ok (RowsOk.cons BB_16_ok (RowsOk.cons BB_17_ok (RowsOk.cons BB_18_ok (RowsOk.cons BB_19_ok (RowsOk.cons BB_20_ok (RowsOk.cons BB_21_ok (RowsOk.cons BB_22_ok RowsOk.nil))))))))))))))))))))))) tabBA_ok)))
end Go.Proofs.YtlnkclamdiohnaaGreatDoor
