import Derived.Test.YtmeepibkgbgmhaaXSum
import Derived.Test.YtmeepibkgbgmhaaChecked
import Derived.KernelRfl
import Derived.Test.YtmeepibkgbgmhaaB10A
import Derived.Test.YtmeepibkgbgmhaaB10B
import Derived.Test.YtmeepibkgbgmhaaB10C
import Derived.Test.YtmeepibkgbgmhaaB10D
import Derived.Test.YtmeepibkgbgmhaaB10F
import Derived.Test.YtmeepibkgbgmhaaB10G
import Derived.Test.YtmeepibkgbgmhaaB10H
import Derived.Test.YtmeepibkgbgmhaaB10I
import Derived.Test.YtmeepibkgbgmhaaB10J
set_option linter.unusedSectionVars false
set_option maxRecDepth 1000000
namespace Go.Proofs.Ytmeepibkgbgmhaa
open Go.X
variable [Tab]

def K_0 : Sum := ⟨(.bool true), 239, []⟩
theorem K_0_ok : SumOk Try.prog 3 [(.str 16 154706541852025644484233205990057992554)] K_0 := SumOk.of_run (K := (sumsHand tabJ)) (n := 2000) (keep := []) mixed (sumsHand_ok tabJ_ok) (by kernel_rfl) (by kernel_rfl)

def K_1 : Sum := ⟨(.bool true), 310, []⟩
theorem K_1_ok : SumOk Try.prog 3 [(.str 16 137483774941304901841256615957136564586)] K_1 := SumOk.of_run (K := (sumsHand tabJ)) (n := 2000) (keep := []) mixed (sumsHand_ok tabJ_ok) (by kernel_rfl) (by kernel_rfl)

def K_2 : Sum := ⟨(.bool true), 295, []⟩
theorem K_2_ok : SumOk Try.prog 3 [(.str 23 10956966084090815260342509131105871416374185281426186602)] K_2 := SumOk.of_run (K := (sumsHand tabJ)) (n := 2000) (keep := []) mixed (sumsHand_ok tabJ_ok) (by kernel_rfl) (by kernel_rfl)

def K_3 : Sum := ⟨(.bool true), 227, []⟩
theorem K_3_ok : SumOk Try.prog 3 [(.str 16 145412635431568811361768410208787652970)] K_3 := SumOk.of_run (K := (sumsHand tabJ)) (n := 2000) (keep := []) mixed (sumsHand_ok tabJ_ok) (by kernel_rfl) (by kernel_rfl)

def K_4 : Sum := ⟨(.bool true), 348, []⟩
theorem K_4_ok : SumOk Try.prog 3 [(.str 19 2439265639030268300842157990401791553877467498)] K_4 := SumOk.of_run (K := (sumsHand tabJ)) (n := 2000) (keep := []) mixed (sumsHand_ok tabJ_ok) (by kernel_rfl) (by kernel_rfl)

def K_5 : Sum := ⟨(.bool true), 323, []⟩
theorem K_5_ok : SumOk Try.prog 3 [(.str 19 2261816869159440624969593107871851903301607786)] K_5 := SumOk.of_run (K := (sumsHand tabJ)) (n := 2000) (keep := []) mixed (sumsHand_ok tabJ_ok) (by kernel_rfl) (by kernel_rfl)

def K_6 : Sum := ⟨(.bool true), 309, []⟩
theorem K_6_ok : SumOk Try.prog 3 [(.str 19 2462787319999361794871408518597065734545105258)] K_6 := SumOk.of_run (K := (sumsHand tabJ)) (n := 2000) (keep := []) mixed (sumsHand_ok tabJ_ok) (by kernel_rfl) (by kernel_rfl)

def K_7 : Sum := ⟨(.bool true), 310, []⟩
theorem K_7_ok : SumOk Try.prog 3 [(.str 15 594182256714433171583859471190221162)] K_7 := SumOk.of_run (K := (sumsHand tabJ)) (n := 2000) (keep := []) mixed (sumsHand_ok tabJ_ok) (by kernel_rfl) (by kernel_rfl)

def K_8 : Sum := ⟨(.bool true), 311, []⟩
theorem K_8_ok : SumOk Try.prog 3 [(.str 26 177462528906270532328520934635542489792491443287338843928682858)] K_8 := SumOk.of_run (K := (sumsHand tabJ)) (n := 2000) (keep := []) mixed (sumsHand_ok tabJ_ok) (by kernel_rfl) (by kernel_rfl)

def K_9 : Sum := ⟨(.bool true), 312, []⟩
theorem K_9_ok : SumOk Try.prog 3 [(.str 35 838043098472257520366253329360822735706660890049674080341799799296269125818196058474)] K_9 := SumOk.of_run (K := (sumsHand tabJ)) (n := 2000) (keep := []) mixed (sumsHand_ok tabJ_ok) (by kernel_rfl) (by kernel_rfl)

def K_10 : Sum := ⟨(.bool true), 314, []⟩
theorem K_10_ok : SumOk Try.prog 3 [(.str 26 183890501555036136351903328603364899342229922045770665733546346)] K_10 := SumOk.of_run (K := (sumsHand tabJ)) (n := 2000) (keep := []) mixed (sumsHand_ok tabJ_ok) (by kernel_rfl) (by kernel_rfl)

def K_11 : Sum := ⟨(.bool true), 316, []⟩
theorem K_11_ok : SumOk Try.prog 3 [(.str 38 14569306542031293471471962209605688152784288289213751582725315083544705153644676387098222954)] K_11 := SumOk.of_run (K := (sumsHand tabJ)) (n := 2000) (keep := []) mixed (sumsHand_ok tabJ_ok) (by kernel_rfl) (by kernel_rfl)

def K_12 : Sum := ⟨(.bool true), 318, []⟩
theorem K_12_ok : SumOk Try.prog 3 [(.str 30 789803690223817235625993454897404583541813632134065715887439951296881002)] K_12 := SumOk.of_run (K := (sumsHand tabJ)) (n := 2000) (keep := []) mixed (sumsHand_ok tabJ_ok) (by kernel_rfl) (by kernel_rfl)

def K_13 : Sum := ⟨(.bool true), 320, []⟩
theorem K_13_ok : SumOk Try.prog 3 [(.str 31 202189744697330995387852485397630371027294446829100397077902765524415570282)] K_13 := SumOk.of_run (K := (sumsHand tabJ)) (n := 2000) (keep := []) mixed (sumsHand_ok tabJ_ok) (by kernel_rfl) (by kernel_rfl)

def K_14 : Sum := ⟨(.bool true), 322, []⟩
theorem K_14_ok : SumOk Try.prog 3 [(.str 38 14569306542030247732875768419210667608278730874565438596096215620376147580735894642209743210)] K_14 := SumOk.of_run (K := (sumsHand tabJ)) (n := 2000) (keep := []) mixed (sumsHand_ok tabJ_ok) (by kernel_rfl) (by kernel_rfl)

def K_15 : Sum := ⟨(.bool true), 324, []⟩
theorem K_15_ok : SumOk Try.prog 3 [(.str 22 42815343838886881203639546329033052610660173325164906)] K_15 := SumOk.of_run (K := (sumsHand tabJ)) (n := 2000) (keep := []) mixed (sumsHand_ok tabJ_ok) (by kernel_rfl) (by kernel_rfl)

def K_16 : Sum := ⟨(.bool true), 326, []⟩
theorem K_16_ok : SumOk Try.prog 3 [(.str 21 167247436870678459232146883126634948762985622298986)] K_16 := SumOk.of_run (K := (sumsHand tabJ)) (n := 2000) (keep := []) mixed (sumsHand_ok tabJ_ok) (by kernel_rfl) (by kernel_rfl)

def K_17 : Sum := ⟨(.bool true), 328, []⟩
theorem K_17_ok : SumOk Try.prog 3 [(.str 26 183890501555012814945400634590948384637649511452497603397575018)] K_17 := SumOk.of_run (K := (sumsHand tabJ)) (n := 2000) (keep := []) mixed (sumsHand_ok tabJ_ok) (by kernel_rfl) (by kernel_rfl)

def K_18 : Sum := ⟨(.bool true), 330, []⟩
theorem K_18_ok : SumOk Try.prog 3 [(.str 27 47075968398083285027902446257440240237115773113246055769402925418)] K_18 := SumOk.of_run (K := (sumsHand tabJ)) (n := 2000) (keep := []) mixed (sumsHand_ok tabJ_ok) (by kernel_rfl) (by kernel_rfl)

def K_19 : Sum := ⟨(.bool true), 332, []⟩
theorem K_19_ok : SumOk Try.prog 3 [(.str 28 12051447909910759173808661238977857107111767888823090726697178653034)] K_19 := SumOk.of_run (K := (sumsHand tabJ)) (n := 2000) (keep := []) mixed (sumsHand_ok tabJ_ok) (by kernel_rfl) (by kernel_rfl)

def K_20 : Sum := ⟨(.bool true), 334, []⟩
theorem K_20_ok : SumOk Try.prog 3 [(.str 29 3085170664936786167588614718972924591866388410301586339335837578584426)] K_20 := SumOk.of_run (K := (sumsHand tabJ)) (n := 2000) (keep := []) mixed (sumsHand_ok tabJ_ok) (by kernel_rfl) (by kernel_rfl)

def K_21 : Sum := ⟨(.bool true), 336, []⟩
theorem K_21_ok : SumOk Try.prog 3 [(.str 28 12051447909910278778317482300033197087305720853520054876288643916138)] K_21 := SumOk.of_run (K := (sumsHand tabJ)) (n := 2000) (keep := []) mixed (sumsHand_ok tabJ_ok) (by kernel_rfl) (by kernel_rfl)

def K_22 : Sum := ⟨(.bool true), 338, []⟩
theorem K_22_ok : SumOk Try.prog 3 [(.str 37 56911353679811531822920492603033782110087255578636309514658723732473720363105297718731114)] K_22 := SumOk.of_run (K := (sumsHand tabJ)) (n := 2000) (keep := []) mixed (sumsHand_ok tabJ_ok) (by kernel_rfl) (by kernel_rfl)

def K_23 : Sum := ⟨(.bool true), 340, []⟩
theorem K_23_ok : SumOk Try.prog 3 [(.str 28 12051447909911140811364177168575840195048631602135540194265359868266)] K_23 := SumOk.of_run (K := (sumsHand tabJ)) (n := 2000) (keep := []) mixed (sumsHand_ok tabJ_ok) (by kernel_rfl) (by kernel_rfl)

def K_24 : Sum := ⟨(.bool true), 342, []⟩
theorem K_24_ok : SumOk Try.prog 3 [(.str 26 183890501555043540957095622503328518117729969598634276033028458)] K_24 := SumOk.of_run (K := (sumsHand tabJ)) (n := 2000) (keep := []) mixed (sumsHand_ok tabJ_ok) (by kernel_rfl) (by kernel_rfl)

def K_25 : Sum := ⟨(.bool true), 344, []⟩
theorem K_25_ok : SumOk Try.prog 3 [(.str 29 2977327179366744475310567174670984700336777289692309623825572795146602)] K_25 := SumOk.of_run (K := (sumsHand tabJ)) (n := 2000) (keep := []) mixed (sumsHand_ok tabJ_ok) (by kernel_rfl) (by kernel_rfl)

def K_26 : Sum := ⟨(.bool true), 346, []⟩
theorem K_26_ok : SumOk Try.prog 3 [(.str 30 762195757917886585679527096405151622096281774544538073876077408773628266)] K_26 := SumOk.of_run (K := (sumsHand tabJ)) (n := 2000) (keep := []) mixed (sumsHand_ok tabJ_ok) (by kernel_rfl) (by kernel_rfl)

def K_27 : Sum := ⟨(.bool true), 348, []⟩
theorem K_27_ok : SumOk Try.prog 3 [(.str 40 921438131347674524995356669863897659779420152864154109574888483886346161678995665599280333611370)] K_27 := SumOk.of_run (K := (sumsHand tabJ)) (n := 2000) (keep := []) mixed (sumsHand_ok tabJ_ok) (by kernel_rfl) (by kernel_rfl)

def K_28 : Sum := ⟨(.bool true), 350, []⟩
theorem K_28_ok : SumOk Try.prog 3 [(.str 36 214539033208897925213755128370838752992305990670598911423725060199978812837976799076714)] K_28 := SumOk.of_run (K := (sumsHand tabJ)) (n := 2000) (keep := []) mixed (sumsHand_ok tabJ_ok) (by kernel_rfl) (by kernel_rfl)

def K_29 : Sum := ⟨(.bool true), 352, []⟩
theorem K_29_ok : SumOk Try.prog 3 [(.str 28 11630184294401345606682283003339240975915084228737354846334270988650)] K_29 := SumOk.of_run (K := (sumsHand tabJ)) (n := 2000) (keep := []) mixed (sumsHand_ok tabJ_ok) (by kernel_rfl) (by kernel_rfl)

def K_30 : Sum := ⟨(.bool true), 354, []⟩
theorem K_30_ok : SumOk Try.prog 3 [(.str 29 2977327179366744475310578792928741468592950331792981622238945052352874)] K_30 := SumOk.of_run (K := (sumsHand tabJ)) (n := 2000) (keep := []) mixed (sumsHand_ok tabJ_ok) (by kernel_rfl) (by kernel_rfl)

def K_31 : Sum := ⟨(.bool true), 356, []⟩
theorem K_31_ok : SumOk Try.prog 3 [(.str 38 14060030080378334426808655457799320232265086119729716606675995945190890063755479020322840938)] K_31 := SumOk.of_run (K := (sumsHand tabJ)) (n := 2000) (keep := []) mixed (sumsHand_ok tabJ_ok) (by kernel_rfl) (by kernel_rfl)

def K_32 : Sum := ⟨(.bool true), 358, []⟩
theorem K_32_ok : SumOk Try.prog 3 [(.str 41 235888161625004678398811307485157800903531559133223452051171428016118026562849321940164899390251370)] K_32 := SumOk.of_run (K := (sumsHand tabJ)) (n := 2000) (keep := []) mixed (sumsHand_ok tabJ_ok) (by kernel_rfl) (by kernel_rfl)

def tabK : List (FuncId × SRows) := (3, [([(.str 16 154706541852025644484233205990057992554)], K_0), ([(.str 16 137483774941304901841256615957136564586)], K_1), ([(.str 23 10956966084090815260342509131105871416374185281426186602)], K_2), ([(.str 16 145412635431568811361768410208787652970)], K_3), ([(.str 19 2439265639030268300842157990401791553877467498)], K_4), ([(.str 19 2261816869159440624969593107871851903301607786)], K_5), ([(.str 19 2462787319999361794871408518597065734545105258)], K_6), ([(.str 15 594182256714433171583859471190221162)], K_7), ([(.str 26 177462528906270532328520934635542489792491443287338843928682858)], K_8), ([(.str 35 838043098472257520366253329360822735706660890049674080341799799296269125818196058474)], K_9), ([(.str 26 183890501555036136351903328603364899342229922045770665733546346)], K_10), ([(.str 38 14569306542031293471471962209605688152784288289213751582725315083544705153644676387098222954)], K_11), ([(.str 30 789803690223817235625993454897404583541813632134065715887439951296881002)], K_12), ([(.str 31 202189744697330995387852485397630371027294446829100397077902765524415570282)], K_13), ([(.str 38 14569306542030247732875768419210667608278730874565438596096215620376147580735894642209743210)], K_14), ([(.str 22 42815343838886881203639546329033052610660173325164906)], K_15), ([(.str 21 167247436870678459232146883126634948762985622298986)], K_16), ([(.str 26 183890501555012814945400634590948384637649511452497603397575018)], K_17), ([(.str 27 47075968398083285027902446257440240237115773113246055769402925418)], K_18), ([(.str 28 12051447909910759173808661238977857107111767888823090726697178653034)], K_19), ([(.str 29 3085170664936786167588614718972924591866388410301586339335837578584426)], K_20), ([(.str 28 12051447909910278778317482300033197087305720853520054876288643916138)], K_21), ([(.str 37 56911353679811531822920492603033782110087255578636309514658723732473720363105297718731114)], K_22), ([(.str 28 12051447909911140811364177168575840195048631602135540194265359868266)], K_23), ([(.str 26 183890501555043540957095622503328518117729969598634276033028458)], K_24), ([(.str 29 2977327179366744475310567174670984700336777289692309623825572795146602)], K_25), ([(.str 30 762195757917886585679527096405151622096281774544538073876077408773628266)], K_26), ([(.str 40 921438131347674524995356669863897659779420152864154109574888483886346161678995665599280333611370)], K_27), ([(.str 36 214539033208897925213755128370838752992305990670598911423725060199978812837976799076714)], K_28), ([(.str 28 11630184294401345606682283003339240975915084228737354846334270988650)], K_29), ([(.str 29 2977327179366744475310578792928741468592950331792981622238945052352874)], K_30), ([(.str 38 14060030080378334426808655457799320232265086119729716606675995945190890063755479020322840938)], K_31), ([(.str 41 235888161625004678398811307485157800903531559133223452051171428016118026562849321940164899390251370)], K_32)]) :: tabJ
theorem tabK_ok : TabOk Try.prog tabK := (TabOk.cons (RowsOk.cons K_0_ok (RowsOk.cons K_1_ok (RowsOk.cons K_2_ok (RowsOk.cons K_3_ok (RowsOk.cons K_4_ok (RowsOk.cons K_5_ok (RowsOk.cons K_6_ok (RowsOk.cons K_7_ok (RowsOk.cons K_8_ok (RowsOk.cons K_9_ok (RowsOk.cons K_10_ok (RowsOk.cons K_11_ok (RowsOk.cons K_12_ok (RowsOk.cons K_13_ok (RowsOk.cons K_14_ok (RowsOk.cons K_15_ok (RowsOk.cons K_16_ok (RowsOk.cons K_17_ok (RowsOk.cons K_18_ok (RowsOk.cons K_19_ok (RowsOk.cons K_20_ok (RowsOk.cons K_21_ok (RowsOk.cons K_22_ok (RowsOk.cons K_23_ok (RowsOk.cons K_24_ok (RowsOk.cons K_25_ok (RowsOk.cons K_26_ok (RowsOk.cons K_27_ok (RowsOk.cons K_28_ok (RowsOk.cons K_29_ok (RowsOk.cons K_30_ok (RowsOk.cons K_31_ok (RowsOk.cons K_32_ok RowsOk.nil))))))))))))))))))))))))))))))))) tabJ_ok)
end Go.Proofs.Ytmeepibkgbgmhaa
