/-
  What the law TopSort gives: states of the law and their steps.
-/
import Derived.Test.YtaabcpibfignfaaGreatDoorSOR
import Derived.Test.YtaabcpibfignfaaGreatDoorXN3
set_option linter.unusedSectionVars false
set_option linter.unusedVariables false
set_option maxRecDepth 1000000
set_option maxHeartbeats 0
namespace Go.Proofs.YtaabcpibfignfaaGreatDoor.so
open Go.X Go.RowKit Go.Proofs.YtaabcpibfignfaaGreatDoor
/- the parts of a body that ends with loops -/
def q1 : Code → Code
  | .seq a _ => a
  | _ => .skip
def q2 : Code → Code
  | .seq _ b => b
  | _ => .skip
def bk : Code → Code
  | .block _ c => c
  | _ => .skip
def lp : Code → Code
  | .loop c => c
  | _ => .skip
noncomputable def fullL : Code := (Tryz.f3.body).getD .skip
noncomputable def hdL : Code := q1 (q1 (restn 42 fullL))
noncomputable def laL : Code := lp (bk (q2 (q1 (restn 42 fullL))))
noncomputable def tlL : Code := q2 (restn 42 fullL)
theorem restL_eq : restn 42 fullL = .seq (.seq hdL (.block 0 (.loop laL))) tlL := by kernel_rfl
theorem bodyL_eq : Tryz.f3.body = some fullL := by kernel_rfl
noncomputable def c1 : Code := q1 laL
noncomputable def cA : Code := bk (q1 (q2 laL))
noncomputable def cE : Code := q2 (q2 laL)
noncomputable def l2 : Code := lp (bk (restn 3 cA))
theorem laL_eq : laL = .seq c1 (.seq (.block 1 cA) cE) := by kernel_rfl
theorem cA_eq : restn 3 cA = .block 2 (.loop l2) := by kernel_rfl
noncomputable abbrev NT : Nat := Tryz.f3.ntmps
noncomputable abbrev bsL : BS := [(7332, 7332, (.map [((.str 1 77), (.ptr 14235 0), 0)] 1)), (7333, 7333, (.map [((.str 19 2439265639030268300842157990401791553877467498), (.ptr 7530 0), 0), ((.str 29 3085170664936786167588614718972924591866388410301586339335837578584426), (.ptr 7678 0), 1), ((.str 29 2977327179366744475310567174670984700336777289692309623825572795146602), (.ptr 7787 0), 2), ((.str 40 921438131347674524995356669863897659779420152864154109574888483886346161678995665599280333611370), (.ptr 7898 0), 3), ((.str 29 2977327179366744475310578792928741468592950331792981622238945052352874), (.ptr 8012 0), 4), ((.str 28 11630184294401345606682283003339240975915084228737354846334270988650), (.ptr 8125 0), 5), ((.str 31 202189744697330995387852485397630371027294446829100397077902765524415570282), (.ptr 8222 0), 6), ((.str 26 183890501555036136351903328603364899342229922045770665733546346), (.ptr 8316 0), 7), ((.str 15 594182256714433171583859471190221162), (.ptr 8407 0), 8), ((.str 19 2462787319999361794871408518597065734545105258), (.ptr 8497 0), 9), ((.str 37 56911353679811531822920492603033782110087255578636309514658723732473720363105297718731114), (.ptr 8603 0), 10), ((.str 28 12051447909910759173808661238977857107111767888823090726697178653034), (.ptr 8706 0), 11), ((.str 38 14060030080378334426808655457799320232265086119729716606675995945190890063755479020322840938), (.ptr 8821 0), 12), ((.str 38 14569306542030247732875768419210667608278730874565438596096215620376147580735894642209743210), (.ptr 8919 0), 13), ((.str 35 838043098472257520366253329360822735706660890049674080341799799296269125818196058474), (.ptr 9012 0), 14), ((.str 28 12051447909910278778317482300033197087305720853520054876288643916138), (.ptr 9117 0), 15), ((.str 22 42815343838886881203639546329033052610660173325164906), (.ptr 9216 0), 16), ((.str 36 214539033208897925213755128370838752992305990670598911423725060199978812837976799076714), (.ptr 9328 0), 17), ((.str 30 789803690223817235625993454897404583541813632134065715887439951296881002), (.ptr 9424 0), 18), ((.str 26 183890501555012814945400634590948384637649511452497603397575018), (.ptr 9525 0), 19), ((.str 27 47075968398083285027902446257440240237115773113246055769402925418), (.ptr 9627 0), 20), ((.str 30 762195757917886585679527096405151622096281774544538073876077408773628266), (.ptr 9737 0), 21), ((.str 16 154706541852025644484233205990057992554), (.ptr 9748 0), 22), ((.str 26 183890501555043540957095622503328518117729969598634276033028458), (.ptr 9859 0), 23), ((.str 26 177462528906270532328520934635542489792491443287338843928682858), (.ptr 9951 0), 24), ((.str 28 12051447909911140811364177168575840195048631602135540194265359868266), (.ptr 10058 0), 25), ((.str 16 137483774941304901841256615957136564586), (.ptr 10079 0), 26), ((.str 23 10956966084090815260342509131105871416374185281426186602), (.ptr 10136 0), 27), ((.str 41 235888161625004678398811307485157800903531559133223452051171428016118026562849321940164899390251370), (.ptr 10276 0), 28), ((.str 16 145412635431568811361768410208787652970), (.ptr 10288 0), 29), ((.str 19 2261816869159440624969593107871851903301607786), (.ptr 10376 0), 30), ((.str 38 14569306542031293471471962209605688152784288289213751582725315083544705153644676387098222954), (.ptr 10476 0), 31), ((.str 21 167247436870678459232146883126634948762985622298986), (.ptr 10576 0), 32)] 33)), (7334, 7334, (.cells 3 false [] (T.ofList 0 .leaf [(.map 7332), (.map 7333), (.so 17210 0 1 1)]))), (9748, 9748, (.cells 8 false [] (T.ofList 0 .leaf [(.int .i64 52), .nils, (.int .i64 33), (.str 16 154706541852025644484233205990057992554), (.str 0 0), .nils, .nils, (.so 9760 0 3 9)]))), (10586, 10586, (.map [((.str 19 2439265639030268300842157990401791553877467498), (.int .i64 0), 0), ((.str 28 12051447909911140811364177168575840195048631602135540194265359868266), (.int .i64 1), 1), ((.str 26 183890501555043540957095622503328518117729969598634276033028458), (.int .i64 2), 2)] 3)), (10587, 10587, (.cells 5 false [] (T.ofList 0 .leaf [(.ptr 7334 0), (.so 14155 0 8 1), (.so 14157 0 3 1), (.so 14154 0 3 3), (.map 10586)]))), (10590, 10590, (.map [] 0)), (10591, 10591, (.map [] 0)), (10592, 10592, (.cells 3 false [] (T.ofList 0 .leaf [(.ptr 7334 0), (.map 10590), (.map 10591)]))), (10593, 10593, (.cells 7 false [] (T.ofList 0 .leaf [(.ptr 10587 0), (.ptr 10589 0), (.ptr 7334 0), (.so 11307 0 39 3), .nils, (.bool false), (.bool false)]))), (13933, 13933, (.cells 4 false [] (T.ofList 0 .leaf [.nils, .nils, .nils, (.int .i64 0)]))), (13934, 13934, (.map [] 0)), (13935, 13935, (.map [] 0)), (13936, 13936, (.map [] 0)), (13937, 13937, (.cells 32 false [] (T.ofList 0 .leaf [(.ptr 7334 0), (.ptr 10592 0), (.ptr 10587 0), (.ptr 10589 0), (.ptr 10593 0), (.ptr 13933 0), .nils, (.map 13934), (.map 13935), .nils, (.int .i64 1), (.int .i64 3), (.int .i64 6), (.int .i64 0), .nilp, (.bool false), (.int .i64 0), (.int .i64 0), (.int .i64 0), (.int .i64 0), (.int .i64 0), (.int .i64 0), (.int .u8 0), (.int .i64 0), (.str 0 0), (.str 0 0), (.bool false), (.int .i64 0), .nils, (.int .i64 0), (.int .i64 0), (.map 13936)]))), (14154, 14154, (.cells 9 true [] (T.ofList 0 .leaf [(.str 19 2439265639030268300842157990401791553877467498), .nils, (.int .u8 0), (.str 28 12051447909911140811364177168575840195048631602135540194265359868266), (.so 14056 0 1 1), (.int .u8 0), (.str 26 183890501555043540957095622503328518117729969598634276033028458), (.so 14152 0 1 1), (.int .u8 0)]))), (14155, 14155, (.cells 8 true [] (T.ofList 0 .leaf [(.int .u64 0), (.int .u64 0), (.int .u64 1), (.int .u64 0), (.int .u64 0), (.int .u64 2), (.int .u64 0), (.int .u64 0)]))), (14157, 14157, (.cells 3 true [] (T.ofList 0 .leaf [(.int .i64 0), (.int .i64 2), (.int .i64 5)]))), (14158, 14158, (.cells 2 false [] (T.ofList 0 .leaf [(.ptr 7334 0), (.ptr 13937 0)]))), (14159, 14159, (.cells 2 false [] (T.ofList 0 .leaf [(.ptr 14158 0), (.bool true)]))), (14235, 14235, (.cells 8 false [] (T.ofList 0 .leaf [(.int .i64 52), (.sl 14237 0 11 11), (.int .i64 33), (.str 1 77), (.str 16 154706541852025644484233205990057992554), .nils, .nils, (.so 17208 0 1 9)]))), (14237, 14237, (.cells 55 false [(.int .i64 0), (.str 0 0), (.int .i64 0), (.int .i64 0), (.int .i64 0)] (ofPairs [(5, (.int .i64 1)), (6, (.str 2 18779)), (7, (.int .i64 0)), (8, (.int .i64 0)), (9, (.int .i64 0)), (10, (.int .i64 7)), (11, (.str 0 0)), (12, (.int .i64 0)), (13, (.int .i64 1)), (14, (.int .i64 0)), (15, (.int .i64 1)), (16, (.str 2 28519)), (17, (.int .i64 0)), (18, (.int .i64 0)), (19, (.int .i64 0)), (20, (.int .i64 1)), (21, (.str 5 314225281320)), (22, (.int .i64 0)), (23, (.int .i64 0)), (24, (.int .i64 0)), (25, (.int .i64 1)), (26, (.str 13 8035587729358898777305137640531)), (27, (.int .i64 0)), (28, (.int .i64 0)), (29, (.int .i64 0)), (30, (.int .i64 1)), (31, (.str 4 1701080899)), (32, (.int .i64 0)), (33, (.int .i64 0)), (34, (.int .i64 0)), (35, (.int .i64 1)), (36, (.str 1 77)), (37, (.int .i64 0)), (38, (.int .i64 0)), (39, (.int .i64 0)), (40, (.int .i64 7)), (41, (.str 0 0)), (42, (.int .i64 0)), (43, (.int .i64 7)), (44, (.int .i64 0)), (45, (.int .i64 1)), (46, (.str 16 154706541852025644484233205990057992554)), (47, (.int .i64 0)), (48, (.int .i64 0)), (49, (.int .i64 0)), (50, (.int .i64 7)), (51, (.str 0 0)), (52, (.int .i64 0)), (53, (.int .i64 9)), (54, (.int .i64 0))]))), (14558, 14558, (.cells 123 true [] (T.ofList 0 .leaf [(.int .u8 3), (.int .u8 61), (.int .u8 3), (.int .u8 62), (.int .u8 26), (.int .u8 188), (.int .u8 10), (.int .u8 58), (.int .u8 4), (.int .u8 28), (.int .u8 26), (.int .u8 162), (.int .u8 0), (.int .u8 27), (.int .u8 27), (.int .u8 17), (.int .u8 0), (.int .u8 61), (.int .u8 104), (.int .u8 16), (.int .u8 17), (.int .u8 96), (.int .u8 17), (.int .u8 3), (.int .u8 241), (.int .u8 112), (.int .u8 60), (.int .u8 25), (.int .u8 4), (.int .u8 28), (.int .u8 27), (.int .u8 79), (.int .u8 132), (.int .u8 2), (.int .u8 1), (.int .u8 167), (.int .u8 255), (.int .u8 230), (.int .u8 132), (.int .u8 2), (.int .u8 255), (.int .u8 28), (.int .u8 158), (.int .u8 0), (.int .u8 54), (.int .u8 3), (.int .u8 62), (.int .u8 29), (.int .u8 28), (.int .u8 162), (.int .u8 0), (.int .u8 44), (.int .u8 25), (.int .u8 4), (.int .u8 29), (.int .u8 46), (.int .u8 25), (.int .u8 4), (.int .u8 29), (.int .u8 4), (.int .u8 96), (.int .u8 46), (.int .u8 164), (.int .u8 0), (.int .u8 25), (.int .u8 25), (.int .u8 4), (.int .u8 29), (.int .u8 46), (.int .u8 25), (.int .u8 4), (.int .u8 29), (.int .u8 25), (.int .u8 4), (.int .u8 29), (.int .u8 4), (.int .u8 96), (.int .u8 46), (.int .u8 79), (.int .u8 60), (.int .u8 25), (.int .u8 4), (.int .u8 29), (.int .u8 4), (.int .u8 96), (.int .u8 27), (.int .u8 79), (.int .u8 132), (.int .u8 3), (.int .u8 1), (.int .u8 167), (.int .u8 255), (.int .u8 213), (.int .u8 167), (.int .u8 255), (.int .u8 201), (.int .u8 3), (.int .u8 60), (.int .u8 3), (.int .u8 61), (.int .u8 28), (.int .u8 26), (.int .u8 162), (.int .u8 0), (.int .u8 19), (.int .u8 27), (.int .u8 16), (.int .u8 7), (.int .u8 104), (.int .u8 25), (.int .u8 4), (.int .u8 28), (.int .u8 46), (.int .u8 96), (.int .u8 60), (.int .u8 132), (.int .u8 2), (.int .u8 1), (.int .u8 167), (.int .u8 255), (.int .u8 238), (.int .u8 27), (.int .u8 172)]))), (16990, 16990, (.cells 15 true [] (T.ofList 0 .leaf [(.int .i64 1), (.str 0 0), (.int .i64 0), (.int .i64 1), (.str 0 0), (.int .i64 0), (.int .i64 1), (.str 0 0), (.int .i64 0), (.int .i64 1), (.str 0 0), (.int .i64 0), (.int .i64 7), (.str 0 0), (.int .i64 2)]))), (17020, 17020, (.cells 15 true [] (T.ofList 0 .leaf [(.int .i64 1), (.str 0 0), (.int .i64 0), (.int .i64 1), (.str 0 0), (.int .i64 0), (.int .i64 1), (.str 0 0), (.int .i64 0), (.int .i64 1), (.str 0 0), (.int .i64 0), (.int .i64 7), (.str 0 0), (.int .i64 2)]))), (17050, 17050, (.cells 15 true [] (T.ofList 0 .leaf [(.int .i64 1), (.str 0 0), (.int .i64 0), (.int .i64 1), (.str 0 0), (.int .i64 0), (.int .i64 1), (.str 0 0), (.int .i64 0), (.int .i64 1), (.str 0 0), (.int .i64 0), (.int .i64 7), (.str 0 0), (.int .i64 2)]))), (17080, 17080, (.cells 15 true [] (T.ofList 0 .leaf [(.int .i64 1), (.str 0 0), (.int .i64 0), (.int .i64 1), (.str 0 0), (.int .i64 0), (.int .i64 1), (.str 0 0), (.int .i64 0), (.int .i64 1), (.str 0 0), (.int .i64 0), (.int .i64 7), (.str 0 0), (.int .i64 2)]))), (17110, 17110, (.cells 15 true [] (T.ofList 0 .leaf [(.int .i64 1), (.str 0 0), (.int .i64 0), (.int .i64 1), (.str 0 0), (.int .i64 0), (.int .i64 1), (.str 0 0), (.int .i64 0), (.int .i64 1), (.str 0 0), (.int .i64 0), (.int .i64 7), (.str 0 0), (.int .i64 2)]))), (17140, 17140, (.cells 15 true [] (T.ofList 0 .leaf [(.int .i64 1), (.str 0 0), (.int .i64 0), (.int .i64 1), (.str 0 0), (.int .i64 0), (.int .i64 1), (.str 0 0), (.int .i64 0), (.int .i64 1), (.str 0 0), (.int .i64 0), (.int .i64 7), (.str 0 0), (.int .i64 2)]))), (17170, 17170, (.cells 15 true [] (T.ofList 0 .leaf [(.int .i64 1), (.str 0 0), (.int .i64 0), (.int .i64 1), (.str 0 0), (.int .i64 0), (.int .i64 1), (.str 0 0), (.int .i64 0), (.int .i64 1), (.str 0 0), (.int .i64 0), (.int .i64 7), (.str 0 0), (.int .i64 2)]))), (17200, 17200, (.cells 15 true [] (T.ofList 0 .leaf [(.int .i64 1), (.str 0 0), (.int .i64 0), (.int .i64 1), (.str 0 0), (.int .i64 0), (.int .i64 1), (.str 0 0), (.int .i64 0), (.int .i64 1), (.str 0 0), (.int .i64 0), (.int .i64 7), (.str 0 0), (.int .i64 2)]))), (17203, 17203, (.cells 32 true [] (T.ofList 0 .leaf [(.int .i64 255), (.int .i64 9), (.so 16990 0 5 3), .nils, (.int .i64 255), (.int .i64 28), (.so 17020 0 5 3), .nils, (.int .i64 255), (.int .i64 8), (.so 17050 0 5 3), .nils, (.int .i64 255), (.int .i64 39), (.so 17080 0 5 3), .nils, (.int .i64 255), (.int .i64 5), (.so 17110 0 5 3), .nils, (.int .i64 255), (.int .i64 2), (.so 17140 0 5 3), .nils, (.int .i64 255), (.int .i64 3), (.so 17170 0 5 3), .nils, (.int .i64 255), (.int .i64 20), (.so 17200 0 5 3), .nils]))), (17208, 17208, (.cells 9 true [] (T.ofList 0 .leaf [(.int .i64 9), (.str 2 28519), (.str 5 314225281320), (.bool true), (.int .i64 8), (.int .i64 5), (.so 14558 0 123 1), .nils, (.so 17203 0 8 4)])))]
noncomputable abbrev rlL : List (Nat × Nat) := [(7332, 7332), (7333, 7333), (7334, 7334), (7530, 7530), (7678, 7678), (7787, 7787), (7898, 7898), (8012, 8012), (8125, 8125), (8222, 8222), (8316, 8316), (8407, 8407), (8497, 8497), (8603, 8603), (8706, 8706), (8821, 8821), (8919, 8919), (9012, 9012), (9117, 9117), (9216, 9216), (9328, 9328), (9424, 9424), (9525, 9525), (9627, 9627), (9737, 9737), (9748, 9748), (9760, 9760), (9859, 9859), (9951, 9951), (10058, 10058), (10079, 10079), (10136, 10136), (10276, 10276), (10288, 10288), (10376, 10376), (10476, 10476), (10576, 10576), (10586, 10586), (10587, 10587), (10589, 10589), (10590, 10590), (10591, 10591), (10592, 10592), (10593, 10593), (11307, 11307), (13933, 13933), (13934, 13934), (13935, 13935), (13936, 13936), (13937, 13937), (14056, 14056), (14152, 14152), (14154, 14154), (14155, 14155), (14157, 14157), (14158, 14158), (14159, 14159), (14235, 14235), (14237, 14237), (14558, 14558), (16990, 16990), (17020, 17020), (17050, 17050), (17080, 17080), (17110, 17110), (17140, 17140), (17170, 17170), (17200, 17200), (17203, 17203), (17208, 17208), (17210, 17210)]
/- the law's array: so many cells, by name -/
def aS : Nat → AV
  | 0 => .nils
  | i + 1 => .so 17250 0 (i + 1) 1
noncomputable def cellsA (i : Nat) : Blk := .cells i true [] (X.T.ofList 0 .leaf ((List.range i).map fun m => .oi (m + 6)))
noncomputable def bsA (x : Nat) : Nat → BS
  | 0 => []
  | i + 1 => [(17250, x, cellsA (i + 1))]
def rlA (x : Nat) : Nat → List (Nat × Nat)
  | 0 => []
  | _ + 1 => [(17250, x)]
noncomputable abbrev bsK (i : Nat) : BS := bsL ++ bsA 17250 i
noncomputable abbrev rlK (i : Nat) : List (Nat × Nat) := rlL ++ rlA 17250 i
noncomputable abbrev fsS : List (Nat × AV) := [(0, .oi 0), (1, .oi 2), (5, .bool true), (16, .ptr 14159 0), (17, .nils), (18, .oi 1)]
noncomputable abbrev fsL (i : Nat) : List (Nat × AV) := [(0, .oi 0), (1, .oi 2), (5, .bool true), (16, .ptr 14159 0), (17, aS i), (18, .oi 1), (19, .int .i64 (i : Int))]
noncomputable abbrev fsK (i k : Nat) : List (Nat × AV) := [(0, .oi 0), (1, .oi 2), (5, .bool true), (16, .ptr 14159 0), (17, aS (i + 1)), (18, .oi 1), (19, .int .i64 (i : Int)), (20, .int .i64 (k : Int))]
noncomputable abbrev fsE (i : Nat) : List (Nat × AV) := [(0, .oi 0), (1, .oi 2), (5, .bool true), (16, .ptr 14159 0), (17, aS (i + 1)), (18, .oi 1), (19, .int .i64 (i : Int))]
noncomputable abbrev fsM (i : Nat) : List (Nat × AV) := [(0, .oi 0), (1, .oi 2), (5, .bool true), (16, .ptr 14159 0), (17, aS i)]
abbrev ivK (n y s : Nat) (A : Nat → Nat) : Nat → IntKind × Int
  | 0 => (.i64, ((n : Nat) : Int))
  | 1 => (.i64, ((s : Nat) : Int))
  | 2 => (.i64, ((y : Nat) : Int))
  | 3 => (.i64, ((s * 61 : Nat) : Int))
  | 4 => (.i64, ((s * 61 + 17 : Nat) : Int))
  | 5 => (.i64, (((s * 61 + 17) % 1009 : Nat) : Int))
  | m + 6 => (.i64, ((A m : Nat) : Int))
abbrev PK (n y s : Nat) (A : Nat → Nat) : Tab := (bare (ivK n y s A) noV noK noVp).tab
abbrev RHd {n y s : Nat} {A : Nat → Nat} {i : Nat} (h : i < n) (hn : n < 25) (hs : s < 1009) : VRows (ivK n y s A) noV noK where
  vvp := noVp
  ib := [(11, .int .i64 (i : Int), .oi 0, .bool true), (2, .oi 1, .int .i64 61, .oi 3), (0, .oi 3, .int .i64 17, .oi 4), (4, .oi 4, .int .i64 1009, .oi 5)]
  ibok := by
    letI := Tab.empty
    exact ibCons (ibLt (a := (i : Int)) (b := (n : Int)) rfl rfl (decide_eq_true (by omega))) (ibCons (ibMul (a := (s : Int)) (b := 61) (c := ((s * 61 : Nat) : Int)) rfl rfl rfl (by omega) (by omega) (by omega)) (ibCons (ibAdd (a := ((s * 61 : Nat) : Int)) (b := 17) (c := ((s * 61 + 17 : Nat) : Int)) rfl rfl rfl (by omega) (by omega) (by omega)) (ibCons (ibRem (a := ((s * 61 + 17 : Nat) : Int)) (b := 1009) (c := (((s * 61 + 17) % 1009 : Nat) : Int)) rfl rfl rfl (by decide) (by rw [Int.tmod_eq_emod_of_nonneg (by omega)]; omega)) ibNil)))
abbrev RHx {n y s : Nat} {A : Nat → Nat} : VRows (ivK n y s A) noV noK where
  vvp := noVp
  ib := [(11, .int .i64 (n : Int), .oi 0, .bool false)]
  ibok := by
    letI := Tab.empty
    exact ibCons (ibLt (a := (n : Int)) (b := (n : Int)) rfl rfl (decide_eq_false (by omega))) ibNil
abbrev RSw {n y s : Nat} {A : Nat → Nat} {k : Nat} (h : A (k + 1) < A k) : VRows (ivK n y s A) noV noK where
  vvp := noVp
  ib := [(11, .oi (k + 7), .oi (k + 6), .bool true)]
  ibok := by
    letI := Tab.empty
    exact ibCons (ibLt (a := (A (k + 1) : Int)) (b := (A k : Int)) rfl rfl (decide_eq_true (by omega))) ibNil
abbrev RSx {n y s : Nat} {A : Nat → Nat} {k : Nat} (h : ¬ A (k + 1) < A k) : VRows (ivK n y s A) noV noK where
  vvp := noVp
  ib := [(11, .oi (k + 7), .oi (k + 6), .bool false)]
  ibok := by
    letI := Tab.empty
    exact ibCons (ibLt (a := (A (k + 1) : Int)) (b := (A k : Int)) rfl rfl (decide_eq_false (by omega))) ibNil
def ipB (s : Nat) (f : Nat → Nat) (i : Nat) : IP := (.oi 0, 0) :: (.oi s, 1) :: (.oi 2, 2) :: (List.range i).map fun m => (.oi (f m + 6), m + 6)
theorem ipB_ok {T T' : Tab} {n y s s' : Nat} {A A' : Nat → Nat} {x i : Nat} {f : Nat → Nat} (e : T.iv = ivK n y s A) (e' : T'.iv = ivK n y s' A') (hx : T.iv x = (.i64, ((s' : Nat) : Int))) (h : ∀ m, m < i → T.iv (f m + 6) = (.i64, ((A' m : Nat) : Int))) : IpOk T T' (ipB x f i) := by
  refine ipCons (ipN (.i64, ((n : Nat) : Int)) (by rw [e]) (by rw [e'])) (ipCons (ipN _ hx (by rw [e'])) (ipCons (ipN (.i64, ((y : Nat) : Int)) (by rw [e]) (by rw [e'])) ?_))
  intro p hp
  obtain ⟨m, hm, rfl⟩ := List.mem_map.1 hp
  exact ipN _ (h m (List.mem_range.1 hm)) (by rw [e'])
def idf (m : Nat) : Nat := m
def swf (k m : Nat) : Nat := if m = k then k + 1 else if m = k + 1 then k else m
theorem swf_ok (A : Nat → Nat) (k m : Nat) : A (swf k m) = swp A k m := by
  unfold swf swp
  split
  · rfl
  · split <;> rfl
abbrev HN : Hand := Hand.none
/- the runs, at each place -/
def HdAt (i : Nat) : Prop := ∀ {n y s : Nat} {A : Nat → Nat} (h : i < n) (hn : n < 25) (hs : s < 1009), runTo (RHd (y := y) (A := A) h hn hs).tab Tryz.prog HN 300 NT c1 (frOf (fsL i)) (hOf 17251 (bsK i)) .normal ⟨0, 17251, ofPairs (rlK i), ipB 1 idf i⟩ [] (fsL i) (bsK i) = true
def ipH (i : Nat) : IP := ipB 5 (fun m => if m = i then 5 else m + 6) 0 ++ (List.range (i + 1)).map fun m => (.oi (if m = i then 5 else m + 6), m + 6)
def ApAt (i : Nat) : Prop := ∀ {n y s : Nat} {A : Nat → Nat} (h : i < n) (hn : n < 25) (hs : s < 1009), firstTo (RHd (y := y) (A := A) h hn hs).tab Tryz.prog HN 300 NT 3 cA (frOf (fsL i)) (hOf 17251 (bsK i)) ⟨0, 17251, ofPairs (rlL ++ rlA 17252 (i + 1)), ipH i⟩ [] (fsK i i) (bsL ++ bsA 17252 (i + 1)) = true
def SwAt (i k : Nat) : Prop := ∀ {n y s : Nat} {A : Nat → Nat} (h : A (k + 1) < A k), runTo (RSw (n := n) (y := y) (s := s) h).tab Tryz.prog HN 300 NT l2 (frOf (fsK i (k + 1))) (hOf 17251 (bsK (i + 1))) .normal ⟨0, 17251, ofPairs (rlK (i + 1)), ipB 1 (swf k) (i + 1)⟩ [] (fsK i k) (bsK (i + 1)) = true
def SxAt (i k : Nat) : Prop := ∀ {n y s : Nat} {A : Nat → Nat} (h : ¬ A (k + 1) < A k), runTo (RSx (n := n) (y := y) (s := s) h).tab Tryz.prog HN 300 NT l2 (frOf (fsK i (k + 1))) (hOf 17251 (bsK (i + 1))) (.exit 2) ⟨0, 17251, ofPairs (rlK (i + 1)), ipB 1 idf (i + 1)⟩ [] (fsE i) (bsK (i + 1)) = true
def SzAt (i : Nat) : Prop := ∀ {n y s : Nat} {A : Nat → Nat}, runTo (PK n y s A) Tryz.prog HN 300 NT l2 (frOf (fsK i 0)) (hOf 17251 (bsK (i + 1))) (.exit 2) ⟨0, 17251, ofPairs (rlK (i + 1)), ipB 1 idf (i + 1)⟩ [] (fsE i) (bsK (i + 1)) = true
def UpAt (i : Nat) : Prop := ∀ {n y s : Nat} {A : Nat → Nat}, runTo (PK n y s A) Tryz.prog HN 300 NT cE (frOf (fsE i)) (hOf 17251 (bsK (i + 1))) .normal ⟨0, 17251, ofPairs (rlK (i + 1)), ipB 1 idf (i + 1)⟩ [] (fsL (i + 1)) (bsK (i + 1)) = true
end Go.Proofs.YtaabcpibfignfaaGreatDoor.so
