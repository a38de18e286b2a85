/-
  What the law TopMatrix gives.
-/
import Derived.Test.YthgncmohimdbmaaGreatDoorMXO
import Derived.Test.YthgncmohimdbmaaGreatDoorXN3
set_option linter.unusedSectionVars false
set_option linter.unusedVariables false
set_option maxRecDepth 1000000
set_option maxHeartbeats 0
namespace Go.Proofs.YthgncmohimdbmaaGreatDoor.mx
open Go.X Go.RowKit Go.Proofs.YthgncmohimdbmaaGreatDoor.mq Go.Proofs.YthgncmohimdbmaaGreatDoor
/- the parts of a body that ends with loops -/
def q1 : Code → Code
  | .seq a _ => a
  | _ => .skip
def q2 : Code → Code
  | .seq _ b => b
  | _ => .skip
def bk : Code → Code
  | .block _ c => c
  | _ => .skip
def lp : Code → Code
  | .loop c => c
  | _ => .skip
noncomputable def fullL : Code := (Tryz.f3.body).getD .skip
noncomputable def hdL : Code := q1 (q1 (restn 26 fullL))
noncomputable def laL : Code := lp (bk (q2 (q1 (restn 26 fullL))))
noncomputable def tlL : Code := q2 (restn 26 fullL)
theorem restL_eq : restn 26 fullL = .seq (.seq hdL (.block 0 (.loop laL))) tlL := by kernel_rfl
theorem bodyL_eq : Tryz.f3.body = some fullL := by kernel_rfl
noncomputable def c1 : Code := q1 laL
noncomputable def cA : Code := bk (q1 (q2 laL))
noncomputable def cE : Code := q2 (q2 laL)
noncomputable def cH : Code := q1 cA
noncomputable def l2 : Code := lp (bk (q2 cA))
theorem laL_eq : laL = .seq c1 (.seq (.block 1 cA) cE) := by kernel_rfl
theorem cA_eq : cA = .seq cH (.block 2 (.loop l2)) := by kernel_rfl
noncomputable abbrev NT : Nat := Tryz.f3.ntmps
noncomputable abbrev bsL : BS := [(7161, 7161, (.map [((.str 1 77), (.ptr 14064 0), 0)] 1)), (7162, 7162, (.map [((.str 19 2439265639030268300842157990401791553877467498), (.ptr 7359 0), 0), ((.str 29 3085170664936786167588614718972924591866388410301586339335837578584426), (.ptr 7507 0), 1), ((.str 29 2977327179366744475310567174670984700336777289692309623825572795146602), (.ptr 7616 0), 2), ((.str 40 921438131347674524995356669863897659779420152864154109574888483886346161678995665599280333611370), (.ptr 7727 0), 3), ((.str 29 2977327179366744475310578792928741468592950331792981622238945052352874), (.ptr 7841 0), 4), ((.str 28 11630184294401345606682283003339240975915084228737354846334270988650), (.ptr 7954 0), 5), ((.str 31 202189744697330995387852485397630371027294446829100397077902765524415570282), (.ptr 8051 0), 6), ((.str 26 183890501555036136351903328603364899342229922045770665733546346), (.ptr 8145 0), 7), ((.str 15 594182256714433171583859471190221162), (.ptr 8236 0), 8), ((.str 19 2462787319999361794871408518597065734545105258), (.ptr 8326 0), 9), ((.str 37 56911353679811531822920492603033782110087255578636309514658723732473720363105297718731114), (.ptr 8432 0), 10), ((.str 28 12051447909910759173808661238977857107111767888823090726697178653034), (.ptr 8535 0), 11), ((.str 38 14060030080378334426808655457799320232265086119729716606675995945190890063755479020322840938), (.ptr 8650 0), 12), ((.str 38 14569306542030247732875768419210667608278730874565438596096215620376147580735894642209743210), (.ptr 8748 0), 13), ((.str 35 838043098472257520366253329360822735706660890049674080341799799296269125818196058474), (.ptr 8841 0), 14), ((.str 28 12051447909910278778317482300033197087305720853520054876288643916138), (.ptr 8946 0), 15), ((.str 22 42815343838886881203639546329033052610660173325164906), (.ptr 9045 0), 16), ((.str 36 214539033208897925213755128370838752992305990670598911423725060199978812837976799076714), (.ptr 9157 0), 17), ((.str 30 789803690223817235625993454897404583541813632134065715887439951296881002), (.ptr 9253 0), 18), ((.str 26 183890501555012814945400634590948384637649511452497603397575018), (.ptr 9354 0), 19), ((.str 27 47075968398083285027902446257440240237115773113246055769402925418), (.ptr 9456 0), 20), ((.str 30 762195757917886585679527096405151622096281774544538073876077408773628266), (.ptr 9566 0), 21), ((.str 16 154706541852025644484233205990057992554), (.ptr 9577 0), 22), ((.str 26 183890501555043540957095622503328518117729969598634276033028458), (.ptr 9688 0), 23), ((.str 26 177462528906270532328520934635542489792491443287338843928682858), (.ptr 9780 0), 24), ((.str 28 12051447909911140811364177168575840195048631602135540194265359868266), (.ptr 9887 0), 25), ((.str 16 137483774941304901841256615957136564586), (.ptr 9908 0), 26), ((.str 23 10956966084090815260342509131105871416374185281426186602), (.ptr 9965 0), 27), ((.str 41 235888161625004678398811307485157800903531559133223452051171428016118026562849321940164899390251370), (.ptr 10105 0), 28), ((.str 16 145412635431568811361768410208787652970), (.ptr 10117 0), 29), ((.str 19 2261816869159440624969593107871851903301607786), (.ptr 10205 0), 30), ((.str 38 14569306542031293471471962209605688152784288289213751582725315083544705153644676387098222954), (.ptr 10305 0), 31), ((.str 21 167247436870678459232146883126634948762985622298986), (.ptr 10405 0), 32)] 33)), (7163, 7163, (.cells 3 false [] (T.ofList 0 .leaf [(.map 7161), (.map 7162), (.so 15760 0 1 1)]))), (9577, 9577, (.cells 8 false [] (T.ofList 0 .leaf [(.int .i64 52), .nils, (.int .i64 33), (.str 16 154706541852025644484233205990057992554), (.str 0 0), .nils, .nils, (.so 9589 0 3 9)]))), (10415, 10415, (.map [((.str 19 2439265639030268300842157990401791553877467498), (.int .i64 0), 0), ((.str 28 12051447909911140811364177168575840195048631602135540194265359868266), (.int .i64 1), 1), ((.str 26 183890501555043540957095622503328518117729969598634276033028458), (.int .i64 2), 2)] 3)), (10416, 10416, (.cells 5 false [] (T.ofList 0 .leaf [(.ptr 7163 0), (.so 13984 0 8 1), (.so 13986 0 3 1), (.so 13983 0 3 3), (.map 10415)]))), (10419, 10419, (.map [] 0)), (10420, 10420, (.map [] 0)), (10421, 10421, (.cells 3 false [] (T.ofList 0 .leaf [(.ptr 7163 0), (.map 10419), (.map 10420)]))), (10422, 10422, (.cells 7 false [] (T.ofList 0 .leaf [(.ptr 10416 0), (.ptr 10418 0), (.ptr 7163 0), (.so 11136 0 39 3), .nils, (.bool false), (.bool false)]))), (13762, 13762, (.cells 4 false [] (T.ofList 0 .leaf [.nils, .nils, .nils, (.int .i64 0)]))), (13763, 13763, (.map [] 0)), (13764, 13764, (.map [] 0)), (13765, 13765, (.map [] 0)), (13766, 13766, (.cells 32 false [] (T.ofList 0 .leaf [(.ptr 7163 0), (.ptr 10421 0), (.ptr 10416 0), (.ptr 10418 0), (.ptr 10422 0), (.ptr 13762 0), .nils, (.map 13763), (.map 13764), .nils, (.int .i64 1), (.int .i64 3), (.int .i64 6), (.int .i64 0), .nilp, (.bool false), (.int .i64 0), (.int .i64 0), (.int .i64 0), (.int .i64 0), (.int .i64 0), (.int .i64 0), (.int .u8 0), (.int .i64 0), (.str 0 0), (.str 0 0), (.bool false), (.int .i64 0), .nils, (.int .i64 0), (.int .i64 0), (.map 13765)]))), (13983, 13983, (.cells 9 true [] (T.ofList 0 .leaf [(.str 19 2439265639030268300842157990401791553877467498), .nils, (.int .u8 0), (.str 28 12051447909911140811364177168575840195048631602135540194265359868266), (.so 13885 0 1 1), (.int .u8 0), (.str 26 183890501555043540957095622503328518117729969598634276033028458), (.so 13981 0 1 1), (.int .u8 0)]))), (13984, 13984, (.cells 8 true [] (T.ofList 0 .leaf [(.int .u64 0), (.int .u64 0), (.int .u64 1), (.int .u64 0), (.int .u64 0), (.int .u64 2), (.int .u64 0), (.int .u64 0)]))), (13986, 13986, (.cells 3 true [] (T.ofList 0 .leaf [(.int .i64 0), (.int .i64 2), (.int .i64 5)]))), (13987, 13987, (.cells 2 false [] (T.ofList 0 .leaf [(.ptr 7163 0), (.ptr 13766 0)]))), (13988, 13988, (.cells 2 false [] (T.ofList 0 .leaf [(.ptr 13987 0), (.bool true)]))), (14064, 14064, (.cells 8 false [] (T.ofList 0 .leaf [(.int .i64 52), (.sl 14066 0 11 11), (.int .i64 33), (.str 1 77), (.str 16 154706541852025644484233205990057992554), .nils, .nils, (.so 15758 0 1 9)]))), (14066, 14066, (.cells 55 false [(.int .i64 0), (.str 0 0), (.int .i64 0), (.int .i64 0), (.int .i64 0)] (ofPairs [(5, (.int .i64 1)), (6, (.str 3 4807515)), (7, (.int .i64 0)), (8, (.int .i64 0)), (9, (.int .i64 0)), (10, (.int .i64 7)), (11, (.str 0 0)), (12, (.int .i64 0)), (13, (.int .i64 1)), (14, (.int .i64 0)), (15, (.int .i64 1)), (16, (.str 2 28519)), (17, (.int .i64 0)), (18, (.int .i64 0)), (19, (.int .i64 0)), (20, (.int .i64 1)), (21, (.str 5 314225281320)), (22, (.int .i64 0)), (23, (.int .i64 0)), (24, (.int .i64 0)), (25, (.int .i64 1)), (26, (.str 13 8035587729358898777305137640531)), (27, (.int .i64 0)), (28, (.int .i64 0)), (29, (.int .i64 0)), (30, (.int .i64 1)), (31, (.str 4 1701080899)), (32, (.int .i64 0)), (33, (.int .i64 0)), (34, (.int .i64 0)), (35, (.int .i64 1)), (36, (.str 1 77)), (37, (.int .i64 0)), (38, (.int .i64 0)), (39, (.int .i64 0)), (40, (.int .i64 7)), (41, (.str 0 0)), (42, (.int .i64 0)), (43, (.int .i64 7)), (44, (.int .i64 0)), (45, (.int .i64 1)), (46, (.str 16 154706541852025644484233205990057992554)), (47, (.int .i64 0)), (48, (.int .i64 0)), (49, (.int .i64 0)), (50, (.int .i64 7)), (51, (.str 0 0)), (52, (.int .i64 0)), (53, (.int .i64 9)), (54, (.int .i64 0))]))), (14391, 14391, (.cells 64 true [] (T.ofList 0 .leaf [(.int .u8 3), (.int .u8 61), (.int .u8 3), (.int .u8 62), (.int .u8 26), (.int .u8 27), (.int .u8 197), (.int .u8 0), (.int .u8 2), (.int .u8 2), (.int .u8 58), (.int .u8 4), (.int .u8 3), (.int .u8 54), (.int .u8 5), (.int .u8 28), (.int .u8 26), (.int .u8 162), (.int .u8 0), (.int .u8 44), (.int .u8 3), (.int .u8 62), (.int .u8 29), (.int .u8 27), (.int .u8 162), (.int .u8 0), (.int .u8 31), (.int .u8 25), (.int .u8 4), (.int .u8 28), (.int .u8 50), (.int .u8 29), (.int .u8 28), (.int .u8 4), (.int .u8 96), (.int .u8 29), (.int .u8 104), (.int .u8 79), (.int .u8 21), (.int .u8 5), (.int .u8 25), (.int .u8 4), (.int .u8 28), (.int .u8 50), (.int .u8 29), (.int .u8 46), (.int .u8 96), (.int .u8 54), (.int .u8 5), (.int .u8 132), (.int .u8 3), (.int .u8 1), (.int .u8 167), (.int .u8 255), (.int .u8 226), (.int .u8 132), (.int .u8 2), (.int .u8 1), (.int .u8 167), (.int .u8 255), (.int .u8 213), (.int .u8 21), (.int .u8 5), (.int .u8 172)]))), (15645, 15645, (.cells 18 true [] (T.ofList 0 .leaf [(.int .i64 1), (.str 0 0), (.int .i64 0), (.int .i64 1), (.str 0 0), (.int .i64 0), (.int .i64 1), (.str 0 0), (.int .i64 0), (.int .i64 1), (.str 0 0), (.int .i64 0), (.int .i64 7), (.str 0 0), (.int .i64 2), (.int .i64 1), (.str 0 0), (.int .i64 0)]))), (15680, 15680, (.cells 18 true [] (T.ofList 0 .leaf [(.int .i64 1), (.str 0 0), (.int .i64 0), (.int .i64 1), (.str 0 0), (.int .i64 0), (.int .i64 1), (.str 0 0), (.int .i64 0), (.int .i64 1), (.str 0 0), (.int .i64 0), (.int .i64 7), (.str 0 0), (.int .i64 2), (.int .i64 1), (.str 0 0), (.int .i64 0)]))), (15715, 15715, (.cells 18 true [] (T.ofList 0 .leaf [(.int .i64 1), (.str 0 0), (.int .i64 0), (.int .i64 1), (.str 0 0), (.int .i64 0), (.int .i64 1), (.str 0 0), (.int .i64 0), (.int .i64 1), (.str 0 0), (.int .i64 0), (.int .i64 7), (.str 0 0), (.int .i64 2), (.int .i64 1), (.str 0 0), (.int .i64 0)]))), (15750, 15750, (.cells 18 true [] (T.ofList 0 .leaf [(.int .i64 1), (.str 0 0), (.int .i64 0), (.int .i64 1), (.str 0 0), (.int .i64 0), (.int .i64 1), (.str 0 0), (.int .i64 0), (.int .i64 1), (.str 0 0), (.int .i64 0), (.int .i64 7), (.str 0 0), (.int .i64 2), (.int .i64 1), (.str 0 0), (.int .i64 0)]))), (15753, 15753, (.cells 16 true [] (T.ofList 0 .leaf [(.int .i64 255), (.int .i64 15), (.so 15645 0 6 3), .nils, (.int .i64 255), (.int .i64 6), (.so 15680 0 6 3), .nils, (.int .i64 255), (.int .i64 32), (.so 15715 0 6 3), .nils, (.int .i64 255), (.int .i64 5), (.so 15750 0 6 3), .nils]))), (15758, 15758, (.cells 9 true [] (T.ofList 0 .leaf [(.int .i64 9), (.str 2 28519), (.str 5 314225281320), (.bool true), (.int .i64 5), (.int .i64 6), (.so 14391 0 64 1), .nils, (.so 15753 0 4 4)])))]
noncomputable abbrev rlL : List (Nat × Nat) := [(7161, 7161), (7162, 7162), (7163, 7163), (7359, 7359), (7507, 7507), (7616, 7616), (7727, 7727), (7841, 7841), (7954, 7954), (8051, 8051), (8145, 8145), (8236, 8236), (8326, 8326), (8432, 8432), (8535, 8535), (8650, 8650), (8748, 8748), (8841, 8841), (8946, 8946), (9045, 9045), (9157, 9157), (9253, 9253), (9354, 9354), (9456, 9456), (9566, 9566), (9577, 9577), (9589, 9589), (9688, 9688), (9780, 9780), (9887, 9887), (9908, 9908), (9965, 9965), (10105, 10105), (10117, 10117), (10205, 10205), (10305, 10305), (10405, 10405), (10415, 10415), (10416, 10416), (10418, 10418), (10419, 10419), (10420, 10420), (10421, 10421), (10422, 10422), (11136, 11136), (13762, 13762), (13763, 13763), (13764, 13764), (13765, 13765), (13766, 13766), (13885, 13885), (13981, 13981), (13983, 13983), (13984, 13984), (13986, 13986), (13987, 13987), (13988, 13988), (14064, 14064), (14066, 14066), (14391, 14391), (15645, 15645), (15680, 15680), (15715, 15715), (15750, 15750), (15753, 15753), (15758, 15758), (15760, 15760)]
noncomputable abbrev fsS : List (Nat × AV) := [(0, .oi 0), (1, .oi 1), (5, .bool true), (12, .ptr 13988 0), (13, .int .i64 0)]
noncomputable abbrev fsO : List (Nat × AV) := [(0, .oi 0), (1, .oi 1), (5, .bool true), (12, .ptr 13988 0), (13, .oi 2), (14, .oi 3)]
noncomputable abbrev fsI : List (Nat × AV) := [(0, .oi 0), (1, .oi 1), (5, .bool true), (12, .ptr 13988 0), (13, .oi 2), (14, .oi 3), (15, .oi 4)]
noncomputable abbrev fsT : List (Nat × AV) := [(0, .oi 0), (1, .oi 2), (5, .bool true), (12, .ptr 13988 0), (13, .oi 4)]
abbrev ivK (n m s i j : Nat) : Nat → IntKind × Int
  | 0 => (.i64, ((n : Nat) : Int))
  | 1 => (.i64, ((m : Nat) : Int))
  | 2 => (.i64, ((s : Nat) : Int))
  | 3 => (.i64, ((i : Nat) : Int))
  | 4 => (.i64, ((j : Nat) : Int))
  | 5 => (.i64, ((i + 1 : Nat) : Int))
  | 6 => (.i64, (((i + 1) * j : Nat) : Int))
  | 7 => (.i64, ((s + (i + 1) * j : Nat) : Int))
  | 8 => (.i64, ((j + 1 : Nat) : Int))
  | _ => (.i64, 0)
abbrev PK (n m s i j : Nat) : Tab := (bare (ivK n m s i j) noV noK noVp).tab
theorem ibIn {n m s i j : Nat} (hi : i < 20) (hm : m < 20) (hj : j < m) (hs : s < 400000) : ∀ x_ ∈ ([(11, .oi 4, .oi 1, .bool true), (0, .oi 3, .int .i64 1, .oi 5), (2, .oi 5, .oi 4, .oi 6), (0, .oi 2, .oi 6, .oi 7), (0, .oi 4, .int .i64 1, .oi 8)] : List BRow), IbOk (ivK n m s i j) x_ := by
  letI := Tab.empty
  have h := mul_bd hi (show j < 20 by omega)
  exact ibCons (ibLt (a := ((j : Nat) : Int)) (b := ((m : Nat) : Int)) rfl rfl (decide_eq_true (by omega))) (ibCons (ibAdd (a := ((i : Nat) : Int)) (b := 1) (c := ((i + 1 : Nat) : Int)) rfl rfl rfl (by omega) (by omega) (by omega)) (ibCons (ibMul (a := ((i + 1 : Nat) : Int)) (b := ((j : Nat) : Int)) (c := (((i + 1) * j : Nat) : Int)) rfl rfl rfl (Int.natCast_mul _ _).symm (by omega) (by omega)) (ibCons (ibAdd (a := ((s : Nat) : Int)) (b := (((i + 1) * j : Nat) : Int)) (c := ((s + (i + 1) * j : Nat) : Int)) rfl rfl rfl (by omega) (by omega) (by omega)) (ibCons (ibAdd (a := ((j : Nat) : Int)) (b := 1) (c := ((j + 1 : Nat) : Int)) rfl rfl rfl (by omega) (by omega) (by omega)) ibNil))))
abbrev RIn {n m s i j : Nat} (hi : i < 20) (hm : m < 20) (hj : j < m) (hs : s < 400000) : VRows (ivK n m s i j) noV noK where
  vvp := noVp
  ib := [(11, .oi 4, .oi 1, .bool true), (0, .oi 3, .int .i64 1, .oi 5), (2, .oi 5, .oi 4, .oi 6), (0, .oi 2, .oi 6, .oi 7), (0, .oi 4, .int .i64 1, .oi 8)]
  ibok := ibIn hi hm hj hs
abbrev RIx {n m s i j : Nat} (hj : m ≤ j) : VRows (ivK n m s i j) noV noK where
  vvp := noVp
  ib := [(11, .oi 4, .oi 1, .bool false)]
  ibok := by
    letI := Tab.empty
    exact ibCons (ibLt (a := ((j : Nat) : Int)) (b := ((m : Nat) : Int)) rfl rfl (decide_eq_false (by omega))) ibNil
abbrev ROi {n m s i j : Nat} (hi : i < n) : VRows (ivK n m s i j) noV noK where
  vvp := noVp
  ib := [(11, .oi 3, .oi 0, .bool true)]
  ibok := by
    letI := Tab.empty
    exact ibCons (ibLt (a := ((i : Nat) : Int)) (b := ((n : Nat) : Int)) rfl rfl (decide_eq_true (by omega))) ibNil
abbrev ROx {n m s i j : Nat} (hi : n ≤ i) : VRows (ivK n m s i j) noV noK where
  vvp := noVp
  ib := [(11, .oi 3, .oi 0, .bool false)]
  ibok := by
    letI := Tab.empty
    exact ibCons (ibLt (a := ((i : Nat) : Int)) (b := ((n : Nat) : Int)) rfl rfl (decide_eq_false (by omega))) ibNil
abbrev RUp {n m s i j : Nat} (hi : i < 20) : VRows (ivK n m s i j) noV noK where
  vvp := noVp
  ib := [(0, .oi 3, .int .i64 1, .oi 5)]
  ibok := by
    letI := Tab.empty
    exact ibCons (ibAdd (a := ((i : Nat) : Int)) (b := 1) (c := ((i + 1 : Nat) : Int)) rfl rfl rfl (by omega) (by omega) (by omega)) ibNil
def SLo (n m s i : Nat) (w0 : World) (a : Act) (w : World) : Prop := St (PK n m s i 0) (Kp.below w0.heap.size) w0 (fun _ => none) NT (frOf fsO) (hOf 15761 bsL) a w
def SLi (n m s i j : Nat) (w0 : World) (a : Act) (w : World) : Prop := St (PK n m s i j) (Kp.below w0.heap.size) w0 (fun _ => none) NT (frOf fsI) (hOf 15761 bsL) a w
def SLs (n m : Nat) (w0 : World) (a : Act) (w : World) : Prop := St (PK n m 0 0 0) (Kp.below w0.heap.size) w0 (fun _ => none) NT (frOf fsS) (hOf 15761 bsL) a w
section
variable {w0 w : World} {a : Act}
theorem headL {n m : Nat} (st : SLs n m w0 a w) : hdL.wp Tryz.prog (fun e a' w' => e = .normal ∧ SLo n m 0 0 w0 a' w') a w :=
  runTo_sound (T := PK n m 0 0 0) (T' := PK n m 0 0 0) (K := Hand.none) (n := 300) mixed (@HandOk.none (PK n m 0 0 0) Tryz.prog) (C := ⟨0, 15761, ofPairs rlL, [(.oi 0, 0), (.oi 1, 1), (.int .i64 0, 2), (.int .i64 0, 3)]⟩) (ex := .normal) (rl := rlL) (vp := []) (fs := fsO) (bs := bsL)
    (Base.none _) (Nat.zero_le _) rfl (by kernel_rfl) (ipCons (ipN (.i64, ((n : Nat) : Int)) rfl rfl) (ipCons (ipN (.i64, ((m : Nat) : Int)) rfl rfl) (ipCons (ipK rfl) (ipCons (ipK rfl) ipNil)))) vpNil (glNone rfl rfl) (by as_aux_lemma => kernel_rfl) st
theorem goO {n m s i : Nat} (hi : i < n) (st : SLo n m s i w0 a w) : c1.wp Tryz.prog (fun e a' w' => e = .normal ∧ SLo n m s i w0 a' w') a w :=
  runTo_sound (T := (ROi (m := m) (s := s) (j := 0) hi).tab) (T' := PK n m s i 0) (K := Hand.none) (n := 300) mixed (@HandOk.none (ROi (m := m) (s := s) (j := 0) hi).tab Tryz.prog) (C := ⟨0, 15761, ofPairs rlL, [(.oi 0, 0), (.oi 1, 1), (.oi 2, 2), (.oi 3, 3)]⟩) (ex := .normal) (rl := rlL) (vp := []) (fs := fsO) (bs := bsL)
    (Base.none _) (Nat.zero_le _) rfl (by kernel_rfl) (ipCons (ipN (.i64, ((n : Nat) : Int)) rfl rfl) (ipCons (ipN (.i64, ((m : Nat) : Int)) rfl rfl) (ipCons (ipN (.i64, ((s : Nat) : Int)) rfl rfl) (ipCons (ipN (.i64, ((i : Nat) : Int)) rfl rfl) ipNil)))) vpNil (glNone rfl rfl) (by as_aux_lemma => kernel_rfl) (St.same (VRows.same _ _) st)
theorem goH {n m s i : Nat} (st : SLo n m s i w0 a w) : cH.wp Tryz.prog (fun e a' w' => e = .normal ∧ SLi n m s i 0 w0 a' w') a w :=
  runTo_sound (T := PK n m s i 0) (T' := PK n m s i 0) (K := Hand.none) (n := 300) mixed (@HandOk.none (PK n m s i 0) Tryz.prog) (C := ⟨0, 15761, ofPairs rlL, [(.oi 0, 0), (.oi 1, 1), (.oi 2, 2), (.oi 3, 3), (.int .i64 0, 4)]⟩) (ex := .normal) (rl := rlL) (vp := []) (fs := fsI) (bs := bsL)
    (Base.none _) (Nat.zero_le _) rfl (by kernel_rfl) (ipCons (ipN (.i64, ((n : Nat) : Int)) rfl rfl) (ipCons (ipN (.i64, ((m : Nat) : Int)) rfl rfl) (ipCons (ipN (.i64, ((s : Nat) : Int)) rfl rfl) (ipCons (ipN (.i64, ((i : Nat) : Int)) rfl rfl) (ipCons (ipK rfl) ipNil))))) vpNil (glNone rfl rfl) (by as_aux_lemma => kernel_rfl) st
theorem goI {n m s i j : Nat} (hi : i < 20) (hm : m < 20) (hj : j < m) (hs : s < 400000) (st : SLi n m s i j w0 a w) : l2.wp Tryz.prog (fun e a' w' => e = .normal ∧ SLi n m (s + (i + 1) * j) i (j + 1) w0 a' w') a w :=
  runTo_sound (T := (RIn (n := n) hi hm hj hs).tab) (T' := PK n m (s + (i + 1) * j) i (j + 1)) (K := Hand.none) (n := 300) mixed (@HandOk.none (RIn (n := n) hi hm hj hs).tab Tryz.prog) (C := ⟨0, 15761, ofPairs rlL, [(.oi 0, 0), (.oi 1, 1), (.oi 7, 2), (.oi 3, 3), (.oi 8, 4)]⟩) (ex := .normal) (rl := rlL) (vp := []) (fs := fsI) (bs := bsL)
    (Base.none _) (Nat.zero_le _) rfl (by kernel_rfl) (ipCons (ipN (.i64, ((n : Nat) : Int)) rfl rfl) (ipCons (ipN (.i64, ((m : Nat) : Int)) rfl rfl) (ipCons (ipN (.i64, ((s + (i + 1) * j : Nat) : Int)) rfl rfl) (ipCons (ipN (.i64, ((i : Nat) : Int)) rfl rfl) (ipCons (ipN (.i64, ((j + 1 : Nat) : Int)) rfl rfl) ipNil))))) vpNil (glNone rfl rfl) (by as_aux_lemma => kernel_rfl) (St.same (VRows.same _ _) st)
theorem goX {n m s i j : Nat} (hj : m ≤ j) (st : SLi n m s i j w0 a w) : l2.wp Tryz.prog (fun e a' w' => e = .exit 2 ∧ SLo n m s i w0 a' w') a w :=
  runTo_sound (T := (RIx (n := n) (s := s) (i := i) hj).tab) (T' := PK n m s i 0) (K := Hand.none) (n := 300) mixed (@HandOk.none (RIx (n := n) (s := s) (i := i) hj).tab Tryz.prog) (C := ⟨0, 15761, ofPairs rlL, [(.oi 0, 0), (.oi 1, 1), (.oi 2, 2), (.oi 3, 3)]⟩) (ex := .exit 2) (rl := rlL) (vp := []) (fs := fsO) (bs := bsL)
    (Base.none _) (Nat.zero_le _) rfl (by kernel_rfl) (ipCons (ipN (.i64, ((n : Nat) : Int)) rfl rfl) (ipCons (ipN (.i64, ((m : Nat) : Int)) rfl rfl) (ipCons (ipN (.i64, ((s : Nat) : Int)) rfl rfl) (ipCons (ipN (.i64, ((i : Nat) : Int)) rfl rfl) ipNil)))) vpNil (glNone rfl rfl) (by as_aux_lemma => kernel_rfl) (St.same (VRows.same _ _) st)
theorem goU {n m s i : Nat} (hi : i < 20) (st : SLo n m s i w0 a w) : cE.wp Tryz.prog (fun e a' w' => e = .normal ∧ SLo n m s (i + 1) w0 a' w') a w :=
  runTo_sound (T := (RUp (n := n) (m := m) (s := s) (j := 0) hi).tab) (T' := PK n m s (i + 1) 0) (K := Hand.none) (n := 300) mixed (@HandOk.none (RUp (n := n) (m := m) (s := s) (j := 0) hi).tab Tryz.prog) (C := ⟨0, 15761, ofPairs rlL, [(.oi 0, 0), (.oi 1, 1), (.oi 2, 2), (.oi 5, 3)]⟩) (ex := .normal) (rl := rlL) (vp := []) (fs := fsO) (bs := bsL)
    (Base.none _) (Nat.zero_le _) rfl (by kernel_rfl) (ipCons (ipN (.i64, ((n : Nat) : Int)) rfl rfl) (ipCons (ipN (.i64, ((m : Nat) : Int)) rfl rfl) (ipCons (ipN (.i64, ((s : Nat) : Int)) rfl rfl) (ipCons (ipN (.i64, ((i + 1 : Nat) : Int)) rfl rfl) ipNil)))) vpNil (glNone rfl rfl) (by as_aux_lemma => kernel_rfl) (St.same (VRows.same _ _) st)
abbrev E0 : Nat → IntKind × Int := fun _ => (.i64, 0)
def QL (n m : Nat) (c q : Int) (g1 : (0 : Int) ≤ (n : Nat)) (g2 : ((n : Nat) : Int) < 20) (g3 : (0 : Int) ≤ (m : Nat)) (g4 : ((m : Nat) : Int) < 20) (g5 : 0 ≤ c) (g6 : c < 400000) (w0 : World) (e : Exit) (a : Act) (w : World) : Prop := e = .exit 0 ∧ St (TF E0 q g1 g2 g3 g4 g5 g6) (Kp.below w0.heap.size) w0 (fun _ => none) NT (frOf fsT) (hOf 15761 bsL) a w
theorem goM {n m s i : Nat} {c q : Int} (hi : n ≤ i) (hc : c = s) (g1 : (0 : Int) ≤ (n : Nat)) (g2 : ((n : Nat) : Int) < 20) (g3 : (0 : Int) ≤ (m : Nat)) (g4 : ((m : Nat) : Int) < 20) (g5 : 0 ≤ c) (g6 : c < 400000) (st : SLo n m s i w0 a w) : c1.wp Tryz.prog (QL n m c q g1 g2 g3 g4 g5 g6 w0) a w := by
  refine wp_mono (runTo_sound (T := (ROx (m := m) (s := s) (j := 0) hi).tab) (T' := TF E0 q g1 g2 g3 g4 g5 g6) (K := Hand.none) (n := 300) mixed (@HandOk.none (ROx (m := m) (s := s) (j := 0) hi).tab Tryz.prog) (C := ⟨0, 15761, ofPairs rlL, [(.oi 0, 0), (.oi 1, 2), (.oi 2, 4)]⟩) (ex := .exit 0) (rl := rlL) (vp := []) (fs := fsT) (bs := bsL)
    (Base.none _) (Nat.zero_le _) rfl (by kernel_rfl) (ipCons (ipN (.i64, ((n : Nat) : Int)) rfl rfl) (ipCons (ipN (.i64, ((m : Nat) : Int)) rfl rfl) (ipCons (ipN (.i64, ((s : Nat) : Int)) rfl (show (IntKind.i64, c) = (IntKind.i64, ((s : Nat) : Int)) from by rw [hc])) ipNil))) vpNil (glNone rfl rfl) (by as_aux_lemma => kernel_rfl) (St.same (VRows.same _ _) st)) ?_
  rintro e a' w' ⟨rfl, s'⟩
  exact ⟨rfl, s'⟩
theorem innerL {n m i : Nat} (hi : i < 20) (hm : m < 20) {Q : Exit → Act → World → Prop} : ∀ (d j s : Nat) (a : Act) (w : World), d + j = m → s + 400 * d ≤ 390000 → SLi n m s i j w0 a w →
    (∀ (s' : Nat) (a' : Act) (w' : World), s' + sI i j = s + sI i m → SLo n m s' i w0 a' w' → Q (.exit 2) a' w') → Code.rounds Tryz.prog l2 Q (d + 1) a w
  | 0, j, s, a, w, e, _, st, k => by
    obtain rfl : j = m := by omega
    rw [rounds_succ]
    refine wp_mono (goX (Nat.le_refl _) st) ?_
    rintro e a' w' ⟨rfl, s'⟩
    exact k s a' w' rfl s'
  | d + 1, j, s, a, w, e, hs, st, k => by
    have hb := mul_bd hi (show j < 20 by omega)
    rw [rounds_succ]
    refine wp_mono (goI hi hm (by omega) (by omega) st) ?_
    rintro e1 a' w' ⟨rfl, s'⟩
    refine innerL hi hm d (j + 1) (s + (i + 1) * j) a' w' (by omega) (by omega) s' fun s2 a2 w2 h2 h3 => k s2 a2 w2 ?_ h3
    have e3 : sI i (j + 1) = sI i j + (i + 1) * j := rfl
    omega
theorem outerL {n m : Nat} {c q : Int} (hn : n < 20) (hm : m < 20) (hc : c = sO m n) (g1 : (0 : Int) ≤ (n : Nat)) (g2 : ((n : Nat) : Int) < 20) (g3 : (0 : Int) ≤ (m : Nat)) (g4 : ((m : Nat) : Int) < 20) (g5 : 0 ≤ c) (g6 : c < 400000) : ∀ (d i : Nat) (a : Act) (w : World), d + i = n → SLo n m (sO m i) i w0 a w →
    Code.rounds Tryz.prog laL (QL n m c q g1 g2 g3 g4 g5 g6 w0) (d + 1) a w
  | 0, i, a, w, e, st => by
    obtain rfl : i = n := by omega
    rw [rounds_succ, laL_eq]
    refine wp_seq (wp_mono (goM (c := c) (q := q) (Nat.le_refl _) hc g1 g2 g3 g4 g5 g6 st) ?_)
    rintro e a' w' ⟨rfl, s'⟩
    exact ⟨rfl, s'⟩
  | d + 1, i, a, w, e, st => by
    have hi : i < n := by omega
    have hs := sO_bd hm i (by omega)
    rw [rounds_succ, laL_eq]
    refine wp_seq (wp_mono (goO hi st) ?_)
    rintro e1 a1 w1 ⟨rfl, s1⟩
    refine wp_seq (wp_block ?_)
    rw [cA_eq]
    refine wp_seq (wp_mono (goH s1) ?_)
    rintro e2 a2 w2 ⟨rfl, s2⟩
    refine wp_block (wp_loop_rounds _ (innerL (by omega) hm m 0 (sO m i) a2 w2 rfl (by omega) s2 fun s' a3 w3 x1 x2 => ?_))
    show cE.wp _ _ _ _
    obtain rfl : s' = sO m (i + 1) := by
      have e1 : sO m (i + 1) = sO m i + sI i m := rfl
      have e2 : sI i 0 = 0 := rfl
      omega
    refine wp_mono (goU (by omega) x2) ?_
    rintro e4 a4 w4 ⟨rfl, s4⟩
    exact outerL hn hm hc g1 g2 g3 g4 g5 g6 d (i + 1) a4 w4 (by omega) s4
theorem backL {n m : Nat} (hn : n < 20) (hm : m < 20) (st : SLs n m w0 a w) : (restn 26 fullL).wp Tryz.prog (Yes Tryz.prog Tryz.f3 (Kp.below w0.heap.size) w0) a w := by
  rw [restL_eq]
  refine wp_seq (wp_seq (wp_mono (headL st) ?_))
  rintro e1 a1 w1 ⟨rfl, s1⟩
  have g1 : (0 : Int) ≤ (n : Nat) := Int.natCast_nonneg n
  have g2 : ((n : Nat) : Int) < 20 := by omega
  have g3 : (0 : Int) ≤ (m : Nat) := Int.natCast_nonneg m
  have g4 : ((m : Nat) : Int) < 20 := by omega
  have hs := sO_bd hm n (by omega)
  have g5 : (0 : Int) ≤ (sO m n : Nat) := Int.natCast_nonneg _
  have g6 : ((sO m n : Nat) : Int) < 400000 := by omega
  refine wp_block (wp_mono (wp_loop_rounds _ (outerL (q := ((tot n m : Nat) : Int) + 5) hn hm rfl g1 g2 g3 g4 g5 g6 n 0 a1 w1 rfl s1)) ?_)
  rintro e2 a2 w2 ⟨rfl, s2⟩
  letI : Tab := TF E0 (((tot n m : Nat) : Int) + 5) g1 g2 g3 g4 g5 g6
  exact runTrue_sound (n := 5000) (T := TF E0 (((tot n m : Nat) : Int) + 5) g1 g2 g3 g4 g5 g6) mixed (HandOk.or (inHand_ok (CR_all (E := E0) n m g1 g2 g3 g4 g5 g6 rfl rfl rfl rfl) (by kernel_rfl)) K_top0_ok) (by as_aux_lemma => kernel_rfl) s2
abbrev ivUu (m k r u : Int) : Nat → IntKind × Int
  | 0 => (.i64, m)
  | 1 => (.i64, r)
  | 2 => (.i64, if r < 0 then -r else r)
  | 4 => (.i64, k)
  | 5 => (.i64, u)
  | 6 => (.i64, if u < 0 then -u else u)
  | _ => (.i64, 0)
theorem ibUupp {m k r u : Int} (hx : m.tmod 20 = r) (hy : k.tmod 20 = u) (r1 : -20 < r) (r2 : r < 20) (u1 : -20 < u) (u2 : u < 20) (gx : 0 ≤ r) (gy : 0 ≤ u) : ∀ x_ ∈ ([(4, .oi 0, .int .i64 20, .oi 1), (11, .oi 1, .int .i64 0, .bool false), (4, .oi 4, .int .i64 20, .oi 5), (11, .oi 5, .int .i64 0, .bool false)] : List BRow), IbOk (ivUu m k r u) x_ := by
  letI := Tab.empty
  exact (ibCons (ibRem (a := m) (b := 20) (c := r) rfl rfl rfl (by decide) hx) (ibCons (ibLt (a := r) (b := 0) rfl rfl (decide_eq_false (by omega))) (ibCons (ibRem (a := k) (b := 20) (c := u) rfl rfl rfl (by decide) hy) (ibCons (ibLt (a := u) (b := 0) rfl rfl (decide_eq_false (by omega))) ibNil))))
abbrev RUupp {m k r u : Int} (hx : m.tmod 20 = r) (hy : k.tmod 20 = u) (r1 : -20 < r) (r2 : r < 20) (u1 : -20 < u) (u2 : u < 20) (gx : 0 ≤ r) (gy : 0 ≤ u) : VRows (ivUu m k r u) noV noK where
  vvp := noVp
  ib := [(4, .oi 0, .int .i64 20, .oi 1), (11, .oi 1, .int .i64 0, .bool false), (4, .oi 4, .int .i64 20, .oi 5), (11, .oi 5, .int .i64 0, .bool false)]
  ibok := ibUupp hx hy r1 r2 u1 u2 gx gy
abbrev TUupp {m k r u : Int} (hx : m.tmod 20 = r) (hy : k.tmod 20 = u) (r1 : -20 < r) (r2 : r < 20) (u1 : -20 < u) (u2 : u < 20) (gx : 0 ≤ r) (gy : 0 ≤ u) : Tab := (RUupp hx hy r1 r2 u1 u2 gx gy).tab
theorem yespp {m k r u : Int} (hx : m.tmod 20 = r) (hy : k.tmod 20 = u) (r1 : -20 < r) (r2 : r < 20) (u1 : -20 < u) (u2 : u < 20) (gx : 0 ≤ r) (gy : 0 ≤ u) {n y : Nat} (hn : (n : Int) = r) (hs : (y : Int) = u) (w : World) : Calls Tryz.prog 3 #[.int .i64 m, .int .i64 k] w fun e w' => e = .returned (.bool true) ∧ Below w.heap.size w w' := by
  refine yes_calls Tryz.func3 bodyL_eq w ?_
  have s0 := @St.start (TUupp hx hy r1 r2 u1 u2 gx gy) [.oi 0, .oi 4] #[.int .i64 m, .int .i64 k] NT w ⟨fun g o a h => (by cases h), fun i m a h => (by cases h)⟩ (@vrels_cons (TUupp hx hy r1 r2 u1 u2 gx gy) _ _ _ _ _ (by simp only [vrel]; rfl) (@vrels_cons (TUupp hx hy r1 r2 u1 u2 gx gy) _ _ _ _ _ (by simp only [vrel]; rfl) (by simp [vrels]))) (show 2 ≤ NT by decide +kernel) (show 2 < limit by decide)
  refine firstTo_sound (T := (TUupp hx hy r1 r2 u1 u2 gx gy)) (T' := PK n y 0 0 0) (K := K_top0) (m := 5000) (n := 26) mixed (@K_top0_ok (TUupp hx hy r1 r2 u1 u2 gx gy)) (C := ⟨0, 15761, ofPairs rlL, [(.oi 1, 0), (.oi 5, 1), (.int .i64 0, 2)]⟩) (rl := rlL) (vp := []) (fs := fsS) (bs := bsL)
      (Base.none _) (Nat.zero_le _) rfl (by kernel_rfl) (ipCons (ipN (.i64, r) rfl (show (IntKind.i64, ((n : Nat) : Int)) = (IntKind.i64, r) from Prod.ext rfl (show ((n : Nat) : Int) = r by omega))) (ipCons (ipN (.i64, u) rfl (show (IntKind.i64, ((y : Nat) : Int)) = (IntKind.i64, u) from Prod.ext rfl (show ((y : Nat) : Int) = u by omega))) (ipCons (ipK rfl) ipNil))) vpNil (glNone rfl rfl) (by as_aux_lemma => kernel_rfl) s0 fun a' w' s => ?_
  exact backL (by omega) (by omega) s
theorem ibUupn {m k r u : Int} (hx : m.tmod 20 = r) (hy : k.tmod 20 = u) (r1 : -20 < r) (r2 : r < 20) (u1 : -20 < u) (u2 : u < 20) (gx : 0 ≤ r) (gy : u < 0) : ∀ x_ ∈ ([(4, .oi 0, .int .i64 20, .oi 1), (11, .oi 1, .int .i64 0, .bool false), (4, .oi 4, .int .i64 20, .oi 5), (11, .oi 5, .int .i64 0, .bool true)] : List BRow), IbOk (ivUu m k r u) x_ := by
  letI := Tab.empty
  exact (ibCons (ibRem (a := m) (b := 20) (c := r) rfl rfl rfl (by decide) hx) (ibCons (ibLt (a := r) (b := 0) rfl rfl (decide_eq_false (by omega))) (ibCons (ibRem (a := k) (b := 20) (c := u) rfl rfl rfl (by decide) hy) (ibCons (ibLt (a := u) (b := 0) rfl rfl (decide_eq_true (by omega))) ibNil))))
abbrev RUupn {m k r u : Int} (hx : m.tmod 20 = r) (hy : k.tmod 20 = u) (r1 : -20 < r) (r2 : r < 20) (u1 : -20 < u) (u2 : u < 20) (gx : 0 ≤ r) (gy : u < 0) : VRows (ivUu m k r u) noV noK where
  vvp := noVp
  ib := [(4, .oi 0, .int .i64 20, .oi 1), (11, .oi 1, .int .i64 0, .bool false), (4, .oi 4, .int .i64 20, .oi 5), (11, .oi 5, .int .i64 0, .bool true)]
  ibok := ibUupn hx hy r1 r2 u1 u2 gx gy
theorem iuTpn {m k r u : Int} (hx : m.tmod 20 = r) (hy : k.tmod 20 = u) (r1 : -20 < r) (r2 : r < 20) (u1 : -20 < u) (u2 : u < 20) (gx : 0 ≤ r) (gy : u < 0) : ∀ q ∈ ([(0, .oi 5, .oi 6)] : List (Nat × AV × AV)), ∀ op, ucode op = q.1 → ∃ k_ n_ v, denI (ivUu m k r u) q.2.1 = some (k_, n_) ∧ unI op k_ n_ = some v ∧ outI (ivUu m k r u) q.2.2 v := fun q hq op hop => by
  simp only [List.mem_cons, List.not_mem_nil, or_false] at hq
  subst hq
  · have : op = .neg := by cases op <;> simp [ucode] at hop; rfl
    subst this
    exact ⟨.i64, u, .int .i64 (IntKind.i64.wrap (0 - u)), rfl, rfl, by rw [wrap64 (by omega) (by omega)]; show some (IntKind.i64, if u < 0 then -u else u) = some (IntKind.i64, 0 - u); rw [if_pos (by omega)]; congr 2; omega⟩
abbrev TUupn {m k r u : Int} (hx : m.tmod 20 = r) (hy : k.tmod 20 = u) (r1 : -20 < r) (r2 : r < 20) (u1 : -20 < u) (u2 : u < 20) (gx : 0 ≤ r) (gy : u < 0) : Tab := { (RUupn hx hy r1 r2 u1 u2 gx gy).tab with
  iu := [(0, .oi 5, .oi 6)]
  iuok := iuTpn hx hy r1 r2 u1 u2 gx gy }
theorem yespn {m k r u : Int} (hx : m.tmod 20 = r) (hy : k.tmod 20 = u) (r1 : -20 < r) (r2 : r < 20) (u1 : -20 < u) (u2 : u < 20) (gx : 0 ≤ r) (gy : u < 0) {n y : Nat} (hn : (n : Int) = r) (hs : (y : Int) = -u) (w : World) : Calls Tryz.prog 3 #[.int .i64 m, .int .i64 k] w fun e w' => e = .returned (.bool true) ∧ Below w.heap.size w w' := by
  refine yes_calls Tryz.func3 bodyL_eq w ?_
  have s0 := @St.start (TUupn hx hy r1 r2 u1 u2 gx gy) [.oi 0, .oi 4] #[.int .i64 m, .int .i64 k] NT w ⟨fun g o a h => (by cases h), fun i m a h => (by cases h)⟩ (@vrels_cons (TUupn hx hy r1 r2 u1 u2 gx gy) _ _ _ _ _ (by simp only [vrel]; rfl) (@vrels_cons (TUupn hx hy r1 r2 u1 u2 gx gy) _ _ _ _ _ (by simp only [vrel]; rfl) (by simp [vrels]))) (show 2 ≤ NT by decide +kernel) (show 2 < limit by decide)
  refine firstTo_sound (T := (TUupn hx hy r1 r2 u1 u2 gx gy)) (T' := PK n y 0 0 0) (K := K_top0) (m := 5000) (n := 26) mixed (@K_top0_ok (TUupn hx hy r1 r2 u1 u2 gx gy)) (C := ⟨0, 15761, ofPairs rlL, [(.oi 1, 0), (.oi 6, 1), (.int .i64 0, 2)]⟩) (rl := rlL) (vp := []) (fs := fsS) (bs := bsL)
      (Base.none _) (Nat.zero_le _) rfl (by kernel_rfl) (ipCons (ipN (.i64, r) rfl (show (IntKind.i64, ((n : Nat) : Int)) = (IntKind.i64, r) from Prod.ext rfl (show ((n : Nat) : Int) = r by omega))) (ipCons (ipN (.i64, (if u < 0 then -u else u)) rfl (show (IntKind.i64, ((y : Nat) : Int)) = (IntKind.i64, (if u < 0 then -u else u)) from Prod.ext rfl (show ((y : Nat) : Int) = (if u < 0 then -u else u) by rw [if_pos (by omega)]; omega))) (ipCons (ipK rfl) ipNil))) vpNil (glNone rfl rfl) (by as_aux_lemma => kernel_rfl) s0 fun a' w' s => ?_
  exact backL (by omega) (by omega) s
theorem ibUunp {m k r u : Int} (hx : m.tmod 20 = r) (hy : k.tmod 20 = u) (r1 : -20 < r) (r2 : r < 20) (u1 : -20 < u) (u2 : u < 20) (gx : r < 0) (gy : 0 ≤ u) : ∀ x_ ∈ ([(4, .oi 0, .int .i64 20, .oi 1), (11, .oi 1, .int .i64 0, .bool true), (4, .oi 4, .int .i64 20, .oi 5), (11, .oi 5, .int .i64 0, .bool false)] : List BRow), IbOk (ivUu m k r u) x_ := by
  letI := Tab.empty
  exact (ibCons (ibRem (a := m) (b := 20) (c := r) rfl rfl rfl (by decide) hx) (ibCons (ibLt (a := r) (b := 0) rfl rfl (decide_eq_true (by omega))) (ibCons (ibRem (a := k) (b := 20) (c := u) rfl rfl rfl (by decide) hy) (ibCons (ibLt (a := u) (b := 0) rfl rfl (decide_eq_false (by omega))) ibNil))))
abbrev RUunp {m k r u : Int} (hx : m.tmod 20 = r) (hy : k.tmod 20 = u) (r1 : -20 < r) (r2 : r < 20) (u1 : -20 < u) (u2 : u < 20) (gx : r < 0) (gy : 0 ≤ u) : VRows (ivUu m k r u) noV noK where
  vvp := noVp
  ib := [(4, .oi 0, .int .i64 20, .oi 1), (11, .oi 1, .int .i64 0, .bool true), (4, .oi 4, .int .i64 20, .oi 5), (11, .oi 5, .int .i64 0, .bool false)]
  ibok := ibUunp hx hy r1 r2 u1 u2 gx gy
theorem iuTnp {m k r u : Int} (hx : m.tmod 20 = r) (hy : k.tmod 20 = u) (r1 : -20 < r) (r2 : r < 20) (u1 : -20 < u) (u2 : u < 20) (gx : r < 0) (gy : 0 ≤ u) : ∀ q ∈ ([(0, .oi 1, .oi 2)] : List (Nat × AV × AV)), ∀ op, ucode op = q.1 → ∃ k_ n_ v, denI (ivUu m k r u) q.2.1 = some (k_, n_) ∧ unI op k_ n_ = some v ∧ outI (ivUu m k r u) q.2.2 v := fun q hq op hop => by
  simp only [List.mem_cons, List.not_mem_nil, or_false] at hq
  subst hq
  · have : op = .neg := by cases op <;> simp [ucode] at hop; rfl
    subst this
    exact ⟨.i64, r, .int .i64 (IntKind.i64.wrap (0 - r)), rfl, rfl, by rw [wrap64 (by omega) (by omega)]; show some (IntKind.i64, if r < 0 then -r else r) = some (IntKind.i64, 0 - r); rw [if_pos (by omega)]; congr 2; omega⟩
abbrev TUunp {m k r u : Int} (hx : m.tmod 20 = r) (hy : k.tmod 20 = u) (r1 : -20 < r) (r2 : r < 20) (u1 : -20 < u) (u2 : u < 20) (gx : r < 0) (gy : 0 ≤ u) : Tab := { (RUunp hx hy r1 r2 u1 u2 gx gy).tab with
  iu := [(0, .oi 1, .oi 2)]
  iuok := iuTnp hx hy r1 r2 u1 u2 gx gy }
theorem yesnp {m k r u : Int} (hx : m.tmod 20 = r) (hy : k.tmod 20 = u) (r1 : -20 < r) (r2 : r < 20) (u1 : -20 < u) (u2 : u < 20) (gx : r < 0) (gy : 0 ≤ u) {n y : Nat} (hn : (n : Int) = -r) (hs : (y : Int) = u) (w : World) : Calls Tryz.prog 3 #[.int .i64 m, .int .i64 k] w fun e w' => e = .returned (.bool true) ∧ Below w.heap.size w w' := by
  refine yes_calls Tryz.func3 bodyL_eq w ?_
  have s0 := @St.start (TUunp hx hy r1 r2 u1 u2 gx gy) [.oi 0, .oi 4] #[.int .i64 m, .int .i64 k] NT w ⟨fun g o a h => (by cases h), fun i m a h => (by cases h)⟩ (@vrels_cons (TUunp hx hy r1 r2 u1 u2 gx gy) _ _ _ _ _ (by simp only [vrel]; rfl) (@vrels_cons (TUunp hx hy r1 r2 u1 u2 gx gy) _ _ _ _ _ (by simp only [vrel]; rfl) (by simp [vrels]))) (show 2 ≤ NT by decide +kernel) (show 2 < limit by decide)
  refine firstTo_sound (T := (TUunp hx hy r1 r2 u1 u2 gx gy)) (T' := PK n y 0 0 0) (K := K_top0) (m := 5000) (n := 26) mixed (@K_top0_ok (TUunp hx hy r1 r2 u1 u2 gx gy)) (C := ⟨0, 15761, ofPairs rlL, [(.oi 2, 0), (.oi 5, 1), (.int .i64 0, 2)]⟩) (rl := rlL) (vp := []) (fs := fsS) (bs := bsL)
      (Base.none _) (Nat.zero_le _) rfl (by kernel_rfl) (ipCons (ipN (.i64, (if r < 0 then -r else r)) rfl (show (IntKind.i64, ((n : Nat) : Int)) = (IntKind.i64, (if r < 0 then -r else r)) from Prod.ext rfl (show ((n : Nat) : Int) = (if r < 0 then -r else r) by rw [if_pos (by omega)]; omega))) (ipCons (ipN (.i64, u) rfl (show (IntKind.i64, ((y : Nat) : Int)) = (IntKind.i64, u) from Prod.ext rfl (show ((y : Nat) : Int) = u by omega))) (ipCons (ipK rfl) ipNil))) vpNil (glNone rfl rfl) (by as_aux_lemma => kernel_rfl) s0 fun a' w' s => ?_
  exact backL (by omega) (by omega) s
theorem ibUunn {m k r u : Int} (hx : m.tmod 20 = r) (hy : k.tmod 20 = u) (r1 : -20 < r) (r2 : r < 20) (u1 : -20 < u) (u2 : u < 20) (gx : r < 0) (gy : u < 0) : ∀ x_ ∈ ([(4, .oi 0, .int .i64 20, .oi 1), (11, .oi 1, .int .i64 0, .bool true), (4, .oi 4, .int .i64 20, .oi 5), (11, .oi 5, .int .i64 0, .bool true)] : List BRow), IbOk (ivUu m k r u) x_ := by
  letI := Tab.empty
  exact (ibCons (ibRem (a := m) (b := 20) (c := r) rfl rfl rfl (by decide) hx) (ibCons (ibLt (a := r) (b := 0) rfl rfl (decide_eq_true (by omega))) (ibCons (ibRem (a := k) (b := 20) (c := u) rfl rfl rfl (by decide) hy) (ibCons (ibLt (a := u) (b := 0) rfl rfl (decide_eq_true (by omega))) ibNil))))
abbrev RUunn {m k r u : Int} (hx : m.tmod 20 = r) (hy : k.tmod 20 = u) (r1 : -20 < r) (r2 : r < 20) (u1 : -20 < u) (u2 : u < 20) (gx : r < 0) (gy : u < 0) : VRows (ivUu m k r u) noV noK where
  vvp := noVp
  ib := [(4, .oi 0, .int .i64 20, .oi 1), (11, .oi 1, .int .i64 0, .bool true), (4, .oi 4, .int .i64 20, .oi 5), (11, .oi 5, .int .i64 0, .bool true)]
  ibok := ibUunn hx hy r1 r2 u1 u2 gx gy
theorem iuTnn {m k r u : Int} (hx : m.tmod 20 = r) (hy : k.tmod 20 = u) (r1 : -20 < r) (r2 : r < 20) (u1 : -20 < u) (u2 : u < 20) (gx : r < 0) (gy : u < 0) : ∀ q ∈ ([(0, .oi 1, .oi 2), (0, .oi 5, .oi 6)] : List (Nat × AV × AV)), ∀ op, ucode op = q.1 → ∃ k_ n_ v, denI (ivUu m k r u) q.2.1 = some (k_, n_) ∧ unI op k_ n_ = some v ∧ outI (ivUu m k r u) q.2.2 v := fun q hq op hop => by
  simp only [List.mem_cons, List.not_mem_nil, or_false] at hq
  rcases hq with rfl | rfl
  · have : op = .neg := by cases op <;> simp [ucode] at hop; rfl
    subst this
    exact ⟨.i64, r, .int .i64 (IntKind.i64.wrap (0 - r)), rfl, rfl, by rw [wrap64 (by omega) (by omega)]; show some (IntKind.i64, if r < 0 then -r else r) = some (IntKind.i64, 0 - r); rw [if_pos (by omega)]; congr 2; omega⟩
  · have : op = .neg := by cases op <;> simp [ucode] at hop; rfl
    subst this
    exact ⟨.i64, u, .int .i64 (IntKind.i64.wrap (0 - u)), rfl, rfl, by rw [wrap64 (by omega) (by omega)]; show some (IntKind.i64, if u < 0 then -u else u) = some (IntKind.i64, 0 - u); rw [if_pos (by omega)]; congr 2; omega⟩
abbrev TUunn {m k r u : Int} (hx : m.tmod 20 = r) (hy : k.tmod 20 = u) (r1 : -20 < r) (r2 : r < 20) (u1 : -20 < u) (u2 : u < 20) (gx : r < 0) (gy : u < 0) : Tab := { (RUunn hx hy r1 r2 u1 u2 gx gy).tab with
  iu := [(0, .oi 1, .oi 2), (0, .oi 5, .oi 6)]
  iuok := iuTnn hx hy r1 r2 u1 u2 gx gy }
theorem yesnn {m k r u : Int} (hx : m.tmod 20 = r) (hy : k.tmod 20 = u) (r1 : -20 < r) (r2 : r < 20) (u1 : -20 < u) (u2 : u < 20) (gx : r < 0) (gy : u < 0) {n y : Nat} (hn : (n : Int) = -r) (hs : (y : Int) = -u) (w : World) : Calls Tryz.prog 3 #[.int .i64 m, .int .i64 k] w fun e w' => e = .returned (.bool true) ∧ Below w.heap.size w w' := by
  refine yes_calls Tryz.func3 bodyL_eq w ?_
  have s0 := @St.start (TUunn hx hy r1 r2 u1 u2 gx gy) [.oi 0, .oi 4] #[.int .i64 m, .int .i64 k] NT w ⟨fun g o a h => (by cases h), fun i m a h => (by cases h)⟩ (@vrels_cons (TUunn hx hy r1 r2 u1 u2 gx gy) _ _ _ _ _ (by simp only [vrel]; rfl) (@vrels_cons (TUunn hx hy r1 r2 u1 u2 gx gy) _ _ _ _ _ (by simp only [vrel]; rfl) (by simp [vrels]))) (show 2 ≤ NT by decide +kernel) (show 2 < limit by decide)
  refine firstTo_sound (T := (TUunn hx hy r1 r2 u1 u2 gx gy)) (T' := PK n y 0 0 0) (K := K_top0) (m := 5000) (n := 26) mixed (@K_top0_ok (TUunn hx hy r1 r2 u1 u2 gx gy)) (C := ⟨0, 15761, ofPairs rlL, [(.oi 2, 0), (.oi 6, 1), (.int .i64 0, 2)]⟩) (rl := rlL) (vp := []) (fs := fsS) (bs := bsL)
      (Base.none _) (Nat.zero_le _) rfl (by kernel_rfl) (ipCons (ipN (.i64, (if r < 0 then -r else r)) rfl (show (IntKind.i64, ((n : Nat) : Int)) = (IntKind.i64, (if r < 0 then -r else r)) from Prod.ext rfl (show ((n : Nat) : Int) = (if r < 0 then -r else r) by rw [if_pos (by omega)]; omega))) (ipCons (ipN (.i64, (if u < 0 then -u else u)) rfl (show (IntKind.i64, ((y : Nat) : Int)) = (IntKind.i64, (if u < 0 then -u else u)) from Prod.ext rfl (show ((y : Nat) : Int) = (if u < 0 then -u else u) by rw [if_pos (by omega)]; omega))) (ipCons (ipK rfl) ipNil))) vpNil (glNone rfl rfl) (by as_aux_lemma => kernel_rfl) s0 fun a' w' s => ?_
  exact backL (by omega) (by omega) s
end
end Go.Proofs.YthgncmohimdbmaaGreatDoor.mx
