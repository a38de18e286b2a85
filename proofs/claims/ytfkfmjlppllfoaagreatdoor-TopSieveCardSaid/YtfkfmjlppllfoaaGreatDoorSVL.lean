/-
  What the law TopSieve gives: the law itself.
-/
import Derived.Test.YtfkfmjlppllfoaaGreatDoorSVA
set_option linter.unusedSectionVars false
set_option linter.unusedVariables false
set_option maxRecDepth 1000000
set_option maxHeartbeats 0
namespace Go.Proofs.YtfkfmjlppllfoaaGreatDoor.sv
open Go.X Go.RowKit Go.Proofs.YtfkfmjlppllfoaaGreatDoor.sq Go.Proofs.YtfkfmjlppllfoaaGreatDoor
/- the parts of a body that ends with a loop -/
def hd2 : Code → Code
  | .seq (.seq a _) _ => a
  | _ => .skip
def lp2 : Code → Code
  | .seq (.seq _ (.block _ (.loop c))) _ => c
  | _ => .skip
/- the parts of the outer loop -/
def q1 : Code → Code
  | .seq a _ => a
  | _ => .skip
def q2 : Code → Code
  | .seq _ b => b
  | _ => .skip
def bk : Code → Code
  | .block _ c => c
  | _ => .skip
def lp : Code → Code
  | .loop c => c
  | _ => .skip
noncomputable def fullL : Code := (Tryz.f3.body).getD .skip
noncomputable def hdL : Code := hd2 (restn 27 fullL)
noncomputable def laL : Code := lp2 (restn 27 fullL)
noncomputable def tlL : Code := tlOf (restn 27 fullL)
theorem restL_eq : restn 27 fullL = .seq (.seq hdL (.block 0 (.loop laL))) tlL := by kernel_rfl
theorem bodyL_eq : Tryz.f3.body = some fullL := by kernel_rfl
noncomputable def c1 : Code := q1 laL
noncomputable def cA : Code := q1 (bk (q1 (q2 laL)))
noncomputable def cB : Code := q1 (q1 (q2 (bk (q1 (q2 laL)))))
noncomputable def li : Code := lp (bk (q2 (q1 (q2 (bk (q1 (q2 laL)))))))
noncomputable def cD : Code := q2 (q2 (bk (q1 (q2 laL))))
noncomputable def cE : Code := q2 (q2 laL)
theorem laL_eq : laL = .seq c1 (.seq (.block 1 (.seq cA (.seq (.seq cB (.block 2 (.loop li))) cD))) cE) := by kernel_rfl
noncomputable abbrev bsL : BS := [(7162, 7162, (.map [((.str 1 77), (.ptr 14065 0), 0)] 1)), (7163, 7163, (.map [((.str 19 2439265639030268300842157990401791553877467498), (.ptr 7360 0), 0), ((.str 29 3085170664936786167588614718972924591866388410301586339335837578584426), (.ptr 7508 0), 1), ((.str 29 2977327179366744475310567174670984700336777289692309623825572795146602), (.ptr 7617 0), 2), ((.str 40 921438131347674524995356669863897659779420152864154109574888483886346161678995665599280333611370), (.ptr 7728 0), 3), ((.str 29 2977327179366744475310578792928741468592950331792981622238945052352874), (.ptr 7842 0), 4), ((.str 28 11630184294401345606682283003339240975915084228737354846334270988650), (.ptr 7955 0), 5), ((.str 31 202189744697330995387852485397630371027294446829100397077902765524415570282), (.ptr 8052 0), 6), ((.str 26 183890501555036136351903328603364899342229922045770665733546346), (.ptr 8146 0), 7), ((.str 15 594182256714433171583859471190221162), (.ptr 8237 0), 8), ((.str 19 2462787319999361794871408518597065734545105258), (.ptr 8327 0), 9), ((.str 37 56911353679811531822920492603033782110087255578636309514658723732473720363105297718731114), (.ptr 8433 0), 10), ((.str 28 12051447909910759173808661238977857107111767888823090726697178653034), (.ptr 8536 0), 11), ((.str 38 14060030080378334426808655457799320232265086119729716606675995945190890063755479020322840938), (.ptr 8651 0), 12), ((.str 38 14569306542030247732875768419210667608278730874565438596096215620376147580735894642209743210), (.ptr 8749 0), 13), ((.str 35 838043098472257520366253329360822735706660890049674080341799799296269125818196058474), (.ptr 8842 0), 14), ((.str 28 12051447909910278778317482300033197087305720853520054876288643916138), (.ptr 8947 0), 15), ((.str 22 42815343838886881203639546329033052610660173325164906), (.ptr 9046 0), 16), ((.str 36 214539033208897925213755128370838752992305990670598911423725060199978812837976799076714), (.ptr 9158 0), 17), ((.str 30 789803690223817235625993454897404583541813632134065715887439951296881002), (.ptr 9254 0), 18), ((.str 26 183890501555012814945400634590948384637649511452497603397575018), (.ptr 9355 0), 19), ((.str 27 47075968398083285027902446257440240237115773113246055769402925418), (.ptr 9457 0), 20), ((.str 30 762195757917886585679527096405151622096281774544538073876077408773628266), (.ptr 9567 0), 21), ((.str 16 154706541852025644484233205990057992554), (.ptr 9578 0), 22), ((.str 26 183890501555043540957095622503328518117729969598634276033028458), (.ptr 9689 0), 23), ((.str 26 177462528906270532328520934635542489792491443287338843928682858), (.ptr 9781 0), 24), ((.str 28 12051447909911140811364177168575840195048631602135540194265359868266), (.ptr 9888 0), 25), ((.str 16 137483774941304901841256615957136564586), (.ptr 9909 0), 26), ((.str 23 10956966084090815260342509131105871416374185281426186602), (.ptr 9966 0), 27), ((.str 41 235888161625004678398811307485157800903531559133223452051171428016118026562849321940164899390251370), (.ptr 10106 0), 28), ((.str 16 145412635431568811361768410208787652970), (.ptr 10118 0), 29), ((.str 19 2261816869159440624969593107871851903301607786), (.ptr 10206 0), 30), ((.str 38 14569306542031293471471962209605688152784288289213751582725315083544705153644676387098222954), (.ptr 10306 0), 31), ((.str 21 167247436870678459232146883126634948762985622298986), (.ptr 10406 0), 32)] 33)), (7164, 7164, (.cells 3 false [] (T.ofList 0 .leaf [(.map 7162), (.map 7163), (.so 15661 0 1 1)]))), (9578, 9578, (.cells 8 false [] (T.ofList 0 .leaf [(.int .i64 52), .nils, (.int .i64 33), (.str 16 154706541852025644484233205990057992554), (.str 0 0), .nils, .nils, (.so 9590 0 3 9)]))), (10416, 10416, (.map [((.str 19 2439265639030268300842157990401791553877467498), (.int .i64 0), 0), ((.str 28 12051447909911140811364177168575840195048631602135540194265359868266), (.int .i64 1), 1), ((.str 26 183890501555043540957095622503328518117729969598634276033028458), (.int .i64 2), 2)] 3)), (10417, 10417, (.cells 5 false [] (T.ofList 0 .leaf [(.ptr 7164 0), (.so 13985 0 8 1), (.so 13987 0 3 1), (.so 13984 0 3 3), (.map 10416)]))), (10420, 10420, (.map [] 0)), (10421, 10421, (.map [] 0)), (10422, 10422, (.cells 3 false [] (T.ofList 0 .leaf [(.ptr 7164 0), (.map 10420), (.map 10421)]))), (10423, 10423, (.cells 7 false [] (T.ofList 0 .leaf [(.ptr 10417 0), (.ptr 10419 0), (.ptr 7164 0), (.so 11137 0 39 3), .nils, (.bool false), (.bool false)]))), (13763, 13763, (.cells 4 false [] (T.ofList 0 .leaf [.nils, .nils, .nils, (.int .i64 0)]))), (13764, 13764, (.map [] 0)), (13765, 13765, (.map [] 0)), (13766, 13766, (.map [] 0)), (13767, 13767, (.cells 32 false [] (T.ofList 0 .leaf [(.ptr 7164 0), (.ptr 10422 0), (.ptr 10417 0), (.ptr 10419 0), (.ptr 10423 0), (.ptr 13763 0), .nils, (.map 13764), (.map 13765), .nils, (.int .i64 1), (.int .i64 3), (.int .i64 6), (.int .i64 0), .nilp, (.bool false), (.int .i64 0), (.int .i64 0), (.int .i64 0), (.int .i64 0), (.int .i64 0), (.int .i64 0), (.int .u8 0), (.int .i64 0), (.str 0 0), (.str 0 0), (.bool false), (.int .i64 0), .nils, (.int .i64 0), (.int .i64 0), (.map 13766)]))), (13984, 13984, (.cells 9 true [] (T.ofList 0 .leaf [(.str 19 2439265639030268300842157990401791553877467498), .nils, (.int .u8 0), (.str 28 12051447909911140811364177168575840195048631602135540194265359868266), (.so 13886 0 1 1), (.int .u8 0), (.str 26 183890501555043540957095622503328518117729969598634276033028458), (.so 13982 0 1 1), (.int .u8 0)]))), (13985, 13985, (.cells 8 true [] (T.ofList 0 .leaf [(.int .u64 0), (.int .u64 0), (.int .u64 1), (.int .u64 0), (.int .u64 0), (.int .u64 2), (.int .u64 0), (.int .u64 0)]))), (13987, 13987, (.cells 3 true [] (T.ofList 0 .leaf [(.int .i64 0), (.int .i64 2), (.int .i64 5)]))), (13988, 13988, (.cells 2 false [] (T.ofList 0 .leaf [(.ptr 7164 0), (.ptr 13767 0)]))), (13989, 13989, (.cells 2 false [] (T.ofList 0 .leaf [(.ptr 13988 0), (.bool true)]))), (14065, 14065, (.cells 8 false [] (T.ofList 0 .leaf [(.int .i64 52), (.sl 14067 0 11 11), (.int .i64 33), (.str 1 77), (.str 16 154706541852025644484233205990057992554), .nils, .nils, (.so 15659 0 1 9)]))), (14067, 14067, (.cells 55 false [(.int .i64 0), (.str 0 0), (.int .i64 0), (.int .i64 0), (.int .i64 0)] (ofPairs [(5, (.int .i64 1)), (6, (.str 2 23131)), (7, (.int .i64 0)), (8, (.int .i64 0)), (9, (.int .i64 0)), (10, (.int .i64 7)), (11, (.str 0 0)), (12, (.int .i64 0)), (13, (.int .i64 1)), (14, (.int .i64 0)), (15, (.int .i64 1)), (16, (.str 2 28519)), (17, (.int .i64 0)), (18, (.int .i64 0)), (19, (.int .i64 0)), (20, (.int .i64 1)), (21, (.str 4 1227442472)), (22, (.int .i64 0)), (23, (.int .i64 0)), (24, (.int .i64 0)), (25, (.int .i64 1)), (26, (.str 13 8035587729358898777305137640531)), (27, (.int .i64 0)), (28, (.int .i64 0)), (29, (.int .i64 0)), (30, (.int .i64 1)), (31, (.str 4 1701080899)), (32, (.int .i64 0)), (33, (.int .i64 0)), (34, (.int .i64 0)), (35, (.int .i64 1)), (36, (.str 1 77)), (37, (.int .i64 0)), (38, (.int .i64 0)), (39, (.int .i64 0)), (40, (.int .i64 7)), (41, (.str 0 0)), (42, (.int .i64 0)), (43, (.int .i64 7)), (44, (.int .i64 0)), (45, (.int .i64 1)), (46, (.str 16 154706541852025644484233205990057992554)), (47, (.int .i64 0)), (48, (.int .i64 0)), (49, (.int .i64 0)), (50, (.int .i64 7)), (51, (.str 0 0)), (52, (.int .i64 0)), (53, (.int .i64 9)), (54, (.int .i64 0))]))), (14379, 14379, (.cells 57 true [] (T.ofList 0 .leaf [(.int .u8 3), (.int .u8 60), (.int .u8 3), (.int .u8 61), (.int .u8 3), (.int .u8 62), (.int .u8 26), (.int .u8 4), (.int .u8 96), (.int .u8 188), (.int .u8 4), (.int .u8 58), (.int .u8 4), (.int .u8 5), (.int .u8 60), (.int .u8 27), (.int .u8 26), (.int .u8 163), (.int .u8 0), (.int .u8 38), (.int .u8 25), (.int .u8 4), (.int .u8 27), (.int .u8 51), (.int .u8 154), (.int .u8 0), (.int .u8 25), (.int .u8 132), (.int .u8 3), (.int .u8 1), (.int .u8 27), (.int .u8 61), (.int .u8 28), (.int .u8 26), (.int .u8 163), (.int .u8 0), (.int .u8 15), (.int .u8 25), (.int .u8 4), (.int .u8 28), (.int .u8 4), (.int .u8 84), (.int .u8 28), (.int .u8 27), (.int .u8 96), (.int .u8 61), (.int .u8 167), (.int .u8 255), (.int .u8 242), (.int .u8 132), (.int .u8 1), (.int .u8 1), (.int .u8 167), (.int .u8 255), (.int .u8 219), (.int .u8 29), (.int .u8 172)]))), (15561, 15561, (.cells 15 true [] (T.ofList 0 .leaf [(.int .i64 1), (.str 0 0), (.int .i64 0), (.int .i64 1), (.str 0 0), (.int .i64 0), (.int .i64 1), (.str 0 0), (.int .i64 0), (.int .i64 1), (.str 0 0), (.int .i64 0), (.int .i64 7), (.str 0 0), (.int .i64 2)]))), (15591, 15591, (.cells 15 true [] (T.ofList 0 .leaf [(.int .i64 1), (.str 0 0), (.int .i64 0), (.int .i64 1), (.str 0 0), (.int .i64 0), (.int .i64 1), (.str 0 0), (.int .i64 0), (.int .i64 1), (.str 0 0), (.int .i64 0), (.int .i64 7), (.str 0 0), (.int .i64 2)]))), (15621, 15621, (.cells 15 true [] (T.ofList 0 .leaf [(.int .i64 1), (.str 0 0), (.int .i64 0), (.int .i64 1), (.str 0 0), (.int .i64 0), (.int .i64 1), (.str 0 0), (.int .i64 0), (.int .i64 1), (.str 0 0), (.int .i64 0), (.int .i64 7), (.str 0 0), (.int .i64 2)]))), (15651, 15651, (.cells 15 true [] (T.ofList 0 .leaf [(.int .i64 1), (.str 0 0), (.int .i64 0), (.int .i64 1), (.str 0 0), (.int .i64 0), (.int .i64 1), (.str 0 0), (.int .i64 0), (.int .i64 1), (.str 0 0), (.int .i64 0), (.int .i64 7), (.str 0 0), (.int .i64 2)]))), (15654, 15654, (.cells 16 true [] (T.ofList 0 .leaf [(.int .i64 255), (.int .i64 15), (.so 15561 0 5 3), .nils, (.int .i64 255), (.int .i64 16), (.so 15591 0 5 3), .nils, (.int .i64 255), (.int .i64 16), (.so 15621 0 5 3), .nils, (.int .i64 255), (.int .i64 5), (.so 15651 0 5 3), .nils]))), (15659, 15659, (.cells 9 true [] (T.ofList 0 .leaf [(.int .i64 9), (.str 2 28519), (.str 4 1227442472), (.bool true), (.int .i64 3), (.int .i64 5), (.so 14379 0 57 1), .nils, (.so 15654 0 4 4)])))]
noncomputable abbrev rlL : List (Nat × Nat) := [(7162, 7162), (7163, 7163), (7164, 7164), (7360, 7360), (7508, 7508), (7617, 7617), (7728, 7728), (7842, 7842), (7955, 7955), (8052, 8052), (8146, 8146), (8237, 8237), (8327, 8327), (8433, 8433), (8536, 8536), (8651, 8651), (8749, 8749), (8842, 8842), (8947, 8947), (9046, 9046), (9158, 9158), (9254, 9254), (9355, 9355), (9457, 9457), (9567, 9567), (9578, 9578), (9590, 9590), (9689, 9689), (9781, 9781), (9888, 9888), (9909, 9909), (9966, 9966), (10106, 10106), (10118, 10118), (10206, 10206), (10306, 10306), (10406, 10406), (10416, 10416), (10417, 10417), (10419, 10419), (10420, 10420), (10421, 10421), (10422, 10422), (10423, 10423), (11137, 11137), (13763, 13763), (13764, 13764), (13765, 13765), (13766, 13766), (13767, 13767), (13886, 13886), (13982, 13982), (13984, 13984), (13985, 13985), (13987, 13987), (13988, 13988), (13989, 13989), (14065, 14065), (14067, 14067), (14379, 14379), (15561, 15561), (15591, 15591), (15621, 15621), (15651, 15651), (15654, 15654), (15659, 15659), (15661, 15661)]
noncomputable abbrev fsA : List (Nat × AV) := [(0, .oi 0), (3, .bool true), (10, .ptr 13989 0), (11, .int .i64 0)]
noncomputable abbrev fsL : List (Nat × AV) := [(0, .oi 0), (3, .bool true), (10, .ptr 13989 0), (11, .oi 2), (12, .oi 1)]
noncomputable abbrev fsP : List (Nat × AV) := [(0, .oi 0), (3, .bool true), (10, .ptr 13989 0), (11, .oi 2), (12, .oi 1), (13, .bool true)]
noncomputable abbrev fsI (b : Bool) : List (Nat × AV) := [(0, .oi 0), (3, .bool true), (10, .ptr 13989 0), (11, .oi 2), (12, .oi 1), (13, .bool b), (14, .oi 3)]
noncomputable abbrev fsM : List (Nat × AV) := [(0, .oi 0), (3, .bool true), (10, .ptr 13989 0), (11, .oi 2)]
abbrev ivW (n i c j : Nat) : Nat → IntKind × Int
  | 0 => (.i64, ((n : Nat) : Int))
  | 1 => (.i64, ((i : Nat) : Int))
  | 2 => (.i64, ((c : Nat) : Int))
  | 3 => (.i64, ((j : Nat) : Int))
  | 4 => (.i64, ((i % j : Nat) : Int))
  | 5 => (.i64, ((j + 1 : Nat) : Int))
  | 6 => (.i64, ((c + 1 : Nat) : Int))
  | 7 => (.i64, ((i + 1 : Nat) : Int))
  | _ => (.i64, 0)
abbrev PW (n i c j : Nat) : Tab := (bare (ivW n i c j) noV noK noVp).tab
theorem remN {i j : Nat} : ((i : Nat) : Int).tmod (j : Nat) = ((i % j : Nat) : Int) := rfl
noncomputable abbrev NL : Nat := Tryz.f3.ntmps
abbrev RHd {n i c j : Nat} (hi : i < 500) (h : i ≤ n) : VRows (ivW n i c j) noV noK where
  vvp := noVp
  ib := [(12, .oi 1, .oi 0, .bool true)]
  ibok := by
    letI := Tab.empty
    exact (ibCons (ibLe (a := ((i : Nat) : Int)) (b := ((n : Nat) : Int)) rfl rfl (decide_eq_true (by omega))) ibNil)
abbrev RHx {n i c j : Nat} (h : n < i) : VRows (ivW n i c j) noV noK where
  vvp := noVp
  ib := [(12, .oi 1, .oi 0, .bool false)]
  ibok := by
    letI := Tab.empty
    exact (ibCons (ibLe (a := ((i : Nat) : Int)) (b := ((n : Nat) : Int)) rfl rfl (decide_eq_false (by omega))) ibNil)
abbrev RIt {n i c j : Nat} (hi : i < 500) (h : j < i) (h0 : 1 ≤ j) (h1 : i % j ≠ 0) : VRows (ivW n i c j) noV noK where
  vvp := noVp
  ib := [(11, .oi 3, .oi 1, .bool true), (4, .oi 1, .oi 3, .oi 4), (10, .oi 4, .int .i64 0, .bool true), (0, .oi 3, .int .i64 1, .oi 5)]
  ibok := by
    letI := Tab.empty
    exact (ibCons (ibLt (a := ((j : Nat) : Int)) (b := ((i : Nat) : Int)) rfl rfl (decide_eq_true (by omega))) (ibCons (ibRem (a := ((i : Nat) : Int)) (b := ((j : Nat) : Int)) (c := ((i % j : Nat) : Int)) rfl rfl rfl (by omega) remN) (ibCons (ibNe (a := ((i % j : Nat) : Int)) (b := 0) rfl rfl (decide_eq_false (by omega))) (ibCons (ibAdd (a := ((j : Nat) : Int)) (b := 1) (c := ((j + 1 : Nat) : Int)) rfl rfl rfl rfl (by omega) (by omega)) ibNil))))
abbrev RIf {n i c j : Nat} (hi : i < 500) (h : j < i) (h0 : 1 ≤ j) (h1 : i % j = 0) : VRows (ivW n i c j) noV noK where
  vvp := noVp
  ib := [(11, .oi 3, .oi 1, .bool true), (4, .oi 1, .oi 3, .oi 4), (10, .oi 4, .int .i64 0, .bool false), (0, .oi 3, .int .i64 1, .oi 5)]
  ibok := by
    letI := Tab.empty
    exact (ibCons (ibLt (a := ((j : Nat) : Int)) (b := ((i : Nat) : Int)) rfl rfl (decide_eq_true (by omega))) (ibCons (ibRem (a := ((i : Nat) : Int)) (b := ((j : Nat) : Int)) (c := ((i % j : Nat) : Int)) rfl rfl rfl (by omega) remN) (ibCons (ibNe (a := ((i % j : Nat) : Int)) (b := 0) rfl rfl (decide_eq_true (by omega))) (ibCons (ibAdd (a := ((j : Nat) : Int)) (b := 1) (c := ((j + 1 : Nat) : Int)) rfl rfl rfl rfl (by omega) (by omega)) ibNil))))
abbrev RIs {n i c j : Nat} (hi : i < 500) (h : j < i) : VRows (ivW n i c j) noV noK where
  vvp := noVp
  ib := [(11, .oi 3, .oi 1, .bool true), (0, .oi 3, .int .i64 1, .oi 5)]
  ibok := by
    letI := Tab.empty
    exact (ibCons (ibLt (a := ((j : Nat) : Int)) (b := ((i : Nat) : Int)) rfl rfl (decide_eq_true (by omega))) (ibCons (ibAdd (a := ((j : Nat) : Int)) (b := 1) (c := ((j + 1 : Nat) : Int)) rfl rfl rfl rfl (by omega) (by omega)) ibNil))
abbrev RIx {n i c j : Nat} (h : i ≤ j) : VRows (ivW n i c j) noV noK where
  vvp := noVp
  ib := [(11, .oi 3, .oi 1, .bool false)]
  ibok := by
    letI := Tab.empty
    exact (ibCons (ibLt (a := ((j : Nat) : Int)) (b := ((i : Nat) : Int)) rfl rfl (decide_eq_false (by omega))) ibNil)
abbrev RCt {n i c j : Nat} (h : c < 500) : VRows (ivW n i c j) noV noK where
  vvp := noVp
  ib := [(0, .oi 2, .int .i64 1, .oi 6)]
  ibok := by
    letI := Tab.empty
    exact (ibCons (ibAdd (a := ((c : Nat) : Int)) (b := 1) (c := ((c + 1 : Nat) : Int)) rfl rfl rfl rfl (by omega) (by omega)) ibNil)
abbrev REi {n i c j : Nat} (hi : i < 500) : VRows (ivW n i c j) noV noK where
  vvp := noVp
  ib := [(0, .oi 1, .int .i64 1, .oi 7)]
  ibok := by
    letI := Tab.empty
    exact (ibCons (ibAdd (a := ((i : Nat) : Int)) (b := 1) (c := ((i + 1 : Nat) : Int)) rfl rfl rfl rfl (by omega) (by omega)) ibNil)
def SA (n : Nat) (w0 : World) (a : Act) (w : World) : Prop := St (PW n 0 0 0) (Kp.below w0.heap.size) w0 (fun _ => none) NL (frOf fsA) (hOf 15662 bsL) a w
def SL (n i c : Nat) (w0 : World) (a : Act) (w : World) : Prop := St (PW n i c 0) (Kp.below w0.heap.size) w0 (fun _ => none) NL (frOf fsL) (hOf 15662 bsL) a w
def SP (n i c : Nat) (w0 : World) (a : Act) (w : World) : Prop := St (PW n i c 0) (Kp.below w0.heap.size) w0 (fun _ => none) NL (frOf fsP) (hOf 15662 bsL) a w
def SIn (b : Bool) (n i c j : Nat) (w0 : World) (a : Act) (w : World) : Prop := St (PW n i c j) (Kp.below w0.heap.size) w0 (fun _ => none) NL (frOf (fsI b)) (hOf 15662 bsL) a w
section
variable {B : Kp} {w0 : World} {μ : M} {a : Act} {w : World}
theorem headL {n i c j : Nat} (s : SA n w0 a w) : hdL.wp Tryz.prog (fun e a' w' => e = .normal ∧ SL n 2 0 w0 a' w') a w := by
  refine runTo_sound (T := (bare (ivW n 0 0 0) noV noK noVp).tab) (T' := PW n 2 0 0) (K := Hand.none) (n := 300) mixed (@HandOk.none (bare (ivW n 0 0 0) noV noK noVp).tab Tryz.prog) (C := ⟨0, 15662, ofPairs rlL, [(.oi 0, 0), (.int .i64 2, 1), (.int .i64 0, 2)]⟩) (ex := .normal) (rl := rlL) (vp := []) (fs := fsL) (bs := bsL)
    (Base.none _) (Nat.zero_le _) rfl (by kernel_rfl) (ipCons (ipN (.i64, ((n : Nat) : Int)) rfl rfl) (ipCons (ipK rfl) (ipCons (ipK rfl) ipNil))) vpNil (glNone rfl rfl) (by as_aux_lemma => kernel_rfl) (St.same (VRows.same _ _) s)
theorem goHd {n i c j : Nat} (hi : i < 500) (h : i ≤ n) (s : SL n i c w0 a w) : c1.wp Tryz.prog (fun e a' w' => e = .normal ∧ SL n i c w0 a' w') a w := by
  refine runTo_sound (T := ((RHd (n := n) (i := i) (c := c) (j := 0) hi h).tab)) (T' := PW n i c 0) (K := Hand.none) (n := 300) mixed (@HandOk.none ((RHd (n := n) (i := i) (c := c) (j := 0) hi h).tab) Tryz.prog) (C := ⟨0, 15662, ofPairs rlL, [(.oi 0, 0), (.oi 1, 1), (.oi 2, 2)]⟩) (ex := .normal) (rl := rlL) (vp := []) (fs := fsL) (bs := bsL)
    (Base.none _) (Nat.zero_le _) rfl (by kernel_rfl) (ipCons (ipN (.i64, ((n : Nat) : Int)) rfl rfl) (ipCons (ipN (.i64, ((i : Nat) : Int)) rfl rfl) (ipCons (ipN (.i64, ((c : Nat) : Int)) rfl rfl) ipNil))) vpNil (glNone rfl rfl) (by as_aux_lemma => kernel_rfl) (St.same (VRows.same _ _) s)
theorem goA {n i c j : Nat} (s : SL n i c w0 a w) : cA.wp Tryz.prog (fun e a' w' => e = .normal ∧ SP n i c w0 a' w') a w := by
  refine runTo_sound (T := (PW n i c 0)) (T' := PW n i c 0) (K := Hand.none) (n := 300) mixed (@HandOk.none (PW n i c 0) Tryz.prog) (C := ⟨0, 15662, ofPairs rlL, [(.oi 0, 0), (.oi 1, 1), (.oi 2, 2)]⟩) (ex := .normal) (rl := rlL) (vp := []) (fs := fsP) (bs := bsL)
    (Base.none _) (Nat.zero_le _) rfl (by kernel_rfl) (ipCons (ipN (.i64, ((n : Nat) : Int)) rfl rfl) (ipCons (ipN (.i64, ((i : Nat) : Int)) rfl rfl) (ipCons (ipN (.i64, ((c : Nat) : Int)) rfl rfl) ipNil))) vpNil (glNone rfl rfl) (by as_aux_lemma => kernel_rfl) (St.same (VRows.same _ _) s)
theorem goB2 {n i c j : Nat} (s : SP n i c w0 a w) : cB.wp Tryz.prog (fun e a' w' => e = .normal ∧ SIn true n i c 2 w0 a' w') a w := by
  refine runTo_sound (T := (PW n i c 0)) (T' := PW n i c 2) (K := Hand.none) (n := 300) mixed (@HandOk.none (PW n i c 0) Tryz.prog) (C := ⟨0, 15662, ofPairs rlL, [(.oi 0, 0), (.oi 1, 1), (.oi 2, 2), (.int .i64 2, 3)]⟩) (ex := .normal) (rl := rlL) (vp := []) (fs := fsI true) (bs := bsL)
    (Base.none _) (Nat.zero_le _) rfl (by kernel_rfl) (ipCons (ipN (.i64, ((n : Nat) : Int)) rfl rfl) (ipCons (ipN (.i64, ((i : Nat) : Int)) rfl rfl) (ipCons (ipN (.i64, ((c : Nat) : Int)) rfl rfl) (ipCons (ipK rfl) ipNil)))) vpNil (glNone rfl rfl) (by as_aux_lemma => kernel_rfl) (St.same (VRows.same _ _) s)
theorem goIt {n i c j : Nat} (hi : i < 500) (h : j < i) (h0 : 1 ≤ j) (h1 : i % j ≠ 0) (s : SIn true n i c j w0 a w) : li.wp Tryz.prog (fun e a' w' => e = .normal ∧ SIn true n i c (j + 1) w0 a' w') a w := by
  refine runTo_sound (T := ((RIt (n := n) (i := i) (c := c) (j := j) hi h h0 h1).tab)) (T' := PW n i c (j + 1)) (K := Hand.none) (n := 300) mixed (@HandOk.none ((RIt (n := n) (i := i) (c := c) (j := j) hi h h0 h1).tab) Tryz.prog) (C := ⟨0, 15662, ofPairs rlL, [(.oi 0, 0), (.oi 1, 1), (.oi 2, 2), (.oi 5, 3)]⟩) (ex := .normal) (rl := rlL) (vp := []) (fs := fsI true) (bs := bsL)
    (Base.none _) (Nat.zero_le _) rfl (by kernel_rfl) (ipCons (ipN (.i64, ((n : Nat) : Int)) rfl rfl) (ipCons (ipN (.i64, ((i : Nat) : Int)) rfl rfl) (ipCons (ipN (.i64, ((c : Nat) : Int)) rfl rfl) (ipCons (ipN (.i64, ((j + 1 : Nat) : Int)) rfl rfl) ipNil)))) vpNil (glNone rfl rfl) (by as_aux_lemma => kernel_rfl) (St.same (VRows.same _ _) s)
theorem goIf {n i c j : Nat} (hi : i < 500) (h : j < i) (h0 : 1 ≤ j) (h1 : i % j = 0) (s : SIn true n i c j w0 a w) : li.wp Tryz.prog (fun e a' w' => e = .normal ∧ SIn false n i c (j + 1) w0 a' w') a w := by
  refine runTo_sound (T := ((RIf (n := n) (i := i) (c := c) (j := j) hi h h0 h1).tab)) (T' := PW n i c (j + 1)) (K := Hand.none) (n := 300) mixed (@HandOk.none ((RIf (n := n) (i := i) (c := c) (j := j) hi h h0 h1).tab) Tryz.prog) (C := ⟨0, 15662, ofPairs rlL, [(.oi 0, 0), (.oi 1, 1), (.oi 2, 2), (.oi 5, 3)]⟩) (ex := .normal) (rl := rlL) (vp := []) (fs := fsI false) (bs := bsL)
    (Base.none _) (Nat.zero_le _) rfl (by kernel_rfl) (ipCons (ipN (.i64, ((n : Nat) : Int)) rfl rfl) (ipCons (ipN (.i64, ((i : Nat) : Int)) rfl rfl) (ipCons (ipN (.i64, ((c : Nat) : Int)) rfl rfl) (ipCons (ipN (.i64, ((j + 1 : Nat) : Int)) rfl rfl) ipNil)))) vpNil (glNone rfl rfl) (by as_aux_lemma => kernel_rfl) (St.same (VRows.same _ _) s)
theorem goIs {n i c j : Nat} (hi : i < 500) (h : j < i) (s : SIn false n i c j w0 a w) : li.wp Tryz.prog (fun e a' w' => e = .normal ∧ SIn false n i c (j + 1) w0 a' w') a w := by
  refine runTo_sound (T := ((RIs (n := n) (i := i) (c := c) (j := j) hi h).tab)) (T' := PW n i c (j + 1)) (K := Hand.none) (n := 300) mixed (@HandOk.none ((RIs (n := n) (i := i) (c := c) (j := j) hi h).tab) Tryz.prog) (C := ⟨0, 15662, ofPairs rlL, [(.oi 0, 0), (.oi 1, 1), (.oi 2, 2), (.oi 5, 3)]⟩) (ex := .normal) (rl := rlL) (vp := []) (fs := fsI false) (bs := bsL)
    (Base.none _) (Nat.zero_le _) rfl (by kernel_rfl) (ipCons (ipN (.i64, ((n : Nat) : Int)) rfl rfl) (ipCons (ipN (.i64, ((i : Nat) : Int)) rfl rfl) (ipCons (ipN (.i64, ((c : Nat) : Int)) rfl rfl) (ipCons (ipN (.i64, ((j + 1 : Nat) : Int)) rfl rfl) ipNil)))) vpNil (glNone rfl rfl) (by as_aux_lemma => kernel_rfl) (St.same (VRows.same _ _) s)
theorem goXtrue {n i c j : Nat} (h : i ≤ j) (s : SIn true n i c j w0 a w) : li.wp Tryz.prog (fun e a' w' => e = .exit 2 ∧ SIn true n i c j w0 a' w') a w := by
  refine runTo_sound (T := ((RIx (n := n) (i := i) (c := c) (j := j) h).tab)) (T' := PW n i c j) (K := Hand.none) (n := 300) mixed (@HandOk.none ((RIx (n := n) (i := i) (c := c) (j := j) h).tab) Tryz.prog) (C := ⟨0, 15662, ofPairs rlL, [(.oi 0, 0), (.oi 1, 1), (.oi 2, 2), (.oi 3, 3)]⟩) (ex := .exit 2) (rl := rlL) (vp := []) (fs := fsI true) (bs := bsL)
    (Base.none _) (Nat.zero_le _) rfl (by kernel_rfl) (ipCons (ipN (.i64, ((n : Nat) : Int)) rfl rfl) (ipCons (ipN (.i64, ((i : Nat) : Int)) rfl rfl) (ipCons (ipN (.i64, ((c : Nat) : Int)) rfl rfl) (ipCons (ipN (.i64, ((j : Nat) : Int)) rfl rfl) ipNil)))) vpNil (glNone rfl rfl) (by as_aux_lemma => kernel_rfl) (St.same (VRows.same _ _) s)
theorem goXfalse {n i c j : Nat} (h : i ≤ j) (s : SIn false n i c j w0 a w) : li.wp Tryz.prog (fun e a' w' => e = .exit 2 ∧ SIn false n i c j w0 a' w') a w := by
  refine runTo_sound (T := ((RIx (n := n) (i := i) (c := c) (j := j) h).tab)) (T' := PW n i c j) (K := Hand.none) (n := 300) mixed (@HandOk.none ((RIx (n := n) (i := i) (c := c) (j := j) h).tab) Tryz.prog) (C := ⟨0, 15662, ofPairs rlL, [(.oi 0, 0), (.oi 1, 1), (.oi 2, 2), (.oi 3, 3)]⟩) (ex := .exit 2) (rl := rlL) (vp := []) (fs := fsI false) (bs := bsL)
    (Base.none _) (Nat.zero_le _) rfl (by kernel_rfl) (ipCons (ipN (.i64, ((n : Nat) : Int)) rfl rfl) (ipCons (ipN (.i64, ((i : Nat) : Int)) rfl rfl) (ipCons (ipN (.i64, ((c : Nat) : Int)) rfl rfl) (ipCons (ipN (.i64, ((j : Nat) : Int)) rfl rfl) ipNil)))) vpNil (glNone rfl rfl) (by as_aux_lemma => kernel_rfl) (St.same (VRows.same _ _) s)
theorem goDt {n i c j : Nat} (h : c < 500) (s : SIn true n i c j w0 a w) : cD.wp Tryz.prog (fun e a' w' => e = .normal ∧ SL n i (c + 1) w0 a' w') a w := by
  refine runTo_sound (T := ((RCt (n := n) (i := i) (c := c) (j := j) h).tab)) (T' := PW n i (c + 1) 0) (K := Hand.none) (n := 300) mixed (@HandOk.none ((RCt (n := n) (i := i) (c := c) (j := j) h).tab) Tryz.prog) (C := ⟨0, 15662, ofPairs rlL, [(.oi 0, 0), (.oi 1, 1), (.oi 6, 2)]⟩) (ex := .normal) (rl := rlL) (vp := []) (fs := fsL) (bs := bsL)
    (Base.none _) (Nat.zero_le _) rfl (by kernel_rfl) (ipCons (ipN (.i64, ((n : Nat) : Int)) rfl rfl) (ipCons (ipN (.i64, ((i : Nat) : Int)) rfl rfl) (ipCons (ipN (.i64, ((c + 1 : Nat) : Int)) rfl rfl) ipNil))) vpNil (glNone rfl rfl) (by as_aux_lemma => kernel_rfl) (St.same (VRows.same _ _) s)
theorem goDf {n i c j : Nat} (s : SIn false n i c j w0 a w) : cD.wp Tryz.prog (fun e a' w' => e = .normal ∧ SL n i c w0 a' w') a w := by
  refine runTo_sound (T := (PW n i c j)) (T' := PW n i c 0) (K := Hand.none) (n := 300) mixed (@HandOk.none (PW n i c j) Tryz.prog) (C := ⟨0, 15662, ofPairs rlL, [(.oi 0, 0), (.oi 1, 1), (.oi 2, 2)]⟩) (ex := .normal) (rl := rlL) (vp := []) (fs := fsL) (bs := bsL)
    (Base.none _) (Nat.zero_le _) rfl (by kernel_rfl) (ipCons (ipN (.i64, ((n : Nat) : Int)) rfl rfl) (ipCons (ipN (.i64, ((i : Nat) : Int)) rfl rfl) (ipCons (ipN (.i64, ((c : Nat) : Int)) rfl rfl) ipNil))) vpNil (glNone rfl rfl) (by as_aux_lemma => kernel_rfl) (St.same (VRows.same _ _) s)
theorem goE {n i c j : Nat} (hi : i < 500) (s : SL n i c w0 a w) : cE.wp Tryz.prog (fun e a' w' => e = .normal ∧ SL n (i + 1) c w0 a' w') a w := by
  refine runTo_sound (T := ((REi (n := n) (i := i) (c := c) (j := 0) hi).tab)) (T' := PW n (i + 1) c 0) (K := Hand.none) (n := 300) mixed (@HandOk.none ((REi (n := n) (i := i) (c := c) (j := 0) hi).tab) Tryz.prog) (C := ⟨0, 15662, ofPairs rlL, [(.oi 0, 0), (.oi 7, 1), (.oi 2, 2)]⟩) (ex := .normal) (rl := rlL) (vp := []) (fs := fsL) (bs := bsL)
    (Base.none _) (Nat.zero_le _) rfl (by kernel_rfl) (ipCons (ipN (.i64, ((n : Nat) : Int)) rfl rfl) (ipCons (ipN (.i64, ((i + 1 : Nat) : Int)) rfl rfl) (ipCons (ipN (.i64, ((c : Nat) : Int)) rfl rfl) ipNil))) vpNil (glNone rfl rfl) (by as_aux_lemma => kernel_rfl) (St.same (VRows.same _ _) s)
def QL {x : Int} (g1 : 0 ≤ x) (g2 : x < 400) (c q : Int) (w0 : World) (e : Exit) (a : Act) (w : World) : Prop := e = .exit 0 ∧ St (TF c q g1 g2) (Kp.below w0.heap.size) w0 (fun _ => none) NL (frOf fsM) (hOf 15662 bsL) a w
theorem goM {n i c : Nat} (h : n < i) {x c0 q : Int} (g1 : 0 ≤ x) (g2 : x < 400) (hx : x = n) (hc : c0 = c) (s : SL n i c w0 a w) : c1.wp Tryz.prog (fun e a' w' => QL g1 g2 c0 q w0 e a' w') a w := by
  refine wp_mono (runTo_sound (T := (RHx (n := n) (i := i) (c := c) (j := 0) h).tab) (T' := TF c0 q g1 g2) (K := Hand.none) (n := 300) mixed (@HandOk.none (RHx (n := n) (i := i) (c := c) (j := 0) h).tab Tryz.prog) (C := ⟨0, 15662, ofPairs rlL, [(.oi 0, 0), (.oi 2, 2)]⟩) (ex := .exit 0) (rl := rlL) (vp := []) (fs := fsM) (bs := bsL)
    (Base.none _) (Nat.zero_le _) rfl (by kernel_rfl) (ipCons (ipN (.i64, ((n : Nat) : Int)) rfl (by show (IntKind.i64, x) = _; rw [hx])) (ipCons (ipN (.i64, ((c : Nat) : Int)) rfl (by show (IntKind.i64, c0) = _; rw [hc])) ipNil)) vpNil (glNone rfl rfl) (by as_aux_lemma => kernel_rfl) (St.same (VRows.same _ _) s)) ?_
  rintro e a' w' ⟨rfl, s'⟩
  exact ⟨rfl, s'⟩
/-- the inner loop finds whether a number below i divides i -/
theorem innerL {n i c : Nat} (hi : i < 500) : ∀ (m j : Nat) (b : Bool) (a : Act) (w : World), m = i - j → 2 ≤ j → j ≤ max 2 i → (b = true ↔ ∀ d, 2 ≤ d → d < j → i % d ≠ 0) → SIn b n i c j w0 a w →
    Code.rounds Tryz.prog li (fun e a' w' => e = .exit 2 ∧ ∃ b' j', SIn b' n i c j' w0 a' w' ∧ (b' = true ↔ free i i)) (m + 1) a w
  | 0, j, b, a, w, e, h2, hm, hb, s => by
    rw [rounds_succ]
    have hf : (∀ d, 2 ≤ d → d < j → i % d ≠ 0) ↔ free i i := by
      by_cases c2 : i < 2
      · exact ⟨fun _ d x y => by omega, fun _ d x y => by omega⟩
      · rw [show j = i by omega]; exact Iff.rfl
    cases b with
    | true =>
      refine wp_mono (goXtrue (by omega) s) ?_
      rintro e a' w' ⟨rfl, s'⟩
      exact ⟨rfl, true, j, s', hb.trans hf⟩
    | false =>
      refine wp_mono (goXfalse (by omega) s) ?_
      rintro e a' w' ⟨rfl, s'⟩
      exact ⟨rfl, false, j, s', hb.trans hf⟩
  | m + 1, j, b, a, w, e, h2, hm, hb, s => by
    rw [rounds_succ]
    have step : ∀ b' : Bool, (b' = true ↔ (b = true ∧ i % j ≠ 0)) → (b' = true ↔ ∀ d, 2 ≤ d → d < j + 1 → i % d ≠ 0) := fun b' h => by
      rw [h, hb]
      refine ⟨fun ⟨x, y⟩ d h3 h4 => ?_, fun x => ⟨fun d h3 h4 => x d h3 (by omega), x j h2 (by omega)⟩⟩
      by_cases c3 : d = j
      · rw [c3]; exact y
      · exact x d h3 (by omega)
    cases b with
    | true =>
      by_cases h1 : i % j = 0
      · refine wp_mono (goIf hi (by omega) (by omega) h1 s) ?_
        rintro e a' w' ⟨rfl, s'⟩
        exact innerL hi m (j + 1) false a' w' (by omega) (by omega) (by omega) (step false ⟨fun h => (by cases h), fun h => absurd h1 h.2⟩) s'
      · refine wp_mono (goIt hi (by omega) (by omega) h1 s) ?_
        rintro e a' w' ⟨rfl, s'⟩
        exact innerL hi m (j + 1) true a' w' (by omega) (by omega) (by omega) (step true ⟨fun h => ⟨rfl, h1⟩, fun h => rfl⟩) s'
    | false =>
      refine wp_mono (goIs hi (by omega) s) ?_
      rintro e a' w' ⟨rfl, s'⟩
      exact innerL hi m (j + 1) false a' w' (by omega) (by omega) (by omega) (step false ⟨fun h => (by cases h), fun h => (by cases h.1)⟩) s'
theorem pcount_succ {i : Nat} (h : 2 ≤ i) : pcount (i + 1) = pcount i + (if free i i then 1 else 0) := by
  show pcount i + (if 2 ≤ i ∧ free i i then 1 else 0) = _
  by_cases c : free i i
  · rw [if_pos c, if_pos ⟨h, c⟩]
  · rw [if_neg c, if_neg (fun x => c x.2)]
/-- the outer loop counts them -/
theorem outerL {x c0 q : Int} (g1 : 0 ≤ x) (g2 : x < 400) {n : Nat} (hx : x = n) (hc : c0 = pcount (max 2 (n + 1))) : ∀ (m i : Nat) (a : Act) (w : World), m = n + 1 - i → 2 ≤ i → i ≤ max 2 (n + 1) → SL n i (pcount i) w0 a w →
    Code.rounds Tryz.prog laL (QL g1 g2 c0 q w0) (m + 1) a w
  | 0, i, a, w, e, h2, hm, s => by
    rw [rounds_succ, laL_eq]
    refine wp_seq (wp_mono (goM (c0 := c0) (q := q) (by omega) g1 g2 hx (by rw [hc, show max 2 (n + 1) = i by omega]) s) ?_)
    rintro e a' w' ⟨rfl, s'⟩
    exact ⟨rfl, s'⟩
  | m + 1, i, a, w, e, h2, hm, s => by
    have hi : i < 500 := by omega
    have hp := pcount_le i
    rw [rounds_succ, laL_eq]
    refine wp_seq (wp_mono (goHd (j := 0) hi (by omega) s) ?_)
    rintro e1 a1 w1 ⟨rfl, s1⟩
    refine wp_seq (wp_block (wp_seq (wp_mono (goA (j := 0) s1) ?_)))
    rintro e2 a2 w2 ⟨rfl, s2⟩
    refine wp_seq (wp_seq (wp_mono (goB2 (j := 0) s2) ?_))
    rintro e3 a3 w3 ⟨rfl, s3⟩
    refine wp_block (wp_mono (wp_loop_rounds _ (innerL hi _ 2 true a3 w3 rfl (Nat.le_refl _) (by omega) ⟨fun _ d x y => by omega, fun _ => rfl⟩ s3)) ?_)
    rintro e4 a4 w4 ⟨rfl, b, j, s4, hb⟩
    have hE : ∀ (a5 : Act) (w5 : World), SL n i (pcount (i + 1)) w0 a5 w5 → cE.wp Tryz.prog (Exit.then (Code.rounds Tryz.prog laL (QL g1 g2 c0 q w0) (m + 1)) (QL g1 g2 c0 q w0)) a5 w5 := fun a5 w5 s5 => by
      refine wp_mono (goE (j := 0) hi s5) ?_
      rintro e6 a6 w6 ⟨rfl, s6⟩
      exact outerL g1 g2 hx hc m (i + 1) a6 w6 (by omega) (by omega) (by omega) s6
    show cD.wp _ _ _ _
    cases b with
    | true =>
      refine wp_mono (goDt (by omega) s4) ?_
      rintro e5 a5 w5 ⟨rfl, s5⟩
      refine hE a5 w5 ?_
      rw [pcount_succ h2, if_pos (hb.1 rfl)]
      exact s5
    | false =>
      refine wp_mono (goDf s4) ?_
      rintro e5 a5 w5 ⟨rfl, s5⟩
      refine hE a5 w5 ?_
      rw [pcount_succ h2, if_neg (fun h => (by cases hb.2 h))]
      exact s5
theorem runL {x c q : Int} (g1 : 0 ≤ x) (g2 : x < 400) : runTrue (TF c q g1 g2) Tryz.prog ((inHand CR).or K_top0) 5000 Tryz.f3 tlL (frOf fsM) (hOf 15662 bsL) = true := (by as_aux_lemma => kernel_rfl)
theorem backL {n : Nat} (h : n < 400) (s : SA n w0 a w) : (restn 27 fullL).wp Tryz.prog (Yes Tryz.prog Tryz.f3 (Kp.below w0.heap.size) w0) a w := by
  rw [restL_eq]
  refine wp_seq (wp_seq (wp_mono (headL (i := 0) (c := 0) (j := 0) s) ?_))
  rintro e1 a1 w1 ⟨rfl, s1⟩
  have g1 : (0 : Int) ≤ (n : Nat) := Int.natCast_nonneg n
  have g2 : ((n : Nat) : Int) < 400 := by omega
  refine wp_block (wp_mono (wp_loop_rounds _ (outerL (q := ((13 + tO n (n - 1) 2 : Nat) : Int) + 5) g1 g2 rfl rfl _ 2 a1 w1 rfl (Nat.le_refl _) (by omega) s1)) ?_)
  rintro e2 a2 w2 ⟨rfl, s2⟩
  letI : Tab := TF ((pcount (max 2 (n + 1)) : Nat) : Int) (((13 + tO n (n - 1) 2 : Nat) : Int) + 5) g1 g2
  exact runTrue_sound (T := TF ((pcount (max 2 (n + 1)) : Nat) : Int) (((13 + tO n (n - 1) 2 : Nat) : Int) + 5) g1 g2) mixed (HandOk.or (inHand_ok (CR_ok n g1 g2 rfl rfl rfl) (by kernel_rfl)) K_top0_ok) (runL g1 g2) s2
abbrev ivZ (z r t : Int) : Nat → IntKind × Int
  | 0 => (.i64, z)
  | 1 => (.i64, r)
  | 2 => (.i64, t)
  | _ => (.i64, 0)
abbrev RZp {z r t : Int} (hr : z.tmod 400 = r) (h0 : 0 ≤ r) (h1 : r < 400) : VRows (ivZ z r t) noV noK where
  vvp := noVp
  ib := [(4, .oi 0, .int .i64 400, .oi 1), (11, .oi 1, .int .i64 0, .bool false)]
  ibok := by
    letI := Tab.empty
    exact ibCons (ibRem (a := z) (b := 400) (c := r) rfl rfl rfl (by decide) hr) (ibCons (ibLt (a := r) (b := 0) rfl rfl (decide_eq_false (by omega))) ibNil)
abbrev RZn {z r t : Int} (hr : z.tmod 400 = r) (h0 : r < 0) (h1 : -400 < r) (ht : t = -r) : VRows (ivZ z r t) noV noK where
  vvp := noVp
  ib := [(4, .oi 0, .int .i64 400, .oi 1), (11, .oi 1, .int .i64 0, .bool true)]
  ibok := by
    letI := Tab.empty
    exact ibCons (ibRem (a := z) (b := 400) (c := r) rfl rfl rfl (by decide) hr) (ibCons (ibLt (a := r) (b := 0) rfl rfl (decide_eq_true (by omega))) ibNil)
theorem iuZ {z r t : Int} (h0 : r < 0) (h1 : -400 < r) (ht : t = -r) : ∀ q ∈ ([(0, .oi 1, .oi 2)] : List (Nat × AV × AV)), ∀ op, ucode op = q.1 → ∃ k n_ v, denI (ivZ z r t) q.2.1 = some (k, n_) ∧ unI op k n_ = some v ∧ outI (ivZ z r t) q.2.2 v := fun q hq op hop => by
  simp only [List.mem_cons, List.not_mem_nil, or_false] at hq
  subst hq
  have : op = .neg := by cases op <;> simp [ucode] at hop; rfl
  subst this
  exact ⟨.i64, r, .int .i64 (IntKind.i64.wrap (0 - r)), rfl, rfl, by rw [wrap64 (by omega) (by omega)]; show some (IntKind.i64, t) = some (IntKind.i64, 0 - r); congr 2; omega⟩
abbrev TZp {z r t : Int} (hr : z.tmod 400 = r) (h0 : 0 ≤ r) (h1 : r < 400) : Tab := (RZp (t := t) hr h0 h1).tab
abbrev TZn {z r t : Int} (hr : z.tmod 400 = r) (h0 : r < 0) (h1 : -400 < r) (ht : t = -r) : Tab := { (RZn hr h0 h1 ht).tab with
  iu := [(0, .oi 1, .oi 2)]
  iuok := iuZ h0 h1 ht }
theorem yesp {z r t : Int} {n : Nat} (hr : z.tmod 400 = r) (h0 : 0 ≤ r) (h1 : r < 400) (hn : r = n) (w : World) : Calls Tryz.prog 3 #[.int .i64 z] w fun e w' => e = .returned (.bool true) ∧ Below w.heap.size w w' := by
  refine yes_calls Tryz.func3 bodyL_eq w ?_
  have s0 := @St.start (TZp (t := t) hr h0 h1) [.oi 0] #[.int .i64 z] NL w ⟨fun g o a h => (by cases h), fun i m a h => (by cases h)⟩ (@vrels_cons (TZp (t := t) hr h0 h1) _ _ _ _ _ (by simp only [vrel]; rfl) (by simp [vrels])) (show 1 ≤ NL by decide +kernel) (show 1 < limit by decide)
  refine firstTo_sound (T := (TZp (t := t) hr h0 h1)) (T' := PW n 0 0 0) (K := K_top0) (m := 5000) (n := 27) mixed (@K_top0_ok (TZp (t := t) hr h0 h1)) (C := ⟨0, 15662, ofPairs rlL, [(.oi 1, 0)]⟩) (rl := rlL) (vp := []) (fs := fsA) (bs := bsL)
    (Base.none _) (Nat.zero_le _) rfl (by kernel_rfl) (ipCons (ipN (.i64, r) rfl (by show (IntKind.i64, ((n : Nat) : Int)) = _; rw [hn])) ipNil) vpNil (glNone rfl rfl) (by as_aux_lemma => kernel_rfl) s0 fun a' w' s => ?_
  exact backL (by omega) s
theorem yesn {z r t : Int} {n : Nat} (hr : z.tmod 400 = r) (h0 : r < 0) (h1 : -400 < r) (ht : t = -r) (hn : t = n) (w : World) : Calls Tryz.prog 3 #[.int .i64 z] w fun e w' => e = .returned (.bool true) ∧ Below w.heap.size w w' := by
  refine yes_calls Tryz.func3 bodyL_eq w ?_
  have s0 := @St.start (TZn hr h0 h1 ht) [.oi 0] #[.int .i64 z] NL w ⟨fun g o a h => (by cases h), fun i m a h => (by cases h)⟩ (@vrels_cons (TZn hr h0 h1 ht) _ _ _ _ _ (by simp only [vrel]; rfl) (by simp [vrels])) (show 1 ≤ NL by decide +kernel) (show 1 < limit by decide)
  refine firstTo_sound (T := (TZn hr h0 h1 ht)) (T' := PW n 0 0 0) (K := K_top0) (m := 5000) (n := 27) mixed (@K_top0_ok (TZn hr h0 h1 ht)) (C := ⟨0, 15662, ofPairs rlL, [(.oi 2, 0)]⟩) (rl := rlL) (vp := []) (fs := fsA) (bs := bsL)
    (Base.none _) (Nat.zero_le _) rfl (by kernel_rfl) (ipCons (ipN (.i64, t) rfl (by show (IntKind.i64, ((n : Nat) : Int)) = _; rw [hn])) ipNil) vpNil (glNone rfl rfl) (by as_aux_lemma => kernel_rfl) s0 fun a' w' s => ?_
  exact backL (by omega) s
end
end Go.Proofs.YtfkfmjlppllfoaaGreatDoor.sv
