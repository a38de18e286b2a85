/-
  The call of Run in the law TopSum: a loop of instructions.
-/
import Derived.Test.YtkckdnjocncnhaaGreatDoorXN3
import Derived.Test.YtkckdnjocncnhaaGreatDoorSMT1
set_option linter.unusedSectionVars false
set_option linter.unusedVariables false
set_option maxRecDepth 1000000
set_option maxHeartbeats 0
namespace Go.Proofs.YtkckdnjocncnhaaGreatDoor.sm
open Go.X Go.RowKit
/-- 1 and 2 and so on -/
def tri : Nat → Int
  | 0 => 0
  | k + 1 => tri k + (k + 1)
theorem tri_two : ∀ k : Nat, tri k * 2 = (k : Int) * (k + 1)
  | 0 => rfl
  | k + 1 => by
    have h := tri_two k
    simp only [tri, Int.natCast_add, Int.natCast_one]
    rw [Int.add_mul, h, Int.mul_comm (k : Int), ← Int.mul_add, Int.add_assoc]
    rfl
theorem tri_nonneg : ∀ k : Nat, 0 ≤ tri k
  | 0 => Int.le_refl _
  | k + 1 => by have := tri_nonneg k; simp only [tri]; omega
theorem tri_le (k : Nat) (h : k ≤ 3000) : tri k ≤ 4501500 := by
  have h1 := tri_two k
  have h2 : (k : Int) * (k + 1) ≤ 3000 * 3001 := Int.mul_le_mul (by omega) (by omega) (by omega) (by omega)
  omega
noncomputable def fullR : Code := (Tryz.f47.body).getD .skip
noncomputable def la : Code := lpOf (restn 2 fullR)
noncomputable def tl : Code := tlOf (restn 2 fullR)
theorem rest_eq : restn 2 fullR = .seq (.block 0 (.loop la)) tl := by kernel_rfl
theorem body_eq : Tryz.f47.body = some fullR := by kernel_rfl
noncomputable abbrev fsR : List (Nat × AV) := [(0, .ptr 13545 0), (10, .ptr 14523 0)]
noncomputable abbrev bsP : BL := [(6940, (.map [((.str 1 77), (.ptr 13841 0), 0)] 1)), (6941, (.map [((.str 19 2439265639030268300842157990401791553877467498), (.ptr 7138 0), 0), ((.str 29 3085170664936786167588614718972924591866388410301586339335837578584426), (.ptr 7286 0), 1), ((.str 29 2977327179366744475310567174670984700336777289692309623825572795146602), (.ptr 7395 0), 2), ((.str 40 921438131347674524995356669863897659779420152864154109574888483886346161678995665599280333611370), (.ptr 7506 0), 3), ((.str 29 2977327179366744475310578792928741468592950331792981622238945052352874), (.ptr 7620 0), 4), ((.str 28 11630184294401345606682283003339240975915084228737354846334270988650), (.ptr 7733 0), 5), ((.str 31 202189744697330995387852485397630371027294446829100397077902765524415570282), (.ptr 7830 0), 6), ((.str 26 183890501555036136351903328603364899342229922045770665733546346), (.ptr 7924 0), 7), ((.str 15 594182256714433171583859471190221162), (.ptr 8015 0), 8), ((.str 19 2462787319999361794871408518597065734545105258), (.ptr 8105 0), 9), ((.str 37 56911353679811531822920492603033782110087255578636309514658723732473720363105297718731114), (.ptr 8211 0), 10), ((.str 28 12051447909910759173808661238977857107111767888823090726697178653034), (.ptr 8314 0), 11), ((.str 38 14060030080378334426808655457799320232265086119729716606675995945190890063755479020322840938), (.ptr 8429 0), 12), ((.str 38 14569306542030247732875768419210667608278730874565438596096215620376147580735894642209743210), (.ptr 8527 0), 13), ((.str 35 838043098472257520366253329360822735706660890049674080341799799296269125818196058474), (.ptr 8620 0), 14), ((.str 28 12051447909910278778317482300033197087305720853520054876288643916138), (.ptr 8725 0), 15), ((.str 22 42815343838886881203639546329033052610660173325164906), (.ptr 8824 0), 16), ((.str 36 214539033208897925213755128370838752992305990670598911423725060199978812837976799076714), (.ptr 8936 0), 17), ((.str 30 789803690223817235625993454897404583541813632134065715887439951296881002), (.ptr 9032 0), 18), ((.str 26 183890501555012814945400634590948384637649511452497603397575018), (.ptr 9133 0), 19), ((.str 27 47075968398083285027902446257440240237115773113246055769402925418), (.ptr 9235 0), 20), ((.str 30 762195757917886585679527096405151622096281774544538073876077408773628266), (.ptr 9345 0), 21), ((.str 16 154706541852025644484233205990057992554), (.ptr 9356 0), 22), ((.str 26 183890501555043540957095622503328518117729969598634276033028458), (.ptr 9467 0), 23), ((.str 26 177462528906270532328520934635542489792491443287338843928682858), (.ptr 9559 0), 24), ((.str 28 12051447909911140811364177168575840195048631602135540194265359868266), (.ptr 9666 0), 25), ((.str 16 137483774941304901841256615957136564586), (.ptr 9687 0), 26), ((.str 23 10956966084090815260342509131105871416374185281426186602), (.ptr 9744 0), 27), ((.str 41 235888161625004678398811307485157800903531559133223452051171428016118026562849321940164899390251370), (.ptr 9884 0), 28), ((.str 16 145412635431568811361768410208787652970), (.ptr 9896 0), 29), ((.str 19 2261816869159440624969593107871851903301607786), (.ptr 9984 0), 30), ((.str 38 14569306542031293471471962209605688152784288289213751582725315083544705153644676387098222954), (.ptr 10084 0), 31), ((.str 21 167247436870678459232146883126634948762985622298986), (.ptr 10184 0), 32)] 33)), (6942, (.cells 3 false [] (T.ofList 0 .leaf [(.map 6940), (.map 6941), (.so 14518 0 1 1)]))), (9356, (.cells 8 false [] (T.ofList 0 .leaf [(.int .i64 52), .nils, (.int .i64 33), (.str 16 154706541852025644484233205990057992554), (.str 0 0), .nils, .nils, (.so 9368 0 3 9)]))), (10198, (.map [] 0)), (10199, (.map [] 0)), (10200, (.cells 3 false [] (T.ofList 0 .leaf [(.ptr 6942 0), (.map 10198), (.map 10199)]))), (10201, (.cells 7 false [] (T.ofList 0 .leaf [(.ptr 10195 0), (.ptr 10197 0), (.ptr 6942 0), (.so 10915 0 39 3), .nils, (.bool false), (.bool false)]))), (13541, (.cells 4 false [] (T.ofList 0 .leaf [.nils, .nils, .nils, (.int .i64 0)]))), (13542, (.map [] 0)), (13543, (.map [] 0)), (13544, (.map [] 0)), (13545, (.cells 32 false [] (T.ofList 0 .leaf [(.ptr 6942 0), (.ptr 10200 0), (.ptr 10195 0), (.ptr 10197 0), (.ptr 10201 0), (.ptr 13541 0), .nils, (.map 13542), (.map 13543), .nils, (.int .i64 1), (.int .i64 3), (.int .i64 6), (.int .i64 0), .nilp, (.bool false), (.int .i64 0), (.int .i64 0), (.int .i64 0), (.int .i64 0), (.int .i64 0), (.int .i64 0), (.int .u8 0), (.int .i64 0), (.str 0 0), (.str 0 0), (.bool false), (.int .i64 0), .nils, (.int .i64 0), (.int .i64 0), (.map 13544)]))), (13841, (.cells 8 false [] (T.ofList 0 .leaf [(.int .i64 52), (.sl 13843 0 9 9), (.int .i64 33), (.str 1 77), (.str 16 154706541852025644484233205990057992554), .nils, .nils, (.so 14516 0 1 9)]))), (14126, (.cells 18 true [] (T.ofList 0 .leaf [(.int .u8 3), (.int .u8 60), (.int .u8 26), (.int .u8 158), (.int .u8 0), (.int .u8 13), (.int .u8 27), (.int .u8 26), (.int .u8 96), (.int .u8 60), (.int .u8 132), (.int .u8 0), (.int .u8 255), (.int .u8 167), (.int .u8 255), (.int .u8 245), (.int .u8 27), (.int .u8 172)]))), (14503, (.cells 3 true [] (T.ofList 0 .leaf [(.int .i64 1), (.str 0 0), (.int .i64 0)]))), (14511, (.cells 8 true [] (T.ofList 0 .leaf [(.int .i64 252), (.int .i64 2), (.so 14503 0 1 3), .nils, (.int .i64 13), (.int .i64 13), .nils, .nils]))), (14516, (.cells 9 true [] (T.ofList 0 .leaf [(.int .i64 9), (.str 3 7173491), (.str 4 1227442472), (.bool true), (.int .i64 2), (.int .i64 2), (.so 14126 0 18 1), .nils, (.so 14511 0 2 4)]))), (14519, (.cells 1 false [] (T.ofList 0 .leaf [(.oi 1)])))]
noncomputable abbrev bsB : BS := [(10201, 10201, (.cells 7 false [] (T.ofList 0 .leaf [(.ptr 10195 0), (.ptr 10197 0), (.ptr 6942 0), (.so 10915 0 39 3), .nils, (.bool false), (.bool false)]))), (13541, 13541, (.cells 4 false [] (T.ofList 0 .leaf [(.so 15371 0 2 1), (.so 15372 0 2 1), (.so 15370 0 1 7), (.int .i64 8)]))), (13542, 13542, (.map [((.str 1 77), (.ptr 15359 0), 0), ((.str 16 154706541852025644484233205990057992554), (.ptr 15364 0), 1)] 2)), (13544, 13544, (.map [] 0)), (13545, 13545, (.cells 32 false [] (T.ofList 0 .leaf [(.ptr 6942 0), (.ptr 10200 0), (.ptr 10195 0), (.ptr 10197 0), (.ptr 10201 0), (.ptr 13541 0), (.so 15375 0 1 1), (.map 13542), (.map 13543), .nils, (.int .i64 1), (.int .i64 3), (.int .i64 6), (.int .i64 0), .nilp, (.bool true), (.int .i64 100000), (.int .i64 0), (.int .i64 0), (.int .i64 0), (.int .i64 0), (.int .i64 0), (.int .u8 0), (.int .i64 0), (.str 0 0), (.str 0 0), (.bool false), (.int .i64 0), .nils, (.int .i64 0), (.int .i64 0), (.map 13544)]))), (13841, 13841, (.cells 8 false [] (T.ofList 0 .leaf [(.int .i64 52), (.sl 13843 0 9 9), (.int .i64 33), (.str 1 77), (.str 16 154706541852025644484233205990057992554), .nils, .nils, (.so 14516 0 1 9)]))), (14126, 14126, (.cells 18 true [] (T.ofList 0 .leaf [(.int .u8 3), (.int .u8 60), (.int .u8 26), (.int .u8 158), (.int .u8 0), (.int .u8 13), (.int .u8 27), (.int .u8 26), (.int .u8 96), (.int .u8 60), (.int .u8 132), (.int .u8 0), (.int .u8 255), (.int .u8 167), (.int .u8 255), (.int .u8 245), (.int .u8 27), (.int .u8 172)]))), (14511, 14511, (.cells 8 true [] (T.ofList 0 .leaf [(.int .i64 252), (.int .i64 2), (.so 14503 0 1 3), .nils, (.int .i64 13), (.int .i64 13), .nils, .nils]))), (14516, 14516, (.cells 9 true [] (T.ofList 0 .leaf [(.int .i64 9), (.str 3 7173491), (.str 4 1227442472), (.bool true), (.int .i64 2), (.int .i64 2), (.so 14126 0 18 1), .nils, (.so 14511 0 2 4)]))), (14523, 14523, (.cells 11 false [] (T.ofList 0 .leaf [(.int .i64 0), (.int .i64 0), (.int .u8 0), (.int .i64 0), (.str 0 0), (.str 0 0), (.bool false), (.int .i64 0), .nils, (.int .i64 0), (.int .i64 0)]))), (15359, 15359, (.cells 2 false [] (T.ofList 0 .leaf [(.int .i64 2), (.sl 15363 0 0 0)]))), (15364, 15364, (.cells 2 false [] (T.ofList 0 .leaf [(.int .i64 2), .nils]))), (15370, 15370, (.cells 7 true [] (T.ofList 0 .leaf [(.int .i64 0), (.int .i64 0), (.int .i64 0), (.int .i64 0), (.int .i64 2), (.int .i64 2), (.int .i64 0)]))), (15371, 15371, (.cells 2 true [] (T.ofList 0 .leaf [(.oi 0), (.int .i64 0)]))), (15372, 15372, (.cells 2 true [] (T.ofList 0 .leaf [(.bool false), (.bool false)]))), (15373, 15373, (.cells 6 false [] (T.ofList 0 .leaf [(.int .i64 0), (.int .i64 0), (.ptr 13841 0), (.int .i64 0), (.int .i64 0), .nilp]))), (15375, 15375, (.cells 1 true [] (T.ofList 0 .leaf [(.ptr 15373 0)])))]
noncomputable abbrev rlB : List (Nat × Nat) := [(14523, 14523), (15359, 15359), (15363, 15363), (15364, 15364), (15370, 15370), (15371, 15371), (15372, 15372), (15373, 15373), (15375, 15375)]
noncomputable abbrev bsS : BS := [(10201, 10201, (.cells 7 false [] (T.ofList 0 .leaf [(.ptr 10195 0), (.ptr 10197 0), (.ptr 6942 0), (.so 10915 0 39 3), .nils, (.bool false), (.bool false)]))), (13541, 13541, (.cells 4 false [] (T.ofList 0 .leaf [(.so 15576 0 2 1), (.so 15577 0 2 1), (.so 15370 0 1 7), (.int .i64 8)]))), (13542, 13542, (.map [((.str 1 77), (.ptr 15359 0), 0), ((.str 16 154706541852025644484233205990057992554), (.ptr 15364 0), 1)] 2)), (13544, 13544, (.map [((.str 10 345494341284111825710669), (.oi 2), 0)] 1)), (13545, 13545, (.cells 32 false [] (T.ofList 0 .leaf [(.ptr 6942 0), (.ptr 10200 0), (.ptr 10195 0), (.ptr 10197 0), (.ptr 10201 0), (.ptr 13541 0), (.so 15375 0 1 1), (.map 13542), (.map 13543), .nils, (.int .i64 1), (.int .i64 3), (.int .i64 6), (.int .i64 0), .nilp, (.bool true), (.int .i64 100000), (.oi 2), (.int .i64 0), (.int .i64 1), (.int .i64 0), (.int .i64 0), (.int .u8 0), (.int .i64 0), (.str 0 0), (.str 0 0), (.bool false), (.int .i64 0), .nils, (.int .i64 0), (.int .i64 0), (.map 13544)]))), (13841, 13841, (.cells 8 false [] (T.ofList 0 .leaf [(.int .i64 52), (.sl 13843 0 9 9), (.int .i64 33), (.str 1 77), (.str 16 154706541852025644484233205990057992554), .nils, .nils, (.so 14516 0 1 9)]))), (14126, 14126, (.cells 18 true [] (T.ofList 0 .leaf [(.int .u8 3), (.int .u8 60), (.int .u8 26), (.int .u8 158), (.int .u8 0), (.int .u8 13), (.int .u8 27), (.int .u8 26), (.int .u8 96), (.int .u8 60), (.int .u8 132), (.int .u8 0), (.int .u8 255), (.int .u8 167), (.int .u8 255), (.int .u8 245), (.int .u8 27), (.int .u8 172)]))), (14511, 14511, (.cells 8 true [] (T.ofList 0 .leaf [(.int .i64 252), (.int .i64 2), (.so 14503 0 1 3), .nils, (.int .i64 13), (.int .i64 13), .nils, .nils]))), (14516, 14516, (.cells 9 true [] (T.ofList 0 .leaf [(.int .i64 9), (.str 3 7173491), (.str 4 1227442472), (.bool true), (.int .i64 2), (.int .i64 2), (.so 14126 0 18 1), .nils, (.so 14511 0 2 4)]))), (14523, 14523, (.cells 11 false [] (T.ofList 0 .leaf [(.int .i64 0), (.int .i64 0), (.int .u8 0), (.int .i64 0), (.str 0 0), (.str 0 0), (.bool false), (.int .i64 0), .nils, (.int .i64 0), (.int .i64 0)]))), (15359, 15359, (.cells 2 false [] (T.ofList 0 .leaf [(.int .i64 2), (.sl 15363 0 0 0)]))), (15364, 15364, (.cells 2 false [] (T.ofList 0 .leaf [(.int .i64 2), .nils]))), (15370, 15370, (.cells 7 true [] (T.ofList 0 .leaf [(.int .i64 0), (.int .i64 0), (.int .i64 13), (.int .i64 0), (.int .i64 2), (.int .i64 2), (.int .i64 0)]))), (15373, 15373, (.cells 6 false [] (T.ofList 0 .leaf [(.int .i64 0), (.int .i64 0), (.ptr 13841 0), (.int .i64 0), (.int .i64 2), .nilp]))), (15375, 15375, (.cells 1 true [] (T.ofList 0 .leaf [(.ptr 15373 0)]))), (15576, 15576, (.cells 4 true [] (T.ofList 0 .leaf [(.oi 0), (.oi 1)]))), (15577, 15577, (.cells 4 true [] (T.ofList 0 .leaf [(.bool false), (.bool false), (.bool false), (.bool false)])))]
noncomputable abbrev rlS : List (Nat × Nat) := [(14523, 14523), (15359, 15359), (15363, 15363), (15364, 15364), (15370, 15370), (15373, 15373), (15375, 15375), (15576, 15576), (15577, 15577)]
abbrev ivB (x0 : Int) : Nat → IntKind × Int
  | 0 => (.i64, x0)
  | 1 => (.i32, x0)
  | 2 => (.i64, x0 - 1)
  | 3 => (.i32, x0 - 1)
  | _ => (.i64, 0)
abbrev ivS (x s k : Int) : Nat → IntKind × Int
  | 0 => (.i64, x)
  | 1 => (.i64, s)
  | 2 => (.i64, k)
  | 3 => (.i64, k + 1)
  | 4 => (.i64, k + 2)
  | 5 => (.i64, k + 3)
  | 6 => (.i64, k + 4)
  | 7 => (.i64, k + 5)
  | 8 => (.i32, s)
  | 9 => (.i32, x)
  | 10 => (.i64, s + x)
  | 11 => (.i32, s + x)
  | 12 => (.i64, k + 6)
  | 13 => (.i64, k + 7)
  | 14 => (.i64, x - 1)
  | 15 => (.i32, x - 1)
  | 16 => (.i64, k + 8)
  | _ => (.i64, 0)
theorem ibB {x0 : Int} (h1 : 1 ≤ x0) (h2 : x0 < 3000) : ∀ x_ ∈ ([(12, .oi 0, .int .i64 0, .bool false), (0, .int .i64 0, .oi 0, .oi 0), (0, .oi 0, .int .i64 (-1), .oi 2)] : List BRow), IbOk (ivB x0) x_ := by
  letI := Tab.empty
  exact (ibCons (ibLe (a := (x0)) (b := (0)) rfl rfl (decide_eq_false (by omega))) (ibCons (ibAdd (a := (0)) (b := (x0)) (c := (x0)) rfl rfl rfl (by first | assumption | omega) (by omega) (by omega)) (ibCons (ibAdd (a := (x0)) (b := (-1)) (c := (x0 - 1)) rfl rfl rfl (by first | assumption | omega) (by omega) (by omega)) ibNil)))
theorem icB {x0 : Int} (h1 : 1 ≤ x0) (h2 : x0 < 3000) : ∀ x_ ∈ ([(.i32, .oi 0, .oi 1), (.i64, .oi 1, .oi 0), (.i32, .oi 2, .oi 3), (.i64, .oi 3, .oi 2)] : List (IntKind × AV × AV)), IcOk' (ivB x0) x_ := (icCons (ic32 (n := (x0)) rfl rfl (by omega) (by omega)) (icCons (ic64 (n := (x0)) rfl rfl (by omega) (by omega)) (icCons (ic32 (n := (x0 - 1)) rfl rfl (by omega) (by omega)) (icCons (ic64 (n := (x0 - 1)) rfl rfl (by omega) (by omega)) icNil))))
abbrev RB {x0 : Int} (h1 : 1 ≤ x0) (h2 : x0 < 3000) : VRows (ivB x0) noV noK where
  vvp := noVp
  ib := [(12, .oi 0, .int .i64 0, .bool false), (0, .int .i64 0, .oi 0, .oi 0), (0, .oi 0, .int .i64 (-1), .oi 2)]
  ibok := ibB h1 h2
  ic := [(.i32, .oi 0, .oi 1), (.i64, .oi 1, .oi 0), (.i32, .oi 2, .oi 3), (.i64, .oi 3, .oi 2)]
  icok := icB h1 h2
theorem ibS {x s k : Int} (h1 : 1 ≤ x) (h2 : x < 3000) (h3 : 0 ≤ s) (h4 : s ≤ 4501500) (h5 : 0 ≤ k) (h6 : k + 8 * x + 4 < 50000) : ∀ x_ ∈ ([(14, .oi 2, .int .i64 100000, .bool false), (0, .oi 2, .int .i64 1, .oi 3), (14, .oi 3, .int .i64 100000, .bool false), (0, .oi 3, .int .i64 1, .oi 4), (12, .oi 0, .int .i64 0, .bool false), (14, .oi 4, .int .i64 100000, .bool false), (0, .oi 4, .int .i64 1, .oi 5), (14, .oi 5, .int .i64 100000, .bool false), (0, .oi 5, .int .i64 1, .oi 6), (14, .oi 6, .int .i64 100000, .bool false), (0, .oi 6, .int .i64 1, .oi 7), (0, .oi 1, .oi 0, .oi 10), (14, .oi 7, .int .i64 100000, .bool false), (0, .oi 7, .int .i64 1, .oi 12), (14, .oi 12, .int .i64 100000, .bool false), (0, .oi 12, .int .i64 1, .oi 13), (0, .oi 0, .int .i64 (-1), .oi 14), (14, .oi 13, .int .i64 100000, .bool false), (0, .oi 13, .int .i64 1, .oi 16)] : List BRow), IbOk (ivS x s k) x_ := by
  letI := Tab.empty
  exact (ibCons (ibGe (a := (k)) (b := (100000)) rfl rfl (decide_eq_false (by omega))) (ibCons (ibAdd (a := (k)) (b := (1)) (c := (k + 1)) rfl rfl rfl (by first | assumption | omega) (by omega) (by omega)) (ibCons (ibGe (a := (k + 1)) (b := (100000)) rfl rfl (decide_eq_false (by omega))) (ibCons (ibAdd (a := (k + 1)) (b := (1)) (c := (k + 2)) rfl rfl rfl (by first | assumption | omega) (by omega) (by omega)) (ibCons (ibLe (a := (x)) (b := (0)) rfl rfl (decide_eq_false (by omega))) (ibCons (ibGe (a := (k + 2)) (b := (100000)) rfl rfl (decide_eq_false (by omega))) (ibCons (ibAdd (a := (k + 2)) (b := (1)) (c := (k + 3)) rfl rfl rfl (by first | assumption | omega) (by omega) (by omega)) (ibCons (ibGe (a := (k + 3)) (b := (100000)) rfl rfl (decide_eq_false (by omega))) (ibCons (ibAdd (a := (k + 3)) (b := (1)) (c := (k + 4)) rfl rfl rfl (by first | assumption | omega) (by omega) (by omega)) (ibCons (ibGe (a := (k + 4)) (b := (100000)) rfl rfl (decide_eq_false (by omega))) (ibCons (ibAdd (a := (k + 4)) (b := (1)) (c := (k + 5)) rfl rfl rfl (by first | assumption | omega) (by omega) (by omega)) (ibCons (ibAdd (a := (s)) (b := (x)) (c := (s + x)) rfl rfl rfl (by first | assumption | omega) (by omega) (by omega)) (ibCons (ibGe (a := (k + 5)) (b := (100000)) rfl rfl (decide_eq_false (by omega))) (ibCons (ibAdd (a := (k + 5)) (b := (1)) (c := (k + 6)) rfl rfl rfl (by first | assumption | omega) (by omega) (by omega)) (ibCons (ibGe (a := (k + 6)) (b := (100000)) rfl rfl (decide_eq_false (by omega))) (ibCons (ibAdd (a := (k + 6)) (b := (1)) (c := (k + 7)) rfl rfl rfl (by first | assumption | omega) (by omega) (by omega)) (ibCons (ibAdd (a := (x)) (b := (-1)) (c := (x - 1)) rfl rfl rfl (by first | assumption | omega) (by omega) (by omega)) (ibCons (ibGe (a := (k + 7)) (b := (100000)) rfl rfl (decide_eq_false (by omega))) (ibCons (ibAdd (a := (k + 7)) (b := (1)) (c := (k + 8)) rfl rfl rfl (by first | assumption | omega) (by omega) (by omega)) ibNil)))))))))))))))))))
theorem icS {x s k : Int} (h1 : 1 ≤ x) (h2 : x < 3000) (h3 : 0 ≤ s) (h4 : s ≤ 4501500) (h5 : 0 ≤ k) (h6 : k + 8 * x + 4 < 50000) : ∀ x_ ∈ ([(.i32, .oi 1, .oi 8), (.i32, .oi 0, .oi 9), (.i64, .oi 8, .oi 1), (.i64, .oi 9, .oi 0), (.i32, .oi 10, .oi 11), (.i64, .oi 11, .oi 10), (.i32, .oi 14, .oi 15), (.i64, .oi 15, .oi 14)] : List (IntKind × AV × AV)), IcOk' (ivS x s k) x_ := (icCons (ic32 (n := (s)) rfl rfl (by omega) (by omega)) (icCons (ic32 (n := (x)) rfl rfl (by omega) (by omega)) (icCons (ic64 (n := (s)) rfl rfl (by omega) (by omega)) (icCons (ic64 (n := (x)) rfl rfl (by omega) (by omega)) (icCons (ic32 (n := (s + x)) rfl rfl (by omega) (by omega)) (icCons (ic64 (n := (s + x)) rfl rfl (by omega) (by omega)) (icCons (ic32 (n := (x - 1)) rfl rfl (by omega) (by omega)) (icCons (ic64 (n := (x - 1)) rfl rfl (by omega) (by omega)) icNil))))))))
abbrev RS {x s k : Int} (h1 : 1 ≤ x) (h2 : x < 3000) (h3 : 0 ≤ s) (h4 : s ≤ 4501500) (h5 : 0 ≤ k) (h6 : k + 8 * x + 4 < 50000) : VRows (ivS x s k) noV noK where
  vvp := noVp
  ib := [(14, .oi 2, .int .i64 100000, .bool false), (0, .oi 2, .int .i64 1, .oi 3), (14, .oi 3, .int .i64 100000, .bool false), (0, .oi 3, .int .i64 1, .oi 4), (12, .oi 0, .int .i64 0, .bool false), (14, .oi 4, .int .i64 100000, .bool false), (0, .oi 4, .int .i64 1, .oi 5), (14, .oi 5, .int .i64 100000, .bool false), (0, .oi 5, .int .i64 1, .oi 6), (14, .oi 6, .int .i64 100000, .bool false), (0, .oi 6, .int .i64 1, .oi 7), (0, .oi 1, .oi 0, .oi 10), (14, .oi 7, .int .i64 100000, .bool false), (0, .oi 7, .int .i64 1, .oi 12), (14, .oi 12, .int .i64 100000, .bool false), (0, .oi 12, .int .i64 1, .oi 13), (0, .oi 0, .int .i64 (-1), .oi 14), (14, .oi 13, .int .i64 100000, .bool false), (0, .oi 13, .int .i64 1, .oi 16)]
  ibok := ibS h1 h2 h3 h4 h5 h6
  ic := [(.i32, .oi 1, .oi 8), (.i32, .oi 0, .oi 9), (.i64, .oi 8, .oi 1), (.i64, .oi 9, .oi 0), (.i32, .oi 10, .oi 11), (.i64, .oi 11, .oi 10), (.i32, .oi 14, .oi 15), (.i64, .oi 15, .oi 14)]
  icok := icS h1 h2 h3 h4 h5 h6
theorem ibE {x s k : Int} (h1 : x = 0) (h2 : x < 3000) (h3 : 0 ≤ s) (h4 : s ≤ 4501500) (h5 : 0 ≤ k) (h6 : k + 8 * x + 4 < 50000) : ∀ x_ ∈ ([(14, .oi 2, .int .i64 100000, .bool false), (0, .oi 2, .int .i64 1, .oi 3), (14, .oi 3, .int .i64 100000, .bool false), (0, .oi 3, .int .i64 1, .oi 4), (12, .oi 0, .int .i64 0, .bool true), (14, .oi 4, .int .i64 100000, .bool false), (0, .oi 4, .int .i64 1, .oi 5), (14, .oi 5, .int .i64 100000, .bool false), (0, .oi 5, .int .i64 1, .oi 6)] : List BRow), IbOk (ivS x s k) x_ := by
  letI := Tab.empty
  exact (ibCons (ibGe (a := (k)) (b := (100000)) rfl rfl (decide_eq_false (by omega))) (ibCons (ibAdd (a := (k)) (b := (1)) (c := (k + 1)) rfl rfl rfl (by first | assumption | omega) (by omega) (by omega)) (ibCons (ibGe (a := (k + 1)) (b := (100000)) rfl rfl (decide_eq_false (by omega))) (ibCons (ibAdd (a := (k + 1)) (b := (1)) (c := (k + 2)) rfl rfl rfl (by first | assumption | omega) (by omega) (by omega)) (ibCons (ibLe (a := (x)) (b := (0)) rfl rfl (decide_eq_true (by omega))) (ibCons (ibGe (a := (k + 2)) (b := (100000)) rfl rfl (decide_eq_false (by omega))) (ibCons (ibAdd (a := (k + 2)) (b := (1)) (c := (k + 3)) rfl rfl rfl (by first | assumption | omega) (by omega) (by omega)) (ibCons (ibGe (a := (k + 3)) (b := (100000)) rfl rfl (decide_eq_false (by omega))) (ibCons (ibAdd (a := (k + 3)) (b := (1)) (c := (k + 4)) rfl rfl rfl (by first | assumption | omega) (by omega) (by omega)) ibNil)))))))))
theorem icE {x s k : Int} (h1 : x = 0) (h2 : x < 3000) (h3 : 0 ≤ s) (h4 : s ≤ 4501500) (h5 : 0 ≤ k) (h6 : k + 8 * x + 4 < 50000) : ∀ x_ ∈ ([] : List (IntKind × AV × AV)), IcOk' (ivS x s k) x_ := icNil
abbrev RE {x s k : Int} (h1 : x = 0) (h2 : x < 3000) (h3 : 0 ≤ s) (h4 : s ≤ 4501500) (h5 : 0 ≤ k) (h6 : k + 8 * x + 4 < 50000) : VRows (ivS x s k) noV noK where
  vvp := noVp
  ib := [(14, .oi 2, .int .i64 100000, .bool false), (0, .oi 2, .int .i64 1, .oi 3), (14, .oi 3, .int .i64 100000, .bool false), (0, .oi 3, .int .i64 1, .oi 4), (12, .oi 0, .int .i64 0, .bool true), (14, .oi 4, .int .i64 100000, .bool false), (0, .oi 4, .int .i64 1, .oi 5), (14, .oi 5, .int .i64 100000, .bool false), (0, .oi 5, .int .i64 1, .oi 6)]
  ibok := ibE h1 h2 h3 h4 h5 h6
  ic := []
  icok := icE h1 h2 h3 h4 h5 h6
abbrev PB (x0 : Int) : Tab := (bare (ivB x0) noV noK noVp).tab
abbrev PS (x s k : Int) : Tab := (bare (ivS x s k) noV noK noVp).tab
abbrev ivT (n r x0 S : Int) : Nat → IntKind × Int
  | 0 => (.i64, n)
  | 1 => (.i64, x0)
  | 2 => (.i32, x0)
  | 3 => (.i64, x0 + 1)
  | 4 => (.i64, x0 * (x0 + 1))
  | 5 => (.i64, S)
  | 6 => (.i64, 8 * x0)
  | 7 => (.i64, 6 + 8 * x0)
  | 8 => (.i64, r)
  | _ => (.i64, 0)
theorem ibTP {n r x0 S : Int} (hr : n.tmod 3000 = x0) (hx : r = -x0) (h1 : 1 ≤ x0) (h2 : x0 < 3000) (hS : (x0 * (x0 + 1)).tdiv 2 = S) (h3 : 0 ≤ x0 * (x0 + 1)) (h4 : x0 * (x0 + 1) ≤ 9003000) (h5 : 0 ≤ S) (h6 : S ≤ 9003000) : ∀ x_ ∈ ([(4, .oi 0, .int .i64 3000, .oi 1), (11, .oi 1, .int .i64 0, .bool false), (0, .oi 1, .int .i64 1, .oi 3), (2, .oi 1, .oi 3, .oi 4), (3, .oi 4, .int .i64 2, .oi 5), (9, .oi 5, .oi 5, .bool true), (2, .int .i64 8, .oi 1, .oi 6), (0, .int .i64 6, .oi 6, .oi 7), (9, .oi 7, .oi 7, .bool true)] : List BRow), IbOk (ivT n r x0 S) x_ := by
  letI := Tab.empty
  exact (ibCons (ibRem (a := n) (b := 3000) (c := x0) rfl rfl rfl (by omega) hr) (ibCons (ibLt (a := x0) (b := 0) rfl rfl (decide_eq_false (by omega))) (ibCons (ibAdd (a := x0) (b := 1) (c := x0 + 1) rfl rfl rfl rfl (by omega) (by omega)) (ibCons (ibMul (a := x0) (b := x0 + 1) (c := x0 * (x0 + 1)) rfl rfl rfl rfl (by omega) (by omega)) (ibCons (ibQuo (a := x0 * (x0 + 1)) (b := 2) (c := S) rfl rfl rfl (by omega) hS (by omega) (by omega)) (ibCons (ibEq (a := S) (b := S) rfl rfl (decide_eq_true rfl)) (ibCons (ibMul (a := 8) (b := x0) (c := 8 * x0) rfl rfl rfl rfl (by omega) (by omega)) (ibCons (ibAdd (a := 6) (b := 8 * x0) (c := 6 + 8 * x0) rfl rfl rfl rfl (by omega) (by omega)) (ibCons (ibEq (a := 6 + 8 * x0) (b := 6 + 8 * x0) rfl rfl (decide_eq_true rfl)) ibNil)))))))))
abbrev RTP {n r x0 S : Int} (hr : n.tmod 3000 = x0) (hx : r = -x0) (h1 : 1 ≤ x0) (h2 : x0 < 3000) (hS : (x0 * (x0 + 1)).tdiv 2 = S) (h3 : 0 ≤ x0 * (x0 + 1)) (h4 : x0 * (x0 + 1) ≤ 9003000) (h5 : 0 ≤ S) (h6 : S ≤ 9003000) : VRows (ivT n r x0 S) noV noK where
  vvp := noVp
  ib := [(4, .oi 0, .int .i64 3000, .oi 1), (11, .oi 1, .int .i64 0, .bool false), (0, .oi 1, .int .i64 1, .oi 3), (2, .oi 1, .oi 3, .oi 4), (3, .oi 4, .int .i64 2, .oi 5), (9, .oi 5, .oi 5, .bool true), (2, .int .i64 8, .oi 1, .oi 6), (0, .int .i64 6, .oi 6, .oi 7), (9, .oi 7, .oi 7, .bool true)]
  ibok := ibTP hr hx h1 h2 hS h3 h4 h5 h6
  ic := [(.i32, .oi 1, .oi 2), (.i64, .oi 2, .oi 1)]
  icok := (icCons (ic32 (n := x0) rfl rfl (by omega) (by omega)) (icCons (ic64 (n := x0) rfl rfl (by omega) (by omega)) icNil))
abbrev TP {n r x0 S : Int} (hr : n.tmod 3000 = x0) (hx : r = -x0) (h1 : 1 ≤ x0) (h2 : x0 < 3000) (hS : (x0 * (x0 + 1)).tdiv 2 = S) (h3 : 0 ≤ x0 * (x0 + 1)) (h4 : x0 * (x0 + 1) ≤ 9003000) (h5 : 0 ≤ S) (h6 : S ≤ 9003000) : Tab := (RTP hr hx h1 h2 hS h3 h4 h5 h6).tab
theorem ibTN {n r x0 S : Int} (hr : n.tmod 3000 = r) (hx : r = -x0) (h1 : 1 ≤ x0) (h2 : x0 < 3000) (hS : (x0 * (x0 + 1)).tdiv 2 = S) (h3 : 0 ≤ x0 * (x0 + 1)) (h4 : x0 * (x0 + 1) ≤ 9003000) (h5 : 0 ≤ S) (h6 : S ≤ 9003000) : ∀ x_ ∈ ([(4, .oi 0, .int .i64 3000, .oi 8), (11, .oi 8, .int .i64 0, .bool true), (0, .oi 1, .int .i64 1, .oi 3), (2, .oi 1, .oi 3, .oi 4), (3, .oi 4, .int .i64 2, .oi 5), (9, .oi 5, .oi 5, .bool true), (2, .int .i64 8, .oi 1, .oi 6), (0, .int .i64 6, .oi 6, .oi 7), (9, .oi 7, .oi 7, .bool true)] : List BRow), IbOk (ivT n r x0 S) x_ := by
  letI := Tab.empty
  exact (ibCons (ibRem (a := n) (b := 3000) (c := r) rfl rfl rfl (by omega) hr) (ibCons (ibLt (a := r) (b := 0) rfl rfl (decide_eq_true (by omega))) (ibCons (ibAdd (a := x0) (b := 1) (c := x0 + 1) rfl rfl rfl rfl (by omega) (by omega)) (ibCons (ibMul (a := x0) (b := x0 + 1) (c := x0 * (x0 + 1)) rfl rfl rfl rfl (by omega) (by omega)) (ibCons (ibQuo (a := x0 * (x0 + 1)) (b := 2) (c := S) rfl rfl rfl (by omega) hS (by omega) (by omega)) (ibCons (ibEq (a := S) (b := S) rfl rfl (decide_eq_true rfl)) (ibCons (ibMul (a := 8) (b := x0) (c := 8 * x0) rfl rfl rfl rfl (by omega) (by omega)) (ibCons (ibAdd (a := 6) (b := 8 * x0) (c := 6 + 8 * x0) rfl rfl rfl rfl (by omega) (by omega)) (ibCons (ibEq (a := 6 + 8 * x0) (b := 6 + 8 * x0) rfl rfl (decide_eq_true rfl)) ibNil)))))))))
abbrev RTN {n r x0 S : Int} (hr : n.tmod 3000 = r) (hx : r = -x0) (h1 : 1 ≤ x0) (h2 : x0 < 3000) (hS : (x0 * (x0 + 1)).tdiv 2 = S) (h3 : 0 ≤ x0 * (x0 + 1)) (h4 : x0 * (x0 + 1) ≤ 9003000) (h5 : 0 ≤ S) (h6 : S ≤ 9003000) : VRows (ivT n r x0 S) noV noK where
  vvp := noVp
  ib := [(4, .oi 0, .int .i64 3000, .oi 8), (11, .oi 8, .int .i64 0, .bool true), (0, .oi 1, .int .i64 1, .oi 3), (2, .oi 1, .oi 3, .oi 4), (3, .oi 4, .int .i64 2, .oi 5), (9, .oi 5, .oi 5, .bool true), (2, .int .i64 8, .oi 1, .oi 6), (0, .int .i64 6, .oi 6, .oi 7), (9, .oi 7, .oi 7, .bool true)]
  ibok := ibTN hr hx h1 h2 hS h3 h4 h5 h6
  ic := [(.i32, .oi 1, .oi 2), (.i64, .oi 2, .oi 1)]
  icok := (icCons (ic32 (n := x0) rfl rfl (by omega) (by omega)) (icCons (ic64 (n := x0) rfl rfl (by omega) (by omega)) icNil))
abbrev TN {n r x0 S : Int} (hr : n.tmod 3000 = r) (hx : r = -x0) (h1 : 1 ≤ x0) (h2 : x0 < 3000) (hS : (x0 * (x0 + 1)).tdiv 2 = S) (h3 : 0 ≤ x0 * (x0 + 1)) (h4 : x0 * (x0 + 1) ≤ 9003000) (h5 : 0 ≤ S) (h6 : S ≤ 9003000) : Tab := { (RTN hr hx h1 h2 hS h3 h4 h5 h6).tab with
  iu := [(0, .oi 8, .oi 1)]
  iuok := fun q hq op hop => by
    simp only [List.mem_singleton] at hq
    subst hq
    have : op = .neg := by cases op <;> simp [ucode] at hop; rfl
    subst this
    exact ⟨.i64, r, .int .i64 (IntKind.i64.wrap (0 - r)), rfl, rfl, by rw [wrap64 (by omega) (by omega)]; show some (IntKind.i64, x0) = some (IntKind.i64, 0 - r); rw [hx]; simp⟩ }
noncomputable def CR : In := ⟨47, [(.ptr 13545 0), (.str 1 77), (.str 3 7173491), (.sl 14519 0 1 1), (.int .i64 100000)], 14523, bsP, (.agg [(.int .i64 0), (.int .i64 1), (.int .u8 73), (.oi 5), (.str 0 0), (.str 0 0), (.bool false), (.oi 7), .nils, (.int .i64 0), (.int .i64 1)]), 15954, []⟩
theorem hIn_next {N : Nat} {bs : BL} : (hIn N bs).next = N := by unfold hIn; rw [fT_eq]
section
variable {B : Kp} {w0 : World} {μ : M} {a : Act} {w : World}
def SB (x0 : Int) (B : Kp) (w0 : World) (μ : M) (a : Act) (w : World) : Prop := St (PB x0) B w0 μ Tryz.f47.ntmps (frOf fsR) (hOf 15377 bsB) a w
def SS (x s k : Int) (B : Kp) (w0 : World) (μ : M) (a : Act) (w : World) : Prop := St (PS x s k) B w0 μ Tryz.f47.ntmps (frOf fsR) (hOf 15757 bsS) a w
theorem goB {x0 : Int} (h1 : 1 ≤ x0) (h2 : x0 < 3000) (hb : Base B μ 14523) {Q : Exit → Act → World → Prop} {j : Nat} (s : SB x0 B w0 μ a w) (hQ : ∀ a' w', SS (x0 - 1) x0 10 B w0 μ a' w' → Code.rounds Tryz.prog la Q j a' w') : Code.rounds Tryz.prog la Q (j + 10) a w :=
  stepsTo_sound (T := (RB h1 h2).tab) (T' := PS (x0 - 1) x0 10) (K := K_top1) (m := 5000) mixed (@K_top1_ok (RB h1 h2).tab) (C := ⟨14523, 15757, ofPairs rlS, [(.oi 2, 0), (.oi 0, 1), (.int .i64 10, 2)]⟩) (ex := .normal) (rl := rlS) (vp := []) (fs := fsR) (bs := bsS)
    hb (by decide) rfl (by kernel_rfl) (ipCons (ipN (.i64, x0 - 1) rfl rfl) (ipCons (ipN (.i64, x0) rfl rfl) (ipCons (ipK rfl) ipNil))) vpNil (glNone rfl rfl) (by as_aux_lemma => kernel_rfl) (St.same (VRows.same _ _) s) hQ
theorem goS {x s k : Int} (h1 : 1 ≤ x) (h2 : x < 3000) (h3 : 0 ≤ s) (h4 : s ≤ 4501500) (h5 : 0 ≤ k) (h6 : k + 8 * x + 4 < 50000) (hb : Base B μ 14523) {Q : Exit → Act → World → Prop} {j : Nat} (s' : SS x s k B w0 μ a w) (hQ : ∀ a' w', SS (x - 1) (s + x) (k + 8) B w0 μ a' w' → Code.rounds Tryz.prog la Q j a' w') : Code.rounds Tryz.prog la Q (j + 8) a w :=
  stepsTo_sound (T := (RS h1 h2 h3 h4 h5 h6).tab) (T' := PS (x - 1) (s + x) (k + 8)) (K := K_top1) (m := 5000) mixed (@K_top1_ok (RS h1 h2 h3 h4 h5 h6).tab) (C := ⟨14523, 15757, ofPairs rlS, [(.oi 14, 0), (.oi 10, 1), (.oi 16, 2)]⟩) (ex := .normal) (rl := rlS) (vp := []) (fs := fsR) (bs := bsS)
    hb (by decide) rfl (by kernel_rfl) (ipCons (ipN (.i64, x - 1) rfl rfl) (ipCons (ipN (.i64, s + x) rfl rfl) (ipCons (ipN (.i64, k + 8) rfl rfl) ipNil))) vpNil (glNone rfl rfl) (by as_aux_lemma => kernel_rfl) (St.same (VRows.same _ _) s') hQ
noncomputable abbrev bsE : BS := [(13545, 13545, (.cells 32 false [] (ofPairs [(15, (.bool false)), (20, (.int .i64 0)), (21, (.int .i64 1)), (22, (.int .u8 73)), (23, (.oi 5)), (24, (.str 0 0)), (25, (.str 0 0)), (26, (.bool false)), (27, (.oi 7)), (28, .nils), (29, (.int .i64 0)), (30, (.int .i64 1))]))), (14523, 14523, (.cells 11 false [] (T.ofList 0 .leaf [(.int .i64 0), (.int .i64 0), (.int .u8 0), (.int .i64 0), (.str 0 0), (.str 0 0), (.bool false), (.int .i64 0), .nils, (.int .i64 0), (.int .i64 0)])))]
noncomputable abbrev bsF : BS := [(14523, 14523, (.cells 11 false [] (T.ofList 0 .leaf [(.int .i64 0), (.int .i64 1), (.int .u8 73), (.oi 5), (.str 0 0), (.str 0 0), (.bool false), (.oi 7), .nils, (.int .i64 0), (.int .i64 1)])))]
def QEP {n r x0 S : Int} (hr : n.tmod 3000 = x0) (hx : r = -x0) (g1 : 1 ≤ x0) (g2 : x0 < 3000) (hS : (x0 * (x0 + 1)).tdiv 2 = S) (g3 : 0 ≤ x0 * (x0 + 1)) (g4 : x0 * (x0 + 1) ≤ 9003000) (g5 : 0 ≤ S) (g6 : S ≤ 9003000) (B : Kp) (w0 : World) (μ : M) (e : Exit) (a : Act) (w : World) : Prop := e = .exit 0 ∧ St (TP hr hx g1 g2 hS g3 g4 g5 g6) B w0 μ Tryz.f47.ntmps (frOf fsR) (hOf 15954 bsE) a w
theorem endP {n r x0 S : Int} (hr : n.tmod 3000 = x0) (hx : r = -x0) (g1 : 1 ≤ x0) (g2 : x0 < 3000) (hS : (x0 * (x0 + 1)).tdiv 2 = S) (g3 : 0 ≤ x0 * (x0 + 1)) (g4 : x0 * (x0 + 1) ≤ 9003000) (g5 : 0 ≤ S) (g6 : S ≤ 9003000) (hb : Base B μ 14523) {s k : Int} (e2 : 0 ≤ s) (e3 : s ≤ 4501500) (e4 : 0 ≤ k) (hs : s = S) (hk : k + 4 = 6 + 8 * x0) (s' : SS 0 s k B w0 μ a w) : Code.rounds Tryz.prog la (QEP hr hx g1 g2 hS g3 g4 g5 g6 B w0 μ) (0 + 4) a w := by
  have h6 : k + 8 * 0 + 4 < 50000 := by omega
  have hz2 : (0 : Int) < 3000 := by decide
  refine stepsTo_sound (T := (RE (x := 0) (s := s) (k := k) rfl hz2 e2 e3 e4 h6).tab) (T' := (TP hr hx g1 g2 hS g3 g4 g5 g6)) (K := K_top1) (m := 5000) mixed (@K_top1_ok (RE (x := 0) (s := s) (k := k) rfl hz2 e2 e3 e4 h6).tab) (C := ⟨14523, 15954, ofPairs [(14523, 14523)], [(.oi 1, 5), (.oi 6, 7)]⟩) (ex := .exit 0) (rl := [(14523, 14523)]) (vp := []) (fs := fsR) (bs := bsE)
      hb (by decide) rfl (by kernel_rfl) (ipCons (ipN (.i64, S) (by show (IntKind.i64, s) = _; rw [hs]) rfl) (ipCons (ipN (.i64, 6 + 8 * x0) (by show (IntKind.i64, k + 4) = _; rw [hk]) rfl) ipNil)) vpNil (glNone rfl rfl) (by as_aux_lemma => kernel_rfl) (St.same (VRows.same _ _) s') (fun a' w' q => ?_)
  exact ⟨rfl, q⟩
theorem roundsP {n r x0 S : Int} (hr : n.tmod 3000 = x0) (hx : r = -x0) (g1 : 1 ≤ x0) (g2 : x0 < 3000) (hS : (x0 * (x0 + 1)).tdiv 2 = S) (g3 : 0 ≤ x0 * (x0 + 1)) (g4 : x0 * (x0 + 1) ≤ 9003000) (g5 : 0 ≤ S) (g6 : S ≤ 9003000) (hb : Base B μ 14523) (xn : Nat) : ∀ (x s k : Int) (a : Act) (w : World), x = xn → x < 3000 → 0 ≤ s → s ≤ 4501500 → 0 ≤ k → k + 8 * x + 4 = 6 + 8 * x0 → s + tri xn = S → SS x s k B w0 μ a w →
    Code.rounds Tryz.prog la (QEP hr hx g1 g2 hS g3 g4 g5 g6 B w0 μ) (8 * xn + 4) a w := by
  induction xn with
  | zero =>
    intro x s k a w ex e1 e2 e3 e4 e5 e6 s'
    have hx : x = 0 := ex
    subst hx
    have hs : s = S := by simpa [tri] using e6
    have hk : k + 4 = 6 + 8 * x0 := by omega
    have hz : 8 * 0 + 4 = 0 + 4 := rfl
    rw [hz]
    exact endP hr hx g1 g2 hS g3 g4 g5 g6 hb e2 e3 e4 hs hk s'
  | succ xn ih =>
    intro x s k a w ex e1 e2 e3 e4 e5 e6 s'
    have e6' : s + (tri xn + (xn + 1)) = S := e6
    have tn := tri_nonneg xn
    have hz : 8 * (xn + 1) + 4 = (8 * xn + 4) + 8 := by omega
    have hS2 : S ≤ 4501500 := by
      have h3' : x0 * (x0 + 1) ≤ 2999 * 3000 := Int.mul_le_mul (by omega) (by omega) (by omega) (by omega)
      rw [← hS, Int.tdiv_eq_ediv_of_nonneg g3]; omega
    have c1 : 1 ≤ x := by omega
    have c2 : k + 8 * x + 4 < 50000 := by omega
    have d1 : x - 1 = (xn : Int) := by omega
    have d2 : x - 1 < 3000 := by omega
    have d3 : 0 ≤ s + x := by omega
    have d4 : s + x ≤ 4501500 := by omega
    have d5 : 0 ≤ k + 8 := by omega
    have d6 : k + 8 + 8 * (x - 1) + 4 = 6 + 8 * x0 := by omega
    have d7 : s + x + tri xn = S := by omega
    rw [hz]
    exact goS c1 e1 e2 e3 e4 c2 hb s' fun a' w' q => ih (x - 1) (s + x) (k + 8) a' w' d1 d2 d3 d4 d5 d6 d7 q
theorem tailP {n r x0 S : Int} (hr : n.tmod 3000 = x0) (hx : r = -x0) (g1 : 1 ≤ x0) (g2 : x0 < 3000) (hS : (x0 * (x0 + 1)).tdiv 2 = S) (g3 : 0 ≤ x0 * (x0 + 1)) (g4 : x0 * (x0 + 1) ≤ 9003000) (g5 : 0 ≤ S) (g6 : S ≤ 9003000) (hb : Base B μ 14523) (s : St (TP hr hx g1 g2 hS g3 g4 g5 g6) B w0 μ Tryz.f47.ntmps (frOf fsR) (hOf 15954 bsE) a w) : tl.wp Tryz.prog (@Done (TP hr hx g1 g2 hS g3 g4 g5 g6) Tryz.prog Tryz.f47 B w0 μ CR.v (hOf 15954 bsF)) a w := by
  letI : Tab := (TP hr hx g1 g2 hS g3 g4 g5 g6)
  refine wp_mono (runTo_sound (T := (TP hr hx g1 g2 hS g3 g4 g5 g6)) (T' := (TP hr hx g1 g2 hS g3 g4 g5 g6)) (K := K_top1) (n := 5000) mixed (@K_top1_ok (TP hr hx g1 g2 hS g3 g4 g5 g6)) (C := ⟨14523, 15954, ofPairs [(14523, 14523)], [(.oi 5, 5), (.oi 7, 7)]⟩) (ex := .ret) (rl := [(14523, 14523)]) (vp := []) (fs := [(10, .ptr 14523 0)]) (bs := bsF)
    hb (by decide) rfl (by kernel_rfl) (ipCons (ipN _ rfl rfl) (ipCons (ipN _ rfl rfl) ipNil)) vpNil (glNone rfl rfl) (by as_aux_lemma => kernel_rfl) s) ?_
  rintro e' a' w' ⟨rfl, s'⟩
  exact St.done (.inr rfl) (by kernel_rfl) s'
theorem CRP_ok {n r x0 S : Int} (hr : n.tmod 3000 = x0) (hx : r = -x0) (g1 : 1 ≤ x0) (g2 : x0 < 3000) (hS : (x0 * (x0 + 1)).tdiv 2 = S) (g3 : 0 ≤ x0 * (x0 + 1)) (g4 : x0 * (x0 + 1) ≤ 9003000) (g5 : 0 ≤ S) (g6 : S ≤ 9003000) : @InOk Tryz.prog CR (TP hr hx g1 g2 hS g3 g4 g5 g6) := by
  letI : Tab := (TP hr hx g1 g2 hS g3 g4 g5 g6)
  refine ⟨by kernel_rfl, hOf 15954 bsF, ?_, by unfold hOf; rw [fT_eq]; rfl, rfl⟩
  refine callOk_of (fn := Tryz.f47) Tryz.func47 body_eq (by decide +kernel) (by decide) fun B w0 μ a w hb s => ?_
  have hb : Base B μ 14523 := by
    have h := hb
    rw [show (hIn CR.N CR.bs).next = 14523 from hIn_next] at h
    exact h
  refine firstTo_sound (T := (TP hr hx g1 g2 hS g3 g4 g5 g6)) (T' := PB x0) (K := K_top1) (m := 5000) (n := 2) mixed (@K_top1_ok (TP hr hx g1 g2 hS g3 g4 g5 g6)) (C := ⟨14523, 15377, ofPairs rlB, [(.oi 1, 0)]⟩) (rl := rlB) (vp := []) (fs := fsR) (bs := bsB)
    hb (by decide) rfl (by kernel_rfl) (ipCons (ipN (.i64, x0) rfl rfl) ipNil) vpNil (glNone rfl rfl) (by as_aux_lemma => kernel_rfl) s fun a' w' s' => ?_
  rw [rest_eq]
  have hx0 : ((x0.toNat - 1 : Nat) : Int) = x0 - 1 := by omega
  have t2 := tri_two x0.toNat
  have tS : tri x0.toNat = S := by
    have h1 : ((x0.toNat : Nat) : Int) = x0 := by omega
    rw [h1] at t2
    rw [← hS, ← t2, Int.mul_tdiv_cancel _ (by decide)]
  have t1 : x0 + tri (x0.toNat - 1) = S := by
    have h1 : x0.toNat = (x0.toNat - 1) + 1 := by omega
    rw [h1] at tS
    simp only [tri] at tS
    omega
  refine wp_seq (wp_block (wp_mono (wp_loop_rounds ((8 * (x0.toNat - 1) + 4) + 10) (goB g1 g2 hb s' fun a2 w2 s2 => roundsP hr hx g1 g2 hS g3 g4 g5 g6 hb (x0.toNat - 1) (x0 - 1) x0 10 a2 w2 hx0.symm (by omega) (by omega) (by omega) (by omega) (by omega) t1 s2)) ?_))
  rintro e2 a2 w2 ⟨rfl, s2⟩
  exact tailP hr hx g1 g2 hS g3 g4 g5 g6 hb s2
theorem runP {n r x0 S : Int} (hr : n.tmod 3000 = x0) (hx : r = -x0) (g1 : 1 ≤ x0) (g2 : x0 < 3000) (hS : (x0 * (x0 + 1)).tdiv 2 = S) (g3 : 0 ≤ x0 * (x0 + 1)) (g4 : x0 * (x0 + 1) ≤ 9003000) (g5 : 0 ≤ S) (g6 : S ≤ 9003000) : okTrue (@call (TP hr hx g1 g2 hS g3 g4 g5 g6) Tryz.prog ((inHand CR).or K_top1) 5000 6 [.oi 0] H.empty) = true := (by as_aux_lemma => kernel_rfl)
theorem yesP {n r x0 S : Int} (hr : n.tmod 3000 = x0) (hx : r = -x0) (g1 : 1 ≤ x0) (g2 : x0 < 3000) (hS : (x0 * (x0 + 1)).tdiv 2 = S) (g3 : 0 ≤ x0 * (x0 + 1)) (g4 : x0 * (x0 + 1) ≤ 9003000) (g5 : 0 ≤ S) (g6 : S ≤ 9003000) (w : World) : Calls Tryz.prog 6 #[.int .i64 n] w fun e w' => e = .returned (.bool true) ∧ Below w.heap.size w w' := by
  letI : Tab := (TP hr hx g1 g2 hS g3 g4 g5 g6)
  obtain ⟨q_, hq_⟩ := CallOk.of_okTrue (P := Tryz.prog) mixed (HandOk.or (inHand_ok (CRP_ok hr hx g1 g2 hS g3 g4 g5 g6) (by kernel_rfl)) K_top1_ok) (runP hr hx g1 g2 hS g3 g4 g5 g6)
  exact CallOk.yes hq_ (vrels_cons (by simp only [vrel]; rfl) (by simp [vrels])) w ⟨fun g o a h => (by cases h), fun i m a h => (by cases h)⟩
def QEN {n r x0 S : Int} (hr : n.tmod 3000 = r) (hx : r = -x0) (g1 : 1 ≤ x0) (g2 : x0 < 3000) (hS : (x0 * (x0 + 1)).tdiv 2 = S) (g3 : 0 ≤ x0 * (x0 + 1)) (g4 : x0 * (x0 + 1) ≤ 9003000) (g5 : 0 ≤ S) (g6 : S ≤ 9003000) (B : Kp) (w0 : World) (μ : M) (e : Exit) (a : Act) (w : World) : Prop := e = .exit 0 ∧ St (TN hr hx g1 g2 hS g3 g4 g5 g6) B w0 μ Tryz.f47.ntmps (frOf fsR) (hOf 15954 bsE) a w
theorem endN {n r x0 S : Int} (hr : n.tmod 3000 = r) (hx : r = -x0) (g1 : 1 ≤ x0) (g2 : x0 < 3000) (hS : (x0 * (x0 + 1)).tdiv 2 = S) (g3 : 0 ≤ x0 * (x0 + 1)) (g4 : x0 * (x0 + 1) ≤ 9003000) (g5 : 0 ≤ S) (g6 : S ≤ 9003000) (hb : Base B μ 14523) {s k : Int} (e2 : 0 ≤ s) (e3 : s ≤ 4501500) (e4 : 0 ≤ k) (hs : s = S) (hk : k + 4 = 6 + 8 * x0) (s' : SS 0 s k B w0 μ a w) : Code.rounds Tryz.prog la (QEN hr hx g1 g2 hS g3 g4 g5 g6 B w0 μ) (0 + 4) a w := by
  have h6 : k + 8 * 0 + 4 < 50000 := by omega
  have hz2 : (0 : Int) < 3000 := by decide
  refine stepsTo_sound (T := (RE (x := 0) (s := s) (k := k) rfl hz2 e2 e3 e4 h6).tab) (T' := (TN hr hx g1 g2 hS g3 g4 g5 g6)) (K := K_top1) (m := 5000) mixed (@K_top1_ok (RE (x := 0) (s := s) (k := k) rfl hz2 e2 e3 e4 h6).tab) (C := ⟨14523, 15954, ofPairs [(14523, 14523)], [(.oi 1, 5), (.oi 6, 7)]⟩) (ex := .exit 0) (rl := [(14523, 14523)]) (vp := []) (fs := fsR) (bs := bsE)
      hb (by decide) rfl (by kernel_rfl) (ipCons (ipN (.i64, S) (by show (IntKind.i64, s) = _; rw [hs]) rfl) (ipCons (ipN (.i64, 6 + 8 * x0) (by show (IntKind.i64, k + 4) = _; rw [hk]) rfl) ipNil)) vpNil (glNone rfl rfl) (by as_aux_lemma => kernel_rfl) (St.same (VRows.same _ _) s') (fun a' w' q => ?_)
  exact ⟨rfl, q⟩
theorem roundsN {n r x0 S : Int} (hr : n.tmod 3000 = r) (hx : r = -x0) (g1 : 1 ≤ x0) (g2 : x0 < 3000) (hS : (x0 * (x0 + 1)).tdiv 2 = S) (g3 : 0 ≤ x0 * (x0 + 1)) (g4 : x0 * (x0 + 1) ≤ 9003000) (g5 : 0 ≤ S) (g6 : S ≤ 9003000) (hb : Base B μ 14523) (xn : Nat) : ∀ (x s k : Int) (a : Act) (w : World), x = xn → x < 3000 → 0 ≤ s → s ≤ 4501500 → 0 ≤ k → k + 8 * x + 4 = 6 + 8 * x0 → s + tri xn = S → SS x s k B w0 μ a w →
    Code.rounds Tryz.prog la (QEN hr hx g1 g2 hS g3 g4 g5 g6 B w0 μ) (8 * xn + 4) a w := by
  induction xn with
  | zero =>
    intro x s k a w ex e1 e2 e3 e4 e5 e6 s'
    have hx : x = 0 := ex
    subst hx
    have hs : s = S := by simpa [tri] using e6
    have hk : k + 4 = 6 + 8 * x0 := by omega
    have hz : 8 * 0 + 4 = 0 + 4 := rfl
    rw [hz]
    exact endN hr hx g1 g2 hS g3 g4 g5 g6 hb e2 e3 e4 hs hk s'
  | succ xn ih =>
    intro x s k a w ex e1 e2 e3 e4 e5 e6 s'
    have e6' : s + (tri xn + (xn + 1)) = S := e6
    have tn := tri_nonneg xn
    have hz : 8 * (xn + 1) + 4 = (8 * xn + 4) + 8 := by omega
    have hS2 : S ≤ 4501500 := by
      have h3' : x0 * (x0 + 1) ≤ 2999 * 3000 := Int.mul_le_mul (by omega) (by omega) (by omega) (by omega)
      rw [← hS, Int.tdiv_eq_ediv_of_nonneg g3]; omega
    have c1 : 1 ≤ x := by omega
    have c2 : k + 8 * x + 4 < 50000 := by omega
    have d1 : x - 1 = (xn : Int) := by omega
    have d2 : x - 1 < 3000 := by omega
    have d3 : 0 ≤ s + x := by omega
    have d4 : s + x ≤ 4501500 := by omega
    have d5 : 0 ≤ k + 8 := by omega
    have d6 : k + 8 + 8 * (x - 1) + 4 = 6 + 8 * x0 := by omega
    have d7 : s + x + tri xn = S := by omega
    rw [hz]
    exact goS c1 e1 e2 e3 e4 c2 hb s' fun a' w' q => ih (x - 1) (s + x) (k + 8) a' w' d1 d2 d3 d4 d5 d6 d7 q
theorem tailN {n r x0 S : Int} (hr : n.tmod 3000 = r) (hx : r = -x0) (g1 : 1 ≤ x0) (g2 : x0 < 3000) (hS : (x0 * (x0 + 1)).tdiv 2 = S) (g3 : 0 ≤ x0 * (x0 + 1)) (g4 : x0 * (x0 + 1) ≤ 9003000) (g5 : 0 ≤ S) (g6 : S ≤ 9003000) (hb : Base B μ 14523) (s : St (TN hr hx g1 g2 hS g3 g4 g5 g6) B w0 μ Tryz.f47.ntmps (frOf fsR) (hOf 15954 bsE) a w) : tl.wp Tryz.prog (@Done (TN hr hx g1 g2 hS g3 g4 g5 g6) Tryz.prog Tryz.f47 B w0 μ CR.v (hOf 15954 bsF)) a w := by
  letI : Tab := (TN hr hx g1 g2 hS g3 g4 g5 g6)
  refine wp_mono (runTo_sound (T := (TN hr hx g1 g2 hS g3 g4 g5 g6)) (T' := (TN hr hx g1 g2 hS g3 g4 g5 g6)) (K := K_top1) (n := 5000) mixed (@K_top1_ok (TN hr hx g1 g2 hS g3 g4 g5 g6)) (C := ⟨14523, 15954, ofPairs [(14523, 14523)], [(.oi 5, 5), (.oi 7, 7)]⟩) (ex := .ret) (rl := [(14523, 14523)]) (vp := []) (fs := [(10, .ptr 14523 0)]) (bs := bsF)
    hb (by decide) rfl (by kernel_rfl) (ipCons (ipN _ rfl rfl) (ipCons (ipN _ rfl rfl) ipNil)) vpNil (glNone rfl rfl) (by as_aux_lemma => kernel_rfl) s) ?_
  rintro e' a' w' ⟨rfl, s'⟩
  exact St.done (.inr rfl) (by kernel_rfl) s'
theorem CRN_ok {n r x0 S : Int} (hr : n.tmod 3000 = r) (hx : r = -x0) (g1 : 1 ≤ x0) (g2 : x0 < 3000) (hS : (x0 * (x0 + 1)).tdiv 2 = S) (g3 : 0 ≤ x0 * (x0 + 1)) (g4 : x0 * (x0 + 1) ≤ 9003000) (g5 : 0 ≤ S) (g6 : S ≤ 9003000) : @InOk Tryz.prog CR (TN hr hx g1 g2 hS g3 g4 g5 g6) := by
  letI : Tab := (TN hr hx g1 g2 hS g3 g4 g5 g6)
  refine ⟨by kernel_rfl, hOf 15954 bsF, ?_, by unfold hOf; rw [fT_eq]; rfl, rfl⟩
  refine callOk_of (fn := Tryz.f47) Tryz.func47 body_eq (by decide +kernel) (by decide) fun B w0 μ a w hb s => ?_
  have hb : Base B μ 14523 := by
    have h := hb
    rw [show (hIn CR.N CR.bs).next = 14523 from hIn_next] at h
    exact h
  refine firstTo_sound (T := (TN hr hx g1 g2 hS g3 g4 g5 g6)) (T' := PB x0) (K := K_top1) (m := 5000) (n := 2) mixed (@K_top1_ok (TN hr hx g1 g2 hS g3 g4 g5 g6)) (C := ⟨14523, 15377, ofPairs rlB, [(.oi 1, 0)]⟩) (rl := rlB) (vp := []) (fs := fsR) (bs := bsB)
    hb (by decide) rfl (by kernel_rfl) (ipCons (ipN (.i64, x0) rfl rfl) ipNil) vpNil (glNone rfl rfl) (by as_aux_lemma => kernel_rfl) s fun a' w' s' => ?_
  rw [rest_eq]
  have hx0 : ((x0.toNat - 1 : Nat) : Int) = x0 - 1 := by omega
  have t2 := tri_two x0.toNat
  have tS : tri x0.toNat = S := by
    have h1 : ((x0.toNat : Nat) : Int) = x0 := by omega
    rw [h1] at t2
    rw [← hS, ← t2, Int.mul_tdiv_cancel _ (by decide)]
  have t1 : x0 + tri (x0.toNat - 1) = S := by
    have h1 : x0.toNat = (x0.toNat - 1) + 1 := by omega
    rw [h1] at tS
    simp only [tri] at tS
    omega
  refine wp_seq (wp_block (wp_mono (wp_loop_rounds ((8 * (x0.toNat - 1) + 4) + 10) (goB g1 g2 hb s' fun a2 w2 s2 => roundsN hr hx g1 g2 hS g3 g4 g5 g6 hb (x0.toNat - 1) (x0 - 1) x0 10 a2 w2 hx0.symm (by omega) (by omega) (by omega) (by omega) (by omega) t1 s2)) ?_))
  rintro e2 a2 w2 ⟨rfl, s2⟩
  exact tailN hr hx g1 g2 hS g3 g4 g5 g6 hb s2
theorem runN {n r x0 S : Int} (hr : n.tmod 3000 = r) (hx : r = -x0) (g1 : 1 ≤ x0) (g2 : x0 < 3000) (hS : (x0 * (x0 + 1)).tdiv 2 = S) (g3 : 0 ≤ x0 * (x0 + 1)) (g4 : x0 * (x0 + 1) ≤ 9003000) (g5 : 0 ≤ S) (g6 : S ≤ 9003000) : okTrue (@call (TN hr hx g1 g2 hS g3 g4 g5 g6) Tryz.prog ((inHand CR).or K_top1) 5000 6 [.oi 0] H.empty) = true := (by as_aux_lemma => kernel_rfl)
theorem yesN {n r x0 S : Int} (hr : n.tmod 3000 = r) (hx : r = -x0) (g1 : 1 ≤ x0) (g2 : x0 < 3000) (hS : (x0 * (x0 + 1)).tdiv 2 = S) (g3 : 0 ≤ x0 * (x0 + 1)) (g4 : x0 * (x0 + 1) ≤ 9003000) (g5 : 0 ≤ S) (g6 : S ≤ 9003000) (w : World) : Calls Tryz.prog 6 #[.int .i64 n] w fun e w' => e = .returned (.bool true) ∧ Below w.heap.size w w' := by
  letI : Tab := (TN hr hx g1 g2 hS g3 g4 g5 g6)
  obtain ⟨q_, hq_⟩ := CallOk.of_okTrue (P := Tryz.prog) mixed (HandOk.or (inHand_ok (CRN_ok hr hx g1 g2 hS g3 g4 g5 g6) (by kernel_rfl)) K_top1_ok) (runN hr hx g1 g2 hS g3 g4 g5 g6)
  exact CallOk.yes hq_ (vrels_cons (by simp only [vrel]; rfl) (by simp [vrels])) w ⟨fun g o a h => (by cases h), fun i m a h => (by cases h)⟩
end
end Go.Proofs.YtkckdnjocncnhaaGreatDoor.sm
