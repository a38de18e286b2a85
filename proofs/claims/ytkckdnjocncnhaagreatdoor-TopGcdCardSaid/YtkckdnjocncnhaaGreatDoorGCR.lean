/-
  What the law TopGcd gives: two loops of rests, one in the law, one in the machine.
-/
import Derived.Test.YtkckdnjocncnhaaGreatDoorXN3
import Derived.Test.YtkckdnjocncnhaaGreatDoorGCT0
set_option linter.unusedSectionVars false
set_option linter.unusedVariables false
set_option maxRecDepth 1000000
set_option maxHeartbeats 0
namespace Go.Proofs.YtkckdnjocncnhaaGreatDoor.gc
open Go.X Go.RowKit
/-- the rests of two numbers come to an end, after so many, at R -/
inductive Ends : Int → Int → Nat → Int → Prop
  | nil (p : Int) : Ends p 0 0 p
  | cons {p q : Int} {n : Nat} {R : Int} (h : q ≠ 0) (k : Ends q (p.tmod q) n R) : Ends p q (n + 1) R
theorem Ends.zero {p q R : Int} (h : Ends p q 0 R) : q = 0 ∧ R = p := by
  cases h; exact ⟨rfl, rfl⟩
theorem Ends.succ {p q R : Int} {n : Nat} (h : Ends p q (n + 1) R) : q ≠ 0 ∧ Ends q (p.tmod q) n R := by
  cases h with
  | cons h k => exact ⟨h, k⟩
theorem rest_lt {p q : Int} (h0 : 0 ≤ p) (h : 0 < q) : 0 ≤ p.tmod q ∧ p.tmod q < q :=
  ⟨Int.tmod_nonneg q h0, Int.tmod_lt_of_pos p h⟩
theorem rest_half {q r : Int} (h0 : 0 < r) (h1 : r < q) : 2 * q.tmod r < q := by
  have e := Int.tmod_add_mul_tdiv q r
  have h2 := (rest_lt (p := q) (q := r) (by omega) h0).2
  have h4 := Int.tmod_nonneg r (show 0 ≤ q by omega)
  have h3 : 1 ≤ q.tdiv r := by
    by_cases c : q.tdiv r < 1
    · have c0 : 0 ≤ q.tdiv r := Int.tdiv_nonneg (by omega) (by omega)
      have c1 : q.tdiv r = 0 := by omega
      rw [c1, Int.mul_zero] at e
      omega
    · omega
  have h5 : r * 1 ≤ r * q.tdiv r := Int.mul_le_mul_of_nonneg_left h3 (by omega)
  omega
theorem ends_ex : ∀ (m : Nat) (p q : Int), 0 ≤ p → 0 ≤ q → q < 2 ^ m → ∃ n R, Ends p q n R ∧ n ≤ 2 * m
  | 0, p, q, h0, h1, h2 => by
    have : q = 0 := by simp at h2; omega
    subst this
    exact ⟨0, p, .nil p, Nat.le_refl _⟩
  | m + 1, p, q, h0, h1, h2 => by
    by_cases c : q = 0
    · subst c; exact ⟨0, p, .nil p, Nat.zero_le _⟩
    obtain ⟨r1, r2⟩ := rest_lt (p := p) (q := q) h0 (by omega)
    by_cases d : p.tmod q = 0
    · exact ⟨1, q, .cons c (by rw [d]; exact .nil q), by omega⟩
    have hh := rest_half (q := q) (r := p.tmod q) (by omega) r2
    obtain ⟨s1, s2⟩ := rest_lt (p := q) (q := p.tmod q) h1 (by omega)
    have hp : (2 : Int) ^ (m + 1) = 2 * 2 ^ m := by rw [Int.pow_succ]; omega
    obtain ⟨n, R, e, hn⟩ := ends_ex m (p.tmod q) (q.tmod (p.tmod q)) r1 s1 (by omega)
    exact ⟨n + 2, R, .cons c (.cons d e), by omega⟩
theorem quo_le {p q : Int} (h0 : 0 ≤ p) (h : 0 < q) : 0 ≤ p.tdiv q ∧ p.tdiv q ≤ p := by
  rw [Int.tdiv_eq_ediv_of_nonneg h0]
  exact ⟨Int.ediv_nonneg h0 (by omega), Int.ediv_le_self q h0⟩
noncomputable def fullR : Code := (Tryz.f47.body).getD .skip
noncomputable def la : Code := lpOf (restn 2 fullR)
noncomputable def tl : Code := tlOf (restn 2 fullR)
theorem rest_eq : restn 2 fullR = .seq (.block 0 (.loop la)) tl := by kernel_rfl
theorem body_eq : Tryz.f47.body = some fullR := by kernel_rfl
noncomputable def fullL : Code := (Tryz.f3.body).getD .skip
noncomputable def laL : Code := lpOf (restn 18 fullL)
noncomputable def tlL : Code := tlOf (restn 18 fullL)
theorem restL_eq : restn 18 fullL = .seq (.block 0 (.loop laL)) tlL := by kernel_rfl
theorem bodyL_eq : Tryz.f3.body = some fullL := by kernel_rfl
noncomputable abbrev fsR : List (Nat × AV) := [(0, .ptr 13627 0), (10, .ptr 14693 0)]
noncomputable abbrev bsP : BL := [(7022, (.map [((.str 1 77), (.ptr 13923 0), 0)] 1)), (7023, (.map [((.str 19 2439265639030268300842157990401791553877467498), (.ptr 7220 0), 0), ((.str 29 3085170664936786167588614718972924591866388410301586339335837578584426), (.ptr 7368 0), 1), ((.str 29 2977327179366744475310567174670984700336777289692309623825572795146602), (.ptr 7477 0), 2), ((.str 40 921438131347674524995356669863897659779420152864154109574888483886346161678995665599280333611370), (.ptr 7588 0), 3), ((.str 29 2977327179366744475310578792928741468592950331792981622238945052352874), (.ptr 7702 0), 4), ((.str 28 11630184294401345606682283003339240975915084228737354846334270988650), (.ptr 7815 0), 5), ((.str 31 202189744697330995387852485397630371027294446829100397077902765524415570282), (.ptr 7912 0), 6), ((.str 26 183890501555036136351903328603364899342229922045770665733546346), (.ptr 8006 0), 7), ((.str 15 594182256714433171583859471190221162), (.ptr 8097 0), 8), ((.str 19 2462787319999361794871408518597065734545105258), (.ptr 8187 0), 9), ((.str 37 56911353679811531822920492603033782110087255578636309514658723732473720363105297718731114), (.ptr 8293 0), 10), ((.str 28 12051447909910759173808661238977857107111767888823090726697178653034), (.ptr 8396 0), 11), ((.str 38 14060030080378334426808655457799320232265086119729716606675995945190890063755479020322840938), (.ptr 8511 0), 12), ((.str 38 14569306542030247732875768419210667608278730874565438596096215620376147580735894642209743210), (.ptr 8609 0), 13), ((.str 35 838043098472257520366253329360822735706660890049674080341799799296269125818196058474), (.ptr 8702 0), 14), ((.str 28 12051447909910278778317482300033197087305720853520054876288643916138), (.ptr 8807 0), 15), ((.str 22 42815343838886881203639546329033052610660173325164906), (.ptr 8906 0), 16), ((.str 36 214539033208897925213755128370838752992305990670598911423725060199978812837976799076714), (.ptr 9018 0), 17), ((.str 30 789803690223817235625993454897404583541813632134065715887439951296881002), (.ptr 9114 0), 18), ((.str 26 183890501555012814945400634590948384637649511452497603397575018), (.ptr 9215 0), 19), ((.str 27 47075968398083285027902446257440240237115773113246055769402925418), (.ptr 9317 0), 20), ((.str 30 762195757917886585679527096405151622096281774544538073876077408773628266), (.ptr 9427 0), 21), ((.str 16 154706541852025644484233205990057992554), (.ptr 9438 0), 22), ((.str 26 183890501555043540957095622503328518117729969598634276033028458), (.ptr 9549 0), 23), ((.str 26 177462528906270532328520934635542489792491443287338843928682858), (.ptr 9641 0), 24), ((.str 28 12051447909911140811364177168575840195048631602135540194265359868266), (.ptr 9748 0), 25), ((.str 16 137483774941304901841256615957136564586), (.ptr 9769 0), 26), ((.str 23 10956966084090815260342509131105871416374185281426186602), (.ptr 9826 0), 27), ((.str 41 235888161625004678398811307485157800903531559133223452051171428016118026562849321940164899390251370), (.ptr 9966 0), 28), ((.str 16 145412635431568811361768410208787652970), (.ptr 9978 0), 29), ((.str 19 2261816869159440624969593107871851903301607786), (.ptr 10066 0), 30), ((.str 38 14569306542031293471471962209605688152784288289213751582725315083544705153644676387098222954), (.ptr 10166 0), 31), ((.str 21 167247436870678459232146883126634948762985622298986), (.ptr 10266 0), 32)] 33)), (7024, (.cells 3 false [] (T.ofList 0 .leaf [(.map 7022), (.map 7023), (.so 14688 0 1 1)]))), (9438, (.cells 8 false [] (T.ofList 0 .leaf [(.int .i64 52), .nils, (.int .i64 33), (.str 16 154706541852025644484233205990057992554), (.str 0 0), .nils, .nils, (.so 9450 0 3 9)]))), (10280, (.map [] 0)), (10281, (.map [] 0)), (10282, (.cells 3 false [] (T.ofList 0 .leaf [(.ptr 7024 0), (.map 10280), (.map 10281)]))), (10283, (.cells 7 false [] (T.ofList 0 .leaf [(.ptr 10277 0), (.ptr 10279 0), (.ptr 7024 0), (.so 10997 0 39 3), .nils, (.bool false), (.bool false)]))), (13623, (.cells 4 false [] (T.ofList 0 .leaf [.nils, .nils, .nils, (.int .i64 0)]))), (13624, (.map [] 0)), (13625, (.map [] 0)), (13626, (.map [] 0)), (13627, (.cells 32 false [] (T.ofList 0 .leaf [(.ptr 7024 0), (.ptr 10282 0), (.ptr 10277 0), (.ptr 10279 0), (.ptr 10283 0), (.ptr 13623 0), .nils, (.map 13624), (.map 13625), .nils, (.int .i64 1), (.int .i64 3), (.int .i64 6), (.int .i64 0), .nilp, (.bool false), (.int .i64 0), (.int .i64 0), (.int .i64 0), (.int .i64 0), (.int .i64 0), (.int .i64 0), (.int .u8 0), (.int .i64 0), (.str 0 0), (.str 0 0), (.bool false), (.int .i64 0), .nils, (.int .i64 0), (.int .i64 0), (.map 13626)]))), (13923, (.cells 8 false [] (T.ofList 0 .leaf [(.int .i64 52), (.sl 13925 0 9 9), (.int .i64 33), (.str 1 77), (.str 16 154706541852025644484233205990057992554), .nils, .nils, (.so 14686 0 1 9)]))), (14217, (.cells 19 true [] (T.ofList 0 .leaf [(.int .u8 3), (.int .u8 61), (.int .u8 27), (.int .u8 153), (.int .u8 0), (.int .u8 14), (.int .u8 26), (.int .u8 27), (.int .u8 112), (.int .u8 61), (.int .u8 27), (.int .u8 59), (.int .u8 28), (.int .u8 60), (.int .u8 167), (.int .u8 255), (.int .u8 244), (.int .u8 26), (.int .u8 172)]))), (14658, (.cells 9 true [] (T.ofList 0 .leaf [(.int .i64 1), (.str 0 0), (.int .i64 0), (.int .i64 1), (.str 0 0), (.int .i64 0), (.int .i64 1), (.str 0 0), (.int .i64 0)]))), (14678, (.cells 9 true [] (T.ofList 0 .leaf [(.int .i64 1), (.str 0 0), (.int .i64 0), (.int .i64 1), (.str 0 0), (.int .i64 0), (.int .i64 1), (.str 0 0), (.int .i64 0)]))), (14681, (.cells 8 true [] (T.ofList 0 .leaf [(.int .i64 255), (.int .i64 2), (.so 14658 0 3 3), .nils, (.int .i64 255), (.int .i64 14), (.so 14678 0 3 3), .nils]))), (14686, (.cells 9 true [] (T.ofList 0 .leaf [(.int .i64 9), (.str 3 6579047), (.str 5 314225281320), (.bool true), (.int .i64 2), (.int .i64 3), (.so 14217 0 19 1), .nils, (.so 14681 0 2 4)]))), (14689, (.cells 2 false [] (T.ofList 0 .leaf [(.oi 0), (.oi 1)])))]
noncomputable abbrev bsB : BS := [(10283, 10283, (.cells 7 false [] (T.ofList 0 .leaf [(.ptr 10277 0), (.ptr 10279 0), (.ptr 7024 0), (.so 10997 0 39 3), .nils, (.bool false), (.bool false)]))), (13623, 13623, (.cells 4 false [] (T.ofList 0 .leaf [(.so 15754 0 3 1), (.so 15755 0 3 1), (.so 15753 0 1 7), (.int .i64 9)]))), (13624, 13624, (.map [((.str 1 77), (.ptr 15742 0), 0), ((.str 16 154706541852025644484233205990057992554), (.ptr 15747 0), 1)] 2)), (13626, 13626, (.map [] 0)), (13627, 13627, (.cells 32 false [] (T.ofList 0 .leaf [(.ptr 7024 0), (.ptr 10282 0), (.ptr 10277 0), (.ptr 10279 0), (.ptr 10283 0), (.ptr 13623 0), (.so 15758 0 1 1), (.map 13624), (.map 13625), .nils, (.int .i64 1), (.int .i64 3), (.int .i64 6), (.int .i64 0), .nilp, (.bool true), (.int .i64 5000), (.int .i64 0), (.int .i64 0), (.int .i64 0), (.int .i64 0), (.int .i64 0), (.int .u8 0), (.int .i64 0), (.str 0 0), (.str 0 0), (.bool false), (.int .i64 0), .nils, (.int .i64 0), (.int .i64 0), (.map 13626)]))), (13923, 13923, (.cells 8 false [] (T.ofList 0 .leaf [(.int .i64 52), (.sl 13925 0 9 9), (.int .i64 33), (.str 1 77), (.str 16 154706541852025644484233205990057992554), .nils, .nils, (.so 14686 0 1 9)]))), (14217, 14217, (.cells 19 true [] (T.ofList 0 .leaf [(.int .u8 3), (.int .u8 61), (.int .u8 27), (.int .u8 153), (.int .u8 0), (.int .u8 14), (.int .u8 26), (.int .u8 27), (.int .u8 112), (.int .u8 61), (.int .u8 27), (.int .u8 59), (.int .u8 28), (.int .u8 60), (.int .u8 167), (.int .u8 255), (.int .u8 244), (.int .u8 26), (.int .u8 172)]))), (14681, 14681, (.cells 8 true [] (T.ofList 0 .leaf [(.int .i64 255), (.int .i64 2), (.so 14658 0 3 3), .nils, (.int .i64 255), (.int .i64 14), (.so 14678 0 3 3), .nils]))), (14686, 14686, (.cells 9 true [] (T.ofList 0 .leaf [(.int .i64 9), (.str 3 6579047), (.str 5 314225281320), (.bool true), (.int .i64 2), (.int .i64 3), (.so 14217 0 19 1), .nils, (.so 14681 0 2 4)]))), (14693, 14693, (.cells 11 false [] (T.ofList 0 .leaf [(.int .i64 0), (.int .i64 0), (.int .u8 0), (.int .i64 0), (.str 0 0), (.str 0 0), (.bool false), (.int .i64 0), .nils, (.int .i64 0), (.int .i64 0)]))), (15742, 15742, (.cells 2 false [] (T.ofList 0 .leaf [(.int .i64 2), (.sl 15746 0 0 0)]))), (15747, 15747, (.cells 2 false [] (T.ofList 0 .leaf [(.int .i64 2), .nils]))), (15753, 15753, (.cells 7 true [] (T.ofList 0 .leaf [(.int .i64 0), (.int .i64 0), (.int .i64 0), (.int .i64 0), (.int .i64 3), (.int .i64 2), (.int .i64 0)]))), (15754, 15754, (.cells 3 true [] (T.ofList 0 .leaf [(.oi 0), (.oi 1), (.int .i64 0)]))), (15755, 15755, (.cells 3 true [] (T.ofList 0 .leaf [(.bool false), (.bool false), (.bool false)]))), (15756, 15756, (.cells 6 false [] (T.ofList 0 .leaf [(.int .i64 0), (.int .i64 0), (.ptr 13923 0), (.int .i64 0), (.int .i64 0), .nilp]))), (15758, 15758, (.cells 1 true [] (T.ofList 0 .leaf [(.ptr 15756 0)])))]
noncomputable abbrev rlB : List (Nat × Nat) := [(14693, 14693), (15742, 15742), (15746, 15746), (15747, 15747), (15753, 15753), (15754, 15754), (15755, 15755), (15756, 15756), (15758, 15758)]
noncomputable abbrev bsS : BS := [(10283, 10283, (.cells 7 false [] (T.ofList 0 .leaf [(.ptr 10277 0), (.ptr 10279 0), (.ptr 7024 0), (.so 10997 0 39 3), .nils, (.bool false), (.bool false)]))), (13623, 13623, (.cells 4 false [] (T.ofList 0 .leaf [(.so 15959 0 3 1), (.so 15960 0 3 1), (.so 15753 0 1 7), (.int .i64 9)]))), (13624, 13624, (.map [((.str 1 77), (.ptr 15742 0), 0), ((.str 16 154706541852025644484233205990057992554), (.ptr 15747 0), 1)] 2)), (13626, 13626, (.map [((.str 11 88446553741510532680592973), (.oi 2), 0)] 1)), (13627, 13627, (.cells 32 false [] (T.ofList 0 .leaf [(.ptr 7024 0), (.ptr 10282 0), (.ptr 10277 0), (.ptr 10279 0), (.ptr 10283 0), (.ptr 13623 0), (.so 15758 0 1 1), (.map 13624), (.map 13625), .nils, (.int .i64 1), (.int .i64 3), (.int .i64 6), (.int .i64 0), .nilp, (.bool true), (.int .i64 5000), (.oi 2), (.int .i64 0), (.int .i64 1), (.int .i64 0), (.int .i64 0), (.int .u8 0), (.int .i64 0), (.str 0 0), (.str 0 0), (.bool false), (.int .i64 0), .nils, (.int .i64 0), (.int .i64 0), (.map 13626)]))), (13923, 13923, (.cells 8 false [] (T.ofList 0 .leaf [(.int .i64 52), (.sl 13925 0 9 9), (.int .i64 33), (.str 1 77), (.str 16 154706541852025644484233205990057992554), .nils, .nils, (.so 14686 0 1 9)]))), (14217, 14217, (.cells 19 true [] (T.ofList 0 .leaf [(.int .u8 3), (.int .u8 61), (.int .u8 27), (.int .u8 153), (.int .u8 0), (.int .u8 14), (.int .u8 26), (.int .u8 27), (.int .u8 112), (.int .u8 61), (.int .u8 27), (.int .u8 59), (.int .u8 28), (.int .u8 60), (.int .u8 167), (.int .u8 255), (.int .u8 244), (.int .u8 26), (.int .u8 172)]))), (14681, 14681, (.cells 8 true [] (T.ofList 0 .leaf [(.int .i64 255), (.int .i64 2), (.so 14658 0 3 3), .nils, (.int .i64 255), (.int .i64 14), (.so 14678 0 3 3), .nils]))), (14686, 14686, (.cells 9 true [] (T.ofList 0 .leaf [(.int .i64 9), (.str 3 6579047), (.str 5 314225281320), (.bool true), (.int .i64 2), (.int .i64 3), (.so 14217 0 19 1), .nils, (.so 14681 0 2 4)]))), (14693, 14693, (.cells 11 false [] (T.ofList 0 .leaf [(.int .i64 0), (.int .i64 0), (.int .u8 0), (.int .i64 0), (.str 0 0), (.str 0 0), (.bool false), (.int .i64 0), .nils, (.int .i64 0), (.int .i64 0)]))), (15742, 15742, (.cells 2 false [] (T.ofList 0 .leaf [(.int .i64 2), (.sl 15746 0 0 0)]))), (15747, 15747, (.cells 2 false [] (T.ofList 0 .leaf [(.int .i64 2), .nils]))), (15753, 15753, (.cells 7 true [] (T.ofList 0 .leaf [(.int .i64 0), (.int .i64 0), (.int .i64 14), (.int .i64 0), (.int .i64 3), (.int .i64 2), (.int .i64 0)]))), (15756, 15756, (.cells 6 false [] (T.ofList 0 .leaf [(.int .i64 0), (.int .i64 0), (.ptr 13923 0), (.int .i64 0), (.int .i64 2), .nilp]))), (15758, 15758, (.cells 1 true [] (T.ofList 0 .leaf [(.ptr 15756 0)]))), (15959, 15959, (.cells 5 true [] (T.ofList 0 .leaf [(.oi 0), (.oi 1)]))), (15960, 15960, (.cells 5 true [] (T.ofList 0 .leaf [(.bool false), (.bool false), (.bool false), (.bool false), (.bool false)])))]
noncomputable abbrev rlS : List (Nat × Nat) := [(14693, 14693), (15742, 15742), (15746, 15746), (15747, 15747), (15753, 15753), (15756, 15756), (15758, 15758), (15959, 15959), (15960, 15960)]
abbrev ivB (x y : Int) : Nat → IntKind × Int
  | 0 => (.i64, x)
  | 1 => (.i64, y)
  | 2 => (.i32, x)
  | 3 => (.i32, y)
  | 4 => (.i64, x.tdiv y)
  | 5 => (.i64, x.tmod y)
  | 6 => (.i32, x.tmod y)
  | _ => (.i64, 0)
abbrev ivS (p q k : Int) : Nat → IntKind × Int
  | 0 => (.i64, p)
  | 1 => (.i64, q)
  | 2 => (.i64, k)
  | 3 => (.i64, k + 1)
  | 4 => (.i64, k + 2)
  | 5 => (.i64, k + 3)
  | 6 => (.i64, k + 4)
  | 7 => (.i64, k + 5)
  | 8 => (.i32, p)
  | 9 => (.i32, q)
  | 10 => (.i64, p.tdiv q)
  | 11 => (.i64, p.tmod q)
  | 12 => (.i32, p.tmod q)
  | 13 => (.i64, k + 6)
  | 14 => (.i64, k + 7)
  | 15 => (.i64, k + 8)
  | 16 => (.i64, k + 9)
  | 17 => (.i64, k + 10)
  | 18 => (.i64, k + 11)
  | _ => (.i64, 0)
theorem ibB {x y : Int} (h1 : 0 ≤ x) (h2 : x < 1073741824) (h3 : 1 ≤ y) (h4 : y < 1073741824) (h5 : 0 ≤ x.tdiv y) (h6 : x.tdiv y ≤ x) (h7 : 0 ≤ x.tmod y) (h8 : x.tmod y < y) : ∀ x_ ∈ ([(9, .oi 1, .int .i64 0, .bool false), (9, .oi 1, .int .i64 (-1), .bool false), (3, .oi 0, .oi 1, .oi 4), (4, .oi 0, .oi 1, .oi 5)] : List BRow), IbOk (ivB x y) x_ := by
  letI := Tab.empty
  exact (ibCons (ibEq (a := (y)) (b := (0)) rfl rfl (decide_eq_false (by omega))) (ibCons (ibEq (a := (y)) (b := (-1)) rfl rfl (decide_eq_false (by omega))) (ibCons (ibQuo (a := (x)) (b := (y)) (c := (x.tdiv y)) rfl rfl rfl (by omega) rfl (by omega) (by omega)) (ibCons (ibRem (a := (x)) (b := (y)) (c := (x.tmod y)) rfl rfl rfl (by omega) rfl) ibNil))))
theorem icB {x y : Int} (h1 : 0 ≤ x) (h2 : x < 1073741824) (h3 : 1 ≤ y) (h4 : y < 1073741824) (h5 : 0 ≤ x.tdiv y) (h6 : x.tdiv y ≤ x) (h7 : 0 ≤ x.tmod y) (h8 : x.tmod y < y) : ∀ x_ ∈ ([(.i32, .oi 0, .oi 2), (.i32, .oi 1, .oi 3), (.i64, .oi 2, .oi 0), (.i64, .oi 3, .oi 1), (.i32, .oi 5, .oi 6), (.i64, .oi 6, .oi 5)] : List (IntKind × AV × AV)), IcOk' (ivB x y) x_ := (icCons (ic32 (n := (x)) rfl rfl (by omega) (by omega)) (icCons (ic32 (n := (y)) rfl rfl (by omega) (by omega)) (icCons (ic64 (n := (x)) rfl rfl (by omega) (by omega)) (icCons (ic64 (n := (y)) rfl rfl (by omega) (by omega)) (icCons (ic32 (n := (x.tmod y)) rfl rfl (by omega) (by omega)) (icCons (ic64 (n := (x.tmod y)) rfl rfl (by omega) (by omega)) icNil))))))
abbrev RB {x y : Int} (h1 : 0 ≤ x) (h2 : x < 1073741824) (h3 : 1 ≤ y) (h4 : y < 1073741824) (h5 : 0 ≤ x.tdiv y) (h6 : x.tdiv y ≤ x) (h7 : 0 ≤ x.tmod y) (h8 : x.tmod y < y) : VRows (ivB x y) noV noK where
  vvp := noVp
  ib := [(9, .oi 1, .int .i64 0, .bool false), (9, .oi 1, .int .i64 (-1), .bool false), (3, .oi 0, .oi 1, .oi 4), (4, .oi 0, .oi 1, .oi 5)]
  ibok := ibB h1 h2 h3 h4 h5 h6 h7 h8
  ic := [(.i32, .oi 0, .oi 2), (.i32, .oi 1, .oi 3), (.i64, .oi 2, .oi 0), (.i64, .oi 3, .oi 1), (.i32, .oi 5, .oi 6), (.i64, .oi 6, .oi 5)]
  icok := icB h1 h2 h3 h4 h5 h6 h7 h8
theorem ibZ {x y : Int} (h3 : y = 0) : ∀ x_ ∈ ([(9, .oi 1, .int .i64 0, .bool true)] : List BRow), IbOk (ivB x y) x_ := by
  letI := Tab.empty
  exact (ibCons (ibEq (a := (y)) (b := (0)) rfl rfl (decide_eq_true (by omega))) ibNil)
theorem icZ {x y : Int} (h3 : y = 0) : ∀ x_ ∈ ([] : List (IntKind × AV × AV)), IcOk' (ivB x y) x_ := icNil
abbrev RZ {x y : Int} (h3 : y = 0) : VRows (ivB x y) noV noK where
  vvp := noVp
  ib := [(9, .oi 1, .int .i64 0, .bool true)]
  ibok := ibZ h3
  ic := []
  icok := icZ h3
theorem ibS {p q k : Int} (h1 : 0 ≤ p) (h2 : p < 1073741824) (h3 : 1 ≤ q) (h4 : q < 1073741824) (h5 : 0 ≤ p.tdiv q) (h6 : p.tdiv q ≤ p) (h7 : 0 ≤ p.tmod q) (h8 : p.tmod q < q) (h9 : 0 ≤ k) (hk : k + 11 < 5000) : ∀ x_ ∈ ([(14, .oi 2, .int .i64 5000, .bool false), (0, .oi 2, .int .i64 1, .oi 3), (14, .oi 3, .int .i64 5000, .bool false), (0, .oi 3, .int .i64 1, .oi 4), (9, .oi 1, .int .i64 0, .bool false), (14, .oi 4, .int .i64 5000, .bool false), (0, .oi 4, .int .i64 1, .oi 5), (14, .oi 5, .int .i64 5000, .bool false), (0, .oi 5, .int .i64 1, .oi 6), (14, .oi 6, .int .i64 5000, .bool false), (0, .oi 6, .int .i64 1, .oi 7), (9, .oi 1, .int .i64 (-1), .bool false), (3, .oi 0, .oi 1, .oi 10), (4, .oi 0, .oi 1, .oi 11), (14, .oi 7, .int .i64 5000, .bool false), (0, .oi 7, .int .i64 1, .oi 13), (14, .oi 13, .int .i64 5000, .bool false), (0, .oi 13, .int .i64 1, .oi 14), (14, .oi 14, .int .i64 5000, .bool false), (0, .oi 14, .int .i64 1, .oi 15), (14, .oi 15, .int .i64 5000, .bool false), (0, .oi 15, .int .i64 1, .oi 16), (14, .oi 16, .int .i64 5000, .bool false), (0, .oi 16, .int .i64 1, .oi 17), (14, .oi 17, .int .i64 5000, .bool false), (0, .oi 17, .int .i64 1, .oi 18)] : List BRow), IbOk (ivS p q k) x_ := by
  letI := Tab.empty
  exact (ibCons (ibGe (a := (k)) (b := (5000)) rfl rfl (decide_eq_false (by omega))) (ibCons (ibAdd (a := (k)) (b := (1)) (c := (k + 1)) rfl rfl rfl (by first | assumption | omega) (by omega) (by omega)) (ibCons (ibGe (a := (k + 1)) (b := (5000)) rfl rfl (decide_eq_false (by omega))) (ibCons (ibAdd (a := (k + 1)) (b := (1)) (c := (k + 2)) rfl rfl rfl (by first | assumption | omega) (by omega) (by omega)) (ibCons (ibEq (a := (q)) (b := (0)) rfl rfl (decide_eq_false (by omega))) (ibCons (ibGe (a := (k + 2)) (b := (5000)) rfl rfl (decide_eq_false (by omega))) (ibCons (ibAdd (a := (k + 2)) (b := (1)) (c := (k + 3)) rfl rfl rfl (by first | assumption | omega) (by omega) (by omega)) (ibCons (ibGe (a := (k + 3)) (b := (5000)) rfl rfl (decide_eq_false (by omega))) (ibCons (ibAdd (a := (k + 3)) (b := (1)) (c := (k + 4)) rfl rfl rfl (by first | assumption | omega) (by omega) (by omega)) (ibCons (ibGe (a := (k + 4)) (b := (5000)) rfl rfl (decide_eq_false (by omega))) (ibCons (ibAdd (a := (k + 4)) (b := (1)) (c := (k + 5)) rfl rfl rfl (by first | assumption | omega) (by omega) (by omega)) (ibCons (ibEq (a := (q)) (b := (-1)) rfl rfl (decide_eq_false (by omega))) (ibCons (ibQuo (a := (p)) (b := (q)) (c := (p.tdiv q)) rfl rfl rfl (by omega) rfl (by omega) (by omega)) (ibCons (ibRem (a := (p)) (b := (q)) (c := (p.tmod q)) rfl rfl rfl (by omega) rfl) (ibCons (ibGe (a := (k + 5)) (b := (5000)) rfl rfl (decide_eq_false (by omega))) (ibCons (ibAdd (a := (k + 5)) (b := (1)) (c := (k + 6)) rfl rfl rfl (by first | assumption | omega) (by omega) (by omega)) (ibCons (ibGe (a := (k + 6)) (b := (5000)) rfl rfl (decide_eq_false (by omega))) (ibCons (ibAdd (a := (k + 6)) (b := (1)) (c := (k + 7)) rfl rfl rfl (by first | assumption | omega) (by omega) (by omega)) (ibCons (ibGe (a := (k + 7)) (b := (5000)) rfl rfl (decide_eq_false (by omega))) (ibCons (ibAdd (a := (k + 7)) (b := (1)) (c := (k + 8)) rfl rfl rfl (by first | assumption | omega) (by omega) (by omega)) (ibCons (ibGe (a := (k + 8)) (b := (5000)) rfl rfl (decide_eq_false (by omega))) (ibCons (ibAdd (a := (k + 8)) (b := (1)) (c := (k + 9)) rfl rfl rfl (by first | assumption | omega) (by omega) (by omega)) (ibCons (ibGe (a := (k + 9)) (b := (5000)) rfl rfl (decide_eq_false (by omega))) (ibCons (ibAdd (a := (k + 9)) (b := (1)) (c := (k + 10)) rfl rfl rfl (by first | assumption | omega) (by omega) (by omega)) (ibCons (ibGe (a := (k + 10)) (b := (5000)) rfl rfl (decide_eq_false (by omega))) (ibCons (ibAdd (a := (k + 10)) (b := (1)) (c := (k + 11)) rfl rfl rfl (by first | assumption | omega) (by omega) (by omega)) ibNil))))))))))))))))))))))))))
theorem icS {p q k : Int} (h1 : 0 ≤ p) (h2 : p < 1073741824) (h3 : 1 ≤ q) (h4 : q < 1073741824) (h5 : 0 ≤ p.tdiv q) (h6 : p.tdiv q ≤ p) (h7 : 0 ≤ p.tmod q) (h8 : p.tmod q < q) (h9 : 0 ≤ k) (hk : k + 11 < 5000) : ∀ x_ ∈ ([(.i32, .oi 0, .oi 8), (.i32, .oi 1, .oi 9), (.i64, .oi 8, .oi 0), (.i64, .oi 9, .oi 1), (.i32, .oi 11, .oi 12), (.i64, .oi 12, .oi 11)] : List (IntKind × AV × AV)), IcOk' (ivS p q k) x_ := (icCons (ic32 (n := (p)) rfl rfl (by omega) (by omega)) (icCons (ic32 (n := (q)) rfl rfl (by omega) (by omega)) (icCons (ic64 (n := (p)) rfl rfl (by omega) (by omega)) (icCons (ic64 (n := (q)) rfl rfl (by omega) (by omega)) (icCons (ic32 (n := (p.tmod q)) rfl rfl (by omega) (by omega)) (icCons (ic64 (n := (p.tmod q)) rfl rfl (by omega) (by omega)) icNil))))))
abbrev RS {p q k : Int} (h1 : 0 ≤ p) (h2 : p < 1073741824) (h3 : 1 ≤ q) (h4 : q < 1073741824) (h5 : 0 ≤ p.tdiv q) (h6 : p.tdiv q ≤ p) (h7 : 0 ≤ p.tmod q) (h8 : p.tmod q < q) (h9 : 0 ≤ k) (hk : k + 11 < 5000) : VRows (ivS p q k) noV noK where
  vvp := noVp
  ib := [(14, .oi 2, .int .i64 5000, .bool false), (0, .oi 2, .int .i64 1, .oi 3), (14, .oi 3, .int .i64 5000, .bool false), (0, .oi 3, .int .i64 1, .oi 4), (9, .oi 1, .int .i64 0, .bool false), (14, .oi 4, .int .i64 5000, .bool false), (0, .oi 4, .int .i64 1, .oi 5), (14, .oi 5, .int .i64 5000, .bool false), (0, .oi 5, .int .i64 1, .oi 6), (14, .oi 6, .int .i64 5000, .bool false), (0, .oi 6, .int .i64 1, .oi 7), (9, .oi 1, .int .i64 (-1), .bool false), (3, .oi 0, .oi 1, .oi 10), (4, .oi 0, .oi 1, .oi 11), (14, .oi 7, .int .i64 5000, .bool false), (0, .oi 7, .int .i64 1, .oi 13), (14, .oi 13, .int .i64 5000, .bool false), (0, .oi 13, .int .i64 1, .oi 14), (14, .oi 14, .int .i64 5000, .bool false), (0, .oi 14, .int .i64 1, .oi 15), (14, .oi 15, .int .i64 5000, .bool false), (0, .oi 15, .int .i64 1, .oi 16), (14, .oi 16, .int .i64 5000, .bool false), (0, .oi 16, .int .i64 1, .oi 17), (14, .oi 17, .int .i64 5000, .bool false), (0, .oi 17, .int .i64 1, .oi 18)]
  ibok := ibS h1 h2 h3 h4 h5 h6 h7 h8 h9 hk
  ic := [(.i32, .oi 0, .oi 8), (.i32, .oi 1, .oi 9), (.i64, .oi 8, .oi 0), (.i64, .oi 9, .oi 1), (.i32, .oi 11, .oi 12), (.i64, .oi 12, .oi 11)]
  icok := icS h1 h2 h3 h4 h5 h6 h7 h8 h9 hk
theorem ibE {p q k : Int} (h3 : q = 0) (h9 : 0 ≤ k) (hk : k + 11 < 5000) : ∀ x_ ∈ ([(14, .oi 2, .int .i64 5000, .bool false), (0, .oi 2, .int .i64 1, .oi 3), (14, .oi 3, .int .i64 5000, .bool false), (0, .oi 3, .int .i64 1, .oi 4), (9, .oi 1, .int .i64 0, .bool true), (14, .oi 4, .int .i64 5000, .bool false), (0, .oi 4, .int .i64 1, .oi 5), (14, .oi 5, .int .i64 5000, .bool false), (0, .oi 5, .int .i64 1, .oi 6)] : List BRow), IbOk (ivS p q k) x_ := by
  letI := Tab.empty
  exact (ibCons (ibGe (a := (k)) (b := (5000)) rfl rfl (decide_eq_false (by omega))) (ibCons (ibAdd (a := (k)) (b := (1)) (c := (k + 1)) rfl rfl rfl (by first | assumption | omega) (by omega) (by omega)) (ibCons (ibGe (a := (k + 1)) (b := (5000)) rfl rfl (decide_eq_false (by omega))) (ibCons (ibAdd (a := (k + 1)) (b := (1)) (c := (k + 2)) rfl rfl rfl (by first | assumption | omega) (by omega) (by omega)) (ibCons (ibEq (a := (q)) (b := (0)) rfl rfl (decide_eq_true (by omega))) (ibCons (ibGe (a := (k + 2)) (b := (5000)) rfl rfl (decide_eq_false (by omega))) (ibCons (ibAdd (a := (k + 2)) (b := (1)) (c := (k + 3)) rfl rfl rfl (by first | assumption | omega) (by omega) (by omega)) (ibCons (ibGe (a := (k + 3)) (b := (5000)) rfl rfl (decide_eq_false (by omega))) (ibCons (ibAdd (a := (k + 3)) (b := (1)) (c := (k + 4)) rfl rfl rfl (by first | assumption | omega) (by omega) (by omega)) ibNil)))))))))
theorem icE {p q k : Int} (h3 : q = 0) (h9 : 0 ≤ k) (hk : k + 11 < 5000) : ∀ x_ ∈ ([] : List (IntKind × AV × AV)), IcOk' (ivS p q k) x_ := icNil
abbrev RE {p q k : Int} (h3 : q = 0) (h9 : 0 ≤ k) (hk : k + 11 < 5000) : VRows (ivS p q k) noV noK where
  vvp := noVp
  ib := [(14, .oi 2, .int .i64 5000, .bool false), (0, .oi 2, .int .i64 1, .oi 3), (14, .oi 3, .int .i64 5000, .bool false), (0, .oi 3, .int .i64 1, .oi 4), (9, .oi 1, .int .i64 0, .bool true), (14, .oi 4, .int .i64 5000, .bool false), (0, .oi 4, .int .i64 1, .oi 5), (14, .oi 5, .int .i64 5000, .bool false), (0, .oi 5, .int .i64 1, .oi 6)]
  ibok := ibE h3 h9 hk
  ic := []
  icok := icE h3 h9 hk
abbrev PB (x y : Int) : Tab := (bare (ivB x y) noV noK noVp).tab
abbrev PS (p q k : Int) : Tab := (bare (ivS p q k) noV noK noVp).tab
abbrev ivE (x y R kk : Int) : Nat → IntKind × Int
  | 0 => (.i64, x)
  | 1 => (.i64, y)
  | 2 => (.i64, R)
  | 3 => (.i64, kk)
  | 4 => (.i32, x)
  | 5 => (.i32, y)
  | _ => (.i64, 0)
theorem ibF {x y R kk : Int} : ∀ x_ ∈ ([(9, .oi 2, .oi 2, .bool true)] : List BRow), IbOk (ivE x y R kk) x_ := by
  letI := Tab.empty
  exact ibCons (ibEq (a := R) (b := R) rfl rfl (decide_eq_true rfl)) ibNil
abbrev RF {x y R kk : Int} (h1 : 0 ≤ x) (h2 : x < 1073741824) (h3 : 0 ≤ y) (h4 : y < 1073741824) : VRows (ivE x y R kk) noV noK where
  vvp := noVp
  ib := [(9, .oi 2, .oi 2, .bool true)]
  ibok := ibF
  ic := [(.i32, .oi 0, .oi 4), (.i64, .oi 4, .oi 0), (.i32, .oi 1, .oi 5), (.i64, .oi 5, .oi 1)]
  icok := icCons (ic32 (n := x) rfl rfl (by omega) (by omega)) (icCons (ic64 (n := x) rfl rfl (by omega) (by omega)) (icCons (ic32 (n := y) rfl rfl (by omega) (by omega)) (icCons (ic64 (n := y) rfl rfl (by omega) (by omega)) icNil)))
abbrev TF {x y : Int} (R kk : Int) (h1 : 0 ≤ x) (h2 : x < 1073741824) (h3 : 0 ≤ y) (h4 : y < 1073741824) : Tab := (RF (R := R) (kk := kk) h1 h2 h3 h4).tab
noncomputable def CR : In := ⟨47, [(.ptr 13627 0), (.str 1 77), (.str 3 6579047), (.sl 14689 0 2 2), (.int .i64 5000)], 14693, bsP, (.agg [(.int .i64 0), (.int .i64 1), (.int .u8 73), (.oi 2), (.str 0 0), (.str 0 0), (.bool false), (.oi 3), .nils, (.int .i64 0), (.int .i64 1)]), 16761, []⟩
theorem hIn_next {N : Nat} {bs : BL} : (hIn N bs).next = N := by unfold hIn; rw [fT_eq]
noncomputable abbrev bsE : BS := [(13627, 13627, (.cells 32 false [] (ofPairs [(15, (.bool false)), (20, (.int .i64 0)), (21, (.int .i64 1)), (22, (.int .u8 73)), (23, (.oi 2)), (24, (.str 0 0)), (25, (.str 0 0)), (26, (.bool false)), (27, (.oi 3)), (28, .nils), (29, (.int .i64 0)), (30, (.int .i64 1))]))), (14693, 14693, (.cells 11 false [] (T.ofList 0 .leaf [(.int .i64 0), (.int .i64 0), (.int .u8 0), (.int .i64 0), (.str 0 0), (.str 0 0), (.bool false), (.int .i64 0), .nils, (.int .i64 0), (.int .i64 0)])))]
noncomputable abbrev bsF : BS := [(14693, 14693, (.cells 11 false [] (T.ofList 0 .leaf [(.int .i64 0), (.int .i64 1), (.int .u8 73), (.oi 2), (.str 0 0), (.str 0 0), (.bool false), (.oi 3), .nils, (.int .i64 0), (.int .i64 1)])))]
section
variable {B : Kp} {w0 : World} {μ : M} {a : Act} {w : World} {x y R kk : Int}
def SB (x y : Int) (B : Kp) (w0 : World) (μ : M) (a : Act) (w : World) : Prop := St (PB x y) B w0 μ Tryz.f47.ntmps (frOf fsR) (hOf 15760 bsB) a w
def SS (p q k : Int) (B : Kp) (w0 : World) (μ : M) (a : Act) (w : World) : Prop := St (PS p q k) B w0 μ Tryz.f47.ntmps (frOf fsR) (hOf 16209 bsS) a w
theorem goB (h1 : 0 ≤ x) (h2 : x < 1073741824) (h3 : 1 ≤ y) (h4 : y < 1073741824) (hb : Base B μ 14693) {Q : Exit → Act → World → Prop} {j : Nat} (s : SB x y B w0 μ a w) (hQ : ∀ a' w', SS y (x.tmod y) 13 B w0 μ a' w' → Code.rounds Tryz.prog la Q j a' w') : Code.rounds Tryz.prog la Q (j + 13) a w := by
  obtain ⟨h5, h6⟩ := quo_le h1 (show 0 < y by omega)
  obtain ⟨h7, h8⟩ := rest_lt h1 (show 0 < y by omega)
  exact stepsTo_sound (T := (RB h1 h2 h3 h4 h5 h6 h7 h8).tab) (T' := PS y (x.tmod y) 13) (K := K_top0) (m := 5000) mixed (@K_top0_ok (RB h1 h2 h3 h4 h5 h6 h7 h8).tab) (C := ⟨14693, 16209, ofPairs rlS, [(.oi 1, 0), (.oi 5, 1), (.int .i64 13, 2)]⟩) (ex := .normal) (rl := rlS) (vp := []) (fs := fsR) (bs := bsS)
    hb (by decide) rfl (by kernel_rfl) (ipCons (ipN (.i64, y) rfl rfl) (ipCons (ipN (.i64, x.tmod y) rfl rfl) (ipCons (ipK rfl) ipNil))) vpNil (glNone rfl rfl) (by as_aux_lemma => kernel_rfl) (St.same (VRows.same _ _) s) hQ
theorem goS {p q k : Int} (h1 : 0 ≤ p) (h2 : p < 1073741824) (h3 : 1 ≤ q) (h4 : q < 1073741824) (h9 : 0 ≤ k) (hk : k + 11 < 5000) (hb : Base B μ 14693) {Q : Exit → Act → World → Prop} {j : Nat} (s : SS p q k B w0 μ a w) (hQ : ∀ a' w', SS q (p.tmod q) (k + 11) B w0 μ a' w' → Code.rounds Tryz.prog la Q j a' w') : Code.rounds Tryz.prog la Q (j + 11) a w := by
  obtain ⟨h5, h6⟩ := quo_le h1 (show 0 < q by omega)
  obtain ⟨h7, h8⟩ := rest_lt h1 (show 0 < q by omega)
  exact stepsTo_sound (T := (RS h1 h2 h3 h4 h5 h6 h7 h8 h9 hk).tab) (T' := PS q (p.tmod q) (k + 11)) (K := K_top0) (m := 5000) mixed (@K_top0_ok (RS h1 h2 h3 h4 h5 h6 h7 h8 h9 hk).tab) (C := ⟨14693, 16209, ofPairs rlS, [(.oi 1, 0), (.oi 11, 1), (.oi 18, 2)]⟩) (ex := .normal) (rl := rlS) (vp := []) (fs := fsR) (bs := bsS)
    hb (by decide) rfl (by kernel_rfl) (ipCons (ipN (.i64, q) rfl rfl) (ipCons (ipN (.i64, p.tmod q) rfl rfl) (ipCons (ipN (.i64, k + 11) rfl rfl) ipNil))) vpNil (glNone rfl rfl) (by as_aux_lemma => kernel_rfl) (St.same (VRows.same _ _) s) hQ
def QE (g1 : 0 ≤ x) (g2 : x < 1073741824) (g3 : 0 ≤ y) (g4 : y < 1073741824) (R kk : Int) (B : Kp) (w0 : World) (μ : M) (e : Exit) (a : Act) (w : World) : Prop := e = .exit 0 ∧ St (TF R kk g1 g2 g3 g4) B w0 μ Tryz.f47.ntmps (frOf fsR) (hOf 16761 bsE) a w
theorem endS (g1 : 0 ≤ x) (g2 : x < 1073741824) (g3 : 0 ≤ y) (g4 : y < 1073741824) (hb : Base B μ 14693) {p q k : Int} (hq : q = 0) (hR : R = p) (h9 : 0 ≤ k) (hk : k + 11 < 5000) (hkk : k + 4 = kk) (s : SS p q k B w0 μ a w) : Code.rounds Tryz.prog la (QE g1 g2 g3 g4 R kk B w0 μ) (0 + 4) a w := by
  refine stepsTo_sound (T := (RE hq h9 hk).tab) (T' := TF R kk g1 g2 g3 g4) (K := K_top0) (m := 5000) mixed (@K_top0_ok (RE (p := p) hq h9 hk).tab) (C := ⟨14693, 16761, ofPairs [(14693, 14693)], [(.oi 0, 2), (.oi 6, 3)]⟩) (ex := .exit 0) (rl := [(14693, 14693)]) (vp := []) (fs := fsR) (bs := bsE)
      hb (by decide) rfl (by kernel_rfl) (ipCons (ipN (.i64, R) (by show (IntKind.i64, p) = _; rw [hR]) rfl) (ipCons (ipN (.i64, kk) (by show (IntKind.i64, k + 4) = _; rw [hkk]) rfl) ipNil)) vpNil (glNone rfl rfl) (by as_aux_lemma => kernel_rfl) (St.same (VRows.same _ _) s) (fun a' w' q => ?_)
  exact ⟨rfl, q⟩
theorem endB (g1 : 0 ≤ x) (g2 : x < 1073741824) (g3 : 0 ≤ y) (g4 : y < 1073741824) (hb : Base B μ 14693) (hy : y = 0) (hR : R = x) (hkk : kk = 6) (s : SB x y B w0 μ a w) : Code.rounds Tryz.prog la (QE g1 g2 g3 g4 R kk B w0 μ) (0 + 6) a w := by
  refine stepsTo_sound (T := (RZ (x := x) hy).tab) (T' := TF R kk g1 g2 g3 g4) (K := K_top0) (m := 5000) mixed (@K_top0_ok (RZ (x := x) hy).tab) (C := ⟨14693, 16761, ofPairs [(14693, 14693)], [(.oi 0, 2), (.int .i64 6, 3)]⟩) (ex := .exit 0) (rl := [(14693, 14693)]) (vp := []) (fs := fsR) (bs := bsE)
      hb (by decide) rfl (by kernel_rfl) (ipCons (ipN (.i64, R) (by show (IntKind.i64, x) = _; rw [hR]) rfl) (ipCons (ipK (by show (IntKind.i64, kk) = _; rw [hkk])) ipNil)) vpNil (glNone rfl rfl) (by as_aux_lemma => kernel_rfl) (St.same (VRows.same _ _) s) (fun a' w' q => ?_)
  exact ⟨rfl, q⟩
theorem roundsS (g1 : 0 ≤ x) (g2 : x < 1073741824) (g3 : 0 ≤ y) (g4 : y < 1073741824) (hb : Base B μ 14693) (n : Nat) : ∀ (p q k : Int) (a : Act) (w : World), Ends p q n R → 0 ≤ p → p < 1073741824 → 0 ≤ q → q < 1073741824 → 0 ≤ k → k + 11 * n + 11 < 5000 → k + 11 * n + 4 = kk → SS p q k B w0 μ a w →
    Code.rounds Tryz.prog la (QE g1 g2 g3 g4 R kk B w0 μ) (11 * n + 4) a w := by
  induction n with
  | zero =>
    intro p q k a w en p0 p1 q0 q1 k0 k1 k2 s
    obtain ⟨e1, e2⟩ := en.zero
    have hz : 11 * 0 + 4 = 0 + 4 := rfl
    rw [hz]
    exact endS g1 g2 g3 g4 hb e1 e2 k0 (by omega) (by omega) s
  | succ n ih =>
    intro p q k a w en p0 p1 q0 q1 k0 k1 k2 s
    obtain ⟨e1, e2⟩ := en.succ
    obtain ⟨r1, r2⟩ := rest_lt (p := p) (q := q) p0 (by omega)
    have hz : 11 * (n + 1) + 4 = (11 * n + 4) + 11 := by omega
    have c1 : 1 ≤ q := by omega
    have c2 : k + 11 < 5000 := by omega
    have c3 : p.tmod q < 1073741824 := by omega
    have c4 : 0 ≤ k + 11 := by omega
    have c5 : k + 11 + 11 * n + 11 < 5000 := by omega
    have c6 : k + 11 + 11 * n + 4 = kk := by omega
    rw [hz]
    exact goS p0 p1 c1 q1 k0 c2 hb s fun a' w' s2 => ih q (p.tmod q) (k + 11) a' w' e2 q0 q1 r1 c3 c4 c5 c6 s2
theorem tailR (g1 : 0 ≤ x) (g2 : x < 1073741824) (g3 : 0 ≤ y) (g4 : y < 1073741824) (hb : Base B μ 14693) (s : St (TF R kk g1 g2 g3 g4) B w0 μ Tryz.f47.ntmps (frOf fsR) (hOf 16761 bsE) a w) : tl.wp Tryz.prog (@Done (TF R kk g1 g2 g3 g4) Tryz.prog Tryz.f47 B w0 μ CR.v (hOf 16761 bsF)) a w := by
  letI : Tab := TF R kk g1 g2 g3 g4
  refine wp_mono (runTo_sound (T := TF R kk g1 g2 g3 g4) (T' := TF R kk g1 g2 g3 g4) (K := K_top0) (n := 5000) mixed (@K_top0_ok (TF R kk g1 g2 g3 g4)) (C := ⟨14693, 16761, ofPairs [(14693, 14693)], [(.oi 2, 2), (.oi 3, 3)]⟩) (ex := .ret) (rl := [(14693, 14693)]) (vp := []) (fs := [(10, .ptr 14693 0)]) (bs := bsF)
    hb (by decide) rfl (by kernel_rfl) (ipCons (ipN _ rfl rfl) (ipCons (ipN _ rfl rfl) ipNil)) vpNil (glNone rfl rfl) (by as_aux_lemma => kernel_rfl) s) ?_
  rintro e' a' w' ⟨rfl, s'⟩
  exact St.done (.inr rfl) (by kernel_rfl) s'
theorem CR_ok (g1 : 0 ≤ x) (g2 : x < 1073741824) (g3 : 0 ≤ y) (g4 : y < 1073741824) {n : Nat} (en : Ends x y n R) (hn : n ≤ 60) (hkk : kk = 6 + 11 * n) : @InOk Tryz.prog CR (TF R kk g1 g2 g3 g4) := by
  letI : Tab := TF R kk g1 g2 g3 g4
  refine ⟨by kernel_rfl, hOf 16761 bsF, ?_, by unfold hOf; rw [fT_eq]; rfl, rfl⟩
  refine callOk_of (fn := Tryz.f47) Tryz.func47 body_eq (by decide +kernel) (by decide) fun B w0 μ a w hb s => ?_
  have hb : Base B μ 14693 := by
    have h := hb
    rw [show (hIn CR.N CR.bs).next = 14693 from hIn_next] at h
    exact h
  refine firstTo_sound (T := TF R kk g1 g2 g3 g4) (T' := PB x y) (K := K_top0) (m := 5000) (n := 2) mixed (@K_top0_ok (TF R kk g1 g2 g3 g4)) (C := ⟨14693, 15760, ofPairs rlB, [(.oi 0, 0), (.oi 1, 1)]⟩) (rl := rlB) (vp := []) (fs := fsR) (bs := bsB)
    hb (by decide) rfl (by kernel_rfl) (ipCons (ipN (.i64, x) rfl rfl) (ipCons (ipN (.i64, y) rfl rfl) ipNil)) vpNil (glNone rfl rfl) (by as_aux_lemma => kernel_rfl) s fun a' w' s' => ?_
  rw [rest_eq]
  have all : ∃ J, Code.rounds Tryz.prog la (QE g1 g2 g3 g4 R kk B w0 μ) J a' w' := by
    cases n with
    | zero =>
      obtain ⟨e1, e2⟩ := en.zero
      exact ⟨_, endB g1 g2 g3 g4 hb e1 e2 (by omega) s'⟩
    | succ n =>
      obtain ⟨e1, e2⟩ := en.succ
      obtain ⟨r1, r2⟩ := rest_lt (p := x) (q := y) g1 (by omega)
      exact ⟨_, goB g1 g2 (by omega) g4 hb s' fun a2 w2 s2 => roundsS g1 g2 g3 g4 hb n y (x.tmod y) 13 a2 w2 e2 g3 g4 r1 (by omega) (by omega) (by omega) (by omega) s2⟩
  obtain ⟨J, hJ⟩ := all
  refine wp_seq (wp_block (wp_mono (wp_loop_rounds J hJ) ?_))
  rintro e2 a2 w2 ⟨rfl, s2⟩
  exact tailR g1 g2 g3 g4 hb s2
noncomputable abbrev bsL : BS := [(7022, 7022, (.map [((.str 1 77), (.ptr 13923 0), 0)] 1)), (7023, 7023, (.map [((.str 19 2439265639030268300842157990401791553877467498), (.ptr 7220 0), 0), ((.str 29 3085170664936786167588614718972924591866388410301586339335837578584426), (.ptr 7368 0), 1), ((.str 29 2977327179366744475310567174670984700336777289692309623825572795146602), (.ptr 7477 0), 2), ((.str 40 921438131347674524995356669863897659779420152864154109574888483886346161678995665599280333611370), (.ptr 7588 0), 3), ((.str 29 2977327179366744475310578792928741468592950331792981622238945052352874), (.ptr 7702 0), 4), ((.str 28 11630184294401345606682283003339240975915084228737354846334270988650), (.ptr 7815 0), 5), ((.str 31 202189744697330995387852485397630371027294446829100397077902765524415570282), (.ptr 7912 0), 6), ((.str 26 183890501555036136351903328603364899342229922045770665733546346), (.ptr 8006 0), 7), ((.str 15 594182256714433171583859471190221162), (.ptr 8097 0), 8), ((.str 19 2462787319999361794871408518597065734545105258), (.ptr 8187 0), 9), ((.str 37 56911353679811531822920492603033782110087255578636309514658723732473720363105297718731114), (.ptr 8293 0), 10), ((.str 28 12051447909910759173808661238977857107111767888823090726697178653034), (.ptr 8396 0), 11), ((.str 38 14060030080378334426808655457799320232265086119729716606675995945190890063755479020322840938), (.ptr 8511 0), 12), ((.str 38 14569306542030247732875768419210667608278730874565438596096215620376147580735894642209743210), (.ptr 8609 0), 13), ((.str 35 838043098472257520366253329360822735706660890049674080341799799296269125818196058474), (.ptr 8702 0), 14), ((.str 28 12051447909910278778317482300033197087305720853520054876288643916138), (.ptr 8807 0), 15), ((.str 22 42815343838886881203639546329033052610660173325164906), (.ptr 8906 0), 16), ((.str 36 214539033208897925213755128370838752992305990670598911423725060199978812837976799076714), (.ptr 9018 0), 17), ((.str 30 789803690223817235625993454897404583541813632134065715887439951296881002), (.ptr 9114 0), 18), ((.str 26 183890501555012814945400634590948384637649511452497603397575018), (.ptr 9215 0), 19), ((.str 27 47075968398083285027902446257440240237115773113246055769402925418), (.ptr 9317 0), 20), ((.str 30 762195757917886585679527096405151622096281774544538073876077408773628266), (.ptr 9427 0), 21), ((.str 16 154706541852025644484233205990057992554), (.ptr 9438 0), 22), ((.str 26 183890501555043540957095622503328518117729969598634276033028458), (.ptr 9549 0), 23), ((.str 26 177462528906270532328520934635542489792491443287338843928682858), (.ptr 9641 0), 24), ((.str 28 12051447909911140811364177168575840195048631602135540194265359868266), (.ptr 9748 0), 25), ((.str 16 137483774941304901841256615957136564586), (.ptr 9769 0), 26), ((.str 23 10956966084090815260342509131105871416374185281426186602), (.ptr 9826 0), 27), ((.str 41 235888161625004678398811307485157800903531559133223452051171428016118026562849321940164899390251370), (.ptr 9966 0), 28), ((.str 16 145412635431568811361768410208787652970), (.ptr 9978 0), 29), ((.str 19 2261816869159440624969593107871851903301607786), (.ptr 10066 0), 30), ((.str 38 14569306542031293471471962209605688152784288289213751582725315083544705153644676387098222954), (.ptr 10166 0), 31), ((.str 21 167247436870678459232146883126634948762985622298986), (.ptr 10266 0), 32)] 33)), (7024, 7024, (.cells 3 false [] (T.ofList 0 .leaf [(.map 7022), (.map 7023), (.so 14688 0 1 1)]))), (9438, 9438, (.cells 8 false [] (T.ofList 0 .leaf [(.int .i64 52), .nils, (.int .i64 33), (.str 16 154706541852025644484233205990057992554), (.str 0 0), .nils, .nils, (.so 9450 0 3 9)]))), (10280, 10280, (.map [] 0)), (10281, 10281, (.map [] 0)), (10282, 10282, (.cells 3 false [] (T.ofList 0 .leaf [(.ptr 7024 0), (.map 10280), (.map 10281)]))), (10283, 10283, (.cells 7 false [] (T.ofList 0 .leaf [(.ptr 10277 0), (.ptr 10279 0), (.ptr 7024 0), (.so 10997 0 39 3), .nils, (.bool false), (.bool false)]))), (13623, 13623, (.cells 4 false [] (T.ofList 0 .leaf [.nils, .nils, .nils, (.int .i64 0)]))), (13624, 13624, (.map [] 0)), (13625, 13625, (.map [] 0)), (13626, 13626, (.map [] 0)), (13627, 13627, (.cells 32 false [] (T.ofList 0 .leaf [(.ptr 7024 0), (.ptr 10282 0), (.ptr 10277 0), (.ptr 10279 0), (.ptr 10283 0), (.ptr 13623 0), .nils, (.map 13624), (.map 13625), .nils, (.int .i64 1), (.int .i64 3), (.int .i64 6), (.int .i64 0), .nilp, (.bool false), (.int .i64 0), (.int .i64 0), (.int .i64 0), (.int .i64 0), (.int .i64 0), (.int .i64 0), (.int .u8 0), (.int .i64 0), (.str 0 0), (.str 0 0), (.bool false), (.int .i64 0), .nils, (.int .i64 0), (.int .i64 0), (.map 13626)]))), (13848, 13848, (.cells 2 false [] (T.ofList 0 .leaf [(.ptr 7024 0), (.ptr 13627 0)]))), (13849, 13849, (.cells 2 false [] (T.ofList 0 .leaf [(.ptr 13848 0), (.bool true)]))), (13923, 13923, (.cells 8 false [] (T.ofList 0 .leaf [(.int .i64 52), (.sl 13925 0 9 9), (.int .i64 33), (.str 1 77), (.str 16 154706541852025644484233205990057992554), .nils, .nils, (.so 14686 0 1 9)]))), (14217, 14217, (.cells 19 true [] (T.ofList 0 .leaf [(.int .u8 3), (.int .u8 61), (.int .u8 27), (.int .u8 153), (.int .u8 0), (.int .u8 14), (.int .u8 26), (.int .u8 27), (.int .u8 112), (.int .u8 61), (.int .u8 27), (.int .u8 59), (.int .u8 28), (.int .u8 60), (.int .u8 167), (.int .u8 255), (.int .u8 244), (.int .u8 26), (.int .u8 172)]))), (14658, 14658, (.cells 9 true [] (T.ofList 0 .leaf [(.int .i64 1), (.str 0 0), (.int .i64 0), (.int .i64 1), (.str 0 0), (.int .i64 0), (.int .i64 1), (.str 0 0), (.int .i64 0)]))), (14678, 14678, (.cells 9 true [] (T.ofList 0 .leaf [(.int .i64 1), (.str 0 0), (.int .i64 0), (.int .i64 1), (.str 0 0), (.int .i64 0), (.int .i64 1), (.str 0 0), (.int .i64 0)]))), (14681, 14681, (.cells 8 true [] (T.ofList 0 .leaf [(.int .i64 255), (.int .i64 2), (.so 14658 0 3 3), .nils, (.int .i64 255), (.int .i64 14), (.so 14678 0 3 3), .nils]))), (14686, 14686, (.cells 9 true [] (T.ofList 0 .leaf [(.int .i64 9), (.str 3 6579047), (.str 5 314225281320), (.bool true), (.int .i64 2), (.int .i64 3), (.so 14217 0 19 1), .nils, (.so 14681 0 2 4)])))]
noncomputable abbrev rlL : List (Nat × Nat) := [(7022, 7022), (7023, 7023), (7024, 7024), (7220, 7220), (7368, 7368), (7477, 7477), (7588, 7588), (7702, 7702), (7815, 7815), (7912, 7912), (8006, 8006), (8097, 8097), (8187, 8187), (8293, 8293), (8396, 8396), (8511, 8511), (8609, 8609), (8702, 8702), (8807, 8807), (8906, 8906), (9018, 9018), (9114, 9114), (9215, 9215), (9317, 9317), (9427, 9427), (9438, 9438), (9450, 9450), (9549, 9549), (9641, 9641), (9748, 9748), (9769, 9769), (9826, 9826), (9966, 9966), (9978, 9978), (10066, 10066), (10166, 10166), (10266, 10266), (10277, 10277), (10279, 10279), (10280, 10280), (10281, 10281), (10282, 10282), (10283, 10283), (10997, 10997), (13623, 13623), (13624, 13624), (13625, 13625), (13626, 13626), (13627, 13627), (13848, 13848), (13849, 13849), (13923, 13923), (13925, 13925), (14217, 14217), (14658, 14658), (14678, 14678), (14681, 14681), (14686, 14686), (14688, 14688)]
noncomputable abbrev fsL : List (Nat × AV) := [(0, .oi 0), (1, .oi 1), (5, .bool true), (10, .ptr 13849 0), (11, .oi 2), (12, .oi 3)]
noncomputable abbrev fsM : List (Nat × AV) := [(0, .oi 0), (1, .oi 1), (5, .bool true), (10, .ptr 13849 0), (11, .oi 2)]
abbrev ivL (x y p q : Int) : Nat → IntKind × Int
  | 0 => (.i64, x)
  | 1 => (.i64, y)
  | 2 => (.i64, p)
  | 3 => (.i64, q)
  | 4 => (.i64, p.tmod q)
  | _ => (.i64, 0)
abbrev PL (x y p q : Int) : Tab := (bare (ivL x y p q) noV noK noVp).tab
abbrev RL {x y p q : Int} (h : q ≠ 0) : VRows (ivL x y p q) noV noK where
  vvp := noVp
  ib := [(10, .oi 3, .int .i64 0, .bool true), (4, .oi 2, .oi 3, .oi 4)]
  ibok := by
    letI := Tab.empty
    exact ibCons (ibNe (a := q) (b := 0) rfl rfl (decide_eq_false h)) (ibCons (ibRem (a := p) (b := q) (c := p.tmod q) rfl rfl rfl h rfl) ibNil)
abbrev RM {x y p q : Int} (h : q = 0) : VRows (ivL x y p q) noV noK where
  vvp := noVp
  ib := [(10, .oi 3, .int .i64 0, .bool false)]
  ibok := by
    letI := Tab.empty
    exact ibCons (ibNe (a := q) (b := 0) rfl rfl (decide_eq_true h)) ibNil
noncomputable abbrev NL : Nat := Tryz.f3.ntmps
def SL (x y p q : Int) (w0 : World) (a : Act) (w : World) : Prop := St (PL x y p q) (Kp.below w0.heap.size) w0 (fun _ => none) NL (frOf fsL) (hOf 14689 bsL) a w
theorem goL {p q : Int} (h : q ≠ 0) {Q : Exit → Act → World → Prop} {j : Nat} (s : SL x y p q w0 a w) (hQ : ∀ a' w', SL x y q (p.tmod q) w0 a' w' → Code.rounds Tryz.prog laL Q j a' w') : Code.rounds Tryz.prog laL Q (j + 1) a w :=
  stepsTo_sound (T := (RL (x := x) (y := y) (p := p) h).tab) (T' := PL x y q (p.tmod q)) (K := Hand.none) (m := 100) mixed (@HandOk.none (RL (x := x) (y := y) (p := p) h).tab Tryz.prog) (C := ⟨0, 14689, ofPairs rlL, [(.oi 0, 0), (.oi 1, 1), (.oi 3, 2), (.oi 4, 3)]⟩) (ex := .normal) (rl := rlL) (vp := []) (fs := fsL) (bs := bsL)
    (Base.none _) (Nat.zero_le _) rfl (by kernel_rfl) (ipCons (ipN (.i64, x) rfl rfl) (ipCons (ipN (.i64, y) rfl rfl) (ipCons (ipN (.i64, q) rfl rfl) (ipCons (ipN (.i64, p.tmod q) rfl rfl) ipNil)))) vpNil (glNone rfl rfl) (by as_aux_lemma => kernel_rfl) (St.same (VRows.same _ _) s) hQ
def QL (g1 : 0 ≤ x) (g2 : x < 1073741824) (g3 : 0 ≤ y) (g4 : y < 1073741824) (R kk : Int) (w0 : World) (e : Exit) (a : Act) (w : World) : Prop := e = .exit 0 ∧ St (TF R kk g1 g2 g3 g4) (Kp.below w0.heap.size) w0 (fun _ => none) NL (frOf fsM) (hOf 14689 bsL) a w
theorem endL (g1 : 0 ≤ x) (g2 : x < 1073741824) (g3 : 0 ≤ y) (g4 : y < 1073741824) {p q : Int} (h : q = 0) (hR : R = p) (s : SL x y p q w0 a w) : Code.rounds Tryz.prog laL (QL g1 g2 g3 g4 R kk w0) (0 + 1) a w := by
  refine stepsTo_sound (T := (RM (x := x) (y := y) (p := p) h).tab) (T' := TF R kk g1 g2 g3 g4) (K := Hand.none) (m := 100) mixed (@HandOk.none (RM (x := x) (y := y) (p := p) h).tab Tryz.prog) (C := ⟨0, 14689, ofPairs rlL, [(.oi 0, 0), (.oi 1, 1), (.oi 2, 2)]⟩) (ex := .exit 0) (rl := rlL) (vp := []) (fs := fsM) (bs := bsL)
    (Base.none _) (Nat.zero_le _) rfl (by kernel_rfl) (ipCons (ipN (.i64, x) rfl rfl) (ipCons (ipN (.i64, y) rfl rfl) (ipCons (ipN (.i64, R) (by show (IntKind.i64, p) = _; rw [hR]) rfl) ipNil))) vpNil (glNone rfl rfl) (by as_aux_lemma => kernel_rfl) (St.same (VRows.same _ _) s) (fun a' w' q => ?_)
  exact ⟨rfl, q⟩
theorem roundsL (g1 : 0 ≤ x) (g2 : x < 1073741824) (g3 : 0 ≤ y) (g4 : y < 1073741824) (n : Nat) : ∀ (p q : Int) (a : Act) (w : World), Ends p q n R → SL x y p q w0 a w → Code.rounds Tryz.prog laL (QL g1 g2 g3 g4 R kk w0) (n + 1) a w := by
  induction n with
  | zero =>
    intro p q a w en s
    obtain ⟨e1, e2⟩ := en.zero
    exact endL g1 g2 g3 g4 e1 e2 s
  | succ n ih =>
    intro p q a w en s
    obtain ⟨e1, e2⟩ := en.succ
    exact goL e1 s fun a' w' s2 => ih q (p.tmod q) a' w' e2 s2
theorem runL (g1 : 0 ≤ x) (g2 : x < 1073741824) (g3 : 0 ≤ y) (g4 : y < 1073741824) : runTrue (TF R kk g1 g2 g3 g4) Tryz.prog ((inHand CR).or K_top0) 5000 Tryz.f3 tlL (frOf fsM) (hOf 14689 bsL) = true := (by as_aux_lemma => kernel_rfl)
theorem backL (g1 : 0 ≤ x) (g2 : x < 1073741824) (g3 : 0 ≤ y) (g4 : y < 1073741824) (s : SL x y x y w0 a w) : (restn 18 fullL).wp Tryz.prog (Yes Tryz.prog Tryz.f3 (Kp.below w0.heap.size) w0) a w := by
  obtain ⟨n, R, en, hn⟩ := ends_ex 30 x y g1 g3 (by exact g4)
  rw [restL_eq]
  refine wp_seq (wp_block (wp_mono (wp_loop_rounds (n + 1) (roundsL (kk := 6 + 11 * n) g1 g2 g3 g4 n x y a w en s)) ?_))
  rintro e2 a2 w2 ⟨rfl, s2⟩
  letI : Tab := TF R (6 + 11 * n) g1 g2 g3 g4
  exact runTrue_sound (T := TF R (6 + 11 * n) g1 g2 g3 g4) mixed (HandOk.or (inHand_ok (CR_ok g1 g2 g3 g4 en (by omega) rfl) (by kernel_rfl)) K_top0_ok) (runL g1 g2 g3 g4) s2
abbrev ivT (m n x y r t : Int) : Nat → IntKind × Int
  | 0 => (.i64, m)
  | 1 => (.i64, n)
  | 2 => (.i64, x)
  | 3 => (.i64, y)
  | 4 => (.i64, r)
  | 5 => (.i64, t)
  | _ => (.i64, 0)
theorem ibTpp {m n x y r t : Int} (hx : m.tmod 1073741824 = x) (hy : n.tmod 1073741824 = y) (g1 : 0 ≤ x) (g2 : x < 1073741824) (g3 : 0 ≤ y) (g4 : y < 1073741824) (e1 : r = -x) (e2 : t = -y) (c1 : r < 0 ∨ 0 ≤ r) : ∀ x_ ∈ ([(4, .oi 0, .int .i64 1073741824, .oi 2), (11, .oi 2, .int .i64 0, .bool false), (4, .oi 1, .int .i64 1073741824, .oi 3), (11, .oi 3, .int .i64 0, .bool false)] : List BRow), IbOk (ivT m n x y r t) x_ := by
  letI := Tab.empty
  exact (ibCons (ibRem (a := m) (b := 1073741824) (c := x) rfl rfl rfl (by decide) hx) (ibCons (ibLt (a := x) (b := 0) rfl rfl (decide_eq_false (by omega))) (ibCons (ibRem (a := n) (b := 1073741824) (c := y) rfl rfl rfl (by decide) hy) (ibCons (ibLt (a := y) (b := 0) rfl rfl (decide_eq_false (by omega))) ibNil))))
abbrev RTpp {m n x y r t : Int} (hx : m.tmod 1073741824 = x) (hy : n.tmod 1073741824 = y) (g1 : 0 ≤ x) (g2 : x < 1073741824) (g3 : 0 ≤ y) (g4 : y < 1073741824) (e1 : r = -x) (e2 : t = -y) (c1 : r < 0 ∨ 0 ≤ r) : VRows (ivT m n x y r t) noV noK where
  vvp := noVp
  ib := [(4, .oi 0, .int .i64 1073741824, .oi 2), (11, .oi 2, .int .i64 0, .bool false), (4, .oi 1, .int .i64 1073741824, .oi 3), (11, .oi 3, .int .i64 0, .bool false)]
  ibok := ibTpp hx hy g1 g2 g3 g4 e1 e2 c1
abbrev TTpp {m n x y r t : Int} (hx : m.tmod 1073741824 = x) (hy : n.tmod 1073741824 = y) (g1 : 0 ≤ x) (g2 : x < 1073741824) (g3 : 0 ≤ y) (g4 : y < 1073741824) (e1 : r = -x) (e2 : t = -y) (c1 : r < 0 ∨ 0 ≤ r) : Tab := (RTpp hx hy g1 g2 g3 g4 e1 e2 c1).tab
theorem yespp {m n x y r t : Int} (hx : m.tmod 1073741824 = x) (hy : n.tmod 1073741824 = y) (g1 : 0 ≤ x) (g2 : x < 1073741824) (g3 : 0 ≤ y) (g4 : y < 1073741824) (e1 : r = -x) (e2 : t = -y) (c1 : r < 0 ∨ 0 ≤ r) (w : World) : Calls Tryz.prog 3 #[.int .i64 m, .int .i64 n] w fun e w' => e = .returned (.bool true) ∧ Below w.heap.size w w' := by
  refine yes_calls Tryz.func3 bodyL_eq w ?_
  have s0 := @St.start (TTpp hx hy g1 g2 g3 g4 e1 e2 c1) [.oi 0, .oi 1] #[.int .i64 m, .int .i64 n] NL w ⟨fun g o a h => (by cases h), fun i m a h => (by cases h)⟩ (@vrels_cons (TTpp hx hy g1 g2 g3 g4 e1 e2 c1) _ _ _ _ _ (by simp only [vrel]; rfl) (@vrels_cons (TTpp hx hy g1 g2 g3 g4 e1 e2 c1) _ _ _ _ _ (by simp only [vrel]; rfl) (by simp [vrels]))) (show 2 ≤ NL by decide +kernel) (show 2 < limit by decide)
  refine firstTo_sound (T := (TTpp hx hy g1 g2 g3 g4 e1 e2 c1)) (T' := PL x y x y) (K := K_top0) (m := 5000) (n := 18) mixed (@K_top0_ok (TTpp hx hy g1 g2 g3 g4 e1 e2 c1)) (C := ⟨0, 14689, ofPairs rlL, [(.oi 2, 0), (.oi 3, 1), (.oi 2, 2), (.oi 3, 3)]⟩) (rl := rlL) (vp := []) (fs := fsL) (bs := bsL)
    (Base.none _) (Nat.zero_le _) rfl (by kernel_rfl) (ipCons (ipN (.i64, x) rfl rfl) (ipCons (ipN (.i64, y) rfl rfl) (ipCons (ipN (.i64, x) rfl rfl) (ipCons (ipN (.i64, y) rfl rfl) ipNil)))) vpNil (glNone rfl rfl) (by as_aux_lemma => kernel_rfl) s0 fun a' w' s => ?_
  exact backL g1 g2 g3 g4 s
theorem ibTpn {m n x y r t : Int} (hx : m.tmod 1073741824 = x) (hy : n.tmod 1073741824 = t) (g1 : 0 ≤ x) (g2 : x < 1073741824) (g3 : 0 ≤ y) (g4 : y < 1073741824) (e1 : r = -x) (e2 : t = -y) (c1 : r < 0 ∨ 0 ≤ r) (n2 : t < 0) : ∀ x_ ∈ ([(4, .oi 0, .int .i64 1073741824, .oi 2), (11, .oi 2, .int .i64 0, .bool false), (4, .oi 1, .int .i64 1073741824, .oi 5), (11, .oi 5, .int .i64 0, .bool true)] : List BRow), IbOk (ivT m n x y r t) x_ := by
  letI := Tab.empty
  exact (ibCons (ibRem (a := m) (b := 1073741824) (c := x) rfl rfl rfl (by decide) hx) (ibCons (ibLt (a := x) (b := 0) rfl rfl (decide_eq_false (by omega))) (ibCons (ibRem (a := n) (b := 1073741824) (c := t) rfl rfl rfl (by decide) hy) (ibCons (ibLt (a := t) (b := 0) rfl rfl (decide_eq_true (by omega))) ibNil))))
abbrev RTpn {m n x y r t : Int} (hx : m.tmod 1073741824 = x) (hy : n.tmod 1073741824 = t) (g1 : 0 ≤ x) (g2 : x < 1073741824) (g3 : 0 ≤ y) (g4 : y < 1073741824) (e1 : r = -x) (e2 : t = -y) (c1 : r < 0 ∨ 0 ≤ r) (n2 : t < 0) : VRows (ivT m n x y r t) noV noK where
  vvp := noVp
  ib := [(4, .oi 0, .int .i64 1073741824, .oi 2), (11, .oi 2, .int .i64 0, .bool false), (4, .oi 1, .int .i64 1073741824, .oi 5), (11, .oi 5, .int .i64 0, .bool true)]
  ibok := ibTpn hx hy g1 g2 g3 g4 e1 e2 c1 n2
theorem iuTpn {m n x y r t : Int} (hx : m.tmod 1073741824 = x) (hy : n.tmod 1073741824 = t) (g1 : 0 ≤ x) (g2 : x < 1073741824) (g3 : 0 ≤ y) (g4 : y < 1073741824) (e1 : r = -x) (e2 : t = -y) (c1 : r < 0 ∨ 0 ≤ r) (n2 : t < 0) : ∀ q ∈ ([(0, .oi 5, .oi 3)] : List (Nat × AV × AV)), ∀ op, ucode op = q.1 → ∃ k n_ v, denI (ivT m n x y r t) q.2.1 = some (k, n_) ∧ unI op k n_ = some v ∧ outI (ivT m n x y r t) q.2.2 v := fun q hq op hop => by
  simp only [List.mem_cons, List.not_mem_nil, or_false] at hq
  subst hq
  · have : op = .neg := by cases op <;> simp [ucode] at hop; rfl
    subst this
    exact ⟨.i64, t, .int .i64 (IntKind.i64.wrap (0 - t)), rfl, rfl, by rw [wrap64 (by omega) (by omega)]; show some (IntKind.i64, y) = some (IntKind.i64, 0 - t); congr 2; omega⟩
abbrev TTpn {m n x y r t : Int} (hx : m.tmod 1073741824 = x) (hy : n.tmod 1073741824 = t) (g1 : 0 ≤ x) (g2 : x < 1073741824) (g3 : 0 ≤ y) (g4 : y < 1073741824) (e1 : r = -x) (e2 : t = -y) (c1 : r < 0 ∨ 0 ≤ r) (n2 : t < 0) : Tab := { (RTpn hx hy g1 g2 g3 g4 e1 e2 c1 n2).tab with
  iu := [(0, .oi 5, .oi 3)]
  iuok := iuTpn hx hy g1 g2 g3 g4 e1 e2 c1 n2 }
theorem yespn {m n x y r t : Int} (hx : m.tmod 1073741824 = x) (hy : n.tmod 1073741824 = t) (g1 : 0 ≤ x) (g2 : x < 1073741824) (g3 : 0 ≤ y) (g4 : y < 1073741824) (e1 : r = -x) (e2 : t = -y) (c1 : r < 0 ∨ 0 ≤ r) (n2 : t < 0) (w : World) : Calls Tryz.prog 3 #[.int .i64 m, .int .i64 n] w fun e w' => e = .returned (.bool true) ∧ Below w.heap.size w w' := by
  refine yes_calls Tryz.func3 bodyL_eq w ?_
  have s0 := @St.start (TTpn hx hy g1 g2 g3 g4 e1 e2 c1 n2) [.oi 0, .oi 1] #[.int .i64 m, .int .i64 n] NL w ⟨fun g o a h => (by cases h), fun i m a h => (by cases h)⟩ (@vrels_cons (TTpn hx hy g1 g2 g3 g4 e1 e2 c1 n2) _ _ _ _ _ (by simp only [vrel]; rfl) (@vrels_cons (TTpn hx hy g1 g2 g3 g4 e1 e2 c1 n2) _ _ _ _ _ (by simp only [vrel]; rfl) (by simp [vrels]))) (show 2 ≤ NL by decide +kernel) (show 2 < limit by decide)
  refine firstTo_sound (T := (TTpn hx hy g1 g2 g3 g4 e1 e2 c1 n2)) (T' := PL x y x y) (K := K_top0) (m := 5000) (n := 18) mixed (@K_top0_ok (TTpn hx hy g1 g2 g3 g4 e1 e2 c1 n2)) (C := ⟨0, 14689, ofPairs rlL, [(.oi 2, 0), (.oi 3, 1), (.oi 2, 2), (.oi 3, 3)]⟩) (rl := rlL) (vp := []) (fs := fsL) (bs := bsL)
    (Base.none _) (Nat.zero_le _) rfl (by kernel_rfl) (ipCons (ipN (.i64, x) rfl rfl) (ipCons (ipN (.i64, y) rfl rfl) (ipCons (ipN (.i64, x) rfl rfl) (ipCons (ipN (.i64, y) rfl rfl) ipNil)))) vpNil (glNone rfl rfl) (by as_aux_lemma => kernel_rfl) s0 fun a' w' s => ?_
  exact backL g1 g2 g3 g4 s
theorem ibTnp {m n x y r t : Int} (hx : m.tmod 1073741824 = r) (hy : n.tmod 1073741824 = y) (g1 : 0 ≤ x) (g2 : x < 1073741824) (g3 : 0 ≤ y) (g4 : y < 1073741824) (e1 : r = -x) (e2 : t = -y) (c1 : r < 0 ∨ 0 ≤ r) (n1 : r < 0) : ∀ x_ ∈ ([(4, .oi 0, .int .i64 1073741824, .oi 4), (11, .oi 4, .int .i64 0, .bool true), (4, .oi 1, .int .i64 1073741824, .oi 3), (11, .oi 3, .int .i64 0, .bool false)] : List BRow), IbOk (ivT m n x y r t) x_ := by
  letI := Tab.empty
  exact (ibCons (ibRem (a := m) (b := 1073741824) (c := r) rfl rfl rfl (by decide) hx) (ibCons (ibLt (a := r) (b := 0) rfl rfl (decide_eq_true (by omega))) (ibCons (ibRem (a := n) (b := 1073741824) (c := y) rfl rfl rfl (by decide) hy) (ibCons (ibLt (a := y) (b := 0) rfl rfl (decide_eq_false (by omega))) ibNil))))
abbrev RTnp {m n x y r t : Int} (hx : m.tmod 1073741824 = r) (hy : n.tmod 1073741824 = y) (g1 : 0 ≤ x) (g2 : x < 1073741824) (g3 : 0 ≤ y) (g4 : y < 1073741824) (e1 : r = -x) (e2 : t = -y) (c1 : r < 0 ∨ 0 ≤ r) (n1 : r < 0) : VRows (ivT m n x y r t) noV noK where
  vvp := noVp
  ib := [(4, .oi 0, .int .i64 1073741824, .oi 4), (11, .oi 4, .int .i64 0, .bool true), (4, .oi 1, .int .i64 1073741824, .oi 3), (11, .oi 3, .int .i64 0, .bool false)]
  ibok := ibTnp hx hy g1 g2 g3 g4 e1 e2 c1 n1
theorem iuTnp {m n x y r t : Int} (hx : m.tmod 1073741824 = r) (hy : n.tmod 1073741824 = y) (g1 : 0 ≤ x) (g2 : x < 1073741824) (g3 : 0 ≤ y) (g4 : y < 1073741824) (e1 : r = -x) (e2 : t = -y) (c1 : r < 0 ∨ 0 ≤ r) (n1 : r < 0) : ∀ q ∈ ([(0, .oi 4, .oi 2)] : List (Nat × AV × AV)), ∀ op, ucode op = q.1 → ∃ k n_ v, denI (ivT m n x y r t) q.2.1 = some (k, n_) ∧ unI op k n_ = some v ∧ outI (ivT m n x y r t) q.2.2 v := fun q hq op hop => by
  simp only [List.mem_cons, List.not_mem_nil, or_false] at hq
  subst hq
  · have : op = .neg := by cases op <;> simp [ucode] at hop; rfl
    subst this
    exact ⟨.i64, r, .int .i64 (IntKind.i64.wrap (0 - r)), rfl, rfl, by rw [wrap64 (by omega) (by omega)]; show some (IntKind.i64, x) = some (IntKind.i64, 0 - r); congr 2; omega⟩
abbrev TTnp {m n x y r t : Int} (hx : m.tmod 1073741824 = r) (hy : n.tmod 1073741824 = y) (g1 : 0 ≤ x) (g2 : x < 1073741824) (g3 : 0 ≤ y) (g4 : y < 1073741824) (e1 : r = -x) (e2 : t = -y) (c1 : r < 0 ∨ 0 ≤ r) (n1 : r < 0) : Tab := { (RTnp hx hy g1 g2 g3 g4 e1 e2 c1 n1).tab with
  iu := [(0, .oi 4, .oi 2)]
  iuok := iuTnp hx hy g1 g2 g3 g4 e1 e2 c1 n1 }
theorem yesnp {m n x y r t : Int} (hx : m.tmod 1073741824 = r) (hy : n.tmod 1073741824 = y) (g1 : 0 ≤ x) (g2 : x < 1073741824) (g3 : 0 ≤ y) (g4 : y < 1073741824) (e1 : r = -x) (e2 : t = -y) (c1 : r < 0 ∨ 0 ≤ r) (n1 : r < 0) (w : World) : Calls Tryz.prog 3 #[.int .i64 m, .int .i64 n] w fun e w' => e = .returned (.bool true) ∧ Below w.heap.size w w' := by
  refine yes_calls Tryz.func3 bodyL_eq w ?_
  have s0 := @St.start (TTnp hx hy g1 g2 g3 g4 e1 e2 c1 n1) [.oi 0, .oi 1] #[.int .i64 m, .int .i64 n] NL w ⟨fun g o a h => (by cases h), fun i m a h => (by cases h)⟩ (@vrels_cons (TTnp hx hy g1 g2 g3 g4 e1 e2 c1 n1) _ _ _ _ _ (by simp only [vrel]; rfl) (@vrels_cons (TTnp hx hy g1 g2 g3 g4 e1 e2 c1 n1) _ _ _ _ _ (by simp only [vrel]; rfl) (by simp [vrels]))) (show 2 ≤ NL by decide +kernel) (show 2 < limit by decide)
  refine firstTo_sound (T := (TTnp hx hy g1 g2 g3 g4 e1 e2 c1 n1)) (T' := PL x y x y) (K := K_top0) (m := 5000) (n := 18) mixed (@K_top0_ok (TTnp hx hy g1 g2 g3 g4 e1 e2 c1 n1)) (C := ⟨0, 14689, ofPairs rlL, [(.oi 2, 0), (.oi 3, 1), (.oi 2, 2), (.oi 3, 3)]⟩) (rl := rlL) (vp := []) (fs := fsL) (bs := bsL)
    (Base.none _) (Nat.zero_le _) rfl (by kernel_rfl) (ipCons (ipN (.i64, x) rfl rfl) (ipCons (ipN (.i64, y) rfl rfl) (ipCons (ipN (.i64, x) rfl rfl) (ipCons (ipN (.i64, y) rfl rfl) ipNil)))) vpNil (glNone rfl rfl) (by as_aux_lemma => kernel_rfl) s0 fun a' w' s => ?_
  exact backL g1 g2 g3 g4 s
theorem ibTnn {m n x y r t : Int} (hx : m.tmod 1073741824 = r) (hy : n.tmod 1073741824 = t) (g1 : 0 ≤ x) (g2 : x < 1073741824) (g3 : 0 ≤ y) (g4 : y < 1073741824) (e1 : r = -x) (e2 : t = -y) (c1 : r < 0 ∨ 0 ≤ r) (n1 : r < 0) (n2 : t < 0) : ∀ x_ ∈ ([(4, .oi 0, .int .i64 1073741824, .oi 4), (11, .oi 4, .int .i64 0, .bool true), (4, .oi 1, .int .i64 1073741824, .oi 5), (11, .oi 5, .int .i64 0, .bool true)] : List BRow), IbOk (ivT m n x y r t) x_ := by
  letI := Tab.empty
  exact (ibCons (ibRem (a := m) (b := 1073741824) (c := r) rfl rfl rfl (by decide) hx) (ibCons (ibLt (a := r) (b := 0) rfl rfl (decide_eq_true (by omega))) (ibCons (ibRem (a := n) (b := 1073741824) (c := t) rfl rfl rfl (by decide) hy) (ibCons (ibLt (a := t) (b := 0) rfl rfl (decide_eq_true (by omega))) ibNil))))
abbrev RTnn {m n x y r t : Int} (hx : m.tmod 1073741824 = r) (hy : n.tmod 1073741824 = t) (g1 : 0 ≤ x) (g2 : x < 1073741824) (g3 : 0 ≤ y) (g4 : y < 1073741824) (e1 : r = -x) (e2 : t = -y) (c1 : r < 0 ∨ 0 ≤ r) (n1 : r < 0) (n2 : t < 0) : VRows (ivT m n x y r t) noV noK where
  vvp := noVp
  ib := [(4, .oi 0, .int .i64 1073741824, .oi 4), (11, .oi 4, .int .i64 0, .bool true), (4, .oi 1, .int .i64 1073741824, .oi 5), (11, .oi 5, .int .i64 0, .bool true)]
  ibok := ibTnn hx hy g1 g2 g3 g4 e1 e2 c1 n1 n2
theorem iuTnn {m n x y r t : Int} (hx : m.tmod 1073741824 = r) (hy : n.tmod 1073741824 = t) (g1 : 0 ≤ x) (g2 : x < 1073741824) (g3 : 0 ≤ y) (g4 : y < 1073741824) (e1 : r = -x) (e2 : t = -y) (c1 : r < 0 ∨ 0 ≤ r) (n1 : r < 0) (n2 : t < 0) : ∀ q ∈ ([(0, .oi 4, .oi 2), (0, .oi 5, .oi 3)] : List (Nat × AV × AV)), ∀ op, ucode op = q.1 → ∃ k n_ v, denI (ivT m n x y r t) q.2.1 = some (k, n_) ∧ unI op k n_ = some v ∧ outI (ivT m n x y r t) q.2.2 v := fun q hq op hop => by
  simp only [List.mem_cons, List.not_mem_nil, or_false] at hq
  rcases hq with rfl | rfl
  · have : op = .neg := by cases op <;> simp [ucode] at hop; rfl
    subst this
    exact ⟨.i64, r, .int .i64 (IntKind.i64.wrap (0 - r)), rfl, rfl, by rw [wrap64 (by omega) (by omega)]; show some (IntKind.i64, x) = some (IntKind.i64, 0 - r); congr 2; omega⟩
  · have : op = .neg := by cases op <;> simp [ucode] at hop; rfl
    subst this
    exact ⟨.i64, t, .int .i64 (IntKind.i64.wrap (0 - t)), rfl, rfl, by rw [wrap64 (by omega) (by omega)]; show some (IntKind.i64, y) = some (IntKind.i64, 0 - t); congr 2; omega⟩
abbrev TTnn {m n x y r t : Int} (hx : m.tmod 1073741824 = r) (hy : n.tmod 1073741824 = t) (g1 : 0 ≤ x) (g2 : x < 1073741824) (g3 : 0 ≤ y) (g4 : y < 1073741824) (e1 : r = -x) (e2 : t = -y) (c1 : r < 0 ∨ 0 ≤ r) (n1 : r < 0) (n2 : t < 0) : Tab := { (RTnn hx hy g1 g2 g3 g4 e1 e2 c1 n1 n2).tab with
  iu := [(0, .oi 4, .oi 2), (0, .oi 5, .oi 3)]
  iuok := iuTnn hx hy g1 g2 g3 g4 e1 e2 c1 n1 n2 }
theorem yesnn {m n x y r t : Int} (hx : m.tmod 1073741824 = r) (hy : n.tmod 1073741824 = t) (g1 : 0 ≤ x) (g2 : x < 1073741824) (g3 : 0 ≤ y) (g4 : y < 1073741824) (e1 : r = -x) (e2 : t = -y) (c1 : r < 0 ∨ 0 ≤ r) (n1 : r < 0) (n2 : t < 0) (w : World) : Calls Tryz.prog 3 #[.int .i64 m, .int .i64 n] w fun e w' => e = .returned (.bool true) ∧ Below w.heap.size w w' := by
  refine yes_calls Tryz.func3 bodyL_eq w ?_
  have s0 := @St.start (TTnn hx hy g1 g2 g3 g4 e1 e2 c1 n1 n2) [.oi 0, .oi 1] #[.int .i64 m, .int .i64 n] NL w ⟨fun g o a h => (by cases h), fun i m a h => (by cases h)⟩ (@vrels_cons (TTnn hx hy g1 g2 g3 g4 e1 e2 c1 n1 n2) _ _ _ _ _ (by simp only [vrel]; rfl) (@vrels_cons (TTnn hx hy g1 g2 g3 g4 e1 e2 c1 n1 n2) _ _ _ _ _ (by simp only [vrel]; rfl) (by simp [vrels]))) (show 2 ≤ NL by decide +kernel) (show 2 < limit by decide)
  refine firstTo_sound (T := (TTnn hx hy g1 g2 g3 g4 e1 e2 c1 n1 n2)) (T' := PL x y x y) (K := K_top0) (m := 5000) (n := 18) mixed (@K_top0_ok (TTnn hx hy g1 g2 g3 g4 e1 e2 c1 n1 n2)) (C := ⟨0, 14689, ofPairs rlL, [(.oi 2, 0), (.oi 3, 1), (.oi 2, 2), (.oi 3, 3)]⟩) (rl := rlL) (vp := []) (fs := fsL) (bs := bsL)
    (Base.none _) (Nat.zero_le _) rfl (by kernel_rfl) (ipCons (ipN (.i64, x) rfl rfl) (ipCons (ipN (.i64, y) rfl rfl) (ipCons (ipN (.i64, x) rfl rfl) (ipCons (ipN (.i64, y) rfl rfl) ipNil)))) vpNil (glNone rfl rfl) (by as_aux_lemma => kernel_rfl) s0 fun a' w' s => ?_
  exact backL g1 g2 g3 g4 s
end
end Go.Proofs.YtkckdnjocncnhaaGreatDoor.gc
