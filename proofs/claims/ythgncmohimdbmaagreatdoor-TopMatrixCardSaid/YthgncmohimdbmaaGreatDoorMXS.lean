/-
  States of the machine within the law TopMatrix.
-/
import Derived.Test.YthgncmohimdbmaaGreatDoorXN3
import Derived.Test.YthgncmohimdbmaaGreatDoorMBM
import Derived.Test.YthgncmohimdbmaaGreatDoorProg
import Derived.KernelRfl
set_option linter.unusedSectionVars false
set_option linter.unusedVariables false
set_option maxRecDepth 1000000
set_option maxHeartbeats 0
namespace Go.Proofs.YthgncmohimdbmaaGreatDoor.mx
open Go.X Go.RowKit Go.Proofs.YthgncmohimdbmaaGreatDoor
theorem hOf_congr {N : Nat} {a b : BS} (h : bsOf a = bsOf b) : hOf N a = hOf N b := by unfold hOf; rw [h]
theorem mixed : Tryz.prog.follows .mixedOrders = true := by kernel_rfl
theorem vw_none {L : List AV} {k : Nat} {x : AV} {p : Prop} (h : L.length ≤ k) (e : L[k]? = some x) : p := by rw [List.getElem?_eq_none h] at e; cases e
theorem wI_ofNat {n : Nat} (h : n < 18446744073709551616) : wI (BitVec.ofNat 64 n) = (n : Int) := by
  show ((BitVec.ofNat 64 n).toNat : Int) = n
  rw [BitVec.toNat_ofNat, Nat.mod_eq_of_lt h]
theorem wI_ofInt (x : Int) : wI (BitVec.ofInt 64 x) = IntKind.u64.wrap x := by
  show ((BitVec.ofInt 64 x).toNat : Int) = _
  rw [BitVec.toNat_ofInt]
  unfold IntKind.wrap IntKind.bits IntKind.signed
  simp only [Bool.false_and, Bool.false_eq_true, if_false]
  omega
theorem wrap32_eq (n : Int) : IntKind.i32.wrap n = if 2147483648 ≤ n % 4294967296 then n % 4294967296 - 4294967296 else n % 4294967296 := by
  unfold IntKind.wrap IntKind.bits IntKind.signed
  simp only [Bool.true_and, decide_eq_true_eq]
  rfl
theorem wrap64_mod (n : Int) : IntKind.i64.wrap n % 4294967296 = n % 4294967296 := by
  have h := wrap_mod .i64 n
  have e1 : (2 : Int) ^ IntKind.i64.bits = 18446744073709551616 := by decide
  rw [e1] at h
  omega
theorem rd_conv (n : Int) : IntKind.i32.wrap (IntKind.i64.wrap n) = IntKind.i32.wrap n := by rw [wrap32_eq, wrap32_eq, wrap64_mod]
theorem wrap64_of {a : Int} {c : Nat} (h : a = ((c : Nat) : Int)) (hc : c < 100000 := by omega) : IntKind.i64.wrap a = ((c : Nat) : Int) := by rw [h]; exact wrap64 (by omega) (by omega)
theorem w0s {W : Nat → BitVec 64} {i : Nat} {c : Int} (h : wI (W i) = c) : wI (W i >>> 0) = c := by rw [← h]; congr 1
/-- a word in which one number is put -/
def updQ (W : Nat → BitVec 64) (q s : Nat) (x : BitVec 64) : Nat → BitVec 64 := fun m => if m = q then setW 32 s (W q) x else W m
/-- where the objects begin -/
def FS (F : Nat → Int) : Nat → Int
  | 0 => 0
  | 1 => 2
  | 2 => 5
  | 3 => 8
  | m + 4 => F m
theorem FS_hi {F : Nat → Int} {q : Nat} : FS F (4 + q) = F q := by rw [Nat.add_comm]; rfl
theorem stL {F : Nat → Int} : ∀ q x, ([.int .i64 0, .int .i64 2, .int .i64 5, .int .i64 8] : List AV)[q]? = some x → x = AV.int .i64 (FS F q) := fun q x h => by
  match q, h with
  | 0, h => cases h; rfl
  | 1, h => cases h; rfl
  | 2, h => cases h; rfl
  | 3, h => cases h; rfl
  | q + 4, h => rw [List.getElem?_eq_none (by simp)] at h; cases h
def IncF (n : Nat) (F : Nat → Int) : Prop := (∀ i, i < n → 8 < F i) ∧ ∀ i k, i < k → k < n → F i < F k
theorem FS_inc {F : Nat → Int} {n : Nat} (h : IncF n F) : ∀ m k, m < k → k < n + 4 → FS F m < FS F k := by
  intro m k hm hk
  match m, k with
  | 0, 0 => omega
  | 0, 1 => exact (show (0 : Int) < 2 by decide)
  | 0, 2 => exact (show (0 : Int) < 5 by decide)
  | 0, 3 => exact (show (0 : Int) < 8 by decide)
  | 0, k + 4 => have := h.1 k (by omega); show (0 : Int) < F k; omega
  | 1, 0 => omega
  | 1, 1 => omega
  | 1, 2 => exact (show (2 : Int) < 5 by decide)
  | 1, 3 => exact (show (2 : Int) < 8 by decide)
  | 1, k + 4 => have := h.1 k (by omega); show (2 : Int) < F k; omega
  | 2, 0 => omega
  | 2, 1 => omega
  | 2, 2 => omega
  | 2, 3 => exact (show (5 : Int) < 8 by decide)
  | 2, k + 4 => have := h.1 k (by omega); show (5 : Int) < F k; omega
  | 3, 0 => omega
  | 3, 1 => omega
  | 3, 2 => omega
  | 3, 3 => omega
  | 3, k + 4 => exact h.1 k (by omega)
  | m + 4, 0 => omega
  | m + 4, 1 => omega
  | m + 4, 2 => omega
  | m + 4, 3 => omega
  | m + 4, k + 4 => exact h.2 m k (by omega) (by omega)
noncomputable def fullR : Code := (Tryz.f42.body).getD .skip
noncomputable def la : Code := lpOf (restn 2 fullR)
noncomputable def tl : Code := tlOf (restn 2 fullR)
noncomputable abbrev fsR : List (Nat × AV) := [(0, .ptr 13766 0), (10, .ptr 20000 0)]
noncomputable abbrev kb0 : Blk := (.cells 7 false [] (T.ofList 0 .leaf [(.ptr 10416 0), (.ptr 10418 0), (.ptr 7163 0), (.so 11136 0 39 3), .nils, (.bool false), (.bool false)]))
noncomputable abbrev kb1 : Blk := (.cells 4 false [] (T.ofList 0 .leaf [(.so 20001 0 6 1), (.so 20002 0 6 1), (.so 20006 0 1 7), (.int .i64 15)]))
noncomputable abbrev kb2 : Blk := (.map [((.str 1 77), (.ptr 20010 0), 0), ((.str 16 154706541852025644484233205990057992554), (.ptr 20011 0), 1)] 2)
noncomputable abbrev kb3 : Blk := (.cells 8 false [] (T.ofList 0 .leaf [(.int .i64 52), (.sl 14066 0 11 11), (.int .i64 33), (.str 1 77), (.str 16 154706541852025644484233205990057992554), .nils, .nils, (.so 15758 0 1 9)]))
noncomputable abbrev kb4 : Blk := (.cells 64 true [] (T.ofList 0 .leaf [(.int .u8 3), (.int .u8 61), (.int .u8 3), (.int .u8 62), (.int .u8 26), (.int .u8 27), (.int .u8 197), (.int .u8 0), (.int .u8 2), (.int .u8 2), (.int .u8 58), (.int .u8 4), (.int .u8 3), (.int .u8 54), (.int .u8 5), (.int .u8 28), (.int .u8 26), (.int .u8 162), (.int .u8 0), (.int .u8 44), (.int .u8 3), (.int .u8 62), (.int .u8 29), (.int .u8 27), (.int .u8 162), (.int .u8 0), (.int .u8 31), (.int .u8 25), (.int .u8 4), (.int .u8 28), (.int .u8 50), (.int .u8 29), (.int .u8 28), (.int .u8 4), (.int .u8 96), (.int .u8 29), (.int .u8 104), (.int .u8 79), (.int .u8 21), (.int .u8 5), (.int .u8 25), (.int .u8 4), (.int .u8 28), (.int .u8 50), (.int .u8 29), (.int .u8 46), (.int .u8 96), (.int .u8 54), (.int .u8 5), (.int .u8 132), (.int .u8 3), (.int .u8 1), (.int .u8 167), (.int .u8 255), (.int .u8 226), (.int .u8 132), (.int .u8 2), (.int .u8 1), (.int .u8 167), (.int .u8 255), (.int .u8 213), (.int .u8 21), (.int .u8 5), (.int .u8 172)]))
noncomputable abbrev kb5 : Blk := (.cells 16 true [] (T.ofList 0 .leaf [(.int .i64 255), (.int .i64 15), (.so 15645 0 6 3), .nils, (.int .i64 255), (.int .i64 6), (.so 15680 0 6 3), .nils, (.int .i64 255), (.int .i64 32), (.so 15715 0 6 3), .nils, (.int .i64 255), (.int .i64 5), (.so 15750 0 6 3), .nils]))
noncomputable abbrev kb6 : Blk := (.cells 9 true [] (T.ofList 0 .leaf [(.int .i64 9), (.str 2 28519), (.str 5 314225281320), (.bool true), (.int .i64 5), (.int .i64 6), (.so 14391 0 64 1), .nils, (.so 15753 0 4 4)]))
noncomputable abbrev kb7 : Blk := (.cells 11 false [] (T.ofList 0 .leaf [(.int .i64 0), (.int .i64 0), (.int .u8 0), (.int .i64 0), (.str 0 0), (.str 0 0), (.bool false), (.int .i64 0), .nils, (.int .i64 0), (.int .i64 0)]))
noncomputable abbrev kb8 : Blk := (.cells 2 false [] (T.ofList 0 .leaf [(.int .i64 2), (.sl 20012 0 0 0)]))
noncomputable abbrev kb9 : Blk := (.cells 2 false [] (T.ofList 0 .leaf [(.int .i64 2), .nils]))
noncomputable abbrev kb10 : Blk := (.cells 15 true [] (T.ofList 0 .leaf [(.str 19 2439265639030268300842157990401791553877467498), .nils, (.int .u8 0), (.str 28 12051447909911140811364177168575840195048631602135540194265359868266), (.so 13885 0 1 1), (.int .u8 0), (.str 26 183890501555043540957095622503328518117729969598634276033028458), (.so 13981 0 1 1), (.int .u8 0), (.str 3 4807515), .nils, (.int .u8 76), (.str 2 18779), .nils, (.int .u8 73)]))
noncomputable abbrev kb11 : Blk := (.cells 5 false [] (T.ofList 0 .leaf [(.ptr 7163 0), (.ov 20003 8 1), (.ov 20004 9 1), (.so 20005 0 5 3), (.map 10415)]))
noncomputable abbrev kb12 : Blk := (.cells 32 false [] (T.ofList 0 .leaf [(.ptr 7163 0), (.ptr 10421 0), (.ptr 10416 0), (.ptr 10418 0), (.ptr 10422 0), (.ptr 13762 0), (.so 20007 0 1 1), (.map 13763), (.map 13764), .nils, (.int .i64 1), (.int .i64 3), (.int .i64 6), (.int .i64 0), .nilp, (.bool true), (.int .i64 100000), (.oi 6), (.int .i64 0), (.int .i64 1), (.int .i64 0), (.int .i64 0), (.int .u8 0), (.int .i64 0), (.str 0 0), (.str 0 0), (.bool false), (.int .i64 0), .nils, (.int .i64 0), (.int .i64 0), (.map 13765)]))
noncomputable abbrev kb13 : Blk := (.cells 7 true [] (ofPairs [(0, (.int .i64 0)), (1, (.int .i64 0)), (3, (.int .i64 0)), (4, (.int .i64 6)), (5, (.int .i64 5)), (6, (.int .i64 0))]))
noncomputable abbrev kb14 : Blk := (.cells 6 true [] (T.ofList 0 .leaf [(.oi 0), (.oi 1), (.oi 2), (.oi 4), (.oi 5), (.oi 3)]))
noncomputable abbrev kb15 : Blk := (.cells 6 true [] (T.ofList 0 .leaf [(.bool false), (.bool false), (.bool false), (.bool false), (.bool true), (.bool false)]))
abbrev ivB (n : Nat) (m : Nat) : Nat → IntKind × Int
  | 0 => (.i64, ((n : Nat) : Int))
  | 1 => (.i64, ((m : Nat) : Int))
  | _ => (.i64, 0)
abbrev vvB (n : Nat) (m : Nat) : Nat → Nat → Option AV
  | _ => fun _ => none
abbrev vkB (n : Nat) (m : Nat) : Nat → Nat
  | _ => 0
theorem vpB (n : Nat) (m : Nat) : ∀ i_ m_ a_, vvB n m i_ m_ = some a_ → vplain a_ = true
  | _, _, _, h => (by cases h)
abbrev PB (n : Nat) (m : Nat) : Tab := ((bare (ivB n m) (vvB n m) (vkB n m) (vpB n m)).tab)
noncomputable abbrev bsB : BS := [(7161, 7161, (.map [((.str 1 77), (.ptr 14064 0), 0)] 1)), (7162, 7162, (.map [((.str 19 2439265639030268300842157990401791553877467498), (.ptr 7359 0), 0), ((.str 29 3085170664936786167588614718972924591866388410301586339335837578584426), (.ptr 7507 0), 1), ((.str 29 2977327179366744475310567174670984700336777289692309623825572795146602), (.ptr 7616 0), 2), ((.str 40 921438131347674524995356669863897659779420152864154109574888483886346161678995665599280333611370), (.ptr 7727 0), 3), ((.str 29 2977327179366744475310578792928741468592950331792981622238945052352874), (.ptr 7841 0), 4), ((.str 28 11630184294401345606682283003339240975915084228737354846334270988650), (.ptr 7954 0), 5), ((.str 31 202189744697330995387852485397630371027294446829100397077902765524415570282), (.ptr 8051 0), 6), ((.str 26 183890501555036136351903328603364899342229922045770665733546346), (.ptr 8145 0), 7), ((.str 15 594182256714433171583859471190221162), (.ptr 8236 0), 8), ((.str 19 2462787319999361794871408518597065734545105258), (.ptr 8326 0), 9), ((.str 37 56911353679811531822920492603033782110087255578636309514658723732473720363105297718731114), (.ptr 8432 0), 10), ((.str 28 12051447909910759173808661238977857107111767888823090726697178653034), (.ptr 8535 0), 11), ((.str 38 14060030080378334426808655457799320232265086119729716606675995945190890063755479020322840938), (.ptr 8650 0), 12), ((.str 38 14569306542030247732875768419210667608278730874565438596096215620376147580735894642209743210), (.ptr 8748 0), 13), ((.str 35 838043098472257520366253329360822735706660890049674080341799799296269125818196058474), (.ptr 8841 0), 14), ((.str 28 12051447909910278778317482300033197087305720853520054876288643916138), (.ptr 8946 0), 15), ((.str 22 42815343838886881203639546329033052610660173325164906), (.ptr 9045 0), 16), ((.str 36 214539033208897925213755128370838752992305990670598911423725060199978812837976799076714), (.ptr 9157 0), 17), ((.str 30 789803690223817235625993454897404583541813632134065715887439951296881002), (.ptr 9253 0), 18), ((.str 26 183890501555012814945400634590948384637649511452497603397575018), (.ptr 9354 0), 19), ((.str 27 47075968398083285027902446257440240237115773113246055769402925418), (.ptr 9456 0), 20), ((.str 30 762195757917886585679527096405151622096281774544538073876077408773628266), (.ptr 9566 0), 21), ((.str 16 154706541852025644484233205990057992554), (.ptr 9577 0), 22), ((.str 26 183890501555043540957095622503328518117729969598634276033028458), (.ptr 9688 0), 23), ((.str 26 177462528906270532328520934635542489792491443287338843928682858), (.ptr 9780 0), 24), ((.str 28 12051447909911140811364177168575840195048631602135540194265359868266), (.ptr 9887 0), 25), ((.str 16 137483774941304901841256615957136564586), (.ptr 9908 0), 26), ((.str 23 10956966084090815260342509131105871416374185281426186602), (.ptr 9965 0), 27), ((.str 41 235888161625004678398811307485157800903531559133223452051171428016118026562849321940164899390251370), (.ptr 10105 0), 28), ((.str 16 145412635431568811361768410208787652970), (.ptr 10117 0), 29), ((.str 19 2261816869159440624969593107871851903301607786), (.ptr 10205 0), 30), ((.str 38 14569306542031293471471962209605688152784288289213751582725315083544705153644676387098222954), (.ptr 10305 0), 31), ((.str 21 167247436870678459232146883126634948762985622298986), (.ptr 10405 0), 32)] 33)), (7163, 7163, (.cells 3 false [] (T.ofList 0 .leaf [(.map 7161), (.map 7162), (.so 15760 0 1 1)]))), (10415, 10415, (.map [((.str 19 2439265639030268300842157990401791553877467498), (.int .i64 0), 0), ((.str 28 12051447909911140811364177168575840195048631602135540194265359868266), (.int .i64 1), 1), ((.str 26 183890501555043540957095622503328518117729969598634276033028458), (.int .i64 2), 2)] 3)), (10416, 10416, (.cells 5 false [] (T.ofList 0 .leaf [(.ptr 7163 0), (.so 13984 0 8 1), (.so 13986 0 3 1), (.so 13983 0 3 3), (.map 10415)]))), (10422, 10422, kb0), (13762, 13762, kb1), (13763, 13763, kb2), (13765, 13765, (.map [] 0)), (13766, 13766, (.cells 32 false [] (T.ofList 0 .leaf [(.ptr 7163 0), (.ptr 10421 0), (.ptr 10416 0), (.ptr 10418 0), (.ptr 10422 0), (.ptr 13762 0), (.so 20007 0 1 1), (.map 13763), (.map 13764), .nils, (.int .i64 1), (.int .i64 3), (.int .i64 6), (.int .i64 0), .nilp, (.bool true), (.int .i64 100000), (.int .i64 0), (.int .i64 0), (.int .i64 0), (.int .i64 0), (.int .i64 0), (.int .u8 0), (.int .i64 0), (.str 0 0), (.str 0 0), (.bool false), (.int .i64 0), .nils, (.int .i64 0), (.int .i64 0), (.map 13765)]))), (13983, 13983, (.cells 9 true [] (T.ofList 0 .leaf [(.str 19 2439265639030268300842157990401791553877467498), .nils, (.int .u8 0), (.str 28 12051447909911140811364177168575840195048631602135540194265359868266), (.so 13885 0 1 1), (.int .u8 0), (.str 26 183890501555043540957095622503328518117729969598634276033028458), (.so 13981 0 1 1), (.int .u8 0)]))), (13984, 13984, (.cells 8 true [] (T.ofList 0 .leaf [(.int .u64 0), (.int .u64 0), (.int .u64 1), (.int .u64 0), (.int .u64 0), (.int .u64 2), (.int .u64 0), (.int .u64 0)]))), (13986, 13986, (.cells 3 true [] (T.ofList 0 .leaf [(.int .i64 0), (.int .i64 2), (.int .i64 5)]))), (14064, 14064, kb3), (14066, 14066, (.cells 55 false [(.int .i64 0), (.str 0 0), (.int .i64 0), (.int .i64 0), (.int .i64 0)] (ofPairs [(5, (.int .i64 1)), (6, (.str 3 4807515)), (7, (.int .i64 0)), (8, (.int .i64 0)), (9, (.int .i64 0)), (10, (.int .i64 7)), (11, (.str 0 0)), (12, (.int .i64 0)), (13, (.int .i64 1)), (14, (.int .i64 0)), (15, (.int .i64 1)), (16, (.str 2 28519)), (17, (.int .i64 0)), (18, (.int .i64 0)), (19, (.int .i64 0)), (20, (.int .i64 1)), (21, (.str 5 314225281320)), (22, (.int .i64 0)), (23, (.int .i64 0)), (24, (.int .i64 0)), (25, (.int .i64 1)), (26, (.str 13 8035587729358898777305137640531)), (27, (.int .i64 0)), (28, (.int .i64 0)), (29, (.int .i64 0)), (30, (.int .i64 1)), (31, (.str 4 1701080899)), (32, (.int .i64 0)), (33, (.int .i64 0)), (34, (.int .i64 0)), (35, (.int .i64 1)), (36, (.str 1 77)), (37, (.int .i64 0)), (38, (.int .i64 0)), (39, (.int .i64 0)), (40, (.int .i64 7)), (41, (.str 0 0)), (42, (.int .i64 0)), (43, (.int .i64 7)), (44, (.int .i64 0)), (45, (.int .i64 1)), (46, (.str 16 154706541852025644484233205990057992554)), (47, (.int .i64 0)), (48, (.int .i64 0)), (49, (.int .i64 0)), (50, (.int .i64 7)), (51, (.str 0 0)), (52, (.int .i64 0)), (53, (.int .i64 9)), (54, (.int .i64 0))]))), (14391, 14391, kb4), (15753, 15753, kb5), (15758, 15758, kb6), (20000, 20000, kb7), (20001, 20001, (.cells 6 true [] (T.ofList 0 .leaf [(.oi 0), (.oi 1), (.int .i64 0), (.int .i64 0), (.int .i64 0), (.int .i64 0)]))), (20002, 20002, (.cells 6 true [] (T.ofList 0 .leaf [(.bool false), (.bool false), (.bool false), (.bool false), (.bool false), (.bool false)]))), (20006, 20006, (.cells 7 true [] (T.ofList 0 .leaf [(.int .i64 0), (.int .i64 0), (.int .i64 0), (.int .i64 0), (.int .i64 6), (.int .i64 5), (.int .i64 0)]))), (20007, 20007, (.cells 1 true [] (T.ofList 0 .leaf [(.ptr 20008 0)]))), (20008, 20008, (.cells 6 false [] (T.ofList 0 .leaf [(.int .i64 0), (.int .i64 0), (.ptr 14064 0), (.int .i64 0), (.int .i64 0), .nilp]))), (20010, 20010, kb8), (20011, 20011, kb9)]
def SB (n : Nat) (m : Nat) (B : Kp) (w0 : World) (μ : M) (a : Act) (w : World) : Prop := St (PB n m) B w0 μ Tryz.f42.ntmps (frOf fsR) (hOf 20040 bsB) a w
abbrev ivA (n : Nat) (m : Nat) (tw : Nat) (W : Nat → BitVec 64) (F : Nat → Int) : Nat → IntKind × Int
  | 0 => (.i64, ((n : Nat) : Int))
  | 1 => (.i64, ((m : Nat) : Int))
  | 2 => (.u64, ((n : Nat) : Int))
  | 3 => (.i64, ((9 : Nat) : Int))
  | 4 => (.i64, ((tw + 11 : Nat) : Int))
  | 5 => (.i64, ((n + 4 : Nat) : Int))
  | _ => (.i64, 0)
abbrev vvA (n : Nat) (m : Nat) (tw : Nat) (W : Nat → BitVec 64) (F : Nat → Int) : Nat → Nat → Option AV
  | 0 => pvw [(.int .u64 0), (.int .u64 0), (.int .u64 1), (.int .u64 0), (.int .u64 0), (.int .u64 2), (.int .u64 0), (.int .u64 0), (.int .u64 3), (.int .u64 0), (.oi 2)] (11 + tw) (W)
  | 1 => pvn [(.int .i64 0), (.int .i64 2), (.int .i64 5), (.int .i64 8)] (n + 4) (F)
  | _ => fun _ => none
abbrev vkA (n : Nat) (m : Nat) (tw : Nat) (W : Nat → BitVec 64) (F : Nat → Int) : Nat → Nat
  | 0 => 11 + tw
  | 1 => n + 4
  | _ => 0
theorem vpA (n : Nat) (m : Nat) (tw : Nat) (W : Nat → BitVec 64) (F : Nat → Int) : ∀ i_ m_ a_, vvA n m tw W F i_ m_ = some a_ → vplain a_ = true
  | 0, _, _, h => pvw_plain rfl h
  | 1, _, _, h => pvn_plain rfl h
  | _ + 2, _, _, h => (by cases h)
abbrev PA (n : Nat) (m : Nat) (tw : Nat) (W : Nat → BitVec 64) (F : Nat → Int) : Tab := ((bare (ivA n m tw W F) (vvA n m tw W F) (vkA n m tw W F) (vpA n m tw W F)).tab)
noncomputable abbrev bsA : BS := [(10416, 10416, (.cells 5 false [] (T.ofList 0 .leaf [(.ptr 7163 0), (.ov 20003 4 1), (.ov 20004 5 1), (.so 20005 0 5 3), (.map 10415)]))), (10422, 10422, kb0), (13762, 13762, (.cells 4 false [] (T.ofList 0 .leaf [(.so 20001 0 7 1), (.so 20002 0 7 1), (.so 20006 0 1 7), (.int .i64 15)]))), (13763, 13763, kb2), (13765, 13765, (.map [((.str 10 345494350552775703080525), (.int .i64 7), 0)] 1)), (13766, 13766, (.cells 32 false [] (ofPairs [(0, (.ptr 7163 0)), (1, (.ptr 10421 0)), (2, (.ptr 10416 0)), (3, (.ptr 10418 0)), (4, (.ptr 10422 0)), (5, (.ptr 13762 0)), (6, (.so 20007 0 1 1)), (7, (.map 13763)), (8, (.map 13764)), (10, (.int .i64 1)), (11, (.int .i64 3)), (12, (.int .i64 6)), (13, (.int .i64 0)), (14, .nilp), (15, (.bool true)), (16, (.int .i64 100000)), (17, (.int .i64 7)), (18, (.int .i64 0)), (19, (.int .i64 1)), (20, (.int .i64 0)), (21, (.int .i64 0)), (22, (.int .u8 0)), (23, (.int .i64 0)), (24, (.str 0 0)), (25, (.str 0 0)), (26, (.bool false)), (27, (.int .i64 0)), (28, .nils), (29, (.int .i64 0)), (30, (.int .i64 0)), (31, (.map 13765))]))), (14064, 14064, kb3), (14391, 14391, kb4), (15753, 15753, kb5), (15758, 15758, kb6), (20000, 20000, kb7), (20001, 20001, (.cells 7 true [] (T.ofList 0 .leaf [(.oi 0), (.oi 1), (.int .i64 0), (.int .i64 0), (.int .i64 0), (.int .i64 0), (.oi 3)]))), (20002, 20002, (.cells 7 true [] (T.ofList 0 .leaf [(.bool false), (.bool false), (.bool false), (.bool false), (.bool false), (.bool false), (.bool true)]))), (20003, 20003, (.vec 0)), (20004, 20004, (.vec 1)), (20005, 20005, kb10), (20006, 20006, (.cells 7 true [] (ofPairs [(0, (.int .i64 0)), (1, (.int .i64 0)), (3, (.int .i64 0)), (4, (.int .i64 6)), (5, (.int .i64 5)), (6, (.int .i64 1))]))), (20007, 20007, (.cells 1 true [] (T.ofList 0 .leaf [(.ptr 20008 0)]))), (20008, 20008, (.cells 6 false [] (T.ofList 0 .leaf [(.int .i64 0), (.int .i64 0), (.ptr 14064 0), (.int .i64 0), (.int .i64 10), .nilp]))), (20010, 20010, kb8), (20011, 20011, kb9)]
def SA (n : Nat) (m : Nat) (tw : Nat) (W : Nat → BitVec 64) (F : Nat → Int) (B : Kp) (w0 : World) (μ : M) (a : Act) (w : World) : Prop := St (PA n m tw W F) B w0 μ Tryz.f42.ntmps (frOf fsR) (hOf 20040 bsA) a w
abbrev ivR (n : Nat) (m : Nat) (i : Nat) (j : Nat) (s : Nat) (r : Nat) (tw : Nat) (W : Nat → BitVec 64) (F : Nat → Int) : Nat → IntKind × Int
  | 0 => (.i64, ((n : Nat) : Int))
  | 1 => (.i64, ((m : Nat) : Int))
  | 2 => (.i64, ((i : Nat) : Int))
  | 3 => (.i64, ((s : Nat) : Int))
  | 4 => (.i64, ((j : Nat) : Int))
  | 5 => (.i64, ((9 : Nat) : Int))
  | 6 => (.i64, ((r : Nat) : Int))
  | 7 => (.u64, ((n : Nat) : Int))
  | 8 => (.i64, ((tw + 11 : Nat) : Int))
  | 9 => (.i64, ((n + 4 : Nat) : Int))
  | 10 => (.i64, ((r + 1 : Nat) : Int))
  | 11 => (.i64, ((r + 2 : Nat) : Int))
  | 12 => (.i64, ((r + 3 : Nat) : Int))
  | 13 => (.i64, ((r + 4 : Nat) : Int))
  | 14 => (.i64, ((r + 5 : Nat) : Int))
  | _ => (.i64, 0)
abbrev vvR (n : Nat) (m : Nat) (i : Nat) (j : Nat) (s : Nat) (r : Nat) (tw : Nat) (W : Nat → BitVec 64) (F : Nat → Int) : Nat → Nat → Option AV
  | 0 => pvw [(.int .u64 0), (.int .u64 0), (.int .u64 1), (.int .u64 0), (.int .u64 0), (.int .u64 2), (.int .u64 0), (.int .u64 0), (.int .u64 3), (.int .u64 0), (.oi 7)] (11 + tw) (W)
  | 1 => pvn [(.int .i64 0), (.int .i64 2), (.int .i64 5), (.int .i64 8)] (n + 4) (F)
  | _ => fun _ => none
abbrev vkR (n : Nat) (m : Nat) (i : Nat) (j : Nat) (s : Nat) (r : Nat) (tw : Nat) (W : Nat → BitVec 64) (F : Nat → Int) : Nat → Nat
  | 0 => 11 + tw
  | 1 => n + 4
  | _ => 0
theorem vpR (n : Nat) (m : Nat) (i : Nat) (j : Nat) (s : Nat) (r : Nat) (tw : Nat) (W : Nat → BitVec 64) (F : Nat → Int) : ∀ i_ m_ a_, vvR n m i j s r tw W F i_ m_ = some a_ → vplain a_ = true
  | 0, _, _, h => pvw_plain rfl h
  | 1, _, _, h => pvn_plain rfl h
  | _ + 2, _, _, h => (by cases h)
abbrev PR (n : Nat) (m : Nat) (i : Nat) (j : Nat) (s : Nat) (r : Nat) (tw : Nat) (W : Nat → BitVec 64) (F : Nat → Int) : Tab := ((bare (ivR n m i j s r tw W F) (vvR n m i j s r tw W F) (vkR n m i j s r tw W F) (vpR n m i j s r tw W F)).tab)
noncomputable abbrev bsR : BS := [(10416, 10416, kb11), (10422, 10422, kb0), (13762, 13762, kb1), (13763, 13763, kb2), (13765, 13765, (.map [((.str 10 345494350552775703080525), (.oi 6), 0)] 1)), (13766, 13766, kb12), (14064, 14064, kb3), (14391, 14391, kb4), (15753, 15753, kb5), (15758, 15758, kb6), (20000, 20000, kb7), (20001, 20001, kb14), (20002, 20002, kb15), (20003, 20003, (.vec 0)), (20004, 20004, (.vec 1)), (20005, 20005, kb10), (20006, 20006, kb13), (20007, 20007, (.cells 1 true [] (T.ofList 0 .leaf [(.ptr 20008 0)]))), (20008, 20008, (.cells 6 false [] (T.ofList 0 .leaf [(.int .i64 0), (.int .i64 0), (.ptr 14064 0), (.int .i64 0), (.int .i64 15), .nilp]))), (20010, 20010, kb8), (20011, 20011, kb9)]
def SR (n : Nat) (m : Nat) (i : Nat) (j : Nat) (s : Nat) (r : Nat) (tw : Nat) (W : Nat → BitVec 64) (F : Nat → Int) (B : Kp) (w0 : World) (μ : M) (a : Act) (w : World) : Prop := St (PR n m i j s r tw W F) B w0 μ Tryz.f42.ntmps (frOf fsR) (hOf 20040 bsR) a w
abbrev ivC (n : Nat) (m : Nat) (i : Nat) (j : Nat) (s : Nat) (r : Nat) (tw : Nat) (u : Nat) (x : Nat) (W : Nat → BitVec 64) (F : Nat → Int) : Nat → IntKind × Int
  | 0 => (.i64, ((n : Nat) : Int))
  | 1 => (.i64, ((m : Nat) : Int))
  | 2 => (.i64, ((i : Nat) : Int))
  | 3 => (.i64, ((s : Nat) : Int))
  | 4 => (.i64, ((j : Nat) : Int))
  | 5 => (.i64, ((9 : Nat) : Int))
  | 6 => (.i64, ((r : Nat) : Int))
  | 7 => (.u64, ((n : Nat) : Int))
  | 8 => (.i64, ((tw + 11 : Nat) : Int))
  | 9 => (.i64, ((n + 4 : Nat) : Int))
  | 10 => (.i64, ((r + 1 : Nat) : Int))
  | 11 => (.i64, ((r + 2 : Nat) : Int))
  | 12 => (.i64, ((r + 3 : Nat) : Int))
  | 13 => (.i64, ((r + 4 : Nat) : Int))
  | 14 => (.i64, ((r + 5 : Nat) : Int))
  | 15 => (.i64, ((r + 6 : Nat) : Int))
  | 16 => (.i64, ((8 : Nat) : Int))
  | 17 => (.i64, ((3 : Nat) : Int))
  | 18 => (.i64, ((10 : Nat) : Int))
  | 19 => (.i64, ((11 : Nat) : Int))
  | 20 => (.i64, ((11 + i : Nat) : Int))
  | 21 => (.i64, ((0 : Nat) : Int))
  | 22 => (.u64, wI (W (i)))
  | 23 => (.u64, wI (W (i) >>> (0)))
  | 24 => (.i64, ((12 + u : Nat) : Int))
  | 25 => (.i64, ((r + 7 : Nat) : Int))
  | 26 => (.i64, ((r + 8 : Nat) : Int))
  | 27 => (.i64, ((r + 9 : Nat) : Int))
  | 28 => (.i64, ((r + 10 : Nat) : Int))
  | 29 => (.i32, ((i : Nat) : Int))
  | 30 => (.i64, ((i + 1 : Nat) : Int))
  | 31 => (.i32, ((i + 1 : Nat) : Int))
  | 32 => (.i64, ((r + 11 : Nat) : Int))
  | 33 => (.i64, ((r + 12 : Nat) : Int))
  | 34 => (.i32, ((j : Nat) : Int))
  | 35 => (.i64, ((x : Nat) : Int))
  | 36 => (.i32, ((x : Nat) : Int))
  | 37 => (.i64, ((r + 13 : Nat) : Int))
  | 38 => (.i64, ((11 + u : Nat) : Int))
  | 39 => (.i64, ((i + 4 : Nat) : Int))
  | 40 => (.i64, ((13 + u : Nat) : Int))
  | 41 => (.u64, wI (W (u + 2)))
  | 42 => (.i64, ((14 + u : Nat) : Int))
  | 43 => (.i64, ((j / 2 : Nat) : Int))
  | 44 => (.i64, ((14 + u + j / 2 : Nat) : Int))
  | 45 => (.i64, ((j % 2 : Nat) : Int))
  | 46 => (.i64, ((j % 2 * 4 : Nat) : Int))
  | 47 => (.i64, ((j % 2 * 32 : Nat) : Int))
  | 48 => (.u64, wI (msk 32 (j % 2 * 32)))
  | 49 => (.u64, wI (W (u + j / 2 + 3)))
  | 50 => (.u64, wI (W (u + j / 2 + 3) &&& ~~~msk 32 (j % 2 * 32)))
  | 51 => (.u64, wI (BitVec.ofInt 64 (x)))
  | 52 => (.u64, wI ((BitVec.ofInt 64 (x)) <<< (j % 2 * 32)))
  | 53 => (.u64, wI (((BitVec.ofInt 64 (x)) <<< (j % 2 * 32)) &&& msk 32 (j % 2 * 32)))
  | 54 => (.u64, wI (setW 32 (j % 2 * 32) (W (u + j / 2 + 3)) (BitVec.ofInt 64 (x))))
  | _ => (.i64, 0)
abbrev vvC (n : Nat) (m : Nat) (i : Nat) (j : Nat) (s : Nat) (r : Nat) (tw : Nat) (u : Nat) (x : Nat) (W : Nat → BitVec 64) (F : Nat → Int) : Nat → Nat → Option AV
  | 0 => pvw [(.int .u64 0), (.int .u64 0), (.int .u64 1), (.int .u64 0), (.int .u64 0), (.int .u64 2), (.int .u64 0), (.int .u64 0), (.int .u64 3), (.int .u64 0), (.oi 7)] (11 + tw) (W)
  | 1 => pvn [(.int .i64 0), (.int .i64 2), (.int .i64 5), (.int .i64 8)] (n + 4) (F)
  | 2 => pvw [(.int .u64 0), (.int .u64 0), (.int .u64 1), (.int .u64 0), (.int .u64 0), (.int .u64 2), (.int .u64 0), (.int .u64 0), (.int .u64 3), (.int .u64 0), (.oi 7)] (11 + tw) (updQ W (u + j / 2 + 3) (j % 2 * 32) (BitVec.ofInt 64 (x)))
  | _ => fun _ => none
abbrev vkC (n : Nat) (m : Nat) (i : Nat) (j : Nat) (s : Nat) (r : Nat) (tw : Nat) (u : Nat) (x : Nat) (W : Nat → BitVec 64) (F : Nat → Int) : Nat → Nat
  | 0 => 11 + tw
  | 1 => n + 4
  | 2 => 11 + tw
  | _ => 0
theorem vpC (n : Nat) (m : Nat) (i : Nat) (j : Nat) (s : Nat) (r : Nat) (tw : Nat) (u : Nat) (x : Nat) (W : Nat → BitVec 64) (F : Nat → Int) : ∀ i_ m_ a_, vvC n m i j s r tw u x W F i_ m_ = some a_ → vplain a_ = true
  | 0, _, _, h => pvw_plain rfl h
  | 1, _, _, h => pvn_plain rfl h
  | 2, _, _, h => pvw_plain rfl h
  | _ + 3, _, _, h => (by cases h)
abbrev PC (n : Nat) (m : Nat) (i : Nat) (j : Nat) (s : Nat) (r : Nat) (tw : Nat) (u : Nat) (x : Nat) (W : Nat → BitVec 64) (F : Nat → Int) : Tab := ((bare (ivC n m i j s r tw u x W F) (vvC n m i j s r tw u x W F) (vkC n m i j s r tw u x W F) (vpC n m i j s r tw u x W F)).tab)
noncomputable abbrev bsC : BS := [(10416, 10416, kb11), (10422, 10422, kb0), (13762, 13762, kb1), (13763, 13763, kb2), (13765, 13765, (.map [((.str 10 345494350552775703080525), (.oi 6), 0)] 1)), (13766, 13766, kb12), (14064, 14064, kb3), (14391, 14391, kb4), (15753, 15753, kb5), (15758, 15758, kb6), (20000, 20000, kb7), (20001, 20001, kb14), (20002, 20002, kb15), (20003, 20003, (.vec 0)), (20004, 20004, (.vec 1)), (20005, 20005, kb10), (20006, 20006, kb13), (20007, 20007, (.cells 1 true [] (T.ofList 0 .leaf [(.ptr 20008 0)]))), (20008, 20008, (.cells 6 false [] (T.ofList 0 .leaf [(.int .i64 0), (.int .i64 0), (.ptr 14064 0), (.int .i64 0), (.int .i64 22), .nilp]))), (20010, 20010, kb8), (20011, 20011, kb9)]
def SC (n : Nat) (m : Nat) (i : Nat) (j : Nat) (s : Nat) (r : Nat) (tw : Nat) (u : Nat) (x : Nat) (W : Nat → BitVec 64) (F : Nat → Int) (B : Kp) (w0 : World) (μ : M) (a : Act) (w : World) : Prop := St (PC n m i j s r tw u x W F) B w0 μ Tryz.f42.ntmps (frOf fsR) (hOf 20040 bsC) a w
abbrev ivD (n : Nat) (m : Nat) (i : Nat) (j : Nat) (s : Nat) (r : Nat) (tw : Nat) (u : Nat) (x : Nat) (W : Nat → BitVec 64) (F : Nat → Int) : Nat → IntKind × Int
  | 0 => (.i64, ((n : Nat) : Int))
  | 1 => (.i64, ((m : Nat) : Int))
  | 2 => (.i64, ((i : Nat) : Int))
  | 3 => (.i64, ((s : Nat) : Int))
  | 4 => (.i64, ((j : Nat) : Int))
  | 5 => (.i64, ((9 : Nat) : Int))
  | 6 => (.i64, ((r : Nat) : Int))
  | 7 => (.u64, ((n : Nat) : Int))
  | 8 => (.i64, ((tw + 11 : Nat) : Int))
  | 9 => (.i64, ((n + 4 : Nat) : Int))
  | 10 => (.i64, ((r + 1 : Nat) : Int))
  | 11 => (.i64, ((r + 2 : Nat) : Int))
  | 12 => (.i64, ((r + 3 : Nat) : Int))
  | 13 => (.i64, ((r + 4 : Nat) : Int))
  | 14 => (.i64, ((8 : Nat) : Int))
  | 15 => (.i64, ((3 : Nat) : Int))
  | 16 => (.i64, ((10 : Nat) : Int))
  | 17 => (.i64, ((11 : Nat) : Int))
  | 18 => (.i64, ((11 + i : Nat) : Int))
  | 19 => (.i64, ((0 : Nat) : Int))
  | 20 => (.u64, wI (W (i)))
  | 21 => (.u64, wI (W (i) >>> (0)))
  | 22 => (.i64, ((12 + u : Nat) : Int))
  | 23 => (.i64, ((r + 5 : Nat) : Int))
  | 24 => (.i64, ((r + 6 : Nat) : Int))
  | 25 => (.i64, ((11 + u : Nat) : Int))
  | 26 => (.i64, ((i + 4 : Nat) : Int))
  | 27 => (.i64, ((13 + u : Nat) : Int))
  | 28 => (.u64, wI (W (u + 2)))
  | 29 => (.i64, ((14 + u : Nat) : Int))
  | 30 => (.i64, ((j / 2 : Nat) : Int))
  | 31 => (.i64, ((14 + u + j / 2 : Nat) : Int))
  | 32 => (.i64, ((j % 2 : Nat) : Int))
  | 33 => (.i64, ((j % 2 * 4 : Nat) : Int))
  | 34 => (.i64, ((j % 2 * 32 : Nat) : Int))
  | 35 => (.u64, wI (W (u + j / 2 + 3)))
  | 36 => (.u64, wI (W (u + j / 2 + 3) >>> (j % 2 * 32)))
  | 37 => (.i64, IntKind.i64.wrap (wI (W (u + j / 2 + 3) >>> (j % 2 * 32))))
  | 38 => (.i32, ((x : Nat) : Int))
  | 39 => (.i64, ((x : Nat) : Int))
  | 40 => (.i64, ((r + 7 : Nat) : Int))
  | 41 => (.i32, ((s : Nat) : Int))
  | 42 => (.i64, ((s + x : Nat) : Int))
  | 43 => (.i32, ((s + x : Nat) : Int))
  | 44 => (.i64, ((r + 8 : Nat) : Int))
  | 45 => (.i64, ((r + 9 : Nat) : Int))
  | 46 => (.i64, ((j + 1 : Nat) : Int))
  | 47 => (.i32, ((j + 1 : Nat) : Int))
  | 48 => (.i64, ((r + 10 : Nat) : Int))
  | _ => (.i64, 0)
abbrev vvD (n : Nat) (m : Nat) (i : Nat) (j : Nat) (s : Nat) (r : Nat) (tw : Nat) (u : Nat) (x : Nat) (W : Nat → BitVec 64) (F : Nat → Int) : Nat → Nat → Option AV
  | 0 => pvw [(.int .u64 0), (.int .u64 0), (.int .u64 1), (.int .u64 0), (.int .u64 0), (.int .u64 2), (.int .u64 0), (.int .u64 0), (.int .u64 3), (.int .u64 0), (.oi 7)] (11 + tw) (W)
  | 1 => pvn [(.int .i64 0), (.int .i64 2), (.int .i64 5), (.int .i64 8)] (n + 4) (F)
  | _ => fun _ => none
abbrev vkD (n : Nat) (m : Nat) (i : Nat) (j : Nat) (s : Nat) (r : Nat) (tw : Nat) (u : Nat) (x : Nat) (W : Nat → BitVec 64) (F : Nat → Int) : Nat → Nat
  | 0 => 11 + tw
  | 1 => n + 4
  | _ => 0
theorem vpD (n : Nat) (m : Nat) (i : Nat) (j : Nat) (s : Nat) (r : Nat) (tw : Nat) (u : Nat) (x : Nat) (W : Nat → BitVec 64) (F : Nat → Int) : ∀ i_ m_ a_, vvD n m i j s r tw u x W F i_ m_ = some a_ → vplain a_ = true
  | 0, _, _, h => pvw_plain rfl h
  | 1, _, _, h => pvn_plain rfl h
  | _ + 2, _, _, h => (by cases h)
abbrev PD (n : Nat) (m : Nat) (i : Nat) (j : Nat) (s : Nat) (r : Nat) (tw : Nat) (u : Nat) (x : Nat) (W : Nat → BitVec 64) (F : Nat → Int) : Tab := ((bare (ivD n m i j s r tw u x W F) (vvD n m i j s r tw u x W F) (vkD n m i j s r tw u x W F) (vpD n m i j s r tw u x W F)).tab)
noncomputable abbrev bsD : BS := [(10416, 10416, kb11), (10422, 10422, kb0), (13762, 13762, kb1), (13763, 13763, kb2), (13765, 13765, (.map [((.str 10 345494350552775703080525), (.oi 6), 0)] 1)), (13766, 13766, kb12), (14064, 14064, kb3), (14391, 14391, kb4), (15753, 15753, kb5), (15758, 15758, kb6), (20000, 20000, kb7), (20001, 20001, kb14), (20002, 20002, kb15), (20003, 20003, (.vec 0)), (20004, 20004, (.vec 1)), (20005, 20005, kb10), (20006, 20006, kb13), (20007, 20007, (.cells 1 true [] (T.ofList 0 .leaf [(.ptr 20008 0)]))), (20008, 20008, (.cells 6 false [] (T.ofList 0 .leaf [(.int .i64 0), (.int .i64 0), (.ptr 14064 0), (.int .i64 0), (.int .i64 38), .nilp]))), (20010, 20010, kb8), (20011, 20011, kb9)]
def SD (n : Nat) (m : Nat) (i : Nat) (j : Nat) (s : Nat) (r : Nat) (tw : Nat) (u : Nat) (x : Nat) (W : Nat → BitVec 64) (F : Nat → Int) (B : Kp) (w0 : World) (μ : M) (a : Act) (w : World) : Prop := St (PD n m i j s r tw u x W F) B w0 μ Tryz.f42.ntmps (frOf fsR) (hOf 20040 bsD) a w
end Go.Proofs.YthgncmohimdbmaaGreatDoor.mx
