/-
  What the law TopCollatz gives: the law itself.
-/
import Derived.Test.YtedimikdpclpnaaGreatDoorCOM
set_option linter.unusedSectionVars false
set_option linter.unusedVariables false
set_option maxRecDepth 1000000
set_option maxHeartbeats 0
namespace Go.Proofs.YtedimikdpclpnaaGreatDoor.co
open Go.X Go.RowKit
section
variable {B : Kp} {w0 : World} {μ : M} {a : Act} {w : World}
noncomputable abbrev bsL : BS := [(7121, 7121, (.map [((.str 1 77), (.ptr 14024 0), 0)] 1)), (7122, 7122, (.map [((.str 19 2439265639030268300842157990401791553877467498), (.ptr 7319 0), 0), ((.str 29 3085170664936786167588614718972924591866388410301586339335837578584426), (.ptr 7467 0), 1), ((.str 29 2977327179366744475310567174670984700336777289692309623825572795146602), (.ptr 7576 0), 2), ((.str 40 921438131347674524995356669863897659779420152864154109574888483886346161678995665599280333611370), (.ptr 7687 0), 3), ((.str 29 2977327179366744475310578792928741468592950331792981622238945052352874), (.ptr 7801 0), 4), ((.str 28 11630184294401345606682283003339240975915084228737354846334270988650), (.ptr 7914 0), 5), ((.str 31 202189744697330995387852485397630371027294446829100397077902765524415570282), (.ptr 8011 0), 6), ((.str 26 183890501555036136351903328603364899342229922045770665733546346), (.ptr 8105 0), 7), ((.str 15 594182256714433171583859471190221162), (.ptr 8196 0), 8), ((.str 19 2462787319999361794871408518597065734545105258), (.ptr 8286 0), 9), ((.str 37 56911353679811531822920492603033782110087255578636309514658723732473720363105297718731114), (.ptr 8392 0), 10), ((.str 28 12051447909910759173808661238977857107111767888823090726697178653034), (.ptr 8495 0), 11), ((.str 38 14060030080378334426808655457799320232265086119729716606675995945190890063755479020322840938), (.ptr 8610 0), 12), ((.str 38 14569306542030247732875768419210667608278730874565438596096215620376147580735894642209743210), (.ptr 8708 0), 13), ((.str 35 838043098472257520366253329360822735706660890049674080341799799296269125818196058474), (.ptr 8801 0), 14), ((.str 28 12051447909910278778317482300033197087305720853520054876288643916138), (.ptr 8906 0), 15), ((.str 22 42815343838886881203639546329033052610660173325164906), (.ptr 9005 0), 16), ((.str 36 214539033208897925213755128370838752992305990670598911423725060199978812837976799076714), (.ptr 9117 0), 17), ((.str 30 789803690223817235625993454897404583541813632134065715887439951296881002), (.ptr 9213 0), 18), ((.str 26 183890501555012814945400634590948384637649511452497603397575018), (.ptr 9314 0), 19), ((.str 27 47075968398083285027902446257440240237115773113246055769402925418), (.ptr 9416 0), 20), ((.str 30 762195757917886585679527096405151622096281774544538073876077408773628266), (.ptr 9526 0), 21), ((.str 16 154706541852025644484233205990057992554), (.ptr 9537 0), 22), ((.str 26 183890501555043540957095622503328518117729969598634276033028458), (.ptr 9648 0), 23), ((.str 26 177462528906270532328520934635542489792491443287338843928682858), (.ptr 9740 0), 24), ((.str 28 12051447909911140811364177168575840195048631602135540194265359868266), (.ptr 9847 0), 25), ((.str 16 137483774941304901841256615957136564586), (.ptr 9868 0), 26), ((.str 23 10956966084090815260342509131105871416374185281426186602), (.ptr 9925 0), 27), ((.str 41 235888161625004678398811307485157800903531559133223452051171428016118026562849321940164899390251370), (.ptr 10065 0), 28), ((.str 16 145412635431568811361768410208787652970), (.ptr 10077 0), 29), ((.str 19 2261816869159440624969593107871851903301607786), (.ptr 10165 0), 30), ((.str 38 14569306542031293471471962209605688152784288289213751582725315083544705153644676387098222954), (.ptr 10265 0), 31), ((.str 21 167247436870678459232146883126634948762985622298986), (.ptr 10365 0), 32)] 33)), (7123, 7123, (.cells 3 false [] (T.ofList 0 .leaf [(.map 7121), (.map 7122), (.so 15359 0 1 1)]))), (9537, 9537, (.cells 8 false [] (T.ofList 0 .leaf [(.int .i64 52), .nils, (.int .i64 33), (.str 16 154706541852025644484233205990057992554), (.str 0 0), .nils, .nils, (.so 9549 0 3 9)]))), (10379, 10379, (.map [] 0)), (10380, 10380, (.map [] 0)), (10381, 10381, (.cells 3 false [] (T.ofList 0 .leaf [(.ptr 7123 0), (.map 10379), (.map 10380)]))), (10382, 10382, (.cells 7 false [] (T.ofList 0 .leaf [(.ptr 10376 0), (.ptr 10378 0), (.ptr 7123 0), (.so 11096 0 39 3), .nils, (.bool false), (.bool false)]))), (13722, 13722, (.cells 4 false [] (T.ofList 0 .leaf [.nils, .nils, .nils, (.int .i64 0)]))), (13723, 13723, (.map [] 0)), (13724, 13724, (.map [] 0)), (13725, 13725, (.map [] 0)), (13726, 13726, (.cells 32 false [] (T.ofList 0 .leaf [(.ptr 7123 0), (.ptr 10381 0), (.ptr 10376 0), (.ptr 10378 0), (.ptr 10382 0), (.ptr 13722 0), .nils, (.map 13723), (.map 13724), .nils, (.int .i64 1), (.int .i64 3), (.int .i64 6), (.int .i64 0), .nilp, (.bool false), (.int .i64 0), (.int .i64 0), (.int .i64 0), (.int .i64 0), (.int .i64 0), (.int .i64 0), (.int .u8 0), (.int .i64 0), (.str 0 0), (.str 0 0), (.bool false), (.int .i64 0), .nils, (.int .i64 0), (.int .i64 0), (.map 13725)]))), (13947, 13947, (.cells 2 false [] (T.ofList 0 .leaf [(.ptr 7123 0), (.ptr 13726 0)]))), (13948, 13948, (.cells 2 false [] (T.ofList 0 .leaf [(.ptr 13947 0), (.bool true)]))), (14024, 14024, (.cells 8 false [] (T.ofList 0 .leaf [(.int .i64 52), (.sl 14026 0 13 13), (.int .i64 33), (.str 1 77), (.str 16 154706541852025644484233205990057992554), .nils, .nils, (.so 15357 0 1 9)]))), (14026, 14026, (.cells 65 false [(.int .i64 0), (.str 0 0), (.int .i64 0), (.int .i64 0), (.int .i64 0)] (ofPairs [(5, (.int .i64 5)), (6, (.str 0 0)), (7, (.int .i64 2)), (8, (.int .i64 0)), (9, (.int .i64 0)), (10, (.int .i64 0)), (11, (.str 0 0)), (12, (.int .i64 0)), (13, (.int .i64 0)), (14, (.int .i64 0)), (15, (.int .i64 5)), (16, (.str 0 0)), (17, (.int .i64 3)), (18, (.int .i64 0)), (19, (.int .i64 0)), (20, (.int .i64 0)), (21, (.str 0 0)), (22, (.int .i64 0)), (23, (.int .i64 0)), (24, (.int .i64 0)), (25, (.int .i64 1)), (26, (.str 2 28519)), (27, (.int .i64 0)), (28, (.int .i64 0)), (29, (.int .i64 0)), (30, (.int .i64 1)), (31, (.str 4 1227442472)), (32, (.int .i64 0)), (33, (.int .i64 0)), (34, (.int .i64 0)), (35, (.int .i64 1)), (36, (.str 13 8035587729358898777305137640531)), (37, (.int .i64 0)), (38, (.int .i64 0)), (39, (.int .i64 0)), (40, (.int .i64 1)), (41, (.str 4 1701080899)), (42, (.int .i64 0)), (43, (.int .i64 0)), (44, (.int .i64 0)), (45, (.int .i64 1)), (46, (.str 1 77)), (47, (.int .i64 0)), (48, (.int .i64 0)), (49, (.int .i64 0)), (50, (.int .i64 7)), (51, (.str 0 0)), (52, (.int .i64 0)), (53, (.int .i64 9)), (54, (.int .i64 0)), (55, (.int .i64 1)), (56, (.str 16 154706541852025644484233205990057992554)), (57, (.int .i64 0)), (58, (.int .i64 0)), (59, (.int .i64 0)), (60, (.int .i64 7)), (61, (.str 0 0)), (62, (.int .i64 0)), (63, (.int .i64 11)), (64, (.int .i64 0))]))), (14323, 14323, (.cells 43 true [] (T.ofList 0 .leaf [(.int .u8 26), (.int .u8 133), (.int .u8 64), (.int .u8 3), (.int .u8 62), (.int .u8 31), (.int .u8 10), (.int .u8 148), (.int .u8 153), (.int .u8 0), (.int .u8 33), (.int .u8 31), (.int .u8 136), (.int .u8 4), (.int .u8 126), (.int .u8 154), (.int .u8 0), (.int .u8 12), (.int .u8 31), (.int .u8 20), (.int .u8 0), (.int .u8 1), (.int .u8 109), (.int .u8 64), (.int .u8 167), (.int .u8 0), (.int .u8 11), (.int .u8 31), (.int .u8 20), (.int .u8 0), (.int .u8 3), (.int .u8 105), (.int .u8 10), (.int .u8 97), (.int .u8 64), (.int .u8 132), (.int .u8 3), (.int .u8 1), (.int .u8 167), (.int .u8 255), (.int .u8 223), (.int .u8 29), (.int .u8 172)]))), (15289, 15289, (.cells 9 true [] (T.ofList 0 .leaf [(.int .i64 1), (.str 0 0), (.int .i64 0), (.int .i64 4), (.str 0 0), (.int .i64 0), (.int .i64 1), (.str 0 0), (.int .i64 0)]))), (15309, 15309, (.cells 9 true [] (T.ofList 0 .leaf [(.int .i64 1), (.str 0 0), (.int .i64 0), (.int .i64 4), (.str 0 0), (.int .i64 0), (.int .i64 1), (.str 0 0), (.int .i64 0)]))), (15329, 15329, (.cells 9 true [] (T.ofList 0 .leaf [(.int .i64 1), (.str 0 0), (.int .i64 0), (.int .i64 4), (.str 0 0), (.int .i64 0), (.int .i64 1), (.str 0 0), (.int .i64 0)]))), (15349, 15349, (.cells 9 true [] (T.ofList 0 .leaf [(.int .i64 1), (.str 0 0), (.int .i64 0), (.int .i64 4), (.str 0 0), (.int .i64 0), (.int .i64 1), (.str 0 0), (.int .i64 0)]))), (15352, 15352, (.cells 16 true [] (T.ofList 0 .leaf [(.int .i64 255), (.int .i64 5), (.so 15289 0 3 3), .nils, (.int .i64 255), (.int .i64 21), (.so 15309 0 3 3), .nils, (.int .i64 255), (.int .i64 7), (.so 15329 0 3 3), .nils, (.int .i64 255), (.int .i64 5), (.so 15349 0 3 3), .nils]))), (15357, 15357, (.cells 9 true [] (T.ofList 0 .leaf [(.int .i64 9), (.str 2 28519), (.str 4 1227442472), (.bool true), (.int .i64 5), (.int .i64 4), (.so 14323 0 43 1), .nils, (.so 15352 0 4 4)])))]
noncomputable abbrev rlL : List (Nat × Nat) := [(7121, 7121), (7122, 7122), (7123, 7123), (7319, 7319), (7467, 7467), (7576, 7576), (7687, 7687), (7801, 7801), (7914, 7914), (8011, 8011), (8105, 8105), (8196, 8196), (8286, 8286), (8392, 8392), (8495, 8495), (8610, 8610), (8708, 8708), (8801, 8801), (8906, 8906), (9005, 9005), (9117, 9117), (9213, 9213), (9314, 9314), (9416, 9416), (9526, 9526), (9537, 9537), (9549, 9549), (9648, 9648), (9740, 9740), (9847, 9847), (9868, 9868), (9925, 9925), (10065, 10065), (10077, 10077), (10165, 10165), (10265, 10265), (10365, 10365), (10376, 10376), (10378, 10378), (10379, 10379), (10380, 10380), (10381, 10381), (10382, 10382), (11096, 11096), (13722, 13722), (13723, 13723), (13724, 13724), (13725, 13725), (13726, 13726), (13947, 13947), (13948, 13948), (14024, 14024), (14026, 14026), (14323, 14323), (15289, 15289), (15309, 15309), (15329, 15329), (15349, 15349), (15352, 15352), (15357, 15357), (15359, 15359)]
noncomputable abbrev fsA : List (Nat × AV) := [(0, .oi 0), (3, .bool true), (10, .ptr 13948 0), (11, .int .i64 0)]
noncomputable abbrev fsL : List (Nat × AV) := [(0, .oi 0), (3, .bool true), (10, .ptr 13948 0), (11, .oi 2), (12, .oi 1)]
noncomputable abbrev fsM : List (Nat × AV) := [(0, .oi 0), (3, .bool true), (10, .ptr 13948 0), (11, .oi 1)]
abbrev ivL (n x k : Int) : Nat → IntKind × Int
  | 0 => (.i64, n)
  | 1 => (.i64, x)
  | 2 => (.i64, k)
  | 3 => (.i64, x.tmod 2)
  | 4 => (.i64, x.tdiv 2)
  | 5 => (.i64, 3 * x)
  | 6 => (.i64, 3 * x + 1)
  | 7 => (.i64, k + 1)
  | _ => (.i64, 0)
abbrev PL (n x k : Int) : Tab := (bare (ivL n x k) noV noK noVp).tab
abbrev RLV {n x k : Int} (h : x % 2 = 0) (h1 : 2 ≤ x) (h2 : x ≤ 2000000) (t1 : 0 ≤ x.tdiv 2) (t2 : x.tdiv 2 ≤ x) (t3 : x.tmod 2 = 0) (k0 : 0 ≤ k) (k1 : k < 1000) : VRows (ivL n x k) noV noK where
  vvp := noVp
  ib := [(10, .oi 1, .int .i64 1, .bool true), (4, .oi 1, .int .i64 2, .oi 3), (9, .oi 3, .int .i64 0, .bool true), (3, .oi 1, .int .i64 2, .oi 4), (0, .oi 2, .int .i64 1, .oi 7)]
  ibok := by
    letI := Tab.empty
    exact ibCons (ibNe (a := x) (b := 1) rfl rfl (decide_eq_false (by omega))) (ibCons (ibRem (a := x) (b := 2) (c := x.tmod 2) rfl rfl rfl (by decide) rfl) (ibCons (ibEq (a := x.tmod 2) (b := 0) rfl rfl (decide_eq_true t3)) (ibCons (ibQuo (a := x) (b := 2) (c := x.tdiv 2) rfl rfl rfl (by decide) rfl (by omega) (by omega)) (ibCons (ibAdd (a := k) (b := 1) (c := k + 1) rfl rfl rfl rfl (by omega) (by omega)) ibNil))))
abbrev RLO {n x k : Int} (h : x % 2 = 1) (h1 : 2 ≤ x) (h2 : x ≤ 2000000) (t3 : x.tmod 2 = 1) (k0 : 0 ≤ k) (k1 : k < 1000) : VRows (ivL n x k) noV noK where
  vvp := noVp
  ib := [(10, .oi 1, .int .i64 1, .bool true), (4, .oi 1, .int .i64 2, .oi 3), (9, .oi 3, .int .i64 0, .bool false), (2, .int .i64 3, .oi 1, .oi 5), (0, .oi 5, .int .i64 1, .oi 6), (0, .oi 2, .int .i64 1, .oi 7)]
  ibok := by
    letI := Tab.empty
    exact ibCons (ibNe (a := x) (b := 1) rfl rfl (decide_eq_false (by omega))) (ibCons (ibRem (a := x) (b := 2) (c := x.tmod 2) rfl rfl rfl (by decide) rfl) (ibCons (ibEq (a := x.tmod 2) (b := 0) rfl rfl (decide_eq_false (by omega))) (ibCons (ibMul (a := 3) (b := x) (c := 3 * x) rfl rfl rfl rfl (by omega) (by omega)) (ibCons (ibAdd (a := 3 * x) (b := 1) (c := 3 * x + 1) rfl rfl rfl rfl (by omega) (by omega)) (ibCons (ibAdd (a := k) (b := 1) (c := k + 1) rfl rfl rfl rfl (by omega) (by omega)) ibNil)))))
abbrev RLE {n x k : Int} (h : x = 1) : VRows (ivL n x k) noV noK where
  vvp := noVp
  ib := [(10, .oi 1, .int .i64 1, .bool false)]
  ibok := by
    letI := Tab.empty
    exact ibCons (ibNe (a := x) (b := 1) rfl rfl (decide_eq_true h)) ibNil
noncomputable abbrev NL : Nat := Tryz.f3.ntmps
def SL (n x k : Int) (w0 : World) (a : Act) (w : World) : Prop := St (PL n x k) (Kp.below w0.heap.size) w0 (fun _ => none) NL (frOf fsL) (hOf 15360 bsL) a w
theorem goLV {n x k : Int} (h : x % 2 = 0) (h1 : 2 ≤ x) (h2 : x ≤ 2000000) (k0 : 0 ≤ k) (k1 : k < 1000) {Q : Exit → Act → World → Prop} {j : Nat} (s : SL n x k w0 a w) (hQ : ∀ a' w', SL n (x.tdiv 2) (k + 1) w0 a' w' → Code.rounds Tryz.prog laL Q j a' w') : Code.rounds Tryz.prog laL Q (j + 1) a w := by
  have t0 := half h1
  have t1 : 0 ≤ x.tdiv 2 := by omega
  have t2 : x.tdiv 2 ≤ x := by omega
  have t3 : x.tmod 2 = 0 := by rw [Int.tmod_eq_emod_of_nonneg (by omega)]; exact h
  exact stepsTo_sound (T := (RLV (n := n) h h1 h2 t1 t2 t3 k0 k1).tab) (T' := PL n (x.tdiv 2) (k + 1)) (K := Hand.none) (m := 100) mixed (@HandOk.none (RLV (n := n) h h1 h2 t1 t2 t3 k0 k1).tab Tryz.prog) (C := ⟨0, 15360, ofPairs rlL, [(.oi 0, 0), (.oi 4, 1), (.oi 7, 2)]⟩) (ex := .normal) (rl := rlL) (vp := []) (fs := fsL) (bs := bsL)
    (Base.none _) (Nat.zero_le _) rfl (by kernel_rfl) (ipCons (ipN (.i64, n) rfl rfl) (ipCons (ipN (.i64, x.tdiv 2) rfl rfl) (ipCons (ipN (.i64, k + 1) rfl rfl) ipNil))) vpNil (glNone rfl rfl) (by as_aux_lemma => kernel_rfl) (St.same (VRows.same _ _) s) hQ
theorem goLO {n x k : Int} (h : x % 2 = 1) (h1 : 2 ≤ x) (h2 : x ≤ 2000000) (k0 : 0 ≤ k) (k1 : k < 1000) {Q : Exit → Act → World → Prop} {j : Nat} (s : SL n x k w0 a w) (hQ : ∀ a' w', SL n (3 * x + 1) (k + 1) w0 a' w' → Code.rounds Tryz.prog laL Q j a' w') : Code.rounds Tryz.prog laL Q (j + 1) a w := by
  have t3 : x.tmod 2 = 1 := by rw [Int.tmod_eq_emod_of_nonneg (by omega)]; exact h
  exact stepsTo_sound (T := (RLO (n := n) h h1 h2 t3 k0 k1).tab) (T' := PL n (3 * x + 1) (k + 1)) (K := Hand.none) (m := 100) mixed (@HandOk.none (RLO (n := n) h h1 h2 t3 k0 k1).tab Tryz.prog) (C := ⟨0, 15360, ofPairs rlL, [(.oi 0, 0), (.oi 6, 1), (.oi 7, 2)]⟩) (ex := .normal) (rl := rlL) (vp := []) (fs := fsL) (bs := bsL)
    (Base.none _) (Nat.zero_le _) rfl (by kernel_rfl) (ipCons (ipN (.i64, n) rfl rfl) (ipCons (ipN (.i64, 3 * x + 1) rfl rfl) (ipCons (ipN (.i64, k + 1) rfl rfl) ipNil))) vpNil (glNone rfl rfl) (by as_aux_lemma => kernel_rfl) (St.same (VRows.same _ _) s) hQ
def QL {n : Int} (g1 : 1 ≤ n) (g2 : n ≤ 3000) (R kk : Int) (w0 : World) (e : Exit) (a : Act) (w : World) : Prop := e = .exit 0 ∧ St (TF R kk g1 g2) (Kp.below w0.heap.size) w0 (fun _ => none) NL (frOf fsM) (hOf 15360 bsL) a w
theorem endL {n R kk : Int} (g1 : 1 ≤ n) (g2 : n ≤ 3000) {x k : Int} (h : x = 1) (hR : R = k) (s : SL n x k w0 a w) : Code.rounds Tryz.prog laL (QL g1 g2 R kk w0) (0 + 1) a w := by
  refine stepsTo_sound (T := (RLE (n := n) (k := k) h).tab) (T' := TF R kk g1 g2) (K := Hand.none) (m := 100) mixed (@HandOk.none (RLE (n := n) (k := k) h).tab Tryz.prog) (C := ⟨0, 15360, ofPairs rlL, [(.oi 0, 0), (.oi 2, 1)]⟩) (ex := .exit 0) (rl := rlL) (vp := []) (fs := fsM) (bs := bsL)
    (Base.none _) (Nat.zero_le _) rfl (by kernel_rfl) (ipCons (ipN (.i64, n) rfl rfl) (ipCons (ipN (.i64, R) (by show (IntKind.i64, k) = _; rw [hR]) rfl) ipNil)) vpNil (glNone rfl rfl) (by as_aux_lemma => kernel_rfl) (St.same (VRows.same _ _) s) (fun a' w' q => ?_)
  exact ⟨rfl, q⟩
theorem roundsL {n0 R kk : Int} (g1 : 1 ≤ n0) (g2 : n0 ≤ 3000) {x : Int} {n : Nat} (en : Col x n) : ∀ (k : Int) (a : Act) (w : World), 0 ≤ k → k + n < 1000 → k + n = R → SL n0 x k w0 a w → Code.rounds Tryz.prog laL (QL g1 g2 R kk w0) (n + 1) a w := by
  induction en with
  | one =>
    intro k a w k0 k1 hR s
    exact endL g1 g2 rfl (by omega) s
  | even h h2 h3 c ih =>
    rename_i x n
    intro k a w k0 k1 hR s
    have c1 : k < 1000 := by omega
    have c2 : 0 ≤ k + 1 := by omega
    have c3 : k + 1 + n < 1000 := by omega
    have c4 : k + 1 + n = R := by omega
    exact goLV h h2 h3 k0 c1 s fun a' w' s2 => ih (k + 1) a' w' c2 c3 c4 s2
  | odd h h2 h3 c ih =>
    rename_i x n
    intro k a w k0 k1 hR s
    have c1 : k < 1000 := by omega
    have c2 : 0 ≤ k + 1 := by omega
    have c3 : k + 1 + n < 1000 := by omega
    have c4 : k + 1 + n = R := by omega
    have hz : x * 3 + 1 = 3 * x + 1 := by omega
    rw [hz] at ih
    exact goLO h h2 h3 k0 c1 s fun a' w' s2 => ih (k + 1) a' w' c2 c3 c4 s2
theorem runL {n R kk : Int} (g1 : 1 ≤ n) (g2 : n ≤ 3000) : runTrue (TF R kk g1 g2) Tryz.prog ((inHand CR).or K_top0) 5000 Tryz.f3 tlL (frOf fsM) (hOf 15360 bsL) = true := (by as_aux_lemma => kernel_rfl)
def SA (n : Int) (w0 : World) (a : Act) (w : World) : Prop := St (PL n 0 0) (Kp.below w0.heap.size) w0 (fun _ => none) NL (frOf fsA) (hOf 15360 bsL) a w
theorem headL {n : Int} (s : SA n w0 a w) : hdL.wp Tryz.prog (fun e a' w' => e = .normal ∧ SL n n 0 w0 a' w') a w := by
  refine runTo_sound (T := PL n 0 0) (T' := PL n n 0) (K := Hand.none) (n := 100) mixed (@HandOk.none (PL n 0 0) Tryz.prog) (C := ⟨0, 15360, ofPairs rlL, [(.oi 0, 0), (.oi 0, 1), (.int .i64 0, 2)]⟩) (ex := .normal) (rl := rlL) (vp := []) (fs := fsL) (bs := bsL)
    (Base.none _) (Nat.zero_le _) rfl (by kernel_rfl) (ipCons (ipN (.i64, n) rfl rfl) (ipCons (ipN (.i64, n) rfl rfl) (ipCons (ipK rfl) ipNil))) vpNil (glNone rfl rfl) (by as_aux_lemma => kernel_rfl) s
theorem backL {n : Int} (g1 : 1 ≤ n) (g2 : n ≤ 3000) (s : SA n w0 a w) : (restn 25 fullL).wp Tryz.prog (Yes Tryz.prog Tryz.f3 (Kp.below w0.heap.size) w0) a w := by
  obtain ⟨m, hm, en⟩ := col_ex n g1 g2
  obtain ⟨t, ht, et⟩ := colT en
  rw [restL_eq]
  refine wp_seq (wp_seq (wp_mono (headL s) ?_))
  rintro e1 a1 w1 ⟨rfl, s1⟩
  have c1 : (0 : Int) + m < 1000 := by omega
  refine wp_block (wp_mono (wp_loop_rounds (m + 1) (roundsL (R := 0 + (m : Int)) (kk := 5 + t + 6) g1 g2 en 0 a1 w1 (by decide) c1 rfl s1)) ?_)
  rintro e2 a2 w2 ⟨rfl, s2⟩
  letI : Tab := TF (0 + (m : Int)) (5 + t + 6) g1 g2
  exact runTrue_sound (T := TF (0 + (m : Int)) (5 + t + 6) g1 g2) mixed (HandOk.or (inHand_ok (CR_ok g1 g2 et hm ht (by omega) rfl) (by kernel_rfl)) K_top0_ok) (runL g1 g2) s2
abbrev ivT (z n r t : Int) : Nat → IntKind × Int
  | 0 => (.i64, z)
  | 1 => (.i64, r)
  | 2 => (.i64, t)
  | 3 => (.i64, n)
  | _ => (.i64, 0)
abbrev RTp {z n r t : Int} (hr : z.tmod 3000 = r) (h0 : 0 ≤ r) (h1 : r < 3000) (hn : n = 1 + r) : VRows (ivT z n r t) noV noK where
  vvp := noVp
  ib := [(4, .oi 0, .int .i64 3000, .oi 1), (11, .oi 1, .int .i64 0, .bool false), (0, .int .i64 1, .oi 1, .oi 3)]
  ibok := by
    letI := Tab.empty
    exact ibCons (ibRem (a := z) (b := 3000) (c := r) rfl rfl rfl (by decide) hr) (ibCons (ibLt (a := r) (b := 0) rfl rfl (decide_eq_false (by omega))) (ibCons (ibAdd (a := 1) (b := r) (c := n) rfl rfl rfl (by omega) (by omega) (by omega)) ibNil))
abbrev RTn {z n r t : Int} (hr : z.tmod 3000 = r) (h0 : r < 0) (h1 : -3000 < r) (ht : t = -r) (hn : n = 1 + t) : VRows (ivT z n r t) noV noK where
  vvp := noVp
  ib := [(4, .oi 0, .int .i64 3000, .oi 1), (11, .oi 1, .int .i64 0, .bool true), (0, .int .i64 1, .oi 2, .oi 3)]
  ibok := by
    letI := Tab.empty
    exact ibCons (ibRem (a := z) (b := 3000) (c := r) rfl rfl rfl (by decide) hr) (ibCons (ibLt (a := r) (b := 0) rfl rfl (decide_eq_true (by omega))) (ibCons (ibAdd (a := 1) (b := t) (c := n) rfl rfl rfl (by omega) (by omega) (by omega)) ibNil))
theorem iuTn {z n r t : Int} (h0 : r < 0) (h1 : -3000 < r) (ht : t = -r) : ∀ q ∈ ([(0, .oi 1, .oi 2)] : List (Nat × AV × AV)), ∀ op, ucode op = q.1 → ∃ k n_ v, denI (ivT z n r t) q.2.1 = some (k, n_) ∧ unI op k n_ = some v ∧ outI (ivT z n r t) q.2.2 v := fun q hq op hop => by
  simp only [List.mem_cons, List.not_mem_nil, or_false] at hq
  subst hq
  have : op = .neg := by cases op <;> simp [ucode] at hop; rfl
  subst this
  exact ⟨.i64, r, .int .i64 (IntKind.i64.wrap (0 - r)), rfl, rfl, by rw [wrap64 (by omega) (by omega)]; show some (IntKind.i64, t) = some (IntKind.i64, 0 - r); congr 2; omega⟩
abbrev TTp {z n r t : Int} (hr : z.tmod 3000 = r) (h0 : 0 ≤ r) (h1 : r < 3000) (hn : n = 1 + r) : Tab := (RTp (t := t) hr h0 h1 hn).tab
abbrev TTn {z n r t : Int} (hr : z.tmod 3000 = r) (h0 : r < 0) (h1 : -3000 < r) (ht : t = -r) (hn : n = 1 + t) : Tab := { (RTn hr h0 h1 ht hn).tab with
  iu := [(0, .oi 1, .oi 2)]
  iuok := iuTn h0 h1 ht }
theorem yesp {z n r t : Int} (hr : z.tmod 3000 = r) (h0 : 0 ≤ r) (h1 : r < 3000) (hn : n = 1 + r) (w : World) : Calls Tryz.prog 3 #[.int .i64 z] w fun e w' => e = .returned (.bool true) ∧ Below w.heap.size w w' := by
  refine yes_calls Tryz.func3 bodyL_eq w ?_
  have s0 := @St.start (TTp (t := t) hr h0 h1 hn) [.oi 0] #[.int .i64 z] NL w ⟨fun g o a h => (by cases h), fun i m a h => (by cases h)⟩ (@vrels_cons (TTp (t := t) hr h0 h1 hn) _ _ _ _ _ (by simp only [vrel]; rfl) (by simp [vrels])) (show 1 ≤ NL by decide +kernel) (show 1 < limit by decide)
  refine firstTo_sound (T := (TTp (t := t) hr h0 h1 hn)) (T' := PL n 0 0) (K := K_top0) (m := 5000) (n := 25) mixed (@K_top0_ok (TTp (t := t) hr h0 h1 hn)) (C := ⟨0, 15360, ofPairs rlL, [(.oi 3, 0)]⟩) (rl := rlL) (vp := []) (fs := fsA) (bs := bsL)
    (Base.none _) (Nat.zero_le _) rfl (by kernel_rfl) (ipCons (ipN (.i64, n) rfl rfl) ipNil) vpNil (glNone rfl rfl) (by as_aux_lemma => kernel_rfl) s0 fun a' w' s => ?_
  exact backL (by omega) (by omega) s
theorem yesn {z n r t : Int} (hr : z.tmod 3000 = r) (h0 : r < 0) (h1 : -3000 < r) (ht : t = -r) (hn : n = 1 + t) (w : World) : Calls Tryz.prog 3 #[.int .i64 z] w fun e w' => e = .returned (.bool true) ∧ Below w.heap.size w w' := by
  refine yes_calls Tryz.func3 bodyL_eq w ?_
  have s0 := @St.start (TTn hr h0 h1 ht hn) [.oi 0] #[.int .i64 z] NL w ⟨fun g o a h => (by cases h), fun i m a h => (by cases h)⟩ (@vrels_cons (TTn hr h0 h1 ht hn) _ _ _ _ _ (by simp only [vrel]; rfl) (by simp [vrels])) (show 1 ≤ NL by decide +kernel) (show 1 < limit by decide)
  refine firstTo_sound (T := (TTn hr h0 h1 ht hn)) (T' := PL n 0 0) (K := K_top0) (m := 5000) (n := 25) mixed (@K_top0_ok (TTn hr h0 h1 ht hn)) (C := ⟨0, 15360, ofPairs rlL, [(.oi 3, 0)]⟩) (rl := rlL) (vp := []) (fs := fsA) (bs := bsL)
    (Base.none _) (Nat.zero_le _) rfl (by kernel_rfl) (ipCons (ipN (.i64, n) rfl rfl) ipNil) vpNil (glNone rfl rfl) (by as_aux_lemma => kernel_rfl) s0 fun a' w' s => ?_
  exact backL (by omega) (by omega) s
end
end Go.Proofs.YtedimikdpclpnaaGreatDoor.co
