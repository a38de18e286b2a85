/-
  States of the machine within the law TopSieve.
-/
import Derived.Test.YtfkfmjlppllfoaaGreatDoorXN3
import Derived.Test.YtfkfmjlppllfoaaGreatDoorProg
import Derived.KernelRfl
set_option linter.unusedSectionVars false
set_option linter.unusedVariables false
set_option maxRecDepth 1000000
set_option maxHeartbeats 0
namespace Go.Proofs.YtfkfmjlppllfoaaGreatDoor.sv
open Go.X Go.RowKit Go.Proofs.YtfkfmjlppllfoaaGreatDoor
theorem hOf_congr {N : Nat} {a b : BS} (h : bsOf a = bsOf b) : hOf N a = hOf N b := by unfold hOf; rw [h]
theorem mixed : Tryz.prog.follows .mixedOrders = true := by kernel_rfl
theorem vw_none {L : List AV} {k : Nat} {x : AV} {p : Prop} (h : L.length ≤ k) (e : L[k]? = some x) : p := by rw [List.getElem?_eq_none h] at e; cases e
theorem wI_ofNat {n : Nat} (h : n < 18446744073709551616) : wI (BitVec.ofNat 64 n) = (n : Int) := by
  show ((BitVec.ofNat 64 n).toNat : Int) = n
  rw [BitVec.toNat_ofNat, Nat.mod_eq_of_lt h]
noncomputable def fullR : Code := (Tryz.f47.body).getD .skip
noncomputable def la : Code := lpOf (restn 2 fullR)
noncomputable def tl : Code := tlOf (restn 2 fullR)
noncomputable abbrev fsR : List (Nat × AV) := [(0, .ptr 13767 0), (10, .ptr 20000 0)]
noncomputable abbrev kb0 : Blk := (.map [((.str 19 2439265639030268300842157990401791553877467498), (.ptr 7360 0), 0), ((.str 29 3085170664936786167588614718972924591866388410301586339335837578584426), (.ptr 7508 0), 1), ((.str 29 2977327179366744475310567174670984700336777289692309623825572795146602), (.ptr 7617 0), 2), ((.str 40 921438131347674524995356669863897659779420152864154109574888483886346161678995665599280333611370), (.ptr 7728 0), 3), ((.str 29 2977327179366744475310578792928741468592950331792981622238945052352874), (.ptr 7842 0), 4), ((.str 28 11630184294401345606682283003339240975915084228737354846334270988650), (.ptr 7955 0), 5), ((.str 31 202189744697330995387852485397630371027294446829100397077902765524415570282), (.ptr 8052 0), 6), ((.str 26 183890501555036136351903328603364899342229922045770665733546346), (.ptr 8146 0), 7), ((.str 15 594182256714433171583859471190221162), (.ptr 8237 0), 8), ((.str 19 2462787319999361794871408518597065734545105258), (.ptr 8327 0), 9), ((.str 37 56911353679811531822920492603033782110087255578636309514658723732473720363105297718731114), (.ptr 8433 0), 10), ((.str 28 12051447909910759173808661238977857107111767888823090726697178653034), (.ptr 8536 0), 11), ((.str 38 14060030080378334426808655457799320232265086119729716606675995945190890063755479020322840938), (.ptr 8651 0), 12), ((.str 38 14569306542030247732875768419210667608278730874565438596096215620376147580735894642209743210), (.ptr 8749 0), 13), ((.str 35 838043098472257520366253329360822735706660890049674080341799799296269125818196058474), (.ptr 8842 0), 14), ((.str 28 12051447909910278778317482300033197087305720853520054876288643916138), (.ptr 8947 0), 15), ((.str 22 42815343838886881203639546329033052610660173325164906), (.ptr 9046 0), 16), ((.str 36 214539033208897925213755128370838752992305990670598911423725060199978812837976799076714), (.ptr 9158 0), 17), ((.str 30 789803690223817235625993454897404583541813632134065715887439951296881002), (.ptr 9254 0), 18), ((.str 26 183890501555012814945400634590948384637649511452497603397575018), (.ptr 9355 0), 19), ((.str 27 47075968398083285027902446257440240237115773113246055769402925418), (.ptr 9457 0), 20), ((.str 30 762195757917886585679527096405151622096281774544538073876077408773628266), (.ptr 9567 0), 21), ((.str 16 154706541852025644484233205990057992554), (.ptr 9578 0), 22), ((.str 26 183890501555043540957095622503328518117729969598634276033028458), (.ptr 9689 0), 23), ((.str 26 177462528906270532328520934635542489792491443287338843928682858), (.ptr 9781 0), 24), ((.str 28 12051447909911140811364177168575840195048631602135540194265359868266), (.ptr 9888 0), 25), ((.str 16 137483774941304901841256615957136564586), (.ptr 9909 0), 26), ((.str 23 10956966084090815260342509131105871416374185281426186602), (.ptr 9966 0), 27), ((.str 41 235888161625004678398811307485157800903531559133223452051171428016118026562849321940164899390251370), (.ptr 10106 0), 28), ((.str 16 145412635431568811361768410208787652970), (.ptr 10118 0), 29), ((.str 19 2261816869159440624969593107871851903301607786), (.ptr 10206 0), 30), ((.str 38 14569306542031293471471962209605688152784288289213751582725315083544705153644676387098222954), (.ptr 10306 0), 31), ((.str 21 167247436870678459232146883126634948762985622298986), (.ptr 10406 0), 32)] 33)
noncomputable abbrev kb1 : Blk := (.cells 3 false [] (T.ofList 0 .leaf [(.map 7162), (.map 7163), (.so 15661 0 1 1)]))
noncomputable abbrev kb2 : Blk := (.map [((.str 19 2439265639030268300842157990401791553877467498), (.int .i64 0), 0), ((.str 28 12051447909911140811364177168575840195048631602135540194265359868266), (.int .i64 1), 1), ((.str 26 183890501555043540957095622503328518117729969598634276033028458), (.int .i64 2), 2)] 3)
noncomputable abbrev kb3 : Blk := (.cells 7 false [] (T.ofList 0 .leaf [(.ptr 10417 0), (.ptr 10419 0), (.ptr 7164 0), (.so 11137 0 39 3), .nils, (.bool false), (.bool false)]))
noncomputable abbrev kb4 : Blk := (.cells 4 false [] (T.ofList 0 .leaf [(.so 20001 0 5 1), (.so 20002 0 5 1), (.so 20006 0 1 7), (.int .i64 12)]))
noncomputable abbrev kb5 : Blk := (.map [((.str 1 77), (.ptr 20010 0), 0), ((.str 16 154706541852025644484233205990057992554), (.ptr 20011 0), 1)] 2)
noncomputable abbrev kb6 : Blk := (.cells 9 true [] (T.ofList 0 .leaf [(.str 19 2439265639030268300842157990401791553877467498), .nils, (.int .u8 0), (.str 28 12051447909911140811364177168575840195048631602135540194265359868266), (.so 13886 0 1 1), (.int .u8 0), (.str 26 183890501555043540957095622503328518117729969598634276033028458), (.so 13982 0 1 1), (.int .u8 0)]))
noncomputable abbrev kb7 : Blk := (.cells 3 true [] (T.ofList 0 .leaf [(.int .i64 0), (.int .i64 2), (.int .i64 5)]))
noncomputable abbrev kb8 : Blk := (.cells 8 false [] (T.ofList 0 .leaf [(.int .i64 52), (.sl 14067 0 11 11), (.int .i64 33), (.str 1 77), (.str 16 154706541852025644484233205990057992554), .nils, .nils, (.so 15659 0 1 9)]))
noncomputable abbrev kb9 : Blk := (.cells 55 false [(.int .i64 0), (.str 0 0), (.int .i64 0), (.int .i64 0), (.int .i64 0)] (ofPairs [(5, (.int .i64 1)), (6, (.str 2 23131)), (7, (.int .i64 0)), (8, (.int .i64 0)), (9, (.int .i64 0)), (10, (.int .i64 7)), (11, (.str 0 0)), (12, (.int .i64 0)), (13, (.int .i64 1)), (14, (.int .i64 0)), (15, (.int .i64 1)), (16, (.str 2 28519)), (17, (.int .i64 0)), (18, (.int .i64 0)), (19, (.int .i64 0)), (20, (.int .i64 1)), (21, (.str 4 1227442472)), (22, (.int .i64 0)), (23, (.int .i64 0)), (24, (.int .i64 0)), (25, (.int .i64 1)), (26, (.str 13 8035587729358898777305137640531)), (27, (.int .i64 0)), (28, (.int .i64 0)), (29, (.int .i64 0)), (30, (.int .i64 1)), (31, (.str 4 1701080899)), (32, (.int .i64 0)), (33, (.int .i64 0)), (34, (.int .i64 0)), (35, (.int .i64 1)), (36, (.str 1 77)), (37, (.int .i64 0)), (38, (.int .i64 0)), (39, (.int .i64 0)), (40, (.int .i64 7)), (41, (.str 0 0)), (42, (.int .i64 0)), (43, (.int .i64 7)), (44, (.int .i64 0)), (45, (.int .i64 1)), (46, (.str 16 154706541852025644484233205990057992554)), (47, (.int .i64 0)), (48, (.int .i64 0)), (49, (.int .i64 0)), (50, (.int .i64 7)), (51, (.str 0 0)), (52, (.int .i64 0)), (53, (.int .i64 9)), (54, (.int .i64 0))]))
noncomputable abbrev kb10 : Blk := (.cells 57 true [] (T.ofList 0 .leaf [(.int .u8 3), (.int .u8 60), (.int .u8 3), (.int .u8 61), (.int .u8 3), (.int .u8 62), (.int .u8 26), (.int .u8 4), (.int .u8 96), (.int .u8 188), (.int .u8 4), (.int .u8 58), (.int .u8 4), (.int .u8 5), (.int .u8 60), (.int .u8 27), (.int .u8 26), (.int .u8 163), (.int .u8 0), (.int .u8 38), (.int .u8 25), (.int .u8 4), (.int .u8 27), (.int .u8 51), (.int .u8 154), (.int .u8 0), (.int .u8 25), (.int .u8 132), (.int .u8 3), (.int .u8 1), (.int .u8 27), (.int .u8 61), (.int .u8 28), (.int .u8 26), (.int .u8 163), (.int .u8 0), (.int .u8 15), (.int .u8 25), (.int .u8 4), (.int .u8 28), (.int .u8 4), (.int .u8 84), (.int .u8 28), (.int .u8 27), (.int .u8 96), (.int .u8 61), (.int .u8 167), (.int .u8 255), (.int .u8 242), (.int .u8 132), (.int .u8 1), (.int .u8 1), (.int .u8 167), (.int .u8 255), (.int .u8 219), (.int .u8 29), (.int .u8 172)]))
noncomputable abbrev kb11 : Blk := (.cells 16 true [] (T.ofList 0 .leaf [(.int .i64 255), (.int .i64 15), (.so 15561 0 5 3), .nils, (.int .i64 255), (.int .i64 16), (.so 15591 0 5 3), .nils, (.int .i64 255), (.int .i64 16), (.so 15621 0 5 3), .nils, (.int .i64 255), (.int .i64 5), (.so 15651 0 5 3), .nils]))
noncomputable abbrev kb12 : Blk := (.cells 9 true [] (T.ofList 0 .leaf [(.int .i64 9), (.str 2 28519), (.str 4 1227442472), (.bool true), (.int .i64 3), (.int .i64 5), (.so 14379 0 57 1), .nils, (.so 15654 0 4 4)]))
noncomputable abbrev kb13 : Blk := (.cells 11 false [] (T.ofList 0 .leaf [(.int .i64 0), (.int .i64 0), (.int .u8 0), (.int .i64 0), (.str 0 0), (.str 0 0), (.bool false), (.int .i64 0), .nils, (.int .i64 0), (.int .i64 0)]))
noncomputable abbrev kb14 : Blk := (.cells 2 false [] (T.ofList 0 .leaf [(.int .i64 2), (.sl 18427 0 0 0)]))
noncomputable abbrev kb15 : Blk := (.cells 2 false [] (T.ofList 0 .leaf [(.int .i64 2), .nils]))
noncomputable abbrev kb16 : Blk := (.cells 5 false [] (T.ofList 0 .leaf [(.ptr 7164 0), (.ov 20003 8 1), (.so 20004 0 4 1), (.so 20005 0 4 3), (.map 10416)]))
noncomputable abbrev kb17 : Blk := (.cells 32 false [] (T.ofList 0 .leaf [(.ptr 7164 0), (.ptr 10422 0), (.ptr 10417 0), (.ptr 10419 0), (.ptr 10423 0), (.ptr 13763 0), (.so 20007 0 1 1), (.map 13764), (.map 13765), .nils, (.int .i64 1), (.int .i64 3), (.int .i64 6), (.int .i64 0), .nilp, (.bool true), (.int .i64 100000), (.oi 4), (.int .i64 0), (.int .i64 1), (.int .i64 0), (.int .i64 0), (.int .u8 0), (.int .i64 0), (.str 0 0), (.str 0 0), (.bool false), (.int .i64 0), .nils, (.int .i64 0), (.int .i64 0), (.map 13766)]))
noncomputable abbrev kb18 : Blk := (.cells 7 true [] (ofPairs [(0, (.int .i64 0)), (1, (.int .i64 0)), (3, (.int .i64 0)), (4, (.int .i64 5)), (5, (.int .i64 3)), (6, (.int .i64 0))]))
noncomputable abbrev kb19 : Blk := (.cells 12 true [] (T.ofList 0 .leaf [(.str 19 2439265639030268300842157990401791553877467498), .nils, (.int .u8 0), (.str 28 12051447909911140811364177168575840195048631602135540194265359868266), (.so 13886 0 1 1), (.int .u8 0), (.str 26 183890501555043540957095622503328518117729969598634276033028458), (.so 13982 0 1 1), (.int .u8 0), (.str 2 23131), .nils, (.int .u8 90)]))
noncomputable abbrev kb20 : Blk := (.cells 4 true [] (T.ofList 0 .leaf [(.int .i64 0), (.int .i64 2), (.int .i64 5), (.oi 6)]))
noncomputable abbrev kb21 : Blk := (.cells 5 true [] (T.ofList 0 .leaf [(.oi 0), (.oi 1), (.oi 3), (.oi 2), (.oi 7)]))
noncomputable abbrev kb22 : Blk := (.cells 5 true [] (T.ofList 0 .leaf [(.bool false), (.bool false), (.bool false), (.bool false), (.bool true)]))
abbrev ivB (n : Nat) : Nat → IntKind × Int
  | 0 => (.i64, ((n : Nat) : Int))
  | 1 => (.i32, ((n : Nat) : Int))
  | 2 => (.i64, ((n + 1 : Nat) : Int))
  | 3 => (.i32, ((n + 1 : Nat) : Int))
  | _ => (.i64, 0)
abbrev vvB (n : Nat) : Nat → Nat → Option AV
  | _ => fun _ => none
abbrev vkB (n : Nat) : Nat → Nat
  | _ => 0
theorem vpB (n : Nat) : ∀ i m a, vvB n i m = some a → vplain a = true
  | _, _, _, h => (by cases h)
abbrev PB (n : Nat) : Tab := ((bare (ivB n) (vvB n) (vkB n) (vpB n)).tab)
noncomputable abbrev bsB : BS := [(7162, 7162, (.map [((.str 1 77), (.ptr 14065 0), 0)] 1)), (7163, 7163, kb0), (7164, 7164, kb1), (10416, 10416, kb2), (10417, 10417, (.cells 5 false [] (T.ofList 0 .leaf [(.ptr 7164 0), (.so 13985 0 8 1), (.so 13987 0 3 1), (.so 13984 0 3 3), (.map 10416)]))), (10423, 10423, kb3), (13763, 13763, kb4), (13764, 13764, kb5), (13766, 13766, (.map [] 0)), (13767, 13767, (.cells 32 false [] (T.ofList 0 .leaf [(.ptr 7164 0), (.ptr 10422 0), (.ptr 10417 0), (.ptr 10419 0), (.ptr 10423 0), (.ptr 13763 0), (.so 20007 0 1 1), (.map 13764), (.map 13765), .nils, (.int .i64 1), (.int .i64 3), (.int .i64 6), (.int .i64 0), .nilp, (.bool true), (.int .i64 100000), (.int .i64 0), (.int .i64 0), (.int .i64 0), (.int .i64 0), (.int .i64 0), (.int .u8 0), (.int .i64 0), (.str 0 0), (.str 0 0), (.bool false), (.int .i64 0), .nils, (.int .i64 0), (.int .i64 0), (.map 13766)]))), (13984, 13984, kb6), (13985, 13985, (.cells 8 true [] (T.ofList 0 .leaf [(.int .u64 0), (.int .u64 0), (.int .u64 1), (.int .u64 0), (.int .u64 0), (.int .u64 2), (.int .u64 0), (.int .u64 0)]))), (13987, 13987, kb7), (14065, 14065, kb8), (14067, 14067, kb9), (14379, 14379, kb10), (15654, 15654, kb11), (15659, 15659, kb12), (20000, 20000, kb13), (20001, 20001, (.cells 5 true [] (T.ofList 0 .leaf [(.oi 0), (.int .i64 0), (.int .i64 0), (.int .i64 0), (.int .i64 0)]))), (20002, 20002, (.cells 5 true [] (T.ofList 0 .leaf [(.bool false), (.bool false), (.bool false), (.bool false), (.bool false)]))), (20006, 20006, (.cells 7 true [] (T.ofList 0 .leaf [(.int .i64 0), (.int .i64 0), (.int .i64 0), (.int .i64 0), (.int .i64 5), (.int .i64 3), (.int .i64 0)]))), (20007, 20007, (.cells 1 true [] (T.ofList 0 .leaf [(.ptr 20008 0)]))), (20008, 20008, (.cells 6 false [] (T.ofList 0 .leaf [(.int .i64 0), (.int .i64 0), (.ptr 14065 0), (.int .i64 0), (.int .i64 0), .nilp]))), (20010, 20010, kb14), (20011, 20011, kb15)]
def SB (n : Nat) (B : Kp) (w0 : World) (μ : M) (a : Act) (w : World) : Prop := St (PB n) B w0 μ Tryz.f47.ntmps (frOf fsR) (hOf 20040 bsB) a w
abbrev ivN (n : Nat) : Nat → IntKind × Int
  | 0 => (.i64, ((n : Nat) : Int))
  | 1 => (.i64, ((n + 1 : Nat) : Int))
  | 2 => (.i64, ((8 : Nat) : Int))
  | 3 => (.i64, ((n + 9 : Nat) : Int))
  | 4 => (.i64, ((n + 8 : Nat) : Int))
  | 5 => (.i64, (((n + 8) / 8 : Nat) : Int))
  | 6 => (.i64, ((3 + (n + 8) / 8 : Nat) : Int))
  | 7 => (.i64, 2040)
  | 8 => (.i64, ((11 + (n + 8) / 8 : Nat) : Int))
  | 9 => (.i64, ((9 : Nat) : Int))
  | 10 => (.i64, ((10 : Nat) : Int))
  | 11 => (.u64, ((n + 1 : Nat) : Int))
  | _ => (.i64, 0)
abbrev vvN (n : Nat) : Nat → Nat → Option AV
  | 0 => pvw [(.int .u64 0), (.int .u64 0), (.int .u64 1), (.int .u64 0), (.int .u64 0), (.int .u64 2), (.int .u64 0), (.int .u64 0)] (8) (fun _ => 0#64)
  | 1 => pvw [(.int .u64 0), (.int .u64 0), (.int .u64 1), (.int .u64 0), (.int .u64 0), (.int .u64 2), (.int .u64 0), (.int .u64 0)] (11 + (n + 8) / 8) (fun _ => 0#64)
  | 2 => pvw [(.int .u64 0), (.int .u64 0), (.int .u64 1), (.int .u64 0), (.int .u64 0), (.int .u64 2), (.int .u64 0), (.int .u64 0)] (11 + (n + 8) / 8) (fun q => if q = 0 then 3#64 else 0#64)
  | 3 => pvw [(.int .u64 0), (.int .u64 0), (.int .u64 1), (.int .u64 0), (.int .u64 0), (.int .u64 2), (.int .u64 0), (.int .u64 0)] (11 + (n + 8) / 8) (fun q => if q = 2 then BitVec.ofNat 64 (n + 1) else if q = 0 then 3#64 else 0#64)
  | _ => fun _ => none
abbrev vkN (n : Nat) : Nat → Nat
  | 0 => 8
  | 1 => 11 + (n + 8) / 8
  | 2 => 11 + (n + 8) / 8
  | 3 => 11 + (n + 8) / 8
  | _ => 0
theorem vpN (n : Nat) : ∀ i m a, vvN n i m = some a → vplain a = true
  | 0, _, _, h => pvw_plain rfl h
  | 1, _, _, h => pvw_plain rfl h
  | 2, _, _, h => pvw_plain rfl h
  | 3, _, _, h => pvw_plain rfl h
  | _ + 4, _, _, h => (by cases h)
abbrev PN (n : Nat) : Tab := ((bare (ivN n) (vvN n) (vkN n) (vpN n)).tab)
noncomputable abbrev bsN : BS := [(7162, 7162, (.map [((.str 1 77), (.ptr 14065 0), 0)] 1)), (7163, 7163, kb0), (7164, 7164, kb1), (10416, 10416, kb2), (10417, 10417, (.cells 5 false [] (T.ofList 0 .leaf [(.ptr 7164 0), (.ov 20003 2 1), (.so 20004 0 3 1), (.so 20005 0 3 3), (.map 10416)]))), (10423, 10423, kb3), (13763, 13763, (.cells 4 false [] (T.ofList 0 .leaf [(.so 20001 0 6 1), (.so 20002 0 6 1), (.so 20006 0 1 7), (.int .i64 12)]))), (13764, 13764, kb5), (13766, 13766, (.map [((.str 9 1349587270641094438477), (.int .i64 9), 0)] 1)), (13767, 13767, (.cells 32 false [] (T.ofList 0 .leaf [(.ptr 7164 0), (.ptr 10422 0), (.ptr 10417 0), (.ptr 10419 0), (.ptr 10423 0), (.ptr 13763 0), (.so 20007 0 1 1), (.map 13764), (.map 13765), .nils, (.int .i64 1), (.int .i64 3), (.int .i64 6), (.int .i64 0), .nilp, (.bool true), (.int .i64 100000), (.int .i64 9), (.int .i64 0), (.int .i64 1), (.int .i64 0), (.int .i64 0), (.int .u8 0), (.int .i64 0), (.str 0 0), (.str 0 0), (.bool false), (.int .i64 0), .nils, (.int .i64 0), (.int .i64 0), (.map 13766)]))), (14065, 14065, kb8), (14067, 14067, kb9), (14379, 14379, kb10), (15654, 15654, kb11), (15659, 15659, kb12), (20000, 20000, kb13), (20001, 20001, (.cells 6 true [] (T.ofList 0 .leaf [(.oi 0), (.int .i64 0), (.int .i64 0), (.int .i64 0), (.int .i64 0), (.oi 1)]))), (20002, 20002, (.cells 6 true [] (T.ofList 0 .leaf [(.bool false), (.bool false), (.bool false), (.bool false), (.bool false), (.bool false)]))), (20003, 20003, (.vec 0)), (20004, 20004, kb7), (20005, 20005, kb6), (20006, 20006, (.cells 7 true [] (ofPairs [(0, (.int .i64 0)), (1, (.int .i64 0)), (3, (.int .i64 0)), (4, (.int .i64 5)), (5, (.int .i64 3)), (6, (.int .i64 1))]))), (20007, 20007, (.cells 1 true [] (T.ofList 0 .leaf [(.ptr 20008 0)]))), (20008, 20008, (.cells 6 false [] (T.ofList 0 .leaf [(.int .i64 0), (.int .i64 0), (.ptr 14065 0), (.int .i64 0), (.int .i64 9), .nilp]))), (20010, 20010, kb14), (20011, 20011, kb15)]
def SN (n : Nat) (B : Kp) (w0 : World) (μ : M) (a : Act) (w : World) : Prop := St (PN n) B w0 μ Tryz.f47.ntmps (frOf fsR) (hOf 20040 bsN) a w
abbrev ivT (n : Nat) (i : Nat) (j : Nat) (c : Nat) (r : Nat) (W : Nat → BitVec 64) : Nat → IntKind × Int
  | 0 => (.i64, ((n : Nat) : Int))
  | 1 => (.i64, ((i : Nat) : Int))
  | 2 => (.i64, ((c : Nat) : Int))
  | 3 => (.i64, ((j : Nat) : Int))
  | 4 => (.i64, ((r : Nat) : Int))
  | 5 => (.u64, ((n + 1 : Nat) : Int))
  | 6 => (.i64, ((8 : Nat) : Int))
  | 7 => (.i64, ((9 : Nat) : Int))
  | 8 => (.i64, ((11 + (n + 8) / 8 : Nat) : Int))
  | 9 => (.i64, ((r + 1 : Nat) : Int))
  | 10 => (.i64, ((r + 2 : Nat) : Int))
  | 11 => (.i64, ((r + 3 : Nat) : Int))
  | 12 => (.i64, ((r + 4 : Nat) : Int))
  | 13 => (.i64, ((r + 5 : Nat) : Int))
  | 14 => (.i64, ((r + 6 : Nat) : Int))
  | 15 => (.i64, ((10 : Nat) : Int))
  | 16 => (.i64, ((n + 1 : Nat) : Int))
  | 17 => (.i64, ((11 : Nat) : Int))
  | 18 => (.i64, ((i / 8 : Nat) : Int))
  | 19 => (.i64, ((11 + i / 8 : Nat) : Int))
  | 20 => (.i64, ((i % 8 : Nat) : Int))
  | 21 => (.i64, ((i % 8 * 8 : Nat) : Int))
  | 22 => (.u64, wI (W (i / 8)))
  | 23 => (.u64, wI (W (i / 8) >>> (i % 8 * 8)))
  | 24 => (.i64, IntKind.i64.wrap (wI (W (i / 8) >>> (i % 8 * 8))))
  | 25 => (.i64, IntKind.i64.wrap (wI (W (i / 8) >>> (i % 8 * 8))) % 2)
  | 26 => (.i64, ((r + 7 : Nat) : Int))
  | 27 => (.i64, ((r + 8 : Nat) : Int))
  | 28 => (.i64, ((i + 1 : Nat) : Int))
  | 29 => (.i32, ((i + 1 : Nat) : Int))
  | 30 => (.i64, ((r + 9 : Nat) : Int))
  | 31 => (.i64, ((c + 1 : Nat) : Int))
  | 32 => (.i32, ((c + 1 : Nat) : Int))
  | 33 => (.i64, ((r + 10 : Nat) : Int))
  | _ => (.i64, 0)
abbrev vvT (n : Nat) (i : Nat) (j : Nat) (c : Nat) (r : Nat) (W : Nat → BitVec 64) : Nat → Nat → Option AV
  | 0 => pvw [(.int .u64 0), (.int .u64 0), (.int .u64 1), (.int .u64 0), (.int .u64 0), (.int .u64 2), (.int .u64 0), (.int .u64 0), (.int .u64 3), (.int .u64 0), (.oi 5)] (11 + (n + 8) / 8) (W)
  | _ => fun _ => none
abbrev vkT (n : Nat) (i : Nat) (j : Nat) (c : Nat) (r : Nat) (W : Nat → BitVec 64) : Nat → Nat
  | 0 => 11 + (n + 8) / 8
  | _ => 0
theorem vpT (n : Nat) (i : Nat) (j : Nat) (c : Nat) (r : Nat) (W : Nat → BitVec 64) : ∀ i m a, vvT n i j c r W i m = some a → vplain a = true
  | 0, _, _, h => pvw_plain rfl h
  | _ + 1, _, _, h => (by cases h)
abbrev PT (n : Nat) (i : Nat) (j : Nat) (c : Nat) (r : Nat) (W : Nat → BitVec 64) : Tab := ((bare (ivT n i j c r W) (vvT n i j c r W) (vkT n i j c r W) (vpT n i j c r W)).tab)
noncomputable abbrev bsT : BS := [(10417, 10417, kb16), (10423, 10423, kb3), (13763, 13763, kb4), (13764, 13764, kb5), (13766, 13766, (.map [((.str 9 1349587270641094438477), (.oi 4), 0)] 1)), (13767, 13767, kb17), (14065, 14065, kb8), (14379, 14379, kb10), (15654, 15654, kb11), (15659, 15659, kb12), (20000, 20000, kb13), (20001, 20001, kb21), (20002, 20002, kb22), (20003, 20003, (.vec 0)), (20004, 20004, kb20), (20005, 20005, kb19), (20006, 20006, kb18), (20007, 20007, (.cells 1 true [] (T.ofList 0 .leaf [(.ptr 20008 0)]))), (20008, 20008, (.cells 6 false [] (T.ofList 0 .leaf [(.int .i64 0), (.int .i64 0), (.ptr 14065 0), (.int .i64 0), (.int .i64 15), .nilp]))), (20010, 20010, kb14), (20011, 20011, kb15)]
def ST (n : Nat) (i : Nat) (j : Nat) (c : Nat) (r : Nat) (W : Nat → BitVec 64) (B : Kp) (w0 : World) (μ : M) (a : Act) (w : World) : Prop := St (PT n i j c r W) B w0 μ Tryz.f47.ntmps (frOf fsR) (hOf 20040 bsT) a w
abbrev ivI (n : Nat) (i : Nat) (j : Nat) (c : Nat) (r : Nat) (W : Nat → BitVec 64) : Nat → IntKind × Int
  | 0 => (.i64, ((n : Nat) : Int))
  | 1 => (.i64, ((i : Nat) : Int))
  | 2 => (.i64, ((c : Nat) : Int))
  | 3 => (.i64, ((j : Nat) : Int))
  | 4 => (.i64, ((r : Nat) : Int))
  | 5 => (.u64, ((n + 1 : Nat) : Int))
  | 6 => (.i64, ((8 : Nat) : Int))
  | 7 => (.i64, ((9 : Nat) : Int))
  | 8 => (.i64, ((11 + (n + 8) / 8 : Nat) : Int))
  | 9 => (.i64, ((r + 1 : Nat) : Int))
  | 10 => (.i64, ((r + 2 : Nat) : Int))
  | 11 => (.i64, ((r + 3 : Nat) : Int))
  | 12 => (.i64, ((r + 4 : Nat) : Int))
  | 13 => (.i64, ((r + 5 : Nat) : Int))
  | 14 => (.i64, ((r + 6 : Nat) : Int))
  | 15 => (.i64, ((r + 7 : Nat) : Int))
  | 16 => (.i64, ((10 : Nat) : Int))
  | 17 => (.i64, ((n + 1 : Nat) : Int))
  | 18 => (.i64, ((11 : Nat) : Int))
  | 19 => (.i64, ((j / 8 : Nat) : Int))
  | 20 => (.i64, ((11 + j / 8 : Nat) : Int))
  | 21 => (.i64, ((j % 8 : Nat) : Int))
  | 22 => (.i64, ((j % 8 * 8 : Nat) : Int))
  | 23 => (.u64, wI (msk 8 (j % 8 * 8)))
  | 24 => (.u64, wI (W (j / 8)))
  | 25 => (.u64, wI (W (j / 8) &&& ~~~msk 8 (j % 8 * 8)))
  | 26 => (.u64, wI (1#64 <<< (j % 8 * 8)))
  | 27 => (.u64, wI ((1#64 <<< (j % 8 * 8)) &&& msk 8 (j % 8 * 8)))
  | 28 => (.u64, wI (setW 8 (j % 8 * 8) (W (j / 8)) 1#64))
  | 29 => (.i64, ((r + 8 : Nat) : Int))
  | 30 => (.i64, ((r + 9 : Nat) : Int))
  | 31 => (.i64, ((r + 10 : Nat) : Int))
  | 32 => (.i32, ((j : Nat) : Int))
  | 33 => (.i32, ((i : Nat) : Int))
  | 34 => (.i64, ((j + i : Nat) : Int))
  | 35 => (.i32, ((j + i : Nat) : Int))
  | 36 => (.i64, ((r + 11 : Nat) : Int))
  | 37 => (.i64, ((r + 12 : Nat) : Int))
  | 38 => (.i64, ((i + 1 : Nat) : Int))
  | 39 => (.i32, ((i + 1 : Nat) : Int))
  | _ => (.i64, 0)
abbrev vvI (n : Nat) (i : Nat) (j : Nat) (c : Nat) (r : Nat) (W : Nat → BitVec 64) : Nat → Nat → Option AV
  | 0 => pvw [(.int .u64 0), (.int .u64 0), (.int .u64 1), (.int .u64 0), (.int .u64 0), (.int .u64 2), (.int .u64 0), (.int .u64 0), (.int .u64 3), (.int .u64 0), (.oi 5)] (11 + (n + 8) / 8) (W)
  | 1 => pvw [(.int .u64 0), (.int .u64 0), (.int .u64 1), (.int .u64 0), (.int .u64 0), (.int .u64 2), (.int .u64 0), (.int .u64 0), (.int .u64 3), (.int .u64 0), (.oi 5)] (11 + (n + 8) / 8) (upd 8 8 W j 1#64)
  | _ => fun _ => none
abbrev vkI (n : Nat) (i : Nat) (j : Nat) (c : Nat) (r : Nat) (W : Nat → BitVec 64) : Nat → Nat
  | 0 => 11 + (n + 8) / 8
  | 1 => 11 + (n + 8) / 8
  | _ => 0
theorem vpI (n : Nat) (i : Nat) (j : Nat) (c : Nat) (r : Nat) (W : Nat → BitVec 64) : ∀ i m a, vvI n i j c r W i m = some a → vplain a = true
  | 0, _, _, h => pvw_plain rfl h
  | 1, _, _, h => pvw_plain rfl h
  | _ + 2, _, _, h => (by cases h)
abbrev PI (n : Nat) (i : Nat) (j : Nat) (c : Nat) (r : Nat) (W : Nat → BitVec 64) : Tab := ((bare (ivI n i j c r W) (vvI n i j c r W) (vkI n i j c r W) (vpI n i j c r W)).tab)
noncomputable abbrev bsI : BS := [(10417, 10417, kb16), (10423, 10423, kb3), (13763, 13763, kb4), (13764, 13764, kb5), (13766, 13766, (.map [((.str 9 1349587270641094438477), (.oi 4), 0)] 1)), (13767, 13767, kb17), (14065, 14065, kb8), (14379, 14379, kb10), (15654, 15654, kb11), (15659, 15659, kb12), (20000, 20000, kb13), (20001, 20001, kb21), (20002, 20002, kb22), (20003, 20003, (.vec 0)), (20004, 20004, kb20), (20005, 20005, kb19), (20006, 20006, kb18), (20007, 20007, (.cells 1 true [] (T.ofList 0 .leaf [(.ptr 20008 0)]))), (20008, 20008, (.cells 6 false [] (T.ofList 0 .leaf [(.int .i64 0), (.int .i64 0), (.ptr 14065 0), (.int .i64 0), (.int .i64 32), .nilp]))), (20010, 20010, kb14), (20011, 20011, kb15)]
def SI (n : Nat) (i : Nat) (j : Nat) (c : Nat) (r : Nat) (W : Nat → BitVec 64) (B : Kp) (w0 : World) (μ : M) (a : Act) (w : World) : Prop := St (PI n i j c r W) B w0 μ Tryz.f47.ntmps (frOf fsR) (hOf 20040 bsI) a w
end Go.Proofs.YtfkfmjlppllfoaaGreatDoor.sv
