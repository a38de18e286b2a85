/-
  What the law TopMessage gives: its tables.
-/
import Derived.Test.YtaajjlnckckkkaaGreatDoorTML
import Derived.Test.YtaajjlnckckkkaaGreatDoorTMT0
import Derived.Test.YtaajjlnckckkkaaGreatDoorXN3
set_option linter.unusedSectionVars false
set_option linter.unusedVariables false
set_option maxRecDepth 1000000
set_option maxHeartbeats 0
namespace Go.Proofs.YtaajjlnckckkkaaGreatDoor.tm
open Go.X Go.RowKit Go.X.chars8
/-- texts that stand in the class's pool -/
abbrev spec : List (Nat × Nat) := [(0, 0), (1, 77), (2, 28519), (3, 5646632), (4, 1701080899), (6, 68669705972028), (16, 154706541852025644484233205990057992554), (21, 125924534186164816246133852188561726513007718714408), (26, 177462528906270532328520934635542489792491443287338843928682858)]
abbrev nes : List (Nat × Nat) := [(2, 19811), (2, 19829), (3, 7300981), (4, 1445537909), (5, 435476710261), (7, 17579444728839285), (11, 104161979579338611789216878), (17, 39604874714118564987963700733454846093923), (17, 39604874714118564987963700733454846093941), (22, 32236680751658192959010266160271801987329975990888565), (27, 45430407400005256276101359266698877386877809481558744045742811747), (27, 45430407400005256276101359266698877386877809481558744045742811765), (29, 2322897654733271659415344237233796435521171202361315822457964567542894), (38, 10969536774233605500730641210075259226778150389484724426426711032056526147976039997930302010), (56, 244629675331477753414069453071480165356928060306514306237623101260563747464660466825429405836652371146532316975948283923542640590678586)]
abbrev ivT (s : ByteArray) (n : Nat) (m : Nat) : IntKind × Int := if m < 100 then (if m = 61 then (.i64, (n : Int)) else (.i64, (s.size : Int))) else ivC (byt s) m
theorem ivT_ge {s : ByteArray} {n : Nat} (m : Nat) (h : 100 ≤ m) : ivT s n m = ivC (byt s) m := by unfold ivT; rw [if_neg (by omega)]
structure Ok (s : ByteArray) (L : Nat) : Prop where
  hl : s.size = L
  h40 : L ≤ 40
  hU : ∀ k, 1 ≤ byt s k ∧ byt s k ≤ 126
  hs : ∀ p ∈ spec, s ≠ strOf p.1 p.2
/-- texts by name: what comes in, with a mark ahead, and the whole of which it is a part -/
abbrev strT (s t : ByteArray) : Nat → ByteArray
  | 0 => s
  | 1 => strOf 1 117 ++ s
  | 2 => strOf 1 115 ++ s
  | _ => t
abbrev neT : Nat → List (Nat × Nat)
  | 1 => nes
  | 2 => nes
  | _ => []
theorem nes_is : ∀ p ∈ nes, 0 < p.1 ∧ p.2 % 256 ≠ 115 ∧ (p.2 % 256 ≠ 117 ∨ (p.1 - 1, p.2 / 256) ∈ spec) := by decide +kernel
theorem neT_ok {s t : ByteArray} (hs : ∀ p ∈ spec, s ≠ strOf p.1 p.2) : ∀ i p, p ∈ neT i → p.2 < 256 ^ p.1 → strT s t i ≠ strOf p.1 p.2 := by
  intro i p hp _
  match i, hp with
  | 1, hp =>
    obtain ⟨h0, _, h⟩ := nes_is p hp
    obtain ⟨n, c⟩ := p
    obtain ⟨n, rfl⟩ : ∃ m, n = m + 1 := ⟨n - 1, by simp only at h0; omega⟩
    rcases h with h | h
    · exact ne_first (by decide) h
    · exact ne_rest (by decide) (hs _ h)
  | 2, hp =>
    obtain ⟨h0, h, _⟩ := nes_is p hp
    obtain ⟨n, c⟩ := p
    obtain ⟨n, rfl⟩ : ∃ m, n = m + 1 := ⟨n - 1, by simp only at h0; omega⟩
    exact ne_first (by decide) h
  | 0, hp => exact absurd hp (by simp [neT])
  | (i + 3), hp => exact absurd hp (by simp [neT])
/-- rows of texts: bytes one by one -/
def r1 (l : List TRow) : Nat → List TRow
  | 0 => l
  | k + 1 => (1, [.ostr 0, .int .i64 (k : Int)], .oi (B k)) :: r1 l k
theorem r1_ok {s t : ByteArray} {iv : Nat → IntKind × Int} (hiv : ∀ m, 100 ≤ m → iv m = ivC (byt s) m) {l : List TRow} (hl : ∀ r ∈ l, TrOk (strT s t) iv r.1 r.2.1 r.2.2) : ∀ k, k ≤ s.size → ∀ r ∈ r1 l k, TrOk (strT s t) iv r.1 r.2.1 r.2.2
  | 0, _ => hl
  | k + 1, hk => by
    unfold r1
    refine txCons ?_ (r1_ok hiv hl k (by omega))
    have hb := byt_some (s := s) (k := k) (by omega)
    exact ⟨s, .i64, k, s[k], rfl, rfl, hb.1, by rw [atB hiv k, hb.2]⟩
def rT (L : Nat) (l : List TRow) : List TRow :=
  (0, [.ostr 0], .int .i64 (L : Int)) :: (3, [.str 1 117, .ostr 0], .ostr 1) :: (3, [.str 1 115, .ostr 0], .ostr 2) :: (7, [.ostr 0], .agg (bl L 0)) :: (6, bl L 0, .ostr 0) ::
  (4, [.ostr 1, .ostr 2], .bool false) :: (4, [.ostr 2, .ostr 1], .bool false) :: (4, [.ostr 0, .ostr 0], .bool true) :: r1 l L
theorem bl_is {s : ByteArray} {iv : Nat → IntKind × Int} (hiv : ∀ m, 100 ≤ m → iv m = ivC (byt s) m) {L : Nat} (hL : s.size = L) : (bl L 0).map (denI iv) = s.data.toList.map fun x => some (IntKind.u8, (x.toNat : Int)) := by
  rw [bl_den hiv L 0]
  have := congrArg (List.map fun n : Int => some (IntKind.u8, n)) (byt_list s)
  rw [List.map_map, List.map_map, hL] at this
  exact this
theorem u_ne_s (s t : ByteArray) : strOf 1 117 ++ s ≠ strOf 1 115 ++ t := fun e => absurd (str1_inj (by decide) (by decide) e).1 (by decide)
theorem rT_ok {s t : ByteArray} {iv : Nat → IntKind × Int} (hiv : ∀ m, 100 ≤ m → iv m = ivC (byt s) m) {L : Nat} (hL : s.size = L) (h40 : L ≤ 40) {l : List TRow} (hl : ∀ r ∈ l, TrOk (strT s t) iv r.1 r.2.1 r.2.2) : ∀ r ∈ rT L l, TrOk (strT s t) iv r.1 r.2.1 r.2.2 := by
  have z1 : (strOf 1 117).size = 1 := rfl
  have z2 : (strOf 1 115).size = 1 := rfl
  unfold rT
  refine txCons ⟨s, rfl, by rw [hL]; rfl⟩ <| txCons (tr3 (denS_str (by decide)) rfl (by rw [z1]; show 1 + s.size < _; omega) rfl) <| txCons (tr3 (denS_str (by decide)) rfl (by rw [z2]; show 1 + s.size < _; omega) rfl) <|
    txCons ⟨s, _, rfl, rfl, bl_is hiv hL⟩ <| txCons ⟨s.data.toList, bl_is hiv hL, rfl⟩ <| txCons (tr4 rfl rfl ?_) <| txCons (tr4 rfl rfl ?_) <| txCons (tr4 rfl rfl ⟨fun _ => rfl, fun _ => rfl⟩) <| r1_ok hiv hl L (by omega)
  · exact ⟨fun h => (by cases h), fun h => absurd h (u_ne_s s s)⟩
  · exact ⟨fun h => (by cases h), fun h => absurd h.symm (u_ne_s s s)⟩
abbrev VS (s : ByteArray) (n L : Nat) (h : Ok s L) (l : List BRow) (hl : ∀ r ∈ l, IbOk (ivT s n) r) : VRows (ivT s n) noV noK where
  vvp := noVp
  ib := rX (rB 60 L l ((L + 3) / 4)) ((L + 3) / 4)
  ibok := rX_ok ivT_ge h.hU (rB_ok ivT_ge (by show (IntKind.i64, (s.size : Int)) = _; rw [h.hl]) hl _) _
  ic := rY (rC [] ((L + 3) / 4)) ((L + 3) / 4)
  icok := rY_ok ivT_ge h.hU (rC_ok ivT_ge (fun k => by have := h.hU k; omega) (fun r h => by simp at h) _) _
abbrev XS (s t : ByteArray) (n L : Nat) (h : Ok s L) (l : List TRow) (hl : ∀ r ∈ l, TrOk (strT s t) (ivT s n) r.1 r.2.1 r.2.2) : Txts (ivT s n) where
  str := strT s t
  ne := neT
  ok := neT_ok h.hs
  tr := rT L l
  trok := rT_ok ivT_ge h.hl h.h40 hl
/-- a text of so many bytes -/
abbrev TS (s : ByteArray) (L : Nat) (h : Ok s L) : Tab := (VS s 0 L h [] (fun r h => by simp at h)).ttab (XS s s 0 L h [] (fun r h => by simp at h))
/-- a text of more than forty bytes, and its first forty -/
theorem big_b {s : ByteArray} {n : Nat} (hn : 40 < n) : ∀ r ∈ [((13, .oi 61, .int .i64 40, .bool true) : BRow)], IbOk (ivT s n) r := by
  exact ibCons (ibGt (a := (n : Int)) (b := 40) rfl rfl (decide_eq_true (by omega))) ibNil
theorem big_t {s t : ByteArray} (h : s = t.extract 0 40) (hn : 40 < t.size) : ∀ r ∈ [((0, [.ostr 3], .oi 61) : TRow), (2, [.ostr 3, .nilp, .int .i64 40], .ostr 0)], TrOk (strT s t) (ivT s t.size) r.1 r.2.1 r.2.2 :=
  txCons ⟨t, rfl, rfl⟩ <| txCons ⟨t, 0, 40, rfl, rfl, ⟨.i64, rfl⟩, by decide, by omega, by rw [← h]; rfl⟩ txNil
abbrev TB (t s : ByteArray) (h : Ok s 40) (e : s = t.extract 0 40) (hn : 40 < t.size) : Tab := (VS s t.size 40 h _ (big_b hn)).ttab (XS s t t.size 40 h _ (big_t e hn))
/-- chars and words by name -/
def cl : Nat → Nat → List AV
  | 0, _ => []
  | n + 1, k => .oi (N (k / 4) (k % 4) 1) :: cl n (k + 1)
noncomputable def wk (L : Nat) : Nat → Nat → List AV
  | 0, _ => []
  | n + 1, q => .oi (N q (Bool.rec ((L - 1) % 4) 3 (Nat.ble (4 * q + 4) L)) 4) :: wk L n (q + 1)
noncomputable def wl (L : Nat) : List AV := wk L ((L + 3) / 4) 0
/-- a contract with more names -/
def upIn (c : In) (m : Nat) : In := ⟨c.f, c.xs, c.N, c.bs, c.v, m, c.bs'⟩
theorem upOk [Tab] {P : Go.Program} {c : In} (m : Nat) (h : c.N' ≤ m) (o : InOk P c) : InOk P (upIn c m) := by
  obtain ⟨h', k1, k2, k3⟩ := o.run
  have hs : SameH h' ⟨m, h'.t⟩ := ⟨by rw [← k2]; exact h, fun x => ⟨fun b hb => ⟨b, hb, .inl rfl⟩, fun a ha => ⟨a, ha⟩⟩⟩
  refine ⟨o.lim, ⟨m, h'.t⟩, ?_, rfl, k3⟩
  intro B w0 μ w args' r ha
  refine (k1 B w0 μ w args' r ha).mono ?_
  rintro e' w' ⟨v', μ', h1, h2, h3, h4⟩
  exact ⟨v', μ', h1, h2, h3, HR.sameH hs h4⟩
noncomputable def deI (M L : Nat) : In := fN (M + 2 * L) fun x => ⟨264, [.ostr 0], M, [], .tup [.so x 0 L 1, .bool true], x + 1, [(x, .cells L true [] (T.ofList 0 .leaf (cl L 0)))]⟩
noncomputable def enI (M L : Nat) : In := fN (15738 + 2 * L) fun x => ⟨359, [.so x 0 L 1], M, [(x, .cells L true [] (T.ofList 0 .leaf (cl L 0)))], .ostr 0, M + 2 * L, [(x, .cells L true [] (T.ofList 0 .leaf (cl L 0)))]⟩
noncomputable def eoI (M L : Nat) : In := ⟨359, [.sl 16157 0 L L], M, [(16157, .cells L false [.int .u16 0] (T.ofList 0 .leaf (cl L 0)))], .ostr 0, M + 2 * L, [(16157, .cells L false [.int .u16 0] (T.ofList 0 .leaf (cl L 0)))]⟩
noncomputable def ouI (L : Nat) : In := fN (17119 + 2 * L - 1) fun x => ⟨277, [.sl 17118 0 L L], 17119, [(17118, .cells L false [.int .u16 0] (T.ofList 0 .leaf (cl L 0)))], .so x 0 L 1, x + 1, [(x, .cells L true [] (T.ofList 0 .leaf (bl L 0))), (17118, .cells L false [.int .u16 0] (T.ofList 0 .leaf (cl L 0)))]⟩
noncomputable def stI (L : Nat) : In := fN (14 + (L + 3) / 4) fun w => ⟨61, [(.ptr 13633 0)], 15713, [(7028, (.map [((.str 1 77), (.ptr 13936 0), 0)] 1)), (7029, (.map [((.str 19 2439265639030268300842157990401791553877467498), (.ptr 7226 0), 0), ((.str 29 3085170664936786167588614718972924591866388410301586339335837578584426), (.ptr 7374 0), 1), ((.str 29 2977327179366744475310567174670984700336777289692309623825572795146602), (.ptr 7483 0), 2), ((.str 40 921438131347674524995356669863897659779420152864154109574888483886346161678995665599280333611370), (.ptr 7594 0), 3), ((.str 29 2977327179366744475310578792928741468592950331792981622238945052352874), (.ptr 7708 0), 4), ((.str 28 11630184294401345606682283003339240975915084228737354846334270988650), (.ptr 7821 0), 5), ((.str 31 202189744697330995387852485397630371027294446829100397077902765524415570282), (.ptr 7918 0), 6), ((.str 26 183890501555036136351903328603364899342229922045770665733546346), (.ptr 8012 0), 7), ((.str 15 594182256714433171583859471190221162), (.ptr 8103 0), 8), ((.str 19 2462787319999361794871408518597065734545105258), (.ptr 8193 0), 9), ((.str 37 56911353679811531822920492603033782110087255578636309514658723732473720363105297718731114), (.ptr 8299 0), 10), ((.str 28 12051447909910759173808661238977857107111767888823090726697178653034), (.ptr 8402 0), 11), ((.str 38 14060030080378334426808655457799320232265086119729716606675995945190890063755479020322840938), (.ptr 8517 0), 12), ((.str 38 14569306542030247732875768419210667608278730874565438596096215620376147580735894642209743210), (.ptr 8615 0), 13), ((.str 35 838043098472257520366253329360822735706660890049674080341799799296269125818196058474), (.ptr 8708 0), 14), ((.str 28 12051447909910278778317482300033197087305720853520054876288643916138), (.ptr 8813 0), 15), ((.str 22 42815343838886881203639546329033052610660173325164906), (.ptr 8912 0), 16), ((.str 36 214539033208897925213755128370838752992305990670598911423725060199978812837976799076714), (.ptr 9024 0), 17), ((.str 30 789803690223817235625993454897404583541813632134065715887439951296881002), (.ptr 9120 0), 18), ((.str 26 183890501555012814945400634590948384637649511452497603397575018), (.ptr 9221 0), 19), ((.str 27 47075968398083285027902446257440240237115773113246055769402925418), (.ptr 9323 0), 20), ((.str 30 762195757917886585679527096405151622096281774544538073876077408773628266), (.ptr 9433 0), 21), ((.str 16 154706541852025644484233205990057992554), (.ptr 9444 0), 22), ((.str 26 183890501555043540957095622503328518117729969598634276033028458), (.ptr 9555 0), 23), ((.str 26 177462528906270532328520934635542489792491443287338843928682858), (.ptr 9647 0), 24), ((.str 28 12051447909911140811364177168575840195048631602135540194265359868266), (.ptr 9754 0), 25), ((.str 16 137483774941304901841256615957136564586), (.ptr 9775 0), 26), ((.str 23 10956966084090815260342509131105871416374185281426186602), (.ptr 9832 0), 27), ((.str 41 235888161625004678398811307485157800903531559133223452051171428016118026562849321940164899390251370), (.ptr 9972 0), 28), ((.str 16 145412635431568811361768410208787652970), (.ptr 9984 0), 29), ((.str 19 2261816869159440624969593107871851903301607786), (.ptr 10072 0), 30), ((.str 38 14569306542031293471471962209605688152784288289213751582725315083544705153644676387098222954), (.ptr 10172 0), 31), ((.str 21 167247436870678459232146883126634948762985622298986), (.ptr 10272 0), 32)] 33)), (7030, (.cells 3 false [] (T.ofList 0 .leaf [(.map 7028), (.map 7029), (.so 14921 0 1 1)]))), (9444, (.cells 8 false [] (T.ofList 0 .leaf [(.int .i64 52), .nils, (.int .i64 33), (.str 16 154706541852025644484233205990057992554), (.str 0 0), .nils, .nils, (.so 9456 0 3 9)]))), (9775, (.cells 8 false [] (T.ofList 0 .leaf [(.int .i64 52), .nils, (.int .i64 49), (.str 16 137483774941304901841256615957136564586), (.str 16 154706541852025644484233205990057992554), .nils, .nils, (.so 9816 0 10 9)]))), (10282, (.map [((.str 19 2439265639030268300842157990401791553877467498), (.int .i64 0), 0), ((.str 28 12051447909911140811364177168575840195048631602135540194265359868266), (.int .i64 1), 1), ((.str 26 183890501555043540957095622503328518117729969598634276033028458), (.int .i64 2), 2), ((.str 26 177462528906270532328520934635542489792491443287338843928682858), (.int .i64 3), 3)] 4)), (10283, (.cells 5 false [] (T.ofList 0 .leaf [(.ptr 7030 0), (.so 15627 0 11 1), (.so 15629 0 4 1), (.so 15626 0 4 3), (.map 10282)]))), (10284, (.map [] 0)), (10285, (.cells 3 false [] (T.ofList 0 .leaf [(.ptr 10283 0), .nils, (.map 10284)]))), (13629, (.cells 4 false [] (T.ofList 0 .leaf [(.so 15697 0 2 1), (.so 15698 0 2 1), (.so 15478 0 1 7), (.int .i64 7)]))), (13632, (.map [((.str 8 6208537792749186637), (.int .i64 2), 0)] 1)), (13633, (.cells 32 false [] (T.ofList 0 .leaf [(.ptr 7030 0), (.ptr 10288 0), (.ptr 10283 0), (.ptr 10285 0), (.ptr 10289 0), (.ptr 13629 0), (.so 15481 0 1 1), (.map 13630), (.map 13631), .nils, (.int .i64 1), (.int .i64 3), (.int .i64 6), (.int .i64 0), .nilp, (.bool true), (.int .i64 100), (.int .i64 2), (.int .i64 0), (.int .i64 1), (.int .i64 0), (.int .i64 0), (.int .u8 0), (.int .i64 0), (.str 0 0), (.str 0 0), (.bool false), (.int .i64 0), .nils, (.int .i64 0), (.int .i64 0), (.map 13632)]))), (13936, (.cells 8 false [] (T.ofList 0 .leaf [(.int .i64 52), (.sl 13938 0 16 16), (.int .i64 33), (.str 1 77), (.str 16 154706541852025644484233205990057992554), .nils, .nils, (.so 14919 0 1 9)]))), (13938, (.cells 80 false [(.int .i64 0), (.str 0 0), (.int .i64 0), (.int .i64 0), (.int .i64 0)] (ofPairs [(5, (.int .i64 1)), (6, (.str 26 177462528906270532328520934635542489792491443287338843928682858)), (7, (.int .i64 0)), (8, (.int .i64 0)), (9, (.int .i64 0)), (10, (.int .i64 7)), (11, (.str 0 0)), (12, (.int .i64 0)), (13, (.int .i64 1)), (14, (.int .i64 0)), (15, (.int .i64 1)), (16, (.ostr 0)), (17, (.int .i64 0)), (18, (.int .i64 0)), (19, (.int .i64 0)), (20, (.int .i64 8)), (21, (.str 0 0)), (22, (.int .i64 0)), (23, (.int .i64 3)), (24, (.int .i64 0)), (25, (.int .i64 1)), (26, (.str 6 68669705972028)), (27, (.int .i64 0)), (28, (.int .i64 0)), (29, (.int .i64 0)), (30, (.int .i64 1)), (31, (.str 21 125924534186164816246133852188561726513007718714408)), (32, (.int .i64 0)), (33, (.int .i64 0)), (34, (.int .i64 0)), (35, (.int .i64 12)), (36, (.str 0 0)), (37, (.int .i64 0)), (38, (.int .i64 5)), (39, (.int .i64 6)), (40, (.int .i64 10)), (41, (.str 0 0)), (42, (.int .i64 0)), (43, (.int .i64 2)), (44, (.int .i64 7)), (45, (.int .i64 1)), (46, (.str 2 28519)), (47, (.int .i64 0)), (48, (.int .i64 0)), (49, (.int .i64 0)), (50, (.int .i64 1)), (51, (.str 3 5646632)), (52, (.int .i64 0)), (53, (.int .i64 0)), (54, (.int .i64 0)), (55, (.int .i64 1)), (56, (.str 4 1701080899)), (57, (.int .i64 0)), (58, (.int .i64 0)), (59, (.int .i64 0)), (60, (.int .i64 1)), (61, (.str 1 77)), (62, (.int .i64 0)), (63, (.int .i64 0)), (64, (.int .i64 0)), (65, (.int .i64 7)), (66, (.str 0 0)), (67, (.int .i64 0)), (68, (.int .i64 12)), (69, (.int .i64 0)), (70, (.int .i64 1)), (71, (.str 16 154706541852025644484233205990057992554)), (72, (.int .i64 0)), (73, (.int .i64 0)), (74, (.int .i64 0)), (75, (.int .i64 7)), (76, (.str 0 0)), (77, (.int .i64 0)), (78, (.int .i64 14)), (79, (.int .i64 0))]))), (14707, (.cells 11 true [] (T.ofList 0 .leaf [(.int .u8 187), (.int .u8 0), (.int .u8 2), (.int .u8 89), (.int .u8 19), (.int .u8 0), (.int .u8 4), (.int .u8 183), (.int .u8 0), (.int .u8 8), (.int .u8 191)]))), (14919, (.cells 9 true [] (T.ofList 0 .leaf [(.int .i64 9), (.str 2 28519), (.str 3 5646632), (.bool true), (.int .i64 3), (.int .i64 0), (.so 14707 0 11 1), .nils, .nils]))), (15478, (.cells 7 true [] (T.ofList 0 .leaf [(.int .i64 0), (.int .i64 0), (.int .i64 3), (.int .i64 0), (.int .i64 0), (.int .i64 3), (.int .i64 2)]))), (15479, (.cells 6 false [] (T.ofList 0 .leaf [(.int .i64 0), (.int .i64 0), (.ptr 13936 0), (.int .i64 0), (.int .i64 4), .nilp]))), (15481, (.cells 1 true [] (T.ofList 0 .leaf [(.ptr 15479 0)]))), (15626, (.cells 12 true [] (T.ofList 0 .leaf [(.str 19 2439265639030268300842157990401791553877467498), .nils, (.int .u8 0), (.str 28 12051447909911140811364177168575840195048631602135540194265359868266), (.so 13752 0 1 1), (.int .u8 0), (.str 26 183890501555043540957095622503328518117729969598634276033028458), (.so 13848 0 1 1), (.int .u8 0), (.str 26 177462528906270532328520934635542489792491443287338843928682858), (.so 15624 0 1 1), (.int .u8 0)]))), (15627, (.cells 11 true [] (T.ofList 0 .leaf [(.int .u64 0), (.int .u64 0), (.int .u64 1), (.int .u64 0), (.int .u64 0), (.int .u64 2), (.int .u64 0), (.int .u64 0), (.int .u64 3), (.int .u64 0), (.int .u64 0)]))), (15629, (.cells 4 true [] (T.ofList 0 .leaf [(.int .i64 0), (.int .i64 2), (.int .i64 5), (.int .i64 8)]))), (15697, (.cells 2 true [] (T.ofList 0 .leaf [(.int .i64 9), (.int .i64 9)]))), (15698, (.cells 2 true [] (T.ofList 0 .leaf [(.bool true), (.bool true)])))], (.bool true), 16572, [(7028, (.map [((.str 1 77), (.ptr 13936 0), 0)] 1)), (7029, (.map [((.str 19 2439265639030268300842157990401791553877467498), (.ptr 7226 0), 0), ((.str 29 3085170664936786167588614718972924591866388410301586339335837578584426), (.ptr 7374 0), 1), ((.str 29 2977327179366744475310567174670984700336777289692309623825572795146602), (.ptr 7483 0), 2), ((.str 40 921438131347674524995356669863897659779420152864154109574888483886346161678995665599280333611370), (.ptr 7594 0), 3), ((.str 29 2977327179366744475310578792928741468592950331792981622238945052352874), (.ptr 7708 0), 4), ((.str 28 11630184294401345606682283003339240975915084228737354846334270988650), (.ptr 7821 0), 5), ((.str 31 202189744697330995387852485397630371027294446829100397077902765524415570282), (.ptr 7918 0), 6), ((.str 26 183890501555036136351903328603364899342229922045770665733546346), (.ptr 8012 0), 7), ((.str 15 594182256714433171583859471190221162), (.ptr 8103 0), 8), ((.str 19 2462787319999361794871408518597065734545105258), (.ptr 8193 0), 9), ((.str 37 56911353679811531822920492603033782110087255578636309514658723732473720363105297718731114), (.ptr 8299 0), 10), ((.str 28 12051447909910759173808661238977857107111767888823090726697178653034), (.ptr 8402 0), 11), ((.str 38 14060030080378334426808655457799320232265086119729716606675995945190890063755479020322840938), (.ptr 8517 0), 12), ((.str 38 14569306542030247732875768419210667608278730874565438596096215620376147580735894642209743210), (.ptr 8615 0), 13), ((.str 35 838043098472257520366253329360822735706660890049674080341799799296269125818196058474), (.ptr 8708 0), 14), ((.str 28 12051447909910278778317482300033197087305720853520054876288643916138), (.ptr 8813 0), 15), ((.str 22 42815343838886881203639546329033052610660173325164906), (.ptr 8912 0), 16), ((.str 36 214539033208897925213755128370838752992305990670598911423725060199978812837976799076714), (.ptr 9024 0), 17), ((.str 30 789803690223817235625993454897404583541813632134065715887439951296881002), (.ptr 9120 0), 18), ((.str 26 183890501555012814945400634590948384637649511452497603397575018), (.ptr 9221 0), 19), ((.str 27 47075968398083285027902446257440240237115773113246055769402925418), (.ptr 9323 0), 20), ((.str 30 762195757917886585679527096405151622096281774544538073876077408773628266), (.ptr 9433 0), 21), ((.str 16 154706541852025644484233205990057992554), (.ptr 9444 0), 22), ((.str 26 183890501555043540957095622503328518117729969598634276033028458), (.ptr 9555 0), 23), ((.str 26 177462528906270532328520934635542489792491443287338843928682858), (.ptr 9647 0), 24), ((.str 28 12051447909911140811364177168575840195048631602135540194265359868266), (.ptr 9754 0), 25), ((.str 16 137483774941304901841256615957136564586), (.ptr 9775 0), 26), ((.str 23 10956966084090815260342509131105871416374185281426186602), (.ptr 9832 0), 27), ((.str 41 235888161625004678398811307485157800903531559133223452051171428016118026562849321940164899390251370), (.ptr 9972 0), 28), ((.str 16 145412635431568811361768410208787652970), (.ptr 9984 0), 29), ((.str 19 2261816869159440624969593107871851903301607786), (.ptr 10072 0), 30), ((.str 38 14569306542031293471471962209605688152784288289213751582725315083544705153644676387098222954), (.ptr 10172 0), 31), ((.str 21 167247436870678459232146883126634948762985622298986), (.ptr 10272 0), 32)] 33)), (7030, (.cells 3 false [] (T.ofList 0 .leaf [(.map 7028), (.map 7029), (.so 14921 0 1 1)]))), (9444, (.cells 8 false [] (T.ofList 0 .leaf [(.int .i64 52), .nils, (.int .i64 33), (.str 16 154706541852025644484233205990057992554), (.str 0 0), .nils, .nils, (.so 9456 0 3 9)]))), (9775, (.cells 8 false [] (T.ofList 0 .leaf [(.int .i64 52), .nils, (.int .i64 49), (.str 16 137483774941304901841256615957136564586), (.str 16 154706541852025644484233205990057992554), .nils, .nils, (.so 9816 0 10 9)]))), (10283, (.cells 5 false [] (T.ofList 0 .leaf [(.ptr 7030 0), (.so 16154 0 w 1), (.so 16156 0 5 1), (.so 16153 0 5 3), (.map 10282)]))), (13629, (.cells 4 false [] (T.ofList 0 .leaf [(.so 16562 0 3 1), (.so 16563 0 3 1), (.so 15478 0 1 7), (.int .i64 7)]))), (13632, (.map [((.str 8 6208537792749186637), (.int .i64 3), 0)] 1)), (13633, (.cells 32 false [] (T.ofList 0 .leaf [(.ptr 7030 0), (.ptr 10288 0), (.ptr 10283 0), (.ptr 10285 0), (.ptr 10289 0), (.ptr 13629 0), (.so 15481 0 1 1), (.map 13630), (.map 13631), .nils, (.int .i64 1), (.int .i64 3), (.int .i64 6), (.int .i64 0), .nilp, (.bool true), (.int .i64 100), (.int .i64 3), (.int .i64 0), (.int .i64 1), (.int .i64 0), (.int .i64 0), (.int .u8 0), (.int .i64 0), (.str 0 0), (.str 0 0), (.bool false), (.int .i64 0), .nils, (.int .i64 0), (.int .i64 0), (.map 13632)]))), (13936, (.cells 8 false [] (T.ofList 0 .leaf [(.int .i64 52), (.sl 13938 0 16 16), (.int .i64 33), (.str 1 77), (.str 16 154706541852025644484233205990057992554), .nils, .nils, (.so 14919 0 1 9)]))), (13938, (.cells 80 false [(.int .i64 0), (.str 0 0), (.int .i64 0), (.int .i64 0), (.int .i64 0)] (ofPairs [(5, (.int .i64 1)), (6, (.str 26 177462528906270532328520934635542489792491443287338843928682858)), (7, (.int .i64 0)), (8, (.int .i64 0)), (9, (.int .i64 0)), (10, (.int .i64 7)), (11, (.str 0 0)), (12, (.int .i64 0)), (13, (.int .i64 1)), (14, (.int .i64 0)), (15, (.int .i64 1)), (16, (.ostr 0)), (17, (.int .i64 0)), (18, (.int .i64 0)), (19, (.int .i64 0)), (20, (.int .i64 8)), (21, (.str 0 0)), (22, (.int .i64 0)), (23, (.int .i64 3)), (24, (.int .i64 0)), (25, (.int .i64 1)), (26, (.str 6 68669705972028)), (27, (.int .i64 0)), (28, (.int .i64 0)), (29, (.int .i64 0)), (30, (.int .i64 1)), (31, (.str 21 125924534186164816246133852188561726513007718714408)), (32, (.int .i64 0)), (33, (.int .i64 0)), (34, (.int .i64 0)), (35, (.int .i64 12)), (36, (.str 0 0)), (37, (.int .i64 0)), (38, (.int .i64 5)), (39, (.int .i64 6)), (40, (.int .i64 10)), (41, (.str 0 0)), (42, (.int .i64 0)), (43, (.int .i64 2)), (44, (.int .i64 7)), (45, (.int .i64 1)), (46, (.str 2 28519)), (47, (.int .i64 0)), (48, (.int .i64 0)), (49, (.int .i64 0)), (50, (.int .i64 1)), (51, (.str 3 5646632)), (52, (.int .i64 0)), (53, (.int .i64 0)), (54, (.int .i64 0)), (55, (.int .i64 1)), (56, (.str 4 1701080899)), (57, (.int .i64 0)), (58, (.int .i64 0)), (59, (.int .i64 0)), (60, (.int .i64 1)), (61, (.str 1 77)), (62, (.int .i64 0)), (63, (.int .i64 0)), (64, (.int .i64 0)), (65, (.int .i64 7)), (66, (.str 0 0)), (67, (.int .i64 0)), (68, (.int .i64 12)), (69, (.int .i64 0)), (70, (.int .i64 1)), (71, (.str 16 154706541852025644484233205990057992554)), (72, (.int .i64 0)), (73, (.int .i64 0)), (74, (.int .i64 0)), (75, (.int .i64 7)), (76, (.str 0 0)), (77, (.int .i64 0)), (78, (.int .i64 14)), (79, (.int .i64 0))]))), (14707, (.cells 11 true [] (T.ofList 0 .leaf [(.int .u8 187), (.int .u8 0), (.int .u8 2), (.int .u8 89), (.int .u8 19), (.int .u8 0), (.int .u8 4), (.int .u8 183), (.int .u8 0), (.int .u8 8), (.int .u8 191)]))), (14919, (.cells 9 true [] (T.ofList 0 .leaf [(.int .i64 9), (.str 2 28519), (.str 3 5646632), (.bool true), (.int .i64 3), (.int .i64 0), (.so 14707 0 11 1), .nils, .nils]))), (15478, (.cells 7 true [] (T.ofList 0 .leaf [(.int .i64 0), (.int .i64 0), (.int .i64 4), (.int .i64 0), (.int .i64 0), (.int .i64 3), (.int .i64 3)]))), (15479, (.cells 6 false [] (T.ofList 0 .leaf [(.int .i64 0), (.int .i64 0), (.ptr 13936 0), (.int .i64 0), (.int .i64 7), .nilp]))), (15481, (.cells 1 true [] (T.ofList 0 .leaf [(.ptr 15479 0)]))), (16153, (.cells 15 true [] (T.ofList 0 .leaf [(.str 19 2439265639030268300842157990401791553877467498), .nils, (.int .u8 0), (.str 28 12051447909911140811364177168575840195048631602135540194265359868266), (.so 13752 0 1 1), (.int .u8 0), (.str 26 183890501555043540957095622503328518117729969598634276033028458), (.so 13848 0 1 1), (.int .u8 0), (.str 26 177462528906270532328520934635542489792491443287338843928682858), (.so 15624 0 1 1), (.int .u8 0), (.str 16 137483774941304901841256615957136564586), .nils, (.int .u8 67)]))), (16154, (.cells w true [] (T.ofList 0 .leaf ((.int .u64 0) :: (.int .u64 0) :: (.int .u64 1) :: (.int .u64 0) :: (.int .u64 0) :: (.int .u64 2) :: (.int .u64 0) :: (.int .u64 0) :: (.int .u64 3) :: (.int .u64 0) :: (.int .u64 0) :: (.int .u64 4) :: (.int .u64 0) :: (.int .u64 (L : Int)) :: wl L)))), (16156, (.cells 5 true [] (T.ofList 0 .leaf [(.int .i64 0), (.int .i64 2), (.int .i64 5), (.int .i64 8), (.int .i64 11)]))), (16562, (.cells 3 true [] (T.ofList 0 .leaf [(.int .i64 9), (.int .i64 9), (.int .i64 12)]))), (16563, (.cells 3 true [] (T.ofList 0 .leaf [(.bool true), (.bool true), (.bool true)])))]⟩
noncomputable def laI (L : Nat) : In := fN (14 + (L + 3) / 4) fun w => ⟨61, [(.ptr 13633 0)], 17075, [(10283, (.cells 5 false [] (T.ofList 0 .leaf [(.ptr 7030 0), (.so 16154 0 w 1), (.so 16156 0 5 1), (.so 16153 0 5 3), (.map 10282)]))), (10289, (.cells 7 false [] (T.ofList 0 .leaf [(.ptr 10283 0), (.ptr 10285 0), (.ptr 7030 0), (.so 11003 0 39 3), .nils, (.bool false), (.bool false)]))), (13629, (.cells 4 false [] (T.ofList 0 .leaf [(.so 16562 0 1 1), (.so 16563 0 1 1), (.so 15478 0 1 7), (.int .i64 7)]))), (13630, (.map [((.str 1 77), (.ptr 15467 0), 0), ((.str 16 154706541852025644484233205990057992554), (.ptr 15472 0), 1), ((.str 26 177462528906270532328520934635542489792491443287338843928682858), (.ptr 15534 0), 2)] 3)), (13632, (.map [((.str 8 6208537792749186637), (.int .i64 4), 0)] 1)), (13633, (.cells 32 false [] (T.ofList 0 .leaf [(.ptr 7030 0), (.ptr 10288 0), (.ptr 10283 0), (.ptr 10285 0), (.ptr 10289 0), (.ptr 13629 0), (.so 15481 0 1 1), (.map 13630), (.map 13631), .nils, (.int .i64 1), (.int .i64 3), (.int .i64 6), (.int .i64 0), .nilp, (.bool true), (.int .i64 100), (.int .i64 4), (.int .i64 0), (.int .i64 1), (.int .i64 0), (.int .i64 0), (.int .u8 0), (.int .i64 0), (.str 0 0), (.str 0 0), (.bool false), (.int .i64 0), .nils, (.int .i64 0), (.int .i64 0), (.map 13632)]))), (13936, (.cells 8 false [] (T.ofList 0 .leaf [(.int .i64 52), (.sl 13938 0 16 16), (.int .i64 33), (.str 1 77), (.str 16 154706541852025644484233205990057992554), .nils, .nils, (.so 14919 0 1 9)]))), (14707, (.cells 11 true [] (T.ofList 0 .leaf [(.int .u8 187), (.int .u8 0), (.int .u8 2), (.int .u8 89), (.int .u8 19), (.int .u8 0), (.int .u8 4), (.int .u8 183), (.int .u8 0), (.int .u8 8), (.int .u8 191)]))), (14919, (.cells 9 true [] (T.ofList 0 .leaf [(.int .i64 9), (.str 2 28519), (.str 3 5646632), (.bool true), (.int .i64 3), (.int .i64 0), (.so 14707 0 11 1), .nils, .nils]))), (15467, (.cells 2 false [] (T.ofList 0 .leaf [(.int .i64 2), (.sl 15471 0 0 0)]))), (15472, (.cells 2 false [] (T.ofList 0 .leaf [(.int .i64 2), .nils]))), (15478, (.cells 7 true [] (T.ofList 0 .leaf [(.int .i64 0), (.int .i64 0), (.int .i64 7), (.int .i64 0), (.int .i64 0), (.int .i64 3), (.int .i64 1)]))), (15479, (.cells 6 false [] (T.ofList 0 .leaf [(.int .i64 0), (.int .i64 0), (.ptr 13936 0), (.int .i64 0), (.int .i64 10), .nilp]))), (15481, (.cells 1 true [] (T.ofList 0 .leaf [(.ptr 15479 0)]))), (15534, (.cells 2 false [] (T.ofList 0 .leaf [(.int .i64 2), .nils]))), (15624, (.cells 1 true [] (T.ofList 0 .leaf [(.int .u8 76)]))), (16153, (.cells 15 true [] (T.ofList 0 .leaf [(.str 19 2439265639030268300842157990401791553877467498), .nils, (.int .u8 0), (.str 28 12051447909911140811364177168575840195048631602135540194265359868266), (.so 13752 0 1 1), (.int .u8 0), (.str 26 183890501555043540957095622503328518117729969598634276033028458), (.so 13848 0 1 1), (.int .u8 0), (.str 26 177462528906270532328520934635542489792491443287338843928682858), (.so 15624 0 1 1), (.int .u8 0), (.str 16 137483774941304901841256615957136564586), .nils, (.int .u8 67)]))), (16154, (.cells w true [] (T.ofList 0 .leaf ((.int .u64 0) :: (.int .u64 0) :: (.int .u64 1) :: (.int .u64 0) :: (.int .u64 0) :: (.int .u64 2) :: (.int .u64 0) :: (.int .u64 0) :: (.int .u64 3) :: (.int .u64 0) :: (.int .u64 12) :: (.int .u64 4) :: (.int .u64 0) :: (.int .u64 (L : Int)) :: wl L)))), (16156, (.cells 5 true [] (T.ofList 0 .leaf [(.int .i64 0), (.int .i64 2), (.int .i64 5), (.int .i64 8), (.int .i64 11)]))), (16562, (.cells 3 true [] (T.ofList 0 .leaf [(.int .i64 9), (.int .i64 9), (.int .i64 12)]))), (16563, (.cells 3 true [] (T.ofList 0 .leaf [(.bool true), (.bool true), (.bool true)])))], (.bool false), 17321, [(10283, (.cells 5 false [] (T.ofList 0 .leaf [(.ptr 7030 0), (.so 16154 0 w 1), (.so 16156 0 5 1), (.so 16153 0 5 3), (.map 10282)]))), (10289, (.cells 7 false [] (T.ofList 0 .leaf [(.ptr 10283 0), (.ptr 10285 0), (.ptr 7030 0), (.so 11003 0 39 3), .nils, (.bool false), (.bool false)]))), (13630, (.map [((.str 1 77), (.ptr 15467 0), 0), ((.str 16 154706541852025644484233205990057992554), (.ptr 15472 0), 1), ((.str 26 177462528906270532328520934635542489792491443287338843928682858), (.ptr 15534 0), 2)] 3)), (13633, (.cells 32 false [] (T.ofList 0 .leaf [(.ptr 7030 0), (.ptr 10288 0), (.ptr 10283 0), (.ptr 10285 0), (.ptr 10289 0), (.ptr 13629 0), .nils, (.map 13630), (.map 13631), .nils, (.int .i64 1), (.int .i64 3), (.int .i64 6), (.int .i64 0), .nilp, (.bool false), (.int .i64 100), (.int .i64 5), (.int .i64 0), (.int .i64 1), (.int .i64 0), (.int .i64 2), (.int .u8 0), (.int .i64 0), (.str 26 177462528906270532328520934635542489792491443287338843928682858), (.ostr 0), (.bool true), (.int .i64 5), .nils, (.int .i64 0), (.int .i64 1), (.map 13632)]))), (13936, (.cells 8 false [] (T.ofList 0 .leaf [(.int .i64 52), (.sl 13938 0 16 16), (.int .i64 33), (.str 1 77), (.str 16 154706541852025644484233205990057992554), .nils, .nils, (.so 14919 0 1 9)]))), (14707, (.cells 11 true [] (T.ofList 0 .leaf [(.int .u8 187), (.int .u8 0), (.int .u8 2), (.int .u8 89), (.int .u8 19), (.int .u8 0), (.int .u8 4), (.int .u8 183), (.int .u8 0), (.int .u8 8), (.int .u8 191)]))), (14919, (.cells 9 true [] (T.ofList 0 .leaf [(.int .i64 9), (.str 2 28519), (.str 3 5646632), (.bool true), (.int .i64 3), (.int .i64 0), (.so 14707 0 11 1), .nils, .nils]))), (15467, (.cells 2 false [] (T.ofList 0 .leaf [(.int .i64 2), (.sl 15471 0 0 0)]))), (15472, (.cells 2 false [] (T.ofList 0 .leaf [(.int .i64 2), .nils]))), (15481, (.cells 1 true [] (T.ofList 0 .leaf [(.ptr 15479 0)]))), (15534, (.cells 2 false [] (T.ofList 0 .leaf [(.int .i64 2), .nils]))), (15624, (.cells 1 true [] (T.ofList 0 .leaf [(.int .u8 76)]))), (16153, (.cells 15 true [] (T.ofList 0 .leaf [(.str 19 2439265639030268300842157990401791553877467498), .nils, (.int .u8 0), (.str 28 12051447909911140811364177168575840195048631602135540194265359868266), (.so 13752 0 1 1), (.int .u8 0), (.str 26 183890501555043540957095622503328518117729969598634276033028458), (.so 13848 0 1 1), (.int .u8 0), (.str 26 177462528906270532328520934635542489792491443287338843928682858), (.so 15624 0 1 1), (.int .u8 0), (.str 16 137483774941304901841256615957136564586), .nils, (.int .u8 67)]))), (16154, (.cells w true [] (T.ofList 0 .leaf ((.int .u64 0) :: (.int .u64 0) :: (.int .u64 1) :: (.int .u64 0) :: (.int .u64 0) :: (.int .u64 2) :: (.int .u64 0) :: (.int .u64 0) :: (.int .u64 3) :: (.int .u64 0) :: (.int .u64 12) :: (.int .u64 4) :: (.int .u64 0) :: (.int .u64 (L : Int)) :: wl L)))), (16156, (.cells 5 true [] (T.ofList 0 .leaf [(.int .i64 0), (.int .i64 2), (.int .i64 5), (.int .i64 8), (.int .i64 11)]))), (16562, (.cells 3 true [] (T.ofList 0 .leaf [(.int .i64 9), (.int .i64 9), (.int .i64 12)]))), (16563, (.cells 3 true [] (T.ofList 0 .leaf [(.bool true), (.bool true), (.bool true)])))]⟩
section
variable [Tab]
noncomputable def KS (L : Nat) : Hand := (inHand (upIn (deI 15738 L) 15938)).or ((inHand (upIn (enI 15939 L) 16139)).or ((inHand (upIn (eoI 16158 L) 16358)).or ((inHand (upIn (eoI 16358 L) 16558)).or K_top0)))
noncomputable def KL (L : Nat) : Hand := (inHand (upIn (ouI L) 17319)).or K_top0
noncomputable def KG (L : Nat) (b : Bool) : Hand := (inHand (upIn (deI (Bool.rec 14211 14141 b) L) (Bool.rec 14411 14341 b))).or (Bool.rec K_top0 ((inHand (stI L)).or ((inHand (laI L)).or K_top0)) b)
/-- all small runs -/
noncomputable def chS (L : Nat) : Bool := inRun Tryz.prog K_top0 5000 (deI 14141 L) && (inRun Tryz.prog K_top0 5000 (deI 14211 L) && (inRun Tryz.prog K_top0 5000 (deI 15738 L) && (inRun Tryz.prog K_top0 5000 (enI 15939 L) && (inRun Tryz.prog K_top0 5000 (eoI 16158 L) && (inRun Tryz.prog K_top0 5000 (eoI 16358 L) && inRun Tryz.prog K_top0 5000 (ouI L))))))
end
noncomputable def chN (L : Nat) : Bool := okLim (deI 14141 L).bs' && (okLim (deI 14211 L).bs' && (okLim (deI 15738 L).bs' && (okLim (enI 15939 L).bs' && (okLim (eoI 16158 L).bs' && (okLim (eoI 16358 L).bs' && (okLim (ouI L).bs' && (okLim (enI 15939 L).bs && (okLim (eoI 16158 L).bs && (okLim (eoI 16358 L).bs && (okLim (ouI L).bs && (okLim (deI 14141 L).bs && (okLim (deI 14211 L).bs && (okLim (deI 15738 L).bs && (okLim (stI L).bs && (okLim (stI L).bs' && (okLim (laI L).bs && (okLim (laI L).bs' &&
  (Nat.ble (deI 14141 L).N' 14341 && (Nat.ble (deI 14211 L).N' 14411 && (Nat.ble (deI 15738 L).N' 15938 && (Nat.ble (enI 15939 L).N' 16139 && (Nat.ble (eoI 16158 L).N' 16358 && (Nat.ble (eoI 16358 L).N' 16558 && Nat.ble (ouI L).N' 17319)))))))))))))))))))))))
section
variable [Tab]
theorem ok_of {c : In} {K : Hand} (hK : HandOk Tryz.prog K) (hl : okLim c.bs' = true) (e : inRun Tryz.prog K 5000 c = true) : InOk Tryz.prog c := InOk.of_run (K := K) (n := 5000) mixed hK hl e
theorem up_of {c : In} {m : Nat} (hl : okLim c.bs' = true) (hb : okLim c.bs = true) (hm : Nat.ble c.N' m = true) (e : inRun Tryz.prog K_top0 5000 c = true) : HandOk Tryz.prog (inHand (upIn c m)) := inHand_ok (upOk m (Nat.le_of_ble_eq_true hm) (ok_of K_top0_ok hl e)) hb
/-- the law's run, out of its parts -/
theorem law_of {L : Nat} {b : Bool} {x : AV} (n : chN L = true) (s : chS L = true) (h1 : inRun Tryz.prog (KS L) 5000 (stI L) = true) (h2 : inRun Tryz.prog (KL L) 5000 (laI L) = true) (h : okTrue (call Tryz.prog (KG L b) 5000 5 [x, .bool b] H.empty) = true) :
    ∃ K, HandOk Tryz.prog K ∧ okTrue (call Tryz.prog K 5000 5 [x, .bool b] H.empty) = true := by
  unfold chN at n
  unfold chS at s
  simp only [Bool.and_eq_true] at n s
  obtain ⟨a1, a2, a3, a4, a5, a6, a7, b4, b5, b6, b7, b1, b2, b3, c1, c2, c3, c4, m1, m2, m3, m4, m5, m6, m7⟩ := n
  obtain ⟨s1, s2, s3, s4, s5, s6, s7⟩ := s
  have kS : HandOk Tryz.prog (KS L) := HandOk.or (up_of a3 b3 m3 s3) (HandOk.or (up_of a4 b4 m4 s4) (HandOk.or (up_of a5 b5 m5 s5) (HandOk.or (up_of a6 b6 m6 s6) K_top0_ok)))
  have kL : HandOk Tryz.prog (KL L) := HandOk.or (up_of a7 b7 m7 s7) K_top0_ok
  have oS : InOk Tryz.prog (stI L) := ok_of kS c2 h1
  have oL : InOk Tryz.prog (laI L) := ok_of kL c4 h2
  refine ⟨KG L b, ?_, h⟩
  cases b with
  | true => exact HandOk.or (up_of a1 b1 m1 s1) (HandOk.or (inHand_ok oS c1) (HandOk.or (inHand_ok oL c3) K_top0_ok))
  | false => exact HandOk.or (up_of a2 b2 m2 s2) K_top0_ok
theorem law0_of {L : Nat} {x : AV} (n : chN L = true) (s : chS L = true) (h : okTrue (call Tryz.prog (KG L false) 5000 5 [x, .bool false] H.empty) = true) :
    ∃ K, HandOk Tryz.prog K ∧ okTrue (call Tryz.prog K 5000 5 [x, .bool false] H.empty) = true := by
  unfold chN at n
  unfold chS at s
  simp only [Bool.and_eq_true] at n s
  obtain ⟨a1, a2, a3, a4, a5, a6, a7, b4, b5, b6, b7, b1, b2, b3, c1, c2, c3, c4, m1, m2, m3, m4, m5, m6, m7⟩ := n
  obtain ⟨s1, s2, s3, s4, s5, s6, s7⟩ := s
  exact ⟨KG L false, HandOk.or (up_of a2 b2 m2 s2) K_top0_ok, h⟩
end
/-- the runs with a text of so many bytes -/
def G1 (L : Nat) : Prop := ∀ (s : ByteArray) (h : Ok s L), @chS (TS s L h) L = true
def G2 (L : Nat) : Prop := ∀ (s : ByteArray) (h : Ok s L), @inRun Tryz.prog (TS s L h) (KS L) 5000 (stI L) = true
def G3 (L : Nat) : Prop := ∀ (s : ByteArray) (h : Ok s L), @inRun Tryz.prog (TS s L h) (KL L) 5000 (laI L) = true
def GS (L : Nat) (b : Bool) : Prop := ∀ (s : ByteArray) (h : Ok s L), okTrue (@call (TS s L h) Tryz.prog (KG L b) 5000 5 [.ostr 0, .bool b] H.empty) = true
def B1 : Prop := ∀ (t s : ByteArray) (h : Ok s 40) (e : s = t.extract 0 40) (hn : 40 < t.size), @chS (TB t s h e hn) 40 = true
def B2 : Prop := ∀ (t s : ByteArray) (h : Ok s 40) (e : s = t.extract 0 40) (hn : 40 < t.size), @inRun Tryz.prog (TB t s h e hn) (KS 40) 5000 (stI 40) = true
def B3 : Prop := ∀ (t s : ByteArray) (h : Ok s 40) (e : s = t.extract 0 40) (hn : 40 < t.size), @inRun Tryz.prog (TB t s h e hn) (KL 40) 5000 (laI 40) = true
def GB (b : Bool) : Prop := ∀ (t s : ByteArray) (h : Ok s 40) (e : s = t.extract 0 40) (hn : 40 < t.size), okTrue (@call (TB t s h e hn) Tryz.prog (KG 40 b) 5000 5 [.ostr 3, .bool b] H.empty) = true
def GC (p : Nat × Nat) (b : Bool) : Prop := ∃ K, @HandOk Tab.empty Tryz.prog K ∧ okTrue (@call Tab.empty Tryz.prog K 5000 5 [.str p.1 p.2, .bool b] H.empty) = true
/- a byte that is no char of the law's -/
/-- 0: less than one; 1: too great -/
def badB (s : ByteArray) (i : Nat) : Bool → Prop
  | false => byt s i < 1
  | true => 126 < byt s i
structure Bad (s : ByteArray) (i : Nat) (b : Bool) : Prop where
  hi : i < s.size
  hU : ∀ k, k < i → 1 ≤ byt s k ∧ byt s k ≤ 126
  hb : badB s i b
  h40 : s.size ≤ 40
def kB (l : List BRow) : Nat → List BRow
  | 0 => l
  | k + 1 => (11, .oi (B k), .int .u8 1, .bool false) :: (13, .oi (B k), .int .u8 126, .bool false) :: kB l k
theorem kB_ok {s : ByteArray} {iv : Nat → IntKind × Int} (hiv : ∀ m, 100 ≤ m → iv m = ivC (byt s) m) {l : List BRow} (hl : ∀ r ∈ l, IbOk iv r) : ∀ i, (∀ k, k < i → 1 ≤ byt s k ∧ byt s k ≤ 126) → ∀ r ∈ kB l i, IbOk iv r
  | 0, _ => hl
  | k + 1, h => by
    have hk := h k (by omega)
    unfold kB
    exact allC (ibLtK (k := .u8) (a := byt s k) (b := 1) (atB hiv k) rfl (decide_eq_false (by omega))) <| allC (ibGtK (k := .u8) (a := byt s k) (b := 126) (atB hiv k) rfl (decide_eq_false (by omega))) <| kB_ok hiv hl k fun k h' => h k (by omega)
def eB (i : Nat) (b : Bool) (l : List BRow) : List BRow := match b with
  | false => (11, .oi (B i), .int .u8 1, .bool true) :: l
  | true => (11, .oi (B i), .int .u8 1, .bool false) :: (13, .oi (B i), .int .u8 126, .bool true) :: l
theorem eB_ok {s : ByteArray} {iv : Nat → IntKind × Int} (hiv : ∀ m, 100 ≤ m → iv m = ivC (byt s) m) {i : Nat} : ∀ {b : Bool} (h : badB s i b) {l : List BRow} (hl : ∀ r ∈ l, IbOk iv r), ∀ r ∈ eB i b l, IbOk iv r
  | false, h, l, hl => allC (ibLtK (k := .u8) (a := byt s i) (b := 1) (atB hiv i) rfl (decide_eq_true h)) hl
  | true, h, l, hl => allC (ibLtK (k := .u8) (a := byt s i) (b := 1) (atB hiv i) rfl (decide_eq_false (by have : 126 < byt s i := h; omega))) <| allC (ibGtK (k := .u8) (a := byt s i) (b := 126) (atB hiv i) rfl (decide_eq_true h)) hl
def lB : Nat → List BRow
  | 0 => []
  | k + 1 => (11, .int .i64 (k : Int), .oi 60, .bool true) :: lB k
theorem lB_ok {iv : Nat → IntKind × Int} {n : Nat} (h60 : iv 60 = (.i64, (n : Int))) : ∀ i, i ≤ n → ∀ r ∈ lB i, IbOk iv r
  | 0, _ => fun r h => by simp [lB] at h
  | k + 1, h => by
    unfold lB
    exact allC (ibLt (a := (k : Int)) (b := (n : Int)) rfl (by show some (iv 60) = _; rw [h60]) (decide_eq_true (by omega))) (lB_ok h60 k (by omega))
abbrev VBad (s : ByteArray) (n i : Nat) (b : Bool) (h : Bad s i b) (l : List BRow) (hl : ∀ r ∈ l, IbOk (ivT s n) r) : VRows (ivT s n) noV noK where
  vvp := noVp
  ib := kB (eB i b l) i
  ibok := kB_ok ivT_ge (eB_ok ivT_ge h.hb hl) i h.hU
abbrev XBad (s t : ByteArray) (n i : Nat) (b : Bool) (h : Bad s i b) (l : List TRow) (hl : ∀ r ∈ l, TrOk (strT s t) (ivT s n) r.1 r.2.1 r.2.2) : Txts (ivT s n) where
  str := strT s t
  tr := r1 l (i + 1)
  trok := r1_ok ivT_ge hl (i + 1) h.hi
theorem small_b {s : ByteArray} {i : Nat} {b : Bool} (h : Bad s i b) : ∀ r ∈ ((13, .oi 60, .int .i64 40, .bool false) : BRow) :: lB (i + 1), IbOk (ivT s 0) r := by
  have := h.h40
  exact allC (ibGt (a := (s.size : Int)) (b := 40) rfl rfl (decide_eq_false (by omega))) (lB_ok rfl (i + 1) h.hi)
abbrev TBs (s : ByteArray) (i : Nat) (b : Bool) (h : Bad s i b) : Tab := (VBad s 0 i b h _ (small_b h)).ttab (XBad s s 0 i b h [(0, [.ostr 0], .oi 60)] (txCons ⟨s, rfl, rfl⟩ txNil))
theorem big_t2 {s t : ByteArray} (h : s = t.extract 0 40) (hn : 40 < t.size) : ∀ r ∈ [((0, [.ostr 3], .oi 61) : TRow), (2, [.ostr 3, .nilp, .int .i64 40], .ostr 0), (0, [.ostr 0], .int .i64 40)], TrOk (strT s t) (ivT s t.size) r.1 r.2.1 r.2.2 := by
  have hz : s.size = 40 := by rw [h, ByteArray.size_extract]; omega
  exact txCons ⟨t, rfl, rfl⟩ <| txCons ⟨t, 0, 40, rfl, rfl, ⟨.i64, rfl⟩, by decide, by omega, by rw [← h]; rfl⟩ <| txCons ⟨s, rfl, by rw [hz]; rfl⟩ txNil
abbrev TBb (t s : ByteArray) (i : Nat) (b : Bool) (h : Bad s i b) (e : s = t.extract 0 40) (hn : 40 < t.size) : Tab := (VBad s t.size i b h _ (big_b hn)).ttab (XBad s t t.size i b h _ (big_t2 e hn))
def HS (i : Nat) (b : Bool) : Prop := ∀ (c : Bool) (s : ByteArray) (h : Bad s i b), okTrue (@call (TBs s i b h) Tryz.prog K_top0 5000 5 [.ostr 0, .bool c] H.empty) = true
def HB (i : Nat) (b : Bool) : Prop := ∀ (c : Bool) (t s : ByteArray) (h : Bad s i b) (e : s = t.extract 0 40) (hn : 40 < t.size), okTrue (@call (TBb t s i b h e hn) Tryz.prog K_top0 5000 5 [.ostr 3, .bool c] H.empty) = true
theorem allNil {α : Type} {G : α → Prop} : ∀ q ∈ ([] : List α), G q := fun q h => by simp at h
end Go.Proofs.YtaajjlnckckkkaaGreatDoor.tm
