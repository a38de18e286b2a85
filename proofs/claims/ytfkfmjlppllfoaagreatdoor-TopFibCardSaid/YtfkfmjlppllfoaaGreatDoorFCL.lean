/-
  What the law TopFib gives.
-/
import Derived.Test.YtfkfmjlppllfoaaGreatDoorFCA
set_option linter.unusedSectionVars false
set_option linter.unusedVariables false
set_option maxRecDepth 1000000
set_option maxHeartbeats 0
namespace Go.Proofs.YtfkfmjlppllfoaaGreatDoor.fc
open Go.X Go.RowKit Go.Proofs.YtfkfmjlppllfoaaGreatDoor.fq
noncomputable def fullL : Code := (Tryz.f8.body).getD .skip
theorem bodyL_eq : Tryz.f8.body = some fullL := by kernel_rfl
noncomputable abbrev NL : Nat := Tryz.f8.ntmps
noncomputable abbrev fsA : List (Nat × AV) := [(0, .oi 0), (3, .bool true)]
section
variable {B : Kp} {w0 : World} {a : Act} {w : World}
theorem run2 : runTrue ((RL2 (x := 2) (r1 := 1) (q := 23) (s := 0) (d := 0) rfl rfl).tab) Tryz.prog ((inHand CR).or K_top0) 5000 Tryz.f8 (restn 4 fullL) (frOf fsA) (hOf 6868 []) = true := (by as_aux_lemma => kernel_rfl)
theorem back2 (s : St ((RL (x := 2) (r1 := 1) (q := 23) (s := 0) (d := 0) (by decide) (by decide)).tab) (Kp.below w0.heap.size) w0 (fun _ => none) NL (frOf fsA) (hOf 6868 []) a w) : (restn 4 fullL).wp Tryz.prog (Yes Tryz.prog Tryz.f8 (Kp.below w0.heap.size) w0) a w := by
  letI : Tab := ((RL2 (x := 2) (r1 := 1) (q := 23) (s := 0) (d := 0) rfl rfl).tab)
  exact runTrue_sound (T := ((RL2 (x := 2) (r1 := 1) (q := 23) (s := 0) (d := 0) rfl rfl).tab)) fb.mixed (HandOk.or (inHand_ok (InOk.tab (VRows.same _ _) (CR_ok (x := 2) (r1 := 1) (q := 23) (by decide) (by decide) 2 rfl (by decide) (by decide))) (by kernel_rfl)) K_top0_ok) run2 (St.same (VRows.same _ _) s)
theorem run3 : runTrue ((RL3 (x := 3) (r1 := 2) (q := 41) (s := 0) (d := 0) rfl rfl).tab) Tryz.prog ((inHand CR).or K_top0) 5000 Tryz.f8 (restn 4 fullL) (frOf fsA) (hOf 6868 []) = true := (by as_aux_lemma => kernel_rfl)
theorem back3 (s : St ((RL (x := 3) (r1 := 2) (q := 41) (s := 0) (d := 0) (by decide) (by decide)).tab) (Kp.below w0.heap.size) w0 (fun _ => none) NL (frOf fsA) (hOf 6868 []) a w) : (restn 4 fullL).wp Tryz.prog (Yes Tryz.prog Tryz.f8 (Kp.below w0.heap.size) w0) a w := by
  letI : Tab := ((RL3 (x := 3) (r1 := 2) (q := 41) (s := 0) (d := 0) rfl rfl).tab)
  exact runTrue_sound (T := ((RL3 (x := 3) (r1 := 2) (q := 41) (s := 0) (d := 0) rfl rfl).tab)) fb.mixed (HandOk.or (inHand_ok (InOk.tab (VRows.same _ _) (CR_ok (x := 3) (r1 := 2) (q := 41) (by decide) (by decide) 3 rfl (by decide) (by decide))) (by kernel_rfl)) K_top0_ok) run3 (St.same (VRows.same _ _) s)
theorem run4 : runTrue ((RL4 (x := 4) (r1 := 3) (q := 77) (s := 0) (d := 0) rfl rfl).tab) Tryz.prog ((inHand CR).or K_top0) 5000 Tryz.f8 (restn 4 fullL) (frOf fsA) (hOf 6868 []) = true := (by as_aux_lemma => kernel_rfl)
theorem back4 (s : St ((RL (x := 4) (r1 := 3) (q := 77) (s := 0) (d := 0) (by decide) (by decide)).tab) (Kp.below w0.heap.size) w0 (fun _ => none) NL (frOf fsA) (hOf 6868 []) a w) : (restn 4 fullL).wp Tryz.prog (Yes Tryz.prog Tryz.f8 (Kp.below w0.heap.size) w0) a w := by
  letI : Tab := ((RL4 (x := 4) (r1 := 3) (q := 77) (s := 0) (d := 0) rfl rfl).tab)
  exact runTrue_sound (T := ((RL4 (x := 4) (r1 := 3) (q := 77) (s := 0) (d := 0) rfl rfl).tab)) fb.mixed (HandOk.or (inHand_ok (InOk.tab (VRows.same _ _) (CR_ok (x := 4) (r1 := 3) (q := 77) (by decide) (by decide) 4 rfl (by decide) (by decide))) (by kernel_rfl)) K_top0_ok) run4 (St.same (VRows.same _ _) s)
theorem run5 : runTrue ((RL5 (x := 5) (r1 := 5) (q := 131) (s := 0) (d := 0) rfl rfl).tab) Tryz.prog ((inHand CR).or K_top0) 5000 Tryz.f8 (restn 4 fullL) (frOf fsA) (hOf 6868 []) = true := (by as_aux_lemma => kernel_rfl)
theorem back5 (s : St ((RL (x := 5) (r1 := 5) (q := 131) (s := 0) (d := 0) (by decide) (by decide)).tab) (Kp.below w0.heap.size) w0 (fun _ => none) NL (frOf fsA) (hOf 6868 []) a w) : (restn 4 fullL).wp Tryz.prog (Yes Tryz.prog Tryz.f8 (Kp.below w0.heap.size) w0) a w := by
  letI : Tab := ((RL5 (x := 5) (r1 := 5) (q := 131) (s := 0) (d := 0) rfl rfl).tab)
  exact runTrue_sound (T := ((RL5 (x := 5) (r1 := 5) (q := 131) (s := 0) (d := 0) rfl rfl).tab)) fb.mixed (HandOk.or (inHand_ok (InOk.tab (VRows.same _ _) (CR_ok (x := 5) (r1 := 5) (q := 131) (by decide) (by decide) 5 rfl (by decide) (by decide))) (by kernel_rfl)) K_top0_ok) run5 (St.same (VRows.same _ _) s)
theorem run6 : runTrue ((RL6 (x := 6) (r1 := 8) (q := 221) (s := 0) (d := 0) rfl rfl).tab) Tryz.prog ((inHand CR).or K_top0) 5000 Tryz.f8 (restn 4 fullL) (frOf fsA) (hOf 6868 []) = true := (by as_aux_lemma => kernel_rfl)
theorem back6 (s : St ((RL (x := 6) (r1 := 8) (q := 221) (s := 0) (d := 0) (by decide) (by decide)).tab) (Kp.below w0.heap.size) w0 (fun _ => none) NL (frOf fsA) (hOf 6868 []) a w) : (restn 4 fullL).wp Tryz.prog (Yes Tryz.prog Tryz.f8 (Kp.below w0.heap.size) w0) a w := by
  letI : Tab := ((RL6 (x := 6) (r1 := 8) (q := 221) (s := 0) (d := 0) rfl rfl).tab)
  exact runTrue_sound (T := ((RL6 (x := 6) (r1 := 8) (q := 221) (s := 0) (d := 0) rfl rfl).tab)) fb.mixed (HandOk.or (inHand_ok (InOk.tab (VRows.same _ _) (CR_ok (x := 6) (r1 := 8) (q := 221) (by decide) (by decide) 6 rfl (by decide) (by decide))) (by kernel_rfl)) K_top0_ok) run6 (St.same (VRows.same _ _) s)
theorem run7 : runTrue ((RL7 (x := 7) (r1 := 13) (q := 365) (s := 0) (d := 0) rfl rfl).tab) Tryz.prog ((inHand CR).or K_top0) 5000 Tryz.f8 (restn 4 fullL) (frOf fsA) (hOf 6868 []) = true := (by as_aux_lemma => kernel_rfl)
theorem back7 (s : St ((RL (x := 7) (r1 := 13) (q := 365) (s := 0) (d := 0) (by decide) (by decide)).tab) (Kp.below w0.heap.size) w0 (fun _ => none) NL (frOf fsA) (hOf 6868 []) a w) : (restn 4 fullL).wp Tryz.prog (Yes Tryz.prog Tryz.f8 (Kp.below w0.heap.size) w0) a w := by
  letI : Tab := ((RL7 (x := 7) (r1 := 13) (q := 365) (s := 0) (d := 0) rfl rfl).tab)
  exact runTrue_sound (T := ((RL7 (x := 7) (r1 := 13) (q := 365) (s := 0) (d := 0) rfl rfl).tab)) fb.mixed (HandOk.or (inHand_ok (InOk.tab (VRows.same _ _) (CR_ok (x := 7) (r1 := 13) (q := 365) (by decide) (by decide) 7 rfl (by decide) (by decide))) (by kernel_rfl)) K_top0_ok) run7 (St.same (VRows.same _ _) s)
theorem run8 : runTrue ((RL8 (x := 8) (r1 := 21) (q := 599) (s := 0) (d := 0) rfl rfl).tab) Tryz.prog ((inHand CR).or K_top0) 5000 Tryz.f8 (restn 4 fullL) (frOf fsA) (hOf 6868 []) = true := (by as_aux_lemma => kernel_rfl)
theorem back8 (s : St ((RL (x := 8) (r1 := 21) (q := 599) (s := 0) (d := 0) (by decide) (by decide)).tab) (Kp.below w0.heap.size) w0 (fun _ => none) NL (frOf fsA) (hOf 6868 []) a w) : (restn 4 fullL).wp Tryz.prog (Yes Tryz.prog Tryz.f8 (Kp.below w0.heap.size) w0) a w := by
  letI : Tab := ((RL8 (x := 8) (r1 := 21) (q := 599) (s := 0) (d := 0) rfl rfl).tab)
  exact runTrue_sound (T := ((RL8 (x := 8) (r1 := 21) (q := 599) (s := 0) (d := 0) rfl rfl).tab)) fb.mixed (HandOk.or (inHand_ok (InOk.tab (VRows.same _ _) (CR_ok (x := 8) (r1 := 21) (q := 599) (by decide) (by decide) 8 rfl (by decide) (by decide))) (by kernel_rfl)) K_top0_ok) run8 (St.same (VRows.same _ _) s)
theorem run9 : runTrue ((RL9 (x := 9) (r1 := 34) (q := 977) (s := 0) (d := 0) rfl rfl).tab) Tryz.prog ((inHand CR).or K_top0) 5000 Tryz.f8 (restn 4 fullL) (frOf fsA) (hOf 6868 []) = true := (by as_aux_lemma => kernel_rfl)
theorem back9 (s : St ((RL (x := 9) (r1 := 34) (q := 977) (s := 0) (d := 0) (by decide) (by decide)).tab) (Kp.below w0.heap.size) w0 (fun _ => none) NL (frOf fsA) (hOf 6868 []) a w) : (restn 4 fullL).wp Tryz.prog (Yes Tryz.prog Tryz.f8 (Kp.below w0.heap.size) w0) a w := by
  letI : Tab := ((RL9 (x := 9) (r1 := 34) (q := 977) (s := 0) (d := 0) rfl rfl).tab)
  exact runTrue_sound (T := ((RL9 (x := 9) (r1 := 34) (q := 977) (s := 0) (d := 0) rfl rfl).tab)) fb.mixed (HandOk.or (inHand_ok (InOk.tab (VRows.same _ _) (CR_ok (x := 9) (r1 := 34) (q := 977) (by decide) (by decide) 9 rfl (by decide) (by decide))) (by kernel_rfl)) K_top0_ok) run9 (St.same (VRows.same _ _) s)
theorem run10 : runTrue ((RL10 (x := 10) (r1 := 55) (q := 1589) (s := 0) (d := 0) rfl rfl).tab) Tryz.prog ((inHand CR).or K_top0) 5000 Tryz.f8 (restn 4 fullL) (frOf fsA) (hOf 6868 []) = true := (by as_aux_lemma => kernel_rfl)
theorem back10 (s : St ((RL (x := 10) (r1 := 55) (q := 1589) (s := 0) (d := 0) (by decide) (by decide)).tab) (Kp.below w0.heap.size) w0 (fun _ => none) NL (frOf fsA) (hOf 6868 []) a w) : (restn 4 fullL).wp Tryz.prog (Yes Tryz.prog Tryz.f8 (Kp.below w0.heap.size) w0) a w := by
  letI : Tab := ((RL10 (x := 10) (r1 := 55) (q := 1589) (s := 0) (d := 0) rfl rfl).tab)
  exact runTrue_sound (T := ((RL10 (x := 10) (r1 := 55) (q := 1589) (s := 0) (d := 0) rfl rfl).tab)) fb.mixed (HandOk.or (inHand_ok (InOk.tab (VRows.same _ _) (CR_ok (x := 10) (r1 := 55) (q := 1589) (by decide) (by decide) 10 rfl (by decide) (by decide))) (by kernel_rfl)) K_top0_ok) run10 (St.same (VRows.same _ _) s)
theorem run11 : runTrue ((RL11 (x := 11) (r1 := 89) (q := 2579) (s := 0) (d := 0) rfl rfl).tab) Tryz.prog ((inHand CR).or K_top0) 5000 Tryz.f8 (restn 4 fullL) (frOf fsA) (hOf 6868 []) = true := (by as_aux_lemma => kernel_rfl)
theorem back11 (s : St ((RL (x := 11) (r1 := 89) (q := 2579) (s := 0) (d := 0) (by decide) (by decide)).tab) (Kp.below w0.heap.size) w0 (fun _ => none) NL (frOf fsA) (hOf 6868 []) a w) : (restn 4 fullL).wp Tryz.prog (Yes Tryz.prog Tryz.f8 (Kp.below w0.heap.size) w0) a w := by
  letI : Tab := ((RL11 (x := 11) (r1 := 89) (q := 2579) (s := 0) (d := 0) rfl rfl).tab)
  exact runTrue_sound (T := ((RL11 (x := 11) (r1 := 89) (q := 2579) (s := 0) (d := 0) rfl rfl).tab)) fb.mixed (HandOk.or (inHand_ok (InOk.tab (VRows.same _ _) (CR_ok (x := 11) (r1 := 89) (q := 2579) (by decide) (by decide) 11 rfl (by decide) (by decide))) (by kernel_rfl)) K_top0_ok) run11 (St.same (VRows.same _ _) s)
theorem run12 : runTrue ((RL12 (x := 12) (r1 := 144) (q := 4181) (s := 0) (d := 0) rfl rfl).tab) Tryz.prog ((inHand CR).or K_top0) 5000 Tryz.f8 (restn 4 fullL) (frOf fsA) (hOf 6868 []) = true := (by as_aux_lemma => kernel_rfl)
theorem back12 (s : St ((RL (x := 12) (r1 := 144) (q := 4181) (s := 0) (d := 0) (by decide) (by decide)).tab) (Kp.below w0.heap.size) w0 (fun _ => none) NL (frOf fsA) (hOf 6868 []) a w) : (restn 4 fullL).wp Tryz.prog (Yes Tryz.prog Tryz.f8 (Kp.below w0.heap.size) w0) a w := by
  letI : Tab := ((RL12 (x := 12) (r1 := 144) (q := 4181) (s := 0) (d := 0) rfl rfl).tab)
  exact runTrue_sound (T := ((RL12 (x := 12) (r1 := 144) (q := 4181) (s := 0) (d := 0) rfl rfl).tab)) fb.mixed (HandOk.or (inHand_ok (InOk.tab (VRows.same _ _) (CR_ok (x := 12) (r1 := 144) (q := 4181) (by decide) (by decide) 12 rfl (by decide) (by decide))) (by kernel_rfl)) K_top0_ok) run12 (St.same (VRows.same _ _) s)
theorem run13 : runTrue ((RL13 (x := 13) (r1 := 233) (q := 6773) (s := 0) (d := 0) rfl rfl).tab) Tryz.prog ((inHand CR).or K_top0) 5000 Tryz.f8 (restn 4 fullL) (frOf fsA) (hOf 6868 []) = true := (by as_aux_lemma => kernel_rfl)
theorem back13 (s : St ((RL (x := 13) (r1 := 233) (q := 6773) (s := 0) (d := 0) (by decide) (by decide)).tab) (Kp.below w0.heap.size) w0 (fun _ => none) NL (frOf fsA) (hOf 6868 []) a w) : (restn 4 fullL).wp Tryz.prog (Yes Tryz.prog Tryz.f8 (Kp.below w0.heap.size) w0) a w := by
  letI : Tab := ((RL13 (x := 13) (r1 := 233) (q := 6773) (s := 0) (d := 0) rfl rfl).tab)
  exact runTrue_sound (T := ((RL13 (x := 13) (r1 := 233) (q := 6773) (s := 0) (d := 0) rfl rfl).tab)) fb.mixed (HandOk.or (inHand_ok (InOk.tab (VRows.same _ _) (CR_ok (x := 13) (r1 := 233) (q := 6773) (by decide) (by decide) 13 rfl (by decide) (by decide))) (by kernel_rfl)) K_top0_ok) run13 (St.same (VRows.same _ _) s)
theorem run14 : runTrue ((RL14 (x := 14) (r1 := 377) (q := 10967) (s := 0) (d := 0) rfl rfl).tab) Tryz.prog ((inHand CR).or K_top0) 5000 Tryz.f8 (restn 4 fullL) (frOf fsA) (hOf 6868 []) = true := (by as_aux_lemma => kernel_rfl)
theorem back14 (s : St ((RL (x := 14) (r1 := 377) (q := 10967) (s := 0) (d := 0) (by decide) (by decide)).tab) (Kp.below w0.heap.size) w0 (fun _ => none) NL (frOf fsA) (hOf 6868 []) a w) : (restn 4 fullL).wp Tryz.prog (Yes Tryz.prog Tryz.f8 (Kp.below w0.heap.size) w0) a w := by
  letI : Tab := ((RL14 (x := 14) (r1 := 377) (q := 10967) (s := 0) (d := 0) rfl rfl).tab)
  exact runTrue_sound (T := ((RL14 (x := 14) (r1 := 377) (q := 10967) (s := 0) (d := 0) rfl rfl).tab)) fb.mixed (HandOk.or (inHand_ok (InOk.tab (VRows.same _ _) (CR_ok (x := 14) (r1 := 377) (q := 10967) (by decide) (by decide) 14 rfl (by decide) (by decide))) (by kernel_rfl)) K_top0_ok) run14 (St.same (VRows.same _ _) s)
end
abbrev ivU (m x r : Int) : Nat → IntKind × Int
  | 0 => (.i64, m)
  | 1 => (.i64, x)
  | 2 => (.i64, r)
  | _ => (.i64, 0)
theorem ibUp {m x r : Int} (hx : m.tmod 15 = x) (g1 : 2 ≤ x) (g2 : x < 15) (e1 : r = -x) : ∀ x_ ∈ ([(4, .oi 0, .int .i64 15, .oi 1), (11, .oi 1, .int .i64 0, .bool false)] : List BRow), IbOk (ivU m x r) x_ := by
  letI := Tab.empty
  exact (ibCons (ibRem (a := m) (b := 15) (c := x) rfl rfl rfl (by decide) hx) (ibCons (ibLt (a := x) (b := 0) rfl rfl (decide_eq_false (by omega))) ibNil))
abbrev RUp {m x r : Int} (hx : m.tmod 15 = x) (g1 : 2 ≤ x) (g2 : x < 15) (e1 : r = -x) : VRows (ivU m x r) noV noK where
  vvp := noVp
  ib := [(4, .oi 0, .int .i64 15, .oi 1), (11, .oi 1, .int .i64 0, .bool false)]
  ibok := ibUp hx g1 g2 e1
abbrev TUp {m x r : Int} (hx : m.tmod 15 = x) (g1 : 2 ≤ x) (g2 : x < 15) (e1 : r = -x) : Tab := (RUp hx g1 g2 e1).tab
theorem yesp {m x r : Int} (hx : m.tmod 15 = x) (g1 : 2 ≤ x) (g2 : x < 15) (e1 : r = -x) (r1 q : Int) (w : World) (bk : ∀ (a : Act) (w' : World), St ((RL (x := x) (r1 := r1) (q := q) (s := 0) (d := 0) g1 g2).tab) (Kp.below w.heap.size) w (fun _ => none) NL (frOf fsA) (hOf 6868 []) a w' → (restn 4 fullL).wp Tryz.prog (Yes Tryz.prog Tryz.f8 (Kp.below w.heap.size) w) a w') : Calls Tryz.prog 8 #[.int .i64 m] w fun e w' => e = .returned (.bool true) ∧ Below w.heap.size w w' := by
  refine yes_calls Tryz.func8 bodyL_eq w ?_
  have s0 := @St.start (TUp hx g1 g2 e1) [.oi 0] #[.int .i64 m] NL w ⟨fun g o a h => (by cases h), fun i m a h => (by cases h)⟩ (@vrels_cons (TUp hx g1 g2 e1) _ _ _ _ _ (by simp only [vrel]; rfl) (by simp [vrels])) (show 1 ≤ NL by decide +kernel) (show 1 < limit by decide)
  refine firstTo_sound (T := (TUp hx g1 g2 e1)) (T' := ((RL (x := x) (r1 := r1) (q := q) (s := 0) (d := 0) g1 g2).tab)) (K := K_top0) (m := 5000) (n := 4) fb.mixed (@K_top0_ok (TUp hx g1 g2 e1)) (C := ⟨0, 6868, ofPairs [], [(.oi 1, 0)]⟩) (rl := []) (vp := []) (fs := fsA) (bs := [])
      (Base.none _) (Nat.zero_le _) rfl (by kernel_rfl) (ipCons (ipN (.i64, x) rfl rfl) ipNil) vpNil (glNone rfl rfl) (by as_aux_lemma => kernel_rfl) s0 fun a' w' s => ?_
  exact bk a' w' s
theorem ibUn {m x r : Int} (hx : m.tmod 15 = r) (g1 : 2 ≤ x) (g2 : x < 15) (e1 : r = -x) : ∀ x_ ∈ ([(4, .oi 0, .int .i64 15, .oi 2), (11, .oi 2, .int .i64 0, .bool true)] : List BRow), IbOk (ivU m x r) x_ := by
  letI := Tab.empty
  exact (ibCons (ibRem (a := m) (b := 15) (c := r) rfl rfl rfl (by decide) hx) (ibCons (ibLt (a := r) (b := 0) rfl rfl (decide_eq_true (by omega))) ibNil))
abbrev RUn {m x r : Int} (hx : m.tmod 15 = r) (g1 : 2 ≤ x) (g2 : x < 15) (e1 : r = -x) : VRows (ivU m x r) noV noK where
  vvp := noVp
  ib := [(4, .oi 0, .int .i64 15, .oi 2), (11, .oi 2, .int .i64 0, .bool true)]
  ibok := ibUn hx g1 g2 e1
theorem iuT {m x r : Int} (hx : m.tmod 15 = r) (g1 : 2 ≤ x) (g2 : x < 15) (e1 : r = -x) : ∀ q ∈ ([(0, .oi 2, .oi 1)] : List (Nat × AV × AV)), ∀ op, ucode op = q.1 → ∃ k n_ v, denI (ivU m x r) q.2.1 = some (k, n_) ∧ unI op k n_ = some v ∧ outI (ivU m x r) q.2.2 v := fun q hq op hop => by
  simp only [List.mem_cons, List.not_mem_nil, or_false] at hq
  subst hq
  have : op = .neg := by cases op <;> simp [ucode] at hop; rfl
  subst this
  exact ⟨.i64, r, .int .i64 (IntKind.i64.wrap (0 - r)), rfl, rfl, by rw [wrap64 (by omega) (by omega)]; show some (IntKind.i64, x) = some (IntKind.i64, 0 - r); congr 2; omega⟩
abbrev TUn {m x r : Int} (hx : m.tmod 15 = r) (g1 : 2 ≤ x) (g2 : x < 15) (e1 : r = -x) : Tab := { (RUn hx g1 g2 e1).tab with
  iu := [(0, .oi 2, .oi 1)]
  iuok := iuT hx g1 g2 e1 }
theorem yesn {m x r : Int} (hx : m.tmod 15 = r) (g1 : 2 ≤ x) (g2 : x < 15) (e1 : r = -x) (r1 q : Int) (w : World) (bk : ∀ (a : Act) (w' : World), St ((RL (x := x) (r1 := r1) (q := q) (s := 0) (d := 0) g1 g2).tab) (Kp.below w.heap.size) w (fun _ => none) NL (frOf fsA) (hOf 6868 []) a w' → (restn 4 fullL).wp Tryz.prog (Yes Tryz.prog Tryz.f8 (Kp.below w.heap.size) w) a w') : Calls Tryz.prog 8 #[.int .i64 m] w fun e w' => e = .returned (.bool true) ∧ Below w.heap.size w w' := by
  refine yes_calls Tryz.func8 bodyL_eq w ?_
  have s0 := @St.start (TUn hx g1 g2 e1) [.oi 0] #[.int .i64 m] NL w ⟨fun g o a h => (by cases h), fun i m a h => (by cases h)⟩ (@vrels_cons (TUn hx g1 g2 e1) _ _ _ _ _ (by simp only [vrel]; rfl) (by simp [vrels])) (show 1 ≤ NL by decide +kernel) (show 1 < limit by decide)
  refine firstTo_sound (T := (TUn hx g1 g2 e1)) (T' := ((RL (x := x) (r1 := r1) (q := q) (s := 0) (d := 0) g1 g2).tab)) (K := K_top0) (m := 5000) (n := 4) fb.mixed (@K_top0_ok (TUn hx g1 g2 e1)) (C := ⟨0, 6868, ofPairs [], [(.oi 1, 0)]⟩) (rl := []) (vp := []) (fs := fsA) (bs := [])
      (Base.none _) (Nat.zero_le _) rfl (by kernel_rfl) (ipCons (ipN (.i64, x) rfl rfl) ipNil) vpNil (glNone rfl rfl) (by as_aux_lemma => kernel_rfl) s0 fun a' w' s => ?_
  exact bk a' w' s
theorem allp {m : Int} (x : Int) (hx : m.tmod 15 = x) (g1 : 2 ≤ x) (g2 : x < 15) (w : World) : Calls Tryz.prog 8 #[.int .i64 m] w fun e w' => e = .returned (.bool true) ∧ Below w.heap.size w w' := by
  have c : x = 2 ∨ x = 3 ∨ x = 4 ∨ x = 5 ∨ x = 6 ∨ x = 7 ∨ x = 8 ∨ x = 9 ∨ x = 10 ∨ x = 11 ∨ x = 12 ∨ x = 13 ∨ x = 14 := by omega
  rcases c with rfl | rfl | rfl | rfl | rfl | rfl | rfl | rfl | rfl | rfl | rfl | rfl | rfl
  · exact yesp (r := -2) hx g1 g2 rfl 1 23 w (fun a w' s => back2 s)
  · exact yesp (r := -3) hx g1 g2 rfl 2 41 w (fun a w' s => back3 s)
  · exact yesp (r := -4) hx g1 g2 rfl 3 77 w (fun a w' s => back4 s)
  · exact yesp (r := -5) hx g1 g2 rfl 5 131 w (fun a w' s => back5 s)
  · exact yesp (r := -6) hx g1 g2 rfl 8 221 w (fun a w' s => back6 s)
  · exact yesp (r := -7) hx g1 g2 rfl 13 365 w (fun a w' s => back7 s)
  · exact yesp (r := -8) hx g1 g2 rfl 21 599 w (fun a w' s => back8 s)
  · exact yesp (r := -9) hx g1 g2 rfl 34 977 w (fun a w' s => back9 s)
  · exact yesp (r := -10) hx g1 g2 rfl 55 1589 w (fun a w' s => back10 s)
  · exact yesp (r := -11) hx g1 g2 rfl 89 2579 w (fun a w' s => back11 s)
  · exact yesp (r := -12) hx g1 g2 rfl 144 4181 w (fun a w' s => back12 s)
  · exact yesp (r := -13) hx g1 g2 rfl 233 6773 w (fun a w' s => back13 s)
  · exact yesp (r := -14) hx g1 g2 rfl 377 10967 w (fun a w' s => back14 s)
theorem alln {m : Int} (x : Int) (hx : m.tmod 15 = -x) (g1 : 2 ≤ x) (g2 : x < 15) (w : World) : Calls Tryz.prog 8 #[.int .i64 m] w fun e w' => e = .returned (.bool true) ∧ Below w.heap.size w w' := by
  have c : x = 2 ∨ x = 3 ∨ x = 4 ∨ x = 5 ∨ x = 6 ∨ x = 7 ∨ x = 8 ∨ x = 9 ∨ x = 10 ∨ x = 11 ∨ x = 12 ∨ x = 13 ∨ x = 14 := by omega
  rcases c with rfl | rfl | rfl | rfl | rfl | rfl | rfl | rfl | rfl | rfl | rfl | rfl | rfl
  · exact yesn (r := -2) hx g1 g2 rfl 1 23 w (fun a w' s => back2 s)
  · exact yesn (r := -3) hx g1 g2 rfl 2 41 w (fun a w' s => back3 s)
  · exact yesn (r := -4) hx g1 g2 rfl 3 77 w (fun a w' s => back4 s)
  · exact yesn (r := -5) hx g1 g2 rfl 5 131 w (fun a w' s => back5 s)
  · exact yesn (r := -6) hx g1 g2 rfl 8 221 w (fun a w' s => back6 s)
  · exact yesn (r := -7) hx g1 g2 rfl 13 365 w (fun a w' s => back7 s)
  · exact yesn (r := -8) hx g1 g2 rfl 21 599 w (fun a w' s => back8 s)
  · exact yesn (r := -9) hx g1 g2 rfl 34 977 w (fun a w' s => back9 s)
  · exact yesn (r := -10) hx g1 g2 rfl 55 1589 w (fun a w' s => back10 s)
  · exact yesn (r := -11) hx g1 g2 rfl 89 2579 w (fun a w' s => back11 s)
  · exact yesn (r := -12) hx g1 g2 rfl 144 4181 w (fun a w' s => back12 s)
  · exact yesn (r := -13) hx g1 g2 rfl 233 6773 w (fun a w' s => back13 s)
  · exact yesn (r := -14) hx g1 g2 rfl 377 10967 w (fun a w' s => back14 s)
end Go.Proofs.YtfkfmjlppllfoaaGreatDoor.fc
