/-
  The law ProfileTop: texts are cut; rows stand ahead of others.
-/
import Derived.Test.YtnenjcehicaobaaPGE
set_option linter.unusedVariables false
set_option linter.unusedSimpArgs false
set_option linter.unusedSectionVars false
set_option maxRecDepth 1000000
set_option maxHeartbeats 0
namespace Go.Proofs.Ytnenjcehicaobaa.pf
open Go.X Go.RowKit Go.Proofs
noncomputable abbrev TC' (q : Cq) (l : List BRow) (h : ∀ r ∈ l, IbOk (ivC q) r) (t : Bool) (ht : Op.bytesLess q.a.1.toList q.b.1.toList = t) : Tab := { TC q l h with tr := [(8, [.ostr 0, .ostr 1], .bool t)], trok := allCons ⟨q.a.1, q.b.1, rfl, rfl, by rw [ht]⟩ (fun _ h => nomatch h) }
section
variable {q : Cq}
abbrev rwG (t u : Bool) : List BRow := [(13, .oi 0, .oi 1, .bool t), (9, .oi 0, .oi 1, .bool u)]
theorem rwG_ok {t u : Bool} (h1 : decide (q.a.2 > q.b.2) = t) (h2 : decide (q.a.2 = q.b.2) = u) : ∀ r ∈ rwG t u, IbOk (ivC q) r := rGt (rEq (a := q.a.2) (b := q.b.2) (K := .i64) ibNil rfl rfl h2) rfl rfl h1
theorem ofIn8 {T : Tab} (h : @inRun Try.prog T Hand.none 500 ⟨8, cArgs, 0, [], .bool true, 2, []⟩ = true) : ∃ p, @CallOk T Try.prog 8 cArgs H.empty (.bool true, p) := by
  have o := @InOk.of_run Try.prog T Hand.none mixed hNo 500 ⟨8, cArgs, 0, [], .bool true, 2, []⟩ (by kernel_rfl) h
  obtain ⟨h', k1, _, _⟩ := @InOk.run Try.prog _ T o
  exact ⟨h', k1⟩
theorem aGt (u s : Bool) (h1 : decide (q.a.2 > q.b.2) = true) (h2 : decide (q.a.2 = q.b.2) = u) (hs : Op.bytesLess q.a.1.toList q.b.1.toList = s) : ∃ p, @CallOk (TC' q (rwG true u) (rwG_ok h1 h2) s hs) Try.prog 8 cArgs H.empty (.bool true, p) := ofIn8 (by cases u <;> cases s <;> as_aux_lemma => kernel_rfl)
theorem aEq (h1 : decide (q.a.2 > q.b.2) = false) (h2 : decide (q.a.2 = q.b.2) = true) (hs : Op.bytesLess q.a.1.toList q.b.1.toList = true) : ∃ p, @CallOk (TC' q (rwG false true) (rwG_ok h1 h2) true hs) Try.prog 8 cArgs H.empty (.bool true, p) := ofIn8 (by as_aux_lemma => kernel_rfl)
theorem yesOf {l : List BRow} {h : ∀ r ∈ l, IbOk (ivC q) r} {s : Bool} {hs : Op.bytesLess q.a.1.toList q.b.1.toList = s} {w : World} (k : ∃ p, @CallOk (TC' q l h s hs) Try.prog 8 cArgs H.empty (.bool true, p)) :
    Calls Try.prog 8 #[.agg ⟨[.string q.a.1, .int .i64 q.a.2]⟩, .agg ⟨[.string q.b.1, .int .i64 q.b.2]⟩] w fun x w' => x = .returned (.bool true) ∧ Below w.heap.size w w' := by
  obtain ⟨p, k⟩ := k
  letI := TC' q l h s hs
  have hr : ∀ (i j : Nat) (r : Row), @Tab.str (TC' q l h s hs) i = r.1 → @Tab.iv (TC' q l h s hs) j = (.i64, r.2) → @vrel (TC' q l h s hs) (fun _ => none) (.agg [.ostr i, .oi j]) (.agg ⟨[.string r.1, .int .i64 r.2]⟩) := by
    intro i j r e1 e2
    simp only [vrel, vrels]
    exact ⟨_, rfl, _, _, rfl, by rw [e1], _, _, rfl, by rw [e2], rfl⟩
  refine (@CallOk.closed (TC' q l h s hs) Try.prog 8 _ #[.agg ⟨[.string q.a.1, .int .i64 q.a.2]⟩, .agg ⟨[.string q.b.1, .int .i64 q.b.2]⟩] _ k ⟨_, _, rfl, hr 0 0 q.a rfl rfl, _, _, rfl, hr 1 1 q.b rfl rfl, rfl⟩ w ⟨fun g o a hg => (nomatch hg), fun i m a hg => (nomatch hg)⟩).mono ?_
  rintro x w' ⟨v', μ', rfl, hr, rr⟩
  have hr' : v' = .bool true := by simpa only [vrel] using hr
  exact ⟨by rw [hr'], rrBelow _ rr⟩
end
theorem less_cb : ∀ a b : List UInt8, Lib.compareBytes a b < 0 → Op.bytesLess a b = true
  | [], [], h => by cases h
  | [], _ :: _, _ => rfl
  | _ :: _, [], h => by cases h
  | x :: a, y :: b, h => by
    unfold Lib.compareBytes at h
    unfold Op.bytesLess
    by_cases h1 : x < y
    · simp [h1]
    · rw [if_neg h1] at h
      by_cases h2 : y < x
      · rw [if_pos h2] at h; cases h
      · rw [if_neg h2] at h
        have : x = y := UInt8.le_antisymm (UInt8.not_lt.1 h2) (UInt8.not_lt.1 h1)
        simp [this, less_cb a b h]
theorem ahead_is {a b : Row} (h : Lt a b) (w : World) : Calls Try.prog 8 #[.agg ⟨[.string a.1, .int .i64 a.2]⟩, .agg ⟨[.string b.1, .int .i64 b.2]⟩] w fun x w' => x = .returned (.bool true) ∧ Below w.heap.size w w' := by
  rcases Lt_iff.1 h with h1 | ⟨h1, h2⟩
  · exact yesOf (q := ⟨a, b⟩) (aGt _ _ (decide_eq_true h1) rfl rfl)
  · refine yesOf (q := ⟨a, b⟩) (aEq (decide_eq_false (by show ¬ a.2 > b.2; omega)) (decide_eq_true h1) ?_)
    show Op.bytesLess a.1.toList b.1.toList = true
    rw [@bytes_toList Tab.empty, @bytes_toList Tab.empty]
    exact less_cb _ _ h2
noncomputable abbrev ahH (i j i' j' : Nat) : Hand := oneHand 8 [.agg [.ostr i, .oi j], .agg [.ostr i', .oi j']] (.bool true)
theorem ahH_ok {T : Tab} {a b : Row} {i j i' j' : Nat} (h : Lt a b) (h1 : T.str i = a.1) (h2 : T.iv j = (.i64, a.2)) (h3 : T.str i' = b.1) (h4 : T.iv j' = (.i64, b.2)) : @HandOk T Try.prog (ahH i j i' j') := by
  letI := T
  refine oneHand_ok fun h' => callFact fun B w0 μ w l r hv => ?_
  simp only [vrels, vrel] at hv
  obtain ⟨v, _, rfl, ⟨c1, rfl, x1, _, rfl, rfl, x2, _, rfl, rfl, rfl⟩, u, _, rfl, ⟨c2, rfl, x3, _, rfl, rfl, x4, _, rfl, rfl, rfl⟩, rfl⟩ := hv
  rw [h1, h2, h3, h4]
  refine (ahead_is h w).mono ?_
  rintro x w' ⟨rfl, hb⟩
  exact ⟨⟨_, rfl, fun μ => by simp only [vrel]⟩, hb⟩
/- texts are cut -/
abbrev ivK (s : ByteArray) : Nat → IntKind × Int
  | 5 => (.i64, (s.size : Int))
  | _ => (.i64, 0)
noncomputable abbrev NmK (s : ByteArray) : Nms := ⟨ivK s, fun k => if k = 0 then s else cutB s, fun _ => .nilIface⟩
noncomputable abbrev TK (s : ByteArray) (t : Bool) (h : decide (30 < s.size) = t) : Tab := { tabG (NmK s) (fun _ _ => none) (fun _ => 0) (fun _ _ _ h => nomatch h) (fun _ => (0, 0)) (fun _ => 0) (fun _ _ => none) (fun _ _ => none) (fun _ => ([], 0)) (fun _ => (0, [], 0)) with
  ib := [(13, .oi 5, .int .i64 30, .bool t)]
  ibok := rGt (a := (s.size : Int)) (b := 30) ibNil rfl rfl (by rw [← h, decide_eq_decide]; omega)
  tr := bif t then [(0, [.ostr 0], .oi 5), (2, [.ostr 0, .nilp, .int .i64 30], .ostr 2)] else [(0, [.ostr 0], .oi 5)]
  trok := by
    cases t with
    | false => exact allCons ⟨s, rfl, rfl⟩ (fun _ h => nomatch h)
    | true =>
      have h := of_decide_eq_true h
      refine allCons ⟨s, rfl, rfl⟩ (allCons ⟨s, 0, 30, rfl, rfl, ⟨.i64, rfl⟩, by omega, by omega, ?_⟩ (fun _ h => nomatch h))
      show some (cutB s) = some (s.extract 0 30)
      unfold cutB
      rw [if_pos h] }
theorem cutT {s : ByteArray} (h : decide (30 < s.size) = true) : ∃ p, @CallOk (TK s true h) Try.prog 6 [.ostr 0, .int .i64 30] H.empty (.ostr 2, p) := by
  have o := @InOk.of_run Try.prog (TK s true h) Hand.none mixed hNo 500 ⟨6, [.ostr 0, .int .i64 30], 0, [], .ostr 2, 0, []⟩ (by kernel_rfl) (by as_aux_lemma => kernel_rfl)
  obtain ⟨h', k1, _, _⟩ := @InOk.run Try.prog _ (TK s true h) o
  exact ⟨h', k1⟩
theorem cutF {s : ByteArray} (h : decide (30 < s.size) = false) : ∃ p, @CallOk (TK s false h) Try.prog 6 [.ostr 0, .int .i64 30] H.empty (.ostr 0, p) := by
  have o := @InOk.of_run Try.prog (TK s false h) Hand.none mixed hNo 500 ⟨6, [.ostr 0, .int .i64 30], 0, [], .ostr 0, 0, []⟩ (by kernel_rfl) (by as_aux_lemma => kernel_rfl)
  obtain ⟨h', k1, _, _⟩ := @InOk.run Try.prog _ (TK s false h) o
  exact ⟨h', k1⟩
theorem cut_is (s : ByteArray) (w : World) : Calls Try.prog 6 #[.string s, .int .i64 30] w fun x w' => x = .returned (.string (cutB s)) ∧ Below w.heap.size w w' := by
  have key : ∀ {t : Bool} {h : decide (30 < s.size) = t} {i : Nat} (k : ∃ p, @CallOk (TK s t h) Try.prog 6 [.ostr 0, .int .i64 30] H.empty (.ostr i, p)) (hi : (NmK s).str i = cutB s), Calls Try.prog 6 #[.string s, .int .i64 30] w fun x w' => x = .returned (.string (cutB s)) ∧ Below w.heap.size w w' := by
    intro t h i k hi
    obtain ⟨p, k⟩ := k
    refine (@CallOk.closed (TK s t h) Try.prog 6 _ #[.string s, .int .i64 30] _ k ⟨_, _, rfl, by simp only [vrel]; rfl, _, _, rfl, by simp only [vrel], rfl⟩ w ⟨fun g o a hg => (nomatch hg), fun i m a hg => (nomatch hg)⟩).mono ?_
    rintro x w' ⟨v', μ', rfl, hr, rr⟩
    simp only [vrel] at hr
    have hr' : v' = .string ((NmK s).str i) := hr
    exact ⟨by rw [hr', hi], rrBelow _ rr⟩
  by_cases h : 30 < s.size
  · exact key (cutT (decide_eq_true h)) rfl
  · exact key (cutF (decide_eq_false h)) (by show s = cutB s; unfold cutB; rw [if_neg h])
noncomputable abbrev cutH : Hand := oneHand 6 [.ostr 0, .int .i64 30] (.ostr 2)
theorem cutH_ok {T : Tab} {s : ByteArray} (h1 : T.str 0 = s) (h2 : T.str 2 = cutB s) : @HandOk T Try.prog cutH := by
  letI := T
  refine oneHand_ok fun h' => callFact fun B w0 μ w l r hv => ?_
  simp only [vrels, vrel] at hv
  obtain ⟨v, _, rfl, rfl, u, _, rfl, rfl, rfl⟩ := hv
  rw [h1]
  refine (cut_is s w).mono ?_
  rintro x w' ⟨rfl, hb⟩
  exact ⟨⟨_, rfl, fun μ => by simp only [vrel]; rw [h2]⟩, hb⟩
end Go.Proofs.Ytnenjcehicaobaa.pf
