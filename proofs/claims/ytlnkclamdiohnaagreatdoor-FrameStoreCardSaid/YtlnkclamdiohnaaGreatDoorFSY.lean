/-
  The law FrameStore, for whatever the call is handed.
-/
import Derived.Test.YtlnkclamdiohnaaGreatDoorFSR0
import Derived.Test.YtlnkclamdiohnaaGreatDoorFSR1
import Derived.Test.YtlnkclamdiohnaaGreatDoorFSR2
import Derived.Test.YtlnkclamdiohnaaGreatDoorFSR3
import Derived.Test.YtlnkclamdiohnaaGreatDoorFSR4
import Derived.Test.YtlnkclamdiohnaaGreatDoorFSR5
import Derived.Test.YtlnkclamdiohnaaGreatDoorFSR6
import Derived.Test.YtlnkclamdiohnaaGreatDoorFSR7
import Derived.Test.YtlnkclamdiohnaaGreatDoorFSR8
import Derived.ChangeSlices
import Derived.ChangeShapes
import Derived.Carry
import Derived.Deep.Slices
set_option linter.unusedVariables false
set_option linter.unusedSimpArgs false
set_option linter.unusedSectionVars false
set_option maxRecDepth 1000000
set_option maxHeartbeats 0
namespace Go.Proofs.YtlnkclamdiohnaaGreatDoor.fp
open Go.X Go.RowKit Go.Proofs Go.ChangeShapes Go.WideShapes
theorem beg0 : okTrue (@call Tab.empty Tryz.prog (sumsHand tabT) 3000 5 [] H.empty) = true := by as_aux_lemma => kernel_rfl
theorem beg_ans : Ans 5 #[] (.bool true) := by
  letI : Tab := Tab.empty
  obtain ⟨q, hq⟩ := CallOk.of_okTrue (P := Tryz.prog) mixed (sumsHand_ok tabT_ok) beg0
  exact ans_of (args := []) hq (fun μ v g => isBool μ v g) (by simp [vrels]) rfl rfl
theorem f_0_0 : ∀ ds ∈ lists 0, GF 0 0 ds := by
  rw [e0]
  exact f_0_0_0
theorem f_0_1 : ∀ ds ∈ lists 0, GF 0 1 ds := by
  rw [e0]
  exact f_0_1_0
theorem t_0_0 : ∀ ds ∈ lists 0, GT 0 false ds := by
  rw [e0]
  exact t_0_0_0
theorem t_0_1 : ∀ ds ∈ lists 0, GT 0 true ds := by
  rw [e0]
  exact t_0_1_0
theorem f_1_0 : ∀ ds ∈ lists 0, GF 1 0 ds := by
  rw [e0]
  exact f_1_0_0
theorem f_1_1 : ∀ ds ∈ lists 0, GF 1 1 ds := by
  rw [e0]
  exact f_1_1_0
theorem t_1_0 : ∀ ds ∈ lists 0, GT 1 false ds := by
  rw [e0]
  exact t_1_0_0
theorem t_1_1 : ∀ ds ∈ lists 0, GT 1 true ds := by
  rw [e0]
  exact t_1_1_0
theorem f_2_0 : ∀ ds ∈ lists 1, GF 2 0 ds := by
  rw [e1]
  exact f_2_0_0
theorem f_2_1 : ∀ ds ∈ lists 1, GF 2 1 ds := by
  rw [e1]
  exact f_2_1_0
theorem t_2_0 : ∀ ds ∈ lists 1, GT 2 false ds := by
  rw [e1]
  exact t_2_0_0
theorem t_2_1 : ∀ ds ∈ lists 1, GT 2 true ds := by
  rw [e1]
  exact t_2_1_0
theorem f_3_0 : ∀ ds ∈ lists 2, GF 3 0 ds := by
  rw [e2]
  exact f_3_0_0
theorem f_3_1 : ∀ ds ∈ lists 2, GF 3 1 ds := by
  rw [e2]
  exact f_3_1_0
theorem t_3_0 : ∀ ds ∈ lists 2, GT 3 false ds := by
  rw [e2]
  exact t_3_0_0
theorem t_3_1 : ∀ ds ∈ lists 2, GT 3 true ds := by
  rw [e2]
  exact t_3_1_0
theorem f_4_0 : ∀ ds ∈ lists 3, GF 4 0 ds := by
  rw [e3]
  exact f_4_0_0
theorem f_4_1 : ∀ ds ∈ lists 3, GF 4 1 ds := by
  rw [e3]
  exact f_4_1_0
theorem t_4_0 : ∀ ds ∈ lists 3, GT 4 false ds := by
  rw [e3]
  exact t_4_0_0
theorem t_4_1 : ∀ ds ∈ lists 3, GT 4 true ds := by
  rw [e3]
  exact t_4_1_0
theorem f_5_0 : ∀ ds ∈ lists 4, GF 5 0 ds := by
  rw [e4]
  exact f_5_0_0
theorem f_5_1 : ∀ ds ∈ lists 4, GF 5 1 ds := by
  rw [e4]
  exact f_5_1_0
theorem t_5_0 : ∀ ds ∈ lists 4, GT 5 false ds := by
  rw [e4]
  exact t_5_0_0
theorem t_5_1 : ∀ ds ∈ lists 4, GT 5 true ds := by
  rw [e4]
  exact t_5_1_0
theorem f_6_0 : ∀ ds ∈ lists 5, GF 6 0 ds := by
  rw [e5]
  exact lApp f_6_0_0 (f_6_0_1)
theorem f_6_1 : ∀ ds ∈ lists 5, GF 6 1 ds := by
  rw [e5]
  exact lApp f_6_1_0 (f_6_1_1)
theorem t_6_0 : ∀ ds ∈ lists 5, GT 6 false ds := by
  rw [e5]
  exact lApp t_6_0_0 (t_6_0_1)
theorem t_6_1 : ∀ ds ∈ lists 5, GT 6 true ds := by
  rw [e5]
  exact lApp t_6_1_0 (t_6_1_1)
theorem f_7_0 : ∀ ds ∈ lists 6, GF 7 0 ds := by
  rw [e6]
  exact lApp f_7_0_0 (lApp f_7_0_1 (f_7_0_2))
theorem f_7_1 : ∀ ds ∈ lists 6, GF 7 1 ds := by
  rw [e6]
  exact lApp f_7_1_0 (lApp f_7_1_1 (f_7_1_2))
theorem t_7_0 : ∀ ds ∈ lists 6, GT 7 false ds := by
  rw [e6]
  exact lApp t_7_0_0 (lApp t_7_0_1 (t_7_0_2))
theorem t_7_1 : ∀ ds ∈ lists 6, GT 7 true ds := by
  rw [e6]
  exact lApp t_7_1_0 (lApp t_7_1_1 (t_7_1_2))
theorem f_8_0 : ∀ ds ∈ lists 7, GF 8 0 ds := by
  rw [e7]
  exact lApp f_8_0_0 (lApp f_8_0_1 (lApp f_8_0_2 (f_8_0_3)))
theorem f_8_1 : ∀ ds ∈ lists 7, GF 8 1 ds := by
  rw [e7]
  exact lApp f_8_1_0 (lApp f_8_1_1 (lApp f_8_1_2 (f_8_1_3)))
theorem t_8_0 : ∀ ds ∈ lists 7, GT 8 false ds := by
  rw [e7]
  exact lApp t_8_0_0 (lApp t_8_0_1 (lApp t_8_0_2 (t_8_0_3)))
theorem t_8_1 : ∀ ds ∈ lists 7, GT 8 true ds := by
  rw [e7]
  exact lApp t_8_1_0 (lApp t_8_1_1 (lApp t_8_1_2 (t_8_1_3)))
theorem f_9_0 : ∀ ds ∈ lists 8, GF 9 0 ds := by
  rw [e8]
  exact lApp f_9_0_0 (lApp f_9_0_1 (lApp f_9_0_2 (lApp f_9_0_3 (lApp f_9_0_4 (f_9_0_5)))))
theorem f_9_1 : ∀ ds ∈ lists 8, GF 9 1 ds := by
  rw [e8]
  exact lApp f_9_1_0 (lApp f_9_1_1 (lApp f_9_1_2 (lApp f_9_1_3 (lApp f_9_1_4 (f_9_1_5)))))
theorem t_9_0 : ∀ ds ∈ lists 8, GT 9 false ds := by
  rw [e8]
  exact lApp t_9_0_0 (lApp t_9_0_1 (lApp t_9_0_2 (lApp t_9_0_3 (lApp t_9_0_4 (t_9_0_5)))))
theorem t_9_1 : ∀ ds ∈ lists 8, GT 9 true ds := by
  rw [e8]
  exact lApp t_9_1_0 (lApp t_9_1_1 (lApp t_9_1_2 (lApp t_9_1_3 (lApp t_9_1_4 (t_9_1_5)))))
theorem all_f : ∀ c d, c < 10 → d < 2 → ∀ ds ∈ lists (c - 1), GF c d ds
  | 0, 0, _, _ => f_0_0
  | 0, 1, _, _ => f_0_1
  | 1, 0, _, _ => f_1_0
  | 1, 1, _, _ => f_1_1
  | 2, 0, _, _ => f_2_0
  | 2, 1, _, _ => f_2_1
  | 3, 0, _, _ => f_3_0
  | 3, 1, _, _ => f_3_1
  | 4, 0, _, _ => f_4_0
  | 4, 1, _, _ => f_4_1
  | 5, 0, _, _ => f_5_0
  | 5, 1, _, _ => f_5_1
  | 6, 0, _, _ => f_6_0
  | 6, 1, _, _ => f_6_1
  | 7, 0, _, _ => f_7_0
  | 7, 1, _, _ => f_7_1
  | 8, 0, _, _ => f_8_0
  | 8, 1, _, _ => f_8_1
  | 9, 0, _, _ => f_9_0
  | 9, 1, _, _ => f_9_1
  | c + 10, _, h, _ => absurd h (by omega)
  | _, d + 2, _, h => absurd h (by omega)
theorem all_t : ∀ c vl, c < 10 → ∀ ds ∈ lists (c - 1), GT c vl ds
  | 0, false, _ => t_0_0
  | 0, true, _ => t_0_1
  | 1, false, _ => t_1_0
  | 1, true, _ => t_1_1
  | 2, false, _ => t_2_0
  | 2, true, _ => t_2_1
  | 3, false, _ => t_3_0
  | 3, true, _ => t_3_1
  | 4, false, _ => t_4_0
  | 4, true, _ => t_4_1
  | 5, false, _ => t_5_0
  | 5, true, _ => t_5_1
  | 6, false, _ => t_6_0
  | 6, true, _ => t_6_1
  | 7, false, _ => t_7_0
  | 7, true, _ => t_7_1
  | 8, false, _ => t_8_0
  | 8, true, _ => t_8_1
  | 9, false, _ => t_9_0
  | 9, true, _ => t_9_1
  | c + 10, _, h => absurd h (by omega)
/-- a row of types that came in, and what the cut gives of it -/
structure Arg (w : World) (n : Nat) (v : Value) (c : Nat) (V : Vs) (len : Nat) (r : Rec3) : Prop where
  lt : c < n + 2
  cell : ∀ m, m < 3 * V.cnt → w.cell? ⟨V.b, V.o + m, none⟩ = some (valU V m)
  giv : GivU6 n V len r
  mn : min len n = c - 1
  val : (c = 0 ∧ v = .slice none 0 0) ∨ (1 ≤ c ∧ v = .slice (some ⟨V.b, V.o, none⟩) len V.cap ∧ len ≤ V.cap)
theorem cutHand_ok [Tab] {V : Vs} {q j len m off n : Nat} {r : Rec3} (hb : Tab.fb q = (V.b, V.o)) (hc : Tab.fcap q = V.cap) (hf : ∀ m, m < 3 * V.cnt → Tab.fv q m = some (cellC V m)) (hj : Tab.iv j = (.i64, (len : Int))) (g : GivU6 n V len r) (hn8 : n ≤ 8) (hm : min len n = m)
    (hk : ∀ t, t < m → Tab.iv (7 + 2 * (off + t)) = (.i64, r.1 t)) (hn : ∀ t, t < m → Tab.str (off + t) = r.2.1 t) (ha : ∀ t, t < m → Tab.iv (8 + 2 * (off + t)) = (.i64, r.2.2 t)) : HandOk Tryz.prog (cutHand q j n off m) := by
  cases m with
  | zero => exact oneHand_ok fun h => callCut0_ok hb hc hf hj g hm h
  | succ m => exact newHand_ok fun h h' x e => callCut_ok hb hc hf hj g hn8 hm (by omega) hk hn ha e
theorem arg_rel [Tab] {w : World} {v : Value} {c q j len n : Nat} {V : Vs} {r : Rec3} (h : Arg w n v c V len r) (hj : Tab.iv j = (.i64, (len : Int))) (hb : Tab.fb q = (V.b, V.o)) (hc : Tab.fcap q = V.cap) : vrel (fun _ => none) (argM q j c) v := by
  rcases h.val with ⟨rfl, rfl⟩ | ⟨h3, rfl, h5⟩
  · show vrel (fun _ => none) .nils _
    simp only [vrel]
  · have e : argM q j c = .fo q j 3 := by
      unfold argM
      cases h6 : Nat.beq c 0 with
      | false => rfl
      | true => have := Nat.eq_of_beq_eq_true h6; omega
    rw [e]
    simp only [vrel]
    rw [hj, hb, hc]
    exact ⟨⟨rfl, Int.natCast_nonneg _⟩, by simpa using h5, by simp⟩
theorem glN {w : World} {p : Pm} {mm : Nat} {ds : List Bool} {e vl : Bool} {hN : OkN p mm ds e vl} (ha : ∀ m, m < 3 * p.V1.cnt → w.cell? ⟨p.V1.b, p.V1.o + m, none⟩ = some (valU p.V1 m)) (hb : ∀ m, m < 3 * p.V2.cnt → w.cell? ⟨p.V2.b, p.V2.o + m, none⟩ = some (valU p.V2 m)) : @Gl (TM p mm ds e vl hN) (Kp.below w.heap.size) w := by
  refine ⟨fun g o a h => (by cases h), fun i m a h => ?_⟩
  match i, h with
  | 0, h =>
    have h' : (if m < 3 * p.V1.cnt then some (cellC p.V1 m) else none) = some a := h
    by_cases hm : m < 3 * p.V1.cnt
    · rw [if_pos hm] at h'
      cases h'
      have hcm := ha m hm
      exact ⟨World.block_lt_of_cell? _ _ hcm, _, hcm, @cellC_mk (TM p mm ds e vl hN) p.V1 m _⟩
    · rw [if_neg hm] at h'
      cases h'
  | 1, h =>
    have h' : (if m < 3 * p.V2.cnt then some (cellC p.V2 m) else none) = some a := h
    by_cases hm : m < 3 * p.V2.cnt
    · rw [if_pos hm] at h'
      cases h'
      have hcm := hb m hm
      exact ⟨World.block_lt_of_cell? _ _ hcm, _, hcm, @cellC_mk (TM p mm ds e vl hN) p.V2 m _⟩
    · rw [if_neg hm] at h'
      cases h'
  | (i + 2), h => cases h
section
variable {w : World} {at_ : Int} {v u : Value} {c d : Nat} {V1 V2 : Vs} {l1 l2 : Nat} {r1 r2 : Rec3}
/-- both rows, one behind the other -/
def kj {α : Type} (m : Nat) (f g : Nat → α) (t : Nat) : α := if t < m then f t else g (t - m)
theorem far : ∀ m vl, m < 9 → ¬ addv .i64 ((m : Nat) : Int) (nOf vl) ≤ (m : Int)
  | 0, false, _ => by decide +kernel
  | 0, true, _ => by decide +kernel
  | 1, false, _ => by decide +kernel
  | 1, true, _ => by decide +kernel
  | 2, false, _ => by decide +kernel
  | 2, true, _ => by decide +kernel
  | 3, false, _ => by decide +kernel
  | 3, true, _ => by decide +kernel
  | 4, false, _ => by decide +kernel
  | 4, true, _ => by decide +kernel
  | 5, false, _ => by decide +kernel
  | 5, true, _ => by decide +kernel
  | 6, false, _ => by decide +kernel
  | 6, true, _ => by decide +kernel
  | 7, false, _ => by decide +kernel
  | 7, true, _ => by decide +kernel
  | 8, false, _ => by decide +kernel
  | 8, true, _ => by decide +kernel
  | m + 9, _, h => absurd h (by omega)
theorem wrapped (vl : Bool) : addv .i64 9223372036854775807 (nOf vl) ≤ 0 := by cases vl <;> decide +kernel
theorem law_args (ha : Arg w 8 v c V1 l1 r1) (hb : Arg w 1 u d V2 l2 r2) : Calls Tryz.prog 4 #[v, .int .i64 at_, u] w fun e w' => e = .returned (.bool true) ∧ Below w.heap.size w w' := by
  let Kn := kj 8 r1.1 r2.1
  let Nm := kj 8 r1.2.1 r2.2.1
  let Ax := kj 8 r1.2.2 r2.2.2
  have hc8 : c - 1 ≤ 8 := by have := ha.lt; omega
  have hd1 : d - 1 ≤ 1 := by have := hb.lt; omega
  have lo : ∀ {α : Type} (f g : Nat → α) t, t < c - 1 → kj 8 f g (0 + t) = f t := fun f g t ht => by unfold kj; rw [if_pos (by omega), Nat.zero_add]
  have hi : ∀ {α : Type} (f g : Nat → α) t, kj 8 f g (8 + t) = g t := fun f g t => by unfold kj; rw [if_neg (by omega), show 8 + t - 8 = t by omega]
  let f : Nat → Bool := fun t => decide (Kn t = 4)
  let ds := decs f (c - 1) 0
  have hds : ds ∈ lists (c - 1) := decs_in f (c - 1) 0
  have hK : ∀ (p : Pm) (e vl : Bool) (ok : OkN p (c - 1) ds e vl), p.l1 = l1 → p.l2 = l2 → p.V1 = V1 → p.V2 = V2 → p.Kn = Kn → p.Nm = Nm → p.At = Ax → @HandOk (TM p (c - 1) ds e vl ok) Tryz.prog (KM c d) := by
    intro p e vl ok e1 e2 e3 e4 e5 e6 e7
    obtain ⟨aN, aB, aW, p1, p2, pK, pN, pA, pV1, pV2⟩ := p
    subst e1 e2 e3 e4 e5 e6 e7
    letI : Tab := TM _ (c - 1) ds e vl ok
    refine HandOk.or (valHand (vs := []) (fun μ l h => by simpa [vrels] using h) (fun μ => by simp only [vrel]) beg_ans) (HandOk.or (cutHand_ok (V := pV1) (r := r1) rfl rfl (fun m hm => if_pos hm) rfl ha.giv (by decide) ha.mn (fun t ht => ?_) (fun t ht => ?_) (fun t ht => ?_)) (HandOk.or (cutHand_ok (V := pV2) (r := r2) rfl rfl (fun m hm => if_pos hm) rfl hb.giv (by decide) hb.mn (fun t ht => ?_) (fun t ht => ?_) (fun t ht => ?_)) (sumsHand_ok tabT_ok)))
    · show ivN _ vl (7 + 2 * (0 + t)) = _
      rw [ivN_k]; exact congrArg (Prod.mk _) (lo _ _ _ ht)
    · exact lo _ _ _ ht
    · show ivN _ vl (8 + 2 * (0 + t)) = _
      rw [ivN_a]; exact congrArg (Prod.mk _) (lo _ _ _ ht)
    · show ivN _ vl (7 + 2 * (8 + t)) = _
      rw [ivN_k]; exact congrArg (Prod.mk _) (hi _ _ _)
    · exact hi _ _ _
    · show ivN _ vl (8 + 2 * (8 + t)) = _
      rw [ivN_a]; exact congrArg (Prod.mk _) (hi _ _ _)
  -- the run's end, for each way in which the place is told
  have fin : ∀ (p : Pm) (e vl : Bool) (ok : OkN p (c - 1) ds e vl) (a : AV), p.l1 = l1 → p.l2 = l2 → p.V1 = V1 → p.V2 = V2 → p.Kn = Kn → p.Nm = Nm → p.At = Ax → @vrel (TM p (c - 1) ds e vl ok) (fun _ => none) a (.int .i64 at_) → okTrue (@call (TM p (c - 1) ds e vl ok) Tryz.prog (KM c d) 3000 4 [argM 0 1 c, a, argM 1 2 d] H.empty) = true → Calls Tryz.prog 4 #[v, .int .i64 at_, u] w fun e w' => e = .returned (.bool true) ∧ Below w.heap.size w w' := by
    intro p e vl ok a e1 e2 e3 e4 e5 e6 e7 hva hr
    have hk := hK p e vl ok e1 e2 e3 e4 e5 e6 e7
    obtain ⟨aN, aB, aW, p1, p2, pK, pN, pA, pV1, pV2⟩ := p
    subst e1 e2 e3 e4 e5 e6 e7
    letI : Tab := TM _ (c - 1) ds e vl ok
    obtain ⟨q, hq⟩ := CallOk.of_okTrue (P := Tryz.prog) mixed hk hr
    refine CallOk.yes hq (vrels_cons (arg_rel ha rfl rfl rfl) (vrels_cons hva (vrels_cons (arg_rel hb rfl rfl rfl) (by simp [vrels])))) w (glN (hN := ok) ha.cell hb.cell)
  by_cases hd2 : d = 2
  · subst hd2
    let vl : Bool := decide (Kn 8 = 4)
    let m : Nat := c - 1
    have fr := far m vl (by show c - 1 < 9; omega)
    have wr := wrapped vl
    have go : ∀ (aN aB aW : Int), aN < 0 → (m : Int) ≤ aB → ¬ addv .i64 aB (nOf vl) ≤ (m : Int) → (m : Int) ≤ aW → addv .i64 aW (nOf vl) ≤ (m : Int) → OkN ⟨aN, aB, aW, l1, l2, Kn, Nm, Ax, V1, V2⟩ (c - 1) ds true vl := fun aN aB aW h1 h2 h3 h4 h5 =>
      ⟨kRows_ok (p := ⟨aN, aB, aW, l1, l2, Kn, Nm, Ax, V1, V2⟩) (f := f) (fun t => rfl) (c - 1) 0, fun _ => rfl, fun _ => h1, fun _ => h2, fun _ => h3, fun _ => h4, fun _ => h5⟩
    have mx : (m : Int) ≤ 9223372036854775807 := by have : m ≤ 8 := hc8; omega
    have wm : addv .i64 9223372036854775807 (nOf vl) ≤ (m : Int) := by omega
    by_cases h0 : at_ < 0
    · have ok := go at_ (m : Int) 9223372036854775807 h0 (Int.le_refl _) fr mx wm
      exact fin _ true vl ok (.oi 0) rfl rfl rfl rfl rfl rfl rfl (by simp only [vrel]; rfl) (@whole_at (TM _ (c - 1) ds true vl ok) c (all_t c vl ha.lt ds hds _ ok)).1
    by_cases hm : at_ < (m : Int)
    · have ok := go (-1) (m : Int) 9223372036854775807 (by decide) (Int.le_refl _) fr mx wm
      obtain ⟨k, rfl⟩ : ∃ k : Nat, at_ = Int.ofNat k := ⟨at_.toNat, by show at_ = ((at_.toNat : Nat) : Int); omega⟩
      have hk : k < c - 1 := by have h' : ((k : Nat) : Int) < (m : Int) := hm; have : k < m := by omega
                                exact this
      exact fin _ true vl ok (.int .i64 (Int.ofNat k)) rfl rfl rfl rfl rfl rfl rfl (by simp only [vrel]) ((@whole_at (TM _ (c - 1) ds true vl ok) c (all_t c vl ha.lt ds hds _ ok)).2.2.2 k hk)
    by_cases hw : addv .i64 at_ (nOf vl) ≤ (m : Int)
    · have ok := go (-1) (m : Int) at_ (by decide) (Int.le_refl _) fr (by omega) hw
      exact fin _ true vl ok (.oi 4) rfl rfl rfl rfl rfl rfl rfl (by simp only [vrel]; rfl) (@whole_at (TM _ (c - 1) ds true vl ok) c (all_t c vl ha.lt ds hds _ ok)).2.2.1
    · have ok := go (-1) at_ 9223372036854775807 (by decide) (by omega) hw mx wm
      exact fin _ true vl ok (.oi 3) rfl rfl rfl rfl rfl rfl rfl (by simp only [vrel]; rfl) (@whole_at (TM _ (c - 1) ds true vl ok) c (all_t c vl ha.lt ds hds _ ok)).2.1
  · have hd : d < 2 := by have := hb.lt; omega
    have ok : OkN ⟨at_, 0, 0, l1, l2, Kn, Nm, Ax, V1, V2⟩ (c - 1) ds false false := ⟨kRows_ok (p := ⟨at_, 0, 0, l1, l2, Kn, Nm, Ax, V1, V2⟩) (f := f) (fun t => rfl) (c - 1) 0, fun h => (by cases h), fun h => (by cases h), fun h => (by cases h), fun h => (by cases h), fun h => (by cases h), fun h => (by cases h)⟩
    exact fin _ false false ok (.oi 0) rfl rfl rfl rfl rfl rfl rfl (by simp only [vrel]; rfl) (all_f c d ha.lt hd ds hds _ ok)
end
end Go.Proofs.YtlnkclamdiohnaaGreatDoor.fp
