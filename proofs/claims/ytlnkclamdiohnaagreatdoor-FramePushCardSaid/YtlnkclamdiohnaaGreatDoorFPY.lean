/-
  The law FramePush, for whatever the call is handed.
-/
import Derived.Test.YtlnkclamdiohnaaGreatDoorFPR0
import Derived.Test.YtlnkclamdiohnaaGreatDoorFPR1
import Derived.Test.YtlnkclamdiohnaaGreatDoorFPR2
import Derived.ChangeSlices
import Derived.ChangeShapes
import Derived.Carry
import Derived.Deep.Slices
set_option linter.unusedVariables false
set_option linter.unusedSimpArgs false
set_option linter.unusedSectionVars false
set_option maxRecDepth 1000000
set_option maxHeartbeats 0
namespace Go.Proofs.YtlnkclamdiohnaaGreatDoor.fp
open Go.X Go.RowKit Go.Proofs Go.ChangeShapes Go.WideShapes
theorem beg0 : okTrue (@call Tab.empty Tryz.prog (sumsHand tabT) 3000 5 [] H.empty) = true := by as_aux_lemma => kernel_rfl
theorem beg_ans : Ans 5 #[] (.bool true) := by
  letI : Tab := Tab.empty
  obtain ⟨q, hq⟩ := CallOk.of_okTrue (P := Tryz.prog) mixed (sumsHand_ok tabT_ok) beg0
  exact ans_of (args := []) hq (fun μ v g => isBool μ v g) (by simp [vrels]) rfl rfl
theorem all_m : ∀ c d b, c < 8 → d < 8 → GM c d b
  | 0, 0, false, _, _ => m_0_0_0
  | 0, 0, true, _, _ => m_0_0_1
  | 0, 1, false, _, _ => m_0_1_0
  | 0, 1, true, _, _ => m_0_1_1
  | 0, 2, false, _, _ => m_0_2_0
  | 0, 2, true, _, _ => m_0_2_1
  | 0, 3, false, _, _ => m_0_3_0
  | 0, 3, true, _, _ => m_0_3_1
  | 0, 4, false, _, _ => m_0_4_0
  | 0, 4, true, _, _ => m_0_4_1
  | 0, 5, false, _, _ => m_0_5_0
  | 0, 5, true, _, _ => m_0_5_1
  | 0, 6, false, _, _ => m_0_6_0
  | 0, 6, true, _, _ => m_0_6_1
  | 0, 7, false, _, _ => m_0_7_0
  | 0, 7, true, _, _ => m_0_7_1
  | 1, 0, false, _, _ => m_1_0_0
  | 1, 0, true, _, _ => m_1_0_1
  | 1, 1, false, _, _ => m_1_1_0
  | 1, 1, true, _, _ => m_1_1_1
  | 1, 2, false, _, _ => m_1_2_0
  | 1, 2, true, _, _ => m_1_2_1
  | 1, 3, false, _, _ => m_1_3_0
  | 1, 3, true, _, _ => m_1_3_1
  | 1, 4, false, _, _ => m_1_4_0
  | 1, 4, true, _, _ => m_1_4_1
  | 1, 5, false, _, _ => m_1_5_0
  | 1, 5, true, _, _ => m_1_5_1
  | 1, 6, false, _, _ => m_1_6_0
  | 1, 6, true, _, _ => m_1_6_1
  | 1, 7, false, _, _ => m_1_7_0
  | 1, 7, true, _, _ => m_1_7_1
  | 2, 0, false, _, _ => m_2_0_0
  | 2, 0, true, _, _ => m_2_0_1
  | 2, 1, false, _, _ => m_2_1_0
  | 2, 1, true, _, _ => m_2_1_1
  | 2, 2, false, _, _ => m_2_2_0
  | 2, 2, true, _, _ => m_2_2_1
  | 2, 3, false, _, _ => m_2_3_0
  | 2, 3, true, _, _ => m_2_3_1
  | 2, 4, false, _, _ => m_2_4_0
  | 2, 4, true, _, _ => m_2_4_1
  | 2, 5, false, _, _ => m_2_5_0
  | 2, 5, true, _, _ => m_2_5_1
  | 2, 6, false, _, _ => m_2_6_0
  | 2, 6, true, _, _ => m_2_6_1
  | 2, 7, false, _, _ => m_2_7_0
  | 2, 7, true, _, _ => m_2_7_1
  | 3, 0, false, _, _ => m_3_0_0
  | 3, 0, true, _, _ => m_3_0_1
  | 3, 1, false, _, _ => m_3_1_0
  | 3, 1, true, _, _ => m_3_1_1
  | 3, 2, false, _, _ => m_3_2_0
  | 3, 2, true, _, _ => m_3_2_1
  | 3, 3, false, _, _ => m_3_3_0
  | 3, 3, true, _, _ => m_3_3_1
  | 3, 4, false, _, _ => m_3_4_0
  | 3, 4, true, _, _ => m_3_4_1
  | 3, 5, false, _, _ => m_3_5_0
  | 3, 5, true, _, _ => m_3_5_1
  | 3, 6, false, _, _ => m_3_6_0
  | 3, 6, true, _, _ => m_3_6_1
  | 3, 7, false, _, _ => m_3_7_0
  | 3, 7, true, _, _ => m_3_7_1
  | 4, 0, false, _, _ => m_4_0_0
  | 4, 0, true, _, _ => m_4_0_1
  | 4, 1, false, _, _ => m_4_1_0
  | 4, 1, true, _, _ => m_4_1_1
  | 4, 2, false, _, _ => m_4_2_0
  | 4, 2, true, _, _ => m_4_2_1
  | 4, 3, false, _, _ => m_4_3_0
  | 4, 3, true, _, _ => m_4_3_1
  | 4, 4, false, _, _ => m_4_4_0
  | 4, 4, true, _, _ => m_4_4_1
  | 4, 5, false, _, _ => m_4_5_0
  | 4, 5, true, _, _ => m_4_5_1
  | 4, 6, false, _, _ => m_4_6_0
  | 4, 6, true, _, _ => m_4_6_1
  | 4, 7, false, _, _ => m_4_7_0
  | 4, 7, true, _, _ => m_4_7_1
  | 5, 0, false, _, _ => m_5_0_0
  | 5, 0, true, _, _ => m_5_0_1
  | 5, 1, false, _, _ => m_5_1_0
  | 5, 1, true, _, _ => m_5_1_1
  | 5, 2, false, _, _ => m_5_2_0
  | 5, 2, true, _, _ => m_5_2_1
  | 5, 3, false, _, _ => m_5_3_0
  | 5, 3, true, _, _ => m_5_3_1
  | 5, 4, false, _, _ => m_5_4_0
  | 5, 4, true, _, _ => m_5_4_1
  | 5, 5, false, _, _ => m_5_5_0
  | 5, 5, true, _, _ => m_5_5_1
  | 5, 6, false, _, _ => m_5_6_0
  | 5, 6, true, _, _ => m_5_6_1
  | 5, 7, false, _, _ => m_5_7_0
  | 5, 7, true, _, _ => m_5_7_1
  | 6, 0, false, _, _ => m_6_0_0
  | 6, 0, true, _, _ => m_6_0_1
  | 6, 1, false, _, _ => m_6_1_0
  | 6, 1, true, _, _ => m_6_1_1
  | 6, 2, false, _, _ => m_6_2_0
  | 6, 2, true, _, _ => m_6_2_1
  | 6, 3, false, _, _ => m_6_3_0
  | 6, 3, true, _, _ => m_6_3_1
  | 6, 4, false, _, _ => m_6_4_0
  | 6, 4, true, _, _ => m_6_4_1
  | 6, 5, false, _, _ => m_6_5_0
  | 6, 5, true, _, _ => m_6_5_1
  | 6, 6, false, _, _ => m_6_6_0
  | 6, 6, true, _, _ => m_6_6_1
  | 6, 7, false, _, _ => m_6_7_0
  | 6, 7, true, _, _ => m_6_7_1
  | 7, 0, false, _, _ => m_7_0_0
  | 7, 0, true, _, _ => m_7_0_1
  | 7, 1, false, _, _ => m_7_1_0
  | 7, 1, true, _, _ => m_7_1_1
  | 7, 2, false, _, _ => m_7_2_0
  | 7, 2, true, _, _ => m_7_2_1
  | 7, 3, false, _, _ => m_7_3_0
  | 7, 3, true, _, _ => m_7_3_1
  | 7, 4, false, _, _ => m_7_4_0
  | 7, 4, true, _, _ => m_7_4_1
  | 7, 5, false, _, _ => m_7_5_0
  | 7, 5, true, _, _ => m_7_5_1
  | 7, 6, false, _, _ => m_7_6_0
  | 7, 6, true, _, _ => m_7_6_1
  | 7, 7, false, _, _ => m_7_7_0
  | 7, 7, true, _, _ => m_7_7_1
  | c + 8, _, _, h, _ => absurd h (by omega)
  | _, d + 8, _, _, h => absurd h (by omega)
/-- a row of types that came in, and what the cut gives of it -/
structure Arg (w : World) (v : Value) (c : Nat) (V : Vs) (len : Nat) (r : Rec3) : Prop where
  lt : c < 8
  cell : ∀ m, m < 3 * V.cnt → w.cell? ⟨V.b, V.o + m, none⟩ = some (valU V m)
  giv : GivU6 V len r
  mn : min len 6 = c - 1
  val : (c = 0 ∧ v = .slice none 0 0) ∨ (1 ≤ c ∧ v = .slice (some ⟨V.b, V.o, none⟩) len V.cap ∧ len ≤ V.cap)
theorem cutHand_ok [Tab] {V : Vs} {q j len m off : Nat} {r : Rec3} (hb : Tab.fb q = (V.b, V.o)) (hc : Tab.fcap q = V.cap) (hf : ∀ m, m < 3 * V.cnt → Tab.fv q m = some (cellC V m)) (hj : Tab.iv j = (.i64, (len : Int))) (g : GivU6 V len r) (hm : min len 6 = m)
    (hk : ∀ t, t < m → Tab.iv (5 + 2 * (off + t)) = (.i64, r.1 t)) (hn : ∀ t, t < m → Tab.str (off + t) = r.2.1 t) (ha : ∀ t, t < m → Tab.iv (6 + 2 * (off + t)) = (.i64, r.2.2 t)) : HandOk Tryz.prog (cutHand q j off m) := by
  cases m with
  | zero => exact oneHand_ok fun h => callCut0_ok hb hc hf hj g hm h
  | succ m => exact newHand_ok fun h h' x e => callCut_ok hb hc hf hj g hm (by omega) hk hn ha e
theorem arg_rel [Tab] {w : World} {v : Value} {c q j len : Nat} {V : Vs} {r : Rec3} (h : Arg w v c V len r) (hj : Tab.iv j = (.i64, (len : Int))) (hb : Tab.fb q = (V.b, V.o)) (hc : Tab.fcap q = V.cap) : vrel (fun _ => none) (argM q j c) v := by
  rcases h.val with ⟨rfl, rfl⟩ | ⟨h3, rfl, h5⟩
  · show vrel (fun _ => none) .nils _
    simp only [vrel]
  · have e : argM q j c = .fo q j 3 := by
      unfold argM
      cases h6 : Nat.beq c 0 with
      | false => rfl
      | true => have := Nat.eq_of_beq_eq_true h6; omega
    rw [e]
    simp only [vrel]
    rw [hj, hb, hc]
    exact ⟨⟨rfl, Int.natCast_nonneg _⟩, by simpa using h5, by simp⟩
theorem glN {w : World} {p : Pm} {z b : Bool} {hN : OkN p z b} (ha : ∀ m, m < 3 * p.V1.cnt → w.cell? ⟨p.V1.b, p.V1.o + m, none⟩ = some (valU p.V1 m)) (hb : ∀ m, m < 3 * p.V2.cnt → w.cell? ⟨p.V2.b, p.V2.o + m, none⟩ = some (valU p.V2 m)) : @Gl (TM p z b hN) (Kp.below w.heap.size) w := by
  refine ⟨fun g o a h => (by cases h), fun i m a h => ?_⟩
  match i, h with
  | 0, h =>
    have h' : (if m < 3 * p.V1.cnt then some (cellC p.V1 m) else none) = some a := h
    by_cases hm : m < 3 * p.V1.cnt
    · rw [if_pos hm] at h'
      cases h'
      have hcm := ha m hm
      exact ⟨World.block_lt_of_cell? _ _ hcm, _, hcm, @cellC_mk (TM p z b hN) p.V1 m _⟩
    · rw [if_neg hm] at h'
      cases h'
  | 1, h =>
    have h' : (if m < 3 * p.V2.cnt then some (cellC p.V2 m) else none) = some a := h
    by_cases hm : m < 3 * p.V2.cnt
    · rw [if_pos hm] at h'
      cases h'
      have hcm := hb m hm
      exact ⟨World.block_lt_of_cell? _ _ hcm, _, hcm, @cellC_mk (TM p z b hN) p.V2 m _⟩
    · rw [if_neg hm] at h'
      cases h'
  | (i + 2), h => cases h
section
variable {w : World} {most : Int} {v u : Value} {c d : Nat} {V1 V2 : Vs} {l1 l2 : Nat} {r1 r2 : Rec3}
/-- both rows, one behind the other -/
def kj {α : Type} (m : Nat) (f g : Nat → α) (t : Nat) : α := if t < m then f t else g (t - m)
theorem law_args (ha : Arg w v c V1 l1 r1) (hb : Arg w u d V2 l2 r2) : Calls Tryz.prog 3 #[v, u, .int .i64 most] w fun e w' => e = .returned (.bool true) ∧ Below w.heap.size w w' := by
  let L := c - 1 + (d - 1)
  let kf : Nat → Int := kj (c - 1) r1.1 r2.1
  let nf : Nat → ByteArray := kj (c - 1) r1.2.1 r2.2.1
  let af : Nat → Int := kj (c - 1) r1.2.2 r2.2.2
  let p : Pm := ⟨most, l1, l2, Wd kf L, kj 6 r1.1 r2.1, kj 6 r1.2.1 r2.2.1, kj 6 r1.2.2 r2.2.2, V1, V2⟩
  have hc6 : c - 1 ≤ 6 := by have := ha.lt; omega
  have hd6 : d - 1 ≤ 6 := by have := hb.lt; omega
  have hz : zOf c d = true → Wd kf L = 0 := fun h => by
    have h0 : L = 0 := Nat.eq_of_beq_eq_true h
    rw [h0]
    rfl
  have lo : ∀ {α : Type} (f g : Nat → α) t, t < c - 1 → kj 6 f g (0 + t) = f t := fun f g t ht => by unfold kj; rw [if_pos (by omega), Nat.zero_add]
  have hi : ∀ {α : Type} (f g : Nat → α) t, kj 6 f g (6 + t) = g t := fun f g t => by unfold kj; rw [if_neg (by omega), show 6 + t - 6 = t by omega]
  have ok : OkN p (zOf c d) (decide ((Wd kf L : Int) > most)) := ⟨rfl, hz⟩
  have hr := all_m c d (decide ((Wd kf L : Int) > most)) ha.lt hb.lt p ok
  letI : Tab := TM p (zOf c d) (decide ((Wd kf L : Int) > most)) ok
  have hW : HandOk Tryz.prog (KW c d) := by
    unfold KW
    cases hzz : zOf c d with
    | true => exact sumsHand_ok tabT_ok
    | false =>
      have h1 : 1 ≤ L := by
        rcases Nat.eq_zero_or_pos L with h | h
        · have : zOf c d = true := by show Nat.beq L 0 = true; rw [h]; rfl
          rw [hzz] at this
          cases this
        · exact h
      have hE : (EM c d).length = 3 * L := by unfold EM; rw [List.length_append, rowM_len, rowM_len]; show _ = 3 * (c - 1 + (d - 1)); omega
      have hv : ∀ k a, (EM c d)[k]? = some a → ∀ (μ : M) x, vrel μ a x → x = valU ⟨0, 0, 0, L, kf, nf, af⟩ k := by
        intro k a hk μ x hx
        have hkl : k < 3 * L := by have := (List.getElem?_eq_some_iff.1 hk).1; rw [hE] at this; exact this
        unfold EM at hk
        by_cases hk1 : k < 3 * (c - 1)
        · rw [List.getElem?_append_left (by rw [rowM_len]; exact hk1), rowM_at 0 _ k hk1] at hk
          cases hk
          have ht : k / 3 < c - 1 := by omega
          unfold valU
          by_cases m0 : k % 3 = 0
          · rw [if_pos m0] at hx ⊢
            have e := isOiV (ivN_k p (0 + k / 3)) μ x hx
            rw [e]
            show Value.int .i64 (kj 6 r1.1 r2.1 (0 + k / 3)) = .int .i64 (kj (c - 1) r1.1 r2.1 (k / 3))
            rw [lo _ _ _ ht]; unfold kj; rw [if_pos ht]
          · rw [if_neg m0] at hx ⊢
            by_cases m1 : k % 3 = 1
            · rw [if_pos m1] at hx ⊢
              have e := isOst (s := p.Nm (0 + k / 3)) rfl μ x hx
              rw [e]
              show Value.string (kj 6 r1.2.1 r2.2.1 (0 + k / 3)) = .string (kj (c - 1) r1.2.1 r2.2.1 (k / 3))
              rw [lo _ _ _ ht]; unfold kj; rw [if_pos ht]
            · rw [if_neg m1] at hx ⊢
              have e := isOiV (ivN_a p (0 + k / 3)) μ x hx
              rw [e]
              show Value.int .i64 (kj 6 r1.2.2 r2.2.2 (0 + k / 3)) = .int .i64 (kj (c - 1) r1.2.2 r2.2.2 (k / 3))
              rw [lo _ _ _ ht]; unfold kj; rw [if_pos ht]
        · obtain ⟨q, rfl⟩ : ∃ q, k = 3 * (c - 1) + q := ⟨k - 3 * (c - 1), by omega⟩
          have hq : q < 3 * (d - 1) := by have : 3 * (c - 1) + q < 3 * (c - 1 + (d - 1)) := hkl; omega
          rw [List.getElem?_append_right (by rw [rowM_len]; omega), rowM_len, show 3 * (c - 1) + q - 3 * (c - 1) = q by omega, rowM_at 6 _ q hq] at hk
          cases hk
          have e3 : (3 * (c - 1) + q) % 3 = q % 3 := by omega
          have e4 : (3 * (c - 1) + q) / 3 = c - 1 + q / 3 := by omega
          have kk : ∀ {α : Type} (f g : Nat → α), kj (c - 1) f g (c - 1 + q / 3) = g (q / 3) := fun f g => by unfold kj; rw [if_neg (by omega), show c - 1 + q / 3 - (c - 1) = q / 3 by omega]
          unfold valU
          rw [e3, e4]
          by_cases m0 : q % 3 = 0
          · rw [if_pos m0] at hx ⊢
            have e := isOiV (ivN_k p (6 + q / 3)) μ x hx
            rw [e]
            show Value.int .i64 (kj 6 r1.1 r2.1 (6 + q / 3)) = .int .i64 (kj (c - 1) r1.1 r2.1 (c - 1 + q / 3))
            rw [hi, kk]
          · rw [if_neg m0] at hx ⊢
            by_cases m1 : q % 3 = 1
            · rw [if_pos m1] at hx ⊢
              have e := isOst (s := p.Nm (6 + q / 3)) rfl μ x hx
              rw [e]
              show Value.string (kj 6 r1.2.1 r2.2.1 (6 + q / 3)) = .string (kj (c - 1) r1.2.1 r2.2.1 (c - 1 + q / 3))
              rw [hi, kk]
            · rw [if_neg m1] at hx ⊢
              have e := isOiV (ivN_a p (6 + q / 3)) μ x hx
              rw [e]
              show Value.int .i64 (kj 6 r1.2.2 r2.2.2 (6 + q / 3)) = .int .i64 (kj (c - 1) r1.2.2 r2.2.2 (c - 1 + q / 3))
              rw [hi, kk]
      exact HandOk.or (wordsHand_ok (L := L) (kf := kf) (nf := nf) (af := af) (fun V w h12 _ hcap hw => words_is h12 hcap hw) hE hv rfl h1 (by show c - 1 + (d - 1) ≤ 12; omega)) (HandOk.or (wordsHand_ok (L := L) (kf := kf) (nf := nf) (af := af) (fun V w h12 h1' hcap hw => rwords_is h12 h1' hcap hw) hE hv rfl h1 (by show c - 1 + (d - 1) ≤ 12; omega)) (sumsHand_ok tabT_ok))
  have hK : HandOk Tryz.prog (KM c d) := by
    refine HandOk.or (valHand (vs := []) (fun μ l h => by simpa [vrels] using h) (fun μ => by simp only [vrel]) beg_ans) (HandOk.or (cutHand_ok (V := V1) (r := r1) rfl rfl (fun m hm => if_pos hm) rfl ha.giv ha.mn (fun t ht => ?_) (fun t ht => ?_) (fun t ht => ?_)) (HandOk.or (cutHand_ok (V := V2) (r := r2) rfl rfl (fun m hm => if_pos hm) rfl hb.giv hb.mn (fun t ht => ?_) (fun t ht => ?_) (fun t ht => ?_)) hW))
    · show ivN p (5 + 2 * (0 + t)) = _
      rw [ivN_k]; exact congrArg (Prod.mk _) (lo _ _ _ ht)
    · exact lo _ _ _ ht
    · show ivN p (6 + 2 * (0 + t)) = _
      rw [ivN_a]; exact congrArg (Prod.mk _) (lo _ _ _ ht)
    · show ivN p (5 + 2 * (6 + t)) = _
      rw [ivN_k]; exact congrArg (Prod.mk _) (hi _ _ _)
    · exact hi _ _ _
    · show ivN p (6 + 2 * (6 + t)) = _
      rw [ivN_a]; exact congrArg (Prod.mk _) (hi _ _ _)
  obtain ⟨q, hq⟩ := CallOk.of_okTrue (P := Tryz.prog) mixed hK hr
  refine CallOk.yes hq (vrels_cons (arg_rel ha rfl rfl rfl) (vrels_cons (arg_rel hb rfl rfl rfl) (vrels_cons (by simp only [vrel]; rfl) (by simp [vrels])))) w (glN (p := p) ha.cell hb.cell)
end
end Go.Proofs.YtlnkclamdiohnaaGreatDoor.fp
