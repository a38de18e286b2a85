/-
  What is printed, three bytes again and again; states in which a vector becomes cells.
-/
import Derived.Test.YtbgkinjicnnkiaaGreatDoorXN3
set_option linter.unusedVariables false
set_option linter.unusedSectionVars false
namespace Go.Proofs.YtbgkinjicnnkiaaGreatDoor.bs
open Go.X Go.RowKit
def outB (m : Nat) : Int := match m % 3 with
  | 0 => 109
  | 1 => 101
  | _ => 10
def outG : Nat → Option AV := fun m => some (.int .u8 (outB m))
theorem outG_plain : ∀ m a, outG m = some a → vplain a = true := fun m a h => by cases h; rfl
theorem outG_int : ∀ m a, outG m = some a → ∃ k n, a = AV.int k n := fun m a h => by cases h; exact ⟨_, _, rfl⟩
theorem noZero {T T' : Tab} {g : Nat → Option AV} {S : Nat} {L : List AV} : ∀ m a, m < 0 → g (S + m) = some a → ∃ x, L[m]? = some x ∧ ∀ μ v, @vrel T μ x v → @vrel T' μ a v := fun m a hm e => by omega
theorem outB_add {o : Nat} (ho : o % 3 = 0) (m : Nat) : outB (o + m) = outB m := by unfold outB; rw [show (o + m) % 3 = m % 3 by omega]
theorem outGrow {T T' : Tab} {o : Nat} (ho : o % 3 = 0) {L : List AV} : ∀ m a, m < 3 → outG (o + m) = some a → ∃ x, (AV.int .u8 109 :: AV.int .u8 101 :: AV.int .u8 10 :: L : List AV)[m]? = some x ∧ ∀ μ v, @vrel T μ x v → @vrel T' μ a v := fun m a hm e => by
  unfold outG at e
  rw [outB_add ho] at e
  cases e
  match m, hm with
  | 0, _ => exact ⟨_, rfl, fun μ v hv => by simp only [vrel] at hv ⊢; exact hv⟩
  | 1, _ => exact ⟨_, rfl, fun μ v hv => by simp only [vrel] at hv ⊢; exact hv⟩
  | 2, _ => exact ⟨_, rfl, fun μ v hv => by simp only [vrel] at hv ⊢; exact hv⟩
theorem outStart {T T' : Tab} {L : List AV} : ∀ m a, m < 3 → outG m = some a → ∃ x, (AV.int .u8 109 :: AV.int .u8 101 :: AV.int .u8 10 :: L : List AV)[m]? = some x ∧ ∀ μ v, @vrel T μ x v → @vrel T' μ a v := fun m a hm e =>
  outGrow (o := 0) rfl m a hm (by rw [Nat.zero_add]; exact e)
/-- so many times the three bytes -/
def ot : Nat → List AV
  | 0 => []
  | n + 1 => .int .u8 109 :: .int .u8 101 :: .int .u8 10 :: ot n
theorem ot_len : ∀ n, (ot n).length = 3 * n
  | 0 => rfl
  | n + 1 => by simp only [ot, List.length_cons, ot_len n]; omega
theorem ot_get : ∀ (n m : Nat) (x : AV), (ot n)[m]? = some x → x = AV.int .u8 (outB m)
  | 0, m, x, h => by simp [ot] at h
  | n + 1, 0, x, h => by simp [ot] at h; exact h.symm
  | n + 1, 1, x, h => by simp [ot] at h; exact h.symm
  | n + 1, 2, x, h => by simp [ot] at h; exact h.symm
  | n + 1, m + 3, x, h => by
    simp only [ot, List.getElem?_cons_succ] at h
    have := ot_get n m x h
    rw [this, show m + 3 = 3 + m by omega, outB_add rfl]
theorem hOf_get {N : Nat} {bs : BS} {x : Nat} : (hOf N bs).get x = (ofPairs (bsOf bs)).get x := by unfold hOf; rw [fT_eq]; rfl
theorem hOf_nx {N : Nat} {bs : BS} : (hOf N bs).next = N := by unfold hOf; rw [fT_eq]
/-- the same memory, told otherwise -/
theorem swap {T : Tab} {B : Kp} {w0 w : World} {μ0 : M} {nt : Nat} {fr : Fr} {a : Act} {N : Nat} {bs bs' : BS}
    (hk : ∀ x b', (hOf N bs').get x = some b' → ∃ b, (hOf N bs).get x = some b ∧ own b = own b' ∧ ∀ μ l w, @brel T μ b l w → @brel T μ b' l w) (s : St T B w0 μ0 nt fr (hOf N bs) a w) : St T B w0 μ0 nt fr (hOf N bs') a w := by
  obtain ⟨μ, hx, f, r⟩ := s
  refine ⟨μ, hx, f, ⟨@HR.below T _ _ _ _ _ r, fun x hn => ?_, fun x hr => ?_, fun x b' hb => ?_, fun x y b' c' l k hx' hy hne ho ho2 hl hk' => ?_⟩⟩
  · rw [hOf_nx] at hn
    have h1 := @HR.fresh T _ _ _ _ _ r x (by rw [hOf_nx]; exact hn)
    refine ⟨?_, h1.2⟩
    cases hg : (hOf N bs').get x with
    | none => rfl
    | some b' =>
      obtain ⟨b, e, _⟩ := hk x b' hg
      rw [h1.1] at e; cases e
  · have := @HR.res T _ _ _ _ _ r x hr
    rw [hOf_nx] at this ⊢; exact this
  · obtain ⟨b, e, o, k⟩ := hk x b' hb
    obtain ⟨l, g1, g2, g3, g4⟩ := @HR.blk T _ _ _ _ _ r x b e
    exact ⟨l, g1, fun ho => g2 (o.trans ho), fun ho => g3 (o.trans ho), k μ l w g4⟩
  · obtain ⟨b, e, o, _⟩ := hk x b' hx'
    obtain ⟨c, e2, o2, _⟩ := hk y c' hy
    exact @HR.sep T _ _ _ _ _ r x y b c l k e e2 hne (o.trans ho) (o2.trans ho2) hl hk'
theorem vec_cells {T : Tab} {i n : Nat} {L : List AV} (hlen : n = L.length) (h16 : n < 16000000) (hk : n ≤ T.vk i) (hv : ∀ m x, L[m]? = some x → T.vv i m = some x) (μ : M) (l : X.Loc) (w : World) (h : @brel T μ (.vec i) l w) : @brel T μ (.cells n true [] (X.T.ofList 0 .leaf L)) l w := by
  obtain ⟨arr, el, fz, g1, g2, g3, g4, g5⟩ := h
  refine ⟨arr, el, fz, g1, g2, g3, Nat.le_trans (Nat.add_le_add_left hk _) g4, fun h => (by cases h), fun m a hm ha => ?_⟩
  unfold cellOf at ha
  rw [X.T.get_ofList _ _ _ _ (by omega), if_pos ⟨Nat.zero_le _, by omega⟩, Nat.sub_zero] at ha
  cases hx : L[m]? with
  | none => rw [List.getElem?_eq_none_iff] at hx; omega
  | some x =>
    rw [hx] at ha
    have ha : some x = some a := ha
    rw [← Option.some.inj ha]
    exact g5 m x (hv m x hx)
theorem cells_set {T : Tab} {n : Nat} {q : Bool} {L1 L2 : List AV} {x y : AV} (hl : (L1 ++ x :: L2).length < 16000000) (hxy : ∀ μ v, @vrel T μ x v → @vrel T μ y v) (hn : n = (L1 ++ x :: L2).length) (μ : M) (l : X.Loc) (w : World) (h : @brel T μ (.cells n q [] (X.T.ofList 0 .leaf (L1 ++ x :: L2))) l w) : @brel T μ (.cells n q [] (X.T.ofList 0 .leaf (L1 ++ y :: L2))) l w := by
  obtain ⟨arr, el, fz, g1, g2, g3, g4, g5, g6⟩ := h
  refine ⟨arr, el, fz, g1, g2, g3, g4, g5, fun m a hm ha => ?_⟩
  have hl2 : (L1 ++ y :: L2).length < 16000000 := by simpa using hl
  have hm2 : m < (L1 ++ y :: L2).length := by rw [hn] at hm; simpa using hm
  unfold cellOf at ha
  rw [X.T.get_ofList _ _ _ _ (by omega), if_pos ⟨Nat.zero_le _, by omega⟩, Nat.sub_zero] at ha
  have key : ∀ b, (L1 ++ x :: L2)[m]? = some b → ∃ v, arr[l.base + m]? = some v ∧ @vrel T μ b v := fun b hb => g6 m b hm (by
    unfold cellOf
    rw [X.T.get_ofList _ _ _ _ (by omega), if_pos ⟨Nat.zero_le _, by rw [hn] at hm; omega⟩, Nat.sub_zero, hb])
  cases hx : (L1 ++ y :: L2)[m]? with
  | none => rw [List.getElem?_eq_none_iff] at hx; omega
  | some z =>
    rw [hx] at ha
    have ha : some z = some a := ha
    rw [← Option.some.inj ha]
    by_cases c1 : m < L1.length
    · rw [List.getElem?_append_left c1] at hx
      exact key z (by rw [List.getElem?_append_left c1]; exact hx)
    · by_cases c2 : m = L1.length
      · subst c2
        rw [List.getElem?_append_right (Nat.le_refl _), Nat.sub_self] at hx
        simp at hx
        subst hx
        obtain ⟨v, k1, k2⟩ := key x (by rw [List.getElem?_append_right (Nat.le_refl _), Nat.sub_self]; rfl)
        exact ⟨v, k1, hxy _ _ k2⟩
      · obtain ⟨p, rfl⟩ : ∃ p, m = L1.length + (p + 1) := ⟨m - L1.length - 1, by omega⟩
        rw [List.getElem?_append_right (by omega), show L1.length + (p + 1) - L1.length = p + 1 by omega, List.getElem?_cons_succ] at hx
        exact key z (by rw [List.getElem?_append_right (by omega), show L1.length + (p + 1) - L1.length = p + 1 by omega, List.getElem?_cons_succ]; exact hx)
theorem ov_so {T : Tab} {x j n z : Nat} (h : T.iv j = (.i64, (n : Int))) (μ : M) (v : Value) (hv : @vrel T μ (.ov x j z) v) : @vrel T μ (.so x 0 n z) v := by
  simp only [vrel] at hv ⊢
  rw [h] at hv
  obtain ⟨_, l, c, h1, h2, h3, h4⟩ := hv
  simp only [Int.toNat_natCast] at h2 h4
  exact ⟨l, c, h1, h2, h3, h4⟩
end Go.Proofs.YtbgkinjicnnkiaaGreatDoor.bs
