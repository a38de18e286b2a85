/-
  The laws of profile: what the laws begin with.
-/
import Derived.Test.YtnenjcehicaobaaPGC
set_option linter.unusedVariables false
set_option linter.unusedSimpArgs false
set_option linter.unusedSectionVars false
set_option maxRecDepth 1000000
set_option maxHeartbeats 0
namespace Go.Proofs.Ytnenjcehicaobaa.pf
open Go.X Go.RowKit Go.Proofs
noncomputable def cmpLN : List Nat → List Nat → Int
  | [], [] => 0
  | [], _ :: _ => -1
  | _ :: _, [] => 1
  | a :: x, b :: y => Bool.rec (Bool.rec (cmpLN x y) 1 (Nat.blt b a)) (-1) (Nat.blt a b)
theorem cmpLN_eq : ∀ (a b : List Nat), (∀ x ∈ a, x < 256) → (∀ x ∈ b, x < 256) → cmpLN a b = Lib.compareBytes (a.map UInt8.ofNat) (b.map UInt8.ofNat)
  | [], [], _, _ => rfl
  | [], _ :: _, _, _ => rfl
  | _ :: _, [], _, _ => rfl
  | a :: x, b :: y, ha, hb => by
    have h1 := ha a (by simp)
    have h2 := hb b (by simp)
    have ih := cmpLN_eq x y (fun z hz => ha z (by simp [hz])) (fun z hz => hb z (by simp [hz]))
    have lt : ∀ u v : Nat, u < 256 → v < 256 → (UInt8.ofNat u < UInt8.ofNat v ↔ u < v) := fun u v hu hv => by
      rw [UInt8.lt_iff_toNat_lt, UInt8.toNat_ofNat', UInt8.toNat_ofNat', Nat.mod_eq_of_lt hu, Nat.mod_eq_of_lt hv]
    show (Bool.rec (Bool.rec (cmpLN x y) 1 (Nat.blt b a)) (-1) (Nat.blt a b) : Int) = _
    rw [List.map_cons, List.map_cons]
    unfold Lib.compareBytes
    have e1 : Nat.blt a b = decide (a < b) := by rw [Bool.eq_iff_iff, decide_eq_true_iff]; exact @blt_iff Tab.empty a b
    have e2 : Nat.blt b a = decide (b < a) := by rw [Bool.eq_iff_iff, decide_eq_true_iff]; exact @blt_iff Tab.empty b a
    rw [e1, e2]
    by_cases c1 : a < b
    · rw [decide_eq_true c1, if_pos ((lt a b h1 h2).2 c1)]
    · rw [decide_eq_false c1, if_neg (fun c => c1 ((lt a b h1 h2).1 c))]
      by_cases c2 : b < a
      · rw [decide_eq_true c2, if_pos ((lt b a h2 h1).2 c2)]
      · rw [decide_eq_false c2, if_neg (fun c => c2 ((lt b a h2 h1).1 c))]
        exact ih
/-- constants are compared -/
noncomputable def litH : Hand := fun f args h => ifb (Nat.beq 39 f) (match args with
  | [.str n c, .str m d] => some (.int .i64 (cmpLN (dec n c) (dec m d)), h)
  | _ => none)
theorem litH_ok {T : Tab} : @HandOk T Try.prog litH := by
  letI := T
  intro f args h p e
  obtain ⟨h1, e2⟩ := ifb_some e
  clear e
  have h1 := nbeq_iff.1 h1
  subst h1
  split at e2
  · rename_i n c m d
    cases e2
    refine callFact fun B w0 μ w l r hv => ?_
    simp only [vrels, vrel] at hv
    obtain ⟨v, _, rfl, ⟨hc, rfl⟩, u, _, rfl, ⟨hd, rfl⟩, rfl⟩ := hv
    refine (cmpString (strOf n c) (strOf m d) w).mono ?_
    rintro x w' ⟨rfl, rfl⟩
    refine ⟨⟨_, rfl, fun μ => ?_⟩, Below.refl _ _⟩
    simp only [vrel]
    rw [cmpLN_eq _ _ (dec_lt _ _) (dec_lt _ _)]
    simp [strOf]
  · cases e2
theorem begun_is {w : World} : Calls Try.prog 5 #[] w fun e w' => e = .returned (.bool true) ∧ Below w.heap.size w w' := by
  obtain ⟨q, k⟩ := @CallOk.of_okTrue Tab.empty Try.prog litH mixed litH_ok 3000 5 [] (by as_aux_lemma => kernel_rfl)
  refine (@CallOk.closed Tab.empty Try.prog 5 _ #[] _ k (by show ([] : List Value) = []; rfl) w ⟨fun g o a hg => (nomatch hg), fun i m a hg => (nomatch hg)⟩).mono ?_
  rintro x w' ⟨v', μ', rfl, hr, rr⟩
  have hr' : v' = .bool true := by simpa only [vrel] using hr
  exact ⟨by rw [hr'], rrBelow _ rr⟩
noncomputable abbrev begunH : Hand := oneHand 5 [] (.bool true)
theorem begunH_ok {T : Tab} : @HandOk T Try.prog begunH := by
  letI := T
  refine oneHand_ok fun h' => callFact fun B w0 μ w l r hv => ?_
  simp only [vrels] at hv
  subst hv
  refine begun_is.mono ?_
  rintro x w' ⟨rfl, hb⟩
  exact ⟨⟨_, rfl, fun μ => by simp only [vrel]⟩, hb⟩
end Go.Proofs.Ytnenjcehicaobaa.pf
