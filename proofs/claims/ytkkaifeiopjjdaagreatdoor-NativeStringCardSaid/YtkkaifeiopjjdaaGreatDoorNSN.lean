/-
  The law NativeString: keys differ with the texts; all calls of the law as hands.
-/
import Derived.Test.YtkkaifeiopjjdaaGreatDoorNSM
import Derived.Test.YtkkaifeiopjjdaaGreatDoorNSL
set_option linter.unusedVariables false
set_option linter.unusedSimpArgs false
set_option linter.unusedSectionVars false
set_option maxRecDepth 1000000
set_option maxHeartbeats 0
namespace Go.Proofs.YtkkaifeiopjjdaaGreatDoor.ns
open Go.X Go.RowKit Go.Proofs
theorem encC_inj {c d : Int} (c0 : 0 ≤ c) (c1 : c < 65536) (d0 : 0 ≤ d) (d1 : d < 65536) {l m : List Int} (h : encC c ++ l = encC d ++ m) : c = d ∧ l = m := by
  by_cases a : 0 < c ∧ c < 128
  · rw [encA a] at h
    by_cases b : 0 < d ∧ d < 128
    · rw [encA b] at h
      simp at h; exact h
    · by_cases b2 : d < 2048
      · rw [encB b b2] at h; simp at h; omega
      · rw [encD b b2] at h; simp at h; omega
  · by_cases a2 : c < 2048
    · rw [encB a a2] at h
      by_cases b : 0 < d ∧ d < 128
      · rw [encA b] at h; simp at h; omega
      · by_cases b2 : d < 2048
        · rw [encB b b2] at h; simp at h
          obtain ⟨h1, h2, h3⟩ := h
          exact ⟨by omega, h3⟩
        · rw [encD b b2] at h; simp at h; omega
    · rw [encD a a2] at h
      by_cases b : 0 < d ∧ d < 128
      · rw [encA b] at h; simp at h; omega
      · by_cases b2 : d < 2048
        · rw [encB b b2] at h; simp at h; omega
        · rw [encD b b2] at h; simp at h
          obtain ⟨h1, h2, h3, h4⟩ := h
          exact ⟨by omega, h4⟩
theorem encL_front (f : Nat → Int) : ∀ k, encL f (k + 1) = encC (f 0) ++ encL (fun m => f (m + 1)) k
  | 0 => by show [] ++ encC (f 0) = encC (f 0) ++ []; simp
  | k + 1 => by
    show encL f (k + 1) ++ encC (f (k + 1)) = encC (f 0) ++ (encL (fun m => f (m + 1)) k ++ encC (f (k + 1)))
    rw [encL_front f k, List.append_assoc]
theorem encL_inj : ∀ (n m : Nat) (f g : Nat → Int), (∀ k, 0 ≤ f k ∧ f k < 65536) → (∀ k, 0 ≤ g k ∧ g k < 65536) → encL f n = encL g m → n = m ∧ ∀ k, k < n → f k = g k
  | 0, 0, f, g, _, _, _ => ⟨rfl, fun k h => absurd h (Nat.not_lt_zero k)⟩
  | 0, m + 1, f, g, hf, hg, h => by
    rw [encL_front g m] at h
    have := congrArg List.length h
    rw [List.length_append, show (encL f 0).length = 0 from rfl] at this
    have h2 := (encC_len (g 0)).1
    omega
  | n + 1, 0, f, g, hf, hg, h => by
    rw [encL_front f n] at h
    have := congrArg List.length h
    rw [List.length_append, show (encL g 0).length = 0 from rfl] at this
    have h2 := (encC_len (f 0)).1
    omega
  | n + 1, m + 1, f, g, hf, hg, h => by
    rw [encL_front f n, encL_front g m] at h
    obtain ⟨h1, h2⟩ := encC_inj (hf 0).1 (hf 0).2 (hg 0).1 (hg 0).2 h
    obtain ⟨h3, h4⟩ := encL_inj n m _ _ (fun k => hf (k + 1)) (fun k => hg (k + 1)) h2
    refine ⟨by omega, fun k hk => ?_⟩
    match k with
    | 0 => exact h1
    | k + 1 => exact h4 k (by omega)
theorem encL_eq {f g : Nat → Int} : ∀ n, (∀ k, k < n → f k = g k) → encL f n = encL g n
  | 0, _ => rfl
  | n + 1, h => by show encL f n ++ encC (f n) = encL g n ++ encC (g n); rw [encL_eq n fun k hk => h k (by omega), h n (by omega)]
theorem key_iff {p : Pm} (h : Ar p) : keyO p 0 = keyO p 1 ↔ p.la = p.lb ∧ ∀ k, k < p.la → p.A k = p.B k := by
  constructor
  · intro e
    exact encL_inj p.la p.lb p.A p.B h.hA h.hB (bytesI_inj (encL_b (fun m => (h.hA m).1) (fun m => (h.hA m).2) _) (encL_b (fun m => (h.hB m).1) (fun m => (h.hB m).2) _) e)
  · rintro ⟨e1, e2⟩
    show bytesI (encL p.A p.la) = bytesI (encL p.B p.lb)
    rw [← e1, encL_eq p.la e2]
def upIn (c : In) (m : Nat) : In := ⟨c.f, c.xs, c.N, c.bs, c.v, m, c.bs'⟩
theorem upOk [Tab] {P : Go.Program} {c : In} (m : Nat) (h : c.N' ≤ m) (o : InOk P c) : InOk P (upIn c m) := by
  obtain ⟨h', k1, k2, k3⟩ := o.run
  have hs : SameH h' ⟨m, h'.t⟩ := ⟨by rw [← k2]; exact h, fun x => ⟨fun b hb => ⟨b, hb, .inl rfl⟩, fun a ha => ⟨a, ha⟩⟩⟩
  refine ⟨o.lim, ⟨m, h'.t⟩, ?_, rfl, k3⟩
  intro B w0 μ w args' r ha
  refine (k1 B w0 μ w args' r ha).mono ?_
  rintro e' w' ⟨v', μ', h1, h2, h3, h4⟩
  exact ⟨v', μ', h1, h2, h3, HR.sameH hs h4⟩
noncomputable def chU (N st o : Nat) : In := upIn (chI N st o) (Nat.add N 10)
/-- the calls by name, when both texts have chars; where the chars of the joined text are read -/
noncomputable def KL (t : Bool) (NJ : Nat) : Hand := (inHand (txI 0)).or ((inHand (txI 1)).or ((inHand (txI 2)).or (
  (inHand (chU 13377 1 0)).or ((inHand (chU 13423 1 0)).or ((inHand (chU 13433 1 1)).or
  ((inHand (chU 13523 2 0)).or ((inHand (chU 13533 2 1)).or ((inHand (chU 13574 2 0)).or ((inHand (chU 13697 2 1)).or ((inHand (chU NJ 2 2)).or
  ((inHand (encI 13574 13584 0)).or ((inHand (encI 13574 13624 0)).or ((inHand (encI 13697 13707 1)).or ((inHand (encI 13697 13747 1)).or
  ((cmpH 108 ⟨true, 3, 0⟩ ⟨true, 4, 1⟩ t).or ((cmpH 12 ⟨false, 0, 0⟩ ⟨false, 1, 1⟩ t).or ((cmpH 12 ⟨true, 5, 3⟩ ⟨true, 5, 3⟩ true).or KK)))))))))))))))))
end Go.Proofs.YtkkaifeiopjjdaaGreatDoor.ns
