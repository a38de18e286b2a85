/-
  A call, whatever is beneath: it throws, or gives the level.
-/
import Derived.Test.YtfkfmjlppllfoaaGreatDoorUNN
import Derived.Test.YtfkfmjlppllfoaaGreatDoorUNH
import Derived.Test.YtfkfmjlppllfoaaGreatDoorUNB
import Derived.Test.YtfkfmjlppllfoaaGreatDoorUNX11
import Derived.Test.YtfkfmjlppllfoaaGreatDoorUNX35
import Derived.Test.YtfkfmjlppllfoaaGreatDoorUNC
import Derived.Test.YtfkfmjlppllfoaaGreatDoorXN3
import Derived.Test.YtfkfmjlppllfoaaGreatDoorUST
import Derived.Test.YtfkfmjlppllfoaaGreatDoorProg
import Derived.KernelRfl
set_option linter.unusedSectionVars false
set_option linter.unusedVariables false
set_option maxRecDepth 1000000
set_option maxHeartbeats 0
namespace Go.Proofs.YtfkfmjlppllfoaaGreatDoor.un
open Go.X Go.RowKit Go.Proofs.YtfkfmjlppllfoaaGreatDoor
/-- so many instructions, from the first one on -/
def kN (l : Nat) : Nat → Nat
  | 0 => 4
  | n + 1 => 7 + kN l n + (if 1 ≤ l ∧ l ≤ n then 1 else if l = n + 1 then 6 else 8)
theorem kN_bd (l : Nat) : ∀ n : Nat, kN l n ≤ 15 * n + 4
  | 0 => Nat.le_refl _
  | n + 1 => by
    have := kN_bd l n
    unfold kN
    split
    · omega
    · split <;> omega
def Call (l n : Nat) : Prop := n ≤ 60 → ∀ {B : Kp} {w0 : World} {μ : M} {rv : Nat → Value} {Q : Exit → Act → World → Prop} {j : Nat} {v lv r wd c0 : Int} {s d S W : Nat} {a : Act} {w : World} (_ : Base B μ 20000) (_ : ∃ l, μ 14138 = some l) (_ : v = n) (_ : lv = l) (_ : l ≤ 100) (_ : 0 ≤ r) (_ : r + kN l n + 40 ≤ 5000) (_ : 0 ≤ wd) (_ : wd + 9 * n + 9 ≤ 2048) (_ : 0 ≤ c0) (_ : c0 + kN l n + 40 ≤ 200000) (_ : s + 2 * n ≤ 9000) (_ : d + n ≤ 9000)
    (_ : SE v lv r wd c0 s d S W rv B w0 μ a w)
    (_ : n = 0 → ∀ (u lu r' wd' c' : Int) (S' W' : Nat) (a' : Act) (w' : World), 0 ≤ u → u ≤ 200 → r' = r + kN l n → wd' = wd → c' = c0 + kN l n → S' = 3 + n → W' = 8 + 3 * n → SA11 u lu r' wd' c' s d S' W' rv B w0 μ a' w' → Code.rounds Tryz.prog la Q j a' w')
    (_ : 1 ≤ n → ¬ (1 ≤ l ∧ l ≤ n) → ∀ (u lu r' wd' c' : Int) (S' W' : Nat) (a' : Act) (w' : World), 0 ≤ u → u ≤ 200 → r' = r + kN l n → wd' = wd → c' = c0 + kN l n → S' = 3 + n → W' = 8 + 3 * n → SA35 u lu r' wd' c' s d S' W' rv B w0 μ a' w' → Code.rounds Tryz.prog la Q j a' w')
    (_ : 1 ≤ n → l = n → ∀ (u lu res r' wd' c' : Int) (S' W' : Nat) (a' : Act) (w' : World), 0 ≤ u → u ≤ 200 → res = l → r' = r + kN l n → wd' = wd → c' = c0 + kN l n → S' = 3 + n → W' = 8 + 3 * n → SR27 u lu res r' wd' c' s d 0 0 rv B w0 μ a' w' → Code.rounds Tryz.prog la Q j a' w')
    (_ : 1 ≤ l → l < n → ∀ (u lu res r' wd' c' : Int) (S' W' : Nat) (a' : Act) (w' : World), 0 ≤ u → u ≤ 200 → res = l → r' = r + kN l n → wd' = wd → c' = c0 + kN l n → S' = 3 + n → W' = 8 + 3 * n → SR19 u lu res r' wd' c' s d 0 0 rv B w0 μ a' w' → Code.rounds Tryz.prog la Q j a' w'), Code.rounds Tryz.prog la Q (j + kN l n) a w
theorem call0 (l : Nat) : Call l 0 := by
  intro _ B w0 μ rv Q j v lv r wd c0 s d S W a w hb hM e1 e2 e3 e4 e5 e6 e7 e8 e9 e10 e11 s_ k0 k1 k2 k3
  have hk : kN l 0 = 4 := rfl
  rw [hk]
  exact goA (by omega) (by omega) (by omega) (by omega) (by omega) (by omega) (by omega) (by omega) (by omega) (by omega) (by omega) (by omega) hb s_ (fun a' w' q => k0 rfl _ _ _ _ _ _ _ a' w' (by omega) (by omega) (by omega) rfl (by omega) rfl rfl q)
theorem call1 (l n : Nat) (ih : Call l n) : Call l (n + 1) := by
  intro hn B w0 μ rv Q j v lv r wd c0 s d S W a w hb hM e1 e2 e3 e4 e5 e6 e7 e8 e9 e10 e11 s_ k0 k1 k2 k3
  have hk : kN l (n + 1) = 7 + kN l n + (if 1 ≤ l ∧ l ≤ n then 1 else if l = n + 1 then 6 else 8) := rfl
  have kb := kN_bd l n
  clear k0
  have fin : ∀ (m : Nat), kN l (n + 1) = 7 + kN l n + m → m ≤ 8 → j + kN l (n + 1) = (j + m + kN l n) + 7 := by intro m h _; omega
  by_cases c1 : 1 ≤ l ∧ l ≤ n
  · have hk1 : kN l (n + 1) = 7 + kN l n + 1 := by rw [hk, if_pos c1]
    rw [fin 1 hk1 (by omega)]
    refine goB (by omega) (by omega) (by omega) (by omega) (by omega) (by omega) (by omega) (by omega) (by omega) (by omega) (by omega) (by omega) hb s_ (fun a1 w1 q1 => ?_)
    obtain ⟨rv1, E1, hid, s1⟩ := hideE hb q1
    have hb1 : Base (B.also E1) μ 20000 := ⟨hb.names, hb.res⟩
    refine ih (by omega) hb1 hM (by omega) (by omega) (by omega) (by omega) (by omega) (by omega) (by omega) (by omega) (by omega) (by omega) (by omega) s1 (fun h => absurd h (by omega)) (fun h1 h2 => absurd c1 h2) ?_ ?_
    · intro h1 h2 u lu res r' wd' c' S' W' a2 w2 x1 x2 x3 x4 x5 x6 x7 x8 q2
      exact goC27 (by omega) (by omega) (by omega) (by omega) (by omega) (by omega) (by omega) (by omega) (by omega) (by omega) (by omega) hb (unC27 hM hb hid q2) (fun a3 w3 q3 => k3 c1.1 (by omega) _ _ _ _ _ _ _ _ a3 w3 (by omega) (by omega) (by omega) (by omega) (by omega) (by omega) rfl rfl q3)
    · intro h1 h2 u lu res r' wd' c' S' W' a2 w2 x1 x2 x3 x4 x5 x6 x7 x8 q2
      exact goC19 (by omega) (by omega) (by omega) (by omega) (by omega) (by omega) (by omega) (by omega) (by omega) (by omega) (by omega) hb (unC19 hM hb hid q2) (fun a3 w3 q3 => k3 c1.1 (by omega) _ _ _ _ _ _ _ _ a3 w3 (by omega) (by omega) (by omega) (by omega) (by omega) (by omega) rfl rfl q3)
  · have next : ∀ (m : Nat), kN l (n + 1) = 7 + kN l n + m → m ≤ 8 → (∀ (u lu r' wd' c' : Int) (S' W' : Nat) (a2 : Act) (w2 : World), 0 ≤ u → u ≤ 200 → r' = r + 7 + kN l n → wd' = wd + 9 → c' = c0 + 7 + kN l n → S' = 3 + n → W' = 8 + 3 * n → (SX11 v lv u lu r' wd' c' s d S' W' rv B w0 μ a2 w2 ∨ SX35 v lv u lu r' wd' c' s d S' W' rv B w0 μ a2 w2) → Code.rounds Tryz.prog la Q (j + m) a2 w2) → Code.rounds Tryz.prog la Q (j + kN l (n + 1)) a w := by
      intro m hm hm8 kk
      rw [fin m hm hm8]
      refine goB (by omega) (by omega) (by omega) (by omega) (by omega) (by omega) (by omega) (by omega) (by omega) (by omega) (by omega) (by omega) hb s_ (fun a1 w1 q1 => ?_)
      obtain ⟨rv1, E1, hid, s1⟩ := hideE hb q1
      have hb1 : Base (B.also E1) μ 20000 := ⟨hb.names, hb.res⟩
      refine ih (by omega) hb1 hM (by omega) (by omega) (by omega) (by omega) (by omega) (by omega) (by omega) (by omega) (by omega) (by omega) (by omega) s1 ?_ ?_ (fun h1 h2 => absurd (And.intro (by omega) (by omega)) c1) (fun h1 h2 => absurd (And.intro (by omega) (by omega)) c1)
      · intro h1 u lu r' wd' c' S' W' a2 w2 x1 x2 x4 x5 x6 x7 x8 q2
        exact kk u lu r' wd' c' S' W' a2 w2 x1 x2 (by omega) (by omega) (by omega) x7 x8 (.inl (unX11 hM hb hid q2))
      · intro h1 h2 u lu r' wd' c' S' W' a2 w2 x1 x2 x4 x5 x6 x7 x8 q2
        exact kk u lu r' wd' c' S' W' a2 w2 x1 x2 (by omega) (by omega) (by omega) x7 x8 (.inr (unX35 hM hb hid q2))
    by_cases c2 : l = n + 1
    · have hkk : kN l (n + 1) = 7 + kN l n + 6 := by rw [hk, if_neg c1, if_pos c2]
      refine next 6 hkk (by omega) ?_
      intro u lu r' wd' c' S' W' a2 w2 x1 x2 x4 x5 x6 x7 x8 q2
      rcases q2 with q2 | q2
      · exact goX11m (by omega) (by omega) (by omega) (by omega) (by omega) (by omega) (by omega) (by omega) (by omega) (by omega) (by omega) (by omega) (by omega) (by omega) (by omega) (by omega) (by omega) (by omega) hb q2 (fun a3 w3 q3 => k2 (by omega) c2 _ _ _ _ _ _ _ _ a3 w3 (by omega) (by omega) (by omega) (by omega) (by omega) (by omega) rfl rfl q3)
      · exact goX35m (by omega) (by omega) (by omega) (by omega) (by omega) (by omega) (by omega) (by omega) (by omega) (by omega) (by omega) (by omega) (by omega) (by omega) (by omega) (by omega) (by omega) (by omega) hb q2 (fun a3 w3 q3 => k2 (by omega) c2 _ _ _ _ _ _ _ _ a3 w3 (by omega) (by omega) (by omega) (by omega) (by omega) (by omega) rfl rfl q3)
    · have hkk : kN l (n + 1) = 7 + kN l n + 8 := by rw [hk, if_neg c1, if_neg c2]
      refine next 8 hkk (by omega) ?_
      intro u lu r' wd' c' S' W' a2 w2 x1 x2 x4 x5 x6 x7 x8 q2
      rcases q2 with q2 | q2
      · exact goX11n (by omega) (by omega) (by omega) (by omega) (by omega) (by omega) (by omega) (by omega) (by omega) (by omega) (by omega) (by omega) (by omega) (by omega) (by omega) (by omega) (by omega) (by omega) hb q2 (fun a3 w3 q3 => k1 (by omega) (by omega) _ _ _ _ _ _ _ a3 w3 (by omega) (by omega) (by omega) (by omega) (by omega) (by omega) (by omega) q3)
      · exact goX35n (by omega) (by omega) (by omega) (by omega) (by omega) (by omega) (by omega) (by omega) (by omega) (by omega) (by omega) (by omega) (by omega) (by omega) (by omega) (by omega) (by omega) (by omega) hb q2 (fun a3 w3 q3 => k1 (by omega) (by omega) _ _ _ _ _ _ _ a3 w3 (by omega) (by omega) (by omega) (by omega) (by omega) (by omega) (by omega) q3)
theorem calls_ok (l : Nat) : ∀ n : Nat, Call l n
  | 0 => call0 l
  | n + 1 => call1 l n (calls_ok l n)
end Go.Proofs.YtfkfmjlppllfoaaGreatDoor.un
