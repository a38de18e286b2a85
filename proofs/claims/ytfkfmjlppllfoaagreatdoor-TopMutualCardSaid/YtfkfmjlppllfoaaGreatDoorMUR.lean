/-
  A call of one of the two methods, whatever is beneath.
-/
import Derived.Test.YtfkfmjlppllfoaaGreatDoorMNN
import Derived.Test.YtfkfmjlppllfoaaGreatDoorMUH
import Derived.Test.YtfkfmjlppllfoaaGreatDoorMUB0
import Derived.Test.YtfkfmjlppllfoaaGreatDoorMUB1
import Derived.Test.YtfkfmjlppllfoaaGreatDoorMUC
import Derived.Test.YtfkfmjlppllfoaaGreatDoorXN3
import Derived.Test.YtfkfmjlppllfoaaGreatDoorProg
import Derived.KernelRfl
set_option linter.unusedSectionVars false
set_option linter.unusedVariables false
set_option maxRecDepth 1000000
set_option maxHeartbeats 0
namespace Go.Proofs.YtfkfmjlppllfoaaGreatDoor.mu
open Go.X Go.RowKit
/-- what a call gives: is the number even (true), odd (false)? -/
def rE : Nat → Bool → Int
  | 0, true => 1
  | 0, false => 0
  | n + 1, b => rE n (!b)
theorem rE_bd : ∀ (n : Nat) (b : Bool), 0 ≤ rE n b ∧ rE n b ≤ 1
  | 0, true => by decide
  | 0, false => by decide
  | n + 1, b => rE_bd n (!b)
/-- so many instructions of the own method (true), of the other one (false) -/
def kE : Nat → Bool → Int
  | 0, true => 3
  | 0, false => 0
  | n + 1, true => 6 + kE n false
  | n + 1, false => kE n true + 1
theorem kE_bd : ∀ (n : Nat) (b : Bool), 0 ≤ kE n b ∧ kE n b ≤ 7 * n + 3
  | 0, true => by decide
  | 0, false => by decide
  | n + 1, true => by have := kE_bd n false; simp only [kE]; omega
  | n + 1, false => by have := kE_bd n true; simp only [kE]; omega
theorem calls_ok : ∀ n : Nat, n ≤ 200 → (∀ {B : Kp} {w0 : World} {μ : M} {rv : Nat → Value} {Q : Exit → Act → World → Prop} {j : Nat} {v r wd c0 c1 : Int} {s d : Nat} {a : Act} {w : World} (_ : Base B μ 20000) (_ : ∃ l, μ 14062 = some l) (_ : v = n) (_ : 0 ≤ r) (_ : r + 7 * n + 30 ≤ 5000) (_ : 0 ≤ wd) (_ : wd + 7 * n + 7 ≤ 2048) (_ : 0 ≤ c0) (_ : c0 + 7 * n + 30 ≤ 100000) (_ : 0 ≤ c1) (_ : c1 + 7 * n + 30 ≤ 100000) (_ : s + n ≤ 9000) (_ : d + n ≤ 9000)
    (_ : SE0 v r wd c0 c1 s d rv B w0 μ a w) (_ : (∀ (u res' r' wd' c0' c1' : Int) (a' : Act) (w' : World), res' = rE n true → r' = r + 3 + 7 * n → wd' = wd → c0' = c0 + kE n true → c1' = c1 + kE n false → SR05 u res' r' wd' c0' c1' s d rv B w0 μ a' w' → Code.rounds Tryz.prog la Q j a' w'))
    (_ : (∀ (u res' r' wd' c0' c1' : Int) (a' : Act) (w' : World), res' = rE n true → r' = r + 3 + 7 * n → wd' = wd → c0' = c0 + kE n true → c1' = c1 + kE n false → SR012 u res' r' wd' c0' c1' s d rv B w0 μ a' w' → Code.rounds Tryz.prog la Q j a' w')), Code.rounds Tryz.prog la Q (j + (3 + 7 * n)) a w) ∧
  (∀ {B : Kp} {w0 : World} {μ : M} {rv : Nat → Value} {Q : Exit → Act → World → Prop} {j : Nat} {v r wd c0 c1 : Int} {s d : Nat} {a : Act} {w : World} (_ : Base B μ 20000) (_ : ∃ l, μ 14062 = some l) (_ : v = n) (_ : 0 ≤ r) (_ : r + 7 * n + 30 ≤ 5000) (_ : 0 ≤ wd) (_ : wd + 7 * n + 7 ≤ 2048) (_ : 0 ≤ c0) (_ : c0 + 7 * n + 30 ≤ 100000) (_ : 0 ≤ c1) (_ : c1 + 7 * n + 30 ≤ 100000) (_ : s + n ≤ 9000) (_ : d + n ≤ 9000)
    (_ : SE1 v r wd c0 c1 s d rv B w0 μ a w) (_ : (∀ (u res' r' wd' c0' c1' : Int) (a' : Act) (w' : World), res' = rE n false → r' = r + 3 + 7 * n → wd' = wd → c0' = c0 + kE n false → c1' = c1 + kE n true → SR15 u res' r' wd' c0' c1' s d rv B w0 μ a' w' → Code.rounds Tryz.prog la Q j a' w'))
    (_ : (∀ (u res' r' wd' c0' c1' : Int) (a' : Act) (w' : World), res' = rE n false → r' = r + 3 + 7 * n → wd' = wd → c0' = c0 + kE n false → c1' = c1 + kE n true → SR112 u res' r' wd' c0' c1' s d rv B w0 μ a' w' → Code.rounds Tryz.prog la Q j a' w')), Code.rounds Tryz.prog la Q (j + (3 + 7 * n)) a w)
  | 0, _ => by
    refine ⟨?_, ?_⟩
    · intro B w0 μ rv Q j v r wd c0 c1 s d a w hb hM e1 e2 e3 e4 e5 e6 e7 e8 e9 e10 e11 s_ k5 k12
      exact goA0 (by omega) (by omega) (by omega) (by omega) (by omega) (by omega) (by omega) (by omega) (by omega) (by omega) (by omega) (by omega) hb s_ (fun a' w' q => k5 _ _ _ _ _ _ a' w' rfl (by omega) rfl (by simp [kE]) (by simp [kE]) q)
    · intro B w0 μ rv Q j v r wd c0 c1 s d a w hb hM e1 e2 e3 e4 e5 e6 e7 e8 e9 e10 e11 s_ k5 k12
      exact goA1 (by omega) (by omega) (by omega) (by omega) (by omega) (by omega) (by omega) (by omega) (by omega) (by omega) (by omega) (by omega) hb s_ (fun a' w' q => k5 _ _ _ _ _ _ a' w' rfl (by omega) rfl (by simp [kE]) (by simp [kE]) q)
  | n + 1, hn => by
    have ih := calls_ok n (by omega)
    refine ⟨?_, ?_⟩
    · intro B w0 μ rv Q j v r wd c0 c1 s d a w hb hM e1 e2 e3 e4 e5 e6 e7 e8 e9 e10 e11 s_ k5 k12
      rw [show j + (3 + 7 * (n + 1)) = (j + 1 + (3 + 7 * n)) + 6 by omega]
      refine goB0 (by omega) (by omega) (by omega) (by omega) (by omega) (by omega) (by omega) (by omega) (by omega) (by omega) (by omega) (by omega) hb s_ (fun a1 w1 q => ?_)
      obtain ⟨rv', E, hid, s1⟩ := hide0 hb q
      have hb' : Base (B.also E) μ 20000 := ⟨hb.names, hb.res⟩
      refine ih.2 hb' hM (by omega) (by omega) (by omega) (by omega) (by omega) (by omega) (by omega) (by omega) (by omega) (by omega) (by omega) s1 ?_ ?_
      · intro u res' r' wd' c0' c1' a2 w2 f1 f2 f3 f4 f5 q2
        have hr := rE_bd n false
        have g1 := kE_bd n true
        have g2 := kE_bd n false
        exact goC05 (by omega) (by omega) (by omega) (by omega) (by omega) (by omega) (by omega) (by omega) (by omega) (by omega) (by omega) (by omega) hb (unhide05 hM hb hid q2) (fun a3 w3 q4 => k12 _ _ _ _ _ _ a3 w3 f1 (by omega) (by omega) (by simp only [kE]; omega) (by simp only [kE]; omega) q4)
      · intro u res' r' wd' c0' c1' a2 w2 f1 f2 f3 f4 f5 q2
        have hr := rE_bd n false
        have g1 := kE_bd n true
        have g2 := kE_bd n false
        exact goC012 (by omega) (by omega) (by omega) (by omega) (by omega) (by omega) (by omega) (by omega) (by omega) (by omega) (by omega) (by omega) hb (unhide012 hM hb hid q2) (fun a3 w3 q4 => k12 _ _ _ _ _ _ a3 w3 f1 (by omega) (by omega) (by simp only [kE]; omega) (by simp only [kE]; omega) q4)
    · intro B w0 μ rv Q j v r wd c0 c1 s d a w hb hM e1 e2 e3 e4 e5 e6 e7 e8 e9 e10 e11 s_ k5 k12
      rw [show j + (3 + 7 * (n + 1)) = (j + 1 + (3 + 7 * n)) + 6 by omega]
      refine goB1 (by omega) (by omega) (by omega) (by omega) (by omega) (by omega) (by omega) (by omega) (by omega) (by omega) (by omega) (by omega) hb s_ (fun a1 w1 q => ?_)
      obtain ⟨rv', E, hid, s1⟩ := hide1 hb q
      have hb' : Base (B.also E) μ 20000 := ⟨hb.names, hb.res⟩
      refine ih.1 hb' hM (by omega) (by omega) (by omega) (by omega) (by omega) (by omega) (by omega) (by omega) (by omega) (by omega) (by omega) s1 ?_ ?_
      · intro u res' r' wd' c0' c1' a2 w2 f1 f2 f3 f4 f5 q2
        have hr := rE_bd n true
        have g1 := kE_bd n true
        have g2 := kE_bd n false
        exact goC15 (by omega) (by omega) (by omega) (by omega) (by omega) (by omega) (by omega) (by omega) (by omega) (by omega) (by omega) (by omega) hb (unhide15 hM hb hid q2) (fun a3 w3 q4 => k12 _ _ _ _ _ _ a3 w3 f1 (by omega) (by omega) (by simp only [kE]; omega) (by simp only [kE]; omega) q4)
      · intro u res' r' wd' c0' c1' a2 w2 f1 f2 f3 f4 f5 q2
        have hr := rE_bd n true
        have g1 := kE_bd n true
        have g2 := kE_bd n false
        exact goC112 (by omega) (by omega) (by omega) (by omega) (by omega) (by omega) (by omega) (by omega) (by omega) (by omega) (by omega) (by omega) hb (unhide112 hM hb hid q2) (fun a3 w3 q4 => k12 _ _ _ _ _ _ a3 w3 f1 (by omega) (by omega) (by simp only [kE]; omega) (by simp only [kE]; omega) q4)
end Go.Proofs.YtfkfmjlppllfoaaGreatDoor.mu
