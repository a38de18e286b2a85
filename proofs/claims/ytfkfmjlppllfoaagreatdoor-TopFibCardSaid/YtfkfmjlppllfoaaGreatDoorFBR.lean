/-
  A call, whatever is beneath.
-/
import Derived.Test.YtfkfmjlppllfoaaGreatDoorFBH
import Derived.Test.YtfkfmjlppllfoaaGreatDoorFBB
import Derived.Test.YtfkfmjlppllfoaaGreatDoorFBA6
import Derived.Test.YtfkfmjlppllfoaaGreatDoorFBA20
import Derived.Test.YtfkfmjlppllfoaaGreatDoorFBC
import Derived.Test.YtfkfmjlppllfoaaGreatDoorXN3
import Derived.Test.YtfkfmjlppllfoaaGreatDoorProg
import Derived.KernelRfl
set_option linter.unusedSectionVars false
set_option linter.unusedVariables false
set_option maxRecDepth 1000000
set_option maxHeartbeats 0
namespace Go.Proofs.YtfkfmjlppllfoaaGreatDoor.fb
open Go.X Go.RowKit
/-- what a call gives -/
def fN : Nat → Nat
  | 0 => 0
  | 1 => 1
  | n + 2 => fN (n + 1) + fN n
/-- so many instructions -/
def kN : Nat → Nat
  | 0 => 3
  | 1 => 3
  | n + 2 => kN (n + 1) + kN n + 15
theorem fN_bd : ∀ n : Nat, n < 15 → fN n ≤ 400 := by decide
theorem kN_bd : ∀ n : Nat, n < 15 → kN n ≤ 11000 := by decide
def Back (p : Bool) (n : Nat) (B : Kp) (w0 : World) (μ : M) (rv : Nat → Value) (Q : Exit → Act → World → Prop) (j : Nat) (r wd c0 : Int) (s d : Nat) : Prop :=
  ∀ (u res' r' wd' c0' : Int) (a' : Act) (w' : World), 0 ≤ u → u ≤ 200 → res' = fN n → r' = r + kN n → wd' = wd → c0' = c0 + kN n → (match p with | true => SR20 u res' r' wd' c0' s d rv B w0 μ a' w' | false => SR6 u res' r' wd' c0' s d rv B w0 μ a' w') → Code.rounds Tryz.prog la Q j a' w'
def Call (n : Nat) : Prop := n ≤ 14 → ∀ {B : Kp} {w0 : World} {μ : M} {rv : Nat → Value} {Q : Exit → Act → World → Prop} {j : Nat} {v r wd c0 : Int} {s d : Nat} {a : Act} {w : World} (_ : Base B μ 20000) (_ : ∃ l, μ 13892 = some l) (_ : v = n) (_ : 0 ≤ r) (_ : r + kN n + 30 ≤ 100000) (_ : 0 ≤ wd) (_ : wd + 8 * n + 8 ≤ 2048) (_ : 0 ≤ c0) (_ : c0 + kN n + 30 ≤ 200000) (_ : s + 2 * n ≤ 9000) (_ : d + n ≤ 9000)
    (_ : SE v r wd c0 s d rv B w0 μ a w) (_ : n < 2 → Back false n B w0 μ rv Q j r wd c0 s d)
    (_ : 2 ≤ n → Back true n B w0 μ rv Q j r wd c0 s d), Code.rounds Tryz.prog la Q (j + kN n) a w
theorem call_base (n : Nat) (h : n < 2) : Call n := by
  intro _ B w0 μ rv Q j v r wd c0 s d a w hb hM e1 e2 e3 e4 e5 e6 e7 e8 e9 s_ k6 k20
  have hk : kN n = 3 := by
    rcases n with _ | _ | n
    · rfl
    · rfl
    · omega
  have hf : fN n = n := by
    rcases n with _ | _ | n
    · rfl
    · rfl
    · omega
  rw [hk]
  exact goA (by omega) (by omega) (by omega) (by omega) (by omega) (by omega) (by omega) (by omega) (by omega) (by omega) hb s_ (fun a' w' q => k6 h _ _ _ _ _ a' w' (by omega) (by omega) (by omega) (by omega) rfl (by omega) q)
theorem call_two (n : Nat) (i1 : Call (n + 1)) (i0 : Call n) : Call (n + 2) := by
  intro hn B w0 μ rv Q j v r wd c0 s d a w hb hM e1 e2 e3 e4 e5 e6 e7 e8 e9 s_ k6 k20
  have hk : kN (n + 2) = kN (n + 1) + kN n + 15 := rfl
  have hf : fN (n + 2) = fN (n + 1) + fN n := rfl
  have f1 := fN_bd (n + 1) (by omega)
  have f0 := fN_bd n (by omega)
  have kk := k20 (by omega)
  clear k20 k6
  rw [hk]
  rw [show j + (kN (n + 1) + kN n + 15) = (j + 2 + kN n + 6 + kN (n + 1)) + 7 by omega]
  refine goB (by omega) (by omega) (by omega) (by omega) (by omega) (by omega) (by omega) (by omega) (by omega) (by omega) hb s_ (fun a1 w1 q1 => ?_)
  obtain ⟨rv1, E1, hid1, s1⟩ := hideA hb q1
  have hb1 : Base (B.also E1) μ 20000 := ⟨hb.names, hb.res⟩
  have fin : ∀ (u2 res2 r2 wd2 c2 : Int) (resA : Int) (a4 : Act) (w4 : World), 0 ≤ u2 → u2 ≤ 200 → resA = fN (n + 1) → res2 = fN n → r2 = r + 7 + kN (n + 1) + 6 + kN n → wd2 = wd + 8 → c2 = c0 + 7 + kN (n + 1) + 6 + kN n → (SCB6 v resA u2 res2 r2 wd2 c2 s d rv B w0 μ a4 w4 ∨ SCB20 v resA u2 res2 r2 wd2 c2 s d rv B w0 μ a4 w4) → Code.rounds Tryz.prog la Q (j + 2) a4 w4 := by
    intro u2 res2 r2 wd2 c2 resA a4 w4 x1 x2 x3 x4 x5 x6 x7 x8
    rcases x8 with x8 | x8
    · exact goCb6 (by omega) (by omega) (by omega) (by omega) (by omega) (by omega) (by omega) (by omega) (by omega) (by omega) (by omega) (by omega) (by omega) (by omega) hb x8 (fun a5 w5 q5 => kk _ _ _ _ _ a5 w5 (by omega) (by omega) (by omega) (by omega) (by omega) (by omega) q5)
    · exact goCb20 (by omega) (by omega) (by omega) (by omega) (by omega) (by omega) (by omega) (by omega) (by omega) (by omega) (by omega) (by omega) (by omega) (by omega) hb x8 (fun a5 w5 q5 => kk _ _ _ _ _ a5 w5 (by omega) (by omega) (by omega) (by omega) (by omega) (by omega) q5)
  have mid : ∀ (resA rA wdA cA : Int) (a3 : Act) (w3 : World), resA = fN (n + 1) → rA = r + 7 + kN (n + 1) → wdA = wd + 8 → cA = c0 + 7 + kN (n + 1) → SE2b v resA rA wdA cA s d rv B w0 μ a3 w3 → Code.rounds Tryz.prog la Q (j + 2 + kN n) a3 w3 := by
    intro resA rA wdA cA a3 w3 x1 x2 x3 x4 q3
    obtain ⟨rv2, E2, hid2, s2⟩ := hideB hb q3
    have hb2 : Base (B.also E2) μ 20000 := ⟨hb.names, hb.res⟩
    refine i0 (by omega) hb2 hM (by omega) (by omega) (by omega) (by omega) (by omega) (by omega) (by omega) (by omega) (by omega) s2 ?_ ?_
    · intro _ u2 res2 r2 wd2 c2 a4 w4 y1 y2 y3 y4 y5 y6 q4
      exact fin u2 res2 r2 wd2 c2 resA a4 w4 y1 y2 x1 y3 (by omega) (by omega) (by omega) (.inl (unB6 hM hb hid2 q4))
    · intro _ u2 res2 r2 wd2 c2 a4 w4 y1 y2 y3 y4 y5 y6 q4
      exact fin u2 res2 r2 wd2 c2 resA a4 w4 y1 y2 x1 y3 (by omega) (by omega) (by omega) (.inr (unB20 hM hb hid2 q4))
  refine i1 (by omega) hb1 hM (by omega) (by omega) (by omega) (by omega) (by omega) (by omega) (by omega) (by omega) (by omega) s1 ?_ ?_
  · intro _ u1 res1 r1 wd1 c1 a2 w2 y1 y2 y3 y4 y5 y6 q2
    exact goCa6 (by omega) (by omega) (by omega) (by omega) (by omega) (by omega) (by omega) (by omega) (by omega) (by omega) (by omega) (by omega) hb (unA6 hM hb hid1 q2) (fun a3 w3 q3 => mid _ _ _ _ a3 w3 (by omega) (by omega) (by omega) (by omega) q3)
  · intro _ u1 res1 r1 wd1 c1 a2 w2 y1 y2 y3 y4 y5 y6 q2
    exact goCa20 (by omega) (by omega) (by omega) (by omega) (by omega) (by omega) (by omega) (by omega) (by omega) (by omega) (by omega) (by omega) hb (unA20 hM hb hid1 q2) (fun a3 w3 q3 => mid _ _ _ _ a3 w3 (by omega) (by omega) (by omega) (by omega) q3)
theorem calls_ok : ∀ n : Nat, Call n ∧ Call (n + 1)
  | 0 => ⟨call_base 0 (by omega), call_base 1 (by omega)⟩
  | n + 1 => ⟨(calls_ok n).2, call_two n (calls_ok n).2 (calls_ok n).1⟩
end Go.Proofs.YtfkfmjlppllfoaaGreatDoor.fb
