/-
  What the law TopCopy gives: the law.
-/
import Derived.Test.YthgncmohimdbmaaGreatDoorCPB0
import Derived.Test.YthgncmohimdbmaaGreatDoorCPB1
import Derived.Test.YthgncmohimdbmaaGreatDoorCPB2
import Derived.Test.YthgncmohimdbmaaGreatDoorCPB3
import Derived.Test.YthgncmohimdbmaaGreatDoorCPB4
import Derived.Test.YthgncmohimdbmaaGreatDoorCPB5
import Derived.Test.YthgncmohimdbmaaGreatDoorCPB6
import Derived.Test.YthgncmohimdbmaaGreatDoorCPB7
import Derived.Test.YthgncmohimdbmaaGreatDoorCPF1
import Derived.Test.YthgncmohimdbmaaGreatDoorCPF2
import Derived.Test.YthgncmohimdbmaaGreatDoorCPF3
import Derived.Test.YthgncmohimdbmaaGreatDoorCPF4
import Derived.Test.YthgncmohimdbmaaGreatDoorCPF5
set_option linter.unusedSectionVars false
set_option linter.unusedVariables false
set_option maxRecDepth 1000000
set_option maxHeartbeats 0
namespace Go.Proofs.YthgncmohimdbmaaGreatDoor.cy
open Go.X Go.RowKit
def allCs : List (Nat × Nat × Nat) := cs0 ++ cs1 ++ cs2 ++ cs3 ++ cs4 ++ cs5 ++ cs6 ++ cs7
def allB : Bool := (List.range 11).all fun n => (List.range 11).all fun f => (List.range 11).all fun t => !(Nat.ble (f + n) 10 && Nat.ble (t + n) 10) || allCs.elem (f, t, n)
theorem allB_is : allB = true := by decide +kernel
theorem allIn (n : Nat) (hn : n < 11) (f : Nat) (hf : f < 11) (t : Nat) (ht : t < 11) (h1 : f + n ≤ 10) (h2 : t + n ≤ 10) : (f, t, n) ∈ allCs := by
  have h := List.all_eq_true.1 (List.all_eq_true.1 (List.all_eq_true.1 allB_is n (List.mem_range.2 hn)) f (List.mem_range.2 hf)) t (List.mem_range.2 ht)
  have e1 : Nat.ble (f + n) 10 = true := Nat.ble_eq.mpr h1
  have e2 : Nat.ble (t + n) 10 = true := Nat.ble_eq.mpr h2
  rw [e1, e2] at h
  exact List.elem_iff.1 h
theorem good {f t n : Nat} (h1 : f + n ≤ 10) (h2 : t + n ≤ 10) : Good f t n := by
  have hm : (f, t, n) ∈ cs0 ++ cs1 ++ cs2 ++ cs3 ++ cs4 ++ cs5 ++ cs6 ++ cs7 := allIn n (by omega) f (by omega) t (by omega) h1 h2
  simp only [List.mem_append] at hm
  rcases hm with ((((((hm | hm) | hm) | hm) | hm) | hm) | hm) | hm
  · exact all0 _ hm
  · exact all1 _ hm
  · exact all2 _ hm
  · exact all3 _ hm
  · exact all4 _ hm
  · exact all5 _ hm
  · exact all6 _ hm
  · exact all7 _ hm
theorem yI_le (f t n : Nat) (h1 : f + n ≤ 10) (h2 : t + n ≤ 10) : ∀ i, 0 ≤ yI f t n i ∧ yI f t n i ≤ 100 := by
  intro i
  have key : ∀ k : Nat, k ≤ 10 → k * k ≤ 100 := fun k hk => Nat.mul_le_mul hk hk
  unfold yI
  split
  · unfold Yv
    split
    · have := key (f + i - t) (by omega)
      omega
    · have := key i (by omega)
      omega
  · omega
theorem walk (a0 a1 a2 : Int) (w : World) : Calls Tryz.prog 5 #[.int .i64 a0, .int .i64 a1, .int .i64 a2] w fun e w' => e = .returned (.bool true) ∧ Below w.heap.size w w' := by
  have key : ∀ a : Int, 0 ≤ bx a ∧ bx a ≤ 11 := by
    intro a
    have h1 : -12 < a.tmod 12 := tmod_lo (by decide)
    have h2 : a.tmod 12 < 12 := tmod_hi (by decide)
    unfold bx
    split <;> omega
  have g0 := key a0
  have g1 := key a1
  have g2 := key a2
  obtain ⟨f, hf⟩ : ∃ f, bx a0 = f + 1 := ⟨bx a0 - 1, by omega⟩
  obtain ⟨t, ht⟩ : ∃ t, bx a1 = t + 1 := ⟨bx a1 - 1, by omega⟩
  obtain ⟨n, hn⟩ : ∃ n, bx a2 = n + 1 := ⟨bx a2 - 1, by omega⟩
  have b0 : -1 ≤ f ∧ f ≤ 10 := by omega
  have b1 : -1 ≤ t ∧ t ≤ 10 := by omega
  have b2 : -1 ≤ n ∧ n ≤ 10 := by omega
  by_cases c0 : 0 ≤ f
  · by_cases c1 : 0 ≤ t
    · by_cases c2 : 0 ≤ n
      · by_cases c3 : f + n ≤ 10
        · by_cases c4 : t + n ≤ 10
          · obtain ⟨f, rfl⟩ := Int.eq_ofNat_of_zero_le c0
            obtain ⟨t, rfl⟩ := Int.eq_ofNat_of_zero_le c1
            obtain ⟨n, rfl⟩ := Int.eq_ofNat_of_zero_le c2
            obtain ⟨k1, k2⟩ := good (f := f) (t := t) (n := n) (by omega) (by omega) a0 a1 a2
            exact valid b0 b1 b2 (yI_le f t n (by omega) (by omega)) hf ht hn k1 k2 w
          · exact no5 (Y := fun _ => 0) b0 b1 b2 c0 c1 c2 c3 (by omega) hf ht hn w
        · exact no4 (Y := fun _ => 0) b0 b1 b2 c0 c1 c2 (by omega) hf ht hn w
      · exact no3 (Y := fun _ => 0) b0 b1 b2 c0 c1 (by omega) hf ht hn w
    · exact no2 (Y := fun _ => 0) b0 b1 b2 c0 (by omega) hf ht hn w
  · exact no1 (Y := fun _ => 0) b0 b1 b2 (by omega) hf ht hn w
end Go.Proofs.YthgncmohimdbmaaGreatDoor.cy
