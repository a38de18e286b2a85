/-
  What the law TopMessage gives: the law.
-/
import Derived.Test.YtaajjlnckckkkaaGreatDoorTMB0
import Derived.Test.YtaajjlnckckkkaaGreatDoorTMB1
import Derived.Test.YtaajjlnckckkkaaGreatDoorTMB2
import Derived.Test.YtaajjlnckckkkaaGreatDoorTMB3
import Derived.Test.YtaajjlnckckkkaaGreatDoorTMB4
import Derived.Test.YtaajjlnckckkkaaGreatDoorTMB5
import Derived.Test.YtaajjlnckckkkaaGreatDoorTMB6
import Derived.Test.YtaajjlnckckkkaaGreatDoorTMB7
import Derived.Test.YtaajjlnckckkkaaGreatDoorTMC
import Derived.Test.YtaajjlnckckkkaaGreatDoorTMD
import Derived.Test.YtaajjlnckckkkaaGreatDoorTMX
set_option linter.unusedSectionVars false
set_option linter.unusedVariables false
set_option maxRecDepth 1000000
set_option maxHeartbeats 0
namespace Go.Proofs.YtaajjlnckckkkaaGreatDoor.tm
open Go.X Go.RowKit Go.X.chars8
theorem allIn : ∀ L < 41, 0 < L → L ∈ cs0 ++ cs1 ++ cs2 ++ cs3 ++ cs4 ++ cs5 ++ cs6 ++ cs7 := by decide +kernel
theorem good {L : Nat} (h1 : L ≤ 40) (h0 : 0 < L) : chN L = true ∧ G1 L ∧ G2 L ∧ G3 L ∧ ∀ b, GS L b := by
  have hm := allIn L (by omega) h0
  simp only [List.mem_append] at hm
  rcases hm with ((((((hm | hm) | hm) | hm) | hm) | hm) | hm) | hm
  · exact all0 _ hm
  · exact all1 _ hm
  · exact all2 _ hm
  · exact all3 _ hm
  · exact all4 _ hm
  · exact all5 _ hm
  · exact all6 _ hm
  · exact all7 _ hm
theorem least {p : Nat → Prop} : ∀ n, p n → ∃ m, p m ∧ ∀ k, k < m → ¬ p k := by
  intro n
  induction n using Nat.strongRecOn with
  | ind n ih =>
    intro hn
    by_cases h : ∃ k, k < n ∧ p k
    · obtain ⟨k, hk, hp⟩ := h
      exact ih k hk hp
    · exact ⟨n, hn, fun k hk hp => h ⟨k, hk, hp⟩⟩
theorem gl0 [T : Tab] {w : World} (hg : T.gv = fun _ _ => none) (hf : T.fv = fun _ _ => none) : Gl (Kp.below w.heap.size) w :=
  ⟨fun g o a h => (by rw [hg] at h; cases h), fun i m a h => (by rw [hf] at h; cases h)⟩
/-- either a byte is no char of the law's, or all are -/
theorem cases_ (s : ByteArray) (h40 : s.size ≤ 40) : (∃ i b, Bad s i b) ∨ ∀ k, 1 ≤ byt s k ∧ byt s k ≤ 126 := by
  by_cases h : ∃ n, n < s.size ∧ ¬ (1 ≤ byt s n ∧ byt s n ≤ 126)
  · obtain ⟨n, hn⟩ := h
    obtain ⟨i, ⟨hi, hb⟩, hm⟩ := least (p := fun n => n < s.size ∧ ¬ (1 ≤ byt s n ∧ byt s n ≤ 126)) n hn
    have hU : ∀ k, k < i → 1 ≤ byt s k ∧ byt s k ≤ 126 := fun k hk => by
      have := hm k hk
      exact Classical.not_not.1 fun hc => this ⟨by omega, hc⟩
    by_cases hl : byt s i < 1
    · exact .inl ⟨i, false, hi, hU, hl, h40⟩
    · exact .inl ⟨i, true, hi, hU, show 126 < byt s i by omega, h40⟩
  · refine .inr fun k => ?_
    by_cases hk : k < s.size
    · exact Classical.not_not.1 fun hc => h ⟨k, hk, hc⟩
    · have : s[k]? = none := by
        rw [getElem?_neg s k (by simpa using hk)]
      have : byt s k = 1 := by unfold byt; rw [this]
      omega
theorem walk (a0 : ByteArray) (a1 : Bool) (w : World) : Calls Tryz.prog 5 #[.string a0, .bool a1] w fun e w' => e = .returned (.bool true) ∧ Below w.heap.size w w' := by
  by_cases hn : 40 < a0.size
  · obtain ⟨s, hs⟩ : ∃ s, s = a0.extract 0 40 := ⟨_, rfl⟩
    have hz : s.size = 40 := by rw [hs, ByteArray.size_extract]; omega
    rcases cases_ s (by omega) with ⟨i, b, hb⟩ | hU
    · letI : Tab := TBb a0 s i b hb hs hn
      obtain ⟨q_, hq_⟩ := CallOk.of_okTrue (P := Tryz.prog) mixed K_top0_ok (allHB i (by have := hb.hi; omega) b a1 a0 s hb hs hn)
      exact CallOk.yes hq_ (vrels_cons (by simp only [vrel]; rfl) (vrels_cons (by simp only [vrel]) (by simp [vrels]))) w (gl0 rfl rfl)
    · have ok : Ok s 40 := ⟨hz, by decide, hU, fun p hp e => by
        letI : Tab := Tab.empty
        have h1 : ∀ p ∈ spec, p.1 ≠ 40 := by decide
        have h2 := congrArg ByteArray.size e
        rw [hz, strOf_bytesI, bytesI_size, List.length_map, dec_length] at h2
        exact h1 p hp h2.symm⟩
      letI : Tab := TB a0 s ok hs hn
      obtain ⟨K_, kk_, e_⟩ := law_of n40 (ba a0 s ok hs hn) (bb a0 s ok hs hn) (bc a0 s ok hs hn) (allB a1 a0 s ok hs hn)
      obtain ⟨q_, hq_⟩ := CallOk.of_okTrue (P := Tryz.prog) mixed kk_ e_
      exact CallOk.yes hq_ (vrels_cons (by simp only [vrel]; rfl) (vrels_cons (by simp only [vrel]) (by simp [vrels]))) w (gl0 rfl rfl)
  · rcases cases_ a0 (by omega) with ⟨i, b, hb⟩ | hU
    · letI : Tab := TBs a0 i b hb
      obtain ⟨q_, hq_⟩ := CallOk.of_okTrue (P := Tryz.prog) mixed K_top0_ok (allHS i (by have := hb.hi; omega) b a1 a0 hb)
      exact CallOk.yes hq_ (vrels_cons (by simp only [vrel]; rfl) (vrels_cons (by simp only [vrel]) (by simp [vrels]))) w (gl0 rfl rfl)
    · by_cases hs : ∃ p ∈ spec, a0 = strOf p.1 p.2
      · obtain ⟨p, hp, rfl⟩ := hs
        have h1 : ∀ p ∈ spec, p.2 < 256 ^ p.1 := by decide +kernel
        letI : Tab := Tab.empty
        obtain ⟨K_, kk_, e_⟩ := allSp a1 p hp
        obtain ⟨q_, hq_⟩ := CallOk.of_okTrue (P := Tryz.prog) mixed kk_ e_
        exact CallOk.yes hq_ (vrels_cons (by simp only [vrel]; exact ⟨h1 p hp, trivial⟩) (vrels_cons (by simp only [vrel]) (by simp [vrels]))) w (gl0 rfl rfl)
      · have ok : Ok a0 a0.size := ⟨rfl, by omega, hU, fun p hp e => hs ⟨p, hp, e⟩⟩
        have h0 : 0 < a0.size := by
          refine Nat.pos_of_ne_zero fun h => hs ⟨(0, 0), by decide, ?_⟩
          apply ByteArray.ext
          apply Array.ext'
          have : a0.data.toList.length = 0 := by rw [Array.length_toList]; exact h
          rw [List.length_eq_zero_iff.1 this]
          rfl
        letI : Tab := TS a0 a0.size ok
        obtain ⟨g1, g2, g3, g4, g5⟩ := good (L := a0.size) (by omega) h0
        obtain ⟨K_, kk_, e_⟩ := law_of g1 (g2 a0 ok) (g3 a0 ok) (g4 a0 ok) (g5 a1 a0 ok)
        obtain ⟨q_, hq_⟩ := CallOk.of_okTrue (P := Tryz.prog) mixed kk_ e_
        exact CallOk.yes hq_ (vrels_cons (by simp only [vrel]; rfl) (vrels_cons (by simp only [vrel]) (by simp [vrels]))) w (gl0 rfl rfl)
end Go.Proofs.YtaajjlnckckkkaaGreatDoor.tm
