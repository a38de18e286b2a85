/-
  What the law TopHello gives: its two texts, byte by byte.
-/
import Derived.Test.YtbgkinjicnnkiaaGreatDoorHLL
set_option linter.unusedVariables false
set_option linter.unusedSimpArgs false
set_option linter.unusedSectionVars false
namespace Go.Proofs.YtbgkinjicnnkiaaGreatDoor.hl
open Go.X Go.RowKit Go.X.chars8
/-- what the two texts are: "n=" and a number and "!"; another number -/
structure Ok (n l : Int) (s t : ByteArray) (L M : Nat) : Prop where
  hs : s = strOf 2 15726 ++ (itb n ++ strOf 1 33)
  ht : t = itb l
  sL : s.size = L
  tM : t.size = M
  n0 : -100000 < n
  n1 : n < 100000
  l0 : -9223372036854775808 ≤ l
  l1 : l ≤ 9223372036854775807
theorem itoa_bytes (n : Int) : ∀ b ∈ Lib.itoa n, 45 ≤ b.toNat ∧ b.toNat ≤ 57 := by
  have key : ∀ u : Nat, ∀ b ∈ Lib.decDigits u, 45 ≤ b.toNat ∧ b.toNat ≤ 57 := by
    intro u
    induction u using Nat.strongRecOn with
    | _ u ih =>
      intro b hb
      rw [Lib.decDigits] at hb
      split at hb
      · simp only [List.mem_cons, List.not_mem_nil, or_false] at hb
        subst hb
        rw [UInt8.toNat_ofNat']
        omega
      · rcases List.mem_append.1 hb with hb | hb
        · exact ih (u / 10) (by omega) b hb
        · simp only [List.mem_cons, List.not_mem_nil, or_false] at hb
          subst hb
          rw [UInt8.toNat_ofNat']
          omega
  intro b hb
  unfold Lib.itoa at hb
  split at hb
  · rcases List.mem_cons.1 hb with rfl | hb
    · decide
    · exact key _ b hb
  · exact key _ b hb
theorem itoa_len1 (n : Int) : 1 ≤ (Lib.itoa n).length := by
  unfold Lib.itoa
  split
  · simp
  · rw [Lib.decDigits_length]; exact Lib.nDigits_pos _
theorem itoa_len6 {n : Int} (h0 : -100000 < n) (h1 : n < 100000) : (Lib.itoa n).length ≤ 6 := by
  have key : ∀ u : Nat, u < 100000 → Lib.nDigits u ≤ 5 := by
    intro u hu
    rcases Nat.lt_or_ge u 10 with h | h
    · rw [Lib.nDigits_small h]; decide
    rcases Nat.lt_or_ge u 100 with h2 | h2
    · rw [Lib.nDigits_unique 1 u (by omega) (by omega)]; decide
    rcases Nat.lt_or_ge u 1000 with h3 | h3
    · rw [Lib.nDigits_unique 2 u (by omega) (by omega)]; decide
    rcases Nat.lt_or_ge u 10000 with h4 | h4
    · rw [Lib.nDigits_unique 3 u (by omega) (by omega)]; decide
    rw [Lib.nDigits_unique 4 u (by omega) (by omega)]; decide
  unfold Lib.itoa
  split
  · rw [List.length_cons, Lib.decDigits_length]
    have := key n.natAbs (by omega)
    omega
  · rw [Lib.decDigits_length]
    have := key n.toNat (by omega)
    omega
/-- a text's bytes lie in a range -/
theorem byt_range {s : ByteArray} (h : ∀ b ∈ s.data.toList, 1 ≤ b.toNat ∧ b.toNat ≤ 126) (k : Nat) : 1 ≤ byt s k ∧ byt s k ≤ 126 := by
  rcases Nat.lt_or_ge k s.size with hk | hk
  · obtain ⟨_, h2⟩ := byt_some hk
    rw [h2]
    have := h s[k] (by
      have e : s[k] = s.data.toList[k]'(by simpa using hk) := by rfl
      rw [e]; exact List.getElem_mem _)
    omega
  · unfold byt
    rw [getElem?_neg s k (by omega)]
    exact ⟨by decide, by decide⟩
theorem Ok.sList {n l : Int} {s t : ByteArray} {L M : Nat} (h : Ok n l s t L M) : s.data.toList = [110, 61] ++ (Lib.itoa n ++ [33]) := by
  rw [h.hs]
  simp [itb, strOf, Go.X.dec]
theorem Ok.tList {n l : Int} {s t : ByteArray} {L M : Nat} (h : Ok n l s t L M) : t.data.toList = Lib.itoa l := by
  rw [h.ht]
theorem Ok.hU {n l : Int} {s t : ByteArray} {L M : Nat} (h : Ok n l s t L M) (k : Nat) : 1 ≤ two s t k ∧ two s t k ≤ 126 := by
  unfold two
  split
  · refine byt_range (fun b hb => ?_) k
    rw [h.sList] at hb
    simp only [List.mem_append, List.mem_cons, List.not_mem_nil, or_false] at hb
    rcases hb with (rfl | rfl) | hb | rfl
    · decide
    · decide
    · have := itoa_bytes n b hb; omega
    · decide
  · refine byt_range (fun b hb => ?_) _
    rw [h.tList] at hb
    have := itoa_bytes l b hb; omega
theorem Ok.Ln {n l : Int} {s t : ByteArray} {L M : Nat} (h : Ok n l s t L M) : L = (Lib.itoa n).length + 3 := by
  have e : s.data.toList.length = L := by rw [Array.length_toList]; exact h.sL
  rw [h.sList] at e
  simp only [List.length_append, List.length_cons, List.length_nil] at e
  omega
theorem Ok.Mn {n l : Int} {s t : ByteArray} {L M : Nat} (h : Ok n l s t L M) : M = (Lib.itoa l).length := by
  have e : t.data.toList.length = M := by rw [Array.length_toList]; exact h.tM
  rw [h.tList] at e
  omega
theorem bl_add : ∀ m n k, bl (m + n) k = bl m k ++ bl n (k + m)
  | 0, n, k => by simp [bl]
  | m + 1, n, k => by
    rw [show m + 1 + n = (m + n) + 1 by omega]
    show AV.oi (B k) :: bl (m + n) (k + 1) = AV.oi (B k) :: (bl m (k + 1) ++ bl n (k + (m + 1)))
    rw [bl_add m n (k + 1), show k + 1 + m = k + (m + 1) by omega]
theorem bl_len : ∀ n k, (bl n k).length = n
  | 0, _ => rfl
  | n + 1, k => by show (bl n (k + 1)).length + 1 = _; rw [bl_len n (k + 1)]
abbrev bys (l : List UInt8) : List (Option (IntKind × Int)) := l.map fun x => some (IntKind.u8, (x.toNat : Int))
section
variable {iv : Nat → IntKind × Int} {n l : Int} {s t : ByteArray} {L M : Nat} (hiv : ∀ m, 100 ≤ m → iv m = ivC (two s t) m) (h : Ok n l s t L M)
include hiv h
theorem den_s : (bl L 0).map (denI iv) = bys s.data.toList := by
  have h6 := itoa_len6 h.n0 h.n1
  have := h.Ln
  rw [bl_den hiv L 0]
  have e0 : (List.range' 0 L).map (two s t) = s.data.toList.map fun x => (x.toNat : Int) := by
    rw [range_lo (by omega)]
    have := byt_list s
    rw [h.sL] at this
    exact this
  have e := congrArg (List.map fun n : Int => some (IntKind.u8, n)) e0
  rw [List.map_map, List.map_map] at e
  exact e
theorem den_t : (bl M 200).map (denI iv) = bys t.data.toList := by
  rw [bl_den hiv M 200]
  have e0 : (List.range' 200 M).map (two s t) = t.data.toList.map fun x => (x.toNat : Int) := by
    rw [range_hi]
    have := byt_list t
    rw [h.tM] at this
    exact this
  have e := congrArg (List.map fun n : Int => some (IntKind.u8, n)) e0
  rw [List.map_map, List.map_map] at e
  exact e
theorem den_f : (bl (L - 3) 2).map (denI iv) = bys (Lib.itoa n) := by
  have hl := h.Ln
  have e := den_s hiv h
  rw [h.sList, show L = 2 + ((L - 3) + 1) by omega, bl_add 2, bl_add (L - 3)] at e
  unfold bys at e
  rw [List.map_append, List.map_append, List.map_append, List.map_append] at e
  have e1 := (List.append_inj e (by rfl)).2
  exact (List.append_inj e1 (by rw [List.length_map, List.length_map]; simp only [bl_len]; omega)).1
end
end Go.Proofs.YtbgkinjicnnkiaaGreatDoor.hl
