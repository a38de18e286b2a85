/-
  Calls that ClassInits makes with the flags by name.
-/
import Derived.Test.YtlfinnicdpiaaaaGreatDoorCIC
set_option linter.unusedSectionVars false
set_option linter.unusedVariables false
set_option maxRecDepth 100000
namespace Go.Proofs.YtlfinnicdpiaaaaGreatDoor.inits
open Go.X Go.RowKit
section
variable [T : Tab]
theorem atV {a b : AV} {n : Nat} {bs : List (Nat × Blk)} {h : H} {p : AV × H} (e : (⟨a, n, bs⟩ : Sum).at h = some p) : (⟨b, n, bs⟩ : Sum).at h = some (shV h.next b, p.2) := by
  obtain ⟨c, e2⟩ := ifb_some e
  cases e2
  unfold Sum.at
  have c' : Nat.blt (Nat.add h.next n) limit = true := c
  show ifb (Nat.blt (Nat.add h.next n) limit) _ = _
  rw [c']; rfl
theorem ones_ok {n : Nat} (h13 : Tab.iv 13 = (.u64, ((n % 8 : Nat) : Int))) (h14 : Tab.iv 14 = (.i64, pc (n % 8))) : HandOk Tryz.prog (symHand 60 [.oi 13] S_17 (.oi 14)) := by
  refine symHand_ok fun h p e => ?_
  have hc : n % 8 < 8 := Nat.mod_lt _ (by decide)
  generalize n % 8 = c at h13 h14 hc
  obtain rfl | rfl | rfl | rfl | rfl | rfl | rfl | rfl : c = 0 ∨ c = 1 ∨ c = 2 ∨ c = 3 ∨ c = 4 ∨ c = 5 ∨ c = 6 ∨ c = 7 := by omega
  · exact one_ok (k' := .i64) (c := 0) (p := 0) (n := 0) (bs := []) S_17_ok h13 h14 h (shV h.next (.int .i64 0), p.2) (atV e)
  · exact one_ok (k' := .i64) (c := 1) (p := 1) (n := 0) (bs := []) S_18_ok h13 h14 h (shV h.next (.int .i64 1), p.2) (atV e)
  · exact one_ok (k' := .i64) (c := 2) (p := 1) (n := 0) (bs := []) S_19_ok h13 h14 h (shV h.next (.int .i64 1), p.2) (atV e)
  · exact one_ok (k' := .i64) (c := 3) (p := 2) (n := 0) (bs := []) S_20_ok h13 h14 h (shV h.next (.int .i64 2), p.2) (atV e)
  · exact one_ok (k' := .i64) (c := 4) (p := 1) (n := 0) (bs := []) S_21_ok h13 h14 h (shV h.next (.int .i64 1), p.2) (atV e)
  · exact one_ok (k' := .i64) (c := 5) (p := 2) (n := 0) (bs := []) S_22_ok h13 h14 h (shV h.next (.int .i64 2), p.2) (atV e)
  · exact one_ok (k' := .i64) (c := 6) (p := 2) (n := 0) (bs := []) S_23_ok h13 h14 h (shV h.next (.int .i64 2), p.2) (atV e)
  · exact one_ok (k' := .i64) (c := 7) (p := 3) (n := 0) (bs := []) S_24_ok h13 h14 h (shV h.next (.int .i64 3), p.2) (atV e)
def accB : Nat → Bool
  | 0 => true | 1 => true | 2 => true | 4 => true | _ => false
theorem acc_ok {n : Nat} {g : Bool} (hn : n < 8) (h0 : Tab.iv 0 = (.i64, (n : Int))) (hg : accB n = g) : HandOk Tryz.prog (symHand 6 [.oi 0] S_8 (.bool g)) := by
  subst hg
  refine symHand_ok fun h p e => ?_
  obtain rfl | rfl | rfl | rfl | rfl | rfl | rfl | rfl : n = 0 ∨ n = 1 ∨ n = 2 ∨ n = 3 ∨ n = 4 ∨ n = 5 ∨ n = 6 ∨ n = 7 := by omega
  · exact oneB_ok (c := 0) (b := true) (n := 0) (bs := []) S_8_ok h0 h (shV h.next (.bool true), p.2) (atV e)
  · exact oneB_ok (c := 1) (b := true) (n := 0) (bs := []) S_9_ok h0 h (shV h.next (.bool true), p.2) (atV e)
  · exact oneB_ok (c := 2) (b := true) (n := 0) (bs := []) S_10_ok h0 h (shV h.next (.bool true), p.2) (atV e)
  · exact oneB_ok (c := 3) (b := false) (n := 0) (bs := []) S_11_ok h0 h (shV h.next (.bool false), p.2) (atV e)
  · exact oneB_ok (c := 4) (b := true) (n := 0) (bs := []) S_12_ok h0 h (shV h.next (.bool true), p.2) (atV e)
  · exact oneB_ok (c := 5) (b := false) (n := 0) (bs := []) S_13_ok h0 h (shV h.next (.bool false), p.2) (atV e)
  · exact oneB_ok (c := 6) (b := false) (n := 0) (bs := []) S_14_ok h0 h (shV h.next (.bool false), p.2) (atV e)
  · exact oneB_ok (c := 7) (b := false) (n := 0) (bs := []) S_15_ok h0 h (shV h.next (.bool false), p.2) (atV e)
end
noncomputable abbrev KA (g : Bool) : Hand := (symHand 60 [.oi 13] S_17 (.oi 14)).or ((symHand 6 [.oi 0] S_8 (.bool g)).or (sumsHand tabG))
noncomputable abbrev KO : Hand := (symHand 60 [.oi 13] S_17 (.oi 14)).or (sumsHand tabG)
abbrev e8 (b : Bool) : BRow := (9, .oi 8, cI 0, .bool b)
abbrev n9 (b : Bool) : BRow := (10, .oi 9, cI 0, .bool b)
abbrev eA (b : Bool) : BRow := (9, .oi 10, cI 0, .bool b)
abbrev eS (b : Bool) : BRow := (9, .oi 11, cI 0, .bool b)
abbrev l1 (b : Bool) : BRow := (12, .oi 14, cI 1, .bool b)
abbrev q8 (b : Bool) : BRow := (9, .oi 0, cI 8, .bool b)
theorem e8_ok {n : Nat} {b : Bool} (h : decide (vN n 7 = 0) = b) : IbOk (ivC n) (e8 b) := ibEq (a := vN n 7) (b := 0) rfl rfl h
theorem n9_ok {n : Nat} {b : Bool} (h : decide (vN n 1055 = 0) = !b) : IbOk (ivC n) (n9 b) := ibNe (a := vN n 1055) (b := 0) rfl rfl h
theorem eA_ok {n : Nat} {b : Bool} (h : decide (vA n 1024 = 0) = b) : IbOk (ivC n) (eA b) := ibEq (a := vA n 1024) (b := 0) rfl rfl h
theorem eS_ok {n : Nat} {b : Bool} (h : decide (vA n 8 = 0) = b) : IbOk (ivC n) (eS b) := ibEq (a := vA n 8) (b := 0) rfl rfl h
theorem l1_ok {n : Nat} {b : Bool} (h : decide (pc (n % 8) ≤ 1) = b) : IbOk (ivC n) (l1 b) := ibLe (a := pc (n % 8)) (b := 1) rfl rfl h
theorem q8_ok {n : Nat} {b : Bool} (h : decide ((n : Int) = 8) = b) : IbOk (ivC n) (q8 b) := ibEq (a := (n : Int)) (b := 8) rfl rfl h
end Go.Proofs.YtlfinnicdpiaaaaGreatDoor.inits
