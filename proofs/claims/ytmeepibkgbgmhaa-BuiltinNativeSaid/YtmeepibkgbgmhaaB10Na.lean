/-
  What the law BuiltinNative is asked: texts that are known, or differ from all that are compared.
-/
import Derived.Test.YtmeepibkgbgmhaaB10L
import Derived.Test.YtmeepibkgbgmhaaB10Cl
set_option maxHeartbeats 4000000
set_option linter.unusedVariables false
set_option maxRecDepth 1000000
namespace Go.Proofs.Ytmeepibkgbgmhaa
open Go.X Go.RowKit


abbrev textsN (a b c : ByteArray) (la lb lc : List (Nat × Nat)) (ha : ∀ p ∈ la, a ≠ strOf p.1 p.2) (hb : ∀ p ∈ lb, b ≠ strOf p.1 p.2) (hc : ∀ p ∈ lc, c ≠ strOf p.1 p.2)
    (ba : la.all (fun p => Nat.blt p.1 60) = true) (bb : lb.all (fun p => Nat.blt p.1 30) = true) (bc : lc.all (fun p => Nat.blt p.1 60) = true) : Tab :=
  ⟨fun i => match i with | 0 => a | 1 => cutS a 60 | 2 => b | 3 => cutS b 30 | 4 => c | _ => cutS c 60,
   fun i => match i with | 0 => la | 1 => la | 2 => lb | 3 => lb | 4 => lc | _ => lc,
   fun i p hp _ => by
    match i, hp with
    | 0, hp => exact ha p hp
    | 1, hp => exact cutS_ne ba ha p hp
    | 2, hp => exact hb p hp
    | 3, hp => exact cutS_ne bb hb p hp
    | 4, hp => exact hc p hp
    | n + 5, hp => exact cutS_ne bc hc p hp⟩

noncomputable def handN [Tab] : Hand := (oneHand 7 [.ostr 0, .int .i64 60] (.ostr 1)).or ((oneHand 7 [.ostr 2, .int .i64 30] (.ostr 3)).or ((oneHand 7 [.ostr 4, .int .i64 60] (.ostr 5)).or (sumsHand tabL)))

def Fine (args : Array Value) : Prop := ∀ w : World, Calls Try.prog 4 args w fun e w' => e = .returned (.bool true) ∧ Below w.heap.size w w'

section
variable {a b c : ByteArray} (sa : a.size ≤ maxLen) (sb : b.size ≤ maxLen) (sc : c.size ≤ maxLen) {la lb lc : List (Nat × Nat)} (ha : ∀ p ∈ la, a ≠ strOf p.1 p.2) (hb : ∀ p ∈ lb, b ≠ strOf p.1 p.2) (hc : ∀ p ∈ lc, c ≠ strOf p.1 p.2)
    (ba : la.all (fun p => Nat.blt p.1 60) = true) (bb : lb.all (fun p => Nat.blt p.1 30) = true) (bc : lc.all (fun p => Nat.blt p.1 60) = true)
include sa sb sc
theorem handN_ok : letI := textsN a b c la lb lc ha hb hc ba bb bc; HandOk Try.prog handN := by
  letI T : Tab := textsN a b c la lb lc ha hb hc ba bb bc
  exact HandOk.or (oneHand_ok fun h => cut_ok (T := T) (n := 60) (i := 0) sa rfl h) (HandOk.or (oneHand_ok fun h => cut_ok (T := T) (n := 30) (i := 2) sb rfl h) (HandOk.or (oneHand_ok fun h => cut_ok (T := T) (n := 60) (i := 4) sc rfl h) (sumsHand_ok tabL_ok)))

theorem nat_case (x y z : AV) (hx : letI := textsN a b c la lb lc ha hb hc ba bb bc; vrel (fun _ => none) x (.string a)) (hy : letI := textsN a b c la lb lc ha hb hc ba bb bc; vrel (fun _ => none) y (.string b)) (hz : letI := textsN a b c la lb lc ha hb hc ba bb bc; vrel (fun _ => none) z (.string c))
    (e : letI := textsN a b c la lb lc ha hb hc ba bb bc; okTrue (call Try.prog handN 2000 4 [x, y, z] H.empty) = true) : Fine #[.string a, .string b, .string c] := by
  letI T : Tab := textsN a b c la lb lc ha hb hc ba bb bc
  intro w
  obtain ⟨q, hq⟩ := CallOk.of_okTrue (f := 4) (n := 2000) (args := [x, y, z]) mixed (handN_ok sa sb sc ha hb hc ba bb bc) e
  exact hq.yes ⟨_, _, rfl, hx, _, _, rfl, hy, _, _, rfl, hz, rfl⟩ w
end
theorem no (a : ByteArray) : ∀ p ∈ ([] : List (Nat × Nat)), a ≠ strOf p.1 p.2 := fun p hp => by simp at hp

theorem nat_other {a b c : ByteArray} (sa : a.size ≤ maxLen) (sb : b.size ≤ maxLen) (sc : c.size ≤ maxLen) (h : ∀ p ∈ allNames, a ≠ strOf p.1 p.2) : Fine #[.string a, .string b, .string c] :=
  nat_case (la := allNames) (lb := []) (lc := []) sa sb sc h (no b) (no c) (by kernel_rfl) rfl rfl (.ostr 0) (.ostr 2) (.ostr 4) rfl rfl rfl (by kernel_rfl)
end Go.Proofs.Ytmeepibkgbgmhaa
