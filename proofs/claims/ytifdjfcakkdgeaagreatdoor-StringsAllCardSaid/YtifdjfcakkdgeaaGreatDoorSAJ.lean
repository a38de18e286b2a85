/-
  The law StringsAll: its beginning.
-/
import Derived.Test.YtifdjfcakkdgeaaGreatDoorSAI
import Derived.Test.YtifdjfcakkdgeaaGreatDoorXN3
import Derived.Lib.ItoaLen
import Derived.Lib.AppendIntMem
set_option linter.unusedVariables false
set_option linter.unusedSimpArgs false
set_option linter.unusedSectionVars false
set_option maxRecDepth 1000000
set_option maxHeartbeats 0
namespace Go.Proofs.YtifdjfcakkdgeaaGreatDoor.sa
open Go.X Go.RowKit Go.Proofs
/- the library's writer: its table stands in a package variable -/
noncomputable def powRow (o : Nat) : Option AV := Bool.rec none (some (.int .u64 ((10 ^ o : Nat) : Int))) (Nat.blt o 20)
noncomputable def gvP (g o : Nat) : Option AV := Bool.rec none (powRow o) (Nat.beq g 0)
theorem gvP_at {o : Nat} (h : o < 20) : gvP 0 o = some (.int .u64 ((10 ^ o : Nat) : Int)) := by
  unfold gvP powRow
  rw [show Nat.beq 0 0 = true from rfl, show Nat.blt o 20 = true from by rw [Nat.blt_eq]; exact h]
theorem gvP_end : gvP 0 20 = none := rfl
theorem pow_cells {w : World} (ht : Lib.TabIs Tryz.prog w "internal/strconv.uint64pow10" .u64 Lib.pow10Tab) : ∃ t f, w.heap[0]? = some (.cells (Lib.pow10Tab.map fun z => Value.int .u64 z).toArray t f) := by
  unfold Lib.TabIs World.var? at ht
  rw [show Tryz.prog.globalNamed "internal/strconv.uint64pow10" = some 0 from by kernel_rfl] at ht
  simp only [Option.bind_some] at ht
  cases hh : w.heap[0]? with
  | none => rw [hh] at ht; cases ht
  | some ob =>
    rw [hh] at ht
    cases ob with
    | cells cs t f =>
      have e : some cs = some (Lib.pow10Tab.map fun z => Value.int .u64 z).toArray := ht
      exact ⟨t, f, by rw [Option.some.inj e]⟩
    | _ => cases ht
theorem gl_pow {T : Tab} (hp : T.gv = gvP) (hf : T.fv = fun _ _ => none) {w : World} (ht : Lib.TabIs Tryz.prog w "internal/strconv.uint64pow10" .u64 Lib.pow10Tab) : @Gl T (Kp.below w.heap.size) w := by
  obtain ⟨t, f, hb⟩ := pow_cells ht
  have hlt : 0 < w.heap.size := by
    rcases Nat.lt_or_ge 0 w.heap.size with h | h
    · exact h
    · rw [Array.getElem?_eq_none h] at hb; cases hb
  have key : ∀ q, w.cell? ⟨0, q, none⟩ = ((Lib.pow10Tab.map fun z => Value.int .u64 z).toArray)[q]? := fun q => by
    unfold World.cell?
    rw [hb]
    rfl
  refine ⟨fun g o a hg => ?_, fun i m a hg => by rw [hf] at hg; cases hg⟩
  rw [hp] at hg
  unfold gvP at hg
  cases h1 : Nat.beq g 0 with
  | false => rw [h1] at hg; cases hg
  | true =>
    rw [h1] at hg
    unfold powRow at hg
    cases h2 : Nat.blt o 20 with
    | false => rw [h2] at hg; cases hg
    | true =>
      rw [h2] at hg
      cases hg
      obtain rfl := Nat.eq_of_beq_eq_true h1
      have ho : o < 20 := by rw [Nat.blt_eq] at h2; exact h2
      refine ⟨hlt, .int .u64 ((10 ^ o : Nat) : Int), ?_, by simp only [vrel], fun e => ?_⟩
      · rw [key]
        simp [Lib.pow10Tab, ho]
      · rw [key]
        rw [hp] at e
        have h3 : ¬ o + 1 < 20 := fun h => by rw [gvP_at h] at e; cases e
        rw [Array.getElem?_eq_none]
        simp [Lib.pow10Tab]
        omega
/-- what is known of the package variables -/
abbrev PowIs (w : World) : Prop := Lib.TabIs Tryz.prog w "internal/strconv.uint64pow10" .u64 Lib.pow10Tab
noncomputable abbrev TG : Tab := { Tab.empty with gv := gvP }
theorem beg0 : okTrue (@call TG Tryz.prog KN 3000 4 [] H.empty) = true := by as_aux_lemma => kernel_rfl
theorem begun_is {w : World} (ht : PowIs w) : Calls Tryz.prog 4 #[] w fun e w' => e = .returned (.bool true) ∧ Below w.heap.size w w' := by
  letI : Tab := TG
  obtain ⟨q, hq⟩ := CallOk.of_okTrue (P := Tryz.prog) mixed (KN_ok (T := TG)) beg0
  exact CallOk.yes hq (args' := #[]) (by simp [vrels]) w (gl_pow rfl rfl ht)
end Go.Proofs.YtifdjfcakkdgeaaGreatDoor.sa
