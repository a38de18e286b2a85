/-
  What the law StringsNone gives: true, where the table of powers of ten holds what the text lays.
-/
import Derived.Test.YtdmgienoiijmeaaGreatDoorXCall
import Derived.Test.YtdmgienoiijmeaaGreatDoorSQT
import Derived.Test.YtdmgienoiijmeaaGreatDoorRows
import Derived.LaidSub
import Derived.Lib.LaidTab
import Derived.KernelRfl
set_option linter.unusedVariables false
set_option maxRecDepth 100000
namespace Go.Proofs.YtdmgienoiijmeaaGreatDoor.snone
open Go.X Go.RowKit
def pow : List Int := [1, 10, 100, 1000, 10000, 100000, 1000000, 10000000, 100000000, 1000000000, 10000000000, 100000000000, 1000000000000, 10000000000000, 100000000000000, 1000000000000000, 10000000000000000, 100000000000000000, 1000000000000000000, 10000000000000000000]
def powA : List AV := pow.map fun z => AV.int .u64 z
noncomputable def powT : T AV := T.ofList 0 .leaf powA
noncomputable def gv0 (g o : Nat) : Option AV := Bool.rec none (powT.get o) (Nat.beq g 0)
noncomputable abbrev T0 : Tab := { Tab.empty with gv := gv0 }
def nm : String := ((Rows.stringsNoneRow.laid[2]?).map fun x => x.1).getD default
theorem laid_eq : (Rows.stringsNoneRow.laid.filter fun x => x.1 == nm) = [(nm, Lib.tabData .u64 pow)] := by kernel_rfl
theorem globals0 : Tryz.prog.globalNamed nm = some 0 := by kernel_rfl
theorem tabIs {W : World} (h : laidMetH Tryz.prog Rows.stringsNoneRow.laid W) : Lib.TabIs Tryz.prog W nm .u64 pow := by
  have h1 := h.filter fun x => x.1 == nm
  rw [laid_eq] at h1
  have h2 : laidMet Tryz.prog [(nm, Lib.tabData .u64 pow)] W := h1
  exact Lib.tabIs_of_head (t := 137) (e := 60) (n := 20) globals0 (by kernel_rfl) (by kernel_rfl) (by kernel_rfl) (by kernel_rfl) (by kernel_rfl) h2
theorem gl0 {W : World} (h : laidMetH Tryz.prog Rows.stringsNoneRow.laid W) : @Gl T0 (Kp.below W.heap.size) W := by
  refine ⟨fun g o a e0 => ?_, fun g o a e => by cases e⟩
  have e : gv0 g o = some a := e0
  clear e0
  unfold gv0 at e
  cases hg : Nat.beq g 0 with
  | false => rw [hg] at e; cases e
  | true =>
    rw [hg] at e
    replace e : powT.get o = some a := e
    obtain rfl := Nat.eq_of_beq_eq_true hg
    unfold powT at e
    rw [T.get_ofList _ _ _ _ (by decide)] at e
    split at e
    · rename_i ho
      have ho : o < 20 := by have := ho.2; simpa [powA, pow] using this
      have hc := (tabIs h).cell globals0 o ho
      refine ⟨?_, _, hc, ?_⟩
      · show 0 < W.heap.size
        rcases Nat.eq_zero_or_pos W.heap.size with h0 | h0
        · have : W.heap[0]? = none := by simp [h0]
          simp [World.cell?, this] at hc
        · exact h0
      · rw [Nat.sub_zero, powA, List.getElem?_map] at e
        obtain ⟨z, hz, rfl⟩ := Option.map_eq_some_iff.1 e
        simp only [vrel]
        rw [List.getD, hz]; rfl
    · cases e
noncomputable def codeOf (f : Func) : Code := f.body.getD .skip
noncomputable def body : Code := codeOf Tryz.f3
theorem body_eq : Tryz.f3.body = some body := by kernel_rfl
theorem mx : Tryz.prog.follows .mixedOrders = true := by kernel_rfl
noncomputable abbrev KH : Hand := sumsHand tabT
theorem c0 : runTrue T0 Tryz.prog KH 3000 Tryz.f3 body (T.ofList 0 .leaf []) H.empty = true := by as_aux_lemma => kernel_rfl
theorem walk (w : World) (hL : laidMetH Tryz.prog Rows.stringsNoneRow.laid w) : Calls Tryz.prog 3 #[] w fun e w' => e = .returned (.bool true) ∧ Below w.heap.size w w' := by
  refine yes_calls Tryz.func3 body_eq w ?_
  exact @runTrue_sound _ _ _ _ _ _ T0 _ _ mx KH (@sumsHand_ok T0 Tryz.prog _ (@tabT_ok T0)) 3000 Tryz.f3 body c0
    (@St.start T0 [] #[] Tryz.f3.ntmps w (gl0 hL) (by simp [vrels]) (Nat.zero_le _) (by decide))
end Go.Proofs.YtdmgienoiijmeaaGreatDoor.snone
