/-
  The table of powers, the library's writer of numbers, and the law's beginning.
-/
import Derived.Test.YtkkaifeiopjjdaaGreatDoorXN3
import Derived.Test.YtkkaifeiopjjdaaGreatDoorBDS
import Derived.Lib.ItoaLen
import Derived.Lib.AppendIntMem
import Derived.KernelRfl
set_option linter.unusedVariables false
set_option linter.unusedSimpArgs false
set_option linter.unusedSectionVars false
set_option maxRecDepth 1000000
namespace Go.Proofs.YtkkaifeiopjjdaaGreatDoor.stx
open Go.X Go.RowKit Go.Proofs
theorem mixed : Tryz.prog.follows .mixedOrders = true := by kernel_rfl
/-- a number's text -/
abbrev itb (n : Int) : ByteArray := ⟨(Lib.itoa n).toArray⟩
theorem itb_size (n : Int) : (itb n).size = (Lib.itoa n).length := by simp [itb, ByteArray.size]
/-- one number comes in -/
theorem one_is [Tab] {j : Nat} {n : Int} (hj : Tab.iv j = (.i64, n)) (μ : M) (l : List Value) (h : vrels μ [.oi j] l) : l = [.int .i64 n] := by
  obtain ⟨v1, l1, rfl, g1, g2⟩ := h
  simp only [vrel] at g1
  rw [hj] at g1
  have : l1 = [] := g2
  rw [this, g1]
theorem two_is [Tab] {j : Nat} {n : Int} (hj : Tab.iv j = (.i64, n)) (μ : M) (l : List Value) (h : vrels μ [.oi j, .int .i64 10] l) : l = [.int .i64 n, .int .i64 10] := by
  obtain ⟨v1, l1, rfl, g1, v2, l2, rfl, g2, g3⟩ := h
  simp only [vrel] at g1 g2
  rw [hj] at g1
  have : l2 = [] := g3
  rw [this, g1, g2]
/- the library's writer: its table stands in a package variable -/
noncomputable def powRow (o : Nat) : Option AV := Bool.rec none (some (.int .u64 ((10 ^ o : Nat) : Int))) (Nat.blt o 20)
noncomputable def gvP (g o : Nat) : Option AV := Bool.rec none (powRow o) (Nat.beq g 1)
theorem gvP_at {o : Nat} (h : o < 20) : gvP 1 o = some (.int .u64 ((10 ^ o : Nat) : Int)) := by
  unfold gvP powRow
  rw [show Nat.beq 1 1 = true from rfl, show Nat.blt o 20 = true from by rw [Nat.blt_eq]; exact h]
theorem gvP_end : gvP 1 20 = none := rfl
theorem tab_of [Tab] (hp : Tab.gv = gvP) (w : World) (hg : ∀ g o a, Tab.gv g o = some a → ∃ v, w.cell? ⟨g, o, none⟩ = some v ∧ (vrel (fun _ => none) a v ∧ (Tab.gv g (o + 1) = none → w.cell? ⟨g, o + 1, none⟩ = none))) :
    Lib.TabIs Tryz.prog w "internal/strconv.uint64pow10" .u64 Lib.pow10Tab := by
  have c : ∀ o, o < 20 → w.cell? ⟨1, o, none⟩ = some (.int .u64 ((10 ^ o : Nat) : Int)) := fun o ho => by
    obtain ⟨v, h1, h2, _⟩ := hg 1 o _ (by rw [hp]; exact gvP_at ho)
    simp only [vrel] at h2
    rw [h1, h2]
  have z : w.cell? ⟨1, 20, none⟩ = none := by
    obtain ⟨v, h1, h2, h3⟩ := hg 1 19 _ (by rw [hp]; exact gvP_at (by decide))
    exact h3 (by rw [hp]; exact gvP_end)
  unfold Lib.TabIs World.var?
  rw [show Tryz.prog.globalNamed "internal/strconv.uint64pow10" = some 1 from by kernel_rfl]
  simp only [Option.bind_some]
  cases hh : w.heap[1]? with
  | none =>
    have c0 := c 0 (by decide)
    simp [World.cell?, hh] at c0
  | some ob =>
    cases ob with
    | cells cs t f =>
      have c' : ∀ o, o < 20 → cs[o]? = some (.int .u64 ((10 ^ o : Nat) : Int)) := fun o ho => by
        have := c o ho
        simpa [World.cell?, hh] using this
      have z' : cs.size ≤ 20 := by simpa [World.cell?, hh] using z
      show some cs = some _
      congr 1
      have hs : cs.size = 20 := by
        have h2 : 19 < cs.size := by
          rcases Nat.lt_or_ge 19 cs.size with h | h
          · exact h
          · have := c' 19 (by decide); rw [Array.getElem?_eq_none h] at this; cases this
        omega
      apply Array.ext
      · rw [hs]; simp [Lib.pow10Tab]
      · intro i h1 h2
        have := c' i (by omega)
        rw [Array.getElem?_eq_getElem h1] at this
        simp only [Option.some.injEq] at this
        rw [this]
        simp [Lib.pow10Tab]
    | _ =>
      have c0 := c 0 (by decide)
      simp [World.cell?, hh] at c0
theorem fmtHand [Tab] {j i : Nat} {n : Int} (hp : Tab.gv = gvP) (hj : Tab.iv j = (.i64, n)) (hi : Tab.str i = itb n) (h0 : -9223372036854775808 ≤ n) (h1 : n ≤ 9223372036854775807) : HandOk Tryz.prog (oneHand 144 [.oi j, .int .i64 10] (.ostr i)) :=
  oneHand_ok fun q => callTxt_ok (vs := [.int .i64 n, .int .i64 10]) (two_is hj) (fun w hg => by
    refine (Tryz.strconv_FormatInt_10 n h0 h1 w (tab_of hp w hg)).mono ?_
    rintro e w' ⟨rfl, k, os, rfl⟩
    exact ⟨by rw [hi], Lib.below_grow _ _ (Nat.le_refl _) k os⟩) q
theorem pow_cells {w : World} (ht : Lib.TabIs Tryz.prog w "internal/strconv.uint64pow10" .u64 Lib.pow10Tab) : ∃ t f, w.heap[1]? = some (.cells (Lib.pow10Tab.map fun z => Value.int .u64 z).toArray t f) := by
  unfold Lib.TabIs World.var? at ht
  rw [show Tryz.prog.globalNamed "internal/strconv.uint64pow10" = some 1 from by kernel_rfl] at ht
  simp only [Option.bind_some] at ht
  cases hh : w.heap[1]? with
  | none => rw [hh] at ht; cases ht
  | some ob =>
    rw [hh] at ht
    cases ob with
    | cells cs t f =>
      have e : some cs = some (Lib.pow10Tab.map fun z => Value.int .u64 z).toArray := ht
      exact ⟨t, f, by rw [Option.some.inj e]⟩
    | _ => cases ht
theorem gl_pow {T : Tab} (hp : T.gv = gvP) (hf : T.fv = fun _ _ => none) {w : World} (ht : Lib.TabIs Tryz.prog w "internal/strconv.uint64pow10" .u64 Lib.pow10Tab) : @Gl T (Kp.below w.heap.size) w := by
  obtain ⟨t, f, hb⟩ := pow_cells ht
  have hlt : 1 < w.heap.size := by
    rcases Nat.lt_or_ge 1 w.heap.size with h | h
    · exact h
    · rw [Array.getElem?_eq_none h] at hb; cases hb
  have key : ∀ q, w.cell? ⟨1, q, none⟩ = ((Lib.pow10Tab.map fun z => Value.int .u64 z).toArray)[q]? := fun q => by
    unfold World.cell?
    rw [hb]
    rfl
  refine ⟨fun g o a hg => ?_, fun i m a hg => by rw [hf] at hg; cases hg⟩
  rw [hp] at hg
  unfold gvP at hg
  cases h1 : Nat.beq g 1 with
  | false => rw [h1] at hg; cases hg
  | true =>
    rw [h1] at hg
    unfold powRow at hg
    cases h2 : Nat.blt o 20 with
    | false => rw [h2] at hg; cases hg
    | true =>
      rw [h2] at hg
      cases hg
      obtain rfl := Nat.eq_of_beq_eq_true h1
      have ho : o < 20 := by rw [Nat.blt_eq] at h2; exact h2
      refine ⟨hlt, .int .u64 ((10 ^ o : Nat) : Int), ?_, by simp only [vrel], fun e => ?_⟩
      · rw [key]
        simp [Lib.pow10Tab, ho]
      · rw [key]
        rw [hp] at e
        have h3 : ¬ o + 1 < 20 := fun h => by rw [gvP_at h] at e; cases e
        rw [Array.getElem?_eq_none]
        simp [Lib.pow10Tab]
        omega
/-- what is known of the package variables -/
abbrev PowIs (w : World) : Prop := Lib.TabIs Tryz.prog w "internal/strconv.uint64pow10" .u64 Lib.pow10Tab
noncomputable abbrev T0 : Tab := { Tab.empty with gv := gvP }
end Go.Proofs.YtkkaifeiopjjdaaGreatDoor.stx
