/-
  The law CollectChain: objects slide: states, rows.
-/
import Derived.Test.YtbabfeloandpdaaGreatDoorCCD
set_option linter.unusedVariables false
set_option linter.unusedSimpArgs false
set_option linter.unusedSectionVars false
set_option maxRecDepth 1000000
set_option maxHeartbeats 0
namespace Go.Proofs.YtbabfeloandpdaaGreatDoor.cc
open Go.X Go.RowKit Go.Proofs
noncomputable def sC : Code := codeOf Tryz.f32
theorem sC_eq : Tryz.f32.body = some sC := by kernel_rfl
noncomputable abbrev ntS : Nat := Tryz.f32.ntmps
noncomputable def s4 : Code := hd (hd (restn 4 sC))
noncomputable def s4L : Code := lpIn (tl (hd (restn 4 sC)))
noncomputable def s5 : Code := hd (hd (restn 5 sC))
noncomputable def s5L : Code := lpIn (tl (hd (restn 5 sC)))
noncomputable def s7 : Code := hd (hd (restn 7 sC))
noncomputable def s7L : Code := lpIn (tl (hd (restn 7 sC)))
theorem s4_eq : restn 4 sC = .seq (.seq s4 (.block 0 (.loop s4L))) (restn 5 sC) := by kernel_rfl
theorem s5_eq : restn 5 sC = .seq (.seq s5 (.block 2 (.loop s5L))) (restn 6 sC) := by kernel_rfl
theorem s7_eq : restn 7 sC = .seq (.seq s7 (.block 6 (.loop s7L))) (restn 8 sC) := by kernel_rfl
noncomputable def s6 : Code := hd (restn 6 sC)
theorem s6_eq : restn 6 sC = .seq s6 (restn 7 sC) := by kernel_rfl
/-- the head of the range, the body -/
noncomputable def n5 : Code := hd s5L
noncomputable def b5 : Code := tl s5L
theorem s5L_eq : s5L = .seq n5 b5 := by kernel_rfl
noncomputable abbrev fnK : AV := .fn (.func 33) [] [.ptr 30002 0]
/-- the heap, what is marked -/
noncomputable abbrev bsG (a b d e w : Nat) : BS := (30002, 30002, cel (.map 30003)) :: (30003, 30003, .omap 0) :: bsH a b d e w
noncomputable abbrev hG : BS := bsG 20001 20002 20004 20005 10
noncomputable def preS : BL := bsOf hG
noncomputable def bsF (a m : Nat) : BS := (40001, a, .omap m) :: hG
noncomputable abbrev fsF (l at_ : AV) : List (Nat × AV) := [(0, .ptr 3255 0), (1, fnK), (5, .map 40001), (6, at_), (25, .ov 20002 0 1), (26, .oi 0), (27, l)]
noncomputable abbrev fsF0 : List (Nat × AV) := [(0, .ptr 3255 0), (1, fnK), (5, .map 40001), (6, .int .i64 0)]
noncomputable abbrev fsG : List (Nat × AV) := [(0, .ptr 3255 0), (5, .map 40001), (6, .oi 4)]
noncomputable abbrev fsI : List (Nat × AV) := [(0, .ptr 3255 0), (5, .map 40001), (6, .oi 4), (48, .ptr 40002 0)]
noncomputable abbrev fsI2 : List (Nat × AV) := (50, .bool true) :: fsI
noncomputable def bsI (a b w : Nat) (i : Blk) : BS := (40001, a, .omap 5) :: (40002, b, i) :: bsG 20001 20002 20004 20005 w
noncomputable def bsJ (a w : Nat) : BS := (40001, a, .omap 5) :: bsG 20001 20002 20004 20005 w
noncomputable abbrev fsJ (l : AV) (k : AV) : List (Nat × AV) := [(0, .ptr 3255 0), (5, .map 40001), (6, .oi 4), (13, l), (84, .ov 20002 0 1), (85, .oi 0), (86, k)]
/-- behind the first that is kept -/
noncomputable def bsK (a b v w : Nat) : BS := (40003, b, .vec v) :: bsJ a w
section
variable {p : Pc} {k : Nat}
/-- how many words the object k has -/
noncomputable def szR (t : Bool) : List BRow := Bool.rec [(0, .oi 10, .int .i64 1, .oi 11), (11, .oi 11, .oi 0, .bool false), (1, .oi 2, .oi 12, .oi 5)] [(0, .oi 10, .int .i64 1, .oi 11), (11, .oi 11, .oi 0, .bool true), (14, .oi 11, .int .i64 0, .bool true), (1, .oi 15, .oi 12, .oi 5)] t
noncomputable def szL (t : Bool) : List VL := Bool.rec [] [⟨11, 11, 1, 0, [.oi 15]⟩] t
theorem szR_ok (h : Ok p) (hk : k < p.n) {t : Bool} (ht : decide (k + 1 < p.n) = t) {l : List BRow} (g : ∀ r ∈ l, IbOk (ivP p k) r) : ∀ r ∈ szR t ++ l, IbOk (ivP p k) r := by
  have h2 := h.n6
  cases t with
  | false =>
    have := of_decide_eq_false ht
    exact rAdd (rLt (rSub g))
  | true =>
    have := of_decide_eq_true ht
    exact rAdd (rLt (rGe (rSub g)))
theorem szL_ok (h : Ok p) (hk : k < p.n) {t : Bool} (ht : decide (k + 1 < p.n) = t) {l : List VL} (g : ∀ r ∈ l, VlOk (ivP p k) (vvP p k) r) : ∀ r ∈ szL t ++ l, VlOk (ivP p k) (vvP p k) r := by
  cases t with
  | false => exact g
  | true =>
    have := of_decide_eq_true ht
    exact lN (i := 11) (j := 11) (y := 15) (q := k + 1) (n := p.n) (K := .i64) (e := fun m => ((3 * m : Nat) : Int)) g (hk := rfl) (hv := rfl) (hy := rfl)
theorem vlS_ (hk : k < p.n) {l : List VL} (g : ∀ r ∈ l, VlOk (ivP p k) (vvP p k) r) : ∀ r ∈ (⟨11, 10, 1, 0, [.oi 12]⟩ : VL) :: l, VlOk (ivP p k) (vvP p k) r :=
  lN (i := 11) (j := 10) (y := 12) (q := k) (n := p.n) (K := .i64) (e := fun m => ((3 * m : Nat) : Int)) g (hk := rfl) (hv := rfl) (hy := rfl)
noncomputable abbrev rowsK : List BRow := [(11, .oi 10, .oi 0, .bool true), (14, .oi 10, .int .i64 0, .bool true), (0, .oi 12, .int .i64 1, .oi 13)]
theorem rowsK_ok (h : Ok p) (hk : k < p.n) {l : List BRow} (t : ∀ r ∈ l, IbOk (ivP p k) r) : ∀ r ∈ rowsK ++ l, IbOk (ivP p k) r := by
  have h2 := h.n6
  exact rLt (rGe (rAdd t))
/-- it is kept -/
noncomputable abbrev RK (p : Pc) (k : Nat) (t : Bool) (h : Ok p) (hk : k < p.n) (hg : p.g ≤ k) (ht : decide (k + 1 < p.n) = t) : RwP p k where
  vvp := vvPp p k
  ib := rowsK ++ (szR t ++ [(0, .oi 40, .int .i64 1, .oi 41), (0, .oi 40, .oi 5, .oi 42)])
  ibok := by
    have h2 := h.n6
    as_aux_lemma => exact rowsK_ok h hk (szR_ok h hk ht (rAdd (rAdd ibNil)))
  vl := ⟨11, 10, 1, 0, [.oi 12]⟩ :: (szL t ++ [])
  vlok := vlS_ hk (szL_ok h hk ht allNil)
theorem mapU_toM (g m : Nat) : mapU (toM g m) ((3 * (g + m) + 1 : Nat) : Int) ((3 * m + 1 : Nat) : Int) = toM g (m + 1) := by
  have hn : ∀ (l : List Nat), (∀ j ∈ l, j ≠ m) → mapL ((3 * (g + m) + 1 : Nat) : Int) (l.map fun j => (((3 * (g + j) + 1 : Nat) : Int), ((3 * j + 1 : Nat) : Int), j)) = none := by
    intro l
    induction l with
    | nil => intro _; rfl
    | cons j l ih =>
      intro hl
      have h1 := hl j (by simp)
      simp only [List.map_cons, mapL]
      rw [if_neg (by omega)]
      exact ih fun i hi => hl i (by simp [hi])
  unfold mapU
  have := hn (List.range m) (fun j hj => by have := List.mem_range.1 hj; omega)
  simp only [toM, this]
  rw [List.range_succ, List.map_append]
  rfl
theorem mapL_toM {g m c : Nat} (h : g ≤ c) (hc : c < g + m) : mapL ((3 * c + 1 : Nat) : Int) (toM g m).1 = some ((3 * (c - g) + 1 : Nat) : Int) := by
  have hn : ∀ (l : List Nat), (c - g) ∈ l → mapL ((3 * c + 1 : Nat) : Int) (l.map fun j => (((3 * (g + j) + 1 : Nat) : Int), ((3 * j + 1 : Nat) : Int), j)) = some ((3 * (c - g) + 1 : Nat) : Int) := by
    intro l
    induction l with
    | nil => intro h; cases h
    | cons j l ih =>
      intro hl
      simp only [List.map_cons, mapL]
      by_cases e : j = c - g
      · rw [if_pos (by omega), e]
      · rw [if_neg (by omega)]
        exact ih (by rcases List.mem_cons.1 hl with h | h; exact absurd h.symm e; exact h)
  exact hn _ (List.mem_range.2 (by omega))
theorem mapL_toN {g m : Nat} {v : Int} (h : ∀ j, j < m → v ≠ ((3 * (g + j) + 1 : Nat) : Int)) : mapL v (toM g m).1 = none := by
  have hn : ∀ (l : List Nat), (∀ j ∈ l, j < m) → mapL v (l.map fun j => (((3 * (g + j) + 1 : Nat) : Int), ((3 * j + 1 : Nat) : Int), j)) = none := by
    intro l
    induction l with
    | nil => intro _; rfl
    | cons j l ih =>
      intro hl
      simp only [List.map_cons, mapL]
      rw [if_neg (h j (hl j (by simp)))]
      exact ih fun i hi => hl i (by simp [hi])
  exact hn _ (fun j hj => List.mem_range.1 hj)
noncomputable abbrev MK (p : Pc) (k : Nat) (hg : p.g ≤ k) (hm : mapL ((3 * k + 1 : Nat) : Int) p.ma.1 = some 1) : Mw p k where
  ml := [(0, .oi 13, .int .i64 1, true)]
  mlok := allCons ⟨_, rfl, (fun e => ⟨1, rfl, hm⟩), fun e => by cases e⟩ (fun r h => nomatch h)
  mu := [(2, .oi 13, .oi 41, 3)]
  muok := allCons ⟨((3 * (p.g + (k - p.g)) + 1 : Nat) : Int), ((3 * (k - p.g) + 1 : Nat) : Int), by show some ((IntKind.i64, ((3 * k + 1 : Nat) : Int)) : IntKind × Int) = _; rw [show p.g + (k - p.g) = k by omega], rfl, (mapU_toM p.g (k - p.g)).symm⟩ (fun r h => nomatch h)
/-- it goes -/
noncomputable abbrev RG (p : Pc) (k : Nat) (h : Ok p) (hk : k < p.n) : RwP p k where
  vvp := vvPp p k
  ib := rowsK ++ [(0, .oi 10, .int .i64 1, .oi 11)]
  ibok := by
    have h2 := h.n6
    as_aux_lemma => exact rowsK_ok h hk (rAdd ibNil)
  vl := [⟨11, 10, 1, 0, [.oi 12]⟩]
  vlok := vlS_ hk allNil
noncomputable abbrev MG (p : Pc) (k : Nat) (hm : mapL ((3 * k + 1 : Nat) : Int) p.ma.1 = none) : Mw p k where
  ml := [(0, .oi 13, .int .i64 0, false)]
  mlok := allCons ⟨_, rfl, (fun e => by cases e), fun _ => hm⟩ (fun r h => nomatch h)
noncomputable abbrev RE (p : Pc) (k : Nat) (hk : ¬ k < p.n) : RwP p k where
  vvp := vvPp p k
  ib := [(11, .oi 10, .oi 0, .bool false)]
  ibok := by as_aux_lemma => exact rLt ibNil
end
end Go.Proofs.YtbabfeloandpdaaGreatDoor.cc
