/-
  How the abstract memory stands for the model's, and what each step of the memory keeps.
-/
import Derived.Test.YtgdonkfaicdeiaaGreatDoorXRel
set_option linter.unusedSimpArgs false
set_option linter.unusedVariables false
set_option linter.unusedSectionVars false
namespace Go.X
open Go.RowKit
variable [Tab]

theorem blt_iff {a b : Nat} : Nat.blt a b = true ↔ a < b := by simp [Nat.blt, Nat.ble_eq]; omega
theorem ble_iff {a b : Nat} : Nat.ble a b = true ↔ a ≤ b := Iff.of_eq Nat.ble_eq
theorem nbeq_iff {a b : Nat} : Nat.beq a b = true ↔ a = b := ⟨Nat.eq_of_beq_eq_true, fun h => h ▸ Nat.beq_refl a⟩

def esrel (μ : M) : List (AV × AV × Nat) → List MapEntry → Prop
  | [], es => es = []
  | a :: l, es => ∃ e r, es = e :: r ∧ vrel μ a.1 e.key ∧ vrel μ a.2.1 e.val ∧ e.born = a.2.2 ∧ esrel μ l r

theorem esrel.ext {μ μ' : M} (e : Ext μ μ') : ∀ {a : List (AV × AV × Nat)} {v : List MapEntry}, esrel μ a v → esrel μ' a v
  | [], _, h => h
  | a :: l, _, h => by
    simp only [esrel] at h ⊢
    obtain ⟨v, r, h1, h2, h3, h4, h5⟩ := h
    exact ⟨v, r, h1, vrel.ext e _ _ h2, vrel.ext e _ _ h3, h4, esrel.ext e h5⟩

def cellsRel (μ : M) (n : Nat) (z : List AV) (t : T AV) (base : Nat) (arr : Array Value) : Prop :=
  ∀ i a, i < n → cellOf z t i = some a → ∃ v, arr[base + i]? = some v ∧ vrel μ a v

def vecRel (μ : M) (l : Nat → Option AV) (base : Nat) (arr : Array Value) : Prop := ∀ i a, l i = some a → ∃ v, arr[base + i]? = some v ∧ vrel μ a v

def brel (μ : M) (b : Blk) (l : Loc) (w : World) : Prop :=
  match b with
  | .cells n p z t => ∃ arr e fz, w.heap[l.block]? = some (.cells arr e fz) ∧ arr.size = l.total ∧ (∀ i, i < l.total → ¬ (fz.1 ≤ i ∧ i < fz.2)) ∧ l.base + n ≤ l.total ∧ (p = false → fz = (0, 0)) ∧ cellsRel μ n z t l.base arr
  | .glob n z t => ∃ arr e fz, w.heap[l.block]? = some (.cells arr e fz) ∧ cellsRel μ n z t l.base arr
  | .map es c => ∃ es', w.heap[l.block]? = some (.map ⟨es'⟩ c) ∧ esrel μ es es'
  | .siter n c pos => l.base = 0 ∧ c < 256 ^ n ∧ w.heap[l.block]? = some (.stringIter (strOf n c) pos)
  | .miter none since seen st => l.base = 0 ∧ w.heap[l.block]? = some (.mapIter none since ⟨seen⟩ st)
  | .miter (some x) since seen st => l.base = 0 ∧ ∃ k, μ x = some k ∧ w.heap[l.block]? = some (.mapIter (some k.block) since ⟨seen⟩ st)
  | .vec i => ∃ arr e fz, w.heap[l.block]? = some (.cells arr e fz) ∧ arr.size = l.total ∧ (∀ i, i < l.total → ¬ (fz.1 ≤ i ∧ i < fz.2)) ∧ l.base + Tab.vk i ≤ l.total ∧ vecRel μ (Tab.vv i) l.base arr

def own : Blk → Bool
  | .glob .. => false
  | _ => true

theorem cellsRel.ext {μ μ' : M} (e : Ext μ μ') {n : Nat} {z : List AV} {t : T AV} {base : Nat} {arr : Array Value} (h : cellsRel μ n z t base arr) : cellsRel μ' n z t base arr :=
  fun i a hi ha => let ⟨v, h1, h2⟩ := h i a hi ha; ⟨v, h1, vrel.ext e _ _ h2⟩

theorem vecRel.to {μ μ' : M} {l : Nat → Option AV} (hp : ∀ m a, l m = some a → plain a = true) {base : Nat} {arr : Array Value} (h : vecRel μ l base arr) : vecRel μ' l base arr :=
  fun i a ha => let ⟨v, h1, h2⟩ := h i a ha; ⟨v, h1, vrel.plain _ _ (hp i a ha) h2⟩

theorem brel.ext {μ μ' : M} (e : Ext μ μ') {b : Blk} {l : Loc} {w : World} (h : brel μ b l w) : brel μ' b l w := by
  cases b with
  | cells n p z t => obtain ⟨arr, el, fz, h1, h2, h3, h4, h5, h6⟩ := h; exact ⟨arr, el, fz, h1, h2, h3, h4, h5, h6.ext e⟩
  | glob n z t => obtain ⟨arr, el, fz, h1, h2⟩ := h; exact ⟨arr, el, fz, h1, h2.ext e⟩
  | map es c => obtain ⟨es', h1, h2⟩ := h; exact ⟨es', h1, h2.ext e⟩
  | siter n c pos => exact h
  | miter m since seen st =>
    cases m with
    | none => exact h
    | some x => obtain ⟨h0, k, h1, h2⟩ := h; exact ⟨h0, k, e _ _ h1, h2⟩
  | vec i => obtain ⟨arr, el, fz, h1, h2, h3, h4, h5⟩ := h; exact ⟨arr, el, fz, h1, h2, h3, h4, h5.to (Tab.vvp i)⟩

theorem brel.congr {μ : M} {b : Blk} {l : Loc} {w w' : World} (hw : w'.heap[l.block]? = w.heap[l.block]?) (h : brel μ b l w) : brel μ b l w' := by
  cases b with
  | cells n p z t => simpa only [brel, hw] using h
  | glob n z t => simpa only [brel, hw] using h
  | map es c => simpa only [brel, hw] using h
  | siter n c pos => simpa only [brel, hw] using h
  | miter m since seen st =>
    cases m with
    | none => simpa only [brel, hw] using h
    | some x => simpa only [brel, hw] using h
  | vec i => simpa only [brel, hw] using h

theorem brel.lt {μ : M} {b : Blk} {l : Loc} {w : World} (h : brel μ b l w) : l.block < w.heap.size := by
  have : ∃ o, w.heap[l.block]? = some o := by
    cases b with
    | cells n p z t => obtain ⟨arr, el, fz, h1, _⟩ := h; exact ⟨_, h1⟩
    | glob n z t => obtain ⟨arr, el, fz, h1, _⟩ := h; exact ⟨_, h1⟩
    | map es c => obtain ⟨es', h1, _⟩ := h; exact ⟨_, h1⟩
    | siter n c pos => exact ⟨_, h.2.2⟩
    | miter m since seen st =>
      cases m with
      | none => exact ⟨_, h.2⟩
      | some x => obtain ⟨_, k, _, h2⟩ := h; exact ⟨_, h2⟩
    | vec i => obtain ⟨arr, el, fz, h1, _⟩ := h; exact ⟨_, h1⟩
  obtain ⟨o, ho⟩ := this
  exact (Array.getElem?_eq_some_iff.1 ho).1

/-- Which blocks are kept, and which of them the machine may read. -/
structure Kp where
  kept : Nat → Prop
  glob : Nat → Prop
  sub : ∀ k, glob k → kept k
  res : Nat → Prop
def Kp.with (B : Kp) (n : Nat) : Kp := ⟨fun k => B.kept k ∨ k = n, B.glob, fun k h => .inl (B.sub k h), B.res⟩
def Kp.below (n : Nat) : Kp := ⟨fun k => k < n, fun _ => False, fun _ h => h.elim, fun _ => False⟩
/-- names that are set aside -/
def Kp.aside (B : Kp) (R : Nat → Prop) : Kp := ⟨B.kept, B.glob, B.sub, R⟩

/-- What is known of package variables: they lie in blocks that are kept. -/
def Gl (B : Kp) (w0 : World) : Prop := (∀ g o a, Tab.gv g o = some a → B.kept g ∧ ∃ v, w0.cell? ⟨g, o, none⟩ = some v ∧ vrel (fun _ => none) a v) ∧
  ∀ i m a, Tab.fv i m = some a → B.kept (Tab.fb i).1 ∧ ∃ v, w0.cell? ⟨(Tab.fb i).1, (Tab.fb i).2 + m, none⟩ = some v ∧ vrel (fun _ => none) a v

/-- What a run keeps: the streams, and the blocks in B; B's blocks were there at the beginning. -/
structure Keeps (B : Kp) (w0 w : World) : Prop where
  os : w.os = w0.os
  tape : w.tape = w0.tape
  output : w.output = w0.output
  size : w0.heap.size ≤ w.heap.size
  block : ∀ k, B.kept k → w.heap[k]? = w0.heap[k]?
  old : ∀ k, B.kept k → k < w0.heap.size
  glb : Gl B w0

theorem Keeps.glbs {B : Kp} {w0 w : World} (k : Keeps B w0 w) {g o : Nat} {a : AV} (h : Tab.gv g o = some a) : B.kept g ∧ ∃ v, w.cell? ⟨g, o, none⟩ = some v ∧ vrel (fun _ => none) a v := by
  obtain ⟨h1, v, h2, h3⟩ := k.glb.1 g o a h
  exact ⟨h1, v, by rw [World.cell?_of_block (w := w0) (a := ⟨g, o, none⟩) (k.block g h1)]; exact h2, h3⟩

theorem Keeps.frgn {B : Kp} {w0 w : World} (k : Keeps B w0 w) {i m : Nat} {a : AV} (h : Tab.fv i m = some a) : B.kept (Tab.fb i).1 ∧ ∃ v, w.cell? ⟨(Tab.fb i).1, (Tab.fb i).2 + m, none⟩ = some v ∧ vrel (fun _ => none) a v := by
  obtain ⟨h1, v, h2, h3⟩ := k.glb.2 i m a h
  exact ⟨h1, v, by rw [World.cell?_of_block (w := w0) (a := ⟨(Tab.fb i).1, (Tab.fb i).2 + m, none⟩) (k.block _ h1)]; exact h2, h3⟩

structure HR (B : Kp) (w0 : World) (μ : M) (h : H) (w : World) : Prop where
  below : Keeps B w0 w
  fresh : ∀ x, h.next ≤ x → h.get x = none ∧ μ x = none
  res : ∀ x, B.res x → x < h.next ∧ μ x = none
  blk : ∀ x b, h.get x = some b → ∃ l, μ x = some l ∧ (own b = true → ¬ B.kept l.block) ∧ (own b = false → B.glob l.block) ∧ brel μ b l w
  sep : ∀ x y b c l k, h.get x = some b → h.get y = some c → x ≠ y → own b = true → own c = true → μ x = some l → μ y = some k → l.block ≠ k.block

theorem Keeps.new {B : Kp} {w0 w : World} (k : Keeps B w0 w) {n : Nat} (h : w.heap.size ≤ n) : ¬ B.kept n := fun hb => by
  have := k.old n hb
  have := k.size
  omega

theorem H.get_put (h : H) (x : Nat) (b : Blk) (y : Nat) (hx : x < 16000000) : (h.put x b).get y = if y = x then some b else h.get y := T.get_put _ _ _ _ hx
theorem H.get_kill (h : H) (x y : Nat) : (h.kill x).get y = if y = x then none else h.get y := T.get_erase _ _ _

/-- The worlds differ in one block's contents at most. -/
structure Upd (c : Nat) (w w' : World) : Prop where
  os : w'.os = w.os
  tape : w'.tape = w.tape
  output : w'.output = w.output
  size : w'.heap.size = w.heap.size
  block : ∀ k, k ≠ c → w'.heap[k]? = w.heap[k]?
theorem Upd.refl (c : Nat) (w : World) : Upd c w w := ⟨rfl, rfl, rfl, rfl, fun _ _ => rfl⟩
theorem Upd.trans {c : Nat} {a b d : World} (h : Upd c a b) (k : Upd c b d) : Upd c a d :=
  ⟨k.os.trans h.os, k.tape.trans h.tape, k.output.trans h.output, k.size.trans h.size, fun i hi => (k.block i hi).trans (h.block i hi)⟩
theorem Upd.below {B : Kp} {c : Nat} {w0 w w' : World} (h : Upd c w w') (hb : Keeps B w0 w) (hc : ¬ B.kept c) : Keeps B w0 w' :=
  ⟨h.os.trans hb.os, h.tape.trans hb.tape, h.output.trans hb.output, by rw [h.size]; exact hb.size, fun k hk => (h.block k (by intro e; subst e; exact hc hk)).trans (hb.block k hk), hb.old, hb.glb⟩
theorem Keeps.below {B : Kp} {w0 w w' : World} (hb : Keeps B w0 w) (h : Below w.heap.size w w') : Keeps B w0 w' :=
  ⟨h.os.trans hb.os, h.tape.trans hb.tape, h.output.trans hb.output, Nat.le_trans hb.size h.size, fun k hk => (h.block k (Nat.lt_of_lt_of_le (hb.old k hk) hb.size)).trans (hb.block k hk), hb.old, hb.glb⟩
theorem Upd.setCell (w : World) (a : Addr) (v : Value) : Upd a.block w (w.setCell a v) :=
  ⟨rfl, rfl, rfl, by simp [World.setCell], fun k hk => Below.heap_setCell _ _ _ _ hk⟩

variable {B : Kp} {w0 : World} {μ : M} {h h' : H} {w w' : World}

/-- One block of the machine's own is written. -/
theorem HR.upd (r : HR B w0 μ h w) {x : Nat} {b b' : Blk} {l : Loc} (hx : h.get x = some b) (hl : μ x = some l) (ho : own b = true) (ho' : own b' = true) (hlim : x < 16000000)
    (hu : Upd l.block w w') (hb : brel μ b' l w') : HR B w0 μ (h.put x b') w' := by
  obtain ⟨l1, hl1, hB, _, _⟩ := r.blk x b hx
  rw [hl] at hl1; cases hl1
  have hBl := hB ho
  refine ⟨hu.below r.below hBl, fun y hy => ?_, r.res, fun y c hc => ?_, fun y z c d k m hy hz hne oy oz ky kz => ?_⟩
  · have := r.fresh y hy
    have hyx : y ≠ x := by intro e; subst e; rw [this.1] at hx; simp at hx
    exact ⟨by rw [H.get_put _ _ _ _ hlim, if_neg hyx]; exact this.1, this.2⟩
  · rw [H.get_put _ _ _ _ hlim] at hc
    by_cases e : y = x
    · subst e
      rw [if_pos rfl] at hc; cases hc
      exact ⟨l, hl, fun _ => hBl, fun e => by rw [ho'] at e; simp at e, hb⟩
    · rw [if_neg e] at hc
      obtain ⟨k, hk, h1, h2, h3⟩ := r.blk y c hc
      refine ⟨k, hk, h1, h2, brel.congr (hu.block _ ?_) h3⟩
      cases oc : own c with
      | true => exact r.sep y x c b k l hc hx e oc ho hk hl
      | false => intro e; exact hBl (e ▸ B.sub _ (h2 oc))
  · rw [H.get_put _ _ _ _ hlim] at hy hz
    by_cases e1 : y = x
    · subst e1
      rw [if_neg (fun e => hne e.symm)] at hz
      rw [hl] at ky; cases ky
      exact r.sep y z b d l m hx hz hne ho oz hl kz
    · rw [if_neg e1] at hy
      by_cases e2 : z = x
      · subst e2
        rw [hl] at kz; cases kz
        exact r.sep y z c b k l hy hx hne oy ho ky hl
      · rw [if_neg e2] at hz
        exact r.sep y z c d k m hy hz hne oy oz ky kz

def upm (μ : M) (x : Nat) (l : Loc) : M := fun y => if y = x then some l else μ y
theorem Ext.upm {μ : M} {x : Nat} (l : Loc) (hx : μ x = none) : Ext μ (upm μ x l) := by
  intro y k hk
  show (if y = x then some l else μ y) = some k
  rw [if_neg (by intro e; subst e; rw [hx] at hk; simp at hk)]
  exact hk

theorem H.alloc_some {h : H} {b : Blk} {x : Nat} {h' : H} (e : h.alloc b = some (x, h')) : x = h.next ∧ h.next < limit ∧ h' = ⟨h.next + 1, h.t.put h.next b⟩ := by
  obtain ⟨h1, h2⟩ := ifb_some e
  cases h2
  exact ⟨rfl, blt_iff.1 h1, rfl⟩

/-- h' is h with a block more. -/
structure At (B : Kp) (μ : M) (h : H) (x : Nat) (b : Blk) (h' : H) : Prop where
  get : ∀ y, h'.get y = if y = x then some b else h.get y
  next : h.next ≤ h'.next
  lt : x < h'.next
  free : h.get x = none
  new : μ x = none
  nres : ¬ B.res x

theorem At.ofAlloc (r : HR B w0 μ h w) {b : Blk} {x : Nat} (e : h.alloc b = some (x, h')) : At B μ h x b h' := by
  obtain ⟨rfl, hn, rfl⟩ := H.alloc_some e
  have hfr := r.fresh h.next (Nat.le_refl _)
  have hlim : h.next < 16000000 := by unfold limit at hn; omega
  exact ⟨fun y => T.get_put _ _ _ _ hlim, by show h.next ≤ h.next + 1; omega, by show h.next < h.next + 1; omega, hfr.1, hfr.2, fun hr => by have := (r.res _ hr).1; omega⟩

/-- A new block. -/
theorem HR.alloc (r : HR B w0 μ h w) {b : Blk} {x : Nat} {l : Loc} (e : At B μ h x b h') (ho : own b = true)
    (hw : Below w.heap.size w w') (hlt : w.heap.size ≤ l.block) (hb : brel (upm μ x l) b l w') : HR B w0 (upm μ x l) h' w' := by
  have hext : Ext μ (upm μ x l) := Ext.upm l e.new
  have hget := e.get
  refine ⟨r.below.below hw, fun y hy => ?_, fun y hy => ⟨Nat.lt_of_lt_of_le (r.res y hy).1 e.next, by unfold upm; rw [if_neg (by intro e2; subst e2; exact e.nres hy)]; exact (r.res y hy).2⟩, fun y c hc => ?_, fun y z c d k m hy hz hne oy oz ky kz => ?_⟩
  · have h1 := e.next
    have h2 := e.lt
    have := r.fresh y (by omega)
    rw [hget, if_neg (by omega)]
    exact ⟨this.1, by unfold upm; rw [if_neg (by omega)]; exact this.2⟩
  · rw [hget] at hc
    by_cases e1 : y = x
    · subst e1
      rw [if_pos rfl] at hc; cases hc
      exact ⟨l, by simp [upm], fun _ => r.below.new hlt, fun e => by rw [ho] at e; simp at e, hb⟩
    · rw [if_neg e1] at hc
      obtain ⟨k, hk, h1, h2, h3⟩ := r.blk y c hc
      exact ⟨k, hext _ _ hk, h1, h2, (brel.congr (hw.block _ h3.lt) h3).ext hext⟩
  · rw [hget] at hy hz
    by_cases e1 : y = x
    · subst e1
      rw [if_neg (fun e => hne e.symm)] at hz
      have kl : k = l := by simpa [upm] using ky.symm
      subst kl
      obtain ⟨k', hk', _, _, h3⟩ := r.blk z d hz
      have := hext _ _ hk'
      rw [kz] at this; cases this
      have := h3.lt
      omega
    · rw [if_neg e1] at hy
      obtain ⟨k', hk', _, _, h3⟩ := r.blk y c hy
      have e3 := hext _ _ hk'
      rw [ky] at e3; cases e3
      by_cases e2 : z = x
      · subst e2
        have kl : m = l := by simpa [upm] using kz.symm
        subst kl
        have := h3.lt
        omega
      · rw [if_neg e2] at hz
        obtain ⟨m', hm', _, _, h4⟩ := r.blk z d hz
        have e4 := hext _ _ hm'
        rw [kz] at e4; cases e4
        exact r.sep y z c d k m hy hz hne oy oz hk' hm'

/-- A block goes on under a new name, from a later cell on. -/
theorem HR.rename (r : HR B w0 μ h w) {b c : Blk} {x y : Nat} {l k : Loc} (hx : h.get x = some c) (hl : μ x = some l) (hoc : own c = true) (e : (h.kill x).alloc b = some (y, h')) (ho : own b = true)
    (hu : Upd l.block w w') (hk : k.block = l.block) (hb : brel (upm μ y k) b k w') : HR B w0 (upm μ y k) h' w' := by
  obtain ⟨rfl, hn, rfl⟩ := H.alloc_some e
  have hnx : (h.kill x).next = h.next := rfl
  simp only [hnx] at *
  have hfr := r.fresh h.next (Nat.le_refl _)
  have hext : Ext μ (upm μ h.next k) := Ext.upm k hfr.2
  have hlim : h.next < 16000000 := by unfold limit at hn; omega
  have hget : ∀ y, (H.mk (h.next + 1) ((h.kill x).t.put h.next b)).get y = if y = h.next then some b else if y = x then none else h.get y := by
    intro y
    show ((h.kill x).t.put h.next b).get y = _
    rw [T.get_put _ _ _ _ hlim]
    congr 1
    exact H.get_kill h x y
  obtain ⟨l1, hl1, hB, _, _⟩ := r.blk x c hx
  rw [hl] at hl1; cases hl1
  have hBl := hB hoc
  have oldsep : ∀ y d m, h.get y = some d → y ≠ x → μ y = some m → m.block ≠ l.block := by
    intro y d m hy hne hm
    obtain ⟨m', hm', _, h2, _⟩ := r.blk y d hy
    rw [hm] at hm'; cases hm'
    cases od : own d with
    | true => exact r.sep y x d c m l hy hx hne od hoc hm hl
    | false => intro e; exact hBl (e ▸ B.sub _ (h2 od))
  refine ⟨hu.below r.below hBl, fun z hz => ?_, fun z hz => ⟨by show z < h.next + 1; have := (r.res z hz).1; omega, by unfold upm; rw [if_neg (by have := (r.res z hz).1; omega)]; exact (r.res z hz).2⟩, fun z d hd => ?_, fun y z d f m m' hy hz hne oy oz ky kz => ?_⟩
  · have hz' : h.next + 1 ≤ z := hz
    have := r.fresh z (by omega)
    rw [hget, if_neg (by omega)]
    refine ⟨?_, by unfold upm; rw [if_neg (by omega)]; exact this.2⟩
    split
    · rfl
    · exact this.1
  · rw [hget] at hd
    by_cases e1 : z = h.next
    · subst e1
      rw [if_pos rfl] at hd; cases hd
      exact ⟨k, by simp [upm], fun _ => by rw [hk]; exact hBl, fun e => by rw [ho] at e; simp at e, hb⟩
    · rw [if_neg e1] at hd
      by_cases e2 : z = x
      · subst e2; simp at hd
      · rw [if_neg e2] at hd
        obtain ⟨m, hm, h1, h2, h3⟩ := r.blk z d hd
        exact ⟨m, hext _ _ hm, h1, h2, (brel.congr (hu.block _ (oldsep z d m hd e2 hm)) h3).ext hext⟩
  · rw [hget] at hy hz
    by_cases e1 : y = h.next
    · subst e1
      have km : m = k := by simpa [upm] using ky.symm
      subst km
      rw [if_neg (fun e => hne e.symm)] at hz
      by_cases e2 : z = x
      · subst e2; simp at hz
      · rw [if_neg e2] at hz
        obtain ⟨n, hn', _, _, _⟩ := r.blk z f hz
        have e4 := hext _ _ hn'
        rw [kz] at e4; cases e4
        rw [hk]
        exact fun e => oldsep z f _ hz e2 hn' e.symm
    · rw [if_neg e1] at hy
      by_cases e2 : y = x
      · subst e2; simp at hy
      · rw [if_neg e2] at hy
        obtain ⟨n, hn', _, _, _⟩ := r.blk y d hy
        have e4 := hext _ _ hn'
        rw [ky] at e4; cases e4
        by_cases e3 : z = h.next
        · subst e3
          have km : m' = k := by simpa [upm] using kz.symm
          subst km
          rw [hk]
          exact oldsep y d _ hy e2 hn'
        · rw [if_neg e3] at hz
          by_cases e5 : z = x
          · subst e5; simp at hz
          · rw [if_neg e5] at hz
            obtain ⟨n', hn'', _, _, _⟩ := r.blk z f hz
            have e6 := hext _ _ hn''
            rw [kz] at e6; cases e6
            exact r.sep y z d f _ _ hy hz hne oy oz hn' hn''

/-- A draw changes nothing. -/
theorem HR.drawn (r : HR B w0 μ h w) (n : Nat) : HR B w0 μ h { w with drawn := n } :=
  ⟨⟨r.below.os, r.below.tape, r.below.output, r.below.size, r.below.block, r.below.old, r.below.glb⟩, r.fresh, r.res, fun x b hx => let ⟨l, h1, h2, h3, h4⟩ := r.blk x b hx; ⟨l, h1, h2, h3, h4.congr rfl⟩, r.sep⟩

/-- At the beginning. -/
theorem HR.start (w : World) (hg : Gl (Kp.below w.heap.size) w) : HR (Kp.below w.heap.size) w (fun _ => none) H.empty w :=
  ⟨⟨rfl, rfl, rfl, Nat.le_refl _, fun _ _ => rfl, fun _ h => h, hg⟩, fun x _ => ⟨rfl, rfl⟩, fun x hx => hx.elim, fun x b hx => by simp [H.empty, H.get] at hx, fun x y b c l k hx => by simp [H.empty, H.get] at hx⟩

theorem Keeps.toBelow {w0 w : World} {n : Nat} (k : Keeps (Kp.below n) w0 w) : Below n w0 w := ⟨k.os, k.tape, k.output, k.size, k.block⟩

/-- Only what the memory tells counts. -/
theorem HR.congr (r : HR B w0 μ h w) (hn : h'.next = h.next) (hg : ∀ y, h'.get y = h.get y) : HR B w0 μ h' w :=
  ⟨r.below, fun x hx => by rw [hg]; exact r.fresh x (by omega), fun x hx => by rw [hn]; exact r.res x hx, fun x b hx => r.blk x b (by rw [← hg]; exact hx), fun x y b c l k hx hy => r.sep x y b c l k (by rw [← hg]; exact hx) (by rw [← hg]; exact hy)⟩

theorem HR.kill (r : HR B w0 μ h w) (x : Nat) : HR B w0 μ (h.kill x) w := by
  have old : ∀ y b, (h.kill x).get y = some b → h.get y = some b := by
    intro y b hy
    rw [H.get_kill] at hy
    split at hy
    · simp at hy
    · exact hy
  exact ⟨r.below, fun y hy => ⟨by rw [H.get_kill]; split; rfl; exact (r.fresh y hy).1, (r.fresh y hy).2⟩, r.res, fun y b hy => r.blk y b (old y b hy),
    fun y z b c l k hy hz => r.sep y z b c l k (old y b hy) (old z c hz)⟩

/-- Fewer names, and less that is known. -/
theorem HR.weaken (r : HR B w0 μ h w) {R : Nat → Prop} (hn : h.next ≤ h'.next) (hR : ∀ x, R x → x < h'.next ∧ μ x = none) (hg : ∀ y b, h'.get y = some b → h.get y = some b) : HR (B.aside R) w0 μ h' w :=
  ⟨⟨r.below.os, r.below.tape, r.below.output, r.below.size, r.below.block, r.below.old, r.below.glb⟩,
    fun x hx => ⟨by
      cases hx' : h'.get x with
      | none => rfl
      | some b => have h1 := hg x b hx'; have h2 := (r.fresh x (by omega)).1; rw [h1] at h2; simp at h2, (r.fresh x (by omega)).2⟩,
    hR, fun x b hx => r.blk x b (hg x b hx), fun x y b c l k hx hy => r.sep x y b c l k (hg x b hx) (hg y c hy)⟩

/-- A block is kept aside: what goes on without its name does not touch it. -/
theorem HR.hide (r : HR B w0 μ h w) {x : Nat} {b : Blk} {l : Loc} (hx : h.get x = some b) (hl : μ x = some l) (ho : own b = true) :
    HR (B.with l.block) w μ (h.kill x) w := by
  obtain ⟨l', hl', _, _, hbr⟩ := r.blk x b hx
  rw [hl] at hl'; cases hl'
  have hold : ∀ k, (B.with l.block).kept k → k < w.heap.size := by
    intro k hk
    rcases hk with hk | rfl
    · exact Nat.lt_of_lt_of_le (r.below.old k hk) r.below.size
    · exact hbr.lt
  have r' := r.kill x
  refine ⟨⟨rfl, rfl, rfl, Nat.le_refl _, fun _ _ => rfl, hold, fun g o a hg => let ⟨k1, k2⟩ := r.below.glbs hg; ⟨.inl k1, k2⟩, fun i m a hg => let ⟨k1, k2⟩ := r.below.frgn hg; ⟨.inl k1, k2⟩⟩, r'.fresh, r'.res, fun y c hc => ?_, r'.sep⟩
  obtain ⟨k, hk, h1, h2, h3⟩ := r'.blk y c hc
  refine ⟨k, hk, fun oc hh => ?_, fun oc => h2 oc, h3⟩
  rcases hh with hh | hh
  · exact h1 oc hh
  · rw [H.get_kill] at hc
    split at hc
    · simp at hc
    · rename_i hne
      exact r.sep y x c b k l hc hx hne oc ho hk hl hh

theorem HR.unhide (r : HR B w0 μ h w) {x : Nat} {b : Blk} {l : Loc} {μ' : M} (hx : h.get x = some b) (hl : μ x = some l) (ho : own b = true) (hlim : x < 16000000) (hnx : x < h'.next) (he : Ext μ μ')
    (r' : HR (B.with l.block) w μ' h' w') : HR B w0 μ' (h'.put x b) w' := by
  obtain ⟨l', hl', hB, _, hbr⟩ := r.blk x b hx
  rw [hl] at hl'; cases hl'
  have hl2 := he x l hl
  have keep := r'.below
  have hbr' : brel μ' b l w' := (hbr.congr (keep.block l.block (.inr rfl))).ext he
  refine ⟨⟨keep.os.trans r.below.os, keep.tape.trans r.below.tape, keep.output.trans r.below.output, Nat.le_trans r.below.size keep.size, fun k hk => (keep.block k (.inl hk)).trans (r.below.block k hk), r.below.old, r.below.glb⟩,
    fun y hy => ?_, r'.res, fun y c hc => ?_, fun y z c d k m hy hz hne oy oz ky kz => ?_⟩
  · have hy' : h'.next ≤ y := hy
    have := r'.fresh y hy'
    exact ⟨by rw [H.get_put _ _ _ _ hlim, if_neg (by omega)]; exact this.1, this.2⟩
  · rw [H.get_put _ _ _ _ hlim] at hc
    by_cases e : y = x
    · subst e
      rw [if_pos rfl] at hc; cases hc
      exact ⟨l, hl2, hB, fun e => by rw [ho] at e; simp at e, hbr'⟩
    · rw [if_neg e] at hc
      obtain ⟨k, hk, h1, h2, h3⟩ := r'.blk y c hc
      exact ⟨k, hk, fun oc hh => h1 oc (.inl hh), h2, h3⟩
  · rw [H.get_put _ _ _ _ hlim] at hy hz
    by_cases e1 : y = x
    · subst e1
      rw [hl2] at ky; cases ky
      rw [if_neg (fun e => hne e.symm)] at hz
      obtain ⟨k', hk', h1, _, _⟩ := r'.blk z d hz
      rw [kz] at hk'; cases hk'
      exact fun e => h1 oz (.inr e.symm)
    · rw [if_neg e1] at hy
      obtain ⟨k', hk', h1, _, _⟩ := r'.blk y c hy
      rw [ky] at hk'; cases hk'
      by_cases e2 : z = x
      · subst e2
        rw [hl2] at kz; cases kz
        exact fun e => h1 oy (.inr e)
      · rw [if_neg e2] at hz
        exact r'.sep y z c d k m hy hz hne oy oz ky kz

/- reading -/
theorem HR.load (r : HR B w0 μ h w) {x o : Nat} {a : AV} (e : h.load x o = some a) {l : Loc} (hl : μ x = some l) :
    ∃ v, w.cell? ⟨l.block, l.base + o, none⟩ = some v ∧ vrel μ a v := by
  obtain ⟨b, hb, e⟩ := ob_some e
  obtain ⟨l', hl', _, _, hr⟩ := r.blk x b hb
  rw [hl] at hl'; cases hl'
  cases b with
  | cells n p z t =>
    obtain ⟨h1, h2⟩ := ifb_some e
    obtain ⟨arr, el, fz, g1, _, _, _, _, g2⟩ := hr
    obtain ⟨v, hv, hrel⟩ := g2 o a (blt_iff.1 h1) h2
    exact ⟨v, by simp [World.cell?, g1, hv], hrel⟩
  | glob n z t =>
    obtain ⟨h1, h2⟩ := ifb_some e
    obtain ⟨arr, el, fz, g1, g2⟩ := hr
    obtain ⟨v, hv, hrel⟩ := g2 o a (blt_iff.1 h1) h2
    exact ⟨v, by simp [World.cell?, g1, hv], hrel⟩
  | map es c => simp [loadIn] at e
  | siter n c p => simp [loadIn] at e
  | miter m s1 s2 s3 => simp [loadIn] at e
  | vec i => simp [loadIn] at e

theorem HR.live (r : HR B w0 μ h w) {x : Nat} {b : Blk} (e : h.get x = some b) : ∃ l, μ x = some l := let ⟨l, hl, _⟩ := r.blk x b e; ⟨l, hl⟩

theorem H.loads_zero (h : H) (x o : Nat) : h.loads x o 0 = some [] := rfl
theorem H.loads_succ (h : H) (x o n : Nat) : h.loads x o (n + 1) = ob (h.load x o) fun v => ob (h.loads x (o + 1) n) fun r => some (v :: r) := rfl

theorem HR.loads (r : HR B w0 μ h w) {x : Nat} {l : Loc} (hl : μ x = some l) : ∀ (n o : Nat) (as : List AV), h.loads x o n = some as →
    ∃ vs, vrels μ as vs ∧ vs.length = n ∧ ∀ i, i < n → w.cell? ⟨l.block, l.base + o + i, none⟩ = vs[i]?
  | 0, o, as, e => by rw [H.loads_zero] at e; cases e; exact ⟨[], by simp [vrels], rfl, fun i hi => by omega⟩
  | n + 1, o, as, e => by
    rw [H.loads_succ] at e
    obtain ⟨a, ha, e⟩ := ob_some e
    obtain ⟨as', has, e⟩ := ob_some e
    cases e
    obtain ⟨v, hv, hrel⟩ := r.load ha hl
    obtain ⟨vs, h1, h2, h3⟩ := HR.loads r hl n (o + 1) as' has
    refine ⟨v :: vs, vrels_cons hrel h1, by simp [h2], fun i hi => ?_⟩
    cases i with
    | zero => simpa using hv
    | succ i =>
      rw [List.getElem?_cons_succ, ← h3 i (by omega)]
      congr 2
      omega
end Go.X
