/-
  The law CollectChain: objects are made: states, rows, runs.
-/
import Derived.Test.YtbabfeloandpdaaGreatDoorCCK
import Derived.Test.YtbabfeloandpdaaGreatDoorXN4
set_option linter.unusedVariables false
set_option linter.unusedSimpArgs false
set_option linter.unusedSectionVars false
set_option maxRecDepth 1000000
set_option maxHeartbeats 0
namespace Go.Proofs.YtbabfeloandpdaaGreatDoor.cc
open Go.X Go.RowKit Go.Proofs
noncomputable def lC : Code := codeOf Tryz.f3
theorem lC_eq : Tryz.f3.body = some lC := by kernel_rfl
noncomputable def l6 : Code := hd (restn 6 lC)
noncomputable def lL : Code := lpIn (tl l6)
theorem l6_eq : restn 6 lC = .seq (.seq (hd l6) (.block 0 (.loop lL))) (restn 7 lC) := by kernel_rfl
noncomputable abbrev same : BL → BS := List.rec [] fun p _ ih => (p.1, p.1, p.2) :: ih
noncomputable abbrev nt : Nat := Tryz.f3.ntmps
noncomputable abbrev erS : AV := .str 15 594182256714433171583859471190221162
/-- the heap ahead of the first object -/
noncomputable def hp0 : Blk := .cells 5 false [] (T.ofList 0 .leaf [.ptr 2 0, .nils, .nils, .nils, .map 3254])
noncomputable def bsA : BS := (3255, 3255, hp0) :: (3254, 3254, .map [] 0) :: same kb
noncomputable abbrev fsA (r : Bool) : List (Nat × AV) := [(0, .oi 0), (1, .oi 1), (2, .bool r), (7, .bool true), (8, .ptr 3255 0), (9, .nils)]
noncomputable abbrev fsB (r : Bool) (l : AV) : List (Nat × AV) := [(0, .oi 0), (1, .oi 1), (2, .bool r), (7, .bool true), (8, .ptr 3255 0), (9, l), (10, .oi 10)]
/-- what the law's arguments are -/
structure Ok (p : Pc) : Prop where
  n1 : 1 ≤ p.n
  n6 : p.n ≤ 600
  f1 : p.f < p.n
  g1 : p.g ≤ p.f
theorem Ok.g2 {p : Pc} (h : Ok p) : p.g < p.n := by have := h.f1; have := h.g1; omega
section
variable {p : Pc} {k : Nat}
noncomputable abbrev rowsS : List BRow := [(11, .oi 0, .int .i64 1, .bool false), (13, .oi 0, .int .i64 600, .bool false), (11, .oi 1, .int .i64 0, .bool false), (14, .oi 1, .oi 0, .bool false)]
noncomputable abbrev RS (p : Pc) (h : Ok p) : RwP p 0 where
  vvp := vvPp p 0
  ib := rowsS
  ibok := by
    have h1 := h.n1; have h2 := h.n6; have h3 := h.f1
    as_aux_lemma => exact rLt (rGt (rLt (rGe ibNil)))
/-- the first object -/
noncomputable abbrev RF (p : Pc) (h : Ok p) : RwP p 0 where
  vvp := vvPp p 0
  ib := [(11, .oi 10, .oi 0, .bool true), (0, .oi 10, .int .i64 1, .oi 11)]
  ibok := by
    have h1 := h.n1
    as_aux_lemma => exact rLt (rAdd ibNil)
/-- an object more -/
noncomputable abbrev rowsM : List BRow := [(11, .oi 10, .oi 0, .bool true), (0, .oi 10, .int .i64 1, .oi 11), (1, .int .i64 2048, .oi 12, .oi 17), (13, .int .i64 3, .oi 17, .bool false), (11, .oi 12, .oi 15, .bool true), (14, .oi 12, .int .i64 0, .bool true), (0, .oi 12, .int .i64 1, .oi 13), (9, .oi 13, .int .i64 0, .bool false)]
theorem aK {iv : Nat → IntKind × Int} {vv : Nat → Nat → Option AV} {vk : Nat → Nat} {i j i' j' n c : Nat} {K : IntKind} {l : List VA} {e e' : Nat → Int} (t : ∀ r ∈ l, VaOk iv vv vk r) (hj : iv j = (.i64, (n : Int))) (hj' : iv j' = (.i64, ((n + c : Nat) : Int))) (hv : vv i = numV K n e) (hv' : vv i' = numV K (n + c) e') (h2 : vk i' = n + c) (hl : n + c < 1000000) (h1 : ∀ m, m < n → e' m = e m) (h0 : ∀ m, m < c → e' (n + m) = 0) : ∀ r ∈ (⟨i, j, 1, List.replicate c (.int K 0), i', j'⟩ : VA) :: l, VaOk iv vv vk r := by
  refine allCons ⟨by rw [hj]; exact ⟨rfl, Int.natCast_nonneg _⟩, by rw [hj']; exact ⟨rfl, Int.natCast_nonneg _⟩, by rw [hj, hj']; simp only [Int.toNat_natCast, List.length_replicate]; omega, by rw [hj']; show ((n + c : Nat) : Int).toNat < 1000000; rw [Int.toNat_natCast]; exact hl, by dsimp only; rw [hj', h2]; show n + c ≤ ((n + c : Nat) : Int).toNat * 1; rw [Int.toNat_natCast]; omega, fun m a ha => ?_⟩ t
  rw [hv'] at ha
  obtain ⟨hm, rfl⟩ := numV_some ha
  show ∃ b, (if m < (iv j).2.toNat * 1 then vv i m else (List.replicate c (AV.int K 0))[m - (iv j).2.toNat * 1]?) = some b ∧ sameAV iv b (.int K (e' m))
  rw [hj]
  simp only [Int.toNat_natCast, Nat.mul_one]
  by_cases d : m < n
  · exact ⟨.int K (e m), by rw [if_pos d, hv]; unfold numV; rw [if_pos d], .inl (by rw [h1 m d])⟩
  · refine ⟨.int K 0, by rw [if_neg d, List.getElem?_replicate, if_pos (by omega)], .inl ?_⟩
    have := h0 (m - n) (by omega)
    rw [show n + (m - n) = m by omega] at this
    rw [this]
noncomputable abbrev RM (p : Pc) (k : Nat) (h : Ok p) (hk : k < p.n) : RwP p k where
  vvp := vvPp p k
  ib := rowsM
  ibok := by
    have h2 := h.n6
    as_aux_lemma => exact rLt (rAdd (rSub (rGt (rLt (rGe (rAdd (rEq ibNil)))))))
  va := [⟨0, 12, 1, [.int .u64 0, .int .u64 0, .int .u64 0], 3, 15⟩, ⟨1, 10, 1, [.oi 12], 4, 11⟩, ⟨2, 10, 1, [.oi 13], 5, 11⟩]
  vaok := by
    have h2 := h.n6
    as_aux_lemma => exact aK (n := 3 * k) (c := 3) (K := .u64) (e := fun _ => 0) (e' := fun _ => 0) (aN (n := k) (K := .i64) (e := fun m => ((3 * m : Nat) : Int)) (e' := fun m => ((3 * m : Nat) : Int)) (aN (n := k) (K := .i64) (e := fun m => ((3 * m + 1 : Nat) : Int)) (e' := fun m => ((3 * m + 1 : Nat) : Int)) allNil (h1 := fun _ _ => rfl)) (h1 := fun _ _ => rfl)) rfl rfl rfl rfl rfl (by omega) (fun _ _ => rfl) (fun _ _ => rfl)
  vs := [⟨3, 12, 1, 0, [.int .u64 0], 3⟩]
  vsok := by
    have h2 := h.n6
    as_aux_lemma => exact sN (K := .u64) (n := 3 * k + 3) (q := 3 * k) (e := fun _ => 0) (e' := fun _ => 0) allNil (hy := rfl) (hw := fun _ _ _ => rfl)
end
/-- the shape's fields, the shapes, their numbers; the heap: words, their number, starts, their number -/
noncomputable def knd : Blk := rowOf [.int .u8 76] true
noncomputable def shp (e : Nat) : Blk := .cells 3 true [] (T.ofList 0 .leaf [erS, .so e 0 1 1, .int .u8 0])
noncomputable def mp : Blk := .map [(erS, .int .i64 0, 0)] 1
noncomputable def hp (w j s c d : Nat) : Blk := .cells 5 false [] (T.ofList 0 .leaf [.ptr 2 0, .ov w j 1, .ov s c 1, .so d 0 1 3, .map 3254])
noncomputable def bsL (a b c d e v s l jw jc : Nat) : BS := (20001, a, .vec v) :: (20002, b, .vec s) :: (20003, c, .vec l) :: (20004, d, shp 20005) :: (20005, e, knd) :: (3255, 3255, hp 20001 jw 20002 jc 20004) :: (3254, 3254, mp) :: same kb
noncomputable abbrev rlL (a b c d e : Nat) : List (Nat × Nat) := [(20001, a), (20002, b), (20003, c), (20004, d), (20005, e)]
noncomputable abbrev rlI : List (Nat × Nat) := rlL 20001 20002 20003 20004 20005
end Go.Proofs.YtbabfeloandpdaaGreatDoor.cc
