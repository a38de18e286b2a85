/-
  The law CollectChain: references are told anew, objects are moved: rows.
-/
import Derived.Test.YtbabfeloandpdaaGreatDoorCCE
set_option linter.unusedVariables false
set_option linter.unusedSimpArgs false
set_option linter.unusedSectionVars false
set_option maxRecDepth 1000000
set_option maxHeartbeats 0
namespace Go.Proofs.YtbabfeloandpdaaGreatDoor.cc
open Go.X Go.RowKit Go.Proofs
section
variable {p : Pc} {k : Nat}
theorem Ok.c1 {p : Pc} (h : Ok p) : 1 ≤ p.cnt := by have := h.g2; unfold Pc.cnt; omega
theorem put_x {W : Nat → BitVec 64} {a : Nat} {v : Int} (h : 0 ≤ v) (h2 : v < 4294967296) : wI (put W a v a) = v := by
  obtain ⟨n, rfl⟩ := Int.eq_ofNat_of_zero_le h
  exact put_at (by omega)
/-- a reference to what is kept; d is the object referred to -/
structure Xok (p : Pc) (d : Nat) : Prop where
  x : p.x = ((3 * (d - p.g) + 1 : Nat) : Int)
  g : p.g ≤ d
theorem icX {d : Nat} (h : Ok p) (hv : Vok p d) (hx : Xok p d) : ∀ r ∈ ([(.i64, .oi 34, .oi 35), (.u64, .oi 37, .oi 38)] : List (IntKind × AV × AV)), IcOk' (ivP p k) r := by
  have h1 := hv.v; have h2 := hv.d; have h3 := h.n6; have h4 := hx.x
  exact rConv (K := .i64) (K' := .u64) (n := p.v) (c := p.v) (rConv (K := .u64) (K' := .i64) (n := p.x) (c := p.x) icNil (hx := rfl) (hy := rfl) (h := by unfold IntKind.wrap IntKind.bits IntKind.signed; simp only [Bool.false_and]; exact Int.emod_eq_of_lt (by omega) (by omega))) (hx := rfl) (hy := rfl) (h := w64 (by omega) (by omega))
theorem vsX {d : Nat} (h : Ok p) (hc : p.c < p.n) (hv : Vok p d) (hx : Xok p d) : ∀ r ∈ ([⟨10, 33, 1, 0, [.oi 38], 15⟩] : List VS), VsOk (ivP p k) (vvP p k) (vkP p k) r := by
  have h2 := h.n6; have h3 := hv.d; have h4 := hx.x
  exact sN (K := .u64) (i := 10) (j := 33) (i' := 15) (x := .oi 38) (n := 3 * p.n) (q := 3 * p.c + 2) (e := fun m => wI (p.W m)) (e' := fun m => wI (put p.W (3 * p.c + 2) p.x m)) allNil (hk := rfl) (hv := rfl) (hv' := rfl) (h1 := rfl) (h2 := rfl) (hy := by
      show some ((IntKind.u64, p.x) : IntKind × Int) = some (.u64, wI (put p.W (3 * p.c + 2) p.x (3 * p.c + 2)))
      rw [put_x (by omega) (by omega)]) (hw := fun m _ hm => congrArg wI (put_ne hm))
noncomputable abbrev RR (p : Pc) (k d : Nat) (h : Ok p) (hw : Wok p) (hc : p.c < p.n) (hv : Vok p d) (hx : Xok p d) : RwP p k where
  vvp := vvPp p k
  ib := rowsC ++ []
  ibok := rowsC_ok h hc ibNil
  ic := [(.i64, .oi 34, .oi 35), (.u64, .oi 37, .oi 38)]
  icok := icX h hv hx
  vl := [⟨10, 31, 1, 0, [.int .u64 0]⟩, ⟨10, 33, 1, 0, [.oi 34]⟩]
  vlok := vlC_ h hw hc (vlE_ h hc allNil)
  vs := [⟨10, 33, 1, 0, [.oi 38], 15⟩]
  vsok := vsX h hc hv hx
/-- the range stands at the object c -/
structure Qok (p : Pc) : Prop where
  l : p.q'.2.1.getLast? = some (p.c - p.g)
  s : p.q'.2.2 = p.cnt
  g : p.g ≤ p.c
  c : p.c < p.n
theorem find_toM (g : Nat) : ∀ (m j : Nat), j < m → (toM g m).1.find? (fun e => Nat.beq e.2.2 j) = some (((3 * (g + j) + 1 : Nat) : Int), ((3 * j + 1 : Nat) : Int), j) := by
  intro m j hj
  have hn : ∀ (l : List Nat), j ∈ l → (l.map fun j => ((((3 * (g + j) + 1 : Nat) : Int), ((3 * j + 1 : Nat) : Int), j) : Int × Int × Nat)).find? (fun e => Nat.beq e.2.2 j) = some (((3 * (g + j) + 1 : Nat) : Int), ((3 * j + 1 : Nat) : Int), j) := by
    intro l
    induction l with
    | nil => intro h; cases h
    | cons i l ih =>
      intro hl
      simp only [List.map_cons, List.find?_cons]
      by_cases e : i = j
      · subst e; rw [Nat.beq_refl]
      · have : Nat.beq i j = false := nbeq_false e
        rw [this]
        exact ih (by rcases List.mem_cons.1 hl with h | h; exact absurd h.symm e; exact h)
  exact hn _ (List.mem_range.2 hj)
theorem mnQ (hq : Qok p) : ∀ r ∈ ([(5, 1, .oi 32, .oi 48)] : List (Nat × Nat × AV × AV)), ∃ n a v, (svP p r.2.1).2.1.getLast? = some n ∧ (mmP p k r.1).2 = (svP p r.2.1).2.2 ∧ (mmP p k r.1).1.find? (fun e => Nat.beq e.2.2 n) = some (a, v, n) ∧ denI (ivP p k) r.2.2.1 = some (.i64, a) ∧ denI (ivP p k) r.2.2.2 = some (.i64, v) := by
  have h1 := hq.g; have h2 := hq.c
  refine allCons ⟨p.c - p.g, ((3 * (p.g + (p.c - p.g)) + 1 : Nat) : Int), ((3 * (p.c - p.g) + 1 : Nat) : Int), hq.l, hq.s.symm, find_toM p.g p.cnt (p.c - p.g) (by unfold Pc.cnt; omega), ?_, rfl⟩ (fun r h => nomatch h)
  show some ((IntKind.i64, ((3 * p.c + 1 : Nat) : Int)) : IntKind × Int) = _
  rw [show p.g + (p.c - p.g) = p.c by omega]
theorem mlV {d : Nat} (hv : Vok p d) (hx : Xok p d) : mapL p.v (toM p.g p.cnt).1 = some p.x := by
  rw [hv.v, hx.x]
  exact mapL_toM hx.g (by have := hv.d; have := hx.g; unfold Pc.cnt; omega)
theorem mlZ : mapL 0 (toM p.g p.cnt).1 = none := mapL_toN fun j hj => by omega
noncomputable abbrev MR (p : Pc) (k d : Nat) (hq : Qok p) (hv : Vok p d) (hx : Xok p d) : Mw p k where
  ml := [(5, .oi 35, .oi 37, true)]
  mlok := allCons ⟨p.v, rfl, (fun e => ⟨p.x, rfl, mlV hv hx⟩), fun e => by cases e⟩ (fun r h => nomatch h)
  mn := [(5, 1, .oi 32, .oi 48)]
  mnok := mnQ hq
noncomputable abbrev MRz (p : Pc) (k : Nat) (hq : Qok p) : Mw p k where
  ml := [(5, .int .i64 0, .int .i64 0, false)]
  mlok := allCons ⟨0, rfl, (fun e => by cases e), fun _ => mlZ⟩ (fun r h => nomatch h)
  mn := [(5, 1, .oi 32, .oi 48)]
  mnok := mnQ hq
/-- what the range has seen -/
structure Sok (p : Pc) : Prop where
  a : p.q.1 = p.cnt
  b : p.q.2.2 = p.cnt
theorem toM_mem {g m : Nat} {e : Int × Int × Nat} (h : e ∈ (toM g m).1) : e.2.2 < m ∧ e = (((3 * (g + e.2.2) + 1 : Nat) : Int), ((3 * e.2.2 + 1 : Nat) : Int), e.2.2) := by
  simp only [toM, List.mem_map] at h
  obtain ⟨j, h1, rfl⟩ := h
  exact ⟨List.mem_range.1 h1, rfl⟩
theorem toM_in {g m j : Nat} (h : j < m) : (((3 * (g + j) + 1 : Nat) : Int), ((3 * j + 1 : Nat) : Int), j) ∈ (toM g m).1 := by
  simp only [toM, List.mem_map]
  exact ⟨j, List.mem_range.2 h, rfl⟩
noncomputable abbrev MXt (p : Pc) (k j : Nat) (hs : Sok p) (hj : j < p.cnt) (hn : j ∉ p.q.2.1) : Mw p k where
  mx := [(5, 0, true)]
  mxok := allCons ⟨fun e he => by have := (toM_mem he).1; exact ⟨hs.a ▸ this, hs.b ▸ this⟩, fun _ => ⟨_, toM_in hj, hn⟩, fun e => by cases e⟩ (fun r h => nomatch h)
noncomputable abbrev MXf (p : Pc) (k : Nat) (hs : Sok p) (hn : ∀ j, j < p.cnt → j ∈ p.q.2.1) : Mw p k where
  mx := [(5, 0, false)]
  mxok := allCons ⟨fun e he => by have := (toM_mem he).1; exact ⟨hs.a ▸ this, hs.b ▸ this⟩, (fun e => by cases e), fun _ e he => hn _ (toM_mem he).1⟩ (fun r h => nomatch h)
noncomputable abbrev MA (p : Pc) (k : Nat) (hq : p.q = (p.cnt, [], p.cnt)) : Mw p k where
  mr := [(5, 0)]
  mrok := allCons hq (fun r h => nomatch h)
/- the objects are moved -/
noncomputable abbrev RV (p : Pc) (k : Nat) (t : Bool) (h : Ok p) (hk : k < p.n) (hg : p.g ≤ k) (ht : decide (k + 1 < p.n) = t) : RwP p k where
  vvp := vvPp p k
  ib := rowsK ++ (szR t ++ [(1, .oi 41, .int .i64 1, .oi 40), (0, .oi 12, .oi 5, .oi 15), (12, .oi 15, .oi 2, .bool true), (14, .oi 15, .int .i64 0, .bool true)])
  ibok := by
    have h2 := h.n6
    as_aux_lemma => exact rowsK_ok h hk (szR_ok h hk ht (rSub (rAdd (rLe (rGe ibNil)))))
  vl := ⟨11, 10, 1, 0, [.oi 12]⟩ :: (szL t ++ [])
  vlok := vlS_ hk (szL_ok h hk ht allNil)
  va := [⟨20, 43, 1, [.oi 40], 21, 44⟩]
  vaok := by
    have h2 := h.n6
    as_aux_lemma => exact aN (i := 20) (j := 43) (i' := 21) (j' := 44) (x := .oi 40) (n := k - p.g) (K := .i64) (e := fun m => ((3 * m : Nat) : Int)) (e' := fun m => ((3 * m : Nat) : Int)) allNil (hj := rfl) (hj' := rfl) (hv := rfl) (hv' := rfl) (hl := by omega) (hy := rfl) (h1 := fun _ _ => rfl)
theorem cpV (h : Ok p) (hk : k < p.n) (hg : p.g ≤ k) : ∀ r ∈ ([⟨10, 40, 45, 12, 5, 16, .oi 5⟩] : List CP), denI (ivP p k) r.n = some (.i64, ((min (ivP p k r.k).2.toNat (ivP p k r.j).2.toNat : Nat) : Int)) ∧ (ivP p k r.a).2.toNat + min (ivP p k r.k).2.toNat (ivP p k r.j).2.toNat ≤ vkP p k r.i ∧ vkP p k r.i' ≤ vkP p k r.i ∧
    (∀ m, m < min (ivP p k r.k).2.toNat (ivP p k r.j).2.toNat → ∃ x, vvP p k r.i ((ivP p k r.b).2.toNat + m) = some x) ∧
    ∀ m x, vvP p k r.i' m = some x → ∃ y, (if (ivP p k r.a).2.toNat ≤ m ∧ m < (ivP p k r.a).2.toNat + min (ivP p k r.k).2.toNat (ivP p k r.j).2.toNat then vvP p k r.i ((ivP p k r.b).2.toNat + (m - (ivP p k r.a).2.toNat)) else vvP p k r.i m) = some y ∧ sameAV (ivP p k) y x := by
  refine allCons ?_ (fun r h => nomatch h)
  have e1 : (ivP p k 5).2.toNat = 3 := rfl
  have e2 : (ivP p k 45).2.toNat = 3 * p.n - 3 * (k - p.g) := by show ((3 * p.n - 3 * (k - p.g) : Nat) : Int).toNat = _; rw [Int.toNat_natCast]
  have e3 : (ivP p k 40).2.toNat = 3 * (k - p.g) := by show ((3 * (k - p.g) : Nat) : Int).toNat = _; rw [Int.toNat_natCast]
  have e4 : (ivP p k 12).2.toNat = 3 * k := by show ((3 * k : Nat) : Int).toNat = _; rw [Int.toNat_natCast]
  have e5 : min 3 (3 * p.n - 3 * (k - p.g)) = 3 := by omega
  dsimp only
  rw [e1, e2, e3, e4, e5]
  refine ⟨rfl, by show _ ≤ 3 * p.n; omega, Nat.le_refl _, fun m hm => ⟨.int .u64 (wI (p.W (3 * k + m))), by show numV .u64 (3 * p.n) (fun m => wI (p.W m)) (3 * k + m) = _; unfold numV; rw [if_pos (by omega)]⟩, fun m x hx => ?_⟩
  have hx : numV .u64 (3 * p.n) (fun m => wI (if 3 * (k - p.g) ≤ m ∧ m < 3 * (k - p.g) + 3 then p.W (3 * k + (m - 3 * (k - p.g))) else p.W m)) m = some x := hx
  obtain ⟨hm, rfl⟩ := numV_some hx
  by_cases c : 3 * (k - p.g) ≤ m ∧ m < 3 * (k - p.g) + 3
  · rw [if_pos c]
    refine ⟨.int .u64 (wI (p.W (3 * k + (m - 3 * (k - p.g))))), by show numV .u64 (3 * p.n) (fun m => wI (p.W m)) _ = _; unfold numV; rw [if_pos (by omega)], .inl ?_⟩
    rw [if_pos c]
  · rw [if_neg c]
    refine ⟨.int .u64 (wI (p.W m)), by show numV .u64 (3 * p.n) (fun m => wI (p.W m)) _ = _; unfold numV; rw [if_pos (by omega)], .inl ?_⟩
    rw [if_neg c]
theorem isL (n : Nat) : isLen ((IntKind.i64, (n : Int)) : IntKind × Int) := ⟨rfl, Int.natCast_nonneg _⟩
noncomputable abbrev MV (p : Pc) (k : Nat) (h : Ok p) (hk : k < p.n) (hg : p.g ≤ k) : Mw p k where
  ml := [(5, .oi 13, .oi 41, true)]
  mlok := allCons ⟨((3 * k + 1 : Nat) : Int), rfl, (fun e => ⟨((3 * (k - p.g) + 1 : Nat) : Int), rfl, mapL_toM hg (by unfold Pc.cnt; omega)⟩), fun e => by cases e⟩ (fun r h => nomatch h)
  vo := [(2, 40, 45), (15, 12, 5)]
  vook := allCons ⟨isL _, isL _, by show (0 : Int) < ((3 * p.n - 3 * (k - p.g) : Nat) : Int); omega, by show ((3 * p.n : Nat) : Int) = ((3 * (k - p.g) : Nat) : Int) + ((3 * p.n - 3 * (k - p.g) : Nat) : Int); omega⟩ (allCons ⟨isL _, isL _, by show (0 : Int) < ((3 : Nat) : Int); decide, by show ((3 * k + 3 : Nat) : Int) = ((3 * k : Nat) : Int) + ((3 : Nat) : Int); omega⟩ (fun r h => nomatch h))
  cp := [⟨10, 40, 45, 12, 5, 16, .oi 5⟩]
  cpok := cpV h hk hg
noncomputable abbrev MW (p : Pc) (k : Nat) (hg : k < p.g) : Mw p k where
  ml := [(5, .oi 13, .int .i64 0, false)]
  mlok := allCons ⟨((3 * k + 1 : Nat) : Int), rfl, (fun e => by cases e), fun _ => mapL_toN fun j hj => by omega⟩ (fun r h => nomatch h)
/- the end -/
noncomputable abbrev RX1 (p : Pc) (k : Nat) (h : Ok p) : RwP p k where
  vvp := vvPp p k
  ib := [(12, .oi 4, .oi 2, .bool true), (14, .oi 4, .int .i64 0, .bool true)]
  ibok := by
    have h1 : p.cnt = p.n - p.g := rfl
    as_aux_lemma => exact rLe (rGe ibNil)
noncomputable abbrev MX1 (p : Pc) (k : Nat) (h : Ok p) (hg : 0 < p.g) : Mw p k where
  vo := [(2, 4, 46)]
  vook := by
    have h1 : p.cnt = p.n - p.g := rfl
    have h2 := h.g2
    exact allCons ⟨isL _, isL _, by show (0 : Int) < ((3 * p.n - 3 * p.cnt : Nat) : Int); omega, by show ((3 * p.n : Nat) : Int) = ((3 * p.cnt : Nat) : Int) + ((3 * p.n - 3 * p.cnt : Nat) : Int); omega⟩ (fun r h => nomatch h)
  cl := [⟨10, 4, 46, .int .u64 0, 25⟩]
  clok := by
    have h1 : p.cnt = p.n - p.g := rfl
    refine allCons ⟨?_, Nat.le_refl _, fun m x hx => by cases hx⟩ (fun r h => nomatch h)
    show ((3 * p.cnt : Nat) : Int).toNat + ((3 * p.n - 3 * p.cnt : Nat) : Int).toNat ≤ 3 * p.n
    rw [Int.toNat_natCast, Int.toNat_natCast]; omega
noncomputable abbrev RX2 (p : Pc) (k : Nat) (h : Ok p) : RwP p k where
  vvp := vvPp p k
  ib := [(12, .oi 2, .oi 2, .bool true), (14, .oi 2, .int .i64 0, .bool true)]
  ibok := by as_aux_lemma => exact rLe (rGe ibNil)
end
end Go.Proofs.YtbabfeloandpdaaGreatDoor.cc
