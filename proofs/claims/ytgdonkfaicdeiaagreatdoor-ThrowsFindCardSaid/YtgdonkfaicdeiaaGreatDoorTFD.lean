/-
  Tables for the law ThrowsFind.
-/
import Derived.Test.YtgdonkfaicdeiaaGreatDoorTFC
set_option linter.unusedVariables false
set_option linter.unusedSimpArgs false
set_option maxRecDepth 100000
namespace Go.Proofs.YtgdonkfaicdeiaaGreatDoor.find
open Go.X Go.RowKit
section
variable {b o cap N n : Nat} {p x : Int} {z : Nat → Int} {K : List Hd} {w0 w : World} {a : Act}
noncomputable abbrev KH : Hand := sumsHand tabG
abbrev plA (b o cap N : Nat) (p x : Int) (z : Nat → Int) (K : List Hd) (n : Nat) : Tab := (bare (ivA N p x z K n) (vvA K (K ++ [el z n])) (vkA K (K ++ [el z n])) vvAp).ftab (fgn b o cap N z) [] (by exact fun _ h => nomatch h)
noncomputable abbrev bsV : BS := [(0, 0, .vec 0)]
theorem ipF {T T' : Tab} (h1 : T'.fb 0 = T.fb 0) (h2 : T'.fcap 0 = T.fcap 0) : IpOk1 T T' (.fo 0 1 4, 0) := ⟨h1, h2⟩
theorem fint {i m : Nat} {q : AV} (h : (fgn b o cap N z).fv i m = some q) : ∃ k n, q = .int k n := by
  match i, h with
  | 0, h => exact ⟨_, _, (numV_some h).2⟩
  | (i + 1), h => cases h
theorem kl_keep (h : (el z n).kept) : kl z (n + 1) = kl z n ++ [el z n] := by
  show (if (el z n).kept then kl z n ++ [el z n] else kl z n) = _
  rw [if_pos h]
theorem kl_drop (h : ¬ (el z n).kept) : kl z (n + 1) = kl z n := by
  show (if (el z n).kept then kl z n ++ [el z n] else kl z n) = kl z n
  rw [if_neg h]
theorem rA00 {N n : Nat} {p x : Int} {z : Nat → Int} {K : List Hd} (hn : n < N) (h8 : n < 8) (t0 : z (n * 4 + 3) < 0) (k0 : z (n * 4) ≥ 0) (k1 : z (n * 4) < z (n * 4 + 1)) (k2 : z (n * 4 + 2) ≥ 0) : ∀ r ∈ ([(11, .oi 4, .oi 1, .bool true), (14, .oi 4, cI 0, .bool true), (11, .oi 4, cI 8, .bool true), (0, .oi 4, cI 1, .oi 15), (11, .oi 13, cI 0, .bool true), (14, .oi 10, cI 0, .bool true), (11, .oi 10, .oi 11, .bool true), (14, .oi 12, cI 0, .bool true)] : List BRow), IbOk (ivA N p x z K n) r := by
  letI := Tab.empty
  exact (ibCons (ibLt (a := ((n : Int))) (b := ((N : Int))) rfl rfl (decide_eq_true (by omega))) (ibCons (ibGe (a := ((n : Int))) (b := (0)) rfl rfl (decide_eq_true (by omega))) (ibCons (ibLt (a := ((n : Int))) (b := (8)) rfl rfl (decide_eq_true (by omega))) (ibCons (ibAdd (a := ((n : Int))) (b := (1)) (c := (((n + 1 : Nat) : Int))) rfl rfl rfl (by omega) (by omega) (by omega)) (ibCons (ibLt (a := (z (n * 4 + 3))) (b := (0)) rfl rfl (decide_eq_true (by omega))) (ibCons (ibGe (a := (z (n * 4))) (b := (0)) rfl rfl (decide_eq_true (by omega))) (ibCons (ibLt (a := (z (n * 4))) (b := (z (n * 4 + 1))) rfl rfl (decide_eq_true (by omega))) (ibCons (ibGe (a := (z (n * 4 + 2))) (b := (0)) rfl rfl (decide_eq_true (by omega))) ibNil))))))))
abbrev RA000 (hn : n < N) (h8 : n < 8) (t0 : z (n * 4 + 3) < 0) (k0 : z (n * 4) ≥ 0) (k1 : z (n * 4) < z (n * 4 + 1)) (k2 : z (n * 4 + 2) ≥ 0) : VRows (ivA N p x z [] n) (vvA [] ([] ++ [el z n])) (vkA [] ([] ++ [el z n])) where
  vvp := vvAp
  ib := [(11, .oi 4, .oi 1, .bool true), (14, .oi 4, cI 0, .bool true), (11, .oi 4, cI 8, .bool true), (0, .oi 4, cI 1, .oi 15), (11, .oi 13, cI 0, .bool true), (14, .oi 10, cI 0, .bool true), (11, .oi 10, .oi 11, .bool true), (14, .oi 12, cI 0, .bool true)]
  ibok := rA00 hn h8 t0 k0 k1 k2
abbrev RA001 (hn : n < N) (h8 : n < 8) (t0 : z (n * 4 + 3) < 0) (k0 : z (n * 4) ≥ 0) (k1 : z (n * 4) < z (n * 4 + 1)) (k2 : z (n * 4 + 2) ≥ 0) (hl : K.length < 1000) : VRows (ivA N p x z K n) (vvA K (K ++ [el z n])) (vkA K (K ++ [el z n])) where
  vvp := vvAp
  ib := [(11, .oi 4, .oi 1, .bool true), (14, .oi 4, cI 0, .bool true), (11, .oi 4, cI 8, .bool true), (0, .oi 4, cI 1, .oi 15), (11, .oi 13, cI 0, .bool true), (14, .oi 10, cI 0, .bool true), (11, .oi 10, .oi 11, .bool true), (14, .oi 12, cI 0, .bool true)]
  ibok := rA00 hn h8 t0 k0 k1 k2
  va := [⟨0, 5, 4, [.oi 10, .oi 11, .oi 12, cI 0], 1, 6⟩]
  vaok := va_ok hl (by show some _ = _; rw [ty2, if_pos (Or.inl t0)]) rfl
theorem rA01 {N n : Nat} {p x : Int} {z : Nat → Int} {K : List Hd} (hn : n < N) (h8 : n < 8) (t0 : z (n * 4 + 3) < 0) (k0 : ¬ z (n * 4) ≥ 0) : ∀ r ∈ ([(11, .oi 4, .oi 1, .bool true), (14, .oi 4, cI 0, .bool true), (11, .oi 4, cI 8, .bool true), (0, .oi 4, cI 1, .oi 15), (11, .oi 13, cI 0, .bool true), (14, .oi 10, cI 0, .bool false)] : List BRow), IbOk (ivA N p x z K n) r := by
  letI := Tab.empty
  exact (ibCons (ibLt (a := ((n : Int))) (b := ((N : Int))) rfl rfl (decide_eq_true (by omega))) (ibCons (ibGe (a := ((n : Int))) (b := (0)) rfl rfl (decide_eq_true (by omega))) (ibCons (ibLt (a := ((n : Int))) (b := (8)) rfl rfl (decide_eq_true (by omega))) (ibCons (ibAdd (a := ((n : Int))) (b := (1)) (c := (((n + 1 : Nat) : Int))) rfl rfl rfl (by omega) (by omega) (by omega)) (ibCons (ibLt (a := (z (n * 4 + 3))) (b := (0)) rfl rfl (decide_eq_true (by omega))) (ibCons (ibGe (a := (z (n * 4))) (b := (0)) rfl rfl (decide_eq_false (by omega))) ibNil))))))
abbrev RA010 (hn : n < N) (h8 : n < 8) (t0 : z (n * 4 + 3) < 0) (k0 : ¬ z (n * 4) ≥ 0) : VRows (ivA N p x z [] n) (vvA [] ([] ++ [el z n])) (vkA [] ([] ++ [el z n])) where
  vvp := vvAp
  ib := [(11, .oi 4, .oi 1, .bool true), (14, .oi 4, cI 0, .bool true), (11, .oi 4, cI 8, .bool true), (0, .oi 4, cI 1, .oi 15), (11, .oi 13, cI 0, .bool true), (14, .oi 10, cI 0, .bool false)]
  ibok := rA01 hn h8 t0 k0
abbrev RA011 (hn : n < N) (h8 : n < 8) (t0 : z (n * 4 + 3) < 0) (k0 : ¬ z (n * 4) ≥ 0) : VRows (ivA N p x z K n) (vvA K (K ++ [el z n])) (vkA K (K ++ [el z n])) where
  vvp := vvAp
  ib := [(11, .oi 4, .oi 1, .bool true), (14, .oi 4, cI 0, .bool true), (11, .oi 4, cI 8, .bool true), (0, .oi 4, cI 1, .oi 15), (11, .oi 13, cI 0, .bool true), (14, .oi 10, cI 0, .bool false)]
  ibok := rA01 hn h8 t0 k0
theorem rA02 {N n : Nat} {p x : Int} {z : Nat → Int} {K : List Hd} (hn : n < N) (h8 : n < 8) (t0 : z (n * 4 + 3) < 0) (k0 : z (n * 4) ≥ 0) (k1 : ¬ z (n * 4) < z (n * 4 + 1)) : ∀ r ∈ ([(11, .oi 4, .oi 1, .bool true), (14, .oi 4, cI 0, .bool true), (11, .oi 4, cI 8, .bool true), (0, .oi 4, cI 1, .oi 15), (11, .oi 13, cI 0, .bool true), (14, .oi 10, cI 0, .bool true), (11, .oi 10, .oi 11, .bool false)] : List BRow), IbOk (ivA N p x z K n) r := by
  letI := Tab.empty
  exact (ibCons (ibLt (a := ((n : Int))) (b := ((N : Int))) rfl rfl (decide_eq_true (by omega))) (ibCons (ibGe (a := ((n : Int))) (b := (0)) rfl rfl (decide_eq_true (by omega))) (ibCons (ibLt (a := ((n : Int))) (b := (8)) rfl rfl (decide_eq_true (by omega))) (ibCons (ibAdd (a := ((n : Int))) (b := (1)) (c := (((n + 1 : Nat) : Int))) rfl rfl rfl (by omega) (by omega) (by omega)) (ibCons (ibLt (a := (z (n * 4 + 3))) (b := (0)) rfl rfl (decide_eq_true (by omega))) (ibCons (ibGe (a := (z (n * 4))) (b := (0)) rfl rfl (decide_eq_true (by omega))) (ibCons (ibLt (a := (z (n * 4))) (b := (z (n * 4 + 1))) rfl rfl (decide_eq_false (by omega))) ibNil)))))))
abbrev RA020 (hn : n < N) (h8 : n < 8) (t0 : z (n * 4 + 3) < 0) (k0 : z (n * 4) ≥ 0) (k1 : ¬ z (n * 4) < z (n * 4 + 1)) : VRows (ivA N p x z [] n) (vvA [] ([] ++ [el z n])) (vkA [] ([] ++ [el z n])) where
  vvp := vvAp
  ib := [(11, .oi 4, .oi 1, .bool true), (14, .oi 4, cI 0, .bool true), (11, .oi 4, cI 8, .bool true), (0, .oi 4, cI 1, .oi 15), (11, .oi 13, cI 0, .bool true), (14, .oi 10, cI 0, .bool true), (11, .oi 10, .oi 11, .bool false)]
  ibok := rA02 hn h8 t0 k0 k1
abbrev RA021 (hn : n < N) (h8 : n < 8) (t0 : z (n * 4 + 3) < 0) (k0 : z (n * 4) ≥ 0) (k1 : ¬ z (n * 4) < z (n * 4 + 1)) : VRows (ivA N p x z K n) (vvA K (K ++ [el z n])) (vkA K (K ++ [el z n])) where
  vvp := vvAp
  ib := [(11, .oi 4, .oi 1, .bool true), (14, .oi 4, cI 0, .bool true), (11, .oi 4, cI 8, .bool true), (0, .oi 4, cI 1, .oi 15), (11, .oi 13, cI 0, .bool true), (14, .oi 10, cI 0, .bool true), (11, .oi 10, .oi 11, .bool false)]
  ibok := rA02 hn h8 t0 k0 k1
theorem rA03 {N n : Nat} {p x : Int} {z : Nat → Int} {K : List Hd} (hn : n < N) (h8 : n < 8) (t0 : z (n * 4 + 3) < 0) (k0 : z (n * 4) ≥ 0) (k1 : z (n * 4) < z (n * 4 + 1)) (k2 : ¬ z (n * 4 + 2) ≥ 0) : ∀ r ∈ ([(11, .oi 4, .oi 1, .bool true), (14, .oi 4, cI 0, .bool true), (11, .oi 4, cI 8, .bool true), (0, .oi 4, cI 1, .oi 15), (11, .oi 13, cI 0, .bool true), (14, .oi 10, cI 0, .bool true), (11, .oi 10, .oi 11, .bool true), (14, .oi 12, cI 0, .bool false)] : List BRow), IbOk (ivA N p x z K n) r := by
  letI := Tab.empty
  exact (ibCons (ibLt (a := ((n : Int))) (b := ((N : Int))) rfl rfl (decide_eq_true (by omega))) (ibCons (ibGe (a := ((n : Int))) (b := (0)) rfl rfl (decide_eq_true (by omega))) (ibCons (ibLt (a := ((n : Int))) (b := (8)) rfl rfl (decide_eq_true (by omega))) (ibCons (ibAdd (a := ((n : Int))) (b := (1)) (c := (((n + 1 : Nat) : Int))) rfl rfl rfl (by omega) (by omega) (by omega)) (ibCons (ibLt (a := (z (n * 4 + 3))) (b := (0)) rfl rfl (decide_eq_true (by omega))) (ibCons (ibGe (a := (z (n * 4))) (b := (0)) rfl rfl (decide_eq_true (by omega))) (ibCons (ibLt (a := (z (n * 4))) (b := (z (n * 4 + 1))) rfl rfl (decide_eq_true (by omega))) (ibCons (ibGe (a := (z (n * 4 + 2))) (b := (0)) rfl rfl (decide_eq_false (by omega))) ibNil))))))))
abbrev RA030 (hn : n < N) (h8 : n < 8) (t0 : z (n * 4 + 3) < 0) (k0 : z (n * 4) ≥ 0) (k1 : z (n * 4) < z (n * 4 + 1)) (k2 : ¬ z (n * 4 + 2) ≥ 0) : VRows (ivA N p x z [] n) (vvA [] ([] ++ [el z n])) (vkA [] ([] ++ [el z n])) where
  vvp := vvAp
  ib := [(11, .oi 4, .oi 1, .bool true), (14, .oi 4, cI 0, .bool true), (11, .oi 4, cI 8, .bool true), (0, .oi 4, cI 1, .oi 15), (11, .oi 13, cI 0, .bool true), (14, .oi 10, cI 0, .bool true), (11, .oi 10, .oi 11, .bool true), (14, .oi 12, cI 0, .bool false)]
  ibok := rA03 hn h8 t0 k0 k1 k2
abbrev RA031 (hn : n < N) (h8 : n < 8) (t0 : z (n * 4 + 3) < 0) (k0 : z (n * 4) ≥ 0) (k1 : z (n * 4) < z (n * 4 + 1)) (k2 : ¬ z (n * 4 + 2) ≥ 0) : VRows (ivA N p x z K n) (vvA K (K ++ [el z n])) (vkA K (K ++ [el z n])) where
  vvp := vvAp
  ib := [(11, .oi 4, .oi 1, .bool true), (14, .oi 4, cI 0, .bool true), (11, .oi 4, cI 8, .bool true), (0, .oi 4, cI 1, .oi 15), (11, .oi 13, cI 0, .bool true), (14, .oi 10, cI 0, .bool true), (11, .oi 10, .oi 11, .bool true), (14, .oi 12, cI 0, .bool false)]
  ibok := rA03 hn h8 t0 k0 k1 k2
theorem rA10 {N n : Nat} {p x : Int} {z : Nat → Int} {K : List Hd} (hn : n < N) (h8 : n < 8) (t0 : ¬ z (n * 4 + 3) < 0) (t1 : z (n * 4 + 3) > 5) (k0 : z (n * 4) ≥ 0) (k1 : z (n * 4) < z (n * 4 + 1)) (k2 : z (n * 4 + 2) ≥ 0) : ∀ r ∈ ([(11, .oi 4, .oi 1, .bool true), (14, .oi 4, cI 0, .bool true), (11, .oi 4, cI 8, .bool true), (0, .oi 4, cI 1, .oi 15), (11, .oi 13, cI 0, .bool false), (13, .oi 13, cI 5, .bool true), (14, .oi 10, cI 0, .bool true), (11, .oi 10, .oi 11, .bool true), (14, .oi 12, cI 0, .bool true)] : List BRow), IbOk (ivA N p x z K n) r := by
  letI := Tab.empty
  exact (ibCons (ibLt (a := ((n : Int))) (b := ((N : Int))) rfl rfl (decide_eq_true (by omega))) (ibCons (ibGe (a := ((n : Int))) (b := (0)) rfl rfl (decide_eq_true (by omega))) (ibCons (ibLt (a := ((n : Int))) (b := (8)) rfl rfl (decide_eq_true (by omega))) (ibCons (ibAdd (a := ((n : Int))) (b := (1)) (c := (((n + 1 : Nat) : Int))) rfl rfl rfl (by omega) (by omega) (by omega)) (ibCons (ibLt (a := (z (n * 4 + 3))) (b := (0)) rfl rfl (decide_eq_false (by omega))) (ibCons (ibGt (a := (z (n * 4 + 3))) (b := (5)) rfl rfl (decide_eq_true (by omega))) (ibCons (ibGe (a := (z (n * 4))) (b := (0)) rfl rfl (decide_eq_true (by omega))) (ibCons (ibLt (a := (z (n * 4))) (b := (z (n * 4 + 1))) rfl rfl (decide_eq_true (by omega))) (ibCons (ibGe (a := (z (n * 4 + 2))) (b := (0)) rfl rfl (decide_eq_true (by omega))) ibNil)))))))))
abbrev RA100 (hn : n < N) (h8 : n < 8) (t0 : ¬ z (n * 4 + 3) < 0) (t1 : z (n * 4 + 3) > 5) (k0 : z (n * 4) ≥ 0) (k1 : z (n * 4) < z (n * 4 + 1)) (k2 : z (n * 4 + 2) ≥ 0) : VRows (ivA N p x z [] n) (vvA [] ([] ++ [el z n])) (vkA [] ([] ++ [el z n])) where
  vvp := vvAp
  ib := [(11, .oi 4, .oi 1, .bool true), (14, .oi 4, cI 0, .bool true), (11, .oi 4, cI 8, .bool true), (0, .oi 4, cI 1, .oi 15), (11, .oi 13, cI 0, .bool false), (13, .oi 13, cI 5, .bool true), (14, .oi 10, cI 0, .bool true), (11, .oi 10, .oi 11, .bool true), (14, .oi 12, cI 0, .bool true)]
  ibok := rA10 hn h8 t0 t1 k0 k1 k2
abbrev RA101 (hn : n < N) (h8 : n < 8) (t0 : ¬ z (n * 4 + 3) < 0) (t1 : z (n * 4 + 3) > 5) (k0 : z (n * 4) ≥ 0) (k1 : z (n * 4) < z (n * 4 + 1)) (k2 : z (n * 4 + 2) ≥ 0) (hl : K.length < 1000) : VRows (ivA N p x z K n) (vvA K (K ++ [el z n])) (vkA K (K ++ [el z n])) where
  vvp := vvAp
  ib := [(11, .oi 4, .oi 1, .bool true), (14, .oi 4, cI 0, .bool true), (11, .oi 4, cI 8, .bool true), (0, .oi 4, cI 1, .oi 15), (11, .oi 13, cI 0, .bool false), (13, .oi 13, cI 5, .bool true), (14, .oi 10, cI 0, .bool true), (11, .oi 10, .oi 11, .bool true), (14, .oi 12, cI 0, .bool true)]
  ibok := rA10 hn h8 t0 t1 k0 k1 k2
  va := [⟨0, 5, 4, [.oi 10, .oi 11, .oi 12, cI 0], 1, 6⟩]
  vaok := va_ok hl (by show some _ = _; rw [ty2, if_pos (Or.inr t1)]) rfl
theorem rA11 {N n : Nat} {p x : Int} {z : Nat → Int} {K : List Hd} (hn : n < N) (h8 : n < 8) (t0 : ¬ z (n * 4 + 3) < 0) (t1 : z (n * 4 + 3) > 5) (k0 : ¬ z (n * 4) ≥ 0) : ∀ r ∈ ([(11, .oi 4, .oi 1, .bool true), (14, .oi 4, cI 0, .bool true), (11, .oi 4, cI 8, .bool true), (0, .oi 4, cI 1, .oi 15), (11, .oi 13, cI 0, .bool false), (13, .oi 13, cI 5, .bool true), (14, .oi 10, cI 0, .bool false)] : List BRow), IbOk (ivA N p x z K n) r := by
  letI := Tab.empty
  exact (ibCons (ibLt (a := ((n : Int))) (b := ((N : Int))) rfl rfl (decide_eq_true (by omega))) (ibCons (ibGe (a := ((n : Int))) (b := (0)) rfl rfl (decide_eq_true (by omega))) (ibCons (ibLt (a := ((n : Int))) (b := (8)) rfl rfl (decide_eq_true (by omega))) (ibCons (ibAdd (a := ((n : Int))) (b := (1)) (c := (((n + 1 : Nat) : Int))) rfl rfl rfl (by omega) (by omega) (by omega)) (ibCons (ibLt (a := (z (n * 4 + 3))) (b := (0)) rfl rfl (decide_eq_false (by omega))) (ibCons (ibGt (a := (z (n * 4 + 3))) (b := (5)) rfl rfl (decide_eq_true (by omega))) (ibCons (ibGe (a := (z (n * 4))) (b := (0)) rfl rfl (decide_eq_false (by omega))) ibNil)))))))
abbrev RA110 (hn : n < N) (h8 : n < 8) (t0 : ¬ z (n * 4 + 3) < 0) (t1 : z (n * 4 + 3) > 5) (k0 : ¬ z (n * 4) ≥ 0) : VRows (ivA N p x z [] n) (vvA [] ([] ++ [el z n])) (vkA [] ([] ++ [el z n])) where
  vvp := vvAp
  ib := [(11, .oi 4, .oi 1, .bool true), (14, .oi 4, cI 0, .bool true), (11, .oi 4, cI 8, .bool true), (0, .oi 4, cI 1, .oi 15), (11, .oi 13, cI 0, .bool false), (13, .oi 13, cI 5, .bool true), (14, .oi 10, cI 0, .bool false)]
  ibok := rA11 hn h8 t0 t1 k0
abbrev RA111 (hn : n < N) (h8 : n < 8) (t0 : ¬ z (n * 4 + 3) < 0) (t1 : z (n * 4 + 3) > 5) (k0 : ¬ z (n * 4) ≥ 0) : VRows (ivA N p x z K n) (vvA K (K ++ [el z n])) (vkA K (K ++ [el z n])) where
  vvp := vvAp
  ib := [(11, .oi 4, .oi 1, .bool true), (14, .oi 4, cI 0, .bool true), (11, .oi 4, cI 8, .bool true), (0, .oi 4, cI 1, .oi 15), (11, .oi 13, cI 0, .bool false), (13, .oi 13, cI 5, .bool true), (14, .oi 10, cI 0, .bool false)]
  ibok := rA11 hn h8 t0 t1 k0
theorem rA12 {N n : Nat} {p x : Int} {z : Nat → Int} {K : List Hd} (hn : n < N) (h8 : n < 8) (t0 : ¬ z (n * 4 + 3) < 0) (t1 : z (n * 4 + 3) > 5) (k0 : z (n * 4) ≥ 0) (k1 : ¬ z (n * 4) < z (n * 4 + 1)) : ∀ r ∈ ([(11, .oi 4, .oi 1, .bool true), (14, .oi 4, cI 0, .bool true), (11, .oi 4, cI 8, .bool true), (0, .oi 4, cI 1, .oi 15), (11, .oi 13, cI 0, .bool false), (13, .oi 13, cI 5, .bool true), (14, .oi 10, cI 0, .bool true), (11, .oi 10, .oi 11, .bool false)] : List BRow), IbOk (ivA N p x z K n) r := by
  letI := Tab.empty
  exact (ibCons (ibLt (a := ((n : Int))) (b := ((N : Int))) rfl rfl (decide_eq_true (by omega))) (ibCons (ibGe (a := ((n : Int))) (b := (0)) rfl rfl (decide_eq_true (by omega))) (ibCons (ibLt (a := ((n : Int))) (b := (8)) rfl rfl (decide_eq_true (by omega))) (ibCons (ibAdd (a := ((n : Int))) (b := (1)) (c := (((n + 1 : Nat) : Int))) rfl rfl rfl (by omega) (by omega) (by omega)) (ibCons (ibLt (a := (z (n * 4 + 3))) (b := (0)) rfl rfl (decide_eq_false (by omega))) (ibCons (ibGt (a := (z (n * 4 + 3))) (b := (5)) rfl rfl (decide_eq_true (by omega))) (ibCons (ibGe (a := (z (n * 4))) (b := (0)) rfl rfl (decide_eq_true (by omega))) (ibCons (ibLt (a := (z (n * 4))) (b := (z (n * 4 + 1))) rfl rfl (decide_eq_false (by omega))) ibNil))))))))
abbrev RA120 (hn : n < N) (h8 : n < 8) (t0 : ¬ z (n * 4 + 3) < 0) (t1 : z (n * 4 + 3) > 5) (k0 : z (n * 4) ≥ 0) (k1 : ¬ z (n * 4) < z (n * 4 + 1)) : VRows (ivA N p x z [] n) (vvA [] ([] ++ [el z n])) (vkA [] ([] ++ [el z n])) where
  vvp := vvAp
  ib := [(11, .oi 4, .oi 1, .bool true), (14, .oi 4, cI 0, .bool true), (11, .oi 4, cI 8, .bool true), (0, .oi 4, cI 1, .oi 15), (11, .oi 13, cI 0, .bool false), (13, .oi 13, cI 5, .bool true), (14, .oi 10, cI 0, .bool true), (11, .oi 10, .oi 11, .bool false)]
  ibok := rA12 hn h8 t0 t1 k0 k1
abbrev RA121 (hn : n < N) (h8 : n < 8) (t0 : ¬ z (n * 4 + 3) < 0) (t1 : z (n * 4 + 3) > 5) (k0 : z (n * 4) ≥ 0) (k1 : ¬ z (n * 4) < z (n * 4 + 1)) : VRows (ivA N p x z K n) (vvA K (K ++ [el z n])) (vkA K (K ++ [el z n])) where
  vvp := vvAp
  ib := [(11, .oi 4, .oi 1, .bool true), (14, .oi 4, cI 0, .bool true), (11, .oi 4, cI 8, .bool true), (0, .oi 4, cI 1, .oi 15), (11, .oi 13, cI 0, .bool false), (13, .oi 13, cI 5, .bool true), (14, .oi 10, cI 0, .bool true), (11, .oi 10, .oi 11, .bool false)]
  ibok := rA12 hn h8 t0 t1 k0 k1
theorem rA13 {N n : Nat} {p x : Int} {z : Nat → Int} {K : List Hd} (hn : n < N) (h8 : n < 8) (t0 : ¬ z (n * 4 + 3) < 0) (t1 : z (n * 4 + 3) > 5) (k0 : z (n * 4) ≥ 0) (k1 : z (n * 4) < z (n * 4 + 1)) (k2 : ¬ z (n * 4 + 2) ≥ 0) : ∀ r ∈ ([(11, .oi 4, .oi 1, .bool true), (14, .oi 4, cI 0, .bool true), (11, .oi 4, cI 8, .bool true), (0, .oi 4, cI 1, .oi 15), (11, .oi 13, cI 0, .bool false), (13, .oi 13, cI 5, .bool true), (14, .oi 10, cI 0, .bool true), (11, .oi 10, .oi 11, .bool true), (14, .oi 12, cI 0, .bool false)] : List BRow), IbOk (ivA N p x z K n) r := by
  letI := Tab.empty
  exact (ibCons (ibLt (a := ((n : Int))) (b := ((N : Int))) rfl rfl (decide_eq_true (by omega))) (ibCons (ibGe (a := ((n : Int))) (b := (0)) rfl rfl (decide_eq_true (by omega))) (ibCons (ibLt (a := ((n : Int))) (b := (8)) rfl rfl (decide_eq_true (by omega))) (ibCons (ibAdd (a := ((n : Int))) (b := (1)) (c := (((n + 1 : Nat) : Int))) rfl rfl rfl (by omega) (by omega) (by omega)) (ibCons (ibLt (a := (z (n * 4 + 3))) (b := (0)) rfl rfl (decide_eq_false (by omega))) (ibCons (ibGt (a := (z (n * 4 + 3))) (b := (5)) rfl rfl (decide_eq_true (by omega))) (ibCons (ibGe (a := (z (n * 4))) (b := (0)) rfl rfl (decide_eq_true (by omega))) (ibCons (ibLt (a := (z (n * 4))) (b := (z (n * 4 + 1))) rfl rfl (decide_eq_true (by omega))) (ibCons (ibGe (a := (z (n * 4 + 2))) (b := (0)) rfl rfl (decide_eq_false (by omega))) ibNil)))))))))
abbrev RA130 (hn : n < N) (h8 : n < 8) (t0 : ¬ z (n * 4 + 3) < 0) (t1 : z (n * 4 + 3) > 5) (k0 : z (n * 4) ≥ 0) (k1 : z (n * 4) < z (n * 4 + 1)) (k2 : ¬ z (n * 4 + 2) ≥ 0) : VRows (ivA N p x z [] n) (vvA [] ([] ++ [el z n])) (vkA [] ([] ++ [el z n])) where
  vvp := vvAp
  ib := [(11, .oi 4, .oi 1, .bool true), (14, .oi 4, cI 0, .bool true), (11, .oi 4, cI 8, .bool true), (0, .oi 4, cI 1, .oi 15), (11, .oi 13, cI 0, .bool false), (13, .oi 13, cI 5, .bool true), (14, .oi 10, cI 0, .bool true), (11, .oi 10, .oi 11, .bool true), (14, .oi 12, cI 0, .bool false)]
  ibok := rA13 hn h8 t0 t1 k0 k1 k2
abbrev RA131 (hn : n < N) (h8 : n < 8) (t0 : ¬ z (n * 4 + 3) < 0) (t1 : z (n * 4 + 3) > 5) (k0 : z (n * 4) ≥ 0) (k1 : z (n * 4) < z (n * 4 + 1)) (k2 : ¬ z (n * 4 + 2) ≥ 0) : VRows (ivA N p x z K n) (vvA K (K ++ [el z n])) (vkA K (K ++ [el z n])) where
  vvp := vvAp
  ib := [(11, .oi 4, .oi 1, .bool true), (14, .oi 4, cI 0, .bool true), (11, .oi 4, cI 8, .bool true), (0, .oi 4, cI 1, .oi 15), (11, .oi 13, cI 0, .bool false), (13, .oi 13, cI 5, .bool true), (14, .oi 10, cI 0, .bool true), (11, .oi 10, .oi 11, .bool true), (14, .oi 12, cI 0, .bool false)]
  ibok := rA13 hn h8 t0 t1 k0 k1 k2
theorem rA20 {N n : Nat} {p x : Int} {z : Nat → Int} {K : List Hd} (hn : n < N) (h8 : n < 8) (t0 : ¬ z (n * 4 + 3) < 0) (t1 : ¬ z (n * 4 + 3) > 5) (k0 : z (n * 4) ≥ 0) (k1 : z (n * 4) < z (n * 4 + 1)) (k2 : z (n * 4 + 2) ≥ 0) : ∀ r ∈ ([(11, .oi 4, .oi 1, .bool true), (14, .oi 4, cI 0, .bool true), (11, .oi 4, cI 8, .bool true), (0, .oi 4, cI 1, .oi 15), (11, .oi 13, cI 0, .bool false), (13, .oi 13, cI 5, .bool false), (2, .oi 13, cI 2, .oi 14), (14, .oi 10, cI 0, .bool true), (11, .oi 10, .oi 11, .bool true), (14, .oi 12, cI 0, .bool true)] : List BRow), IbOk (ivA N p x z K n) r := by
  letI := Tab.empty
  exact (ibCons (ibLt (a := ((n : Int))) (b := ((N : Int))) rfl rfl (decide_eq_true (by omega))) (ibCons (ibGe (a := ((n : Int))) (b := (0)) rfl rfl (decide_eq_true (by omega))) (ibCons (ibLt (a := ((n : Int))) (b := (8)) rfl rfl (decide_eq_true (by omega))) (ibCons (ibAdd (a := ((n : Int))) (b := (1)) (c := (((n + 1 : Nat) : Int))) rfl rfl rfl (by omega) (by omega) (by omega)) (ibCons (ibLt (a := (z (n * 4 + 3))) (b := (0)) rfl rfl (decide_eq_false (by omega))) (ibCons (ibGt (a := (z (n * 4 + 3))) (b := (5)) rfl rfl (decide_eq_false (by omega))) (ibCons (ibMul (a := (z (n * 4 + 3))) (b := (2)) (c := (z (n * 4 + 3) * 2)) rfl rfl rfl (by omega) (by omega) (by omega)) (ibCons (ibGe (a := (z (n * 4))) (b := (0)) rfl rfl (decide_eq_true (by omega))) (ibCons (ibLt (a := (z (n * 4))) (b := (z (n * 4 + 1))) rfl rfl (decide_eq_true (by omega))) (ibCons (ibGe (a := (z (n * 4 + 2))) (b := (0)) rfl rfl (decide_eq_true (by omega))) ibNil))))))))))
abbrev RA200 (hn : n < N) (h8 : n < 8) (t0 : ¬ z (n * 4 + 3) < 0) (t1 : ¬ z (n * 4 + 3) > 5) (k0 : z (n * 4) ≥ 0) (k1 : z (n * 4) < z (n * 4 + 1)) (k2 : z (n * 4 + 2) ≥ 0) : VRows (ivA N p x z [] n) (vvA [] ([] ++ [el z n])) (vkA [] ([] ++ [el z n])) where
  vvp := vvAp
  ib := [(11, .oi 4, .oi 1, .bool true), (14, .oi 4, cI 0, .bool true), (11, .oi 4, cI 8, .bool true), (0, .oi 4, cI 1, .oi 15), (11, .oi 13, cI 0, .bool false), (13, .oi 13, cI 5, .bool false), (2, .oi 13, cI 2, .oi 14), (14, .oi 10, cI 0, .bool true), (11, .oi 10, .oi 11, .bool true), (14, .oi 12, cI 0, .bool true)]
  ibok := rA20 hn h8 t0 t1 k0 k1 k2
abbrev RA201 (hn : n < N) (h8 : n < 8) (t0 : ¬ z (n * 4 + 3) < 0) (t1 : ¬ z (n * 4 + 3) > 5) (k0 : z (n * 4) ≥ 0) (k1 : z (n * 4) < z (n * 4 + 1)) (k2 : z (n * 4 + 2) ≥ 0) (hl : K.length < 1000) : VRows (ivA N p x z K n) (vvA K (K ++ [el z n])) (vkA K (K ++ [el z n])) where
  vvp := vvAp
  ib := [(11, .oi 4, .oi 1, .bool true), (14, .oi 4, cI 0, .bool true), (11, .oi 4, cI 8, .bool true), (0, .oi 4, cI 1, .oi 15), (11, .oi 13, cI 0, .bool false), (13, .oi 13, cI 5, .bool false), (2, .oi 13, cI 2, .oi 14), (14, .oi 10, cI 0, .bool true), (11, .oi 10, .oi 11, .bool true), (14, .oi 12, cI 0, .bool true)]
  ibok := rA20 hn h8 t0 t1 k0 k1 k2
  va := [⟨0, 5, 4, [.oi 10, .oi 11, .oi 12, .oi 14], 1, 6⟩]
  vaok := va_ok hl (by show some _ = _; rw [ty2, if_neg (by omega)]; rfl) rfl
theorem rA21 {N n : Nat} {p x : Int} {z : Nat → Int} {K : List Hd} (hn : n < N) (h8 : n < 8) (t0 : ¬ z (n * 4 + 3) < 0) (t1 : ¬ z (n * 4 + 3) > 5) (k0 : ¬ z (n * 4) ≥ 0) : ∀ r ∈ ([(11, .oi 4, .oi 1, .bool true), (14, .oi 4, cI 0, .bool true), (11, .oi 4, cI 8, .bool true), (0, .oi 4, cI 1, .oi 15), (11, .oi 13, cI 0, .bool false), (13, .oi 13, cI 5, .bool false), (2, .oi 13, cI 2, .oi 14), (14, .oi 10, cI 0, .bool false)] : List BRow), IbOk (ivA N p x z K n) r := by
  letI := Tab.empty
  exact (ibCons (ibLt (a := ((n : Int))) (b := ((N : Int))) rfl rfl (decide_eq_true (by omega))) (ibCons (ibGe (a := ((n : Int))) (b := (0)) rfl rfl (decide_eq_true (by omega))) (ibCons (ibLt (a := ((n : Int))) (b := (8)) rfl rfl (decide_eq_true (by omega))) (ibCons (ibAdd (a := ((n : Int))) (b := (1)) (c := (((n + 1 : Nat) : Int))) rfl rfl rfl (by omega) (by omega) (by omega)) (ibCons (ibLt (a := (z (n * 4 + 3))) (b := (0)) rfl rfl (decide_eq_false (by omega))) (ibCons (ibGt (a := (z (n * 4 + 3))) (b := (5)) rfl rfl (decide_eq_false (by omega))) (ibCons (ibMul (a := (z (n * 4 + 3))) (b := (2)) (c := (z (n * 4 + 3) * 2)) rfl rfl rfl (by omega) (by omega) (by omega)) (ibCons (ibGe (a := (z (n * 4))) (b := (0)) rfl rfl (decide_eq_false (by omega))) ibNil))))))))
abbrev RA210 (hn : n < N) (h8 : n < 8) (t0 : ¬ z (n * 4 + 3) < 0) (t1 : ¬ z (n * 4 + 3) > 5) (k0 : ¬ z (n * 4) ≥ 0) : VRows (ivA N p x z [] n) (vvA [] ([] ++ [el z n])) (vkA [] ([] ++ [el z n])) where
  vvp := vvAp
  ib := [(11, .oi 4, .oi 1, .bool true), (14, .oi 4, cI 0, .bool true), (11, .oi 4, cI 8, .bool true), (0, .oi 4, cI 1, .oi 15), (11, .oi 13, cI 0, .bool false), (13, .oi 13, cI 5, .bool false), (2, .oi 13, cI 2, .oi 14), (14, .oi 10, cI 0, .bool false)]
  ibok := rA21 hn h8 t0 t1 k0
abbrev RA211 (hn : n < N) (h8 : n < 8) (t0 : ¬ z (n * 4 + 3) < 0) (t1 : ¬ z (n * 4 + 3) > 5) (k0 : ¬ z (n * 4) ≥ 0) : VRows (ivA N p x z K n) (vvA K (K ++ [el z n])) (vkA K (K ++ [el z n])) where
  vvp := vvAp
  ib := [(11, .oi 4, .oi 1, .bool true), (14, .oi 4, cI 0, .bool true), (11, .oi 4, cI 8, .bool true), (0, .oi 4, cI 1, .oi 15), (11, .oi 13, cI 0, .bool false), (13, .oi 13, cI 5, .bool false), (2, .oi 13, cI 2, .oi 14), (14, .oi 10, cI 0, .bool false)]
  ibok := rA21 hn h8 t0 t1 k0
theorem rA22 {N n : Nat} {p x : Int} {z : Nat → Int} {K : List Hd} (hn : n < N) (h8 : n < 8) (t0 : ¬ z (n * 4 + 3) < 0) (t1 : ¬ z (n * 4 + 3) > 5) (k0 : z (n * 4) ≥ 0) (k1 : ¬ z (n * 4) < z (n * 4 + 1)) : ∀ r ∈ ([(11, .oi 4, .oi 1, .bool true), (14, .oi 4, cI 0, .bool true), (11, .oi 4, cI 8, .bool true), (0, .oi 4, cI 1, .oi 15), (11, .oi 13, cI 0, .bool false), (13, .oi 13, cI 5, .bool false), (2, .oi 13, cI 2, .oi 14), (14, .oi 10, cI 0, .bool true), (11, .oi 10, .oi 11, .bool false)] : List BRow), IbOk (ivA N p x z K n) r := by
  letI := Tab.empty
  exact (ibCons (ibLt (a := ((n : Int))) (b := ((N : Int))) rfl rfl (decide_eq_true (by omega))) (ibCons (ibGe (a := ((n : Int))) (b := (0)) rfl rfl (decide_eq_true (by omega))) (ibCons (ibLt (a := ((n : Int))) (b := (8)) rfl rfl (decide_eq_true (by omega))) (ibCons (ibAdd (a := ((n : Int))) (b := (1)) (c := (((n + 1 : Nat) : Int))) rfl rfl rfl (by omega) (by omega) (by omega)) (ibCons (ibLt (a := (z (n * 4 + 3))) (b := (0)) rfl rfl (decide_eq_false (by omega))) (ibCons (ibGt (a := (z (n * 4 + 3))) (b := (5)) rfl rfl (decide_eq_false (by omega))) (ibCons (ibMul (a := (z (n * 4 + 3))) (b := (2)) (c := (z (n * 4 + 3) * 2)) rfl rfl rfl (by omega) (by omega) (by omega)) (ibCons (ibGe (a := (z (n * 4))) (b := (0)) rfl rfl (decide_eq_true (by omega))) (ibCons (ibLt (a := (z (n * 4))) (b := (z (n * 4 + 1))) rfl rfl (decide_eq_false (by omega))) ibNil)))))))))
abbrev RA220 (hn : n < N) (h8 : n < 8) (t0 : ¬ z (n * 4 + 3) < 0) (t1 : ¬ z (n * 4 + 3) > 5) (k0 : z (n * 4) ≥ 0) (k1 : ¬ z (n * 4) < z (n * 4 + 1)) : VRows (ivA N p x z [] n) (vvA [] ([] ++ [el z n])) (vkA [] ([] ++ [el z n])) where
  vvp := vvAp
  ib := [(11, .oi 4, .oi 1, .bool true), (14, .oi 4, cI 0, .bool true), (11, .oi 4, cI 8, .bool true), (0, .oi 4, cI 1, .oi 15), (11, .oi 13, cI 0, .bool false), (13, .oi 13, cI 5, .bool false), (2, .oi 13, cI 2, .oi 14), (14, .oi 10, cI 0, .bool true), (11, .oi 10, .oi 11, .bool false)]
  ibok := rA22 hn h8 t0 t1 k0 k1
abbrev RA221 (hn : n < N) (h8 : n < 8) (t0 : ¬ z (n * 4 + 3) < 0) (t1 : ¬ z (n * 4 + 3) > 5) (k0 : z (n * 4) ≥ 0) (k1 : ¬ z (n * 4) < z (n * 4 + 1)) : VRows (ivA N p x z K n) (vvA K (K ++ [el z n])) (vkA K (K ++ [el z n])) where
  vvp := vvAp
  ib := [(11, .oi 4, .oi 1, .bool true), (14, .oi 4, cI 0, .bool true), (11, .oi 4, cI 8, .bool true), (0, .oi 4, cI 1, .oi 15), (11, .oi 13, cI 0, .bool false), (13, .oi 13, cI 5, .bool false), (2, .oi 13, cI 2, .oi 14), (14, .oi 10, cI 0, .bool true), (11, .oi 10, .oi 11, .bool false)]
  ibok := rA22 hn h8 t0 t1 k0 k1
theorem rA23 {N n : Nat} {p x : Int} {z : Nat → Int} {K : List Hd} (hn : n < N) (h8 : n < 8) (t0 : ¬ z (n * 4 + 3) < 0) (t1 : ¬ z (n * 4 + 3) > 5) (k0 : z (n * 4) ≥ 0) (k1 : z (n * 4) < z (n * 4 + 1)) (k2 : ¬ z (n * 4 + 2) ≥ 0) : ∀ r ∈ ([(11, .oi 4, .oi 1, .bool true), (14, .oi 4, cI 0, .bool true), (11, .oi 4, cI 8, .bool true), (0, .oi 4, cI 1, .oi 15), (11, .oi 13, cI 0, .bool false), (13, .oi 13, cI 5, .bool false), (2, .oi 13, cI 2, .oi 14), (14, .oi 10, cI 0, .bool true), (11, .oi 10, .oi 11, .bool true), (14, .oi 12, cI 0, .bool false)] : List BRow), IbOk (ivA N p x z K n) r := by
  letI := Tab.empty
  exact (ibCons (ibLt (a := ((n : Int))) (b := ((N : Int))) rfl rfl (decide_eq_true (by omega))) (ibCons (ibGe (a := ((n : Int))) (b := (0)) rfl rfl (decide_eq_true (by omega))) (ibCons (ibLt (a := ((n : Int))) (b := (8)) rfl rfl (decide_eq_true (by omega))) (ibCons (ibAdd (a := ((n : Int))) (b := (1)) (c := (((n + 1 : Nat) : Int))) rfl rfl rfl (by omega) (by omega) (by omega)) (ibCons (ibLt (a := (z (n * 4 + 3))) (b := (0)) rfl rfl (decide_eq_false (by omega))) (ibCons (ibGt (a := (z (n * 4 + 3))) (b := (5)) rfl rfl (decide_eq_false (by omega))) (ibCons (ibMul (a := (z (n * 4 + 3))) (b := (2)) (c := (z (n * 4 + 3) * 2)) rfl rfl rfl (by omega) (by omega) (by omega)) (ibCons (ibGe (a := (z (n * 4))) (b := (0)) rfl rfl (decide_eq_true (by omega))) (ibCons (ibLt (a := (z (n * 4))) (b := (z (n * 4 + 1))) rfl rfl (decide_eq_true (by omega))) (ibCons (ibGe (a := (z (n * 4 + 2))) (b := (0)) rfl rfl (decide_eq_false (by omega))) ibNil))))))))))
abbrev RA230 (hn : n < N) (h8 : n < 8) (t0 : ¬ z (n * 4 + 3) < 0) (t1 : ¬ z (n * 4 + 3) > 5) (k0 : z (n * 4) ≥ 0) (k1 : z (n * 4) < z (n * 4 + 1)) (k2 : ¬ z (n * 4 + 2) ≥ 0) : VRows (ivA N p x z [] n) (vvA [] ([] ++ [el z n])) (vkA [] ([] ++ [el z n])) where
  vvp := vvAp
  ib := [(11, .oi 4, .oi 1, .bool true), (14, .oi 4, cI 0, .bool true), (11, .oi 4, cI 8, .bool true), (0, .oi 4, cI 1, .oi 15), (11, .oi 13, cI 0, .bool false), (13, .oi 13, cI 5, .bool false), (2, .oi 13, cI 2, .oi 14), (14, .oi 10, cI 0, .bool true), (11, .oi 10, .oi 11, .bool true), (14, .oi 12, cI 0, .bool false)]
  ibok := rA23 hn h8 t0 t1 k0 k1 k2
abbrev RA231 (hn : n < N) (h8 : n < 8) (t0 : ¬ z (n * 4 + 3) < 0) (t1 : ¬ z (n * 4 + 3) > 5) (k0 : z (n * 4) ≥ 0) (k1 : z (n * 4) < z (n * 4 + 1)) (k2 : ¬ z (n * 4 + 2) ≥ 0) : VRows (ivA N p x z K n) (vvA K (K ++ [el z n])) (vkA K (K ++ [el z n])) where
  vvp := vvAp
  ib := [(11, .oi 4, .oi 1, .bool true), (14, .oi 4, cI 0, .bool true), (11, .oi 4, cI 8, .bool true), (0, .oi 4, cI 1, .oi 15), (11, .oi 13, cI 0, .bool false), (13, .oi 13, cI 5, .bool false), (2, .oi 13, cI 2, .oi 14), (14, .oi 10, cI 0, .bool true), (11, .oi 10, .oi 11, .bool true), (14, .oi 12, cI 0, .bool false)]
  ibok := rA23 hn h8 t0 t1 k0 k1 k2
abbrev RAe (N n : Nat) (p x : Int) (z : Nat → Int) (K : List Hd) (l : List BRow) (h : ∀ r ∈ l, IbOk (ivA N p x z K n) r) : VRows (ivA N p x z K n) (vvA K (K ++ [el z n])) (vkA K (K ++ [el z n])) where
  vvp := vvAp
  ib := l
  ibok := h
theorem rE1 {N n : Nat} {p x : Int} {z : Nat → Int} {K : List Hd} (hn : n = N) : ∀ r ∈ ([(11, .oi 4, .oi 1, .bool false)] : List BRow), IbOk (ivA N p x z K n) r := ibCons (ibLt (a := (n : Int)) (b := (N : Int)) rfl rfl (decide_eq_false (by omega))) ibNil
theorem rE2 {N n : Nat} {p x : Int} {z : Nat → Int} {K : List Hd} (hn : n < N) (h8 : ¬ n < 8) : ∀ r ∈ ([(11, .oi 4, .oi 1, .bool true), (11, .oi 4, cI 8, .bool false)] : List BRow), IbOk (ivA N p x z K n) r := ibCons (ibLt (a := (n : Int)) (b := (N : Int)) rfl rfl (decide_eq_true (by omega))) (ibCons (ibLt (a := (n : Int)) (b := 8) rfl rfl (decide_eq_false (by omega))) ibNil)
abbrev plF (p : Int) (K : List Hd) (k : Nat) (R : Int) : Tab := (bare (ivF p K k R) (vvF K) (vkF K) vvFp).tab
abbrev plE (p : Int) : Tab := (bare (ivF p [] 0 0) noV noK noVp).tab
noncomputable def tblF : List (Nat × Blk) := List.rec (motive := fun _ => List (Nat × Blk)) [] (fun p _ ih => (p.1 + 8, shB 8 p.2) :: ih) T_0.bs
noncomputable def sameB (l : List (Nat × Blk)) : BS := List.rec (motive := fun _ => BS) [] (fun p _ ih => (p.1, p.1, p.2) :: ih) l
noncomputable abbrev bs2 : BS := [(0, 0, .vec 0), (1, 1, (rowOf [(.int .i64 0), (.str 0 0), (.str 0 0), (.bool true), (.int .i64 0), (.int .i64 0), .nils, (.ov 0 5 4), .nils] false)), (2, 2, (rowOf [(.int .i64 0), (.str 0 0), (.str 0 0), (.bool true), (.int .i64 0), (.int .i64 0), .nils, (.ov 0 5 4), .nils] false)), (3, 3, (rowOf [(.int .i64 0), (.so 4 0 11 5), (.int .i64 0), (.str 0 0), (.str 0 0), .nils, .nils, (.sl 2 0 1 1)] false)), (4, 4, (rowOf [(.int .i64 0), (.str 0 0), (.int .i64 0), (.int .i64 0), (.int .i64 0), (.int .i64 1), (.str 19 2261816869159440624969593107871851903301607786), (.int .i64 0), (.int .i64 0), (.int .i64 0), (.int .i64 7), (.str 0 0), (.int .i64 0), (.int .i64 1), (.int .i64 0), (.int .i64 1), (.str 26 177462528906270532328520934635542489792491443287338843928682858), (.int .i64 0), (.int .i64 0), (.int .i64 0), (.int .i64 7), (.str 0 0), (.int .i64 0), (.int .i64 3), (.int .i64 0), (.int .i64 1), (.str 15 594182256714433171583859471190221162), (.int .i64 0), (.int .i64 0), (.int .i64 0), (.int .i64 7), (.str 0 0), (.int .i64 0), (.int .i64 5), (.int .i64 0), (.int .i64 1), (.str 4 1701736302), (.int .i64 0), (.int .i64 0), (.int .i64 0), (.int .i64 7), (.str 0 0), (.int .i64 0), (.int .i64 7), (.int .i64 0), (.int .i64 1), (.str 29 2977327179366744475310567174670984700336777289692309623825572795146602), (.int .i64 0), (.int .i64 0), (.int .i64 0), (.int .i64 7), (.str 0 0), (.int .i64 0), (.int .i64 9), (.int .i64 0)] true)), (5, 5, (rowOf [.nils] false)), (6, 6, (rowOf [(.ptr 5 0), .nils, .nils, .nils] false)), (7, 7, (.cells 29 false [] (ofPairs [(0, (.ptr 5 0)), (1, (.ptr 6 0)), (3, (.int .i64 8)), (4, .nils), (5, .nils), (6, .nils), (7, .nils), (8, .nils), (10, .nils), (11, (.int .i64 0)), (12, (.int .i64 0)), (13, (.int .i64 0)), (14, (.int .u8 0)), (15, (.int .i64 0)), (16, (.int .i64 0)), (17, .nils), (18, (.str 0 0)), (19, (.int .i64 0)), (20, (.int .i64 0)), (21, .nils), (22, .nils), (23, (.str 0 0)), (24, (.int .i64 0)), (25, .nils), (26, (.bool false)), (27, .nils), (28, .nils)])))]
noncomputable abbrev bs2o : BS := [(0, 0, .vec 0), (1, 1, (rowOf [(.int .i64 0), (.str 0 0), (.str 0 0), (.bool true), (.int .i64 0), (.int .i64 0), .nils, (.ov 0 5 4), .nils] false)), (2, 2, (rowOf [(.int .i64 0), (.str 0 0), (.str 0 0), (.bool true), (.int .i64 0), (.int .i64 0), .nils, (.ov 0 5 4), .nils] false)), (3, 3, (rowOf [(.int .i64 0), (.so 4 0 11 5), (.int .i64 0), (.str 0 0), (.str 0 0), .nils, .nils, (.sl 2 0 1 1)] false)), (4, 15, (rowOf [(.int .i64 0), (.str 0 0), (.int .i64 0), (.int .i64 0), (.int .i64 0), (.int .i64 1), (.str 19 2261816869159440624969593107871851903301607786), (.int .i64 0), (.int .i64 0), (.int .i64 0), (.int .i64 7), (.str 0 0), (.int .i64 0), (.int .i64 1), (.int .i64 0), (.int .i64 1), (.str 26 177462528906270532328520934635542489792491443287338843928682858), (.int .i64 0), (.int .i64 0), (.int .i64 0), (.int .i64 7), (.str 0 0), (.int .i64 0), (.int .i64 3), (.int .i64 0), (.int .i64 1), (.str 15 594182256714433171583859471190221162), (.int .i64 0), (.int .i64 0), (.int .i64 0), (.int .i64 7), (.str 0 0), (.int .i64 0), (.int .i64 5), (.int .i64 0), (.int .i64 1), (.str 4 1701736302), (.int .i64 0), (.int .i64 0), (.int .i64 0), (.int .i64 7), (.str 0 0), (.int .i64 0), (.int .i64 7), (.int .i64 0), (.int .i64 1), (.str 29 2977327179366744475310567174670984700336777289692309623825572795146602), (.int .i64 0), (.int .i64 0), (.int .i64 0), (.int .i64 7), (.str 0 0), (.int .i64 0), (.int .i64 9), (.int .i64 0)] true)), (5, 16, (rowOf [.nils] false)), (6, 17, (rowOf [(.ptr 5 0), .nils, .nils, .nils] false)), (7, 18, (.cells 29 false [] (ofPairs [(0, (.ptr 5 0)), (1, (.ptr 6 0)), (3, (.int .i64 8)), (4, .nils), (5, .nils), (6, .nils), (7, .nils), (8, .nils), (10, .nils), (11, (.int .i64 0)), (12, (.int .i64 0)), (13, (.int .i64 0)), (14, (.int .u8 0)), (15, (.int .i64 0)), (16, (.int .i64 0)), (17, .nils), (18, (.str 0 0)), (19, (.int .i64 0)), (20, (.int .i64 0)), (21, .nils), (22, .nils), (23, (.str 0 0)), (24, (.int .i64 0)), (25, .nils), (26, (.bool false)), (27, .nils), (28, .nils)])))]
theorem h2_eq : hOf 8 bs2o = hOf 8 bs2 := by kernel_rfl
noncomputable abbrev rl2 : List (Nat × Nat) := [(0, 0), (1, 1), (2, 2), (3, 3), (4, 15), (5, 16), (6, 17), (7, 18)]
noncomputable abbrev bsF : BS := bs2 ++ sameB tblF
noncomputable abbrev hFm : H := hOf 3262 bsF
noncomputable abbrev bsG : BS := (3262, 3262, rowOf [(.int .i64 0), (.str 0 0), (.str 0 0), (.bool true), (.int .i64 0), (.int .i64 0), .nils, (.ov 0 5 4), .nils] false) :: bsF
theorem nextF : hFm.next = 3262 := by kernel_rfl
abbrev RS (p : Int) (K : List Hd) (R : Int) : VRows (ivF p K 0 R) (vvF K) (vkF K) where
  vvp := vvFp
  ib := [(9, .oi 20, .oi 20, .bool true)]
  ibok := ibCons (ibEq (a := R) (b := R) rfl rfl (decide_eq_true rfl)) ibNil
end
section
variable {p R : Int} {K : List Hd} {k : Nat} {B : Kp} {w0 w : World} {μ : M} {a : Act}
theorem vpK {T T' : Tab} {C : Cv} (h1 : T'.vv 0 = intV (K.length * 4) (cell K)) (h2 : T.vv 0 = intV (K.length * 4) (cell K)) (h3 : T'.vk 0 = K.length * 4) (h4 : T.vk 0 = K.length * 4) : VpOk T T' C [(0, .vec 0, 0)] :=
  vpCons (vecSubN (fun m a h => by rw [h1] at h; rw [h2]; exact ⟨h, _, _, (intV_some h).2⟩) (leK h3 h4)) vpNil
abbrev RF (p : Int) (K : List Hd) (k : Nat) (R : Int) (l : List BRow) (h : ∀ r ∈ l, IbOk (ivF p K k R) r) (v : List VL) (hv : ∀ r ∈ v, VlOk (ivF p K k R) (vvF K) r) : VRows (ivF p K k R) (vvF K) (vkF K) where
  vvp := vvFp
  ib := l
  ibok := h
  vl := v
  vlok := hv
theorem rO1 (hl : K.length < 1000) (hk : k < K.length) (c1 : p < (K.getD k default).f) : ∀ r ∈ ([(11, .oi 21, .oi 5, .bool true), (14, .oi 21, cI 0, .bool true), (0, .oi 21, cI 1, .oi 22), (11, .oi 2, .oi 10, .bool true)] : List BRow), IbOk (ivF p K k R) r := by
  letI := Tab.empty
  exact (ibCons (ibLt (a := ((k : Int))) (b := ((K.length : Int))) rfl rfl (decide_eq_true (by omega))) (ibCons (ibGe (a := ((k : Int))) (b := (0)) rfl rfl (decide_eq_true (by omega))) (ibCons (ibAdd (a := ((k : Int))) (b := (1)) (c := (((k + 1 : Nat) : Int))) rfl rfl rfl (by omega) (by omega) (by omega)) (ibCons (ibLt (a := (p)) (b := ((K.getD k default).f)) rfl rfl (decide_eq_true (by omega))) ibNil))))
theorem rO2 (hl : K.length < 1000) (hk : k < K.length) (c1 : ¬ p < (K.getD k default).f) (c2 : p ≥ (K.getD k default).t) : ∀ r ∈ ([(11, .oi 21, .oi 5, .bool true), (14, .oi 21, cI 0, .bool true), (0, .oi 21, cI 1, .oi 22), (11, .oi 2, .oi 10, .bool false), (14, .oi 2, .oi 11, .bool true)] : List BRow), IbOk (ivF p K k R) r := by
  letI := Tab.empty
  exact (ibCons (ibLt (a := ((k : Int))) (b := ((K.length : Int))) rfl rfl (decide_eq_true (by omega))) (ibCons (ibGe (a := ((k : Int))) (b := (0)) rfl rfl (decide_eq_true (by omega))) (ibCons (ibAdd (a := ((k : Int))) (b := (1)) (c := (((k + 1 : Nat) : Int))) rfl rfl rfl (by omega) (by omega) (by omega)) (ibCons (ibLt (a := (p)) (b := ((K.getD k default).f)) rfl rfl (decide_eq_false (by omega))) (ibCons (ibGe (a := (p)) (b := ((K.getD k default).t)) rfl rfl (decide_eq_true (by omega))) ibNil)))))
theorem rIn (hl : K.length < 1000) (hk : k < K.length) (c1 : ¬ p < (K.getD k default).f) (c2 : ¬ p ≥ (K.getD k default).t) : ∀ r ∈ ([(11, .oi 21, .oi 5, .bool true), (14, .oi 21, cI 0, .bool true), (0, .oi 21, cI 1, .oi 22), (11, .oi 2, .oi 10, .bool false), (14, .oi 2, .oi 11, .bool false)] : List BRow), IbOk (ivF p K k R) r := by
  letI := Tab.empty
  exact (ibCons (ibLt (a := ((k : Int))) (b := ((K.length : Int))) rfl rfl (decide_eq_true (by omega))) (ibCons (ibGe (a := ((k : Int))) (b := (0)) rfl rfl (decide_eq_true (by omega))) (ibCons (ibAdd (a := ((k : Int))) (b := (1)) (c := (((k + 1 : Nat) : Int))) rfl rfl rfl (by omega) (by omega) (by omega)) (ibCons (ibLt (a := (p)) (b := ((K.getD k default).f)) rfl rfl (decide_eq_false (by omega))) (ibCons (ibGe (a := (p)) (b := ((K.getD k default).t)) rfl rfl (decide_eq_false (by omega))) ibNil)))))
theorem rX (hk : ¬ k < K.length) : ∀ r ∈ ([(11, .oi 21, .oi 5, .bool false)] : List BRow), IbOk (ivF p K k R) r := by
  letI := Tab.empty
  exact (ibCons (ibLt (a := ((k : Int))) (b := ((K.length : Int))) rfl rfl (decide_eq_false (by omega))) ibNil)
end
end Go.Proofs.YtgdonkfaicdeiaaGreatDoor.find
