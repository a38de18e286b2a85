/-
  What the law ThrowsFind gives where the class is ArithmeticException: true.
-/
import Derived.Test.YtgdonkfaicdeiaaGreatDoorTFD
set_option linter.unusedVariables false
set_option linter.unusedSimpArgs false
set_option maxRecDepth 100000
namespace Go.Proofs.YtgdonkfaicdeiaaGreatDoor.find.c1
open Go.X Go.RowKit
abbrev nm : AV := .str 29 2977327179366744475310567174670984700336777289692309623825572795146602
/-- what catches an error of this class -/
def mt (y : Int) : Bool := decide (y = 0) || decide (y = 2) || decide (y = 4) || decide (y = 10)
section
variable {b o cap N n : Nat} {p x : Int} {z : Nat → Int} {K : List Hd} {w0 w : World} {a : Act}
noncomputable abbrev fsA (l : AV) (i : List (Nat × AV)) : List (Nat × AV) := (0, .fo 0 1 4) :: (1, .oi 2) :: (7, .bool true) :: (9, nm) :: (10, l) :: i
def SA0 (b o cap N : Nat) (p x : Int) (z : Nat → Int) (n : Nat) (w0 : World) (a : Act) (w : World) : Prop := St (plA b o cap N p x z [] n) (Kp.below w0.heap.size) w0 (fun _ => none) 99 (frOf (fsA .nils [(11, .oi 4)])) (hOf 0 []) a w
def SA1 (b o cap N : Nat) (p x : Int) (z : Nat → Int) (K : List Hd) (n : Nat) (w0 : World) (a : Act) (w : World) : Prop := St (plA b o cap N p x z K n) (Kp.below w0.heap.size) w0 (fun _ => none) 99 (frOf (fsA (.ov 0 5 4) [(11, .oi 4)])) (hOf 1 bsV) a w
theorem go000 (hn : n < N) (h8 : n < 8) (t0 : z (n * 4 + 3) < 0) (k0 : z (n * 4) ≥ 0) (k1 : z (n * 4) < z (n * 4 + 1)) (k2 : z (n * 4 + 2) ≥ 0) (s : SA0 b o cap N p x z n w0 a w) : la.wp Tryz.prog (fun e a' w' => e = .normal ∧ SA1 b o cap N p x z [el z n] (n + 1) w0 a' w') a w :=
  runTo_sound (T := ((RA000 (p := p) (x := x) hn h8 t0 k0 k1 k2).ftab (fgn b o cap N z) [⟨0, 4, 4, 0, [.oi 10, .oi 11, .oi 12, .oi 13]⟩] (fl_ok hn))) (T' := plA b o cap N p x z [el z n] (n + 1)) (K := Hand.none) (n := 300) mx (@HandOk.none ((RA000 (p := p) (x := x) hn h8 t0 k0 k1 k2).ftab (fgn b o cap N z) [⟨0, 4, 4, 0, [.oi 10, .oi 11, .oi 12, .oi 13]⟩] (fl_ok hn)) Tryz.prog) (C := (⟨0, 1, ofPairs [(0, 2)], (.fo 0 1 4, 0) :: (.oi 1, 1) :: (.oi 2, 2) :: [(.oi 15, 4), (cI 1, 5)]⟩ : Cv)) (rl := [(0, 2)]) (ex := .normal) (vp := [(2, rowOf [.oi 10, .oi 11, .oi 12, cI 0] true, 0)]) (fs := fsA (.ov 0 5 4) [(11, .oi 4)]) (bs := [(0, 2, .vec 0)])
    (Base.none _) (Nat.zero_le _) rfl (by kernel_rfl) (ipCons (ipF rfl rfl) (ipCons (ipO (.i64, (N : Int)) rfl rfl) (ipCons (ipO (.i64, p) rfl rfl) (ipCons (ipO (.i64, ((n + 1 : Nat) : Int)) rfl rfl) (ipCons (ipC rfl) ipNil))))) (vpCons (row_ok (z := z) (n := n) rfl rfl rfl (by show some _ = _; rw [ty2, if_pos (Or.inl t0)]) rfl rfl) vpNil) (glF rfl rfl rfl fun _ _ _ h => fint h) (by as_aux_lemma => kernel_rfl) (St.same (VRows.fsame _ _ _ _ _ _ _) s)
theorem go001 (hn : n < N) (h8 : n < 8) (t0 : z (n * 4 + 3) < 0) (k0 : z (n * 4) ≥ 0) (k1 : z (n * 4) < z (n * 4 + 1)) (k2 : z (n * 4 + 2) ≥ 0) (hl : K.length < 1000) (s : SA1 b o cap N p x z K n w0 a w) : la.wp Tryz.prog (fun e a' w' => e = .normal ∧ SA1 b o cap N p x z (K ++ [el z n]) (n + 1) w0 a' w') a w :=
  runTo_sound (T := ((RA001 (p := p) (x := x) (K := K) hn h8 t0 k0 k1 k2 hl).ftab (fgn b o cap N z) [⟨0, 4, 4, 0, [.oi 10, .oi 11, .oi 12, .oi 13]⟩] (fl_ok hn))) (T' := plA b o cap N p x z (K ++ [el z n]) (n + 1)) (K := Hand.none) (n := 300) mx (@HandOk.none ((RA001 (p := p) (x := x) (K := K) hn h8 t0 k0 k1 k2 hl).ftab (fgn b o cap N z) [⟨0, 4, 4, 0, [.oi 10, .oi 11, .oi 12, .oi 13]⟩] (fl_ok hn)) Tryz.prog) (C := (⟨0, 1, ofPairs [(0, 3)], (.fo 0 1 4, 0) :: (.oi 1, 1) :: (.oi 2, 2) :: [(.oi 15, 4), (.oi 6, 5)]⟩ : Cv)) (rl := [(0, 3)]) (ex := .normal) (vp := [(3, .vec 1, 0)]) (fs := fsA (.ov 0 5 4) [(11, .oi 4)]) (bs := [(0, 3, .vec 0)])
    (Base.none _) (Nat.zero_le _) rfl (by kernel_rfl) (ipCons (ipF rfl rfl) (ipCons (ipO (.i64, (N : Int)) rfl rfl) (ipCons (ipO (.i64, p) rfl rfl) (ipCons (ipO (.i64, ((n + 1 : Nat) : Int)) rfl rfl) (ipCons (ipO (.i64, ((K.length + 1 : Nat) : Int)) rfl (by show (IntKind.i64, (((K ++ [el z n]).length : Nat) : Int)) = _; rw [List.length_append]; rfl)) ipNil))))) (vpCons (vecSubN (intSame ((K ++ [el z n]).length * 4) (cell (K ++ [el z n]))) (leK (c := (K ++ [el z n]).length * 4) rfl rfl)) vpNil) (glF rfl rfl rfl fun _ _ _ h => fint h) (by as_aux_lemma => kernel_rfl) (St.same (VRows.fsame _ _ _ _ _ _ _) s)
theorem go010 (hn : n < N) (h8 : n < 8) (t0 : z (n * 4 + 3) < 0) (k0 : ¬ z (n * 4) ≥ 0) (s : SA0 b o cap N p x z n w0 a w) : la.wp Tryz.prog (fun e a' w' => e = .normal ∧ SA0 b o cap N p x z (n + 1) w0 a' w') a w :=
  runTo_sound (T := ((RA010 (p := p) (x := x) hn h8 t0 k0).ftab (fgn b o cap N z) [⟨0, 4, 4, 0, [.oi 10, .oi 11, .oi 12, .oi 13]⟩] (fl_ok hn))) (T' := plA b o cap N p x z [] (n + 1)) (K := Hand.none) (n := 300) mx (@HandOk.none ((RA010 (p := p) (x := x) hn h8 t0 k0).ftab (fgn b o cap N z) [⟨0, 4, 4, 0, [.oi 10, .oi 11, .oi 12, .oi 13]⟩] (fl_ok hn)) Tryz.prog) (C := (⟨0, 0, ofPairs [], (.fo 0 1 4, 0) :: (.oi 1, 1) :: (.oi 2, 2) :: [(.oi 15, 4)]⟩ : Cv)) (rl := []) (ex := .normal) (vp := []) (fs := fsA .nils [(11, .oi 4)]) (bs := [])
    (Base.none _) (Nat.zero_le _) rfl (by kernel_rfl) (ipCons (ipF rfl rfl) (ipCons (ipO (.i64, (N : Int)) rfl rfl) (ipCons (ipO (.i64, p) rfl rfl) (ipCons (ipO (.i64, ((n + 1 : Nat) : Int)) rfl rfl) ipNil)))) vpNil (glF rfl rfl rfl fun _ _ _ h => fint h) (by as_aux_lemma => kernel_rfl) (St.same (VRows.fsame _ _ _ _ _ _ _) s)
theorem go011 (hn : n < N) (h8 : n < 8) (t0 : z (n * 4 + 3) < 0) (k0 : ¬ z (n * 4) ≥ 0) (s : SA1 b o cap N p x z K n w0 a w) : la.wp Tryz.prog (fun e a' w' => e = .normal ∧ SA1 b o cap N p x z K (n + 1) w0 a' w') a w :=
  runTo_sound (T := ((RA011 (p := p) (x := x) (K := K) hn h8 t0 k0).ftab (fgn b o cap N z) [⟨0, 4, 4, 0, [.oi 10, .oi 11, .oi 12, .oi 13]⟩] (fl_ok hn))) (T' := plA b o cap N p x z K (n + 1)) (K := Hand.none) (n := 300) mx (@HandOk.none ((RA011 (p := p) (x := x) (K := K) hn h8 t0 k0).ftab (fgn b o cap N z) [⟨0, 4, 4, 0, [.oi 10, .oi 11, .oi 12, .oi 13]⟩] (fl_ok hn)) Tryz.prog) (C := (⟨0, 1, ofPairs [(0, 0)], (.fo 0 1 4, 0) :: (.oi 1, 1) :: (.oi 2, 2) :: [(.oi 15, 4), (.oi 5, 5)]⟩ : Cv)) (rl := [(0, 0)]) (ex := .normal) (vp := [(0, .vec 0, 0)]) (fs := fsA (.ov 0 5 4) [(11, .oi 4)]) (bs := bsV)
    (Base.none _) (Nat.zero_le _) rfl (by kernel_rfl) (ipCons (ipF rfl rfl) (ipCons (ipO (.i64, (N : Int)) rfl rfl) (ipCons (ipO (.i64, p) rfl rfl) (ipCons (ipO (.i64, ((n + 1 : Nat) : Int)) rfl rfl) (ipCons (ipO (.i64, (K.length : Int)) rfl rfl) ipNil))))) (vpCons (vecSubN (intSame (K.length * 4) (cell K)) (leK (c := K.length * 4) rfl rfl)) vpNil) (glF rfl rfl rfl fun _ _ _ h => fint h) (by as_aux_lemma => kernel_rfl) (St.same (VRows.fsame _ _ _ _ _ _ _) s)
theorem go020 (hn : n < N) (h8 : n < 8) (t0 : z (n * 4 + 3) < 0) (k0 : z (n * 4) ≥ 0) (k1 : ¬ z (n * 4) < z (n * 4 + 1)) (s : SA0 b o cap N p x z n w0 a w) : la.wp Tryz.prog (fun e a' w' => e = .normal ∧ SA0 b o cap N p x z (n + 1) w0 a' w') a w :=
  runTo_sound (T := ((RA020 (p := p) (x := x) hn h8 t0 k0 k1).ftab (fgn b o cap N z) [⟨0, 4, 4, 0, [.oi 10, .oi 11, .oi 12, .oi 13]⟩] (fl_ok hn))) (T' := plA b o cap N p x z [] (n + 1)) (K := Hand.none) (n := 300) mx (@HandOk.none ((RA020 (p := p) (x := x) hn h8 t0 k0 k1).ftab (fgn b o cap N z) [⟨0, 4, 4, 0, [.oi 10, .oi 11, .oi 12, .oi 13]⟩] (fl_ok hn)) Tryz.prog) (C := (⟨0, 0, ofPairs [], (.fo 0 1 4, 0) :: (.oi 1, 1) :: (.oi 2, 2) :: [(.oi 15, 4)]⟩ : Cv)) (rl := []) (ex := .normal) (vp := []) (fs := fsA .nils [(11, .oi 4)]) (bs := [])
    (Base.none _) (Nat.zero_le _) rfl (by kernel_rfl) (ipCons (ipF rfl rfl) (ipCons (ipO (.i64, (N : Int)) rfl rfl) (ipCons (ipO (.i64, p) rfl rfl) (ipCons (ipO (.i64, ((n + 1 : Nat) : Int)) rfl rfl) ipNil)))) vpNil (glF rfl rfl rfl fun _ _ _ h => fint h) (by as_aux_lemma => kernel_rfl) (St.same (VRows.fsame _ _ _ _ _ _ _) s)
theorem go021 (hn : n < N) (h8 : n < 8) (t0 : z (n * 4 + 3) < 0) (k0 : z (n * 4) ≥ 0) (k1 : ¬ z (n * 4) < z (n * 4 + 1)) (s : SA1 b o cap N p x z K n w0 a w) : la.wp Tryz.prog (fun e a' w' => e = .normal ∧ SA1 b o cap N p x z K (n + 1) w0 a' w') a w :=
  runTo_sound (T := ((RA021 (p := p) (x := x) (K := K) hn h8 t0 k0 k1).ftab (fgn b o cap N z) [⟨0, 4, 4, 0, [.oi 10, .oi 11, .oi 12, .oi 13]⟩] (fl_ok hn))) (T' := plA b o cap N p x z K (n + 1)) (K := Hand.none) (n := 300) mx (@HandOk.none ((RA021 (p := p) (x := x) (K := K) hn h8 t0 k0 k1).ftab (fgn b o cap N z) [⟨0, 4, 4, 0, [.oi 10, .oi 11, .oi 12, .oi 13]⟩] (fl_ok hn)) Tryz.prog) (C := (⟨0, 1, ofPairs [(0, 0)], (.fo 0 1 4, 0) :: (.oi 1, 1) :: (.oi 2, 2) :: [(.oi 15, 4), (.oi 5, 5)]⟩ : Cv)) (rl := [(0, 0)]) (ex := .normal) (vp := [(0, .vec 0, 0)]) (fs := fsA (.ov 0 5 4) [(11, .oi 4)]) (bs := bsV)
    (Base.none _) (Nat.zero_le _) rfl (by kernel_rfl) (ipCons (ipF rfl rfl) (ipCons (ipO (.i64, (N : Int)) rfl rfl) (ipCons (ipO (.i64, p) rfl rfl) (ipCons (ipO (.i64, ((n + 1 : Nat) : Int)) rfl rfl) (ipCons (ipO (.i64, (K.length : Int)) rfl rfl) ipNil))))) (vpCons (vecSubN (intSame (K.length * 4) (cell K)) (leK (c := K.length * 4) rfl rfl)) vpNil) (glF rfl rfl rfl fun _ _ _ h => fint h) (by as_aux_lemma => kernel_rfl) (St.same (VRows.fsame _ _ _ _ _ _ _) s)
theorem go030 (hn : n < N) (h8 : n < 8) (t0 : z (n * 4 + 3) < 0) (k0 : z (n * 4) ≥ 0) (k1 : z (n * 4) < z (n * 4 + 1)) (k2 : ¬ z (n * 4 + 2) ≥ 0) (s : SA0 b o cap N p x z n w0 a w) : la.wp Tryz.prog (fun e a' w' => e = .normal ∧ SA0 b o cap N p x z (n + 1) w0 a' w') a w :=
  runTo_sound (T := ((RA030 (p := p) (x := x) hn h8 t0 k0 k1 k2).ftab (fgn b o cap N z) [⟨0, 4, 4, 0, [.oi 10, .oi 11, .oi 12, .oi 13]⟩] (fl_ok hn))) (T' := plA b o cap N p x z [] (n + 1)) (K := Hand.none) (n := 300) mx (@HandOk.none ((RA030 (p := p) (x := x) hn h8 t0 k0 k1 k2).ftab (fgn b o cap N z) [⟨0, 4, 4, 0, [.oi 10, .oi 11, .oi 12, .oi 13]⟩] (fl_ok hn)) Tryz.prog) (C := (⟨0, 0, ofPairs [], (.fo 0 1 4, 0) :: (.oi 1, 1) :: (.oi 2, 2) :: [(.oi 15, 4)]⟩ : Cv)) (rl := []) (ex := .normal) (vp := []) (fs := fsA .nils [(11, .oi 4)]) (bs := [])
    (Base.none _) (Nat.zero_le _) rfl (by kernel_rfl) (ipCons (ipF rfl rfl) (ipCons (ipO (.i64, (N : Int)) rfl rfl) (ipCons (ipO (.i64, p) rfl rfl) (ipCons (ipO (.i64, ((n + 1 : Nat) : Int)) rfl rfl) ipNil)))) vpNil (glF rfl rfl rfl fun _ _ _ h => fint h) (by as_aux_lemma => kernel_rfl) (St.same (VRows.fsame _ _ _ _ _ _ _) s)
theorem go031 (hn : n < N) (h8 : n < 8) (t0 : z (n * 4 + 3) < 0) (k0 : z (n * 4) ≥ 0) (k1 : z (n * 4) < z (n * 4 + 1)) (k2 : ¬ z (n * 4 + 2) ≥ 0) (s : SA1 b o cap N p x z K n w0 a w) : la.wp Tryz.prog (fun e a' w' => e = .normal ∧ SA1 b o cap N p x z K (n + 1) w0 a' w') a w :=
  runTo_sound (T := ((RA031 (p := p) (x := x) (K := K) hn h8 t0 k0 k1 k2).ftab (fgn b o cap N z) [⟨0, 4, 4, 0, [.oi 10, .oi 11, .oi 12, .oi 13]⟩] (fl_ok hn))) (T' := plA b o cap N p x z K (n + 1)) (K := Hand.none) (n := 300) mx (@HandOk.none ((RA031 (p := p) (x := x) (K := K) hn h8 t0 k0 k1 k2).ftab (fgn b o cap N z) [⟨0, 4, 4, 0, [.oi 10, .oi 11, .oi 12, .oi 13]⟩] (fl_ok hn)) Tryz.prog) (C := (⟨0, 1, ofPairs [(0, 0)], (.fo 0 1 4, 0) :: (.oi 1, 1) :: (.oi 2, 2) :: [(.oi 15, 4), (.oi 5, 5)]⟩ : Cv)) (rl := [(0, 0)]) (ex := .normal) (vp := [(0, .vec 0, 0)]) (fs := fsA (.ov 0 5 4) [(11, .oi 4)]) (bs := bsV)
    (Base.none _) (Nat.zero_le _) rfl (by kernel_rfl) (ipCons (ipF rfl rfl) (ipCons (ipO (.i64, (N : Int)) rfl rfl) (ipCons (ipO (.i64, p) rfl rfl) (ipCons (ipO (.i64, ((n + 1 : Nat) : Int)) rfl rfl) (ipCons (ipO (.i64, (K.length : Int)) rfl rfl) ipNil))))) (vpCons (vecSubN (intSame (K.length * 4) (cell K)) (leK (c := K.length * 4) rfl rfl)) vpNil) (glF rfl rfl rfl fun _ _ _ h => fint h) (by as_aux_lemma => kernel_rfl) (St.same (VRows.fsame _ _ _ _ _ _ _) s)
theorem go100 (hn : n < N) (h8 : n < 8) (t0 : ¬ z (n * 4 + 3) < 0) (t1 : z (n * 4 + 3) > 5) (k0 : z (n * 4) ≥ 0) (k1 : z (n * 4) < z (n * 4 + 1)) (k2 : z (n * 4 + 2) ≥ 0) (s : SA0 b o cap N p x z n w0 a w) : la.wp Tryz.prog (fun e a' w' => e = .normal ∧ SA1 b o cap N p x z [el z n] (n + 1) w0 a' w') a w :=
  runTo_sound (T := ((RA100 (p := p) (x := x) hn h8 t0 t1 k0 k1 k2).ftab (fgn b o cap N z) [⟨0, 4, 4, 0, [.oi 10, .oi 11, .oi 12, .oi 13]⟩] (fl_ok hn))) (T' := plA b o cap N p x z [el z n] (n + 1)) (K := Hand.none) (n := 300) mx (@HandOk.none ((RA100 (p := p) (x := x) hn h8 t0 t1 k0 k1 k2).ftab (fgn b o cap N z) [⟨0, 4, 4, 0, [.oi 10, .oi 11, .oi 12, .oi 13]⟩] (fl_ok hn)) Tryz.prog) (C := (⟨0, 1, ofPairs [(0, 2)], (.fo 0 1 4, 0) :: (.oi 1, 1) :: (.oi 2, 2) :: [(.oi 15, 4), (cI 1, 5)]⟩ : Cv)) (rl := [(0, 2)]) (ex := .normal) (vp := [(2, rowOf [.oi 10, .oi 11, .oi 12, cI 0] true, 0)]) (fs := fsA (.ov 0 5 4) [(11, .oi 4)]) (bs := [(0, 2, .vec 0)])
    (Base.none _) (Nat.zero_le _) rfl (by kernel_rfl) (ipCons (ipF rfl rfl) (ipCons (ipO (.i64, (N : Int)) rfl rfl) (ipCons (ipO (.i64, p) rfl rfl) (ipCons (ipO (.i64, ((n + 1 : Nat) : Int)) rfl rfl) (ipCons (ipC rfl) ipNil))))) (vpCons (row_ok (z := z) (n := n) rfl rfl rfl (by show some _ = _; rw [ty2, if_pos (Or.inr t1)]) rfl rfl) vpNil) (glF rfl rfl rfl fun _ _ _ h => fint h) (by as_aux_lemma => kernel_rfl) (St.same (VRows.fsame _ _ _ _ _ _ _) s)
theorem go101 (hn : n < N) (h8 : n < 8) (t0 : ¬ z (n * 4 + 3) < 0) (t1 : z (n * 4 + 3) > 5) (k0 : z (n * 4) ≥ 0) (k1 : z (n * 4) < z (n * 4 + 1)) (k2 : z (n * 4 + 2) ≥ 0) (hl : K.length < 1000) (s : SA1 b o cap N p x z K n w0 a w) : la.wp Tryz.prog (fun e a' w' => e = .normal ∧ SA1 b o cap N p x z (K ++ [el z n]) (n + 1) w0 a' w') a w :=
  runTo_sound (T := ((RA101 (p := p) (x := x) (K := K) hn h8 t0 t1 k0 k1 k2 hl).ftab (fgn b o cap N z) [⟨0, 4, 4, 0, [.oi 10, .oi 11, .oi 12, .oi 13]⟩] (fl_ok hn))) (T' := plA b o cap N p x z (K ++ [el z n]) (n + 1)) (K := Hand.none) (n := 300) mx (@HandOk.none ((RA101 (p := p) (x := x) (K := K) hn h8 t0 t1 k0 k1 k2 hl).ftab (fgn b o cap N z) [⟨0, 4, 4, 0, [.oi 10, .oi 11, .oi 12, .oi 13]⟩] (fl_ok hn)) Tryz.prog) (C := (⟨0, 1, ofPairs [(0, 3)], (.fo 0 1 4, 0) :: (.oi 1, 1) :: (.oi 2, 2) :: [(.oi 15, 4), (.oi 6, 5)]⟩ : Cv)) (rl := [(0, 3)]) (ex := .normal) (vp := [(3, .vec 1, 0)]) (fs := fsA (.ov 0 5 4) [(11, .oi 4)]) (bs := [(0, 3, .vec 0)])
    (Base.none _) (Nat.zero_le _) rfl (by kernel_rfl) (ipCons (ipF rfl rfl) (ipCons (ipO (.i64, (N : Int)) rfl rfl) (ipCons (ipO (.i64, p) rfl rfl) (ipCons (ipO (.i64, ((n + 1 : Nat) : Int)) rfl rfl) (ipCons (ipO (.i64, ((K.length + 1 : Nat) : Int)) rfl (by show (IntKind.i64, (((K ++ [el z n]).length : Nat) : Int)) = _; rw [List.length_append]; rfl)) ipNil))))) (vpCons (vecSubN (intSame ((K ++ [el z n]).length * 4) (cell (K ++ [el z n]))) (leK (c := (K ++ [el z n]).length * 4) rfl rfl)) vpNil) (glF rfl rfl rfl fun _ _ _ h => fint h) (by as_aux_lemma => kernel_rfl) (St.same (VRows.fsame _ _ _ _ _ _ _) s)
theorem go110 (hn : n < N) (h8 : n < 8) (t0 : ¬ z (n * 4 + 3) < 0) (t1 : z (n * 4 + 3) > 5) (k0 : ¬ z (n * 4) ≥ 0) (s : SA0 b o cap N p x z n w0 a w) : la.wp Tryz.prog (fun e a' w' => e = .normal ∧ SA0 b o cap N p x z (n + 1) w0 a' w') a w :=
  runTo_sound (T := ((RA110 (p := p) (x := x) hn h8 t0 t1 k0).ftab (fgn b o cap N z) [⟨0, 4, 4, 0, [.oi 10, .oi 11, .oi 12, .oi 13]⟩] (fl_ok hn))) (T' := plA b o cap N p x z [] (n + 1)) (K := Hand.none) (n := 300) mx (@HandOk.none ((RA110 (p := p) (x := x) hn h8 t0 t1 k0).ftab (fgn b o cap N z) [⟨0, 4, 4, 0, [.oi 10, .oi 11, .oi 12, .oi 13]⟩] (fl_ok hn)) Tryz.prog) (C := (⟨0, 0, ofPairs [], (.fo 0 1 4, 0) :: (.oi 1, 1) :: (.oi 2, 2) :: [(.oi 15, 4)]⟩ : Cv)) (rl := []) (ex := .normal) (vp := []) (fs := fsA .nils [(11, .oi 4)]) (bs := [])
    (Base.none _) (Nat.zero_le _) rfl (by kernel_rfl) (ipCons (ipF rfl rfl) (ipCons (ipO (.i64, (N : Int)) rfl rfl) (ipCons (ipO (.i64, p) rfl rfl) (ipCons (ipO (.i64, ((n + 1 : Nat) : Int)) rfl rfl) ipNil)))) vpNil (glF rfl rfl rfl fun _ _ _ h => fint h) (by as_aux_lemma => kernel_rfl) (St.same (VRows.fsame _ _ _ _ _ _ _) s)
theorem go111 (hn : n < N) (h8 : n < 8) (t0 : ¬ z (n * 4 + 3) < 0) (t1 : z (n * 4 + 3) > 5) (k0 : ¬ z (n * 4) ≥ 0) (s : SA1 b o cap N p x z K n w0 a w) : la.wp Tryz.prog (fun e a' w' => e = .normal ∧ SA1 b o cap N p x z K (n + 1) w0 a' w') a w :=
  runTo_sound (T := ((RA111 (p := p) (x := x) (K := K) hn h8 t0 t1 k0).ftab (fgn b o cap N z) [⟨0, 4, 4, 0, [.oi 10, .oi 11, .oi 12, .oi 13]⟩] (fl_ok hn))) (T' := plA b o cap N p x z K (n + 1)) (K := Hand.none) (n := 300) mx (@HandOk.none ((RA111 (p := p) (x := x) (K := K) hn h8 t0 t1 k0).ftab (fgn b o cap N z) [⟨0, 4, 4, 0, [.oi 10, .oi 11, .oi 12, .oi 13]⟩] (fl_ok hn)) Tryz.prog) (C := (⟨0, 1, ofPairs [(0, 0)], (.fo 0 1 4, 0) :: (.oi 1, 1) :: (.oi 2, 2) :: [(.oi 15, 4), (.oi 5, 5)]⟩ : Cv)) (rl := [(0, 0)]) (ex := .normal) (vp := [(0, .vec 0, 0)]) (fs := fsA (.ov 0 5 4) [(11, .oi 4)]) (bs := bsV)
    (Base.none _) (Nat.zero_le _) rfl (by kernel_rfl) (ipCons (ipF rfl rfl) (ipCons (ipO (.i64, (N : Int)) rfl rfl) (ipCons (ipO (.i64, p) rfl rfl) (ipCons (ipO (.i64, ((n + 1 : Nat) : Int)) rfl rfl) (ipCons (ipO (.i64, (K.length : Int)) rfl rfl) ipNil))))) (vpCons (vecSubN (intSame (K.length * 4) (cell K)) (leK (c := K.length * 4) rfl rfl)) vpNil) (glF rfl rfl rfl fun _ _ _ h => fint h) (by as_aux_lemma => kernel_rfl) (St.same (VRows.fsame _ _ _ _ _ _ _) s)
theorem go120 (hn : n < N) (h8 : n < 8) (t0 : ¬ z (n * 4 + 3) < 0) (t1 : z (n * 4 + 3) > 5) (k0 : z (n * 4) ≥ 0) (k1 : ¬ z (n * 4) < z (n * 4 + 1)) (s : SA0 b o cap N p x z n w0 a w) : la.wp Tryz.prog (fun e a' w' => e = .normal ∧ SA0 b o cap N p x z (n + 1) w0 a' w') a w :=
  runTo_sound (T := ((RA120 (p := p) (x := x) hn h8 t0 t1 k0 k1).ftab (fgn b o cap N z) [⟨0, 4, 4, 0, [.oi 10, .oi 11, .oi 12, .oi 13]⟩] (fl_ok hn))) (T' := plA b o cap N p x z [] (n + 1)) (K := Hand.none) (n := 300) mx (@HandOk.none ((RA120 (p := p) (x := x) hn h8 t0 t1 k0 k1).ftab (fgn b o cap N z) [⟨0, 4, 4, 0, [.oi 10, .oi 11, .oi 12, .oi 13]⟩] (fl_ok hn)) Tryz.prog) (C := (⟨0, 0, ofPairs [], (.fo 0 1 4, 0) :: (.oi 1, 1) :: (.oi 2, 2) :: [(.oi 15, 4)]⟩ : Cv)) (rl := []) (ex := .normal) (vp := []) (fs := fsA .nils [(11, .oi 4)]) (bs := [])
    (Base.none _) (Nat.zero_le _) rfl (by kernel_rfl) (ipCons (ipF rfl rfl) (ipCons (ipO (.i64, (N : Int)) rfl rfl) (ipCons (ipO (.i64, p) rfl rfl) (ipCons (ipO (.i64, ((n + 1 : Nat) : Int)) rfl rfl) ipNil)))) vpNil (glF rfl rfl rfl fun _ _ _ h => fint h) (by as_aux_lemma => kernel_rfl) (St.same (VRows.fsame _ _ _ _ _ _ _) s)
theorem go121 (hn : n < N) (h8 : n < 8) (t0 : ¬ z (n * 4 + 3) < 0) (t1 : z (n * 4 + 3) > 5) (k0 : z (n * 4) ≥ 0) (k1 : ¬ z (n * 4) < z (n * 4 + 1)) (s : SA1 b o cap N p x z K n w0 a w) : la.wp Tryz.prog (fun e a' w' => e = .normal ∧ SA1 b o cap N p x z K (n + 1) w0 a' w') a w :=
  runTo_sound (T := ((RA121 (p := p) (x := x) (K := K) hn h8 t0 t1 k0 k1).ftab (fgn b o cap N z) [⟨0, 4, 4, 0, [.oi 10, .oi 11, .oi 12, .oi 13]⟩] (fl_ok hn))) (T' := plA b o cap N p x z K (n + 1)) (K := Hand.none) (n := 300) mx (@HandOk.none ((RA121 (p := p) (x := x) (K := K) hn h8 t0 t1 k0 k1).ftab (fgn b o cap N z) [⟨0, 4, 4, 0, [.oi 10, .oi 11, .oi 12, .oi 13]⟩] (fl_ok hn)) Tryz.prog) (C := (⟨0, 1, ofPairs [(0, 0)], (.fo 0 1 4, 0) :: (.oi 1, 1) :: (.oi 2, 2) :: [(.oi 15, 4), (.oi 5, 5)]⟩ : Cv)) (rl := [(0, 0)]) (ex := .normal) (vp := [(0, .vec 0, 0)]) (fs := fsA (.ov 0 5 4) [(11, .oi 4)]) (bs := bsV)
    (Base.none _) (Nat.zero_le _) rfl (by kernel_rfl) (ipCons (ipF rfl rfl) (ipCons (ipO (.i64, (N : Int)) rfl rfl) (ipCons (ipO (.i64, p) rfl rfl) (ipCons (ipO (.i64, ((n + 1 : Nat) : Int)) rfl rfl) (ipCons (ipO (.i64, (K.length : Int)) rfl rfl) ipNil))))) (vpCons (vecSubN (intSame (K.length * 4) (cell K)) (leK (c := K.length * 4) rfl rfl)) vpNil) (glF rfl rfl rfl fun _ _ _ h => fint h) (by as_aux_lemma => kernel_rfl) (St.same (VRows.fsame _ _ _ _ _ _ _) s)
theorem go130 (hn : n < N) (h8 : n < 8) (t0 : ¬ z (n * 4 + 3) < 0) (t1 : z (n * 4 + 3) > 5) (k0 : z (n * 4) ≥ 0) (k1 : z (n * 4) < z (n * 4 + 1)) (k2 : ¬ z (n * 4 + 2) ≥ 0) (s : SA0 b o cap N p x z n w0 a w) : la.wp Tryz.prog (fun e a' w' => e = .normal ∧ SA0 b o cap N p x z (n + 1) w0 a' w') a w :=
  runTo_sound (T := ((RA130 (p := p) (x := x) hn h8 t0 t1 k0 k1 k2).ftab (fgn b o cap N z) [⟨0, 4, 4, 0, [.oi 10, .oi 11, .oi 12, .oi 13]⟩] (fl_ok hn))) (T' := plA b o cap N p x z [] (n + 1)) (K := Hand.none) (n := 300) mx (@HandOk.none ((RA130 (p := p) (x := x) hn h8 t0 t1 k0 k1 k2).ftab (fgn b o cap N z) [⟨0, 4, 4, 0, [.oi 10, .oi 11, .oi 12, .oi 13]⟩] (fl_ok hn)) Tryz.prog) (C := (⟨0, 0, ofPairs [], (.fo 0 1 4, 0) :: (.oi 1, 1) :: (.oi 2, 2) :: [(.oi 15, 4)]⟩ : Cv)) (rl := []) (ex := .normal) (vp := []) (fs := fsA .nils [(11, .oi 4)]) (bs := [])
    (Base.none _) (Nat.zero_le _) rfl (by kernel_rfl) (ipCons (ipF rfl rfl) (ipCons (ipO (.i64, (N : Int)) rfl rfl) (ipCons (ipO (.i64, p) rfl rfl) (ipCons (ipO (.i64, ((n + 1 : Nat) : Int)) rfl rfl) ipNil)))) vpNil (glF rfl rfl rfl fun _ _ _ h => fint h) (by as_aux_lemma => kernel_rfl) (St.same (VRows.fsame _ _ _ _ _ _ _) s)
theorem go131 (hn : n < N) (h8 : n < 8) (t0 : ¬ z (n * 4 + 3) < 0) (t1 : z (n * 4 + 3) > 5) (k0 : z (n * 4) ≥ 0) (k1 : z (n * 4) < z (n * 4 + 1)) (k2 : ¬ z (n * 4 + 2) ≥ 0) (s : SA1 b o cap N p x z K n w0 a w) : la.wp Tryz.prog (fun e a' w' => e = .normal ∧ SA1 b o cap N p x z K (n + 1) w0 a' w') a w :=
  runTo_sound (T := ((RA131 (p := p) (x := x) (K := K) hn h8 t0 t1 k0 k1 k2).ftab (fgn b o cap N z) [⟨0, 4, 4, 0, [.oi 10, .oi 11, .oi 12, .oi 13]⟩] (fl_ok hn))) (T' := plA b o cap N p x z K (n + 1)) (K := Hand.none) (n := 300) mx (@HandOk.none ((RA131 (p := p) (x := x) (K := K) hn h8 t0 t1 k0 k1 k2).ftab (fgn b o cap N z) [⟨0, 4, 4, 0, [.oi 10, .oi 11, .oi 12, .oi 13]⟩] (fl_ok hn)) Tryz.prog) (C := (⟨0, 1, ofPairs [(0, 0)], (.fo 0 1 4, 0) :: (.oi 1, 1) :: (.oi 2, 2) :: [(.oi 15, 4), (.oi 5, 5)]⟩ : Cv)) (rl := [(0, 0)]) (ex := .normal) (vp := [(0, .vec 0, 0)]) (fs := fsA (.ov 0 5 4) [(11, .oi 4)]) (bs := bsV)
    (Base.none _) (Nat.zero_le _) rfl (by kernel_rfl) (ipCons (ipF rfl rfl) (ipCons (ipO (.i64, (N : Int)) rfl rfl) (ipCons (ipO (.i64, p) rfl rfl) (ipCons (ipO (.i64, ((n + 1 : Nat) : Int)) rfl rfl) (ipCons (ipO (.i64, (K.length : Int)) rfl rfl) ipNil))))) (vpCons (vecSubN (intSame (K.length * 4) (cell K)) (leK (c := K.length * 4) rfl rfl)) vpNil) (glF rfl rfl rfl fun _ _ _ h => fint h) (by as_aux_lemma => kernel_rfl) (St.same (VRows.fsame _ _ _ _ _ _ _) s)
theorem go200 (hn : n < N) (h8 : n < 8) (t0 : ¬ z (n * 4 + 3) < 0) (t1 : ¬ z (n * 4 + 3) > 5) (k0 : z (n * 4) ≥ 0) (k1 : z (n * 4) < z (n * 4 + 1)) (k2 : z (n * 4 + 2) ≥ 0) (s : SA0 b o cap N p x z n w0 a w) : la.wp Tryz.prog (fun e a' w' => e = .normal ∧ SA1 b o cap N p x z [el z n] (n + 1) w0 a' w') a w :=
  runTo_sound (T := ((RA200 (p := p) (x := x) hn h8 t0 t1 k0 k1 k2).ftab (fgn b o cap N z) [⟨0, 4, 4, 0, [.oi 10, .oi 11, .oi 12, .oi 13]⟩] (fl_ok hn))) (T' := plA b o cap N p x z [el z n] (n + 1)) (K := Hand.none) (n := 300) mx (@HandOk.none ((RA200 (p := p) (x := x) hn h8 t0 t1 k0 k1 k2).ftab (fgn b o cap N z) [⟨0, 4, 4, 0, [.oi 10, .oi 11, .oi 12, .oi 13]⟩] (fl_ok hn)) Tryz.prog) (C := (⟨0, 1, ofPairs [(0, 2)], (.fo 0 1 4, 0) :: (.oi 1, 1) :: (.oi 2, 2) :: [(.oi 15, 4), (cI 1, 5)]⟩ : Cv)) (rl := [(0, 2)]) (ex := .normal) (vp := [(2, rowOf [.oi 10, .oi 11, .oi 12, .oi 14] true, 0)]) (fs := fsA (.ov 0 5 4) [(11, .oi 4)]) (bs := [(0, 2, .vec 0)])
    (Base.none _) (Nat.zero_le _) rfl (by kernel_rfl) (ipCons (ipF rfl rfl) (ipCons (ipO (.i64, (N : Int)) rfl rfl) (ipCons (ipO (.i64, p) rfl rfl) (ipCons (ipO (.i64, ((n + 1 : Nat) : Int)) rfl rfl) (ipCons (ipC rfl) ipNil))))) (vpCons (row_ok (z := z) (n := n) rfl rfl rfl (by show some _ = _; rw [ty2, if_neg (by omega)]; rfl) rfl rfl) vpNil) (glF rfl rfl rfl fun _ _ _ h => fint h) (by as_aux_lemma => kernel_rfl) (St.same (VRows.fsame _ _ _ _ _ _ _) s)
theorem go201 (hn : n < N) (h8 : n < 8) (t0 : ¬ z (n * 4 + 3) < 0) (t1 : ¬ z (n * 4 + 3) > 5) (k0 : z (n * 4) ≥ 0) (k1 : z (n * 4) < z (n * 4 + 1)) (k2 : z (n * 4 + 2) ≥ 0) (hl : K.length < 1000) (s : SA1 b o cap N p x z K n w0 a w) : la.wp Tryz.prog (fun e a' w' => e = .normal ∧ SA1 b o cap N p x z (K ++ [el z n]) (n + 1) w0 a' w') a w :=
  runTo_sound (T := ((RA201 (p := p) (x := x) (K := K) hn h8 t0 t1 k0 k1 k2 hl).ftab (fgn b o cap N z) [⟨0, 4, 4, 0, [.oi 10, .oi 11, .oi 12, .oi 13]⟩] (fl_ok hn))) (T' := plA b o cap N p x z (K ++ [el z n]) (n + 1)) (K := Hand.none) (n := 300) mx (@HandOk.none ((RA201 (p := p) (x := x) (K := K) hn h8 t0 t1 k0 k1 k2 hl).ftab (fgn b o cap N z) [⟨0, 4, 4, 0, [.oi 10, .oi 11, .oi 12, .oi 13]⟩] (fl_ok hn)) Tryz.prog) (C := (⟨0, 1, ofPairs [(0, 3)], (.fo 0 1 4, 0) :: (.oi 1, 1) :: (.oi 2, 2) :: [(.oi 15, 4), (.oi 6, 5)]⟩ : Cv)) (rl := [(0, 3)]) (ex := .normal) (vp := [(3, .vec 1, 0)]) (fs := fsA (.ov 0 5 4) [(11, .oi 4)]) (bs := [(0, 3, .vec 0)])
    (Base.none _) (Nat.zero_le _) rfl (by kernel_rfl) (ipCons (ipF rfl rfl) (ipCons (ipO (.i64, (N : Int)) rfl rfl) (ipCons (ipO (.i64, p) rfl rfl) (ipCons (ipO (.i64, ((n + 1 : Nat) : Int)) rfl rfl) (ipCons (ipO (.i64, ((K.length + 1 : Nat) : Int)) rfl (by show (IntKind.i64, (((K ++ [el z n]).length : Nat) : Int)) = _; rw [List.length_append]; rfl)) ipNil))))) (vpCons (vecSubN (intSame ((K ++ [el z n]).length * 4) (cell (K ++ [el z n]))) (leK (c := (K ++ [el z n]).length * 4) rfl rfl)) vpNil) (glF rfl rfl rfl fun _ _ _ h => fint h) (by as_aux_lemma => kernel_rfl) (St.same (VRows.fsame _ _ _ _ _ _ _) s)
theorem go210 (hn : n < N) (h8 : n < 8) (t0 : ¬ z (n * 4 + 3) < 0) (t1 : ¬ z (n * 4 + 3) > 5) (k0 : ¬ z (n * 4) ≥ 0) (s : SA0 b o cap N p x z n w0 a w) : la.wp Tryz.prog (fun e a' w' => e = .normal ∧ SA0 b o cap N p x z (n + 1) w0 a' w') a w :=
  runTo_sound (T := ((RA210 (p := p) (x := x) hn h8 t0 t1 k0).ftab (fgn b o cap N z) [⟨0, 4, 4, 0, [.oi 10, .oi 11, .oi 12, .oi 13]⟩] (fl_ok hn))) (T' := plA b o cap N p x z [] (n + 1)) (K := Hand.none) (n := 300) mx (@HandOk.none ((RA210 (p := p) (x := x) hn h8 t0 t1 k0).ftab (fgn b o cap N z) [⟨0, 4, 4, 0, [.oi 10, .oi 11, .oi 12, .oi 13]⟩] (fl_ok hn)) Tryz.prog) (C := (⟨0, 0, ofPairs [], (.fo 0 1 4, 0) :: (.oi 1, 1) :: (.oi 2, 2) :: [(.oi 15, 4)]⟩ : Cv)) (rl := []) (ex := .normal) (vp := []) (fs := fsA .nils [(11, .oi 4)]) (bs := [])
    (Base.none _) (Nat.zero_le _) rfl (by kernel_rfl) (ipCons (ipF rfl rfl) (ipCons (ipO (.i64, (N : Int)) rfl rfl) (ipCons (ipO (.i64, p) rfl rfl) (ipCons (ipO (.i64, ((n + 1 : Nat) : Int)) rfl rfl) ipNil)))) vpNil (glF rfl rfl rfl fun _ _ _ h => fint h) (by as_aux_lemma => kernel_rfl) (St.same (VRows.fsame _ _ _ _ _ _ _) s)
theorem go211 (hn : n < N) (h8 : n < 8) (t0 : ¬ z (n * 4 + 3) < 0) (t1 : ¬ z (n * 4 + 3) > 5) (k0 : ¬ z (n * 4) ≥ 0) (s : SA1 b o cap N p x z K n w0 a w) : la.wp Tryz.prog (fun e a' w' => e = .normal ∧ SA1 b o cap N p x z K (n + 1) w0 a' w') a w :=
  runTo_sound (T := ((RA211 (p := p) (x := x) (K := K) hn h8 t0 t1 k0).ftab (fgn b o cap N z) [⟨0, 4, 4, 0, [.oi 10, .oi 11, .oi 12, .oi 13]⟩] (fl_ok hn))) (T' := plA b o cap N p x z K (n + 1)) (K := Hand.none) (n := 300) mx (@HandOk.none ((RA211 (p := p) (x := x) (K := K) hn h8 t0 t1 k0).ftab (fgn b o cap N z) [⟨0, 4, 4, 0, [.oi 10, .oi 11, .oi 12, .oi 13]⟩] (fl_ok hn)) Tryz.prog) (C := (⟨0, 1, ofPairs [(0, 0)], (.fo 0 1 4, 0) :: (.oi 1, 1) :: (.oi 2, 2) :: [(.oi 15, 4), (.oi 5, 5)]⟩ : Cv)) (rl := [(0, 0)]) (ex := .normal) (vp := [(0, .vec 0, 0)]) (fs := fsA (.ov 0 5 4) [(11, .oi 4)]) (bs := bsV)
    (Base.none _) (Nat.zero_le _) rfl (by kernel_rfl) (ipCons (ipF rfl rfl) (ipCons (ipO (.i64, (N : Int)) rfl rfl) (ipCons (ipO (.i64, p) rfl rfl) (ipCons (ipO (.i64, ((n + 1 : Nat) : Int)) rfl rfl) (ipCons (ipO (.i64, (K.length : Int)) rfl rfl) ipNil))))) (vpCons (vecSubN (intSame (K.length * 4) (cell K)) (leK (c := K.length * 4) rfl rfl)) vpNil) (glF rfl rfl rfl fun _ _ _ h => fint h) (by as_aux_lemma => kernel_rfl) (St.same (VRows.fsame _ _ _ _ _ _ _) s)
theorem go220 (hn : n < N) (h8 : n < 8) (t0 : ¬ z (n * 4 + 3) < 0) (t1 : ¬ z (n * 4 + 3) > 5) (k0 : z (n * 4) ≥ 0) (k1 : ¬ z (n * 4) < z (n * 4 + 1)) (s : SA0 b o cap N p x z n w0 a w) : la.wp Tryz.prog (fun e a' w' => e = .normal ∧ SA0 b o cap N p x z (n + 1) w0 a' w') a w :=
  runTo_sound (T := ((RA220 (p := p) (x := x) hn h8 t0 t1 k0 k1).ftab (fgn b o cap N z) [⟨0, 4, 4, 0, [.oi 10, .oi 11, .oi 12, .oi 13]⟩] (fl_ok hn))) (T' := plA b o cap N p x z [] (n + 1)) (K := Hand.none) (n := 300) mx (@HandOk.none ((RA220 (p := p) (x := x) hn h8 t0 t1 k0 k1).ftab (fgn b o cap N z) [⟨0, 4, 4, 0, [.oi 10, .oi 11, .oi 12, .oi 13]⟩] (fl_ok hn)) Tryz.prog) (C := (⟨0, 0, ofPairs [], (.fo 0 1 4, 0) :: (.oi 1, 1) :: (.oi 2, 2) :: [(.oi 15, 4)]⟩ : Cv)) (rl := []) (ex := .normal) (vp := []) (fs := fsA .nils [(11, .oi 4)]) (bs := [])
    (Base.none _) (Nat.zero_le _) rfl (by kernel_rfl) (ipCons (ipF rfl rfl) (ipCons (ipO (.i64, (N : Int)) rfl rfl) (ipCons (ipO (.i64, p) rfl rfl) (ipCons (ipO (.i64, ((n + 1 : Nat) : Int)) rfl rfl) ipNil)))) vpNil (glF rfl rfl rfl fun _ _ _ h => fint h) (by as_aux_lemma => kernel_rfl) (St.same (VRows.fsame _ _ _ _ _ _ _) s)
theorem go221 (hn : n < N) (h8 : n < 8) (t0 : ¬ z (n * 4 + 3) < 0) (t1 : ¬ z (n * 4 + 3) > 5) (k0 : z (n * 4) ≥ 0) (k1 : ¬ z (n * 4) < z (n * 4 + 1)) (s : SA1 b o cap N p x z K n w0 a w) : la.wp Tryz.prog (fun e a' w' => e = .normal ∧ SA1 b o cap N p x z K (n + 1) w0 a' w') a w :=
  runTo_sound (T := ((RA221 (p := p) (x := x) (K := K) hn h8 t0 t1 k0 k1).ftab (fgn b o cap N z) [⟨0, 4, 4, 0, [.oi 10, .oi 11, .oi 12, .oi 13]⟩] (fl_ok hn))) (T' := plA b o cap N p x z K (n + 1)) (K := Hand.none) (n := 300) mx (@HandOk.none ((RA221 (p := p) (x := x) (K := K) hn h8 t0 t1 k0 k1).ftab (fgn b o cap N z) [⟨0, 4, 4, 0, [.oi 10, .oi 11, .oi 12, .oi 13]⟩] (fl_ok hn)) Tryz.prog) (C := (⟨0, 1, ofPairs [(0, 0)], (.fo 0 1 4, 0) :: (.oi 1, 1) :: (.oi 2, 2) :: [(.oi 15, 4), (.oi 5, 5)]⟩ : Cv)) (rl := [(0, 0)]) (ex := .normal) (vp := [(0, .vec 0, 0)]) (fs := fsA (.ov 0 5 4) [(11, .oi 4)]) (bs := bsV)
    (Base.none _) (Nat.zero_le _) rfl (by kernel_rfl) (ipCons (ipF rfl rfl) (ipCons (ipO (.i64, (N : Int)) rfl rfl) (ipCons (ipO (.i64, p) rfl rfl) (ipCons (ipO (.i64, ((n + 1 : Nat) : Int)) rfl rfl) (ipCons (ipO (.i64, (K.length : Int)) rfl rfl) ipNil))))) (vpCons (vecSubN (intSame (K.length * 4) (cell K)) (leK (c := K.length * 4) rfl rfl)) vpNil) (glF rfl rfl rfl fun _ _ _ h => fint h) (by as_aux_lemma => kernel_rfl) (St.same (VRows.fsame _ _ _ _ _ _ _) s)
theorem go230 (hn : n < N) (h8 : n < 8) (t0 : ¬ z (n * 4 + 3) < 0) (t1 : ¬ z (n * 4 + 3) > 5) (k0 : z (n * 4) ≥ 0) (k1 : z (n * 4) < z (n * 4 + 1)) (k2 : ¬ z (n * 4 + 2) ≥ 0) (s : SA0 b o cap N p x z n w0 a w) : la.wp Tryz.prog (fun e a' w' => e = .normal ∧ SA0 b o cap N p x z (n + 1) w0 a' w') a w :=
  runTo_sound (T := ((RA230 (p := p) (x := x) hn h8 t0 t1 k0 k1 k2).ftab (fgn b o cap N z) [⟨0, 4, 4, 0, [.oi 10, .oi 11, .oi 12, .oi 13]⟩] (fl_ok hn))) (T' := plA b o cap N p x z [] (n + 1)) (K := Hand.none) (n := 300) mx (@HandOk.none ((RA230 (p := p) (x := x) hn h8 t0 t1 k0 k1 k2).ftab (fgn b o cap N z) [⟨0, 4, 4, 0, [.oi 10, .oi 11, .oi 12, .oi 13]⟩] (fl_ok hn)) Tryz.prog) (C := (⟨0, 0, ofPairs [], (.fo 0 1 4, 0) :: (.oi 1, 1) :: (.oi 2, 2) :: [(.oi 15, 4)]⟩ : Cv)) (rl := []) (ex := .normal) (vp := []) (fs := fsA .nils [(11, .oi 4)]) (bs := [])
    (Base.none _) (Nat.zero_le _) rfl (by kernel_rfl) (ipCons (ipF rfl rfl) (ipCons (ipO (.i64, (N : Int)) rfl rfl) (ipCons (ipO (.i64, p) rfl rfl) (ipCons (ipO (.i64, ((n + 1 : Nat) : Int)) rfl rfl) ipNil)))) vpNil (glF rfl rfl rfl fun _ _ _ h => fint h) (by as_aux_lemma => kernel_rfl) (St.same (VRows.fsame _ _ _ _ _ _ _) s)
theorem go231 (hn : n < N) (h8 : n < 8) (t0 : ¬ z (n * 4 + 3) < 0) (t1 : ¬ z (n * 4 + 3) > 5) (k0 : z (n * 4) ≥ 0) (k1 : z (n * 4) < z (n * 4 + 1)) (k2 : ¬ z (n * 4 + 2) ≥ 0) (s : SA1 b o cap N p x z K n w0 a w) : la.wp Tryz.prog (fun e a' w' => e = .normal ∧ SA1 b o cap N p x z K (n + 1) w0 a' w') a w :=
  runTo_sound (T := ((RA231 (p := p) (x := x) (K := K) hn h8 t0 t1 k0 k1 k2).ftab (fgn b o cap N z) [⟨0, 4, 4, 0, [.oi 10, .oi 11, .oi 12, .oi 13]⟩] (fl_ok hn))) (T' := plA b o cap N p x z K (n + 1)) (K := Hand.none) (n := 300) mx (@HandOk.none ((RA231 (p := p) (x := x) (K := K) hn h8 t0 t1 k0 k1 k2).ftab (fgn b o cap N z) [⟨0, 4, 4, 0, [.oi 10, .oi 11, .oi 12, .oi 13]⟩] (fl_ok hn)) Tryz.prog) (C := (⟨0, 1, ofPairs [(0, 0)], (.fo 0 1 4, 0) :: (.oi 1, 1) :: (.oi 2, 2) :: [(.oi 15, 4), (.oi 5, 5)]⟩ : Cv)) (rl := [(0, 0)]) (ex := .normal) (vp := [(0, .vec 0, 0)]) (fs := fsA (.ov 0 5 4) [(11, .oi 4)]) (bs := bsV)
    (Base.none _) (Nat.zero_le _) rfl (by kernel_rfl) (ipCons (ipF rfl rfl) (ipCons (ipO (.i64, (N : Int)) rfl rfl) (ipCons (ipO (.i64, p) rfl rfl) (ipCons (ipO (.i64, ((n + 1 : Nat) : Int)) rfl rfl) (ipCons (ipO (.i64, (K.length : Int)) rfl rfl) ipNil))))) (vpCons (vecSubN (intSame (K.length * 4) (cell K)) (leK (c := K.length * 4) rfl rfl)) vpNil) (glF rfl rfl rfl fun _ _ _ h => fint h) (by as_aux_lemma => kernel_rfl) (St.same (VRows.fsame _ _ _ _ _ _ _) s)
/-- none is kept -/
def SE (p : Int) (w0 : World) (a : Act) (w : World) : Prop := St (plE p) (Kp.below w0.heap.size) w0 (fun _ => none) 99 (frOf [(1, .oi 2), (7, .bool true), (9, nm), (10, .nils)]) (hOf 0 []) a w
/-- some are kept -/
def SK (p : Int) (K : List Hd) (w0 : World) (a : Act) (w : World) : Prop := St (plF p K 0 0) (Kp.below w0.heap.size) w0 (fun _ => none) 99 (frOf [(1, .oi 2), (7, .bool true), (9, nm), (10, .ov 0 5 4)]) (hOf 1 bsV) a w
theorem x10 (hn : n = N) (s : SA0 b o cap N p x z n w0 a w) : la.wp Tryz.prog (fun e a' w' => e = .exit 0 ∧ SE p w0 a' w') a w :=
  runTo_sound (T := ((RAe N n p x z [] _ (rE1 hn)).ftab (fgn b o cap N z) [] (by exact fun _ h => nomatch h))) (T' := plE p) (K := Hand.none) (n := 100) mx (@HandOk.none ((RAe N n p x z [] _ (rE1 hn)).ftab (fgn b o cap N z) [] (by exact fun _ h => nomatch h)) Tryz.prog) (C := (⟨0, 0, ofPairs [], [(.oi 2, 2)]⟩ : Cv)) (rl := []) (ex := .exit 0) (vp := []) (fs := [(1, .oi 2), (7, .bool true), (9, nm), (10, .nils)]) (bs := [])
    (Base.none _) (Nat.zero_le _) rfl (by kernel_rfl) (ipCons (ipO (.i64, p) rfl rfl) ipNil) vpNil (glNone rfl rfl) (by as_aux_lemma => kernel_rfl) (St.same (VRows.fsame _ _ _ _ _ _ _) s)
theorem x11 (hn : n = N) (s : SA1 b o cap N p x z K n w0 a w) : la.wp Tryz.prog (fun e a' w' => e = .exit 0 ∧ SK p K w0 a' w') a w :=
  runTo_sound (T := ((RAe N n p x z K _ (rE1 hn)).ftab (fgn b o cap N z) [] (by exact fun _ h => nomatch h))) (T' := plF p K 0 0) (K := Hand.none) (n := 100) mx (@HandOk.none ((RAe N n p x z K _ (rE1 hn)).ftab (fgn b o cap N z) [] (by exact fun _ h => nomatch h)) Tryz.prog) (C := (⟨0, 1, ofPairs [(0, 0)], [(.oi 2, 2), (.oi 5, 5)]⟩ : Cv)) (rl := [(0, 0)]) (ex := .exit 0) (vp := [(0, .vec 0, 0)]) (fs := [(1, .oi 2), (7, .bool true), (9, nm), (10, .ov 0 5 4)]) (bs := bsV)
    (Base.none _) (Nat.zero_le _) rfl (by kernel_rfl) (ipCons (ipO (.i64, p) rfl rfl) (ipCons (ipO (.i64, (K.length : Int)) rfl rfl) ipNil)) (vpCons (vecSubN (intSame (K.length * 4) (cell K)) (leK (c := K.length * 4) rfl rfl)) vpNil) (glNone rfl rfl) (by as_aux_lemma => kernel_rfl) (St.same (VRows.fsame _ _ _ _ _ _ _) s)
theorem x20 (hn : n < N) (h8 : ¬ n < 8) (s : SA0 b o cap N p x z n w0 a w) : la.wp Tryz.prog (fun e a' w' => e = .exit 0 ∧ SE p w0 a' w') a w :=
  runTo_sound (T := ((RAe N n p x z [] _ (rE2 hn h8)).ftab (fgn b o cap N z) [] (by exact fun _ h => nomatch h))) (T' := plE p) (K := Hand.none) (n := 100) mx (@HandOk.none ((RAe N n p x z [] _ (rE2 hn h8)).ftab (fgn b o cap N z) [] (by exact fun _ h => nomatch h)) Tryz.prog) (C := (⟨0, 0, ofPairs [], [(.oi 2, 2)]⟩ : Cv)) (rl := []) (ex := .exit 0) (vp := []) (fs := [(1, .oi 2), (7, .bool true), (9, nm), (10, .nils)]) (bs := [])
    (Base.none _) (Nat.zero_le _) rfl (by kernel_rfl) (ipCons (ipO (.i64, p) rfl rfl) ipNil) vpNil (glNone rfl rfl) (by as_aux_lemma => kernel_rfl) (St.same (VRows.fsame _ _ _ _ _ _ _) s)
theorem x21 (hn : n < N) (h8 : ¬ n < 8) (s : SA1 b o cap N p x z K n w0 a w) : la.wp Tryz.prog (fun e a' w' => e = .exit 0 ∧ SK p K w0 a' w') a w :=
  runTo_sound (T := ((RAe N n p x z K _ (rE2 hn h8)).ftab (fgn b o cap N z) [] (by exact fun _ h => nomatch h))) (T' := plF p K 0 0) (K := Hand.none) (n := 100) mx (@HandOk.none ((RAe N n p x z K _ (rE2 hn h8)).ftab (fgn b o cap N z) [] (by exact fun _ h => nomatch h)) Tryz.prog) (C := (⟨0, 1, ofPairs [(0, 0)], [(.oi 2, 2), (.oi 5, 5)]⟩ : Cv)) (rl := [(0, 0)]) (ex := .exit 0) (vp := [(0, .vec 0, 0)]) (fs := [(1, .oi 2), (7, .bool true), (9, nm), (10, .ov 0 5 4)]) (bs := bsV)
    (Base.none _) (Nat.zero_le _) rfl (by kernel_rfl) (ipCons (ipO (.i64, p) rfl rfl) (ipCons (ipO (.i64, (K.length : Int)) rfl rfl) ipNil)) (vpCons (vecSubN (intSame (K.length * 4) (cell K)) (leK (c := K.length * 4) rfl rfl)) vpNil) (glNone rfl rfl) (by as_aux_lemma => kernel_rfl) (St.same (VRows.fsame _ _ _ _ _ _ _) s)
def SA (b o cap N : Nat) (p x : Int) (z : Nat → Int) (n : Nat) (w0 : World) (a : Act) (w : World) : Prop := (kl z n = [] ∧ SA0 b o cap N p x z n w0 a w) ∨ (kl z n ≠ [] ∧ SA1 b o cap N p x z (kl z n) n w0 a w)
def AE (p : Int) (K : List Hd) (w0 : World) (a : Act) (w : World) : Prop := (K = [] ∧ SE p w0 a w) ∨ (K ≠ [] ∧ SK p K w0 a w)
theorem goA (hn : n < N) (h8 : n < 8) (s : SA b o cap N p x z n w0 a w) : la.wp Tryz.prog (fun e a' w' => e = .normal ∧ SA b o cap N p x z (n + 1) w0 a' w') a w := by
  have hl : (kl z n).length < 1000 := Nat.lt_of_le_of_lt (kl_len z n) (by omega)
  have keep0 : kl z n = [] → (el z n).kept → ∀ e a' w', (e = Exit.normal ∧ SA1 b o cap N p x z [el z n] (n + 1) w0 a' w') → e = .normal ∧ SA b o cap N p x z (n + 1) w0 a' w' := by
    rintro h0 hk e a' w' ⟨rfl, s'⟩
    have h1 : kl z (n + 1) = [el z n] := by rw [kl_keep hk, h0]; rfl
    exact ⟨rfl, .inr ⟨by rw [h1]; simp, by rw [h1]; exact s'⟩⟩
  have keep1 : (el z n).kept → ∀ e a' w', (e = Exit.normal ∧ SA1 b o cap N p x z (kl z n ++ [el z n]) (n + 1) w0 a' w') → e = .normal ∧ SA b o cap N p x z (n + 1) w0 a' w' := by
    rintro hk e a' w' ⟨rfl, s'⟩
    exact ⟨rfl, .inr ⟨by rw [kl_keep hk]; simp, by rw [kl_keep hk]; exact s'⟩⟩
  have drop0 : kl z n = [] → ¬ (el z n).kept → ∀ e a' w', (e = Exit.normal ∧ SA0 b o cap N p x z (n + 1) w0 a' w') → e = .normal ∧ SA b o cap N p x z (n + 1) w0 a' w' := by
    rintro h0 hk e a' w' ⟨rfl, s'⟩
    exact ⟨rfl, .inl ⟨by rw [kl_drop hk]; exact h0, s'⟩⟩
  have drop1 : kl z n ≠ [] → ¬ (el z n).kept → ∀ e a' w', (e = Exit.normal ∧ SA1 b o cap N p x z (kl z n) (n + 1) w0 a' w') → e = .normal ∧ SA b o cap N p x z (n + 1) w0 a' w' := by
    rintro h0 hk e a' w' ⟨rfl, s'⟩
    exact ⟨rfl, .inr ⟨by rw [kl_drop hk]; exact h0, by rw [kl_drop hk]; exact s'⟩⟩
  by_cases t0 : z (n * 4 + 3) < 0
  · by_cases k0 : z (n * 4) ≥ 0
    · by_cases k1 : z (n * 4) < z (n * 4 + 1)
      · by_cases k2 : z (n * 4 + 2) ≥ 0
        · rcases s with ⟨h0, s⟩ | ⟨h0, s⟩
          · exact wp_mono (go000 hn h8 t0 k0 k1 k2 s) (keep0 h0 ⟨k0, k1, k2⟩)
          · exact wp_mono (go001 hn h8 t0 k0 k1 k2 hl s) (keep1 ⟨k0, k1, k2⟩)
        · rcases s with ⟨h0, s⟩ | ⟨h0, s⟩
          · exact wp_mono (go030 hn h8 t0 k0 k1 k2 s) (drop0 h0 (fun h => k2 h.2.2))
          · exact wp_mono (go031 hn h8 t0 k0 k1 k2 s) (drop1 h0 (fun h => k2 h.2.2))
      · rcases s with ⟨h0, s⟩ | ⟨h0, s⟩
        · exact wp_mono (go020 hn h8 t0 k0 k1 s) (drop0 h0 (fun h => k1 h.2.1))
        · exact wp_mono (go021 hn h8 t0 k0 k1 s) (drop1 h0 (fun h => k1 h.2.1))
    · rcases s with ⟨h0, s⟩ | ⟨h0, s⟩
      · exact wp_mono (go010 hn h8 t0 k0 s) (drop0 h0 (fun h => k0 h.1))
      · exact wp_mono (go011 hn h8 t0 k0 s) (drop1 h0 (fun h => k0 h.1))
  · by_cases t1 : z (n * 4 + 3) > 5
    · by_cases k0 : z (n * 4) ≥ 0
      · by_cases k1 : z (n * 4) < z (n * 4 + 1)
        · by_cases k2 : z (n * 4 + 2) ≥ 0
          · rcases s with ⟨h0, s⟩ | ⟨h0, s⟩
            · exact wp_mono (go100 hn h8 t0 t1 k0 k1 k2 s) (keep0 h0 ⟨k0, k1, k2⟩)
            · exact wp_mono (go101 hn h8 t0 t1 k0 k1 k2 hl s) (keep1 ⟨k0, k1, k2⟩)
          · rcases s with ⟨h0, s⟩ | ⟨h0, s⟩
            · exact wp_mono (go130 hn h8 t0 t1 k0 k1 k2 s) (drop0 h0 (fun h => k2 h.2.2))
            · exact wp_mono (go131 hn h8 t0 t1 k0 k1 k2 s) (drop1 h0 (fun h => k2 h.2.2))
        · rcases s with ⟨h0, s⟩ | ⟨h0, s⟩
          · exact wp_mono (go120 hn h8 t0 t1 k0 k1 s) (drop0 h0 (fun h => k1 h.2.1))
          · exact wp_mono (go121 hn h8 t0 t1 k0 k1 s) (drop1 h0 (fun h => k1 h.2.1))
      · rcases s with ⟨h0, s⟩ | ⟨h0, s⟩
        · exact wp_mono (go110 hn h8 t0 t1 k0 s) (drop0 h0 (fun h => k0 h.1))
        · exact wp_mono (go111 hn h8 t0 t1 k0 s) (drop1 h0 (fun h => k0 h.1))
    · by_cases k0 : z (n * 4) ≥ 0
      · by_cases k1 : z (n * 4) < z (n * 4 + 1)
        · by_cases k2 : z (n * 4 + 2) ≥ 0
          · rcases s with ⟨h0, s⟩ | ⟨h0, s⟩
            · exact wp_mono (go200 hn h8 t0 t1 k0 k1 k2 s) (keep0 h0 ⟨k0, k1, k2⟩)
            · exact wp_mono (go201 hn h8 t0 t1 k0 k1 k2 hl s) (keep1 ⟨k0, k1, k2⟩)
          · rcases s with ⟨h0, s⟩ | ⟨h0, s⟩
            · exact wp_mono (go230 hn h8 t0 t1 k0 k1 k2 s) (drop0 h0 (fun h => k2 h.2.2))
            · exact wp_mono (go231 hn h8 t0 t1 k0 k1 k2 s) (drop1 h0 (fun h => k2 h.2.2))
        · rcases s with ⟨h0, s⟩ | ⟨h0, s⟩
          · exact wp_mono (go220 hn h8 t0 t1 k0 k1 s) (drop0 h0 (fun h => k1 h.2.1))
          · exact wp_mono (go221 hn h8 t0 t1 k0 k1 s) (drop1 h0 (fun h => k1 h.2.1))
      · rcases s with ⟨h0, s⟩ | ⟨h0, s⟩
        · exact wp_mono (go210 hn h8 t0 t1 k0 s) (drop0 h0 (fun h => k0 h.1))
        · exact wp_mono (go211 hn h8 t0 t1 k0 s) (drop1 h0 (fun h => k0 h.1))

theorem roundsA : ∀ (j n : Nat) (a : Act) (w : World), n + j = 9 → n ≤ N → n ≤ 8 → SA b o cap N p x z n w0 a w → Code.rounds Tryz.prog la (fun e a w => e = .exit 0 ∧ AE p (kl z (min N 8)) w0 a w) j a w
  | 0, n, a, w, h1, h2, h3, s => by omega
  | j + 1, n, a, w, h1, h2, h3, s => by
    by_cases hn : n < N
    · by_cases h8 : n < 8
      · refine rounds_of (wp_mono (goA hn h8 s) ?_)
        rintro e a' w' ⟨rfl, s'⟩
        exact roundsA j (n + 1) a' w' (by omega) (by omega) (by omega) s'
      · have hm : min N 8 = n := by omega
        rw [hm]
        rcases s with ⟨h0, s⟩ | ⟨h0, s⟩
        · refine rounds_of (wp_mono (x20 hn h8 s) ?_)
          rintro e a' w' ⟨rfl, s'⟩
          exact ⟨rfl, .inl ⟨h0, s'⟩⟩
        · refine rounds_of (wp_mono (x21 hn h8 s) ?_)
          rintro e a' w' ⟨rfl, s'⟩
          exact ⟨rfl, .inr ⟨h0, s'⟩⟩
    · have hm : min N 8 = n := by omega
      have hn' : n = N := by omega
      rw [hm]
      rcases s with ⟨h0, s⟩ | ⟨h0, s⟩
      · refine rounds_of (wp_mono (x10 hn' s) ?_)
        rintro e a' w' ⟨rfl, s'⟩
        exact ⟨rfl, .inl ⟨h0, s'⟩⟩
      · refine rounds_of (wp_mono (x11 hn' s) ?_)
        rintro e a' w' ⟨rfl, s'⟩
        exact ⟨rfl, .inr ⟨h0, s'⟩⟩
end
section
variable {p R : Int} {K : List Hd} {k : Nat} {B : Kp} {w0 w : World} {μ : M} {a : Act}
noncomputable abbrev fsF (i : List (Nat × AV)) : List (Nat × AV) := (0, .ptr 10 0) :: (1, .ptr 3 0) :: (3, .oi 2) :: (4, nm) :: i
def SF0 (p : Int) (K : List Hd) (R : Int) (B : Kp) (w0 : World) (μ : M) (a : Act) (w : World) : Prop := St (plF p K 0 R) B w0 μ 85 (frOf (fsF [(2, cI 0)])) (hOf 3262 bsF) a w
def SF (p : Int) (K : List Hd) (k : Nat) (R : Int) (B : Kp) (w0 : World) (μ : M) (a : Act) (w : World) : Prop := St (plF p K k R) B w0 μ 85 (frOf (fsF [(38, .ov 0 5 4), (39, .oi 5), (40, .oi 21)])) (hOf 3262 bsF) a w
def SFr (p : Int) (K : List Hd) (R : Int) (B : Kp) (w0 : World) (μ : M) (nt : Nat) (a : Act) (w : World) : Prop := St (RS p K R).tab B w0 μ nt (frOf [(10, .oi 20)]) (hOf 3262 bsF) a w
noncomputable abbrev fsG (i : List (Nat × AV)) : List (Nat × AV) := (0, .ptr 7 0) :: (1, .ptr 3 0) :: (3, .oi 2) :: (4, nm) :: (7, .ptr 3262 0) :: i
def SG0 (p : Int) (K : List Hd) (R : Int) (B : Kp) (w0 : World) (μ : M) (a : Act) (w : World) : Prop := St (plF p K 0 R) B w0 μ 72 (frOf (fsG [])) (hOf 3263 bsG) a w
def SG (p : Int) (K : List Hd) (k : Nat) (R : Int) (B : Kp) (w0 : World) (μ : M) (a : Act) (w : World) : Prop := St (plF p K k R) B w0 μ 72 (frOf (fsG [(11, .oi 21)])) (hOf 3263 bsG) a w
theorem bF (hb : Base B μ 3262) (s : SF0 p K R B w0 μ a w) : f2.wp Tryz.prog (fun e a' w' => e = .normal ∧ SF p K 0 R B w0 μ a' w') a w :=
  runTo_sound (T := plF p K 0 R) (T' := plF p K 0 R) (K := Hand.none) (n := 100) mx (@HandOk.none (plF p K 0 R) Tryz.prog) (C := (⟨3262, 3262, ofPairs [], [(.oi 2, 2), (.oi 5, 5), (cI 0, 21)]⟩ : Cv)) (rl := []) (ex := .normal) (vp := [(0, .vec 0, 0)]) (fs := fsF [(38, .ov 0 5 4), (39, .oi 5), (40, .oi 21)]) (bs := bsF)
    hb (by decide) rfl (by kernel_rfl) (ipCons (ipO (.i64, p) rfl rfl) (ipCons (ipO (.i64, (K.length : Int)) rfl rfl) (ipCons (ipC rfl) ipNil))) (vpK (K := K) rfl rfl rfl rfl) (glNone rfl rfl) (by as_aux_lemma => kernel_rfl) s
theorem oF1 (hb : Base B μ 3262) (hl : K.length < 1000) (hk : k < K.length) (c1 : p < (K.getD k default).f) (s : SF p K k R B w0 μ a w) : lf.wp Tryz.prog (fun e a' w' => e = .normal ∧ SF p K (k + 1) R B w0 μ a' w') a w :=
  runTo_sound (T := (RF p K k R _ (rO1 hl hk c1) [⟨0, 21, 4, 0, [.oi 10, .oi 11, .oi 12, .oi 13]⟩] (vl4 hk rfl)).tab) (T' := plF p K (k + 1) R) (K := KH) (n := 1000) mx (@sumsHand_ok (RF p K k R _ (rO1 hl hk c1) [⟨0, 21, 4, 0, [.oi 10, .oi 11, .oi 12, .oi 13]⟩] (vl4 hk rfl)).tab Tryz.prog _ (@tabG_ok (RF p K k R _ (rO1 hl hk c1) [⟨0, 21, 4, 0, [.oi 10, .oi 11, .oi 12, .oi 13]⟩] (vl4 hk rfl)).tab)) (C := (⟨3262, 3262, ofPairs [], [(.oi 2, 2), (.oi 5, 5), (.oi 22, 21)]⟩ : Cv)) (rl := []) (ex := .normal) (vp := [(0, .vec 0, 0)]) (fs := fsF [(38, .ov 0 5 4), (39, .oi 5), (40, .oi 21)]) (bs := bsF)
    hb (by decide) rfl (by kernel_rfl) (ipCons (ipO (.i64, p) rfl rfl) (ipCons (ipO (.i64, (K.length : Int)) rfl rfl) (ipCons (ipO (.i64, ((k + 1 : Nat) : Int)) rfl rfl) ipNil))) (vpK (K := K) rfl rfl rfl rfl) (glNone rfl rfl) (by as_aux_lemma => kernel_rfl) (St.same (VRows.same _ _) s)
theorem oF2 (hb : Base B μ 3262) (hl : K.length < 1000) (hk : k < K.length) (c1 : ¬ p < (K.getD k default).f) (c2 : p ≥ (K.getD k default).t) (s : SF p K k R B w0 μ a w) : lf.wp Tryz.prog (fun e a' w' => e = .normal ∧ SF p K (k + 1) R B w0 μ a' w') a w :=
  runTo_sound (T := (RF p K k R _ (rO2 hl hk c1 c2) [⟨0, 21, 4, 0, [.oi 10, .oi 11, .oi 12, .oi 13]⟩] (vl4 hk rfl)).tab) (T' := plF p K (k + 1) R) (K := KH) (n := 1000) mx (@sumsHand_ok (RF p K k R _ (rO2 hl hk c1 c2) [⟨0, 21, 4, 0, [.oi 10, .oi 11, .oi 12, .oi 13]⟩] (vl4 hk rfl)).tab Tryz.prog _ (@tabG_ok (RF p K k R _ (rO2 hl hk c1 c2) [⟨0, 21, 4, 0, [.oi 10, .oi 11, .oi 12, .oi 13]⟩] (vl4 hk rfl)).tab)) (C := (⟨3262, 3262, ofPairs [], [(.oi 2, 2), (.oi 5, 5), (.oi 22, 21)]⟩ : Cv)) (rl := []) (ex := .normal) (vp := [(0, .vec 0, 0)]) (fs := fsF [(38, .ov 0 5 4), (39, .oi 5), (40, .oi 21)]) (bs := bsF)
    hb (by decide) rfl (by kernel_rfl) (ipCons (ipO (.i64, p) rfl rfl) (ipCons (ipO (.i64, (K.length : Int)) rfl rfl) (ipCons (ipO (.i64, ((k + 1 : Nat) : Int)) rfl rfl) ipNil))) (vpK (K := K) rfl rfl rfl rfl) (glNone rfl rfl) (by as_aux_lemma => kernel_rfl) (St.same (VRows.same _ _) s)
theorem yF0 (hb : Base B μ 3262) (hl : K.length < 1000) (hk : k < K.length) (c1 : ¬ p < (K.getD k default).f) (c2 : ¬ p ≥ (K.getD k default).t) (hy : (K.getD k default).y = 0) (hR : (K.getD k default).a = R) (s : SF p K k R B w0 μ a w) : lf.wp Tryz.prog (fun e a' w' => e = .ret ∧ SFr p K R B w0 μ 85 a' w') a w :=
  runTo_sound (T := (RF p K k R _ (rIn hl hk c1 c2) [⟨0, 21, 4, 0, [.oi 10, .oi 11, .oi 12, cI 0]⟩] (vl4 hk (by show some (IntKind.i64, (0 : Int)) = _; rw [hy]))).tab) (T' := (RS p K R).tab) (K := KH) (n := 1000) mx (@sumsHand_ok (RF p K k R _ (rIn hl hk c1 c2) [⟨0, 21, 4, 0, [.oi 10, .oi 11, .oi 12, cI 0]⟩] (vl4 hk (by show some (IntKind.i64, (0 : Int)) = _; rw [hy]))).tab Tryz.prog _ (@tabG_ok (RF p K k R _ (rIn hl hk c1 c2) [⟨0, 21, 4, 0, [.oi 10, .oi 11, .oi 12, cI 0]⟩] (vl4 hk (by show some (IntKind.i64, (0 : Int)) = _; rw [hy]))).tab)) (C := (⟨3262, 3262, ofPairs [], [(.oi 2, 2), (.oi 5, 5), (.oi 12, 20)]⟩ : Cv)) (rl := []) (ex := .ret) (vp := [(0, .vec 0, 0)]) (fs := [(10, .oi 20)]) (bs := bsF)
    hb (by decide) rfl (by kernel_rfl) (ipCons (ipO (.i64, p) rfl rfl) (ipCons (ipO (.i64, (K.length : Int)) rfl rfl) (ipCons (ipO (.i64, (K.getD k default).a) rfl (by show (IntKind.i64, R) = _; rw [hR])) ipNil))) (vpK (K := K) rfl rfl rfl rfl) (glNone rfl rfl) (by as_aux_lemma => kernel_rfl) (St.same (VRows.same _ _) s)
theorem yF2 (hb : Base B μ 3262) (hl : K.length < 1000) (hk : k < K.length) (c1 : ¬ p < (K.getD k default).f) (c2 : ¬ p ≥ (K.getD k default).t) (hy : (K.getD k default).y = 2) (hR : (K.getD k default).a = R) (s : SF p K k R B w0 μ a w) : lf.wp Tryz.prog (fun e a' w' => e = .ret ∧ SFr p K R B w0 μ 85 a' w') a w :=
  runTo_sound (T := (RF p K k R _ (rIn hl hk c1 c2) [⟨0, 21, 4, 0, [.oi 10, .oi 11, .oi 12, cI 2]⟩] (vl4 hk (by show some (IntKind.i64, (2 : Int)) = _; rw [hy]))).tab) (T' := (RS p K R).tab) (K := KH) (n := 1000) mx (@sumsHand_ok (RF p K k R _ (rIn hl hk c1 c2) [⟨0, 21, 4, 0, [.oi 10, .oi 11, .oi 12, cI 2]⟩] (vl4 hk (by show some (IntKind.i64, (2 : Int)) = _; rw [hy]))).tab Tryz.prog _ (@tabG_ok (RF p K k R _ (rIn hl hk c1 c2) [⟨0, 21, 4, 0, [.oi 10, .oi 11, .oi 12, cI 2]⟩] (vl4 hk (by show some (IntKind.i64, (2 : Int)) = _; rw [hy]))).tab)) (C := (⟨3262, 3262, ofPairs [], [(.oi 2, 2), (.oi 5, 5), (.oi 12, 20)]⟩ : Cv)) (rl := []) (ex := .ret) (vp := [(0, .vec 0, 0)]) (fs := [(10, .oi 20)]) (bs := bsF)
    hb (by decide) rfl (by kernel_rfl) (ipCons (ipO (.i64, p) rfl rfl) (ipCons (ipO (.i64, (K.length : Int)) rfl rfl) (ipCons (ipO (.i64, (K.getD k default).a) rfl (by show (IntKind.i64, R) = _; rw [hR])) ipNil))) (vpK (K := K) rfl rfl rfl rfl) (glNone rfl rfl) (by as_aux_lemma => kernel_rfl) (St.same (VRows.same _ _) s)
theorem yF4 (hb : Base B μ 3262) (hl : K.length < 1000) (hk : k < K.length) (c1 : ¬ p < (K.getD k default).f) (c2 : ¬ p ≥ (K.getD k default).t) (hy : (K.getD k default).y = 4) (hR : (K.getD k default).a = R) (s : SF p K k R B w0 μ a w) : lf.wp Tryz.prog (fun e a' w' => e = .ret ∧ SFr p K R B w0 μ 85 a' w') a w :=
  runTo_sound (T := (RF p K k R _ (rIn hl hk c1 c2) [⟨0, 21, 4, 0, [.oi 10, .oi 11, .oi 12, cI 4]⟩] (vl4 hk (by show some (IntKind.i64, (4 : Int)) = _; rw [hy]))).tab) (T' := (RS p K R).tab) (K := KH) (n := 1000) mx (@sumsHand_ok (RF p K k R _ (rIn hl hk c1 c2) [⟨0, 21, 4, 0, [.oi 10, .oi 11, .oi 12, cI 4]⟩] (vl4 hk (by show some (IntKind.i64, (4 : Int)) = _; rw [hy]))).tab Tryz.prog _ (@tabG_ok (RF p K k R _ (rIn hl hk c1 c2) [⟨0, 21, 4, 0, [.oi 10, .oi 11, .oi 12, cI 4]⟩] (vl4 hk (by show some (IntKind.i64, (4 : Int)) = _; rw [hy]))).tab)) (C := (⟨3262, 3262, ofPairs [], [(.oi 2, 2), (.oi 5, 5), (.oi 12, 20)]⟩ : Cv)) (rl := []) (ex := .ret) (vp := [(0, .vec 0, 0)]) (fs := [(10, .oi 20)]) (bs := bsF)
    hb (by decide) rfl (by kernel_rfl) (ipCons (ipO (.i64, p) rfl rfl) (ipCons (ipO (.i64, (K.length : Int)) rfl rfl) (ipCons (ipO (.i64, (K.getD k default).a) rfl (by show (IntKind.i64, R) = _; rw [hR])) ipNil))) (vpK (K := K) rfl rfl rfl rfl) (glNone rfl rfl) (by as_aux_lemma => kernel_rfl) (St.same (VRows.same _ _) s)
theorem yF6 (hb : Base B μ 3262) (hl : K.length < 1000) (hk : k < K.length) (c1 : ¬ p < (K.getD k default).f) (c2 : ¬ p ≥ (K.getD k default).t) (hy : (K.getD k default).y = 6) (s : SF p K k R B w0 μ a w) : lf.wp Tryz.prog (fun e a' w' => e = .normal ∧ SF p K (k + 1) R B w0 μ a' w') a w :=
  runTo_sound (T := (RF p K k R _ (rIn hl hk c1 c2) [⟨0, 21, 4, 0, [.oi 10, .oi 11, .oi 12, cI 6]⟩] (vl4 hk (by show some (IntKind.i64, (6 : Int)) = _; rw [hy]))).tab) (T' := plF p K (k + 1) R) (K := KH) (n := 1000) mx (@sumsHand_ok (RF p K k R _ (rIn hl hk c1 c2) [⟨0, 21, 4, 0, [.oi 10, .oi 11, .oi 12, cI 6]⟩] (vl4 hk (by show some (IntKind.i64, (6 : Int)) = _; rw [hy]))).tab Tryz.prog _ (@tabG_ok (RF p K k R _ (rIn hl hk c1 c2) [⟨0, 21, 4, 0, [.oi 10, .oi 11, .oi 12, cI 6]⟩] (vl4 hk (by show some (IntKind.i64, (6 : Int)) = _; rw [hy]))).tab)) (C := (⟨3262, 3262, ofPairs [], [(.oi 2, 2), (.oi 5, 5), (.oi 22, 21)]⟩ : Cv)) (rl := []) (ex := .normal) (vp := [(0, .vec 0, 0)]) (fs := fsF [(38, .ov 0 5 4), (39, .oi 5), (40, .oi 21)]) (bs := bsF)
    hb (by decide) rfl (by kernel_rfl) (ipCons (ipO (.i64, p) rfl rfl) (ipCons (ipO (.i64, (K.length : Int)) rfl rfl) (ipCons (ipO (.i64, ((k + 1 : Nat) : Int)) rfl rfl) ipNil))) (vpK (K := K) rfl rfl rfl rfl) (glNone rfl rfl) (by as_aux_lemma => kernel_rfl) (St.same (VRows.same _ _) s)
theorem yF8 (hb : Base B μ 3262) (hl : K.length < 1000) (hk : k < K.length) (c1 : ¬ p < (K.getD k default).f) (c2 : ¬ p ≥ (K.getD k default).t) (hy : (K.getD k default).y = 8) (s : SF p K k R B w0 μ a w) : lf.wp Tryz.prog (fun e a' w' => e = .normal ∧ SF p K (k + 1) R B w0 μ a' w') a w :=
  runTo_sound (T := (RF p K k R _ (rIn hl hk c1 c2) [⟨0, 21, 4, 0, [.oi 10, .oi 11, .oi 12, cI 8]⟩] (vl4 hk (by show some (IntKind.i64, (8 : Int)) = _; rw [hy]))).tab) (T' := plF p K (k + 1) R) (K := KH) (n := 1000) mx (@sumsHand_ok (RF p K k R _ (rIn hl hk c1 c2) [⟨0, 21, 4, 0, [.oi 10, .oi 11, .oi 12, cI 8]⟩] (vl4 hk (by show some (IntKind.i64, (8 : Int)) = _; rw [hy]))).tab Tryz.prog _ (@tabG_ok (RF p K k R _ (rIn hl hk c1 c2) [⟨0, 21, 4, 0, [.oi 10, .oi 11, .oi 12, cI 8]⟩] (vl4 hk (by show some (IntKind.i64, (8 : Int)) = _; rw [hy]))).tab)) (C := (⟨3262, 3262, ofPairs [], [(.oi 2, 2), (.oi 5, 5), (.oi 22, 21)]⟩ : Cv)) (rl := []) (ex := .normal) (vp := [(0, .vec 0, 0)]) (fs := fsF [(38, .ov 0 5 4), (39, .oi 5), (40, .oi 21)]) (bs := bsF)
    hb (by decide) rfl (by kernel_rfl) (ipCons (ipO (.i64, p) rfl rfl) (ipCons (ipO (.i64, (K.length : Int)) rfl rfl) (ipCons (ipO (.i64, ((k + 1 : Nat) : Int)) rfl rfl) ipNil))) (vpK (K := K) rfl rfl rfl rfl) (glNone rfl rfl) (by as_aux_lemma => kernel_rfl) (St.same (VRows.same _ _) s)
theorem yF10 (hb : Base B μ 3262) (hl : K.length < 1000) (hk : k < K.length) (c1 : ¬ p < (K.getD k default).f) (c2 : ¬ p ≥ (K.getD k default).t) (hy : (K.getD k default).y = 10) (hR : (K.getD k default).a = R) (s : SF p K k R B w0 μ a w) : lf.wp Tryz.prog (fun e a' w' => e = .ret ∧ SFr p K R B w0 μ 85 a' w') a w :=
  runTo_sound (T := (RF p K k R _ (rIn hl hk c1 c2) [⟨0, 21, 4, 0, [.oi 10, .oi 11, .oi 12, cI 10]⟩] (vl4 hk (by show some (IntKind.i64, (10 : Int)) = _; rw [hy]))).tab) (T' := (RS p K R).tab) (K := KH) (n := 1000) mx (@sumsHand_ok (RF p K k R _ (rIn hl hk c1 c2) [⟨0, 21, 4, 0, [.oi 10, .oi 11, .oi 12, cI 10]⟩] (vl4 hk (by show some (IntKind.i64, (10 : Int)) = _; rw [hy]))).tab Tryz.prog _ (@tabG_ok (RF p K k R _ (rIn hl hk c1 c2) [⟨0, 21, 4, 0, [.oi 10, .oi 11, .oi 12, cI 10]⟩] (vl4 hk (by show some (IntKind.i64, (10 : Int)) = _; rw [hy]))).tab)) (C := (⟨3262, 3262, ofPairs [], [(.oi 2, 2), (.oi 5, 5), (.oi 12, 20)]⟩ : Cv)) (rl := []) (ex := .ret) (vp := [(0, .vec 0, 0)]) (fs := [(10, .oi 20)]) (bs := bsF)
    hb (by decide) rfl (by kernel_rfl) (ipCons (ipO (.i64, p) rfl rfl) (ipCons (ipO (.i64, (K.length : Int)) rfl rfl) (ipCons (ipO (.i64, (K.getD k default).a) rfl (by show (IntKind.i64, R) = _; rw [hR])) ipNil))) (vpK (K := K) rfl rfl rfl rfl) (glNone rfl rfl) (by as_aux_lemma => kernel_rfl) (St.same (VRows.same _ _) s)
theorem eF (hb : Base B μ 3262) (hk : ¬ k < K.length) (s : SF p K k R B w0 μ a w) : lf.wp Tryz.prog (fun e a' w' => e = .exit 0 ∧ SF p K k R B w0 μ a' w') a w :=
  runTo_sound (T := (RF p K k R _ (rX hk) [] (by exact fun _ h => nomatch h)).tab) (T' := plF p K k R) (K := Hand.none) (n := 100) mx (@HandOk.none (RF p K k R _ (rX hk) [] (by exact fun _ h => nomatch h)).tab Tryz.prog) (C := (⟨3262, 3262, ofPairs [], [(.oi 2, 2), (.oi 5, 5), (.oi 21, 21)]⟩ : Cv)) (rl := []) (ex := .exit 0) (vp := [(0, .vec 0, 0)]) (fs := fsF [(38, .ov 0 5 4), (39, .oi 5), (40, .oi 21)]) (bs := bsF)
    hb (by decide) rfl (by kernel_rfl) (ipCons (ipO (.i64, p) rfl rfl) (ipCons (ipO (.i64, (K.length : Int)) rfl rfl) (ipCons (ipO (.i64, (k : Int)) rfl rfl) ipNil))) (vpK (K := K) rfl rfl rfl rfl) (glNone rfl rfl) (by as_aux_lemma => kernel_rfl) (St.same (VRows.same _ _) s)
theorem tF (hb : Base B μ 3262) (hR : R = -1) (s : SF p K k R B w0 μ a w) : ft.wp Tryz.prog (fun e a' w' => e = .ret ∧ SFr p K R B w0 μ 85 a' w') a w :=
  runTo_sound (T := plF p K k R) (T' := (RS p K R).tab) (K := Hand.none) (n := 100) mx (@HandOk.none (plF p K k R) Tryz.prog) (C := (⟨3262, 3262, ofPairs [], [(.oi 2, 2), (.oi 5, 5), (cI (-1), 20)]⟩ : Cv)) (rl := []) (ex := .ret) (vp := [(0, .vec 0, 0)]) (fs := [(10, .oi 20)]) (bs := bsF)
    hb (by decide) rfl (by kernel_rfl) (ipCons (ipO (.i64, p) rfl rfl) (ipCons (ipO (.i64, (K.length : Int)) rfl rfl) (ipCons (ipC (by show (IntKind.i64, R) = _; rw [hR])) ipNil))) (vpK (K := K) rfl rfl rfl rfl) (glNone rfl rfl) (by as_aux_lemma => kernel_rfl) s
def QF (p : Int) (K : List Hd) (R : Int) (B : Kp) (w0 : World) (μ : M) (e : Exit) (a : Act) (w : World) : Prop := (e = .exit 0 ∧ R = -1 ∧ SF p K K.length R B w0 μ a w) ∨ (e = .ret ∧ SFr p K R B w0 μ 85 a w)
theorem roundsF (hb : Base B μ 3262) (hl : K.length < 1000) (hty : ∀ h ∈ K, h.y = 0 ∨ h.y = 2 ∨ h.y = 4 ∨ h.y = 6 ∨ h.y = 8 ∨ h.y = 10) : ∀ (j k : Nat) (a : Act) (w : World), k + j = K.length + 1 → k ≤ K.length → fnd mt p (K.drop k) = R → SF p K k R B w0 μ a w → Code.rounds Tryz.prog lf (QF p K R B w0 μ) j a w
  | 0, k, a, w, h1, h2, h3, s => by omega
  | j + 1, k, a, w, h1, h2, h3, s => by
    by_cases hk : k < K.length
    · rw [drop_at hk] at h3
      have on : ¬ ((K.getD k default).f ≤ p ∧ p < (K.getD k default).t ∧ mt (K.getD k default).y = true) → fnd mt p (K.drop (k + 1)) = R := fun hc => by
        rw [fnd, if_neg hc] at h3; exact h3
      have go : ∀ e a' w', (e = Exit.normal ∧ SF p K (k + 1) R B w0 μ a' w') → fnd mt p (K.drop (k + 1)) = R → e = .normal ∧ Code.rounds Tryz.prog lf (QF p K R B w0 μ) j a' w' := by
        rintro e a' w' ⟨rfl, s'⟩ h4
        exact ⟨rfl, roundsF hb hl hty j (k + 1) a' w' (by omega) (by omega) h4 s'⟩
      have step : fnd mt p (K.drop (k + 1)) = R → lf.wp Tryz.prog (fun e a' w' => e = .normal ∧ SF p K (k + 1) R B w0 μ a' w') a w → Code.rounds Tryz.prog lf (QF p K R B w0 μ) (j + 1) a w := fun h4 h5 => by
        refine rounds_of (wp_mono h5 ?_)
        rintro e a' w' h6
        obtain ⟨rfl, h7⟩ := go e a' w' h6 h4
        exact h7
      by_cases c1 : p < (K.getD k default).f
      · exact step (on fun h => by omega) (oF1 hb hl hk c1 s)
      by_cases c2 : p ≥ (K.getD k default).t
      · exact step (on fun h => by omega) (oF2 hb hl hk c1 c2 s)
      have hm : K.getD k default ∈ K := by
        rw [List.getD, List.getElem?_eq_getElem hk]
        exact List.getElem_mem hk
      rcases hty _ hm with hy | hy | hy | hy | hy | hy
      · have hR : (K.getD k default).a = R := by
          rw [fnd, if_pos ⟨by omega, by omega, by rw [hy]; decide⟩] at h3; exact h3
        refine rounds_of (wp_mono (yF0 hb hl hk c1 c2 hy hR s) ?_)
        rintro e a' w' ⟨rfl, s'⟩
        exact .inr ⟨rfl, s'⟩
      · have hR : (K.getD k default).a = R := by
          rw [fnd, if_pos ⟨by omega, by omega, by rw [hy]; decide⟩] at h3; exact h3
        refine rounds_of (wp_mono (yF2 hb hl hk c1 c2 hy hR s) ?_)
        rintro e a' w' ⟨rfl, s'⟩
        exact .inr ⟨rfl, s'⟩
      · have hR : (K.getD k default).a = R := by
          rw [fnd, if_pos ⟨by omega, by omega, by rw [hy]; decide⟩] at h3; exact h3
        refine rounds_of (wp_mono (yF4 hb hl hk c1 c2 hy hR s) ?_)
        rintro e a' w' ⟨rfl, s'⟩
        exact .inr ⟨rfl, s'⟩
      · exact step (on fun h => by have := h.2.2; rw [hy] at this; revert this; decide) (yF6 hb hl hk c1 c2 hy s)
      · exact step (on fun h => by have := h.2.2; rw [hy] at this; revert this; decide) (yF8 hb hl hk c1 c2 hy s)
      · have hR : (K.getD k default).a = R := by
          rw [fnd, if_pos ⟨by omega, by omega, by rw [hy]; decide⟩] at h3; exact h3
        refine rounds_of (wp_mono (yF10 hb hl hk c1 c2 hy hR s) ?_)
        rintro e a' w' ⟨rfl, s'⟩
        exact .inr ⟨rfl, s'⟩
    · obtain rfl : k = K.length := by omega
      rw [List.drop_length] at h3
      refine rounds_of (wp_mono (eF hb hk s) ?_)
      rintro e a' w' ⟨rfl, s'⟩
      exact .inl ⟨rfl, h3.symm, s'⟩
theorem bG (hb : Base B μ 3262) (s : SG0 p K R B w0 μ a w) : g1.wp Tryz.prog (fun e a' w' => e = .normal ∧ SG p K 0 R B w0 μ a' w') a w :=
  runTo_sound (T := plF p K 0 R) (T' := plF p K 0 R) (K := Hand.none) (n := 100) mx (@HandOk.none (plF p K 0 R) Tryz.prog) (C := (⟨3262, 3263, ofPairs [(3262, 3262)], [(.oi 2, 2), (.oi 5, 5), (cI 0, 21)]⟩ : Cv)) (rl := [(3262, 3262)]) (ex := .normal) (vp := [(0, .vec 0, 0)]) (fs := fsG [(11, .oi 21)]) (bs := bsG)
    hb (by decide) rfl (by kernel_rfl) (ipCons (ipO (.i64, p) rfl rfl) (ipCons (ipO (.i64, (K.length : Int)) rfl rfl) (ipCons (ipC rfl) ipNil))) (vpK (K := K) rfl rfl rfl rfl) (glNone rfl rfl) (by as_aux_lemma => kernel_rfl) s
theorem oG1 (hb : Base B μ 3262) (hl : K.length < 1000) (hk : k < K.length) (c1 : p < (K.getD k default).f) (s : SG p K k R B w0 μ a w) : lg.wp Tryz.prog (fun e a' w' => e = .normal ∧ SG p K (k + 1) R B w0 μ a' w') a w :=
  runTo_sound (T := (RF p K k R _ (rO1 hl hk c1) [⟨0, 21, 4, 0, [.oi 10, .oi 11, .oi 12, .oi 13]⟩] (vl4 hk rfl)).tab) (T' := plF p K (k + 1) R) (K := KH) (n := 1000) mx (@sumsHand_ok (RF p K k R _ (rO1 hl hk c1) [⟨0, 21, 4, 0, [.oi 10, .oi 11, .oi 12, .oi 13]⟩] (vl4 hk rfl)).tab Tryz.prog _ (@tabG_ok (RF p K k R _ (rO1 hl hk c1) [⟨0, 21, 4, 0, [.oi 10, .oi 11, .oi 12, .oi 13]⟩] (vl4 hk rfl)).tab)) (C := (⟨3262, 3263, ofPairs [(3262, 3262)], [(.oi 2, 2), (.oi 5, 5), (.oi 22, 21)]⟩ : Cv)) (rl := [(3262, 3262)]) (ex := .normal) (vp := [(0, .vec 0, 0)]) (fs := fsG [(11, .oi 21)]) (bs := bsG)
    hb (by decide) rfl (by kernel_rfl) (ipCons (ipO (.i64, p) rfl rfl) (ipCons (ipO (.i64, (K.length : Int)) rfl rfl) (ipCons (ipO (.i64, ((k + 1 : Nat) : Int)) rfl rfl) ipNil))) (vpK (K := K) rfl rfl rfl rfl) (glNone rfl rfl) (by as_aux_lemma => kernel_rfl) (St.same (VRows.same _ _) s)
theorem oG2 (hb : Base B μ 3262) (hl : K.length < 1000) (hk : k < K.length) (c1 : ¬ p < (K.getD k default).f) (c2 : p ≥ (K.getD k default).t) (s : SG p K k R B w0 μ a w) : lg.wp Tryz.prog (fun e a' w' => e = .normal ∧ SG p K (k + 1) R B w0 μ a' w') a w :=
  runTo_sound (T := (RF p K k R _ (rO2 hl hk c1 c2) [⟨0, 21, 4, 0, [.oi 10, .oi 11, .oi 12, .oi 13]⟩] (vl4 hk rfl)).tab) (T' := plF p K (k + 1) R) (K := KH) (n := 1000) mx (@sumsHand_ok (RF p K k R _ (rO2 hl hk c1 c2) [⟨0, 21, 4, 0, [.oi 10, .oi 11, .oi 12, .oi 13]⟩] (vl4 hk rfl)).tab Tryz.prog _ (@tabG_ok (RF p K k R _ (rO2 hl hk c1 c2) [⟨0, 21, 4, 0, [.oi 10, .oi 11, .oi 12, .oi 13]⟩] (vl4 hk rfl)).tab)) (C := (⟨3262, 3263, ofPairs [(3262, 3262)], [(.oi 2, 2), (.oi 5, 5), (.oi 22, 21)]⟩ : Cv)) (rl := [(3262, 3262)]) (ex := .normal) (vp := [(0, .vec 0, 0)]) (fs := fsG [(11, .oi 21)]) (bs := bsG)
    hb (by decide) rfl (by kernel_rfl) (ipCons (ipO (.i64, p) rfl rfl) (ipCons (ipO (.i64, (K.length : Int)) rfl rfl) (ipCons (ipO (.i64, ((k + 1 : Nat) : Int)) rfl rfl) ipNil))) (vpK (K := K) rfl rfl rfl rfl) (glNone rfl rfl) (by as_aux_lemma => kernel_rfl) (St.same (VRows.same _ _) s)
theorem yG0 (hb : Base B μ 3262) (hl : K.length < 1000) (hk : k < K.length) (c1 : ¬ p < (K.getD k default).f) (c2 : ¬ p ≥ (K.getD k default).t) (hy : (K.getD k default).y = 0) (hR : (K.getD k default).a = R) (s : SG p K k R B w0 μ a w) : lg.wp Tryz.prog (fun e a' w' => e = .ret ∧ SFr p K R B w0 μ 72 a' w') a w :=
  runTo_sound (T := (RF p K k R _ (rIn hl hk c1 c2) [⟨0, 21, 4, 0, [.oi 10, .oi 11, .oi 12, cI 0]⟩] (vl4 hk (by show some (IntKind.i64, (0 : Int)) = _; rw [hy]))).tab) (T' := (RS p K R).tab) (K := KH) (n := 1000) mx (@sumsHand_ok (RF p K k R _ (rIn hl hk c1 c2) [⟨0, 21, 4, 0, [.oi 10, .oi 11, .oi 12, cI 0]⟩] (vl4 hk (by show some (IntKind.i64, (0 : Int)) = _; rw [hy]))).tab Tryz.prog _ (@tabG_ok (RF p K k R _ (rIn hl hk c1 c2) [⟨0, 21, 4, 0, [.oi 10, .oi 11, .oi 12, cI 0]⟩] (vl4 hk (by show some (IntKind.i64, (0 : Int)) = _; rw [hy]))).tab)) (C := (⟨3262, 3262, ofPairs [], [(.oi 2, 2), (.oi 5, 5), (.oi 12, 20)]⟩ : Cv)) (rl := []) (ex := .ret) (vp := [(0, .vec 0, 0)]) (fs := [(10, .oi 20)]) (bs := bsF)
    hb (by decide) rfl (by kernel_rfl) (ipCons (ipO (.i64, p) rfl rfl) (ipCons (ipO (.i64, (K.length : Int)) rfl rfl) (ipCons (ipO (.i64, (K.getD k default).a) rfl (by show (IntKind.i64, R) = _; rw [hR])) ipNil))) (vpK (K := K) rfl rfl rfl rfl) (glNone rfl rfl) (by as_aux_lemma => kernel_rfl) (St.same (VRows.same _ _) s)
theorem yG2 (hb : Base B μ 3262) (hl : K.length < 1000) (hk : k < K.length) (c1 : ¬ p < (K.getD k default).f) (c2 : ¬ p ≥ (K.getD k default).t) (hy : (K.getD k default).y = 2) (hR : (K.getD k default).a = R) (s : SG p K k R B w0 μ a w) : lg.wp Tryz.prog (fun e a' w' => e = .ret ∧ SFr p K R B w0 μ 72 a' w') a w :=
  runTo_sound (T := (RF p K k R _ (rIn hl hk c1 c2) [⟨0, 21, 4, 0, [.oi 10, .oi 11, .oi 12, cI 2]⟩] (vl4 hk (by show some (IntKind.i64, (2 : Int)) = _; rw [hy]))).tab) (T' := (RS p K R).tab) (K := KH) (n := 1000) mx (@sumsHand_ok (RF p K k R _ (rIn hl hk c1 c2) [⟨0, 21, 4, 0, [.oi 10, .oi 11, .oi 12, cI 2]⟩] (vl4 hk (by show some (IntKind.i64, (2 : Int)) = _; rw [hy]))).tab Tryz.prog _ (@tabG_ok (RF p K k R _ (rIn hl hk c1 c2) [⟨0, 21, 4, 0, [.oi 10, .oi 11, .oi 12, cI 2]⟩] (vl4 hk (by show some (IntKind.i64, (2 : Int)) = _; rw [hy]))).tab)) (C := (⟨3262, 3262, ofPairs [], [(.oi 2, 2), (.oi 5, 5), (.oi 12, 20)]⟩ : Cv)) (rl := []) (ex := .ret) (vp := [(0, .vec 0, 0)]) (fs := [(10, .oi 20)]) (bs := bsF)
    hb (by decide) rfl (by kernel_rfl) (ipCons (ipO (.i64, p) rfl rfl) (ipCons (ipO (.i64, (K.length : Int)) rfl rfl) (ipCons (ipO (.i64, (K.getD k default).a) rfl (by show (IntKind.i64, R) = _; rw [hR])) ipNil))) (vpK (K := K) rfl rfl rfl rfl) (glNone rfl rfl) (by as_aux_lemma => kernel_rfl) (St.same (VRows.same _ _) s)
theorem yG4 (hb : Base B μ 3262) (hl : K.length < 1000) (hk : k < K.length) (c1 : ¬ p < (K.getD k default).f) (c2 : ¬ p ≥ (K.getD k default).t) (hy : (K.getD k default).y = 4) (hR : (K.getD k default).a = R) (s : SG p K k R B w0 μ a w) : lg.wp Tryz.prog (fun e a' w' => e = .ret ∧ SFr p K R B w0 μ 72 a' w') a w :=
  runTo_sound (T := (RF p K k R _ (rIn hl hk c1 c2) [⟨0, 21, 4, 0, [.oi 10, .oi 11, .oi 12, cI 4]⟩] (vl4 hk (by show some (IntKind.i64, (4 : Int)) = _; rw [hy]))).tab) (T' := (RS p K R).tab) (K := KH) (n := 1000) mx (@sumsHand_ok (RF p K k R _ (rIn hl hk c1 c2) [⟨0, 21, 4, 0, [.oi 10, .oi 11, .oi 12, cI 4]⟩] (vl4 hk (by show some (IntKind.i64, (4 : Int)) = _; rw [hy]))).tab Tryz.prog _ (@tabG_ok (RF p K k R _ (rIn hl hk c1 c2) [⟨0, 21, 4, 0, [.oi 10, .oi 11, .oi 12, cI 4]⟩] (vl4 hk (by show some (IntKind.i64, (4 : Int)) = _; rw [hy]))).tab)) (C := (⟨3262, 3262, ofPairs [], [(.oi 2, 2), (.oi 5, 5), (.oi 12, 20)]⟩ : Cv)) (rl := []) (ex := .ret) (vp := [(0, .vec 0, 0)]) (fs := [(10, .oi 20)]) (bs := bsF)
    hb (by decide) rfl (by kernel_rfl) (ipCons (ipO (.i64, p) rfl rfl) (ipCons (ipO (.i64, (K.length : Int)) rfl rfl) (ipCons (ipO (.i64, (K.getD k default).a) rfl (by show (IntKind.i64, R) = _; rw [hR])) ipNil))) (vpK (K := K) rfl rfl rfl rfl) (glNone rfl rfl) (by as_aux_lemma => kernel_rfl) (St.same (VRows.same _ _) s)
theorem yG6 (hb : Base B μ 3262) (hl : K.length < 1000) (hk : k < K.length) (c1 : ¬ p < (K.getD k default).f) (c2 : ¬ p ≥ (K.getD k default).t) (hy : (K.getD k default).y = 6) (s : SG p K k R B w0 μ a w) : lg.wp Tryz.prog (fun e a' w' => e = .normal ∧ SG p K (k + 1) R B w0 μ a' w') a w :=
  runTo_sound (T := (RF p K k R _ (rIn hl hk c1 c2) [⟨0, 21, 4, 0, [.oi 10, .oi 11, .oi 12, cI 6]⟩] (vl4 hk (by show some (IntKind.i64, (6 : Int)) = _; rw [hy]))).tab) (T' := plF p K (k + 1) R) (K := KH) (n := 1000) mx (@sumsHand_ok (RF p K k R _ (rIn hl hk c1 c2) [⟨0, 21, 4, 0, [.oi 10, .oi 11, .oi 12, cI 6]⟩] (vl4 hk (by show some (IntKind.i64, (6 : Int)) = _; rw [hy]))).tab Tryz.prog _ (@tabG_ok (RF p K k R _ (rIn hl hk c1 c2) [⟨0, 21, 4, 0, [.oi 10, .oi 11, .oi 12, cI 6]⟩] (vl4 hk (by show some (IntKind.i64, (6 : Int)) = _; rw [hy]))).tab)) (C := (⟨3262, 3263, ofPairs [(3262, 3262)], [(.oi 2, 2), (.oi 5, 5), (.oi 22, 21)]⟩ : Cv)) (rl := [(3262, 3262)]) (ex := .normal) (vp := [(0, .vec 0, 0)]) (fs := fsG [(11, .oi 21)]) (bs := bsG)
    hb (by decide) rfl (by kernel_rfl) (ipCons (ipO (.i64, p) rfl rfl) (ipCons (ipO (.i64, (K.length : Int)) rfl rfl) (ipCons (ipO (.i64, ((k + 1 : Nat) : Int)) rfl rfl) ipNil))) (vpK (K := K) rfl rfl rfl rfl) (glNone rfl rfl) (by as_aux_lemma => kernel_rfl) (St.same (VRows.same _ _) s)
theorem yG8 (hb : Base B μ 3262) (hl : K.length < 1000) (hk : k < K.length) (c1 : ¬ p < (K.getD k default).f) (c2 : ¬ p ≥ (K.getD k default).t) (hy : (K.getD k default).y = 8) (s : SG p K k R B w0 μ a w) : lg.wp Tryz.prog (fun e a' w' => e = .normal ∧ SG p K (k + 1) R B w0 μ a' w') a w :=
  runTo_sound (T := (RF p K k R _ (rIn hl hk c1 c2) [⟨0, 21, 4, 0, [.oi 10, .oi 11, .oi 12, cI 8]⟩] (vl4 hk (by show some (IntKind.i64, (8 : Int)) = _; rw [hy]))).tab) (T' := plF p K (k + 1) R) (K := KH) (n := 1000) mx (@sumsHand_ok (RF p K k R _ (rIn hl hk c1 c2) [⟨0, 21, 4, 0, [.oi 10, .oi 11, .oi 12, cI 8]⟩] (vl4 hk (by show some (IntKind.i64, (8 : Int)) = _; rw [hy]))).tab Tryz.prog _ (@tabG_ok (RF p K k R _ (rIn hl hk c1 c2) [⟨0, 21, 4, 0, [.oi 10, .oi 11, .oi 12, cI 8]⟩] (vl4 hk (by show some (IntKind.i64, (8 : Int)) = _; rw [hy]))).tab)) (C := (⟨3262, 3263, ofPairs [(3262, 3262)], [(.oi 2, 2), (.oi 5, 5), (.oi 22, 21)]⟩ : Cv)) (rl := [(3262, 3262)]) (ex := .normal) (vp := [(0, .vec 0, 0)]) (fs := fsG [(11, .oi 21)]) (bs := bsG)
    hb (by decide) rfl (by kernel_rfl) (ipCons (ipO (.i64, p) rfl rfl) (ipCons (ipO (.i64, (K.length : Int)) rfl rfl) (ipCons (ipO (.i64, ((k + 1 : Nat) : Int)) rfl rfl) ipNil))) (vpK (K := K) rfl rfl rfl rfl) (glNone rfl rfl) (by as_aux_lemma => kernel_rfl) (St.same (VRows.same _ _) s)
theorem yG10 (hb : Base B μ 3262) (hl : K.length < 1000) (hk : k < K.length) (c1 : ¬ p < (K.getD k default).f) (c2 : ¬ p ≥ (K.getD k default).t) (hy : (K.getD k default).y = 10) (hR : (K.getD k default).a = R) (s : SG p K k R B w0 μ a w) : lg.wp Tryz.prog (fun e a' w' => e = .ret ∧ SFr p K R B w0 μ 72 a' w') a w :=
  runTo_sound (T := (RF p K k R _ (rIn hl hk c1 c2) [⟨0, 21, 4, 0, [.oi 10, .oi 11, .oi 12, cI 10]⟩] (vl4 hk (by show some (IntKind.i64, (10 : Int)) = _; rw [hy]))).tab) (T' := (RS p K R).tab) (K := KH) (n := 1000) mx (@sumsHand_ok (RF p K k R _ (rIn hl hk c1 c2) [⟨0, 21, 4, 0, [.oi 10, .oi 11, .oi 12, cI 10]⟩] (vl4 hk (by show some (IntKind.i64, (10 : Int)) = _; rw [hy]))).tab Tryz.prog _ (@tabG_ok (RF p K k R _ (rIn hl hk c1 c2) [⟨0, 21, 4, 0, [.oi 10, .oi 11, .oi 12, cI 10]⟩] (vl4 hk (by show some (IntKind.i64, (10 : Int)) = _; rw [hy]))).tab)) (C := (⟨3262, 3262, ofPairs [], [(.oi 2, 2), (.oi 5, 5), (.oi 12, 20)]⟩ : Cv)) (rl := []) (ex := .ret) (vp := [(0, .vec 0, 0)]) (fs := [(10, .oi 20)]) (bs := bsF)
    hb (by decide) rfl (by kernel_rfl) (ipCons (ipO (.i64, p) rfl rfl) (ipCons (ipO (.i64, (K.length : Int)) rfl rfl) (ipCons (ipO (.i64, (K.getD k default).a) rfl (by show (IntKind.i64, R) = _; rw [hR])) ipNil))) (vpK (K := K) rfl rfl rfl rfl) (glNone rfl rfl) (by as_aux_lemma => kernel_rfl) (St.same (VRows.same _ _) s)
theorem eG (hb : Base B μ 3262) (hk : ¬ k < K.length) (s : SG p K k R B w0 μ a w) : lg.wp Tryz.prog (fun e a' w' => e = .exit 0 ∧ SG p K k R B w0 μ a' w') a w :=
  runTo_sound (T := (RF p K k R _ (rX hk) [] (by exact fun _ h => nomatch h)).tab) (T' := plF p K k R) (K := Hand.none) (n := 100) mx (@HandOk.none (RF p K k R _ (rX hk) [] (by exact fun _ h => nomatch h)).tab Tryz.prog) (C := (⟨3262, 3263, ofPairs [(3262, 3262)], [(.oi 2, 2), (.oi 5, 5), (.oi 21, 21)]⟩ : Cv)) (rl := [(3262, 3262)]) (ex := .exit 0) (vp := [(0, .vec 0, 0)]) (fs := fsG [(11, .oi 21)]) (bs := bsG)
    hb (by decide) rfl (by kernel_rfl) (ipCons (ipO (.i64, p) rfl rfl) (ipCons (ipO (.i64, (K.length : Int)) rfl rfl) (ipCons (ipO (.i64, (k : Int)) rfl rfl) ipNil))) (vpK (K := K) rfl rfl rfl rfl) (glNone rfl rfl) (by as_aux_lemma => kernel_rfl) (St.same (VRows.same _ _) s)
theorem tG (hb : Base B μ 3262) (hR : R = -1) (s : SG p K k R B w0 μ a w) : gt.wp Tryz.prog (fun e a' w' => e = .ret ∧ SFr p K R B w0 μ 72 a' w') a w :=
  runTo_sound (T := plF p K k R) (T' := (RS p K R).tab) (K := Hand.none) (n := 100) mx (@HandOk.none (plF p K k R) Tryz.prog) (C := (⟨3262, 3262, ofPairs [], [(.oi 2, 2), (.oi 5, 5), (cI (-1), 20)]⟩ : Cv)) (rl := []) (ex := .ret) (vp := [(0, .vec 0, 0)]) (fs := [(10, .oi 20)]) (bs := bsF)
    hb (by decide) rfl (by kernel_rfl) (ipCons (ipO (.i64, p) rfl rfl) (ipCons (ipO (.i64, (K.length : Int)) rfl rfl) (ipCons (ipC (by show (IntKind.i64, R) = _; rw [hR])) ipNil))) (vpK (K := K) rfl rfl rfl rfl) (glNone rfl rfl) (by as_aux_lemma => kernel_rfl) s
def QG (p : Int) (K : List Hd) (R : Int) (B : Kp) (w0 : World) (μ : M) (e : Exit) (a : Act) (w : World) : Prop := (e = .exit 0 ∧ R = -1 ∧ SG p K K.length R B w0 μ a w) ∨ (e = .ret ∧ SFr p K R B w0 μ 72 a w)
theorem roundsG (hb : Base B μ 3262) (hl : K.length < 1000) (hty : ∀ h ∈ K, h.y = 0 ∨ h.y = 2 ∨ h.y = 4 ∨ h.y = 6 ∨ h.y = 8 ∨ h.y = 10) : ∀ (j k : Nat) (a : Act) (w : World), k + j = K.length + 1 → k ≤ K.length → fnd mt p (K.drop k) = R → SG p K k R B w0 μ a w → Code.rounds Tryz.prog lg (QG p K R B w0 μ) j a w
  | 0, k, a, w, h1, h2, h3, s => by omega
  | j + 1, k, a, w, h1, h2, h3, s => by
    by_cases hk : k < K.length
    · rw [drop_at hk] at h3
      have on : ¬ ((K.getD k default).f ≤ p ∧ p < (K.getD k default).t ∧ mt (K.getD k default).y = true) → fnd mt p (K.drop (k + 1)) = R := fun hc => by
        rw [fnd, if_neg hc] at h3; exact h3
      have go : ∀ e a' w', (e = Exit.normal ∧ SG p K (k + 1) R B w0 μ a' w') → fnd mt p (K.drop (k + 1)) = R → e = .normal ∧ Code.rounds Tryz.prog lg (QG p K R B w0 μ) j a' w' := by
        rintro e a' w' ⟨rfl, s'⟩ h4
        exact ⟨rfl, roundsG hb hl hty j (k + 1) a' w' (by omega) (by omega) h4 s'⟩
      have step : fnd mt p (K.drop (k + 1)) = R → lg.wp Tryz.prog (fun e a' w' => e = .normal ∧ SG p K (k + 1) R B w0 μ a' w') a w → Code.rounds Tryz.prog lg (QG p K R B w0 μ) (j + 1) a w := fun h4 h5 => by
        refine rounds_of (wp_mono h5 ?_)
        rintro e a' w' h6
        obtain ⟨rfl, h7⟩ := go e a' w' h6 h4
        exact h7
      by_cases c1 : p < (K.getD k default).f
      · exact step (on fun h => by omega) (oG1 hb hl hk c1 s)
      by_cases c2 : p ≥ (K.getD k default).t
      · exact step (on fun h => by omega) (oG2 hb hl hk c1 c2 s)
      have hm : K.getD k default ∈ K := by
        rw [List.getD, List.getElem?_eq_getElem hk]
        exact List.getElem_mem hk
      rcases hty _ hm with hy | hy | hy | hy | hy | hy
      · have hR : (K.getD k default).a = R := by
          rw [fnd, if_pos ⟨by omega, by omega, by rw [hy]; decide⟩] at h3; exact h3
        refine rounds_of (wp_mono (yG0 hb hl hk c1 c2 hy hR s) ?_)
        rintro e a' w' ⟨rfl, s'⟩
        exact .inr ⟨rfl, s'⟩
      · have hR : (K.getD k default).a = R := by
          rw [fnd, if_pos ⟨by omega, by omega, by rw [hy]; decide⟩] at h3; exact h3
        refine rounds_of (wp_mono (yG2 hb hl hk c1 c2 hy hR s) ?_)
        rintro e a' w' ⟨rfl, s'⟩
        exact .inr ⟨rfl, s'⟩
      · have hR : (K.getD k default).a = R := by
          rw [fnd, if_pos ⟨by omega, by omega, by rw [hy]; decide⟩] at h3; exact h3
        refine rounds_of (wp_mono (yG4 hb hl hk c1 c2 hy hR s) ?_)
        rintro e a' w' ⟨rfl, s'⟩
        exact .inr ⟨rfl, s'⟩
      · exact step (on fun h => by have := h.2.2; rw [hy] at this; revert this; decide) (yG6 hb hl hk c1 c2 hy s)
      · exact step (on fun h => by have := h.2.2; rw [hy] at this; revert this; decide) (yG8 hb hl hk c1 c2 hy s)
      · have hR : (K.getD k default).a = R := by
          rw [fnd, if_pos ⟨by omega, by omega, by rw [hy]; decide⟩] at h3; exact h3
        refine rounds_of (wp_mono (yG10 hb hl hk c1 c2 hy hR s) ?_)
        rintro e a' w' ⟨rfl, s'⟩
        exact .inr ⟨rfl, s'⟩
    · obtain rfl : k = K.length := by omega
      rw [List.drop_length] at h3
      refine rounds_of (wp_mono (eG hb hk s) ?_)
      rintro e a' w' ⟨rfl, s'⟩
      exact .inl ⟨rfl, h3.symm, s'⟩
noncomputable abbrev argsF : List AV := [.ptr 10 0, .ptr 3 0, cI 0, .oi 2, nm]
noncomputable abbrev argsG : List AV := [.ptr 7 0, .ptr 3 0, .agg [(.int .i64 0), (.str 0 0), (.str 0 0), (.bool true), (.int .i64 0), (.int .i64 0), .nils, (.ov 0 5 4), .nils], .oi 2, nm]
theorem find_ok (hR : fnd mt p K = R) (hl : K.length < 1000) (hty : ∀ h ∈ K, h.y = 0 ∨ h.y = 2 ∨ h.y = 4 ∨ h.y = 6 ∨ h.y = 8 ∨ h.y = 10) : @CallOk (RS p K R).tab Tryz.prog 7 argsF hFm (.oi 20, hFm) := by
  letI τ := (RS p K R).tab
  refine @callOk_of Tryz.prog τ 7 Tryz.f7 fb argsF hFm hFm (.oi 20) Tryz.func7 fb_eq (show 5 ≤ Tryz.f7.ntmps by decide +kernel) (show 5 < limit by decide) fun B w0 μ a w hb s => ?_
  rw [nextF] at hb
  refine firstTo_sound (T := τ) (T' := plF p K 0 R) (K := KH) (m := 1000) (n := 2) mx (@sumsHand_ok τ Tryz.prog _ (@tabG_ok τ)) (C := (⟨3262, 3262, ofPairs [], [(.oi 2, 2), (.oi 5, 5)]⟩ : Cv)) (rl := []) (vp := [(0, .vec 0, 0)]) (fs := fsF [(2, cI 0)]) (bs := bsF)
    hb (by decide) rfl (by kernel_rfl) (ipCons (ipO (.i64, p) rfl rfl) (ipCons (ipO (.i64, (K.length : Int)) rfl rfl) ipNil)) (vpK (K := K) rfl rfl rfl rfl) (glNone rfl rfl) (by as_aux_lemma => kernel_rfl) s fun a1 w1 s1 => ?_
  rw [f_eq]
  refine wp_seq (wp_seq (wp_mono (bF hb s1) ?_))
  rintro e a2 w2 ⟨rfl, s2⟩
  show (Code.block 0 (.loop lf)).wp _ _ _ _
  refine wp_block (wp_mono (wp_loop_rounds (Q := QF p K R B w0 μ) (K.length + 1) (roundsF hb hl hty (K.length + 1) 0 a2 w2 (by omega) (Nat.zero_le _) hR s2)) ?_)
  have fin : ∀ a3 w3, SFr p K R B w0 μ 85 a3 w3 → Done Tryz.prog Tryz.f7 B w0 μ (.oi 20) hFm .ret a3 w3 := fun a3 w3 s3 =>
    St.done (τ := τ) (e := .ret) (.inr rfl) (by kernel_rfl) s3
  rintro e a3 w3 (⟨rfl, h1, s3⟩ | ⟨rfl, s3⟩)
  · show ft.wp _ _ _ _
    refine wp_mono (tF hb h1 s3) ?_
    rintro e a4 w4 ⟨rfl, s4⟩
    exact fin a4 w4 s4
  · exact fin a3 w3 s3
theorem hand_ok (hR : fnd mt p K = R) (hl : K.length < 1000) (hty : ∀ h ∈ K, h.y = 0 ∨ h.y = 2 ∨ h.y = 4 ∨ h.y = 6 ∨ h.y = 8 ∨ h.y = 10) : @CallOk (RS p K R).tab Tryz.prog 9 argsG hFm (.oi 20, hFm) := by
  letI τ := (RS p K R).tab
  refine @callOk_of Tryz.prog τ 9 Tryz.f9 gb argsG hFm hFm (.oi 20) Tryz.func9 gb_eq (show 5 ≤ Tryz.f9.ntmps by decide +kernel) (show 5 < limit by decide) fun B w0 μ a w hb s => ?_
  rw [nextF] at hb
  refine firstTo_sound (T := τ) (T' := plF p K 0 R) (K := KH) (m := 1000) (n := 1) mx (@sumsHand_ok τ Tryz.prog _ (@tabG_ok τ)) (C := (⟨3262, 3263, ofPairs [(3262, 3262)], [(.oi 2, 2), (.oi 5, 5)]⟩ : Cv)) (rl := [(3262, 3262)]) (vp := [(0, .vec 0, 0)]) (fs := fsG []) (bs := bsG)
    hb (by decide) rfl (by kernel_rfl) (ipCons (ipO (.i64, p) rfl rfl) (ipCons (ipO (.i64, (K.length : Int)) rfl rfl) ipNil)) (vpK (K := K) rfl rfl rfl rfl) (glNone rfl rfl) (by as_aux_lemma => kernel_rfl) s fun a1 w1 s1 => ?_
  rw [g_eq]
  refine wp_seq (wp_seq (wp_mono (bG hb s1) ?_))
  rintro e a2 w2 ⟨rfl, s2⟩
  show (Code.block 0 (.loop lg)).wp _ _ _ _
  refine wp_block (wp_mono (wp_loop_rounds (Q := QG p K R B w0 μ) (K.length + 1) (roundsG hb hl hty (K.length + 1) 0 a2 w2 (by omega) (Nat.zero_le _) hR s2)) ?_)
  have fin : ∀ a3 w3, SFr p K R B w0 μ 72 a3 w3 → Done Tryz.prog Tryz.f9 B w0 μ (.oi 20) hFm .ret a3 w3 := fun a3 w3 s3 =>
    St.done (τ := τ) (e := .ret) (.inr rfl) (by kernel_rfl) s3
  rintro e a3 w3 (⟨rfl, h1, s3⟩ | ⟨rfl, s3⟩)
  · show gt.wp _ _ _ _
    refine wp_mono (tG hb h1 s3) ?_
    rintro e a4 w4 ⟨rfl, s4⟩
    exact fin a4 w4 s4
  · exact fin a3 w3 s3
end
section
variable {b o cap N n : Nat} {p x R : Int} {z : Nat → Int} {K : List Hd} {w0 w : World} {a : Act}
abbrev Out (w0 : World) := Yes Tryz.prog Tryz.f3 (Kp.below w0.heap.size) w0
noncomputable abbrev KFG : Hand := (handAt 7 argsF hFm (.oi 20, hFm)).or ((handAt 9 argsG hFm (.oi 20, hFm)).or (sumsHand tabG))
noncomputable abbrev fs2 : List (Nat × AV) := [(1, .oi 2), (7, .bool true), (9, nm), (13, .ptr 1 0), (14, .ptr 3 0), (15, .ptr 7 0)]
theorem endK (hl : K.length < 1000) (hty : ∀ h ∈ K, h.y = 0 ∨ h.y = 2 ∨ h.y = 4 ∨ h.y = 6 ∨ h.y = 8 ∨ h.y = 10) (s : SK p K w0 a w) : rest.wp Tryz.prog (Out w0) a w := by
  refine firstTo_sound (T := plF p K 0 0) (T' := plF p K 0 (fnd mt p K)) (K := KH) (m := 1000) (n := 3) mx (@sumsHand_ok (plF p K 0 0) Tryz.prog _ (@tabG_ok (plF p K 0 0))) (C := (⟨0, 8, ofPairs rl2, [(.oi 2, 2), (.oi 5, 5)]⟩ : Cv)) (rl := rl2) (vp := [(0, .vec 0, 0)]) (fs := fs2) (bs := bs2o)
    (Base.none _) (Nat.zero_le _) rfl (by kernel_rfl) (ipCons (ipO (.i64, p) rfl rfl) (ipCons (ipO (.i64, (K.length : Int)) rfl rfl) ipNil)) (vpK (K := K) rfl rfl rfl rfl) (glNone rfl rfl) (by as_aux_lemma => kernel_rfl) s fun a1 w1 s1 => ?_
  rw [h2_eq] at s1
  exact @runTrue_sound _ _ _ _ _ _ (RS p K (fnd mt p K)).tab (frOf fs2) (hOf 8 bs2) mx KFG (@HandOk.or (RS p K (fnd mt p K)).tab _ _ _ (@handAt_ok _ (RS p K (fnd mt p K)).tab _ _ _ _ (find_ok rfl hl hty)) (@HandOk.or (RS p K (fnd mt p K)).tab _ _ _ (@handAt_ok _ (RS p K (fnd mt p K)).tab _ _ _ _ (hand_ok rfl hl hty)) (@sumsHand_ok (RS p K (fnd mt p K)).tab Tryz.prog _ (@tabG_ok (RS p K (fnd mt p K)).tab)))) 1000 Tryz.f3 (restn 3 rest) (by as_aux_lemma => kernel_rfl) (St.same (VRows.same _ _) s1)
theorem endE (s : SE p w0 a w) : rest.wp Tryz.prog (Out w0) a w :=
  @runTrue_sound _ _ _ _ _ _ (plE p) (frOf [(1, .oi 2), (7, .bool true), (9, nm), (10, .nils)]) (hOf 0 []) mx KH (@sumsHand_ok (plE p) Tryz.prog _ (@tabG_ok (plE p))) 1000 Tryz.f3 rest (by as_aux_lemma => kernel_rfl) s
theorem a0_ok (s : St (plA b o cap N p x z [] 0) (Kp.below w0.heap.size) w0 (fun _ => none) 99 (frOf (fsA .nils [])) (hOf 0 []) a w) : a0.wp Tryz.prog (fun e a' w' => e = .normal ∧ SA0 b o cap N p x z 0 w0 a' w') a w :=
  runTo_sound (T := plA b o cap N p x z [] 0) (T' := plA b o cap N p x z [] 0) (K := Hand.none) (n := 100) mx (@HandOk.none (plA b o cap N p x z [] 0) Tryz.prog) (C := (⟨0, 0, ofPairs [], (.fo 0 1 4, 0) :: (.oi 1, 1) :: (.oi 2, 2) :: [(cI 0, 4)]⟩ : Cv)) (rl := []) (ex := .normal) (vp := []) (fs := fsA .nils [(11, .oi 4)]) (bs := [])
    (Base.none _) (Nat.zero_le _) rfl (by kernel_rfl) (ipCons (ipF rfl rfl) (ipCons (ipO (.i64, (N : Int)) rfl rfl) (ipCons (ipO (.i64, p) rfl rfl) (ipCons (ipC rfl) ipNil)))) vpNil (glF rfl rfl rfl fun _ _ _ h => fint h) (by as_aux_lemma => kernel_rfl) s
theorem back (s : St (plA b o cap N p x z [] 0) (Kp.below w0.heap.size) w0 (fun _ => none) 99 (frOf (fsA .nils [])) (hOf 0 []) a w) : (restn 6 body).wp Tryz.prog (Out w0) a w := by
  rw [r6_eq]
  refine wp_seq (wp_seq (wp_mono (a0_ok s) ?_))
  rintro e a1 w1 ⟨rfl, s1⟩
  show (Code.block 0 (.loop la)).wp _ _ _ _
  refine wp_block (wp_mono (wp_loop_rounds (Q := fun e a w => e = .exit 0 ∧ AE p (kl z (min N 8)) w0 a w) 9 (roundsA 9 0 a1 w1 (by omega) (Nat.zero_le _) (by omega) (.inl ⟨rfl, s1⟩))) ?_)
  rintro e a2 w2 ⟨rfl, s2⟩
  show rest.wp _ _ _ _
  rcases s2 with ⟨_, s2⟩ | ⟨_, s2⟩
  · exact endE s2
  · exact endK (Nat.lt_of_le_of_lt (kl_len z _) (by omega)) (kl_ty z _) s2
abbrev ivB (N : Nat) (p x : Int) : Nat → IntKind × Int := fun i0 => (.i64, match i0 with | 1 => (N : Int) | 2 => p | 3 => x | 31 => x.tmod 5 | 32 => x.tmod 5 + 5 | _ => 0)
abbrev rB : List BRow := [(4, .oi 3, cI 5, .oi 31), (0, .oi 31, cI 5, .oi 32), (4, .oi 32, cI 5, cI 1)]
theorem rB_ok (hx : (x.tmod 5 + 5).tmod 5 = 1) : ∀ r ∈ rB, IbOk (ivB N p x) r := by
  letI := Tab.empty
  have h1 : x.tmod 5 < 5 := Int.tmod_lt_of_pos _ (by decide)
  have h2 : -5 < x.tmod 5 := Int.lt_tmod_of_pos _ (by decide)
  exact ibCons (ibRem (a := x) (b := 5) (c := x.tmod 5) rfl rfl rfl (by decide) rfl) (ibCons (ibAdd (a := x.tmod 5) (b := 5) (c := x.tmod 5 + 5) rfl rfl rfl rfl (by omega) (by omega)) (ibCons (ibRem (a := x.tmod 5 + 5) (b := 5) (c := 1) rfl rfl rfl (by decide) hx) ibNil))
abbrev RB (N : Nat) (p : Int) (hx : (x.tmod 5 + 5).tmod 5 = 1) : VRows (ivB N p x) noV noK where
  vvp := noVp
  ib := rB
  ibok := rB_ok hx
abbrev TB (b o cap N : Nat) (p : Int) (z : Nat → Int) (hx : (x.tmod 5 + 5).tmod 5 = 1) : Tab := (RB N p hx).ftab (fgn b o cap N z) [] (by exact fun _ h => nomatch h)
theorem throwsFind_in (hx : (x.tmod 5 + 5).tmod 5 = 1) (s : St (TB b o cap N p z hx) (Kp.below w0.heap.size) w0 (fun _ => none) 99 (T.ofList 0 .leaf [.fo 0 1 4, .oi 2, .oi 3]) H.empty a w) : body.wp Tryz.prog (Out w0) a w :=
  firstTo_sound (T := TB b o cap N p z hx) (T' := plA b o cap N p x z [] 0) (K := KH) (m := 1000) (n := 6) mx (@sumsHand_ok (TB b o cap N p z hx) Tryz.prog _ (@tabG_ok (TB b o cap N p z hx))) (C := (⟨0, 0, ofPairs [], (.fo 0 1 4, 0) :: (.oi 1, 1) :: (.oi 2, 2) :: []⟩ : Cv)) (rl := []) (vp := []) (fs := fsA .nils []) (bs := [])
    (Base.none _) (Nat.zero_le _) rfl (by kernel_rfl) (ipCons (ipF rfl rfl) (ipCons (ipO (.i64, (N : Int)) rfl rfl) (ipCons (ipO (.i64, p) rfl rfl) ipNil))) vpNil (glF rfl rfl rfl fun _ _ _ h => fint h) (by as_aux_lemma => kernel_rfl) s fun a1 w1 s1 => back s1
theorem throwsFind_nil (hx : (x.tmod 5 + 5).tmod 5 = 1) (s : St (RB 0 p hx).tab (Kp.below w0.heap.size) w0 (fun _ => none) 99 (T.ofList 0 .leaf [.nils, .oi 2, .oi 3]) H.empty a w) : body.wp Tryz.prog (Out w0) a w :=
  @runTrue_sound _ _ _ _ _ _ (RB 0 p hx).tab _ _ mx KH (@sumsHand_ok (RB 0 p hx).tab Tryz.prog _ (@tabG_ok (RB 0 p hx).tab)) 1000 Tryz.f3 body (by as_aux_lemma => kernel_rfl) s
end
end Go.Proofs.YtgdonkfaicdeiaaGreatDoor.find.c1
