/-
  The law NativePrint: rounds of its loop.
-/
import Derived.Test.YtkkaifeiopjjdaaGreatDoorNPL
set_option linter.unusedVariables false
set_option linter.unusedSimpArgs false
set_option linter.unusedSectionVars false
set_option maxRecDepth 1000000
set_option maxHeartbeats 0
namespace Go.Proofs.YtkkaifeiopjjdaaGreatDoor.np
open Go.X Go.RowKit Go.Proofs
noncomputable abbrev Rg1vt0 (p : Pm) (h : Ar p) (b : Bt p) (g : Go p) (hk : p.ek = 0) (q : EkC p 0) (hf : p.t1 ≤ 2048) (hd : p.ld + (p.lb + 1) ≤ 4096) : Rw (ivP p 0) (vvP p 0) (vkP p 0) (fgP p) (txP p 0) where
  vvp := vvPp p 0
  ib := rowsH ++ (cu0 ++ (rowsG ++ (rowsV ++ [(0, .oi 20, .oi 23, .oi 24), (13, .oi 24, .int .i64 4096, .bool false)])))
  ibok := catR (rowsH_ok g) (catR (cu0_ok h q) (catR (rowsG_ok h hf) (catR (rowsV_ok h) (by
    have h2 := h.d2; have h3 := b.lb; have h4 := h.a60; have h5 := outL_len p.A p.la (p.la + 1) 0 [] (Nat.zero_le _) (Nat.zero_le _)
    have h5 : (fin p).length ≤ 4 * p.la := h5
    exact (rAdd (rGt (ibNil)))))))
  ic := [(.i64, .oi 4, .oi 4)]
  icok := by
    have h1 := h.t2
    exact rConv icNil
  vl := [⟨3, 1, 1, 0, [.int .u64 1]⟩, ⟨3, 25, 1, 0, [.int .u64 0]⟩]
  vlok := vlV_ok h
  fl := [⟨0, 16, 1, 0, [.fo 1 0 1]⟩]
  flok := flV_ok hk
  vc := [(0, 25)]
  vcok := vc0_ok
  va := [⟨6, 21, 1, [.int .u8 10], 7, 23⟩]
  vaok := by
    have h2 := h.d2; have h3 := b.lb; have h4 := h.a60; have h5 := outL_len p.A p.la (p.la + 1) 0 [] (Nat.zero_le _) (Nat.zero_le _)
    have h5 : (fin p).length ≤ 4 * p.la := h5
    exact aN (n := p.lb) (e := p.E) (e' := p.E1) allNil (hy := by show some ((IntKind.u8, (10 : Int)) : IntKind × Int) = some (.u8, p.E1 p.lb); rw [show p.E1 p.lb = 10 from if_neg (Nat.lt_irrefl _)]) (h1 := fun m hm => if_pos hm)
  vb := [⟨false, 2, 20, 1, true, 7, 23, 9, 24⟩]
  vbok := by
    have h2 := h.d2; have h3 := b.lb; have h4 := h.a60; have h5 := outL_len p.A p.la (p.la + 1) 0 [] (Nat.zero_le _) (Nat.zero_le _)
    have h5 : (fin p).length ≤ 4 * p.la := h5
    have h6 := lbpos h b q
    exact bN (n := p.ld) (c := p.lb + 1) (e := p.D) (e1 := p.E1) (e' := cat p.ld p.D p.E1) allNil (g1 := fun m hm => if_pos hm) (g2 := fun m hm => by unfold cat; rw [if_neg (by omega), show p.ld + m - p.ld = m by omega])
noncomputable abbrev cvg1vt0 : Cv := ⟨20000, 20010, ofPairs [(20001, 20011), (20002, 20012), (20003, 20003), (20004, 20188), (20005, 20231)], [(.fo 0 15 1, 0), (.oi 3, 1), (.oi 7, 2), (.oi 18, 14), (.oi 15, 15), (.oi 24, 20)]⟩
theorem kg1vt0 : ∀ p h b g hk q hf hd, runTo (Rg1vt0 p h b g hk q hf hd).T Tryz.prog (KG 1 true) 5000 Tryz.f5.ntmps aL (frOf (fsA' true false)) (hA 1 false) .normal cvg1vt0 [(20011, .vec 3, 0), (20012, .vec 4, 1), (20188, .vec 9, 2), (20231, .vec 9, 2)] (fsA' true false) (bsA 1 false 20011 20012 20003 20188 20231) = true := fun p h b g hk q hf hd => by as_aux_lemma => kernel_rfl
noncomputable abbrev Rg1vt1 (p : Pm) (h : Ar p) (b : Bt p) (g : Go p) (hk : p.ek = 1) (q : EkC p 1) (hf : p.t1 ≤ 2048) (hd : p.ld + (p.lb + 1) ≤ 4096) : Rw (ivP p 0) (vvP p 0) (vkP p 0) (fgP p) (txP p 0) where
  vvp := vvPp p 0
  ib := rowsH ++ (cu1 ++ (rowsG ++ (rowsV ++ [(0, .oi 20, .oi 23, .oi 24), (13, .oi 24, .int .i64 4096, .bool false)])))
  ibok := catR (rowsH_ok g) (catR (cu1_ok h q) (catR (rowsG_ok h hf) (catR (rowsV_ok h) (by
    have h2 := h.d2; have h3 := b.lb; have h4 := h.a60; have h5 := outL_len p.A p.la (p.la + 1) 0 [] (Nat.zero_le _) (Nat.zero_le _)
    have h5 : (fin p).length ≤ 4 * p.la := h5
    exact (rAdd (rGt (ibNil)))))))
  ic := [(.i64, .oi 4, .oi 4)]
  icok := by
    have h1 := h.t2
    exact rConv icNil
  vl := [⟨3, 1, 1, 0, [.int .u64 1]⟩, ⟨3, 25, 1, 0, [.int .u64 0]⟩]
  vlok := vlV_ok h
  fl := [⟨0, 16, 1, 0, [.fo 1 19 1]⟩]
  flok := flV_ok hk
  vc := [(0, 25), (60, 0)]
  vcok := vc1_ok q
  va := [⟨6, 21, 1, [.int .u8 10], 7, 23⟩]
  vaok := by
    have h2 := h.d2; have h3 := b.lb; have h4 := h.a60; have h5 := outL_len p.A p.la (p.la + 1) 0 [] (Nat.zero_le _) (Nat.zero_le _)
    have h5 : (fin p).length ≤ 4 * p.la := h5
    exact aN (n := p.lb) (e := p.E) (e' := p.E1) allNil (hy := by show some ((IntKind.u8, (10 : Int)) : IntKind × Int) = some (.u8, p.E1 p.lb); rw [show p.E1 p.lb = 10 from if_neg (Nat.lt_irrefl _)]) (h1 := fun m hm => if_pos hm)
  vb := [⟨false, 2, 20, 1, true, 7, 23, 9, 24⟩]
  vbok := by
    have h2 := h.d2; have h3 := b.lb; have h4 := h.a60; have h5 := outL_len p.A p.la (p.la + 1) 0 [] (Nat.zero_le _) (Nat.zero_le _)
    have h5 : (fin p).length ≤ 4 * p.la := h5
    have h6 := lbpos h b q
    exact bN (n := p.ld) (c := p.lb + 1) (e := p.D) (e1 := p.E1) (e' := cat p.ld p.D p.E1) allNil (g1 := fun m hm => if_pos hm) (g2 := fun m hm => by unfold cat; rw [if_neg (by omega), show p.ld + m - p.ld = m by omega])
noncomputable abbrev cvg1vt1 : Cv := ⟨20000, 20010, ofPairs [(20001, 20011), (20002, 20012), (20003, 20003), (20004, 20188), (20005, 20231)], [(.fo 0 15 1, 0), (.oi 3, 1), (.oi 7, 2), (.oi 18, 14), (.oi 15, 15), (.oi 24, 20)]⟩
theorem kg1vt1 : ∀ p h b g hk q hf hd, runTo (Rg1vt1 p h b g hk q hf hd).T Tryz.prog (KG 1 true) 5000 Tryz.f5.ntmps aL (frOf (fsA' true false)) (hA 1 false) .normal cvg1vt1 [(20011, .vec 3, 0), (20012, .vec 4, 1), (20188, .vec 9, 2), (20231, .vec 9, 2)] (fsA' true false) (bsA 1 false 20011 20012 20003 20188 20231) = true := fun p h b g hk q hf hd => by as_aux_lemma => kernel_rfl
noncomputable abbrev Rg1vt2 (p : Pm) (h : Ar p) (b : Bt p) (g : Go p) (hk : p.ek = 2) (q : EkC p 2) (hf : p.t1 ≤ 2048) (hd : p.ld + (p.lb + 1) ≤ 4096) : Rw (ivP p 0) (vvP p 0) (vkP p 0) (fgP p) (txP p 0) where
  vvp := vvPp p 0
  ib := rowsH ++ (cu2 ++ (rowsG ++ (rowsV ++ [(0, .oi 20, .int .i64 1, .oi 26), (13, .oi 26, .int .i64 4096, .bool false)])))
  ibok := catR (rowsH_ok g) (catR (cu2_ok h q) (catR (rowsG_ok h hf) (catR (rowsV_ok h) (by
    have h2 := h.d2; have h3 := b.lb; have h4 := h.a60; have h5 := outL_len p.A p.la (p.la + 1) 0 [] (Nat.zero_le _) (Nat.zero_le _)
    have h5 : (fin p).length ≤ 4 * p.la := h5
    have q : p.la = 0 := q
    exact (rAdd (rGt (ibNil)))))))
  ic := [(.i64, .oi 4, .oi 4)]
  icok := by
    have h1 := h.t2
    exact rConv icNil
  vl := [⟨3, 1, 1, 0, [.int .u64 1]⟩, ⟨3, 25, 1, 0, [.int .u64 0]⟩]
  vlok := vlV_ok h
  fl := [⟨0, 16, 1, 0, [.nils]⟩]
  flok := flV_ok hk
  vc := [(0, 25)]
  vcok := vc0_ok
  va := [⟨2, 20, 1, [.int .u8 10], 14, 26⟩]
  vaok := by
    have h2 := h.d2; have h3 := b.lb; have h4 := h.a60; have h5 := outL_len p.A p.la (p.la + 1) 0 [] (Nat.zero_le _) (Nat.zero_le _)
    have h5 : (fin p).length ≤ 4 * p.la := h5
    exact aN (n := p.ld) (e := p.D) (e' := cat p.ld p.D fun _ => 10) allNil (hy := by show some ((IntKind.u8, (10 : Int)) : IntKind × Int) = some (.u8, cat p.ld p.D (fun _ => 10) p.ld); rw [show cat p.ld p.D (fun _ => 10) p.ld = 10 from if_neg (Nat.lt_irrefl _)]) (h1 := fun m hm => if_pos hm)
noncomputable abbrev cvg1vt2 : Cv := ⟨20000, 20010, ofPairs [(20001, 20011), (20002, 20012), (20003, 20003), (20004, 20148), (20005, 20151)], [(.fo 0 15 1, 0), (.oi 3, 1), (.oi 7, 2), (.oi 18, 14), (.oi 15, 15), (.oi 26, 20)]⟩
theorem kg1vt2 : ∀ p h b g hk q hf hd, runTo (Rg1vt2 p h b g hk q hf hd).T Tryz.prog (KZ 1 .nils true) 5000 Tryz.f5.ntmps aL (frOf (fsA' true false)) (hA 1 false) .normal cvg1vt2 [(20011, .vec 3, 0), (20012, .vec 4, 1), (20148, .vec 14, 2), (20151, .vec 14, 2)] (fsA' true false) (bsA 1 false 20011 20012 20003 20148 20151) = true := fun p h b g hk q hf hd => by as_aux_lemma => kernel_rfl
noncomputable abbrev Rg1vt3 (p : Pm) (h : Ar p) (b : Bt p) (g : Go p) (hk : p.ek = 3) (q : EkC p 3) (hf : p.t1 ≤ 2048) (hd : p.ld + (p.lb + 1) ≤ 4096) : Rw (ivP p 0) (vvP p 0) (vkP p 0) (fgP p) (txP p 0) where
  vvp := vvPp p 0
  ib := rowsH ++ (cu3 ++ (rowsG ++ (rowsV ++ [(0, .oi 20, .int .i64 1, .oi 26), (13, .oi 26, .int .i64 4096, .bool false)])))
  ibok := catR (rowsH_ok g) (catR (cu3_ok h q) (catR (rowsG_ok h hf) (catR (rowsV_ok h) (by
    have h2 := h.d2; have h3 := b.lb; have h4 := h.a60; have h5 := outL_len p.A p.la (p.la + 1) 0 [] (Nat.zero_le _) (Nat.zero_le _)
    have h5 : (fin p).length ≤ 4 * p.la := h5
    have q : p.la = 0 := q
    exact (rAdd (rGt (ibNil)))))))
  ic := [(.i64, .oi 4, .oi 4)]
  icok := by
    have h1 := h.t2
    exact rConv icNil
  vl := [⟨3, 1, 1, 0, [.int .u64 1]⟩, ⟨3, 25, 1, 0, [.int .u64 0]⟩]
  vlok := vlV_ok h
  fl := [⟨0, 16, 1, 0, [.es]⟩]
  flok := flV_ok hk
  vc := [(0, 25)]
  vcok := vc0_ok
  va := [⟨2, 20, 1, [.int .u8 10], 14, 26⟩]
  vaok := by
    have h2 := h.d2; have h3 := b.lb; have h4 := h.a60; have h5 := outL_len p.A p.la (p.la + 1) 0 [] (Nat.zero_le _) (Nat.zero_le _)
    have h5 : (fin p).length ≤ 4 * p.la := h5
    exact aN (n := p.ld) (e := p.D) (e' := cat p.ld p.D fun _ => 10) allNil (hy := by show some ((IntKind.u8, (10 : Int)) : IntKind × Int) = some (.u8, cat p.ld p.D (fun _ => 10) p.ld); rw [show cat p.ld p.D (fun _ => 10) p.ld = 10 from if_neg (Nat.lt_irrefl _)]) (h1 := fun m hm => if_pos hm)
noncomputable abbrev cvg1vt3 : Cv := ⟨20000, 20010, ofPairs [(20001, 20011), (20002, 20012), (20003, 20003), (20004, 20148), (20005, 20151)], [(.fo 0 15 1, 0), (.oi 3, 1), (.oi 7, 2), (.oi 18, 14), (.oi 15, 15), (.oi 26, 20)]⟩
theorem kg1vt3 : ∀ p h b g hk q hf hd, runTo (Rg1vt3 p h b g hk q hf hd).T Tryz.prog (KZ 1 .es true) 5000 Tryz.f5.ntmps aL (frOf (fsA' true false)) (hA 1 false) .normal cvg1vt3 [(20011, .vec 3, 0), (20012, .vec 4, 1), (20148, .vec 14, 2), (20151, .vec 14, 2)] (fsA' true false) (bsA 1 false 20011 20012 20003 20148 20151) = true := fun p h b g hk q hf hd => by as_aux_lemma => kernel_rfl
noncomputable abbrev Rf1vf0 (p : Pm) (h : Ar p) (b : Bt p) (g : Go p) (hk : p.ek = 0) (q : EkC p 0) (hf : p.t1 ≤ 2048) (hd : 4096 < p.ld + (p.lb + 0)) : Rw (ivP p 0) (vvP p 0) (vkP p 0) (fgP p) (txP p 0) where
  vvp := vvPp p 0
  ib := rowsH ++ (cu0 ++ (rowsG ++ (rowsV ++ [(0, .oi 20, .oi 21, .oi 22), (13, .oi 22, .int .i64 4096, .bool true)])))
  ibok := catR (rowsH_ok g) (catR (cu0_ok h q) (catR (rowsG_ok h hf) (catR (rowsV_ok h) (by
    have h2 := h.d2; have h3 := b.lb; have h4 := h.a60; have h5 := outL_len p.A p.la (p.la + 1) 0 [] (Nat.zero_le _) (Nat.zero_le _)
    have h5 : (fin p).length ≤ 4 * p.la := h5
    exact (rAdd (rGt (ibNil)))))))
  ic := [(.i64, .oi 4, .oi 4)]
  icok := by
    have h1 := h.t2
    exact rConv icNil
  vl := [⟨3, 1, 1, 0, [.int .u64 1]⟩, ⟨3, 25, 1, 0, [.int .u64 0]⟩]
  vlok := vlV_ok h
  fl := [⟨0, 16, 1, 0, [.fo 1 0 1]⟩]
  flok := flV_ok hk
  vc := [(0, 25)]
  vcok := vc0_ok
theorem kf1vf0 : ∀ p h b g hk q hf hd, runTo (Rf1vf0 p h b g hk q hf hd).T Tryz.prog (KF false) 5000 Tryz.f5.ntmps aL (frOf (fsA' false false)) (hA 1 false) (.exit 0) cvX [(20004, .vec 2, 2), (20005, .vec 2, 2)] (fsX false true) (bsX false true) = true := fun p h b g hk q hf hd => by as_aux_lemma => kernel_rfl
noncomputable abbrev Rf1vf1 (p : Pm) (h : Ar p) (b : Bt p) (g : Go p) (hk : p.ek = 1) (q : EkC p 1) (hf : p.t1 ≤ 2048) (hd : 4096 < p.ld + (p.lb + 0)) : Rw (ivP p 0) (vvP p 0) (vkP p 0) (fgP p) (txP p 0) where
  vvp := vvPp p 0
  ib := rowsH ++ (cu1 ++ (rowsG ++ (rowsV ++ [(0, .oi 20, .oi 21, .oi 22), (13, .oi 22, .int .i64 4096, .bool true)])))
  ibok := catR (rowsH_ok g) (catR (cu1_ok h q) (catR (rowsG_ok h hf) (catR (rowsV_ok h) (by
    have h2 := h.d2; have h3 := b.lb; have h4 := h.a60; have h5 := outL_len p.A p.la (p.la + 1) 0 [] (Nat.zero_le _) (Nat.zero_le _)
    have h5 : (fin p).length ≤ 4 * p.la := h5
    exact (rAdd (rGt (ibNil)))))))
  ic := [(.i64, .oi 4, .oi 4)]
  icok := by
    have h1 := h.t2
    exact rConv icNil
  vl := [⟨3, 1, 1, 0, [.int .u64 1]⟩, ⟨3, 25, 1, 0, [.int .u64 0]⟩]
  vlok := vlV_ok h
  fl := [⟨0, 16, 1, 0, [.fo 1 19 1]⟩]
  flok := flV_ok hk
  vc := [(0, 25), (60, 0)]
  vcok := vc1_ok q
theorem kf1vf1 : ∀ p h b g hk q hf hd, runTo (Rf1vf1 p h b g hk q hf hd).T Tryz.prog (KF false) 5000 Tryz.f5.ntmps aL (frOf (fsA' false false)) (hA 1 false) (.exit 0) cvX [(20004, .vec 2, 2), (20005, .vec 2, 2)] (fsX false true) (bsX false true) = true := fun p h b g hk q hf hd => by as_aux_lemma => kernel_rfl
noncomputable abbrev Rf1vt0 (p : Pm) (h : Ar p) (b : Bt p) (g : Go p) (hk : p.ek = 0) (q : EkC p 0) (hf : p.t1 ≤ 2048) (hd : 4096 < p.ld + (p.lb + 1)) : Rw (ivP p 0) (vvP p 0) (vkP p 0) (fgP p) (txP p 0) where
  vvp := vvPp p 0
  ib := rowsH ++ (cu0 ++ (rowsG ++ (rowsV ++ [(0, .oi 20, .oi 23, .oi 24), (13, .oi 24, .int .i64 4096, .bool true)])))
  ibok := catR (rowsH_ok g) (catR (cu0_ok h q) (catR (rowsG_ok h hf) (catR (rowsV_ok h) (by
    have h2 := h.d2; have h3 := b.lb; have h4 := h.a60; have h5 := outL_len p.A p.la (p.la + 1) 0 [] (Nat.zero_le _) (Nat.zero_le _)
    have h5 : (fin p).length ≤ 4 * p.la := h5
    exact (rAdd (rGt (ibNil)))))))
  ic := [(.i64, .oi 4, .oi 4)]
  icok := by
    have h1 := h.t2
    exact rConv icNil
  vl := [⟨3, 1, 1, 0, [.int .u64 1]⟩, ⟨3, 25, 1, 0, [.int .u64 0]⟩]
  vlok := vlV_ok h
  fl := [⟨0, 16, 1, 0, [.fo 1 0 1]⟩]
  flok := flV_ok hk
  vc := [(0, 25)]
  vcok := vc0_ok
  va := [⟨6, 21, 1, [.int .u8 10], 7, 23⟩]
  vaok := by
    have h2 := h.d2; have h3 := b.lb; have h4 := h.a60; have h5 := outL_len p.A p.la (p.la + 1) 0 [] (Nat.zero_le _) (Nat.zero_le _)
    have h5 : (fin p).length ≤ 4 * p.la := h5
    exact aN (n := p.lb) (e := p.E) (e' := p.E1) allNil (hy := by show some ((IntKind.u8, (10 : Int)) : IntKind × Int) = some (.u8, p.E1 p.lb); rw [show p.E1 p.lb = 10 from if_neg (Nat.lt_irrefl _)]) (h1 := fun m hm => if_pos hm)
theorem kf1vt0 : ∀ p h b g hk q hf hd, runTo (Rf1vt0 p h b g hk q hf hd).T Tryz.prog (KF true) 5000 Tryz.f5.ntmps aL (frOf (fsA' true false)) (hA 1 false) (.exit 0) cvX [(20004, .vec 2, 2), (20005, .vec 2, 2)] (fsX false true) (bsX false true) = true := fun p h b g hk q hf hd => by as_aux_lemma => kernel_rfl
noncomputable abbrev Rf1vt1 (p : Pm) (h : Ar p) (b : Bt p) (g : Go p) (hk : p.ek = 1) (q : EkC p 1) (hf : p.t1 ≤ 2048) (hd : 4096 < p.ld + (p.lb + 1)) : Rw (ivP p 0) (vvP p 0) (vkP p 0) (fgP p) (txP p 0) where
  vvp := vvPp p 0
  ib := rowsH ++ (cu1 ++ (rowsG ++ (rowsV ++ [(0, .oi 20, .oi 23, .oi 24), (13, .oi 24, .int .i64 4096, .bool true)])))
  ibok := catR (rowsH_ok g) (catR (cu1_ok h q) (catR (rowsG_ok h hf) (catR (rowsV_ok h) (by
    have h2 := h.d2; have h3 := b.lb; have h4 := h.a60; have h5 := outL_len p.A p.la (p.la + 1) 0 [] (Nat.zero_le _) (Nat.zero_le _)
    have h5 : (fin p).length ≤ 4 * p.la := h5
    exact (rAdd (rGt (ibNil)))))))
  ic := [(.i64, .oi 4, .oi 4)]
  icok := by
    have h1 := h.t2
    exact rConv icNil
  vl := [⟨3, 1, 1, 0, [.int .u64 1]⟩, ⟨3, 25, 1, 0, [.int .u64 0]⟩]
  vlok := vlV_ok h
  fl := [⟨0, 16, 1, 0, [.fo 1 19 1]⟩]
  flok := flV_ok hk
  vc := [(0, 25), (60, 0)]
  vcok := vc1_ok q
  va := [⟨6, 21, 1, [.int .u8 10], 7, 23⟩]
  vaok := by
    have h2 := h.d2; have h3 := b.lb; have h4 := h.a60; have h5 := outL_len p.A p.la (p.la + 1) 0 [] (Nat.zero_le _) (Nat.zero_le _)
    have h5 : (fin p).length ≤ 4 * p.la := h5
    exact aN (n := p.lb) (e := p.E) (e' := p.E1) allNil (hy := by show some ((IntKind.u8, (10 : Int)) : IntKind × Int) = some (.u8, p.E1 p.lb); rw [show p.E1 p.lb = 10 from if_neg (Nat.lt_irrefl _)]) (h1 := fun m hm => if_pos hm)
theorem kf1vt1 : ∀ p h b g hk q hf hd, runTo (Rf1vt1 p h b g hk q hf hd).T Tryz.prog (KF true) 5000 Tryz.f5.ntmps aL (frOf (fsA' true false)) (hA 1 false) (.exit 0) cvX [(20004, .vec 2, 2), (20005, .vec 2, 2)] (fsX false true) (bsX false true) = true := fun p h b g hk q hf hd => by as_aux_lemma => kernel_rfl
noncomputable abbrev Rf1vt2 (p : Pm) (h : Ar p) (b : Bt p) (g : Go p) (hk : p.ek = 2) (q : EkC p 2) (hf : p.t1 ≤ 2048) (hd : 4096 < p.ld + (p.lb + 1)) : Rw (ivP p 0) (vvP p 0) (vkP p 0) (fgP p) (txP p 0) where
  vvp := vvPp p 0
  ib := rowsH ++ (cu2 ++ (rowsG ++ (rowsV ++ [(0, .oi 20, .int .i64 1, .oi 26), (13, .oi 26, .int .i64 4096, .bool true)])))
  ibok := catR (rowsH_ok g) (catR (cu2_ok h q) (catR (rowsG_ok h hf) (catR (rowsV_ok h) (by
    have h2 := h.d2; have h3 := b.lb; have h4 := h.a60; have h5 := outL_len p.A p.la (p.la + 1) 0 [] (Nat.zero_le _) (Nat.zero_le _)
    have h5 : (fin p).length ≤ 4 * p.la := h5
    have q : p.la = 0 := q
    exact (rAdd (rGt (ibNil)))))))
  ic := [(.i64, .oi 4, .oi 4)]
  icok := by
    have h1 := h.t2
    exact rConv icNil
  vl := [⟨3, 1, 1, 0, [.int .u64 1]⟩, ⟨3, 25, 1, 0, [.int .u64 0]⟩]
  vlok := vlV_ok h
  fl := [⟨0, 16, 1, 0, [.nils]⟩]
  flok := flV_ok hk
  vc := [(0, 25)]
  vcok := vc0_ok
  va := [⟨2, 20, 1, [.int .u8 10], 14, 26⟩]
  vaok := by
    have h2 := h.d2; have h3 := b.lb; have h4 := h.a60; have h5 := outL_len p.A p.la (p.la + 1) 0 [] (Nat.zero_le _) (Nat.zero_le _)
    have h5 : (fin p).length ≤ 4 * p.la := h5
    exact aN (n := p.ld) (e := p.D) (e' := cat p.ld p.D fun _ => 10) allNil (hy := by show some ((IntKind.u8, (10 : Int)) : IntKind × Int) = some (.u8, cat p.ld p.D (fun _ => 10) p.ld); rw [show cat p.ld p.D (fun _ => 10) p.ld = 10 from if_neg (Nat.lt_irrefl _)]) (h1 := fun m hm => if_pos hm)
theorem kf1vt2 : ∀ p h b g hk q hf hd, runTo (Rf1vt2 p h b g hk q hf hd).T Tryz.prog (KZ 1 .nils true) 5000 Tryz.f5.ntmps aL (frOf (fsA' true false)) (hA 1 false) (.exit 0) cvX [(20004, .vec 2, 2), (20005, .vec 2, 2)] (fsX false true) (bsX false true) = true := fun p h b g hk q hf hd => by as_aux_lemma => kernel_rfl
noncomputable abbrev Rf1vt3 (p : Pm) (h : Ar p) (b : Bt p) (g : Go p) (hk : p.ek = 3) (q : EkC p 3) (hf : p.t1 ≤ 2048) (hd : 4096 < p.ld + (p.lb + 1)) : Rw (ivP p 0) (vvP p 0) (vkP p 0) (fgP p) (txP p 0) where
  vvp := vvPp p 0
  ib := rowsH ++ (cu3 ++ (rowsG ++ (rowsV ++ [(0, .oi 20, .int .i64 1, .oi 26), (13, .oi 26, .int .i64 4096, .bool true)])))
  ibok := catR (rowsH_ok g) (catR (cu3_ok h q) (catR (rowsG_ok h hf) (catR (rowsV_ok h) (by
    have h2 := h.d2; have h3 := b.lb; have h4 := h.a60; have h5 := outL_len p.A p.la (p.la + 1) 0 [] (Nat.zero_le _) (Nat.zero_le _)
    have h5 : (fin p).length ≤ 4 * p.la := h5
    have q : p.la = 0 := q
    exact (rAdd (rGt (ibNil)))))))
  ic := [(.i64, .oi 4, .oi 4)]
  icok := by
    have h1 := h.t2
    exact rConv icNil
  vl := [⟨3, 1, 1, 0, [.int .u64 1]⟩, ⟨3, 25, 1, 0, [.int .u64 0]⟩]
  vlok := vlV_ok h
  fl := [⟨0, 16, 1, 0, [.es]⟩]
  flok := flV_ok hk
  vc := [(0, 25)]
  vcok := vc0_ok
  va := [⟨2, 20, 1, [.int .u8 10], 14, 26⟩]
  vaok := by
    have h2 := h.d2; have h3 := b.lb; have h4 := h.a60; have h5 := outL_len p.A p.la (p.la + 1) 0 [] (Nat.zero_le _) (Nat.zero_le _)
    have h5 : (fin p).length ≤ 4 * p.la := h5
    exact aN (n := p.ld) (e := p.D) (e' := cat p.ld p.D fun _ => 10) allNil (hy := by show some ((IntKind.u8, (10 : Int)) : IntKind × Int) = some (.u8, cat p.ld p.D (fun _ => 10) p.ld); rw [show cat p.ld p.D (fun _ => 10) p.ld = 10 from if_neg (Nat.lt_irrefl _)]) (h1 := fun m hm => if_pos hm)
theorem kf1vt3 : ∀ p h b g hk q hf hd, runTo (Rf1vt3 p h b g hk q hf hd).T Tryz.prog (KZ 1 .es true) 5000 Tryz.f5.ntmps aL (frOf (fsA' true false)) (hA 1 false) (.exit 0) cvX [(20004, .vec 2, 2), (20005, .vec 2, 2)] (fsX false true) (bsX false true) = true := fun p h b g hk q hf hd => by as_aux_lemma => kernel_rfl
end Go.Proofs.YtkkaifeiopjjdaaGreatDoor.np
