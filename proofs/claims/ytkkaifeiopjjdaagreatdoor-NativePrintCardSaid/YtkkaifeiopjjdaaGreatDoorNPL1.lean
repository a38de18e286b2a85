/-
  The law NativePrint: rounds of its loop.
-/
import Derived.Test.YtkkaifeiopjjdaaGreatDoorNPL
set_option linter.unusedVariables false
set_option linter.unusedSimpArgs false
set_option linter.unusedSectionVars false
set_option maxRecDepth 1000000
set_option maxHeartbeats 0
namespace Go.Proofs.YtkkaifeiopjjdaaGreatDoor.np
open Go.X Go.RowKit Go.Proofs
noncomputable abbrev Rg1nf0 (p : Pm) (h : Ar p) (b : Bt p) (g : Go p) (hk : p.ek = 0) (q : EkC p 0) (hf : p.t1 ≤ 2048) (hn : p.ld = 0) (hd : p.ld + (p.lb + 0) ≤ 4096) : Rw (ivP p 0) (vvP p 0) (vkP p 0) (fgP p) (txP p 0) where
  vvp := vvPp p 0
  ib := rowsH ++ (cu0 ++ (rowsG ++ (rowsV ++ [(0, .int .i64 0, .oi 21, .oi 21), (13, .oi 21, .int .i64 4096, .bool false)])))
  ibok := catR (rowsH_ok g) (catR (cu0_ok h q) (catR (rowsG_ok h hf) (catR (rowsV_ok h) (by
    have h2 := h.d2; have h3 := b.lb; have h4 := h.a60; have h5 := outL_len p.A p.la (p.la + 1) 0 [] (Nat.zero_le _) (Nat.zero_le _)
    have h5 : (fin p).length ≤ 4 * p.la := h5
    exact (rAdd (rGt (ibNil)))))))
  ic := [(.i64, .oi 4, .oi 4)]
  icok := by
    have h1 := h.t2
    exact rConv icNil
  vl := [⟨3, 1, 1, 0, [.int .u64 1]⟩, ⟨3, 25, 1, 0, [.int .u64 0]⟩]
  vlok := vlV_ok h
  fl := [⟨0, 16, 1, 0, [.fo 1 0 1]⟩]
  flok := flV_ok hk
  vc := [(0, 25)]
  vcok := vc0_ok
  vb := [⟨true, 0, 0, 1, true, 6, 21, 6, 21⟩]
  vbok := by
    have h2 := h.d2; have h3 := b.lb; have h4 := h.a60; have h5 := outL_len p.A p.la (p.la + 1) 0 [] (Nat.zero_le _) (Nat.zero_le _)
    have h5 : (fin p).length ≤ 4 * p.la := h5
    have h6 := lbpos h b q
    exact Go.X.b0 allNil
noncomputable abbrev cvg1nf0 : Cv := ⟨20000, 20010, ofPairs [(20001, 20011), (20002, 20012), (20003, 20003), (20004, 20186), (20005, 20227)], [(.fo 0 15 1, 0), (.oi 3, 1), (.oi 7, 2), (.oi 18, 14), (.oi 15, 15), (.oi 21, 20)]⟩
theorem kg1nf0 : ∀ p h b g hk q hf hn hd, runTo (Rg1nf0 p h b g hk q hf hn hd).T Tryz.prog (KG 1 false) 5000 Tryz.f5.ntmps aL (frOf (fsA' false true)) (hA 1 true) .normal cvg1nf0 [(20011, .vec 3, 0), (20012, .vec 4, 1), (20186, .vec 6, 2), (20227, .vec 6, 2)] (fsA' false false) (bsA 1 false 20011 20012 20003 20186 20227) = true := fun p h b g hk q hf hn hd => by as_aux_lemma => kernel_rfl
noncomputable abbrev Rg1nf1 (p : Pm) (h : Ar p) (b : Bt p) (g : Go p) (hk : p.ek = 1) (q : EkC p 1) (hf : p.t1 ≤ 2048) (hn : p.ld = 0) (hd : p.ld + (p.lb + 0) ≤ 4096) : Rw (ivP p 0) (vvP p 0) (vkP p 0) (fgP p) (txP p 0) where
  vvp := vvPp p 0
  ib := rowsH ++ (cu1 ++ (rowsG ++ (rowsV ++ [(0, .int .i64 0, .oi 21, .oi 21), (13, .oi 21, .int .i64 4096, .bool false)])))
  ibok := catR (rowsH_ok g) (catR (cu1_ok h q) (catR (rowsG_ok h hf) (catR (rowsV_ok h) (by
    have h2 := h.d2; have h3 := b.lb; have h4 := h.a60; have h5 := outL_len p.A p.la (p.la + 1) 0 [] (Nat.zero_le _) (Nat.zero_le _)
    have h5 : (fin p).length ≤ 4 * p.la := h5
    exact (rAdd (rGt (ibNil)))))))
  ic := [(.i64, .oi 4, .oi 4)]
  icok := by
    have h1 := h.t2
    exact rConv icNil
  vl := [⟨3, 1, 1, 0, [.int .u64 1]⟩, ⟨3, 25, 1, 0, [.int .u64 0]⟩]
  vlok := vlV_ok h
  fl := [⟨0, 16, 1, 0, [.fo 1 19 1]⟩]
  flok := flV_ok hk
  vc := [(0, 25), (60, 0)]
  vcok := vc1_ok q
  vb := [⟨true, 0, 0, 1, true, 6, 21, 6, 21⟩]
  vbok := by
    have h2 := h.d2; have h3 := b.lb; have h4 := h.a60; have h5 := outL_len p.A p.la (p.la + 1) 0 [] (Nat.zero_le _) (Nat.zero_le _)
    have h5 : (fin p).length ≤ 4 * p.la := h5
    have h6 := lbpos h b q
    exact Go.X.b0 allNil
noncomputable abbrev cvg1nf1 : Cv := ⟨20000, 20010, ofPairs [(20001, 20011), (20002, 20012), (20003, 20003), (20004, 20186), (20005, 20227)], [(.fo 0 15 1, 0), (.oi 3, 1), (.oi 7, 2), (.oi 18, 14), (.oi 15, 15), (.oi 21, 20)]⟩
theorem kg1nf1 : ∀ p h b g hk q hf hn hd, runTo (Rg1nf1 p h b g hk q hf hn hd).T Tryz.prog (KG 1 false) 5000 Tryz.f5.ntmps aL (frOf (fsA' false true)) (hA 1 true) .normal cvg1nf1 [(20011, .vec 3, 0), (20012, .vec 4, 1), (20186, .vec 6, 2), (20227, .vec 6, 2)] (fsA' false false) (bsA 1 false 20011 20012 20003 20186 20227) = true := fun p h b g hk q hf hn hd => by as_aux_lemma => kernel_rfl
noncomputable abbrev Rg1nf2 (p : Pm) (h : Ar p) (b : Bt p) (g : Go p) (hk : p.ek = 2) (q : EkC p 2) (hf : p.t1 ≤ 2048) (hn : p.ld = 0) (hd : p.ld + (p.lb + 0) ≤ 4096) : Rw (ivP p 0) (vvP p 0) (vkP p 0) (fgP p) (txP p 0) where
  vvp := vvPp p 0
  ib := rowsH ++ (cu2 ++ (rowsG ++ (rowsV ++ [])))
  ibok := catR (rowsH_ok g) (catR (cu2_ok h q) (catR (rowsG_ok h hf) (catR (rowsV_ok h) (by
    have h2 := h.d2; have h3 := b.lb; have h4 := h.a60; have h5 := outL_len p.A p.la (p.la + 1) 0 [] (Nat.zero_le _) (Nat.zero_le _)
    have h5 : (fin p).length ≤ 4 * p.la := h5
    have q : p.la = 0 := q
    exact (ibNil)))))
  ic := [(.i64, .oi 4, .oi 4)]
  icok := by
    have h1 := h.t2
    exact rConv icNil
  vl := [⟨3, 1, 1, 0, [.int .u64 1]⟩, ⟨3, 25, 1, 0, [.int .u64 0]⟩]
  vlok := vlV_ok h
  fl := [⟨0, 16, 1, 0, [.nils]⟩]
  flok := flV_ok hk
  vc := [(0, 25)]
  vcok := vc0_ok
noncomputable abbrev cvg1nf2 : Cv := ⟨20000, 20010, ofPairs [(20001, 20011), (20002, 20012), (20003, 20003)], [(.fo 0 15 1, 0), (.oi 3, 1), (.oi 7, 2), (.oi 18, 14), (.oi 15, 15)]⟩
theorem kg1nf2 : ∀ p h b g hk q hf hn hd, runTo (Rg1nf2 p h b g hk q hf hn hd).T Tryz.prog (KZ 1 .nils false) 5000 Tryz.f5.ntmps aL (frOf (fsA' false true)) (hA 1 true) .normal cvg1nf2 [(20011, .vec 3, 0), (20012, .vec 4, 1)] (fsA' false true) (bsA 1 true 20011 20012 20003 20146 20147) = true := fun p h b g hk q hf hn hd => by as_aux_lemma => kernel_rfl
noncomputable abbrev Rg1nf3 (p : Pm) (h : Ar p) (b : Bt p) (g : Go p) (hk : p.ek = 3) (q : EkC p 3) (hf : p.t1 ≤ 2048) (hn : p.ld = 0) (hd : p.ld + (p.lb + 0) ≤ 4096) : Rw (ivP p 0) (vvP p 0) (vkP p 0) (fgP p) (txP p 0) where
  vvp := vvPp p 0
  ib := rowsH ++ (cu3 ++ (rowsG ++ (rowsV ++ [])))
  ibok := catR (rowsH_ok g) (catR (cu3_ok h q) (catR (rowsG_ok h hf) (catR (rowsV_ok h) (by
    have h2 := h.d2; have h3 := b.lb; have h4 := h.a60; have h5 := outL_len p.A p.la (p.la + 1) 0 [] (Nat.zero_le _) (Nat.zero_le _)
    have h5 : (fin p).length ≤ 4 * p.la := h5
    have q : p.la = 0 := q
    exact (ibNil)))))
  ic := [(.i64, .oi 4, .oi 4)]
  icok := by
    have h1 := h.t2
    exact rConv icNil
  vl := [⟨3, 1, 1, 0, [.int .u64 1]⟩, ⟨3, 25, 1, 0, [.int .u64 0]⟩]
  vlok := vlV_ok h
  fl := [⟨0, 16, 1, 0, [.es]⟩]
  flok := flV_ok hk
  vc := [(0, 25)]
  vcok := vc0_ok
noncomputable abbrev cvg1nf3 : Cv := ⟨20000, 20010, ofPairs [(20001, 20011), (20002, 20012), (20003, 20003)], [(.fo 0 15 1, 0), (.oi 3, 1), (.oi 7, 2), (.oi 18, 14), (.oi 15, 15)]⟩
theorem kg1nf3 : ∀ p h b g hk q hf hn hd, runTo (Rg1nf3 p h b g hk q hf hn hd).T Tryz.prog (KZ 1 .es false) 5000 Tryz.f5.ntmps aL (frOf (fsA' false true)) (hA 1 true) .normal cvg1nf3 [(20011, .vec 3, 0), (20012, .vec 4, 1)] (fsA' false true) (bsA 1 true 20011 20012 20003 20146 20147) = true := fun p h b g hk q hf hn hd => by as_aux_lemma => kernel_rfl
noncomputable abbrev Rg1vf0 (p : Pm) (h : Ar p) (b : Bt p) (g : Go p) (hk : p.ek = 0) (q : EkC p 0) (hf : p.t1 ≤ 2048) (hd : p.ld + (p.lb + 0) ≤ 4096) : Rw (ivP p 0) (vvP p 0) (vkP p 0) (fgP p) (txP p 0) where
  vvp := vvPp p 0
  ib := rowsH ++ (cu0 ++ (rowsG ++ (rowsV ++ [(0, .oi 20, .oi 21, .oi 22), (13, .oi 22, .int .i64 4096, .bool false)])))
  ibok := catR (rowsH_ok g) (catR (cu0_ok h q) (catR (rowsG_ok h hf) (catR (rowsV_ok h) (by
    have h2 := h.d2; have h3 := b.lb; have h4 := h.a60; have h5 := outL_len p.A p.la (p.la + 1) 0 [] (Nat.zero_le _) (Nat.zero_le _)
    have h5 : (fin p).length ≤ 4 * p.la := h5
    exact (rAdd (rGt (ibNil)))))))
  ic := [(.i64, .oi 4, .oi 4)]
  icok := by
    have h1 := h.t2
    exact rConv icNil
  vl := [⟨3, 1, 1, 0, [.int .u64 1]⟩, ⟨3, 25, 1, 0, [.int .u64 0]⟩]
  vlok := vlV_ok h
  fl := [⟨0, 16, 1, 0, [.fo 1 0 1]⟩]
  flok := flV_ok hk
  vc := [(0, 25)]
  vcok := vc0_ok
  vb := [⟨false, 2, 20, 1, true, 6, 21, 8, 22⟩]
  vbok := by
    have h2 := h.d2; have h3 := b.lb; have h4 := h.a60; have h5 := outL_len p.A p.la (p.la + 1) 0 [] (Nat.zero_le _) (Nat.zero_le _)
    have h5 : (fin p).length ≤ 4 * p.la := h5
    have h6 := lbpos h b q
    exact bN (n := p.ld) (c := p.lb) (e := p.D) (e1 := p.E) (e' := cat p.ld p.D p.E) allNil (g1 := fun m hm => if_pos hm) (g2 := fun m hm => by unfold cat; rw [if_neg (by omega), show p.ld + m - p.ld = m by omega])
noncomputable abbrev cvg1vf0 : Cv := ⟨20000, 20010, ofPairs [(20001, 20011), (20002, 20012), (20003, 20003), (20004, 20186), (20005, 20227)], [(.fo 0 15 1, 0), (.oi 3, 1), (.oi 7, 2), (.oi 18, 14), (.oi 15, 15), (.oi 22, 20)]⟩
theorem kg1vf0 : ∀ p h b g hk q hf hd, runTo (Rg1vf0 p h b g hk q hf hd).T Tryz.prog (KG 1 false) 5000 Tryz.f5.ntmps aL (frOf (fsA' false false)) (hA 1 false) .normal cvg1vf0 [(20011, .vec 3, 0), (20012, .vec 4, 1), (20186, .vec 8, 2), (20227, .vec 8, 2)] (fsA' false false) (bsA 1 false 20011 20012 20003 20186 20227) = true := fun p h b g hk q hf hd => by as_aux_lemma => kernel_rfl
noncomputable abbrev Rg1vf1 (p : Pm) (h : Ar p) (b : Bt p) (g : Go p) (hk : p.ek = 1) (q : EkC p 1) (hf : p.t1 ≤ 2048) (hd : p.ld + (p.lb + 0) ≤ 4096) : Rw (ivP p 0) (vvP p 0) (vkP p 0) (fgP p) (txP p 0) where
  vvp := vvPp p 0
  ib := rowsH ++ (cu1 ++ (rowsG ++ (rowsV ++ [(0, .oi 20, .oi 21, .oi 22), (13, .oi 22, .int .i64 4096, .bool false)])))
  ibok := catR (rowsH_ok g) (catR (cu1_ok h q) (catR (rowsG_ok h hf) (catR (rowsV_ok h) (by
    have h2 := h.d2; have h3 := b.lb; have h4 := h.a60; have h5 := outL_len p.A p.la (p.la + 1) 0 [] (Nat.zero_le _) (Nat.zero_le _)
    have h5 : (fin p).length ≤ 4 * p.la := h5
    exact (rAdd (rGt (ibNil)))))))
  ic := [(.i64, .oi 4, .oi 4)]
  icok := by
    have h1 := h.t2
    exact rConv icNil
  vl := [⟨3, 1, 1, 0, [.int .u64 1]⟩, ⟨3, 25, 1, 0, [.int .u64 0]⟩]
  vlok := vlV_ok h
  fl := [⟨0, 16, 1, 0, [.fo 1 19 1]⟩]
  flok := flV_ok hk
  vc := [(0, 25), (60, 0)]
  vcok := vc1_ok q
  vb := [⟨false, 2, 20, 1, true, 6, 21, 8, 22⟩]
  vbok := by
    have h2 := h.d2; have h3 := b.lb; have h4 := h.a60; have h5 := outL_len p.A p.la (p.la + 1) 0 [] (Nat.zero_le _) (Nat.zero_le _)
    have h5 : (fin p).length ≤ 4 * p.la := h5
    have h6 := lbpos h b q
    exact bN (n := p.ld) (c := p.lb) (e := p.D) (e1 := p.E) (e' := cat p.ld p.D p.E) allNil (g1 := fun m hm => if_pos hm) (g2 := fun m hm => by unfold cat; rw [if_neg (by omega), show p.ld + m - p.ld = m by omega])
noncomputable abbrev cvg1vf1 : Cv := ⟨20000, 20010, ofPairs [(20001, 20011), (20002, 20012), (20003, 20003), (20004, 20186), (20005, 20227)], [(.fo 0 15 1, 0), (.oi 3, 1), (.oi 7, 2), (.oi 18, 14), (.oi 15, 15), (.oi 22, 20)]⟩
theorem kg1vf1 : ∀ p h b g hk q hf hd, runTo (Rg1vf1 p h b g hk q hf hd).T Tryz.prog (KG 1 false) 5000 Tryz.f5.ntmps aL (frOf (fsA' false false)) (hA 1 false) .normal cvg1vf1 [(20011, .vec 3, 0), (20012, .vec 4, 1), (20186, .vec 8, 2), (20227, .vec 8, 2)] (fsA' false false) (bsA 1 false 20011 20012 20003 20186 20227) = true := fun p h b g hk q hf hd => by as_aux_lemma => kernel_rfl
noncomputable abbrev Rg1vf2 (p : Pm) (h : Ar p) (b : Bt p) (g : Go p) (hk : p.ek = 2) (q : EkC p 2) (hf : p.t1 ≤ 2048) (hd : p.ld + (p.lb + 0) ≤ 4096) : Rw (ivP p 0) (vvP p 0) (vkP p 0) (fgP p) (txP p 0) where
  vvp := vvPp p 0
  ib := rowsH ++ (cu2 ++ (rowsG ++ (rowsV ++ [(0, .oi 20, .int .i64 0, .oi 20), (13, .oi 20, .int .i64 4096, .bool false)])))
  ibok := catR (rowsH_ok g) (catR (cu2_ok h q) (catR (rowsG_ok h hf) (catR (rowsV_ok h) (by
    have h2 := h.d2; have h3 := b.lb; have h4 := h.a60; have h5 := outL_len p.A p.la (p.la + 1) 0 [] (Nat.zero_le _) (Nat.zero_le _)
    have h5 : (fin p).length ≤ 4 * p.la := h5
    have q : p.la = 0 := q
    exact (rAdd (rGt (ibNil)))))))
  ic := [(.i64, .oi 4, .oi 4)]
  icok := by
    have h1 := h.t2
    exact rConv icNil
  vl := [⟨3, 1, 1, 0, [.int .u64 1]⟩, ⟨3, 25, 1, 0, [.int .u64 0]⟩]
  vlok := vlV_ok h
  fl := [⟨0, 16, 1, 0, [.nils]⟩]
  flok := flV_ok hk
  vc := [(0, 25)]
  vcok := vc0_ok
  va := [⟨2, 20, 1, [], 2, 20⟩]
  vaok := by
    have h2 := h.d2; have h3 := b.lb; have h4 := h.a60; have h5 := outL_len p.A p.la (p.la + 1) 0 [] (Nat.zero_le _) (Nat.zero_le _)
    have h5 : (fin p).length ≤ 4 * p.la := h5
    exact aNil h2
noncomputable abbrev cvg1vf2 : Cv := ⟨20000, 20010, ofPairs [(20001, 20011), (20002, 20012), (20003, 20003), (20004, 20146), (20005, 20147)], [(.fo 0 15 1, 0), (.oi 3, 1), (.oi 7, 2), (.oi 18, 14), (.oi 15, 15), (.oi 20, 20)]⟩
theorem kg1vf2 : ∀ p h b g hk q hf hd, runTo (Rg1vf2 p h b g hk q hf hd).T Tryz.prog (KZ 1 .nils false) 5000 Tryz.f5.ntmps aL (frOf (fsA' false false)) (hA 1 false) .normal cvg1vf2 [(20011, .vec 3, 0), (20012, .vec 4, 1), (20146, .vec 2, 2), (20147, .vec 2, 2)] (fsA' false false) (bsA 1 false 20011 20012 20003 20146 20147) = true := fun p h b g hk q hf hd => by as_aux_lemma => kernel_rfl
noncomputable abbrev Rg1vf3 (p : Pm) (h : Ar p) (b : Bt p) (g : Go p) (hk : p.ek = 3) (q : EkC p 3) (hf : p.t1 ≤ 2048) (hd : p.ld + (p.lb + 0) ≤ 4096) : Rw (ivP p 0) (vvP p 0) (vkP p 0) (fgP p) (txP p 0) where
  vvp := vvPp p 0
  ib := rowsH ++ (cu3 ++ (rowsG ++ (rowsV ++ [(0, .oi 20, .int .i64 0, .oi 20), (13, .oi 20, .int .i64 4096, .bool false)])))
  ibok := catR (rowsH_ok g) (catR (cu3_ok h q) (catR (rowsG_ok h hf) (catR (rowsV_ok h) (by
    have h2 := h.d2; have h3 := b.lb; have h4 := h.a60; have h5 := outL_len p.A p.la (p.la + 1) 0 [] (Nat.zero_le _) (Nat.zero_le _)
    have h5 : (fin p).length ≤ 4 * p.la := h5
    have q : p.la = 0 := q
    exact (rAdd (rGt (ibNil)))))))
  ic := [(.i64, .oi 4, .oi 4)]
  icok := by
    have h1 := h.t2
    exact rConv icNil
  vl := [⟨3, 1, 1, 0, [.int .u64 1]⟩, ⟨3, 25, 1, 0, [.int .u64 0]⟩]
  vlok := vlV_ok h
  fl := [⟨0, 16, 1, 0, [.es]⟩]
  flok := flV_ok hk
  vc := [(0, 25)]
  vcok := vc0_ok
  va := [⟨2, 20, 1, [], 2, 20⟩]
  vaok := by
    have h2 := h.d2; have h3 := b.lb; have h4 := h.a60; have h5 := outL_len p.A p.la (p.la + 1) 0 [] (Nat.zero_le _) (Nat.zero_le _)
    have h5 : (fin p).length ≤ 4 * p.la := h5
    exact aNil h2
noncomputable abbrev cvg1vf3 : Cv := ⟨20000, 20010, ofPairs [(20001, 20011), (20002, 20012), (20003, 20003), (20004, 20146), (20005, 20147)], [(.fo 0 15 1, 0), (.oi 3, 1), (.oi 7, 2), (.oi 18, 14), (.oi 15, 15), (.oi 20, 20)]⟩
theorem kg1vf3 : ∀ p h b g hk q hf hd, runTo (Rg1vf3 p h b g hk q hf hd).T Tryz.prog (KZ 1 .es false) 5000 Tryz.f5.ntmps aL (frOf (fsA' false false)) (hA 1 false) .normal cvg1vf3 [(20011, .vec 3, 0), (20012, .vec 4, 1), (20146, .vec 2, 2), (20147, .vec 2, 2)] (fsA' false false) (bsA 1 false 20011 20012 20003 20146 20147) = true := fun p h b g hk q hf hd => by as_aux_lemma => kernel_rfl
end Go.Proofs.YtkkaifeiopjjdaaGreatDoor.np
