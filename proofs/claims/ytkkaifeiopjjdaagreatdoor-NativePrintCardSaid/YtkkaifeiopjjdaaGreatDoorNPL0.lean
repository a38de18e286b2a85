/-
  The law NativePrint: rounds of its loop.
-/
import Derived.Test.YtkkaifeiopjjdaaGreatDoorNPL
set_option linter.unusedVariables false
set_option linter.unusedSimpArgs false
set_option linter.unusedSectionVars false
set_option maxRecDepth 1000000
set_option maxHeartbeats 0
namespace Go.Proofs.YtkkaifeiopjjdaaGreatDoor.np
open Go.X Go.RowKit Go.Proofs
noncomputable abbrev Rg0nf0 (p : Pm) (h : Ar p) (b : Bt p) (g : Go p) (hk : p.ek = 0) (q : EkC p 0) (hf : p.t1 ≤ 2048) (hn : p.ld = 0) (hd : p.ld + (p.lb + 0) ≤ 4096) : Rw (ivP p 0) (vvP p 0) (vkP p 0) (fgP p) (txP p 0) where
  vvp := vvPp p 0
  ib := rowsH ++ (cu0 ++ (rowsG ++ (rowsV ++ [(0, .int .i64 0, .oi 21, .oi 21), (13, .oi 21, .int .i64 4096, .bool false)])))
  ibok := catR (rowsH_ok g) (catR (cu0_ok h q) (catR (rowsG_ok h hf) (catR (rowsV_ok h) (by
    have h2 := h.d2; have h3 := b.lb; have h4 := h.a60; have h5 := outL_len p.A p.la (p.la + 1) 0 [] (Nat.zero_le _) (Nat.zero_le _)
    have h5 : (fin p).length ≤ 4 * p.la := h5
    exact (rAdd (rGt (ibNil)))))))
  ic := [(.i64, .oi 4, .oi 4)]
  icok := by
    have h1 := h.t2
    exact rConv icNil
  vl := [⟨3, 1, 1, 0, [.int .u64 1]⟩, ⟨3, 25, 1, 0, [.int .u64 0]⟩]
  vlok := vlV_ok h
  fl := [⟨0, 16, 1, 0, [.fo 1 0 1]⟩]
  flok := flV_ok hk
  vc := [(0, 25)]
  vcok := vc0_ok
  vb := [⟨true, 0, 0, 1, true, 6, 21, 6, 21⟩]
  vbok := by
    have h2 := h.d2; have h3 := b.lb; have h4 := h.a60; have h5 := outL_len p.A p.la (p.la + 1) 0 [] (Nat.zero_le _) (Nat.zero_le _)
    have h5 : (fin p).length ≤ 4 * p.la := h5
    have h6 := lbpos h b q
    exact Go.X.b0 allNil
noncomputable abbrev cvg0nf0 : Cv := ⟨20000, 20010, ofPairs [(20001, 20011), (20002, 20012), (20003, 20013), (20004, 20186), (20005, 20227)], [(.fo 0 15 1, 0), (.oi 3, 1), (.oi 7, 2), (.oi 18, 14), (.oi 15, 15), (.oi 21, 20)]⟩
theorem kg0nf0 : ∀ p h b g hk q hf hn hd, runTo (Rg0nf0 p h b g hk q hf hn hd).T Tryz.prog (KG 0 false) 5000 Tryz.f5.ntmps aL (frOf (fsA' false true)) (hA 0 true) .normal cvg0nf0 [(20011, .vec 3, 0), (20012, .vec 4, 1), (20186, .vec 6, 2), (20227, .vec 6, 2)] (fsA' false false) (bsA 1 false 20011 20012 20013 20186 20227) = true := fun p h b g hk q hf hn hd => by as_aux_lemma => kernel_rfl
noncomputable abbrev Rg0nf1 (p : Pm) (h : Ar p) (b : Bt p) (g : Go p) (hk : p.ek = 1) (q : EkC p 1) (hf : p.t1 ≤ 2048) (hn : p.ld = 0) (hd : p.ld + (p.lb + 0) ≤ 4096) : Rw (ivP p 0) (vvP p 0) (vkP p 0) (fgP p) (txP p 0) where
  vvp := vvPp p 0
  ib := rowsH ++ (cu1 ++ (rowsG ++ (rowsV ++ [(0, .int .i64 0, .oi 21, .oi 21), (13, .oi 21, .int .i64 4096, .bool false)])))
  ibok := catR (rowsH_ok g) (catR (cu1_ok h q) (catR (rowsG_ok h hf) (catR (rowsV_ok h) (by
    have h2 := h.d2; have h3 := b.lb; have h4 := h.a60; have h5 := outL_len p.A p.la (p.la + 1) 0 [] (Nat.zero_le _) (Nat.zero_le _)
    have h5 : (fin p).length ≤ 4 * p.la := h5
    exact (rAdd (rGt (ibNil)))))))
  ic := [(.i64, .oi 4, .oi 4)]
  icok := by
    have h1 := h.t2
    exact rConv icNil
  vl := [⟨3, 1, 1, 0, [.int .u64 1]⟩, ⟨3, 25, 1, 0, [.int .u64 0]⟩]
  vlok := vlV_ok h
  fl := [⟨0, 16, 1, 0, [.fo 1 19 1]⟩]
  flok := flV_ok hk
  vc := [(0, 25), (60, 0)]
  vcok := vc1_ok q
  vb := [⟨true, 0, 0, 1, true, 6, 21, 6, 21⟩]
  vbok := by
    have h2 := h.d2; have h3 := b.lb; have h4 := h.a60; have h5 := outL_len p.A p.la (p.la + 1) 0 [] (Nat.zero_le _) (Nat.zero_le _)
    have h5 : (fin p).length ≤ 4 * p.la := h5
    have h6 := lbpos h b q
    exact Go.X.b0 allNil
noncomputable abbrev cvg0nf1 : Cv := ⟨20000, 20010, ofPairs [(20001, 20011), (20002, 20012), (20003, 20013), (20004, 20186), (20005, 20227)], [(.fo 0 15 1, 0), (.oi 3, 1), (.oi 7, 2), (.oi 18, 14), (.oi 15, 15), (.oi 21, 20)]⟩
theorem kg0nf1 : ∀ p h b g hk q hf hn hd, runTo (Rg0nf1 p h b g hk q hf hn hd).T Tryz.prog (KG 0 false) 5000 Tryz.f5.ntmps aL (frOf (fsA' false true)) (hA 0 true) .normal cvg0nf1 [(20011, .vec 3, 0), (20012, .vec 4, 1), (20186, .vec 6, 2), (20227, .vec 6, 2)] (fsA' false false) (bsA 1 false 20011 20012 20013 20186 20227) = true := fun p h b g hk q hf hn hd => by as_aux_lemma => kernel_rfl
noncomputable abbrev Rg0nf2 (p : Pm) (h : Ar p) (b : Bt p) (g : Go p) (hk : p.ek = 2) (q : EkC p 2) (hf : p.t1 ≤ 2048) (hn : p.ld = 0) (hd : p.ld + (p.lb + 0) ≤ 4096) : Rw (ivP p 0) (vvP p 0) (vkP p 0) (fgP p) (txP p 0) where
  vvp := vvPp p 0
  ib := rowsH ++ (cu2 ++ (rowsG ++ (rowsV ++ [])))
  ibok := catR (rowsH_ok g) (catR (cu2_ok h q) (catR (rowsG_ok h hf) (catR (rowsV_ok h) (by
    have h2 := h.d2; have h3 := b.lb; have h4 := h.a60; have h5 := outL_len p.A p.la (p.la + 1) 0 [] (Nat.zero_le _) (Nat.zero_le _)
    have h5 : (fin p).length ≤ 4 * p.la := h5
    have q : p.la = 0 := q
    exact (ibNil)))))
  ic := [(.i64, .oi 4, .oi 4)]
  icok := by
    have h1 := h.t2
    exact rConv icNil
  vl := [⟨3, 1, 1, 0, [.int .u64 1]⟩, ⟨3, 25, 1, 0, [.int .u64 0]⟩]
  vlok := vlV_ok h
  fl := [⟨0, 16, 1, 0, [.nils]⟩]
  flok := flV_ok hk
  vc := [(0, 25)]
  vcok := vc0_ok
noncomputable abbrev cvg0nf2 : Cv := ⟨20000, 20010, ofPairs [(20001, 20011), (20002, 20012), (20003, 20013)], [(.fo 0 15 1, 0), (.oi 3, 1), (.oi 7, 2), (.oi 18, 14), (.oi 15, 15)]⟩
theorem kg0nf2 : ∀ p h b g hk q hf hn hd, runTo (Rg0nf2 p h b g hk q hf hn hd).T Tryz.prog (KZ 0 .nils false) 5000 Tryz.f5.ntmps aL (frOf (fsA' false true)) (hA 0 true) .normal cvg0nf2 [(20011, .vec 3, 0), (20012, .vec 4, 1)] (fsA' false true) (bsA 1 true 20011 20012 20013 20146 20147) = true := fun p h b g hk q hf hn hd => by as_aux_lemma => kernel_rfl
noncomputable abbrev Rg0nf3 (p : Pm) (h : Ar p) (b : Bt p) (g : Go p) (hk : p.ek = 3) (q : EkC p 3) (hf : p.t1 ≤ 2048) (hn : p.ld = 0) (hd : p.ld + (p.lb + 0) ≤ 4096) : Rw (ivP p 0) (vvP p 0) (vkP p 0) (fgP p) (txP p 0) where
  vvp := vvPp p 0
  ib := rowsH ++ (cu3 ++ (rowsG ++ (rowsV ++ [])))
  ibok := catR (rowsH_ok g) (catR (cu3_ok h q) (catR (rowsG_ok h hf) (catR (rowsV_ok h) (by
    have h2 := h.d2; have h3 := b.lb; have h4 := h.a60; have h5 := outL_len p.A p.la (p.la + 1) 0 [] (Nat.zero_le _) (Nat.zero_le _)
    have h5 : (fin p).length ≤ 4 * p.la := h5
    have q : p.la = 0 := q
    exact (ibNil)))))
  ic := [(.i64, .oi 4, .oi 4)]
  icok := by
    have h1 := h.t2
    exact rConv icNil
  vl := [⟨3, 1, 1, 0, [.int .u64 1]⟩, ⟨3, 25, 1, 0, [.int .u64 0]⟩]
  vlok := vlV_ok h
  fl := [⟨0, 16, 1, 0, [.es]⟩]
  flok := flV_ok hk
  vc := [(0, 25)]
  vcok := vc0_ok
noncomputable abbrev cvg0nf3 : Cv := ⟨20000, 20010, ofPairs [(20001, 20011), (20002, 20012), (20003, 20013)], [(.fo 0 15 1, 0), (.oi 3, 1), (.oi 7, 2), (.oi 18, 14), (.oi 15, 15)]⟩
theorem kg0nf3 : ∀ p h b g hk q hf hn hd, runTo (Rg0nf3 p h b g hk q hf hn hd).T Tryz.prog (KZ 0 .es false) 5000 Tryz.f5.ntmps aL (frOf (fsA' false true)) (hA 0 true) .normal cvg0nf3 [(20011, .vec 3, 0), (20012, .vec 4, 1)] (fsA' false true) (bsA 1 true 20011 20012 20013 20146 20147) = true := fun p h b g hk q hf hn hd => by as_aux_lemma => kernel_rfl
noncomputable abbrev Rg0nt0 (p : Pm) (h : Ar p) (b : Bt p) (g : Go p) (hk : p.ek = 0) (q : EkC p 0) (hf : p.t1 ≤ 2048) (hn : p.ld = 0) (hd : p.ld + (p.lb + 1) ≤ 4096) : Rw (ivP p 0) (vvP p 0) (vkP p 0) (fgP p) (txP p 0) where
  vvp := vvPp p 0
  ib := rowsH ++ (cu0 ++ (rowsG ++ (rowsV ++ [(0, .int .i64 0, .oi 23, .oi 23), (13, .oi 23, .int .i64 4096, .bool false)])))
  ibok := catR (rowsH_ok g) (catR (cu0_ok h q) (catR (rowsG_ok h hf) (catR (rowsV_ok h) (by
    have h2 := h.d2; have h3 := b.lb; have h4 := h.a60; have h5 := outL_len p.A p.la (p.la + 1) 0 [] (Nat.zero_le _) (Nat.zero_le _)
    have h5 : (fin p).length ≤ 4 * p.la := h5
    exact (rAdd (rGt (ibNil)))))))
  ic := [(.i64, .oi 4, .oi 4)]
  icok := by
    have h1 := h.t2
    exact rConv icNil
  vl := [⟨3, 1, 1, 0, [.int .u64 1]⟩, ⟨3, 25, 1, 0, [.int .u64 0]⟩]
  vlok := vlV_ok h
  fl := [⟨0, 16, 1, 0, [.fo 1 0 1]⟩]
  flok := flV_ok hk
  vc := [(0, 25)]
  vcok := vc0_ok
  va := [⟨6, 21, 1, [.int .u8 10], 7, 23⟩]
  vaok := by
    have h2 := h.d2; have h3 := b.lb; have h4 := h.a60; have h5 := outL_len p.A p.la (p.la + 1) 0 [] (Nat.zero_le _) (Nat.zero_le _)
    have h5 : (fin p).length ≤ 4 * p.la := h5
    exact aN (n := p.lb) (e := p.E) (e' := p.E1) allNil (hy := by show some ((IntKind.u8, (10 : Int)) : IntKind × Int) = some (.u8, p.E1 p.lb); rw [show p.E1 p.lb = 10 from if_neg (Nat.lt_irrefl _)]) (h1 := fun m hm => if_pos hm)
  vb := [⟨true, 0, 0, 1, true, 7, 23, 7, 23⟩]
  vbok := by
    have h2 := h.d2; have h3 := b.lb; have h4 := h.a60; have h5 := outL_len p.A p.la (p.la + 1) 0 [] (Nat.zero_le _) (Nat.zero_le _)
    have h5 : (fin p).length ≤ 4 * p.la := h5
    have h6 := lbpos h b q
    exact Go.X.b0 allNil
noncomputable abbrev cvg0nt0 : Cv := ⟨20000, 20010, ofPairs [(20001, 20011), (20002, 20012), (20003, 20013), (20004, 20188), (20005, 20231)], [(.fo 0 15 1, 0), (.oi 3, 1), (.oi 7, 2), (.oi 18, 14), (.oi 15, 15), (.oi 23, 20)]⟩
theorem kg0nt0 : ∀ p h b g hk q hf hn hd, runTo (Rg0nt0 p h b g hk q hf hn hd).T Tryz.prog (KG 0 true) 5000 Tryz.f5.ntmps aL (frOf (fsA' true true)) (hA 0 true) .normal cvg0nt0 [(20011, .vec 3, 0), (20012, .vec 4, 1), (20188, .vec 7, 2), (20231, .vec 7, 2)] (fsA' true false) (bsA 1 false 20011 20012 20013 20188 20231) = true := fun p h b g hk q hf hn hd => by as_aux_lemma => kernel_rfl
noncomputable abbrev Rg0nt1 (p : Pm) (h : Ar p) (b : Bt p) (g : Go p) (hk : p.ek = 1) (q : EkC p 1) (hf : p.t1 ≤ 2048) (hn : p.ld = 0) (hd : p.ld + (p.lb + 1) ≤ 4096) : Rw (ivP p 0) (vvP p 0) (vkP p 0) (fgP p) (txP p 0) where
  vvp := vvPp p 0
  ib := rowsH ++ (cu1 ++ (rowsG ++ (rowsV ++ [(0, .int .i64 0, .oi 23, .oi 23), (13, .oi 23, .int .i64 4096, .bool false)])))
  ibok := catR (rowsH_ok g) (catR (cu1_ok h q) (catR (rowsG_ok h hf) (catR (rowsV_ok h) (by
    have h2 := h.d2; have h3 := b.lb; have h4 := h.a60; have h5 := outL_len p.A p.la (p.la + 1) 0 [] (Nat.zero_le _) (Nat.zero_le _)
    have h5 : (fin p).length ≤ 4 * p.la := h5
    exact (rAdd (rGt (ibNil)))))))
  ic := [(.i64, .oi 4, .oi 4)]
  icok := by
    have h1 := h.t2
    exact rConv icNil
  vl := [⟨3, 1, 1, 0, [.int .u64 1]⟩, ⟨3, 25, 1, 0, [.int .u64 0]⟩]
  vlok := vlV_ok h
  fl := [⟨0, 16, 1, 0, [.fo 1 19 1]⟩]
  flok := flV_ok hk
  vc := [(0, 25), (60, 0)]
  vcok := vc1_ok q
  va := [⟨6, 21, 1, [.int .u8 10], 7, 23⟩]
  vaok := by
    have h2 := h.d2; have h3 := b.lb; have h4 := h.a60; have h5 := outL_len p.A p.la (p.la + 1) 0 [] (Nat.zero_le _) (Nat.zero_le _)
    have h5 : (fin p).length ≤ 4 * p.la := h5
    exact aN (n := p.lb) (e := p.E) (e' := p.E1) allNil (hy := by show some ((IntKind.u8, (10 : Int)) : IntKind × Int) = some (.u8, p.E1 p.lb); rw [show p.E1 p.lb = 10 from if_neg (Nat.lt_irrefl _)]) (h1 := fun m hm => if_pos hm)
  vb := [⟨true, 0, 0, 1, true, 7, 23, 7, 23⟩]
  vbok := by
    have h2 := h.d2; have h3 := b.lb; have h4 := h.a60; have h5 := outL_len p.A p.la (p.la + 1) 0 [] (Nat.zero_le _) (Nat.zero_le _)
    have h5 : (fin p).length ≤ 4 * p.la := h5
    have h6 := lbpos h b q
    exact Go.X.b0 allNil
noncomputable abbrev cvg0nt1 : Cv := ⟨20000, 20010, ofPairs [(20001, 20011), (20002, 20012), (20003, 20013), (20004, 20188), (20005, 20231)], [(.fo 0 15 1, 0), (.oi 3, 1), (.oi 7, 2), (.oi 18, 14), (.oi 15, 15), (.oi 23, 20)]⟩
theorem kg0nt1 : ∀ p h b g hk q hf hn hd, runTo (Rg0nt1 p h b g hk q hf hn hd).T Tryz.prog (KG 0 true) 5000 Tryz.f5.ntmps aL (frOf (fsA' true true)) (hA 0 true) .normal cvg0nt1 [(20011, .vec 3, 0), (20012, .vec 4, 1), (20188, .vec 7, 2), (20231, .vec 7, 2)] (fsA' true false) (bsA 1 false 20011 20012 20013 20188 20231) = true := fun p h b g hk q hf hn hd => by as_aux_lemma => kernel_rfl
noncomputable abbrev Rg0nt2 (p : Pm) (h : Ar p) (b : Bt p) (g : Go p) (hk : p.ek = 2) (q : EkC p 2) (hf : p.t1 ≤ 2048) (hn : p.ld = 0) (hd : p.ld + (p.lb + 1) ≤ 4096) : Rw (ivP p 0) (vvP p 0) (vkP p 0) (fgP p) (txP p 0) where
  vvp := vvPp p 0
  ib := rowsH ++ (cu2 ++ (rowsG ++ (rowsV ++ [])))
  ibok := catR (rowsH_ok g) (catR (cu2_ok h q) (catR (rowsG_ok h hf) (catR (rowsV_ok h) (by
    have h2 := h.d2; have h3 := b.lb; have h4 := h.a60; have h5 := outL_len p.A p.la (p.la + 1) 0 [] (Nat.zero_le _) (Nat.zero_le _)
    have h5 : (fin p).length ≤ 4 * p.la := h5
    have q : p.la = 0 := q
    exact (ibNil)))))
  ic := [(.i64, .oi 4, .oi 4)]
  icok := by
    have h1 := h.t2
    exact rConv icNil
  vl := [⟨3, 1, 1, 0, [.int .u64 1]⟩, ⟨3, 25, 1, 0, [.int .u64 0]⟩]
  vlok := vlV_ok h
  fl := [⟨0, 16, 1, 0, [.nils]⟩]
  flok := flV_ok hk
  vc := [(0, 25)]
  vcok := vc0_ok
noncomputable abbrev cvg0nt2 : Cv := ⟨20000, 20010, ofPairs [(20001, 20011), (20002, 20012), (20003, 20013), (20004, 20148), (20005, 20151)], [(.fo 0 15 1, 0), (.oi 3, 1), (.oi 7, 2), (.oi 18, 14), (.oi 15, 15), (.int .i64 1, 20)]⟩
theorem kg0nt2 : ∀ p h b g hk q hf hn hd, runTo (Rg0nt2 p h b g hk q hf hn hd).T Tryz.prog (KZ 0 .nils true) 5000 Tryz.f5.ntmps aL (frOf (fsA' true true)) (hA 0 true) .normal cvg0nt2 [(20011, .vec 3, 0), (20012, .vec 4, 1), (20148, rowOf [.int .u8 10] true, 2), (20151, rowOf [.int .u8 10] true, 2)] (fsA' true false) (bsA 1 false 20011 20012 20013 20148 20151) = true := fun p h b g hk q hf hn hd => by as_aux_lemma => kernel_rfl
noncomputable abbrev Rg0nt3 (p : Pm) (h : Ar p) (b : Bt p) (g : Go p) (hk : p.ek = 3) (q : EkC p 3) (hf : p.t1 ≤ 2048) (hn : p.ld = 0) (hd : p.ld + (p.lb + 1) ≤ 4096) : Rw (ivP p 0) (vvP p 0) (vkP p 0) (fgP p) (txP p 0) where
  vvp := vvPp p 0
  ib := rowsH ++ (cu3 ++ (rowsG ++ (rowsV ++ [])))
  ibok := catR (rowsH_ok g) (catR (cu3_ok h q) (catR (rowsG_ok h hf) (catR (rowsV_ok h) (by
    have h2 := h.d2; have h3 := b.lb; have h4 := h.a60; have h5 := outL_len p.A p.la (p.la + 1) 0 [] (Nat.zero_le _) (Nat.zero_le _)
    have h5 : (fin p).length ≤ 4 * p.la := h5
    have q : p.la = 0 := q
    exact (ibNil)))))
  ic := [(.i64, .oi 4, .oi 4)]
  icok := by
    have h1 := h.t2
    exact rConv icNil
  vl := [⟨3, 1, 1, 0, [.int .u64 1]⟩, ⟨3, 25, 1, 0, [.int .u64 0]⟩]
  vlok := vlV_ok h
  fl := [⟨0, 16, 1, 0, [.es]⟩]
  flok := flV_ok hk
  vc := [(0, 25)]
  vcok := vc0_ok
noncomputable abbrev cvg0nt3 : Cv := ⟨20000, 20010, ofPairs [(20001, 20011), (20002, 20012), (20003, 20013), (20004, 20148), (20005, 20151)], [(.fo 0 15 1, 0), (.oi 3, 1), (.oi 7, 2), (.oi 18, 14), (.oi 15, 15), (.int .i64 1, 20)]⟩
theorem kg0nt3 : ∀ p h b g hk q hf hn hd, runTo (Rg0nt3 p h b g hk q hf hn hd).T Tryz.prog (KZ 0 .es true) 5000 Tryz.f5.ntmps aL (frOf (fsA' true true)) (hA 0 true) .normal cvg0nt3 [(20011, .vec 3, 0), (20012, .vec 4, 1), (20148, rowOf [.int .u8 10] true, 2), (20151, rowOf [.int .u8 10] true, 2)] (fsA' true false) (bsA 1 false 20011 20012 20013 20148 20151) = true := fun p h b g hk q hf hn hd => by as_aux_lemma => kernel_rfl
end Go.Proofs.YtkkaifeiopjjdaaGreatDoor.np
