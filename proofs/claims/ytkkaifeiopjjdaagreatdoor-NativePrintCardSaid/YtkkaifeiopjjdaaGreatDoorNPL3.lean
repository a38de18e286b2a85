/-
  The law NativePrint: rounds of its loop.
-/
import Derived.Test.YtkkaifeiopjjdaaGreatDoorNPL
set_option linter.unusedVariables false
set_option linter.unusedSimpArgs false
set_option linter.unusedSectionVars false
set_option maxRecDepth 1000000
set_option maxHeartbeats 0
namespace Go.Proofs.YtkkaifeiopjjdaaGreatDoor.np
open Go.X Go.RowKit Go.Proofs
noncomputable abbrev Rx1nf0 (p : Pm) (h : Ar p) (b : Bt p) (g : Go p) (hk : p.ek = 0) (q : EkC p 0) (hf : 2048 < p.t1) : Rw (ivP p 0) (vvP p 0) (vkP p 0) (fgP p) (txP p 0) where
  vvp := vvPp p 0
  ib := rowsH ++ cu0
  ibok := catR (rowsH_ok g) (cu0_ok h q)
  fl := [⟨0, 16, 1, 0, [.fo 1 0 1]⟩]
  flok := flV_ok hk
  vc := [(0, 25)]
  vcok := vc0_ok
theorem kx1nf0 : ∀ p h b g hk q hf, runTo (Rx1nf0 p h b g hk q hf).T Tryz.prog (inHand (upIn (tnI src) 20050)) 5000 Tryz.f5.ntmps aL (frOf (fsA' false true)) (hA 1 true) .ret cvY [] [(4, .bool true)] [] = true := fun p h b g hk q hf => by as_aux_lemma => kernel_rfl
noncomputable abbrev Rx1nf1 (p : Pm) (h : Ar p) (b : Bt p) (g : Go p) (hk : p.ek = 1) (q : EkC p 1) (hf : 2048 < p.t1) : Rw (ivP p 0) (vvP p 0) (vkP p 0) (fgP p) (txP p 0) where
  vvp := vvPp p 0
  ib := rowsH ++ cu1
  ibok := catR (rowsH_ok g) (cu1_ok h q)
  fl := [⟨0, 16, 1, 0, [.fo 1 19 1]⟩]
  flok := flV_ok hk
  vc := [(0, 25), (60, 0)]
  vcok := vc1_ok q
theorem kx1nf1 : ∀ p h b g hk q hf, runTo (Rx1nf1 p h b g hk q hf).T Tryz.prog (inHand (upIn (tnI src) 20050)) 5000 Tryz.f5.ntmps aL (frOf (fsA' false true)) (hA 1 true) .ret cvY [] [(4, .bool true)] [] = true := fun p h b g hk q hf => by as_aux_lemma => kernel_rfl
noncomputable abbrev Rx1nf2 (p : Pm) (h : Ar p) (b : Bt p) (g : Go p) (hk : p.ek = 2) (q : EkC p 2) (hf : 2048 < p.t1) : Rw (ivP p 0) (vvP p 0) (vkP p 0) (fgP p) (txP p 0) where
  vvp := vvPp p 0
  ib := rowsH ++ cu2
  ibok := catR (rowsH_ok g) (cu2_ok h q)
  fl := [⟨0, 16, 1, 0, [.nils]⟩]
  flok := flV_ok hk
  vc := [(0, 25)]
  vcok := vc0_ok
theorem kx1nf2 : ∀ p h b g hk q hf, runTo (Rx1nf2 p h b g hk q hf).T Tryz.prog (inHand (upIn (tnI .nils) 20050)) 5000 Tryz.f5.ntmps aL (frOf (fsA' false true)) (hA 1 true) .ret cvY [] [(4, .bool true)] [] = true := fun p h b g hk q hf => by as_aux_lemma => kernel_rfl
noncomputable abbrev Rx1nf3 (p : Pm) (h : Ar p) (b : Bt p) (g : Go p) (hk : p.ek = 3) (q : EkC p 3) (hf : 2048 < p.t1) : Rw (ivP p 0) (vvP p 0) (vkP p 0) (fgP p) (txP p 0) where
  vvp := vvPp p 0
  ib := rowsH ++ cu3
  ibok := catR (rowsH_ok g) (cu3_ok h q)
  fl := [⟨0, 16, 1, 0, [.es]⟩]
  flok := flV_ok hk
  vc := [(0, 25)]
  vcok := vc0_ok
theorem kx1nf3 : ∀ p h b g hk q hf, runTo (Rx1nf3 p h b g hk q hf).T Tryz.prog (inHand (upIn (tnI .es) 20050)) 5000 Tryz.f5.ntmps aL (frOf (fsA' false true)) (hA 1 true) .ret cvY [] [(4, .bool true)] [] = true := fun p h b g hk q hf => by as_aux_lemma => kernel_rfl
noncomputable abbrev Rx1vf0 (p : Pm) (h : Ar p) (b : Bt p) (g : Go p) (hk : p.ek = 0) (q : EkC p 0) (hf : 2048 < p.t1) : Rw (ivP p 0) (vvP p 0) (vkP p 0) (fgP p) (txP p 0) where
  vvp := vvPp p 0
  ib := rowsH ++ cu0
  ibok := catR (rowsH_ok g) (cu0_ok h q)
  fl := [⟨0, 16, 1, 0, [.fo 1 0 1]⟩]
  flok := flV_ok hk
  vc := [(0, 25)]
  vcok := vc0_ok
theorem kx1vf0 : ∀ p h b g hk q hf, runTo (Rx1vf0 p h b g hk q hf).T Tryz.prog (inHand (upIn (tnI src) 20050)) 5000 Tryz.f5.ntmps aL (frOf (fsA' false false)) (hA 1 false) .ret cvY [] [(4, .bool true)] [] = true := fun p h b g hk q hf => by as_aux_lemma => kernel_rfl
noncomputable abbrev Rx1vf1 (p : Pm) (h : Ar p) (b : Bt p) (g : Go p) (hk : p.ek = 1) (q : EkC p 1) (hf : 2048 < p.t1) : Rw (ivP p 0) (vvP p 0) (vkP p 0) (fgP p) (txP p 0) where
  vvp := vvPp p 0
  ib := rowsH ++ cu1
  ibok := catR (rowsH_ok g) (cu1_ok h q)
  fl := [⟨0, 16, 1, 0, [.fo 1 19 1]⟩]
  flok := flV_ok hk
  vc := [(0, 25), (60, 0)]
  vcok := vc1_ok q
theorem kx1vf1 : ∀ p h b g hk q hf, runTo (Rx1vf1 p h b g hk q hf).T Tryz.prog (inHand (upIn (tnI src) 20050)) 5000 Tryz.f5.ntmps aL (frOf (fsA' false false)) (hA 1 false) .ret cvY [] [(4, .bool true)] [] = true := fun p h b g hk q hf => by as_aux_lemma => kernel_rfl
noncomputable abbrev Rx1vf2 (p : Pm) (h : Ar p) (b : Bt p) (g : Go p) (hk : p.ek = 2) (q : EkC p 2) (hf : 2048 < p.t1) : Rw (ivP p 0) (vvP p 0) (vkP p 0) (fgP p) (txP p 0) where
  vvp := vvPp p 0
  ib := rowsH ++ cu2
  ibok := catR (rowsH_ok g) (cu2_ok h q)
  fl := [⟨0, 16, 1, 0, [.nils]⟩]
  flok := flV_ok hk
  vc := [(0, 25)]
  vcok := vc0_ok
theorem kx1vf2 : ∀ p h b g hk q hf, runTo (Rx1vf2 p h b g hk q hf).T Tryz.prog (inHand (upIn (tnI .nils) 20050)) 5000 Tryz.f5.ntmps aL (frOf (fsA' false false)) (hA 1 false) .ret cvY [] [(4, .bool true)] [] = true := fun p h b g hk q hf => by as_aux_lemma => kernel_rfl
noncomputable abbrev Rx1vf3 (p : Pm) (h : Ar p) (b : Bt p) (g : Go p) (hk : p.ek = 3) (q : EkC p 3) (hf : 2048 < p.t1) : Rw (ivP p 0) (vvP p 0) (vkP p 0) (fgP p) (txP p 0) where
  vvp := vvPp p 0
  ib := rowsH ++ cu3
  ibok := catR (rowsH_ok g) (cu3_ok h q)
  fl := [⟨0, 16, 1, 0, [.es]⟩]
  flok := flV_ok hk
  vc := [(0, 25)]
  vcok := vc0_ok
theorem kx1vf3 : ∀ p h b g hk q hf, runTo (Rx1vf3 p h b g hk q hf).T Tryz.prog (inHand (upIn (tnI .es) 20050)) 5000 Tryz.f5.ntmps aL (frOf (fsA' false false)) (hA 1 false) .ret cvY [] [(4, .bool true)] [] = true := fun p h b g hk q hf => by as_aux_lemma => kernel_rfl
noncomputable abbrev Rx1vt0 (p : Pm) (h : Ar p) (b : Bt p) (g : Go p) (hk : p.ek = 0) (q : EkC p 0) (hf : 2048 < p.t1) : Rw (ivP p 0) (vvP p 0) (vkP p 0) (fgP p) (txP p 0) where
  vvp := vvPp p 0
  ib := rowsH ++ cu0
  ibok := catR (rowsH_ok g) (cu0_ok h q)
  fl := [⟨0, 16, 1, 0, [.fo 1 0 1]⟩]
  flok := flV_ok hk
  vc := [(0, 25)]
  vcok := vc0_ok
theorem kx1vt0 : ∀ p h b g hk q hf, runTo (Rx1vt0 p h b g hk q hf).T Tryz.prog (inHand (upIn (tnI src) 20050)) 5000 Tryz.f5.ntmps aL (frOf (fsA' true false)) (hA 1 false) .ret cvY [] [(4, .bool true)] [] = true := fun p h b g hk q hf => by as_aux_lemma => kernel_rfl
noncomputable abbrev Rx1vt1 (p : Pm) (h : Ar p) (b : Bt p) (g : Go p) (hk : p.ek = 1) (q : EkC p 1) (hf : 2048 < p.t1) : Rw (ivP p 0) (vvP p 0) (vkP p 0) (fgP p) (txP p 0) where
  vvp := vvPp p 0
  ib := rowsH ++ cu1
  ibok := catR (rowsH_ok g) (cu1_ok h q)
  fl := [⟨0, 16, 1, 0, [.fo 1 19 1]⟩]
  flok := flV_ok hk
  vc := [(0, 25), (60, 0)]
  vcok := vc1_ok q
theorem kx1vt1 : ∀ p h b g hk q hf, runTo (Rx1vt1 p h b g hk q hf).T Tryz.prog (inHand (upIn (tnI src) 20050)) 5000 Tryz.f5.ntmps aL (frOf (fsA' true false)) (hA 1 false) .ret cvY [] [(4, .bool true)] [] = true := fun p h b g hk q hf => by as_aux_lemma => kernel_rfl
noncomputable abbrev Rx1vt2 (p : Pm) (h : Ar p) (b : Bt p) (g : Go p) (hk : p.ek = 2) (q : EkC p 2) (hf : 2048 < p.t1) : Rw (ivP p 0) (vvP p 0) (vkP p 0) (fgP p) (txP p 0) where
  vvp := vvPp p 0
  ib := rowsH ++ cu2
  ibok := catR (rowsH_ok g) (cu2_ok h q)
  fl := [⟨0, 16, 1, 0, [.nils]⟩]
  flok := flV_ok hk
  vc := [(0, 25)]
  vcok := vc0_ok
theorem kx1vt2 : ∀ p h b g hk q hf, runTo (Rx1vt2 p h b g hk q hf).T Tryz.prog (inHand (upIn (tnI .nils) 20050)) 5000 Tryz.f5.ntmps aL (frOf (fsA' true false)) (hA 1 false) .ret cvY [] [(4, .bool true)] [] = true := fun p h b g hk q hf => by as_aux_lemma => kernel_rfl
noncomputable abbrev Rx1vt3 (p : Pm) (h : Ar p) (b : Bt p) (g : Go p) (hk : p.ek = 3) (q : EkC p 3) (hf : 2048 < p.t1) : Rw (ivP p 0) (vvP p 0) (vkP p 0) (fgP p) (txP p 0) where
  vvp := vvPp p 0
  ib := rowsH ++ cu3
  ibok := catR (rowsH_ok g) (cu3_ok h q)
  fl := [⟨0, 16, 1, 0, [.es]⟩]
  flok := flV_ok hk
  vc := [(0, 25)]
  vcok := vc0_ok
theorem kx1vt3 : ∀ p h b g hk q hf, runTo (Rx1vt3 p h b g hk q hf).T Tryz.prog (inHand (upIn (tnI .es) 20050)) 5000 Tryz.f5.ntmps aL (frOf (fsA' true false)) (hA 1 false) .ret cvY [] [(4, .bool true)] [] = true := fun p h b g hk q hf => by as_aux_lemma => kernel_rfl
end Go.Proofs.YtkkaifeiopjjdaaGreatDoor.np
