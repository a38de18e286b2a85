/-
  The law NativeCopy: the copy.
-/
import Derived.Test.YtbjgdfijonkomaaGreatDoorNCF
set_option linter.unusedVariables false
set_option linter.unusedSimpArgs false
set_option linter.unusedSectionVars false
set_option maxRecDepth 1000000
set_option maxHeartbeats 0
namespace Go.Proofs.YtbjgdfijonkomaaGreatDoor.nc
open Go.X Go.RowKit Go.Proofs
theorem gc_0_0000 : GC 0 ⟨false, false, false, false⟩ := fun p la20 lb20 tx ty tt s8 w0 w2 w3 w4 sY1 sY2 sY3 sY4 hf ht hn hfn htn ha hb => (by as_aux_lemma => kernel_rfl)
theorem gc_0_0100 : GC 0 ⟨false, true, false, false⟩ := fun p la20 lb20 tx ty tt s8 w0 w2 w3 w4 sY1 sY2 sY3 sY4 hf ht hn hfn htn ha hb => (by as_aux_lemma => kernel_rfl)
theorem gc_0_1000 : GC 0 ⟨true, false, false, false⟩ := fun p la20 lb20 tx ty tt s8 w0 w2 w3 w4 sY1 sY2 sY3 sY4 hf ht hn hfn htn ha hb => (by as_aux_lemma => kernel_rfl)
theorem gc_0_1100 : GC 0 ⟨true, true, false, false⟩ := fun p la20 lb20 tx ty tt s8 w0 w2 w3 w4 sY1 sY2 sY3 sY4 hf ht hn hfn htn ha hb => (by as_aux_lemma => kernel_rfl)
theorem gc_0_0010 : GC 0 ⟨false, false, true, false⟩ := fun p la20 lb20 tx ty tt s8 w0 w2 w3 w4 sY1 sY2 sY3 sY4 hf ht hn hfn htn ha hb => (by as_aux_lemma => kernel_rfl)
theorem gc_0_1110 : GC 0 ⟨true, true, true, false⟩ := fun p la20 lb20 tx ty tt s8 w0 w2 w3 w4 sY1 sY2 sY3 sY4 hf ht hn hfn htn ha hb => (by as_aux_lemma => kernel_rfl)
theorem gc_0_0011 : GC 0 ⟨false, false, true, true⟩ := fun p la20 lb20 tx ty tt s8 w0 w2 w3 w4 sY1 sY2 sY3 sY4 hf ht hn hfn htn ha hb => (by as_aux_lemma => kernel_rfl)
theorem gc_0_1111 : GC 0 ⟨true, true, true, true⟩ := fun p la20 lb20 tx ty tt s8 w0 w2 w3 w4 sY1 sY2 sY3 sY4 hf ht hn hfn htn ha hb => (by as_aux_lemma => kernel_rfl)
theorem gc_3_1100 : GC 3 ⟨true, true, false, false⟩ := fun p la20 lb20 tx ty tt s8 w0 w2 w3 w4 sY1 sY2 sY3 sY4 hf ht hn hfn htn ha hb => (by as_aux_lemma => kernel_rfl)
theorem gc_3_1110 : GC 3 ⟨true, true, true, false⟩ := fun p la20 lb20 tx ty tt s8 w0 w2 w3 w4 sY1 sY2 sY3 sY4 hf ht hn hfn htn ha hb => (by as_aux_lemma => kernel_rfl)
theorem gc_3_1111 : GC 3 ⟨true, true, true, true⟩ := fun p la20 lb20 tx ty tt s8 w0 w2 w3 w4 sY1 sY2 sY3 sY4 hf ht hn hfn htn ha hb => (by as_aux_lemma => kernel_rfl)
theorem gc_6_1100 : GC 6 ⟨true, true, false, false⟩ := fun p la20 lb20 tx ty tt s8 w0 w2 w3 w4 sY1 sY2 sY3 sY4 hf ht hn hfn htn ha hb => (by as_aux_lemma => kernel_rfl)
theorem gc_6_1110 : GC 6 ⟨true, true, true, false⟩ := fun p la20 lb20 tx ty tt s8 w0 w2 w3 w4 sY1 sY2 sY3 sY4 hf ht hn hfn htn ha hb => (by as_aux_lemma => kernel_rfl)
theorem gc_6_1111 : GC 6 ⟨true, true, true, true⟩ := fun p la20 lb20 tx ty tt s8 w0 w2 w3 w4 sY1 sY2 sY3 sY4 hf ht hn hfn htn ha hb => (by as_aux_lemma => kernel_rfl)
theorem gc_9_1100 : GC 9 ⟨true, true, false, false⟩ := fun p la20 lb20 tx ty tt s8 w0 w2 w3 w4 sY1 sY2 sY3 sY4 hf ht hn hfn htn ha hb => (by as_aux_lemma => kernel_rfl)
theorem gc_9_1110 : GC 9 ⟨true, true, true, false⟩ := fun p la20 lb20 tx ty tt s8 w0 w2 w3 w4 sY1 sY2 sY3 sY4 hf ht hn hfn htn ha hb => (by as_aux_lemma => kernel_rfl)
theorem gc_9_1111 : GC 9 ⟨true, true, true, true⟩ := fun p la20 lb20 tx ty tt s8 w0 w2 w3 w4 sY1 sY2 sY3 sY4 hf ht hn hfn htn ha hb => (by as_aux_lemma => kernel_rfl)
theorem gc_12_1100 : GC 12 ⟨true, true, false, false⟩ := fun p la20 lb20 tx ty tt s8 w0 w2 w3 w4 sY1 sY2 sY3 sY4 hf ht hn hfn htn ha hb => (by as_aux_lemma => kernel_rfl)
theorem gc_12_1110 : GC 12 ⟨true, true, true, false⟩ := fun p la20 lb20 tx ty tt s8 w0 w2 w3 w4 sY1 sY2 sY3 sY4 hf ht hn hfn htn ha hb => (by as_aux_lemma => kernel_rfl)
theorem gc_12_1111 : GC 12 ⟨true, true, true, true⟩ := fun p la20 lb20 tx ty tt s8 w0 w2 w3 w4 sY1 sY2 sY3 sY4 hf ht hn hfn htn ha hb => (by as_aux_lemma => kernel_rfl)
theorem gc_15_1100 : GC 15 ⟨true, true, false, false⟩ := fun p la20 lb20 tx ty tt s8 w0 w2 w3 w4 sY1 sY2 sY3 sY4 hf ht hn hfn htn ha hb => (by as_aux_lemma => kernel_rfl)
theorem gc_15_1110 : GC 15 ⟨true, true, true, false⟩ := fun p la20 lb20 tx ty tt s8 w0 w2 w3 w4 sY1 sY2 sY3 sY4 hf ht hn hfn htn ha hb => (by as_aux_lemma => kernel_rfl)
theorem gc_15_1111 : GC 15 ⟨true, true, true, true⟩ := fun p la20 lb20 tx ty tt s8 w0 w2 w3 w4 sY1 sY2 sY3 sY4 hf ht hn hfn htn ha hb => (by as_aux_lemma => kernel_rfl)
theorem gc_18_1100 : GC 18 ⟨true, true, false, false⟩ := fun p la20 lb20 tx ty tt s8 w0 w2 w3 w4 sY1 sY2 sY3 sY4 hf ht hn hfn htn ha hb => (by as_aux_lemma => kernel_rfl)
theorem gc_18_1110 : GC 18 ⟨true, true, true, false⟩ := fun p la20 lb20 tx ty tt s8 w0 w2 w3 w4 sY1 sY2 sY3 sY4 hf ht hn hfn htn ha hb => (by as_aux_lemma => kernel_rfl)
theorem gc_18_1111 : GC 18 ⟨true, true, true, true⟩ := fun p la20 lb20 tx ty tt s8 w0 w2 w3 w4 sY1 sY2 sY3 sY4 hf ht hn hfn htn ha hb => (by as_aux_lemma => kernel_rfl)
end Go.Proofs.YtbjgdfijonkomaaGreatDoor.nc
