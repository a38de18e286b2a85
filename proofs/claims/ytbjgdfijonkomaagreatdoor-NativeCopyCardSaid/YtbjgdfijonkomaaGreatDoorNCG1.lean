/-
  The law NativeCopy: the copy.
-/
import Derived.Test.YtbjgdfijonkomaaGreatDoorNCF
set_option linter.unusedVariables false
set_option linter.unusedSimpArgs false
set_option linter.unusedSectionVars false
set_option maxRecDepth 1000000
set_option maxHeartbeats 0
namespace Go.Proofs.YtbjgdfijonkomaaGreatDoor.nc
open Go.X Go.RowKit Go.Proofs
theorem gc_1_1100 : GC 1 ⟨true, true, false, false⟩ := fun p la20 lb20 tx ty tt s8 w0 w2 w3 w4 sY1 sY2 sY3 sY4 hf ht hn hfn htn ha hb => (by as_aux_lemma => kernel_rfl)
theorem gc_1_1110 : GC 1 ⟨true, true, true, false⟩ := fun p la20 lb20 tx ty tt s8 w0 w2 w3 w4 sY1 sY2 sY3 sY4 hf ht hn hfn htn ha hb => (by as_aux_lemma => kernel_rfl)
theorem gc_1_1111 : GC 1 ⟨true, true, true, true⟩ := fun p la20 lb20 tx ty tt s8 w0 w2 w3 w4 sY1 sY2 sY3 sY4 hf ht hn hfn htn ha hb => (by as_aux_lemma => kernel_rfl)
theorem gc_4_1100 : GC 4 ⟨true, true, false, false⟩ := fun p la20 lb20 tx ty tt s8 w0 w2 w3 w4 sY1 sY2 sY3 sY4 hf ht hn hfn htn ha hb => (by as_aux_lemma => kernel_rfl)
theorem gc_4_1110 : GC 4 ⟨true, true, true, false⟩ := fun p la20 lb20 tx ty tt s8 w0 w2 w3 w4 sY1 sY2 sY3 sY4 hf ht hn hfn htn ha hb => (by as_aux_lemma => kernel_rfl)
theorem gc_4_1111 : GC 4 ⟨true, true, true, true⟩ := fun p la20 lb20 tx ty tt s8 w0 w2 w3 w4 sY1 sY2 sY3 sY4 hf ht hn hfn htn ha hb => (by as_aux_lemma => kernel_rfl)
theorem gc_7_1100 : GC 7 ⟨true, true, false, false⟩ := fun p la20 lb20 tx ty tt s8 w0 w2 w3 w4 sY1 sY2 sY3 sY4 hf ht hn hfn htn ha hb => (by as_aux_lemma => kernel_rfl)
theorem gc_7_1110 : GC 7 ⟨true, true, true, false⟩ := fun p la20 lb20 tx ty tt s8 w0 w2 w3 w4 sY1 sY2 sY3 sY4 hf ht hn hfn htn ha hb => (by as_aux_lemma => kernel_rfl)
theorem gc_7_1111 : GC 7 ⟨true, true, true, true⟩ := fun p la20 lb20 tx ty tt s8 w0 w2 w3 w4 sY1 sY2 sY3 sY4 hf ht hn hfn htn ha hb => (by as_aux_lemma => kernel_rfl)
theorem gc_10_1100 : GC 10 ⟨true, true, false, false⟩ := fun p la20 lb20 tx ty tt s8 w0 w2 w3 w4 sY1 sY2 sY3 sY4 hf ht hn hfn htn ha hb => (by as_aux_lemma => kernel_rfl)
theorem gc_10_1110 : GC 10 ⟨true, true, true, false⟩ := fun p la20 lb20 tx ty tt s8 w0 w2 w3 w4 sY1 sY2 sY3 sY4 hf ht hn hfn htn ha hb => (by as_aux_lemma => kernel_rfl)
theorem gc_10_1111 : GC 10 ⟨true, true, true, true⟩ := fun p la20 lb20 tx ty tt s8 w0 w2 w3 w4 sY1 sY2 sY3 sY4 hf ht hn hfn htn ha hb => (by as_aux_lemma => kernel_rfl)
theorem gc_13_1100 : GC 13 ⟨true, true, false, false⟩ := fun p la20 lb20 tx ty tt s8 w0 w2 w3 w4 sY1 sY2 sY3 sY4 hf ht hn hfn htn ha hb => (by as_aux_lemma => kernel_rfl)
theorem gc_13_1110 : GC 13 ⟨true, true, true, false⟩ := fun p la20 lb20 tx ty tt s8 w0 w2 w3 w4 sY1 sY2 sY3 sY4 hf ht hn hfn htn ha hb => (by as_aux_lemma => kernel_rfl)
theorem gc_13_1111 : GC 13 ⟨true, true, true, true⟩ := fun p la20 lb20 tx ty tt s8 w0 w2 w3 w4 sY1 sY2 sY3 sY4 hf ht hn hfn htn ha hb => (by as_aux_lemma => kernel_rfl)
theorem gc_16_1100 : GC 16 ⟨true, true, false, false⟩ := fun p la20 lb20 tx ty tt s8 w0 w2 w3 w4 sY1 sY2 sY3 sY4 hf ht hn hfn htn ha hb => (by as_aux_lemma => kernel_rfl)
theorem gc_16_1110 : GC 16 ⟨true, true, true, false⟩ := fun p la20 lb20 tx ty tt s8 w0 w2 w3 w4 sY1 sY2 sY3 sY4 hf ht hn hfn htn ha hb => (by as_aux_lemma => kernel_rfl)
theorem gc_16_1111 : GC 16 ⟨true, true, true, true⟩ := fun p la20 lb20 tx ty tt s8 w0 w2 w3 w4 sY1 sY2 sY3 sY4 hf ht hn hfn htn ha hb => (by as_aux_lemma => kernel_rfl)
theorem gc_19_1100 : GC 19 ⟨true, true, false, false⟩ := fun p la20 lb20 tx ty tt s8 w0 w2 w3 w4 sY1 sY2 sY3 sY4 hf ht hn hfn htn ha hb => (by as_aux_lemma => kernel_rfl)
theorem gc_19_1110 : GC 19 ⟨true, true, true, false⟩ := fun p la20 lb20 tx ty tt s8 w0 w2 w3 w4 sY1 sY2 sY3 sY4 hf ht hn hfn htn ha hb => (by as_aux_lemma => kernel_rfl)
theorem gc_19_1111 : GC 19 ⟨true, true, true, true⟩ := fun p la20 lb20 tx ty tt s8 w0 w2 w3 w4 sY1 sY2 sY3 sY4 hf ht hn hfn htn ha hb => (by as_aux_lemma => kernel_rfl)
end Go.Proofs.YtbjgdfijonkomaaGreatDoor.nc
