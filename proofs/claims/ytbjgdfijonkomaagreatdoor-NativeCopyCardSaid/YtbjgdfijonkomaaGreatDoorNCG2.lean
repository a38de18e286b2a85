/-
  The law NativeCopy: the copy.
-/
import Derived.Test.YtbjgdfijonkomaaGreatDoorNCF
set_option linter.unusedVariables false
set_option linter.unusedSimpArgs false
set_option linter.unusedSectionVars false
set_option maxRecDepth 1000000
set_option maxHeartbeats 0
namespace Go.Proofs.YtbjgdfijonkomaaGreatDoor.nc
open Go.X Go.RowKit Go.Proofs
theorem gc_2_1100 : GC 2 ⟨true, true, false, false⟩ := fun p la20 lb20 tx ty tt s8 w0 w2 w3 w4 sY1 sY2 sY3 sY4 hf ht hn hfn htn ha hb => (by as_aux_lemma => kernel_rfl)
theorem gc_2_1110 : GC 2 ⟨true, true, true, false⟩ := fun p la20 lb20 tx ty tt s8 w0 w2 w3 w4 sY1 sY2 sY3 sY4 hf ht hn hfn htn ha hb => (by as_aux_lemma => kernel_rfl)
theorem gc_2_1111 : GC 2 ⟨true, true, true, true⟩ := fun p la20 lb20 tx ty tt s8 w0 w2 w3 w4 sY1 sY2 sY3 sY4 hf ht hn hfn htn ha hb => (by as_aux_lemma => kernel_rfl)
theorem gc_5_1100 : GC 5 ⟨true, true, false, false⟩ := fun p la20 lb20 tx ty tt s8 w0 w2 w3 w4 sY1 sY2 sY3 sY4 hf ht hn hfn htn ha hb => (by as_aux_lemma => kernel_rfl)
theorem gc_5_1110 : GC 5 ⟨true, true, true, false⟩ := fun p la20 lb20 tx ty tt s8 w0 w2 w3 w4 sY1 sY2 sY3 sY4 hf ht hn hfn htn ha hb => (by as_aux_lemma => kernel_rfl)
theorem gc_5_1111 : GC 5 ⟨true, true, true, true⟩ := fun p la20 lb20 tx ty tt s8 w0 w2 w3 w4 sY1 sY2 sY3 sY4 hf ht hn hfn htn ha hb => (by as_aux_lemma => kernel_rfl)
theorem gc_8_1100 : GC 8 ⟨true, true, false, false⟩ := fun p la20 lb20 tx ty tt s8 w0 w2 w3 w4 sY1 sY2 sY3 sY4 hf ht hn hfn htn ha hb => (by as_aux_lemma => kernel_rfl)
theorem gc_8_1110 : GC 8 ⟨true, true, true, false⟩ := fun p la20 lb20 tx ty tt s8 w0 w2 w3 w4 sY1 sY2 sY3 sY4 hf ht hn hfn htn ha hb => (by as_aux_lemma => kernel_rfl)
theorem gc_8_1111 : GC 8 ⟨true, true, true, true⟩ := fun p la20 lb20 tx ty tt s8 w0 w2 w3 w4 sY1 sY2 sY3 sY4 hf ht hn hfn htn ha hb => (by as_aux_lemma => kernel_rfl)
theorem gc_11_1100 : GC 11 ⟨true, true, false, false⟩ := fun p la20 lb20 tx ty tt s8 w0 w2 w3 w4 sY1 sY2 sY3 sY4 hf ht hn hfn htn ha hb => (by as_aux_lemma => kernel_rfl)
theorem gc_11_1110 : GC 11 ⟨true, true, true, false⟩ := fun p la20 lb20 tx ty tt s8 w0 w2 w3 w4 sY1 sY2 sY3 sY4 hf ht hn hfn htn ha hb => (by as_aux_lemma => kernel_rfl)
theorem gc_11_1111 : GC 11 ⟨true, true, true, true⟩ := fun p la20 lb20 tx ty tt s8 w0 w2 w3 w4 sY1 sY2 sY3 sY4 hf ht hn hfn htn ha hb => (by as_aux_lemma => kernel_rfl)
theorem gc_14_1100 : GC 14 ⟨true, true, false, false⟩ := fun p la20 lb20 tx ty tt s8 w0 w2 w3 w4 sY1 sY2 sY3 sY4 hf ht hn hfn htn ha hb => (by as_aux_lemma => kernel_rfl)
theorem gc_14_1110 : GC 14 ⟨true, true, true, false⟩ := fun p la20 lb20 tx ty tt s8 w0 w2 w3 w4 sY1 sY2 sY3 sY4 hf ht hn hfn htn ha hb => (by as_aux_lemma => kernel_rfl)
theorem gc_14_1111 : GC 14 ⟨true, true, true, true⟩ := fun p la20 lb20 tx ty tt s8 w0 w2 w3 w4 sY1 sY2 sY3 sY4 hf ht hn hfn htn ha hb => (by as_aux_lemma => kernel_rfl)
theorem gc_17_1100 : GC 17 ⟨true, true, false, false⟩ := fun p la20 lb20 tx ty tt s8 w0 w2 w3 w4 sY1 sY2 sY3 sY4 hf ht hn hfn htn ha hb => (by as_aux_lemma => kernel_rfl)
theorem gc_17_1110 : GC 17 ⟨true, true, true, false⟩ := fun p la20 lb20 tx ty tt s8 w0 w2 w3 w4 sY1 sY2 sY3 sY4 hf ht hn hfn htn ha hb => (by as_aux_lemma => kernel_rfl)
theorem gc_17_1111 : GC 17 ⟨true, true, true, true⟩ := fun p la20 lb20 tx ty tt s8 w0 w2 w3 w4 sY1 sY2 sY3 sY4 hf ht hn hfn htn ha hb => (by as_aux_lemma => kernel_rfl)
theorem gc_20_1100 : GC 20 ⟨true, true, false, false⟩ := fun p la20 lb20 tx ty tt s8 w0 w2 w3 w4 sY1 sY2 sY3 sY4 hf ht hn hfn htn ha hb => (by as_aux_lemma => kernel_rfl)
theorem gc_20_1110 : GC 20 ⟨true, true, true, false⟩ := fun p la20 lb20 tx ty tt s8 w0 w2 w3 w4 sY1 sY2 sY3 sY4 hf ht hn hfn htn ha hb => (by as_aux_lemma => kernel_rfl)
theorem gc_20_1111 : GC 20 ⟨true, true, true, true⟩ := fun p la20 lb20 tx ty tt s8 w0 w2 w3 w4 sY1 sY2 sY3 sY4 hf ht hn hfn htn ha hb => (by as_aux_lemma => kernel_rfl)
end Go.Proofs.YtbjgdfijonkomaaGreatDoor.nc
