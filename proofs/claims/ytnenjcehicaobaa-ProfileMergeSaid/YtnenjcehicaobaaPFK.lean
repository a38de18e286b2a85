/-
  The laws of profile: Merge: lists are put into the queue: runs.
-/
import Derived.Test.YtnenjcehicaobaaPFJ
set_option linter.unusedVariables false
set_option linter.unusedSimpArgs false
set_option linter.unusedSectionVars false
set_option maxRecDepth 1000000
set_option maxHeartbeats 0
namespace Go.Proofs.Ytnenjcehicaobaa.pf
open Go.X Go.RowKit Go.Proofs
noncomputable abbrev iM : IP := [(.oi 40, 40), (.oi 24, 24)]
noncomputable abbrev CM (rl : List (Nat × Nat)) (ip : IP) : Cv := ⟨20000, 20010, ofPairs rl, ip⟩
noncomputable abbrev fsM0 : List (Nat × AV) := [(0, .oi 40), (1, .ov 19004 24 1), (5, .ptr 20001 0)]
noncomputable abbrev fsM3 : List (Nat × AV) := [(0, .oi 40), (5, .ptr 20001 0)]
noncomputable abbrev vL : VP := [(19004, .vec 24, 24)]
noncomputable abbrev z7 : Blk := rowOf [.rw 7] true
section
variable {p : Pm}
theorem gM0 (p : Pm) : firstTo (T0 p) Try.prog Hand.none 3000 ntM 2 mC (T.ofList 0 .leaf [.oi 40, .ov 19004 24 1]) (hIn 20000 [(19004, .vec 24)]) (CM [(20001, 20000)] iM) vL fsM0 (bsL0 20000) = true := by as_aux_lemma => kernel_rfl
theorem gM1 (p : Pm) : runTo (T0 p) Try.prog Hand.none 3000 ntM m2a (frOf fsM0) (hOf 20010 (bsL0 20001)) .normal (CM [(20001, 20001)] ((.int .i64 0, 25) :: iM)) vL fsL (bsL0 20001) = true := by as_aux_lemma => kernel_rfl
noncomputable abbrev iL : IP := (.oi 26, 25) :: iM
theorem gLA0 (g : Gok p.G) (hr : p.r < p.M) (hM : p.M < 1000000) (hN : p.N + 1 < 1000000) (ht : decide (0 < p.G.len (p.ls p.r)) = false) : runTo (RL false g hr hM hN ht).T Try.prog Hand.none 3000 ntM m2L (frOf fsL) (hOf 20010 (bsL0 20001)) .normal (CM [(20001, 20001)] iL) vL fsL (bsL0 20001) = true := by as_aux_lemma => kernel_rfl
theorem gLA1 (g : Gok p.G) (hr : p.r < p.M) (hM : p.M < 1000000) (hN : p.N + 1 < 1000000) (ht : decide (0 < p.G.len (p.ls p.r)) = false) : runTo (RL false g hr hM hN ht).T Try.prog Hand.none 3000 ntM m2L (frOf fsL) (hOf 20010 (bsL1 20001 20002 10)) .normal (CM [(20001, 20001), (20002, 20002)] ((.oi 22, 22) :: iL)) ((20002, .vec 10, 10) :: vL) fsL (bsL1 20001 20002 10) = true := by as_aux_lemma => kernel_rfl
theorem gLB (g : Gok p.G) (hr : p.r < p.M) (hM : p.M < 1000000) (hN : p.N + 1 < 1000000) (ht : decide (0 < p.G.len (p.ls p.r)) = true) : runTo (RL true g hr hM hN ht).T Try.prog Hand.none 3000 ntM m2L (frOf fsL) (hOf 20010 (bsL0 20001)) .normal (CM [(20001, 20001), (20002, 20011)] ((.int .i64 1, 22) :: iL)) ((20011, z7, 10) :: vL) fsL (bsL1 20001 20011 10) = true := by as_aux_lemma => kernel_rfl
theorem gLC (g : Gok p.G) (hr : p.r < p.M) (hM : p.M < 1000000) (hN : p.N + 1 < 1000000) (ht : decide (0 < p.G.len (p.ls p.r)) = true) : runTo (RL true g hr hM hN ht).T Try.prog Hand.none 3000 ntM m2L (frOf fsL) (hOf 20010 (bsL1 20001 20002 10)) .normal (CM [(20001, 20001), (20002, 20011)] ((.oi 28, 22) :: iL)) ((20011, .vec 15, 10) :: vL) fsL (bsL1 20001 20011 10) = true := by as_aux_lemma => kernel_rfl
theorem gLe0 (hr : ¬ p.r < p.M) : runTo (RLe hr).T Try.prog Hand.none 3000 ntM m2L (frOf fsL) (hOf 20010 (bsL0 20001)) (.exit 0) (CM [(20001, 20001)] [(.oi 40, 40)]) [] fsM3 [(20001, 20001, cel .nils)] = true := by as_aux_lemma => kernel_rfl
theorem gLe1 (hr : ¬ p.r < p.M) : runTo (RLe hr).T Try.prog Hand.none 3000 ntM m2L (frOf fsL) (hOf 20010 (bsL1 20001 20002 10)) (.exit 0) (CM [(20001, 20001), (20002, 20002)] [(.oi 22, 22), (.oi 40, 40)]) [(20002, .vec 10, 20)] fsM3 (bsC 20) = true := by as_aux_lemma => kernel_rfl
/- the heap is made; nothing is out yet -/
noncomputable abbrev fsM5 : List (Nat × AV) := [(0, .oi 40), (5, .ptr 20001 0), (8, .nils)]
theorem gM3 (p : Pm) : runTo (T0 p) Try.prog (inHand nI) 3000 ntM m3 (frOf fsM3) (hOf 20010 (bsC 20)) .normal (CM [(20001, 20001), (20002, 20002)] [(.oi 22, 22), (.oi 40, 40)]) [(20002, .vec 21, 20)] fsM3 (bsC 20) = true := by as_aux_lemma => kernel_rfl
theorem gM4 (p : Pm) : runTo (T0 p) Try.prog Hand.none 3000 ntM m4 (frOf fsM3) (hOf 20010 (bsC 20)) .normal (CM [(20001, 20001), (20002, 20002)] [(.oi 22, 22), (.oi 40, 40)]) [(20002, .vec 20, 10)] fsM5 (bsC 10) = true := by as_aux_lemma => kernel_rfl
end
end Go.Proofs.Ytnenjcehicaobaa.pf
