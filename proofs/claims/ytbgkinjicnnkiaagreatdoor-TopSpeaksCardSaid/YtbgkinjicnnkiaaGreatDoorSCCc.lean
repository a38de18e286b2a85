/-
  The law TopSpeaks at numbers that go to 0: the run.
-/
import Derived.Test.YtbgkinjicnnkiaaGreatDoorSCCb
set_option linter.unusedSectionVars false
set_option linter.unusedVariables false
set_option maxRecDepth 1000000
set_option maxHeartbeats 0
namespace Go.Proofs.YtbgkinjicnnkiaaGreatDoor.sc
open Go.X Go.RowKit Go.Proofs.YtbgkinjicnnkiaaGreatDoor.sq
/-- the machine's memory, with 0 as the argument -/
noncomputable def arg0 (b : BL) : BL := List.rec (motive := fun _ => BL) [] (fun p _ ih => Bool.rec p (17788, (.cells 1 false [] (T.ofList 0 .leaf [(.int .i64 0)]))) (Nat.beq p.1 17788) :: ih) b
noncomputable def CR0 : In := ⟨51, [(.ptr 14321 0), (.str 1 77), (.str 2 28519), (.sl 17788 0 1 1), (.int .i64 2000)], 17792, arg0 bsP, (.agg [(.int .i64 0), (.int .i64 1), (.int .u8 73), (.int .i64 0), (.str 0 0), (.str 0 0), (.bool false), (.int .i64 16), (.so 21566 0 3 1), (.int .i64 0), (.int .i64 1)]), 21569, [(14321, (.cells 32 false [] (T.ofList 0 .leaf [(.ptr 7718 0), (.ptr 10976 0), (.ptr 10971 0), (.ptr 10973 0), (.ptr 10977 0), (.ptr 14317 0), .nils, (.map 14318), (.map 14319), .nils, (.int .i64 1), (.int .i64 3), (.int .i64 6), (.int .i64 0), .nilp, (.bool false), (.int .i64 2000), (.int .i64 16), (.int .i64 0), (.int .i64 1), (.int .i64 0), (.int .i64 1), (.int .u8 73), (.int .i64 0), (.str 0 0), (.str 0 0), (.bool false), (.int .i64 16), (.so 21566 0 3 1), (.int .i64 0), (.int .i64 1), (.map 14320)]))), (21566, (.cells 3 true [] (T.ofList 0 .leaf [(.int .u8 109), (.int .u8 101), (.int .u8 10)])))]⟩
theorem cr0_run [Tab] : inRun Tryz.prog ((inHand S0_19088).or ((inHand S0_19222).or ((inHand S0_20119).or ((inHand S0_20222).or ((inHand S0_19353).or ((inHand S0_19550).or ((inHand S0_18027).or K_top0))))))) 5000 CR0 = true := (by as_aux_lemma => kernel_rfl)
theorem cr0 [Tab] : InOk Tryz.prog CR0 := InOk.of_run (K := ((inHand S0_19088).or ((inHand S0_19222).or ((inHand S0_20119).or ((inHand S0_20222).or ((inHand S0_19353).or ((inHand S0_19550).or ((inHand S0_18027).or K_top0)))))))) (n := 5000) mixed0 (HandOk.or S0_19088_ok (HandOk.or S0_19222_ok (HandOk.or S0_20119_ok (HandOk.or S0_20222_ok (HandOk.or S0_19353_ok (HandOk.or S0_19550_ok (HandOk.or S0_18027_ok K_top0_ok))))))) (by kernel_rfl) cr0_run
end Go.Proofs.YtbgkinjicnnkiaaGreatDoor.sc
