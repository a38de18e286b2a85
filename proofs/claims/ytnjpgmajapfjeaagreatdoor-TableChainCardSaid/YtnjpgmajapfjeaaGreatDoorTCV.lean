/-
  What the law TableChain gives.
-/
import Derived.Test.YtnjpgmajapfjeaaGreatDoorTCT2
import Derived.Test.YtnjpgmajapfjeaaGreatDoorTCT3
import Derived.Test.YtnjpgmajapfjeaaGreatDoorTCT4
import Derived.Test.YtnjpgmajapfjeaaGreatDoorTCT5
import Derived.Test.YtnjpgmajapfjeaaGreatDoorTCF0
import Derived.Test.YtnjpgmajapfjeaaGreatDoorTCF1
import Derived.Test.YtnjpgmajapfjeaaGreatDoorTCF2
import Derived.Test.YtnjpgmajapfjeaaGreatDoorTCF3
import Derived.Test.YtnjpgmajapfjeaaGreatDoorTCF4
import Derived.Test.YtnjpgmajapfjeaaGreatDoorTCF5
import Derived.Test.YtnjpgmajapfjeaaGreatDoorTCF6
import Derived.Test.YtnjpgmajapfjeaaGreatDoorTCR0
import Derived.Test.YtnjpgmajapfjeaaGreatDoorTCR1
import Derived.Test.YtnjpgmajapfjeaaGreatDoorTCR2
import Derived.Test.YtnjpgmajapfjeaaGreatDoorTCR3
import Derived.Test.YtnjpgmajapfjeaaGreatDoorTCR4
import Derived.Test.YtnjpgmajapfjeaaGreatDoorTCR5
import Derived.Test.YtnjpgmajapfjeaaGreatDoorTCR6
set_option linter.unusedVariables false
set_option maxRecDepth 1000000
set_option maxHeartbeats 0
namespace Go.Proofs.YtnjpgmajapfjeaaGreatDoor.tc
open Go.X Go.RowKit
theorem yesOf {K : Hand} (hK : @HandOk Tab.empty Tryz.prog K) {n : Int} {b : Bool} (e : okTrue (@call Tab.empty Tryz.prog K 5000 3 [.int .i64 n, .bool b] H.empty) = true) (w : World) : Calls Tryz.prog 3 #[.int .i64 n, .bool b] w fun e w' => e = .returned (.bool true) ∧ Below w.heap.size w w' := by
  letI : Tab := Tab.empty
  obtain ⟨q_, hq_⟩ := CallOk.of_okTrue (P := Tryz.prog) mixed hK e
  exact CallOk.yes hq_ (vrels_cons (by simp only [vrel]) (vrels_cons (by simp only [vrel]) (by simp [vrels]))) w ⟨fun g o a h => (by cases h), fun i m a h => (by cases h)⟩
theorem allF (w : World) : ∀ k : Nat, k < 60 → Calls Tryz.prog 3 #[.int .i64 ((k : Int) + 1), .bool false] w fun e w' => e = .returned (.bool true) ∧ Below w.heap.size w w'
  | 0, _ => yesOf (@K_topF_ok Tab.empty) (n := 1) rF1 w
  | 1, _ => yesOf (@K_topF_ok Tab.empty) (n := 2) rF2 w
  | 2, _ => yesOf (@K_topF_ok Tab.empty) (n := 3) rF3 w
  | 3, _ => yesOf (@K_topF_ok Tab.empty) (n := 4) rF4 w
  | 4, _ => yesOf (@K_topF_ok Tab.empty) (n := 5) rF5 w
  | 5, _ => yesOf (@K_topF_ok Tab.empty) (n := 6) rF6 w
  | 6, _ => yesOf (@K_topF_ok Tab.empty) (n := 7) rF7 w
  | 7, _ => yesOf (@K_topF_ok Tab.empty) (n := 8) rF8 w
  | 8, _ => yesOf (@K_topF_ok Tab.empty) (n := 9) rF9 w
  | 9, _ => yesOf (@K_topF_ok Tab.empty) (n := 10) rF10 w
  | 10, _ => yesOf (@K_topF_ok Tab.empty) (n := 11) rF11 w
  | 11, _ => yesOf (@K_topF_ok Tab.empty) (n := 12) rF12 w
  | 12, _ => yesOf (@K_topF_ok Tab.empty) (n := 13) rF13 w
  | 13, _ => yesOf (@K_topF_ok Tab.empty) (n := 14) rF14 w
  | 14, _ => yesOf (@K_topF_ok Tab.empty) (n := 15) rF15 w
  | 15, _ => yesOf (@K_topF_ok Tab.empty) (n := 16) rF16 w
  | 16, _ => yesOf (@K_topF_ok Tab.empty) (n := 17) rF17 w
  | 17, _ => yesOf (@K_topF_ok Tab.empty) (n := 18) rF18 w
  | 18, _ => yesOf (@K_topF_ok Tab.empty) (n := 19) rF19 w
  | 19, _ => yesOf (@K_topF_ok Tab.empty) (n := 20) rF20 w
  | 20, _ => yesOf (@K_topF_ok Tab.empty) (n := 21) rF21 w
  | 21, _ => yesOf (@K_topF_ok Tab.empty) (n := 22) rF22 w
  | 22, _ => yesOf (@K_topF_ok Tab.empty) (n := 23) rF23 w
  | 23, _ => yesOf (@K_topF_ok Tab.empty) (n := 24) rF24 w
  | 24, _ => yesOf (@K_topF_ok Tab.empty) (n := 25) rF25 w
  | 25, _ => yesOf (@K_topF_ok Tab.empty) (n := 26) rF26 w
  | 26, _ => yesOf (@K_topF_ok Tab.empty) (n := 27) rF27 w
  | 27, _ => yesOf (@K_topF_ok Tab.empty) (n := 28) rF28 w
  | 28, _ => yesOf (@K_topF_ok Tab.empty) (n := 29) rF29 w
  | 29, _ => yesOf (@K_topF_ok Tab.empty) (n := 30) rF30 w
  | 30, _ => yesOf (@K_topF_ok Tab.empty) (n := 31) rF31 w
  | 31, _ => yesOf (@K_topF_ok Tab.empty) (n := 32) rF32 w
  | 32, _ => yesOf (@K_topF_ok Tab.empty) (n := 33) rF33 w
  | 33, _ => yesOf (@K_topF_ok Tab.empty) (n := 34) rF34 w
  | 34, _ => yesOf (@K_topF_ok Tab.empty) (n := 35) rF35 w
  | 35, _ => yesOf (@K_topF_ok Tab.empty) (n := 36) rF36 w
  | 36, _ => yesOf (@K_topF_ok Tab.empty) (n := 37) rF37 w
  | 37, _ => yesOf (@K_topF_ok Tab.empty) (n := 38) rF38 w
  | 38, _ => yesOf (@K_topF_ok Tab.empty) (n := 39) rF39 w
  | 39, _ => yesOf (@K_topF_ok Tab.empty) (n := 40) rF40 w
  | 40, _ => yesOf (@K_topF_ok Tab.empty) (n := 41) rF41 w
  | 41, _ => yesOf (@K_topF_ok Tab.empty) (n := 42) rF42 w
  | 42, _ => yesOf (@K_topF_ok Tab.empty) (n := 43) rF43 w
  | 43, _ => yesOf (@K_topF_ok Tab.empty) (n := 44) rF44 w
  | 44, _ => yesOf (@K_topF_ok Tab.empty) (n := 45) rF45 w
  | 45, _ => yesOf (@K_topF_ok Tab.empty) (n := 46) rF46 w
  | 46, _ => yesOf (@K_topF_ok Tab.empty) (n := 47) rF47 w
  | 47, _ => yesOf (@K_topF_ok Tab.empty) (n := 48) rF48 w
  | 48, _ => yesOf (@K_topF_ok Tab.empty) (n := 49) rF49 w
  | 49, _ => yesOf (@K_topF_ok Tab.empty) (n := 50) rF50 w
  | 50, _ => yesOf (@K_topF_ok Tab.empty) (n := 51) rF51 w
  | 51, _ => yesOf (@K_topF_ok Tab.empty) (n := 52) rF52 w
  | 52, _ => yesOf (@K_topF_ok Tab.empty) (n := 53) rF53 w
  | 53, _ => yesOf (@K_topF_ok Tab.empty) (n := 54) rF54 w
  | 54, _ => yesOf (@K_topF_ok Tab.empty) (n := 55) rF55 w
  | 55, _ => yesOf (@K_topF_ok Tab.empty) (n := 56) rF56 w
  | 56, _ => yesOf (@K_topF_ok Tab.empty) (n := 57) rF57 w
  | 57, _ => yesOf (@K_topF_ok Tab.empty) (n := 58) rF58 w
  | 58, _ => yesOf (@K_topF_ok Tab.empty) (n := 59) rF59 w
  | 59, _ => yesOf (@K_topF_ok Tab.empty) (n := 60) rF60 w
  | k + 60, h => absurd h (by omega)
theorem allR (w : World) : ∀ k : Nat, k < 60 → Calls Tryz.prog 3 #[.int .i64 ((k : Int) + 1), .bool true] w fun e w' => e = .returned (.bool true) ∧ Below w.heap.size w w'
  | 0, _ => yesOf (@K_topR_ok Tab.empty) (n := 1) rR1 w
  | 1, _ => yesOf (@K_topR_ok Tab.empty) (n := 2) rR2 w
  | 2, _ => yesOf (@K_topR_ok Tab.empty) (n := 3) rR3 w
  | 3, _ => yesOf (@K_topR_ok Tab.empty) (n := 4) rR4 w
  | 4, _ => yesOf (@K_topR_ok Tab.empty) (n := 5) rR5 w
  | 5, _ => yesOf (@K_topR_ok Tab.empty) (n := 6) rR6 w
  | 6, _ => yesOf (@K_topR_ok Tab.empty) (n := 7) rR7 w
  | 7, _ => yesOf (@K_topR_ok Tab.empty) (n := 8) rR8 w
  | 8, _ => yesOf (@K_topR_ok Tab.empty) (n := 9) rR9 w
  | 9, _ => yesOf (@K_topR_ok Tab.empty) (n := 10) rR10 w
  | 10, _ => yesOf (@K_topR_ok Tab.empty) (n := 11) rR11 w
  | 11, _ => yesOf (@K_topR_ok Tab.empty) (n := 12) rR12 w
  | 12, _ => yesOf (@K_topR_ok Tab.empty) (n := 13) rR13 w
  | 13, _ => yesOf (@K_topR_ok Tab.empty) (n := 14) rR14 w
  | 14, _ => yesOf (@K_topR_ok Tab.empty) (n := 15) rR15 w
  | 15, _ => yesOf (@K_topR_ok Tab.empty) (n := 16) rR16 w
  | 16, _ => yesOf (@K_topR_ok Tab.empty) (n := 17) rR17 w
  | 17, _ => yesOf (@K_topR_ok Tab.empty) (n := 18) rR18 w
  | 18, _ => yesOf (@K_topR_ok Tab.empty) (n := 19) rR19 w
  | 19, _ => yesOf (@K_topR_ok Tab.empty) (n := 20) rR20 w
  | 20, _ => yesOf (@K_topR_ok Tab.empty) (n := 21) rR21 w
  | 21, _ => yesOf (@K_topR_ok Tab.empty) (n := 22) rR22 w
  | 22, _ => yesOf (@K_topR_ok Tab.empty) (n := 23) rR23 w
  | 23, _ => yesOf (@K_topR_ok Tab.empty) (n := 24) rR24 w
  | 24, _ => yesOf (@K_topR_ok Tab.empty) (n := 25) rR25 w
  | 25, _ => yesOf (@K_topR_ok Tab.empty) (n := 26) rR26 w
  | 26, _ => yesOf (@K_topR_ok Tab.empty) (n := 27) rR27 w
  | 27, _ => yesOf (@K_topR_ok Tab.empty) (n := 28) rR28 w
  | 28, _ => yesOf (@K_topR_ok Tab.empty) (n := 29) rR29 w
  | 29, _ => yesOf (@K_topR_ok Tab.empty) (n := 30) rR30 w
  | 30, _ => yesOf (@K_topR_ok Tab.empty) (n := 31) rR31 w
  | 31, _ => yesOf (@K_topR_ok Tab.empty) (n := 32) rR32 w
  | 32, _ => yesOf (@K_topR_ok Tab.empty) (n := 33) rR33 w
  | 33, _ => yesOf (@K_topR_ok Tab.empty) (n := 34) rR34 w
  | 34, _ => yesOf (@K_topR_ok Tab.empty) (n := 35) rR35 w
  | 35, _ => yesOf (@K_topR_ok Tab.empty) (n := 36) rR36 w
  | 36, _ => yesOf (@K_topR_ok Tab.empty) (n := 37) rR37 w
  | 37, _ => yesOf (@K_topR_ok Tab.empty) (n := 38) rR38 w
  | 38, _ => yesOf (@K_topR_ok Tab.empty) (n := 39) rR39 w
  | 39, _ => yesOf (@K_topR_ok Tab.empty) (n := 40) rR40 w
  | 40, _ => yesOf (@K_topR_ok Tab.empty) (n := 41) rR41 w
  | 41, _ => yesOf (@K_topR_ok Tab.empty) (n := 42) rR42 w
  | 42, _ => yesOf (@K_topR_ok Tab.empty) (n := 43) rR43 w
  | 43, _ => yesOf (@K_topR_ok Tab.empty) (n := 44) rR44 w
  | 44, _ => yesOf (@K_topR_ok Tab.empty) (n := 45) rR45 w
  | 45, _ => yesOf (@K_topR_ok Tab.empty) (n := 46) rR46 w
  | 46, _ => yesOf (@K_topR_ok Tab.empty) (n := 47) rR47 w
  | 47, _ => yesOf (@K_topR_ok Tab.empty) (n := 48) rR48 w
  | 48, _ => yesOf (@K_topR_ok Tab.empty) (n := 49) rR49 w
  | 49, _ => yesOf (@K_topR_ok Tab.empty) (n := 50) rR50 w
  | 50, _ => yesOf (@K_topR_ok Tab.empty) (n := 51) rR51 w
  | 51, _ => yesOf (@K_topR_ok Tab.empty) (n := 52) rR52 w
  | 52, _ => yesOf (@K_topR_ok Tab.empty) (n := 53) rR53 w
  | 53, _ => yesOf (@K_topR_ok Tab.empty) (n := 54) rR54 w
  | 54, _ => yesOf (@K_topR_ok Tab.empty) (n := 55) rR55 w
  | 55, _ => yesOf (@K_topR_ok Tab.empty) (n := 56) rR56 w
  | 56, _ => yesOf (@K_topR_ok Tab.empty) (n := 57) rR57 w
  | 57, _ => yesOf (@K_topR_ok Tab.empty) (n := 58) rR58 w
  | 58, _ => yesOf (@K_topR_ok Tab.empty) (n := 59) rR59 w
  | 59, _ => yesOf (@K_topR_ok Tab.empty) (n := 60) rR60 w
  | k + 60, h => absurd h (by omega)
theorem walk0 (a0 : Int) (a1 : Bool) (w : World) : Calls Tryz.prog 3 #[.int .i64 a0, .bool a1] w fun e w' => e = .returned (.bool true) ∧ Below w.heap.size w w' := by
  by_cases c0 : a0 < 1
  · cases a1
    · exact yes2 c0 w
    · exact yes4 c0 w
  by_cases c1 : 60 < a0
  · cases a1
    · exact yes3 c1 w
    · exact yes5 c1 w
  obtain ⟨k, hk⟩ : ∃ k : Nat, a0 = (k : Int) + 1 := ⟨(a0 - 1).toNat, by omega⟩
  subst hk
  cases a1
  · exact allF w k (by omega)
  · exact allR w k (by omega)
end Go.Proofs.YtnjpgmajapfjeaaGreatDoor.tc
