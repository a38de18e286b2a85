/-
  What the law TopHello gives: its last print, by both lengths.
-/
import Derived.Test.YtbgkinjicnnkiaaGreatDoorHLD1
import Derived.Test.YtbgkinjicnnkiaaGreatDoorHLD2
import Derived.Test.YtbgkinjicnnkiaaGreatDoorHLD3
import Derived.Test.YtbgkinjicnnkiaaGreatDoorHLD4
import Derived.Test.YtbgkinjicnnkiaaGreatDoorHLD5
import Derived.Test.YtbgkinjicnnkiaaGreatDoorHLD6
set_option linter.unusedSectionVars false
set_option linter.unusedVariables false
set_option maxRecDepth 1000000
set_option maxHeartbeats 0
namespace Go.Proofs.YtbgkinjicnnkiaaGreatDoor.hl
open Go.X Go.RowKit Go.X.chars8 Go.Proofs.YtbgkinjicnnkiaaGreatDoor.hq
noncomputable def JI (L M : Nat) : In := fN (21790 + 2 * L) fun o => fN (22307 + 4 * M) fun x => ⟨137, [(.ptr 10729 0), (.so 22294 0 2 1), (.ptr 13635 0), (.ptr 13443 0)], 22304, [(10729, (.cells 7 false [] (T.ofList 0 .leaf [(.ptr 10723 0), (.ptr 10725 0), (.ptr 7470 0), (.so 11443 0 39 3), (.so o 0 (L + 1) 1), (.bool false), (.bool false)]))), (13443, hk184), (13635, hk186), (o, .cells (L + 1) true [] (T.ofList 0 .leaf (bl L 0 ++ [.int .u8 10]))), (22294, hk174)], (.tup [(.int .i64 0), (.bool false), (.int .i64 0)]), 22424, [(10729, (.cells 7 false [] (T.ofList 0 .leaf [(.ptr 10723 0), (.ptr 10725 0), (.ptr 7470 0), (.so 11443 0 39 3), (.so x 0 (L + M + 2) 1), (.bool false), (.bool false)]))), (13443, hk184), (13635, hk186), (22294, hk174), (x, .cells (L + M + 2) true [] (T.ofList 0 .leaf (bl L 0 ++ .int .u8 10 :: (bl M 200 ++ [.int .u8 10]))))]⟩
def JG (L M : Nat) : Prop := okLim (JI L M).bs = true ∧ okLim (JI L M).bs' = true ∧ ∀ {n0 n l : Int} {s t : ByteArray} (hn : n0.tmod 100000 = n) (h : Ok n l s t L M), @inRunU (TH hn h) KF 5000 (JI L M) = true
noncomputable abbrev KL1 (M : Nat) : Hand := (inHand (JI 4 M)).or KD1_9
def LG1 (M : Nat) : Prop := ∀ {n0 n l : Int} {s t : ByteArray} (hn : n0.tmod 100000 = n) (h : Ok n l s t 4 M), okTrue (@call (TH hn h) Tryz.prog (KL1 M) 5000 4 [.oi 0, .oi 1] H.empty) = true
theorem yes1 {M : Nat} (j : JG 4 M) (g : LG1 M) {n0 n l : Int} {s t : ByteArray} (hn : n0.tmod 100000 = n) (h : Ok n l s t 4 M) (w : World) (ht : Lib.TabIs Tryz.prog w "internal/strconv.uint64pow10" .u64 Lib.pow10Tab) : Calls Tryz.prog 4 #[.int .i64 n0, .int .i64 l] w fun e w' => e = .returned (.bool true) ∧ Below w.heap.size w w' := by
  letI : Tab := TH hn h
  obtain ⟨q_, hq_⟩ := CallOk.of_okTrue (P := Tryz.prog) mixed (@handU (TH hn h) _ (KF_ok hn h) 5000 (JI 4 M) j.1 j.2.1 (j.2.2 hn h) _ (KD1_9_ok hn h)) (g hn h)
  exact CallOk.yes hq_ (vrels_cons (by simp only [vrel]; rfl) (vrels_cons (by simp only [vrel]; rfl) (by simp [vrels]))) w (gl_pow rfl rfl ht)
noncomputable abbrev KL2 (M : Nat) : Hand := (inHand (JI 5 M)).or KD2_9
def LG2 (M : Nat) : Prop := ∀ {n0 n l : Int} {s t : ByteArray} (hn : n0.tmod 100000 = n) (h : Ok n l s t 5 M), okTrue (@call (TH hn h) Tryz.prog (KL2 M) 5000 4 [.oi 0, .oi 1] H.empty) = true
theorem yes2 {M : Nat} (j : JG 5 M) (g : LG2 M) {n0 n l : Int} {s t : ByteArray} (hn : n0.tmod 100000 = n) (h : Ok n l s t 5 M) (w : World) (ht : Lib.TabIs Tryz.prog w "internal/strconv.uint64pow10" .u64 Lib.pow10Tab) : Calls Tryz.prog 4 #[.int .i64 n0, .int .i64 l] w fun e w' => e = .returned (.bool true) ∧ Below w.heap.size w w' := by
  letI : Tab := TH hn h
  obtain ⟨q_, hq_⟩ := CallOk.of_okTrue (P := Tryz.prog) mixed (@handU (TH hn h) _ (KF_ok hn h) 5000 (JI 5 M) j.1 j.2.1 (j.2.2 hn h) _ (KD2_9_ok hn h)) (g hn h)
  exact CallOk.yes hq_ (vrels_cons (by simp only [vrel]; rfl) (vrels_cons (by simp only [vrel]; rfl) (by simp [vrels]))) w (gl_pow rfl rfl ht)
noncomputable abbrev KL3 (M : Nat) : Hand := (inHand (JI 6 M)).or KD3_9
def LG3 (M : Nat) : Prop := ∀ {n0 n l : Int} {s t : ByteArray} (hn : n0.tmod 100000 = n) (h : Ok n l s t 6 M), okTrue (@call (TH hn h) Tryz.prog (KL3 M) 5000 4 [.oi 0, .oi 1] H.empty) = true
theorem yes3 {M : Nat} (j : JG 6 M) (g : LG3 M) {n0 n l : Int} {s t : ByteArray} (hn : n0.tmod 100000 = n) (h : Ok n l s t 6 M) (w : World) (ht : Lib.TabIs Tryz.prog w "internal/strconv.uint64pow10" .u64 Lib.pow10Tab) : Calls Tryz.prog 4 #[.int .i64 n0, .int .i64 l] w fun e w' => e = .returned (.bool true) ∧ Below w.heap.size w w' := by
  letI : Tab := TH hn h
  obtain ⟨q_, hq_⟩ := CallOk.of_okTrue (P := Tryz.prog) mixed (@handU (TH hn h) _ (KF_ok hn h) 5000 (JI 6 M) j.1 j.2.1 (j.2.2 hn h) _ (KD3_9_ok hn h)) (g hn h)
  exact CallOk.yes hq_ (vrels_cons (by simp only [vrel]; rfl) (vrels_cons (by simp only [vrel]; rfl) (by simp [vrels]))) w (gl_pow rfl rfl ht)
noncomputable abbrev KL4 (M : Nat) : Hand := (inHand (JI 7 M)).or KD4_9
def LG4 (M : Nat) : Prop := ∀ {n0 n l : Int} {s t : ByteArray} (hn : n0.tmod 100000 = n) (h : Ok n l s t 7 M), okTrue (@call (TH hn h) Tryz.prog (KL4 M) 5000 4 [.oi 0, .oi 1] H.empty) = true
theorem yes4 {M : Nat} (j : JG 7 M) (g : LG4 M) {n0 n l : Int} {s t : ByteArray} (hn : n0.tmod 100000 = n) (h : Ok n l s t 7 M) (w : World) (ht : Lib.TabIs Tryz.prog w "internal/strconv.uint64pow10" .u64 Lib.pow10Tab) : Calls Tryz.prog 4 #[.int .i64 n0, .int .i64 l] w fun e w' => e = .returned (.bool true) ∧ Below w.heap.size w w' := by
  letI : Tab := TH hn h
  obtain ⟨q_, hq_⟩ := CallOk.of_okTrue (P := Tryz.prog) mixed (@handU (TH hn h) _ (KF_ok hn h) 5000 (JI 7 M) j.1 j.2.1 (j.2.2 hn h) _ (KD4_9_ok hn h)) (g hn h)
  exact CallOk.yes hq_ (vrels_cons (by simp only [vrel]; rfl) (vrels_cons (by simp only [vrel]; rfl) (by simp [vrels]))) w (gl_pow rfl rfl ht)
noncomputable abbrev KL5 (M : Nat) : Hand := (inHand (JI 8 M)).or KD5_9
def LG5 (M : Nat) : Prop := ∀ {n0 n l : Int} {s t : ByteArray} (hn : n0.tmod 100000 = n) (h : Ok n l s t 8 M), okTrue (@call (TH hn h) Tryz.prog (KL5 M) 5000 4 [.oi 0, .oi 1] H.empty) = true
theorem yes5 {M : Nat} (j : JG 8 M) (g : LG5 M) {n0 n l : Int} {s t : ByteArray} (hn : n0.tmod 100000 = n) (h : Ok n l s t 8 M) (w : World) (ht : Lib.TabIs Tryz.prog w "internal/strconv.uint64pow10" .u64 Lib.pow10Tab) : Calls Tryz.prog 4 #[.int .i64 n0, .int .i64 l] w fun e w' => e = .returned (.bool true) ∧ Below w.heap.size w w' := by
  letI : Tab := TH hn h
  obtain ⟨q_, hq_⟩ := CallOk.of_okTrue (P := Tryz.prog) mixed (@handU (TH hn h) _ (KF_ok hn h) 5000 (JI 8 M) j.1 j.2.1 (j.2.2 hn h) _ (KD5_9_ok hn h)) (g hn h)
  exact CallOk.yes hq_ (vrels_cons (by simp only [vrel]; rfl) (vrels_cons (by simp only [vrel]; rfl) (by simp [vrels]))) w (gl_pow rfl rfl ht)
noncomputable abbrev KL6 (M : Nat) : Hand := (inHand (JI 9 M)).or KD6_9
def LG6 (M : Nat) : Prop := ∀ {n0 n l : Int} {s t : ByteArray} (hn : n0.tmod 100000 = n) (h : Ok n l s t 9 M), okTrue (@call (TH hn h) Tryz.prog (KL6 M) 5000 4 [.oi 0, .oi 1] H.empty) = true
theorem yes6 {M : Nat} (j : JG 9 M) (g : LG6 M) {n0 n l : Int} {s t : ByteArray} (hn : n0.tmod 100000 = n) (h : Ok n l s t 9 M) (w : World) (ht : Lib.TabIs Tryz.prog w "internal/strconv.uint64pow10" .u64 Lib.pow10Tab) : Calls Tryz.prog 4 #[.int .i64 n0, .int .i64 l] w fun e w' => e = .returned (.bool true) ∧ Below w.heap.size w w' := by
  letI : Tab := TH hn h
  obtain ⟨q_, hq_⟩ := CallOk.of_okTrue (P := Tryz.prog) mixed (@handU (TH hn h) _ (KF_ok hn h) 5000 (JI 9 M) j.1 j.2.1 (j.2.2 hn h) _ (KD6_9_ok hn h)) (g hn h)
  exact CallOk.yes hq_ (vrels_cons (by simp only [vrel]; rfl) (vrels_cons (by simp only [vrel]; rfl) (by simp [vrels]))) w (gl_pow rfl rfl ht)
end Go.Proofs.YtbgkinjicnnkiaaGreatDoor.hl
