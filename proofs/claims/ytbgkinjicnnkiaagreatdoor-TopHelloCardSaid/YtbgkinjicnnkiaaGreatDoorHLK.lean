/-
  What the law TopHello gives: its last print, where the last char stands alone.
-/
import Derived.Test.YtbgkinjicnnkiaaGreatDoorHLJ
import Derived.Test.YtbgkinjicnnkiaaGreatDoorXN3
set_option linter.unusedSectionVars false
set_option linter.unusedVariables false
set_option maxRecDepth 1000000
set_option maxHeartbeats 0
namespace Go.Proofs.YtbgkinjicnnkiaaGreatDoor.hl
open Go.X Go.RowKit Go.X.chars8 Go.Proofs.YtbgkinjicnnkiaaGreatDoor.hq
theorem HandOk.tab {P : Go.Program} {T T' : Tab} (e : SameTab T T') {K : Hand} (h : @HandOk T P K) : @HandOk T' P K := fun f args q p k => CallOk.tab e (h f args q p k)
theorem sameTr (T : Tab) (r : List (Nat × List AV × AV)) (hr : ∀ q ∈ r, TrOk T.str T.iv q.1 q.2.1 q.2.2) : SameTab T { T with tr := r, trok := hr } := ⟨rfl, rfl, rfl, rfl, rfl, rfl, rfl, rfl, rfl⟩
abbrev exR (L M : Nat) : TRow := (6, bl (L - 1) 0 ++ .int .u8 33 :: .int .u8 10 :: (bl M 200 ++ [.int .u8 10]), .ostr 6)
section
variable {n0 n l : Int} {s t : ByteArray} {L M : Nat} (hn : n0.tmod 100000 = n) (h : Ok n l s t L M)
include h in
theorem den_s1 : (bl (L - 1) 0).map (denI (ivH n0 n l s t)) = bys ([110, 61] ++ Lib.itoa n) := by
  have hl := h.Ln
  have e := den_s (iv := ivH n0 n l s t) ivH_ge h
  have e2 : s.data.toList = ([110, 61] ++ Lib.itoa n) ++ [33] := by rw [h.sList, List.append_assoc]
  rw [e2, show L = (L - 1) + 1 by omega, bl_add (L - 1) 1] at e
  unfold bys at e
  rw [List.map_append, List.map_append] at e
  exact (List.append_inj' e rfl).1
theorem exR_ok : TrOk (TH hn h).str (TH hn h).iv (exR L M).1 (exR L M).2.1 (exR L M).2.2 := by
  refine ⟨s.data.toList ++ 10 :: (t.data.toList ++ [10]), ?_, ?_⟩
  · show (bl (L - 1) 0 ++ AV.int .u8 33 :: .int .u8 10 :: (bl M 200 ++ [.int .u8 10])).map (denI (ivH n0 n l s t)) = _
    rw [List.map_append, List.map_cons, List.map_cons, List.map_append, den_s1 h, den_t (iv := ivH n0 n l s t) (L := L) ivH_ge h, h.sList]
    simp [denI]
  · show some (s ++ strOf 1 10 ++ (t ++ strOf 1 10)) = _
    congr 1
    apply ByteArray.ext
    apply Array.ext'
    simp [strOf, Go.X.dec]
/-- the table with one row more -/
noncomputable abbrev TH2 : Tab := { TH hn h with tr := exR L M :: (TH hn h).tr, trok := txCons (exR_ok hn h) (TH hn h).trok }
theorem same2 : SameTab (TH hn h) (TH2 hn h) := sameTr (TH hn h) _ _
end
noncomputable def JI2 (L M : Nat) : In := fN (21790 + 2 * L) fun o => fN (22307 + 4 * M) fun x => ⟨137, [(.ptr 10729 0), (.so 22294 0 2 1), (.ptr 13635 0), (.ptr 13443 0)], 22304, [(10729, (.cells 7 false [] (T.ofList 0 .leaf [(.ptr 10723 0), (.ptr 10725 0), (.ptr 7470 0), (.so 11443 0 39 3), (.so o 0 (L + 1) 1), (.bool false), (.bool false)]))), (13443, hk184), (13635, hk186), (o, .cells (L + 1) true [] (T.ofList 0 .leaf (bl (L - 1) 0 ++ [.int .u8 33, .int .u8 10]))), (22294, hk174)], (.tup [(.int .i64 0), (.bool false), (.int .i64 0)]), 22424, [(10729, (.cells 7 false [] (T.ofList 0 .leaf [(.ptr 10723 0), (.ptr 10725 0), (.ptr 7470 0), (.so 11443 0 39 3), (.so x 0 (L + M + 2) 1), (.bool false), (.bool false)]))), (13443, hk184), (13635, hk186), (22294, hk174), (x, .cells (L + M + 2) true [] (T.ofList 0 .leaf (bl (L - 1) 0 ++ .int .u8 33 :: .int .u8 10 :: (bl M 200 ++ [.int .u8 10]))))]⟩
def JG2 (L M : Nat) : Prop := okLim (JI2 L M).bs = true ∧ okLim (JI2 L M).bs' = true ∧ ∀ {n0 n l : Int} {s t : ByteArray} (hn : n0.tmod 100000 = n) (h : Ok n l s t L M), @inRunU (TH hn h) KF 5000 (JI2 L M) = true
noncomputable abbrev KM2 (M : Nat) : Hand := (inHand (JI2 5 M)).or KD2_9
def LM2 (M : Nat) : Prop := ∀ {n0 n l : Int} {s t : ByteArray} (hn : n0.tmod 100000 = n) (h : Ok n l s t 5 M), okTrue (@call (TH2 hn h) Tryz.prog (KM2 M) 5000 4 [.oi 0, .oi 1] H.empty) = true
theorem ye2 {M : Nat} (j : JG2 5 M) (g : LM2 M) {n0 n l : Int} {s t : ByteArray} (hn : n0.tmod 100000 = n) (h : Ok n l s t 5 M) (w : World) (ht : Lib.TabIs Tryz.prog w "internal/strconv.uint64pow10" .u64 Lib.pow10Tab) : Calls Tryz.prog 4 #[.int .i64 n0, .int .i64 l] w fun e w' => e = .returned (.bool true) ∧ Below w.heap.size w w' := by
  letI : Tab := TH2 hn h
  obtain ⟨q_, hq_⟩ := CallOk.of_okTrue (P := Tryz.prog) mixed (HandOk.tab (same2 hn h) (@handU (TH hn h) _ (KF_ok hn h) 5000 (JI2 5 M) j.1 j.2.1 (j.2.2 hn h) _ (KD2_9_ok hn h))) (g hn h)
  exact CallOk.yes hq_ (vrels_cons (by simp only [vrel]; rfl) (vrels_cons (by simp only [vrel]; rfl) (by simp [vrels]))) w (gl_pow rfl rfl ht)
noncomputable abbrev KM6 (M : Nat) : Hand := (inHand (JI2 9 M)).or KD6_9
def LM6 (M : Nat) : Prop := ∀ {n0 n l : Int} {s t : ByteArray} (hn : n0.tmod 100000 = n) (h : Ok n l s t 9 M), okTrue (@call (TH2 hn h) Tryz.prog (KM6 M) 5000 4 [.oi 0, .oi 1] H.empty) = true
theorem ye6 {M : Nat} (j : JG2 9 M) (g : LM6 M) {n0 n l : Int} {s t : ByteArray} (hn : n0.tmod 100000 = n) (h : Ok n l s t 9 M) (w : World) (ht : Lib.TabIs Tryz.prog w "internal/strconv.uint64pow10" .u64 Lib.pow10Tab) : Calls Tryz.prog 4 #[.int .i64 n0, .int .i64 l] w fun e w' => e = .returned (.bool true) ∧ Below w.heap.size w w' := by
  letI : Tab := TH2 hn h
  obtain ⟨q_, hq_⟩ := CallOk.of_okTrue (P := Tryz.prog) mixed (HandOk.tab (same2 hn h) (@handU (TH hn h) _ (KF_ok hn h) 5000 (JI2 9 M) j.1 j.2.1 (j.2.2 hn h) _ (KD6_9_ok hn h))) (g hn h)
  exact CallOk.yes hq_ (vrels_cons (by simp only [vrel]; rfl) (vrels_cons (by simp only [vrel]; rfl) (by simp [vrels]))) w (gl_pow rfl rfl ht)
end Go.Proofs.YtbgkinjicnnkiaaGreatDoor.hl
