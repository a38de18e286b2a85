/-
  Contracts of calls, by the kernel.
-/
import Derived.Test.YtkckdnjocncnhaaGreatDoorXN3
import Derived.Test.YtkckdnjocncnhaaGreatDoorProg
import Derived.KernelRfl
import Derived.Test.YtkckdnjocncnhaaGreatDoorEC0a
import Derived.Test.YtkckdnjocncnhaaGreatDoorEC1a
import Derived.Test.YtkckdnjocncnhaaGreatDoorEC2c
import Derived.Test.YtkckdnjocncnhaaGreatDoorEC2e
import Derived.Test.YtkckdnjocncnhaaGreatDoorEC4a
import Derived.Test.YtkckdnjocncnhaaGreatDoorEC5a
set_option linter.unusedSectionVars false
set_option linter.unusedVariables false
set_option maxRecDepth 1000000
set_option maxHeartbeats 0
namespace Go.Proofs.YtkckdnjocncnhaaGreatDoor.ec
open Go.X Go.RowKit
section
variable [Tab]
noncomputable def K_top2 : Hand := ((H_EC5a).or ((H_EC4a).or ((H_EC2e).or ((H_EC2c).or ((H_EC1a).or H_EC0a)))))
theorem K_top2_ok : HandOk Tryz.prog K_top2 := (HandOk.or H_EC5a_ok (HandOk.or H_EC4a_ok (HandOk.or H_EC2e_ok (HandOk.or H_EC2c_ok (HandOk.or H_EC1a_ok H_EC0a_ok)))))
end
section
abbrev iv2 (a r q m : Int) : Nat → IntKind × Int
  | 0 => (.i64, a)
  | 1 => (.i64, r)
  | 2 => (.i32, r)
  | 3 => (.i64, q)
  | 4 => (.i64, m)
  | 5 => (.i32, q)
  | _ => (.i64, 0)
theorem ib2 {a r q m : Int} (hr : a.tmod 1000 = r) (h1 : -1000 < r) (h2 : r < 1000) (h3 : r ≠ 0) (h4 : r ≠ -1) (hq : (100 : Int).tdiv r = q) (hq1 : -100 ≤ q) (hq2 : q ≤ 100) (hm : (100 : Int).tmod r = m) : ∀ x_ ∈ ([(4, .oi 0, .int .i64 1000, .oi 1), (9, .oi 1, .int .i64 0, .bool false), (9, .oi 1, .int .i64 (-1), .bool false), (3, .int .i64 100, .oi 1, .oi 3), (4, .int .i64 100, .oi 1, .oi 4), (9, .oi 3, .oi 3, .bool true)] : List BRow), IbOk (iv2 a r q m) x_ := by
  letI := Tab.empty
  exact (ibCons (ibRem (a := (a)) (b := (1000)) (c := (r)) rfl rfl rfl (by omega) (by first | assumption | omega)) (ibCons (ibEq (a := (r)) (b := (0)) rfl rfl (decide_eq_false (by omega))) (ibCons (ibEq (a := (r)) (b := (-1)) rfl rfl (decide_eq_false (by omega))) (ibCons (ibQuo (a := (100)) (b := (r)) (c := (q)) rfl rfl rfl (by omega) (by first | assumption | omega) (by omega) (by omega)) (ibCons (ibRem (a := (100)) (b := (r)) (c := (m)) rfl rfl rfl (by omega) (by first | assumption | omega)) (ibCons (ibEq (a := (q)) (b := (q)) rfl rfl (decide_eq_true rfl)) ibNil))))))
theorem ic2 {a r q m : Int} (hr : a.tmod 1000 = r) (h1 : -1000 < r) (h2 : r < 1000) (h3 : r ≠ 0) (h4 : r ≠ -1) (hq : (100 : Int).tdiv r = q) (hq1 : -100 ≤ q) (hq2 : q ≤ 100) (hm : (100 : Int).tmod r = m) : ∀ x_ ∈ ([(.i32, .oi 1, .oi 2), (.i64, .oi 2, .oi 1), (.i32, .oi 3, .oi 5), (.i64, .oi 5, .oi 3)] : List (IntKind × AV × AV)), IcOk' (iv2 a r q m) x_ := (icCons (ic32 (n := (r)) rfl rfl (by omega) (by omega)) (icCons (ic64 (n := (r)) rfl rfl (by omega) (by omega)) (icCons (ic32 (n := (q)) rfl rfl (by omega) (by omega)) (icCons (ic64 (n := (q)) rfl rfl (by omega) (by omega)) icNil))))
abbrev R2 {a r q m : Int} (hr : a.tmod 1000 = r) (h1 : -1000 < r) (h2 : r < 1000) (h3 : r ≠ 0) (h4 : r ≠ -1) (hq : (100 : Int).tdiv r = q) (hq1 : -100 ≤ q) (hq2 : q ≤ 100) (hm : (100 : Int).tmod r = m) : VRows (iv2 a r q m) noV noK where
  vvp := noVp
  ib := [(4, .oi 0, .int .i64 1000, .oi 1), (9, .oi 1, .int .i64 0, .bool false), (9, .oi 1, .int .i64 (-1), .bool false), (3, .int .i64 100, .oi 1, .oi 3), (4, .int .i64 100, .oi 1, .oi 4), (9, .oi 3, .oi 3, .bool true)]
  ibok := ib2 hr h1 h2 h3 h4 hq hq1 hq2 hm
  ic := [(.i32, .oi 1, .oi 2), (.i64, .oi 2, .oi 1), (.i32, .oi 3, .oi 5), (.i64, .oi 5, .oi 3)]
  icok := ic2 hr h1 h2 h3 h4 hq hq1 hq2 hm
theorem run2 {a r q m : Int} (hr : a.tmod 1000 = r) (h1 : -1000 < r) (h2 : r < 1000) (h3 : r ≠ 0) (h4 : r ≠ -1) (hq : (100 : Int).tdiv r = q) (hq1 : -100 ≤ q) (hq2 : q ≤ 100) (hm : (100 : Int).tmod r = m) : okTrue (@call (R2 hr h1 h2 h3 h4 hq hq1 hq2 hm).tab Tryz.prog K_top2 5000 7 [(.oi 0)] H.empty) = true := (by as_aux_lemma => kernel_rfl)
theorem yes2 {a r q m : Int} (hr : a.tmod 1000 = r) (h1 : -1000 < r) (h2 : r < 1000) (h3 : r ≠ 0) (h4 : r ≠ -1) (hq : (100 : Int).tdiv r = q) (hq1 : -100 ≤ q) (hq2 : q ≤ 100) (hm : (100 : Int).tmod r = m) (w : World) : Calls Tryz.prog 7 #[.int .i64 a] w fun e w' => e = .returned (.bool true) ∧ Below w.heap.size w w' := by
  letI : Tab := (R2 hr h1 h2 h3 h4 hq hq1 hq2 hm).tab
  obtain ⟨q_, hq_⟩ := CallOk.of_okTrue (P := Tryz.prog) mixed K_top2_ok (run2 hr h1 h2 h3 h4 hq hq1 hq2 hm)
  exact CallOk.yes hq_ (vrels_cons (by simp only [vrel]; rfl) (by simp [vrels])) w ⟨fun g o a h => (by cases h), fun i m a h => (by cases h)⟩
end
end Go.Proofs.YtkckdnjocncnhaaGreatDoor.ec
