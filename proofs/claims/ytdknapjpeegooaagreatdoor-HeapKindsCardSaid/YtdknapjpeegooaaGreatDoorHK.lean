/-
  What the law HeapKinds gives: true, whatever the numbers.
-/
import Derived.Test.YtdknapjpeegooaaGreatDoorHK0
import Derived.Test.YtdknapjpeegooaaGreatDoorHK1
import Derived.Test.YtdknapjpeegooaaGreatDoorHK2
import Derived.Test.YtdknapjpeegooaaGreatDoorHK3
import Derived.Test.YtdknapjpeegooaaGreatDoorHK4
import Derived.Test.YtdknapjpeegooaaGreatDoorHK5
set_option linter.unusedVariables false
set_option maxRecDepth 100000
namespace Go.Proofs.YtdknapjpeegooaaGreatDoor.kinds
open Go.X Go.RowKit
abbrev cI (n : Int) : AV := .int .i64 n
noncomputable abbrev body : Code := kind0.body
theorem body_eq : Tryz.f3.body = some body := kind0.body_eq
theorem mx : Tryz.prog.follows .mixedOrders = true := by kernel_rfl
noncomputable abbrev KH : Hand := sumsHand tabG
abbrev ivE (x n t v : Int) : Nat → IntKind × Int := fun i0 => (.i64, match i0 with | 0 => x | 1 => n | 2 => t | 3 => v | 21 => x.tmod 6 | 22 => x.tmod 6 + 6 | 23 => (x.tmod 6 + 6).tmod 6 | _ => 0)
section
variable {x n t v : Int} {w0 w : World} {a : Act}
abbrev only {iv : Nat → IntKind × Int} {ib : List BRow} (h : ∀ r ∈ ib, IbOk iv r) : VRows iv noV noK where
  vvp := noVp
  ib := ib
  ibok := h
abbrev rK : List BRow := [(4, .oi 0, cI 6, .oi 21), (0, .oi 21, cI 6, .oi 22), (4, .oi 22, cI 6, .oi 23)]
theorem rKs {l : List BRow} (h : ∀ r ∈ l, IbOk (ivE x n t v) r) : ∀ r ∈ (4, .oi 0, cI 6, .oi 21) :: (0, .oi 21, cI 6, .oi 22) :: (4, .oi 22, cI 6, .oi 23) :: l, IbOk (ivE x n t v) r := by
  letI := Tab.empty
  have h1 : x.tmod 6 < 6 := Int.tmod_lt_of_pos _ (by decide)
  have h2 : -6 < x.tmod 6 := Int.lt_tmod_of_pos _ (by decide)
  exact ibCons (ibRem (a := x) (b := 6) (c := x.tmod 6) rfl rfl rfl (by decide) rfl) (ibCons (ibAdd (a := x.tmod 6) (b := 6) (c := x.tmod 6 + 6) rfl rfl rfl rfl (by omega) (by omega)) (ibCons (ibRem (a := x.tmod 6 + 6) (b := 6) (c := (x.tmod 6 + 6).tmod 6) rfl rfl rfl (by decide) rfl) h))
theorem e1 (h1 : n < 1) : ∀ r ∈ ([(4, .oi 0, cI 6, .oi 21), (0, .oi 21, cI 6, .oi 22), (4, .oi 22, cI 6, .oi 23), (11, .oi 1, cI 1, .bool true)] : List BRow), IbOk (ivE x n t v) r := by
  letI := Tab.empty
  exact rKs (ibCons (ibLt (a := n) (b := 1) rfl rfl (decide_eq_true (by omega))) ibNil)
theorem e2 (h1 : ¬ n < 1) (h2 : n > 100) : ∀ r ∈ ([(4, .oi 0, cI 6, .oi 21), (0, .oi 21, cI 6, .oi 22), (4, .oi 22, cI 6, .oi 23), (11, .oi 1, cI 1, .bool false), (13, .oi 1, cI 100, .bool true)] : List BRow), IbOk (ivE x n t v) r := by
  letI := Tab.empty
  exact rKs (ibCons (ibLt (a := n) (b := 1) rfl rfl (decide_eq_false (by omega))) (ibCons (ibGt (a := n) (b := 100) rfl rfl (decide_eq_true (by omega))) ibNil))
theorem e3 (h1 : ¬ n < 1) (h2 : ¬ n > 100) (h3 : t < 0) : ∀ r ∈ ([(4, .oi 0, cI 6, .oi 21), (0, .oi 21, cI 6, .oi 22), (4, .oi 22, cI 6, .oi 23), (11, .oi 1, cI 1, .bool false), (13, .oi 1, cI 100, .bool false), (11, .oi 2, cI 0, .bool true)] : List BRow), IbOk (ivE x n t v) r := by
  letI := Tab.empty
  exact rKs (ibCons (ibLt (a := n) (b := 1) rfl rfl (decide_eq_false (by omega))) (ibCons (ibGt (a := n) (b := 100) rfl rfl (decide_eq_false (by omega))) (ibCons (ibLt (a := t) (b := 0) rfl rfl (decide_eq_true (by omega))) ibNil)))
theorem e4 (h1 : ¬ n < 1) (h2 : ¬ n > 100) (h3 : ¬ t < 0) (h4 : t ≥ n) : ∀ r ∈ ([(4, .oi 0, cI 6, .oi 21), (0, .oi 21, cI 6, .oi 22), (4, .oi 22, cI 6, .oi 23), (11, .oi 1, cI 1, .bool false), (13, .oi 1, cI 100, .bool false), (11, .oi 2, cI 0, .bool false), (14, .oi 2, .oi 1, .bool true)] : List BRow), IbOk (ivE x n t v) r := by
  letI := Tab.empty
  exact rKs (ibCons (ibLt (a := n) (b := 1) rfl rfl (decide_eq_false (by omega))) (ibCons (ibGt (a := n) (b := 100) rfl rfl (decide_eq_false (by omega))) (ibCons (ibLt (a := t) (b := 0) rfl rfl (decide_eq_false (by omega))) (ibCons (ibGe (a := t) (b := n) rfl rfl (decide_eq_true (by omega))) ibNil))))
abbrev Out (w0 : World) := Yes Tryz.prog Tryz.f3 (Kp.below w0.heap.size) w0
noncomputable abbrev act0 (x n t v : Int) : Act := { tmps := #[.int .i64 x, .int .i64 n, .int .i64 t, .int .i64 v] ++ Array.replicate (Tryz.f3.ntmps - 4) undef, defers := [] }
theorem startE (U : Tab) (hg : U.gv = fun _ _ => none) (hg2 : U.fv = fun _ _ => none) (h0 : U.iv 0 = (.i64, x)) (h1 : U.iv 1 = (.i64, n)) (h2 : U.iv 2 = (.i64, t)) (h3 : U.iv 3 = (.i64, v)) (w : World) : St U (Kp.below w.heap.size) w (fun _ => none) Tryz.f3.ntmps (T.ofList 0 .leaf [.oi 0, .oi 1, .oi 2, .oi 3]) H.empty (act0 x n t v) w := by
  letI := U
  refine @St.start U [.oi 0, .oi 1, .oi 2, .oi 3] #[.int .i64 x, .int .i64 n, .int .i64 t, .int .i64 v] Tryz.f3.ntmps w ⟨fun g o a h => (by rw [hg] at h; cases h), fun g o a h => (by rw [hg2] at h; cases h)⟩ ?_ (show 4 ≤ Tryz.f3.ntmps by decide +kernel) (show 4 < limit by decide)
  refine ⟨_, _, rfl, ?_, _, _, rfl, ?_, _, _, rfl, ?_, _, _, rfl, ?_, rfl⟩
  · simp only [vrel]; rw [h0]
  · simp only [vrel]; rw [h1]
  · simp only [vrel]; rw [h2]
  · simp only [vrel]; rw [h3]
theorem heapKinds_any (x : Int) (n t v : Int) (hv1 : -9223372036854775808 ≤ v) (hv2 : v ≤ 9223372036854775807) (w : World) : Calls Tryz.prog 3 #[.int .i64 x, .int .i64 n, .int .i64 t, .int .i64 v] w fun e w' => e = .returned (.bool true) ∧ Below w.heap.size w w' := by
  refine yes_calls Tryz.func3 body_eq w ?_
  show body.wp Tryz.prog (Out w) (act0 x n t v) w
  have out : ∀ {ib : List BRow} (h : ∀ r ∈ ib, IbOk (ivE x n t v) r), runTrue (only h).tab Tryz.prog KH 1000 Tryz.f3 body (T.ofList 0 .leaf [.oi 0, .oi 1, .oi 2, .oi 3]) H.empty = true → body.wp Tryz.prog (Out w) (act0 x n t v) w := fun h e =>
    @runTrue_sound _ _ _ _ _ _ (only h).tab _ _ mx KH (@sumsHand_ok (only h).tab Tryz.prog _ (@tabG_ok (only h).tab)) 1000 Tryz.f3 body e (startE (only h).tab rfl rfl rfl rfl rfl rfl w)
  by_cases h1 : n < 1
  · exact out (e1 h1) (by kernel_rfl)
  by_cases h2 : n > 100
  · exact out (e2 h1 h2) (by kernel_rfl)
  by_cases h3 : t < 0
  · exact out (e3 h1 h2 h3) (by kernel_rfl)
  by_cases h4 : t ≥ n
  · exact out (e4 h1 h2 h3 h4) (by kernel_rfl)
  obtain ⟨n, rfl⟩ : ∃ m : Nat, n = (m : Int) := ⟨n.toNat, by omega⟩
  obtain ⟨t, rfl⟩ : ∃ m : Nat, t = (m : Int) := ⟨t.toNat, by omega⟩
  have hn : n ≤ 100 := by omega
  have ht : t < n := by omega
  have k1 : x.tmod 6 < 6 := Int.tmod_lt_of_pos _ (by decide)
  have k2 : -6 < x.tmod 6 := Int.lt_tmod_of_pos _ (by decide)
  have k3 : (x.tmod 6 + 6).tmod 6 = (x.tmod 6 + 6) % 6 := Int.tmod_eq_emod_of_nonneg (by omega)
  obtain h | h | h | h | h | h : (x.tmod 6 + 6).tmod 6 = 0 ∨ (x.tmod 6 + 6).tmod 6 = 1 ∨ (x.tmod 6 + 6).tmod 6 = 2 ∨ (x.tmod 6 + 6).tmod 6 = 3 ∨ (x.tmod 6 + 6).tmod 6 = 4 ∨ (x.tmod 6 + 6).tmod 6 = 5 := by omega
  · exact kind0.heapKinds_in x h hv1 hv2 hn ht (startE (kind0.RB (v := v) h hn ht).tab rfl rfl rfl rfl rfl rfl w)
  · exact kind1.heapKinds_in x h hv1 hv2 hn ht (startE (kind1.RB (v := v) h hn ht).tab rfl rfl rfl rfl rfl rfl w)
  · exact kind2.heapKinds_in x h hv1 hv2 hn ht (startE (kind2.RB (v := v) h hn ht).tab rfl rfl rfl rfl rfl rfl w)
  · exact kind3.heapKinds_in x h hv1 hv2 hn ht (startE (kind3.RB (v := v) h hn ht).tab rfl rfl rfl rfl rfl rfl w)
  · exact kind4.heapKinds_in x h hv1 hv2 hn ht (startE (kind4.RB (v := v) h hn ht).tab rfl rfl rfl rfl rfl rfl w)
  · exact kind5.heapKinds_in x h hv1 hv2 hn ht (startE (kind5.RB (v := v) h hn ht).tab rfl rfl rfl rfl rfl rfl w)
end
end Go.Proofs.YtdknapjpeegooaaGreatDoor.kinds
