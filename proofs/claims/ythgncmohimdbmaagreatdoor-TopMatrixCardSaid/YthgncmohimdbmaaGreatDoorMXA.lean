/-
  Steps of the machine within the law TopMatrix.
-/
import Derived.Test.YthgncmohimdbmaaGreatDoorMXS
import Derived.Test.YthgncmohimdbmaaGreatDoorXN3
import Derived.Test.YthgncmohimdbmaaGreatDoorMBM
import Derived.Test.YthgncmohimdbmaaGreatDoorProg
import Derived.KernelRfl
set_option linter.unusedSectionVars false
set_option linter.unusedVariables false
set_option maxRecDepth 1000000
set_option maxHeartbeats 0
namespace Go.Proofs.YthgncmohimdbmaaGreatDoor.mx
open Go.X Go.RowKit Go.Proofs.YthgncmohimdbmaaGreatDoor
section
variable {B : Kp} {w0 : World} {μ : M} {a : Act} {w : World}
theorem ibA {n : Nat} {m : Nat} {tw : Nat} {W : Nat → BitVec 64} {F : Nat → Int} (h1 : n < 20) (h2 : m < 20) (h3 : tw < 900) : ∀ x_ ∈ ([] : List BRow), IbOk (ivA n m tw W F) x_ := by
  letI := Tab.empty
  exact ibNil
theorem icA {n : Nat} {m : Nat} {tw : Nat} {W : Nat → BitVec 64} {F : Nat → Int} (h1 : n < 20) (h2 : m < 20) (h3 : tw < 900) : ∀ x_ ∈ ([] : List (IntKind × AV × AV)), IcOk' (ivA n m tw W F) x_ := icNil
theorem vlA {n : Nat} {m : Nat} {tw : Nat} {W : Nat → BitVec 64} {F : Nat → Int} (h1 : n < 20) (h2 : m < 20) (h3 : tw < 900) : ∀ x_ ∈ ([] : List VL), VlOk (ivA n m tw W F) (vvA n m tw W F) x_ :=
  allNil
theorem vsA {n : Nat} {m : Nat} {tw : Nat} {W : Nat → BitVec 64} {F : Nat → Int} (h1 : n < 20) (h2 : m < 20) (h3 : tw < 900) : ∀ x_ ∈ ([] : List VS), VsOk (ivA n m tw W F) (vvA n m tw W F) (vkA n m tw W F) x_ :=
  allNil
theorem vzA {n : Nat} {m : Nat} {tw : Nat} {W : Nat → BitVec 64} {F : Nat → Int} (h1 : n < 20) (h2 : m < 20) (h3 : tw < 900) : ∀ x_ ∈ ([] : List VZ), VzOk (ivA n m tw W F) (vvA n m tw W F) (vkA n m tw W F) x_ :=
  allNil
theorem vaA {n : Nat} {m : Nat} {tw : Nat} {W : Nat → BitVec 64} {F : Nat → Int} (h1 : n < 20) (h2 : m < 20) (h3 : tw < 900) : ∀ x_ ∈ ([] : List VA), VaOk (ivA n m tw W F) (vvA n m tw W F) (vkA n m tw W F) x_ :=
  allNil
abbrev RA {n : Nat} {m : Nat} {tw : Nat} {W : Nat → BitVec 64} {F : Nat → Int} (h1 : n < 20) (h2 : m < 20) (h3 : tw < 900) : VRows (ivA n m tw W F) (vvA n m tw W F) (vkA n m tw W F) where
  vvp := vpA n m tw W F
  ib := []
  ibok := ibA h1 h2 h3
  ic := []
  icok := icA h1 h2 h3
  vl := []
  vlok := vlA h1 h2 h3
  vs := []
  vsok := vsA h1 h2 h3
  vz := []
  vzok := vzA h1 h2 h3
  va := []
  vaok := vaA h1 h2 h3
  vc := []
  vcok := allNil
noncomputable abbrev rl_goA : List (Nat × Nat) := [(20000, 20000), (20001, 20001), (20002, 20002), (20003, 20003), (20004, 20004), (20005, 20005), (20006, 20006), (20007, 20007), (20008, 20008), (20010, 20010), (20011, 20011), (20012, 20012)]
noncomputable abbrev bs_goA : BS := [(10416, 10416, kb11), (10422, 10422, kb0), (13762, 13762, kb1), (13763, 13763, kb2), (13765, 13765, (.map [((.str 10 345494350552775703080525), (.oi 6), 0)] 1)), (13766, 13766, kb12), (14064, 14064, kb3), (14391, 14391, kb4), (15753, 15753, kb5), (15758, 15758, kb6), (20000, 20000, kb7), (20001, 20001, kb14), (20002, 20002, kb15), (20003, 20003, (.vec 0)), (20004, 20004, (.vec 1)), (20005, 20005, kb10), (20006, 20006, kb13), (20007, 20007, (.cells 1 true [] (T.ofList 0 .leaf [(.ptr 20008 0)]))), (20008, 20008, (.cells 6 false [] (T.ofList 0 .leaf [(.int .i64 0), (.int .i64 0), (.ptr 14064 0), (.int .i64 0), (.int .i64 15), .nilp]))), (20010, 20010, kb8), (20011, 20011, kb9)]
noncomputable abbrev ip_goA : IP := [(.oi 4, 8), (.oi 5, 9), (.int .i64 10, 6), (.oi 0, 0), (.oi 1, 1), (.int .i64 0, 2), (.int .i64 0, 4), (.oi 3, 5), (.int .i64 0, 3), (.oi 2, 7)]
theorem bq_goA : hOf 20040 bs_goA = hOf 20040 bsR := hOf_congr (by kernel_rfl)
theorem goA {n : Nat} {m : Nat} {tw : Nat} {W : Nat → BitVec 64} {F : Nat → Int} (h1 : n < 20) (h2 : m < 20) (h3 : tw < 900) (hb : Base B μ 20000) {Q : Exit → Act → World → Prop} {j_ : Nat} (s_ : SA n m tw W F B w0 μ a w) (hQ : ∀ a' w', SR (n) (m) (0) (0) (0) (10) (tw) (W) (F) B w0 μ a' w' → Code.rounds Tryz.prog la Q j_ a' w') : Code.rounds Tryz.prog la Q (j_ + 3) a w := by
  have hip : IpOk ((RA (n := n) (m := m) (tw := tw) (W := W) (F := F) h1 h2 h3).tab) (PR (n) (m) (0) (0) (0) (10) (tw) (W) (F)) ip_goA := (ipCons (ipN (.i64, ((tw + 11 : Nat) : Int)) rfl rfl) (ipCons (ipN (.i64, ((n + 4 : Nat) : Int)) rfl rfl) (ipCons (ipK (show (IntKind.i64, ((10 : Nat) : Int)) = (IntKind.i64, 10) from Prod.ext rfl (show (((10 : Nat) : Int) : Int) = 10 by omega))) (ipCons (ipN (.i64, ((n : Nat) : Int)) rfl rfl) (ipCons (ipN (.i64, ((m : Nat) : Int)) rfl rfl) (ipCons (ipK (show (IntKind.i64, ((0 : Nat) : Int)) = (IntKind.i64, 0) from Prod.ext rfl (show (((0 : Nat) : Int) : Int) = 0 by omega))) (ipCons (ipK (show (IntKind.i64, ((0 : Nat) : Int)) = (IntKind.i64, 0) from Prod.ext rfl (show (((0 : Nat) : Int) : Int) = 0 by omega))) (ipCons (ipN (.i64, ((9 : Nat) : Int)) rfl rfl) (ipCons (ipK (show (IntKind.i64, ((0 : Nat) : Int)) = (IntKind.i64, 0) from Prod.ext rfl (show (((0 : Nat) : Int) : Int) = 0 by omega))) (ipCons (ipN (.u64, ((n : Nat) : Int)) rfl rfl) ipNil))))))))))
  have hvp : VpOk ((RA (n := n) (m := m) (tw := tw) (W := W) (F := F) h1 h2 h3).tab) (PR (n) (m) (0) (0) (0) (10) (tw) (W) (F)) ⟨20000, 20040, ofPairs rl_goA, ip_goA⟩ [(20003, .vec 0, 0), (20004, .vec 1, 1)] := (vpCons (vpW (T := ((RA (n := n) (m := m) (tw := tw) (W := W) (F := F) h1 h2 h3).tab)) (T' := (PR (n) (m) (0) (0) (0) (10) (tw) (W) (F))) (i := 0) (i' := 0) hip (L := [(.int .u64 0), (.int .u64 0), (.int .u64 1), (.int .u64 0), (.int .u64 0), (.int .u64 2), (.int .u64 0), (.int .u64 0), (.int .u64 3), (.int .u64 0), (.oi 2)]) (L' := [(.int .u64 0), (.int .u64 0), (.int .u64 1), (.int .u64 0), (.int .u64 0), (.int .u64 2), (.int .u64 0), (.int .u64 0), (.int .u64 3), (.int .u64 0), (.oi 7)]) (n := 11 + tw) (n' := 11 + tw) (W := W) (W' := W) rfl rfl (Nat.le_refl _) (Nat.le_refl _) (by decide) (show 11 ≤ 11 + tw by omega) (by kernel_rfl) (fun _ _ h_ => vw_none (Nat.le_add_right _ _) h_) (fun q_ _ => congrArg (W) (show q_ = 0 + q_ from (Nat.zero_add q_).symm)))
    (vpCons (vpN (T := ((RA (n := n) (m := m) (tw := tw) (W := W) (F := F) h1 h2 h3).tab)) (T' := (PR (n) (m) (0) (0) (0) (10) (tw) (W) (F))) (i := 1) (i' := 1) hip (L := [(.int .i64 0), (.int .i64 2), (.int .i64 5), (.int .i64 8)]) (L' := [(.int .i64 0), (.int .i64 2), (.int .i64 5), (.int .i64 8)]) (n := n + 4) (n' := n + 4) (F := F) (F' := F) rfl rfl (Nat.le_refl _) (Nat.le_refl _) (by decide) (show 4 ≤ n + 4 by omega) (by kernel_rfl) (fun _ _ h_ => vw_none (Nat.le_add_right _ _) h_) (fun q_ _ => congrArg (F) (show q_ = 0 + q_ from (Nat.zero_add q_).symm)))
    vpNil))
  exact stepsTo_sound (T := ((RA (n := n) (m := m) (tw := tw) (W := W) (F := F) h1 h2 h3).tab)) (T' := (PR (n) (m) (0) (0) (0) (10) (tw) (W) (F))) (K := Hand.none) (m := 5000) mixed (@HandOk.none ((RA (n := n) (m := m) (tw := tw) (W := W) (F := F) h1 h2 h3).tab) Tryz.prog) (C := ⟨20000, 20040, ofPairs rl_goA, ip_goA⟩) (ex := .normal) (rl := rl_goA) (vp := [(20003, .vec 0, 0), (20004, .vec 1, 1)]) (fs := fsR) (bs := bs_goA)
    hb (by decide) rfl (by kernel_rfl) hip hvp (glNone rfl rfl) (by as_aux_lemma => kernel_rfl) (St.same (VRows.same _ _) s_) (fun a' w' q => hQ a' w' (by rw [bq_goA] at q; exact q))
end
end Go.Proofs.YthgncmohimdbmaaGreatDoor.mx
