/-
  The instruction that makes the arrays: from the state ahead of it to the state behind it.
-/
import Derived.Test.YthgncmohimdbmaaGreatDoorMXB
import Derived.Test.YthgncmohimdbmaaGreatDoorXN3
import Derived.Test.YthgncmohimdbmaaGreatDoorMBM
import Derived.Test.YthgncmohimdbmaaGreatDoorProg
import Derived.KernelRfl
set_option linter.unusedSectionVars false
set_option linter.unusedVariables false
set_option maxRecDepth 1000000
set_option maxHeartbeats 0
namespace Go.Proofs.YthgncmohimdbmaaGreatDoor.mx
open Go.X Go.RowKit Go.Proofs.YthgncmohimdbmaaGreatDoor
theorem pw_k (n m : Nat) : ∀ k, k < 200 → vkN n m (pwN k) = en n m k
  | 0, _ => by rw [en0]; rfl
  | k + 1, h => vkN_v n m k 3 (by decide) (by omega)
theorem ps_k (n m : Nat) : ∀ k, vkN n m (psN k) = k + 4
  | 0 => rfl
  | k + 1 => vkN_s n m k
abbrev lA : List AV := [(.int .u64 0), (.int .u64 0), (.int .u64 1), (.int .u64 0), (.int .u64 0), (.int .u64 2), (.int .u64 0), (.int .u64 0), (.int .u64 3), (.int .u64 0), (.oi 2)]
abbrev lS : List AV := [(.int .i64 0), (.int .i64 2), (.int .i64 5), (.int .i64 8)]
noncomputable def rlM (n : Nat) : List (Nat × Nat) := [(20000, 20000), (20001, 20001), (20002, 20002), (20003, 20131 + 18 * n), (20004, 20133 + 18 * n), (20005, 20148), (20006, 20006), (20007, 20007), (20008, 20008), (20010, 20010), (20011, 20011), (20012, 20012)]
noncomputable def bsM (n : Nat) : BS := [(10416, 10416, (.cells 5 false [] (T.ofList 0 .leaf [(.ptr 7163 0), (.ov 20003 4 1), (.ov 20004 5 1), (.so 20005 0 5 3), (.map 10415)]))), (10422, 10422, (.cells 7 false [] (T.ofList 0 .leaf [(.ptr 10416 0), (.ptr 10418 0), (.ptr 7163 0), (.so 11136 0 39 3), .nils, (.bool false), (.bool false)]))), (13762, 13762, (.cells 4 false [] (T.ofList 0 .leaf [(.so 20001 0 7 1), (.so 20002 0 7 1), (.so 20006 0 1 7), (.int .i64 15)]))), (13763, 13763, (.map [((.str 1 77), (.ptr 20010 0), 0), ((.str 16 154706541852025644484233205990057992554), (.ptr 20011 0), 1)] 2)), (13765, 13765, (.map [((.str 10 345494350552775703080525), (.int .i64 7), 0)] 1)), (13766, 13766, (.cells 32 false [] (ofPairs [(0, (.ptr 7163 0)), (1, (.ptr 10421 0)), (2, (.ptr 10416 0)), (3, (.ptr 10418 0)), (4, (.ptr 10422 0)), (5, (.ptr 13762 0)), (6, (.so 20007 0 1 1)), (7, (.map 13763)), (8, (.map 13764)), (10, (.int .i64 1)), (11, (.int .i64 3)), (12, (.int .i64 6)), (13, (.int .i64 0)), (14, .nilp), (15, (.bool true)), (16, (.int .i64 100000)), (17, (.int .i64 7)), (18, (.int .i64 0)), (19, (.int .i64 1)), (20, (.int .i64 0)), (21, (.int .i64 0)), (22, (.int .u8 0)), (23, (.int .i64 0)), (24, (.str 0 0)), (25, (.str 0 0)), (26, (.bool false)), (27, (.int .i64 0)), (28, .nils), (29, (.int .i64 0)), (30, (.int .i64 0)), (31, (.map 13765))]))), (14064, 14064, (.cells 8 false [] (T.ofList 0 .leaf [(.int .i64 52), (.sl 14066 0 11 11), (.int .i64 33), (.str 1 77), (.str 16 154706541852025644484233205990057992554), .nils, .nils, (.so 15758 0 1 9)]))), (14391, 14391, (.cells 64 true [] (T.ofList 0 .leaf [(.int .u8 3), (.int .u8 61), (.int .u8 3), (.int .u8 62), (.int .u8 26), (.int .u8 27), (.int .u8 197), (.int .u8 0), (.int .u8 2), (.int .u8 2), (.int .u8 58), (.int .u8 4), (.int .u8 3), (.int .u8 54), (.int .u8 5), (.int .u8 28), (.int .u8 26), (.int .u8 162), (.int .u8 0), (.int .u8 44), (.int .u8 3), (.int .u8 62), (.int .u8 29), (.int .u8 27), (.int .u8 162), (.int .u8 0), (.int .u8 31), (.int .u8 25), (.int .u8 4), (.int .u8 28), (.int .u8 50), (.int .u8 29), (.int .u8 28), (.int .u8 4), (.int .u8 96), (.int .u8 29), (.int .u8 104), (.int .u8 79), (.int .u8 21), (.int .u8 5), (.int .u8 25), (.int .u8 4), (.int .u8 28), (.int .u8 50), (.int .u8 29), (.int .u8 46), (.int .u8 96), (.int .u8 54), (.int .u8 5), (.int .u8 132), (.int .u8 3), (.int .u8 1), (.int .u8 167), (.int .u8 255), (.int .u8 226), (.int .u8 132), (.int .u8 2), (.int .u8 1), (.int .u8 167), (.int .u8 255), (.int .u8 213), (.int .u8 21), (.int .u8 5), (.int .u8 172)]))), (15753, 15753, (.cells 16 true [] (T.ofList 0 .leaf [(.int .i64 255), (.int .i64 15), (.so 15645 0 6 3), .nils, (.int .i64 255), (.int .i64 6), (.so 15680 0 6 3), .nils, (.int .i64 255), (.int .i64 32), (.so 15715 0 6 3), .nils, (.int .i64 255), (.int .i64 5), (.so 15750 0 6 3), .nils]))), (15758, 15758, (.cells 9 true [] (T.ofList 0 .leaf [(.int .i64 9), (.str 2 28519), (.str 5 314225281320), (.bool true), (.int .i64 5), (.int .i64 6), (.so 14391 0 64 1), .nils, (.so 15753 0 4 4)]))), (20000, 20000, (.cells 11 false [] (T.ofList 0 .leaf [(.int .i64 0), (.int .i64 0), (.int .u8 0), (.int .i64 0), (.str 0 0), (.str 0 0), (.bool false), (.int .i64 0), .nils, (.int .i64 0), (.int .i64 0)]))), (20001, 20001, (.cells 7 true [] (T.ofList 0 .leaf [(.oi 0), (.oi 1), (.int .i64 0), (.int .i64 0), (.int .i64 0), (.int .i64 0), (.oi 3)]))), (20002, 20002, (.cells 7 true [] (T.ofList 0 .leaf [(.bool false), (.bool false), (.bool false), (.bool false), (.bool false), (.bool false), (.bool true)]))), (20003, 20131 + 18 * n, (.vec 0)), (20004, 20133 + 18 * n, (.vec 1)), (20005, 20148, (.cells 15 true [] (T.ofList 0 .leaf [(.str 19 2439265639030268300842157990401791553877467498), .nils, (.int .u8 0), (.str 28 12051447909911140811364177168575840195048631602135540194265359868266), (.so 13885 0 1 1), (.int .u8 0), (.str 26 183890501555043540957095622503328518117729969598634276033028458), (.so 13981 0 1 1), (.int .u8 0), (.str 3 4807515), .nils, (.int .u8 76), (.str 2 18779), .nils, (.int .u8 73)]))), (20006, 20006, (.cells 7 true [] (ofPairs [(0, (.int .i64 0)), (1, (.int .i64 0)), (3, (.int .i64 0)), (4, (.int .i64 6)), (5, (.int .i64 5)), (6, (.int .i64 1))]))), (20007, 20007, (.cells 1 true [] (T.ofList 0 .leaf [(.ptr 20008 0)]))), (20008, 20008, (.cells 6 false [] (T.ofList 0 .leaf [(.int .i64 0), (.int .i64 0), (.ptr 14064 0), (.int .i64 0), (.int .i64 10), .nilp]))), (20010, 20010, (.cells 2 false [] (T.ofList 0 .leaf [(.int .i64 2), (.sl 20012 0 0 0)]))), (20011, 20011, (.cells 2 false [] (T.ofList 0 .leaf [(.int .i64 2), .nils])))]
noncomputable def ipM (n : Nat) : IP := [(.oi 0, 0), (.oi 1, 1), (.oi 12, 3), (.oi (eN n), 4), (.oi (sN n), 5)]
noncomputable def CM (n : Nat) : Cv := ⟨20000, 20040, ofPairs (rlM n), ipM n⟩
noncomputable def vpM (n : Nat) : VP := [(20131 + 18 * n, .vec (pwN n), 0), (20133 + 18 * n, .vec (psN n), 1)]
def NAt (n : Nat) : Prop := okRn (CM n) (rlM n) = true ∧ ∀ (m : Nat) (h1 : n < 20) (h2 : m < 20), stepsTo (RN h1 h2).tab Tryz.prog (hkN n) 5000 Tryz.f42.ntmps 1 la (frOf fsR) (hOf 20040 bsN) .normal (CM n) (vpM n) fsR (bsM n) = true
theorem bq_M (n : Nat) : hOf 20040 (bsM n) = hOf 20040 bsA := hOf_congr (by kernel_rfl)
section
variable {B : Kp} {w0 : World} {μ : M} {a : Act} {w : World}
theorem goN {n m : Nat} (hN : NAt n) (h1 : n < 20) (h2 : m < 20) (hb : Base B μ 20000) {Q : Exit → Act → World → Prop} {j_ : Nat} (s_ : SN n m B w0 μ a w) (hQ : ∀ a' w', SA n m (en n m n - 11) (fun q => wp n m n (q + 3)) (fun q => fb n m (q + 1)) B w0 μ a' w' → Code.rounds Tryz.prog la Q j_ a' w') : Code.rounds Tryz.prog la Q (j_ + 1) a w := by
  have hlo := en_lo n m n
  have r0 : wp n m n 0 = 3#64 := wp_row n (Nat.le_refl _) 0 (by omega)
  have r1 : wp n m n 1 = 0#64 := wp_row n (Nat.le_refl _) 1 (by omega)
  have r2 : wp n m n 2 = BitVec.ofNat 64 n := wp_row n (Nat.le_refl _) 2 (by omega)
  have hip : IpOk ((RN h1 h2).tab) (PA n m (en n m n - 11) (fun q => wp n m n (q + 3)) (fun q => fb n m (q + 1))) (CM n).ip :=
    ipCons (ipN (.i64, ((n : Nat) : Int)) rfl rfl) (ipCons (ipN (.i64, ((m : Nat) : Int)) rfl rfl) (ipCons (ipN (.i64, ((9 : Nat) : Int)) rfl rfl) (ipCons (ipN (.i64, ((en n m n : Nat) : Int)) (eN_at n m n) (show (IntKind.i64, ((en n m n - 11 + 11 : Nat) : Int)) = (IntKind.i64, ((en n m n : Nat) : Int)) from by rw [show en n m n - 11 + 11 = en n m n by omega])) (ipCons (ipN (.i64, ((n + 4 : Nat) : Int)) (sN_at n m n) rfl) ipNil))))
  have hvp : VpOk ((RN h1 h2).tab) (PA n m (en n m n - 11) (fun q => wp n m n (q + 3)) (fun q => fb n m (q + 1))) (CM n) (vpM n) := (vpCons (vpW (T := ((RN h1 h2).tab)) (T' := (PA n m (en n m n - 11) (fun q => wp n m n (q + 3)) (fun q => fb n m (q + 1)))) (i := pwN n) (i' := 0) hip (L := l8) (L' := lA) (n := en n m n) (n' := 11 + (en n m n - 11)) (W := wp n m n) (W' := fun q => wp n m n (q + 3)) (pw_v n m n (by omega)) rfl (show 11 + (en n m n - 11) ≤ vkN n m (pwN n) by rw [pw_k n m n (by omega)]; omega) (by omega) (by decide) (show 11 ≤ en n m n by omega) (by kernel_rfl)
      (fun q_ x_ h_ μ v hv => (by
        match q_, h_ with
        | 0, h_ => cases h_; rw [hv, r0]; simp only [vrel]; rfl
        | 1, h_ => cases h_; rw [hv, r1]; simp only [vrel]; rfl
        | 2, h_ => cases h_; rw [hv, r2]; (show Value.int .u64 (wI (BitVec.ofNat 64 n)) = Value.int .u64 ((n : Nat) : Int)); rw [wI_ofNat (by omega)]
        | q_ + 3, h_ => exact absurd h_ (by rw [List.getElem?_eq_none (by show 11 ≤ 8 + (q_ + 3); omega)]; exact nofun)))
      (fun q_ _ => (by show wp n m n (q_ + 3) = wp n m n (3 + q_); rw [Nat.add_comm])))
    (vpCons (vpN (T := ((RN h1 h2).tab)) (T' := (PA n m (en n m n - 11) (fun q => wp n m n (q + 3)) (fun q => fb n m (q + 1)))) (i := psN n) (i' := 1) hip (L := l3) (L' := lS) (n := n + 4) (n' := n + 4) (F := fb n m) (F' := fun q => fb n m (q + 1)) (ps_v n m n) rfl (show n + 4 ≤ vkN n m (psN n) by rw [ps_k]; omega) (Nat.le_refl _) (by decide) (show 4 ≤ n + 4 by omega) (by kernel_rfl)
      (fun q_ x_ h_ μ v hv => (by
        match q_, h_ with
        | 0, h_ => cases h_; rw [hv]; simp only [vrel]; rfl
        | q_ + 1, h_ => exact absurd h_ (by rw [List.getElem?_eq_none (by show 4 ≤ 3 + (q_ + 1); omega)]; exact nofun)))
      (fun q_ _ => (by show fb n m (q_ + 1) = fb n m (1 + q_); rw [Nat.add_comm])))
    vpNil))
  exact stepsTo_sound (T := ((RN h1 h2).tab)) (T' := (PA n m (en n m n - 11) (fun q => wp n m n (q + 3)) (fun q => fb n m (q + 1)))) (K := hkN n) (m := 5000) mixed (hkN_ok h1 h2 n (Nat.le_refl _)) (C := CM n) (ex := .normal) (rl := rlM n) (vp := vpM n) (fs := fsR) (bs := bsM n)
    hb (show 20000 ≤ 20040 by decide) rfl hN.1 hip hvp (glNone rfl rfl) (hN.2 m h1 h2) (St.same (VRows.same _ _) s_) (fun a' w' q => hQ a' w' (by rw [show hOf (CM n).N (bsM n) = hOf 20040 bsA from bq_M n] at q; exact q))
end
end Go.Proofs.YthgncmohimdbmaaGreatDoor.mx
