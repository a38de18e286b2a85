/-
  What the law TopSort gives.
-/
import Derived.Test.YtaabcpibfignfaaGreatDoorSOA
import Derived.Test.YtaabcpibfignfaaGreatDoorSON
set_option linter.unusedSectionVars false
set_option linter.unusedVariables false
set_option maxRecDepth 1000000
set_option maxHeartbeats 0
namespace Go.Proofs.YtaabcpibfignfaaGreatDoor.so
open Go.X Go.RowKit Go.Proofs.YtaabcpibfignfaaGreatDoor.tq Go.Proofs.YtaabcpibfignfaaGreatDoor
theorem ibAdd32 [Tab] {iv : Nat → IntKind × Int} {x y z : AV} {a b c : Int} (hx : denI iv x = some (.i32, a)) (hy : denI iv y = some (.i32, b)) (hz : denI iv z = some (.i32, c)) (h : wr (a + b) = c) : IbOk iv (0, x, y, z) := by
  intro op hop
  have : op = .add := by cases op <;> simp [bcode] at hop; rfl
  subst this
  refine ⟨.i32, a, .i32, b, _, hx, hy, rfl, ?_⟩
  show denI iv z = some (.i32, wrapF .i32 (Int.add a b))
  rw [wrapF_eq, show IntKind.i32.wrap (Int.add a b) = c from h]; exact hz
theorem ibMul32 [Tab] {iv : Nat → IntKind × Int} {x y z : AV} {a b c : Int} (hx : denI iv x = some (.i32, a)) (hy : denI iv y = some (.i32, b)) (hz : denI iv z = some (.i32, c)) (h : wr (a * b) = c) : IbOk iv (2, x, y, z) := by
  intro op hop
  have : op = .mul := by cases op <;> simp [bcode] at hop; rfl
  subst this
  refine ⟨.i32, a, .i32, b, _, hx, hy, rfl, ?_⟩
  show denI iv z = some (.i32, wrapF .i32 (Int.mul a b))
  rw [wrapF_eq, show IntKind.i32.wrap (Int.mul a b) = c from h]; exact hz
/-- the numbers of the law's last loop: four to a place -/
def EA (A : Nat → Nat) (m : Nat) : IntKind × Int := if m % 4 = 0 then (.i64, ((A (m / 4) : Nat) : Int)) else if m % 4 = 1 then (.i32, ((A (m / 4) : Nat) : Int)) else if m % 4 = 2 then (.i32, wr (sm A (m / 4) * 7)) else (.i32, sm A (m / 4 + 1))
theorem EA0 (A : Nat → Nat) (i : Nat) : EA A (4 * i) = (.i64, ((A i : Nat) : Int)) := by unfold EA; rw [if_pos (by omega), show 4 * i / 4 = i by omega]
theorem EA1 (A : Nat → Nat) (i : Nat) : EA A (4 * i + 1) = (.i32, ((A i : Nat) : Int)) := by unfold EA; rw [if_neg (by omega), if_pos (by omega), show (4 * i + 1) / 4 = i by omega]
theorem EA2 (A : Nat → Nat) (i : Nat) : EA A (4 * i + 2) = (.i32, wr (sm A i * 7)) := by unfold EA; rw [if_neg (by omega), if_neg (by omega), if_pos (by omega), show (4 * i + 2) / 4 = i by omega]
theorem EA3 (A : Nat → Nat) (i : Nat) : EA A (4 * i + 3) = (.i32, sm A (i + 1)) := by unfold EA; rw [if_neg (by omega), if_neg (by omega), if_neg (by omega), show (4 * i + 3) / 4 = i by omega]
def wN : Nat → AV
  | 0 => .int .i32 0
  | i + 1 => .oi (4 * i + 9)
def mN : Nat → AV
  | 0 => .int .i32 0
  | i + 1 => .oi (4 * (i + 1) + 8)
def cN : Nat → AV
  | 0 => .int .i64 0
  | _ + 1 => .oi 4
def rB : Nat → List BRow
  | 0 => []
  | i + 1 => (11, .int .i64 (i : Int), .oi 0, .bool true) :: (2, wN i, .int .i32 7, mN i) :: (0, mN i, .oi (4 * i + 7), .oi (4 * i + 9)) :: rB i
def rC : Nat → List (IntKind × AV × AV)
  | 0 => [(.i32, .oi 0, .oi 1), (.i64, .oi 1, .oi 0), (.i32, .oi 2, .oi 3), (.i64, .oi 3, .oi 2)]
  | i + 1 => (.i32, .oi (4 * i + 6), .oi (4 * i + 7)) :: rC i
def rD : Nat → List (IntKind × AV × AV)
  | 0 => rC 0
  | n + 1 => (.i64, .oi (4 * n + 9), .oi 4) :: rC (n + 1)
section
variable {x y c q : Int} {A : Nat → Nat}
theorem wN_ok (i : Nat) : denI (ivF' x y c q (EA A)) (wN i) = some (.i32, sm A i) := by
  cases i with
  | zero => rfl
  | succ i => show some (EA A (4 * i + 3)) = _; rw [EA3]
theorem mN_ok (i : Nat) : denI (ivF' x y c q (EA A)) (mN i) = some (.i32, wr (sm A i * 7)) := by
  cases i with
  | zero => show some (IntKind.i32, (0 : Int)) = some (.i32, wr (0 * 7)); decide
  | succ i => show some (EA A (4 * (i + 1) + 2)) = _; rw [EA2]
theorem rB_ok {n : Nat} (hx : x = n) : ∀ i, i ≤ n → ∀ r ∈ rB i, IbOk (ivF' x y c q (EA A)) r
  | 0, _ => ibNil
  | i + 1, h => by
    letI := Tab.empty
    refine ibCons (ibLt (a := (i : Int)) (b := x) rfl rfl (decide_eq_true (by omega))) (ibCons (ibMul32 (wN_ok i) (b := 7) rfl (mN_ok i) rfl) (ibCons (ibAdd32 (mN_ok i) (b := ((A i : Nat) : Int)) ?_ (c := sm A (i + 1)) ?_ rfl) (rB_ok hx i (by omega))))
    · show some (EA A (4 * i + 1)) = _; rw [EA1]
    · show some (EA A (4 * i + 3)) = _; rw [EA3]
theorem rC_ok (g1 : 0 ≤ x) (g2 : x < 25) (g3 : 0 ≤ y) (g4 : y < 1009) (hA : ∀ k, A k < 1009) : ∀ i, ∀ r ∈ rC i, IcOk' (ivF' x y c q (EA A)) r
  | 0 => icCons (ic32 (n := x) rfl rfl (by omega) (by omega)) (icCons (ic64 (n := x) rfl rfl (by omega) (by omega)) (icCons (ic32 (n := y) rfl rfl (by omega) (by omega)) (icCons (ic64 (n := y) rfl rfl (by omega) (by omega)) icNil)))
  | i + 1 => by
    have h := hA i
    refine icCons (ic32 (k := .i64) (n := ((A i : Nat) : Int)) ?_ ?_ (by omega) (by omega)) (rC_ok g1 g2 g3 g4 hA i)
    · show some (EA A (4 * i)) = _; rw [EA0]
    · show some (EA A (4 * i + 1)) = _; rw [EA1]
theorem rD_ok (g1 : 0 ≤ x) (g2 : x < 25) (g3 : 0 ≤ y) (g4 : y < 1009) (hA : ∀ k, A k < 1009) {n : Nat} (hc : c = sm A n) : ∀ r ∈ rD n, IcOk' (ivF' x y c q (EA A)) r := by
  cases n with
  | zero => exact rC_ok g1 g2 g3 g4 hA 0
  | succ n =>
    have h1 := sm_lo A (n + 1)
    have h2 := sm_hi A (n + 1)
    refine icCons (ic64 (k := .i32) (n := c) ?_ rfl (by omega) (by omega)) (rC_ok g1 g2 g3 g4 hA (n + 1))
    show some (EA A (4 * n + 3)) = _
    rw [EA3, hc]
abbrev RT {n : Nat} (hx : x = n) (g1 : 0 ≤ x) (g2 : x < 25) (g3 : 0 ≤ y) (g4 : y < 1009) (hA : ∀ k, A k < 1009) (hc : c = sm A n) : VRows (ivF' x y c q (EA A)) noV noK where
  vvp := noVp
  ib := (11, .int .i64 (n : Int), .oi 0, .bool false) :: (9, .oi 4, cN n, .bool true) :: rB n
  ibok := by
    letI := Tab.empty
    refine ibCons (ibLt (a := (n : Int)) (b := x) rfl rfl (decide_eq_false (by omega))) (ibCons (ibEq (a := c) (b := c) rfl ?_ (decide_eq_true rfl)) (rB_ok hx n (Nat.le_refl _)))
    cases n with
    | zero => show some (IntKind.i64, (0 : Int)) = some (.i64, c); rw [hc]; rfl
    | succ n => rfl
  ic := rD n
  icok := rD_ok g1 g2 g3 g4 hA hc
end
noncomputable def cellsM (i : Nat) : Blk := .cells i true [] (X.T.ofList 0 .leaf ((List.range i).map fun m => .oi (4 * m + 6)))
noncomputable def bsAM : Nat → BS
  | 0 => []
  | i + 1 => [(17250, 17250, cellsM (i + 1))]
noncomputable abbrev bsM (i : Nat) : BS := bsL ++ bsAM i
def TlAt (n : Nat) : Prop := ∀ {x y c q : Int} {A : Nat → Nat} (hx : x = n) (g1 : 0 ≤ x) (g2 : x < 25) (g3 : 0 ≤ y) (g4 : y < 1009) (hA : ∀ k, A k < 1009) (hc : c = sm A n), runTrue (RT (q := q) hx g1 g2 g3 g4 hA hc).tab Tryz.prog ((inHand CR).or K_top0) 5000 Tryz.f3 tlL (frOf (fsM n)) (hOf 17251 (bsM n)) = true
def ipM (n : Nat) : IP := (.oi 0, 0) :: (.oi 2, 2) :: (List.range n).map fun m => (.oi (m + 6), 4 * m + 6)
def MAt (n : Nat) : Prop := ∀ {y s : Nat} {A : Nat → Nat}, runTo (RHx (n := n) (y := y) (s := s) (A := A)).tab Tryz.prog HN 300 NT c1 (frOf (fsL n)) (hOf 17251 (bsK n)) (.exit 0) ⟨0, 17251, ofPairs (rlK n), ipM n⟩ [] (fsM n) (bsM n) = true
theorem tl_0 : TlAt 0 := fun hx g1 g2 g3 g4 hA hc => by as_aux_lemma => kernel_rfl
theorem m_0 : MAt 0 := @fun _ _ _ => by as_aux_lemma => kernel_rfl
theorem tl_1 : TlAt 1 := fun hx g1 g2 g3 g4 hA hc => by as_aux_lemma => kernel_rfl
theorem m_1 : MAt 1 := @fun _ _ _ => by as_aux_lemma => kernel_rfl
theorem tl_2 : TlAt 2 := fun hx g1 g2 g3 g4 hA hc => by as_aux_lemma => kernel_rfl
theorem m_2 : MAt 2 := @fun _ _ _ => by as_aux_lemma => kernel_rfl
theorem tl_3 : TlAt 3 := fun hx g1 g2 g3 g4 hA hc => by as_aux_lemma => kernel_rfl
theorem m_3 : MAt 3 := @fun _ _ _ => by as_aux_lemma => kernel_rfl
theorem tl_4 : TlAt 4 := fun hx g1 g2 g3 g4 hA hc => by as_aux_lemma => kernel_rfl
theorem m_4 : MAt 4 := @fun _ _ _ => by as_aux_lemma => kernel_rfl
theorem tl_5 : TlAt 5 := fun hx g1 g2 g3 g4 hA hc => by as_aux_lemma => kernel_rfl
theorem m_5 : MAt 5 := @fun _ _ _ => by as_aux_lemma => kernel_rfl
theorem tl_6 : TlAt 6 := fun hx g1 g2 g3 g4 hA hc => by as_aux_lemma => kernel_rfl
theorem m_6 : MAt 6 := @fun _ _ _ => by as_aux_lemma => kernel_rfl
theorem tl_7 : TlAt 7 := fun hx g1 g2 g3 g4 hA hc => by as_aux_lemma => kernel_rfl
theorem m_7 : MAt 7 := @fun _ _ _ => by as_aux_lemma => kernel_rfl
theorem tl_8 : TlAt 8 := fun hx g1 g2 g3 g4 hA hc => by as_aux_lemma => kernel_rfl
theorem m_8 : MAt 8 := @fun _ _ _ => by as_aux_lemma => kernel_rfl
theorem tl_9 : TlAt 9 := fun hx g1 g2 g3 g4 hA hc => by as_aux_lemma => kernel_rfl
theorem m_9 : MAt 9 := @fun _ _ _ => by as_aux_lemma => kernel_rfl
theorem tl_10 : TlAt 10 := fun hx g1 g2 g3 g4 hA hc => by as_aux_lemma => kernel_rfl
theorem m_10 : MAt 10 := @fun _ _ _ => by as_aux_lemma => kernel_rfl
theorem tl_11 : TlAt 11 := fun hx g1 g2 g3 g4 hA hc => by as_aux_lemma => kernel_rfl
theorem m_11 : MAt 11 := @fun _ _ _ => by as_aux_lemma => kernel_rfl
theorem tl_12 : TlAt 12 := fun hx g1 g2 g3 g4 hA hc => by as_aux_lemma => kernel_rfl
theorem m_12 : MAt 12 := @fun _ _ _ => by as_aux_lemma => kernel_rfl
theorem tl_13 : TlAt 13 := fun hx g1 g2 g3 g4 hA hc => by as_aux_lemma => kernel_rfl
theorem m_13 : MAt 13 := @fun _ _ _ => by as_aux_lemma => kernel_rfl
theorem tl_14 : TlAt 14 := fun hx g1 g2 g3 g4 hA hc => by as_aux_lemma => kernel_rfl
theorem m_14 : MAt 14 := @fun _ _ _ => by as_aux_lemma => kernel_rfl
theorem tl_15 : TlAt 15 := fun hx g1 g2 g3 g4 hA hc => by as_aux_lemma => kernel_rfl
theorem m_15 : MAt 15 := @fun _ _ _ => by as_aux_lemma => kernel_rfl
theorem tl_16 : TlAt 16 := fun hx g1 g2 g3 g4 hA hc => by as_aux_lemma => kernel_rfl
theorem m_16 : MAt 16 := @fun _ _ _ => by as_aux_lemma => kernel_rfl
theorem tl_17 : TlAt 17 := fun hx g1 g2 g3 g4 hA hc => by as_aux_lemma => kernel_rfl
theorem m_17 : MAt 17 := @fun _ _ _ => by as_aux_lemma => kernel_rfl
theorem tl_18 : TlAt 18 := fun hx g1 g2 g3 g4 hA hc => by as_aux_lemma => kernel_rfl
theorem m_18 : MAt 18 := @fun _ _ _ => by as_aux_lemma => kernel_rfl
theorem tl_19 : TlAt 19 := fun hx g1 g2 g3 g4 hA hc => by as_aux_lemma => kernel_rfl
theorem m_19 : MAt 19 := @fun _ _ _ => by as_aux_lemma => kernel_rfl
theorem tl_20 : TlAt 20 := fun hx g1 g2 g3 g4 hA hc => by as_aux_lemma => kernel_rfl
theorem m_20 : MAt 20 := @fun _ _ _ => by as_aux_lemma => kernel_rfl
theorem tl_21 : TlAt 21 := fun hx g1 g2 g3 g4 hA hc => by as_aux_lemma => kernel_rfl
theorem m_21 : MAt 21 := @fun _ _ _ => by as_aux_lemma => kernel_rfl
theorem tl_22 : TlAt 22 := fun hx g1 g2 g3 g4 hA hc => by as_aux_lemma => kernel_rfl
theorem m_22 : MAt 22 := @fun _ _ _ => by as_aux_lemma => kernel_rfl
theorem tl_23 : TlAt 23 := fun hx g1 g2 g3 g4 hA hc => by as_aux_lemma => kernel_rfl
theorem m_23 : MAt 23 := @fun _ _ _ => by as_aux_lemma => kernel_rfl
theorem tl_24 : TlAt 24 := fun hx g1 g2 g3 g4 hA hc => by as_aux_lemma => kernel_rfl
theorem m_24 : MAt 24 := @fun _ _ _ => by as_aux_lemma => kernel_rfl
abbrev nums5 : List Nat := [0, 1, 2, 3, 4, 5, 6, 7, 8, 9, 10, 11, 12, 13, 14, 15, 16, 17, 18, 19, 20, 21, 22, 23, 24]
theorem nums5_all : ∀ i, i < 25 → i ∈ nums5 := by decide +kernel
theorem tl_all : ∀ i ∈ nums5, TlAt i := (allCons tl_0 (allCons tl_1 (allCons tl_2 (allCons tl_3 (allCons tl_4 (allCons tl_5 (allCons tl_6 (allCons tl_7 (allCons tl_8 (allCons tl_9 (allCons tl_10 (allCons tl_11 (allCons tl_12 (allCons tl_13 (allCons tl_14 (allCons tl_15 (allCons tl_16 (allCons tl_17 (allCons tl_18 (allCons tl_19 (allCons tl_20 (allCons tl_21 (allCons tl_22 (allCons tl_23 (allCons tl_24 allNil)))))))))))))))))))))))))
theorem m_all : ∀ i ∈ nums5, MAt i := (allCons m_0 (allCons m_1 (allCons m_2 (allCons m_3 (allCons m_4 (allCons m_5 (allCons m_6 (allCons m_7 (allCons m_8 (allCons m_9 (allCons m_10 (allCons m_11 (allCons m_12 (allCons m_13 (allCons m_14 (allCons m_15 (allCons m_16 (allCons m_17 (allCons m_18 (allCons m_19 (allCons m_20 (allCons m_21 (allCons m_22 (allCons m_23 (allCons m_24 allNil)))))))))))))))))))))))))
end Go.Proofs.YtaabcpibfignfaaGreatDoor.so
