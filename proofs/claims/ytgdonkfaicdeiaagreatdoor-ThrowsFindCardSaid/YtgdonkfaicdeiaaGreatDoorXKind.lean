/-
  Elements of kinds, read back.
-/
import Derived.Test.YtgdonkfaicdeiaaGreatDoorXBits
set_option linter.unusedVariables false
set_option linter.unusedSimpArgs false
namespace Go.X
theorem in64 (k : IntKind) (h : k.bits ≤ 32) (n : Int) : IntKind.i64.wrap (k.wrap n) = k.wrap n := by
  refine wrap64 ?_ ?_
  all_goals
    cases k <;> simp [IntKind.bits] at h <;> (unfold IntKind.wrap IntKind.bits IntKind.signed; simp only [Bool.true_and, Bool.false_and, decide_eq_true_eq]; try split) <;> first | omega | (simp; omega)
/-- what is read of an element of a narrow kind -/
theorem readK {k : IntKind} (h : k.bits ≤ 32) {x v : Int} (e : x % 2 ^ k.bits = (k.wrap v) % 2 ^ k.bits) : k.wrap (IntKind.i64.wrap x) = k.wrap v := by
  rw [wrap_wrap (show k.bits ≤ IntKind.i64.bits by show _ ≤ 64; omega)]
  exact wrap_congr k (by rw [e, wrap_mod])
theorem readJ {x v : Int} (h1 : -9223372036854775808 ≤ v) (h2 : v ≤ 9223372036854775807) (e : x % 2 ^ 64 = v % 2 ^ 64) : IntKind.i64.wrap x = v := by
  rw [wrap_congr .i64 (n := x) (m := v) e, wrap64 h1 h2]
theorem and1 (n : Int) : IntKind.i64.wrap ((BitVec.ofInt IntKind.i64.bits n &&& BitVec.ofInt IntKind.i64.bits 1).toNat : Int) = n % 2 := by
  have h : (BitVec.ofInt 64 n &&& BitVec.ofInt 64 1).toNat = (n % 2).toNat := by
    rw [BitVec.toNat_and, BitVec.toNat_ofInt, show (BitVec.ofInt 64 1).toNat = 1 from rfl, Nat.and_one_is_mod]
    omega
  show IntKind.i64.wrap ((BitVec.ofInt 64 n &&& BitVec.ofInt 64 1).toNat : Int) = n % 2
  rw [h, wrap64 (by omega) (by omega)]
  omega
theorem readZ {x v : Int} (e : x % 2 ^ 8 = (v % 2) % 2 ^ 8) : (IntKind.i64.wrap x) % 2 = v % 2 := by
  have h := wrap_mod .i64 x
  have h2 : (IntKind.i64.wrap x) % 2 ^ 64 = x % 2 ^ 64 := h
  omega
/-- an element's place: what stands there -/
theorem lowIs {per S : Nat} (h : per * S = 64) (f : Nat → BitVec 64) {n k j : Nat} {v : Int} (hj : j < n) : wI (upd per S (putsTo per S f n) k (BitVec.ofInt 64 v) (j / per) >>> (j % per * S)) % 2 ^ S = if j = k then v % 2 ^ S else (((f j).setWidth S).toNat : Int) := by
  have hS : S ≤ 64 := by
    have hp : 0 < per := Nat.pos_of_ne_zero (by rintro rfl; simp at h)
    have := Nat.mul_le_mul_right S hp
    omega
  rw [low_mod, low_upd h]
  split
  · exact setWidth_mod hS v
  · rw [low_puts h f n j hj]
theorem vecSubN {T T' : Tab} {C : Cv} {x i i' : Nat} (hv : ∀ m a, T'.vv i' m = some a → T.vv i m = some a ∧ ∃ k n, a = .int k n) (hk : T'.vk i' ≤ T.vk i) :
    own (x, (.vec i : Blk), i').2.1 = true ∧ ∀ μ l w, @brel T μ (x, (.vec i : Blk), i').2.1 l w → @brel T' (ren C.N0 C.rn μ) (.vec (x, (.vec i : Blk), i').2.2) l w := by
  refine ⟨rfl, fun μ l w h => ?_⟩
  obtain ⟨arr, el, fz, h1, h2, h3, h4, h5⟩ := h
  refine ⟨arr, el, fz, h1, h2, h3, by dsimp only; omega, fun m a ha => ?_⟩
  obtain ⟨g1, n, k, rfl⟩ := hv m a ha
  obtain ⟨v, v1, v2⟩ := h5 m _ g1
  refine ⟨v, v1, ?_⟩
  simpa [vrel] using v2
theorem ipO {T T' : Tab} {i j : Nat} (q : IntKind × Int) (h1 : T.iv i = q) (h2 : T'.iv j = q) : IpOk1 T T' (.oi i, j) := by
  show some (T.iv i) = some (T'.iv j)
  rw [h1, h2]
theorem ipC {T T' : Tab} {n : Int} {j : Nat} (h2 : T'.iv j = (.i64, n)) : IpOk1 T T' (.int .i64 n, j) := by
  show some (IntKind.i64, n) = some (T'.iv j)
  rw [h2]
theorem leK {a b c : Nat} (h1 : a = c) (h2 : b = c) : a ≤ b := by rw [h1, h2]; exact Nat.le_refl _
theorem numSame (k : IntKind) (A : Nat) (e : Nat → Int) : ∀ m a, numV k A e m = some a → numV k A e m = some a ∧ ∃ k n, a = .int k n := fun m a ha => ⟨ha, k, e m, (numV_some ha).2⟩
theorem numSub {k : IntKind} {A : Nat} {e e' : Nat → Int} (he : ∀ m, m < A → e' m = e m) : ∀ m a, numV k A e' m = some a → numV k A e m = some a ∧ ∃ k n, a = .int k n := fun m a ha => by
  obtain ⟨h1, rfl⟩ := numV_some ha
  rw [he m h1]
  exact ⟨numV_lt h1, _, _, rfl⟩
end Go.X
