/-
  Each operation of the abstract machine stands for the model's: numbers, strings, slices, indexes, fields.
-/
import Derived.Test.YtgdonkfaicdeiaaGreatDoorXOps4
import Derived.Laws.Concat
import Derived.Laws.BytesString
set_option linter.unusedVariables false
set_option linter.unusedSimpArgs false
set_option linter.unusedSectionVars false
namespace Go.X
open Go.RowKit

variable [Tab]
variable {P : Program} {B : Kp} {w0 : World} {μ : M} {h h' : H} {w w' : World}

/- numbers -/
theorem kcode_inj {k k' : IntKind} (e : Nat.beq (kcode k) (kcode k') = true) : k = k' := by
  have := nbeq_iff.1 e
  cases k <;> cases k' <;> simp [kcode] at this <;> rfl

theorem wrapF_eq (k : IntKind) (n : Int) : wrapF k n = k.wrap n := by
  cases n with
  | ofNat m =>
    show @Bool.rec (fun _ => Int) (k.wrap (Int.ofNat m)) (Int.ofNat m) (Nat.ble m (kmax k)) = _
    cases hb : Nat.ble m (kmax k) with
    | false => rfl
    | true =>
      have hm := ble_iff.1 hb
      show (m : Int) = k.wrap (m : Int)
      unfold IntKind.wrap
      cases k <;> simp [kmax] at hm <;> simp [IntKind.bits, IntKind.signed] <;> omega
  | negSucc m => rfl

theorem intOp_sound {op : BinOp} {t : TypeId} {k : IntKind} {a b : Int} {v : AV} (hs : isShift op = false) (e : intOp op k a b = some v) :
    ∃ v', (binOp op t (.int k a) (.int k b)).run P w = .ok v' w ∧ vrel μ v v' := by
  cases op <;> simp only [intOp] at e <;> first
    | (simp [isShift] at hs; done)
    | (simp at e; done)
    | (cases e; refine ⟨_, by simp [binOp, Op.intArith, Op.intBits, Op.intCmp]; rfl, ?_⟩; simp only [vrel, wrapF_eq]; rfl)
    | (cases e; refine ⟨_, by simp [binOp, Op.intArith, Op.intBits, Op.intCmp]; rfl, ?_⟩; simp [vrel, wrapF_eq])
    | (split at e
       · simp at e
       · rename_i hb
         cases e
         refine ⟨_, by simp [binOp, Op.intDiv, hb]; rfl, ?_⟩
         simp [vrel, wrapF_eq])

theorem shiftOp_sound {op : BinOp} {t : TypeId} {k k' : IntKind} {a b : Int} {v : AV} (e : shiftOp op k a b = some v) :
    ∃ v', (binOp op t (.int k a) (.int k' b)).run P w = .ok v' w ∧ vrel μ v v' := by
  cases op <;> simp only [shiftOp] at e <;> first
    | (simp at e; done)
    | (split at e
       · simp at e
       · rename_i hb
         cases e
         refine ⟨_, by simp only [binOp, Op.shift]; rw [if_neg hb]; rfl, ?_⟩
         simp [vrel])

theorem eqGuard_int {op : BinOp} {t : TypeId} {x y : Operand} {k : IntKind} {n : Int} {v : Value} : eqGuard op t x y (.int k n) v = pure () := by cases op <;> rfl

theorem intBin_sound {op : BinOp} {t : TypeId} {x y : Operand} {k k' : IntKind} {a b : Int} {v : AV} (e : intBin op k a k' b = some v) :
    ∃ v', (do eqGuard op t x y (.int k a) (.int k' b); binOp op t (.int k a) (.int k' b) : Sem Value).run P w = .ok v' w ∧ vrel μ v v' := by
  rw [eqGuard_int]
  simp only [Sem.run_bind, Sem.run_pure, Result.andThen_ok]
  unfold intBin at e
  cases hs : isShift op with
  | true => rw [hs] at e; exact shiftOp_sound e
  | false =>
    rw [hs] at e
    obtain ⟨hk, e2⟩ := ifb_some e
    obtain rfl := kcode_inj hk
    exact intOp_sound hs e2

/- strings -/
theorem bytesLt_sound : ∀ (a b : List Nat), (∀ x ∈ a, x < 256) → (∀ x ∈ b, x < 256) → bytesLt a b = Op.bytesLess (a.map UInt8.ofNat) (b.map UInt8.ofNat)
  | [], [], _, _ => rfl
  | _ :: _, [], _, _ => rfl
  | [], _ :: _, _, _ => rfl
  | x :: a, y :: b, ha, hb => by
    have hx := ha x (by simp)
    have hy := hb y (by simp)
    have ih := bytesLt_sound a b (fun z hz => ha z (by simp [hz])) (fun z hz => hb z (by simp [hz]))
    simp only [bytesLt, Op.bytesLess, List.map_cons, ih]
    have e1 : Nat.blt x y = decide (UInt8.ofNat x < UInt8.ofNat y) := by
      rw [Bool.eq_iff_iff, blt_iff, decide_eq_true_iff, UInt8.lt_iff_toNat_lt]
      simp only [UInt8.toNat_ofNat']
      omega
    have e2 : Nat.beq x y = (UInt8.ofNat x == UInt8.ofNat y) := by
      rw [Bool.eq_iff_iff, nbeq_iff, beq_iff_eq]
      constructor
      · intro h; rw [h]
      · intro h
        have := congrArg UInt8.toNat h
        simp only [UInt8.toNat_ofNat'] at this
        omega
    rw [e1, e2]

theorem bytes_loop (bs : ByteArray) : ∀ (k i : Nat) (r : List UInt8), bs.size - i = k → ByteArray.toList.loop bs i r = r.reverse ++ bs.data.toList.drop i
  | 0, i, r, hk => by
    rw [ByteArray.toList.loop, if_neg (by omega)]
    rw [List.drop_eq_nil_of_le (by rw [Array.length_toList]; show bs.size ≤ i; omega)]
    simp
  | k + 1, i, r, hk => by
    rw [ByteArray.toList.loop, if_pos (by omega), bytes_loop bs k (i + 1) _ (by omega)]
    have hi : i < bs.data.toList.length := by rw [Array.length_toList]; show i < bs.size; omega
    rw [List.drop_eq_getElem_cons hi]
    have hi' : i < bs.data.size := by simpa using hi
    have : bs.get! i = bs.data.toList[i] := by
      rw [Array.getElem_toList]
      show bs.data[i]! = _
      rw [getElem!_pos bs.data i hi']
    rw [this]
    simp
theorem bytes_toList (bs : ByteArray) : bs.toList = bs.data.toList := by
  have := bytes_loop bs _ 0 [] rfl
  simpa [ByteArray.toList] using this

theorem strOf_toList (n c : Nat) : (strOf n c).toList = (dec n c).map UInt8.ofNat := by
  rw [bytes_toList]
  rfl

theorem dec_append : ∀ (n m c d : Nat), c < 256 ^ n → dec (n + m) (c + d * 256 ^ n) = dec n c ++ dec m d
  | 0, m, c, d, h => by
    rw [Nat.pow_zero] at h
    have : c = 0 := by omega
    subst this
    simp [dec]
  | n + 1, m, c, d, h => by
    rw [Nat.pow_succ] at h
    have e1 : n + 1 + m = (n + m) + 1 := by omega
    have e2 : d * 256 ^ (n + 1) = 256 * (d * 256 ^ n) := by rw [Nat.pow_succ, ← Nat.mul_assoc, Nat.mul_comm]
    rw [e1]
    simp only [dec, List.cons_append]
    rw [e2]
    have e3 : (c + 256 * (d * 256 ^ n)) % 256 = c % 256 := by omega
    have e4 : (c + 256 * (d * 256 ^ n)) / 256 = c / 256 + d * 256 ^ n := by omega
    rw [e3, e4, dec_append n m (c / 256) d (by omega)]

theorem strOf_append (n m c d : Nat) (h : c < 256 ^ n) : strOf n c ++ strOf m d = strOf (n + m) (c + d * 256 ^ n) := by
  unfold strOf
  rw [dec_append n m c d h, List.map_append]
  exact ByteArray.mk_append_mk _ _

theorem strOp_sound {op : BinOp} {t : TypeId} {n c m d : Nat} {v : AV} (hc : c < 256 ^ n) (hd : d < 256 ^ m) (e : strOp op n c m d = some v) :
    ∃ v', (binOp op t (.string (strOf n c)) (.string (strOf m d))).run P w = .ok v' w ∧ vrel μ v v' := by
  have hlt : Op.bytesLess (strOf n c).toList (strOf m d).toList = bytesLt (dec n c) (dec m d) := by
    rw [strOf_toList, strOf_toList, bytesLt_sound _ _ (dec_lt _ _) (dec_lt _ _)]
  have heq : ((strOf n c).toList == (strOf m d).toList) = strEq n c m d := by
    rw [Bool.eq_iff_iff, beq_iff_eq, strEq_iff hc hd]
    constructor
    · intro h
      rw [bytes_toList, bytes_toList] at h
      have : (strOf n c).data = (strOf m d).data := Array.toList_inj.1 h
      cases h1 : strOf n c; cases h2 : strOf m d
      rw [h1, h2] at this
      simpa using this
    · intro h; rw [h]
  cases op <;> simp only [strOp] at e <;> first
    | (simp at e; done)
    | (cases e
       refine ⟨_, by simp only [binOp, Op.stringOp, hlt, heq]; rfl, ?_⟩
       simp [vrel])
    | (split at e
       · rename_i hl
         cases e
         unfold limit at hl
         refine ⟨.string (strOf n c ++ strOf m d), ?_, ?_⟩
         · simp only [binOp, Op.stringOp]
           rw [if_neg (by rw [strOf_size, strOf_size, IntKind.max_i64]; omega)]
           rfl
         · simp only [vrel]
           refine ⟨?_, by rw [strOf_append n m c d hc]⟩
           rw [Nat.pow_add]
           have h1 : d * 256 ^ n ≤ (256 ^ m - 1) * 256 ^ n := Nat.mul_le_mul_right _ (by omega)
           have h2 : (256 ^ m - 1) * 256 ^ n + 256 ^ n = 256 ^ n * 256 ^ m := by
             rw [Nat.sub_mul, Nat.one_mul, Nat.mul_comm (256 ^ m)]
             have : 256 ^ n ≤ 256 ^ n * 256 ^ m := Nat.le_mul_of_pos_right _ (by omega)
             omega
           omega
       · simp at e)

theorem eqGuard_str {op : BinOp} {t : TypeId} {x y : Operand} {s : ByteArray} {v : Value} : eqGuard op t x y (.string s) v = pure () := by cases op <;> rfl
end Go.X
