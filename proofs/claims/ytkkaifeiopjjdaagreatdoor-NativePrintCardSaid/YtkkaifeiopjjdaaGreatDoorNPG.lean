/-
  Rows of numbers of any kind; chars as UTF-8.
-/
import Derived.Test.YtkkaifeiopjjdaaGreatDoorNPF
set_option linter.unusedVariables false
set_option linter.unusedSimpArgs false
set_option linter.unusedSectionVars false
set_option maxRecDepth 1000000
set_option maxHeartbeats 0
namespace Go.Proofs.YtkkaifeiopjjdaaGreatDoor.np
open Go.X Go.RowKit Go.Proofs
section
variable {iv : Nat → IntKind × Int}
theorem rLtK {x y : AV} {l : List BRow} {K : IntKind} {a b : Int} {t : Bool} (k : ∀ r ∈ l, IbOk iv r) (hx : denI iv x = some (K, a) := by exact rfl) (hy : denI iv y = some (K, b) := by exact rfl) (h : decide (a < b) = t := by first | exact decide_eq_true (by omega) | exact decide_eq_false (by omega)) : ∀ q ∈ (11, x, y, .bool t) :: l, IbOk iv q :=
  ibCons (ibOf (op := .lss) hx hy (v := .bool (decide (a < b))) (by
    show (Bool.rec (ifb (Nat.beq (kcode K) (kcode K)) (intOp .lss K a b)) (shiftOp .lss K a b) false : Option AV) = _
    rw [kc]; rfl) (by show AV.bool t = .bool (decide (a < b)); rw [h])) k
theorem rLeK {x y : AV} {l : List BRow} {K : IntKind} {a b : Int} {t : Bool} (k : ∀ r ∈ l, IbOk iv r) (hx : denI iv x = some (K, a) := by exact rfl) (hy : denI iv y = some (K, b) := by exact rfl) (h : decide (a ≤ b) = t := by first | exact decide_eq_true (by omega) | exact decide_eq_false (by omega)) : ∀ q ∈ (12, x, y, .bool t) :: l, IbOk iv q :=
  ibCons (ibOf (op := .leq) hx hy (v := .bool (decide (a ≤ b))) (by
    show (Bool.rec (ifb (Nat.beq (kcode K) (kcode K)) (intOp .leq K a b)) (shiftOp .leq K a b) false : Option AV) = _
    rw [kc]; rfl) (by show AV.bool t = .bool (decide (a ≤ b)); rw [h])) k
theorem rGtK {x y : AV} {l : List BRow} {K : IntKind} {a b : Int} {t : Bool} (k : ∀ r ∈ l, IbOk iv r) (hx : denI iv x = some (K, a) := by exact rfl) (hy : denI iv y = some (K, b) := by exact rfl) (h : decide (a > b) = t := by first | exact decide_eq_true (by omega) | exact decide_eq_false (by omega)) : ∀ q ∈ (13, x, y, .bool t) :: l, IbOk iv q :=
  ibCons (ibOf (op := .gtr) hx hy (v := .bool (decide (a > b))) (by
    show (Bool.rec (ifb (Nat.beq (kcode K) (kcode K)) (intOp .gtr K a b)) (shiftOp .gtr K a b) false : Option AV) = _
    rw [kc]; rfl) (by show AV.bool t = .bool (decide (a > b)); rw [h])) k
theorem rGeK {x y : AV} {l : List BRow} {K : IntKind} {a b : Int} {t : Bool} (k : ∀ r ∈ l, IbOk iv r) (hx : denI iv x = some (K, a) := by exact rfl) (hy : denI iv y = some (K, b) := by exact rfl) (h : decide (a ≥ b) = t := by first | exact decide_eq_true (by omega) | exact decide_eq_false (by omega)) : ∀ q ∈ (14, x, y, .bool t) :: l, IbOk iv q :=
  ibCons (ibOf (op := .geq) hx hy (v := .bool (decide (a ≥ b))) (by
    show (Bool.rec (ifb (Nat.beq (kcode K) (kcode K)) (intOp .geq K a b)) (shiftOp .geq K a b) false : Option AV) = _
    rw [kc]; rfl) (by show AV.bool t = .bool (decide (a ≥ b)); rw [h])) k
theorem rAddK {x y z : AV} {l : List BRow} {K : IntKind} {a b c : Int} (k : ∀ r ∈ l, IbOk iv r) (hx : denI iv x = some (K, a) := by exact rfl) (hy : denI iv y = some (K, b) := by exact rfl) (hz : denI iv z = some (K, c) := by exact rfl) (h : K.wrap (a + b) = c) : ∀ q ∈ (0, x, y, z) :: l, IbOk iv q :=
  ibCons (ibOf (op := .add) hx hy (v := .int K c) (by
    show (Bool.rec (ifb (Nat.beq (kcode K) (kcode K)) (intOp .add K a b)) (shiftOp .add K a b) false : Option AV) = _
    rw [kc]; show some (AV.int K (wrapF K (Int.add a b))) = _; rw [@wrapF_eq Tab.empty]; show some (AV.int K (K.wrap (a + b))) = _; rw [h]) hz) k
theorem rSubK {x y z : AV} {l : List BRow} {K : IntKind} {a b c : Int} (k : ∀ r ∈ l, IbOk iv r) (hx : denI iv x = some (K, a) := by exact rfl) (hy : denI iv y = some (K, b) := by exact rfl) (hz : denI iv z = some (K, c) := by exact rfl) (h : K.wrap (a - b) = c) : ∀ q ∈ (1, x, y, z) :: l, IbOk iv q :=
  ibCons (ibOf (op := .sub) hx hy (v := .int K c) (by
    show (Bool.rec (ifb (Nat.beq (kcode K) (kcode K)) (intOp .sub K a b)) (shiftOp .sub K a b) false : Option AV) = _
    rw [kc]; show some (AV.int K (wrapF K (Int.sub a b))) = _; rw [@wrapF_eq Tab.empty]; show some (AV.int K (K.wrap (a - b))) = _; rw [h]) hz) k
theorem rAndK {x y z : AV} {l : List BRow} {K : IntKind} {a b c : Int} (k : ∀ r ∈ l, IbOk iv r) (hx : denI iv x = some (K, a) := by exact rfl) (hy : denI iv y = some (K, b) := by exact rfl) (hz : denI iv z = some (K, c) := by exact rfl) (h : K.wrap (BitVec.ofInt K.bits a &&& BitVec.ofInt K.bits b).toNat = c) : ∀ q ∈ (5, x, y, z) :: l, IbOk iv q := ibCons (ibAnd hx hy hz h) k
theorem rOrK {x y z : AV} {l : List BRow} {K : IntKind} {a b c : Int} (k : ∀ r ∈ l, IbOk iv r) (hx : denI iv x = some (K, a) := by exact rfl) (hy : denI iv y = some (K, b) := by exact rfl) (hz : denI iv z = some (K, c) := by exact rfl) (h : K.wrap (BitVec.ofInt K.bits a ||| BitVec.ofInt K.bits b).toNat = c) : ∀ q ∈ (6, x, y, z) :: l, IbOk iv q := ibCons (ibOr hx hy hz h) k
theorem rShrK {x y z : AV} {l : List BRow} {K : IntKind} {a b c : Int} (k : ∀ r ∈ l, IbOk iv r) (hx : denI iv x = some (K, a) := by exact rfl) (hy : denI iv y = some (.u64, b) := by exact rfl) (hz : denI iv z = some (K, c) := by exact rfl) (h0 : 0 ≤ b := by decide) (h : a.fdiv (2 ^ (min b.toNat K.bits)) = c) : ∀ q ∈ (16, x, y, z) :: l, IbOk iv q := ibCons (ibShr hx hy hz h0 h) k
theorem rShlK {x y z : AV} {l : List BRow} {K : IntKind} {a b c : Int} (k : ∀ r ∈ l, IbOk iv r) (hx : denI iv x = some (K, a) := by exact rfl) (hy : denI iv y = some (.u64, b) := by exact rfl) (hz : denI iv z = some (K, c) := by exact rfl) (h0 : 0 ≤ b := by decide) (h : K.wrap (a * 2 ^ (min b.toNat K.bits)) = c) : ∀ q ∈ (15, x, y, z) :: l, IbOk iv q := ibCons (ibShl hx hy hz h0 h) k
end
/- cuts -/
theorem wr8 {n : Int} (c : Int) (h : n % 256 = c) : IntKind.u8.wrap n = c := by
  unfold IntKind.wrap IntKind.bits IntKind.signed
  simp only [Bool.false_and, Bool.false_eq_true, if_false]
  omega
theorem wr16 {n : Int} (h0 : 0 ≤ n) (h1 : n < 65536) : IntKind.u16.wrap n = n := by
  unfold IntKind.wrap IntKind.bits IntKind.signed
  simp only [Bool.false_and, Bool.false_eq_true, if_false]
  omega
theorem wr32 {n : Int} (h0 : 0 ≤ n) (h1 : n < 2147483648) : IntKind.u32.wrap n = n := by
  unfold IntKind.wrap IntKind.bits IntKind.signed
  simp only [Bool.false_and, Bool.false_eq_true, if_false]
  omega
theorem wri32 {n : Int} (h0 : 0 ≤ n) (h1 : n < 2147483648) : IntKind.i32.wrap n = n := by
  unfold IntKind.wrap IntKind.bits IntKind.signed
  have e : n % (2 ^ 32 : Int) = n := by omega
  simp only [e]
  rw [if_neg]
  simp
  omega
theorem andI {K : IntKind} {a c : Int} {m : Nat} (hK : 8 ≤ K.bits) (h0 : 0 ≤ a) (hb : a < 2 ^ K.bits) (hm : m < 2 ^ K.bits) (e : ∀ n : Nat, (n : Int) = a → ((n &&& m : Nat) : Int) = c) (hw : K.wrap c = c) : K.wrap (BitVec.ofInt K.bits a &&& BitVec.ofInt K.bits (m : Int)).toNat = c := by
  obtain ⟨n, rfl⟩ := Int.eq_ofNat_of_zero_le h0
  have hn : n < 2 ^ K.bits := by exact_mod_cast hb
  have e1 : (BitVec.ofInt K.bits (n : Int) &&& BitVec.ofInt K.bits (m : Int)).toNat = n &&& m := by
    rw [BitVec.toNat_and, BitVec.ofInt_natCast, BitVec.ofInt_natCast, BitVec.toNat_ofNat, BitVec.toNat_ofNat, Nat.mod_eq_of_lt hn, Nat.mod_eq_of_lt hm]
  rw [e1, e n rfl, hw]
/-- the lowest bits -/
theorem lowN (n s : Nat) : n &&& (2 ^ s - 1) = n % 2 ^ s := Nat.and_two_pow_sub_one_eq_mod n s
/-- all bits of 16 from one place on -/
theorem highN {n s : Nat} (h : n < 2 ^ 16) (hs : s ≤ 16) : n &&& ((2 ^ (16 - s) - 1) <<< s) = n / 2 ^ s * 2 ^ s := by
  rw [← Nat.shiftRight_eq_div_pow, ← Nat.shiftLeft_eq]
  apply Nat.eq_of_testBit_eq
  intro i
  simp only [Nat.testBit_and, Nat.testBit_shiftLeft, Nat.testBit_shiftRight, Nat.testBit_two_pow_sub_one]
  by_cases c : s ≤ i
  · rw [show s + (i - s) = i by omega]
    simp only [c, decide_true, Bool.true_and]
    by_cases d : i < 16
    · rw [show decide (i - s < 16 - s) = true from decide_eq_true (by omega)]; simp
    · rw [show n.testBit i = false from Nat.testBit_lt_two_pow (Nat.lt_of_lt_of_le h (Nat.pow_le_pow_right (by decide) (by omega)))]; simp
  · simp [c]
theorem andLow {K : IntKind} {a : Int} {s : Nat} (hK : 8 ≤ K.bits) (h0 : 0 ≤ a) (hb : a < 2 ^ K.bits) (hm : 2 ^ s - 1 < 2 ^ K.bits) (hw : K.wrap (a % 2 ^ s) = a % 2 ^ s) : K.wrap (BitVec.ofInt K.bits a &&& BitVec.ofInt K.bits ((2 ^ s - 1 : Nat) : Int)).toNat = a % 2 ^ s :=
  andI hK h0 hb hm (fun n e => by rw [lowN, ← e]; push_cast; rfl) hw
theorem andHigh {K : IntKind} {a : Int} {s : Nat} (hK : 16 ≤ K.bits) (h0 : 0 ≤ a) (hb : a < 65536) (hs : s ≤ 16) (hm : (2 ^ (16 - s) - 1) <<< s < 2 ^ K.bits) (hw : K.wrap (a / 2 ^ s * 2 ^ s) = a / 2 ^ s * 2 ^ s) : K.wrap (BitVec.ofInt K.bits a &&& BitVec.ofInt K.bits (((2 ^ (16 - s) - 1) <<< s : Nat) : Int)).toNat = a / 2 ^ s * 2 ^ s :=
  have h1 : (65536 : Int) ≤ 2 ^ K.bits := by
    have h2 : (2 : Nat) ^ 16 ≤ 2 ^ K.bits := Nat.pow_le_pow_right (by decide) hK
    have h3 : ((2 ^ 16 : Nat) : Int) ≤ ((2 ^ K.bits : Nat) : Int) := Int.ofNat_le.2 h2
    simpa using h3
  andI (by omega) h0 (by omega) hm (fun n e => by rw [highN (by omega) hs, ← e]; push_cast; rfl) hw
theorem or8 {a b c : Int} {t : Nat} (h0 : 0 ≤ b) (h1 : b < t) (hc : c = a + b) (h : ∀ x : Fin t, IntKind.u8.wrap (BitVec.ofInt IntKind.u8.bits a ||| BitVec.ofInt IntKind.u8.bits (x.1 : Int)).toNat = a + (x.1 : Int)) : IntKind.u8.wrap (BitVec.ofInt IntKind.u8.bits a ||| BitVec.ofInt IntKind.u8.bits b).toNat = c := by
  have := h ⟨b.toNat, by omega⟩
  rw [hc]
  rw [show ((⟨b.toNat, by omega⟩ : Fin t).1 : Int) = b by show ((b.toNat : Nat) : Int) = b; omega] at this
  exact this
theorem or192 : ∀ x : Fin 32, IntKind.u8.wrap (BitVec.ofInt IntKind.u8.bits 192 ||| BitVec.ofInt IntKind.u8.bits (x.1 : Int)).toNat = 192 + (x.1 : Int) := by decide +kernel
theorem or224 : ∀ x : Fin 16, IntKind.u8.wrap (BitVec.ofInt IntKind.u8.bits 224 ||| BitVec.ofInt IntKind.u8.bits (x.1 : Int)).toNat = 224 + (x.1 : Int) := by decide +kernel
theorem or240 : ∀ x : Fin 8, IntKind.u8.wrap (BitVec.ofInt IntKind.u8.bits 240 ||| BitVec.ofInt IntKind.u8.bits (x.1 : Int)).toNat = 240 + (x.1 : Int) := by decide +kernel
theorem or128 : ∀ x : Fin 64, IntKind.u8.wrap (BitVec.ofInt IntKind.u8.bits 128 ||| BitVec.ofInt IntKind.u8.bits (x.1 : Int)).toNat = 128 + (x.1 : Int) := by decide +kernel
/- a char, two of them -/
def outC (c : Int) : List Int := if 55296 ≤ c ∧ c < 57344 then [63] else if c < 128 then [c] else if c < 2048 then [192 + c / 64, 128 + c % 64] else [224 + c / 4096, 128 + c / 64 % 64, 128 + c % 64]
def cpt (c d : Int) : Int := 65536 + c % 1024 * 1024 + d % 1024
def outP (x : Int) : List Int := [240 + x / 262144, 128 + x / 4096 % 64, 128 + x / 64 % 64, 128 + x % 64]
def isP (f : Nat → Int) (n i : Nat) : Prop := 55296 ≤ f i ∧ f i < 56320 ∧ i + 1 < n ∧ 56320 ≤ f (i + 1) ∧ f (i + 1) < 57344
instance (f : Nat → Int) (n i : Nat) : Decidable (isP f n i) := by unfold isP; infer_instance
def outB (f : Nat → Int) (n i : Nat) : List Int := if isP f n i then outP (cpt (f i) (f (i + 1))) else outC (f i)
def outS (f : Nat → Int) (n i : Nat) : Nat := if isP f n i then 2 else 1
def outL (f : Nat → Int) (n : Nat) : Nat → Nat → List Int → List Int
  | 0, _, l => l
  | j + 1, i, l => if i < n then outL f n j (i + outS f n i) (l ++ outB f n i) else l
theorem outC_len (c : Int) : 1 ≤ (outC c).length ∧ (outC c).length ≤ 3 := by unfold outC; split <;> (try split) <;> (try split) <;> simp
theorem outB_len (f : Nat → Int) (n i : Nat) : 1 ≤ (outB f n i).length ∧ (outB f n i).length ≤ 4 * outS f n i := by
  unfold outB outS
  split
  · simp [outP]
  · have := outC_len (f i); omega
theorem outS_le {f : Nat → Int} {n i : Nat} (h : i < n) : 1 ≤ outS f n i ∧ i + outS f n i ≤ n := by
  unfold outS
  split
  · rename_i h1; exact ⟨by decide, h1.2.2.1⟩
  · exact ⟨by decide, h⟩
theorem outL_len (f : Nat → Int) (n : Nat) : ∀ j i l, l.length ≤ 4 * i → i ≤ n → (outL f n j i l).length ≤ 4 * n
  | 0, i, l, h, hi => by show l.length ≤ _; omega
  | j + 1, i, l, h, hi => by
    show (if i < n then _ else l).length ≤ _
    split
    · rename_i c
      have h1 := outB_len f n i; have h2 := outS_le (f := f) c
      exact outL_len f n j _ _ (by rw [List.length_append]; omega) h2.2
    · omega
theorem outL_ge (f : Nat → Int) (n : Nat) : ∀ j i l, l.length ≤ (outL f n j i l).length
  | 0, i, l => Nat.le_refl _
  | j + 1, i, l => by
    show l.length ≤ (if i < n then _ else l).length
    split
    · exact Nat.le_trans (by rw [List.length_append]; omega) (outL_ge f n j _ _)
    · exact Nat.le_refl _
theorem byteC {c : Int} (h0 : 0 ≤ c) (h1 : c < 65536) : ∀ b ∈ outC c, 0 ≤ b ∧ b < 256 := by
  intro b hb
  unfold outC at hb
  split at hb
  · simp at hb; omega
  · split at hb
    · simp at hb; omega
    · split at hb <;> simp at hb <;> omega
theorem byteB {f : Nat → Int} (h0 : ∀ m, 0 ≤ f m) (h1 : ∀ m, f m < 65536) (n i : Nat) : ∀ b ∈ outB f n i, 0 ≤ b ∧ b < 256 := by
  unfold outB
  split
  · intro b hb
    have := h0 i; have := h0 (i + 1)
    have hx : 0 ≤ cpt (f i) (f (i + 1)) ∧ cpt (f i) (f (i + 1)) < 1114112 := by unfold cpt; omega
    generalize cpt (f i) (f (i + 1)) = x at hb hx
    simp [outP] at hb
    omega
  · exact byteC (h0 i) (h1 i)
theorem outL_b {f : Nat → Int} (h0 : ∀ m, 0 ≤ f m) (h1 : ∀ m, f m < 65536) (n : Nat) : ∀ j i l, (∀ b ∈ l, 0 ≤ b ∧ b < 256) → ∀ b ∈ outL f n j i l, 0 ≤ b ∧ b < 256
  | 0, i, l, h => h
  | j + 1, i, l, h => by
    show ∀ b ∈ (if i < n then _ else l), _
    split
    · exact outL_b h0 h1 n j _ _ fun b hb => (List.mem_append.1 hb).elim (h b) (byteB h0 h1 n i b)
    · exact h
/- the masks -/
theorem aI10 {a : Int} (h0 : 0 ≤ a) (h1 : a < 65536) : IntKind.i32.wrap (BitVec.ofInt IntKind.i32.bits a &&& BitVec.ofInt IntKind.i32.bits 64512).toNat = a / 1024 * 1024 :=
  andHigh (K := .i32) (s := 10) (by decide) h0 h1 (by decide) (by decide) (wri32 (by omega) (by omega))
theorem aI11 {a : Int} (h0 : 0 ≤ a) (h1 : a < 65536) : IntKind.i32.wrap (BitVec.ofInt IntKind.i32.bits a &&& BitVec.ofInt IntKind.i32.bits 63488).toNat = a / 2048 * 2048 :=
  andHigh (K := .i32) (s := 11) (by decide) h0 h1 (by decide) (by decide) (wri32 (by omega) (by omega))
theorem aU10 {a : Int} (h0 : 0 ≤ a) (h1 : a < 65536) : IntKind.u16.wrap (BitVec.ofInt IntKind.u16.bits a &&& BitVec.ofInt IntKind.u16.bits 64512).toNat = a / 1024 * 1024 :=
  andHigh (K := .u16) (s := 10) (by decide) h0 h1 (by decide) (by decide) (wr16 (by omega) (by omega))
theorem aIl {a : Int} (h0 : 0 ≤ a) (h1 : a < 65536) : IntKind.i32.wrap (BitVec.ofInt IntKind.i32.bits a &&& BitVec.ofInt IntKind.i32.bits 1023).toNat = a % 1024 :=
  andLow (K := .i32) (s := 10) (by decide) h0 (by show a < 4294967296; omega) (by decide) (wri32 (by omega) (by omega))
theorem aUl {a : Int} (h0 : 0 ≤ a) (h1 : a < 65536) : IntKind.u16.wrap (BitVec.ofInt IntKind.u16.bits a &&& BitVec.ofInt IntKind.u16.bits 1023).toNat = a % 1024 :=
  andLow (K := .u16) (s := 10) (by decide) h0 (by show a < 65536; omega) (by decide) (wr16 (by omega) (by omega))
theorem aB6 {a c : Int} (h0 : 0 ≤ a) (h1 : a < 256) (h : a % 64 = c) : IntKind.u8.wrap (BitVec.ofInt IntKind.u8.bits a &&& BitVec.ofInt IntKind.u8.bits 63).toNat = c := by
  rw [← h]; exact andLow (K := .u8) (s := 6) (by decide) h0 (by show a < 256; omega) (by decide) (wr8 _ (by omega))
theorem aW6 {a : Int} (h0 : 0 ≤ a) (h1 : a < 2147483648) : IntKind.u32.wrap (BitVec.ofInt IntKind.u32.bits a &&& BitVec.ofInt IntKind.u32.bits 63).toNat = a % 64 :=
  andLow (K := .u32) (s := 6) (by decide) h0 (by show a < 4294967296; omega) (by decide) (wr32 (by omega) (by omega))
theorem fd {a : Int} (s : Int) (h : 0 ≤ s := by decide) : a.fdiv s = a / s := Int.fdiv_eq_ediv_of_nonneg _ h
/- the loop's table -/
structure Oe where
  n : Nat
  i : Nat
  f : Nat → Int
  l : List Int
abbrev Oe.c (e : Oe) : Int := e.f e.i
abbrev Oe.d (e : Oe) : Int := e.f (e.i + 1)
abbrev Oe.x (e : Oe) : Int := cpt (e.f e.i) (e.f (e.i + 1))
def Oe.b (e : Oe) : List Int := outB e.f e.n e.i
def Oe.nx (e : Oe) : Oe := ⟨e.n, e.i + outS e.f e.n e.i, e.f, e.l ++ e.b⟩
abbrev ivO (e : Oe) : Nat → IntKind × Int
  | 0 => (.i64, (e.i : Int))
  | 1 => (.i64, ((e.i + 1 : Nat) : Int))
  | 2 => (.i64, (e.n : Int))
  | 3 => (.i64, (e.l.length : Int))
  | 4 => (.i64, ((e.l ++ e.b).length : Int))
  | 5 => (.u16, e.c)
  | 6 => (.u16, e.d)
  | 10 => (.i32, e.c)
  | 11 => (.i32, e.c / 1024 * 1024)
  | 12 => (.i32, e.c / 2048 * 2048)
  | 13 => (.u32, e.c)
  | 14 => (.u8, e.c % 256)
  | 15 => (.i32, e.c / 64)
  | 16 => (.u8, e.c / 64 % 256)
  | 17 => (.u8, 192 + e.c / 64)
  | 18 => (.u8, e.c % 64)
  | 19 => (.u8, 128 + e.c % 64)
  | 20 => (.i32, e.c / 4096)
  | 21 => (.u8, e.c / 4096)
  | 22 => (.u8, 224 + e.c / 4096)
  | 23 => (.u8, e.c / 64 % 64)
  | 24 => (.u8, 128 + e.c / 64 % 64)
  | 25 => (.u16, e.d / 1024 * 1024)
  | 26 => (.i32, e.c % 1024)
  | 27 => (.i32, e.c % 1024 * 1024)
  | 28 => (.i32, 65536 + e.c % 1024 * 1024)
  | 29 => (.u16, e.d % 1024)
  | 30 => (.i32, e.d % 1024)
  | 31 => (.i32, e.x)
  | 32 => (.u32, e.x)
  | 33 => (.i32, e.x / 262144)
  | 34 => (.u8, e.x / 262144)
  | 35 => (.u8, 240 + e.x / 262144)
  | 36 => (.i32, e.x / 4096)
  | 37 => (.u8, e.x / 4096 % 256)
  | 38 => (.u8, e.x / 4096 % 64)
  | 39 => (.u8, 128 + e.x / 4096 % 64)
  | 40 => (.i32, e.x / 64)
  | 41 => (.u8, e.x / 64 % 256)
  | 42 => (.u8, e.x / 64 % 64)
  | 43 => (.u8, 128 + e.x / 64 % 64)
  | 44 => (.u8, e.x % 256)
  | 45 => (.u8, e.x % 64)
  | 46 => (.u8, 128 + e.x % 64)
  | 47 => (.i64, ((e.i + 2 : Nat) : Int))
  | 48 => (.u8, e.c)
  | 50 => (.u32, e.c / 64)
  | 52 => (.u32, e.c % 64)
  | 54 => (.u32, e.c / 4096)
  | 55 => (.u32, e.c / 64 % 64)
  | 56 => (.u32, e.d)
  | 57 => (.u32, e.c - 55296)
  | 58 => (.u32, (e.c - 55296) * 1024)
  | 59 => (.u32, 65536 + (e.c - 55296) * 1024)
  | 60 => (.u32, 65536 + (e.c - 55296) * 1024 + e.d)
  | 62 => (.u32, e.x / 262144)
  | 63 => (.u32, e.x / 4096)
  | 64 => (.u32, e.x / 4096 % 64)
  | 65 => (.u32, e.x / 64)
  | 66 => (.u32, e.x / 64 % 64)
  | 67 => (.u32, e.x % 64)
  | _ => (.i64, 0)
def bt (l : List Int) (m : Nat) : Int := l.getD m 0
abbrev vvO (e : Oe) : Nat → Nat → Option AV
  | 0 => numV .u16 e.n e.f
  | 1 => numV .u8 e.l.length (bt e.l)
  | 2 => numV .u8 (e.l ++ e.b).length (bt (e.l ++ e.b))
  | _ => fun _ => none
abbrev vkO (e : Oe) : Nat → Nat
  | 0 => e.n
  | 1 => e.l.length
  | 2 => (e.l ++ e.b).length
  | _ => 0
theorem vvOp (e : Oe) : ∀ i m a, vvO e i m = some a → vplain a = true := fun i m a h => by
  unfold vvO at h
  split at h <;> first | exact numP h | cases h
abbrev fgO (p : Pm) : Fgn where
  fb := (fgP p).fb
  fcap := (fgP p).fcap
  fv := fun i => match i with | 1 => numV .u16 p.la p.A | _ => fun _ => none
abbrev txO (e : Oe) : Txts (ivO e) where
  str := fun _ => ⟨#[]⟩
abbrev RO (p : Pm) (e : Oe) : Rw (ivO e) (vvO e) (vkO e) (fgO p) (txO e) where
  vvp := vvOp e
abbrev TO (p : Pm) (e : Oe) : Tab := (RO p e).T
structure OF (e : Oe) : Prop where
  hn : e.n ≤ 60
  h0 : ∀ m, 0 ≤ e.f m
  h1 : ∀ m, e.f m < 65536
  hl : e.l.length ≤ 4 * e.i
  hi : e.i ≤ e.n
theorem OF.nx {e : Oe} (o : OF e) (h : e.i < e.n) : OF e.nx where
  hn := o.hn
  h0 := o.h0
  h1 := o.h1
  hl := by
    have h1 := outB_len e.f e.n e.i; have h2 := o.hl
    show (e.l ++ outB e.f e.n e.i).length ≤ 4 * (e.i + outS e.f e.n e.i)
    rw [List.length_append]; omega
  hi := (outS_le h).2
/-- what a round appends -/
structure Src (e : Oe) (s : List AV) : Prop where
  len : s.length = e.b.length
  at_ : ∀ m, m < s.length → ∃ x, s[m]? = some x ∧ denI (ivO e) x = some (.u8, e.b.getD m 0)
theorem aLO {e : Oe} {s : List AV} (c : OF e) (hk : e.i < e.n) (h : Src e s) : ∀ r ∈ [(⟨1, 3, 1, s, 2, 4⟩ : VA)], VaOk (ivO e) (vvO e) (vkO e) r := by
  have hL : (e.l ++ e.b).length = e.l.length + s.length := by rw [List.length_append, h.len]
  have h1 := outB_len e.f e.n e.i; have h2 := c.hl; have h3 := c.hn; have h5 := outS_le (f := e.f) hk
  have h4 : e.b.length = (outB e.f e.n e.i).length := rfl
  refine allCons ⟨⟨rfl, Int.natCast_nonneg _⟩, ⟨rfl, Int.natCast_nonneg _⟩, ?_, ?_, ?_, fun m a ha => ?_⟩ allNil
  · show (e.l ++ e.b).length * 1 = e.l.length * 1 + s.length; omega
  · show (e.l ++ e.b).length < 1000000; rw [List.length_append]; omega
  · show (e.l ++ e.b).length ≤ (e.l ++ e.b).length * 1; omega
  · obtain ⟨hm, rfl⟩ := numV_some (show numV .u8 (e.l ++ e.b).length (bt (e.l ++ e.b)) m = some a from ha)
    show ∃ b, (if m < e.l.length * 1 then numV .u8 e.l.length (bt e.l) m else s[m - e.l.length * 1]?) = some b ∧ _
    rw [Nat.mul_one]
    by_cases d : m < e.l.length
    · refine ⟨.int .u8 (bt e.l m), by rw [if_pos d]; unfold numV; rw [if_pos d], .inl ?_⟩
      show AV.int .u8 (bt e.l m) = .int .u8 (bt (e.l ++ e.b) m)
      unfold bt
      rw [List.getD_eq_getElem?_getD, List.getD_eq_getElem?_getD, List.getElem?_append_left d]
    · obtain ⟨x, x1, x2⟩ := h.at_ (m - e.l.length) (by omega)
      refine ⟨x, by rw [if_neg d]; exact x1, .inr ⟨_, x2, ?_⟩⟩
      show some ((IntKind.u8, bt (e.l ++ e.b) m) : IntKind × Int) = some (.u8, e.b.getD (m - e.l.length) 0)
      unfold bt
      rw [List.getD_eq_getElem?_getD, List.getD_eq_getElem?_getD, List.getElem?_append_right (by omega)]
end Go.Proofs.YtkkaifeiopjjdaaGreatDoor.np
