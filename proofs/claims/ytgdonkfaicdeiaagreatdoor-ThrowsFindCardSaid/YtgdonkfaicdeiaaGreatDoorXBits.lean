/-
  Rows of operations on bits, on numbers of any kind; elements that are packed into words.
-/
import Derived.Test.YtgdonkfaicdeiaaGreatDoorXRow
set_option linter.unusedVariables false
set_option linter.unusedSimpArgs false
set_option linter.unusedSectionVars false
namespace Go.X

variable {iv : Nat → IntKind × Int}
theorem bcode_inj {a b : BinOp} (h : bcode a = bcode b) : a = b := by cases a <;> cases b <;> first | rfl | (simp [bcode] at h)
theorem ibOf {op : BinOp} {x y z : AV} {k k' : IntKind} {a b : Int} {v : AV} (hx : denI iv x = some (k, a)) (hy : denI iv y = some (k', b)) (h : intBin op k a k' b = some v) (hz : outI iv z v) : IbOk iv (bcode op, x, y, z) := by
  intro o ho
  obtain rfl := bcode_inj ho
  exact ⟨k, a, k', b, v, hx, hy, h, hz⟩
theorem ibShl {x y z : AV} {k k' : IntKind} {a b c : Int} (hx : denI iv x = some (k, a)) (hy : denI iv y = some (k', b)) (hz : denI iv z = some (k, c)) (h0 : 0 ≤ b) (h : k.wrap (a * 2 ^ (min b.toNat k.bits)) = c) : IbOk iv (15, x, y, z) := by
  refine ibOf (op := .shl) hx hy (v := .int k c) ?_ hz
  show shiftOp .shl k a b = _
  simp only [shiftOp]
  rw [if_neg (by omega), h]
theorem ibShr {x y z : AV} {k k' : IntKind} {a b c : Int} (hx : denI iv x = some (k, a)) (hy : denI iv y = some (k', b)) (hz : denI iv z = some (k, c)) (h0 : 0 ≤ b) (h : a.fdiv (2 ^ (min b.toNat k.bits)) = c) : IbOk iv (16, x, y, z) := by
  refine ibOf (op := .shr) hx hy (v := .int k c) ?_ hz
  show shiftOp .shr k a b = _
  simp only [shiftOp]
  rw [if_neg (by omega), h]
theorem kc (k : IntKind) : Nat.beq (kcode k) (kcode k) = true := by cases k <;> rfl
theorem ibAnd {x y z : AV} {k : IntKind} {a b c : Int} (hx : denI iv x = some (k, a)) (hy : denI iv y = some (k, b)) (hz : denI iv z = some (k, c)) (h : k.wrap (BitVec.ofInt k.bits a &&& BitVec.ofInt k.bits b).toNat = c) : IbOk iv (5, x, y, z) := by
  refine ibOf (op := .and) hx hy (v := .int k c) ?_ hz
  show (Bool.rec (ifb (Nat.beq (kcode k) (kcode k)) (intOp .and k a b)) (shiftOp .and k a b) false : Option AV) = _
  rw [kc, ← h]; rfl
theorem ibOr {x y z : AV} {k : IntKind} {a b c : Int} (hx : denI iv x = some (k, a)) (hy : denI iv y = some (k, b)) (hz : denI iv z = some (k, c)) (h : k.wrap (BitVec.ofInt k.bits a ||| BitVec.ofInt k.bits b).toNat = c) : IbOk iv (6, x, y, z) := by
  refine ibOf (op := .or) hx hy (v := .int k c) ?_ hz
  show (Bool.rec (ifb (Nat.beq (kcode k) (kcode k)) (intOp .or k a b)) (shiftOp .or k a b) false : Option AV) = _
  rw [kc, ← h]; rfl
theorem ibAndNot {x y z : AV} {k : IntKind} {a b c : Int} (hx : denI iv x = some (k, a)) (hy : denI iv y = some (k, b)) (hz : denI iv z = some (k, c)) (h : k.wrap (BitVec.ofInt k.bits a &&& ~~~BitVec.ofInt k.bits b).toNat = c) : IbOk iv (8, x, y, z) := by
  refine ibOf (op := .andNot) hx hy (v := .int k c) ?_ hz
  show (Bool.rec (ifb (Nat.beq (kcode k) (kcode k)) (intOp .andNot k a b)) (shiftOp .andNot k a b) false : Option AV) = _
  rw [kc, ← h]; rfl
theorem ibEqK {x y : AV} {k : IntKind} {a b : Int} {t : Bool} (hx : denI iv x = some (k, a)) (hy : denI iv y = some (k, b)) (h : decide (a = b) = t) : IbOk iv (9, x, y, .bool t) := by
  refine ibOf (op := .eql) hx hy (v := .bool (a == b)) ?_ ?_
  · show (Bool.rec (ifb (Nat.beq (kcode k) (kcode k)) (intOp .eql k a b)) (shiftOp .eql k a b) false : Option AV) = _
    rw [kc]; rfl
  · show AV.bool t = .bool (a == b)
    rw [← h]; congr 1
theorem ibNeK {x y : AV} {k : IntKind} {a b : Int} {t : Bool} (hx : denI iv x = some (k, a)) (hy : denI iv y = some (k, b)) (h : decide (a = b) = !t) : IbOk iv (10, x, y, .bool t) := by
  refine ibOf (op := .neq) hx hy (v := .bool (a != b)) ?_ ?_
  · show (Bool.rec (ifb (Nat.beq (kcode k) (kcode k)) (intOp .neq k a b)) (shiftOp .neq k a b) false : Option AV) = _
    rw [kc]; rfl
  · show AV.bool t = .bool (a != b)
    have : (a == b) = !t := by rw [← h]; rfl
    rw [bne, this, Bool.not_not]
abbrev IcOk (iv : Nat → IntKind × Int) (r : IntKind × AV × AV) : Prop := ∃ k n, denI iv r.2.1 = some (k, n) ∧ denI iv r.2.2 = some (r.1, r.1.wrap n)
theorem icOf {k k' : IntKind} {x y : AV} {n c : Int} (hx : denI iv x = some (k', n)) (hy : denI iv y = some (k, c)) (h : k.wrap n = c) : IcOk iv (k, x, y) := ⟨k', n, hx, by show denI iv y = some (k, k.wrap n); rw [h]; exact hy⟩

/- wraps -/
theorem wrap_mod (k : IntKind) (n : Int) : k.wrap n % 2 ^ k.bits = n % 2 ^ k.bits := by
  unfold IntKind.wrap
  simp only
  split
  · rw [Int.sub_emod, Int.emod_emod, Int.emod_self, Int.sub_zero, Int.emod_emod]
  · rw [Int.emod_emod]
theorem wrap_congr (k : IntKind) {n m : Int} (h : n % 2 ^ k.bits = m % 2 ^ k.bits) : k.wrap n = k.wrap m := by
  unfold IntKind.wrap
  simp only [h]
/-- a wider wrap ahead of a narrower one does nothing -/
theorem wrap_wrap {k l : IntKind} (h : k.bits ≤ l.bits) (n : Int) : k.wrap (l.wrap n) = k.wrap n := by
  refine wrap_congr k ?_
  have hd : (2 ^ k.bits : Int) ∣ 2 ^ l.bits := ⟨2 ^ (l.bits - k.bits), by rw [← Int.pow_add]; congr 1; omega⟩
  rw [← Int.emod_emod_of_dvd (l.wrap n) hd, wrap_mod, Int.emod_emod_of_dvd n hd]
theorem wrapU (W : BitVec 64) : IntKind.u64.wrap (W.toNat : Int) = (W.toNat : Int) := wrapU64 (by omega) (by have := W.isLt; omega)
theorem ofIntU (W : BitVec 64) : BitVec.ofInt IntKind.u64.bits (W.toNat : Int) = W := by
  show BitVec.ofInt 64 (W.toNat : Int) = W
  rw [BitVec.ofInt_natCast, BitVec.ofNat_toNat, BitVec.setWidth_eq]
theorem u64OfInt (v : Int) : IntKind.u64.wrap v = ((BitVec.ofInt 64 v).toNat : Int) := by
  unfold IntKind.wrap IntKind.bits IntKind.signed
  simp only [Bool.false_and]
  rw [BitVec.toNat_ofInt]
  show v % 2 ^ 64 = _
  omega

/- on words -/
abbrev wI (W : BitVec 64) : Int := (W.toNat : Int)
theorem ibShlW {x y z : AV} {k' : IntKind} {W V : BitVec 64} {s : Nat} (hx : denI iv x = some (.u64, wI W)) (hy : denI iv y = some (k', (s : Int))) (hz : denI iv z = some (.u64, wI V)) (hs : s < 64) (h : W <<< s = V) : IbOk iv (15, x, y, z) := by
  refine ibShl hx hy hz (by omega) ?_
  subst h
  have hm : min (s : Int).toNat IntKind.u64.bits = s := by show min (s : Int).toNat 64 = s; omega
  rw [hm]
  unfold IntKind.wrap IntKind.bits IntKind.signed
  simp only [Bool.false_and]
  show (W.toNat : Int) * 2 ^ s % 2 ^ 64 = ((W <<< s).toNat : Int)
  rw [BitVec.toNat_shiftLeft, Nat.shiftLeft_eq]
  simp
theorem ibShrW {x y z : AV} {k' : IntKind} {W V : BitVec 64} {s : Nat} (hx : denI iv x = some (.u64, wI W)) (hy : denI iv y = some (k', (s : Int))) (hz : denI iv z = some (.u64, wI V)) (hs : s < 64) (h : W >>> s = V) : IbOk iv (16, x, y, z) := by
  refine ibShr hx hy hz (by omega) ?_
  subst h
  have hm : min (s : Int).toNat IntKind.u64.bits = s := by show min (s : Int).toNat 64 = s; omega
  rw [hm, Int.fdiv_eq_ediv_of_nonneg _ (by exact Int.pow_nonneg (by decide))]
  show (W.toNat : Int) / 2 ^ s = ((W >>> s).toNat : Int)
  rw [BitVec.toNat_ushiftRight, Nat.shiftRight_eq_div_pow]
  simp
theorem ibAndW {x y z : AV} {W U V : BitVec 64} (hx : denI iv x = some (.u64, wI W)) (hy : denI iv y = some (.u64, wI U)) (hz : denI iv z = some (.u64, wI V)) (h : W &&& U = V) : IbOk iv (5, x, y, z) := by
  refine ibAnd hx hy hz ?_
  subst h; rw [ofIntU, ofIntU]; exact wrapU _
theorem ibOrW {x y z : AV} {W U V : BitVec 64} (hx : denI iv x = some (.u64, wI W)) (hy : denI iv y = some (.u64, wI U)) (hz : denI iv z = some (.u64, wI V)) (h : W ||| U = V) : IbOk iv (6, x, y, z) := by
  refine ibOr hx hy hz ?_
  subst h; rw [ofIntU, ofIntU]; exact wrapU _
theorem ibAndNotW {x y z : AV} {W U V : BitVec 64} (hx : denI iv x = some (.u64, wI W)) (hy : denI iv y = some (.u64, wI U)) (hz : denI iv z = some (.u64, wI V)) (h : W &&& ~~~U = V) : IbOk iv (8, x, y, z) := by
  refine ibAndNot hx hy hz ?_
  subst h; rw [ofIntU, ofIntU]; exact wrapU _

/- rows of numbers of any kind -/
def numV (k : IntKind) (A : Nat) (e : Nat → Int) : Nat → Option AV := fun m => if m < A then some (.int k (e m)) else none
theorem numV_some {k : IntKind} {A : Nat} {e : Nat → Int} {m : Nat} {a : AV} (h : numV k A e m = some a) : m < A ∧ a = .int k (e m) := by
  unfold numV at h
  split at h
  · cases h; exact ⟨by assumption, rfl⟩
  · cases h
theorem numV_lt {k : IntKind} {A : Nat} {e : Nat → Int} {m : Nat} (h : m < A) : numV k A e m = some (.int k (e m)) := by unfold numV; rw [if_pos h]
theorem numV_plain {k : IntKind} {A : Nat} {e : Nat → Int} : ∀ m a, numV k A e m = some a → plain a = true := fun m a h => by
  obtain ⟨_, rfl⟩ := numV_some h; rfl
theorem numV_sub {k : IntKind} {A A' : Nat} {e e' : Nat → Int} (h : A' ≤ A) (he : ∀ m, m < A' → e' m = e m) : ∀ m a, numV k A' e' m = some a → numV k A e m = some a ∧ ∃ n, a = .int k n := fun m a ha => by
  obtain ⟨h1, rfl⟩ := numV_some ha
  rw [he m h1]
  exact ⟨numV_lt (by omega), _, rfl⟩
variable {vv : Nat → Nat → Option AV} {vk : Nat → Nat}
theorem vlN {r : VL} {K : IntKind} {k A : Nat} {e : Nat → Int} {b : AV} (hk : iv r.k = (.i64, (k : Int))) (h0 : vv r.i = numV K A e) (hl : r.l = [b]) (ho : k * r.z + r.f < A) (hb : denI iv b = some (K, e (k * r.z + r.f))) : VlOk iv vv r := by
  refine ⟨by rw [hk]; exact ⟨rfl, by simp⟩, fun m x hx => ?_⟩
  rw [hl] at hx
  have hm : m = 0 := by
    have := (List.getElem?_eq_some_iff.1 hx).1
    simpa using this
  subst hm
  simp at hx
  subst hx
  have e1 : (iv r.k).2.toNat = k := by rw [hk]; simp
  rw [e1, h0, Nat.add_zero]
  exact ⟨_, numV_lt ho, .inr ⟨_, rfl, hb⟩⟩
theorem vsN {r : VS} {K : IntKind} {k A : Nat} {e e' : Nat → Int} {b : AV} (hk : iv r.k = (.i64, (k : Int))) (h0 : vv r.i = numV K A e) (h1 : vv r.i' = numV K A e') (hv : vk r.i = A) (hv' : vk r.i' = A) (hl : r.l = [b]) (ho : k * r.z + r.f < A) (hb : denI iv b = some (K, e' (k * r.z + r.f))) (he : ∀ m, m < A → m ≠ k * r.z + r.f → e' m = e m) : VsOk iv vv vk r := by
  have e1 : (iv r.k).2.toNat = k := by rw [hk]; simp
  refine ⟨by rw [hk]; exact ⟨rfl, by simp⟩, by rw [e1, hl, hv]; simp; omega, by rw [hv, hv']; exact Nat.le_refl _, fun m x hx => ?_⟩
  rw [h1] at hx
  obtain ⟨hm, rfl⟩ := numV_some hx
  rw [e1, h0, hl]
  by_cases hmo : m = k * r.z + r.f
  · subst hmo
    rw [if_pos ⟨Nat.le_refl _, by simp⟩]
    simp only [Nat.sub_self]
    exact ⟨b, rfl, .inr ⟨_, hb, rfl⟩⟩
  · rw [if_neg (by simp; omega), numV_lt hm]
    exact ⟨_, rfl, .inl (by rw [he m hm hmo])⟩
theorem vnN {r : VN} {K : IntKind} {c : Nat} {e' : Nat → Int} (hc : iv r.k = (.i64, (c : Int))) (hb : iv r.j' = (.i64, (c : Int))) (h1 : vv r.i' = numV K c e') (hk : vk r.i' = c) (hz : r.z = 1) (hzc : r.zc = [.int K 0]) (h0 : 0 < c) (hl : c < 1000000) (hs : ∀ m, m < c → e' m = 0) : VnOk iv vv vk r := by
  refine ⟨by rw [hc]; exact ⟨rfl, by simp⟩, by rw [hc]; simpa using h0, by rw [hb, hc], by rw [hc]; simpa [limit] using hl, by rw [hk, hc, hz]; simp, fun m a ha => ?_⟩
  rw [h1] at ha
  obtain ⟨hm, rfl⟩ := numV_some ha
  refine ⟨by rw [hc, hz]; simpa using hm, .int K 0, ?_, .inl (by rw [hs m hm])⟩
  rw [hzc]; simp [Nat.mod_one]

/- elements in words -/
def msk (S s : Nat) : BitVec 64 := BitVec.ofNat 64 (2 ^ S - 1) <<< s
def setW (S s : Nat) (W v : BitVec 64) : BitVec 64 := (W &&& ~~~msk S s) ||| ((v <<< s) &&& msk S s)
theorem msk_bit (S s i : Nat) (hi : i < 64) : (msk S s).getLsbD i = (decide (s ≤ i) && decide (i < s + S)) := by
  unfold msk
  rw [BitVec.getLsbD_shiftLeft, BitVec.getLsbD_ofNat, Nat.testBit_two_pow_sub_one]
  by_cases h1 : s ≤ i
  · have h2 : decide (i - s < S) = decide (i < s + S) := by congr 1; simp only [eq_iff_iff]; omega
    have h3 : i - s < 64 := by omega
    simp [hi, h1, h2, h3, show ¬ i < s from by omega]
  · simp [h1, show i < s from by omega]
theorem setW_bit (S s : Nat) (W v : BitVec 64) (i : Nat) (hi : i < 64) : (setW S s W v).getLsbD i = if s ≤ i ∧ i < s + S then v.getLsbD (i - s) else W.getLsbD i := by
  unfold setW
  rw [BitVec.getLsbD_or, BitVec.getLsbD_and, BitVec.getLsbD_and, BitVec.getLsbD_not, msk_bit S s i hi, BitVec.getLsbD_shiftLeft]
  by_cases h1 : s ≤ i ∧ i < s + S
  · simp [hi, h1.1, h1.2, show ¬ i < s from by omega]
  · rw [if_neg h1]
    by_cases h2 : s ≤ i
    · have : ¬ i < s + S := fun h => h1 ⟨h2, h⟩
      simp [hi, this]
    · simp [hi, h2, show i < s from by omega]
def upd (per S : Nat) (c : Nat → BitVec 64) (k : Nat) (v : BitVec 64) : Nat → BitVec 64 := fun m => if m = k / per then setW S (k % per * S) (c m) v else c m
def low (per S : Nat) (c : Nat → BitVec 64) (j : Nat) : BitVec S := (c (j / per) >>> (j % per * S)).setWidth S
theorem place_lt {per S j : Nat} (h : per * S = 64) : j % per * S + S ≤ 64 := by
  have hp : 0 < per := Nat.pos_of_ne_zero (by rintro rfl; simp at h)
  have h1 : j % per + 1 ≤ per := Nat.mod_lt _ hp
  have h2 := Nat.mul_le_mul_right S h1
  rw [Nat.add_mul, Nat.one_mul, h] at h2
  exact h2
theorem low_upd {per S : Nat} (h : per * S = 64) (c : Nat → BitVec 64) (k j : Nat) (v : BitVec 64) : low per S (upd per S c k v) j = if j = k then v.setWidth S else low per S c j := by
  have hj := place_lt (j := j) h
  have hk := place_lt (j := k) h
  have key : ∀ b, b < S → (low per S (upd per S c k v) j).getLsbD b = (if j = k then v.setWidth S else low per S c j).getLsbD b := by
    intro b hb
    unfold low upd
    rw [BitVec.getLsbD_setWidth, BitVec.getLsbD_ushiftRight]
    by_cases e : j / per = k / per
    · rw [if_pos e, setW_bit _ _ _ _ _ (by omega)]
      by_cases e2 : j = k
      · subst e2
        rw [if_pos (by omega), if_pos rfl, BitVec.getLsbD_setWidth]
        congr 2
        omega
      · have hp : 0 < per := Nat.pos_of_ne_zero (by rintro rfl; simp at h)
        have e3 : j % per ≠ k % per := fun e3 => e2 (by rw [← Nat.div_add_mod j per, ← Nat.div_add_mod k per, e, e3])
        have e4 : ¬ (k % per * S ≤ j % per * S + b ∧ j % per * S + b < k % per * S + S) := by
          rcases Nat.lt_or_gt_of_ne e3 with h1 | h1
          · have := Nat.mul_le_mul_right S (show j % per + 1 ≤ k % per from h1)
            rw [Nat.add_mul, Nat.one_mul] at this
            omega
          · have := Nat.mul_le_mul_right S (show k % per + 1 ≤ j % per from h1)
            rw [Nat.add_mul, Nat.one_mul] at this
            omega
        rw [if_neg e4, if_neg e2, BitVec.getLsbD_setWidth, BitVec.getLsbD_ushiftRight]
    · have e2 : j ≠ k := fun h' => e (by rw [h'])
      rw [if_neg e, if_neg e2, BitVec.getLsbD_setWidth, BitVec.getLsbD_ushiftRight]
  exact BitVec.eq_of_getLsbD_eq fun i hi => key i hi
def putsTo (per S : Nat) (f : Nat → BitVec 64) : Nat → Nat → BitVec 64
  | 0 => fun _ => 0
  | i + 1 => upd per S (putsTo per S f i) i (f i)
theorem low_puts {per S : Nat} (h : per * S = 64) (f : Nat → BitVec 64) : ∀ (n j : Nat), j < n → low per S (putsTo per S f n) j = (f j).setWidth S
  | 0, j, hj => by omega
  | n + 1, j, hj => by
    rw [putsTo, low_upd h]
    split
    · rename_i e; rw [e]
    · exact low_puts h f n j (by omega)
/-- what is read, by its rest -/
theorem low_mod {per S : Nat} (c : Nat → BitVec 64) (j : Nat) : (wI (c (j / per) >>> (j % per * S))) % 2 ^ S = ((low per S c j).toNat : Int) := by
  unfold low wI
  rw [BitVec.toNat_setWidth]
  simp
theorem setWidth_mod {S : Nat} (hS : S ≤ 64) (v : Int) : (((BitVec.ofInt 64 v).setWidth S).toNat : Int) = v % 2 ^ S := by
  rw [BitVec.toNat_setWidth, BitVec.toNat_ofInt]
  have hd : ((2 : Int) ^ S) ∣ 2 ^ 64 := ⟨2 ^ (64 - S), by rw [← Int.pow_add]; congr 1; omega⟩
  have h0 : (0 : Int) ≤ v % (2 ^ 64 : Nat) := Int.emod_nonneg _ (by decide)
  have : (((v % (2 ^ 64 : Nat)).toNat % 2 ^ S : Nat) : Int) = (v % (2 ^ 64 : Nat)) % 2 ^ S := by
    rw [Int.natCast_emod, Int.toNat_of_nonneg h0]; simp
  rw [this]
  exact Int.emod_emod_of_dvd v hd
end Go.X
