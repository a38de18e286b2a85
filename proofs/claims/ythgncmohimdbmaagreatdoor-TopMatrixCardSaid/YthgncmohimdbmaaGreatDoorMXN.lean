/-
  The instruction that makes an array of arrays: what it makes, and its rows.
-/
import Derived.Test.YthgncmohimdbmaaGreatDoorMXS
import Derived.Test.YthgncmohimdbmaaGreatDoorXN3
import Derived.Test.YthgncmohimdbmaaGreatDoorMBM
import Derived.Test.YthgncmohimdbmaaGreatDoorProg
import Derived.KernelRfl
set_option linter.unusedSectionVars false
set_option linter.unusedVariables false
set_option maxRecDepth 1000000
set_option maxHeartbeats 0
namespace Go.Proofs.YthgncmohimdbmaaGreatDoor.mx
open Go.X Go.RowKit Go.Proofs.YthgncmohimdbmaaGreatDoor
/-- words that a row takes, where it begins -/
abbrev sw (m : Nat) : Nat := 3 + (m * 4 + 7) / 8
def en (n m k : Nat) : Nat := 11 + n + k * sw m
theorem en0 (n m : Nat) : en n m 0 = 11 + n := by unfold en; omega
theorem enS (n m k : Nat) : en n m (k + 1) = en n m k + sw m := by unfold en; rw [Nat.succ_mul]; omega
theorem en_lo (n m k : Nat) : 11 + n ≤ en n m k := by unfold en; omega
theorem en_mono (n m : Nat) : ∀ d k, en n m k ≤ en n m (k + d)
  | 0, k => Nat.le_refl _
  | d + 1, k => by have := en_mono n m d k; rw [← Nat.add_assoc, enS]; omega
theorem en_hi {n m k : Nat} (hn : n < 20) (hm : m < 20) (hk : k ≤ n) : en n m k < 400 := by
  have h1 := en_mono n m (19 - k) k
  rw [show k + (19 - k) = 19 by omega] at h1
  have h2 : en n m 19 = 11 + n + 19 * sw m := rfl
  have h3 : sw m ≤ 13 := by unfold sw; omega
  omega
abbrev full : BitVec 64 := 18446744073709551615#64
/-- a row's address, as it is written -/
def xw (n m k : Nat) : BitVec 64 := (0#64 &&& ~~~full) ||| ((BitVec.ofNat 64 (en n m k + 1) <<< 0) &&& full)
theorem xw_eq (n m k : Nat) : xw n m k = BitVec.ofNat 64 (en n m k + 1) := by
  unfold xw
  rw [show (0#64 &&& ~~~full) = 0#64 by decide, BitVec.shiftLeft_zero, show full = BitVec.allOnes 64 by decide, BitVec.and_allOnes, BitVec.zero_or]
/-- the words behind the first eight, when so many rows are there -/
def wp (n m : Nat) : Nat → Nat → BitVec 64
  | 0 => fun x => if x = 2 then BitVec.ofNat 64 n else if x = 0 then 3#64 else 0#64
  | k + 1 => fun x => if x = 3 + k then xw n m k else if x = en n m k - 6 then BitVec.ofNat 64 m else if x = en n m k - 8 then 4#64 else wp n m k x
def wv (n m k : Nat) : Nat → Nat → BitVec 64
  | 0 => wp n m k
  | 1 => fun x => if x = en n m k - 8 then 4#64 else wp n m k x
  | 2 => fun x => if x = en n m k - 6 then BitVec.ofNat 64 m else if x = en n m k - 8 then 4#64 else wp n m k x
  | _ => wp n m (k + 1)
/-- where the objects begin, behind the first three -/
def fb (n m : Nat) : Nat → Int
  | 0 => 8
  | k + 1 => ((en n m k : Nat) : Int)
theorem wp_zero {n m : Nat} : ∀ k, k ≤ n → ∀ x, en n m k - 8 ≤ x → wp n m k x = 0#64
  | 0, _, x, h => by
    rw [en0] at h
    show (if x = 2 then _ else if x = 0 then _ else _) = _
    rw [if_neg (by omega), if_neg (by omega)]
  | k + 1, hk, x, h => by
    rw [enS] at h
    have h1 := en_lo n m k
    have h2 : 3 ≤ sw m := by unfold sw; omega
    show (if x = 3 + k then _ else if x = en n m k - 6 then _ else if x = en n m k - 8 then _ else _) = _
    rw [if_neg (by omega), if_neg (by omega), if_neg (by omega)]
    exact wp_zero k (by omega) x (by omega)
theorem wp_row {n m : Nat} : ∀ k, k ≤ n → ∀ x, x < 3 → wp n m k x = wp n m 0 x
  | 0, _, x, _ => rfl
  | k + 1, hk, x, h => by
    have h1 := en_lo n m k
    show (if x = 3 + k then _ else if x = en n m k - 6 then _ else if x = en n m k - 8 then _ else _) = _
    rw [if_neg (by omega), if_neg (by omega), if_neg (by omega)]
    exact wp_row k (by omega) x h
/-- places of later rows are still empty -/
theorem wp_later {n m : Nat} : ∀ k, k ≤ n → ∀ x, k ≤ x → x < n → wp n m k (3 + x) = 0#64
  | 0, _, x, _, hx => by
    show (if 3 + x = 2 then _ else if 3 + x = 0 then _ else _) = _
    rw [if_neg (by omega), if_neg (by omega)]
  | k + 1, hk, x, h, hx => by
    have h1 := en_lo n m k
    show (if 3 + x = 3 + k then _ else if 3 + x = en n m k - 6 then _ else if 3 + x = en n m k - 8 then _ else _) = _
    rw [if_neg (by omega), if_neg (by omega), if_neg (by omega)]
    exact wp_later k (by omega) x (by omega) hx
/- names -/
abbrev Nn (k c : Nat) : Nat := 32 + (16 * k + c)
def cellN (n m k : Nat) : Nat → IntKind × Int
  | 0 => (.i64, 2048 - ((en n m k : Nat) : Int))
  | 1 => (.i64, ((en n m (k + 1) : Nat) : Int))
  | 2 => (.i64, ((k + 5 : Nat) : Int))
  | 3 => (.i64, ((en n m k + 1 : Nat) : Int))
  | 4 => (.i64, ((en n m k + 2 : Nat) : Int))
  | 5 => (.u64, wI (BitVec.ofNat 64 n))
  | 6 => (.i64, ((n : Nat) : Int))
  | 7 => (.i64, ((11 + k : Nat) : Int))
  | 8 => (.u64, wI 0#64)
  | 9 => (.u64, wI (0#64 &&& ~~~full))
  | 10 => (.u64, wI (BitVec.ofNat 64 (en n m k + 1)))
  | 11 => (.u64, wI (BitVec.ofNat 64 (en n m k + 1) <<< 0))
  | 12 => (.u64, wI ((BitVec.ofNat 64 (en n m k + 1) <<< 0) &&& full))
  | _ => (.u64, wI (xw n m k))
def ivN (n m : Nat) : Nat → IntKind × Int
  | 0 => (.i64, ((n : Nat) : Int))
  | 1 => (.i64, ((m : Nat) : Int))
  | 2 => (.i64, ((8 : Nat) : Int))
  | 3 => (.i64, ((3 : Nat) : Int))
  | 4 => (.i64, ((n * 8 : Nat) : Int))
  | 5 => (.i64, ((n * 8 + 8 : Nat) : Int))
  | 6 => (.i64, ((n * 8 + 7 : Nat) : Int))
  | 7 => (.i64, ((n : Nat) : Int))
  | 8 => (.i64, ((3 + n : Nat) : Int))
  | 9 => (.i64, 2040)
  | 10 => (.i64, ((11 + n : Nat) : Int))
  | 11 => (.i64, ((4 : Nat) : Int))
  | 12 => (.i64, ((9 : Nat) : Int))
  | 13 => (.i64, ((10 : Nat) : Int))
  | 14 => (.u64, wI (BitVec.ofNat 64 n))
  | 15 => (.i64, ((m * 4 : Nat) : Int))
  | 16 => (.i64, ((m * 4 + 8 : Nat) : Int))
  | 17 => (.i64, ((m * 4 + 7 : Nat) : Int))
  | 18 => (.i64, (((m * 4 + 7) / 8 : Nat) : Int))
  | 19 => (.i64, ((sw m : Nat) : Int))
  | 25 => (.u64, wI (BitVec.ofNat 64 m))
  | 26 => (.i64, ((8 : Nat) : Int))
  | 27 => (.i64, ((3 : Nat) : Int))
  | 30 => (.i64, ((11 : Nat) : Int))
  | x => cellN n m ((x - 32) / 16) ((x - 32) % 16)
theorem ivN_at (n m k c : Nat) (hc : c < 16) : ivN n m (Nn k c) = cellN n m k c := by
  have e1 : (Nn k c - 32) / 16 = k := by unfold Nn; omega
  have e2 : (Nn k c - 32) % 16 = c := by unfold Nn; omega
  obtain ⟨y, hy⟩ : ∃ y, Nn k c = y + 32 := ⟨16 * k + c, by unfold Nn; omega⟩
  rw [hy] at e1 e2 ⊢
  show cellN n m ((y + 32 - 32) / 16) ((y + 32 - 32) % 16) = _
  rw [e1, e2]
def eN : Nat → Nat
  | 0 => 10
  | k + 1 => Nn k 1
def sN : Nat → Nat
  | 0 => 11
  | k + 1 => Nn k 2
theorem eN_at (n m : Nat) : ∀ k, ivN n m (eN k) = (.i64, ((en n m k : Nat) : Int))
  | 0 => by rw [en0]; rfl
  | k + 1 => ivN_at n m k 1 (by decide)
theorem sN_at (n m : Nat) : ∀ k, ivN n m (sN k) = (.i64, ((k + 4 : Nat) : Int))
  | 0 => rfl
  | k + 1 => ivN_at n m k 2 (by decide)
/- vectors -/
abbrev Vn (k c : Nat) : Nat := 100 + (4 * k + c)
abbrev Sn (k : Nat) : Nat := 1000 + k
def pwN : Nat → Nat
  | 0 => 5
  | k + 1 => Vn k 3
def psN : Nat → Nat
  | 0 => 4
  | k + 1 => Sn k
abbrev l8 : List AV := [(.int .u64 0), (.int .u64 0), (.int .u64 1), (.int .u64 0), (.int .u64 0), (.int .u64 2), (.int .u64 0), (.int .u64 0)]
abbrev l3 : List AV := [(.int .i64 0), (.int .i64 2), (.int .i64 5)]
def vvN (n m : Nat) (i : Nat) : Nat → Option AV :=
  if i = 0 then pvw l8 8 (fun _ => 0#64) else if i = 1 then pvn l3 3 (fb n m) else if i = 2 then pvw l8 (11 + n) (fun _ => 0#64) else if i = 3 then pvw l8 (11 + n) (fun x => if x = 0 then 3#64 else 0#64)
  else if i = 4 then pvn l3 4 (fb n m) else if i = 5 then pvw l8 (11 + n) (wp n m 0) else if i < 100 then (fun _ => none)
  else if i < 1000 then pvw l8 (en n m ((i - 100) / 4 + 1)) (wv n m ((i - 100) / 4) ((i - 100) % 4)) else pvn l3 (i - 1000 + 5) (fb n m)
def vkN (n m : Nat) (i : Nat) : Nat :=
  if i = 0 then 8 else if i = 1 then 3 else if i = 4 then 4 else if i < 100 then (if i < 6 then 11 + n else 0) else if i < 1000 then en n m ((i - 100) / 4 + 1) else i - 1000 + 5
theorem vvN_v (n m k c : Nat) (hc : c < 4) (hk : k < 200) : vvN n m (Vn k c) = pvw l8 (en n m (k + 1)) (wv n m k c) := by
  have e1 : (Vn k c - 100) / 4 = k := by unfold Vn; omega
  have e2 : (Vn k c - 100) % 4 = c := by unfold Vn; omega
  unfold vvN
  rw [if_neg (by unfold Vn; omega), if_neg (by unfold Vn; omega), if_neg (by unfold Vn; omega), if_neg (by unfold Vn; omega), if_neg (by unfold Vn; omega), if_neg (by unfold Vn; omega), if_neg (by unfold Vn; omega), if_pos (by unfold Vn; omega), e1, e2]
theorem vkN_v (n m k c : Nat) (hc : c < 4) (hk : k < 200) : vkN n m (Vn k c) = en n m (k + 1) := by
  have e1 : (Vn k c - 100) / 4 = k := by unfold Vn; omega
  unfold vkN
  rw [if_neg (by unfold Vn; omega), if_neg (by unfold Vn; omega), if_neg (by unfold Vn; omega), if_neg (by unfold Vn; omega), if_pos (by unfold Vn; omega), e1]
theorem vvN_s (n m k : Nat) : vvN n m (Sn k) = pvn l3 (k + 5) (fb n m) := by
  have e1 : Sn k - 1000 = k := by unfold Sn; omega
  unfold vvN
  rw [if_neg (by unfold Sn; omega), if_neg (by unfold Sn; omega), if_neg (by unfold Sn; omega), if_neg (by unfold Sn; omega), if_neg (by unfold Sn; omega), if_neg (by unfold Sn; omega), if_neg (by unfold Sn; omega), if_neg (by unfold Sn; omega), e1]
theorem vkN_s (n m k : Nat) : vkN n m (Sn k) = k + 5 := by
  have e1 : Sn k - 1000 = k := by unfold Sn; omega
  unfold vkN
  rw [if_neg (by unfold Sn; omega), if_neg (by unfold Sn; omega), if_neg (by unfold Sn; omega), if_neg (by unfold Sn; omega), if_neg (by unfold Sn; omega), e1]
theorem pw_v (n m : Nat) : ∀ k, k < 200 → vvN n m (pwN k) = pvw l8 (en n m k) (wp n m k)
  | 0, _ => by rw [en0]; rfl
  | k + 1, h => vvN_v n m k 3 (by decide) (by omega)
theorem ps_v (n m : Nat) : ∀ k, vvN n m (psN k) = pvn l3 (k + 4) (fb n m)
  | 0 => rfl
  | k + 1 => vvN_s n m k
theorem vpN_ok (n m : Nat) : ∀ i_ m_ a_, vvN n m i_ m_ = some a_ → vplain a_ = true := by
  intro i q a h
  unfold vvN at h
  repeat' split at h
  all_goals first
    | exact pvw_plain rfl h
    | exact pvn_plain rfl h
    | cases h
end Go.Proofs.YthgncmohimdbmaaGreatDoor.mx
