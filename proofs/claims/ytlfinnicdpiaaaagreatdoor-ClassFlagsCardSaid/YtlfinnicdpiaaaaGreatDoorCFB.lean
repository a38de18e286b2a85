/-
  Numbers of the law ClassFlags: what is known of operations on the flags.
-/
import Derived.Test.YtlfinnicdpiaaaaGreatDoorXN3
import Derived.Test.YtlfinnicdpiaaaaGreatDoorCF0a
import Derived.KernelRfl
set_option linter.unusedVariables false
set_option linter.unusedSimpArgs false
set_option maxRecDepth 100000
namespace Go.Proofs.YtlfinnicdpiaaaaGreatDoor.cf
open Go.X Go.RowKit
abbrev vA (f c : Int) : Int := IntKind.i64.wrap (BitVec.ofInt IntKind.i64.bits f &&& BitVec.ofInt IntKind.i64.bits c).toNat
abbrev vN (f c : Int) : Int := IntKind.i64.wrap (BitVec.ofInt IntKind.i64.bits f &&& ~~~BitVec.ofInt IntKind.i64.bits c).toNat
theorem orNat {a b c : Nat} (ha : a < 2 ^ 62) (hb : b < 2 ^ 62) (h : a ||| b = c) (hc : c < 2 ^ 62) : IntKind.i64.wrap (BitVec.ofInt IntKind.i64.bits (a : Int) ||| BitVec.ofInt IntKind.i64.bits (b : Int)).toNat = (c : Int) := by
  have e : (BitVec.ofInt 64 (a : Int) ||| BitVec.ofInt 64 (b : Int)).toNat = c := by
    rw [BitVec.ofInt_natCast, BitVec.ofInt_natCast, BitVec.toNat_or, BitVec.toNat_ofNat, BitVec.toNat_ofNat, Nat.mod_eq_of_lt (by omega), Nat.mod_eq_of_lt (by omega), h]
  show IntKind.i64.wrap ((BitVec.ofInt 64 (a : Int) ||| BitVec.ofInt 64 (b : Int)).toNat : Int) = (c : Int)
  rw [e, wrap64 (by omega) (by omega)]
theorem andNat {a b c : Nat} (ha : a < 2 ^ 62) (hb : b < 2 ^ 62) (h : a &&& b = c) (hc : c < 2 ^ 62) : IntKind.i64.wrap (BitVec.ofInt IntKind.i64.bits (a : Int) &&& BitVec.ofInt IntKind.i64.bits (b : Int)).toNat = (c : Int) := by
  have e : (BitVec.ofInt 64 (a : Int) &&& BitVec.ofInt 64 (b : Int)).toNat = c := by
    rw [BitVec.ofInt_natCast, BitVec.ofInt_natCast, BitVec.toNat_and, BitVec.toNat_ofNat, BitVec.toNat_ofNat, Nat.mod_eq_of_lt (by omega), Nat.mod_eq_of_lt (by omega), h]
  show IntKind.i64.wrap ((BitVec.ofInt 64 (a : Int) &&& BitVec.ofInt 64 (b : Int)).toNat : Int) = (c : Int)
  rw [e, wrap64 (by omega) (by omega)]
theorem hiLo (n : Nat) : n / 256 * 256 ||| n % 256 = n := by
  have h : n % 256 < 2 ^ 8 := Nat.mod_lt _ (by decide)
  have e := Nat.shiftLeft_add_eq_or_of_lt h (n / 256)
  rw [Nat.shiftLeft_eq] at e
  have e2 : n / 256 * 2 ^ 8 = n / 256 * 256 := rfl
  rw [e2] at e
  rw [← e]; omega
theorem two8 : (2 : Int) ^ (min (8 : Int).toNat IntKind.i64.bits) = 256 := by decide
theorem wrapU8 {n : Nat} : IntKind.u8.wrap (n : Int) = ((n % 256 : Nat) : Int) := by
  unfold IntKind.wrap IntKind.bits IntKind.signed
  simp
theorem allApp {α : Type} {p : α → Prop} {l m : List α} (h : ∀ r ∈ l, p r) (k : ∀ r ∈ m, p r) : ∀ r ∈ l ++ m, p r := fun r hr => by
  rcases List.mem_append.1 hr with h1 | h1
  · exact h r h1
  · exact k r h1
abbrev ivC (m c f k : Nat) : Nat → IntKind × Int := fun i0 => match i0 with
  | 0 => (.i64, (m : Int)) | 1 => (.i64, (c : Int)) | 2 => (.i64, (f : Int)) | 3 => (.i64, (k : Int)) | 4 => (.i64, vA c 512) | 5 => (.i64, vA k 1024) | 6 => (.i64, vN c 1585) | 7 => (.i64, vA c 16) | 8 => (.i64, vN f 31) | 10 => (.i64, vN k 1055) | 12 => (.u8, (m : Int)) | 13 => (.i64, ((c / 256 : Nat) : Int)) | 14 => (.u8, ((c / 256 : Nat) : Int)) | 15 => (.u8, ((c % 256 : Nat) : Int)) | 16 => (.i64, ((f / 256 : Nat) : Int)) | 17 => (.u8, ((f / 256 : Nat) : Int)) | 18 => (.u8, ((f % 256 : Nat) : Int)) | 19 => (.i64, ((k / 256 : Nat) : Int)) | 20 => (.u8, ((k / 256 : Nat) : Int)) | 21 => (.u8, ((k % 256 : Nat) : Int)) | 22 => (.i64, ((c / 256 : Nat) : Int)) | 23 => (.i64, ((c / 256 * 256 : Nat) : Int)) | 24 => (.i64, ((c % 256 : Nat) : Int)) | 25 => (.i64, vA c 1024) | 26 => (.i64, ((f / 256 : Nat) : Int)) | 27 => (.i64, ((f / 256 * 256 : Nat) : Int)) | 28 => (.i64, ((f % 256 : Nat) : Int)) | 49 => (.i64, ((k / 256 : Nat) : Int)) | 50 => (.i64, ((k / 256 * 256 : Nat) : Int)) | 51 => (.i64, ((k % 256 : Nat) : Int)) | 72 => (.i64, vA k 8) | 73 => (.i64, vA k 26) | 74 => (.i64, vA k 20) | 75 => (.i64, vA k 3) | _ => (.i64, 0)
structure Bd (m c f k : Nat) : Prop where
  m0 : 50 ≤ m
  m1 : m ≤ 52
  c1 : c < 65536
  f1 : f < 65536
  k1 : k < 65536
abbrev rB : List BRow := [(15, .oi 22, .int .u64 8, .oi 23), (15, .oi 26, .int .u64 8, .oi 27), (15, .oi 49, .int .u64 8, .oi 50), (16, .oi 1, .int .u64 8, .oi 13), (16, .oi 2, .int .u64 8, .oi 16), (16, .oi 3, .int .u64 8, .oi 19), (5, .oi 1, .int .i64 1024, .oi 25), (5, .oi 1, .int .i64 16, .oi 7), (5, .oi 1, .int .i64 512, .oi 4), (5, .oi 3, .int .i64 1024, .oi 5), (5, .oi 3, .int .i64 20, .oi 74), (5, .oi 3, .int .i64 26, .oi 73), (5, .oi 3, .int .i64 3, .oi 75), (5, .oi 3, .int .i64 8, .oi 72), (6, .int .i64 0, .oi 0, .oi 0), (6, .int .i64 0, .oi 22, .oi 22), (6, .int .i64 0, .oi 26, .oi 26), (6, .int .i64 0, .oi 49, .oi 49), (6, .oi 23, .oi 24, .oi 1), (6, .oi 27, .oi 28, .oi 2), (6, .oi 50, .oi 51, .oi 3), (8, .oi 1, .int .i64 1585, .oi 6), (8, .oi 2, .int .i64 31, .oi 8), (8, .oi 3, .int .i64 1055, .oi 10), (11, .oi 0, .int .i64 50, .bool false), (13, .oi 0, .int .i64 52, .bool false), (11, .oi 1, .int .i64 0, .bool false), (13, .oi 1, .int .i64 65535, .bool false), (11, .oi 2, .int .i64 0, .bool false), (13, .oi 2, .int .i64 65535, .bool false), (11, .oi 3, .int .i64 0, .bool false), (13, .oi 3, .int .i64 65535, .bool false)]
theorem rB_ok {m c f k : Nat} (b : Bd m c f k) : ∀ r ∈ rB, IbOk (ivC m c f k) r := by
  letI := Tab.empty
  obtain ⟨hm0, hm1, hc, hf, hk⟩ := b
  exact (ibCons (ibShl (k' := .u64) (a := ((c / 256 : Nat) : Int)) (b := 8) (c := ((c / 256 * 256 : Nat) : Int)) rfl rfl rfl (by decide) (by rw [two8, wrap64 (by omega) (by omega)]; omega))
    (ibCons (ibShl (k' := .u64) (a := ((f / 256 : Nat) : Int)) (b := 8) (c := ((f / 256 * 256 : Nat) : Int)) rfl rfl rfl (by decide) (by rw [two8, wrap64 (by omega) (by omega)]; omega))
    (ibCons (ibShl (k' := .u64) (a := ((k / 256 : Nat) : Int)) (b := 8) (c := ((k / 256 * 256 : Nat) : Int)) rfl rfl rfl (by decide) (by rw [two8, wrap64 (by omega) (by omega)]; omega))
    (ibCons (ibShr (k' := .u64) (a := (c : Int)) (b := 8) (c := ((c / 256 : Nat) : Int)) rfl rfl rfl (by decide) (by rw [two8, Int.fdiv_eq_ediv_of_nonneg _ (by decide)]; omega))
    (ibCons (ibShr (k' := .u64) (a := (f : Int)) (b := 8) (c := ((f / 256 : Nat) : Int)) rfl rfl rfl (by decide) (by rw [two8, Int.fdiv_eq_ediv_of_nonneg _ (by decide)]; omega))
    (ibCons (ibShr (k' := .u64) (a := (k : Int)) (b := 8) (c := ((k / 256 : Nat) : Int)) rfl rfl rfl (by decide) (by rw [two8, Int.fdiv_eq_ediv_of_nonneg _ (by decide)]; omega))
    (ibCons (ibAnd (k := .i64) (a := (c : Int)) (b := (1024)) (c := vA c 1024) rfl rfl rfl rfl)
    (ibCons (ibAnd (k := .i64) (a := (c : Int)) (b := (16)) (c := vA c 16) rfl rfl rfl rfl)
    (ibCons (ibAnd (k := .i64) (a := (c : Int)) (b := (512)) (c := vA c 512) rfl rfl rfl rfl)
    (ibCons (ibAnd (k := .i64) (a := (k : Int)) (b := (1024)) (c := vA k 1024) rfl rfl rfl rfl)
    (ibCons (ibAnd (k := .i64) (a := (k : Int)) (b := (20)) (c := vA k 20) rfl rfl rfl rfl)
    (ibCons (ibAnd (k := .i64) (a := (k : Int)) (b := (26)) (c := vA k 26) rfl rfl rfl rfl)
    (ibCons (ibAnd (k := .i64) (a := (k : Int)) (b := (3)) (c := vA k 3) rfl rfl rfl rfl)
    (ibCons (ibAnd (k := .i64) (a := (k : Int)) (b := (8)) (c := vA k 8) rfl rfl rfl rfl)
    (ibCons (ibOr (k := .i64) (a := ((0 : Nat) : Int)) (b := (m : Int)) (c := (m : Int)) rfl rfl rfl (orNat (by decide) (by omega) (Nat.zero_or _) (by omega)))
    (ibCons (ibOr (k := .i64) (a := ((0 : Nat) : Int)) (b := ((c / 256 : Nat) : Int)) (c := ((c / 256 : Nat) : Int)) rfl rfl rfl (orNat (by decide) (by omega) (Nat.zero_or _) (by omega)))
    (ibCons (ibOr (k := .i64) (a := ((0 : Nat) : Int)) (b := ((f / 256 : Nat) : Int)) (c := ((f / 256 : Nat) : Int)) rfl rfl rfl (orNat (by decide) (by omega) (Nat.zero_or _) (by omega)))
    (ibCons (ibOr (k := .i64) (a := ((0 : Nat) : Int)) (b := ((k / 256 : Nat) : Int)) (c := ((k / 256 : Nat) : Int)) rfl rfl rfl (orNat (by decide) (by omega) (Nat.zero_or _) (by omega)))
    (ibCons (ibOr (k := .i64) (a := ((c / 256 * 256 : Nat) : Int)) (b := ((c % 256 : Nat) : Int)) (c := (c : Int)) rfl rfl rfl (orNat (by omega) (by omega) (hiLo c) (by omega)))
    (ibCons (ibOr (k := .i64) (a := ((f / 256 * 256 : Nat) : Int)) (b := ((f % 256 : Nat) : Int)) (c := (f : Int)) rfl rfl rfl (orNat (by omega) (by omega) (hiLo f) (by omega)))
    (ibCons (ibOr (k := .i64) (a := ((k / 256 * 256 : Nat) : Int)) (b := ((k % 256 : Nat) : Int)) (c := (k : Int)) rfl rfl rfl (orNat (by omega) (by omega) (hiLo k) (by omega)))
    (ibCons (ibAndNot (k := .i64) (a := (c : Int)) (b := (1585)) (c := vN c 1585) rfl rfl rfl rfl)
    (ibCons (ibAndNot (k := .i64) (a := (f : Int)) (b := (31)) (c := vN f 31) rfl rfl rfl rfl)
    (ibCons (ibAndNot (k := .i64) (a := (k : Int)) (b := (1055)) (c := vN k 1055) rfl rfl rfl rfl)
    (ibCons (ibLt (a := (m : Int)) (b := 50) rfl rfl (decide_eq_false (by omega)))
    (ibCons (ibGt (a := (m : Int)) (b := 52) rfl rfl (decide_eq_false (by omega)))
    (ibCons (ibLt (a := (c : Int)) (b := 0) rfl rfl (decide_eq_false (by omega)))
    (ibCons (ibGt (a := (c : Int)) (b := 65535) rfl rfl (decide_eq_false (by omega)))
    (ibCons (ibLt (a := (f : Int)) (b := 0) rfl rfl (decide_eq_false (by omega)))
    (ibCons (ibGt (a := (f : Int)) (b := 65535) rfl rfl (decide_eq_false (by omega)))
    (ibCons (ibLt (a := (k : Int)) (b := 0) rfl rfl (decide_eq_false (by omega)))
    (ibCons (ibGt (a := (k : Int)) (b := 65535) rfl rfl (decide_eq_false (by omega)))
    ibNil))))))))))))))))))))))))))))))))
abbrev rI : List (IntKind × AV × AV) := [(.i64, .oi 12, .oi 0), (.i64, .oi 14, .oi 22), (.i64, .oi 15, .oi 24), (.i64, .oi 17, .oi 26), (.i64, .oi 18, .oi 28), (.i64, .oi 20, .oi 49), (.i64, .oi 21, .oi 51), (.u8, .oi 0, .oi 12), (.u8, .oi 1, .oi 15), (.u8, .oi 13, .oi 14), (.u8, .oi 16, .oi 17), (.u8, .oi 19, .oi 20), (.u8, .oi 2, .oi 18), (.u8, .oi 3, .oi 21)]
theorem rI_ok {m c f k : Nat} (b : Bd m c f k) : ∀ r ∈ rI, IcOk (ivC m c f k) r := by
  obtain ⟨hm0, hm1, hc, hf, hk⟩ := b
  exact (allCons (icOf (k := .i64) (n := (m : Int)) (c := (m : Int)) rfl rfl (wrap64 (by omega) (by omega)))
    (allCons (icOf (k := .i64) (n := ((c / 256 : Nat) : Int)) (c := ((c / 256 : Nat) : Int)) rfl rfl (wrap64 (by omega) (by omega)))
    (allCons (icOf (k := .i64) (n := ((c % 256 : Nat) : Int)) (c := ((c % 256 : Nat) : Int)) rfl rfl (wrap64 (by omega) (by omega)))
    (allCons (icOf (k := .i64) (n := ((f / 256 : Nat) : Int)) (c := ((f / 256 : Nat) : Int)) rfl rfl (wrap64 (by omega) (by omega)))
    (allCons (icOf (k := .i64) (n := ((f % 256 : Nat) : Int)) (c := ((f % 256 : Nat) : Int)) rfl rfl (wrap64 (by omega) (by omega)))
    (allCons (icOf (k := .i64) (n := ((k / 256 : Nat) : Int)) (c := ((k / 256 : Nat) : Int)) rfl rfl (wrap64 (by omega) (by omega)))
    (allCons (icOf (k := .i64) (n := ((k % 256 : Nat) : Int)) (c := ((k % 256 : Nat) : Int)) rfl rfl (wrap64 (by omega) (by omega)))
    (allCons (icOf (k := .u8) (n := (m : Int)) (c := (m : Int)) rfl rfl (by first | (rw [wrapU8]; done) | (rw [wrapU8]; omega)))
    (allCons (icOf (k := .u8) (n := (c : Int)) (c := ((c % 256 : Nat) : Int)) rfl rfl (by first | (rw [wrapU8]; done) | (rw [wrapU8]; omega)))
    (allCons (icOf (k := .u8) (n := ((c / 256 : Nat) : Int)) (c := ((c / 256 : Nat) : Int)) rfl rfl (by first | (rw [wrapU8]; done) | (rw [wrapU8]; omega)))
    (allCons (icOf (k := .u8) (n := ((f / 256 : Nat) : Int)) (c := ((f / 256 : Nat) : Int)) rfl rfl (by first | (rw [wrapU8]; done) | (rw [wrapU8]; omega)))
    (allCons (icOf (k := .u8) (n := ((k / 256 : Nat) : Int)) (c := ((k / 256 : Nat) : Int)) rfl rfl (by first | (rw [wrapU8]; done) | (rw [wrapU8]; omega)))
    (allCons (icOf (k := .u8) (n := (f : Int)) (c := ((f % 256 : Nat) : Int)) rfl rfl (by first | (rw [wrapU8]; done) | (rw [wrapU8]; omega)))
    (allCons (icOf (k := .u8) (n := (k : Int)) (c := ((k % 256 : Nat) : Int)) rfl rfl (by first | (rw [wrapU8]; done) | (rw [wrapU8]; omega)))
    allNil))))))))))))))
abbrev RC {m c f k : Nat} (b : Bd m c f k) (ext : List BRow) (h : ∀ r ∈ ext, IbOk (ivC m c f k) r) : VRows (ivC m c f k) noV noK where
  vvp := noVp
  ib := ext ++ rB
  ibok := allApp h (rB_ok b)
  ic := rI
  icok := rI_ok b
abbrev TB (m c f k : Nat) : Tab := (bare (ivC m c f k) noV noK noVp).tab
def acc (n : Nat) : Bool := n % 8 = 0 || n % 8 = 1 || n % 8 = 2 || n % 8 = 4
theorem andSeven {n : Nat} (hn : n < 65536) : IntKind.i64.wrap (BitVec.ofInt IntKind.i64.bits (n : Int) &&& BitVec.ofInt IntKind.i64.bits 7).toNat = ((n % 8 : Nat) : Int) :=
  andNat (b := 7) (by omega) (by decide) (Nat.and_two_pow_sub_one_eq_mod n 3) (by omega)
noncomputable def S_access_f_true : Sum := ⟨.bool true, 0, []⟩
theorem S_access_f_true_at {m c f k : Nat} (b : Bd m c f k) {x : Nat} (hx : f % 8 = x) (e : ob (@call (RC b [(5, .oi 2, .int .i64 7, .int .i64 x)] (by letI := Tab.empty; exact ibCons (ibAnd (k := .i64) (a := (f : Int)) (b := 7) (c := (x : Int)) rfl rfl rfl (by rw [andSeven b.f1, hx])) ibNil)).tab Tryz.prog Hand.none 5000 6 [.oi 2] H.empty) (sumOf []) = some S_access_f_true) : @SumOk (TB m c f k) Tryz.prog 6 [.oi 2] S_access_f_true :=
  SumOk.tab (VRows.same _ _) (@SumOk.of_run (RC b [(5, .oi 2, .int .i64 7, .int .i64 x)] (by letI := Tab.empty; exact ibCons (ibAnd (k := .i64) (a := (f : Int)) (b := 7) (c := (x : Int)) rfl rfl rfl (by rw [andSeven b.f1, hx])) ibNil)).tab Tryz.prog Hand.none mixed (@HandOk.none (RC b [(5, .oi 2, .int .i64 7, .int .i64 x)] (by letI := Tab.empty; exact ibCons (ibAnd (k := .i64) (a := (f : Int)) (b := 7) (c := (x : Int)) rfl rfl rfl (by rw [andSeven b.f1, hx])) ibNil)).tab Tryz.prog) 5000 6 [.oi 2] [] S_access_f_true (by rfl) e)
theorem S_access_f_true_ok {m c f k : Nat} (b : Bd m c f k) (h : acc f = true) : @SumOk (TB m c f k) Tryz.prog 6 [.oi 2] S_access_f_true := by
  have h8 : f % 8 < 8 := Nat.mod_lt _ (by decide)
  obtain h0 | h0 | h0 | h0 | h0 | h0 | h0 | h0 : f % 8 = 0 ∨ f % 8 = 1 ∨ f % 8 = 2 ∨ f % 8 = 3 ∨ f % 8 = 4 ∨ f % 8 = 5 ∨ f % 8 = 6 ∨ f % 8 = 7 := by omega
  · exact S_access_f_true_at b h0 (by as_aux_lemma => kernel_rfl)
  · exact S_access_f_true_at b h0 (by as_aux_lemma => kernel_rfl)
  · exact S_access_f_true_at b h0 (by as_aux_lemma => kernel_rfl)
  · simp [acc, h0] at h
  · exact S_access_f_true_at b h0 (by as_aux_lemma => kernel_rfl)
  · simp [acc, h0] at h
  · simp [acc, h0] at h
  · simp [acc, h0] at h
noncomputable def S_access_f_false : Sum := ⟨.bool false, 0, []⟩
theorem S_access_f_false_at {m c f k : Nat} (b : Bd m c f k) {x : Nat} (hx : f % 8 = x) (e : ob (@call (RC b [(5, .oi 2, .int .i64 7, .int .i64 x)] (by letI := Tab.empty; exact ibCons (ibAnd (k := .i64) (a := (f : Int)) (b := 7) (c := (x : Int)) rfl rfl rfl (by rw [andSeven b.f1, hx])) ibNil)).tab Tryz.prog Hand.none 5000 6 [.oi 2] H.empty) (sumOf []) = some S_access_f_false) : @SumOk (TB m c f k) Tryz.prog 6 [.oi 2] S_access_f_false :=
  SumOk.tab (VRows.same _ _) (@SumOk.of_run (RC b [(5, .oi 2, .int .i64 7, .int .i64 x)] (by letI := Tab.empty; exact ibCons (ibAnd (k := .i64) (a := (f : Int)) (b := 7) (c := (x : Int)) rfl rfl rfl (by rw [andSeven b.f1, hx])) ibNil)).tab Tryz.prog Hand.none mixed (@HandOk.none (RC b [(5, .oi 2, .int .i64 7, .int .i64 x)] (by letI := Tab.empty; exact ibCons (ibAnd (k := .i64) (a := (f : Int)) (b := 7) (c := (x : Int)) rfl rfl rfl (by rw [andSeven b.f1, hx])) ibNil)).tab Tryz.prog) 5000 6 [.oi 2] [] S_access_f_false (by rfl) e)
theorem S_access_f_false_ok {m c f k : Nat} (b : Bd m c f k) (h : acc f = false) : @SumOk (TB m c f k) Tryz.prog 6 [.oi 2] S_access_f_false := by
  have h8 : f % 8 < 8 := Nat.mod_lt _ (by decide)
  obtain h0 | h0 | h0 | h0 | h0 | h0 | h0 | h0 : f % 8 = 0 ∨ f % 8 = 1 ∨ f % 8 = 2 ∨ f % 8 = 3 ∨ f % 8 = 4 ∨ f % 8 = 5 ∨ f % 8 = 6 ∨ f % 8 = 7 := by omega
  · simp [acc, h0] at h
  · simp [acc, h0] at h
  · simp [acc, h0] at h
  · exact S_access_f_false_at b h0 (by as_aux_lemma => kernel_rfl)
  · simp [acc, h0] at h
  · exact S_access_f_false_at b h0 (by as_aux_lemma => kernel_rfl)
  · exact S_access_f_false_at b h0 (by as_aux_lemma => kernel_rfl)
  · exact S_access_f_false_at b h0 (by as_aux_lemma => kernel_rfl)
noncomputable def S_access_k_true : Sum := ⟨.bool true, 0, []⟩
theorem S_access_k_true_at {m c f k : Nat} (b : Bd m c f k) {x : Nat} (hx : k % 8 = x) (e : ob (@call (RC b [(5, .oi 3, .int .i64 7, .int .i64 x)] (by letI := Tab.empty; exact ibCons (ibAnd (k := .i64) (a := (k : Int)) (b := 7) (c := (x : Int)) rfl rfl rfl (by rw [andSeven b.k1, hx])) ibNil)).tab Tryz.prog Hand.none 5000 6 [.oi 3] H.empty) (sumOf []) = some S_access_k_true) : @SumOk (TB m c f k) Tryz.prog 6 [.oi 3] S_access_k_true :=
  SumOk.tab (VRows.same _ _) (@SumOk.of_run (RC b [(5, .oi 3, .int .i64 7, .int .i64 x)] (by letI := Tab.empty; exact ibCons (ibAnd (k := .i64) (a := (k : Int)) (b := 7) (c := (x : Int)) rfl rfl rfl (by rw [andSeven b.k1, hx])) ibNil)).tab Tryz.prog Hand.none mixed (@HandOk.none (RC b [(5, .oi 3, .int .i64 7, .int .i64 x)] (by letI := Tab.empty; exact ibCons (ibAnd (k := .i64) (a := (k : Int)) (b := 7) (c := (x : Int)) rfl rfl rfl (by rw [andSeven b.k1, hx])) ibNil)).tab Tryz.prog) 5000 6 [.oi 3] [] S_access_k_true (by rfl) e)
theorem S_access_k_true_ok {m c f k : Nat} (b : Bd m c f k) (h : acc k = true) : @SumOk (TB m c f k) Tryz.prog 6 [.oi 3] S_access_k_true := by
  have h8 : k % 8 < 8 := Nat.mod_lt _ (by decide)
  obtain h0 | h0 | h0 | h0 | h0 | h0 | h0 | h0 : k % 8 = 0 ∨ k % 8 = 1 ∨ k % 8 = 2 ∨ k % 8 = 3 ∨ k % 8 = 4 ∨ k % 8 = 5 ∨ k % 8 = 6 ∨ k % 8 = 7 := by omega
  · exact S_access_k_true_at b h0 (by as_aux_lemma => kernel_rfl)
  · exact S_access_k_true_at b h0 (by as_aux_lemma => kernel_rfl)
  · exact S_access_k_true_at b h0 (by as_aux_lemma => kernel_rfl)
  · simp [acc, h0] at h
  · exact S_access_k_true_at b h0 (by as_aux_lemma => kernel_rfl)
  · simp [acc, h0] at h
  · simp [acc, h0] at h
  · simp [acc, h0] at h
noncomputable def S_access_k_false : Sum := ⟨.bool false, 0, []⟩
theorem S_access_k_false_at {m c f k : Nat} (b : Bd m c f k) {x : Nat} (hx : k % 8 = x) (e : ob (@call (RC b [(5, .oi 3, .int .i64 7, .int .i64 x)] (by letI := Tab.empty; exact ibCons (ibAnd (k := .i64) (a := (k : Int)) (b := 7) (c := (x : Int)) rfl rfl rfl (by rw [andSeven b.k1, hx])) ibNil)).tab Tryz.prog Hand.none 5000 6 [.oi 3] H.empty) (sumOf []) = some S_access_k_false) : @SumOk (TB m c f k) Tryz.prog 6 [.oi 3] S_access_k_false :=
  SumOk.tab (VRows.same _ _) (@SumOk.of_run (RC b [(5, .oi 3, .int .i64 7, .int .i64 x)] (by letI := Tab.empty; exact ibCons (ibAnd (k := .i64) (a := (k : Int)) (b := 7) (c := (x : Int)) rfl rfl rfl (by rw [andSeven b.k1, hx])) ibNil)).tab Tryz.prog Hand.none mixed (@HandOk.none (RC b [(5, .oi 3, .int .i64 7, .int .i64 x)] (by letI := Tab.empty; exact ibCons (ibAnd (k := .i64) (a := (k : Int)) (b := 7) (c := (x : Int)) rfl rfl rfl (by rw [andSeven b.k1, hx])) ibNil)).tab Tryz.prog) 5000 6 [.oi 3] [] S_access_k_false (by rfl) e)
theorem S_access_k_false_ok {m c f k : Nat} (b : Bd m c f k) (h : acc k = false) : @SumOk (TB m c f k) Tryz.prog 6 [.oi 3] S_access_k_false := by
  have h8 : k % 8 < 8 := Nat.mod_lt _ (by decide)
  obtain h0 | h0 | h0 | h0 | h0 | h0 | h0 | h0 : k % 8 = 0 ∨ k % 8 = 1 ∨ k % 8 = 2 ∨ k % 8 = 3 ∨ k % 8 = 4 ∨ k % 8 = 5 ∨ k % 8 = 6 ∨ k % 8 = 7 := by omega
  · simp [acc, h0] at h
  · simp [acc, h0] at h
  · simp [acc, h0] at h
  · exact S_access_k_false_at b h0 (by as_aux_lemma => kernel_rfl)
  · simp [acc, h0] at h
  · exact S_access_k_false_at b h0 (by as_aux_lemma => kernel_rfl)
  · exact S_access_k_false_at b h0 (by as_aux_lemma => kernel_rfl)
  · exact S_access_k_false_at b h0 (by as_aux_lemma => kernel_rfl)
noncomputable def S_single_f_true : Sum := ⟨.bool true, 0, []⟩
theorem S_single_f_true_at {m c f k : Nat} (b : Bd m c f k) {x : Nat} (hx : f % 8 = x) (e : ob (@call (RC b [(5, .oi 2, .int .i64 7, .int .i64 x)] (by letI := Tab.empty; exact ibCons (ibAnd (k := .i64) (a := (f : Int)) (b := 7) (c := (x : Int)) rfl rfl rfl (by rw [andSeven b.f1, hx])) ibNil)).tab Tryz.prog Hand.none 5000 36 [.oi 2] H.empty) (sumOf []) = some S_single_f_true) : @SumOk (TB m c f k) Tryz.prog 36 [.oi 2] S_single_f_true :=
  SumOk.tab (VRows.same _ _) (@SumOk.of_run (RC b [(5, .oi 2, .int .i64 7, .int .i64 x)] (by letI := Tab.empty; exact ibCons (ibAnd (k := .i64) (a := (f : Int)) (b := 7) (c := (x : Int)) rfl rfl rfl (by rw [andSeven b.f1, hx])) ibNil)).tab Tryz.prog Hand.none mixed (@HandOk.none (RC b [(5, .oi 2, .int .i64 7, .int .i64 x)] (by letI := Tab.empty; exact ibCons (ibAnd (k := .i64) (a := (f : Int)) (b := 7) (c := (x : Int)) rfl rfl rfl (by rw [andSeven b.f1, hx])) ibNil)).tab Tryz.prog) 5000 36 [.oi 2] [] S_single_f_true (by rfl) e)
theorem S_single_f_true_ok {m c f k : Nat} (b : Bd m c f k) (h : acc f = true) : @SumOk (TB m c f k) Tryz.prog 36 [.oi 2] S_single_f_true := by
  have h8 : f % 8 < 8 := Nat.mod_lt _ (by decide)
  obtain h0 | h0 | h0 | h0 | h0 | h0 | h0 | h0 : f % 8 = 0 ∨ f % 8 = 1 ∨ f % 8 = 2 ∨ f % 8 = 3 ∨ f % 8 = 4 ∨ f % 8 = 5 ∨ f % 8 = 6 ∨ f % 8 = 7 := by omega
  · exact S_single_f_true_at b h0 (by as_aux_lemma => kernel_rfl)
  · exact S_single_f_true_at b h0 (by as_aux_lemma => kernel_rfl)
  · exact S_single_f_true_at b h0 (by as_aux_lemma => kernel_rfl)
  · simp [acc, h0] at h
  · exact S_single_f_true_at b h0 (by as_aux_lemma => kernel_rfl)
  · simp [acc, h0] at h
  · simp [acc, h0] at h
  · simp [acc, h0] at h
noncomputable def S_single_f_false : Sum := ⟨.bool false, 0, []⟩
theorem S_single_f_false_at {m c f k : Nat} (b : Bd m c f k) {x : Nat} (hx : f % 8 = x) (e : ob (@call (RC b [(5, .oi 2, .int .i64 7, .int .i64 x)] (by letI := Tab.empty; exact ibCons (ibAnd (k := .i64) (a := (f : Int)) (b := 7) (c := (x : Int)) rfl rfl rfl (by rw [andSeven b.f1, hx])) ibNil)).tab Tryz.prog Hand.none 5000 36 [.oi 2] H.empty) (sumOf []) = some S_single_f_false) : @SumOk (TB m c f k) Tryz.prog 36 [.oi 2] S_single_f_false :=
  SumOk.tab (VRows.same _ _) (@SumOk.of_run (RC b [(5, .oi 2, .int .i64 7, .int .i64 x)] (by letI := Tab.empty; exact ibCons (ibAnd (k := .i64) (a := (f : Int)) (b := 7) (c := (x : Int)) rfl rfl rfl (by rw [andSeven b.f1, hx])) ibNil)).tab Tryz.prog Hand.none mixed (@HandOk.none (RC b [(5, .oi 2, .int .i64 7, .int .i64 x)] (by letI := Tab.empty; exact ibCons (ibAnd (k := .i64) (a := (f : Int)) (b := 7) (c := (x : Int)) rfl rfl rfl (by rw [andSeven b.f1, hx])) ibNil)).tab Tryz.prog) 5000 36 [.oi 2] [] S_single_f_false (by rfl) e)
theorem S_single_f_false_ok {m c f k : Nat} (b : Bd m c f k) (h : acc f = false) : @SumOk (TB m c f k) Tryz.prog 36 [.oi 2] S_single_f_false := by
  have h8 : f % 8 < 8 := Nat.mod_lt _ (by decide)
  obtain h0 | h0 | h0 | h0 | h0 | h0 | h0 | h0 : f % 8 = 0 ∨ f % 8 = 1 ∨ f % 8 = 2 ∨ f % 8 = 3 ∨ f % 8 = 4 ∨ f % 8 = 5 ∨ f % 8 = 6 ∨ f % 8 = 7 := by omega
  · simp [acc, h0] at h
  · simp [acc, h0] at h
  · simp [acc, h0] at h
  · exact S_single_f_false_at b h0 (by as_aux_lemma => kernel_rfl)
  · simp [acc, h0] at h
  · exact S_single_f_false_at b h0 (by as_aux_lemma => kernel_rfl)
  · exact S_single_f_false_at b h0 (by as_aux_lemma => kernel_rfl)
  · exact S_single_f_false_at b h0 (by as_aux_lemma => kernel_rfl)
noncomputable def S_single_k_true : Sum := ⟨.bool true, 0, []⟩
theorem S_single_k_true_at {m c f k : Nat} (b : Bd m c f k) {x : Nat} (hx : k % 8 = x) (e : ob (@call (RC b [(5, .oi 3, .int .i64 7, .int .i64 x)] (by letI := Tab.empty; exact ibCons (ibAnd (k := .i64) (a := (k : Int)) (b := 7) (c := (x : Int)) rfl rfl rfl (by rw [andSeven b.k1, hx])) ibNil)).tab Tryz.prog Hand.none 5000 36 [.oi 3] H.empty) (sumOf []) = some S_single_k_true) : @SumOk (TB m c f k) Tryz.prog 36 [.oi 3] S_single_k_true :=
  SumOk.tab (VRows.same _ _) (@SumOk.of_run (RC b [(5, .oi 3, .int .i64 7, .int .i64 x)] (by letI := Tab.empty; exact ibCons (ibAnd (k := .i64) (a := (k : Int)) (b := 7) (c := (x : Int)) rfl rfl rfl (by rw [andSeven b.k1, hx])) ibNil)).tab Tryz.prog Hand.none mixed (@HandOk.none (RC b [(5, .oi 3, .int .i64 7, .int .i64 x)] (by letI := Tab.empty; exact ibCons (ibAnd (k := .i64) (a := (k : Int)) (b := 7) (c := (x : Int)) rfl rfl rfl (by rw [andSeven b.k1, hx])) ibNil)).tab Tryz.prog) 5000 36 [.oi 3] [] S_single_k_true (by rfl) e)
theorem S_single_k_true_ok {m c f k : Nat} (b : Bd m c f k) (h : acc k = true) : @SumOk (TB m c f k) Tryz.prog 36 [.oi 3] S_single_k_true := by
  have h8 : k % 8 < 8 := Nat.mod_lt _ (by decide)
  obtain h0 | h0 | h0 | h0 | h0 | h0 | h0 | h0 : k % 8 = 0 ∨ k % 8 = 1 ∨ k % 8 = 2 ∨ k % 8 = 3 ∨ k % 8 = 4 ∨ k % 8 = 5 ∨ k % 8 = 6 ∨ k % 8 = 7 := by omega
  · exact S_single_k_true_at b h0 (by as_aux_lemma => kernel_rfl)
  · exact S_single_k_true_at b h0 (by as_aux_lemma => kernel_rfl)
  · exact S_single_k_true_at b h0 (by as_aux_lemma => kernel_rfl)
  · simp [acc, h0] at h
  · exact S_single_k_true_at b h0 (by as_aux_lemma => kernel_rfl)
  · simp [acc, h0] at h
  · simp [acc, h0] at h
  · simp [acc, h0] at h
noncomputable def S_single_k_false : Sum := ⟨.bool false, 0, []⟩
theorem S_single_k_false_at {m c f k : Nat} (b : Bd m c f k) {x : Nat} (hx : k % 8 = x) (e : ob (@call (RC b [(5, .oi 3, .int .i64 7, .int .i64 x)] (by letI := Tab.empty; exact ibCons (ibAnd (k := .i64) (a := (k : Int)) (b := 7) (c := (x : Int)) rfl rfl rfl (by rw [andSeven b.k1, hx])) ibNil)).tab Tryz.prog Hand.none 5000 36 [.oi 3] H.empty) (sumOf []) = some S_single_k_false) : @SumOk (TB m c f k) Tryz.prog 36 [.oi 3] S_single_k_false :=
  SumOk.tab (VRows.same _ _) (@SumOk.of_run (RC b [(5, .oi 3, .int .i64 7, .int .i64 x)] (by letI := Tab.empty; exact ibCons (ibAnd (k := .i64) (a := (k : Int)) (b := 7) (c := (x : Int)) rfl rfl rfl (by rw [andSeven b.k1, hx])) ibNil)).tab Tryz.prog Hand.none mixed (@HandOk.none (RC b [(5, .oi 3, .int .i64 7, .int .i64 x)] (by letI := Tab.empty; exact ibCons (ibAnd (k := .i64) (a := (k : Int)) (b := 7) (c := (x : Int)) rfl rfl rfl (by rw [andSeven b.k1, hx])) ibNil)).tab Tryz.prog) 5000 36 [.oi 3] [] S_single_k_false (by rfl) e)
theorem S_single_k_false_ok {m c f k : Nat} (b : Bd m c f k) (h : acc k = false) : @SumOk (TB m c f k) Tryz.prog 36 [.oi 3] S_single_k_false := by
  have h8 : k % 8 < 8 := Nat.mod_lt _ (by decide)
  obtain h0 | h0 | h0 | h0 | h0 | h0 | h0 | h0 : k % 8 = 0 ∨ k % 8 = 1 ∨ k % 8 = 2 ∨ k % 8 = 3 ∨ k % 8 = 4 ∨ k % 8 = 5 ∨ k % 8 = 6 ∨ k % 8 = 7 := by omega
  · simp [acc, h0] at h
  · simp [acc, h0] at h
  · simp [acc, h0] at h
  · exact S_single_k_false_at b h0 (by as_aux_lemma => kernel_rfl)
  · simp [acc, h0] at h
  · exact S_single_k_false_at b h0 (by as_aux_lemma => kernel_rfl)
  · exact S_single_k_false_at b h0 (by as_aux_lemma => kernel_rfl)
  · exact S_single_k_false_at b h0 (by as_aux_lemma => kernel_rfl)
abbrev e9t (i : Nat) (x : Int) : List BRow := [(9, .oi i, .int .i64 x, .bool true), (10, .oi i, .int .i64 x, .bool false)]
theorem e9t_ok {iv : Nat → IntKind × Int} {i : Nat} {x A : Int} (hx : denI iv (.oi i) = some (.i64, A)) (h : A = x) : ∀ r ∈ e9t i x, IbOk iv r := by
  letI := Tab.empty
  exact (ibCons (ibEq (a := A) (b := x) hx rfl (decide_eq_true h)) (ibCons (ibNe (a := A) (b := x) hx rfl (decide_eq_true h)) ibNil))
abbrev e9f (i : Nat) (x : Int) : List BRow := [(9, .oi i, .int .i64 x, .bool false), (10, .oi i, .int .i64 x, .bool true)]
theorem e9f_ok {iv : Nat → IntKind × Int} {i : Nat} {x A : Int} (hx : denI iv (.oi i) = some (.i64, A)) (h : ¬ A = x) : ∀ r ∈ e9f i x, IbOk iv r := by
  letI := Tab.empty
  exact (ibCons (ibEq (a := A) (b := x) hx rfl (decide_eq_false h)) (ibCons (ibNe (a := A) (b := x) hx rfl (decide_eq_false h)) ibNil))
abbrev e11t (i : Nat) (x : Int) : List BRow := [(11, .oi i, .int .i64 x, .bool true)]
theorem e11t_ok {iv : Nat → IntKind × Int} {i : Nat} {x A : Int} (hx : denI iv (.oi i) = some (.i64, A)) (h : A < x) : ∀ r ∈ e11t i x, IbOk iv r := by
  letI := Tab.empty
  exact (ibCons (ibLt (a := A) (b := x) hx rfl (decide_eq_true h)) ibNil)
abbrev e11f (i : Nat) (x : Int) : List BRow := [(11, .oi i, .int .i64 x, .bool false)]
theorem e11f_ok {iv : Nat → IntKind × Int} {i : Nat} {x A : Int} (hx : denI iv (.oi i) = some (.i64, A)) (h : ¬ A < x) : ∀ r ∈ e11f i x, IbOk iv r := by
  letI := Tab.empty
  exact (ibCons (ibLt (a := A) (b := x) hx rfl (decide_eq_false h)) ibNil)
abbrev e12t (i : Nat) (x : Int) : List BRow := [(12, .oi i, .int .i64 x, .bool true)]
theorem e12t_ok {iv : Nat → IntKind × Int} {i : Nat} {x A : Int} (hx : denI iv (.oi i) = some (.i64, A)) (h : A ≤ x) : ∀ r ∈ e12t i x, IbOk iv r := by
  letI := Tab.empty
  exact (ibCons (ibLe (a := A) (b := x) hx rfl (decide_eq_true h)) ibNil)
abbrev e12f (i : Nat) (x : Int) : List BRow := [(12, .oi i, .int .i64 x, .bool false)]
theorem e12f_ok {iv : Nat → IntKind × Int} {i : Nat} {x A : Int} (hx : denI iv (.oi i) = some (.i64, A)) (h : ¬ A ≤ x) : ∀ r ∈ e12f i x, IbOk iv r := by
  letI := Tab.empty
  exact (ibCons (ibLe (a := A) (b := x) hx rfl (decide_eq_false h)) ibNil)
abbrev e13t (i : Nat) (x : Int) : List BRow := [(13, .oi i, .int .i64 x, .bool true)]
theorem e13t_ok {iv : Nat → IntKind × Int} {i : Nat} {x A : Int} (hx : denI iv (.oi i) = some (.i64, A)) (h : A > x) : ∀ r ∈ e13t i x, IbOk iv r := by
  letI := Tab.empty
  exact (ibCons (ibGt (a := A) (b := x) hx rfl (decide_eq_true h)) ibNil)
abbrev e13f (i : Nat) (x : Int) : List BRow := [(13, .oi i, .int .i64 x, .bool false)]
theorem e13f_ok {iv : Nat → IntKind × Int} {i : Nat} {x A : Int} (hx : denI iv (.oi i) = some (.i64, A)) (h : ¬ A > x) : ∀ r ∈ e13f i x, IbOk iv r := by
  letI := Tab.empty
  exact (ibCons (ibGt (a := A) (b := x) hx rfl (decide_eq_false h)) ibNil)
end Go.Proofs.YtlfinnicdpiaaaaGreatDoor.cf
