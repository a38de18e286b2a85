/-
  Numbers of the law ClassInits: what is known of operations on the flags.
-/
import Derived.Test.YtlfinnicdpiaaaaGreatDoorXCall
import Derived.Test.YtlfinnicdpiaaaaGreatDoorXKind
import Derived.Test.YtlfinnicdpiaaaaGreatDoorCQG
import Derived.KernelRfl
set_option linter.unusedVariables false
set_option linter.unusedSimpArgs false
set_option maxRecDepth 100000
namespace Go.Proofs.YtlfinnicdpiaaaaGreatDoor.inits
open Go.X Go.RowKit
abbrev cI (n : Int) : AV := .int .i64 n
abbrev u8c : AV := .int .u64 8
noncomputable def codeOf (f : Func) : Code := f.body.getD .skip
noncomputable def body : Code := codeOf Tryz.f4
theorem body_eq : Tryz.f4.body = some body := by kernel_rfl
theorem mx : Tryz.prog.follows .mixedOrders = true := by kernel_rfl
abbrev vA (f c : Int) : Int := IntKind.i64.wrap (BitVec.ofInt IntKind.i64.bits f &&& BitVec.ofInt IntKind.i64.bits c).toNat
abbrev vN (f c : Int) : Int := IntKind.i64.wrap (BitVec.ofInt IntKind.i64.bits f &&& ~~~BitVec.ofInt IntKind.i64.bits c).toNat
def pc : Nat → Int
  | 0 => 0 | 1 => 1 | 2 => 1 | 3 => 2 | 4 => 1 | 5 => 2 | 6 => 2 | 7 => 3 | _ => 0
abbrev ivC (n : Nat) : Nat → IntKind × Int := fun i0 => match i0 with
  | 0 => (.i64, (n : Int)) | 2 => (.i64, ((n / 256 : Nat) : Int)) | 3 => (.u8, ((n / 256 : Nat) : Int)) | 4 => (.u8, ((n % 256 : Nat) : Int)) | 5 => (.i64, ((n / 256 : Nat) : Int)) | 6 => (.i64, ((n / 256 * 256 : Nat) : Int)) | 7 => (.i64, ((n % 256 : Nat) : Int))
  | 8 => (.i64, vN n 7) | 9 => (.i64, vN n 1055) | 10 => (.i64, vA n 1024) | 11 => (.i64, vA n 8) | 12 => (.i64, ((n % 8 : Nat) : Int)) | 13 => (.u64, ((n % 8 : Nat) : Int)) | 14 => (.i64, pc (n % 8)) | _ => (.i64, 0)
theorem orNat {a b c : Nat} (ha : a < 2 ^ 62) (hb : b < 2 ^ 62) (h : a ||| b = c) (hc : c < 2 ^ 62) : IntKind.i64.wrap (BitVec.ofInt IntKind.i64.bits (a : Int) ||| BitVec.ofInt IntKind.i64.bits (b : Int)).toNat = (c : Int) := by
  have e : (BitVec.ofInt 64 (a : Int) ||| BitVec.ofInt 64 (b : Int)).toNat = c := by
    rw [BitVec.ofInt_natCast, BitVec.ofInt_natCast, BitVec.toNat_or, BitVec.toNat_ofNat, BitVec.toNat_ofNat, Nat.mod_eq_of_lt (by omega), Nat.mod_eq_of_lt (by omega), h]
  show IntKind.i64.wrap ((BitVec.ofInt 64 (a : Int) ||| BitVec.ofInt 64 (b : Int)).toNat : Int) = (c : Int)
  rw [e, wrap64 (by omega) (by omega)]
theorem andNat {a b c : Nat} (ha : a < 2 ^ 62) (hb : b < 2 ^ 62) (h : a &&& b = c) (hc : c < 2 ^ 62) : IntKind.i64.wrap (BitVec.ofInt IntKind.i64.bits (a : Int) &&& BitVec.ofInt IntKind.i64.bits (b : Int)).toNat = (c : Int) := by
  have e : (BitVec.ofInt 64 (a : Int) &&& BitVec.ofInt 64 (b : Int)).toNat = c := by
    rw [BitVec.ofInt_natCast, BitVec.ofInt_natCast, BitVec.toNat_and, BitVec.toNat_ofNat, BitVec.toNat_ofNat, Nat.mod_eq_of_lt (by omega), Nat.mod_eq_of_lt (by omega), h]
  show IntKind.i64.wrap ((BitVec.ofInt 64 (a : Int) &&& BitVec.ofInt 64 (b : Int)).toNat : Int) = (c : Int)
  rw [e, wrap64 (by omega) (by omega)]
theorem hiLo (n : Nat) : n / 256 * 256 ||| n % 256 = n := by
  have h : n % 256 < 2 ^ 8 := Nat.mod_lt _ (by decide)
  have e := Nat.shiftLeft_add_eq_or_of_lt h (n / 256)
  rw [Nat.shiftLeft_eq] at e
  have e2 : n / 256 * 2 ^ 8 = n / 256 * 256 := rfl
  rw [e2] at e
  rw [← e]; omega
theorem z_small {n : Nat} (hn : n < 65536) (hz : vN n 7 = 0) : n < 8 := by
  have h1 : IntKind.i64.wrap ((BitVec.ofInt 64 (n : Int) &&& ~~~BitVec.ofInt 64 7).toNat : Int) = 0 := hz
  rw [BitVec.ofInt_natCast] at h1
  have hle : (BitVec.ofNat 64 n &&& ~~~BitVec.ofInt 64 7).toNat ≤ n := by
    rw [BitVec.toNat_and, BitVec.toNat_ofNat, Nat.mod_eq_of_lt (by omega)]
    exact Nat.and_le_left
  rw [wrap64 (by omega) (by omega)] at h1
  have h2 : BitVec.ofNat 64 n &&& ~~~BitVec.ofInt 64 7 = 0#64 := BitVec.eq_of_toNat_eq (by simp at h1 ⊢; omega)
  have h3 : BitVec.ofNat 64 n = BitVec.ofNat 64 n &&& BitVec.ofInt 64 7 := by
    refine BitVec.eq_of_getLsbD_eq fun i hi => ?_
    have h4 := congrArg (fun x => BitVec.getLsbD x i) h2
    simp only [BitVec.getLsbD_and, BitVec.getLsbD_not, hi, decide_true, Bool.true_and, BitVec.getLsbD_zero] at h4
    rw [BitVec.getLsbD_and]
    cases h5 : (BitVec.ofNat 64 n).getLsbD i <;> cases h6 : (BitVec.ofInt 64 7).getLsbD i <;> simp_all
  have h4 := congrArg BitVec.toNat h3
  rw [BitVec.toNat_and, BitVec.toNat_ofNat, Nat.mod_eq_of_lt (by omega)] at h4
  have h5 : n &&& (BitVec.ofInt 64 7).toNat ≤ (BitVec.ofInt 64 7).toNat := Nat.and_le_right
  have h6 : (BitVec.ofInt 64 7).toNat = 7 := by decide
  omega
abbrev rB : List BRow := [(11, .oi 0, cI 0, .bool false), (13, .oi 0, cI 65535, .bool false), (16, .oi 0, u8c, .oi 2), (6, cI 0, .oi 5, .oi 5), (15, .oi 5, u8c, .oi 6), (6, .oi 6, .oi 7, .oi 0), (15, cI 0, u8c, cI 0), (8, .oi 0, cI 7, .oi 8), (8, .oi 0, cI 1055, .oi 9), (5, .oi 0, cI 1024, .oi 10), (5, .oi 0, cI 8, .oi 11), (5, .oi 0, cI 7, .oi 12)]
theorem two8 : (2 : Int) ^ (min (8 : Int).toNat IntKind.i64.bits) = 256 := by decide
theorem rB_ok {n : Nat} (hn : n < 65536) : ∀ r ∈ rB, IbOk (ivC n) r := by
  letI := Tab.empty
  refine ibCons (ibLt (a := (n : Int)) (b := 0) rfl rfl (decide_eq_false (by omega))) (ibCons (ibGt (a := (n : Int)) (b := 65535) rfl rfl (decide_eq_false (by omega)))
    (ibCons (ibShr (k' := .u64) (a := (n : Int)) (b := 8) (c := ((n / 256 : Nat) : Int)) rfl rfl rfl (by decide) (by rw [two8, Int.fdiv_eq_ediv_of_nonneg _ (by decide)]; omega))
    (ibCons (ibOr (k := .i64) (a := ((0 : Nat) : Int)) (b := ((n / 256 : Nat) : Int)) (c := ((n / 256 : Nat) : Int)) rfl rfl rfl (orNat (by decide) (by omega) (Nat.zero_or _) (by omega)))
    (ibCons (ibShl (k' := .u64) (a := ((n / 256 : Nat) : Int)) (b := 8) (c := ((n / 256 * 256 : Nat) : Int)) rfl rfl rfl (by decide) (by rw [two8, wrap64 (by omega) (by omega)]; omega))
    (ibCons (ibOr (k := .i64) (a := ((n / 256 * 256 : Nat) : Int)) (b := ((n % 256 : Nat) : Int)) (c := (n : Int)) rfl rfl rfl (orNat (by omega) (by omega) (hiLo n) (by omega)))
    (ibCons (ibShl (k' := .u64) (a := 0) (b := 8) (c := 0) rfl rfl rfl (by decide) (by decide))
    (ibCons (ibAndNot (k := .i64) (a := (n : Int)) (b := 7) (c := vN n 7) rfl rfl rfl rfl) (ibCons (ibAndNot (k := .i64) (a := (n : Int)) (b := 1055) (c := vN n 1055) rfl rfl rfl rfl)
    (ibCons (ibAnd (k := .i64) (a := (n : Int)) (b := 1024) (c := vA n 1024) rfl rfl rfl rfl) (ibCons (ibAnd (k := .i64) (a := (n : Int)) (b := 8) (c := vA n 8) rfl rfl rfl rfl)
    (ibCons (ibAnd (k := .i64) (a := (n : Int)) (b := ((7 : Nat) : Int)) (c := ((n % 8 : Nat) : Int)) rfl rfl rfl (andNat (by omega) (by decide) (Nat.and_two_pow_sub_one_eq_mod n 3) (by omega))) ibNil)))))))))))
abbrev rI : List (IntKind × AV × AV) := [(.u8, .oi 2, .oi 3), (.u8, .oi 0, .oi 4), (.i64, .oi 3, .oi 5), (.i64, .oi 4, .oi 7), (.i64, .oi 0, .oi 0), (.u64, .oi 12, .oi 13)]
theorem wrapU8 {n : Nat} : IntKind.u8.wrap (n : Int) = ((n % 256 : Nat) : Int) := by
  unfold IntKind.wrap IntKind.bits IntKind.signed
  simp
theorem rI_ok {n : Nat} (hn : n < 65536) : ∀ r ∈ rI, IcOk (ivC n) r :=
  allCons (icOf (k := .u8) (n := ((n / 256 : Nat) : Int)) (c := ((n / 256 : Nat) : Int)) rfl rfl (by rw [wrapU8]; omega)) (allCons (icOf (k := .u8) (n := (n : Int)) (c := ((n % 256 : Nat) : Int)) rfl rfl wrapU8)
    (allCons (icOf (k := .i64) (n := ((n / 256 : Nat) : Int)) (c := ((n / 256 : Nat) : Int)) rfl rfl (wrap64 (by omega) (by omega))) (allCons (icOf (k := .i64) (n := ((n % 256 : Nat) : Int)) (c := ((n % 256 : Nat) : Int)) rfl rfl (wrap64 (by omega) (by omega)))
    (allCons (icOf (k := .i64) (n := (n : Int)) (c := (n : Int)) rfl rfl (wrap64 (by omega) (by omega))) (allCons (icOf (k := .u64) (n := ((n % 8 : Nat) : Int)) (c := ((n % 8 : Nat) : Int)) rfl rfl (wrapU64 (by omega) (by omega))) allNil)))))
theorem allApp {α : Type} {p : α → Prop} {l m : List α} (h : ∀ r ∈ l, p r) (k : ∀ r ∈ m, p r) : ∀ r ∈ l ++ m, p r := fun r hr => by
  rcases List.mem_append.1 hr with h1 | h1
  · exact h r h1
  · exact k r h1
abbrev RC {n : Nat} (hn : n < 65536) (ext : List BRow) (h : ∀ r ∈ ext, IbOk (ivC n) r) : VRows (ivC n) noV noK where
  vvp := noVp
  ib := ext ++ rB
  ibok := allApp h (rB_ok hn)
  ic := rI
  icok := rI_ok hn
/-- a call whose argument is known by name -/
noncomputable def symHand (g : FuncId) (xs : List AV) (s : Sum) (v : AV) : Hand := fun f args h =>
  Bool.rec none (Bool.rec none (ob (s.at h) fun p => some (v, p.2)) (veqs xs args)) (Nat.beq g f)
section
variable [T : Tab]
theorem symHand_ok {g : FuncId} {xs : List AV} {s : Sum} {v : AV} (hk : ∀ h p, s.at h = some p → CallOk Tryz.prog g xs h (v, p.2)) : HandOk Tryz.prog (symHand g xs s v) := by
  intro f args h p e
  have e' : (Bool.rec none (Bool.rec none (ob (s.at h) fun p => some (v, p.2)) (veqs xs args)) (Nat.beq g f) : Option (AV × H)) = some p := e
  cases h1 : Nat.beq g f with
  | false => rw [h1] at e'; cases e'
  | true =>
    rw [h1] at e'
    cases h2 : veqs xs args with
    | false => rw [h2] at e'; cases e'
    | true =>
      rw [h2] at e'
      obtain ⟨q, hq, e2⟩ := ob_some e'
      cases e2
      rw [← nbeq_iff.1 h1, ← veqs_eq h2]
      exact hk h q hq
theorem one_ok {f : FuncId} {k k' : IntKind} {i j : Nat} {c p : Int} {n : Nat} {bs : List (Nat × Blk)} (S : SumOk Tryz.prog f [.int k c] ⟨.int k' p, n, bs⟩) (hi : Tab.iv i = (k, c)) (hj : Tab.iv j = (k', p)) (h : H) (q : AV × H) (e : (⟨.int k' p, n, bs⟩ : Sum).at h = some q) : CallOk Tryz.prog f [.oi i] h (.oi j, q.2) := by
  intro B w0 μ w args' r ha
  have ha' : vrels μ [.int k c] args'.toList := by
    obtain ⟨v, l, h1, h2, h3⟩ := ha
    refine ⟨v, l, h1, ?_, h3⟩
    simp only [vrel] at h2 ⊢
    rw [h2, hi]
  refine (S.at e B w0 μ w args' r ha').mono ?_
  rintro e' w' ⟨v', μ', h1, h2, h3, h4⟩
  refine ⟨v', μ', h1, h2, ?_, h4⟩
  obtain ⟨_, e2⟩ := ifb_some e
  cases e2
  simp only [shV, vrel] at h3 ⊢
  rw [h3, hj]
theorem oneB_ok {f : FuncId} {k : IntKind} {i : Nat} {c : Int} {b : Bool} {n : Nat} {bs : List (Nat × Blk)} (S : SumOk Tryz.prog f [.int k c] ⟨.bool b, n, bs⟩) (hi : Tab.iv i = (k, c)) (h : H) (q : AV × H) (e : (⟨.bool b, n, bs⟩ : Sum).at h = some q) : CallOk Tryz.prog f [.oi i] h (.bool b, q.2) := by
  intro B w0 μ w args' r ha
  have ha' : vrels μ [.int k c] args'.toList := by
    obtain ⟨v, l, h1, h2, h3⟩ := ha
    refine ⟨v, l, h1, ?_, h3⟩
    simp only [vrel] at h2 ⊢
    rw [h2, hi]
  refine (S.at e B w0 μ w args' r ha').mono ?_
  rintro e' w' ⟨v', μ', h1, h2, h3, h4⟩
  refine ⟨v', μ', h1, h2, ?_, h4⟩
  obtain ⟨_, e2⟩ := ifb_some e
  cases e2
  exact h3
end
end Go.Proofs.YtlfinnicdpiaaaaGreatDoor.inits
