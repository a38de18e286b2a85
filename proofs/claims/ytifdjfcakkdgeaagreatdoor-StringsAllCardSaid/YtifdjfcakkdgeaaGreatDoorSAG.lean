/-
  The law StringsAll: a text's key (modified UTF-8): names, tables, rounds.
-/
import Derived.Test.YtifdjfcakkdgeaaGreatDoorSAQ
set_option linter.unusedVariables false
set_option linter.unusedSimpArgs false
set_option linter.unusedSectionVars false
set_option maxRecDepth 1000000
set_option maxHeartbeats 0
namespace Go.Proofs.YtifdjfcakkdgeaaGreatDoor.sa
open Go.X Go.RowKit Go.Proofs
noncomputable def eC : Code := codeOf Tryz.f19
theorem eC_eq : Tryz.f19.body = some eC := by kernel_rfl
noncomputable def eI : Code := hd (hd (restn 2 eC))
noncomputable def eL : Code := lpIn (tl (hd (restn 2 eC)))
theorem e2_eq : restn 2 eC = .seq (.seq eI (.block 0 (.loop eL))) (restn 3 eC) := by kernel_rfl
structure En where
  n : Nat
  k : Nat
  f : Nat → Int
  b : Nat
  o : Nat
  c : Nat
def En.at (e : En) (k : Nat) : En := { e with k := k }
def En.L (e : En) (k : Nat) : Nat := (encL e.f k).length
def En.bt (e : En) (m : Nat) : Int := (encL e.f e.n).getD m 0
abbrev ivE (e : En) : Nat → IntKind × Int
  | 0 => (.i64, (e.k : Int))
  | 1 => (.i64, ((e.k + 1 : Nat) : Int))
  | 2 => (.i64, (e.n : Int))
  | 3 => (.i64, (e.L e.k : Int))
  | 4 => (.i64, (e.L (e.k + 1) : Int))
  | 5 => (.u16, e.f e.k)
  | 6 => (.u16, e.f e.k / 64)
  | 7 => (.u16, e.f e.k / 4096)
  | 8 => (.u16, e.f e.k % 64)
  | 9 => (.u16, e.f e.k / 64 % 64)
  | 10 => (.u8, e.f e.k)
  | 11 => (.u8, e.f e.k / 64)
  | 12 => (.u8, e.f e.k / 4096)
  | 13 => (.u8, e.f e.k % 64)
  | 14 => (.u8, e.f e.k / 64 % 64)
  | 15 => (.u8, 192 + e.f e.k / 64)
  | 16 => (.u8, 224 + e.f e.k / 4096)
  | 17 => (.u8, 128 + e.f e.k % 64)
  | 18 => (.u8, 128 + e.f e.k / 64 % 64)
  | _ => (.i64, 0)
abbrev vvE (e : En) : Nat → Nat → Option AV
  | 1 => numV .u8 (e.L e.k) e.bt
  | 2 => numV .u8 (e.L (e.k + 1)) e.bt
  | _ => fun _ => none
abbrev vkE (e : En) : Nat → Nat
  | 1 => e.L e.k
  | 2 => e.L (e.k + 1)
  | _ => 0
theorem vvEp (e : En) : ∀ i m a, vvE e i m = some a → vplain a = true := fun i m a h => by
  unfold vvE at h
  split at h <;> first | exact numP h | cases h
abbrev txE (e : En) : Txts (ivE e) where
  str := fun _ => key e.f e.n
abbrev fgE (e : En) : Fgn where
  fb := fun _ => (e.b, e.o)
  fcap := fun _ => e.c
  fv := fun i => match i with | 0 => numV .u16 e.n e.f | _ => fun _ => none
abbrev RE (e : En) : Rw (ivE e) (vvE e) (vkE e) (fgE e) (txE e) where
  vvp := vvEp e
abbrev TE (e : En) : Tab := (RE e).T
/- lengths and bytes -/
theorem encC_len (c : Int) : 1 ≤ (encC c).length ∧ (encC c).length ≤ 3 := by unfold encC; split <;> (try split) <;> simp
theorem encL_len (f : Nat → Int) : ∀ k, (encL f k).length ≤ 3 * k
  | 0 => Nat.le_refl _
  | k + 1 => by
    have := encL_len f k; have := (encC_len (f k)).2
    show (encL f k ++ encC (f k)).length ≤ _
    rw [List.length_append]; omega
theorem encL_pre (f : Nat → Int) (k : Nat) : ∀ j, ∃ l, encL f (k + j) = encL f k ++ l
  | 0 => ⟨[], by simp⟩
  | j + 1 => by
    obtain ⟨l, h⟩ := encL_pre f k j
    exact ⟨l ++ encC (f (k + j)), by show encL f (k + j) ++ encC (f (k + j)) = _; rw [h, List.append_assoc]⟩
theorem En.L1 (e : En) : e.L (e.k + 1) = e.L e.k + (encC (e.f e.k)).length := by
  show (encL e.f e.k ++ encC (e.f e.k)).length = _
  rw [List.length_append]; rfl
theorem En.new (e : En) (hk : e.k < e.n) {m : Nat} (hm : m < (encC (e.f e.k)).length) : e.bt (e.L e.k + m) = (encC (e.f e.k)).getD m 0 := by
  obtain ⟨l, h⟩ := encL_pre e.f (e.k + 1) (e.n - (e.k + 1))
  rw [show e.k + 1 + (e.n - (e.k + 1)) = e.n by omega] at h
  unfold En.bt
  rw [h]
  show (((encL e.f e.k ++ encC (e.f e.k)) ++ l)).getD _ 0 = _
  simp only [List.getD_eq_getElem?_getD]
  rw [List.append_assoc, List.getElem?_append_right (by show e.L e.k ≤ _; omega), show e.L e.k + m - (encL e.f e.k).length = m by show e.L e.k + m - e.L e.k = m; omega, List.getElem?_append_left hm]
structure EF (e : En) : Prop where
  hn : e.n ≤ 60
  h0 : ∀ m, 0 ≤ e.f m
  h1 : ∀ m, e.f m < 65536
theorem and63 {c : Int} (h0 : 0 ≤ c) (h1 : c < 65536) : IntKind.u16.wrap (BitVec.ofInt IntKind.u16.bits c &&& BitVec.ofInt IntKind.u16.bits 63).toNat = c % 64 := by
  obtain ⟨n, rfl⟩ := Int.eq_ofNat_of_zero_le h0
  have : n < 65536 := by omega
  have e1 : (BitVec.ofInt IntKind.u16.bits (n : Int) &&& BitVec.ofInt IntKind.u16.bits 63).toNat = n % 64 := by
    show (BitVec.ofInt 16 (n : Int) &&& BitVec.ofInt 16 63).toNat = n % 64
    rw [BitVec.toNat_and, show (BitVec.ofInt 16 63).toNat = 2 ^ 6 - 1 by decide, Nat.and_two_pow_sub_one_eq_mod]
    rw [BitVec.toNat_ofInt]; omega
  rw [e1]
  unfold IntKind.wrap IntKind.bits IntKind.signed
  simp only [Bool.false_and, Bool.false_eq_true, if_false]
  omega
theorem or8 {a b c : Int} {t : Nat} (h0 : 0 ≤ b) (h1 : b < t) (hc : c = a + b) (h : ∀ x : Fin t, IntKind.u8.wrap (BitVec.ofInt IntKind.u8.bits a ||| BitVec.ofInt IntKind.u8.bits (x.1 : Int)).toNat = a + (x.1 : Int)) : IntKind.u8.wrap (BitVec.ofInt IntKind.u8.bits a ||| BitVec.ofInt IntKind.u8.bits b).toNat = c := by
  have := h ⟨b.toNat, by omega⟩
  rw [hc]
  rw [show ((⟨b.toNat, by omega⟩ : Fin t).1 : Int) = b by show ((b.toNat : Nat) : Int) = b; omega] at this
  exact this
theorem or192 : ∀ x : Fin 32, IntKind.u8.wrap (BitVec.ofInt IntKind.u8.bits 192 ||| BitVec.ofInt IntKind.u8.bits (x.1 : Int)).toNat = 192 + (x.1 : Int) := by decide +kernel
theorem or224 : ∀ x : Fin 16, IntKind.u8.wrap (BitVec.ofInt IntKind.u8.bits 224 ||| BitVec.ofInt IntKind.u8.bits (x.1 : Int)).toNat = 224 + (x.1 : Int) := by decide +kernel
theorem or128 : ∀ x : Fin 64, IntKind.u8.wrap (BitVec.ofInt IntKind.u8.bits 128 ||| BitVec.ofInt IntKind.u8.bits (x.1 : Int)).toNat = 128 + (x.1 : Int) := by decide +kernel
theorem wrap8 {c : Int} (h0 : 0 ≤ c) (h1 : c < 256) : IntKind.u8.wrap c = c := by
  unfold IntKind.wrap IntKind.bits IntKind.signed
  simp only [Bool.false_and, Bool.false_eq_true, if_false]
  omega
section
variable {iv : Nat → IntKind × Int}
theorem rLtK {x y : AV} {l : List BRow} {K : IntKind} {a b : Int} {t : Bool} (k : ∀ r ∈ l, IbOk iv r) (hx : denI iv x = some (K, a) := by exact rfl) (hy : denI iv y = some (K, b) := by exact rfl) (h : decide (a < b) = t := by first | exact decide_eq_true (by omega) | exact decide_eq_false (by omega)) : ∀ q ∈ (11, x, y, .bool t) :: l, IbOk iv q :=
  ibCons (ibOf (op := .lss) hx hy (v := .bool (decide (a < b))) (by
    show (Bool.rec (ifb (Nat.beq (kcode K) (kcode K)) (intOp .lss K a b)) (shiftOp .lss K a b) false : Option AV) = _
    rw [kc]; rfl) (by show AV.bool t = .bool (decide (a < b)); rw [h])) k
theorem rGtK {x y : AV} {l : List BRow} {K : IntKind} {a b : Int} {t : Bool} (k : ∀ r ∈ l, IbOk iv r) (hx : denI iv x = some (K, a) := by exact rfl) (hy : denI iv y = some (K, b) := by exact rfl) (h : decide (a > b) = t := by first | exact decide_eq_true (by omega) | exact decide_eq_false (by omega)) : ∀ q ∈ (13, x, y, .bool t) :: l, IbOk iv q :=
  ibCons (ibOf (op := .gtr) hx hy (v := .bool (decide (a > b))) (by
    show (Bool.rec (ifb (Nat.beq (kcode K) (kcode K)) (intOp .gtr K a b)) (shiftOp .gtr K a b) false : Option AV) = _
    rw [kc]; rfl) (by show AV.bool t = .bool (decide (a > b)); rw [h])) k
end
/-- the classes of chars -/
def EK (e : En) : Nat → Prop
  | 0 => 0 < e.f e.k ∧ e.f e.k < 128
  | 1 => e.f e.k = 0
  | 2 => 128 ≤ e.f e.k ∧ e.f e.k < 2048
  | _ => 2048 ≤ e.f e.k
noncomputable abbrev e1 (t1 t2 t3 : Bool) (l : List BRow) : List BRow := (11, .oi 0, .oi 2, .bool true) :: (14, .oi 0, .int .i64 0, .bool true) :: (0, .oi 0, .int .i64 1, .oi 1) :: (13, .oi 5, .int .u16 0, .bool t1) :: (11, .oi 5, .int .u16 128, .bool t2) :: (11, .oi 5, .int .u16 2048, .bool t3) :: l
noncomputable abbrev vlE : List VL := [⟨0, 0, 1, 0, [.oi 5]⟩]
theorem vlE_ok {e : En} (hk : e.k < e.n) : ∀ r ∈ vlE, FlOk (ivE e) (fgE e) r := fgN (n := e.n) (e := e.f) allNil
/-- more behind a vector -/
theorem aL {e : En} {l : List AV} (c : EF e) (hk : e.k < e.n) (hl : l.length = (encC (e.f e.k)).length) (h : ∀ m, m < l.length → ∃ x, l[m]? = some x ∧ denI (ivE e) x = some (.u8, (encC (e.f e.k)).getD m 0)) : ∀ r ∈ [(⟨1, 3, 1, l, 2, 4⟩ : VA)], VaOk (ivE e) (vvE e) (vkE e) r := by
  have hL := e.L1
  have h3 := encL_len e.f (e.k + 1)
  have hL3 : e.L (e.k + 1) ≤ 3 * (e.k + 1) := h3
  have hn := c.hn
  refine allCons ⟨⟨rfl, Int.natCast_nonneg _⟩, ⟨rfl, Int.natCast_nonneg _⟩, ?_, ?_, ?_, fun m a ha => ?_⟩ allNil
  · show e.L (e.k + 1) * 1 = e.L e.k * 1 + l.length; omega
  · show e.L (e.k + 1) < 1000000; omega
  · show e.L (e.k + 1) ≤ e.L (e.k + 1) * 1; omega
  · obtain ⟨hm, rfl⟩ := numV_some (show numV .u8 (e.L (e.k + 1)) e.bt m = some a from ha)
    show ∃ b, (if m < e.L e.k * 1 then numV .u8 (e.L e.k) e.bt m else l[m - e.L e.k * 1]?) = some b ∧ _
    rw [Nat.mul_one]
    by_cases d : m < e.L e.k
    · exact ⟨.int .u8 (e.bt m), by rw [if_pos d]; unfold numV; rw [if_pos d], .inl rfl⟩
    · obtain ⟨x, x1, x2⟩ := h (m - e.L e.k) (by omega)
      refine ⟨x, by rw [if_neg d]; exact x1, .inr ⟨_, x2, ?_⟩⟩
      have := e.new hk (m := m - e.L e.k) (by omega)
      rw [show e.L e.k + (m - e.L e.k) = m by omega] at this
      rw [this]; rfl
theorem encA {c : Int} (h : 0 < c ∧ c < 128) : encC c = [c] := if_pos h
theorem encB {c : Int} (h : ¬(0 < c ∧ c < 128)) (h2 : c < 2048) : encC c = [192 + c / 64, 128 + c % 64] := by unfold encC; rw [if_neg h, if_pos h2]
theorem encD {c : Int} (h : ¬(0 < c ∧ c < 128)) (h2 : ¬ c < 2048) : encC c = [224 + c / 4096, 128 + c / 64 % 64, 128 + c % 64] := by unfold encC; rw [if_neg h, if_neg h2]
noncomputable abbrev rowB : List BRow := [(16, .oi 5, .int .u64 6, .oi 6), (6, .int .u8 192, .oi 11, .oi 15), (5, .oi 5, .int .u16 63, .oi 8), (6, .int .u8 128, .oi 13, .oi 17)]
noncomputable abbrev rowD : List BRow := [(16, .oi 5, .int .u64 12, .oi 7), (6, .int .u8 224, .oi 12, .oi 16), (16, .oi 5, .int .u64 6, .oi 6), (5, .oi 6, .int .u16 63, .oi 9), (6, .int .u8 128, .oi 14, .oi 18), (5, .oi 5, .int .u16 63, .oi 8), (6, .int .u8 128, .oi 13, .oi 17)]
theorem rowB_ok {e : En} (c : EF e) (h2 : e.f e.k < 2048) : ∀ r ∈ rowB, IbOk (ivE e) r := by
  have h0 := c.h0 e.k
  refine ibCons (ibShr rfl rfl rfl (by decide) (by rw [Int.fdiv_eq_ediv_of_nonneg _ (by decide)]; rfl)) (ibCons (ibOr rfl rfl rfl (or8 (t := 32) ?_ ?_ rfl or192)) (ibCons (ibAnd rfl rfl rfl (and63 h0 (by omega))) (ibCons (ibOr rfl rfl rfl (or8 (t := 64) ?_ ?_ rfl or128)) ibNil))) <;> omega
theorem rowD_ok {e : En} (c : EF e) : ∀ r ∈ rowD, IbOk (ivE e) r := by
  have h0 := c.h0 e.k
  have h1 := c.h1 e.k
  refine ibCons (ibShr rfl rfl rfl (by decide) (by rw [Int.fdiv_eq_ediv_of_nonneg _ (by decide)]; rfl)) (ibCons (ibOr rfl rfl rfl (or8 (t := 16) ?_ ?_ rfl or224)) (ibCons (ibShr rfl rfl rfl (by decide) (by rw [Int.fdiv_eq_ediv_of_nonneg _ (by decide)]; rfl)) (ibCons (ibAnd rfl rfl rfl (and63 (by omega) (by omega))) (ibCons (ibOr rfl rfl rfl (or8 (t := 64) ?_ ?_ rfl or128)) (ibCons (ibAnd rfl rfl rfl (and63 h0 h1)) (ibCons (ibOr rfl rfl rfl (or8 (t := 64) ?_ ?_ rfl or128)) ibNil)))))) <;> omega
noncomputable def icE (cl : Nat) : List (IntKind × AV × AV) := Nat.rec [(.u8, .oi 5, .oi 10)] (fun k _ => Nat.rec [(.u8, .oi 6, .oi 11), (.u8, .oi 8, .oi 13)] (fun k _ => Nat.rec [(.u8, .oi 6, .oi 11), (.u8, .oi 8, .oi 13)] (fun _ _ => [(.u8, .oi 7, .oi 12), (.u8, .oi 9, .oi 14), (.u8, .oi 8, .oi 13)]) k) k) cl
noncomputable def ibE (cl : Nat) : List BRow := Nat.rec (e1 true true true []) (fun k _ => Nat.rec (e1 false true true rowB) (fun k _ => Nat.rec (e1 true false true rowB) (fun _ _ => e1 true false false rowD) k) k) cl
noncomputable def srcE (cl : Nat) : List AV := Nat.rec [.oi 10] (fun k _ => Nat.rec [.oi 15, .oi 17] (fun k _ => Nat.rec [.oi 15, .oi 17] (fun _ _ => [.oi 16, .oi 18, .oi 17]) k) k) cl
theorem icE_ok {e : En} (c : EF e) : ∀ cl, cl < 4 → EK e cl → ∀ r ∈ icE cl, IcOk' (ivE e) r
  | 0, _, h => by
    obtain ⟨h1, h2⟩ : 0 < e.f e.k ∧ e.f e.k < 128 := h
    exact rConv icNil (h := wrap8 (by omega) (by omega))
  | 1, _, h => by
    have h : e.f e.k = 0 := h
    exact rConv (rConv icNil (h := wrap8 (by omega) (by omega))) (h := wrap8 (by omega) (by omega))
  | 2, _, h => by
    obtain ⟨h1, h2⟩ : 128 ≤ e.f e.k ∧ e.f e.k < 2048 := h
    exact rConv (rConv icNil (h := wrap8 (by omega) (by omega))) (h := wrap8 (by omega) (by omega))
  | 3, _, h => by
    have h : 2048 ≤ e.f e.k := h
    have h1 := c.h1 e.k
    exact rConv (rConv (rConv icNil (h := wrap8 (by omega) (by omega))) (h := wrap8 (by omega) (by omega))) (h := wrap8 (by omega) (by omega))
  | _ + 4, h, _ => by omega
theorem ibE_ok {e : En} (c : EF e) (hk : e.k < e.n) : ∀ cl, cl < 4 → EK e cl → ∀ r ∈ ibE cl, IbOk (ivE e) r
  | 0, _, h => by
    have hn := c.hn
    obtain ⟨h1, h2⟩ : 0 < e.f e.k ∧ e.f e.k < 128 := h
    exact rLt (rGe (rAdd (rGtK (rLtK (rLtK ibNil)))))
  | 1, _, h => by
    have hn := c.hn
    have h : e.f e.k = 0 := h
    exact rLt (rGe (rAdd (rGtK (rLtK (rLtK (rowB_ok c (by omega)))))))
  | 2, _, h => by
    have hn := c.hn
    obtain ⟨h1, h2⟩ : 128 ≤ e.f e.k ∧ e.f e.k < 2048 := h
    exact rLt (rGe (rAdd (rGtK (rLtK (rLtK (rowB_ok c h2))))))
  | 3, _, h => by
    have hn := c.hn
    have h : 2048 ≤ e.f e.k := h
    exact rLt (rGe (rAdd (rGtK (rLtK (rLtK (rowD_ok c))))))
  | _ + 4, h, _ => by omega
/-- what a round appends -/
theorem srcE_ok {e : En} : ∀ cl, cl < 4 → EK e cl → (srcE cl).length = (encC (e.f e.k)).length ∧ ∀ m, m < (srcE cl).length → ∃ x, (srcE cl)[m]? = some x ∧ denI (ivE e) x = some (.u8, (encC (e.f e.k)).getD m 0)
  | 0, _, h => by
    have h : 0 < e.f e.k ∧ e.f e.k < 128 := h
    rw [encA h]
    exact ⟨rfl, fun m hm => match m, hm with | 0, _ => ⟨_, rfl, rfl⟩⟩
  | 1, _, h => by
    have h : e.f e.k = 0 := h
    rw [encB (by omega) (by omega)]
    exact ⟨rfl, fun m hm => match m, hm with | 0, _ => ⟨_, rfl, rfl⟩ | 1, _ => ⟨_, rfl, rfl⟩⟩
  | 2, _, h => by
    have h : 128 ≤ e.f e.k ∧ e.f e.k < 2048 := h
    rw [encB (by omega) (by omega)]
    exact ⟨rfl, fun m hm => match m, hm with | 0, _ => ⟨_, rfl, rfl⟩ | 1, _ => ⟨_, rfl, rfl⟩⟩
  | 3, _, h => by
    have h : 2048 ≤ e.f e.k := h
    rw [encD (by omega) (by omega)]
    exact ⟨rfl, fun m hm => match m, hm with | 0, _ => ⟨_, rfl, rfl⟩ | 1, _ => ⟨_, rfl, rfl⟩ | 2, _ => ⟨_, rfl, rfl⟩⟩
  | _ + 4, h, _ => by omega
noncomputable abbrev RR (e : En) (cl : Nat) (c : EF e) (hk : e.k < e.n) (hc : cl < 4) (h : EK e cl) : Rw (ivE e) (vvE e) (vkE e) (fgE e) (txE e) where
  vvp := vvEp e
  ib := ibE cl
  ibok := ibE_ok c hk cl hc h
  ic := icE cl
  icok := icE_ok c cl hc h
  fl := vlE
  flok := vlE_ok hk
  va := [⟨1, 3, 1, srcE cl, 2, 4⟩]
  vaok := aL c hk (srcE_ok cl hc h).1 (srcE_ok cl hc h).2
noncomputable def fsE (z : Bool) : List (Nat × AV) := [(6, .fo 0 2 1), (7, .oi 2), (8, .oi 0), (3, Bool.rec (.ov 20001 3 1) .nils z)]
noncomputable def bsE (z : Bool) : BS := Bool.rec [(20001, 20001, .vec 1)] [] z
noncomputable def cvR (z : Bool) (cl : Nat) : Cv := ⟨20000, 20002, ofPairs [(20001, 20001)], [(.fo 0 2 1, 0), (.oi 1, 0), (.oi 2, 2), (Bool.rec (.oi 4) (.int .i64 (srcE cl).length) z, 3)]⟩
noncomputable def cvR1 (cl : Nat) : Cv := ⟨20000, 20002, ofPairs [(20001, 20003)], [(.fo 0 2 1, 0), (.oi 1, 0), (.oi 2, 2), (.oi 4, 3)]⟩
noncomputable def nwE (z : Bool) (cl : Nat) : Blk := Bool.rec (.vec 2) (rowOf (srcE cl) true) z
/-- a round: the first one; a later one -/
def GR0 (cl : Nat) : Prop := ∀ e c hk hc h, runTo (RR e cl c hk hc h).T Tryz.prog Hand.none 3000 Tryz.f19.ntmps eL (frOf (fsE true)) (hOf 20000 (bsE true)) .normal (cvR true cl) [(20001, nwE true cl, 1)] (fsE false) [(20001, 20001, .vec 1)] = true
def GR1 (cl : Nat) : Prop := ∀ e c hk hc h, runTo (RR e cl c hk hc h).T Tryz.prog Hand.none 3000 Tryz.f19.ntmps eL (frOf (fsE false)) (hOf 20002 (bsE false)) .normal (cvR1 cl) [(20003, nwE false cl, 1)] (fsE false) [(20001, 20003, .vec 1)] = true
noncomputable abbrev RKq (e : En) (hk : ¬ e.k < e.n) : Rw (ivE e) (vvE e) (vkE e) (fgE e) (txE e) where
  vvp := vvEp e
  ib := [(11, .oi 0, .oi 2, .bool false)]
  ibok := by as_aux_lemma => exact rLt ibNil
noncomputable def cvKq : Cv := ⟨20000, 20002, ofPairs [(20001, 20001)], [(.fo 0 2 1, 0), (.oi 0, 0), (.oi 2, 2), (.oi 3, 3)]⟩
/-- no round is left -/
def GQ : Prop := ∀ e hk, runTo (RKq e hk).T Tryz.prog Hand.none 3000 Tryz.f19.ntmps eL (frOf (fsE false)) (hOf 20002 (bsE false)) (.exit 0) cvKq [(20001, .vec 1, 1)] (fsE false) (bsE false) = true
theorem key_len {f : Nat → Int} {n : Nat} : (key f n).data.toList.length = (encL f n).length := by simp [key, bytesI]
theorem encC_b {c : Int} (h0 : 0 ≤ c) (h1 : c < 65536) : ∀ n ∈ encC c, 0 ≤ n ∧ n < 256 := by
  intro n hn
  by_cases g : 0 < c ∧ c < 128
  · rw [encA g] at hn; simp at hn; omega
  · by_cases g2 : c < 2048
    · rw [encB g g2] at hn; simp at hn; omega
    · rw [encD g g2] at hn; simp at hn; omega
theorem encL_b {f : Nat → Int} (h0 : ∀ m, 0 ≤ f m) (h1 : ∀ m, f m < 65536) : ∀ k, ∀ n ∈ encL f k, 0 ≤ n ∧ n < 256
  | 0, n, h => nomatch h
  | k + 1, n, h => by
    rcases List.mem_append.1 (show n ∈ encL f k ++ encC (f k) from h) with h | h
    · exact encL_b h0 h1 k n h
    · exact encC_b (h0 k) (h1 k) n h
theorem vtE_ok {e : En} (c : EF e) (hk : e.k = e.n) : ∀ r ∈ [((1, 3, 0) : Nat × Nat × Nat)], VtOk (ivE e) (vvE e) (txE e).str r := by
  refine allCons ⟨⟨rfl, Int.natCast_nonneg _⟩, ?_, fun m x hx => ?_⟩ allNil
  · show (key e.f e.n).data.toList.length = e.L e.k
    rw [key_len, hk]; rfl
  · have hx : (key e.f e.n).data.toList[m]? = some x := hx
    have hm : m < (encL e.f e.n).length := by rw [← key_len]; exact (List.getElem?_eq_some_iff.1 hx).1
    show numV .u8 (e.L e.k) e.bt m = _
    unfold numV
    rw [if_pos (by rw [hk]; exact hm)]
    have hb := encL_b c.h0 c.h1 e.n (e.bt m) (by unfold En.bt; rw [List.getD_eq_getElem?_getD, List.getElem?_eq_getElem hm]; exact List.getElem_mem _)
    have : x = UInt8.ofNat (e.bt m).toNat := by
      have hx' : ((encL e.f e.n).map fun n => UInt8.ofNat n.toNat)[m]? = some x := by simpa [key, bytesI] using hx
      rw [List.getElem?_map, List.getElem?_eq_getElem hm] at hx'
      have : e.bt m = (encL e.f e.n)[m] := by unfold En.bt; rw [List.getD_eq_getElem?_getD, List.getElem?_eq_getElem hm]; rfl
      rw [this]; simpa using hx'.symm
    rw [this]
    congr 2
    simp only [UInt8.toNat_ofNat']
    omega
noncomputable abbrev RZ (e : En) (c : EF e) (hk : e.k = e.n) : Rw (ivE e) (vvE e) (vkE e) (fgE e) (txE e) where
  vvp := vvEp e
  vt := [(1, 3, 0)]
  vtok := vtE_ok c hk
noncomputable def cvF : Cv := ⟨0, 20040, ofPairs [], [(.ostr 0, 0)]⟩
/-- behind the loop -/
def GF : Prop := ∀ e c hk, runTo (RZ e c hk).T Tryz.prog Hand.none 3000 Tryz.f19.ntmps (restn 3 eC) (frOf (fsE false)) (hOf 20002 (bsE false)) .ret cvF [] [(2, .ostr 0)] [] = true
noncomputable def cvS : Cv := ⟨20000, 20000, ofPairs [], [(.fo 0 2 1, 0), (.oi 2, 2)]⟩
noncomputable def fsS : List (Nat × AV) := [(0, .fo 0 2 1), (3, .nils)]
/-- from the call to the loop's head -/
def GS : Prop := ∀ e, firstTo (TE e) Tryz.prog Hand.none 3000 Tryz.f19.ntmps 2 eC (T.ofList 0 .leaf [.fo 0 2 1]) H.empty cvS [] fsS [] = true
noncomputable def cvT : Cv := ⟨20000, 20000, ofPairs [], [(.fo 0 2 1, 0), (.int .i64 0, 0), (.oi 2, 2)]⟩
def GT : Prop := ∀ e, runTo (TE e) Tryz.prog Hand.none 3000 Tryz.f19.ntmps eI (frOf fsS) (hOf 20000 []) .normal cvT [] (fsE true) (bsE true) = true
theorem gs : GS := fun e => by as_aux_lemma => kernel_rfl
theorem gt : GT := fun e => by as_aux_lemma => kernel_rfl
theorem gf : GF := fun e c hk => by as_aux_lemma => kernel_rfl
theorem gq : GQ := fun e hk => by as_aux_lemma => kernel_rfl
theorem gr0 : ∀ cl, cl < 4 → GR0 cl
  | 0, _ => fun e c hk hc h => by as_aux_lemma => kernel_rfl
  | 1, _ => fun e c hk hc h => by as_aux_lemma => kernel_rfl
  | 2, _ => fun e c hk hc h => by as_aux_lemma => kernel_rfl
  | 3, _ => fun e c hk hc h => by as_aux_lemma => kernel_rfl
  | _ + 4, h => by omega
theorem gr1 : ∀ cl, cl < 4 → GR1 cl
  | 0, _ => fun e c hk hc h => by as_aux_lemma => kernel_rfl
  | 1, _ => fun e c hk hc h => by as_aux_lemma => kernel_rfl
  | 2, _ => fun e c hk hc h => by as_aux_lemma => kernel_rfl
  | 3, _ => fun e c hk hc h => by as_aux_lemma => kernel_rfl
  | _ + 4, h => by omega
def SE (e : En) (z : Bool) (B : Kp) (w0 : World) (μ : M) (a : Act) (w : World) : Prop := St (TE e) B w0 μ Tryz.f19.ntmps (frOf (fsE z)) (hOf (Bool.rec 20002 20000 z) (bsE z)) a w
theorem glE {e e' : En} {T T' : Tab} {B : Kp} {w0 : World} (h1 : T.fb = (fgE e).fb := by exact rfl) (h2 : T.fv = (fgE e).fv := by exact rfl) (h3 : T'.fb = (fgE e).fb := by exact rfl) (h4 : T'.fv = (fgE e).fv := by exact rfl) (h5 : T'.gv = fun _ _ => none := by exact rfl) : @Gl T B w0 → @Gl T' B w0 :=
  glF h5 (h1.trans h3.symm) (h2.trans h4.symm) fun i m a h => by
    rw [h4] at h
    match i, h with
    | 0, h => obtain ⟨_, e⟩ := numV_some h; exact ⟨_, _, e⟩
    | (i + 1), h => cases h
theorem EK_ex (e : En) (c : EF e) : ∃ cl, cl < 4 ∧ EK e cl := by
  have h0 := c.h0 e.k
  by_cases a : e.f e.k = 0
  · exact ⟨1, by decide, a⟩
  · by_cases b : e.f e.k < 128
    · exact ⟨0, by decide, by omega, b⟩
    · by_cases d : e.f e.k < 2048
      · exact ⟨2, by decide, by omega, d⟩
      · exact ⟨3, by decide, by show 2048 ≤ e.f e.k; omega⟩
section
variable {e : En} {B : Kp} {w0 : World} {μ : M} {a : Act} {w : World}
theorem eRound1 (hb : Base B μ 20000) (c : EF e) (hk : e.k < e.n) (s : SE e false B w0 μ a w) : eL.wp Tryz.prog (fun x a' w' => x = .normal ∧ SE (e.at (e.k + 1)) false B w0 μ a' w') a w := by
  obtain ⟨cl, hc, hE⟩ := EK_ex e c
  exact runTo_sound (bs := [(20001, 20003, .vec 1)]) (fs := fsE false) (T := (RR e cl c hk hc hE).T) (T' := TE (e.at (e.k + 1))) mixed hNo (C := cvR1 cl) (ex := .normal) hb (show 20000 ≤ 20002 by decide) (rl := [(20001, 20003)]) rfl (by rfl) (ipG (ipE (ipE (ipE ipNil)))) (vpNum (n := e.L (e.k + 1)) (e := e.bt) (e' := e.bt) vpNil rfl rfl rfl rfl (fun _ _ => rfl)) (glE (e := e) (e' := e)) (gr1 cl hc e c hk hc hE) (St.same (Rw.same _ _) s)
theorem eRound0 (hb : Base B μ 20000) (c : EF e) (hk : e.k < e.n) (h0 : e.k = 0) (s : SE e true B w0 μ a w) : eL.wp Tryz.prog (fun x a' w' => x = .normal ∧ SE (e.at (e.k + 1)) false B w0 μ a' w') a w := by
  obtain ⟨cl, hc, hE⟩ := EK_ex e c
  obtain ⟨hl, hs⟩ := srcE_ok cl hc hE
  have hL : e.L (e.k + 1) = (srcE cl).length := by rw [e.L1, hl, h0]; show (encL e.f 0).length + _ = _; rw [show encL e.f 0 = [] from rfl]; simp
  have hz : e.L e.k = 0 := by rw [h0]; rfl
  exact runTo_sound (bs := [(20001, 20001, .vec 1)]) (fs := fsE false) (T := (RR e cl c hk hc hE).T) (T' := TE (e.at (e.k + 1))) mixed hNo (C := cvR true cl) (ex := .normal) hb (show 20000 ≤ 20002 by decide) (rl := [(20001, 20001)]) rfl (by rfl) (ipG (ipE (ipE (ipK' ipNil rfl (by show (e.L (e.k + 1) : Int) = _; rw [hL]))))) (vpRow (n := e.L (e.k + 1)) (K := .u8) (f := e.bt) vpNil hL.symm (by have := (encC_len (e.f e.k)).2; omega) rfl rfl (fun m hm => by
    obtain ⟨v, v1, v2⟩ := hs m (by omega)
    refine ⟨v, v1, v2.trans ?_⟩
    have := e.new hk (m := m) (by omega)
    rw [hz, Nat.zero_add] at this
    rw [this])) (glE (e := e) (e' := e)) (gr0 cl hc e c hk hc hE) (St.same (Rw.same _ _) s)
theorem eExit (hb : Base B μ 20000) (hk : ¬ e.k < e.n) (s : SE e false B w0 μ a w) : eL.wp Tryz.prog (fun x a' w' => x = .exit 0 ∧ SE e false B w0 μ a' w') a w :=
  runTo_sound (T := (RKq e hk).T) (T' := TE e) mixed hNo (C := cvKq) (ex := .exit 0) hb (show 20000 ≤ 20002 by decide) (rl := [(20001, 20001)]) rfl (by rfl) (ipG (ipE (ipE (ipE ipNil)))) (vpNum (n := e.L e.k) (e := e.bt) (e' := e.bt) vpNil rfl rfl rfl rfl (fun _ _ => rfl)) (glE (e := e) (e' := e)) (gq e hk) (St.same (Rw.same _ _) s)
theorem eRounds (hb : Base B μ 20000) (c : EF e) : ∀ (j k : Nat) (a : Act) (w : World), k + j = e.n + 1 → k ≤ e.n → SE (e.at k) false B w0 μ a w → Code.rounds Tryz.prog eL (fun x a w => x = .exit 0 ∧ SE (e.at e.n) false B w0 μ a w) j a w
  | 0, k, a, w, h1, h2, s => by omega
  | j + 1, k, a, w, h1, h2, s => by
    by_cases hk : k < e.n
    · refine rounds_of (wp_mono (eRound1 (e := e.at k) hb ⟨c.hn, c.h0, c.h1⟩ hk s) ?_)
      rintro x a' w' ⟨rfl, s'⟩
      exact eRounds hb c j (k + 1) a' w' (by omega) (by omega) s'
    · have hkL : k = e.n := by omega
      refine rounds_of (wp_mono (eExit (e := e.at k) hb hk s) ?_)
      rintro x a' w' ⟨rfl, s'⟩
      rw [hkL] at s'
      exact ⟨rfl, s'⟩
theorem eLoop (hb : Base B μ 20000) (c : EF e) (h0 : 0 < e.n) (s : SE (e.at 0) true B w0 μ a w) : Code.rounds Tryz.prog eL (fun x a w => x = .exit 0 ∧ SE (e.at e.n) false B w0 μ a w) (e.n + 1) a w := by
  refine rounds_of (wp_mono (eRound0 (e := e.at 0) hb ⟨c.hn, c.h0, c.h1⟩ h0 rfl s) ?_)
  rintro x a' w' ⟨rfl, s'⟩
  exact eRounds hb c e.n 1 a' w' (by omega) h0 s'
end
/-- a text that has chars -/
theorem enc_ok {e : En} (c : EF e) (h0 : 0 < e.n) : ∃ q, @CallOk (TE (e.at 0)) Tryz.prog 19 [.fo 0 2 1] H.empty (.ostr 0, q) := by
  letI : Tab := TE (e.at 0)
  refine ⟨hOf 20040 [], callOk_of (fn := Tryz.f19) Tryz.func19 eC_eq (show 1 ≤ Tryz.f19.ntmps by decide +kernel) (show 1 < limit by decide) fun B w0 μ a w hb s => ?_⟩
  have hbU : Base B μ 20000 := baseUp hb (Nat.zero_le _)
  refine firstTo_sound (T := TE (e.at 0)) (T' := TE (e.at 0)) (n := 2) mixed hNo (C := cvS) (rl := []) (fs := fsS) (bs := [])
    hbU (Nat.le_refl _) rfl rfl (ipG (ipE ipNil)) vpNil (glE (e := e) (e' := e)) (gs _) s fun a1 w1 s1 => ?_
  rw [e2_eq]
  refine wp_seq (wp_seq (wp_mono (runTo_sound (T := TE (e.at 0)) (T' := TE (e.at 0)) mixed hNo (C := cvT) (ex := .normal) hbU (Nat.le_refl _) (rl := []) rfl rfl (ipG (ipK' (ipE ipNil) rfl rfl)) vpNil (glE (e := e) (e' := e)) (gt _) s1) ?_))
  rintro x a2 w2 ⟨rfl, s2⟩
  show (Code.block 0 (.loop eL)).wp _ _ _ _
  refine wp_block (wp_mono (wp_loop_rounds (Q := fun x a w => x = .exit 0 ∧ SE (e.at e.n) false B w0 μ a w) (e.n + 1) (eLoop (e := e) hbU c h0 s2)) ?_)
  rintro x a3 w3 ⟨rfl, s3⟩
  show (restn 3 eC).wp _ _ _ _
  refine wp_mono (runTo_sound (T := (RZ (e.at e.n) ⟨c.hn, c.h0, c.h1⟩ rfl).T) (T' := TE (e.at 0)) mixed hNo (C := cvF) (ex := .ret) hb (Nat.zero_le _) (rl := []) rfl rfl (ipCons rfl ipNil) vpNil (glE (e := e) (e' := e)) (gf _ _ _) (St.same (Rw.same _ _) s3)) ?_
  rintro x a4 w4 ⟨rfl, s4⟩
  exact St.done (τ := TE (e.at 0)) (e := .ret) (.inr rfl) (by kernel_rfl) s4
def isE0 : AV → Bool
  | .str 0 0 => true
  | _ => false
theorem isE0_eq {v : AV} (h : isE0 v = true) : v = .str 0 0 := by
  unfold isE0 at h
  split at h
  · rfl
  · cases h
noncomputable def okEmpty (x : AV) : Bool := Option.rec false (fun p => isE0 p.1) (@call Tab.empty Tryz.prog Hand.none 3000 19 [x] H.empty)
theorem callEmpty {x : AV} (h : okEmpty x = true) : ∃ q, @CallOk Tab.empty Tryz.prog 19 [x] H.empty (.str 0 0, q) := by
  letI : Tab := Tab.empty
  unfold okEmpty at h
  cases e : @call Tab.empty Tryz.prog Hand.none 3000 19 [x] H.empty with
  | none => rw [e] at h; cases h
  | some p =>
    rw [e] at h
    obtain ⟨v, q⟩ := p
    have hv := isE0_eq (show isE0 v = true from h)
    subst hv
    exact ⟨q, call_sound mixed hNo e⟩
theorem encN_ok : ∃ q, @CallOk Tab.empty Tryz.prog 19 [.nils] H.empty (.str 0 0, q) := callEmpty (by as_aux_lemma => kernel_rfl)
theorem encE_ok : ∃ q, @CallOk Tab.empty Tryz.prog 19 [.es] H.empty (.str 0 0, q) := callEmpty (by as_aux_lemma => kernel_rfl)
end Go.Proofs.YtifdjfcakkdgeaaGreatDoor.sa
