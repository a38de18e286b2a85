/-
  Types that are not too many, and may be: what the law's cut gives.
-/
import Derived.Test.YtlnkclamdiohnaaGreatDoorFPM
set_option linter.unusedVariables false
set_option linter.unusedSimpArgs false
set_option linter.unusedSectionVars false
set_option maxRecDepth 1000000
set_option maxHeartbeats 0
namespace Go.Proofs.YtlnkclamdiohnaaGreatDoor.fp
open Go.X Go.RowKit Go.Proofs
noncomputable def upd {α : Type} (f : Nat → α) (i : Nat) (x : α) : Nat → α := fun t => Bool.rec (f t) x (Nat.beq t i)
/-- a round's own numbers and texts -/
structure Rd where
  i : Nat
  k : Int
  at_ : Int
  sz : Nat
  tK : Int
  tD : Int
  tE : Int
  cn : ByteArray
  tn : ByteArray
def Rd0 : Rd := ⟨0, 0, 0, 0, 0, 0, 0, strOf 0 0, strOf 0 0⟩
abbrev ivU (len n : Nat) (X : Rd) (Ks As : Nat → Int) : Nat → IntKind × Int
  | 0 => (.i64, (len : Int))
  | 1 => (.i64, (X.i : Int))
  | 2 => (.i64, X.k)
  | 3 => (.i64, X.at_)
  | 4 => (.i64, (X.sz : Int))
  | 5 => (.u8, X.tK)
  | 6 => (.i64, X.tD)
  | 7 => (.u8, X.tE)
  | 8 => (.i64, (n : Int))
  | m + 9 => if m % 2 = 0 then (.i64, Ks (m / 2)) else (.i64, As (m / 2))
abbrev strU (X : Rd) (nf Ns : Nat → ByteArray) : Nat → ByteArray
  | 0 => X.cn
  | 1 => X.tn
  | m + 2 => if m % 2 = 0 then nf (m / 2) else Ns (m / 2)
/-- types that came in -/
structure Vs where
  b : Nat
  o : Nat
  cap : Nat
  cnt : Nat
  kf : Nat → Int
  nf : Nat → ByteArray
  af : Nat → Int
def cellU (V : Vs) (m : Nat) : AV := if m % 3 = 0 then .int .i64 (V.kf (m / 3)) else if m % 3 = 1 then .ostr (2 + 2 * (m / 3)) else .int .i64 (V.af (m / 3))
abbrev fgU (V : Vs) : Fgn where
  fb := fun _ => (V.b, V.o)
  fcap := fun _ => V.cap
  fv := fun i m => match i with | 0 => if m < 3 * V.cnt then some (cellU V m) else none | _ => none
abbrev RVc (iv : Nat → IntKind × Int) (ib : List BRow) (hib : ∀ r ∈ ib, IbOk iv r) (vc : List (Nat × Nat)) (hvc : ∀ p ∈ vc, iv p.2 = (.i64, (p.1 : Int))) : VRows iv noV noK where
  vvp := noVp
  ib := ib
  ibok := hib
  vc := vc
  vcok := hvc
abbrev TF (iv : Nat → IntKind × Int) (str : Nat → ByteArray) (F : Fgn) (ib : List BRow) (hib : ∀ r ∈ ib, IbOk iv r) (vc : List (Nat × Nat)) (hvc : ∀ p ∈ vc, iv p.2 = (.i64, (p.1 : Int))) (fl : List VL) (hfl : ∀ r ∈ fl, FlOk iv F r) (tr : List TRow) (htr : ∀ r ∈ tr, TrOk str iv r.1 r.2.1 r.2.2) : Tab :=
  { (RVc iv ib hib vc hvc).ftab F fl hfl with str := str, ne := fun _ => [], ok := fun _ p h => (by cases h), tr := tr, trok := htr }
abbrev plU (len n : Nat) (X : Rd) (V : Vs) (Ks : Nat → Int) (Ns : Nat → ByteArray) (As : Nat → Int) : Tab := TF (ivU len n X Ks As) (strU X V.nf Ns) (fgU V) [] ibNil [] allNil [] allNil [] txNil
theorem sameTF {iv : Nat → IntKind × Int} {str : Nat → ByteArray} {F : Fgn} {ib hib vc hvc fl hfl tr htr} : SameTab (TF iv str F [] ibNil [] allNil [] allNil [] txNil) (TF iv str F ib hib vc hvc fl hfl tr htr) := ⟨rfl, rfl, rfl, rfl, rfl, rfl, rfl, rfl, rfl⟩
theorem flU {iv : Nat → IntKind × Int} {V : Vs} {i : Nat} (h1 : iv 1 = (.i64, (i : Int))) (h2 : iv 2 = (.i64, V.kf i)) (h3 : iv 3 = (.i64, V.af i)) (hi : i < V.cnt) : FlOk iv (fgU V) ⟨0, 1, 3, 0, [.oi 2, .ostr (2 + 2 * i), .oi 3]⟩ := by
  refine ⟨by rw [h1]; exact ⟨rfl, Int.natCast_nonneg _⟩, fun m x hx => ?_⟩
  have e1 : (iv 1).2.toNat = i := by rw [h1]; simp
  show ∃ a, (if (iv 1).2.toNat * 3 + 0 + m < 3 * V.cnt then some (cellU V ((iv 1).2.toNat * 3 + 0 + m)) else none) = some a ∧ sameAV iv a x
  rw [e1]
  match m, hx with
  | 0, hx =>
    cases hx
    rw [if_pos (by omega)]
    refine ⟨_, rfl, .inr ⟨(.i64, V.kf i), ?_, by show some (iv 2) = _; rw [h2]⟩⟩
    unfold cellU
    rw [if_pos (by omega), show (i * 3 + 0 + 0) / 3 = i by omega]
    rfl
  | 1, hx =>
    cases hx
    rw [if_pos (by omega)]
    refine ⟨_, rfl, .inl ?_⟩
    unfold cellU
    rw [if_neg (by omega), if_pos (by omega), show (i * 3 + 0 + 1) / 3 = i by omega]
  | 2, hx =>
    cases hx
    rw [if_pos (by omega)]
    refine ⟨_, rfl, .inr ⟨(.i64, V.af i), ?_, by show some (iv 3) = _; rw [h3]⟩⟩
    unfold cellU
    rw [if_neg (by omega), if_neg (by omega), show (i * 3 + 0 + 2) / 3 = i by omega]
    rfl
  | m + 3, hx => simp at hx
theorem glU {T T' : Tab} {B : Kp} {w0 : World} {V : Vs} (h : T'.gv = fun _ _ => none) (h1 : T.fb = T'.fb) (h2 : T.fv = T'.fv) (h3 : T'.fv = (fgU V).fv) (h4 : ∀ t, T.str (2 + 2 * t) = V.nf t) (h5 : ∀ t, T'.str (2 + 2 * t) = V.nf t) : @Gl T B w0 → @Gl T' B w0 := fun g =>
  ⟨fun g o a hg => (by rw [h] at hg; cases hg), fun i m a hg => (by
    obtain ⟨k1, v, k2, k3⟩ := g.2 i m _ (by rw [h2]; exact hg)
    rw [← h1]
    refine ⟨k1, v, k2, ?_⟩
    rw [h3] at hg
    match i, hg with
    | 0, hg =>
      by_cases hm : m < 3 * V.cnt
      · have hg' : (if m < 3 * V.cnt then some (cellU V m) else none) = some a := hg
        rw [if_pos hm] at hg'
        cases hg'
        by_cases m0 : m % 3 = 0
        · have e : cellU V m = .int .i64 (V.kf (m / 3)) := by unfold cellU; rw [if_pos m0]
          rw [e] at k3 ⊢
          simp only [vrel] at k3 ⊢
          exact k3
        · by_cases m1 : m % 3 = 1
          · have e : cellU V m = .ostr (2 + 2 * (m / 3)) := by unfold cellU; rw [if_neg m0, if_pos m1]
            rw [e] at k3 ⊢
            simp only [vrel] at k3 ⊢
            rw [k3, h4, h5]
          · have e : cellU V m = .int .i64 (V.af (m / 3)) := by unfold cellU; rw [if_neg m0, if_neg m1]
            rw [e] at k3 ⊢
            simp only [vrel] at k3 ⊢
            exact k3
      · have hg' : (if m < 3 * V.cnt then some (cellU V m) else none) = some a := hg
        rw [if_neg hm] at hg'
        cases hg'
    | (i + 1), hg => cases hg)⟩
theorem strU_at (X : Rd) (nf Ns : Nat → ByteArray) (t : Nat) : strU X nf Ns (2 + 2 * t) = nf t := by
  rw [show 2 + 2 * t = 2 * t + 2 by omega]
  show (if 2 * t % 2 = 0 then nf (2 * t / 2) else Ns (2 * t / 2)) = _
  rw [if_pos (by omega), show 2 * t / 2 = t by omega]
structure NoK (k : Int) : Prop where
  n7 : ¬ k = 7
  n8 : ¬ k = 8
  n0 : ¬ k = 0
  n1 : ¬ k = 1
  n4 : ¬ k = 4
  n5 : ¬ k = 5
  n6 : ¬ k = 6
theorem eqT {iv : Nat → IntKind × Int} {a b : Int} {x : AV} (hx : denI iv x = some (.i64, a)) (h : a = b) : IbOk iv (9, x, .int .i64 b, .bool true) := ibB (op := .eql) rfl rfl (k := .i64) (a := a) (b := b) hx rfl (tB (by simp [h]))
theorem eqF2 {iv : Nat → IntKind × Int} {a b : Int} {x : AV} (hx : denI iv x = some (.i64, a)) (h : ¬ a = b) : IbOk iv (9, x, .int .i64 b, .bool false) := ibB (op := .eql) rfl rfl (k := .i64) (a := a) (b := b) hx rfl (tB (by simp [h]))
theorem eqF {iv : Nat → IntKind × Int} {a b c : Int} {x : AV} (hx : denI iv x = some (.i64, a)) (h : a = c) (h2 : ¬ c = b) : IbOk iv (9, x, .int .i64 b, .bool false) := eqF2 hx (by rw [h]; exact h2)
def bRows (i : Nat) (l : List BRow) : List BRow := (11, .int .i64 (i : Int), .oi 8, .bool true) :: (11, .int .i64 (i : Int), .oi 0, .bool true) :: (11, .oi 1, .oi 0, .bool true) :: (14, .oi 1, .int .i64 0, .bool true) :: l
theorem bRows_ok {iv : Nat → IntKind × Int} {i len n : Nat} (h8 : iv 8 = (.i64, (n : Int))) (hn : i < n) (h0 : iv 0 = (.i64, (len : Int))) (h1 : iv 1 = (.i64, (i : Int))) (h : i < len) {l : List BRow} (hl : ∀ r ∈ l, IbOk iv r) : ∀ r ∈ bRows i l, IbOk iv r := by
  have d0 : denI iv (.oi 0) = some (.i64, (len : Int)) := by show some (iv 0) = _; rw [h0]
  have d1 : denI iv (.oi 1) = some (.i64, (i : Int)) := by show some (iv 1) = _; rw [h1]
  have d8 : denI iv (.oi 8) = some (.i64, (n : Int)) := by show some (iv 8) = _; rw [h8]
  refine ibCons (ibB (op := .lss) rfl rfl (k := .i64) (a := (i : Int)) (b := (n : Int)) rfl d8 (tB (decide_eq_true (by omega)))) ?_
  exact ibCons (ibB (op := .lss) rfl rfl (k := .i64) (a := (i : Int)) (b := (len : Int)) rfl d0 (tB (decide_eq_true (by omega)))) (ibCons (ibB (op := .lss) rfl rfl (k := .i64) (a := (i : Int)) (b := (len : Int)) d1 d0 (tB (decide_eq_true (by omega)))) (ibCons (ibB (op := .geq) rfl rfl (k := .i64) (a := (i : Int)) (b := 0) d1 rfl (tB (decide_eq_true (by omega)))) hl))
noncomputable def ub : Code := codeOf Tryz.f6
theorem ub_eq : Tryz.f6.body = some ub := by kernel_rfl
noncomputable def uA : Code := hd (hd (restn 2 ub))
noncomputable def uL : Code := lpIn (tl (hd (restn 2 ub)))
noncomputable def uT : Code := tl (restn 2 ub)
theorem u_eq : restn 2 ub = .seq (.seq uA (.block 0 (.loop uL))) uT := by kernel_rfl
noncomputable def rU : Nat → AV
  | 0 => .nils
  | i + 1 => .so 0 0 (i + 1) 3
noncomputable def cellsU (i : Nat) : List AV := Nat.rec (motive := fun _ => List AV) [] (fun t ih => ih ++ [.oi (9 + 2 * t), .ostr (3 + 2 * t), .oi (10 + 2 * t)]) i
noncomputable def bsU (x : Nat) : Nat → BS
  | 0 => []
  | i + 1 => [(0, x, rowOf (cellsU (i + 1)) true)]
def NU : Nat → Nat
  | 0 => 0
  | _ + 1 => 1
section
variable {len n : Nat} {X : Rd} {V : Vs} {Ks As : Nat → Int} {Ns : Nat → ByteArray} {B : Kp} {w0 w : World} {μ : M} {a : Act}
noncomputable abbrev fsU6 (i : Nat) : List (Nat × AV) := [(0, .fo 0 0 3), (1, .oi 8), (5, rU i), (6, .int .i64 (i : Int))]
def SU6 (i len n : Nat) (V : Vs) (Ks : Nat → Int) (Ns : Nat → ByteArray) (As : Nat → Int) (B : Kp) (w0 : World) (μ : M) (a : Act) (w : World) : Prop := St (plU len n Rd0 V Ks Ns As) B w0 μ Tryz.f6.ntmps (frOf (fsU6 i)) (hOf (NU i) (bsU 0 i)) a w
theorem ipF0 {T T' : Tab} {j : Nat} (h1 : T'.fb 0 = T.fb 0) (h2 : T'.fcap 0 = T.fcap 0) : IpOk1 T T' (.fo 0 j 3, 0) := ⟨h1, h2⟩
theorem ipKI {T T' : Tab} {k : IntKind} {n : Int} {j : Nat} (h : T'.iv j = (k, n)) : IpOk1 T T' (.int k n, j) := by show some (k, n) = some (T'.iv j); rw [h]
noncomputable def ipU (i : Nat) : IP := Nat.rec (motive := fun _ => IP) [(.fo 0 0 3, 0), (.oi 0, 0), (.oi 8, 8)] (fun t ih => (.oi (9 + 2 * t), 9 + 2 * t) :: (.ostr (3 + 2 * t), 3 + 2 * t) :: (.oi (10 + 2 * t), 10 + 2 * t) :: ih) i
theorem ipU_ok {T T' : Tab} (h1 : T'.fb 0 = T.fb 0) (h2 : T'.fcap 0 = T.fcap 0) (h0 : T.iv 0 = T'.iv 0) (h8 : T.iv 8 = T'.iv 8) : ∀ {i : Nat}, (∀ t, t < i → T.iv (9 + 2 * t) = T'.iv (9 + 2 * t) ∧ T'.str (3 + 2 * t) = T.str (3 + 2 * t) ∧ T.iv (10 + 2 * t) = T'.iv (10 + 2 * t)) → IpOk T T' (ipU i)
  | 0, _ => ipCons (ipF0 h1 h2) (ipCons (ipO (T'.iv 0) h0 rfl) (ipCons (ipO (T'.iv 8) h8 rfl) ipNil))
  | i + 1, h => by
    obtain ⟨g1, g2, g3⟩ := h i (by omega)
    exact ipCons (ipO _ g1 rfl) (ipCons (ipS g2) (ipCons (ipO _ g3 rfl) (ipU_ok h1 h2 h0 h8 fun t ht => h t (by omega))))
theorem ivU_k (len n : Nat) (X : Rd) (Ks As : Nat → Int) (t : Nat) : ivU len n X Ks As (9 + 2 * t) = (.i64, Ks t) := by
  rw [show 9 + 2 * t = 2 * t + 9 by omega]
  show (if 2 * t % 2 = 0 then (IntKind.i64, Ks (2 * t / 2)) else (IntKind.i64, As (2 * t / 2))) = _
  rw [if_pos (by omega), show 2 * t / 2 = t by omega]
theorem ivU_a (len n : Nat) (X : Rd) (Ks As : Nat → Int) (t : Nat) : ivU len n X Ks As (10 + 2 * t) = (.i64, As t) := by
  rw [show 10 + 2 * t = (2 * t + 1) + 9 by omega]
  show (if (2 * t + 1) % 2 = 0 then (IntKind.i64, Ks ((2 * t + 1) / 2)) else (IntKind.i64, As ((2 * t + 1) / 2))) = _
  rw [if_neg (by omega), show (2 * t + 1) / 2 = t by omega]
theorem strU_n (X : Rd) (nf Ns : Nat → ByteArray) (t : Nat) : strU X nf Ns (3 + 2 * t) = Ns t := by
  rw [show 3 + 2 * t = (2 * t + 1) + 2 by omega]
  show (if (2 * t + 1) % 2 = 0 then nf ((2 * t + 1) / 2) else Ns ((2 * t + 1) / 2)) = _
  rw [if_neg (by omega), show (2 * t + 1) / 2 = t by omega]
theorem upd_lt {α : Type} {f : Nat → α} {i t : Nat} {x : α} (h : t < i) : upd f i x t = f t := by
  unfold upd
  cases e : Nat.beq t i with
  | false => rfl
  | true => exact absurd (Nat.eq_of_beq_eq_true e) (by omega)
theorem upd_eq {α : Type} {f : Nat → α} {i : Nat} {x : α} : upd f i x i = x := by
  unfold upd
  cases e : Nat.beq i i with
  | false => exact absurd e (by simp)
  | true => rfl
theorem keepU {X X' : Rd} {nf : Nat → ByteArray} {i : Nat} {kv av : Int} {nv : ByteArray} : ∀ t, t < i → ivU len n X Ks As (9 + 2 * t) = ivU len n X' (upd Ks i kv) (upd As i av) (9 + 2 * t) ∧ strU X' nf (upd Ns i nv) (3 + 2 * t) = strU X nf Ns (3 + 2 * t) ∧ ivU len n X Ks As (10 + 2 * t) = ivU len n X' (upd Ks i kv) (upd As i av) (10 + 2 * t) := fun t ht => by
  rw [ivU_k, ivU_k, ivU_a, ivU_a, strU_n, strU_n, upd_lt ht, upd_lt ht, upd_lt ht]
  exact ⟨rfl, rfl, rfl⟩
theorem keep0 {X X' : Rd} {nf : Nat → ByteArray} {i : Nat} : ∀ t, t < i → ivU len n X Ks As (9 + 2 * t) = ivU len n X' Ks As (9 + 2 * t) ∧ strU X' nf Ns (3 + 2 * t) = strU X nf Ns (3 + 2 * t) ∧ ivU len n X Ks As (10 + 2 * t) = ivU len n X' Ks As (10 + 2 * t) := fun t ht => by
  rw [ivU_k, ivU_k, ivU_a, ivU_a, strU_n, strU_n]
  exact ⟨rfl, rfl, rfl⟩
noncomputable def KU (q : Nat) (ok c : Bool) : Hand := (oneHand 16 [.ostr q] (.tup [.agg [.oi 5, .ostr 1, .oi 6, .oi 7], .bool ok])).or (oneHand 17 [.ostr q] (.bool c))
theorem KU_ok {T : Tab} {q : Nat} {sv tn : ByteArray} {tK tD tE : Int} {ok c : Bool} (h0 : T.str q = sv) (h1 : T.str 1 = tn) (h5 : T.iv 5 = (.u8, tK)) (h6 : T.iv 6 = (.i64, tD)) (h7 : T.iv 7 = (.u8, tE)) (h16 : Ans 16 #[.string sv] (.tuple #[.agg #[.int .u8 tK, .string tn, .int .i64 tD, .int .u8 tE], .bool ok])) (h17 : Ans 17 #[.string sv] (.bool c)) : @HandOk T Tryz.prog (KU q ok c) := by
  letI : Tab := T
  exact HandOk.or (valHand (vs := [.string sv]) (one_s h0) (fun μ => mk2 (mkAgg4 (by simp only [vrel]; rw [h5]) (by simp only [vrel]; rw [h1]) (by simp only [vrel]; rw [h6]) (by simp only [vrel]; rw [h7])) (by simp only [vrel])) h16) (valHand (vs := [.string sv]) (one_s h0) (fun μ => by simp only [vrel]) h17)
theorem ivUU (len n : Nat) (X : Rd) (Ks As : Nat → Int) (i : Nat) {k : Int} : ivU len n X (upd Ks i k) As (9 + 2 * i) = (.i64, k) := by rw [ivU_k, upd_eq]
theorem ivUA (len n : Nat) (X : Rd) (Ks As : Nat → Int) (i : Nat) {k : Int} : ivU len n X Ks (upd As i k) (10 + 2 * i) = (.i64, k) := by rw [ivU_a, upd_eq]
theorem strUU (X : Rd) (nf Ns : Nat → ByteArray) (i : Nat) (x : ByteArray) : strU X nf (upd Ns i x) (3 + 2 * i) = x := by rw [strU_n, upd_eq]
abbrev RX (i : Nat) (V : Vs) (sz : Nat) (tK tD tE : Int) (cn tn : ByteArray) : Rd := ⟨i, V.kf i, V.af i, sz, tK, tD, tE, cn, tn⟩
def rlU : Nat → List (Nat × Nat)
  | 0 => []
  | _ + 1 => [(0, 0)]
theorem rkU (i : Nat) : okRn (⟨0, NU i, ofPairs (rlU i), ipU i⟩ : Cv) (rlU i) = true := by
  cases i with
  | zero => rfl
  | succ i => rfl
theorem ipKn {T T' : Tab} {j : Nat} {k : IntKind} {n : Int} {a : AV} (ha : ∃ q, (a = .oi q ∧ T.iv q = (k, n)) ∨ a = .int k n) (h : T'.iv j = (k, n)) : IpOk1 T T' (a, j) := by
  obtain ⟨q, ⟨rfl, h1⟩ | rfl⟩ := ha
  · exact ipO (k, n) h1 h
  · exact ipKI h
section
variable {len n i : Nat} {X : Rd} {V : Vs} {Ks As : Nat → Int} {Ns : Nat → ByteArray} {B : Kp} {w0 w : World} {μ : M} {a : Act} {sz : Nat} {tK tD tE : Int} {cn tn : ByteArray}
def GU6at (i : Nat) : Prop := okFs (⟨0, NU i, ofPairs (rlU i), ipU i⟩ : Cv) (frOf (fsU6 i)) (fsU6 i) = true ∧ okBs (⟨0, NU i, ofPairs (rlU i), ipU i⟩ : Cv) [] (hOf (NU i) (bsU 0 i)) (bsU 0 i) .leaf = true
theorem atU6 (hg : GU6at i) (X : Rd) (hb : Base B μ 0) (s' : SU6 i len n V Ks Ns As B w0 μ a w) : St (plU len n X V Ks Ns As) B w0 μ Tryz.f6.ntmps (frOf (fsU6 i)) (hOf (NU i) (bsU 0 i)) a w :=
  St.weak (T := plU len n Rd0 V Ks Ns As) (T' := plU len n X V Ks Ns As) (fr := frOf (fsU6 i)) (h := hOf (NU i) (bsU 0 i)) (fs := fsU6 i) (bs := bsU 0 i) (C := (⟨0, NU i, ofPairs (rlU i), ipU i⟩ : Cv)) (rl := rlU i) (vp := []) hb (Nat.zero_le _) rfl (rkU i) (ipU_ok (by rfl) (by rfl) (by rfl) (by rfl) keep0) vpNil (glU rfl rfl rfl rfl (strU_at _ _ _) (strU_at _ _ _)) hg.1 hg.2 s'
theorem ibU_o0ck (hn : i < n) (hl : i < len) (hc : len ≤ V.cnt) (hk : V.kf i = 7) (hsz : sz = (V.nf i).size) (hlg : sz ≤ 60) (h91 : (tK == 91) = true) : ∀ r ∈ (bRows i [(9, .oi 2, .int .i64 7, .bool true), (13, .oi 4, .int .i64 60, .bool false), (9, .oi 5, .int .u8 91, .bool true)] : List BRow), IbOk (ivU len n (RX i V sz tK tD tE cn tn) Ks As) r := by
  letI := Tab.empty
  exact bRows_ok rfl hn rfl rfl hl (ibCons (eqT rfl hk) (ibCons (ibB (op := .gtr) rfl rfl (k := .i64) (a := (sz : Int)) (b := 60) rfl rfl (tB (decide_eq_false (by omega)))) (ibCons (ibB (op := .eql) rfl rfl (k := .u8) (a := tK) (b := 91) rfl rfl (tB h91)) ibNil)))
noncomputable abbrev TU_o0ck (len n i : Nat) (V : Vs) (Ks : Nat → Int) (Ns : Nat → ByteArray) (As : Nat → Int) (sz : Nat) (tK tD tE : Int) (cn tn : ByteArray) (hn : i < n) (hl : i < len) (hc : len ≤ V.cnt) (hk : V.kf i = 7) (hsz : sz = (V.nf i).size) (hlg : sz ≤ 60) (h91 : (tK == 91) = true) : Tab := TF (ivU len n (RX i V sz tK tD tE cn tn) Ks As) (strU (RX i V sz tK tD tE cn tn) V.nf Ns) (fgU V) _ (ibU_o0ck (sz := sz) (tK := tK) (tD := tD) (tE := tE) (cn := cn) (tn := tn) hn hl hc hk hsz hlg h91) [(i, 1)] (allCons rfl allNil) [⟨0, 1, 3, 0, [.oi 2, .ostr (2 + 2 * i), .oi 3]⟩] (allCons (flU (i := i) rfl rfl rfl (by omega)) allNil) [(0, [.ostr (2 + 2 * i)], .oi 4)] (txCons (trLen (by rw [strU_at]; show (IntKind.i64, (sz : Int)) = _; rw [hsz])) txNil)
def GU6_o0ck (i : Nat) : Prop := ∀ (len n : Nat) (V : Vs) (Ks : Nat → Int) (Ns : Nat → ByteArray) (As : Nat → Int) (sz : Nat) (tK tD tE : Int) (cn tn : ByteArray) (hn : i < n) (hl : i < len) (hc : len ≤ V.cnt) (hk : V.kf i = 7) (hsz : sz = (V.nf i).size) (hlg : sz ≤ 60) (h91 : (tK == 91) = true), runTo (TU_o0ck len n i V Ks Ns As sz tK tD tE cn tn hn hl hc hk hsz hlg h91) Tryz.prog (KU (2 + 2 * i) true true) 200 Tryz.f6.ntmps uL (frOf (fsU6 i)) (hOf (NU i) (bsU 0 i)) .normal (⟨0, 1, ofPairs [(0, (NU i + 3))], (.oi 2, 9 + 2 * i) :: (.ostr (2 + 2 * i), 3 + 2 * i) :: (.int .i64 0, 10 + 2 * i) :: ipU i⟩ : Cv) [] (fsU6 (i + 1)) (bsU (NU i + 3) (i + 1)) = true
theorem goU6_o0ck (ha : GU6at i) (hg : GU6_o0ck i) (hb : Base B μ 0) (hn : i < n) (hl : i < len) (hc : len ≤ V.cnt) (hk : V.kf i = 7) (hsz : sz = (V.nf i).size) (hlg : sz ≤ 60) (h91 : (tK == 91) = true) (h16 : Ans 16 #[.string (V.nf i)] (.tuple #[.agg #[.int .u8 tK, .string tn, .int .i64 tD, .int .u8 tE], .bool true])) (h17 : Ans 17 #[.string (V.nf i)] (.bool true)) (s' : SU6 i len n V Ks Ns As B w0 μ a w) : uL.wp Tryz.prog (fun e a' w' => e = .normal ∧ SU6 (i + 1) len n V (upd Ks i (V.kf i)) (upd Ns i (V.nf i)) (upd As i 0) B w0 μ a' w') a w :=
  runTo_sound (fr := frOf (fsU6 i)) (h := hOf (NU i) (bsU 0 i)) (T := (TU_o0ck len n i V Ks Ns As sz tK tD tE (strOf 0 0) tn hn hl hc hk hsz hlg h91)) (T' := plU len n Rd0 V (upd Ks i (V.kf i)) (upd Ns i (V.nf i)) (upd As i 0)) (K := (KU (2 + 2 * i) true true)) (n := 200) mixed (KU_ok (strU_at _ _ _ _) rfl rfl rfl rfl h16 h17) (C := (⟨0, 1, ofPairs [(0, (NU i + 3))], (.oi 2, 9 + 2 * i) :: (.ostr (2 + 2 * i), 3 + 2 * i) :: (.int .i64 0, 10 + 2 * i) :: ipU i⟩ : Cv)) (rl := [(0, (NU i + 3))]) (ex := .normal) (vp := []) (fs := fsU6 (i + 1)) (bs := bsU (NU i + 3) (i + 1))
    hb (Nat.zero_le _) rfl rfl (ipCons (ipKn ⟨2, .inl ⟨rfl, rfl⟩⟩ (ivUU _ _ _ _ _ _)) (ipCons (ipS ((strUU _ _ _ _ _).trans (strU_at _ _ _ _).symm)) (ipCons (ipKn ⟨0, .inr rfl⟩ (ivUA _ _ _ _ _ _)) (ipU_ok (by rfl) (by rfl) (by rfl) (by rfl) keepU)))) vpNil (glU rfl rfl rfl rfl (strU_at _ _ _) (strU_at _ _ _)) (hg len n V Ks Ns As sz tK tD tE (strOf 0 0) tn hn hl hc hk hsz hlg h91) (St.same sameTF (atU6 ha (RX i V sz tK tD tE (strOf 0 0) tn) hb s'))
theorem ibU_o0co (hn : i < n) (hl : i < len) (hc : len ≤ V.cnt) (hk : V.kf i = 7) (hsz : sz = (V.nf i).size) (hlg : sz ≤ 60) (h91 : (tK == 91) = false) : ∀ r ∈ (bRows i [(9, .oi 2, .int .i64 7, .bool true), (13, .oi 4, .int .i64 60, .bool false), (9, .oi 5, .int .u8 91, .bool false)] : List BRow), IbOk (ivU len n (RX i V sz tK tD tE cn tn) Ks As) r := by
  letI := Tab.empty
  exact bRows_ok rfl hn rfl rfl hl (ibCons (eqT rfl hk) (ibCons (ibB (op := .gtr) rfl rfl (k := .i64) (a := (sz : Int)) (b := 60) rfl rfl (tB (decide_eq_false (by omega)))) (ibCons (ibB (op := .eql) rfl rfl (k := .u8) (a := tK) (b := 91) rfl rfl (tB h91)) ibNil)))
noncomputable abbrev TU_o0co (len n i : Nat) (V : Vs) (Ks : Nat → Int) (Ns : Nat → ByteArray) (As : Nat → Int) (sz : Nat) (tK tD tE : Int) (cn tn : ByteArray) (hn : i < n) (hl : i < len) (hc : len ≤ V.cnt) (hk : V.kf i = 7) (hsz : sz = (V.nf i).size) (hlg : sz ≤ 60) (h91 : (tK == 91) = false) : Tab := TF (ivU len n (RX i V sz tK tD tE cn tn) Ks As) (strU (RX i V sz tK tD tE cn tn) V.nf Ns) (fgU V) _ (ibU_o0co (sz := sz) (tK := tK) (tD := tD) (tE := tE) (cn := cn) (tn := tn) hn hl hc hk hsz hlg h91) [(i, 1)] (allCons rfl allNil) [⟨0, 1, 3, 0, [.oi 2, .ostr (2 + 2 * i), .oi 3]⟩] (allCons (flU (i := i) rfl rfl rfl (by omega)) allNil) [(0, [.ostr (2 + 2 * i)], .oi 4)] (txCons (trLen (by rw [strU_at]; show (IntKind.i64, (sz : Int)) = _; rw [hsz])) txNil)
def GU6_o0co (i : Nat) : Prop := ∀ (len n : Nat) (V : Vs) (Ks : Nat → Int) (Ns : Nat → ByteArray) (As : Nat → Int) (sz : Nat) (tK tD tE : Int) (cn tn : ByteArray) (hn : i < n) (hl : i < len) (hc : len ≤ V.cnt) (hk : V.kf i = 7) (hsz : sz = (V.nf i).size) (hlg : sz ≤ 60) (h91 : (tK == 91) = false), runTo (TU_o0co len n i V Ks Ns As sz tK tD tE cn tn hn hl hc hk hsz hlg h91) Tryz.prog (KU (2 + 2 * i) true true) 200 Tryz.f6.ntmps uL (frOf (fsU6 i)) (hOf (NU i) (bsU 0 i)) .normal (⟨0, 1, ofPairs [(0, (NU i + 3))], (.oi 2, 9 + 2 * i) :: (.ostr (2 + 2 * i), 3 + 2 * i) :: (.int .i64 0, 10 + 2 * i) :: ipU i⟩ : Cv) [] (fsU6 (i + 1)) (bsU (NU i + 3) (i + 1)) = true
theorem goU6_o0co (ha : GU6at i) (hg : GU6_o0co i) (hb : Base B μ 0) (hn : i < n) (hl : i < len) (hc : len ≤ V.cnt) (hk : V.kf i = 7) (hsz : sz = (V.nf i).size) (hlg : sz ≤ 60) (h91 : (tK == 91) = false) (h16 : Ans 16 #[.string (V.nf i)] (.tuple #[.agg #[.int .u8 tK, .string tn, .int .i64 tD, .int .u8 tE], .bool true])) (h17 : Ans 17 #[.string (V.nf i)] (.bool true)) (s' : SU6 i len n V Ks Ns As B w0 μ a w) : uL.wp Tryz.prog (fun e a' w' => e = .normal ∧ SU6 (i + 1) len n V (upd Ks i (V.kf i)) (upd Ns i (V.nf i)) (upd As i 0) B w0 μ a' w') a w :=
  runTo_sound (fr := frOf (fsU6 i)) (h := hOf (NU i) (bsU 0 i)) (T := (TU_o0co len n i V Ks Ns As sz tK tD tE (strOf 0 0) tn hn hl hc hk hsz hlg h91)) (T' := plU len n Rd0 V (upd Ks i (V.kf i)) (upd Ns i (V.nf i)) (upd As i 0)) (K := (KU (2 + 2 * i) true true)) (n := 200) mixed (KU_ok (strU_at _ _ _ _) rfl rfl rfl rfl h16 h17) (C := (⟨0, 1, ofPairs [(0, (NU i + 3))], (.oi 2, 9 + 2 * i) :: (.ostr (2 + 2 * i), 3 + 2 * i) :: (.int .i64 0, 10 + 2 * i) :: ipU i⟩ : Cv)) (rl := [(0, (NU i + 3))]) (ex := .normal) (vp := []) (fs := fsU6 (i + 1)) (bs := bsU (NU i + 3) (i + 1))
    hb (Nat.zero_le _) rfl rfl (ipCons (ipKn ⟨2, .inl ⟨rfl, rfl⟩⟩ (ivUU _ _ _ _ _ _)) (ipCons (ipS ((strUU _ _ _ _ _).trans (strU_at _ _ _ _).symm)) (ipCons (ipKn ⟨0, .inr rfl⟩ (ivUA _ _ _ _ _ _)) (ipU_ok (by rfl) (by rfl) (by rfl) (by rfl) keepU)))) vpNil (glU rfl rfl rfl rfl (strU_at _ _ _) (strU_at _ _ _)) (hg len n V Ks Ns As sz tK tD tE (strOf 0 0) tn hn hl hc hk hsz hlg h91) (St.same sameTF (atU6 ha (RX i V sz tK tD tE (strOf 0 0) tn) hb s'))
theorem ibU_o0cn (hn : i < n) (hl : i < len) (hc : len ≤ V.cnt) (hk : V.kf i = 7) (hsz : sz = (V.nf i).size) (hlg : sz ≤ 60) : ∀ r ∈ (bRows i [(9, .oi 2, .int .i64 7, .bool true), (13, .oi 4, .int .i64 60, .bool false)] : List BRow), IbOk (ivU len n (RX i V sz tK tD tE cn tn) Ks As) r := by
  letI := Tab.empty
  exact bRows_ok rfl hn rfl rfl hl (ibCons (eqT rfl hk) (ibCons (ibB (op := .gtr) rfl rfl (k := .i64) (a := (sz : Int)) (b := 60) rfl rfl (tB (decide_eq_false (by omega)))) ibNil))
noncomputable abbrev TU_o0cn (len n i : Nat) (V : Vs) (Ks : Nat → Int) (Ns : Nat → ByteArray) (As : Nat → Int) (sz : Nat) (tK tD tE : Int) (cn tn : ByteArray) (hn : i < n) (hl : i < len) (hc : len ≤ V.cnt) (hk : V.kf i = 7) (hsz : sz = (V.nf i).size) (hlg : sz ≤ 60) : Tab := TF (ivU len n (RX i V sz tK tD tE cn tn) Ks As) (strU (RX i V sz tK tD tE cn tn) V.nf Ns) (fgU V) _ (ibU_o0cn (sz := sz) (tK := tK) (tD := tD) (tE := tE) (cn := cn) (tn := tn) hn hl hc hk hsz hlg) [(i, 1)] (allCons rfl allNil) [⟨0, 1, 3, 0, [.oi 2, .ostr (2 + 2 * i), .oi 3]⟩] (allCons (flU (i := i) rfl rfl rfl (by omega)) allNil) [(0, [.ostr (2 + 2 * i)], .oi 4)] (txCons (trLen (by rw [strU_at]; show (IntKind.i64, (sz : Int)) = _; rw [hsz])) txNil)
def GU6_o0cn (i : Nat) : Prop := ∀ (len n : Nat) (V : Vs) (Ks : Nat → Int) (Ns : Nat → ByteArray) (As : Nat → Int) (sz : Nat) (tK tD tE : Int) (cn tn : ByteArray) (hn : i < n) (hl : i < len) (hc : len ≤ V.cnt) (hk : V.kf i = 7) (hsz : sz = (V.nf i).size) (hlg : sz ≤ 60), runTo (TU_o0cn len n i V Ks Ns As sz tK tD tE cn tn hn hl hc hk hsz hlg) Tryz.prog (KU (2 + 2 * i) false true) 200 Tryz.f6.ntmps uL (frOf (fsU6 i)) (hOf (NU i) (bsU 0 i)) .normal (⟨0, 1, ofPairs [(0, (NU i + 3))], (.oi 2, 9 + 2 * i) :: (.ostr (2 + 2 * i), 3 + 2 * i) :: (.int .i64 0, 10 + 2 * i) :: ipU i⟩ : Cv) [] (fsU6 (i + 1)) (bsU (NU i + 3) (i + 1)) = true
theorem goU6_o0cn (ha : GU6at i) (hg : GU6_o0cn i) (hb : Base B μ 0) (hn : i < n) (hl : i < len) (hc : len ≤ V.cnt) (hk : V.kf i = 7) (hsz : sz = (V.nf i).size) (hlg : sz ≤ 60) (h16 : Ans 16 #[.string (V.nf i)] (.tuple #[.agg #[.int .u8 tK, .string tn, .int .i64 tD, .int .u8 tE], .bool false])) (h17 : Ans 17 #[.string (V.nf i)] (.bool true)) (s' : SU6 i len n V Ks Ns As B w0 μ a w) : uL.wp Tryz.prog (fun e a' w' => e = .normal ∧ SU6 (i + 1) len n V (upd Ks i (V.kf i)) (upd Ns i (V.nf i)) (upd As i 0) B w0 μ a' w') a w :=
  runTo_sound (fr := frOf (fsU6 i)) (h := hOf (NU i) (bsU 0 i)) (T := (TU_o0cn len n i V Ks Ns As sz tK tD tE (strOf 0 0) tn hn hl hc hk hsz hlg)) (T' := plU len n Rd0 V (upd Ks i (V.kf i)) (upd Ns i (V.nf i)) (upd As i 0)) (K := (KU (2 + 2 * i) false true)) (n := 200) mixed (KU_ok (strU_at _ _ _ _) rfl rfl rfl rfl h16 h17) (C := (⟨0, 1, ofPairs [(0, (NU i + 3))], (.oi 2, 9 + 2 * i) :: (.ostr (2 + 2 * i), 3 + 2 * i) :: (.int .i64 0, 10 + 2 * i) :: ipU i⟩ : Cv)) (rl := [(0, (NU i + 3))]) (ex := .normal) (vp := []) (fs := fsU6 (i + 1)) (bs := bsU (NU i + 3) (i + 1))
    hb (Nat.zero_le _) rfl rfl (ipCons (ipKn ⟨2, .inl ⟨rfl, rfl⟩⟩ (ivUU _ _ _ _ _ _)) (ipCons (ipS ((strUU _ _ _ _ _).trans (strU_at _ _ _ _).symm)) (ipCons (ipKn ⟨0, .inr rfl⟩ (ivUA _ _ _ _ _ _)) (ipU_ok (by rfl) (by rfl) (by rfl) (by rfl) keepU)))) vpNil (glU rfl rfl rfl rfl (strU_at _ _ _) (strU_at _ _ _)) (hg len n V Ks Ns As sz tK tD tE (strOf 0 0) tn hn hl hc hk hsz hlg) (St.same sameTF (atU6 ha (RX i V sz tK tD tE (strOf 0 0) tn) hb s'))
theorem ibU_o0fk (hn : i < n) (hl : i < len) (hc : len ≤ V.cnt) (hk : V.kf i = 7) (hsz : sz = (V.nf i).size) (hlg : sz ≤ 60) (h91 : (tK == 91) = true) : ∀ r ∈ (bRows i [(9, .oi 2, .int .i64 7, .bool true), (13, .oi 4, .int .i64 60, .bool false), (9, .oi 5, .int .u8 91, .bool true)] : List BRow), IbOk (ivU len n (RX i V sz tK tD tE cn tn) Ks As) r := by
  letI := Tab.empty
  exact bRows_ok rfl hn rfl rfl hl (ibCons (eqT rfl hk) (ibCons (ibB (op := .gtr) rfl rfl (k := .i64) (a := (sz : Int)) (b := 60) rfl rfl (tB (decide_eq_false (by omega)))) (ibCons (ibB (op := .eql) rfl rfl (k := .u8) (a := tK) (b := 91) rfl rfl (tB h91)) ibNil)))
noncomputable abbrev TU_o0fk (len n i : Nat) (V : Vs) (Ks : Nat → Int) (Ns : Nat → ByteArray) (As : Nat → Int) (sz : Nat) (tK tD tE : Int) (cn tn : ByteArray) (hn : i < n) (hl : i < len) (hc : len ≤ V.cnt) (hk : V.kf i = 7) (hsz : sz = (V.nf i).size) (hlg : sz ≤ 60) (h91 : (tK == 91) = true) : Tab := TF (ivU len n (RX i V sz tK tD tE cn tn) Ks As) (strU (RX i V sz tK tD tE cn tn) V.nf Ns) (fgU V) _ (ibU_o0fk (sz := sz) (tK := tK) (tD := tD) (tE := tE) (cn := cn) (tn := tn) hn hl hc hk hsz hlg h91) [(i, 1)] (allCons rfl allNil) [⟨0, 1, 3, 0, [.oi 2, .ostr (2 + 2 * i), .oi 3]⟩] (allCons (flU (i := i) rfl rfl rfl (by omega)) allNil) [(0, [.ostr (2 + 2 * i)], .oi 4)] (txCons (trLen (by rw [strU_at]; show (IntKind.i64, (sz : Int)) = _; rw [hsz])) txNil)
def GU6_o0fk (i : Nat) : Prop := ∀ (len n : Nat) (V : Vs) (Ks : Nat → Int) (Ns : Nat → ByteArray) (As : Nat → Int) (sz : Nat) (tK tD tE : Int) (cn tn : ByteArray) (hn : i < n) (hl : i < len) (hc : len ≤ V.cnt) (hk : V.kf i = 7) (hsz : sz = (V.nf i).size) (hlg : sz ≤ 60) (h91 : (tK == 91) = true), runTo (TU_o0fk len n i V Ks Ns As sz tK tD tE cn tn hn hl hc hk hsz hlg h91) Tryz.prog (KU (2 + 2 * i) true false) 200 Tryz.f6.ntmps uL (frOf (fsU6 i)) (hOf (NU i) (bsU 0 i)) .normal (⟨0, 1, ofPairs [(0, (NU i + 3))], (.oi 2, 9 + 2 * i) :: (.ostr (2 + 2 * i), 3 + 2 * i) :: (.int .i64 0, 10 + 2 * i) :: ipU i⟩ : Cv) [] (fsU6 (i + 1)) (bsU (NU i + 3) (i + 1)) = true
theorem goU6_o0fk (ha : GU6at i) (hg : GU6_o0fk i) (hb : Base B μ 0) (hn : i < n) (hl : i < len) (hc : len ≤ V.cnt) (hk : V.kf i = 7) (hsz : sz = (V.nf i).size) (hlg : sz ≤ 60) (h91 : (tK == 91) = true) (h16 : Ans 16 #[.string (V.nf i)] (.tuple #[.agg #[.int .u8 tK, .string tn, .int .i64 tD, .int .u8 tE], .bool true])) (h17 : Ans 17 #[.string (V.nf i)] (.bool false)) (s' : SU6 i len n V Ks Ns As B w0 μ a w) : uL.wp Tryz.prog (fun e a' w' => e = .normal ∧ SU6 (i + 1) len n V (upd Ks i (V.kf i)) (upd Ns i (V.nf i)) (upd As i 0) B w0 μ a' w') a w :=
  runTo_sound (fr := frOf (fsU6 i)) (h := hOf (NU i) (bsU 0 i)) (T := (TU_o0fk len n i V Ks Ns As sz tK tD tE (strOf 0 0) tn hn hl hc hk hsz hlg h91)) (T' := plU len n Rd0 V (upd Ks i (V.kf i)) (upd Ns i (V.nf i)) (upd As i 0)) (K := (KU (2 + 2 * i) true false)) (n := 200) mixed (KU_ok (strU_at _ _ _ _) rfl rfl rfl rfl h16 h17) (C := (⟨0, 1, ofPairs [(0, (NU i + 3))], (.oi 2, 9 + 2 * i) :: (.ostr (2 + 2 * i), 3 + 2 * i) :: (.int .i64 0, 10 + 2 * i) :: ipU i⟩ : Cv)) (rl := [(0, (NU i + 3))]) (ex := .normal) (vp := []) (fs := fsU6 (i + 1)) (bs := bsU (NU i + 3) (i + 1))
    hb (Nat.zero_le _) rfl rfl (ipCons (ipKn ⟨2, .inl ⟨rfl, rfl⟩⟩ (ivUU _ _ _ _ _ _)) (ipCons (ipS ((strUU _ _ _ _ _).trans (strU_at _ _ _ _).symm)) (ipCons (ipKn ⟨0, .inr rfl⟩ (ivUA _ _ _ _ _ _)) (ipU_ok (by rfl) (by rfl) (by rfl) (by rfl) keepU)))) vpNil (glU rfl rfl rfl rfl (strU_at _ _ _) (strU_at _ _ _)) (hg len n V Ks Ns As sz tK tD tE (strOf 0 0) tn hn hl hc hk hsz hlg h91) (St.same sameTF (atU6 ha (RX i V sz tK tD tE (strOf 0 0) tn) hb s'))
theorem ibU_o0fo (hn : i < n) (hl : i < len) (hc : len ≤ V.cnt) (hk : V.kf i = 7) (hsz : sz = (V.nf i).size) (hlg : sz ≤ 60) (h91 : (tK == 91) = false) : ∀ r ∈ (bRows i [(9, .oi 2, .int .i64 7, .bool true), (13, .oi 4, .int .i64 60, .bool false), (9, .oi 5, .int .u8 91, .bool false)] : List BRow), IbOk (ivU len n (RX i V sz tK tD tE cn tn) Ks As) r := by
  letI := Tab.empty
  exact bRows_ok rfl hn rfl rfl hl (ibCons (eqT rfl hk) (ibCons (ibB (op := .gtr) rfl rfl (k := .i64) (a := (sz : Int)) (b := 60) rfl rfl (tB (decide_eq_false (by omega)))) (ibCons (ibB (op := .eql) rfl rfl (k := .u8) (a := tK) (b := 91) rfl rfl (tB h91)) ibNil)))
noncomputable abbrev TU_o0fo (len n i : Nat) (V : Vs) (Ks : Nat → Int) (Ns : Nat → ByteArray) (As : Nat → Int) (sz : Nat) (tK tD tE : Int) (cn tn : ByteArray) (hn : i < n) (hl : i < len) (hc : len ≤ V.cnt) (hk : V.kf i = 7) (hsz : sz = (V.nf i).size) (hlg : sz ≤ 60) (h91 : (tK == 91) = false) : Tab := TF (ivU len n (RX i V sz tK tD tE cn tn) Ks As) (strU (RX i V sz tK tD tE cn tn) V.nf Ns) (fgU V) _ (ibU_o0fo (sz := sz) (tK := tK) (tD := tD) (tE := tE) (cn := cn) (tn := tn) hn hl hc hk hsz hlg h91) [(i, 1)] (allCons rfl allNil) [⟨0, 1, 3, 0, [.oi 2, .ostr (2 + 2 * i), .oi 3]⟩] (allCons (flU (i := i) rfl rfl rfl (by omega)) allNil) [(0, [.ostr (2 + 2 * i)], .oi 4)] (txCons (trLen (by rw [strU_at]; show (IntKind.i64, (sz : Int)) = _; rw [hsz])) txNil)
def GU6_o0fo (i : Nat) : Prop := ∀ (len n : Nat) (V : Vs) (Ks : Nat → Int) (Ns : Nat → ByteArray) (As : Nat → Int) (sz : Nat) (tK tD tE : Int) (cn tn : ByteArray) (hn : i < n) (hl : i < len) (hc : len ≤ V.cnt) (hk : V.kf i = 7) (hsz : sz = (V.nf i).size) (hlg : sz ≤ 60) (h91 : (tK == 91) = false), runTo (TU_o0fo len n i V Ks Ns As sz tK tD tE cn tn hn hl hc hk hsz hlg h91) Tryz.prog (KU (2 + 2 * i) true false) 200 Tryz.f6.ntmps uL (frOf (fsU6 i)) (hOf (NU i) (bsU 0 i)) .normal (⟨0, 1, ofPairs [(0, (NU i + 3))], (.oi 2, 9 + 2 * i) :: (.str 16 154706541852025644484233205990057992554, 3 + 2 * i) :: (.int .i64 0, 10 + 2 * i) :: ipU i⟩ : Cv) [] (fsU6 (i + 1)) (bsU (NU i + 3) (i + 1)) = true
theorem goU6_o0fo (ha : GU6at i) (hg : GU6_o0fo i) (hb : Base B μ 0) (hn : i < n) (hl : i < len) (hc : len ≤ V.cnt) (hk : V.kf i = 7) (hsz : sz = (V.nf i).size) (hlg : sz ≤ 60) (h91 : (tK == 91) = false) (h16 : Ans 16 #[.string (V.nf i)] (.tuple #[.agg #[.int .u8 tK, .string tn, .int .i64 tD, .int .u8 tE], .bool true])) (h17 : Ans 17 #[.string (V.nf i)] (.bool false)) (s' : SU6 i len n V Ks Ns As B w0 μ a w) : uL.wp Tryz.prog (fun e a' w' => e = .normal ∧ SU6 (i + 1) len n V (upd Ks i (V.kf i)) (upd Ns i (strOf 16 154706541852025644484233205990057992554)) (upd As i 0) B w0 μ a' w') a w :=
  runTo_sound (fr := frOf (fsU6 i)) (h := hOf (NU i) (bsU 0 i)) (T := (TU_o0fo len n i V Ks Ns As sz tK tD tE (strOf 0 0) tn hn hl hc hk hsz hlg h91)) (T' := plU len n Rd0 V (upd Ks i (V.kf i)) (upd Ns i (strOf 16 154706541852025644484233205990057992554)) (upd As i 0)) (K := (KU (2 + 2 * i) true false)) (n := 200) mixed (KU_ok (strU_at _ _ _ _) rfl rfl rfl rfl h16 h17) (C := (⟨0, 1, ofPairs [(0, (NU i + 3))], (.oi 2, 9 + 2 * i) :: (.str 16 154706541852025644484233205990057992554, 3 + 2 * i) :: (.int .i64 0, 10 + 2 * i) :: ipU i⟩ : Cv)) (rl := [(0, (NU i + 3))]) (ex := .normal) (vp := []) (fs := fsU6 (i + 1)) (bs := bsU (NU i + 3) (i + 1))
    hb (Nat.zero_le _) rfl rfl (ipCons (ipKn ⟨2, .inl ⟨rfl, rfl⟩⟩ (ivUU _ _ _ _ _ _)) (ipCons (ipT (strUU _ _ _ _ _)) (ipCons (ipKn ⟨0, .inr rfl⟩ (ivUA _ _ _ _ _ _)) (ipU_ok (by rfl) (by rfl) (by rfl) (by rfl) keepU)))) vpNil (glU rfl rfl rfl rfl (strU_at _ _ _) (strU_at _ _ _)) (hg len n V Ks Ns As sz tK tD tE (strOf 0 0) tn hn hl hc hk hsz hlg h91) (St.same sameTF (atU6 ha (RX i V sz tK tD tE (strOf 0 0) tn) hb s'))
theorem ibU_o0fn (hn : i < n) (hl : i < len) (hc : len ≤ V.cnt) (hk : V.kf i = 7) (hsz : sz = (V.nf i).size) (hlg : sz ≤ 60) : ∀ r ∈ (bRows i [(9, .oi 2, .int .i64 7, .bool true), (13, .oi 4, .int .i64 60, .bool false)] : List BRow), IbOk (ivU len n (RX i V sz tK tD tE cn tn) Ks As) r := by
  letI := Tab.empty
  exact bRows_ok rfl hn rfl rfl hl (ibCons (eqT rfl hk) (ibCons (ibB (op := .gtr) rfl rfl (k := .i64) (a := (sz : Int)) (b := 60) rfl rfl (tB (decide_eq_false (by omega)))) ibNil))
noncomputable abbrev TU_o0fn (len n i : Nat) (V : Vs) (Ks : Nat → Int) (Ns : Nat → ByteArray) (As : Nat → Int) (sz : Nat) (tK tD tE : Int) (cn tn : ByteArray) (hn : i < n) (hl : i < len) (hc : len ≤ V.cnt) (hk : V.kf i = 7) (hsz : sz = (V.nf i).size) (hlg : sz ≤ 60) : Tab := TF (ivU len n (RX i V sz tK tD tE cn tn) Ks As) (strU (RX i V sz tK tD tE cn tn) V.nf Ns) (fgU V) _ (ibU_o0fn (sz := sz) (tK := tK) (tD := tD) (tE := tE) (cn := cn) (tn := tn) hn hl hc hk hsz hlg) [(i, 1)] (allCons rfl allNil) [⟨0, 1, 3, 0, [.oi 2, .ostr (2 + 2 * i), .oi 3]⟩] (allCons (flU (i := i) rfl rfl rfl (by omega)) allNil) [(0, [.ostr (2 + 2 * i)], .oi 4)] (txCons (trLen (by rw [strU_at]; show (IntKind.i64, (sz : Int)) = _; rw [hsz])) txNil)
def GU6_o0fn (i : Nat) : Prop := ∀ (len n : Nat) (V : Vs) (Ks : Nat → Int) (Ns : Nat → ByteArray) (As : Nat → Int) (sz : Nat) (tK tD tE : Int) (cn tn : ByteArray) (hn : i < n) (hl : i < len) (hc : len ≤ V.cnt) (hk : V.kf i = 7) (hsz : sz = (V.nf i).size) (hlg : sz ≤ 60), runTo (TU_o0fn len n i V Ks Ns As sz tK tD tE cn tn hn hl hc hk hsz hlg) Tryz.prog (KU (2 + 2 * i) false false) 200 Tryz.f6.ntmps uL (frOf (fsU6 i)) (hOf (NU i) (bsU 0 i)) .normal (⟨0, 1, ofPairs [(0, (NU i + 3))], (.oi 2, 9 + 2 * i) :: (.str 16 154706541852025644484233205990057992554, 3 + 2 * i) :: (.int .i64 0, 10 + 2 * i) :: ipU i⟩ : Cv) [] (fsU6 (i + 1)) (bsU (NU i + 3) (i + 1)) = true
theorem goU6_o0fn (ha : GU6at i) (hg : GU6_o0fn i) (hb : Base B μ 0) (hn : i < n) (hl : i < len) (hc : len ≤ V.cnt) (hk : V.kf i = 7) (hsz : sz = (V.nf i).size) (hlg : sz ≤ 60) (h16 : Ans 16 #[.string (V.nf i)] (.tuple #[.agg #[.int .u8 tK, .string tn, .int .i64 tD, .int .u8 tE], .bool false])) (h17 : Ans 17 #[.string (V.nf i)] (.bool false)) (s' : SU6 i len n V Ks Ns As B w0 μ a w) : uL.wp Tryz.prog (fun e a' w' => e = .normal ∧ SU6 (i + 1) len n V (upd Ks i (V.kf i)) (upd Ns i (strOf 16 154706541852025644484233205990057992554)) (upd As i 0) B w0 μ a' w') a w :=
  runTo_sound (fr := frOf (fsU6 i)) (h := hOf (NU i) (bsU 0 i)) (T := (TU_o0fn len n i V Ks Ns As sz tK tD tE (strOf 0 0) tn hn hl hc hk hsz hlg)) (T' := plU len n Rd0 V (upd Ks i (V.kf i)) (upd Ns i (strOf 16 154706541852025644484233205990057992554)) (upd As i 0)) (K := (KU (2 + 2 * i) false false)) (n := 200) mixed (KU_ok (strU_at _ _ _ _) rfl rfl rfl rfl h16 h17) (C := (⟨0, 1, ofPairs [(0, (NU i + 3))], (.oi 2, 9 + 2 * i) :: (.str 16 154706541852025644484233205990057992554, 3 + 2 * i) :: (.int .i64 0, 10 + 2 * i) :: ipU i⟩ : Cv)) (rl := [(0, (NU i + 3))]) (ex := .normal) (vp := []) (fs := fsU6 (i + 1)) (bs := bsU (NU i + 3) (i + 1))
    hb (Nat.zero_le _) rfl rfl (ipCons (ipKn ⟨2, .inl ⟨rfl, rfl⟩⟩ (ivUU _ _ _ _ _ _)) (ipCons (ipT (strUU _ _ _ _ _)) (ipCons (ipKn ⟨0, .inr rfl⟩ (ivUA _ _ _ _ _ _)) (ipU_ok (by rfl) (by rfl) (by rfl) (by rfl) keepU)))) vpNil (glU rfl rfl rfl rfl (strU_at _ _ _) (strU_at _ _ _)) (hg len n V Ks Ns As sz tK tD tE (strOf 0 0) tn hn hl hc hk hsz hlg) (St.same sameTF (atU6 ha (RX i V sz tK tD tE (strOf 0 0) tn) hb s'))
theorem ibU_o1ck (hn : i < n) (hl : i < len) (hc : len ≤ V.cnt) (hk : V.kf i = 7) (hsz : sz = (V.nf i).size) (hlg : ¬ sz ≤ 60) (hcn : cn = (V.nf i).extract 0 60) (h91 : (tK == 91) = true) : ∀ r ∈ (bRows i [(9, .oi 2, .int .i64 7, .bool true), (13, .oi 4, .int .i64 60, .bool true), (9, .oi 5, .int .u8 91, .bool true)] : List BRow), IbOk (ivU len n (RX i V sz tK tD tE cn tn) Ks As) r := by
  letI := Tab.empty
  exact bRows_ok rfl hn rfl rfl hl (ibCons (eqT rfl hk) (ibCons (ibB (op := .gtr) rfl rfl (k := .i64) (a := (sz : Int)) (b := 60) rfl rfl (tB (decide_eq_true (by omega)))) (ibCons (ibB (op := .eql) rfl rfl (k := .u8) (a := tK) (b := 91) rfl rfl (tB h91)) ibNil)))
noncomputable abbrev TU_o1ck (len n i : Nat) (V : Vs) (Ks : Nat → Int) (Ns : Nat → ByteArray) (As : Nat → Int) (sz : Nat) (tK tD tE : Int) (cn tn : ByteArray) (hn : i < n) (hl : i < len) (hc : len ≤ V.cnt) (hk : V.kf i = 7) (hsz : sz = (V.nf i).size) (hlg : ¬ sz ≤ 60) (hcn : cn = (V.nf i).extract 0 60) (h91 : (tK == 91) = true) : Tab := TF (ivU len n (RX i V sz tK tD tE cn tn) Ks As) (strU (RX i V sz tK tD tE cn tn) V.nf Ns) (fgU V) _ (ibU_o1ck (sz := sz) (tK := tK) (tD := tD) (tE := tE) (cn := cn) (tn := tn) hn hl hc hk hsz hlg hcn h91) [(i, 1)] (allCons rfl allNil) [⟨0, 1, 3, 0, [.oi 2, .ostr (2 + 2 * i), .oi 3]⟩] (allCons (flU (i := i) rfl rfl rfl (by omega)) allNil) [(0, [.ostr (2 + 2 * i)], .oi 4), (2, [.ostr (2 + 2 * i), .nilp, .int .i64 60], .ostr 0)] (txCons (trLen (by rw [strU_at]; show (IntKind.i64, (sz : Int)) = _; rw [hsz])) (txCons (trPart (l := 0) (r := 60) rfl ⟨.i64, rfl⟩ (by decide) (by rw [strU_at]; omega) (by rw [strU_at]; exact hcn)) txNil))
def GU6_o1ck (i : Nat) : Prop := ∀ (len n : Nat) (V : Vs) (Ks : Nat → Int) (Ns : Nat → ByteArray) (As : Nat → Int) (sz : Nat) (tK tD tE : Int) (cn tn : ByteArray) (hn : i < n) (hl : i < len) (hc : len ≤ V.cnt) (hk : V.kf i = 7) (hsz : sz = (V.nf i).size) (hlg : ¬ sz ≤ 60) (hcn : cn = (V.nf i).extract 0 60) (h91 : (tK == 91) = true), runTo (TU_o1ck len n i V Ks Ns As sz tK tD tE cn tn hn hl hc hk hsz hlg hcn h91) Tryz.prog (KU 0 true true) 200 Tryz.f6.ntmps uL (frOf (fsU6 i)) (hOf (NU i) (bsU 0 i)) .normal (⟨0, 1, ofPairs [(0, (NU i + 3))], (.oi 2, 9 + 2 * i) :: (.ostr 0, 3 + 2 * i) :: (.int .i64 0, 10 + 2 * i) :: ipU i⟩ : Cv) [] (fsU6 (i + 1)) (bsU (NU i + 3) (i + 1)) = true
theorem goU6_o1ck (ha : GU6at i) (hg : GU6_o1ck i) (hb : Base B μ 0) (hn : i < n) (hl : i < len) (hc : len ≤ V.cnt) (hk : V.kf i = 7) (hsz : sz = (V.nf i).size) (hlg : ¬ sz ≤ 60) (hcn : cn = (V.nf i).extract 0 60) (h91 : (tK == 91) = true) (h16 : Ans 16 #[.string ((V.nf i).extract 0 60)] (.tuple #[.agg #[.int .u8 tK, .string tn, .int .i64 tD, .int .u8 tE], .bool true])) (h17 : Ans 17 #[.string ((V.nf i).extract 0 60)] (.bool true)) (s' : SU6 i len n V Ks Ns As B w0 μ a w) : uL.wp Tryz.prog (fun e a' w' => e = .normal ∧ SU6 (i + 1) len n V (upd Ks i (V.kf i)) (upd Ns i ((V.nf i).extract 0 60)) (upd As i 0) B w0 μ a' w') a w :=
  runTo_sound (fr := frOf (fsU6 i)) (h := hOf (NU i) (bsU 0 i)) (T := (TU_o1ck len n i V Ks Ns As sz tK tD tE cn tn hn hl hc hk hsz hlg hcn h91)) (T' := plU len n Rd0 V (upd Ks i (V.kf i)) (upd Ns i ((V.nf i).extract 0 60)) (upd As i 0)) (K := (KU 0 true true)) (n := 200) mixed (KU_ok hcn rfl rfl rfl rfl h16 h17) (C := (⟨0, 1, ofPairs [(0, (NU i + 3))], (.oi 2, 9 + 2 * i) :: (.ostr 0, 3 + 2 * i) :: (.int .i64 0, 10 + 2 * i) :: ipU i⟩ : Cv)) (rl := [(0, (NU i + 3))]) (ex := .normal) (vp := []) (fs := fsU6 (i + 1)) (bs := bsU (NU i + 3) (i + 1))
    hb (Nat.zero_le _) rfl rfl (ipCons (ipKn ⟨2, .inl ⟨rfl, rfl⟩⟩ (ivUU _ _ _ _ _ _)) (ipCons (ipS ((strUU _ _ _ _ _).trans hcn.symm)) (ipCons (ipKn ⟨0, .inr rfl⟩ (ivUA _ _ _ _ _ _)) (ipU_ok (by rfl) (by rfl) (by rfl) (by rfl) keepU)))) vpNil (glU rfl rfl rfl rfl (strU_at _ _ _) (strU_at _ _ _)) (hg len n V Ks Ns As sz tK tD tE cn tn hn hl hc hk hsz hlg hcn h91) (St.same sameTF (atU6 ha (RX i V sz tK tD tE cn tn) hb s'))
theorem ibU_o1co (hn : i < n) (hl : i < len) (hc : len ≤ V.cnt) (hk : V.kf i = 7) (hsz : sz = (V.nf i).size) (hlg : ¬ sz ≤ 60) (hcn : cn = (V.nf i).extract 0 60) (h91 : (tK == 91) = false) : ∀ r ∈ (bRows i [(9, .oi 2, .int .i64 7, .bool true), (13, .oi 4, .int .i64 60, .bool true), (9, .oi 5, .int .u8 91, .bool false)] : List BRow), IbOk (ivU len n (RX i V sz tK tD tE cn tn) Ks As) r := by
  letI := Tab.empty
  exact bRows_ok rfl hn rfl rfl hl (ibCons (eqT rfl hk) (ibCons (ibB (op := .gtr) rfl rfl (k := .i64) (a := (sz : Int)) (b := 60) rfl rfl (tB (decide_eq_true (by omega)))) (ibCons (ibB (op := .eql) rfl rfl (k := .u8) (a := tK) (b := 91) rfl rfl (tB h91)) ibNil)))
noncomputable abbrev TU_o1co (len n i : Nat) (V : Vs) (Ks : Nat → Int) (Ns : Nat → ByteArray) (As : Nat → Int) (sz : Nat) (tK tD tE : Int) (cn tn : ByteArray) (hn : i < n) (hl : i < len) (hc : len ≤ V.cnt) (hk : V.kf i = 7) (hsz : sz = (V.nf i).size) (hlg : ¬ sz ≤ 60) (hcn : cn = (V.nf i).extract 0 60) (h91 : (tK == 91) = false) : Tab := TF (ivU len n (RX i V sz tK tD tE cn tn) Ks As) (strU (RX i V sz tK tD tE cn tn) V.nf Ns) (fgU V) _ (ibU_o1co (sz := sz) (tK := tK) (tD := tD) (tE := tE) (cn := cn) (tn := tn) hn hl hc hk hsz hlg hcn h91) [(i, 1)] (allCons rfl allNil) [⟨0, 1, 3, 0, [.oi 2, .ostr (2 + 2 * i), .oi 3]⟩] (allCons (flU (i := i) rfl rfl rfl (by omega)) allNil) [(0, [.ostr (2 + 2 * i)], .oi 4), (2, [.ostr (2 + 2 * i), .nilp, .int .i64 60], .ostr 0)] (txCons (trLen (by rw [strU_at]; show (IntKind.i64, (sz : Int)) = _; rw [hsz])) (txCons (trPart (l := 0) (r := 60) rfl ⟨.i64, rfl⟩ (by decide) (by rw [strU_at]; omega) (by rw [strU_at]; exact hcn)) txNil))
def GU6_o1co (i : Nat) : Prop := ∀ (len n : Nat) (V : Vs) (Ks : Nat → Int) (Ns : Nat → ByteArray) (As : Nat → Int) (sz : Nat) (tK tD tE : Int) (cn tn : ByteArray) (hn : i < n) (hl : i < len) (hc : len ≤ V.cnt) (hk : V.kf i = 7) (hsz : sz = (V.nf i).size) (hlg : ¬ sz ≤ 60) (hcn : cn = (V.nf i).extract 0 60) (h91 : (tK == 91) = false), runTo (TU_o1co len n i V Ks Ns As sz tK tD tE cn tn hn hl hc hk hsz hlg hcn h91) Tryz.prog (KU 0 true true) 200 Tryz.f6.ntmps uL (frOf (fsU6 i)) (hOf (NU i) (bsU 0 i)) .normal (⟨0, 1, ofPairs [(0, (NU i + 3))], (.oi 2, 9 + 2 * i) :: (.ostr 0, 3 + 2 * i) :: (.int .i64 0, 10 + 2 * i) :: ipU i⟩ : Cv) [] (fsU6 (i + 1)) (bsU (NU i + 3) (i + 1)) = true
theorem goU6_o1co (ha : GU6at i) (hg : GU6_o1co i) (hb : Base B μ 0) (hn : i < n) (hl : i < len) (hc : len ≤ V.cnt) (hk : V.kf i = 7) (hsz : sz = (V.nf i).size) (hlg : ¬ sz ≤ 60) (hcn : cn = (V.nf i).extract 0 60) (h91 : (tK == 91) = false) (h16 : Ans 16 #[.string ((V.nf i).extract 0 60)] (.tuple #[.agg #[.int .u8 tK, .string tn, .int .i64 tD, .int .u8 tE], .bool true])) (h17 : Ans 17 #[.string ((V.nf i).extract 0 60)] (.bool true)) (s' : SU6 i len n V Ks Ns As B w0 μ a w) : uL.wp Tryz.prog (fun e a' w' => e = .normal ∧ SU6 (i + 1) len n V (upd Ks i (V.kf i)) (upd Ns i ((V.nf i).extract 0 60)) (upd As i 0) B w0 μ a' w') a w :=
  runTo_sound (fr := frOf (fsU6 i)) (h := hOf (NU i) (bsU 0 i)) (T := (TU_o1co len n i V Ks Ns As sz tK tD tE cn tn hn hl hc hk hsz hlg hcn h91)) (T' := plU len n Rd0 V (upd Ks i (V.kf i)) (upd Ns i ((V.nf i).extract 0 60)) (upd As i 0)) (K := (KU 0 true true)) (n := 200) mixed (KU_ok hcn rfl rfl rfl rfl h16 h17) (C := (⟨0, 1, ofPairs [(0, (NU i + 3))], (.oi 2, 9 + 2 * i) :: (.ostr 0, 3 + 2 * i) :: (.int .i64 0, 10 + 2 * i) :: ipU i⟩ : Cv)) (rl := [(0, (NU i + 3))]) (ex := .normal) (vp := []) (fs := fsU6 (i + 1)) (bs := bsU (NU i + 3) (i + 1))
    hb (Nat.zero_le _) rfl rfl (ipCons (ipKn ⟨2, .inl ⟨rfl, rfl⟩⟩ (ivUU _ _ _ _ _ _)) (ipCons (ipS ((strUU _ _ _ _ _).trans hcn.symm)) (ipCons (ipKn ⟨0, .inr rfl⟩ (ivUA _ _ _ _ _ _)) (ipU_ok (by rfl) (by rfl) (by rfl) (by rfl) keepU)))) vpNil (glU rfl rfl rfl rfl (strU_at _ _ _) (strU_at _ _ _)) (hg len n V Ks Ns As sz tK tD tE cn tn hn hl hc hk hsz hlg hcn h91) (St.same sameTF (atU6 ha (RX i V sz tK tD tE cn tn) hb s'))
theorem ibU_o1cn (hn : i < n) (hl : i < len) (hc : len ≤ V.cnt) (hk : V.kf i = 7) (hsz : sz = (V.nf i).size) (hlg : ¬ sz ≤ 60) (hcn : cn = (V.nf i).extract 0 60) : ∀ r ∈ (bRows i [(9, .oi 2, .int .i64 7, .bool true), (13, .oi 4, .int .i64 60, .bool true)] : List BRow), IbOk (ivU len n (RX i V sz tK tD tE cn tn) Ks As) r := by
  letI := Tab.empty
  exact bRows_ok rfl hn rfl rfl hl (ibCons (eqT rfl hk) (ibCons (ibB (op := .gtr) rfl rfl (k := .i64) (a := (sz : Int)) (b := 60) rfl rfl (tB (decide_eq_true (by omega)))) ibNil))
noncomputable abbrev TU_o1cn (len n i : Nat) (V : Vs) (Ks : Nat → Int) (Ns : Nat → ByteArray) (As : Nat → Int) (sz : Nat) (tK tD tE : Int) (cn tn : ByteArray) (hn : i < n) (hl : i < len) (hc : len ≤ V.cnt) (hk : V.kf i = 7) (hsz : sz = (V.nf i).size) (hlg : ¬ sz ≤ 60) (hcn : cn = (V.nf i).extract 0 60) : Tab := TF (ivU len n (RX i V sz tK tD tE cn tn) Ks As) (strU (RX i V sz tK tD tE cn tn) V.nf Ns) (fgU V) _ (ibU_o1cn (sz := sz) (tK := tK) (tD := tD) (tE := tE) (cn := cn) (tn := tn) hn hl hc hk hsz hlg hcn) [(i, 1)] (allCons rfl allNil) [⟨0, 1, 3, 0, [.oi 2, .ostr (2 + 2 * i), .oi 3]⟩] (allCons (flU (i := i) rfl rfl rfl (by omega)) allNil) [(0, [.ostr (2 + 2 * i)], .oi 4), (2, [.ostr (2 + 2 * i), .nilp, .int .i64 60], .ostr 0)] (txCons (trLen (by rw [strU_at]; show (IntKind.i64, (sz : Int)) = _; rw [hsz])) (txCons (trPart (l := 0) (r := 60) rfl ⟨.i64, rfl⟩ (by decide) (by rw [strU_at]; omega) (by rw [strU_at]; exact hcn)) txNil))
def GU6_o1cn (i : Nat) : Prop := ∀ (len n : Nat) (V : Vs) (Ks : Nat → Int) (Ns : Nat → ByteArray) (As : Nat → Int) (sz : Nat) (tK tD tE : Int) (cn tn : ByteArray) (hn : i < n) (hl : i < len) (hc : len ≤ V.cnt) (hk : V.kf i = 7) (hsz : sz = (V.nf i).size) (hlg : ¬ sz ≤ 60) (hcn : cn = (V.nf i).extract 0 60), runTo (TU_o1cn len n i V Ks Ns As sz tK tD tE cn tn hn hl hc hk hsz hlg hcn) Tryz.prog (KU 0 false true) 200 Tryz.f6.ntmps uL (frOf (fsU6 i)) (hOf (NU i) (bsU 0 i)) .normal (⟨0, 1, ofPairs [(0, (NU i + 3))], (.oi 2, 9 + 2 * i) :: (.ostr 0, 3 + 2 * i) :: (.int .i64 0, 10 + 2 * i) :: ipU i⟩ : Cv) [] (fsU6 (i + 1)) (bsU (NU i + 3) (i + 1)) = true
theorem goU6_o1cn (ha : GU6at i) (hg : GU6_o1cn i) (hb : Base B μ 0) (hn : i < n) (hl : i < len) (hc : len ≤ V.cnt) (hk : V.kf i = 7) (hsz : sz = (V.nf i).size) (hlg : ¬ sz ≤ 60) (hcn : cn = (V.nf i).extract 0 60) (h16 : Ans 16 #[.string ((V.nf i).extract 0 60)] (.tuple #[.agg #[.int .u8 tK, .string tn, .int .i64 tD, .int .u8 tE], .bool false])) (h17 : Ans 17 #[.string ((V.nf i).extract 0 60)] (.bool true)) (s' : SU6 i len n V Ks Ns As B w0 μ a w) : uL.wp Tryz.prog (fun e a' w' => e = .normal ∧ SU6 (i + 1) len n V (upd Ks i (V.kf i)) (upd Ns i ((V.nf i).extract 0 60)) (upd As i 0) B w0 μ a' w') a w :=
  runTo_sound (fr := frOf (fsU6 i)) (h := hOf (NU i) (bsU 0 i)) (T := (TU_o1cn len n i V Ks Ns As sz tK tD tE cn tn hn hl hc hk hsz hlg hcn)) (T' := plU len n Rd0 V (upd Ks i (V.kf i)) (upd Ns i ((V.nf i).extract 0 60)) (upd As i 0)) (K := (KU 0 false true)) (n := 200) mixed (KU_ok hcn rfl rfl rfl rfl h16 h17) (C := (⟨0, 1, ofPairs [(0, (NU i + 3))], (.oi 2, 9 + 2 * i) :: (.ostr 0, 3 + 2 * i) :: (.int .i64 0, 10 + 2 * i) :: ipU i⟩ : Cv)) (rl := [(0, (NU i + 3))]) (ex := .normal) (vp := []) (fs := fsU6 (i + 1)) (bs := bsU (NU i + 3) (i + 1))
    hb (Nat.zero_le _) rfl rfl (ipCons (ipKn ⟨2, .inl ⟨rfl, rfl⟩⟩ (ivUU _ _ _ _ _ _)) (ipCons (ipS ((strUU _ _ _ _ _).trans hcn.symm)) (ipCons (ipKn ⟨0, .inr rfl⟩ (ivUA _ _ _ _ _ _)) (ipU_ok (by rfl) (by rfl) (by rfl) (by rfl) keepU)))) vpNil (glU rfl rfl rfl rfl (strU_at _ _ _) (strU_at _ _ _)) (hg len n V Ks Ns As sz tK tD tE cn tn hn hl hc hk hsz hlg hcn) (St.same sameTF (atU6 ha (RX i V sz tK tD tE cn tn) hb s'))
theorem ibU_o1fk (hn : i < n) (hl : i < len) (hc : len ≤ V.cnt) (hk : V.kf i = 7) (hsz : sz = (V.nf i).size) (hlg : ¬ sz ≤ 60) (hcn : cn = (V.nf i).extract 0 60) (h91 : (tK == 91) = true) : ∀ r ∈ (bRows i [(9, .oi 2, .int .i64 7, .bool true), (13, .oi 4, .int .i64 60, .bool true), (9, .oi 5, .int .u8 91, .bool true)] : List BRow), IbOk (ivU len n (RX i V sz tK tD tE cn tn) Ks As) r := by
  letI := Tab.empty
  exact bRows_ok rfl hn rfl rfl hl (ibCons (eqT rfl hk) (ibCons (ibB (op := .gtr) rfl rfl (k := .i64) (a := (sz : Int)) (b := 60) rfl rfl (tB (decide_eq_true (by omega)))) (ibCons (ibB (op := .eql) rfl rfl (k := .u8) (a := tK) (b := 91) rfl rfl (tB h91)) ibNil)))
noncomputable abbrev TU_o1fk (len n i : Nat) (V : Vs) (Ks : Nat → Int) (Ns : Nat → ByteArray) (As : Nat → Int) (sz : Nat) (tK tD tE : Int) (cn tn : ByteArray) (hn : i < n) (hl : i < len) (hc : len ≤ V.cnt) (hk : V.kf i = 7) (hsz : sz = (V.nf i).size) (hlg : ¬ sz ≤ 60) (hcn : cn = (V.nf i).extract 0 60) (h91 : (tK == 91) = true) : Tab := TF (ivU len n (RX i V sz tK tD tE cn tn) Ks As) (strU (RX i V sz tK tD tE cn tn) V.nf Ns) (fgU V) _ (ibU_o1fk (sz := sz) (tK := tK) (tD := tD) (tE := tE) (cn := cn) (tn := tn) hn hl hc hk hsz hlg hcn h91) [(i, 1)] (allCons rfl allNil) [⟨0, 1, 3, 0, [.oi 2, .ostr (2 + 2 * i), .oi 3]⟩] (allCons (flU (i := i) rfl rfl rfl (by omega)) allNil) [(0, [.ostr (2 + 2 * i)], .oi 4), (2, [.ostr (2 + 2 * i), .nilp, .int .i64 60], .ostr 0)] (txCons (trLen (by rw [strU_at]; show (IntKind.i64, (sz : Int)) = _; rw [hsz])) (txCons (trPart (l := 0) (r := 60) rfl ⟨.i64, rfl⟩ (by decide) (by rw [strU_at]; omega) (by rw [strU_at]; exact hcn)) txNil))
def GU6_o1fk (i : Nat) : Prop := ∀ (len n : Nat) (V : Vs) (Ks : Nat → Int) (Ns : Nat → ByteArray) (As : Nat → Int) (sz : Nat) (tK tD tE : Int) (cn tn : ByteArray) (hn : i < n) (hl : i < len) (hc : len ≤ V.cnt) (hk : V.kf i = 7) (hsz : sz = (V.nf i).size) (hlg : ¬ sz ≤ 60) (hcn : cn = (V.nf i).extract 0 60) (h91 : (tK == 91) = true), runTo (TU_o1fk len n i V Ks Ns As sz tK tD tE cn tn hn hl hc hk hsz hlg hcn h91) Tryz.prog (KU 0 true false) 200 Tryz.f6.ntmps uL (frOf (fsU6 i)) (hOf (NU i) (bsU 0 i)) .normal (⟨0, 1, ofPairs [(0, (NU i + 3))], (.oi 2, 9 + 2 * i) :: (.ostr 0, 3 + 2 * i) :: (.int .i64 0, 10 + 2 * i) :: ipU i⟩ : Cv) [] (fsU6 (i + 1)) (bsU (NU i + 3) (i + 1)) = true
theorem goU6_o1fk (ha : GU6at i) (hg : GU6_o1fk i) (hb : Base B μ 0) (hn : i < n) (hl : i < len) (hc : len ≤ V.cnt) (hk : V.kf i = 7) (hsz : sz = (V.nf i).size) (hlg : ¬ sz ≤ 60) (hcn : cn = (V.nf i).extract 0 60) (h91 : (tK == 91) = true) (h16 : Ans 16 #[.string ((V.nf i).extract 0 60)] (.tuple #[.agg #[.int .u8 tK, .string tn, .int .i64 tD, .int .u8 tE], .bool true])) (h17 : Ans 17 #[.string ((V.nf i).extract 0 60)] (.bool false)) (s' : SU6 i len n V Ks Ns As B w0 μ a w) : uL.wp Tryz.prog (fun e a' w' => e = .normal ∧ SU6 (i + 1) len n V (upd Ks i (V.kf i)) (upd Ns i ((V.nf i).extract 0 60)) (upd As i 0) B w0 μ a' w') a w :=
  runTo_sound (fr := frOf (fsU6 i)) (h := hOf (NU i) (bsU 0 i)) (T := (TU_o1fk len n i V Ks Ns As sz tK tD tE cn tn hn hl hc hk hsz hlg hcn h91)) (T' := plU len n Rd0 V (upd Ks i (V.kf i)) (upd Ns i ((V.nf i).extract 0 60)) (upd As i 0)) (K := (KU 0 true false)) (n := 200) mixed (KU_ok hcn rfl rfl rfl rfl h16 h17) (C := (⟨0, 1, ofPairs [(0, (NU i + 3))], (.oi 2, 9 + 2 * i) :: (.ostr 0, 3 + 2 * i) :: (.int .i64 0, 10 + 2 * i) :: ipU i⟩ : Cv)) (rl := [(0, (NU i + 3))]) (ex := .normal) (vp := []) (fs := fsU6 (i + 1)) (bs := bsU (NU i + 3) (i + 1))
    hb (Nat.zero_le _) rfl rfl (ipCons (ipKn ⟨2, .inl ⟨rfl, rfl⟩⟩ (ivUU _ _ _ _ _ _)) (ipCons (ipS ((strUU _ _ _ _ _).trans hcn.symm)) (ipCons (ipKn ⟨0, .inr rfl⟩ (ivUA _ _ _ _ _ _)) (ipU_ok (by rfl) (by rfl) (by rfl) (by rfl) keepU)))) vpNil (glU rfl rfl rfl rfl (strU_at _ _ _) (strU_at _ _ _)) (hg len n V Ks Ns As sz tK tD tE cn tn hn hl hc hk hsz hlg hcn h91) (St.same sameTF (atU6 ha (RX i V sz tK tD tE cn tn) hb s'))
theorem ibU_o1fo (hn : i < n) (hl : i < len) (hc : len ≤ V.cnt) (hk : V.kf i = 7) (hsz : sz = (V.nf i).size) (hlg : ¬ sz ≤ 60) (hcn : cn = (V.nf i).extract 0 60) (h91 : (tK == 91) = false) : ∀ r ∈ (bRows i [(9, .oi 2, .int .i64 7, .bool true), (13, .oi 4, .int .i64 60, .bool true), (9, .oi 5, .int .u8 91, .bool false)] : List BRow), IbOk (ivU len n (RX i V sz tK tD tE cn tn) Ks As) r := by
  letI := Tab.empty
  exact bRows_ok rfl hn rfl rfl hl (ibCons (eqT rfl hk) (ibCons (ibB (op := .gtr) rfl rfl (k := .i64) (a := (sz : Int)) (b := 60) rfl rfl (tB (decide_eq_true (by omega)))) (ibCons (ibB (op := .eql) rfl rfl (k := .u8) (a := tK) (b := 91) rfl rfl (tB h91)) ibNil)))
noncomputable abbrev TU_o1fo (len n i : Nat) (V : Vs) (Ks : Nat → Int) (Ns : Nat → ByteArray) (As : Nat → Int) (sz : Nat) (tK tD tE : Int) (cn tn : ByteArray) (hn : i < n) (hl : i < len) (hc : len ≤ V.cnt) (hk : V.kf i = 7) (hsz : sz = (V.nf i).size) (hlg : ¬ sz ≤ 60) (hcn : cn = (V.nf i).extract 0 60) (h91 : (tK == 91) = false) : Tab := TF (ivU len n (RX i V sz tK tD tE cn tn) Ks As) (strU (RX i V sz tK tD tE cn tn) V.nf Ns) (fgU V) _ (ibU_o1fo (sz := sz) (tK := tK) (tD := tD) (tE := tE) (cn := cn) (tn := tn) hn hl hc hk hsz hlg hcn h91) [(i, 1)] (allCons rfl allNil) [⟨0, 1, 3, 0, [.oi 2, .ostr (2 + 2 * i), .oi 3]⟩] (allCons (flU (i := i) rfl rfl rfl (by omega)) allNil) [(0, [.ostr (2 + 2 * i)], .oi 4), (2, [.ostr (2 + 2 * i), .nilp, .int .i64 60], .ostr 0)] (txCons (trLen (by rw [strU_at]; show (IntKind.i64, (sz : Int)) = _; rw [hsz])) (txCons (trPart (l := 0) (r := 60) rfl ⟨.i64, rfl⟩ (by decide) (by rw [strU_at]; omega) (by rw [strU_at]; exact hcn)) txNil))
def GU6_o1fo (i : Nat) : Prop := ∀ (len n : Nat) (V : Vs) (Ks : Nat → Int) (Ns : Nat → ByteArray) (As : Nat → Int) (sz : Nat) (tK tD tE : Int) (cn tn : ByteArray) (hn : i < n) (hl : i < len) (hc : len ≤ V.cnt) (hk : V.kf i = 7) (hsz : sz = (V.nf i).size) (hlg : ¬ sz ≤ 60) (hcn : cn = (V.nf i).extract 0 60) (h91 : (tK == 91) = false), runTo (TU_o1fo len n i V Ks Ns As sz tK tD tE cn tn hn hl hc hk hsz hlg hcn h91) Tryz.prog (KU 0 true false) 200 Tryz.f6.ntmps uL (frOf (fsU6 i)) (hOf (NU i) (bsU 0 i)) .normal (⟨0, 1, ofPairs [(0, (NU i + 3))], (.oi 2, 9 + 2 * i) :: (.str 16 154706541852025644484233205990057992554, 3 + 2 * i) :: (.int .i64 0, 10 + 2 * i) :: ipU i⟩ : Cv) [] (fsU6 (i + 1)) (bsU (NU i + 3) (i + 1)) = true
theorem goU6_o1fo (ha : GU6at i) (hg : GU6_o1fo i) (hb : Base B μ 0) (hn : i < n) (hl : i < len) (hc : len ≤ V.cnt) (hk : V.kf i = 7) (hsz : sz = (V.nf i).size) (hlg : ¬ sz ≤ 60) (hcn : cn = (V.nf i).extract 0 60) (h91 : (tK == 91) = false) (h16 : Ans 16 #[.string ((V.nf i).extract 0 60)] (.tuple #[.agg #[.int .u8 tK, .string tn, .int .i64 tD, .int .u8 tE], .bool true])) (h17 : Ans 17 #[.string ((V.nf i).extract 0 60)] (.bool false)) (s' : SU6 i len n V Ks Ns As B w0 μ a w) : uL.wp Tryz.prog (fun e a' w' => e = .normal ∧ SU6 (i + 1) len n V (upd Ks i (V.kf i)) (upd Ns i (strOf 16 154706541852025644484233205990057992554)) (upd As i 0) B w0 μ a' w') a w :=
  runTo_sound (fr := frOf (fsU6 i)) (h := hOf (NU i) (bsU 0 i)) (T := (TU_o1fo len n i V Ks Ns As sz tK tD tE cn tn hn hl hc hk hsz hlg hcn h91)) (T' := plU len n Rd0 V (upd Ks i (V.kf i)) (upd Ns i (strOf 16 154706541852025644484233205990057992554)) (upd As i 0)) (K := (KU 0 true false)) (n := 200) mixed (KU_ok hcn rfl rfl rfl rfl h16 h17) (C := (⟨0, 1, ofPairs [(0, (NU i + 3))], (.oi 2, 9 + 2 * i) :: (.str 16 154706541852025644484233205990057992554, 3 + 2 * i) :: (.int .i64 0, 10 + 2 * i) :: ipU i⟩ : Cv)) (rl := [(0, (NU i + 3))]) (ex := .normal) (vp := []) (fs := fsU6 (i + 1)) (bs := bsU (NU i + 3) (i + 1))
    hb (Nat.zero_le _) rfl rfl (ipCons (ipKn ⟨2, .inl ⟨rfl, rfl⟩⟩ (ivUU _ _ _ _ _ _)) (ipCons (ipT (strUU _ _ _ _ _)) (ipCons (ipKn ⟨0, .inr rfl⟩ (ivUA _ _ _ _ _ _)) (ipU_ok (by rfl) (by rfl) (by rfl) (by rfl) keepU)))) vpNil (glU rfl rfl rfl rfl (strU_at _ _ _) (strU_at _ _ _)) (hg len n V Ks Ns As sz tK tD tE cn tn hn hl hc hk hsz hlg hcn h91) (St.same sameTF (atU6 ha (RX i V sz tK tD tE cn tn) hb s'))
theorem ibU_o1fn (hn : i < n) (hl : i < len) (hc : len ≤ V.cnt) (hk : V.kf i = 7) (hsz : sz = (V.nf i).size) (hlg : ¬ sz ≤ 60) (hcn : cn = (V.nf i).extract 0 60) : ∀ r ∈ (bRows i [(9, .oi 2, .int .i64 7, .bool true), (13, .oi 4, .int .i64 60, .bool true)] : List BRow), IbOk (ivU len n (RX i V sz tK tD tE cn tn) Ks As) r := by
  letI := Tab.empty
  exact bRows_ok rfl hn rfl rfl hl (ibCons (eqT rfl hk) (ibCons (ibB (op := .gtr) rfl rfl (k := .i64) (a := (sz : Int)) (b := 60) rfl rfl (tB (decide_eq_true (by omega)))) ibNil))
noncomputable abbrev TU_o1fn (len n i : Nat) (V : Vs) (Ks : Nat → Int) (Ns : Nat → ByteArray) (As : Nat → Int) (sz : Nat) (tK tD tE : Int) (cn tn : ByteArray) (hn : i < n) (hl : i < len) (hc : len ≤ V.cnt) (hk : V.kf i = 7) (hsz : sz = (V.nf i).size) (hlg : ¬ sz ≤ 60) (hcn : cn = (V.nf i).extract 0 60) : Tab := TF (ivU len n (RX i V sz tK tD tE cn tn) Ks As) (strU (RX i V sz tK tD tE cn tn) V.nf Ns) (fgU V) _ (ibU_o1fn (sz := sz) (tK := tK) (tD := tD) (tE := tE) (cn := cn) (tn := tn) hn hl hc hk hsz hlg hcn) [(i, 1)] (allCons rfl allNil) [⟨0, 1, 3, 0, [.oi 2, .ostr (2 + 2 * i), .oi 3]⟩] (allCons (flU (i := i) rfl rfl rfl (by omega)) allNil) [(0, [.ostr (2 + 2 * i)], .oi 4), (2, [.ostr (2 + 2 * i), .nilp, .int .i64 60], .ostr 0)] (txCons (trLen (by rw [strU_at]; show (IntKind.i64, (sz : Int)) = _; rw [hsz])) (txCons (trPart (l := 0) (r := 60) rfl ⟨.i64, rfl⟩ (by decide) (by rw [strU_at]; omega) (by rw [strU_at]; exact hcn)) txNil))
def GU6_o1fn (i : Nat) : Prop := ∀ (len n : Nat) (V : Vs) (Ks : Nat → Int) (Ns : Nat → ByteArray) (As : Nat → Int) (sz : Nat) (tK tD tE : Int) (cn tn : ByteArray) (hn : i < n) (hl : i < len) (hc : len ≤ V.cnt) (hk : V.kf i = 7) (hsz : sz = (V.nf i).size) (hlg : ¬ sz ≤ 60) (hcn : cn = (V.nf i).extract 0 60), runTo (TU_o1fn len n i V Ks Ns As sz tK tD tE cn tn hn hl hc hk hsz hlg hcn) Tryz.prog (KU 0 false false) 200 Tryz.f6.ntmps uL (frOf (fsU6 i)) (hOf (NU i) (bsU 0 i)) .normal (⟨0, 1, ofPairs [(0, (NU i + 3))], (.oi 2, 9 + 2 * i) :: (.str 16 154706541852025644484233205990057992554, 3 + 2 * i) :: (.int .i64 0, 10 + 2 * i) :: ipU i⟩ : Cv) [] (fsU6 (i + 1)) (bsU (NU i + 3) (i + 1)) = true
theorem goU6_o1fn (ha : GU6at i) (hg : GU6_o1fn i) (hb : Base B μ 0) (hn : i < n) (hl : i < len) (hc : len ≤ V.cnt) (hk : V.kf i = 7) (hsz : sz = (V.nf i).size) (hlg : ¬ sz ≤ 60) (hcn : cn = (V.nf i).extract 0 60) (h16 : Ans 16 #[.string ((V.nf i).extract 0 60)] (.tuple #[.agg #[.int .u8 tK, .string tn, .int .i64 tD, .int .u8 tE], .bool false])) (h17 : Ans 17 #[.string ((V.nf i).extract 0 60)] (.bool false)) (s' : SU6 i len n V Ks Ns As B w0 μ a w) : uL.wp Tryz.prog (fun e a' w' => e = .normal ∧ SU6 (i + 1) len n V (upd Ks i (V.kf i)) (upd Ns i (strOf 16 154706541852025644484233205990057992554)) (upd As i 0) B w0 μ a' w') a w :=
  runTo_sound (fr := frOf (fsU6 i)) (h := hOf (NU i) (bsU 0 i)) (T := (TU_o1fn len n i V Ks Ns As sz tK tD tE cn tn hn hl hc hk hsz hlg hcn)) (T' := plU len n Rd0 V (upd Ks i (V.kf i)) (upd Ns i (strOf 16 154706541852025644484233205990057992554)) (upd As i 0)) (K := (KU 0 false false)) (n := 200) mixed (KU_ok hcn rfl rfl rfl rfl h16 h17) (C := (⟨0, 1, ofPairs [(0, (NU i + 3))], (.oi 2, 9 + 2 * i) :: (.str 16 154706541852025644484233205990057992554, 3 + 2 * i) :: (.int .i64 0, 10 + 2 * i) :: ipU i⟩ : Cv)) (rl := [(0, (NU i + 3))]) (ex := .normal) (vp := []) (fs := fsU6 (i + 1)) (bs := bsU (NU i + 3) (i + 1))
    hb (Nat.zero_le _) rfl rfl (ipCons (ipKn ⟨2, .inl ⟨rfl, rfl⟩⟩ (ivUU _ _ _ _ _ _)) (ipCons (ipT (strUU _ _ _ _ _)) (ipCons (ipKn ⟨0, .inr rfl⟩ (ivUA _ _ _ _ _ _)) (ipU_ok (by rfl) (by rfl) (by rfl) (by rfl) keepU)))) vpNil (glU rfl rfl rfl rfl (strU_at _ _ _) (strU_at _ _ _)) (hg len n V Ks Ns As sz tK tD tE cn tn hn hl hc hk hsz hlg hcn) (St.same sameTF (atU6 ha (RX i V sz tK tD tE cn tn) hb s'))
theorem ibU_w (hn : i < n) (hl : i < len) (hc : len ≤ V.cnt) (hk : V.kf i = 8) : ∀ r ∈ (bRows i [(9, .oi 2, .int .i64 7, .bool false), (9, .oi 2, .int .i64 8, .bool true)] : List BRow), IbOk (ivU len n (RX i V sz tK tD tE cn tn) Ks As) r := by
  letI := Tab.empty
  exact bRows_ok rfl hn rfl rfl hl (ibCons (eqF rfl hk (by decide)) (ibCons (eqT rfl hk) ibNil))
noncomputable abbrev TU_w (len n i : Nat) (V : Vs) (Ks : Nat → Int) (Ns : Nat → ByteArray) (As : Nat → Int) (sz : Nat) (tK tD tE : Int) (cn tn : ByteArray) (hn : i < n) (hl : i < len) (hc : len ≤ V.cnt) (hk : V.kf i = 8) : Tab := TF (ivU len n (RX i V sz tK tD tE cn tn) Ks As) (strU (RX i V sz tK tD tE cn tn) V.nf Ns) (fgU V) _ (ibU_w (sz := sz) (tK := tK) (tD := tD) (tE := tE) (cn := cn) (tn := tn) hn hl hc hk) [(i, 1)] (allCons rfl allNil) [⟨0, 1, 3, 0, [.oi 2, .ostr (2 + 2 * i), .oi 3]⟩] (allCons (flU (i := i) rfl rfl rfl (by omega)) allNil) [] txNil
def GU6_w (i : Nat) : Prop := ∀ (len n : Nat) (V : Vs) (Ks : Nat → Int) (Ns : Nat → ByteArray) (As : Nat → Int) (sz : Nat) (tK tD tE : Int) (cn tn : ByteArray) (hn : i < n) (hl : i < len) (hc : len ≤ V.cnt) (hk : V.kf i = 8), runTo (TU_w len n i V Ks Ns As sz tK tD tE cn tn hn hl hc hk) Tryz.prog Hand.none 200 Tryz.f6.ntmps uL (frOf (fsU6 i)) (hOf (NU i) (bsU 0 i)) .normal (⟨0, 1, ofPairs [(0, (NU i + 2))], (.oi 2, 9 + 2 * i) :: (.str 0 0, 3 + 2 * i) :: (.oi 3, 10 + 2 * i) :: ipU i⟩ : Cv) [] (fsU6 (i + 1)) (bsU (NU i + 2) (i + 1)) = true
theorem goU6_w (ha : GU6at i) (hg : GU6_w i) (hb : Base B μ 0) (hn : i < n) (hl : i < len) (hc : len ≤ V.cnt) (hk : V.kf i = 8) (s' : SU6 i len n V Ks Ns As B w0 μ a w) : uL.wp Tryz.prog (fun e a' w' => e = .normal ∧ SU6 (i + 1) len n V (upd Ks i (V.kf i)) (upd Ns i (strOf 0 0)) (upd As i (V.af i)) B w0 μ a' w') a w :=
  runTo_sound (fr := frOf (fsU6 i)) (h := hOf (NU i) (bsU 0 i)) (T := (TU_w len n i V Ks Ns As 0 0 0 0 (strOf 0 0) (strOf 0 0) hn hl hc hk)) (T' := plU len n Rd0 V (upd Ks i (V.kf i)) (upd Ns i (strOf 0 0)) (upd As i (V.af i))) (K := Hand.none) (n := 200) mixed (@HandOk.none (TU_w len n i V Ks Ns As 0 0 0 0 (strOf 0 0) (strOf 0 0) hn hl hc hk) Tryz.prog) (C := (⟨0, 1, ofPairs [(0, (NU i + 2))], (.oi 2, 9 + 2 * i) :: (.str 0 0, 3 + 2 * i) :: (.oi 3, 10 + 2 * i) :: ipU i⟩ : Cv)) (rl := [(0, (NU i + 2))]) (ex := .normal) (vp := []) (fs := fsU6 (i + 1)) (bs := bsU (NU i + 2) (i + 1))
    hb (Nat.zero_le _) rfl rfl (ipCons (ipKn ⟨2, .inl ⟨rfl, rfl⟩⟩ (ivUU _ _ _ _ _ _)) (ipCons (ipT (strUU _ _ _ _ _)) (ipCons (ipKn ⟨3, .inl ⟨rfl, rfl⟩⟩ (ivUA _ _ _ _ _ _)) (ipU_ok (by rfl) (by rfl) (by rfl) (by rfl) keepU)))) vpNil (glU rfl rfl rfl rfl (strU_at _ _ _) (strU_at _ _ _)) (hg len n V Ks Ns As 0 0 0 0 (strOf 0 0) (strOf 0 0) hn hl hc hk) (St.same sameTF (atU6 ha (RX i V 0 0 0 0 (strOf 0 0) (strOf 0 0)) hb s'))
theorem ibU_p0 (hn : i < n) (hl : i < len) (hc : len ≤ V.cnt) (hk : V.kf i = 0) : ∀ r ∈ (bRows i [(9, .oi 2, .int .i64 7, .bool false), (9, .oi 2, .int .i64 8, .bool false), (9, .oi 2, .int .i64 0, .bool true)] : List BRow), IbOk (ivU len n (RX i V sz tK tD tE cn tn) Ks As) r := by
  letI := Tab.empty
  exact bRows_ok rfl hn rfl rfl hl (ibCons (eqF rfl hk (by decide)) (ibCons (eqF rfl hk (by decide)) (ibCons (eqT rfl hk) ibNil)))
noncomputable abbrev TU_p0 (len n i : Nat) (V : Vs) (Ks : Nat → Int) (Ns : Nat → ByteArray) (As : Nat → Int) (sz : Nat) (tK tD tE : Int) (cn tn : ByteArray) (hn : i < n) (hl : i < len) (hc : len ≤ V.cnt) (hk : V.kf i = 0) : Tab := TF (ivU len n (RX i V sz tK tD tE cn tn) Ks As) (strU (RX i V sz tK tD tE cn tn) V.nf Ns) (fgU V) _ (ibU_p0 (sz := sz) (tK := tK) (tD := tD) (tE := tE) (cn := cn) (tn := tn) hn hl hc hk) [(i, 1)] (allCons rfl allNil) [⟨0, 1, 3, 0, [.oi 2, .ostr (2 + 2 * i), .oi 3]⟩] (allCons (flU (i := i) rfl rfl rfl (by omega)) allNil) [] txNil
def GU6_p0 (i : Nat) : Prop := ∀ (len n : Nat) (V : Vs) (Ks : Nat → Int) (Ns : Nat → ByteArray) (As : Nat → Int) (sz : Nat) (tK tD tE : Int) (cn tn : ByteArray) (hn : i < n) (hl : i < len) (hc : len ≤ V.cnt) (hk : V.kf i = 0), runTo (TU_p0 len n i V Ks Ns As sz tK tD tE cn tn hn hl hc hk) Tryz.prog Hand.none 200 Tryz.f6.ntmps uL (frOf (fsU6 i)) (hOf (NU i) (bsU 0 i)) .normal (⟨0, 1, ofPairs [(0, (NU i + 2))], (.oi 2, 9 + 2 * i) :: (.str 0 0, 3 + 2 * i) :: (.int .i64 0, 10 + 2 * i) :: ipU i⟩ : Cv) [] (fsU6 (i + 1)) (bsU (NU i + 2) (i + 1)) = true
theorem goU6_p0 (ha : GU6at i) (hg : GU6_p0 i) (hb : Base B μ 0) (hn : i < n) (hl : i < len) (hc : len ≤ V.cnt) (hk : V.kf i = 0) (s' : SU6 i len n V Ks Ns As B w0 μ a w) : uL.wp Tryz.prog (fun e a' w' => e = .normal ∧ SU6 (i + 1) len n V (upd Ks i (V.kf i)) (upd Ns i (strOf 0 0)) (upd As i 0) B w0 μ a' w') a w :=
  runTo_sound (fr := frOf (fsU6 i)) (h := hOf (NU i) (bsU 0 i)) (T := (TU_p0 len n i V Ks Ns As 0 0 0 0 (strOf 0 0) (strOf 0 0) hn hl hc hk)) (T' := plU len n Rd0 V (upd Ks i (V.kf i)) (upd Ns i (strOf 0 0)) (upd As i 0)) (K := Hand.none) (n := 200) mixed (@HandOk.none (TU_p0 len n i V Ks Ns As 0 0 0 0 (strOf 0 0) (strOf 0 0) hn hl hc hk) Tryz.prog) (C := (⟨0, 1, ofPairs [(0, (NU i + 2))], (.oi 2, 9 + 2 * i) :: (.str 0 0, 3 + 2 * i) :: (.int .i64 0, 10 + 2 * i) :: ipU i⟩ : Cv)) (rl := [(0, (NU i + 2))]) (ex := .normal) (vp := []) (fs := fsU6 (i + 1)) (bs := bsU (NU i + 2) (i + 1))
    hb (Nat.zero_le _) rfl rfl (ipCons (ipKn ⟨2, .inl ⟨rfl, rfl⟩⟩ (ivUU _ _ _ _ _ _)) (ipCons (ipT (strUU _ _ _ _ _)) (ipCons (ipKn ⟨0, .inr rfl⟩ (ivUA _ _ _ _ _ _)) (ipU_ok (by rfl) (by rfl) (by rfl) (by rfl) keepU)))) vpNil (glU rfl rfl rfl rfl (strU_at _ _ _) (strU_at _ _ _)) (hg len n V Ks Ns As 0 0 0 0 (strOf 0 0) (strOf 0 0) hn hl hc hk) (St.same sameTF (atU6 ha (RX i V 0 0 0 0 (strOf 0 0) (strOf 0 0)) hb s'))
theorem ibU_p1 (hn : i < n) (hl : i < len) (hc : len ≤ V.cnt) (hk : V.kf i = 1) : ∀ r ∈ (bRows i [(9, .oi 2, .int .i64 7, .bool false), (9, .oi 2, .int .i64 8, .bool false), (9, .oi 2, .int .i64 0, .bool false), (9, .oi 2, .int .i64 1, .bool true)] : List BRow), IbOk (ivU len n (RX i V sz tK tD tE cn tn) Ks As) r := by
  letI := Tab.empty
  exact bRows_ok rfl hn rfl rfl hl (ibCons (eqF rfl hk (by decide)) (ibCons (eqF rfl hk (by decide)) (ibCons (eqF rfl hk (by decide)) (ibCons (eqT rfl hk) ibNil))))
noncomputable abbrev TU_p1 (len n i : Nat) (V : Vs) (Ks : Nat → Int) (Ns : Nat → ByteArray) (As : Nat → Int) (sz : Nat) (tK tD tE : Int) (cn tn : ByteArray) (hn : i < n) (hl : i < len) (hc : len ≤ V.cnt) (hk : V.kf i = 1) : Tab := TF (ivU len n (RX i V sz tK tD tE cn tn) Ks As) (strU (RX i V sz tK tD tE cn tn) V.nf Ns) (fgU V) _ (ibU_p1 (sz := sz) (tK := tK) (tD := tD) (tE := tE) (cn := cn) (tn := tn) hn hl hc hk) [(i, 1)] (allCons rfl allNil) [⟨0, 1, 3, 0, [.oi 2, .ostr (2 + 2 * i), .oi 3]⟩] (allCons (flU (i := i) rfl rfl rfl (by omega)) allNil) [] txNil
def GU6_p1 (i : Nat) : Prop := ∀ (len n : Nat) (V : Vs) (Ks : Nat → Int) (Ns : Nat → ByteArray) (As : Nat → Int) (sz : Nat) (tK tD tE : Int) (cn tn : ByteArray) (hn : i < n) (hl : i < len) (hc : len ≤ V.cnt) (hk : V.kf i = 1), runTo (TU_p1 len n i V Ks Ns As sz tK tD tE cn tn hn hl hc hk) Tryz.prog Hand.none 200 Tryz.f6.ntmps uL (frOf (fsU6 i)) (hOf (NU i) (bsU 0 i)) .normal (⟨0, 1, ofPairs [(0, (NU i + 2))], (.oi 2, 9 + 2 * i) :: (.str 0 0, 3 + 2 * i) :: (.int .i64 0, 10 + 2 * i) :: ipU i⟩ : Cv) [] (fsU6 (i + 1)) (bsU (NU i + 2) (i + 1)) = true
theorem goU6_p1 (ha : GU6at i) (hg : GU6_p1 i) (hb : Base B μ 0) (hn : i < n) (hl : i < len) (hc : len ≤ V.cnt) (hk : V.kf i = 1) (s' : SU6 i len n V Ks Ns As B w0 μ a w) : uL.wp Tryz.prog (fun e a' w' => e = .normal ∧ SU6 (i + 1) len n V (upd Ks i (V.kf i)) (upd Ns i (strOf 0 0)) (upd As i 0) B w0 μ a' w') a w :=
  runTo_sound (fr := frOf (fsU6 i)) (h := hOf (NU i) (bsU 0 i)) (T := (TU_p1 len n i V Ks Ns As 0 0 0 0 (strOf 0 0) (strOf 0 0) hn hl hc hk)) (T' := plU len n Rd0 V (upd Ks i (V.kf i)) (upd Ns i (strOf 0 0)) (upd As i 0)) (K := Hand.none) (n := 200) mixed (@HandOk.none (TU_p1 len n i V Ks Ns As 0 0 0 0 (strOf 0 0) (strOf 0 0) hn hl hc hk) Tryz.prog) (C := (⟨0, 1, ofPairs [(0, (NU i + 2))], (.oi 2, 9 + 2 * i) :: (.str 0 0, 3 + 2 * i) :: (.int .i64 0, 10 + 2 * i) :: ipU i⟩ : Cv)) (rl := [(0, (NU i + 2))]) (ex := .normal) (vp := []) (fs := fsU6 (i + 1)) (bs := bsU (NU i + 2) (i + 1))
    hb (Nat.zero_le _) rfl rfl (ipCons (ipKn ⟨2, .inl ⟨rfl, rfl⟩⟩ (ivUU _ _ _ _ _ _)) (ipCons (ipT (strUU _ _ _ _ _)) (ipCons (ipKn ⟨0, .inr rfl⟩ (ivUA _ _ _ _ _ _)) (ipU_ok (by rfl) (by rfl) (by rfl) (by rfl) keepU)))) vpNil (glU rfl rfl rfl rfl (strU_at _ _ _) (strU_at _ _ _)) (hg len n V Ks Ns As 0 0 0 0 (strOf 0 0) (strOf 0 0) hn hl hc hk) (St.same sameTF (atU6 ha (RX i V 0 0 0 0 (strOf 0 0) (strOf 0 0)) hb s'))
theorem ibU_p4 (hn : i < n) (hl : i < len) (hc : len ≤ V.cnt) (hk : V.kf i = 4) : ∀ r ∈ (bRows i [(9, .oi 2, .int .i64 7, .bool false), (9, .oi 2, .int .i64 8, .bool false), (9, .oi 2, .int .i64 0, .bool false), (9, .oi 2, .int .i64 1, .bool false), (9, .oi 2, .int .i64 4, .bool true)] : List BRow), IbOk (ivU len n (RX i V sz tK tD tE cn tn) Ks As) r := by
  letI := Tab.empty
  exact bRows_ok rfl hn rfl rfl hl (ibCons (eqF rfl hk (by decide)) (ibCons (eqF rfl hk (by decide)) (ibCons (eqF rfl hk (by decide)) (ibCons (eqF rfl hk (by decide)) (ibCons (eqT rfl hk) ibNil)))))
noncomputable abbrev TU_p4 (len n i : Nat) (V : Vs) (Ks : Nat → Int) (Ns : Nat → ByteArray) (As : Nat → Int) (sz : Nat) (tK tD tE : Int) (cn tn : ByteArray) (hn : i < n) (hl : i < len) (hc : len ≤ V.cnt) (hk : V.kf i = 4) : Tab := TF (ivU len n (RX i V sz tK tD tE cn tn) Ks As) (strU (RX i V sz tK tD tE cn tn) V.nf Ns) (fgU V) _ (ibU_p4 (sz := sz) (tK := tK) (tD := tD) (tE := tE) (cn := cn) (tn := tn) hn hl hc hk) [(i, 1)] (allCons rfl allNil) [⟨0, 1, 3, 0, [.oi 2, .ostr (2 + 2 * i), .oi 3]⟩] (allCons (flU (i := i) rfl rfl rfl (by omega)) allNil) [] txNil
def GU6_p4 (i : Nat) : Prop := ∀ (len n : Nat) (V : Vs) (Ks : Nat → Int) (Ns : Nat → ByteArray) (As : Nat → Int) (sz : Nat) (tK tD tE : Int) (cn tn : ByteArray) (hn : i < n) (hl : i < len) (hc : len ≤ V.cnt) (hk : V.kf i = 4), runTo (TU_p4 len n i V Ks Ns As sz tK tD tE cn tn hn hl hc hk) Tryz.prog Hand.none 200 Tryz.f6.ntmps uL (frOf (fsU6 i)) (hOf (NU i) (bsU 0 i)) .normal (⟨0, 1, ofPairs [(0, (NU i + 2))], (.oi 2, 9 + 2 * i) :: (.str 0 0, 3 + 2 * i) :: (.int .i64 0, 10 + 2 * i) :: ipU i⟩ : Cv) [] (fsU6 (i + 1)) (bsU (NU i + 2) (i + 1)) = true
theorem goU6_p4 (ha : GU6at i) (hg : GU6_p4 i) (hb : Base B μ 0) (hn : i < n) (hl : i < len) (hc : len ≤ V.cnt) (hk : V.kf i = 4) (s' : SU6 i len n V Ks Ns As B w0 μ a w) : uL.wp Tryz.prog (fun e a' w' => e = .normal ∧ SU6 (i + 1) len n V (upd Ks i (V.kf i)) (upd Ns i (strOf 0 0)) (upd As i 0) B w0 μ a' w') a w :=
  runTo_sound (fr := frOf (fsU6 i)) (h := hOf (NU i) (bsU 0 i)) (T := (TU_p4 len n i V Ks Ns As 0 0 0 0 (strOf 0 0) (strOf 0 0) hn hl hc hk)) (T' := plU len n Rd0 V (upd Ks i (V.kf i)) (upd Ns i (strOf 0 0)) (upd As i 0)) (K := Hand.none) (n := 200) mixed (@HandOk.none (TU_p4 len n i V Ks Ns As 0 0 0 0 (strOf 0 0) (strOf 0 0) hn hl hc hk) Tryz.prog) (C := (⟨0, 1, ofPairs [(0, (NU i + 2))], (.oi 2, 9 + 2 * i) :: (.str 0 0, 3 + 2 * i) :: (.int .i64 0, 10 + 2 * i) :: ipU i⟩ : Cv)) (rl := [(0, (NU i + 2))]) (ex := .normal) (vp := []) (fs := fsU6 (i + 1)) (bs := bsU (NU i + 2) (i + 1))
    hb (Nat.zero_le _) rfl rfl (ipCons (ipKn ⟨2, .inl ⟨rfl, rfl⟩⟩ (ivUU _ _ _ _ _ _)) (ipCons (ipT (strUU _ _ _ _ _)) (ipCons (ipKn ⟨0, .inr rfl⟩ (ivUA _ _ _ _ _ _)) (ipU_ok (by rfl) (by rfl) (by rfl) (by rfl) keepU)))) vpNil (glU rfl rfl rfl rfl (strU_at _ _ _) (strU_at _ _ _)) (hg len n V Ks Ns As 0 0 0 0 (strOf 0 0) (strOf 0 0) hn hl hc hk) (St.same sameTF (atU6 ha (RX i V 0 0 0 0 (strOf 0 0) (strOf 0 0)) hb s'))
theorem ibU_p5 (hn : i < n) (hl : i < len) (hc : len ≤ V.cnt) (hk : V.kf i = 5) : ∀ r ∈ (bRows i [(9, .oi 2, .int .i64 7, .bool false), (9, .oi 2, .int .i64 8, .bool false), (9, .oi 2, .int .i64 0, .bool false), (9, .oi 2, .int .i64 1, .bool false), (9, .oi 2, .int .i64 4, .bool false), (9, .oi 2, .int .i64 5, .bool true)] : List BRow), IbOk (ivU len n (RX i V sz tK tD tE cn tn) Ks As) r := by
  letI := Tab.empty
  exact bRows_ok rfl hn rfl rfl hl (ibCons (eqF rfl hk (by decide)) (ibCons (eqF rfl hk (by decide)) (ibCons (eqF rfl hk (by decide)) (ibCons (eqF rfl hk (by decide)) (ibCons (eqF rfl hk (by decide)) (ibCons (eqT rfl hk) ibNil))))))
noncomputable abbrev TU_p5 (len n i : Nat) (V : Vs) (Ks : Nat → Int) (Ns : Nat → ByteArray) (As : Nat → Int) (sz : Nat) (tK tD tE : Int) (cn tn : ByteArray) (hn : i < n) (hl : i < len) (hc : len ≤ V.cnt) (hk : V.kf i = 5) : Tab := TF (ivU len n (RX i V sz tK tD tE cn tn) Ks As) (strU (RX i V sz tK tD tE cn tn) V.nf Ns) (fgU V) _ (ibU_p5 (sz := sz) (tK := tK) (tD := tD) (tE := tE) (cn := cn) (tn := tn) hn hl hc hk) [(i, 1)] (allCons rfl allNil) [⟨0, 1, 3, 0, [.oi 2, .ostr (2 + 2 * i), .oi 3]⟩] (allCons (flU (i := i) rfl rfl rfl (by omega)) allNil) [] txNil
def GU6_p5 (i : Nat) : Prop := ∀ (len n : Nat) (V : Vs) (Ks : Nat → Int) (Ns : Nat → ByteArray) (As : Nat → Int) (sz : Nat) (tK tD tE : Int) (cn tn : ByteArray) (hn : i < n) (hl : i < len) (hc : len ≤ V.cnt) (hk : V.kf i = 5), runTo (TU_p5 len n i V Ks Ns As sz tK tD tE cn tn hn hl hc hk) Tryz.prog Hand.none 200 Tryz.f6.ntmps uL (frOf (fsU6 i)) (hOf (NU i) (bsU 0 i)) .normal (⟨0, 1, ofPairs [(0, (NU i + 2))], (.oi 2, 9 + 2 * i) :: (.str 0 0, 3 + 2 * i) :: (.int .i64 0, 10 + 2 * i) :: ipU i⟩ : Cv) [] (fsU6 (i + 1)) (bsU (NU i + 2) (i + 1)) = true
theorem goU6_p5 (ha : GU6at i) (hg : GU6_p5 i) (hb : Base B μ 0) (hn : i < n) (hl : i < len) (hc : len ≤ V.cnt) (hk : V.kf i = 5) (s' : SU6 i len n V Ks Ns As B w0 μ a w) : uL.wp Tryz.prog (fun e a' w' => e = .normal ∧ SU6 (i + 1) len n V (upd Ks i (V.kf i)) (upd Ns i (strOf 0 0)) (upd As i 0) B w0 μ a' w') a w :=
  runTo_sound (fr := frOf (fsU6 i)) (h := hOf (NU i) (bsU 0 i)) (T := (TU_p5 len n i V Ks Ns As 0 0 0 0 (strOf 0 0) (strOf 0 0) hn hl hc hk)) (T' := plU len n Rd0 V (upd Ks i (V.kf i)) (upd Ns i (strOf 0 0)) (upd As i 0)) (K := Hand.none) (n := 200) mixed (@HandOk.none (TU_p5 len n i V Ks Ns As 0 0 0 0 (strOf 0 0) (strOf 0 0) hn hl hc hk) Tryz.prog) (C := (⟨0, 1, ofPairs [(0, (NU i + 2))], (.oi 2, 9 + 2 * i) :: (.str 0 0, 3 + 2 * i) :: (.int .i64 0, 10 + 2 * i) :: ipU i⟩ : Cv)) (rl := [(0, (NU i + 2))]) (ex := .normal) (vp := []) (fs := fsU6 (i + 1)) (bs := bsU (NU i + 2) (i + 1))
    hb (Nat.zero_le _) rfl rfl (ipCons (ipKn ⟨2, .inl ⟨rfl, rfl⟩⟩ (ivUU _ _ _ _ _ _)) (ipCons (ipT (strUU _ _ _ _ _)) (ipCons (ipKn ⟨0, .inr rfl⟩ (ivUA _ _ _ _ _ _)) (ipU_ok (by rfl) (by rfl) (by rfl) (by rfl) keepU)))) vpNil (glU rfl rfl rfl rfl (strU_at _ _ _) (strU_at _ _ _)) (hg len n V Ks Ns As 0 0 0 0 (strOf 0 0) (strOf 0 0) hn hl hc hk) (St.same sameTF (atU6 ha (RX i V 0 0 0 0 (strOf 0 0) (strOf 0 0)) hb s'))
theorem ibU_p6 (hn : i < n) (hl : i < len) (hc : len ≤ V.cnt) (hk : V.kf i = 6) : ∀ r ∈ (bRows i [(9, .oi 2, .int .i64 7, .bool false), (9, .oi 2, .int .i64 8, .bool false), (9, .oi 2, .int .i64 0, .bool false), (9, .oi 2, .int .i64 1, .bool false), (9, .oi 2, .int .i64 4, .bool false), (9, .oi 2, .int .i64 5, .bool false), (9, .oi 2, .int .i64 6, .bool true)] : List BRow), IbOk (ivU len n (RX i V sz tK tD tE cn tn) Ks As) r := by
  letI := Tab.empty
  exact bRows_ok rfl hn rfl rfl hl (ibCons (eqF rfl hk (by decide)) (ibCons (eqF rfl hk (by decide)) (ibCons (eqF rfl hk (by decide)) (ibCons (eqF rfl hk (by decide)) (ibCons (eqF rfl hk (by decide)) (ibCons (eqF rfl hk (by decide)) (ibCons (eqT rfl hk) ibNil)))))))
noncomputable abbrev TU_p6 (len n i : Nat) (V : Vs) (Ks : Nat → Int) (Ns : Nat → ByteArray) (As : Nat → Int) (sz : Nat) (tK tD tE : Int) (cn tn : ByteArray) (hn : i < n) (hl : i < len) (hc : len ≤ V.cnt) (hk : V.kf i = 6) : Tab := TF (ivU len n (RX i V sz tK tD tE cn tn) Ks As) (strU (RX i V sz tK tD tE cn tn) V.nf Ns) (fgU V) _ (ibU_p6 (sz := sz) (tK := tK) (tD := tD) (tE := tE) (cn := cn) (tn := tn) hn hl hc hk) [(i, 1)] (allCons rfl allNil) [⟨0, 1, 3, 0, [.oi 2, .ostr (2 + 2 * i), .oi 3]⟩] (allCons (flU (i := i) rfl rfl rfl (by omega)) allNil) [] txNil
def GU6_p6 (i : Nat) : Prop := ∀ (len n : Nat) (V : Vs) (Ks : Nat → Int) (Ns : Nat → ByteArray) (As : Nat → Int) (sz : Nat) (tK tD tE : Int) (cn tn : ByteArray) (hn : i < n) (hl : i < len) (hc : len ≤ V.cnt) (hk : V.kf i = 6), runTo (TU_p6 len n i V Ks Ns As sz tK tD tE cn tn hn hl hc hk) Tryz.prog Hand.none 200 Tryz.f6.ntmps uL (frOf (fsU6 i)) (hOf (NU i) (bsU 0 i)) .normal (⟨0, 1, ofPairs [(0, (NU i + 2))], (.oi 2, 9 + 2 * i) :: (.str 0 0, 3 + 2 * i) :: (.int .i64 0, 10 + 2 * i) :: ipU i⟩ : Cv) [] (fsU6 (i + 1)) (bsU (NU i + 2) (i + 1)) = true
theorem goU6_p6 (ha : GU6at i) (hg : GU6_p6 i) (hb : Base B μ 0) (hn : i < n) (hl : i < len) (hc : len ≤ V.cnt) (hk : V.kf i = 6) (s' : SU6 i len n V Ks Ns As B w0 μ a w) : uL.wp Tryz.prog (fun e a' w' => e = .normal ∧ SU6 (i + 1) len n V (upd Ks i (V.kf i)) (upd Ns i (strOf 0 0)) (upd As i 0) B w0 μ a' w') a w :=
  runTo_sound (fr := frOf (fsU6 i)) (h := hOf (NU i) (bsU 0 i)) (T := (TU_p6 len n i V Ks Ns As 0 0 0 0 (strOf 0 0) (strOf 0 0) hn hl hc hk)) (T' := plU len n Rd0 V (upd Ks i (V.kf i)) (upd Ns i (strOf 0 0)) (upd As i 0)) (K := Hand.none) (n := 200) mixed (@HandOk.none (TU_p6 len n i V Ks Ns As 0 0 0 0 (strOf 0 0) (strOf 0 0) hn hl hc hk) Tryz.prog) (C := (⟨0, 1, ofPairs [(0, (NU i + 2))], (.oi 2, 9 + 2 * i) :: (.str 0 0, 3 + 2 * i) :: (.int .i64 0, 10 + 2 * i) :: ipU i⟩ : Cv)) (rl := [(0, (NU i + 2))]) (ex := .normal) (vp := []) (fs := fsU6 (i + 1)) (bs := bsU (NU i + 2) (i + 1))
    hb (Nat.zero_le _) rfl rfl (ipCons (ipKn ⟨2, .inl ⟨rfl, rfl⟩⟩ (ivUU _ _ _ _ _ _)) (ipCons (ipT (strUU _ _ _ _ _)) (ipCons (ipKn ⟨0, .inr rfl⟩ (ivUA _ _ _ _ _ _)) (ipU_ok (by rfl) (by rfl) (by rfl) (by rfl) keepU)))) vpNil (glU rfl rfl rfl rfl (strU_at _ _ _) (strU_at _ _ _)) (hg len n V Ks Ns As 0 0 0 0 (strOf 0 0) (strOf 0 0) hn hl hc hk) (St.same sameTF (atU6 ha (RX i V 0 0 0 0 (strOf 0 0) (strOf 0 0)) hb s'))
theorem ibU_d (hn : i < n) (hl : i < len) (hc : len ≤ V.cnt) (hk : NoK (V.kf i)) : ∀ r ∈ (bRows i [(9, .oi 2, .int .i64 7, .bool false), (9, .oi 2, .int .i64 8, .bool false), (9, .oi 2, .int .i64 0, .bool false), (9, .oi 2, .int .i64 1, .bool false), (9, .oi 2, .int .i64 4, .bool false), (9, .oi 2, .int .i64 5, .bool false), (9, .oi 2, .int .i64 6, .bool false)] : List BRow), IbOk (ivU len n (RX i V sz tK tD tE cn tn) Ks As) r := by
  letI := Tab.empty
  exact bRows_ok rfl hn rfl rfl hl (ibCons (eqF2 rfl hk.n7) (ibCons (eqF2 rfl hk.n8) (ibCons (eqF2 rfl hk.n0) (ibCons (eqF2 rfl hk.n1) (ibCons (eqF2 rfl hk.n4) (ibCons (eqF2 rfl hk.n5) (ibCons (eqF2 rfl hk.n6) ibNil)))))))
noncomputable abbrev TU_d (len n i : Nat) (V : Vs) (Ks : Nat → Int) (Ns : Nat → ByteArray) (As : Nat → Int) (sz : Nat) (tK tD tE : Int) (cn tn : ByteArray) (hn : i < n) (hl : i < len) (hc : len ≤ V.cnt) (hk : NoK (V.kf i)) : Tab := TF (ivU len n (RX i V sz tK tD tE cn tn) Ks As) (strU (RX i V sz tK tD tE cn tn) V.nf Ns) (fgU V) _ (ibU_d (sz := sz) (tK := tK) (tD := tD) (tE := tE) (cn := cn) (tn := tn) hn hl hc hk) [(i, 1)] (allCons rfl allNil) [⟨0, 1, 3, 0, [.oi 2, .ostr (2 + 2 * i), .oi 3]⟩] (allCons (flU (i := i) rfl rfl rfl (by omega)) allNil) [] txNil
def GU6_d (i : Nat) : Prop := ∀ (len n : Nat) (V : Vs) (Ks : Nat → Int) (Ns : Nat → ByteArray) (As : Nat → Int) (sz : Nat) (tK tD tE : Int) (cn tn : ByteArray) (hn : i < n) (hl : i < len) (hc : len ≤ V.cnt) (hk : NoK (V.kf i)), runTo (TU_d len n i V Ks Ns As sz tK tD tE cn tn hn hl hc hk) Tryz.prog Hand.none 200 Tryz.f6.ntmps uL (frOf (fsU6 i)) (hOf (NU i) (bsU 0 i)) .normal (⟨0, 1, ofPairs [(0, (NU i + 2))], (.int .i64 1, 9 + 2 * i) :: (.str 0 0, 3 + 2 * i) :: (.int .i64 0, 10 + 2 * i) :: ipU i⟩ : Cv) [] (fsU6 (i + 1)) (bsU (NU i + 2) (i + 1)) = true
theorem goU6_d (ha : GU6at i) (hg : GU6_d i) (hb : Base B μ 0) (hn : i < n) (hl : i < len) (hc : len ≤ V.cnt) (hk : NoK (V.kf i)) (s' : SU6 i len n V Ks Ns As B w0 μ a w) : uL.wp Tryz.prog (fun e a' w' => e = .normal ∧ SU6 (i + 1) len n V (upd Ks i 1) (upd Ns i (strOf 0 0)) (upd As i 0) B w0 μ a' w') a w :=
  runTo_sound (fr := frOf (fsU6 i)) (h := hOf (NU i) (bsU 0 i)) (T := (TU_d len n i V Ks Ns As 0 0 0 0 (strOf 0 0) (strOf 0 0) hn hl hc hk)) (T' := plU len n Rd0 V (upd Ks i 1) (upd Ns i (strOf 0 0)) (upd As i 0)) (K := Hand.none) (n := 200) mixed (@HandOk.none (TU_d len n i V Ks Ns As 0 0 0 0 (strOf 0 0) (strOf 0 0) hn hl hc hk) Tryz.prog) (C := (⟨0, 1, ofPairs [(0, (NU i + 2))], (.int .i64 1, 9 + 2 * i) :: (.str 0 0, 3 + 2 * i) :: (.int .i64 0, 10 + 2 * i) :: ipU i⟩ : Cv)) (rl := [(0, (NU i + 2))]) (ex := .normal) (vp := []) (fs := fsU6 (i + 1)) (bs := bsU (NU i + 2) (i + 1))
    hb (Nat.zero_le _) rfl rfl (ipCons (ipKn ⟨0, .inr rfl⟩ (ivUU _ _ _ _ _ _)) (ipCons (ipT (strUU _ _ _ _ _)) (ipCons (ipKn ⟨0, .inr rfl⟩ (ivUA _ _ _ _ _ _)) (ipU_ok (by rfl) (by rfl) (by rfl) (by rfl) keepU)))) vpNil (glU rfl rfl rfl rfl (strU_at _ _ _) (strU_at _ _ _)) (hg len n V Ks Ns As 0 0 0 0 (strOf 0 0) (strOf 0 0) hn hl hc hk) (St.same sameTF (atU6 ha (RX i V 0 0 0 0 (strOf 0 0) (strOf 0 0)) hb s'))
theorem ibUX_0 (hl : ¬ i < len) : ∀ r ∈ ([(11, .int .i64 (i : Int), .oi 0, .bool false)] : List BRow), IbOk (ivU len n Rd0 Ks As) r := ibCons (ibB (op := .lss) rfl rfl (k := .i64) (a := (i : Int)) (b := (len : Int)) rfl rfl (tB (decide_eq_false (by omega)))) ibNil
def GU6x0 (i : Nat) : Prop := ∀ (len n : Nat) (V : Vs) (Ks : Nat → Int) (Ns : Nat → ByteArray) (As : Nat → Int) (hl : ¬ i < len), runTo (TF (ivU len n Rd0 Ks As) (strU Rd0 V.nf Ns) (fgU V) _ (ibUX_0 hl) [] allNil [] allNil [] txNil) Tryz.prog Hand.none 100 Tryz.f6.ntmps uL (frOf (fsU6 i)) (hOf (NU i) (bsU 0 i)) (.exit 0) (⟨0, NU i, ofPairs (rlU i), ipU i⟩ : Cv) [] (fsU6 i) (bsU 0 i) = true
theorem outU60 (hg : GU6x0 i) (hb : Base B μ 0) (hl : ¬ i < len) (s' : SU6 i len n V Ks Ns As B w0 μ a w) : uL.wp Tryz.prog (fun e a' w' => e = .exit 0 ∧ SU6 i len n V Ks Ns As B w0 μ a' w') a w :=
  runTo_sound (fr := frOf (fsU6 i)) (h := hOf (NU i) (bsU 0 i)) (T := (TF (ivU len n Rd0 Ks As) (strU Rd0 V.nf Ns) (fgU V) _ (ibUX_0 hl) [] allNil [] allNil [] txNil)) (T' := plU len n Rd0 V Ks Ns As) (K := Hand.none) (n := 100) mixed (@HandOk.none (TF (ivU len n Rd0 Ks As) (strU Rd0 V.nf Ns) (fgU V) _ (ibUX_0 hl) [] allNil [] allNil [] txNil) Tryz.prog) (C := (⟨0, NU i, ofPairs (rlU i), ipU i⟩ : Cv)) (rl := rlU i) (ex := .exit 0) (vp := []) (fs := fsU6 i) (bs := bsU 0 i)
    hb (Nat.zero_le _) rfl (rkU i) (ipU_ok (by rfl) (by rfl) (by rfl) (by rfl) keep0) vpNil (glU rfl rfl rfl rfl (strU_at _ _ _) (strU_at _ _ _)) (hg len n V Ks Ns As hl) (St.same sameTF s')
theorem ibUX_1 (hl : i < len ∧ ¬ i < n) : ∀ r ∈ ([(11, .int .i64 (i : Int), .oi 0, .bool true), (11, .int .i64 (i : Int), .oi 8, .bool false)] : List BRow), IbOk (ivU len n Rd0 Ks As) r := ibCons (ibB (op := .lss) rfl rfl (k := .i64) (a := (i : Int)) (b := (len : Int)) rfl rfl (tB (decide_eq_true (by omega)))) (ibCons (ibB (op := .lss) rfl rfl (k := .i64) (a := (i : Int)) (b := (n : Int)) rfl rfl (tB (decide_eq_false (by omega)))) ibNil)
def GU6x1 (i : Nat) : Prop := ∀ (len n : Nat) (V : Vs) (Ks : Nat → Int) (Ns : Nat → ByteArray) (As : Nat → Int) (hl : i < len ∧ ¬ i < n), runTo (TF (ivU len n Rd0 Ks As) (strU Rd0 V.nf Ns) (fgU V) _ (ibUX_1 hl) [] allNil [] allNil [] txNil) Tryz.prog Hand.none 100 Tryz.f6.ntmps uL (frOf (fsU6 i)) (hOf (NU i) (bsU 0 i)) (.exit 0) (⟨0, NU i, ofPairs (rlU i), ipU i⟩ : Cv) [] (fsU6 i) (bsU 0 i) = true
theorem outU61 (hg : GU6x1 i) (hb : Base B μ 0) (hl : i < len ∧ ¬ i < n) (s' : SU6 i len n V Ks Ns As B w0 μ a w) : uL.wp Tryz.prog (fun e a' w' => e = .exit 0 ∧ SU6 i len n V Ks Ns As B w0 μ a' w') a w :=
  runTo_sound (fr := frOf (fsU6 i)) (h := hOf (NU i) (bsU 0 i)) (T := (TF (ivU len n Rd0 Ks As) (strU Rd0 V.nf Ns) (fgU V) _ (ibUX_1 hl) [] allNil [] allNil [] txNil)) (T' := plU len n Rd0 V Ks Ns As) (K := Hand.none) (n := 100) mixed (@HandOk.none (TF (ivU len n Rd0 Ks As) (strU Rd0 V.nf Ns) (fgU V) _ (ibUX_1 hl) [] allNil [] allNil [] txNil) Tryz.prog) (C := (⟨0, NU i, ofPairs (rlU i), ipU i⟩ : Cv)) (rl := rlU i) (ex := .exit 0) (vp := []) (fs := fsU6 i) (bs := bsU 0 i)
    hb (Nat.zero_le _) rfl (rkU i) (ipU_ok (by rfl) (by rfl) (by rfl) (by rfl) keep0) vpNil (glU rfl rfl rfl rfl (strU_at _ _ _) (strU_at _ _ _)) (hg len n V Ks Ns As hl) (St.same sameTF s')
def GU6e (i : Nat) : Prop := ∀ (len n : Nat) (V : Vs) (Ks : Nat → Int) (Ns : Nat → ByteArray) (As : Nat → Int), runTo (plU len n Rd0 V Ks Ns As) Tryz.prog Hand.none 100 Tryz.f6.ntmps uT (frOf (fsU6 i)) (hOf (NU i) (bsU 0 i)) .ret (⟨0, NU i, ofPairs (rlU i), ipU i⟩ : Cv) [] [(4, rU i)] (bsU 0 i) = true
theorem endU6 (hg : GU6e i) (hb : Base B μ 0) (s' : SU6 i len n V Ks Ns As B w0 μ a w) : uT.wp Tryz.prog (fun e a' w' => e = .ret ∧ St (plU len n Rd0 V Ks Ns As) B w0 μ Tryz.f6.ntmps (frOf [(4, rU i)]) (hOf (NU i) (bsU 0 i)) a' w') a w :=
  runTo_sound (fr := frOf (fsU6 i)) (h := hOf (NU i) (bsU 0 i)) (T := plU len n Rd0 V Ks Ns As) (T' := plU len n Rd0 V Ks Ns As) (K := Hand.none) (n := 100) mixed (@HandOk.none (plU len n Rd0 V Ks Ns As) Tryz.prog) (C := (⟨0, NU i, ofPairs (rlU i), ipU i⟩ : Cv)) (rl := rlU i) (ex := .ret) (vp := []) (fs := [(4, rU i)]) (bs := bsU 0 i)
    hb (Nat.zero_le _) rfl (rkU i) (ipU_ok (by rfl) (by rfl) (by rfl) (by rfl) keep0) vpNil (glU rfl rfl rfl rfl (strU_at _ _ _) (strU_at _ _ _)) (hg len n V Ks Ns As) s'
end
theorem gU6at_0 : GU6at 0 := ⟨by kernel_rfl, by kernel_rfl⟩
theorem gU6x0_0 : GU6x0 0 := fun len n V Ks Ns As hl => (by as_aux_lemma => kernel_rfl)
theorem gU6x1_0 : GU6x1 0 := fun len n V Ks Ns As hl => (by as_aux_lemma => kernel_rfl)
theorem gU6e_0 : GU6e 0 := fun len n V Ks Ns As => (by as_aux_lemma => kernel_rfl)
theorem gU6_o0ck_0 : GU6_o0ck 0 := fun len n V Ks Ns As sz tK tD tE cn tn hn hl hc hk hsz hlg h91 => (by as_aux_lemma => kernel_rfl)
theorem gU6_o0co_0 : GU6_o0co 0 := fun len n V Ks Ns As sz tK tD tE cn tn hn hl hc hk hsz hlg h91 => (by as_aux_lemma => kernel_rfl)
theorem gU6_o0cn_0 : GU6_o0cn 0 := fun len n V Ks Ns As sz tK tD tE cn tn hn hl hc hk hsz hlg => (by as_aux_lemma => kernel_rfl)
theorem gU6_o0fk_0 : GU6_o0fk 0 := fun len n V Ks Ns As sz tK tD tE cn tn hn hl hc hk hsz hlg h91 => (by as_aux_lemma => kernel_rfl)
theorem gU6_o0fo_0 : GU6_o0fo 0 := fun len n V Ks Ns As sz tK tD tE cn tn hn hl hc hk hsz hlg h91 => (by as_aux_lemma => kernel_rfl)
theorem gU6_o0fn_0 : GU6_o0fn 0 := fun len n V Ks Ns As sz tK tD tE cn tn hn hl hc hk hsz hlg => (by as_aux_lemma => kernel_rfl)
theorem gU6_o1ck_0 : GU6_o1ck 0 := fun len n V Ks Ns As sz tK tD tE cn tn hn hl hc hk hsz hlg hcn h91 => (by as_aux_lemma => kernel_rfl)
theorem gU6_o1co_0 : GU6_o1co 0 := fun len n V Ks Ns As sz tK tD tE cn tn hn hl hc hk hsz hlg hcn h91 => (by as_aux_lemma => kernel_rfl)
theorem gU6_o1cn_0 : GU6_o1cn 0 := fun len n V Ks Ns As sz tK tD tE cn tn hn hl hc hk hsz hlg hcn => (by as_aux_lemma => kernel_rfl)
theorem gU6_o1fk_0 : GU6_o1fk 0 := fun len n V Ks Ns As sz tK tD tE cn tn hn hl hc hk hsz hlg hcn h91 => (by as_aux_lemma => kernel_rfl)
theorem gU6_o1fo_0 : GU6_o1fo 0 := fun len n V Ks Ns As sz tK tD tE cn tn hn hl hc hk hsz hlg hcn h91 => (by as_aux_lemma => kernel_rfl)
theorem gU6_o1fn_0 : GU6_o1fn 0 := fun len n V Ks Ns As sz tK tD tE cn tn hn hl hc hk hsz hlg hcn => (by as_aux_lemma => kernel_rfl)
theorem gU6_w_0 : GU6_w 0 := fun len n V Ks Ns As sz tK tD tE cn tn hn hl hc hk => (by as_aux_lemma => kernel_rfl)
theorem gU6_p0_0 : GU6_p0 0 := fun len n V Ks Ns As sz tK tD tE cn tn hn hl hc hk => (by as_aux_lemma => kernel_rfl)
theorem gU6_p1_0 : GU6_p1 0 := fun len n V Ks Ns As sz tK tD tE cn tn hn hl hc hk => (by as_aux_lemma => kernel_rfl)
theorem gU6_p4_0 : GU6_p4 0 := fun len n V Ks Ns As sz tK tD tE cn tn hn hl hc hk => (by as_aux_lemma => kernel_rfl)
theorem gU6_p5_0 : GU6_p5 0 := fun len n V Ks Ns As sz tK tD tE cn tn hn hl hc hk => (by as_aux_lemma => kernel_rfl)
theorem gU6_p6_0 : GU6_p6 0 := fun len n V Ks Ns As sz tK tD tE cn tn hn hl hc hk => (by as_aux_lemma => kernel_rfl)
theorem gU6_d_0 : GU6_d 0 := fun len n V Ks Ns As sz tK tD tE cn tn hn hl hc hk => (by as_aux_lemma => kernel_rfl)
theorem gU6at_1 : GU6at 1 := ⟨by kernel_rfl, by kernel_rfl⟩
theorem gU6x0_1 : GU6x0 1 := fun len n V Ks Ns As hl => (by as_aux_lemma => kernel_rfl)
theorem gU6x1_1 : GU6x1 1 := fun len n V Ks Ns As hl => (by as_aux_lemma => kernel_rfl)
theorem gU6e_1 : GU6e 1 := fun len n V Ks Ns As => (by as_aux_lemma => kernel_rfl)
theorem gU6_o0ck_1 : GU6_o0ck 1 := fun len n V Ks Ns As sz tK tD tE cn tn hn hl hc hk hsz hlg h91 => (by as_aux_lemma => kernel_rfl)
theorem gU6_o0co_1 : GU6_o0co 1 := fun len n V Ks Ns As sz tK tD tE cn tn hn hl hc hk hsz hlg h91 => (by as_aux_lemma => kernel_rfl)
theorem gU6_o0cn_1 : GU6_o0cn 1 := fun len n V Ks Ns As sz tK tD tE cn tn hn hl hc hk hsz hlg => (by as_aux_lemma => kernel_rfl)
theorem gU6_o0fk_1 : GU6_o0fk 1 := fun len n V Ks Ns As sz tK tD tE cn tn hn hl hc hk hsz hlg h91 => (by as_aux_lemma => kernel_rfl)
theorem gU6_o0fo_1 : GU6_o0fo 1 := fun len n V Ks Ns As sz tK tD tE cn tn hn hl hc hk hsz hlg h91 => (by as_aux_lemma => kernel_rfl)
theorem gU6_o0fn_1 : GU6_o0fn 1 := fun len n V Ks Ns As sz tK tD tE cn tn hn hl hc hk hsz hlg => (by as_aux_lemma => kernel_rfl)
theorem gU6_o1ck_1 : GU6_o1ck 1 := fun len n V Ks Ns As sz tK tD tE cn tn hn hl hc hk hsz hlg hcn h91 => (by as_aux_lemma => kernel_rfl)
theorem gU6_o1co_1 : GU6_o1co 1 := fun len n V Ks Ns As sz tK tD tE cn tn hn hl hc hk hsz hlg hcn h91 => (by as_aux_lemma => kernel_rfl)
theorem gU6_o1cn_1 : GU6_o1cn 1 := fun len n V Ks Ns As sz tK tD tE cn tn hn hl hc hk hsz hlg hcn => (by as_aux_lemma => kernel_rfl)
theorem gU6_o1fk_1 : GU6_o1fk 1 := fun len n V Ks Ns As sz tK tD tE cn tn hn hl hc hk hsz hlg hcn h91 => (by as_aux_lemma => kernel_rfl)
theorem gU6_o1fo_1 : GU6_o1fo 1 := fun len n V Ks Ns As sz tK tD tE cn tn hn hl hc hk hsz hlg hcn h91 => (by as_aux_lemma => kernel_rfl)
theorem gU6_o1fn_1 : GU6_o1fn 1 := fun len n V Ks Ns As sz tK tD tE cn tn hn hl hc hk hsz hlg hcn => (by as_aux_lemma => kernel_rfl)
theorem gU6_w_1 : GU6_w 1 := fun len n V Ks Ns As sz tK tD tE cn tn hn hl hc hk => (by as_aux_lemma => kernel_rfl)
theorem gU6_p0_1 : GU6_p0 1 := fun len n V Ks Ns As sz tK tD tE cn tn hn hl hc hk => (by as_aux_lemma => kernel_rfl)
theorem gU6_p1_1 : GU6_p1 1 := fun len n V Ks Ns As sz tK tD tE cn tn hn hl hc hk => (by as_aux_lemma => kernel_rfl)
theorem gU6_p4_1 : GU6_p4 1 := fun len n V Ks Ns As sz tK tD tE cn tn hn hl hc hk => (by as_aux_lemma => kernel_rfl)
theorem gU6_p5_1 : GU6_p5 1 := fun len n V Ks Ns As sz tK tD tE cn tn hn hl hc hk => (by as_aux_lemma => kernel_rfl)
theorem gU6_p6_1 : GU6_p6 1 := fun len n V Ks Ns As sz tK tD tE cn tn hn hl hc hk => (by as_aux_lemma => kernel_rfl)
theorem gU6_d_1 : GU6_d 1 := fun len n V Ks Ns As sz tK tD tE cn tn hn hl hc hk => (by as_aux_lemma => kernel_rfl)
theorem gU6at_2 : GU6at 2 := ⟨by kernel_rfl, by kernel_rfl⟩
theorem gU6x0_2 : GU6x0 2 := fun len n V Ks Ns As hl => (by as_aux_lemma => kernel_rfl)
theorem gU6x1_2 : GU6x1 2 := fun len n V Ks Ns As hl => (by as_aux_lemma => kernel_rfl)
theorem gU6e_2 : GU6e 2 := fun len n V Ks Ns As => (by as_aux_lemma => kernel_rfl)
theorem gU6_o0ck_2 : GU6_o0ck 2 := fun len n V Ks Ns As sz tK tD tE cn tn hn hl hc hk hsz hlg h91 => (by as_aux_lemma => kernel_rfl)
theorem gU6_o0co_2 : GU6_o0co 2 := fun len n V Ks Ns As sz tK tD tE cn tn hn hl hc hk hsz hlg h91 => (by as_aux_lemma => kernel_rfl)
theorem gU6_o0cn_2 : GU6_o0cn 2 := fun len n V Ks Ns As sz tK tD tE cn tn hn hl hc hk hsz hlg => (by as_aux_lemma => kernel_rfl)
theorem gU6_o0fk_2 : GU6_o0fk 2 := fun len n V Ks Ns As sz tK tD tE cn tn hn hl hc hk hsz hlg h91 => (by as_aux_lemma => kernel_rfl)
theorem gU6_o0fo_2 : GU6_o0fo 2 := fun len n V Ks Ns As sz tK tD tE cn tn hn hl hc hk hsz hlg h91 => (by as_aux_lemma => kernel_rfl)
theorem gU6_o0fn_2 : GU6_o0fn 2 := fun len n V Ks Ns As sz tK tD tE cn tn hn hl hc hk hsz hlg => (by as_aux_lemma => kernel_rfl)
theorem gU6_o1ck_2 : GU6_o1ck 2 := fun len n V Ks Ns As sz tK tD tE cn tn hn hl hc hk hsz hlg hcn h91 => (by as_aux_lemma => kernel_rfl)
theorem gU6_o1co_2 : GU6_o1co 2 := fun len n V Ks Ns As sz tK tD tE cn tn hn hl hc hk hsz hlg hcn h91 => (by as_aux_lemma => kernel_rfl)
theorem gU6_o1cn_2 : GU6_o1cn 2 := fun len n V Ks Ns As sz tK tD tE cn tn hn hl hc hk hsz hlg hcn => (by as_aux_lemma => kernel_rfl)
theorem gU6_o1fk_2 : GU6_o1fk 2 := fun len n V Ks Ns As sz tK tD tE cn tn hn hl hc hk hsz hlg hcn h91 => (by as_aux_lemma => kernel_rfl)
theorem gU6_o1fo_2 : GU6_o1fo 2 := fun len n V Ks Ns As sz tK tD tE cn tn hn hl hc hk hsz hlg hcn h91 => (by as_aux_lemma => kernel_rfl)
theorem gU6_o1fn_2 : GU6_o1fn 2 := fun len n V Ks Ns As sz tK tD tE cn tn hn hl hc hk hsz hlg hcn => (by as_aux_lemma => kernel_rfl)
theorem gU6_w_2 : GU6_w 2 := fun len n V Ks Ns As sz tK tD tE cn tn hn hl hc hk => (by as_aux_lemma => kernel_rfl)
theorem gU6_p0_2 : GU6_p0 2 := fun len n V Ks Ns As sz tK tD tE cn tn hn hl hc hk => (by as_aux_lemma => kernel_rfl)
theorem gU6_p1_2 : GU6_p1 2 := fun len n V Ks Ns As sz tK tD tE cn tn hn hl hc hk => (by as_aux_lemma => kernel_rfl)
theorem gU6_p4_2 : GU6_p4 2 := fun len n V Ks Ns As sz tK tD tE cn tn hn hl hc hk => (by as_aux_lemma => kernel_rfl)
theorem gU6_p5_2 : GU6_p5 2 := fun len n V Ks Ns As sz tK tD tE cn tn hn hl hc hk => (by as_aux_lemma => kernel_rfl)
theorem gU6_p6_2 : GU6_p6 2 := fun len n V Ks Ns As sz tK tD tE cn tn hn hl hc hk => (by as_aux_lemma => kernel_rfl)
theorem gU6_d_2 : GU6_d 2 := fun len n V Ks Ns As sz tK tD tE cn tn hn hl hc hk => (by as_aux_lemma => kernel_rfl)
theorem gU6at_3 : GU6at 3 := ⟨by kernel_rfl, by kernel_rfl⟩
theorem gU6x0_3 : GU6x0 3 := fun len n V Ks Ns As hl => (by as_aux_lemma => kernel_rfl)
theorem gU6x1_3 : GU6x1 3 := fun len n V Ks Ns As hl => (by as_aux_lemma => kernel_rfl)
theorem gU6e_3 : GU6e 3 := fun len n V Ks Ns As => (by as_aux_lemma => kernel_rfl)
theorem gU6_o0ck_3 : GU6_o0ck 3 := fun len n V Ks Ns As sz tK tD tE cn tn hn hl hc hk hsz hlg h91 => (by as_aux_lemma => kernel_rfl)
theorem gU6_o0co_3 : GU6_o0co 3 := fun len n V Ks Ns As sz tK tD tE cn tn hn hl hc hk hsz hlg h91 => (by as_aux_lemma => kernel_rfl)
theorem gU6_o0cn_3 : GU6_o0cn 3 := fun len n V Ks Ns As sz tK tD tE cn tn hn hl hc hk hsz hlg => (by as_aux_lemma => kernel_rfl)
theorem gU6_o0fk_3 : GU6_o0fk 3 := fun len n V Ks Ns As sz tK tD tE cn tn hn hl hc hk hsz hlg h91 => (by as_aux_lemma => kernel_rfl)
theorem gU6_o0fo_3 : GU6_o0fo 3 := fun len n V Ks Ns As sz tK tD tE cn tn hn hl hc hk hsz hlg h91 => (by as_aux_lemma => kernel_rfl)
theorem gU6_o0fn_3 : GU6_o0fn 3 := fun len n V Ks Ns As sz tK tD tE cn tn hn hl hc hk hsz hlg => (by as_aux_lemma => kernel_rfl)
theorem gU6_o1ck_3 : GU6_o1ck 3 := fun len n V Ks Ns As sz tK tD tE cn tn hn hl hc hk hsz hlg hcn h91 => (by as_aux_lemma => kernel_rfl)
theorem gU6_o1co_3 : GU6_o1co 3 := fun len n V Ks Ns As sz tK tD tE cn tn hn hl hc hk hsz hlg hcn h91 => (by as_aux_lemma => kernel_rfl)
theorem gU6_o1cn_3 : GU6_o1cn 3 := fun len n V Ks Ns As sz tK tD tE cn tn hn hl hc hk hsz hlg hcn => (by as_aux_lemma => kernel_rfl)
theorem gU6_o1fk_3 : GU6_o1fk 3 := fun len n V Ks Ns As sz tK tD tE cn tn hn hl hc hk hsz hlg hcn h91 => (by as_aux_lemma => kernel_rfl)
theorem gU6_o1fo_3 : GU6_o1fo 3 := fun len n V Ks Ns As sz tK tD tE cn tn hn hl hc hk hsz hlg hcn h91 => (by as_aux_lemma => kernel_rfl)
theorem gU6_o1fn_3 : GU6_o1fn 3 := fun len n V Ks Ns As sz tK tD tE cn tn hn hl hc hk hsz hlg hcn => (by as_aux_lemma => kernel_rfl)
theorem gU6_w_3 : GU6_w 3 := fun len n V Ks Ns As sz tK tD tE cn tn hn hl hc hk => (by as_aux_lemma => kernel_rfl)
theorem gU6_p0_3 : GU6_p0 3 := fun len n V Ks Ns As sz tK tD tE cn tn hn hl hc hk => (by as_aux_lemma => kernel_rfl)
theorem gU6_p1_3 : GU6_p1 3 := fun len n V Ks Ns As sz tK tD tE cn tn hn hl hc hk => (by as_aux_lemma => kernel_rfl)
theorem gU6_p4_3 : GU6_p4 3 := fun len n V Ks Ns As sz tK tD tE cn tn hn hl hc hk => (by as_aux_lemma => kernel_rfl)
theorem gU6_p5_3 : GU6_p5 3 := fun len n V Ks Ns As sz tK tD tE cn tn hn hl hc hk => (by as_aux_lemma => kernel_rfl)
theorem gU6_p6_3 : GU6_p6 3 := fun len n V Ks Ns As sz tK tD tE cn tn hn hl hc hk => (by as_aux_lemma => kernel_rfl)
theorem gU6_d_3 : GU6_d 3 := fun len n V Ks Ns As sz tK tD tE cn tn hn hl hc hk => (by as_aux_lemma => kernel_rfl)
theorem gU6at_4 : GU6at 4 := ⟨by kernel_rfl, by kernel_rfl⟩
theorem gU6x0_4 : GU6x0 4 := fun len n V Ks Ns As hl => (by as_aux_lemma => kernel_rfl)
theorem gU6x1_4 : GU6x1 4 := fun len n V Ks Ns As hl => (by as_aux_lemma => kernel_rfl)
theorem gU6e_4 : GU6e 4 := fun len n V Ks Ns As => (by as_aux_lemma => kernel_rfl)
theorem gU6_o0ck_4 : GU6_o0ck 4 := fun len n V Ks Ns As sz tK tD tE cn tn hn hl hc hk hsz hlg h91 => (by as_aux_lemma => kernel_rfl)
theorem gU6_o0co_4 : GU6_o0co 4 := fun len n V Ks Ns As sz tK tD tE cn tn hn hl hc hk hsz hlg h91 => (by as_aux_lemma => kernel_rfl)
theorem gU6_o0cn_4 : GU6_o0cn 4 := fun len n V Ks Ns As sz tK tD tE cn tn hn hl hc hk hsz hlg => (by as_aux_lemma => kernel_rfl)
theorem gU6_o0fk_4 : GU6_o0fk 4 := fun len n V Ks Ns As sz tK tD tE cn tn hn hl hc hk hsz hlg h91 => (by as_aux_lemma => kernel_rfl)
theorem gU6_o0fo_4 : GU6_o0fo 4 := fun len n V Ks Ns As sz tK tD tE cn tn hn hl hc hk hsz hlg h91 => (by as_aux_lemma => kernel_rfl)
theorem gU6_o0fn_4 : GU6_o0fn 4 := fun len n V Ks Ns As sz tK tD tE cn tn hn hl hc hk hsz hlg => (by as_aux_lemma => kernel_rfl)
theorem gU6_o1ck_4 : GU6_o1ck 4 := fun len n V Ks Ns As sz tK tD tE cn tn hn hl hc hk hsz hlg hcn h91 => (by as_aux_lemma => kernel_rfl)
theorem gU6_o1co_4 : GU6_o1co 4 := fun len n V Ks Ns As sz tK tD tE cn tn hn hl hc hk hsz hlg hcn h91 => (by as_aux_lemma => kernel_rfl)
theorem gU6_o1cn_4 : GU6_o1cn 4 := fun len n V Ks Ns As sz tK tD tE cn tn hn hl hc hk hsz hlg hcn => (by as_aux_lemma => kernel_rfl)
theorem gU6_o1fk_4 : GU6_o1fk 4 := fun len n V Ks Ns As sz tK tD tE cn tn hn hl hc hk hsz hlg hcn h91 => (by as_aux_lemma => kernel_rfl)
theorem gU6_o1fo_4 : GU6_o1fo 4 := fun len n V Ks Ns As sz tK tD tE cn tn hn hl hc hk hsz hlg hcn h91 => (by as_aux_lemma => kernel_rfl)
theorem gU6_o1fn_4 : GU6_o1fn 4 := fun len n V Ks Ns As sz tK tD tE cn tn hn hl hc hk hsz hlg hcn => (by as_aux_lemma => kernel_rfl)
theorem gU6_w_4 : GU6_w 4 := fun len n V Ks Ns As sz tK tD tE cn tn hn hl hc hk => (by as_aux_lemma => kernel_rfl)
theorem gU6_p0_4 : GU6_p0 4 := fun len n V Ks Ns As sz tK tD tE cn tn hn hl hc hk => (by as_aux_lemma => kernel_rfl)
theorem gU6_p1_4 : GU6_p1 4 := fun len n V Ks Ns As sz tK tD tE cn tn hn hl hc hk => (by as_aux_lemma => kernel_rfl)
theorem gU6_p4_4 : GU6_p4 4 := fun len n V Ks Ns As sz tK tD tE cn tn hn hl hc hk => (by as_aux_lemma => kernel_rfl)
theorem gU6_p5_4 : GU6_p5 4 := fun len n V Ks Ns As sz tK tD tE cn tn hn hl hc hk => (by as_aux_lemma => kernel_rfl)
theorem gU6_p6_4 : GU6_p6 4 := fun len n V Ks Ns As sz tK tD tE cn tn hn hl hc hk => (by as_aux_lemma => kernel_rfl)
theorem gU6_d_4 : GU6_d 4 := fun len n V Ks Ns As sz tK tD tE cn tn hn hl hc hk => (by as_aux_lemma => kernel_rfl)
theorem gU6at_5 : GU6at 5 := ⟨by kernel_rfl, by kernel_rfl⟩
theorem gU6x0_5 : GU6x0 5 := fun len n V Ks Ns As hl => (by as_aux_lemma => kernel_rfl)
theorem gU6x1_5 : GU6x1 5 := fun len n V Ks Ns As hl => (by as_aux_lemma => kernel_rfl)
theorem gU6e_5 : GU6e 5 := fun len n V Ks Ns As => (by as_aux_lemma => kernel_rfl)
theorem gU6_o0ck_5 : GU6_o0ck 5 := fun len n V Ks Ns As sz tK tD tE cn tn hn hl hc hk hsz hlg h91 => (by as_aux_lemma => kernel_rfl)
theorem gU6_o0co_5 : GU6_o0co 5 := fun len n V Ks Ns As sz tK tD tE cn tn hn hl hc hk hsz hlg h91 => (by as_aux_lemma => kernel_rfl)
theorem gU6_o0cn_5 : GU6_o0cn 5 := fun len n V Ks Ns As sz tK tD tE cn tn hn hl hc hk hsz hlg => (by as_aux_lemma => kernel_rfl)
theorem gU6_o0fk_5 : GU6_o0fk 5 := fun len n V Ks Ns As sz tK tD tE cn tn hn hl hc hk hsz hlg h91 => (by as_aux_lemma => kernel_rfl)
theorem gU6_o0fo_5 : GU6_o0fo 5 := fun len n V Ks Ns As sz tK tD tE cn tn hn hl hc hk hsz hlg h91 => (by as_aux_lemma => kernel_rfl)
theorem gU6_o0fn_5 : GU6_o0fn 5 := fun len n V Ks Ns As sz tK tD tE cn tn hn hl hc hk hsz hlg => (by as_aux_lemma => kernel_rfl)
theorem gU6_o1ck_5 : GU6_o1ck 5 := fun len n V Ks Ns As sz tK tD tE cn tn hn hl hc hk hsz hlg hcn h91 => (by as_aux_lemma => kernel_rfl)
theorem gU6_o1co_5 : GU6_o1co 5 := fun len n V Ks Ns As sz tK tD tE cn tn hn hl hc hk hsz hlg hcn h91 => (by as_aux_lemma => kernel_rfl)
theorem gU6_o1cn_5 : GU6_o1cn 5 := fun len n V Ks Ns As sz tK tD tE cn tn hn hl hc hk hsz hlg hcn => (by as_aux_lemma => kernel_rfl)
theorem gU6_o1fk_5 : GU6_o1fk 5 := fun len n V Ks Ns As sz tK tD tE cn tn hn hl hc hk hsz hlg hcn h91 => (by as_aux_lemma => kernel_rfl)
theorem gU6_o1fo_5 : GU6_o1fo 5 := fun len n V Ks Ns As sz tK tD tE cn tn hn hl hc hk hsz hlg hcn h91 => (by as_aux_lemma => kernel_rfl)
theorem gU6_o1fn_5 : GU6_o1fn 5 := fun len n V Ks Ns As sz tK tD tE cn tn hn hl hc hk hsz hlg hcn => (by as_aux_lemma => kernel_rfl)
theorem gU6_w_5 : GU6_w 5 := fun len n V Ks Ns As sz tK tD tE cn tn hn hl hc hk => (by as_aux_lemma => kernel_rfl)
theorem gU6_p0_5 : GU6_p0 5 := fun len n V Ks Ns As sz tK tD tE cn tn hn hl hc hk => (by as_aux_lemma => kernel_rfl)
theorem gU6_p1_5 : GU6_p1 5 := fun len n V Ks Ns As sz tK tD tE cn tn hn hl hc hk => (by as_aux_lemma => kernel_rfl)
theorem gU6_p4_5 : GU6_p4 5 := fun len n V Ks Ns As sz tK tD tE cn tn hn hl hc hk => (by as_aux_lemma => kernel_rfl)
theorem gU6_p5_5 : GU6_p5 5 := fun len n V Ks Ns As sz tK tD tE cn tn hn hl hc hk => (by as_aux_lemma => kernel_rfl)
theorem gU6_p6_5 : GU6_p6 5 := fun len n V Ks Ns As sz tK tD tE cn tn hn hl hc hk => (by as_aux_lemma => kernel_rfl)
theorem gU6_d_5 : GU6_d 5 := fun len n V Ks Ns As sz tK tD tE cn tn hn hl hc hk => (by as_aux_lemma => kernel_rfl)
theorem gU6at_6 : GU6at 6 := ⟨by kernel_rfl, by kernel_rfl⟩
theorem gU6x0_6 : GU6x0 6 := fun len n V Ks Ns As hl => (by as_aux_lemma => kernel_rfl)
theorem gU6x1_6 : GU6x1 6 := fun len n V Ks Ns As hl => (by as_aux_lemma => kernel_rfl)
theorem gU6e_6 : GU6e 6 := fun len n V Ks Ns As => (by as_aux_lemma => kernel_rfl)
theorem gU6_o0ck_6 : GU6_o0ck 6 := fun len n V Ks Ns As sz tK tD tE cn tn hn hl hc hk hsz hlg h91 => (by as_aux_lemma => kernel_rfl)
theorem gU6_o0co_6 : GU6_o0co 6 := fun len n V Ks Ns As sz tK tD tE cn tn hn hl hc hk hsz hlg h91 => (by as_aux_lemma => kernel_rfl)
theorem gU6_o0cn_6 : GU6_o0cn 6 := fun len n V Ks Ns As sz tK tD tE cn tn hn hl hc hk hsz hlg => (by as_aux_lemma => kernel_rfl)
theorem gU6_o0fk_6 : GU6_o0fk 6 := fun len n V Ks Ns As sz tK tD tE cn tn hn hl hc hk hsz hlg h91 => (by as_aux_lemma => kernel_rfl)
theorem gU6_o0fo_6 : GU6_o0fo 6 := fun len n V Ks Ns As sz tK tD tE cn tn hn hl hc hk hsz hlg h91 => (by as_aux_lemma => kernel_rfl)
theorem gU6_o0fn_6 : GU6_o0fn 6 := fun len n V Ks Ns As sz tK tD tE cn tn hn hl hc hk hsz hlg => (by as_aux_lemma => kernel_rfl)
theorem gU6_o1ck_6 : GU6_o1ck 6 := fun len n V Ks Ns As sz tK tD tE cn tn hn hl hc hk hsz hlg hcn h91 => (by as_aux_lemma => kernel_rfl)
theorem gU6_o1co_6 : GU6_o1co 6 := fun len n V Ks Ns As sz tK tD tE cn tn hn hl hc hk hsz hlg hcn h91 => (by as_aux_lemma => kernel_rfl)
theorem gU6_o1cn_6 : GU6_o1cn 6 := fun len n V Ks Ns As sz tK tD tE cn tn hn hl hc hk hsz hlg hcn => (by as_aux_lemma => kernel_rfl)
theorem gU6_o1fk_6 : GU6_o1fk 6 := fun len n V Ks Ns As sz tK tD tE cn tn hn hl hc hk hsz hlg hcn h91 => (by as_aux_lemma => kernel_rfl)
theorem gU6_o1fo_6 : GU6_o1fo 6 := fun len n V Ks Ns As sz tK tD tE cn tn hn hl hc hk hsz hlg hcn h91 => (by as_aux_lemma => kernel_rfl)
theorem gU6_o1fn_6 : GU6_o1fn 6 := fun len n V Ks Ns As sz tK tD tE cn tn hn hl hc hk hsz hlg hcn => (by as_aux_lemma => kernel_rfl)
theorem gU6_w_6 : GU6_w 6 := fun len n V Ks Ns As sz tK tD tE cn tn hn hl hc hk => (by as_aux_lemma => kernel_rfl)
theorem gU6_p0_6 : GU6_p0 6 := fun len n V Ks Ns As sz tK tD tE cn tn hn hl hc hk => (by as_aux_lemma => kernel_rfl)
theorem gU6_p1_6 : GU6_p1 6 := fun len n V Ks Ns As sz tK tD tE cn tn hn hl hc hk => (by as_aux_lemma => kernel_rfl)
theorem gU6_p4_6 : GU6_p4 6 := fun len n V Ks Ns As sz tK tD tE cn tn hn hl hc hk => (by as_aux_lemma => kernel_rfl)
theorem gU6_p5_6 : GU6_p5 6 := fun len n V Ks Ns As sz tK tD tE cn tn hn hl hc hk => (by as_aux_lemma => kernel_rfl)
theorem gU6_p6_6 : GU6_p6 6 := fun len n V Ks Ns As sz tK tD tE cn tn hn hl hc hk => (by as_aux_lemma => kernel_rfl)
theorem gU6_d_6 : GU6_d 6 := fun len n V Ks Ns As sz tK tD tE cn tn hn hl hc hk => (by as_aux_lemma => kernel_rfl)
theorem gU6at_7 : GU6at 7 := ⟨by kernel_rfl, by kernel_rfl⟩
theorem gU6x0_7 : GU6x0 7 := fun len n V Ks Ns As hl => (by as_aux_lemma => kernel_rfl)
theorem gU6x1_7 : GU6x1 7 := fun len n V Ks Ns As hl => (by as_aux_lemma => kernel_rfl)
theorem gU6e_7 : GU6e 7 := fun len n V Ks Ns As => (by as_aux_lemma => kernel_rfl)
theorem gU6_o0ck_7 : GU6_o0ck 7 := fun len n V Ks Ns As sz tK tD tE cn tn hn hl hc hk hsz hlg h91 => (by as_aux_lemma => kernel_rfl)
theorem gU6_o0co_7 : GU6_o0co 7 := fun len n V Ks Ns As sz tK tD tE cn tn hn hl hc hk hsz hlg h91 => (by as_aux_lemma => kernel_rfl)
theorem gU6_o0cn_7 : GU6_o0cn 7 := fun len n V Ks Ns As sz tK tD tE cn tn hn hl hc hk hsz hlg => (by as_aux_lemma => kernel_rfl)
theorem gU6_o0fk_7 : GU6_o0fk 7 := fun len n V Ks Ns As sz tK tD tE cn tn hn hl hc hk hsz hlg h91 => (by as_aux_lemma => kernel_rfl)
theorem gU6_o0fo_7 : GU6_o0fo 7 := fun len n V Ks Ns As sz tK tD tE cn tn hn hl hc hk hsz hlg h91 => (by as_aux_lemma => kernel_rfl)
theorem gU6_o0fn_7 : GU6_o0fn 7 := fun len n V Ks Ns As sz tK tD tE cn tn hn hl hc hk hsz hlg => (by as_aux_lemma => kernel_rfl)
theorem gU6_o1ck_7 : GU6_o1ck 7 := fun len n V Ks Ns As sz tK tD tE cn tn hn hl hc hk hsz hlg hcn h91 => (by as_aux_lemma => kernel_rfl)
theorem gU6_o1co_7 : GU6_o1co 7 := fun len n V Ks Ns As sz tK tD tE cn tn hn hl hc hk hsz hlg hcn h91 => (by as_aux_lemma => kernel_rfl)
theorem gU6_o1cn_7 : GU6_o1cn 7 := fun len n V Ks Ns As sz tK tD tE cn tn hn hl hc hk hsz hlg hcn => (by as_aux_lemma => kernel_rfl)
theorem gU6_o1fk_7 : GU6_o1fk 7 := fun len n V Ks Ns As sz tK tD tE cn tn hn hl hc hk hsz hlg hcn h91 => (by as_aux_lemma => kernel_rfl)
theorem gU6_o1fo_7 : GU6_o1fo 7 := fun len n V Ks Ns As sz tK tD tE cn tn hn hl hc hk hsz hlg hcn h91 => (by as_aux_lemma => kernel_rfl)
theorem gU6_o1fn_7 : GU6_o1fn 7 := fun len n V Ks Ns As sz tK tD tE cn tn hn hl hc hk hsz hlg hcn => (by as_aux_lemma => kernel_rfl)
theorem gU6_w_7 : GU6_w 7 := fun len n V Ks Ns As sz tK tD tE cn tn hn hl hc hk => (by as_aux_lemma => kernel_rfl)
theorem gU6_p0_7 : GU6_p0 7 := fun len n V Ks Ns As sz tK tD tE cn tn hn hl hc hk => (by as_aux_lemma => kernel_rfl)
theorem gU6_p1_7 : GU6_p1 7 := fun len n V Ks Ns As sz tK tD tE cn tn hn hl hc hk => (by as_aux_lemma => kernel_rfl)
theorem gU6_p4_7 : GU6_p4 7 := fun len n V Ks Ns As sz tK tD tE cn tn hn hl hc hk => (by as_aux_lemma => kernel_rfl)
theorem gU6_p5_7 : GU6_p5 7 := fun len n V Ks Ns As sz tK tD tE cn tn hn hl hc hk => (by as_aux_lemma => kernel_rfl)
theorem gU6_p6_7 : GU6_p6 7 := fun len n V Ks Ns As sz tK tD tE cn tn hn hl hc hk => (by as_aux_lemma => kernel_rfl)
theorem gU6_d_7 : GU6_d 7 := fun len n V Ks Ns As sz tK tD tE cn tn hn hl hc hk => (by as_aux_lemma => kernel_rfl)
theorem gU6at_8 : GU6at 8 := ⟨by kernel_rfl, by kernel_rfl⟩
theorem gU6x0_8 : GU6x0 8 := fun len n V Ks Ns As hl => (by as_aux_lemma => kernel_rfl)
theorem gU6x1_8 : GU6x1 8 := fun len n V Ks Ns As hl => (by as_aux_lemma => kernel_rfl)
theorem gU6e_8 : GU6e 8 := fun len n V Ks Ns As => (by as_aux_lemma => kernel_rfl)
theorem aU6at : ∀ i, i < 9 → GU6at i
  | 0, _ => gU6at_0
  | 1, _ => gU6at_1
  | 2, _ => gU6at_2
  | 3, _ => gU6at_3
  | 4, _ => gU6at_4
  | 5, _ => gU6at_5
  | 6, _ => gU6at_6
  | 7, _ => gU6at_7
  | 8, _ => gU6at_8
  | i + 9, h => absurd h (by omega)
theorem aU6x0 : ∀ i, i < 9 → GU6x0 i
  | 0, _ => gU6x0_0
  | 1, _ => gU6x0_1
  | 2, _ => gU6x0_2
  | 3, _ => gU6x0_3
  | 4, _ => gU6x0_4
  | 5, _ => gU6x0_5
  | 6, _ => gU6x0_6
  | 7, _ => gU6x0_7
  | 8, _ => gU6x0_8
  | i + 9, h => absurd h (by omega)
theorem aU6x1 : ∀ i, i < 9 → GU6x1 i
  | 0, _ => gU6x1_0
  | 1, _ => gU6x1_1
  | 2, _ => gU6x1_2
  | 3, _ => gU6x1_3
  | 4, _ => gU6x1_4
  | 5, _ => gU6x1_5
  | 6, _ => gU6x1_6
  | 7, _ => gU6x1_7
  | 8, _ => gU6x1_8
  | i + 9, h => absurd h (by omega)
theorem aU6e : ∀ i, i < 9 → GU6e i
  | 0, _ => gU6e_0
  | 1, _ => gU6e_1
  | 2, _ => gU6e_2
  | 3, _ => gU6e_3
  | 4, _ => gU6e_4
  | 5, _ => gU6e_5
  | 6, _ => gU6e_6
  | 7, _ => gU6e_7
  | 8, _ => gU6e_8
  | i + 9, h => absurd h (by omega)
theorem aU6_o0ck : ∀ i, i < 8 → GU6_o0ck i
  | 0, _ => gU6_o0ck_0
  | 1, _ => gU6_o0ck_1
  | 2, _ => gU6_o0ck_2
  | 3, _ => gU6_o0ck_3
  | 4, _ => gU6_o0ck_4
  | 5, _ => gU6_o0ck_5
  | 6, _ => gU6_o0ck_6
  | 7, _ => gU6_o0ck_7
  | i + 8, h => absurd h (by omega)
theorem aU6_o0co : ∀ i, i < 8 → GU6_o0co i
  | 0, _ => gU6_o0co_0
  | 1, _ => gU6_o0co_1
  | 2, _ => gU6_o0co_2
  | 3, _ => gU6_o0co_3
  | 4, _ => gU6_o0co_4
  | 5, _ => gU6_o0co_5
  | 6, _ => gU6_o0co_6
  | 7, _ => gU6_o0co_7
  | i + 8, h => absurd h (by omega)
theorem aU6_o0cn : ∀ i, i < 8 → GU6_o0cn i
  | 0, _ => gU6_o0cn_0
  | 1, _ => gU6_o0cn_1
  | 2, _ => gU6_o0cn_2
  | 3, _ => gU6_o0cn_3
  | 4, _ => gU6_o0cn_4
  | 5, _ => gU6_o0cn_5
  | 6, _ => gU6_o0cn_6
  | 7, _ => gU6_o0cn_7
  | i + 8, h => absurd h (by omega)
theorem aU6_o0fk : ∀ i, i < 8 → GU6_o0fk i
  | 0, _ => gU6_o0fk_0
  | 1, _ => gU6_o0fk_1
  | 2, _ => gU6_o0fk_2
  | 3, _ => gU6_o0fk_3
  | 4, _ => gU6_o0fk_4
  | 5, _ => gU6_o0fk_5
  | 6, _ => gU6_o0fk_6
  | 7, _ => gU6_o0fk_7
  | i + 8, h => absurd h (by omega)
theorem aU6_o0fo : ∀ i, i < 8 → GU6_o0fo i
  | 0, _ => gU6_o0fo_0
  | 1, _ => gU6_o0fo_1
  | 2, _ => gU6_o0fo_2
  | 3, _ => gU6_o0fo_3
  | 4, _ => gU6_o0fo_4
  | 5, _ => gU6_o0fo_5
  | 6, _ => gU6_o0fo_6
  | 7, _ => gU6_o0fo_7
  | i + 8, h => absurd h (by omega)
theorem aU6_o0fn : ∀ i, i < 8 → GU6_o0fn i
  | 0, _ => gU6_o0fn_0
  | 1, _ => gU6_o0fn_1
  | 2, _ => gU6_o0fn_2
  | 3, _ => gU6_o0fn_3
  | 4, _ => gU6_o0fn_4
  | 5, _ => gU6_o0fn_5
  | 6, _ => gU6_o0fn_6
  | 7, _ => gU6_o0fn_7
  | i + 8, h => absurd h (by omega)
theorem aU6_o1ck : ∀ i, i < 8 → GU6_o1ck i
  | 0, _ => gU6_o1ck_0
  | 1, _ => gU6_o1ck_1
  | 2, _ => gU6_o1ck_2
  | 3, _ => gU6_o1ck_3
  | 4, _ => gU6_o1ck_4
  | 5, _ => gU6_o1ck_5
  | 6, _ => gU6_o1ck_6
  | 7, _ => gU6_o1ck_7
  | i + 8, h => absurd h (by omega)
theorem aU6_o1co : ∀ i, i < 8 → GU6_o1co i
  | 0, _ => gU6_o1co_0
  | 1, _ => gU6_o1co_1
  | 2, _ => gU6_o1co_2
  | 3, _ => gU6_o1co_3
  | 4, _ => gU6_o1co_4
  | 5, _ => gU6_o1co_5
  | 6, _ => gU6_o1co_6
  | 7, _ => gU6_o1co_7
  | i + 8, h => absurd h (by omega)
theorem aU6_o1cn : ∀ i, i < 8 → GU6_o1cn i
  | 0, _ => gU6_o1cn_0
  | 1, _ => gU6_o1cn_1
  | 2, _ => gU6_o1cn_2
  | 3, _ => gU6_o1cn_3
  | 4, _ => gU6_o1cn_4
  | 5, _ => gU6_o1cn_5
  | 6, _ => gU6_o1cn_6
  | 7, _ => gU6_o1cn_7
  | i + 8, h => absurd h (by omega)
theorem aU6_o1fk : ∀ i, i < 8 → GU6_o1fk i
  | 0, _ => gU6_o1fk_0
  | 1, _ => gU6_o1fk_1
  | 2, _ => gU6_o1fk_2
  | 3, _ => gU6_o1fk_3
  | 4, _ => gU6_o1fk_4
  | 5, _ => gU6_o1fk_5
  | 6, _ => gU6_o1fk_6
  | 7, _ => gU6_o1fk_7
  | i + 8, h => absurd h (by omega)
theorem aU6_o1fo : ∀ i, i < 8 → GU6_o1fo i
  | 0, _ => gU6_o1fo_0
  | 1, _ => gU6_o1fo_1
  | 2, _ => gU6_o1fo_2
  | 3, _ => gU6_o1fo_3
  | 4, _ => gU6_o1fo_4
  | 5, _ => gU6_o1fo_5
  | 6, _ => gU6_o1fo_6
  | 7, _ => gU6_o1fo_7
  | i + 8, h => absurd h (by omega)
theorem aU6_o1fn : ∀ i, i < 8 → GU6_o1fn i
  | 0, _ => gU6_o1fn_0
  | 1, _ => gU6_o1fn_1
  | 2, _ => gU6_o1fn_2
  | 3, _ => gU6_o1fn_3
  | 4, _ => gU6_o1fn_4
  | 5, _ => gU6_o1fn_5
  | 6, _ => gU6_o1fn_6
  | 7, _ => gU6_o1fn_7
  | i + 8, h => absurd h (by omega)
theorem aU6_w : ∀ i, i < 8 → GU6_w i
  | 0, _ => gU6_w_0
  | 1, _ => gU6_w_1
  | 2, _ => gU6_w_2
  | 3, _ => gU6_w_3
  | 4, _ => gU6_w_4
  | 5, _ => gU6_w_5
  | 6, _ => gU6_w_6
  | 7, _ => gU6_w_7
  | i + 8, h => absurd h (by omega)
theorem aU6_p0 : ∀ i, i < 8 → GU6_p0 i
  | 0, _ => gU6_p0_0
  | 1, _ => gU6_p0_1
  | 2, _ => gU6_p0_2
  | 3, _ => gU6_p0_3
  | 4, _ => gU6_p0_4
  | 5, _ => gU6_p0_5
  | 6, _ => gU6_p0_6
  | 7, _ => gU6_p0_7
  | i + 8, h => absurd h (by omega)
theorem aU6_p1 : ∀ i, i < 8 → GU6_p1 i
  | 0, _ => gU6_p1_0
  | 1, _ => gU6_p1_1
  | 2, _ => gU6_p1_2
  | 3, _ => gU6_p1_3
  | 4, _ => gU6_p1_4
  | 5, _ => gU6_p1_5
  | 6, _ => gU6_p1_6
  | 7, _ => gU6_p1_7
  | i + 8, h => absurd h (by omega)
theorem aU6_p4 : ∀ i, i < 8 → GU6_p4 i
  | 0, _ => gU6_p4_0
  | 1, _ => gU6_p4_1
  | 2, _ => gU6_p4_2
  | 3, _ => gU6_p4_3
  | 4, _ => gU6_p4_4
  | 5, _ => gU6_p4_5
  | 6, _ => gU6_p4_6
  | 7, _ => gU6_p4_7
  | i + 8, h => absurd h (by omega)
theorem aU6_p5 : ∀ i, i < 8 → GU6_p5 i
  | 0, _ => gU6_p5_0
  | 1, _ => gU6_p5_1
  | 2, _ => gU6_p5_2
  | 3, _ => gU6_p5_3
  | 4, _ => gU6_p5_4
  | 5, _ => gU6_p5_5
  | 6, _ => gU6_p5_6
  | 7, _ => gU6_p5_7
  | i + 8, h => absurd h (by omega)
theorem aU6_p6 : ∀ i, i < 8 → GU6_p6 i
  | 0, _ => gU6_p6_0
  | 1, _ => gU6_p6_1
  | 2, _ => gU6_p6_2
  | 3, _ => gU6_p6_3
  | 4, _ => gU6_p6_4
  | 5, _ => gU6_p6_5
  | 6, _ => gU6_p6_6
  | 7, _ => gU6_p6_7
  | i + 8, h => absurd h (by omega)
theorem aU6_d : ∀ i, i < 8 → GU6_d i
  | 0, _ => gU6_d_0
  | 1, _ => gU6_d_1
  | 2, _ => gU6_d_2
  | 3, _ => gU6_d_3
  | 4, _ => gU6_d_4
  | 5, _ => gU6_d_5
  | 6, _ => gU6_d_6
  | 7, _ => gU6_d_7
  | i + 8, h => absurd h (by omega)
end
end Go.Proofs.YtlnkclamdiohnaaGreatDoor.fp
