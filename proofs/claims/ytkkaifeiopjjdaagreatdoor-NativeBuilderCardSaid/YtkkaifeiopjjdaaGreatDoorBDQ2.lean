/-
  The law NativeBuilder: the two halves of a round.
-/
import Derived.Test.YtkkaifeiopjjdaaGreatDoorBDQ
set_option linter.unusedVariables false
set_option linter.unusedSimpArgs false
set_option linter.unusedSectionVars false
set_option maxRecDepth 1000000
set_option maxHeartbeats 0
namespace Go.Proofs.YtkkaifeiopjjdaaGreatDoor.bd
open Go.X Go.RowKit Go.Proofs
section
variable {y z : Bool} {u : Ue} {c : Co} {i : Nat} {n : Bool} {B : Kp} {w0 : World} {μ : M} {a : Act} {w : World}
/-- the foreign slices are what they are, in every table -/
def Gs (u : Ue) (B : Kp) (w0 : World) : Prop := ∀ c i, @Gl (TP (pA1 u c i)) B w0 ∧ @Gl (TP (pA2 u c i)) B w0 ∧ @Gl (TP (pB u c i)) B w0
theorem sH (hb : Base B μ 20000) (h : i < 8) (s : SA y z u c i n B w0 μ a w) : cH.wp Tryz.prog (fun x a' w' => x = .normal ∧ SA y z u c i n B w0 μ a' w') a w := by
  cases n with
  | false => exact sHf hb h s
  | true => exact sHt hb h s
theorem sX (hb : Base B μ 20000) (h : ¬ i < 8) (s : SA y z u c i n B w0 μ a w) : cH.wp Tryz.prog (fun x a' w' => x = .exit 0 ∧ SA y z u c i n B w0 μ a' w') a w := by
  cases n with
  | false => exact sXf hb h s
  | true => exact sXt hb h s
theorem sI (hb : Base B μ 20000) (h : i < 8) (g : Gs u B w0) (s : SA y z u c i n B w0 μ a w) : cInc.wp Tryz.prog (fun x a' w' => x = .normal ∧ SA y z u c (i + 1) n B w0 μ a' w') a w := by
  cases n with
  | false => exact sIf hb h (g _ _).1 s
  | true => exact sIt hb h (g _ _).1 s
theorem sU (hb : Base B μ 20000) (h : i < u.lu) (s : SA false z u c i n B w0 μ a w) : cA0.wp Tryz.prog (fun x a' w' => x = .normal ∧ SU z u c i n B w0 μ a' w') a w := by
  cases n with
  | false => exact sUf hb h s
  | true => exact sUt hb h s
theorem sV (hb : Base B μ 20000) (h : ¬ i < u.lu) (g : Gs u B w0) (s : SA y z u c i n B w0 μ a w) : cA.wp Tryz.prog (fun x a' w' => x = .normal ∧ SB y z u c i n B w0 μ a' w') a w := by
  cases n with
  | false => exact sVf hb h (g _ _).2.2 s
  | true => exact sVt hb h (g _ _).2.2 s
theorem sN (hb : Base B μ 20000) (h : ¬ i < u.ln) (g : Gs u B w0) (s : SB y z u c i n B w0 μ a w) : cB.wp Tryz.prog (fun x a' w' => x = .normal ∧ SA y z u c i n B w0 μ a' w') a w := by
  cases n with
  | false => exact sNf hb h (g _ _).1 s
  | true => exact sNt hb h (g _ _).1 s
theorem ekOf (o : ElOk (u.us i)) : ∀ k, (u.us i).ek = k → EkC (pA1 u c i) k
  | 0, h => ⟨o.k0 h, o.a60⟩
  | 1, h => o.k1 h
  | k + 2, h => o.k2 (by omega)
/-- behind a text that is appended -/
def Q2 (z : Bool) (u : Ue) (c : Co) (i : Nat) (B : Kp) (w0 : World) (μ : M) (x : Exit) (a : Act) (w : World) : Prop := x = .normal ∧ ∃ n', (n' = true ↔ (cQ (pA2 u c i)).lt = 0) ∧ SB false z u (cQ (pA2 u c i)) i n' B w0 μ a w
theorem q2 {C : Code} {n' : Bool} (hn : n' = true ↔ (cQ (pA2 u c i)).lt = 0) (h : C.wp Tryz.prog (fun x a' w' => x = .normal ∧ SB false z u (cQ (pA2 u c i)) i n' B w0 μ a' w') a w) : C.wp Tryz.prog (Q2 z u c i B w0 μ) a w := wp_mono h fun x a' w' q => ⟨q.1, n', hn, q.2⟩
theorem a2 (hb : Base B μ 20000) (oe : ElOk (u.us i)) (o : Ok (pA2 u c i)) (bA : TextOk (pA2 u c i).x (pA2 u c i).sa (pA2 u c i).ia (pA2 u c i).pl (pA2 u c i).A) (hn : n = true ↔ c.lt = 0) (G : @Gl (TP (pB u (cQ (pA2 u c i)) i)) B w0) : ∀ e, (u.us i).ek = e → SC z u c i n e B w0 μ a w → (restn 3 cAB).wp Tryz.prog (Q2 z u c i B w0 μ) a w := by
  intro e he s
  have q := ekOf (c := c) oe e he
  have hl : (cQ (pA2 u c i)).lt = c.lt + (u.us i).la := rfl
  have e4 := oe.k4
  match e, he, q, s with
  | 0, he, q, s =>
    have h0 : 0 < (u.us i).la := q.1
    cases n with
    | false => exact q2 (n' := false) ⟨fun h => (by cases h), fun h => by omega⟩ (sA2Ff hb o bA h0 (Nat.pos_of_ne_zero fun e => by have := hn.2 e; cases this) G s)
    | true => exact q2 (n' := false) ⟨fun h => (by cases h), fun h => by omega⟩ (sA2Ft hb o bA h0 (hn.1 rfl) G s)
  | 1, he, q, s =>
    have h0 : 0 < (u.us i).la := by have q1 : (u.us i).la = 60 := q.1; omega
    cases n with
    | false => exact q2 (n' := false) ⟨fun h => (by cases h), fun h => by omega⟩ (sA2Ff hb o bA h0 (Nat.pos_of_ne_zero fun e => by have := hn.2 e; cases this) G s)
    | true => exact q2 (n' := false) ⟨fun h => (by cases h), fun h => by omega⟩ (sA2Ft hb o bA h0 (hn.1 rfl) G s)
  | 2, he, q, s =>
    have h0 : (u.us i).la = 0 := q
    cases n with
    | false =>
      have hp : 0 < c.lt := Nat.pos_of_ne_zero fun e => by have := hn.2 e; cases this
      exact q2 (n' := false) ⟨fun h => (by cases h), fun h => by omega⟩ (sA2nf hb o bA h0 hp G s)
    | true => exact q2 (n' := true) ⟨fun _ => by have := hn.1 rfl; omega, fun _ => rfl⟩ (sA2nt hb o bA h0 (hn.1 rfl) G s)
  | 3, he, q, s =>
    have h0 : (u.us i).la = 0 := q
    cases n with
    | false =>
      have hp : 0 < c.lt := Nat.pos_of_ne_zero fun e => by have := hn.2 e; cases this
      exact q2 (n' := false) ⟨fun h => (by cases h), fun h => by omega⟩ (sA2ef hb o bA h0 hp G s)
    | true => exact q2 (n' := true) ⟨fun _ => by have := hn.1 rfl; omega, fun _ => rfl⟩ (sA2et hb o bA h0 (hn.1 rfl) G s)
  | _ + 4, he, q, s => omega
theorem a1 (hb : Base B μ 20000) (oe : ElOk (u.us i)) (h : TxOk (pA1 u c i).x) (hu : i < u.lu) (G : @Gl (TP (pA2 u c i)) B w0) {Q : Exit → Act → World → Prop} : ∀ e, (u.us i).ek = e → (∀ a' w', SC z u c i n e B w0 μ a' w' → (restn 3 cAB).wp Tryz.prog Q a' w') → SU z u c i n B w0 μ a w → cAB.wp Tryz.prog Q a w := by
  intro e he k s
  have q := ekOf (c := c) oe e he
  have e4 := oe.k4
  match e, he, q, k with
  | 0, he, q, k =>
    cases n with
    | false => exact sA10f hb h hu he q G s k
    | true => exact sA10t hb h hu he q G s k
  | 1, he, q, k =>
    cases n with
    | false => exact sA11f hb h hu he q G s k
    | true => exact sA11t hb h hu he q G s k
  | 2, he, q, k =>
    cases n with
    | false => exact sA12f hb h hu he q G s k
    | true => exact sA12t hb h hu he q G s k
  | 3, he, q, k =>
    cases n with
    | false => exact sA13f hb h hu he q G s k
    | true => exact sA13t hb h hu he q G s k
  | _ + 4, he, q, k => omega
/-- what is known between the rounds' parts -/
structure Iv (u : Ue) (c : Co) (i : Nat) (n : Bool) (l m k : Nat) : Prop where
  r : Cr c
  b : Bd c l m k
  n : n = true ↔ c.lt = 0
  q : 0 < i → 0 < u.ln → 0 < c.lt
def QB (y z : Bool) (u : Ue) (i : Nat) (B : Kp) (w0 : World) (μ : M) (x : Exit) (a : Act) (w : World) : Prop := x = .normal ∧ ∃ c n, Iv u c i n (81 * i + 60) (bT i + 18 + wd (81 * i + 60)) (4 + 3 * i) ∧ SB y z u c i n B w0 μ a w
theorem bnd (hi : i < 8) : bT i + 18 + wd (81 * i + 60) + wd (81 * i + 81) ≤ 1620 := by
  have h1 := bT_le (i + 1) 8 hi
  rw [bT_8] at h1
  exact h1
theorem wd60 : wd 60 = 18 := by decide
theorem halfA (hy : y = true → u.lu = 0) (hb : Base B μ 20000) (o : UOk u) (hi : i < 8) (v : Iv u c i n (81 * i) (bT i) (2 + 3 * i)) (g : Gs u B w0) (s : SA y z u c i n B w0 μ a w) : cA.wp Tryz.prog (QB y z u i B w0 μ) a w := by
  have h0 := bnd hi
  by_cases hu : i < u.lu
  · obtain rfl : y = false := by
      cases y with
      | false => rfl
      | true => have := hy rfl; omega
    have oe := o.el i
    have k1 := oe.a60
    have k2 := wd_mono k1
    rw [wd60] at k2
    have k3 := v.b.lt; have k4 := v.b.tot; have k5 := v.b.cnt
    have h1 : TxOk (pA1 u c i).x := v.r.tx v.b (n := (u.us i).la) (by omega) (by omega) (by omega) oe.hA
    have r1 : Cr (cT u c i) := v.r.cT h1
    have b1 : Bd (cT u c i) (81 * i) (bT i + 18) (3 + 3 * i) := ⟨k3, by show c.tot + wd (u.us i).la ≤ _; omega, by show c.cnt + 1 ≤ _; omega⟩
    have k6 : c.lt + (u.us i).la ≤ 81 * i + 60 := by omega
    have k7 := wd_mono k6
    have h2 : TxOk (pA2 u c i).x := r1.tx b1 (n := c.lt + (u.us i).la) (by omega) (by omega) (by omega) (cat_b v.r.hC oe.hA)
    have o2 : Ok (pA2 u c i) := r1.ok2 h2 (by omega)
    have bA := bA_ok h1 o
    rw [cA_eq]
    refine wp_seq (wp_mono (sU hb hu s) ?_)
    rintro x x1 y1 ⟨rfl, s1⟩
    show (Code.cond (.tmp 67) cAB .skip).wp _ _ _ _
    refine wp_cond (t := true) (St.evB s1 (by cases n <;> kernel_rfl)) ?_
    show cAB.wp _ _ _ _
    refine a1 hb oe h1 hu (g _ _).2.1 _ rfl (fun a2' w2' s2 => ?_) s1
    refine wp_mono (a2 hb oe o2 bA v.n (g _ _).2.2 _ rfl s2) ?_
    rintro x a3 w3 ⟨rfl, n', hn', s3⟩
    refine ⟨rfl, _, n', ⟨cQ_ok o2, ⟨k6, ?_, ?_⟩, hn', fun p q => ?_⟩, s3⟩
    · have k8 := b1.tot
      show (cT u c i).tot + wd (c.lt + (u.us i).la) ≤ _
      omega
    · show c.cnt + 1 + 1 ≤ _
      omega
    · have := v.q p q
      show 0 < c.lt + (u.us i).la
      omega
  · refine wp_mono (sV hb hu g s) ?_
    rintro x x1 y1 ⟨rfl, s1⟩
    have k3 := v.b.lt; have k4 := v.b.tot; have k5 := v.b.cnt
    exact ⟨rfl, c, n, ⟨v.r, ⟨by omega, by omega, by omega⟩, v.n, v.q⟩, s1⟩
end
end Go.Proofs.YtkkaifeiopjjdaaGreatDoor.bd
