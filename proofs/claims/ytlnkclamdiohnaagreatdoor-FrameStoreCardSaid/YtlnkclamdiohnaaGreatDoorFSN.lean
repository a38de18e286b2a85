/-
  The law FrameStore: its hands and its table.
-/
import Derived.Test.YtlnkclamdiohnaaGreatDoorFSV
import Derived.Test.YtlnkclamdiohnaaGreatDoorSQT
set_option linter.unusedVariables false
set_option linter.unusedSimpArgs false
set_option linter.unusedSectionVars false
set_option maxRecDepth 1000000
set_option maxHeartbeats 0
namespace Go.Proofs.YtlnkclamdiohnaaGreatDoor.fp
open Go.X Go.RowKit Go.Proofs
noncomputable def rowM (off : Nat) (m : Nat) : List AV := Nat.rec (motive := fun _ => List AV) [] (fun t ih => ih ++ [.oi (7 + 2 * (off + t)), .ostr (off + t), .oi (8 + 2 * (off + t))]) m
theorem rowM_len (off : Nat) : ∀ i, (rowM off i).length = 3 * i
  | 0 => rfl
  | i + 1 => by
    show (rowM off i ++ ([.oi (7 + 2 * (off + i)), .ostr (off + i), .oi (8 + 2 * (off + i))] : List AV)).length = _
    rw [List.length_append, rowM_len off i]
    simp
    omega
theorem rowM_at (off : Nat) : ∀ i m, m < 3 * i → (rowM off i)[m]? = some (if m % 3 = 0 then .oi (7 + 2 * (off + m / 3)) else if m % 3 = 1 then .ostr (off + m / 3) else .oi (8 + 2 * (off + m / 3)))
  | 0, m, h => by omega
  | i + 1, m, h => by
    show (rowM off i ++ ([.oi (7 + 2 * (off + i)), .ostr (off + i), .oi (8 + 2 * (off + i))] : List AV))[m]? = _
    by_cases hm : m < 3 * i
    · rw [List.getElem?_append_left (by rw [rowM_len]; exact hm)]
      exact rowM_at off i m hm
    · rw [List.getElem?_append_right (by rw [rowM_len]; omega), rowM_len]
      obtain ⟨q, rfl⟩ : ∃ q, m = 3 * i + q := ⟨m - 3 * i, by omega⟩
      rw [show 3 * i + q - 3 * i = q by omega]
      match q with
      | 0 => rw [if_pos (by omega), show (3 * i + 0) / 3 = i by omega]; rfl
      | 1 => rw [if_neg (by omega), if_pos (by omega), show (3 * i + 1) / 3 = i by omega]; rfl
      | 2 => rw [if_neg (by omega), if_neg (by omega), show (3 * i + 2) / 3 = i by omega]; rfl
      | q + 3 => omega
def cellC (V : Vs) (m : Nat) : AV := if m % 3 = 0 then .int .i64 (V.kf (m / 3)) else if m % 3 = 1 then .str (V.nf (m / 3)).size (enc (V.nf (m / 3)).data.toList) else .int .i64 (V.af (m / 3))
theorem cellC_mk [Tab] (V : Vs) (m : Nat) (μ : M) : vrel μ (cellC V m) (valU V m) := by
  unfold cellC valU
  split
  · simp only [vrel]
  · split
    · exact vrel_string _
    · simp only [vrel]
theorem cellC_is [Tab] {V : Vs} {m : Nat} {μ : M} {v : Value} (h : vrel μ (cellC V m) v) : v = valU V m := by
  unfold cellC at h
  unfold valU
  by_cases m0 : m % 3 = 0
  · rw [if_pos m0] at h ⊢
    simp only [vrel] at h
    exact h
  · rw [if_neg m0] at h ⊢
    by_cases m1 : m % 3 = 1
    · rw [if_pos m1] at h ⊢
      simp only [vrel] at h
      rw [h.2]
      exact congrArg Value.string (strOf_enc _)
    · rw [if_neg m1] at h ⊢
      simp only [vrel] at h
      exact h
section
variable [Tab] {V : Vs} {q j len m off n : Nat} {r : Rec3}
theorem cut_run (hb : Tab.fb q = (V.b, V.o)) (hc : Tab.fcap q = V.cap) (hf : ∀ m, m < 3 * V.cnt → Tab.fv q m = some (cellC V m)) (hj : Tab.iv j = (.i64, (len : Int))) (g : GivU6 n V len r) {B : Kp} {w0 : World} {μ : M} {h : H} {w : World} (hr : HR B w0 μ h w) {args' : Array Value} (hva : vrels μ [.fo q j 3, .int .i64 (n : Int)] args'.toList) {Q : Ending → World → Prop}
    (hQ : ∀ e w', Below w.heap.size w w' ∧ ((min len n = 0 ∧ e = .returned (.slice none 0 0)) ∨ (0 < min len n ∧ ∃ b base cap, e = .returned (.slice (some ⟨b, base, none⟩) (min len n) cap) ∧ w.heap.size ≤ b ∧ min len n ≤ cap ∧ (∃ arr el fz, w'.heap[b]? = some (.cells arr el fz) ∧ arr.size = base + cap * 3 ∧ ∀ i, i < base + cap * 3 → ¬ (fz.1 ≤ i ∧ i < fz.2)) ∧ ∀ m, m < 3 * min len n → w'.cell? ⟨b, base + m, none⟩ = some (valR r m))) → Q e w') : Calls Tryz.prog 6 args' w Q := by
  obtain ⟨v1, l1, e1, g1, v2, l2, e2, g2, e3⟩ := hva
  have e3' : l2 = [] := e3
  subst e3' e2
  simp only [vrel] at g1 g2
  obtain ⟨_, _, rfl⟩ := g1
  subst g2
  have eL : (Tab.iv j).2.toNat = len := by rw [hj]; simp
  have ea : args' = #[.slice (some ⟨V.b, V.o, none⟩) len V.cap, .int .i64 (n : Int)] := by
    cases args' with
    | mk l => rw [eL, hb, hc] at e1; rw [← e1]
  subst ea
  refine (g w fun m hm => ?_).mono hQ
  obtain ⟨_, v, h1, h2⟩ := hr.below.frgn (hf m hm)
  rw [hb] at h1
  rw [h1, cellC_is h2]
theorem callCut0_ok (hb : Tab.fb q = (V.b, V.o)) (hc : Tab.fcap q = V.cap) (hf : ∀ m, m < 3 * V.cnt → Tab.fv q m = some (cellC V m)) (hj : Tab.iv j = (.i64, (len : Int))) (g : GivU6 n V len r) (hm : min len n = 0) (h : H) : CallOk Tryz.prog 6 [.fo q j 3, .int .i64 (n : Int)] h (.nils, h) := by
  intro B w0 μ w args' hr hva
  refine cut_run hb hc hf hj g hr hva ?_
  rintro e w' ⟨hbl, ⟨_, rfl⟩ | ⟨h1, _⟩⟩
  · exact ⟨_, μ, rfl, Ext.refl _, by simp only [vrel], hr.grow hbl⟩
  · omega
theorem callCut_ok (hb : Tab.fb q = (V.b, V.o)) (hc : Tab.fcap q = V.cap) (hf : ∀ m, m < 3 * V.cnt → Tab.fv q m = some (cellC V m)) (hj : Tab.iv j = (.i64, (len : Int))) (g : GivU6 n V len r) (hn8 : n ≤ 8) (hm : min len n = m) (hm0 : 0 < m)
    (hk : ∀ t, t < m → Tab.iv (7 + 2 * (off + t)) = (.i64, r.1 t)) (hn : ∀ t, t < m → Tab.str (off + t) = r.2.1 t) (ha : ∀ t, t < m → Tab.iv (8 + 2 * (off + t)) = (.i64, r.2.2 t)) {h h' : H} {x : Nat} (e : h.alloc (rowOf (rowM off m) true) = some (x, h')) : CallOk Tryz.prog 6 [.fo q j 3, .int .i64 (n : Int)] h (.so x 0 m 3, h') := by
  intro B w0 μ w args' hr hva
  have hq := At.ofAlloc hr e
  refine cut_run hb hc hf hj g hr hva ?_
  rintro e w' ⟨hbl, ⟨h0, _⟩ | ⟨h1, b, base, cap, rfl, hlt, hle, ⟨arr, el, fz, k1, k2, k3⟩, hcell⟩⟩
  · omega
  · rw [hm] at hle hcell ⊢
    refine ⟨_, upm μ x ⟨b, base, base + cap * 3⟩, rfl, Ext.upm _ hq.new, ?_, hr.alloc hq rfl hbl hlt ⟨arr, el, fz, k1, k2, k3, ?_, (fun h => by cases h), ?_⟩⟩
    · simp only [vrel]
      refine ⟨⟨b, base, base + cap * 3⟩, cap, by simp [upm], hle, ?_, rfl⟩
      show base + 0 + cap * 3 = base + cap * 3
      omega
    · show base + (rowM off m).length ≤ base + cap * 3
      rw [rowM_len]
      omega
    · intro k a hk' ha'
      have hk3 : k < 3 * m := by have : k < (rowM off m).length := hk'; rw [rowM_len] at this; exact this
      rw [cellOf_row (rowM off m) k (by rw [rowM_len]; unfold limit; omega), rowM_at off m k hk3] at ha'
      cases ha'
      have h6 := hcell k hk3
      refine ⟨valR r k, by simpa [World.cell?, k1] using h6, ?_⟩
      have ht : k / 3 < m := by omega
      unfold valR
      by_cases m0 : k % 3 = 0
      · rw [if_pos m0, if_pos m0]; simp only [vrel]; rw [hk _ ht]
      · rw [if_neg m0, if_neg m0]
        by_cases m1 : k % 3 = 1
        · rw [if_pos m1, if_pos m1]; simp only [vrel]; rw [hn _ ht]
        · rw [if_neg m1, if_neg m1]; simp only [vrel]; rw [ha _ ht]
end
/-- what comes in, and what the cuts give -/
structure Pm where
  aN : Int
  aB : Int
  aW : Int
  l1 : Nat
  l2 : Nat
  Kn : Nat → Int
  Nm : Nat → ByteArray
  At : Nat → Int
  V1 : Vs
  V2 : Vs
noncomputable def nOf (vl : Bool) : Int := Bool.rec 1 2 vl
noncomputable abbrev ivN (p : Pm) (vl : Bool) : Nat → IntKind × Int
  | 0 => (.i64, p.aN)
  | 1 => (.i64, (p.l1 : Int))
  | 2 => (.i64, (p.l2 : Int))
  | 3 => (.i64, p.aB)
  | 4 => (.i64, p.aW)
  | 5 => (.i64, addv .i64 p.aB (nOf vl))
  | 6 => (.i64, addv .i64 p.aW (nOf vl))
  | m + 7 => if m % 2 = 0 then (.i64, p.Kn (m / 2)) else (.i64, p.At (m / 2))
theorem ivN_k (p : Pm) (vl : Bool) (t : Nat) : ivN p vl (7 + 2 * t) = (.i64, p.Kn t) := by
  rw [show 7 + 2 * t = 2 * t + 7 by omega]
  show (if 2 * t % 2 = 0 then (IntKind.i64, p.Kn (2 * t / 2)) else (IntKind.i64, p.At (2 * t / 2))) = _
  rw [if_pos (by omega), show 2 * t / 2 = t by omega]
theorem ivN_a (p : Pm) (vl : Bool) (t : Nat) : ivN p vl (8 + 2 * t) = (.i64, p.At t) := by
  rw [show 8 + 2 * t = (2 * t + 1) + 7 by omega]
  show (if (2 * t + 1) % 2 = 0 then (IntKind.i64, p.Kn ((2 * t + 1) / 2)) else (IntKind.i64, p.At ((2 * t + 1) / 2))) = _
  rw [if_neg (by omega), show (2 * t + 1) / 2 = t by omega]
noncomputable def sameRows : List BRow := (List.range 9).map (fun t => (10, .oi (7 + 2 * t), .oi (7 + 2 * t), .bool false)) ++ (List.range 9).map (fun t => (10, .oi (8 + 2 * t), .oi (8 + 2 * t), .bool false))
theorem ne_self {iv : Nat → IntKind × Int} {i : Nat} {n : Int} (h : iv i = (.i64, n)) : IbOk iv (10, .oi i, .oi i, .bool false) := by
  have hd : denI iv (.oi i) = some (.i64, n) := by show some (iv i) = _; rw [h]
  exact ibB (op := .neq) rfl rfl (k := .i64) (a := n) (b := n) hd hd (tB (by simp))
theorem sameRows_ok (p : Pm) (vl : Bool) : ∀ r ∈ sameRows, IbOk (ivN p vl) r := by
  intro r hr
  unfold sameRows at hr
  rcases List.mem_append.1 hr with hr | hr
  · obtain ⟨t, _, rfl⟩ := List.mem_map.1 hr
    exact ne_self (ivN_k p vl t)
  · obtain ⟨t, _, rfl⟩ := List.mem_map.1 hr
    exact ne_self (ivN_a p vl t)
/-- which places are asked, and which of them are longs -/
noncomputable def kRows (ds : List Bool) : Nat → List BRow := List.rec (motive := fun _ => Nat → List BRow) (fun _ => []) (fun b _ ih t => (9, .oi (7 + 2 * t), .int .i64 4, .bool b) :: ih (Bool.rec (t + 1) (t + 2) b)) ds
noncomputable def decs (f : Nat → Bool) : Nat → Nat → List Bool
  | 0, _ => []
  | 1, t => [f t]
  | r + 2, t => Bool.rec (false :: decs f (r + 1) (t + 1)) (true :: decs f r (t + 2)) (f t)
def lists : Nat → List (List Bool)
  | 0 => [[]]
  | 1 => [[false], [true]]
  | r + 2 => (lists (r + 1)).map (false :: ·) ++ (lists r).map (true :: ·)
theorem decs_in (f : Nat → Bool) : ∀ r t, decs f r t ∈ lists r
  | 0, _ => by simp [decs, lists]
  | 1, t => by simp only [decs, lists]; cases f t <;> simp
  | r + 2, t => by
    simp only [decs, lists]
    cases f t with
    | false => exact List.mem_append_left _ (List.mem_map.2 ⟨_, decs_in f (r + 1) (t + 1), rfl⟩)
    | true => exact List.mem_append_right _ (List.mem_map.2 ⟨_, decs_in f r (t + 2), rfl⟩)
theorem kRows_ok {p : Pm} {vl : Bool} {f : Nat → Bool} (hf : ∀ t, decide (p.Kn t = 4) = f t) : ∀ r t, ∀ x ∈ kRows (decs f r t) t, IbOk (ivN p vl) x := by
  have one : ∀ t, IbOk (ivN p vl) (9, .oi (7 + 2 * t), .int .i64 4, .bool (f t)) := fun t => by
    have hd : denI (ivN p vl) (.oi (7 + 2 * t)) = some (.i64, p.Kn t) := by show some (ivN p vl (7 + 2 * t)) = _; rw [ivN_k]
    exact ibB (op := .eql) rfl rfl (k := .i64) (a := p.Kn t) (b := 4) hd rfl (tB (hf t))
  intro r
  induction r using Nat.strongRecOn with
  | ind r ih =>
    intro t
    match r, ih with
    | 0, _ => intro x hx; exact absurd hx List.not_mem_nil
    | 1, _ => exact ibCons (one t) ibNil
    | r + 2, ih =>
      have h1 := one t
      simp only [decs]
      cases e : f t with
      | false => rw [e] at h1; exact ibCons h1 (ih (r + 1) (by omega) (t + 1))
      | true => rw [e] at h1; exact ibCons h1 (ih r (by omega) (t + 2))
noncomputable def atRows (m : Nat) (vl : Bool) : List BRow :=
  (11, .oi 0, .int .i64 0, .bool true) :: (14, .oi 0, .int .i64 0, .bool false) ::
  (11, .oi 3, .int .i64 0, .bool false) :: (14, .oi 3, .int .i64 0, .bool true) :: (13, .oi 3, .int .i64 (Int.sub (m : Int) (nOf vl)), .bool true) :: (0, .oi 3, .int .i64 (nOf vl), .oi 5) :: (12, .oi 5, .int .i64 (m : Int), .bool false) :: (11, .oi 3, .int .i64 (m : Int), .bool false) ::
  (11, .oi 4, .int .i64 0, .bool false) :: (14, .oi 4, .int .i64 0, .bool true) :: (13, .oi 4, .int .i64 (Int.sub (m : Int) (nOf vl)), .bool true) :: (0, .oi 4, .int .i64 (nOf vl), .oi 6) :: (12, .oi 6, .int .i64 (m : Int), .bool true) :: (11, .oi 4, .int .i64 (m : Int), .bool false) :: []
structure OkN (p : Pm) (m : Nat) (ds : List Bool) (e vl : Bool) : Prop where
  hk : ∀ r ∈ kRows ds 0, IbOk (ivN p vl) r
  hv : e = true → decide (p.Kn 8 = 4) = vl
  hN : e = true → p.aN < 0
  hB : e = true → (m : Int) ≤ p.aB
  hB2 : e = true → ¬ addv .i64 p.aB (nOf vl) ≤ (m : Int)
  hW : e = true → (m : Int) ≤ p.aW
  hW2 : e = true → addv .i64 p.aW (nOf vl) ≤ (m : Int)
noncomputable def rowsN (m : Nat) (ds : List Bool) (e vl : Bool) : List BRow := kRows ds 0 ++ (Bool.rec sameRows ((9, .oi 23, .int .i64 4, .bool vl) :: (atRows m vl ++ sameRows)) e)
theorem ibApp {iv : Nat → IntKind × Int} {l k : List BRow} (h : ∀ r ∈ l, IbOk iv r) (h' : ∀ r ∈ k, IbOk iv r) : ∀ r ∈ l ++ k, IbOk iv r := fun r hr => (List.mem_append.1 hr).elim (h r) (h' r)
theorem nOf_pos (vl : Bool) : 1 ≤ nOf vl := by cases vl <;> decide
theorem rowsN_ok {p : Pm} {m : Nat} {ds : List Bool} {e vl : Bool} (h : OkN p m ds e vl) : ∀ r ∈ rowsN m ds e vl, IbOk (ivN p vl) r := by
  refine ibApp h.hk ?_
  cases e with
  | false => exact sameRows_ok p vl
  | true =>
    have n1 := nOf_pos vl
    have h1 := h.hN rfl
    have h2 := h.hB rfl
    have h3 := h.hB2 rfl
    have h4 := h.hW rfl
    have h5 := h.hW2 rfl
    have hs : Int.sub (m : Int) (nOf vl) = (m : Int) - nOf vl := rfl
    refine ibCons (ibB (op := .eql) rfl rfl (k := .i64) (a := p.Kn 8) (b := 4) rfl rfl (tB (h.hv rfl))) (ibApp ?_ (sameRows_ok p vl))
    refine ibCons (ibB (op := .lss) rfl rfl (k := .i64) (a := p.aN) (b := 0) rfl rfl (tB (decide_eq_true h1))) ?_
    refine ibCons (ibB (op := .geq) rfl rfl (k := .i64) (a := p.aN) (b := 0) rfl rfl (tB (decide_eq_false (by omega)))) ?_
    refine ibCons (ibB (op := .lss) rfl rfl (k := .i64) (a := p.aB) (b := 0) rfl rfl (tB (decide_eq_false (by omega)))) ?_
    refine ibCons (ibB (op := .geq) rfl rfl (k := .i64) (a := p.aB) (b := 0) rfl rfl (tB (decide_eq_true (by omega)))) ?_
    refine ibCons (ibB (op := .gtr) rfl rfl (k := .i64) (a := p.aB) (b := Int.sub (m : Int) (nOf vl)) rfl rfl (tB (decide_eq_true (by rw [hs]; omega)))) ?_
    refine ibCons (ibAddv (k := .i64) (a := p.aB) (b := nOf vl) rfl rfl rfl) ?_
    refine ibCons (ibB (op := .leq) rfl rfl (k := .i64) (a := addv .i64 p.aB (nOf vl)) (b := (m : Int)) rfl rfl (tB (decide_eq_false h3))) ?_
    refine ibCons (ibB (op := .lss) rfl rfl (k := .i64) (a := p.aB) (b := (m : Int)) rfl rfl (tB (decide_eq_false (by omega)))) ?_
    refine ibCons (ibB (op := .lss) rfl rfl (k := .i64) (a := p.aW) (b := 0) rfl rfl (tB (decide_eq_false (by omega)))) ?_
    refine ibCons (ibB (op := .geq) rfl rfl (k := .i64) (a := p.aW) (b := 0) rfl rfl (tB (decide_eq_true (by omega)))) ?_
    refine ibCons (ibB (op := .gtr) rfl rfl (k := .i64) (a := p.aW) (b := Int.sub (m : Int) (nOf vl)) rfl rfl (tB (decide_eq_true (by rw [hs]; omega)))) ?_
    refine ibCons (ibAddv (k := .i64) (a := p.aW) (b := nOf vl) rfl rfl rfl) ?_
    refine ibCons (ibB (op := .leq) rfl rfl (k := .i64) (a := addv .i64 p.aW (nOf vl)) (b := (m : Int)) rfl rfl (tB (decide_eq_true h5))) ?_
    exact ibCons (ibB (op := .lss) rfl rfl (k := .i64) (a := p.aW) (b := (m : Int)) rfl rfl (tB (decide_eq_false (by omega)))) ibNil
noncomputable def eqRows : List TRow := (List.range 9).map fun t => (4, [.ostr t, .ostr t], .bool true)
theorem eqRows_ok {iv : Nat → IntKind × Int} {str : Nat → ByteArray} : ∀ r ∈ eqRows, TrOk str iv r.1 r.2.1 r.2.2 := by
  intro r hr
  obtain ⟨t, _, rfl⟩ := List.mem_map.1 hr
  exact trEq (a := str t) (b := str t) rfl rfl ⟨fun _ => rfl, fun _ => rfl⟩
abbrev fgN (p : Pm) : Fgn where
  fb := fun i => match i with | 0 => (p.V1.b, p.V1.o) | _ => (p.V2.b, p.V2.o)
  fcap := fun i => match i with | 0 => p.V1.cap | _ => p.V2.cap
  fv := fun i m => match i with | 0 => if m < 3 * p.V1.cnt then some (cellC p.V1 m) else none | 1 => if m < 3 * p.V2.cnt then some (cellC p.V2 m) else none | _ => none
noncomputable abbrev TM (p : Pm) (m : Nat) (ds : List Bool) (e vl : Bool) (h : OkN p m ds e vl) : Tab := TF (ivN p vl) p.Nm (fgN p) (rowsN m ds e vl) (rowsN_ok h) [] allNil [] allNil eqRows eqRows_ok
noncomputable def cutHand (q j n off m : Nat) : Hand := Nat.rec (motive := fun _ => Hand) (oneHand 6 [.fo q j 3, .int .i64 (n : Int)] .nils) (fun k _ => newHand 6 [.fo q j 3, .int .i64 (n : Int)] (rowOf (rowM off (k + 1)) true) fun x => .so x 0 (k + 1) 3) m
noncomputable def argM (i j c : Nat) : AV := Bool.rec (.fo i j 3) .nils (Nat.beq c 0)
noncomputable def KM (c d : Nat) : Hand := (oneHand 5 [] (.bool true)).or ((cutHand 0 1 8 0 (c - 1)).or ((cutHand 1 2 1 8 (d - 1)).or (sumsHand tabT)))
/-- no type to be stored -/
def GF (c d : Nat) (ds : List Bool) : Prop := ∀ (p : Pm) (h : OkN p (c - 1) ds false false), okTrue (@call (TM p (c - 1) ds false false h) Tryz.prog (KM c d) 3000 4 [argM 0 1 c, .oi 0, argM 1 2 d] H.empty) = true
/-- a type is stored, at a place within, below, above, and far above -/
noncomputable def one [Tab] (c : Nat) (a : AV) : Bool := okTrue (call Tryz.prog (KM c 2) 3000 4 [argM 0 1 c, a, argM 1 2 2] H.empty)
noncomputable def within [Tab] (c m : Nat) : Bool := Nat.rec true (fun k ih => Bool.rec false ih (one c (.int .i64 (Int.ofNat k)))) m
noncomputable def whole [Tab] (c : Nat) : Bool := Bool.rec false (Bool.rec false (Bool.rec false (within c (c - 1)) (one c (.oi 4))) (one c (.oi 3))) (one c (.oi 0))
def GT (c : Nat) (vl : Bool) (ds : List Bool) : Prop := ∀ (p : Pm) (h : OkN p (c - 1) ds true vl), @whole (TM p (c - 1) ds true vl h) c = true
theorem bAnd {x y : Bool} (h : (Bool.rec false y x : Bool) = true) : x = true ∧ y = true := by cases x with | false => cases h | true => exact ⟨rfl, h⟩
theorem within_at [Tab] {c : Nat} : ∀ m, within c m = true → ∀ k, k < m → one c (.int .i64 (Int.ofNat k)) = true
  | 0, _, k, hk => absurd hk (Nat.not_lt_zero k)
  | m + 1, h, k, hk => by
    have h' : (Bool.rec false (within c m) (one c (.int .i64 (Int.ofNat m))) : Bool) = true := h
    obtain ⟨h1, h2⟩ := bAnd h'
    by_cases e : k = m
    · rw [e]; exact h1
    · exact within_at m h2 k (by omega)
theorem whole_at [Tab] {c : Nat} (h : whole c = true) : one c (.oi 0) = true ∧ one c (.oi 3) = true ∧ one c (.oi 4) = true ∧ ∀ k, k < c - 1 → one c (.int .i64 (Int.ofNat k)) = true := by
  have h' : (Bool.rec false (Bool.rec false (Bool.rec false (within c (c - 1)) (one c (.oi 4)) : Bool) (one c (.oi 3)) : Bool) (one c (.oi 0)) : Bool) = true := h
  obtain ⟨h1, h2⟩ := bAnd h'
  obtain ⟨h3, h4⟩ := bAnd h2
  obtain ⟨h5, h6⟩ := bAnd h4
  exact ⟨h1, h3, h5, within_at _ h6⟩
theorem lCons {P : List Bool → Prop} {a : List Bool} {l : List (List Bool)} (h : P a) (h' : ∀ x ∈ l, P x) : ∀ x ∈ a :: l, P x := fun x hx => (List.mem_cons.1 hx).elim (fun e => e ▸ h) (h' x)
theorem lNil {P : List Bool → Prop} : ∀ x ∈ ([] : List (List Bool)), P x := fun x hx => absurd hx List.not_mem_nil
theorem lApp {P : List Bool → Prop} {l k : List (List Bool)} (h : ∀ x ∈ l, P x) (h' : ∀ x ∈ k, P x) : ∀ x ∈ l ++ k, P x := fun x hx => (List.mem_append.1 hx).elim (h x) (h' x)
abbrev bo := false
abbrev bx := true
abbrev K0_0 : List (List Bool) := [[]]
theorem e0 : lists 0 = K0_0 := by decide +kernel
abbrev K1_0 : List (List Bool) := [[bo],[bx]]
theorem e1 : lists 1 = K1_0 := by decide +kernel
abbrev K2_0 : List (List Bool) := [[bo,bo],[bo,bx],[bx]]
theorem e2 : lists 2 = K2_0 := by decide +kernel
abbrev K3_0 : List (List Bool) := [[bo,bo,bo],[bo,bo,bx],[bo,bx],[bx,bo],[bx,bx]]
theorem e3 : lists 3 = K3_0 := by decide +kernel
abbrev K4_0 : List (List Bool) := [[bo,bo,bo,bo],[bo,bo,bo,bx],[bo,bo,bx],[bo,bx,bo],[bo,bx,bx],[bx,bo,bo],[bx,bo,bx],[bx,bx]]
theorem e4 : lists 4 = K4_0 := by decide +kernel
abbrev K5_0 : List (List Bool) := [[bo,bo,bo,bo,bo],[bo,bo,bo,bo,bx],[bo,bo,bo,bx],[bo,bo,bx,bo],[bo,bo,bx,bx],[bo,bx,bo,bo],[bo,bx,bo,bx],[bo,bx,bx],[bx,bo,bo,bo],[bx,bo,bo,bx]]
abbrev K5_1 : List (List Bool) := [[bx,bo,bx],[bx,bx,bo],[bx,bx,bx]]
theorem e5 : lists 5 = K5_0 ++ (K5_1) := by decide +kernel
abbrev K6_0 : List (List Bool) := [[bo,bo,bo,bo,bo,bo],[bo,bo,bo,bo,bo,bx],[bo,bo,bo,bo,bx],[bo,bo,bo,bx,bo],[bo,bo,bo,bx,bx],[bo,bo,bx,bo,bo],[bo,bo,bx,bo,bx],[bo,bo,bx,bx],[bo,bx,bo,bo,bo],[bo,bx,bo,bo,bx]]
abbrev K6_1 : List (List Bool) := [[bo,bx,bo,bx],[bo,bx,bx,bo],[bo,bx,bx,bx],[bx,bo,bo,bo,bo],[bx,bo,bo,bo,bx],[bx,bo,bo,bx],[bx,bo,bx,bo],[bx,bo,bx,bx],[bx,bx,bo,bo],[bx,bx,bo,bx]]
abbrev K6_2 : List (List Bool) := [[bx,bx,bx]]
theorem e6 : lists 6 = K6_0 ++ (K6_1 ++ (K6_2)) := by decide +kernel
abbrev K7_0 : List (List Bool) := [[bo,bo,bo,bo,bo,bo,bo],[bo,bo,bo,bo,bo,bo,bx],[bo,bo,bo,bo,bo,bx],[bo,bo,bo,bo,bx,bo],[bo,bo,bo,bo,bx,bx],[bo,bo,bo,bx,bo,bo],[bo,bo,bo,bx,bo,bx],[bo,bo,bo,bx,bx],[bo,bo,bx,bo,bo,bo],[bo,bo,bx,bo,bo,bx]]
abbrev K7_1 : List (List Bool) := [[bo,bo,bx,bo,bx],[bo,bo,bx,bx,bo],[bo,bo,bx,bx,bx],[bo,bx,bo,bo,bo,bo],[bo,bx,bo,bo,bo,bx],[bo,bx,bo,bo,bx],[bo,bx,bo,bx,bo],[bo,bx,bo,bx,bx],[bo,bx,bx,bo,bo],[bo,bx,bx,bo,bx]]
abbrev K7_2 : List (List Bool) := [[bo,bx,bx,bx],[bx,bo,bo,bo,bo,bo],[bx,bo,bo,bo,bo,bx],[bx,bo,bo,bo,bx],[bx,bo,bo,bx,bo],[bx,bo,bo,bx,bx],[bx,bo,bx,bo,bo],[bx,bo,bx,bo,bx],[bx,bo,bx,bx],[bx,bx,bo,bo,bo]]
abbrev K7_3 : List (List Bool) := [[bx,bx,bo,bo,bx],[bx,bx,bo,bx],[bx,bx,bx,bo],[bx,bx,bx,bx]]
theorem e7 : lists 7 = K7_0 ++ (K7_1 ++ (K7_2 ++ (K7_3))) := by decide +kernel
abbrev K8_0 : List (List Bool) := [[bo,bo,bo,bo,bo,bo,bo,bo],[bo,bo,bo,bo,bo,bo,bo,bx],[bo,bo,bo,bo,bo,bo,bx],[bo,bo,bo,bo,bo,bx,bo],[bo,bo,bo,bo,bo,bx,bx],[bo,bo,bo,bo,bx,bo,bo],[bo,bo,bo,bo,bx,bo,bx],[bo,bo,bo,bo,bx,bx],[bo,bo,bo,bx,bo,bo,bo],[bo,bo,bo,bx,bo,bo,bx]]
abbrev K8_1 : List (List Bool) := [[bo,bo,bo,bx,bo,bx],[bo,bo,bo,bx,bx,bo],[bo,bo,bo,bx,bx,bx],[bo,bo,bx,bo,bo,bo,bo],[bo,bo,bx,bo,bo,bo,bx],[bo,bo,bx,bo,bo,bx],[bo,bo,bx,bo,bx,bo],[bo,bo,bx,bo,bx,bx],[bo,bo,bx,bx,bo,bo],[bo,bo,bx,bx,bo,bx]]
abbrev K8_2 : List (List Bool) := [[bo,bo,bx,bx,bx],[bo,bx,bo,bo,bo,bo,bo],[bo,bx,bo,bo,bo,bo,bx],[bo,bx,bo,bo,bo,bx],[bo,bx,bo,bo,bx,bo],[bo,bx,bo,bo,bx,bx],[bo,bx,bo,bx,bo,bo],[bo,bx,bo,bx,bo,bx],[bo,bx,bo,bx,bx],[bo,bx,bx,bo,bo,bo]]
abbrev K8_3 : List (List Bool) := [[bo,bx,bx,bo,bo,bx],[bo,bx,bx,bo,bx],[bo,bx,bx,bx,bo],[bo,bx,bx,bx,bx],[bx,bo,bo,bo,bo,bo,bo],[bx,bo,bo,bo,bo,bo,bx],[bx,bo,bo,bo,bo,bx],[bx,bo,bo,bo,bx,bo],[bx,bo,bo,bo,bx,bx],[bx,bo,bo,bx,bo,bo]]
abbrev K8_4 : List (List Bool) := [[bx,bo,bo,bx,bo,bx],[bx,bo,bo,bx,bx],[bx,bo,bx,bo,bo,bo],[bx,bo,bx,bo,bo,bx],[bx,bo,bx,bo,bx],[bx,bo,bx,bx,bo],[bx,bo,bx,bx,bx],[bx,bx,bo,bo,bo,bo],[bx,bx,bo,bo,bo,bx],[bx,bx,bo,bo,bx]]
abbrev K8_5 : List (List Bool) := [[bx,bx,bo,bx,bo],[bx,bx,bo,bx,bx],[bx,bx,bx,bo,bo],[bx,bx,bx,bo,bx],[bx,bx,bx,bx]]
theorem e8 : lists 8 = K8_0 ++ (K8_1 ++ (K8_2 ++ (K8_3 ++ (K8_4 ++ (K8_5))))) := by decide +kernel
end Go.Proofs.YtlnkclamdiohnaaGreatDoor.fp
