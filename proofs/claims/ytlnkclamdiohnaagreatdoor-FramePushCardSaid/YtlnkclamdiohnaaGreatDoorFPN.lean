/-
  The law FramePush: its hands and its table.
-/
import Derived.Test.YtlnkclamdiohnaaGreatDoorFPX
import Derived.Test.YtlnkclamdiohnaaGreatDoorSQT
set_option linter.unusedVariables false
set_option linter.unusedSimpArgs false
set_option linter.unusedSectionVars false
set_option maxRecDepth 1000000
set_option maxHeartbeats 0
namespace Go.Proofs.YtlnkclamdiohnaaGreatDoor.fp
open Go.X Go.RowKit Go.Proofs
noncomputable def rowM (off : Nat) (m : Nat) : List AV := Nat.rec (motive := fun _ => List AV) [] (fun t ih => ih ++ [.oi (5 + 2 * (off + t)), .ostr (off + t), .oi (6 + 2 * (off + t))]) m
theorem rowM_len (off : Nat) : ∀ i, (rowM off i).length = 3 * i
  | 0 => rfl
  | i + 1 => by
    show (rowM off i ++ ([.oi (5 + 2 * (off + i)), .ostr (off + i), .oi (6 + 2 * (off + i))] : List AV)).length = _
    rw [List.length_append, rowM_len off i]
    simp
    omega
theorem rowM_at (off : Nat) : ∀ i m, m < 3 * i → (rowM off i)[m]? = some (if m % 3 = 0 then .oi (5 + 2 * (off + m / 3)) else if m % 3 = 1 then .ostr (off + m / 3) else .oi (6 + 2 * (off + m / 3)))
  | 0, m, h => by omega
  | i + 1, m, h => by
    show (rowM off i ++ ([.oi (5 + 2 * (off + i)), .ostr (off + i), .oi (6 + 2 * (off + i))] : List AV))[m]? = _
    by_cases hm : m < 3 * i
    · rw [List.getElem?_append_left (by rw [rowM_len]; exact hm)]
      exact rowM_at off i m hm
    · rw [List.getElem?_append_right (by rw [rowM_len]; omega), rowM_len]
      obtain ⟨q, rfl⟩ : ∃ q, m = 3 * i + q := ⟨m - 3 * i, by omega⟩
      rw [show 3 * i + q - 3 * i = q by omega]
      match q with
      | 0 => rw [if_pos (by omega), show (3 * i + 0) / 3 = i by omega]; rfl
      | 1 => rw [if_neg (by omega), if_pos (by omega), show (3 * i + 1) / 3 = i by omega]; rfl
      | 2 => rw [if_neg (by omega), if_neg (by omega), show (3 * i + 2) / 3 = i by omega]; rfl
      | q + 3 => omega
def cellC (V : Vs) (m : Nat) : AV := if m % 3 = 0 then .int .i64 (V.kf (m / 3)) else if m % 3 = 1 then .str (V.nf (m / 3)).size (enc (V.nf (m / 3)).data.toList) else .int .i64 (V.af (m / 3))
theorem cellC_mk [Tab] (V : Vs) (m : Nat) (μ : M) : vrel μ (cellC V m) (valU V m) := by
  unfold cellC valU
  split
  · simp only [vrel]
  · split
    · exact vrel_string _
    · simp only [vrel]
theorem cellC_is [Tab] {V : Vs} {m : Nat} {μ : M} {v : Value} (h : vrel μ (cellC V m) v) : v = valU V m := by
  unfold cellC at h
  unfold valU
  by_cases m0 : m % 3 = 0
  · rw [if_pos m0] at h ⊢
    simp only [vrel] at h
    exact h
  · rw [if_neg m0] at h ⊢
    by_cases m1 : m % 3 = 1
    · rw [if_pos m1] at h ⊢
      simp only [vrel] at h
      rw [h.2]
      exact congrArg Value.string (strOf_enc _)
    · rw [if_neg m1] at h ⊢
      simp only [vrel] at h
      exact h
section
variable [Tab] {V : Vs} {q j len m off : Nat} {r : Rec3}
theorem cut_run (hb : Tab.fb q = (V.b, V.o)) (hc : Tab.fcap q = V.cap) (hf : ∀ m, m < 3 * V.cnt → Tab.fv q m = some (cellC V m)) (hj : Tab.iv j = (.i64, (len : Int))) (g : GivU6 V len r) {B : Kp} {w0 : World} {μ : M} {h : H} {w : World} (hr : HR B w0 μ h w) {args' : Array Value} (hva : vrels μ [.fo q j 3, .int .i64 6] args'.toList) {Q : Ending → World → Prop}
    (hQ : ∀ e w', Below w.heap.size w w' ∧ ((min len 6 = 0 ∧ e = .returned (.slice none 0 0)) ∨ (0 < min len 6 ∧ ∃ b base cap, e = .returned (.slice (some ⟨b, base, none⟩) (min len 6) cap) ∧ w.heap.size ≤ b ∧ min len 6 ≤ cap ∧ (∃ arr el fz, w'.heap[b]? = some (.cells arr el fz) ∧ arr.size = base + cap * 3 ∧ ∀ i, i < base + cap * 3 → ¬ (fz.1 ≤ i ∧ i < fz.2)) ∧ ∀ m, m < 3 * min len 6 → w'.cell? ⟨b, base + m, none⟩ = some (valR r m))) → Q e w') : Calls Tryz.prog 6 args' w Q := by
  obtain ⟨v1, l1, e1, g1, v2, l2, e2, g2, e3⟩ := hva
  have e3' : l2 = [] := e3
  subst e3' e2
  simp only [vrel] at g1 g2
  obtain ⟨_, _, rfl⟩ := g1
  subst g2
  have eL : (Tab.iv j).2.toNat = len := by rw [hj]; simp
  have ea : args' = #[.slice (some ⟨V.b, V.o, none⟩) len V.cap, .int .i64 6] := by
    cases args' with
    | mk l => rw [eL, hb, hc] at e1; rw [← e1]
  subst ea
  refine (g w fun m hm => ?_).mono hQ
  obtain ⟨_, v, h1, h2⟩ := hr.below.frgn (hf m hm)
  rw [hb] at h1
  rw [h1, cellC_is h2]
theorem callCut0_ok (hb : Tab.fb q = (V.b, V.o)) (hc : Tab.fcap q = V.cap) (hf : ∀ m, m < 3 * V.cnt → Tab.fv q m = some (cellC V m)) (hj : Tab.iv j = (.i64, (len : Int))) (g : GivU6 V len r) (hm : min len 6 = 0) (h : H) : CallOk Tryz.prog 6 [.fo q j 3, .int .i64 6] h (.nils, h) := by
  intro B w0 μ w args' hr hva
  refine cut_run hb hc hf hj g hr hva ?_
  rintro e w' ⟨hbl, ⟨_, rfl⟩ | ⟨h1, _⟩⟩
  · exact ⟨_, μ, rfl, Ext.refl _, by simp only [vrel], hr.grow hbl⟩
  · omega
theorem callCut_ok (hb : Tab.fb q = (V.b, V.o)) (hc : Tab.fcap q = V.cap) (hf : ∀ m, m < 3 * V.cnt → Tab.fv q m = some (cellC V m)) (hj : Tab.iv j = (.i64, (len : Int))) (g : GivU6 V len r) (hm : min len 6 = m) (hm0 : 0 < m)
    (hk : ∀ t, t < m → Tab.iv (5 + 2 * (off + t)) = (.i64, r.1 t)) (hn : ∀ t, t < m → Tab.str (off + t) = r.2.1 t) (ha : ∀ t, t < m → Tab.iv (6 + 2 * (off + t)) = (.i64, r.2.2 t)) {h h' : H} {x : Nat} (e : h.alloc (rowOf (rowM off m) true) = some (x, h')) : CallOk Tryz.prog 6 [.fo q j 3, .int .i64 6] h (.so x 0 m 3, h') := by
  intro B w0 μ w args' hr hva
  have hq := At.ofAlloc hr e
  refine cut_run hb hc hf hj g hr hva ?_
  rintro e w' ⟨hbl, ⟨h0, _⟩ | ⟨h1, b, base, cap, rfl, hlt, hle, ⟨arr, el, fz, k1, k2, k3⟩, hcell⟩⟩
  · omega
  · rw [hm] at hle hcell ⊢
    refine ⟨_, upm μ x ⟨b, base, base + cap * 3⟩, rfl, Ext.upm _ hq.new, ?_, hr.alloc hq rfl hbl hlt ⟨arr, el, fz, k1, k2, k3, ?_, (fun h => by cases h), ?_⟩⟩
    · simp only [vrel]
      refine ⟨⟨b, base, base + cap * 3⟩, cap, by simp [upm], hle, ?_, rfl⟩
      show base + 0 + cap * 3 = base + cap * 3
      omega
    · show base + (rowM off m).length ≤ base + cap * 3
      rw [rowM_len]
      omega
    · intro k a hk' ha'
      have hk3 : k < 3 * m := by have : k < (rowM off m).length := hk'; rw [rowM_len] at this; exact this
      rw [cellOf_row (rowM off m) k (by rw [rowM_len]; have := Nat.min_le_right len 6; unfold limit; omega), rowM_at off m k hk3] at ha'
      cases ha'
      have h6 := hcell k hk3
      refine ⟨valR r k, by simpa [World.cell?, k1] using h6, ?_⟩
      have ht : k / 3 < m := by omega
      unfold valR
      by_cases m0 : k % 3 = 0
      · rw [if_pos m0, if_pos m0]; simp only [vrel]; rw [hk _ ht]
      · rw [if_neg m0, if_neg m0]
        by_cases m1 : k % 3 = 1
        · rw [if_pos m1, if_pos m1]; simp only [vrel]; rw [hn _ ht]
        · rw [if_neg m1, if_neg m1]; simp only [vrel]; rw [ha _ ht]
end
noncomputable def rowAV (v : AV) : Option (Nat × Nat × Nat) := match v with
  | .sl x o n c => ifb (Nat.ble n c) (some (x, o, n))
  | .so x o n _ => some (x, o, n)
  | _ => none
theorem rowAV_some [Tab] {u : AV} {x o n : Nat} (e : rowAV u = some (x, o, n)) {μ : M} {v : Value} (h : vrel μ u v) : ∃ l c, μ x = some l ∧ v = .slice (some ⟨l.block, l.base + o, none⟩) n c ∧ n ≤ c := by
  unfold rowAV at e
  split at e
  · obtain ⟨h0, e⟩ := ifb_some e
    cases e
    simp only [vrel] at h
    obtain ⟨l, h1, rfl⟩ := h
    exact ⟨l, _, h1, rfl, Nat.le_of_ble_eq_true h0⟩
  · cases e
    simp only [vrel] at h
    obtain ⟨l, c, h1, h2, h3, rfl⟩ := h
    exact ⟨l, c, h1, rfl, h2⟩
  · cases e
noncomputable def wordsHand (g : FuncId) (E : List AV) (j : Nat) : Hand := fun f args h => ifb (Nat.beq g f) (match args with
  | [u] => ob (rowAV u) fun p => ob (h.loads p.1 p.2.1 (3 * p.2.2)) fun l => ifb (peqs l E) (some (.oi j, h))
  | _ => none)
theorem wordsHand_ok [Tab] {g : FuncId} {E : List AV} {j L : Nat} {kf af : Nat → Int} {nf : Nat → ByteArray} (hg : ∀ (V : Vs) (w : World), V.cnt ≤ 12 → 1 ≤ V.cnt → V.cnt ≤ V.cap → (∀ m, m < 3 * V.cnt → w.cell? ⟨V.b, V.o + m, none⟩ = some (valU V m)) → Calls Tryz.prog g #[.slice (some ⟨V.b, V.o, none⟩) V.cnt V.cap] w fun e w' => e = .returned (.int .i64 ((Wd V.kf V.cnt : Nat) : Int)) ∧ Below w.heap.size w w')
    (hE : E.length = 3 * L) (hv : ∀ k a, E[k]? = some a → ∀ (μ : M) v, vrel μ a v → v = valU ⟨0, 0, 0, L, kf, nf, af⟩ k) (hj : Tab.iv j = (.i64, ((Wd kf L : Nat) : Int))) (h1 : 1 ≤ L) (hL : L ≤ 12) : HandOk Tryz.prog (wordsHand g E j) := by
  intro f args h p e
  unfold wordsHand at e
  obtain ⟨hf, e2⟩ := ifb_some e
  clear e
  have hf := nbeq_iff.1 hf
  subst hf
  split at e2
  · rename_i u
    obtain ⟨⟨x, o, n⟩, hu, e3⟩ := ob_some e2
    obtain ⟨l, hl, e4⟩ := ob_some e3
    obtain ⟨h2, e5⟩ := ifb_some e4
    cases e5
    have h3 := peqs_eq h2
    subst h3
    intro B w0 μ w args' r hva
    obtain ⟨v1, l1, e1, g1, e3⟩ := hva
    have e3' : l1 = [] := e3
    subst e3'
    obtain ⟨la, c, k1, rfl, k2⟩ := rowAV_some hu g1
    obtain ⟨vs, q1, q2, q3⟩ := r.loads k1 (3 * n) o l hl
    have hn : n = L := by have := vrels_length q1; omega
    subst hn
    have ea : args' = #[.slice (some ⟨la.block, la.base + o, none⟩) n c] := by
      cases args' with
      | mk l => rw [← e1]
    subst ea
    refine (hg ⟨la.block, la.base + o, c, n, kf, nf, af⟩ w hL h1 k2 fun m hm => ?_).mono ?_
    · show w.cell? ⟨la.block, la.base + o + m, none⟩ = _
      have hm' : m < 3 * n := hm
      rw [q3 m hm']
      have hlm : m < l.length := by omega
      obtain ⟨y, y1, y2⟩ := vrels_get q1 (List.getElem?_eq_getElem hlm)
      rw [y1, hv m _ (List.getElem?_eq_getElem hlm) μ y y2]
      rfl
    · rintro e w' ⟨rfl, hb⟩
      exact ⟨_, μ, rfl, Ext.refl _, by simp only [vrel]; rw [hj], r.grow hb⟩
  · cases e2
/-- what comes in, and what the cuts give -/
structure Pm where
  most : Int
  l1 : Nat
  l2 : Nat
  W : Nat
  Kn : Nat → Int
  Nm : Nat → ByteArray
  At : Nat → Int
  V1 : Vs
  V2 : Vs
abbrev ivN (p : Pm) : Nat → IntKind × Int
  | 0 => (.i64, p.most)
  | 1 => (.i64, (p.l1 : Int))
  | 2 => (.i64, (p.l2 : Int))
  | 3 => (.i64, (p.W : Int))
  | 4 => (.i64, 0)
  | m + 5 => if m % 2 = 0 then (.i64, p.Kn (m / 2)) else (.i64, p.At (m / 2))
theorem ivN_k (p : Pm) (t : Nat) : ivN p (5 + 2 * t) = (.i64, p.Kn t) := by
  rw [show 5 + 2 * t = 2 * t + 5 by omega]
  show (if 2 * t % 2 = 0 then (IntKind.i64, p.Kn (2 * t / 2)) else (IntKind.i64, p.At (2 * t / 2))) = _
  rw [if_pos (by omega), show 2 * t / 2 = t by omega]
theorem ivN_a (p : Pm) (t : Nat) : ivN p (6 + 2 * t) = (.i64, p.At t) := by
  rw [show 6 + 2 * t = (2 * t + 1) + 5 by omega]
  show (if (2 * t + 1) % 2 = 0 then (IntKind.i64, p.Kn ((2 * t + 1) / 2)) else (IntKind.i64, p.At ((2 * t + 1) / 2))) = _
  rw [if_neg (by omega), show (2 * t + 1) / 2 = t by omega]
noncomputable def sameRows : List BRow := (List.range 12).map (fun t => (10, .oi (5 + 2 * t), .oi (5 + 2 * t), .bool false)) ++ (List.range 12).map (fun t => (10, .oi (6 + 2 * t), .oi (6 + 2 * t), .bool false))
theorem ne_self {iv : Nat → IntKind × Int} {i : Nat} {n : Int} (h : iv i = (.i64, n)) : IbOk iv (10, .oi i, .oi i, .bool false) := by
  have hd : denI iv (.oi i) = some (.i64, n) := by show some (iv i) = _; rw [h]
  exact ibB (op := .neq) rfl rfl (k := .i64) (a := n) (b := n) hd hd (tB (by simp))
theorem sameRows_ok (p : Pm) : ∀ r ∈ sameRows, IbOk (ivN p) r := by
  intro r hr
  unfold sameRows at hr
  rcases List.mem_append.1 hr with hr | hr
  · obtain ⟨t, _, rfl⟩ := List.mem_map.1 hr
    exact ne_self (ivN_k p t)
  · obtain ⟨t, _, rfl⟩ := List.mem_map.1 hr
    exact ne_self (ivN_a p t)
noncomputable def rowsN (z b : Bool) : List BRow := (13, .oi 3, .oi 0, .bool b) :: (12, .oi 3, .oi 0, .bool (!b)) :: Bool.rec sameRows ((13, .int .i64 0, .oi 0, .bool b) :: (12, .int .i64 0, .oi 0, .bool (!b)) :: sameRows) z
structure OkN (p : Pm) (z b : Bool) : Prop where
  hb : decide ((p.W : Int) > p.most) = b
  hz : z = true → p.W = 0
theorem rowsN_ok {p : Pm} {z b : Bool} (h : OkN p z b) : ∀ r ∈ rowsN z b, IbOk (ivN p) r := by
  have h1 : decide ((p.W : Int) > p.most) = b := h.hb
  have h2 : decide ((p.W : Int) ≤ p.most) = !b := by
    rw [← h1, ← decide_not]
    exact decide_eq_decide.2 (by omega)
  unfold rowsN
  refine ibCons (ibB (op := .gtr) rfl rfl (k := .i64) (a := (p.W : Int)) (b := p.most) rfl rfl (tB h1)) (ibCons (ibB (op := .leq) rfl rfl (k := .i64) (a := (p.W : Int)) (b := p.most) rfl rfl (tB h2)) ?_)
  cases z with
  | false => exact sameRows_ok p
  | true =>
    have hz := h.hz rfl
    rw [hz] at h1 h2
    exact ibCons (ibB (op := .gtr) rfl rfl (k := .i64) (a := 0) (b := p.most) rfl rfl (tB h1)) (ibCons (ibB (op := .leq) rfl rfl (k := .i64) (a := 0) (b := p.most) rfl rfl (tB h2)) (sameRows_ok p))
noncomputable def eqRows : List TRow := (List.range 12).map fun t => (4, [.ostr t, .ostr t], .bool true)
theorem eqRows_ok {iv : Nat → IntKind × Int} {str : Nat → ByteArray} : ∀ r ∈ eqRows, TrOk str iv r.1 r.2.1 r.2.2 := by
  intro r hr
  obtain ⟨t, _, rfl⟩ := List.mem_map.1 hr
  exact trEq (a := str t) (b := str t) rfl rfl ⟨fun _ => rfl, fun _ => rfl⟩
abbrev fgN (p : Pm) : Fgn where
  fb := fun i => match i with | 0 => (p.V1.b, p.V1.o) | _ => (p.V2.b, p.V2.o)
  fcap := fun i => match i with | 0 => p.V1.cap | _ => p.V2.cap
  fv := fun i m => match i with | 0 => if m < 3 * p.V1.cnt then some (cellC p.V1 m) else none | 1 => if m < 3 * p.V2.cnt then some (cellC p.V2 m) else none | _ => none
noncomputable abbrev TM (p : Pm) (z b : Bool) (h : OkN p z b) : Tab := TF (ivN p) p.Nm (fgN p) (rowsN z b) (rowsN_ok h) [] allNil [] allNil eqRows eqRows_ok
noncomputable def cutHand (q j off m : Nat) : Hand := Nat.rec (motive := fun _ => Hand) (oneHand 6 [.fo q j 3, .int .i64 6] .nils) (fun k _ => newHand 6 [.fo q j 3, .int .i64 6] (rowOf (rowM off (k + 1)) true) fun x => .so x 0 (k + 1) 3) m
noncomputable def EM (c d : Nat) : List AV := rowM 0 (c - 1) ++ rowM 6 (d - 1)
noncomputable def argM (i j c : Nat) : AV := Bool.rec (.fo i j 3) .nils (Nat.beq c 0)
noncomputable def zOf (c d : Nat) : Bool := Nat.beq (c - 1 + (d - 1)) 0
noncomputable def KW (c d : Nat) : Hand := Bool.rec ((wordsHand 13 (EM c d) 3).or ((wordsHand 8 (EM c d) 3).or (sumsHand tabT))) (sumsHand tabT) (zOf c d)
noncomputable def KM (c d : Nat) : Hand := (oneHand 5 [] (.bool true)).or ((cutHand 0 1 0 (c - 1)).or ((cutHand 1 2 6 (d - 1)).or (KW c d)))
def GM (c d : Nat) (b : Bool) : Prop := ∀ (p : Pm) (h : OkN p (zOf c d) b), okTrue (@call (TM p (zOf c d) b h) Tryz.prog (KM c d) 3000 3 [argM 0 1 c, argM 1 2 d, .oi 0] H.empty) = true
end Go.Proofs.YtlnkclamdiohnaaGreatDoor.fp
