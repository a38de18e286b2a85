/-
  The law StringsAll: the calls of a round as hands.
-/
import Derived.Test.YtifdjfcakkdgeaaGreatDoorSAH
set_option linter.unusedVariables false
set_option linter.unusedSimpArgs false
set_option linter.unusedSectionVars false
set_option maxRecDepth 1000000
set_option maxHeartbeats 0
namespace Go.Proofs.YtifdjfcakkdgeaaGreatDoor.sa
open Go.X Go.RowKit Go.Proofs
/- an element is cut -/
abbrev ivK (e : El) : Nat → IntKind × Int
  | 0 => (.i64, (e.la : Int))
  | 1 => (.i64, (e.fa : Int))
  | _ => (.i64, 0)
abbrev fgK (e : El) : Fgn := ⟨fun _ => (e.ba, e.oa), fun _ => e.ca, fun _ _ => none⟩
abbrev txK (e : El) : Txts (ivK e) where
  str := fun _ => .empty
abbrev RK (e : El) (l : List BRow) (h : ∀ r ∈ l, IbOk (ivK e) r) (vc : List (Nat × Nat)) (hv : ∀ p ∈ vc, ivK e p.2 = (.i64, (p.1 : Int))) : Rw (ivK e) noV noK (fgK e) (txK e) where
  vvp := noVp
  ib := l
  ibok := h
  vc := vc
  vcok := hv
abbrev TK (e : El) (x : AV) (l : List BRow) (h : ∀ r ∈ l, IbOk (ivK e) r) (k : ∃ b n c, e.v = .slice b n c ∧ denI (ivK e) x = some (.i64, ((n : Nat) : Int))) : Tab := { (RK e l h [] allNil).T with rv := fun _ => e.v, rl := [(0, x)], rlok := allCons k allNil }
theorem rk0 {e : El} (h : e.la ≤ 40) : ∀ r ∈ ([(13, .oi 0, .int .i64 40, .bool false)] : List BRow), IbOk (ivK e) r := rGt ibNil
theorem rk1 {e : El} (h : e.la = 40) (h1 : 40 < e.fa) : ∀ r ∈ ([(13, .oi 1, .int .i64 40, .bool true), (12, .oi 0, .oi 1, .bool true), (14, .oi 0, .int .i64 0, .bool true)] : List BRow), IbOk (ivK e) r := rGt (rLe (rGe ibNil))
theorem vk1 {e : El} (h : e.la = 40) : ∀ p ∈ ([(40, 0)] : List (Nat × Nat)), ivK e p.2 = (.i64, (p.1 : Int)) := allCons (by show ((IntKind.i64, (e.la : Int)) : IntKind × Int) = _; rw [h]) allNil
theorem cutC0 {e : El} (h : e.la ≤ 40) (k : ∃ b n c, e.v = .slice b n c ∧ denI (ivK e) (.oi 0) = some (.i64, ((n : Nat) : Int))) : ∃ p, @CallOk (TK e (.oi 0) _ (rk0 h) k) Tryz.prog 8 [.rw 0] H.empty (.rw 0, p) := by
  have o := @InOk.of_run Tryz.prog (TK e (.oi 0) _ (rk0 h) k) Hand.none mixed hNo 500 ⟨8, [.rw 0], 0, [], .rw 0, 0, []⟩ (by kernel_rfl) (by as_aux_lemma => kernel_rfl)
  obtain ⟨h', k1, _, _⟩ := @InOk.run Tryz.prog _ (TK e (.oi 0) _ (rk0 h) k) o
  exact ⟨h', k1⟩
theorem cutCZ {e : El} (k : ∃ b n c, e.v = .slice b n c ∧ denI (ivK e) (.int .i64 0) = some (.i64, ((n : Nat) : Int))) : ∃ p, @CallOk (TK e (.int .i64 0) [] ibNil k) Tryz.prog 8 [.rw 0] H.empty (.rw 0, p) := by
  have o := @InOk.of_run Tryz.prog (TK e (.int .i64 0) [] ibNil k) Hand.none mixed hNo 500 ⟨8, [.rw 0], 0, [], .rw 0, 0, []⟩ (by kernel_rfl) (by as_aux_lemma => kernel_rfl)
  obtain ⟨h', k1, _, _⟩ := @InOk.run Tryz.prog _ (TK e (.int .i64 0) [] ibNil k) o
  exact ⟨h', k1⟩
theorem cutC1 {e : El} (h : e.la = 40) (h1 : 40 < e.fa) : ∃ p, @CallOk (RK e _ (rk1 h h1) _ (vk1 h)).T Tryz.prog 8 [.fo 0 1 1] H.empty (.fo 0 0 1, p) := by
  have o := @InOk.of_run Tryz.prog (RK e _ (rk1 h h1) _ (vk1 h)).T Hand.none mixed hNo 500 ⟨8, [.fo 0 1 1], 0, [], .fo 0 0 1, 0, []⟩ (by kernel_rfl) (by as_aux_lemma => kernel_rfl)
  obtain ⟨h', k1, _, _⟩ := @InOk.run Tryz.prog _ (RK e _ (rk1 h h1) _ (vk1 h)).T o
  exact ⟨h', k1⟩
theorem glNo {T : Tab} {w : World} {B : Kp} (h1 : T.gv = fun _ _ => none) (h2 : T.fv = fun _ _ => none) : @Gl T B w := ⟨fun g o a hg => (by rw [h1] at hg; cases hg), fun i m a hg => (by rw [h2] at hg; cases hg)⟩
theorem cutEl {w : World} {e : El} (o : ElOk e) : Calls Tryz.prog 8 #[e.v] w fun x w' => x = .returned e.cv ∧ Below w.heap.size w w' := by
  have same : ∀ {T : Tab} (k : ∃ p, @CallOk T Tryz.prog 8 [.rw 0] H.empty (.rw 0, p)) (hr : T.rv = fun _ => e.v) (h1 : T.gv = fun _ _ => none) (h2 : T.fv = fun _ _ => none) (hv : oneV e.v = true) (hc : e.cv = e.v), Calls Tryz.prog 8 #[e.v] w fun x w' => x = .returned e.cv ∧ Below w.heap.size w w' := by
    intro T k hr h1 h2 hv hc
    obtain ⟨q, k⟩ := k
    refine (@CallOk.closed T Tryz.prog 8 _ #[e.v] _ k ⟨_, _, rfl, by simp only [vrel]; exact ⟨by rw [hr], hv⟩, rfl⟩ w (glNo h1 h2)).mono ?_
    rintro x w' ⟨v', μ', rfl, hq, rr⟩
    have hq' : @vrel T μ' (.rw 0) v' := hq
    simp only [vrel] at hq'
    exact ⟨by rw [hq'.1, hr, hc], rrBelow _ rr⟩
  obtain ⟨k, hk⟩ : ∃ k, e.ek = k := ⟨_, rfl⟩
  match k, hk with
  | 0, hk =>
    obtain ⟨h1, h2, h3⟩ := o.k0 hk
    exact same (cutC0 o.a40 ⟨_, _, _, h2, rfl⟩) rfl rfl rfl (by rw [h2]; rfl) (by unfold El.cv; rw [if_neg (by omega)])
  | 1, hk =>
    obtain ⟨h1, h2, h3, h4, h5⟩ := o.k1 hk
    obtain ⟨q, kk⟩ := cutC1 h1 h2
    refine (@CallOk.closed (RK e _ (rk1 h1 h2) _ (vk1 h1)).T Tryz.prog 8 _ #[e.v] _ kk ⟨_, _, rfl, by rw [h4]; exact foRel rfl rfl rfl h5, rfl⟩ w (glNo rfl rfl)).mono ?_
    rintro x w' ⟨v', μ', rfl, hq, rr⟩
    have hq' : @vrel (RK e _ (rk1 h1 h2) _ (vk1 h1)).T μ' (.fo 0 0 1) v' := hq
    simp only [vrel] at hq'
    refine ⟨?_, rrBelow _ rr⟩
    refine congrArg _ (hq'.2.2.trans ?_)
    unfold El.cv
    rw [if_pos hk]
    exact congrArg (fun n => Value.slice _ n _) (Int.toNat_natCast _)
  | 2, hk =>
    obtain ⟨h1, h2⟩ := o.k2 hk
    exact same (cutCZ ⟨_, _, _, h2, rfl⟩) rfl rfl rfl (by rw [h2]; rfl) (by unfold El.cv; rw [if_neg (by omega)])
  | k + 3, hk =>
    obtain ⟨h1, b, c, h2⟩ := o.k3 (by omega)
    exact same (cutCZ ⟨_, _, _, h2, rfl⟩) rfl rfl rfl (by rw [h2]; rfl) (by unfold El.cv; rw [if_neg (by omega)])
/- hands -/
theorem callFact [T : Tab] {f : FuncId} {args : List AV} {res : AV} {h : H} (k : ∀ (B : Kp) (w0 : World) (μ : M) (w : World) (l : List Value), HR B w0 μ h w → vrels μ args l → Calls Tryz.prog f l.toArray w fun x w' => (∃ v, x = .returned v ∧ ∀ μ, vrel μ res v) ∧ Below w.heap.size w w') : CallOk Tryz.prog f args h (res, h) := by
  intro B w0 μ w args' r hv
  have := k B w0 μ w args'.toList r hv
  rw [Array.toArray_toList] at this
  refine this.mono ?_
  rintro e w' ⟨⟨v, rfl, hv⟩, hb⟩
  exact ⟨v, μ, rfl, Ext.refl _, hv μ, r.grow hb⟩
noncomputable def isRw (i : Nat) : AV → Bool
  | .rw j => Nat.beq j i
  | _ => false
theorem isRw_eq {i : Nat} {a : AV} (h : isRw i a = true) : a = .rw i := by
  cases a <;> simp only [isRw] at h <;> first | (cases h; done) | skip
  rw [Nat.eq_of_beq_eq_true h]
noncomputable def cutH : Hand := fun f args h => ifb (Nat.beq 8 f) (match args with
  | [a] => ifb (isRw 0 a) (some (.rw 1, h))
  | _ => none)
noncomputable def rwOf : AV → Nat
  | .rw j => j
  | _ => 0
/-- an interned text is compared with the one that comes -/
noncomputable def sameH (m k : Nat) : Hand := fun f args h => ifb (Nat.beq 9 f) (match args with
  | [a, b] => ifb (isRw (rwOf a) a && (Nat.ble 300 (rwOf a) && (Nat.blt (rwOf a) (Nat.add 300 m) && isRw 1 b))) (some (.bool (Nat.beq (rwOf a) (Nat.add 300 k)), h))
  | _ => none)
def isVec (i : Nat) : Option Blk → Bool
  | some (.vec k) => Nat.beq k i
  | _ => false
theorem isVec_some {i : Nat} {b : Option Blk} (h : isVec i b = true) : b = some (.vec i) := by
  unfold isVec at h
  split at h
  · rw [Nat.eq_of_beq_eq_true h]
  · cases h
/-- a text: as it comes, as it was read, as it was read when it is empty -/
noncomputable def isU (z : Bool) (h : H) : AV → Bool
  | .rw j => Nat.beq j 1
  | .ov x j s => Bool.rec (Nat.beq s 1 && (Nat.beq j 0 && isVec 5 (h.get x))) false z
  | .es => z
  | _ => false
noncomputable def encH (z : Bool) : Hand := fun f args h => ifb (Nat.beq 19 f) (match args with
  | [a] => ifb (isU z h a) (some (.ostr 99, h))
  | _ => none)
theorem oneSl {v : Value} {b : Option Addr} {n c : Nat} (h : v = .slice b n c) : oneV v = true := by rw [h]; rfl
theorem ElOk.one {e : El} (o : ElOk e) : oneV e.cv = true := by
  rcases o.cv with ⟨_, h, _⟩ | ⟨_, h⟩ | ⟨_, _, _, h⟩ <;> exact oneSl h
section
variable {p : Pm} {T : Tab}
theorem clU (e : SameTab (TP p) T) {B : Kp} {w0 w : World} {μ : M} {h : H} (r : @HR T B w0 μ h w) : Cl w p.e := fun m hm => by
  have hv : T.fv 1 m = some (.int .u16 (p.A m)) := by rw [← e.fv]; show numV .u16 p.la p.A m = _; exact numV_lt hm
  obtain ⟨_, u, u1, u2⟩ := (@HR.below T _ _ _ _ _ r).frgn hv
  simp only [vrel] at u2
  rw [← e.fb] at u1
  subst u2
  exact u1
theorem clQ (e : SameTab (TP p) T) (j : Nat) {B : Kp} {w0 w : World} {μ : M} {h : H} (r : @HR T B w0 μ h w) : Cl w (p.q j) := fun m hm => by
  have hv : T.fv (j + 10) m = some (.int .u16 ((p.q j).A m)) := by
    rw [← e.fv]
    show numV .u16 (p.q (j + 10 - 10)).la (p.q (j + 10 - 10)).A m = _
    rw [Nat.add_sub_cancel]; exact numV_lt hm
  obtain ⟨_, u, u1, u2⟩ := (@HR.below T _ _ _ _ _ r).frgn hv
  simp only [vrel] at u2
  rw [← e.fb] at u1
  subst u2
  have u1 : w.cell? ⟨(p.q (j + 10 - 10)).ba, (p.q (j + 10 - 10)).oa + m, none⟩ = some (.int .u16 ((p.q j).A m)) := u1
  rw [Nat.add_sub_cancel] at u1; exact u1
theorem cutH_ok (e : SameTab (TP p) T) (o : ElOk p.e) : @HandOk T Tryz.prog cutH := by
  letI := T
  intro f args h q e0
  unfold cutH at e0
  obtain ⟨h1, e1⟩ := ifb_some e0
  clear e0
  have h1 := nbeq_iff.1 h1
  subst h1
  rcases args with _ | ⟨u, _ | ⟨v, l⟩⟩ <;> first | (cases e1; done) | skip
  obtain ⟨h2, e3⟩ := ifb_some (show ifb (isRw 0 u) (some (.rw 1, h)) = some q from e1)
  cases e3
  obtain rfl := isRw_eq h2
  refine callFact fun B w0 μ w l r hv => ?_
  obtain ⟨x, l1, rfl, r1, r2⟩ := hv
  have r2 : l1 = [] := r2
  subst r2
  simp only [vrel] at r1
  obtain ⟨rfl, _⟩ := r1
  rw [← e.rv]
  refine (cutEl (w := w) o).mono ?_
  rintro x w' ⟨rfl, hb⟩
  exact ⟨⟨_, rfl, fun μ => by simp only [vrel]; exact ⟨by rw [← e.rv]; rfl, o.one⟩⟩, hb⟩
theorem sameH_ok {m k : Nat} (e : SameTab (TP p) T) (o : ElOk p.e) (oq : ∀ j, j < m → ElOk (p.q j)) (hs : ∀ j, j < m → (sameT (p.q j) p.e ↔ j = k)) : @HandOk T Tryz.prog (sameH m k) := by
  letI := T
  intro f args h q e0
  unfold sameH at e0
  obtain ⟨h1, e1⟩ := ifb_some e0
  clear e0
  have h1 := nbeq_iff.1 h1
  subst h1
  rcases args with _ | ⟨u, _ | ⟨v, _ | ⟨x, l⟩⟩⟩ <;> first | (cases e1; done) | skip
  obtain ⟨h2, e3⟩ := ifb_some (show ifb (isRw (rwOf u) u && (Nat.ble 300 (rwOf u) && (Nat.blt (rwOf u) (Nat.add 300 m) && isRw 1 v))) (some (.bool (Nat.beq (rwOf u) (Nat.add 300 k)), h)) = some q from e1)
  cases e3
  simp only [Bool.and_eq_true, ble_iff, blt_iff] at h2
  obtain ⟨g1, g2, g3, g4⟩ := h2
  obtain rfl := isRw_eq g4
  have g1 := isRw_eq g1
  obtain ⟨j, hj⟩ : ∃ j, rwOf u = 300 + j := ⟨rwOf u - 300, by omega⟩
  rw [hj] at g1 g3 ⊢
  subst g1
  have hjm : j < m := by have g3 : 300 + j < 300 + m := g3; omega
  refine callFact fun B w0 μ w l r hv => ?_
  obtain ⟨x, l1, rfl, r1, y, l2, rfl, r2, r3⟩ := hv
  have r3 : l2 = [] := r3
  subst r3
  simp only [vrel] at r1 r2
  obtain ⟨rfl, _⟩ := r1
  obtain ⟨rfl, _⟩ := r2
  have e1 : T.rv (300 + j) = (p.q j).cv := by
    rw [← e.rv]
    show (if 300 + j = 0 then p.v else if 300 + j = 1 then p.e.cv else (p.q (300 + j - 300)).cv) = _
    rw [if_neg (by omega), if_neg (by omega), Nat.add_sub_cancel_left]
  have e2 : T.rv 1 = p.e.cv := by rw [← e.rv]; rfl
  show Calls _ 9 #[T.rv (300 + j), T.rv 1] w _
  rw [e1, e2]
  refine (sameEl (w := w) (t := Nat.beq (300 + j) (Nat.add 300 k)) (oq j hjm) o (clQ e j r) (clU e r) ⟨fun h => (hs j hjm).2 (by have := Nat.eq_of_beq_eq_true h; have this : 300 + j = 300 + k := this; omega), fun h => by rw [(hs j hjm).1 h]; exact nbeq_iff.2 rfl⟩).mono ?_
  rintro x w' ⟨rfl, hb⟩
  exact ⟨⟨_, rfl, fun μ => by simp only [vrel]⟩, hb⟩
theorem encH_ok {z : Bool} (e : SameTab (TP p) T) (o : ElOk p.e) (hz : z = true ↔ p.la = 0) : @HandOk T Tryz.prog (encH z) := by
  letI := T
  intro f args h q e0
  unfold encH at e0
  obtain ⟨h1, e1⟩ := ifb_some e0
  clear e0
  have h1 := nbeq_iff.1 h1
  subst h1
  rcases args with _ | ⟨u, _ | ⟨v, l⟩⟩ <;> first | (cases e1; done) | skip
  obtain ⟨h2, e3⟩ := ifb_some (show ifb (isU z h u) (some (.ostr 99, h)) = some q from e1)
  cases e3
  refine callFact fun B w0 μ w l r hv => ?_
  obtain ⟨x, l1, rfl, r1, r2⟩ := hv
  have r2 : l1 = [] := r2
  subst r2
  have es : T.str 99 = keyE p.e := by rw [← e.str]; rfl
  have fin : ∀ {x : Ending} {w' : World}, (x = .returned (.string (keyE p.e)) ∧ Below w.heap.size w w') → (∃ v, x = .returned v ∧ ∀ μ, vrel μ (.ostr 99) v) ∧ Below w.heap.size w w' := by
    rintro x w' ⟨rfl, hb⟩
    exact ⟨⟨_, rfl, fun μ => by simp only [vrel]; rw [es]⟩, hb⟩
  cases u <;> simp only [isU] at h2 <;> first | (cases h2; done) | skip
  case rw i =>
    have h2 := Nat.eq_of_beq_eq_true h2
    subst h2
    simp only [vrel] at r1
    obtain ⟨rfl, _⟩ := r1
    have e2 : T.rv 1 = p.e.cv := by rw [← e.rv]; rfl
    show Calls _ 19 #[T.rv 1] w _
    rw [e2]
    exact (encEl o (clU e r)).mono fun _ _ h => fin h
  case es =>
    subst h2
    have h0 := hz.1 rfl
    simp only [vrel] at r1
    have hk : keyE p.e = key p.A 0 := by unfold keyE; show key p.A p.la = _; rw [h0]
    refine (encZ encE_ok (v := x) (by simp only [vrel]; exact r1) p.A).mono fun _ _ h => fin ?_
    rw [hk]; exact h
  case ov y j s =>
    cases z with
    | true => cases h2
    | false =>
      simp only [Bool.and_eq_true, nbeq_iff] at h2
      obtain ⟨rfl, rfl, hi⟩ := h2
      have hi := isVec_some hi
      have h0 : 0 < p.la := Nat.pos_of_ne_zero fun h => Bool.noConfusion (hz.2 h)
      simp only [vrel] at r1
      obtain ⟨_, l, c, k1, k2, k3, rfl⟩ := r1
      have hj : T.iv 0 = (.i64, (p.la : Int)) := by rw [← e.iv]; rfl
      rw [hj] at k2 ⊢
      simp only [Int.toNat_natCast] at k2 ⊢
      have a1 := o.a40
      have a1 : p.la ≤ 40 := a1
      refine (encSl (w := w) (n := p.la) (f := p.A) (by omega) h0 o.hA k2 fun m hm => ?_).mono fun _ _ h => fin h
      obtain ⟨l', q1, _, _, q4⟩ := r.blk y _ hi
      rw [k1] at q1; cases q1
      obtain ⟨arr, el, fz, m1, m2, m3, m4, m5⟩ := q4
      obtain ⟨u, n1, n2⟩ := m5 m (.int .u16 (p.A m)) (by
        have hvv : T.vv 5 = numV .u16 p.la p.A := by rw [← e.vv]; rfl
        rw [hvv]; exact numV_lt hm)
      simp only [vrel] at n2
      rw [← n2]
      simpa [World.cell?, m1] using n1
/- texts that are made and read -/
theorem uRel (e : SameTab (TP p) T) (o : ElOk p.e) {μ : M} {v : Value} (h : @vrel T μ (.rw 1) v) : (0 < p.la ∧ @vrel T μ (.fo 1 0 1) v) ∨ (p.la = 0 ∧ @vrel T μ .nils v) ∨ (p.la = 0 ∧ @vrel T μ .es v) := by
  simp only [vrel] at h
  obtain ⟨h, _⟩ := h
  have e2 : T.rv 1 = p.e.cv := by rw [← e.rv]; rfl
  rw [e2] at h
  subst h
  rcases o.cv with ⟨z, hv, hle⟩ | ⟨z, hv⟩ | ⟨z, b, c, hv⟩
  · exact .inl ⟨z, by rw [hv]; exact foRel (by rw [← e.iv]; rfl) (by rw [← e.fb]; rfl) (by rw [← e.fcap]; rfl) hle⟩
  · exact .inr (.inl ⟨z, by rw [hv]; simp only [vrel]⟩)
  · exact .inr (.inr ⟨z, by rw [hv]; simp only [vrel]; exact ⟨_, _, rfl⟩⟩)
end
theorem tu_ok {p : Pm} (o : ElOk p.e) {z : Nat} (h1 : 0 < p.la → @InOk Tryz.prog (txI z) (TP p)) (h2 : p.la = 0 → @InOk Tryz.prog (teI z .nils) (TP p)) (h3 : p.la = 0 → @InOk Tryz.prog (teI z .es) (TP p)) : @InOk Tryz.prog (tuI z) (TP p) := by
  letI : Tab := TP p
  have hs : SameTab (TP p) (TP p) := ⟨rfl, rfl, rfl, rfl, rfl, rfl, rfl, rfl, rfl⟩
  have hx : ∀ {μ : M} {l : List Value} {x : AV}, (∀ v, vrel μ (.rw 1) v → vrel μ x v) → vrels μ [.ptr 3255 0, .rw 1] l → vrels μ [.ptr 3255 0, x] l := by
    rintro μ l x hi ⟨a, l1, rfl, r1, b, l2, rfl, r2, r3⟩
    exact ⟨_, _, rfl, r1, _, _, rfl, hi _ r2, r3⟩
  rcases o.cv with ⟨z, hv, hle⟩ | ⟨z, hv⟩ | ⟨z, b, c, hv⟩
  · exact InOk.args (c := txI _) (xs := [.ptr 3255 0, .rw 1]) (fun μ l hl => hx (fun v hv' => by
      rcases uRel hs o hv' with ⟨_, h⟩ | ⟨h, _⟩ | ⟨h, _⟩
      · exact h
      · have z : 0 < p.la := z; omega
      · have z : 0 < p.la := z; omega) hl) (h1 z)
  · exact InOk.args (c := teI _ .nils) (xs := [.ptr 3255 0, .rw 1]) (fun μ l hl => hx (fun v hv' => by
      simp only [vrel] at hv' ⊢
      rw [hv'.1]; exact hv) hl) (h2 z)
  · exact InOk.args (c := teI _ .es) (xs := [.ptr 3255 0, .rw 1]) (fun μ l hl => hx (fun v hv' => by
      simp only [vrel] at hv' ⊢
      rw [hv'.1]; exact ⟨b, c, hv⟩) hl) (h3 z)
theorem tu0 {p : Pm} (o : ElOk p.e) (h : Ar p) (hf : p.t1 ≤ 2048) (ht : p.tot = 0) : @InOk Tryz.prog (tuI 0) (TP p) := tu_ok o (fun h0 => tx0_ok h hf h0 ht) (fun hz => te0_ok h hz ht he0n) (fun hz => te0_ok h hz ht he0e)
theorem tu1 {p : Pm} (o : ElOk p.e) (h : Ar p) (hf : p.t1 ≤ 2048) : @InOk Tryz.prog (tuI 1) (TP p) := tu_ok o (fun h0 => tx1_ok h hf) (fun hz => te1_ok h hf hz he1n) (fun hz => te1_ok h hf hz he1e)
/-- what is read: chars, or nothing -/
noncomputable def chV (s : Bool) : AV := Bool.rec (.ov 20050 0 1) .es s
noncomputable def chB (s : Bool) : Nat × Blk := Bool.rec (20050, .vec 5) (20050, zB) s
noncomputable def cuI (z : Nat) (s : Bool) : In := ⟨25, [.ptr 3255 0, .oi 4], 20050, bH z, chV s, 20060, chB s :: bH z⟩
theorem InOk.res {T : Tab} {P : Go.Program} {c : In} {v : AV} (h : ∀ (μ : M) (x : Value), @vrel T μ c.v x → @vrel T μ v x) (o : @InOk P c T) : @InOk P ⟨c.f, c.xs, c.N, c.bs, v, c.N', c.bs'⟩ T := by
  obtain ⟨h', k1, k2, k3⟩ := o.run
  refine ⟨o.lim, h', fun B w0 μ w args' r ha => (k1 B w0 μ w args' r ha).mono ?_, k2, k3⟩
  rintro e w' ⟨v', μ', h1, h2, h3, h4⟩
  exact ⟨v', μ', h1, h2, h _ _ h3, h4⟩
theorem cu_ok {p : Pm} {z : Nat} {s : Bool} (hs : s = true ↔ p.la = 0) (h1 : 0 < p.la → @InOk Tryz.prog (chI 20050 z) (TP p)) (h2 : p.la = 0 → @InOk Tryz.prog (upIn (czI 20050 z) 20060) (TP p)) : @InOk Tryz.prog (cuI z s) (TP p) := by
  cases s with
  | false => exact h1 (Nat.pos_of_ne_zero fun h => Bool.noConfusion (hs.2 h))
  | true => exact InOk.res (c := upIn (czI 20050 z) 20060) (v := .es) (fun μ x hx => by
      have hx : @vrel (TP p) μ (.sl 20050 0 0 0) x := hx
      simp only [vrel] at hx ⊢
      obtain ⟨l, _, rfl⟩ := hx
      exact ⟨_, _, rfl⟩) (h2 (hs.1 rfl))
theorem cu0 {p : Pm} {s : Bool} (hs : s = true ↔ p.la = 0) (h : Ar p) (hf : p.t1 ≤ 2048) : @InOk Tryz.prog (cuI 0 s) (TP p) := cu_ok hs (fun h0 => ch0_ok h hf h0) (fun hz => cz0_ok h hf hz)
theorem cu1 {p : Pm} {s : Bool} (hs : s = true ↔ p.la = 0) (h : Ar p) (hf : p.t1 ≤ 2048) : @InOk Tryz.prog (cuI 1 s) (TP p) := cu_ok hs (fun h0 => ch1_ok h hf h0) (fun hz => cz1_ok h hf hz)
end Go.Proofs.YtifdjfcakkdgeaaGreatDoor.sa
