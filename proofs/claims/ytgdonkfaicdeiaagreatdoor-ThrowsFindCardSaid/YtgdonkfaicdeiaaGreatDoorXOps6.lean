/-
  Each operation of the abstract machine stands for the model's: equality, conversions, slices, indexes, fields.
-/
import Derived.Test.YtgdonkfaicdeiaaGreatDoorXOps5
set_option linter.unusedVariables false
set_option linter.unusedSimpArgs false
set_option linter.unusedSectionVars false
namespace Go.X
open Go.RowKit

variable [Tab]
variable {P : Program} {B : Kp} {w0 : World} {μ : M} {h h' : H} {w w' : World}

theorem plain_some {x : Nat} (e : plainBlk h x = true) : ∃ n z t, h.get x = some (.cells n false z t) ∧ 0 < n := by
  unfold plainBlk at e
  cases hb : h.get x with
  | none => rw [hb] at e; simp at e
  | some b =>
    rw [hb] at e
    cases b with
    | cells n p z t =>
      cases p with
      | true => simp [plainIn] at e
      | false => exact ⟨n, z, t, rfl, by simp only [plainIn, Bool.and_eq_true] at e; exact blt_iff.1 e.1⟩
    | glob n z t => simp [plainIn] at e
    | map es c => simp [plainIn] at e
    | siter n c p => simp [plainIn] at e
    | miter m s1 s2 s3 => simp [plainIn] at e
    | vec i => simp [plainIn] at e

theorem sameAddr_sound (r : HR B w0 μ h w) {x y o p : Nat} {l k : Loc} (hl : μ x = some l) (hk : μ y = some k) (hne : x ≠ y) (hx : plainBlk h x = true) (hy : plainBlk h y = true) :
    (sameAddr ⟨l.block, l.base + o, none⟩ ⟨k.block, k.base + p, none⟩).run P w = .ok false w := by
  obtain ⟨n, z, t, hgx, hn⟩ := plain_some hx
  obtain ⟨n', z', t', hgy, hn'⟩ := plain_some hy
  have hb : l.block ≠ k.block := r.sep x y _ _ l k hgx hgy hne rfl rfl hl hk
  obtain ⟨l', hl', _, _, arr, e, fz, g1, g2, g3, g4, g5, _⟩ := r.blk x _ hgx
  rw [hl] at hl'; cases hl'
  obtain ⟨k', hk', _, _, arr', e', fz', g1', g2', g3', g4', g5', _⟩ := r.blk y _ hgy
  rw [hk] at hk'; cases hk'
  have f1 := g5 rfl
  have f2 := g5' rfl
  subst f1 f2
  have hbf : (l.block == k.block) = false := by simpa using hb
  have s1 : w.shape? l.block = some (e, arr.size) := by simp [World.shape?, g1]
  have s2 : w.shape? k.block = some (e', arr'.size) := by simp [World.shape?, g1']
  have z1 : ∀ q, w.frozen? ⟨l.block, q, none⟩ = false := fun q => by simp [World.frozen?, g1]
  have z2 : ∀ q, w.frozen? ⟨k.block, q, none⟩ = false := fun q => by simp [World.frozen?, g1']
  simp [sameAddr, hbf, hb, z1, z2, noView, viewAt, s1, s2, mayBeOne, stringish]

set_option maxHeartbeats 1600000 in
theorem atomEq_sound (r : HR B w0 μ h w) {t : TypeId} {d : TypeDesc} {x y : AV} {xv yv : Value} {b : Bool} (hd : P.underlying t = some d) (hx : vrel μ x xv) (hy : vrel μ y yv) (e : atomEq P h d x y = some b) (dep : Nat) :
    (Op.equalIn (dep + 1) t xv yv).run P w = .ok b w := by
  unfold atomEq at e
  split at e
  case h_5 _ el x o y p =>
    obtain ⟨n, hn, e2⟩ := ob_some e
    clear e
    obtain ⟨i, hi, rfl⟩ := sizeOf_some hn
    simp only [vrel] at hx hy
    obtain ⟨l, hl, rfl⟩ := hx
    obtain ⟨k, hk, rfl⟩ := hy
    split at e2
    · simp at e2
    · rename_i hz
      split at e2
      · rename_i hxy
        subst hxy
        cases e2
        rw [hl] at hk; cases hk
        simp [Op.equalIn, run_underlying hd, sizeOf, run_typeInfo hi, hz, sameAddr]
        rw [Bool.eq_iff_iff]
        simp
      · rename_i hxy
        split at e2
        · rename_i hp
          cases e2
          simp only [Bool.and_eq_true] at hp
          have := sameAddr_sound (P := P) (o := o) (p := p) r hl hk hxy hp.1 hp.2
          simp [Op.equalIn, run_underlying hd, sizeOf, run_typeInfo hi, hz, this]
        · simp at e2
  all_goals first
    | (simp at e; done)
    | skip
  all_goals
    cases e
    simp only [vrel] at hx hy
  all_goals (try obtain ⟨_, _, rfl⟩ := hx)
  all_goals (try obtain ⟨_, _, rfl⟩ := hy)
  all_goals (try obtain ⟨_, _, _, _, _, _, rfl⟩ := hx)
  all_goals (try obtain ⟨_, _, _, _, _, _, rfl⟩ := hy)
  all_goals (try obtain ⟨_, _, _, rfl⟩ := hx)
  all_goals (try obtain ⟨_, _, _, rfl⟩ := hy)
  all_goals (try obtain ⟨_, rfl⟩ := hx)
  all_goals (try obtain ⟨_, rfl⟩ := hy)
  all_goals (try obtain ⟨_, _, _, _, _, rfl⟩ := hx)
  all_goals (try obtain ⟨_, _, _, _, _, rfl⟩ := hy)
  all_goals (try obtain ⟨_, _, rfl, _⟩ := hx)
  all_goals (try obtain ⟨_, _, rfl, _⟩ := hy)
  all_goals (try obtain ⟨_, rfl, _⟩ := hx)
  all_goals (try obtain ⟨_, rfl, _⟩ := hy)
  all_goals (try subst hx)
  all_goals (try subst hy)
  all_goals simp [Op.equalIn, run_underlying hd]

theorem eqGuard_sound {op : BinOp} {t : TypeId} {xo yo : Operand} {x y : AV} {xv yv : Value} {d : TypeDesc} {b : Bool} (hx : vrel μ x xv) (hy : vrel μ y yv) (e : atomEq P h d x y = some b) : eqGuard op t xo yo xv yv = pure () := by
  unfold atomEq at e
  split at e
  all_goals first
    | (simp at e; done)
    | skip
  all_goals simp only [vrel] at hx hy
  all_goals (try obtain ⟨_, _, rfl⟩ := hx)
  all_goals (try obtain ⟨_, _, rfl⟩ := hy)
  all_goals (try obtain ⟨_, _, _, _, _, _, rfl⟩ := hx)
  all_goals (try obtain ⟨_, _, _, _, _, _, rfl⟩ := hy)
  all_goals (try obtain ⟨_, _, _, rfl⟩ := hx)
  all_goals (try obtain ⟨_, _, _, rfl⟩ := hy)
  all_goals (try obtain ⟨_, rfl⟩ := hx)
  all_goals (try obtain ⟨_, rfl⟩ := hy)
  all_goals (try obtain ⟨_, _, _, _, _, rfl⟩ := hx)
  all_goals (try obtain ⟨_, _, _, _, _, rfl⟩ := hy)
  all_goals (try obtain ⟨_, _, rfl, _⟩ := hx)
  all_goals (try obtain ⟨_, _, rfl, _⟩ := hy)
  all_goals (try obtain ⟨_, rfl, _⟩ := hx)
  all_goals (try obtain ⟨_, rfl, _⟩ := hy)
  all_goals (try subst hx)
  all_goals (try subst hy)
  all_goals (cases op <;> rfl)

/-- Of which values is '==' asked here: neither numbers nor strings. -/
theorem binOp_eql_atom {t : TypeId} {x y : AV} {xv yv : Value} {d : TypeDesc} {b : Bool} (hx : vrel μ x xv) (hy : vrel μ y yv) (e : atomEq P h d x y = some b) :
    binOp .eql t xv yv = (do pure (.bool (← Op.equal t xv yv))) ∧ binOp .neq t xv yv = (do pure (.bool (!(← Op.equal t xv yv)))) := by
  unfold atomEq at e
  split at e
  all_goals first
    | (simp at e; done)
    | skip
  all_goals simp only [vrel] at hx hy
  all_goals (try obtain ⟨_, _, rfl⟩ := hx)
  all_goals (try obtain ⟨_, _, rfl⟩ := hy)
  all_goals (try obtain ⟨_, _, _, _, _, _, rfl⟩ := hx)
  all_goals (try obtain ⟨_, _, _, _, _, _, rfl⟩ := hy)
  all_goals (try obtain ⟨_, _, _, rfl⟩ := hx)
  all_goals (try obtain ⟨_, _, _, rfl⟩ := hy)
  all_goals (try obtain ⟨_, rfl⟩ := hx)
  all_goals (try obtain ⟨_, rfl⟩ := hy)
  all_goals (try obtain ⟨_, _, _, _, _, rfl⟩ := hx)
  all_goals (try obtain ⟨_, _, _, _, _, rfl⟩ := hy)
  all_goals (try obtain ⟨_, _, rfl, _⟩ := hx)
  all_goals (try obtain ⟨_, _, rfl, _⟩ := hy)
  all_goals (try obtain ⟨_, rfl, _⟩ := hx)
  all_goals (try obtain ⟨_, rfl, _⟩ := hy)
  all_goals (try subst hx)
  all_goals (try subst hy)
  all_goals exact ⟨rfl, rfl⟩

theorem eqOp_sound (r : HR B w0 μ h w) {op : BinOp} {t : TypeId} {xo yo : Operand} {x y v : AV} {xv yv : Value} (hx : vrel μ x xv) (hy : vrel μ y yv) (e : eqOp P h op t x y = some v) :
    ∃ v', (do eqGuard op t xo yo xv yv; binOp op t xv yv : Sem Value).run P w = .ok v' w ∧ vrel μ v v' := by
  cases op <;> simp only [eqOp] at e <;> first | (simp at e; done) | skip
  all_goals
    obtain ⟨d, hd, e⟩ := ob_some e
    obtain ⟨b, hb, e⟩ := ob_some e
    cases e
    have h1 := atomEq_sound r hd hx hy hb 9999
    have h2 := binOp_eql_atom (t := t) hx hy hb
    rw [eqGuard_sound hx hy hb]
    simp only [Sem.run_bind, Sem.run_pure, Result.andThen_ok, h2.1, h2.2, Op.equal, Op.maxDepth, h1]
    exact ⟨_, rfl, by simp [vrel]⟩

theorem niliEq_sound {op : BinOp} {t : TypeId} {xo yo : Operand} {v : AV} (e : niliEq op P t (isConst xo || isConst yo) = some v) :
    ∃ v', (do eqGuard op t xo yo .nilIface .nilIface; binOp op t .nilIface .nilIface : Sem Value).run P w = .ok v' w ∧ vrel μ v v' := by
  have hg : (isConst xo || isConst yo) = true → eqGuard op t xo yo .nilIface .nilIface = pure () := by
    intro hc
    cases xo <;> cases yo <;> simp [isConst] at hc <;> cases op <;> rfl
  cases op <;> simp only [niliEq] at e <;> first | (simp at e; done) | skip
  all_goals
    obtain ⟨d, hd, e⟩ := ob_some e
    cases d <;> simp only at e <;> first | (simp at e; done) | skip
    obtain ⟨hc, e⟩ := ifb_some e
    cases e
    rw [hg hc]
    have h0 : ∀ dep, (Op.equalIn (dep + 1) t .nilIface .nilIface).run P w = .ok true w := fun dep => by simp [Op.equalIn, run_underlying hd]
    have h1 := h0 9999
    have h2 : binOp .eql t .nilIface .nilIface = (do pure (.bool (← Op.equal t .nilIface .nilIface))) ∧ binOp .neq t .nilIface .nilIface = (do pure (.bool (!(← Op.equal t .nilIface .nilIface)))) := ⟨rfl, rfl⟩
    simp only [Sem.run_bind, Sem.run_pure, Result.andThen_ok, h2.1, h2.2, Op.equal, Op.maxDepth, h1]
    exact ⟨_, rfl, by simp [vrel]⟩

theorem isNe_mem {n c : Nat} : ∀ {l : List (Nat × Nat)}, isNe n c l = true → (n, c) ∈ l
  | [], e => by simp [isNe] at e
  | p :: l, e => by
    have e' : (Bool.rec (isNe n c l) (Bool.rec (isNe n c l) true (Nat.beq p.2 c)) (Nat.beq p.1 n) : Bool) = true := e
    cases h1 : Nat.beq p.1 n with
    | false => rw [h1] at e'; exact List.mem_cons_of_mem _ (isNe_mem e')
    | true =>
      rw [h1] at e'
      cases h2 : Nat.beq p.2 c with
      | false => rw [h2] at e'; exact List.mem_cons_of_mem _ (isNe_mem e')
      | true =>
        have : p = (n, c) := by rw [← nbeq_iff.1 h1, ← nbeq_iff.1 h2]
        rw [this]; simp

theorem bytes_ne {a b : ByteArray} (h : a ≠ b) : (a.toList == b.toList) = false := by
  rw [Bool.eq_false_iff]
  intro e
  rw [beq_iff_eq, bytes_toList, bytes_toList] at e
  have : a.data = b.data := Array.toList_inj.1 e
  apply h
  cases a; cases b
  simpa using this

theorem ostrOp_sound {op : BinOp} {t : TypeId} {i n c : Nat} {v : AV} {a b : ByteArray} (hc : c < 256 ^ n) (hab : (a = Tab.str i ∧ b = strOf n c) ∨ (b = Tab.str i ∧ a = strOf n c)) (e : ostrOp op i n c = some v) :
    ∃ v', (binOp op t (.string a) (.string b)).run P w = .ok v' w ∧ vrel μ v v' := by
  have hne : isNe n c (Tab.ne i) = true → a ≠ b := by
    intro h
    have := Tab.ok i (n, c) (isNe_mem h) hc
    rcases hab with ⟨rfl, rfl⟩ | ⟨rfl, rfl⟩
    · exact this
    · exact fun e => this e.symm
  cases op <;> simp only [ostrOp] at e <;> first
    | (simp at e; done)
    | (obtain ⟨h1, e⟩ := ifb_some e
       cases e
       refine ⟨_, by simp only [binOp, Op.stringOp, bytes_ne (hne h1)]; rfl, ?_⟩
       simp [vrel])

/- numbers by name -/
theorem ieq_eq {x y : AV} (h : ieq x y = true) : x = y := by
  unfold ieq at h
  split at h
  · simp only [Bool.and_eq_true, beq_iff_eq] at h
    have h1 := nbeq_iff.1 h.1
    rename_i k _ k' _
    have : k = k' := by cases k <;> cases k' <;> first | rfl | (simp [kcode] at h1)
    rw [this, h.2]
  · rw [nbeq_iff.1 h]
  · simp at h
theorem findB_mem {n : Nat} {x y v : AV} : ∀ {l : List (Nat × AV × AV × AV)}, findB n x y l = some v → (n, x, y, v) ∈ l
  | [], e => by have e' : (none : Option AV) = some v := e; simp at e'
  | r :: l, e => by
    have e' : (Bool.rec (findB n x y l) (Bool.rec (findB n x y l) (Bool.rec (findB n x y l) (some r.2.2.2) (ieq r.2.2.1 y)) (ieq r.2.1 x)) (Nat.beq r.1 n) : Option AV) = some v := e
    have tail : findB n x y l = some v → (n, x, y, v) ∈ r :: l := fun h => List.mem_cons_of_mem _ (findB_mem h)
    cases h1 : Nat.beq r.1 n with
    | false => rw [h1] at e'; exact tail e'
    | true =>
      rw [h1] at e'
      cases h2 : ieq r.2.1 x with
      | false => rw [h2] at e'; exact tail e'
      | true =>
        rw [h2] at e'
        cases h3 : ieq r.2.2.1 y with
        | false => rw [h3] at e'; exact tail e'
        | true =>
          rw [h3] at e'
          have e2 : some r.2.2.2 = some v := e'
          cases e2
          rw [← nbeq_iff.1 h1, ← ieq_eq h2, ← ieq_eq h3]; simp
theorem findC_mem {k : IntKind} {x v : AV} : ∀ {l : List (IntKind × AV × AV)}, findC k x l = some v → (k, x, v) ∈ l
  | [], e => by have e' : (none : Option AV) = some v := e; simp at e'
  | r :: l, e => by
    have e' : (Bool.rec (findC k x l) (Bool.rec (findC k x l) (some r.2.2) (ieq r.2.1 x)) (Nat.beq (kcode r.1) (kcode k)) : Option AV) = some v := e
    have tail : findC k x l = some v → (k, x, v) ∈ r :: l := fun h => List.mem_cons_of_mem _ (findC_mem h)
    cases h1 : Nat.beq (kcode r.1) (kcode k) with
    | false => rw [h1] at e'; exact tail e'
    | true =>
      rw [h1] at e'
      cases h2 : ieq r.2.1 x with
      | false => rw [h2] at e'; exact tail e'
      | true =>
        rw [h2] at e'
        have e2 : some r.2.2 = some v := e'
        cases e2
        have h3 := nbeq_iff.1 h1
        have : r.1 = k := by cases hr : r.1 <;> cases k <;> first | rfl | (rw [hr] at h3; simp [kcode] at h3)
        rw [← this, ← ieq_eq h2]; simp
theorem findU_mem {n : Nat} {x v : AV} : ∀ {l : List (Nat × AV × AV)}, findU n x l = some v → (n, x, v) ∈ l
  | [], e => by have e' : (none : Option AV) = some v := e; simp at e'
  | r :: l, e => by
    have e' : (Bool.rec (findU n x l) (Bool.rec (findU n x l) (some r.2.2) (ieq r.2.1 x)) (Nat.beq r.1 n) : Option AV) = some v := e
    have tail : findU n x l = some v → (n, x, v) ∈ r :: l := fun h => List.mem_cons_of_mem _ (findU_mem h)
    cases h1 : Nat.beq r.1 n with
    | false => rw [h1] at e'; exact tail e'
    | true =>
      rw [h1] at e'
      cases h2 : ieq r.2.1 x with
      | false => rw [h2] at e'; exact tail e'
      | true =>
        rw [h2] at e'
        have e2 : some r.2.2 = some v := e'
        cases e2
        rw [← nbeq_iff.1 h1, ← ieq_eq h2]; simp
theorem den_rel {x : AV} {k : IntKind} {n : Int} (h : denI Tab.iv x = some (k, n)) {v : Value} (hv : vrel μ x v) : v = .int k n := by
  cases x <;> simp only [denI] at h <;> first | (simp at h; done) | skip
  · cases h; simpa only [vrel] using hv
  · simp only [vrel] at hv
    simp only [Option.some.injEq] at h
    rw [hv, h]
theorem den_mk {x : AV} {k : IntKind} {n : Int} (h : denI Tab.iv x = some (k, n)) : vrel μ x (.int k n) := by
  cases x <;> simp only [denI] at h <;> first | (simp at h; done) | skip
  · cases h; simp only [vrel]
  · simp only [vrel]
    simp only [Option.some.injEq] at h
    rw [h]
theorem out_mk {v c : AV} {u : Value} (h : outI Tab.iv v c) (hu : vrel μ c u) : vrel μ v u := by
  unfold outI at h
  split at h
  · rw [h]; exact hu
  · simp only [vrel] at hu; rw [hu]; exact den_mk h
  · exact h.elim
theorem findB_sound {op : BinOp} {t : TypeId} {xo yo : Operand} {x y v : AV} {xv yv : Value} (hx : vrel μ x xv) (hy : vrel μ y yv) (e : findB (bcode op) x y Tab.ib = some v) :
    ∃ v', (do eqGuard op t xo yo xv yv; binOp op t xv yv : Sem Value).run P w = .ok v' w ∧ vrel μ v v' := by
  obtain ⟨k, a, k', b, c, h1, h2, h3, h4⟩ := Tab.ibok _ (findB_mem e) op rfl
  rw [den_rel h1 hx, den_rel h2 hy]
  obtain ⟨v', g1, g2⟩ := intBin_sound (P := P) (w := w) (μ := μ) (t := t) (x := xo) (y := yo) h3
  exact ⟨v', g1, out_mk h4 g2⟩

theorem bin_sound (r : HR B w0 μ h w) {op : BinOp} {t : TypeId} {xo yo : Operand} {x y v : AV} {xv yv : Value} (hx : vrel μ x xv) (hy : vrel μ y yv) (e : bin? P h op t (isConst xo || isConst yo) x y = some v) :
    OkQ P μ w (do eqGuard op t xo yo xv yv; binOp op t xv yv) v := by
  have : ∃ v', (do eqGuard op t xo yo xv yv; binOp op t xv yv : Sem Value).run P w = .ok v' w ∧ vrel μ v v' := by
    unfold bin? at e
    split at e
    · simp only [vrel] at hx hy
      subst hx hy
      exact intBin_sound e
    · simp only [vrel] at hx hy
      obtain ⟨hc, rfl⟩ := hx
      obtain ⟨hd, rfl⟩ := hy
      rw [eqGuard_str]
      simp only [Sem.run_bind, Sem.run_pure, Result.andThen_ok]
      exact strOp_sound hc hd e
    · simp only [vrel] at hx hy
      subst hx
      obtain ⟨hd, rfl⟩ := hy
      rw [eqGuard_str]
      simp only [Sem.run_bind, Sem.run_pure, Result.andThen_ok]
      exact ostrOp_sound hd (.inl ⟨rfl, rfl⟩) e
    · simp only [vrel] at hx hy
      subst hy
      obtain ⟨hd, rfl⟩ := hx
      rw [eqGuard_str]
      simp only [Sem.run_bind, Sem.run_pure, Result.andThen_ok]
      exact ostrOp_sound hd (.inr ⟨rfl, rfl⟩) e
    · simp only [vrel] at hx hy
      subst hx hy
      exact niliEq_sound e
    · exact findB_sound hx hy e
    · exact findB_sound hx hy e
    · exact eqOp_sound r hx hy e
  obtain ⟨v', h1, h2⟩ := this
  exact .same r h1 h2

theorem un_sound (r : HR B w0 μ h w) {op : UnOp} {x v : AV} {xv : Value} (hx : vrel μ x xv) (e : un? op x = some v) : OkQ P μ w (Op.unary op xv) v := by
  unfold un? at e
  split at e
  · obtain ⟨k, n, c, h1, h2, h3⟩ := Tab.iuok _ (findU_mem e) op rfl
    rw [den_rel h1 hx]
    cases op <;> simp only [unI] at h2 <;> first | (simp at h2; done) | skip
    all_goals
      cases h2
      refine .same r (v' := _) (by simp only [Op.unary, Op.intArith, Op.intBits]; rfl) (out_mk h3 (by simp [vrel]))
  all_goals first | (simp at e; done) | skip
  all_goals
    cases e
    simp only [vrel] at hx
    subst hx
    refine .same r (v' := _) (by simp only [Op.unary, Op.intArith, Op.intBits]; rfl) (by simp [vrel])
end Go.X
