/-
  An abstract machine for the model: what it computes, and that it holds of every run (part 2).
-/
import Derived.Test.YtifdjfcakkdgeaaGreatDoorXN1
import Derived.Laws.Externs
import Derived.Lib.Bytealg
import Derived.Orders
set_option linter.unusedVariables false
set_option linter.unusedSimpArgs false
set_option linter.unusedSectionVars false
namespace Go.X
open Go.RowKit
variable [Tab]
variable {P : Program} {B : Kp} {w0 : World} {μ : M} {h h' : H} {w w' : World}
theorem plain_some {x : Nat} (e : plainBlk h x = true) : ∃ n z t, h.get x = some (.cells n false z t) ∧ 0 < n := by
  unfold plainBlk at e
  cases hb : h.get x with
  | none => rw [hb] at e; simp at e
  | some b =>
    rw [hb] at e
    cases b with
    | cells n p z t =>
      cases p with
      | true => simp [plainIn] at e
      | false => exact ⟨n, z, t, rfl, by simp only [plainIn, Bool.and_eq_true] at e; exact blt_iff.1 e.1⟩
    | glob n z t => simp [plainIn] at e
    | map es c => simp [plainIn] at e
    | siter n c p => simp [plainIn] at e
    | miter m s1 s2 s3 => simp [plainIn] at e
    | vec i => simp [plainIn] at e
theorem sameAddr_sound (r : HR B w0 μ h w) {x y o p : Nat} {l k : Loc} (hl : μ x = some l) (hk : μ y = some k) (hne : x ≠ y) (hx : plainBlk h x = true) (hy : plainBlk h y = true) :
    (sameAddr ⟨l.block, l.base + o, none⟩ ⟨k.block, k.base + p, none⟩).run P w = .ok false w := by
  obtain ⟨n, z, t, hgx, hn⟩ := plain_some hx
  obtain ⟨n', z', t', hgy, hn'⟩ := plain_some hy
  have hb : l.block ≠ k.block := r.sep x y _ _ l k hgx hgy hne rfl rfl hl hk
  obtain ⟨l', hl', _, _, arr, e, fz, g1, g2, g3, g4, g5, _⟩ := r.blk x _ hgx
  rw [hl] at hl'; cases hl'
  obtain ⟨k', hk', _, _, arr', e', fz', g1', g2', g3', g4', g5', _⟩ := r.blk y _ hgy
  rw [hk] at hk'; cases hk'
  have f1 := g5 rfl
  have f2 := g5' rfl
  subst f1 f2
  have hbf : (l.block == k.block) = false := by simpa using hb
  have s1 : w.shape? l.block = some (e, arr.size) := by simp [World.shape?, g1]
  have s2 : w.shape? k.block = some (e', arr'.size) := by simp [World.shape?, g1']
  have z1 : ∀ q, w.frozen? ⟨l.block, q, none⟩ = false := fun q => by simp [World.frozen?, g1]
  have z2 : ∀ q, w.frozen? ⟨k.block, q, none⟩ = false := fun q => by simp [World.frozen?, g1']
  simp [sameAddr, hbf, hb, z1, z2, noView, viewAt, s1, s2, mayBeOne, stringish]
set_option maxHeartbeats 1600000 in
theorem atomEq_sound (r : HR B w0 μ h w) {t : TypeId} {d : TypeDesc} {x y : AV} {xv yv : Value} {b : Bool} (hd : P.underlying t = some d) (hx : vrel μ x xv) (hy : vrel μ y yv) (e : atomEq P h d x y = some b) (dep : Nat) :
    (Op.equalIn (dep + 1) t xv yv).run P w = .ok b w := by
  unfold atomEq at e
  split at e
  case h_5 _ el x o y p =>
    obtain ⟨n, hn, e2⟩ := ob_some e
    clear e
    obtain ⟨i, hi, rfl⟩ := sizeOf_some hn
    simp only [vrel] at hx hy
    obtain ⟨l, hl, rfl⟩ := hx
    obtain ⟨k, hk, rfl⟩ := hy
    split at e2
    · simp at e2
    · rename_i hz
      split at e2
      · rename_i hxy
        subst hxy
        cases e2
        rw [hl] at hk; cases hk
        simp [Op.equalIn, run_underlying hd, sizeOf, run_typeInfo hi, hz, sameAddr]
        rw [Bool.eq_iff_iff]
        simp
      · rename_i hxy
        split at e2
        · rename_i hp
          cases e2
          simp only [Bool.and_eq_true] at hp
          have := sameAddr_sound (P := P) (o := o) (p := p) r hl hk hxy hp.1 hp.2
          simp [Op.equalIn, run_underlying hd, sizeOf, run_typeInfo hi, hz, this]
        · simp at e2
  all_goals first
    | (simp at e; done)
    | skip
  all_goals
    cases e
    simp only [vrel] at hx hy
  all_goals (try obtain ⟨_, _, rfl⟩ := hx)
  all_goals (try obtain ⟨_, _, rfl⟩ := hy)
  all_goals (try obtain ⟨_, _, _, _, _, _, rfl⟩ := hx)
  all_goals (try obtain ⟨_, _, _, _, _, _, rfl⟩ := hy)
  all_goals (try obtain ⟨_, _, _, rfl⟩ := hx)
  all_goals (try obtain ⟨_, _, _, rfl⟩ := hy)
  all_goals (try obtain ⟨_, rfl⟩ := hx)
  all_goals (try obtain ⟨_, rfl⟩ := hy)
  all_goals (try obtain ⟨_, _, _, _, _, rfl⟩ := hx)
  all_goals (try obtain ⟨_, _, _, _, _, rfl⟩ := hy)
  all_goals (try obtain ⟨_, _, rfl, _⟩ := hx)
  all_goals (try obtain ⟨_, _, rfl, _⟩ := hy)
  all_goals (try obtain ⟨_, rfl, _⟩ := hx)
  all_goals (try obtain ⟨_, rfl, _⟩ := hy)
  all_goals (try subst hx)
  all_goals (try subst hy)
  all_goals simp [Op.equalIn, run_underlying hd]
theorem eqGuard_sound {op : BinOp} {t : TypeId} {xo yo : Operand} {x y : AV} {xv yv : Value} {d : TypeDesc} {b : Bool} (hx : vrel μ x xv) (hy : vrel μ y yv) (e : atomEq P h d x y = some b) : eqGuard op t xo yo xv yv = pure () := by
  unfold atomEq at e
  split at e
  all_goals first
    | (simp at e; done)
    | skip
  all_goals simp only [vrel] at hx hy
  all_goals (try obtain ⟨_, _, rfl⟩ := hx)
  all_goals (try obtain ⟨_, _, rfl⟩ := hy)
  all_goals (try obtain ⟨_, _, _, _, _, _, rfl⟩ := hx)
  all_goals (try obtain ⟨_, _, _, _, _, _, rfl⟩ := hy)
  all_goals (try obtain ⟨_, _, _, rfl⟩ := hx)
  all_goals (try obtain ⟨_, _, _, rfl⟩ := hy)
  all_goals (try obtain ⟨_, rfl⟩ := hx)
  all_goals (try obtain ⟨_, rfl⟩ := hy)
  all_goals (try obtain ⟨_, _, _, _, _, rfl⟩ := hx)
  all_goals (try obtain ⟨_, _, _, _, _, rfl⟩ := hy)
  all_goals (try obtain ⟨_, _, rfl, _⟩ := hx)
  all_goals (try obtain ⟨_, _, rfl, _⟩ := hy)
  all_goals (try obtain ⟨_, rfl, _⟩ := hx)
  all_goals (try obtain ⟨_, rfl, _⟩ := hy)
  all_goals (try subst hx)
  all_goals (try subst hy)
  all_goals (cases op <;> rfl)
theorem binOp_eql_atom {t : TypeId} {x y : AV} {xv yv : Value} {d : TypeDesc} {b : Bool} (hx : vrel μ x xv) (hy : vrel μ y yv) (e : atomEq P h d x y = some b) :
    binOp .eql t xv yv = (do pure (.bool (← Op.equal t xv yv))) ∧ binOp .neq t xv yv = (do pure (.bool (!(← Op.equal t xv yv)))) := by
  unfold atomEq at e
  split at e
  all_goals first
    | (simp at e; done)
    | skip
  all_goals simp only [vrel] at hx hy
  all_goals (try obtain ⟨_, _, rfl⟩ := hx)
  all_goals (try obtain ⟨_, _, rfl⟩ := hy)
  all_goals (try obtain ⟨_, _, _, _, _, _, rfl⟩ := hx)
  all_goals (try obtain ⟨_, _, _, _, _, _, rfl⟩ := hy)
  all_goals (try obtain ⟨_, _, _, rfl⟩ := hx)
  all_goals (try obtain ⟨_, _, _, rfl⟩ := hy)
  all_goals (try obtain ⟨_, rfl⟩ := hx)
  all_goals (try obtain ⟨_, rfl⟩ := hy)
  all_goals (try obtain ⟨_, _, _, _, _, rfl⟩ := hx)
  all_goals (try obtain ⟨_, _, _, _, _, rfl⟩ := hy)
  all_goals (try obtain ⟨_, _, rfl, _⟩ := hx)
  all_goals (try obtain ⟨_, _, rfl, _⟩ := hy)
  all_goals (try obtain ⟨_, rfl, _⟩ := hx)
  all_goals (try obtain ⟨_, rfl, _⟩ := hy)
  all_goals (try subst hx)
  all_goals (try subst hy)
  all_goals exact ⟨rfl, rfl⟩
theorem eqOp_sound (r : HR B w0 μ h w) {op : BinOp} {t : TypeId} {xo yo : Operand} {x y v : AV} {xv yv : Value} (hx : vrel μ x xv) (hy : vrel μ y yv) (e : eqOp P h op t x y = some v) :
    ∃ v', (do eqGuard op t xo yo xv yv; binOp op t xv yv : Sem Value).run P w = .ok v' w ∧ vrel μ v v' := by
  cases op <;> simp only [eqOp] at e <;> first | (simp at e; done) | skip
  all_goals
    obtain ⟨d, hd, e⟩ := ob_some e
    obtain ⟨b, hb, e⟩ := ob_some e
    cases e
    have h1 := atomEq_sound r hd hx hy hb 9999
    have h2 := binOp_eql_atom (t := t) hx hy hb
    rw [eqGuard_sound hx hy hb]
    simp only [Sem.run_bind, Sem.run_pure, Result.andThen_ok, h2.1, h2.2, Op.equal, Op.maxDepth, h1]
    exact ⟨_, rfl, by simp [vrel]⟩
theorem niliEq_sound {op : BinOp} {t : TypeId} {xo yo : Operand} {v : AV} (e : niliEq op P t (isConst xo || isConst yo) = some v) :
    ∃ v', (do eqGuard op t xo yo .nilIface .nilIface; binOp op t .nilIface .nilIface : Sem Value).run P w = .ok v' w ∧ vrel μ v v' := by
  have hg : (isConst xo || isConst yo) = true → eqGuard op t xo yo .nilIface .nilIface = pure () := by
    intro hc
    cases xo <;> cases yo <;> simp [isConst] at hc <;> cases op <;> rfl
  cases op <;> simp only [niliEq] at e <;> first | (simp at e; done) | skip
  all_goals
    obtain ⟨d, hd, e⟩ := ob_some e
    cases d <;> simp only at e <;> first | (simp at e; done) | skip
    obtain ⟨hc, e⟩ := ifb_some e
    cases e
    rw [hg hc]
    have h0 : ∀ dep, (Op.equalIn (dep + 1) t .nilIface .nilIface).run P w = .ok true w := fun dep => by simp [Op.equalIn, run_underlying hd]
    have h1 := h0 9999
    have h2 : binOp .eql t .nilIface .nilIface = (do pure (.bool (← Op.equal t .nilIface .nilIface))) ∧ binOp .neq t .nilIface .nilIface = (do pure (.bool (!(← Op.equal t .nilIface .nilIface)))) := ⟨rfl, rfl⟩
    simp only [Sem.run_bind, Sem.run_pure, Result.andThen_ok, h2.1, h2.2, Op.equal, Op.maxDepth, h1]
    exact ⟨_, rfl, by simp [vrel]⟩
theorem isNe_mem {n c : Nat} : ∀ {l : List (Nat × Nat)}, isNe n c l = true → (n, c) ∈ l
  | [], e => by simp [isNe] at e
  | p :: l, e => by
    have e' : (Bool.rec (isNe n c l) (Bool.rec (isNe n c l) true (Nat.beq p.2 c)) (Nat.beq p.1 n) : Bool) = true := e
    cases h1 : Nat.beq p.1 n with
    | false => rw [h1] at e'; exact List.mem_cons_of_mem _ (isNe_mem e')
    | true =>
      rw [h1] at e'
      cases h2 : Nat.beq p.2 c with
      | false => rw [h2] at e'; exact List.mem_cons_of_mem _ (isNe_mem e')
      | true =>
        have : p = (n, c) := by rw [← nbeq_iff.1 h1, ← nbeq_iff.1 h2]
        rw [this]; simp
theorem bytes_ne {a b : ByteArray} (h : a ≠ b) : (a.toList == b.toList) = false := by
  rw [Bool.eq_false_iff]
  intro e
  rw [beq_iff_eq, bytes_toList, bytes_toList] at e
  have : a.data = b.data := Array.toList_inj.1 e
  apply h
  cases a; cases b
  simpa using this
theorem ostrOp_sound {op : BinOp} {t : TypeId} {i n c : Nat} {v : AV} {a b : ByteArray} (hc : c < 256 ^ n) (hab : (a = Tab.str i ∧ b = strOf n c) ∨ (b = Tab.str i ∧ a = strOf n c)) (e : ostrOp op i n c = some v) :
    ∃ v', (binOp op t (.string a) (.string b)).run P w = .ok v' w ∧ vrel μ v v' := by
  have hne : isNe n c (Tab.ne i) = true → a ≠ b := by
    intro h
    have := Tab.ok i (n, c) (isNe_mem h) hc
    rcases hab with ⟨rfl, rfl⟩ | ⟨rfl, rfl⟩
    · exact this
    · exact fun e => this e.symm
  cases op <;> simp only [ostrOp] at e <;> first
    | (simp at e; done)
    | (obtain ⟨h1, e⟩ := ifb_some e
       cases e
       refine ⟨_, by simp only [binOp, Op.stringOp, bytes_ne (hne h1)]; rfl, ?_⟩
       simp [vrel])
theorem bytes_beqL (a b : ByteArray) : (a.toList == b.toList) = true ↔ a = b := by
  constructor
  · intro h
    by_cases hab : a = b
    · exact hab
    · rw [bytes_ne hab] at h; cases h
  · intro h; rw [h, beq_iff_eq]
theorem tEq4 {x y : AV} {e : Bool} {xv yv : Value} (hx : vrel μ x xv) (hy : vrel μ y yv) (h : ob (findT 4 [x, y] Tab.tr) boolOf = some e) : ∃ a b, xv = .string a ∧ yv = .string b ∧ (e = true ↔ a = b) := by
  obtain ⟨v, hv, h⟩ := ob_some h
  obtain ⟨a, b, e', h1, h2, h3, h4⟩ := findT_ok hv
  rw [boolOf_some h] at h3
  cases h3
  exact ⟨a, b, denS_rel h1 hx, denS_rel h2 hy, h4⟩
theorem tEq_sound {x y : AV} {e : Bool} {xv yv : Value} (hx : vrel μ x xv) (hy : vrel μ y yv) (h : tEq x y = some e) : ∃ a b, xv = .string a ∧ yv = .string b ∧ (e = true ↔ a = b) := by
  unfold tEq at h
  split at h
  · rename_i i n c
    cases hn : isNe n c (Tab.ne i) with
    | false => rw [hn] at h; exact tEq4 hx hy h
    | true =>
      rw [hn] at h
      cases h
      simp only [vrel] at hx hy
      obtain ⟨hc, rfl⟩ := hy
      exact ⟨_, _, hx, rfl, by simpa using Tab.ok i (n, c) (isNe_mem hn) hc⟩
  · rename_i n c i
    cases hn : isNe n c (Tab.ne i) with
    | false => rw [hn] at h; exact tEq4 hx hy h
    | true =>
      rw [hn] at h
      cases h
      simp only [vrel] at hx hy
      obtain ⟨hc, rfl⟩ := hx
      exact ⟨_, _, rfl, hy, by simpa using fun h => Tab.ok i (n, c) (isNe_mem hn) hc h.symm⟩
  · exact tEq4 hx hy h
  · cases h
theorem tbin_sound {op : BinOp} {t : TypeId} {x y v : AV} {xv yv : Value} (hx : vrel μ x xv) (hy : vrel μ y yv) (e : tbin op x y = some v) :
    ∃ a b v', xv = .string a ∧ yv = .string b ∧ (binOp op t (.string a) (.string b)).run P w = .ok v' w ∧ vrel μ v v' := by
  cases op <;> simp only [tbin] at e <;> first | (simp at e; done) | skip
  · obtain ⟨a, b, h1, h2, h3, h4⟩ := findT_ok e
    refine ⟨a, b, .string (a ++ b), denS_rel h1 hx, denS_rel h2 hy, ?_, denS_mk h4⟩
    simp only [binOp, Op.stringOp]
    rw [if_neg (by rw [IntKind.max_i64]; omega)]
    rfl
  all_goals
    obtain ⟨c, hc, e⟩ := ob_some e
    cases e
    obtain ⟨a, b, h1, h2, h3⟩ := tEq_sound hx hy hc
    have hcc : (a.toList == b.toList) = c := by
      rw [Bool.eq_iff_iff, bytes_beqL, h3]
    exact ⟨a, b, _, h1, h2, by simp only [binOp, Op.stringOp, hcc]; rfl, by simp [vrel]⟩
theorem bytes_beq (a b : ByteArray) : ((a == b) = true) ↔ a = b := by
  cases a with
  | mk a =>
  cases b with
  | mk b =>
    have h : ((⟨a⟩ : ByteArray) == ⟨b⟩) = (a == b) := rfl
    rw [h, beq_iff_eq, ByteArray.mk.injEq]
theorem ieq_eq {x y : AV} (h : ieq x y = true) : x = y := by
  unfold ieq at h
  split at h
  · simp only [Bool.and_eq_true, beq_iff_eq] at h
    have h1 := nbeq_iff.1 h.1
    rename_i k _ k' _
    have : k = k' := by cases k <;> cases k' <;> first | rfl | (simp [kcode] at h1)
    rw [this, h.2]
  · rw [nbeq_iff.1 h]
  · simp at h
theorem findB_mem {n : Nat} {x y v : AV} : ∀ {l : List (Nat × AV × AV × AV)}, findB n x y l = some v → (n, x, y, v) ∈ l
  | [], e => by have e' : (none : Option AV) = some v := e; simp at e'
  | r :: l, e => by
    have e' : (Bool.rec (findB n x y l) (Bool.rec (findB n x y l) (Bool.rec (findB n x y l) (some r.2.2.2) (ieq r.2.2.1 y)) (ieq r.2.1 x)) (Nat.beq r.1 n) : Option AV) = some v := e
    have tail : findB n x y l = some v → (n, x, y, v) ∈ r :: l := fun h => List.mem_cons_of_mem _ (findB_mem h)
    cases h1 : Nat.beq r.1 n with
    | false => rw [h1] at e'; exact tail e'
    | true =>
      rw [h1] at e'
      cases h2 : ieq r.2.1 x with
      | false => rw [h2] at e'; exact tail e'
      | true =>
        rw [h2] at e'
        cases h3 : ieq r.2.2.1 y with
        | false => rw [h3] at e'; exact tail e'
        | true =>
          rw [h3] at e'
          have e2 : some r.2.2.2 = some v := e'
          cases e2
          rw [← nbeq_iff.1 h1, ← ieq_eq h2, ← ieq_eq h3]; simp
theorem cellInt {t : TypeId} {k0 : IntKind} {a b : AV} {av bv : Value} {e : Bool} (hd : P.underlying t = some (.int k0)) (ha : vrel μ a av) (hb : vrel μ b bv) (h : ob (findB 9 a b Tab.ib) boolOf = some e) (dep : Nat) (w : World) :
    (Op.equalIn (dep + 1) t av bv).run P w = .ok e w ∧ isAgg? P t = some false := by
  obtain ⟨v, hv, h⟩ := ob_some h
  obtain ⟨k, x, k', y, v', h1, h2, h3, h4⟩ := Tab.ibok _ (findB_mem hv) .eql rfl
  rw [den_rel h1 ha, den_rel h2 hb]
  have h3 : ifb (Nat.beq (kcode k) (kcode k')) (some (AV.bool (x == y))) = some v' := h3
  obtain ⟨hk, h3⟩ := ifb_some h3
  cases h3
  rw [boolOf_some h] at h4
  have h4 : AV.bool e = .bool (x == y) := h4
  cases h4
  have : k = k' := by have := Nat.eq_of_beq_eq_true hk; revert this; cases k <;> cases k' <;> simp [kcode]
  subst this
  exact ⟨by simp [Op.equalIn, run_underlying hd], by unfold isAgg?; rw [hd]; rfl⟩
theorem cellStr {t : TypeId} {a b : ByteArray} {e : Bool} (hd : P.underlying t = some .string) (h : e = true ↔ a = b) (dep : Nat) (w : World) :
    (Op.equalIn (dep + 1) t (.string a) (.string b)).run P w = .ok e w ∧ isAgg? P t = some false := by
  refine ⟨?_, by unfold isAgg?; rw [hd]; rfl⟩
  simp only [Op.equalIn, Sem.run_bind, run_underlying hd, Result.andThen_ok, Sem.run_pure]
  congr 1
  rw [Bool.eq_iff_iff, h, bytes_beq]
theorem cellEq_sound {t : TypeId} {d : TypeDesc} {a b : AV} {av bv : Value} {e : Bool} (hd : P.underlying t = some d) (ha : vrel μ a av) (hb : vrel μ b bv) (h : cellEq d a b = some e) (dep : Nat) (w : World) :
    (Op.equalIn (dep + 1) t av bv).run P w = .ok e w ∧ isAgg? P t = some false := by
  unfold cellEq at h
  split at h
  · cases h
    simp only [vrel] at ha hb
    subst ha hb
    exact ⟨by simp [Op.equalIn, run_underlying hd], by unfold isAgg?; rw [hd]; rfl⟩
  · obtain ⟨hk, h⟩ := ifb_some h
    cases h
    simp only [vrel] at ha hb
    subst ha hb
    rename_i k x k' y
    have : k = k' := by have := Nat.eq_of_beq_eq_true hk; revert this; cases k <;> cases k' <;> simp [kcode]
    subst this
    exact ⟨by simp [Op.equalIn, run_underlying hd], by unfold isAgg?; rw [hd]; rfl⟩
  · cases h
    simp only [vrel] at ha hb
    obtain ⟨hc, rfl⟩ := ha
    obtain ⟨hc', rfl⟩ := hb
    refine ⟨?_, by unfold isAgg?; rw [hd]; rfl⟩
    simp only [Op.equalIn, Sem.run_bind, run_underlying hd, Result.andThen_ok, Sem.run_pure]
    congr 1
    rw [Bool.eq_iff_iff, strEq_iff hc hc', bytes_beq]
  · rename_i k0 i j
    cases hij : Nat.beq i j with
    | false => rw [hij] at h; exact cellInt hd ha hb h dep w
    | true =>
      rw [hij] at h
      cases h
      have := nbeq_iff.1 hij
      subst this
      simp only [vrel] at ha hb
      subst ha hb
      exact ⟨by simp [Op.equalIn, run_underlying hd], by unfold isAgg?; rw [hd]; rfl⟩
  · exact cellInt hd ha hb h dep w
  · exact cellInt hd ha hb h dep w
  · rename_i i j
    cases hij : Nat.beq i j with
    | false =>
      rw [hij] at h
      obtain ⟨x, y, rfl, rfl, h3⟩ := tEq_sound ha hb h
      exact cellStr hd h3 dep w
    | true =>
      rw [hij] at h
      cases h
      have := nbeq_iff.1 hij
      subst this
      simp only [vrel] at ha hb
      subst ha hb
      exact cellStr hd (by simp) dep w
  · obtain ⟨x, y, rfl, rfl, h3⟩ := tEq_sound ha hb h
    exact cellStr hd h3 dep w
  · obtain ⟨x, y, rfl, rfl, h3⟩ := tEq_sound ha hb h
    exact cellStr hd h3 dep w
  · cases h
theorem part_atom {t : TypeId} {cs : List Value} {o : Nat} {v : Value} (ha : isAgg? P t = some false) (hv : cs[o]? = some v) (w : World) : (part t ⟨cs⟩ o).run P w = .ok v w := by
  have : (⟨cs⟩ : Array Value)[o]? = some v := by simpa using hv
  simp [part, run_isAgg ha, this]
theorem fieldsEq_sound {xs ys : List AV} {xv yv : List Value} (hx : vrels μ xs xv) (hy : vrels μ ys yv) (dep : Nat) (w : World) : ∀ {fs : List Field} {e : Bool}, fieldsEq P xs ys fs = some e →
    Sem.run P (forIn fs ((none : Option Bool), ()) fun f __s =>
            if f.name = "_" then pure (ForInStep.yield (none, ()))
            else do
              let __do_lift ← part f.type ⟨xv⟩ f.offset
              let __do_lift_1 ← part f.type ⟨yv⟩ f.offset
              let __do_lift ← Op.equalIn (dep + 1) f.type __do_lift __do_lift_1
              if __do_lift = false then pure (ForInStep.done (some false, ())) else pure (ForInStep.yield (none, ()))) w = .ok (if e then (none, ()) else (some false, ())) w
  | [], e, h => by
    have h' : some true = some e := h
    cases h'
    simp
  | f :: fs, e, h => by
    obtain ⟨hn, h⟩ := ifb_some h
    have h : ob (P.underlying f.type) (fun d => ob xs[f.offset]? fun a => ob ys[f.offset]? fun b => ob (cellEq d a b) fun e => Bool.rec (some false) (fieldsEq P xs ys fs) e) = some e := h
    obtain ⟨d, hd, h⟩ := ob_some h
    obtain ⟨a, ha, h⟩ := ob_some h
    obtain ⟨b, hb, h⟩ := ob_some h
    obtain ⟨c, hc, h⟩ := ob_some h
    obtain ⟨av, ha1, ha2⟩ := vrels_get hx ha
    obtain ⟨bv, hb1, hb2⟩ := vrels_get hy hb
    obtain ⟨k1, k2⟩ := cellEq_sound hd ha2 hb2 hc dep w
    have hn' : ¬ f.name = "_" := by simpa using hn
    simp only [List.forIn_cons, if_neg hn', Sem.run_bind, part_atom k2 ha1, part_atom k2 hb1, Result.andThen_ok, k1]
    cases c with
    | false =>
      have h : some false = some e := h
      cases h
      simp
    | true =>
      have h : fieldsEq P xs ys fs = some e := h
      have ih := fieldsEq_sound hx hy dep w h
      simp
      simpa using ih
theorem aggEq_sound {op : BinOp} {t : TypeId} {xo yo : Operand} {xs ys : List AV} {v : AV} {xv yv : List Value} (hx : vrels μ xs xv) (hy : vrels μ ys yv) (e : aggEq P op t xs ys = some v) (w : World) :
    ∃ v', (do eqGuard op t xo yo (.agg ⟨xv⟩) (.agg ⟨yv⟩); binOp op t (.agg ⟨xv⟩) (.agg ⟨yv⟩) : Sem Value).run P w = .ok v' w ∧ vrel μ v v' := by
  cases op <;> simp only [aggEq] at e <;> first | (simp at e; done) | skip
  all_goals
    obtain ⟨d, hd, e⟩ := ob_some e
    cases d <;> simp only at e <;> first | (simp at e; done) | skip
    rename_i fs
    obtain ⟨hg, e⟩ := ifb_some e
    obtain ⟨b, hb, e⟩ := ob_some e
    cases e
    simp only [Bool.and_eq_true, Bool.not_eq_true'] at hg
    have hq0 : ∀ dep, (Op.equalIn (dep + 1 + 1) t (.agg ⟨xv⟩) (.agg ⟨yv⟩)).run P w = .ok b w := fun dep => by
      have hl := fieldsEq_sound hx hy dep w hb
      rw [Op.equalIn]
      simp only [Sem.run_bind, run_underlying hd, Result.andThen_ok]
      simp [hg.1]
      rw [← Array.forIn_toList, hl]
      cases b <;> simp
    have hq : (Op.equal t (.agg ⟨xv⟩) (.agg ⟨yv⟩)).run P w = .ok b w := hq0 9998
    first
      | (refine ⟨.bool b, ?_, by simp [vrel]⟩
         simp [eqGuard, hg.2, binOp, hq]
         done)
      | (refine ⟨.bool (!b), ?_, by simp [vrel]⟩
         simp [eqGuard, hg.2, binOp, hq]
         done)
theorem findC_mem {k : IntKind} {x v : AV} : ∀ {l : List (IntKind × AV × AV)}, findC k x l = some v → (k, x, v) ∈ l
  | [], e => by have e' : (none : Option AV) = some v := e; simp at e'
  | r :: l, e => by
    have e' : (Bool.rec (findC k x l) (Bool.rec (findC k x l) (some r.2.2) (ieq r.2.1 x)) (Nat.beq (kcode r.1) (kcode k)) : Option AV) = some v := e
    have tail : findC k x l = some v → (k, x, v) ∈ r :: l := fun h => List.mem_cons_of_mem _ (findC_mem h)
    cases h1 : Nat.beq (kcode r.1) (kcode k) with
    | false => rw [h1] at e'; exact tail e'
    | true =>
      rw [h1] at e'
      cases h2 : ieq r.2.1 x with
      | false => rw [h2] at e'; exact tail e'
      | true =>
        rw [h2] at e'
        have e2 : some r.2.2 = some v := e'
        cases e2
        have h3 := nbeq_iff.1 h1
        have : r.1 = k := by cases hr : r.1 <;> cases k <;> first | rfl | (rw [hr] at h3; simp [kcode] at h3)
        rw [← this, ← ieq_eq h2]; simp
theorem findU_mem {n : Nat} {x v : AV} : ∀ {l : List (Nat × AV × AV)}, findU n x l = some v → (n, x, v) ∈ l
  | [], e => by have e' : (none : Option AV) = some v := e; simp at e'
  | r :: l, e => by
    have e' : (Bool.rec (findU n x l) (Bool.rec (findU n x l) (some r.2.2) (ieq r.2.1 x)) (Nat.beq r.1 n) : Option AV) = some v := e
    have tail : findU n x l = some v → (n, x, v) ∈ r :: l := fun h => List.mem_cons_of_mem _ (findU_mem h)
    cases h1 : Nat.beq r.1 n with
    | false => rw [h1] at e'; exact tail e'
    | true =>
      rw [h1] at e'
      cases h2 : ieq r.2.1 x with
      | false => rw [h2] at e'; exact tail e'
      | true =>
        rw [h2] at e'
        have e2 : some r.2.2 = some v := e'
        cases e2
        rw [← nbeq_iff.1 h1, ← ieq_eq h2]; simp
theorem out_mk {v c : AV} {u : Value} (h : outI Tab.iv v c) (hu : vrel μ c u) : vrel μ v u := by
  unfold outI at h
  split at h
  · rw [h]; exact hu
  · simp only [vrel] at hu; rw [hu]; exact den_mk h
  · exact h.elim
theorem findB_sound {op : BinOp} {t : TypeId} {xo yo : Operand} {x y v : AV} {xv yv : Value} (hx : vrel μ x xv) (hy : vrel μ y yv) (e : findB (bcode op) x y Tab.ib = some v) :
    ∃ v', (do eqGuard op t xo yo xv yv; binOp op t xv yv : Sem Value).run P w = .ok v' w ∧ vrel μ v v' := by
  obtain ⟨k, a, k', b, c, h1, h2, h3, h4⟩ := Tab.ibok _ (findB_mem e) op rfl
  rw [den_rel h1 hx, den_rel h2 hy]
  obtain ⟨v', g1, g2⟩ := intBin_sound (P := P) (w := w) (μ := μ) (t := t) (x := xo) (y := yo) h3
  exact ⟨v', g1, out_mk h4 g2⟩
theorem bin_sound (r : HR B w0 μ h w) {op : BinOp} {t : TypeId} {xo yo : Operand} {x y v : AV} {xv yv : Value} (hx : vrel μ x xv) (hy : vrel μ y yv) (e : bin? P h op t (isConst xo || isConst yo) x y = some v) :
    OkQ P μ w (do eqGuard op t xo yo xv yv; binOp op t xv yv) v := by
  have : ∃ v', (do eqGuard op t xo yo xv yv; binOp op t xv yv : Sem Value).run P w = .ok v' w ∧ vrel μ v v' := by
    unfold bin? at e
    split at e
    · simp only [vrel] at hx hy
      subst hx hy
      exact intBin_sound e
    · simp only [vrel] at hx hy
      obtain ⟨hc, rfl⟩ := hx
      obtain ⟨hd, rfl⟩ := hy
      rw [eqGuard_str]
      simp only [Sem.run_bind, Sem.run_pure, Result.andThen_ok]
      exact strOp_sound hc hd e
    · rcases orE_some e with e | ⟨_, e⟩
      · simp only [vrel] at hx hy
        subst hx
        obtain ⟨hd, rfl⟩ := hy
        rw [eqGuard_str]
        simp only [Sem.run_bind, Sem.run_pure, Result.andThen_ok]
        exact ostrOp_sound hd (.inl ⟨rfl, rfl⟩) e
      · obtain ⟨a, b, v', rfl, rfl, h1, h2⟩ := tbin_sound (P := P) (w := w) (t := t) hx hy e
        rw [eqGuard_str]
        simp only [Sem.run_bind, Sem.run_pure, Result.andThen_ok]
        exact ⟨v', h1, h2⟩
    · rcases orE_some e with e | ⟨_, e⟩
      · simp only [vrel] at hx hy
        subst hy
        obtain ⟨hd, rfl⟩ := hx
        rw [eqGuard_str]
        simp only [Sem.run_bind, Sem.run_pure, Result.andThen_ok]
        exact ostrOp_sound hd (.inr ⟨rfl, rfl⟩) e
      · obtain ⟨a, b, v', rfl, rfl, h1, h2⟩ := tbin_sound (P := P) (w := w) (t := t) hx hy e
        rw [eqGuard_str]
        simp only [Sem.run_bind, Sem.run_pure, Result.andThen_ok]
        exact ⟨v', h1, h2⟩
    · obtain ⟨a, b, v', rfl, rfl, h1, h2⟩ := tbin_sound (P := P) (w := w) (t := t) hx hy e
      rw [eqGuard_str]
      simp only [Sem.run_bind, Sem.run_pure, Result.andThen_ok]
      exact ⟨v', h1, h2⟩
    · simp only [vrel] at hx hy
      subst hx hy
      exact niliEq_sound e
    · simp only [vrel] at hx hy
      obtain ⟨xs', rfl, hx⟩ := hx
      obtain ⟨ys', rfl, hy⟩ := hy
      exact aggEq_sound hx hy e w
    · exact findB_sound hx hy e
    · exact findB_sound hx hy e
    · exact eqOp_sound r hx hy e
  obtain ⟨v', h1, h2⟩ := this
  exact .same r h1 h2
theorem un_sound (r : HR B w0 μ h w) {op : UnOp} {x v : AV} {xv : Value} (hx : vrel μ x xv) (e : un? op x = some v) : OkQ P μ w (Op.unary op xv) v := by
  unfold un? at e
  split at e
  · obtain ⟨k, n, c, h1, h2, h3⟩ := Tab.iuok _ (findU_mem e) op rfl
    rw [den_rel h1 hx]
    cases op <;> simp only [unI] at h2 <;> first | (simp at h2; done) | skip
    all_goals
      cases h2
      refine .same r (v' := _) (by simp only [Op.unary, Op.intArith, Op.intBits]; rfl) (out_mk h3 (by simp [vrel]))
  all_goals first | (simp at e; done) | skip
  all_goals
    cases e
    simp only [vrel] at hx
    subst hx
    refine .same r (v' := _) (by simp only [Op.unary, Op.intArith, Op.intBits]; rfl) (by simp [vrel])
end Go.X
set_option linter.unusedVariables false
set_option linter.unusedSimpArgs false
set_option linter.unusedSectionVars false
namespace Go.X
open Go.RowKit
variable [Tab]
variable {P : Program} {B : Kp} {w0 : World} {μ : M} {h h' : H} {w w' : World}
theorem u8_some {e : TypeId} (hu : u8? P e = true) : P.underlying e = some (.int .u8) := by
  unfold u8? at hu
  cases hd : P.underlying e with
  | none => rw [hd] at hu; simp at hu
  | some d =>
    rw [hd] at hu
    cases d <;> simp [isU8] at hu
    rename_i k
    cases k <;> simp [isU8] at hu
    rfl
theorem cellBytes_sound : ∀ {l : List AV} {vs : List Value} {c : Nat}, cellBytes l = some c → vrels μ l vs → ∃ ns : List Nat, vs = ns.map (fun (n : Nat) => Value.int .u8 (n : Int)) ∧ ns.length = l.length ∧ ns = dec l.length c ∧ c < 256 ^ l.length
  | [], vs, c, e, hv => by
    simp only [vrels] at hv; subst hv
    have e' : some 0 = some c := e
    cases e'
    exact ⟨[], rfl, rfl, rfl, by simp⟩
  | a :: l, vs, c, e, hv => by
    simp only [vrels] at hv
    obtain ⟨v, r, rfl, h1, h2⟩ := hv
    have e' : ob (cellByte a) (fun n => ob (cellBytes l) fun r => some (n + 256 * r)) = some c := e
    obtain ⟨n, hn, e'⟩ := ob_some e'
    obtain ⟨c', hc', e'⟩ := ob_some e'
    cases e'
    obtain ⟨ns, g1, g2, g3, g4⟩ := cellBytes_sound hc' h2
    have ha : a = .int .u8 (n : Int) ∧ n < 256 := by
      unfold cellByte at hn
      split at hn
      · obtain ⟨k1, k2⟩ := ifb_some hn
        cases k2
        exact ⟨rfl, blt_iff.1 k1⟩
      · simp at hn
    obtain ⟨rfl, hlt⟩ := ha
    simp only [vrel] at h1
    subst h1
    refine ⟨n :: ns, by simp [g1], by simp [g2], ?_, ?_⟩
    · simp only [List.length_cons, dec]
      have e1 : (n + 256 * c') % 256 = n := by omega
      have e2 : (n + 256 * c') / 256 = c' := by omega
      rw [e1, e2, ← g3]
    · simp only [List.length_cons, Nat.pow_succ]; omega
theorem foldl_push : ∀ (ns : List Nat) (s : ByteArray), ((ns.map fun (n : Nat) => (n : Int)).foldl (fun r n => r.push (UInt8.ofNat n.toNat)) s) = ⟨⟨s.data.toList ++ ns.map UInt8.ofNat⟩⟩
  | [], s => by simp
  | n :: ns, s => by
    simp only [List.map_cons, List.foldl_cons]
    rw [foldl_push ns]
    simp [ByteArray.push]
theorem bytesString_sound (r : HR B w0 μ h w) {v : AV} {x : Value} {p : Nat × Nat} (hv : vrel μ v x) (e : bytesOfSlice h v = some p) :
    (Conv.bytesToString x).run P w = .ok (.string (strOf p.1 p.2)) w ∧ p.2 < 256 ^ p.1 := by
  have key : ∀ (y o n : Nat) (l : Loc) (cap : Nat), μ y = some l → (ob (h.loads y o n) fun l => ob (cellBytes l) fun c => some (n, c)) = some p →
      (Conv.bytesToString (.slice (some ⟨l.block, l.base + o, none⟩) n cap)).run P w = .ok (.string (strOf p.1 p.2)) w ∧ p.2 < 256 ^ p.1 := by
    intro y o n l cap hl e
    obtain ⟨as, has, e⟩ := ob_some e
    obtain ⟨c, hc, e⟩ := ob_some e
    cases e
    obtain ⟨vs, h1, h2, h3⟩ := r.loads hl n o as has
    obtain ⟨ns, g1, g2, g3, g4⟩ := cellBytes_sound hc h1
    have hlen : as.length = n := by rw [← vrels_length h1]; exact h2
    rw [hlen] at g3 g4
    have hcells := cell_loads (P := P) h2 h3
    refine ⟨?_, g4⟩
    rw [run_bytesToString w ⟨l.block, l.base + o, none⟩ n cap (ns.map fun (n : Nat) => (n : Int)) (by rw [hcells, g1]; simp)]
    rw [foldl_push]
    simp [strOf, g3]
  cases v with
  | nils =>
    simp only [vrel] at hv; subst hv
    simp only [bytesOfSlice] at e; cases e
    exact ⟨by simp [Conv.bytesToString, strOf, dec]; rfl, by simp⟩
  | sl y o n c =>
    simp only [vrel] at hv
    obtain ⟨l, hl, rfl⟩ := hv
    exact key y o n l c hl e
  | so y o n z =>
    simp only [vrel] at hv
    obtain ⟨l, cap, hl, _, _, rfl⟩ := hv
    exact key y o n l cap hl e
  | _ => simp [bytesOfSlice] at e
theorem rowT_sound (r : HR B w0 μ h w) {v u : AV} {x : Value} (hv : vrel μ v x) (e : (ob (rowCells h v) fun l => findT 6 l Tab.tr) = some u) :
    ∃ b n c s, x = .slice b n c ∧ (Conv.bytesToString x).run P w = .ok (.string s) w ∧ vrel μ u (.string s) := by
  obtain ⟨as, has, e⟩ := ob_some e
  obtain ⟨ns, h1, h2⟩ := findT_ok e
  have key : ∀ (y o n : Nat) (l : Loc) (cap : Nat), μ y = some l → h.loads y o n = some as →
      (Conv.bytesToString (.slice (some ⟨l.block, l.base + o, none⟩) n cap)).run P w = .ok (.string ⟨⟨ns⟩⟩) w := by
    intro y o n l cap hl e
    obtain ⟨vs, g1, g2, g3⟩ := r.loads hl n o as e
    have hcells := cell_loads (P := P) g2 g3
    have hvs : vs = (ns.map fun b => (b.toNat : Int)).map (Value.int .u8) := by
      have := dens_fun h1 g1
      rw [this]; simp
    rw [run_bytesToString w ⟨l.block, l.base + o, none⟩ n cap (ns.map fun b => (b.toNat : Int)) (by rw [hcells, hvs])]
    have hf := foldl_push (ns.map UInt8.toNat) ByteArray.empty
    simp only [List.map_map] at hf
    have e1 : ((fun (n : Nat) => (n : Int)) ∘ UInt8.toNat) = fun (b : UInt8) => (b.toNat : Int) := rfl
    have e2 : (UInt8.ofNat ∘ UInt8.toNat) = id := by funext b; simp
    rw [e1, e2] at hf
    rw [hf]
    simp
  cases v with
  | sl y o n c =>
    simp only [vrel] at hv
    obtain ⟨l, hl, rfl⟩ := hv
    exact ⟨_, _, _, _, rfl, key y o n l c hl has, denS_mk h2⟩
  | so y o n z =>
    simp only [vrel] at hv
    obtain ⟨l, cap, hl, _, _, rfl⟩ := hv
    exact ⟨_, _, _, _, rfl, key y o n l cap hl has, denS_mk h2⟩
  | _ => simp [rowCells] at has
theorem findVT_some {i j t : Nat} : ∀ {l : List (Nat × Nat × Nat)}, findVT i j l = some t → (i, j, t) ∈ l
  | [], e => by have e' : (none : Option Nat) = some t := e; cases e'
  | r :: l, e => by
    have e' : (@Bool.rec (fun _ => Option Nat) (findVT i j l) (@Bool.rec (fun _ => Option Nat) (findVT i j l) (some r.2.2) (Nat.beq r.2.1 j)) (Nat.beq r.1 i)) = some t := e
    cases h1 : Nat.beq r.1 i with
    | false => rw [h1] at e'; exact List.mem_cons_of_mem _ (findVT_some e')
    | true =>
    cases h2 : Nat.beq r.2.1 j with
    | false => rw [h1, h2] at e'; exact List.mem_cons_of_mem _ (findVT_some e')
    | true =>
      rw [h1, h2] at e'
      cases e'
      rw [← nbeq_iff.1 h1, ← nbeq_iff.1 h2]
      exact List.mem_cons_self
theorem vecT_sound (r : HR B w0 μ h w) {v u : AV} {x : Value} (hv : vrel μ v x) (e : vecT h v = some u) :
    ∃ b n c s, x = .slice b n c ∧ (Conv.bytesToString x).run P w = .ok (.string s) w ∧ vrel μ u (.string s) := by
  cases v <;> simp only [vecT] at e <;> first | (cases e; done) | skip
  case ov y j z =>
    obtain ⟨hz, e⟩ := ifb_some e
    obtain ⟨bl, hbl, e⟩ := ob_some e
    obtain ⟨i, hi, e⟩ := ob_some e
    obtain ⟨t, ht, e⟩ := ob_some e
    cases e
    have hz := nbeq_iff.1 hz
    subst hz
    have hb : bl = .vec i := by cases bl <;> simp [vecOf] at hi; rw [hi]
    subst hb
    obtain ⟨o1, o2, o3⟩ := Tab.vtok _ (findVT_some ht)
    simp only at o1 o2 o3
    simp only [vrel] at hv
    obtain ⟨_, l, c, hl, hmc, htot, rfl⟩ := hv
    obtain ⟨l', hl', _, _, arr, el, fz, g1, g2, g3, g4, g5⟩ := r.blk y _ hbl
    rw [hl] at hl'; cases hl'
    generalize hn : (Tab.iv j).2.toNat = n at o2 hmc ⊢
    have hcells : (loadCells ⟨l.block, l.base, none⟩ n).run P w = .ok ⟨((Tab.str t).data.toList.map fun b => (b.toNat : Int)).map (Value.int .u8)⟩ w := by
      refine cell_loads (l := l) (o := 0) (by simp only [List.length_map]; exact o2) fun k hk => ?_
      rw [← o2] at hk
      have hx : (Tab.str t).data.toList[k]? = some (Tab.str t).data.toList[k] := List.getElem?_eq_getElem hk
      obtain ⟨v, v1, v2⟩ := g5 k _ (o3 k _ hx)
      simp only [vrel] at v2
      subst v2
      rw [List.getElem?_map, List.getElem?_map, hx]
      show w.cell? ⟨l.block, l.base + 0 + k, none⟩ = _
      simp only [World.cell?, g1, Nat.add_zero, v1]
      rfl
    refine ⟨_, _, _, Tab.str t, rfl, ?_, by simp only [vrel]⟩
    rw [run_bytesToString w ⟨l.block, l.base, none⟩ n c ((Tab.str t).data.toList.map fun b => (b.toNat : Int)) hcells]
    have hf := foldl_push ((Tab.str t).data.toList.map UInt8.toNat) ByteArray.empty
    simp only [List.map_map] at hf
    have e1 : ((fun (n : Nat) => (n : Int)) ∘ UInt8.toNat) = fun (b : UInt8) => (b.toNat : Int) := rfl
    have e2 : (UInt8.ofNat ∘ UInt8.toNat) = id := by funext b; simp
    rw [e1, e2] at hf
    rw [hf]
    simp
theorem bytesT_sound (r : HR B w0 μ h w) {v u : AV} {x : Value} (hv : vrel μ v x) (e : bytesT h v = some u) :
    ∃ b n c s, x = .slice b n c ∧ (Conv.bytesToString x).run P w = .ok (.string s) w ∧ vrel μ u (.string s) := by
  unfold bytesT at e
  cases h1 : (ob (rowCells h v) fun l => findT 6 l Tab.tr) with
  | some q => rw [h1] at e; cases e; exact rowT_sound r hv h1
  | none => rw [h1] at e; exact vecT_sound r hv e
theorem freeze_end (w : World) (c : Nat) (arr : Array Value) (e : TypeId) (hw : w.heap[c]? = some (.cells arr e (0, 0))) :
    (w.freeze ⟨c, arr.size, none⟩ 1).heap[c]? = some (.cells arr e (arr.size, arr.size + 1)) ∧ ∀ k, k ≠ c → (w.freeze ⟨c, arr.size, none⟩ 1).heap[k]? = w.heap[k]? := by
  constructor
  · simp [World.freeze, Array.getElem?_modify, hw]
  · intro k hk
    show (w.heap.modify c _)[k]? = _
    rw [Array.getElem?_modify, if_neg (fun e => hk e.symm)]
theorem marked_sound (r : HR B w0 μ h w) {x o n c : Nat} {e e' : TypeId} {src dst : TypeId} {xv : Value} {b b' : Blk} {s : TypeDesc} (hse : asSlice s = some e') (hs : P.underlying src = some s) (hd : P.underlying dst = some (.slice e)) (hu : P.underlying e = some (.int .u8)) (hsd : src = dst)
    (hx : vrel μ (.sl x o n c) xv) (hlim : x < limit) (hb : h.get x = some b) (hm : marked b = some b') : OkV P B w0 μ w (convert src dst xv) (.sl x o n c) (h.put x b') := by
  have hx' := hx
  simp only [vrel] at hx
  obtain ⟨l, hl, rfl⟩ := hx
  cases b <;> simp only [marked] at hm <;> first | (simp at hm; done) | skip
  rename_i m p z t
  cases p <;> simp only at hm <;> first | (simp at hm; done) | skip
  cases hm
  obtain ⟨l', hl', _, _, hr⟩ := r.blk x _ hb
  rw [hl] at hl'; cases hl'
  obtain ⟨arr, el, fz, g1, g2, g3, g4, g5, g6⟩ := hr
  have hfz := g5 rfl
  subst hfz
  obtain ⟨f1, f2⟩ := freeze_end w l.block arr el g1
  have hs' : s = .slice e' := by cases s <;> simp [asSlice] at hse; rw [hse]
  subst hs'
  refine ⟨.slice (some ⟨l.block, l.base + o, none⟩) n c, w.freeze ⟨l.block, arr.size, none⟩ 1, μ, ?_, Ext.refl _, hx', ?_⟩
  · have hshape : w.shape? l.block = some (el, arr.size) := by simp [World.shape?, g1]
    have hbeq : (src == dst) = true := by rw [hsd]; exact beq_self_eq_true _
    simp only [convert, Sem.run_bind, run_underlying hs, run_underlying hd, Result.andThen_ok, run_underlying hu, hbeq, markStringish, run_shape, Sem.run_pure]
    change ((Sem.run P (match World.shape? w l.block with | some (_, n) => freeze { block := l.block, off := n } 1 | _ => pure ()) w).andThen fun _ w' => Result.ok (Value.slice (some { block := l.block, off := l.base + o }) n c) w') = _
    rw [hshape]
    rfl
  · refine r.upd hb hl rfl rfl (by unfold limit at hlim; omega) ⟨by simp only [World.freeze]; rfl, by simp only [World.freeze]; rfl, by simp only [World.freeze]; rfl, by simp [World.freeze], f2⟩ ?_
    exact ⟨arr, el, _, f1, g2, fun i hi => by simp; omega, g4, fun e => by simp at e, g6⟩
theorem conv_sound (r : HR B w0 μ h w) {src dst : TypeId} {a : AV} {x : Value} {p : AV × H} (hx : vrel μ a x) (e : conv? P src dst h a = some p) :
    OkV P B w0 μ w (convert src dst x) p.1 p.2 := by
  obtain ⟨s, hs, e⟩ := ob_some e
  obtain ⟨d, hd, e⟩ := ob_some e
  cases d <;> simp only at e <;> first | (simp at e; done) | skip
  case int k =>
    unfold convInt at e
    split at e
    · cases e
      simp only [vrel] at hx; subst hx
      refine .same r (by simp [convert, run_underlying hs, run_underlying hd, Conv.intToInt]; rfl) (by simp [vrel, wrapF_eq])
    · obtain ⟨v, hv, e⟩ := ob_some e
      cases e
      obtain ⟨k', n, h1, h2⟩ := Tab.icok _ (findC_mem hv)
      rw [den_rel h1 hx]
      exact .same r (by simp [convert, run_underlying hs, run_underlying hd, Conv.intToInt]) (den_mk h2)
    · simp at e
  case string =>
    unfold convStr at e
    split at e
    · cases e
      simp only [vrel] at hx
      obtain ⟨hc, rfl⟩ := hx
      exact .same r (by simp [convert, run_underlying hs, run_underlying hd]; rfl) (by simp only [vrel]; exact ⟨hc, trivial⟩)
    · cases e
      simp only [vrel] at hx; subst hx
      refine .same r (v' := .string (Utf8.encode _)) (by simp [convert, run_underlying hs, run_underlying hd, Conv.intToString]; rfl) ?_
      exact vrel_string _
    · rename_i e' hns hni
      obtain ⟨hu, e⟩ := ifb_some e
      obtain ⟨q', hq', e⟩ := ob_some e
      cases e
      have hu := u8_some hu
      rcases orE_some hq' with hq' | ⟨_, hq'⟩
      case inr =>
        obtain ⟨b, n, c, s', rfl, g1, g2⟩ := bytesT_sound (P := P) r hx hq'
        exact .same r (v' := .string s') (by simp [convert, run_underlying hs, run_underlying hd, run_underlying hu, g1]) g2
      obtain ⟨q, hq, hq'⟩ := ob_some hq'
      cases hq'
      obtain ⟨h1, h2⟩ := bytesString_sound (P := P) r hx hq
      have hsl : ∃ b n c, x = .slice b n c := by
        cases a <;> simp [bytesOfSlice] at hq <;> simp only [vrel] at hx
        · exact ⟨_, _, _, hx⟩
        · obtain ⟨_, _, rfl⟩ := hx; exact ⟨_, _, _, rfl⟩
        · obtain ⟨_, _, _, _, _, rfl⟩ := hx; exact ⟨_, _, _, rfl⟩
      obtain ⟨b, n, c, rfl⟩ := hsl
      refine .same r (v' := .string (strOf q.1 q.2)) (by simp [convert, run_underlying hs, run_underlying hd, run_underlying hu, h1]) ?_
      simp only [vrel]; exact ⟨h2, trivial⟩
    · cases e
      simp only [vrel] at hx; subst hx
      exact .same r (v' := .string (Tab.str _)) (by simp [convert, run_underlying hs, run_underlying hd]; rfl) (by simp only [vrel])
    · simp at e
  case slice el =>
    cases a with
    | sl y off n c =>
      simp only [convBytes] at e
      obtain ⟨hsd, e⟩ := ifb_some e
      obtain ⟨e', hse, e⟩ := ob_some e
      obtain ⟨hcond, e⟩ := ifb_some e
      obtain ⟨b, hb, e⟩ := ob_some e
      obtain ⟨b', hm, e⟩ := ob_some e
      cases e
      simp only [Bool.and_eq_true] at hcond
      exact marked_sound r hse hs hd (u8_some hcond.1) (nbeq_iff.1 hsd) hx (blt_iff.1 hcond.2) hb hm
    | str n c =>
      simp only [convBytes] at e
      obtain ⟨hcond, e⟩ := ifb_some e
      obtain ⟨q, hq, e⟩ := ob_some e
      cases e
      simp only [Bool.and_eq_true] at hcond
      have hu := u8_some hcond.1
      simp only [vrel] at hx
      obtain ⟨hc, rfl⟩ := hx
      let cap := n + w.tape w.drawn (.appendCap n 0 el) % (2 ^ 63 - n)
      let arr : Array Value := ((strOf n c).data.map fun b => Value.int .u8 (b.toNat : Int)) ++ Array.replicate (cap - n) (.int .u8 0)
      have hbytes : ((strOf n c).data.map fun b => Value.int .u8 (b.toNat : Int)).toList = (dec n c).map fun (b : Nat) => Value.int .u8 (b : Int) := by
        have := bytes_of_str n n c (Nat.le_refl _)
        have hex := ByteArray.extract_zero_size (b := strOf n c)
        rw [strOf_size] at hex
        rwa [hex] at this
      have hsz : arr.size = cap := by
        have h1 : (strOf n c).data.size = n := strOf_size n c
        simp only [arr, Array.size_append, Array.size_map, h1, Array.size_replicate]
        simp only [cap]; omega
      have hlen : (((strOf n c).data.map fun b => Value.int .u8 (b.toNat : Int)).toList).length = n := by rw [hbytes]; simp [dec_length]
      let w1 : World := w.drew.alloc (.cells arr el (0, 0))
      have hw1 : w1.heap[w.heap.size]? = some (.cells arr el (0, 0)) := by show (w.heap.push _)[w.heap.size]? = _; simp
      obtain ⟨f1, f2⟩ := freeze_end w1 w.heap.size arr el hw1
      have hshape : w1.shape? w.heap.size = some (el, arr.size) := by simp [World.shape?, hw1]
      have hbel : Below w.heap.size w (w1.freeze ⟨w.heap.size, arr.size, none⟩ 1) := by
        have hb1 := below_drew_alloc w (.cells arr el (0, 0))
        exact hb1.trans ⟨by simp only [World.freeze]; rfl, by simp only [World.freeze]; rfl, by simp only [World.freeze]; rfl, by simp [World.freeze, w1], fun k hk => f2 k (by omega)⟩
      obtain ⟨hll, hq⟩ := H.row_some hq
      have := r.row (x := q.1) (h' := q.2) (vs := (dec n c).map fun (b : Nat) => Value.int .u8 (b : Int)) (arr := arr) (e := el) (fz := (arr.size, arr.size + 1)) (At.ofAlloc r hq) hll (byteCells_sound n c) hbel f1 (by simp [dec_length]; rw [hsz]; simp only [cap]; omega)
        (fun i hi => by
          simp only [arr]
          rw [Array.getElem?_append_left (by rw [← Array.length_toList, hlen]; simpa [dec_length] using hi), ← Array.getElem?_toList, hbytes]) (fun i hi => by simp; omega) (fun e => by simp at e)
      obtain ⟨k1, k2, k3⟩ := this
      refine ⟨.slice (some ⟨w.heap.size, 0, none⟩) n cap, _, _, ?_, k1, ?_, k3⟩
      · simp only [convert, Sem.run_bind, run_underlying hs, run_underlying hd, Result.andThen_ok, run_underlying hu, Conv.stringToBytes, run_choose, Question.forced, strOf_size, Question.cut]
        simp only [Bool.false_eq_true, if_false, Result.andThen_ok, newRow, Sem.run_bind, run_newObj, Sem.run_pure, markStringish, run_shape]
        change (Sem.run P (match World.shape? w1 w.heap.size with | some (_, n) => freeze { block := w.heap.size, off := n } 1 | _ => pure ()) w1).andThen (fun _ w' => Result.ok (Value.slice (some { block := w.heap.size, off := 0 }) n cap) w') = _
        rw [hshape]
        rfl
      · simp only [vrel]
        exact ⟨_, cap, k2, by simp only [cap]; omega, by simp [hsz], rfl⟩
    | ostr j =>
      simp only [convBytes] at e
      obtain ⟨u, hu7, e⟩ := ob_some e
      obtain ⟨as, hag, e⟩ := ob_some e
      obtain ⟨hcond, e⟩ := ifb_some e
      obtain ⟨q, hq, e⟩ := ob_some e
      cases e
      simp only [Bool.and_eq_true] at hcond
      have hu := u8_some hcond.1
      obtain ⟨bb, r', k1, k2, k3⟩ := findT_ok hu7
      rw [aggOf_some hag] at k2
      cases k2
      have hx := denS_rel k1 hx
      subst hx
      have hsize : as.length = bb.size := by have := congrArg List.length k3; simpa using this
      let n := bb.size
      let cap := n + w.tape w.drawn (.appendCap n 0 el) % (2 ^ 63 - n)
      let arr : Array Value := (bb.data.map fun b => Value.int .u8 (b.toNat : Int)) ++ Array.replicate (cap - n) (.int .u8 0)
      have hbytes : (bb.data.map fun b => Value.int .u8 (b.toNat : Int)).toList = bb.data.toList.map fun b => Value.int .u8 (b.toNat : Int) := by simp
      have hsz : arr.size = cap := by
        have h1 : bb.data.size = n := rfl
        simp only [arr, Array.size_append, Array.size_map, h1, Array.size_replicate]
        simp only [cap]; omega
      have hlen : ((bb.data.map fun b => Value.int .u8 (b.toNat : Int)).toList).length = n := by rw [hbytes]; simp; rfl
      let w1 : World := w.drew.alloc (.cells arr el (0, 0))
      have hw1 : w1.heap[w.heap.size]? = some (.cells arr el (0, 0)) := by show (w.heap.push _)[w.heap.size]? = _; simp
      obtain ⟨f1, f2⟩ := freeze_end w1 w.heap.size arr el hw1
      have hshape : w1.shape? w.heap.size = some (el, arr.size) := by simp [World.shape?, hw1]
      have hbel : Below w.heap.size w (w1.freeze ⟨w.heap.size, arr.size, none⟩ 1) := by
        have hb1 := below_drew_alloc w (.cells arr el (0, 0))
        exact hb1.trans ⟨by simp only [World.freeze]; rfl, by simp only [World.freeze]; rfl, by simp only [World.freeze]; rfl, by simp [World.freeze, w1], fun k hk => f2 k (by omega)⟩
      obtain ⟨hll, hq⟩ := H.row_some hq
      have hvl : (bb.data.toList.map fun b => Value.int .u8 (b.toNat : Int)).length = n := by simp; rfl
      have := r.row (x := q.1) (h' := q.2) (vs := bb.data.toList.map fun b => Value.int .u8 (b.toNat : Int)) (arr := arr) (e := el) (fz := (arr.size, arr.size + 1)) (At.ofAlloc r hq) hll (dens_rels k3) hbel f1 (by rw [hvl, hsz]; simp only [cap]; omega)
        (fun i hi => by
          simp only [arr]
          rw [Array.getElem?_append_left (by rw [← Array.length_toList, hlen]; rw [hvl] at hi; exact hi), ← Array.getElem?_toList, hbytes]) (fun i hi => by simp; omega) (fun e => by simp at e)
      obtain ⟨k1, k2, k3⟩ := this
      refine ⟨.slice (some ⟨w.heap.size, 0, none⟩) n cap, _, _, ?_, k1, ?_, k3⟩
      · simp only [convert, Sem.run_bind, run_underlying hs, run_underlying hd, Result.andThen_ok, run_underlying hu, Conv.stringToBytes, run_choose, Question.forced, Question.cut]
        simp only [Bool.false_eq_true, if_false, Result.andThen_ok, newRow, Sem.run_bind, run_newObj, Sem.run_pure, markStringish, run_shape]
        change (Sem.run P (match World.shape? w1 w.heap.size with | some (_, n) => freeze { block := w.heap.size, off := n } 1 | _ => pure ()) w1).andThen (fun _ w' => Result.ok (Value.slice (some { block := w.heap.size, off := 0 }) n cap) w') = _
        rw [hshape]
        rfl
      · simp only [vrel]
        exact ⟨_, cap, k2, by rw [hsize]; simp only [cap]; omega, by simp [hsz], by rw [hsize]⟩
    | _ => simp [convBytes] at e
def orel (μ : M) : Option AV → Option Value → Prop
  | none, none => True
  | some a, some v => vrel μ a v
  | _, _ => False
theorem bounds_sound {isSl : Bool} {len cap l r m : Nat} {lo hi mx : Option AV} {lov hiv mxv : Option Value} (h1 : orel μ lo lov) (h2 : orel μ hi hiv) (h3 : orel μ mx mxv)
    (e1 : bound? 0 lo = some l) (e2 : bound? len hi = some r) (e3 : bound? cap mx = some m) (hc : (mx.isNone || hi.isSome) = true) (hs : sub3 l r m cap = true) :
    (Instr.sliceBounds isSl len cap lov hiv mxv).run P w = .ok (l, r, m) w := by
  unfold sub3 at hs
  simp only [Bool.and_eq_true, ble_iff] at hs
  obtain ⟨s1, s2, s3⟩ := hs
  have key : ∀ {d n y : Nat} {a : AV} {v : Value} (code : BoundsCode), vrel μ a v → bound? d (some a) = some n → n ≤ y → (Instr.sliceBound v y code).run P w = .ok n w := by
    intro d n y a v code hv e hy
    simp only [bound?] at e
    obtain ⟨k, rfl⟩ := nat_some e
    simp only [vrel] at hv
    subst hv
    simp [Instr.sliceBound, asIntOf]
    intro hh
    omega
  cases mx with
  | none =>
    cases mxv with
    | some v => exact h3.elim
    | none =>
      simp only [bound?] at e3; cases e3
      cases hi with
      | none =>
        cases hiv with
        | some v => exact h2.elim
        | none =>
          simp only [bound?] at e2; cases e2
          cases lo with
          | none =>
            cases lov with
            | some v => exact h1.elim
            | none => simp only [bound?] at e1; cases e1; simp [Instr.sliceBounds]
          | some a =>
            cases lov with
            | none => exact h1.elim
            | some v => simp [Instr.sliceBounds, key _ h1 e1 s1]
      | some b =>
        cases hiv with
        | none => exact h2.elim
        | some u =>
          cases lo with
          | none =>
            cases lov with
            | some v => exact h1.elim
            | none => simp only [bound?] at e1; cases e1; simp [Instr.sliceBounds, key _ h2 e2 s2]
          | some a =>
            cases lov with
            | none => exact h1.elim
            | some v => simp [Instr.sliceBounds, key _ h1 e1 s1, key _ h2 e2 s2]
  | some c =>
    cases mxv with
    | none => exact h3.elim
    | some x =>
      cases hi with
      | none => simp at hc
      | some b =>
        cases hiv with
        | none => exact h2.elim
        | some u =>
          cases lo with
          | none =>
            cases lov with
            | some v => exact h1.elim
            | none => simp only [bound?] at e1; cases e1; simp [Instr.sliceBounds, key _ h3 e3 s3, key _ h2 e2 s2]
          | some a =>
            cases lov with
            | none => exact h1.elim
            | some v => simp [Instr.sliceBounds, key _ h3 e3 s3, key _ h1 e1 s1, key _ h2 e2 s2]
theorem dec_div : ∀ (l n c : Nat), dec n (c / 256 ^ l) = (dec (l + n) c).drop l
  | 0, n, c => by simp
  | l + 1, n, c => by
    have e : l + 1 + n = (l + n) + 1 := by omega
    rw [e]
    simp only [dec, List.drop_succ_cons]
    rw [← dec_div l n (c / 256), Nat.div_div_eq_div_mul, Nat.pow_succ, Nat.mul_comm]
theorem dec_mod : ∀ (n k c : Nat), n ≤ k → dec n (c % 256 ^ k) = dec n c
  | 0, k, c, _ => rfl
  | n + 1, 0, c, h => by omega
  | n + 1, k + 1, c, h => by
    simp only [dec]
    have e1 : c % 256 ^ (k + 1) % 256 = c % 256 := Nat.mod_mod_of_dvd _ (by rw [Nat.pow_succ]; exact Nat.dvd_mul_left _ _)
    have e2 : c % 256 ^ (k + 1) / 256 = c / 256 % 256 ^ k := by
      rw [Nat.pow_succ, Nat.mul_comm, Nat.mod_mul_right_div_self]
    rw [e1, e2, dec_mod n k (c / 256) (by omega)]
theorem str_extract {l r n c : Nat} (h1 : l ≤ r) (h2 : r ≤ n) : (strOf n c).extract l r = strOf (r - l) (c / 256 ^ l % 256 ^ (r - l)) := by
  have e : dec (r - l) (c / 256 ^ l % 256 ^ (r - l)) = ((dec n c).take r).drop l := by
    rw [dec_mod _ _ _ (Nat.le_refl _), dec_div l (r - l) c, ← dec_take r n c h2]
    congr 2; omega
  have : ((strOf n c).extract l r).data.toList = (strOf (r - l) (c / 256 ^ l % 256 ^ (r - l))).data.toList := by
    rw [ByteArray.data_extract]
    simp only [strOf, e]
    simp [List.map_drop, List.map_take, List.drop_take]
  have h3 := Array.toList_inj.1 this
  cases hx : (strOf n c).extract l r; cases hy : strOf (r - l) (c / 256 ^ l % 256 ^ (r - l))
  rw [hx, hy] at h3
  simpa using h3
theorem boundsT_sound {len l r : Nat} {lo hi : Option AV} {a b : AV} {lov hiv : Option Value} (h1 : orel μ lo lov) (h2 : orel μ hi hiv)
    (e1 : bnd? lo = some a) (e2 : bnd? hi = some b) (g1 : bndS Tab.iv 0 a l) (g2 : bndS Tab.iv len b r) (s1 : l ≤ r) (s2 : r ≤ len) :
    (Instr.sliceBounds false len len lov hiv none).run P w = .ok (l, r, len) w := by
  have key : ∀ {d n y : Nat} {o : Option AV} {a : AV} {ov : Option Value} (code : BoundsCode), orel μ o ov → bnd? o = some a → bndS Tab.iv d a n → n ≤ y → (ov = none ∧ n = d) ∨ ∃ v, ov = some v ∧ (Instr.sliceBound v y code).run P w = .ok n w := by
    intro d n y o a ov code ho e hb hy
    unfold bnd? at e
    split at e
    · cases e
      cases ov with
      | some v => exact ho.elim
      | none => exact .inl ⟨rfl, hb⟩
    all_goals first | (simp at e; done) | skip
    all_goals
      cases e
      cases ov with
      | none => exact ho.elim
      | some v =>
        obtain ⟨k, hk⟩ := hb
        have := den_rel (μ := μ) hk ho
        subst this
        refine .inr ⟨_, rfl, ?_⟩
        simp [Instr.sliceBound, asIntOf]
        intro hh
        omega
  rcases key .sliceAlen h2 e2 g2 s2 with ⟨rfl, rfl⟩ | ⟨u, rfl, k2⟩
  · rcases key .sliceB h1 e1 g1 s1 with ⟨rfl, rfl⟩ | ⟨v, rfl, k1⟩
    · simp [Instr.sliceBounds]
    · simp [Instr.sliceBounds, k1]
  · rcases key .sliceB h1 e1 g1 s1 with ⟨rfl, rfl⟩ | ⟨v, rfl, k1⟩
    · simp [Instr.sliceBounds, k2]
    · simp [Instr.sliceBounds, k1, k2]
end Go.X
set_option linter.unusedVariables false
set_option linter.unusedSimpArgs false
set_option linter.unusedSectionVars false
namespace Go.X
open Go.RowKit
variable [Tab]
variable {P : Program} {B : Kp} {w0 : World} {μ : M} {h h' : H} {w w' : World}
theorem sliceRow_sound {isSl : Bool} {z x o n c : Nat} {lo hi mx : Option AV} {lov hiv mxv : Option Value} {a : AV} {l : Loc} (hl : μ x = some l) (h1 : orel μ lo lov) (h2 : orel μ hi hiv) (h3 : orel μ mx mxv) (e : sliceRow z x o n c lo hi mx = some a) :
    ∃ p q m, (Instr.sliceBounds isSl n c lov hiv mxv).run P w = .ok (p, q, m) w ∧ vrel μ a (.slice (some (if m = p then (⟨l.block, l.base + o, none⟩ : Addr) else (⟨l.block, l.base + o, none⟩ : Addr).add (p * z))) (q - p) (m - p)) := by
  obtain ⟨p, hp, e⟩ := ob_some e
  obtain ⟨q, hq, e⟩ := ob_some e
  obtain ⟨m, hm, e⟩ := ob_some e
  obtain ⟨hc, e⟩ := ifb_some e
  simp only [Bool.and_eq_true] at hc
  cases e
  refine ⟨p, q, m, bounds_sound h1 h2 h3 hp hq hm hc.1 hc.2, ?_⟩
  simp only [vrel]
  refine ⟨l, hl, ?_⟩
  by_cases c1 : m = p
  · simp [c1]
  · simp [c1, Addr.add_lit, Nat.add_assoc]
theorem sliceOpen_sound {z x o n c : Nat} {lo hi mx : Option AV} {lov hiv mxv : Option Value} {a : AV} {l : Loc} (hl : μ x = some l) (hnc : n ≤ c) (htot : l.base + o + c * z = l.total)
    (h1 : orel μ lo lov) (h2 : orel μ hi hiv) (h3 : orel μ mx mxv) (e : sliceOpen z x o n lo hi mx = some a) :
    ∃ p q m, (Instr.sliceBounds true n c lov hiv mxv).run P w = .ok (p, q, m) w ∧ vrel μ a (.slice (some (if m = p then (⟨l.block, l.base + o, none⟩ : Addr) else (⟨l.block, l.base + o, none⟩ : Addr).add (p * z))) (q - p) (m - p)) := by
  obtain ⟨p, hp, e⟩ := ob_some e
  obtain ⟨q, hq, e⟩ := ob_some e
  cases mx with
  | none =>
    obtain ⟨hc, e⟩ := ifb_some e
    simp only [Bool.and_eq_true, ble_iff] at hc
    obtain ⟨c1, c2⟩ := hc
    cases c3 : (Nat.beq p 0 || Nat.blt p n) with
    | false =>
     rw [c3] at e
     have e' : some AV.es = some a := e
     cases e'
     simp only [Bool.or_eq_false_iff] at c3
     have c4 : ¬ p < n := fun hh => by rw [blt_iff.2 hh] at c3; simp at c3
     refine ⟨p, q, c, bounds_sound h1 h2 h3 hp hq rfl (by simp) (by simp only [sub3, Bool.and_eq_true, ble_iff]; omega), ?_⟩
     simp only [vrel]
     have : q - p = 0 := by omega
     rw [this]
     exact ⟨_, _, rfl⟩
    | true =>
    rw [c3] at e
    simp only [Bool.or_eq_true, blt_iff, nbeq_iff] at c3
    cases e
    refine ⟨p, q, c, bounds_sound h1 h2 h3 hp hq rfl (by simp) (by simp only [sub3, Bool.and_eq_true, ble_iff]; omega), ?_⟩
    simp only [vrel]
    have hmul : p * z + (c - p) * z = c * z := by rw [← Nat.add_mul]; congr 1; omega
    refine ⟨l, c - p, hl, by omega, by omega, ?_⟩
    by_cases c4 : c = p
    · have : p = 0 := by omega
      subst this
      simp [c4]
    · simp [c4, Addr.add_lit, Nat.add_assoc]
  | some v =>
    obtain ⟨m, hm, e⟩ := ob_some e
    obtain ⟨hc, e⟩ := ifb_some e
    simp only [Bool.and_eq_true] at hc
    cases e
    have hs := hc.2
    unfold sub3 at hs
    simp only [Bool.and_eq_true, ble_iff] at hs
    refine ⟨p, q, m, bounds_sound h1 h2 h3 hp hq hm (by simp [hc.1]) (by simp only [sub3, Bool.and_eq_true, ble_iff]; omega), ?_⟩
    simp only [vrel]
    refine ⟨l, hl, ?_⟩
    by_cases c1 : m = p
    · simp [c1]
    · simp [c1, Addr.add_lit, Nat.add_assoc]
theorem ltOk_sound {k j : Nat} (e : ltOk k j = true) : isLen (Tab.iv k) ∧ (Tab.iv j).1 = .i64 ∧ (Tab.iv k).2 < (Tab.iv j).2 := by
  unfold ltOk at e
  simp only [Bool.and_eq_true] at e
  have isT_some : ∀ {o : Option AV}, isT o = true → o = some (.bool true) := by
    intro o h
    unfold isT at h
    split at h
    · rfl
    · simp at h
  obtain ⟨k1, a, k2, b, v', h1, h2, h3, h4⟩ := Tab.ibok _ (findB_mem (isT_some e.1)) .lss rfl
  obtain ⟨k3, a3, k4, b3, v3, g1, g2, g3, g4⟩ := Tab.ibok _ (findB_mem (isT_some e.2)) .geq rfl
  simp only [denI, Option.some.injEq] at h1 h2 g1 g2
  simp only [Prod.mk.injEq] at g2
  obtain ⟨rfl, rfl⟩ := g2
  have e1 : intBin .lss k1 a k2 b = ifb (Nat.beq (kcode k1) (kcode k2)) (some (.bool (decide (a < b)))) := rfl
  rw [e1] at h3
  obtain ⟨h5, h3⟩ := ifb_some h3
  cases h3
  have e2 : intBin .geq k3 a3 .i64 0 = ifb (Nat.beq (kcode k3) (kcode .i64)) (some (.bool (decide (a3 ≥ 0)))) := rfl
  rw [e2] at g3
  obtain ⟨g5, g3⟩ := ifb_some g3
  cases g3
  simp only [outI, AV.bool.injEq] at h4 g4
  have h4 := of_decide_eq_true h4.symm
  have g4 := of_decide_eq_true g4.symm
  have q1 : k3 = .i64 := by have := nbeq_iff.1 g5; revert this; cases k3 <;> simp [kcode]
  have q2 : k1 = k2 := by have := nbeq_iff.1 h5; revert this; cases k1 <;> cases k2 <;> simp [kcode]
  subst q1
  rw [h1] at g1
  simp only [Prod.mk.injEq] at g1
  obtain ⟨rfl, rfl⟩ := g1
  subst q2
  rw [h1, h2]
  exact ⟨⟨rfl, g4⟩, rfl, h4⟩
theorem leOk_sound {k j : Nat} (e : leOk k j = true) : isLen (Tab.iv k) ∧ (Tab.iv j).1 = .i64 ∧ (Tab.iv k).2 ≤ (Tab.iv j).2 := by
  unfold leOk at e
  simp only [Bool.and_eq_true] at e
  have isT_some : ∀ {o : Option AV}, isT o = true → o = some (.bool true) := by
    intro o h
    unfold isT at h
    split at h
    · rfl
    · simp at h
  obtain ⟨k1, a, k2, b, v', h1, h2, h3, h4⟩ := Tab.ibok _ (findB_mem (isT_some e.1)) .leq rfl
  obtain ⟨k3, a3, k4, b3, v3, g1, g2, g3, g4⟩ := Tab.ibok _ (findB_mem (isT_some e.2)) .geq rfl
  simp only [denI, Option.some.injEq] at h1 h2 g1 g2
  simp only [Prod.mk.injEq] at g2
  obtain ⟨rfl, rfl⟩ := g2
  have e1 : intBin .leq k1 a k2 b = ifb (Nat.beq (kcode k1) (kcode k2)) (some (.bool (decide (a ≤ b)))) := rfl
  rw [e1] at h3
  obtain ⟨h5, h3⟩ := ifb_some h3
  cases h3
  have e2 : intBin .geq k3 a3 .i64 0 = ifb (Nat.beq (kcode k3) (kcode .i64)) (some (.bool (decide (a3 ≥ 0)))) := rfl
  rw [e2] at g3
  obtain ⟨g5, g3⟩ := ifb_some g3
  cases g3
  simp only [outI, AV.bool.injEq] at h4 g4
  have h4 := of_decide_eq_true h4.symm
  have g4 := of_decide_eq_true g4.symm
  have q1 : k3 = .i64 := by have := nbeq_iff.1 g5; revert this; cases k3 <;> simp [kcode]
  have q2 : k1 = k2 := by have := nbeq_iff.1 h5; revert this; cases k1 <;> cases k2 <;> simp [kcode]
  subst q1
  rw [h1] at g1
  simp only [Prod.mk.injEq] at g1
  obtain ⟨rfl, rfl⟩ := g1
  subst q2
  rw [h1, h2]
  exact ⟨⟨rfl, g4⟩, rfl, h4⟩
theorem sliceT_sound (r : HR B w0 μ h w) {t : TypeId} {x v : AV} {xv : Value} {lo hi mx : Option AV} {lov hiv mxv : Option Value} (hd : P.underlying t = some .string) (hx : vrel μ x xv) (h1 : orel μ lo lov) (h2 : orel μ hi hiv) (h3 : orel μ mx mxv) (e : sliceT x lo hi mx = some v) :
    OkQ P μ w (Instr.sliceAt t xv lov hiv mxv) v := by
  obtain ⟨a, ha, e⟩ := ob_some e
  obtain ⟨c, hc, e⟩ := ob_some e
  obtain ⟨hm, e⟩ := ifb_some e
  cases mx with
  | some _ => simp at hm
  | none =>
    cases mxv with
    | some _ => exact h3.elim
    | none =>
      obtain ⟨b, l, q, g1, g2, g3, g4, g5, g6⟩ := findT_ok e
      have := denS_rel g1 hx
      subst this
      have hb := boundsT_sound (P := P) (w := w) h1 h2 ha hc g2 g3 g4 g5
      refine .same r (v' := .string (b.extract l q)) ?_ (denS_mk g6)
      simp only [Instr.sliceAt, Sem.run_bind, run_underlying hd, Result.andThen_ok, Instr.slice]
      simp [hb]
theorem slice_sound (r : HR B w0 μ h w) {t : TypeId} {x v : AV} {xv : Value} {lo hi mx : Option AV} {lov hiv mxv : Option Value} (hx : vrel μ x xv) (h1 : orel μ lo lov) (h2 : orel μ hi hiv) (h3 : orel μ mx mxv) (e : slice? P t x lo hi mx = some v) :
    OkQ P μ w (Instr.sliceAt t xv lov hiv mxv) v := by
  obtain ⟨d, hd, e⟩ := ob_some (show ob _ _ = _ from e)
  rename_i e0
  clear e0
  split at e
  · rename_i n c
    rcases orE_some e with e | ⟨_, e⟩
    case inr => exact sliceT_sound r hd hx h1 h2 h3 e
    simp only [vrel] at hx
    obtain ⟨hc, rfl⟩ := hx
    obtain ⟨l, hl, e⟩ := ob_some e
    obtain ⟨q, hq, e⟩ := ob_some e
    obtain ⟨hcond, e⟩ := ifb_some e
    simp only [Bool.and_eq_true, ble_iff] at hcond
    cases e
    cases mx with
    | some _ => simp at hcond
    | none =>
      cases mxv with
      | some _ => exact h3.elim
      | none =>
        have hb := bounds_sound (P := P) (w := w) (isSl := false) (cap := n) h1 h2 (mx := none) (mxv := none) trivial hl hq (m := n) rfl (by simp) (by simp only [sub3, Bool.and_eq_true, ble_iff]; omega)
        refine .same r (v' := .string ((strOf n c).extract l q)) ?_ ?_
        · simp only [Instr.sliceAt, Sem.run_bind, run_underlying hd, Result.andThen_ok, Instr.slice, strOf_size]
          simp [hb]
        · simp only [vrel]
          refine ⟨Nat.mod_lt _ (Nat.pos_of_ne_zero (by simp)), by rw [str_extract hcond.2.1 hcond.2.2]⟩
  · rename_i el _
    unfold sliceSl at e
    split at e
    · simp only [vrel] at hx; subst hx
      obtain ⟨l, hl, e⟩ := ob_some e
      obtain ⟨q, hq, e⟩ := ob_some e
      obtain ⟨m, hm, e⟩ := ob_some e
      obtain ⟨z, hz, e⟩ := ob_some e
      obtain ⟨hcond, e⟩ := ifb_some e
      simp only [Bool.and_eq_true] at hcond
      cases e
      have hb := bounds_sound (P := P) (w := w) (isSl := true) (cap := 0) h1 h2 h3 hl hq hm hcond.1 hcond.2
      have hs := hcond.2
      unfold sub3 at hs
      simp only [Bool.and_eq_true, ble_iff] at hs
      have e1 : l = 0 := by omega
      have e2 : q = 0 := by omega
      have e3 : m = 0 := by omega
      subst e1 e2 e3
      refine .same r (v' := .slice none 0 0) ?_ (by simp [vrel])
      simp only [Instr.sliceAt, Sem.run_bind, run_underlying hd, Result.andThen_ok, Instr.slice, hb, run_sizeOf hz]
      simp
    · simp only [vrel] at hx
      obtain ⟨l, hl, rfl⟩ := hx
      obtain ⟨z, hz, e⟩ := ob_some e
      obtain ⟨p, q, m, g1, g2⟩ := sliceRow_sound (P := P) (w := w) (isSl := true) hl h1 h2 h3 e
      refine .same r ?_ g2
      simp only [Instr.sliceAt, Sem.run_bind, run_underlying hd, Result.andThen_ok, Instr.slice, g1, run_sizeOf hz]
      by_cases c1 : m = p <;> simp [c1]
    · simp only [vrel] at hx
      obtain ⟨l, c, hl, hnc, htot, rfl⟩ := hx
      obtain ⟨z, hz, e⟩ := ob_some e
      obtain ⟨hzz, e⟩ := ifb_some e
      have hzz := nbeq_iff.1 hzz
      rw [← hzz] at htot
      obtain ⟨p, q, m, g1, g2⟩ := sliceOpen_sound (P := P) (w := w) hl hnc htot h1 h2 h3 e
      refine .same r ?_ g2
      simp only [Instr.sliceAt, Sem.run_bind, run_underlying hd, Result.andThen_ok, Instr.slice, g1, run_sizeOf hz]
      by_cases c1 : m = p <;> simp [c1]
    · rename_i y j z'
      simp only [vrel] at hx
      obtain ⟨hj0, l, c, hl, hnc, htot, rfl⟩ := hx
      obtain ⟨z, hz, e1⟩ := ob_some e
      obtain ⟨hzz, e2⟩ := ifb_some e1
      clear e e1
      simp only [Bool.and_eq_true, nbeq_iff] at hzz
      obtain ⟨rfl, hmx⟩ := hzz
      have key : ∀ k, leOk k j = true → (∀ v, hiv = some v → ∃ kk, v = .int kk ((Tab.iv k).2.toNat : Int)) → hiv.isSome = true → hi.isSome = true → lo = none → OkQ P μ w (Instr.sliceAt t (.slice (some ⟨l.block, l.base, none⟩) (Tab.iv j).2.toNat c) lov hiv mxv) (.ov y k z) := by
        intro k hle hhv hsome hsome2 hlo
        obtain ⟨hk0, _, hkj⟩ := leOk_sound hle
        cases mx with
        | some m => simp at hmx
        | none =>
        subst hlo
        obtain ⟨hv0, rfl⟩ := Option.isSome_iff_exists.1 hsome
        obtain ⟨kk, rfl⟩ := hhv hv0 rfl
        have hle2 : (Tab.iv k).2.toNat ≤ (Tab.iv j).2.toNat := by have := hk0.2; omega
        have h2' : orel μ (some (.int kk ((Tab.iv k).2.toNat : Int))) (some (.int kk ((Tab.iv k).2.toNat : Int))) := by
          show vrel μ (.int kk ((Tab.iv k).2.toNat : Int)) (.int kk ((Tab.iv k).2.toNat : Int))
          simp only [vrel]
        obtain ⟨p, q, m, g1, g2⟩ := sliceOpen_sound (P := P) (w := w) (o := 0) (z := z) hl hnc (by simpa using htot) h1 h2' h3 (a := .so y (0 + 0 * z) ((Tab.iv k).2.toNat - 0) z) (by simp [sliceOpen, bound?, nat?, ifb, ble_iff.2 hle2, ble_iff.2 (Nat.zero_le (Tab.iv k).2.toNat)])
        refine .same r (v' := .slice (some (if m = p then (⟨l.block, l.base + 0, none⟩ : Addr) else (⟨l.block, l.base + 0, none⟩ : Addr).add (p * z))) (q - p) (m - p)) ?_ ?_
        · simp only [Instr.sliceAt, Sem.run_bind, run_underlying hd, Result.andThen_ok, Instr.slice, g1, run_sizeOf hz]
          by_cases c1 : m = p <;> simp [c1]
        · simp only [vrel] at g2 ⊢
          obtain ⟨l2, c2, b1, b2, b3, b4⟩ := g2
          rw [hl] at b1; cases b1
          refine ⟨hk0, l, c2, hl, by simpa using b2, by simpa using b3, ?_⟩
          rw [b4]; simp
      unfold sliceVec at e2
      split at e2
      · rename_i k
        obtain ⟨hle, e⟩ := ifb_some e2
        clear e2
        cases e
        have hk0 := (leOk_sound hle).1
        have hkn : ((Tab.iv k).2.toNat : Int) = (Tab.iv k).2 := Int.toNat_of_nonneg hk0.2
        cases hiv with
        | none => exact h2.elim
        | some v =>
          have h2 : vrel μ (.oi k) v := h2
          simp only [vrel] at h2
          exact key k hle (fun v' e => by cases e; exact ⟨_, by rw [h2, hkn]⟩) rfl rfl rfl
      · rename_i ik m
        obtain ⟨k, hk, e⟩ := ob_some e2
        obtain ⟨hle, e⟩ := ifb_some e
        clear e2
        cases e
        have hv := Tab.vcok _ (findVC_mem hk)
        simp only at hv
        cases hiv with
        | none => exact h2.elim
        | some v =>
          have h2 : vrel μ (.int ik (.ofNat m)) v := h2
          simp only [vrel] at h2
          exact key k hle (fun v' e => by cases e; exact ⟨ik, by rw [h2, hv]; rfl⟩) rfl rfl rfl
      · simp at e2
    · rename_i y j z'
      simp only [vrel] at hx
      obtain ⟨hj0, hnc, rfl⟩ := hx
      obtain ⟨z, hz, e1⟩ := ob_some e
      obtain ⟨hzz, e2⟩ := ifb_some e1
      clear e e1
      simp only [Bool.and_eq_true, nbeq_iff] at hzz
      obtain ⟨rfl, hmx⟩ := hzz
      have key : ∀ k, leOk k j = true → (∀ v, hiv = some v → ∃ kk, v = .int kk ((Tab.iv k).2.toNat : Int)) → hiv.isSome = true → lo = none → OkQ P μ w (Instr.sliceAt t (.slice (some ⟨(Tab.fb y).1, (Tab.fb y).2, none⟩) (Tab.iv j).2.toNat (Tab.fcap y)) lov hiv mxv) (.fo y k z) := by
        intro k hle hhv hsome hlo
        obtain ⟨hk0, _, hkj⟩ := leOk_sound hle
        cases mx with
        | some m => simp at hmx
        | none =>
        subst hlo
        obtain ⟨hv0, rfl⟩ := Option.isSome_iff_exists.1 hsome
        obtain ⟨kk, rfl⟩ := hhv hv0 rfl
        have hle2 : (Tab.iv k).2.toNat ≤ (Tab.iv j).2.toNat := by have := hk0.2; omega
        have h2' : orel μ (some (.int kk ((Tab.iv k).2.toNat : Int))) (some (.int kk ((Tab.iv k).2.toNat : Int))) := by
          show vrel μ (.int kk ((Tab.iv k).2.toNat : Int)) (.int kk ((Tab.iv k).2.toNat : Int))
          simp only [vrel]
        have hb := bounds_sound (P := P) (w := w) (isSl := true) (len := (Tab.iv j).2.toNat) (cap := Tab.fcap y) (l := 0) (r := (Tab.iv k).2.toNat) (m := Tab.fcap y) h1 h2' h3 rfl rfl rfl rfl (by simp only [sub3, Bool.and_eq_true, ble_iff]; omega)
        refine .same r (v' := .slice (some ⟨(Tab.fb y).1, (Tab.fb y).2, none⟩) (Tab.iv k).2.toNat (Tab.fcap y)) ?_ ?_
        · simp only [Instr.sliceAt, Sem.run_bind, run_underlying hd, Result.andThen_ok, Instr.slice, hb, run_sizeOf hz]
          by_cases c1 : Tab.fcap y = 0 <;> simp [c1, Addr.add_lit]
        · simp only [vrel]
          exact ⟨hk0, by omega, trivial⟩
      unfold sliceFor at e2
      split at e2
      · rename_i k
        obtain ⟨hle, e⟩ := ifb_some e2
        clear e2
        cases e
        have hk0 := (leOk_sound hle).1
        have hkn : ((Tab.iv k).2.toNat : Int) = (Tab.iv k).2 := Int.toNat_of_nonneg hk0.2
        cases hiv with
        | none => exact h2.elim
        | some v =>
          have h2 : vrel μ (.oi k) v := h2
          simp only [vrel] at h2
          exact key k hle (fun v' e => by cases e; exact ⟨_, by rw [h2, hkn]⟩) rfl rfl
      · rename_i ik m
        obtain ⟨k, hk, e⟩ := ob_some e2
        obtain ⟨hle, e⟩ := ifb_some e
        clear e2
        cases e
        have hv := Tab.vcok _ (findVC_mem hk)
        simp only at hv
        cases hiv with
        | none => exact h2.elim
        | some v =>
          have h2 : vrel μ (.int ik (.ofNat m)) v := h2
          simp only [vrel] at h2
          exact key k hle (fun v' e => by cases e; exact ⟨ik, by rw [h2, hv]; rfl⟩) rfl rfl
      · simp at e2
    · simp at e
  · rename_i arr _
    obtain ⟨d', hd', e⟩ := ob_some e
    obtain ⟨q, hq, e⟩ := ob_some e
    cases d' <;> simp [asArray] at hq
    subst hq
    unfold sliceArr at e
    split at e
    · simp only [vrel] at hx
      obtain ⟨l, hl, rfl⟩ := hx
      obtain ⟨z, hz, e⟩ := ob_some e
      obtain ⟨p, q, m, g1, g2⟩ := sliceRow_sound (P := P) (w := w) (isSl := false) hl h1 h2 h3 e
      refine .same r ?_ g2
      simp only [Instr.sliceAt, Sem.run_bind, run_underlying hd, Result.andThen_ok, Instr.slice, asAddr, Sem.run_pure, run_underlying hd', g1, run_sizeOf hz]
    · simp at e
  · unfold sliceArr at e
    split at e
    · simp only [vrel] at hx
      obtain ⟨l, hl, rfl⟩ := hx
      obtain ⟨z, hz, e⟩ := ob_some e
      obtain ⟨p, q, m, g1, g2⟩ := sliceRow_sound (P := P) (w := w) (isSl := false) hl h1 h2 h3 e
      refine .same r ?_ g2
      simp only [Instr.sliceAt, Sem.run_bind, run_underlying hd, Result.andThen_ok, Instr.sureAddr, Sem.run_pure, g1, run_sizeOf hz]
    · simp at e
  · exact sliceT_sound r hd hx h1 h2 h3 e
  · simp at e
theorem idx_sound {el : TypeId} {x o n k : Nat} {v : AV} (e : idx P el x o n k = some v) : ∃ z, k < n ∧ sizeOf? P el = some z ∧ v = .ptr x (o + k * z) := by
  obtain ⟨h1, e⟩ := ifb_some e
  obtain ⟨z, hz, e⟩ := ob_some e
  cases e
  exact ⟨z, blt_iff.1 h1, hz, rfl⟩
theorem indexAddr0_sound (r : HR B w0 μ h w) {t : TypeId} {x i v : AV} {xv iv : Value} (hx : vrel μ x xv) (hi : vrel μ i iv) (e : (ob (nat? i) fun k => ob (P.underlying t) (indexAddrD P k x)) = some v) :
    OkQ P μ w (Instr.indexAt t xv iv) v := by
  obtain ⟨k, hk, e1⟩ := ob_some e
  clear e
  obtain ⟨d, hd, e⟩ := ob_some e1
  clear e1
  obtain ⟨kk, rfl⟩ := nat_some hk
  simp only [vrel] at hi
  subst hi
  have key : ∀ (el : TypeId) (y o n : Nat) (l : Loc) (base : Value), μ y = some l → (d = .array n el ∧ base = .pointer (some ⟨l.block, l.base + o, none⟩)) ∨ (∃ c, d = .slice el ∧ base = .slice (some ⟨l.block, l.base + o, none⟩) n c) → idx P el y o n k = some v → OkQ P μ w (Instr.indexAt t base (.int kk (k : Int))) v := by
    intro el y o n l base hl hd2 e
    obtain ⟨z, hlt, hz, rfl⟩ := idx_sound e
    refine .same r (v' := .pointer (some ((⟨l.block, l.base + o, none⟩ : Addr).add (k * z)))) ?_ (by simp only [vrel]; exact ⟨l, hl, by simp [Addr.add_lit, Nat.add_assoc]⟩)
    rcases hd2 with ⟨rfl, rfl⟩ | ⟨c, rfl, rfl⟩
    · simp [Instr.indexAt, asIntOf, run_underlying hd, Instr.sureAddr, run_sizeOf hz, hlt]
    · simp [Instr.indexAt, asIntOf, run_underlying hd, run_sizeOf hz, hlt]
  cases d with
  | array n el =>
    cases x with
    | ptr y o =>
      simp only [vrel] at hx
      obtain ⟨l, hl, rfl⟩ := hx
      exact key el y o n l _ hl (.inl ⟨rfl, rfl⟩) e
    | gp g o =>
      simp only [vrel] at hx
      subst hx
      simp only [indexAddrD] at e
      obtain ⟨hlt, e⟩ := ifb_some e
      obtain ⟨z, hz, e⟩ := ob_some e
      cases e
      have hlt := blt_iff.1 hlt
      exact .same r (v' := .pointer (some ((⟨g, o, none⟩ : Addr).add (k * z)))) (by simp [Instr.indexAt, asIntOf, run_underlying hd, Instr.sureAddr, run_sizeOf hz, hlt]) (by simp only [vrel]; simp [Addr.add_lit])
    | _ => simp [indexAddrD] at e
  | slice el =>
    cases x with
    | sl y o n c =>
      simp only [vrel] at hx
      obtain ⟨l, hl, rfl⟩ := hx
      exact key el y o n l _ hl (.inr ⟨c, rfl, rfl⟩) e
    | so y o n c =>
      simp only [vrel] at hx
      obtain ⟨l, cc, hl, _, _, rfl⟩ := hx
      exact key el y o n l _ hl (.inr ⟨cc, rfl, rfl⟩) e
    | _ => simp [indexAddrD] at e
  | _ => simp [indexAddrD] at e
theorem indexAddr_sound (r : HR B w0 μ h w) {t : TypeId} {x i v : AV} {xv iv : Value} (hx : vrel μ x xv) (hi : vrel μ i iv) (e : indexAddr? P t x i = some v) :
    OkQ P μ w (Instr.indexAt t xv iv) v := by
  unfold indexAddr? at e
  split at e
  · rename_i y j z
    obtain ⟨d, hd, e1⟩ := ob_some e
    obtain ⟨el, hel, e2⟩ := ob_some e1
    obtain ⟨s, hs, e3⟩ := ob_some e2
    obtain ⟨hzz, e4⟩ := ifb_some e3
    clear e e1 e2 e3
    have hzz := nbeq_iff.1 hzz
    subst hzz
    have key : ∀ k, ltOk k j = true → (∃ kk, iv = .int kk ((Tab.iv k).2.toNat : Int)) → OkQ P μ w (Instr.indexAt t xv iv) (.op y k s 0) := by
      intro k hlt hiv
      obtain ⟨kk, rfl⟩ := hiv
      obtain ⟨hk0, _, hkj⟩ := ltOk_sound hlt
      simp only [vrel] at hx
      obtain ⟨hj0, l, c, hl, hnc, htot, rfl⟩ := hx
      have hdd : d = .slice el := by cases d <;> simp [asSlice] at hel; rw [hel]
      subst hdd
      have hlt2 : (Tab.iv k).2.toNat < (Tab.iv j).2.toNat := by have := hk0.2; omega
      obtain ⟨v', q1, q2⟩ := indexAddr0_sound (P := P) (w := w) r (t := t) (x := .so y 0 (Tab.iv j).2.toNat s) (i := .int kk ((Tab.iv k).2.toNat : Int)) (xv := .slice (some ⟨l.block, l.base, none⟩) (Tab.iv j).2.toNat c) (iv := .int kk ((Tab.iv k).2.toNat : Int))
        (v := .ptr y (0 + (Tab.iv k).2.toNat * s)) (by simp only [vrel]; exact ⟨l, c, hl, hnc, by simpa using htot, rfl⟩) (by simp only [vrel])
        (by simp [nat?, hd, indexAddrD, idx, hs, ifb, blt_iff.2 hlt2])
      refine ⟨v', q1, ?_⟩
      simp only [vrel] at q2 ⊢
      obtain ⟨l2, b1, b2⟩ := q2
      rw [hl] at b1; cases b1
      exact ⟨hk0, l, hl, by rw [b2]; simp⟩
    split at e4
    · rename_i k
      obtain ⟨hlt, e⟩ := ifb_some e4
      clear e4
      cases e
      have hk0 := (ltOk_sound hlt).1
      simp only [vrel] at hi
      exact key k hlt ⟨_, by rw [hi, Int.toNat_of_nonneg hk0.2]⟩
    · rename_i ik m
      obtain ⟨k, hk, e⟩ := ob_some e4
      obtain ⟨hlt, e⟩ := ifb_some e
      clear e4
      cases e
      have hv := Tab.vcok _ (findVC_mem hk)
      simp only at hv
      simp only [vrel] at hi
      exact key k hlt ⟨ik, by rw [hi, hv]; rfl⟩
    · simp at e4
  · rename_i y j z
    obtain ⟨d, hd, e1⟩ := ob_some e
    obtain ⟨el, hel, e2⟩ := ob_some e1
    obtain ⟨s, hs, e3⟩ := ob_some e2
    obtain ⟨hzz, e4⟩ := ifb_some e3
    clear e e1 e2 e3
    have hzz := nbeq_iff.1 hzz
    subst hzz
    have key : ∀ k, ltOk k j = true → (∃ kk, iv = .int kk ((Tab.iv k).2.toNat : Int)) → OkQ P μ w (Instr.indexAt t xv iv) (.fp y k s 0) := by
      intro k hlt hiv
      obtain ⟨kk, rfl⟩ := hiv
      obtain ⟨hk0, _, hkj⟩ := ltOk_sound hlt
      simp only [vrel] at hx
      obtain ⟨hj0, hnc, rfl⟩ := hx
      have hdd : d = .slice el := by cases d <;> simp [asSlice] at hel; rw [hel]
      subst hdd
      have hlt2 : (Tab.iv k).2.toNat < (Tab.iv j).2.toNat := by have := hk0.2; omega
      have run : ∀ (A : Addr) (nk nj cp : Nat), nk < nj → (Instr.indexAt t (.slice (some A) nj cp) (.int kk (nk : Int))).run P w = .ok (.pointer (some (A.add (nk * s)))) w := by
        intro A nk nj cp hh
        simp [Instr.indexAt, asIntOf, run_underlying hd, run_sizeOf hs, hh]
      refine .same r (run _ _ _ _ hlt2) ?_
      simp only [vrel]
      exact ⟨hk0, by simp [Addr.add_lit]⟩
    split at e4
    · rename_i k
      obtain ⟨hlt, e⟩ := ifb_some e4
      clear e4
      cases e
      have hk0 := (ltOk_sound hlt).1
      simp only [vrel] at hi
      exact key k hlt ⟨_, by rw [hi, Int.toNat_of_nonneg hk0.2]⟩
    · rename_i ik m
      obtain ⟨k, hk, e⟩ := ob_some e4
      obtain ⟨hlt, e⟩ := ifb_some e
      clear e4
      cases e
      have hv := Tab.vcok _ (findVC_mem hk)
      simp only at hv
      simp only [vrel] at hi
      exact key k hlt ⟨ik, by rw [hi, hv]; rfl⟩
    · simp at e4
  · exact indexAddr0_sound r hx hi e
theorem part_sound {t : TypeId} {cs : List AV} {vs : List Value} {off : Nat} {v : AV} (hv : vrels μ cs vs) (e : part? P t cs off = some v) :
    ∃ v', (part t ⟨vs⟩ off).run P w = .ok v' w ∧ vrel μ v v' := by
  obtain ⟨b, hb, e⟩ := ob_some e
  cases b with
  | false =>
    obtain ⟨y, h1, h2⟩ := vrels_get hv e
    exact ⟨y, by simp [part, run_isAgg hb, h1], h2⟩
  | true =>
    obtain ⟨n, hn, e⟩ := ob_some e
    cases e
    refine ⟨_, by simp only [part, Sem.run_bind, run_isAgg hb, Result.andThen_ok, if_true, run_sizeOf hn]; rfl, ?_⟩
    simp only [vrel]
    refine ⟨(vs.drop off).take n, ?_, vrels_take n (vrels_drop off hv)⟩
    congr 1
    apply Array.ext'
    simp [List.drop_take]
theorem index0_sound (r : HR B w0 μ h w) {t : TypeId} {x i v : AV} {xv iv : Value} (hx : vrel μ x xv) (hi : vrel μ i iv) (e : index0? P t x i = some v) :
    OkQ P μ w (Instr.index t xv iv) v := by
  obtain ⟨k, hk, e1⟩ := ob_some e
  clear e
  obtain ⟨d, hd, e⟩ := ob_some e1
  clear e1
  obtain ⟨kk, rfl⟩ := nat_some hk
  simp only [vrel] at hi
  subst hi
  unfold indexD at e
  split at e
  · simp only [vrel] at hx
    obtain ⟨vs, rfl, hv⟩ := hx
    obtain ⟨hlt, e⟩ := ifb_some e
    have hlt := blt_iff.1 hlt
    obtain ⟨z, hz, e⟩ := ob_some e
    obtain ⟨v', h1, h2⟩ := part_sound (P := P) (w := w) hv e
    refine .same r (v' := v') ?_ h2
    simp [Instr.index, asIntOf, run_underlying hd, run_sizeOf hz, h1]
    intro hh
    omega
  · simp only [vrel] at hx
    obtain ⟨hc, rfl⟩ := hx
    rename_i n c
    obtain ⟨hlt, e⟩ := ifb_some e
    have hlt := blt_iff.1 hlt
    cases e
    have hget : (strOf n c)[k]? = some (UInt8.ofNat (c / 256 ^ k % 256)) := by
      have hs : k < (strOf n c).size := by rw [strOf_size]; exact hlt
      rw [getElem?_pos (strOf n c) k hs]
      congr 1
      show (strOf n c).data[k] = _
      have h2 : (strOf n c).data.toList[k]? = some (UInt8.ofNat (c / 256 ^ k % 256)) := by
        simp only [strOf, List.getElem?_map]
        have e1 : (dec n c)[k]? = (dec (n - k) (c / 256 ^ k))[0]? := by
          rw [dec_div k (n - k) c, List.getElem?_drop]
          congr 2; omega
        rw [e1]
        cases hnk : n - k with
        | zero => omega
        | succ q => simp [dec]
      rw [Array.getElem?_toList] at h2
      rw [Array.getElem?_eq_getElem (by exact hs)] at h2
      simpa using h2
    refine .same r (v' := .int .u8 ((c / 256 ^ k % 256 : Nat) : Int)) ?_ (by simp [vrel])
    simp [Instr.index, asIntOf, run_underlying hd, hget]
  · simp at e
theorem isStr_some {d : TypeDesc} (e : isStr d = true) : d = .string := by
  cases d <;> simp [isStr] at e
  rfl
theorem indexT_sound (r : HR B w0 μ h w) {t : TypeId} {x i v : AV} {xv iv : Value} (hx : vrel μ x xv) (hi : vrel μ i iv) (e : indexT P t x i = some v) :
    OkQ P μ w (Instr.index t xv iv) v := by
  obtain ⟨d, hd, e⟩ := ob_some e
  obtain ⟨hs, e⟩ := ifb_some e
  obtain rfl := isStr_some hs
  obtain ⟨b, k, m, y, g1, g2, g3, g4⟩ := findT_ok e
  have := denS_rel g1 hx
  subst this
  have := den_rel g2 hi
  subst this
  refine .same r (v' := .int .u8 (y.toNat : Int)) ?_ (den_mk g4)
  simp [Instr.index, asIntOf, run_underlying hd, g3]
theorem index_sound (r : HR B w0 μ h w) {t : TypeId} {x i v : AV} {xv iv : Value} (hx : vrel μ x xv) (hi : vrel μ i iv) (e : index? P t x i = some v) :
    OkQ P μ w (Instr.index t xv iv) v := by
  unfold index? at e
  split at e
  · exact indexT_sound r hx hi e
  · exact indexT_sound r hx hi e
  · exact index0_sound r hx hi e
theorem fieldOf_some {t : TypeId} {i : Nat} {f : Field} (e : fieldOf P t i = some f) : ∃ fs, P.underlying t = some (.struct fs) ∧ fs[i]? = some f := by
  obtain ⟨d, hd, e⟩ := ob_some e
  obtain ⟨fs, hfs, e⟩ := ob_some e
  cases d <;> simp [asStruct] at hfs
  subst hfs
  exact ⟨_, hd, e⟩
theorem field_sound (r : HR B w0 μ h w) {t : TypeId} {i : Nat} {x v : AV} {xv : Value} (hx : vrel μ x xv) (e : field? P t x i = some v) :
    OkQ P μ w (Instr.field t xv i) v := by
  cases x with
  | agg cs =>
    simp only [vrel] at hx
    obtain ⟨vs, rfl, hv⟩ := hx
    obtain ⟨f, hf, e⟩ := ob_some e
    obtain ⟨fs, h1, h2⟩ := fieldOf_some hf
    obtain ⟨v', h3, h4⟩ := part_sound (P := P) (w := w) hv e
    exact .same r (v' := v') (by simp [Instr.field, run_underlying h1, h2, asAgg, h3]) h4
  | _ => simp [field?] at e
theorem fieldAddr_sound (r : HR B w0 μ h w) {t : TypeId} {i : Nat} {x v : AV} {xv : Value} (hx : vrel μ x xv) (e : fieldAddr? P t x i = some v) :
    OkQ P μ w (Instr.fieldAt t xv i) v := by
  cases x with
  | ptr y o =>
    simp only [vrel] at hx
    obtain ⟨l, hl, rfl⟩ := hx
    obtain ⟨k, hk, e⟩ := ob_some e
    cases e
    obtain ⟨f, hf, hk⟩ := ob_some hk
    obtain ⟨n, hn, hk⟩ := ob_some hk
    obtain ⟨hpos, hk⟩ := ifb_some hk
    cases hk
    have hpos := blt_iff.1 hpos
    obtain ⟨fs, h1, h2⟩ := fieldOf_some hf
    refine .same r (v' := .pointer (some ⟨l.block, l.base + o + f.offset, none⟩)) ?_ (by simp only [vrel]; exact ⟨l, hl, by simp [Nat.add_assoc]⟩)
    have h0 : n ≠ 0 := by omega
    simp [Instr.fieldAt, run_underlying h1, h2, Instr.sureAddr, fieldPlace, run_sizeOf hn, h0, Addr.add_lit]
  | gp y o =>
    simp only [vrel] at hx
    subst hx
    obtain ⟨k, hk, e⟩ := ob_some e
    cases e
    obtain ⟨f, hf, hk⟩ := ob_some hk
    obtain ⟨n, hn, hk⟩ := ob_some hk
    obtain ⟨hpos, hk⟩ := ifb_some hk
    cases hk
    have hpos := blt_iff.1 hpos
    obtain ⟨fs, h1, h2⟩ := fieldOf_some hf
    refine .same r (v' := .pointer (some ⟨y, o + f.offset, none⟩)) ?_ (by simp only [vrel]; rfl)
    have h0 : n ≠ 0 := by omega
    simp [Instr.fieldAt, run_underlying h1, h2, Instr.sureAddr, fieldPlace, run_sizeOf hn, h0, Addr.add_lit]
  | fp y j z o =>
    simp only [vrel] at hx
    obtain ⟨hj0, rfl⟩ := hx
    obtain ⟨k, hk, e⟩ := ob_some e
    cases e
    obtain ⟨f, hf, hk⟩ := ob_some hk
    obtain ⟨n, hn, hk⟩ := ob_some hk
    obtain ⟨hpos, hk⟩ := ifb_some hk
    cases hk
    have hpos := blt_iff.1 hpos
    obtain ⟨fs, h1, h2⟩ := fieldOf_some hf
    refine .same r (v' := .pointer (some ⟨(Tab.fb y).1, (Tab.fb y).2 + ((Tab.iv j).2.toNat * z + o) + f.offset, none⟩)) ?_ (by simp only [vrel]; exact ⟨hj0, by simp [Nat.add_assoc]⟩)
    have h0 : n ≠ 0 := by omega
    simp [Instr.fieldAt, run_underlying h1, h2, Instr.sureAddr, fieldPlace, run_sizeOf hn, h0, Addr.add_lit]
  | op y j z o =>
    simp only [vrel] at hx
    obtain ⟨hj0, l, hl, rfl⟩ := hx
    obtain ⟨k, hk, e⟩ := ob_some e
    cases e
    obtain ⟨f, hf, hk⟩ := ob_some hk
    obtain ⟨n, hn, hk⟩ := ob_some hk
    obtain ⟨hpos, hk⟩ := ifb_some hk
    cases hk
    have hpos := blt_iff.1 hpos
    obtain ⟨fs, h1, h2⟩ := fieldOf_some hf
    refine .same r (v' := .pointer (some ⟨l.block, l.base + ((Tab.iv j).2.toNat * z + o) + f.offset, none⟩)) ?_ (by simp only [vrel]; exact ⟨hj0, l, hl, by simp [Nat.add_assoc]⟩)
    have h0 : n ≠ 0 := by omega
    simp [Instr.fieldAt, run_underlying h1, h2, Instr.sureAddr, fieldPlace, run_sizeOf hn, h0, Addr.add_lit]
  | _ => simp [fieldAddr?] at e
end Go.X
set_option linter.unusedVariables false
set_option linter.unusedSimpArgs false
set_option linter.unusedSectionVars false
namespace Go.X
open Go.RowKit
variable [Tab]
variable {P : Program} {B : Kp} {w0 : World} {μ : M} {h h' : H} {w w' : World}
theorem run_getObj_map {r : Nat} {es : Array MapEntry} {c : Nat} (hw : w.heap[r]? = some (.map es c)) : (getObj r).run P w = .ok (.map es c) w := by
  simp [getObj, Sem.run, hw]
theorem run_getObj_siter {r : Nat} {s : ByteArray} {c : Nat} (hw : w.heap[r]? = some (.stringIter s c)) : (getObj r).run P w = .ok (.stringIter s c) w := by
  simp [getObj, Sem.run, hw]
theorem run_getObj_miter {r : Nat} {m : Option Nat} {a : Nat} {s : Array Nat} {c : Nat} (hw : w.heap[r]? = some (.mapIter m a s c)) : (getObj r).run P w = .ok (.mapIter m a s c) w := by
  simp [getObj, Sem.run, hw]
theorem run_setObj_map {r : Nat} {es : Array MapEntry} {c : Nat} (o : Obj) (hw : w.heap[r]? = some (.map es c)) : (setObj r o).run P w = .ok () { w with heap := w.heap.setIfInBounds r o } := by
  simp [setObj, Sem.run, hw]
theorem run_setObj_siter {r : Nat} {s : ByteArray} {c : Nat} (o : Obj) (hw : w.heap[r]? = some (.stringIter s c)) : (setObj r o).run P w = .ok () { w with heap := w.heap.setIfInBounds r o } := by
  simp [setObj, Sem.run, hw]
theorem run_setObj_miter {r : Nat} {m : Option Nat} {a : Nat} {s : Array Nat} {c : Nat} (o : Obj) (hw : w.heap[r]? = some (.mapIter m a s c)) : (setObj r o).run P w = .ok () { w with heap := w.heap.setIfInBounds r o } := by
  simp [setObj, Sem.run, hw]
theorem upd_setObj (w : World) (r : Nat) (o : Obj) : Upd r w { w with heap := w.heap.setIfInBounds r o } :=
  ⟨rfl, rfl, rfl, by simp, fun k hk => by
    show (w.heap.setIfInBounds r o)[k]? = _
    rw [Array.getElem?_setIfInBounds, if_neg (fun e => hk e.symm)]⟩
theorem get_setObj {w : World} {r : Nat} {o o' : Obj} (hw : w.heap[r]? = some o') : ({ w with heap := w.heap.setIfInBounds r o } : World).heap[r]? = some o := by
  show (w.heap.setIfInBounds r o)[r]? = _
  have := (Array.getElem?_eq_some_iff.1 hw).1
  rw [Array.getElem?_setIfInBounds, if_pos rfl, if_pos this]
theorem esrel_length : ∀ {es : List (AV × AV × Nat)} {es' : List MapEntry}, esrel μ es es' → es'.length = es.length
  | [], es', e => by simp only [esrel] at e; subst e; rfl
  | a :: l, es', e => by
    simp only [esrel] at e
    obtain ⟨x, r, rfl, _, _, _, h5⟩ := e
    simp [esrel_length h5]
theorem clear_sound (r : HR B w0 μ h w) {t ty : TypeId} {ats : Array TypeId} {args : Array Value} {x : AV} {xv : Value} {p : AV × H} (hat : ats[0]? = some t) (har : args[0]? = some xv) (hx : vrel μ x xv) (e : clear? P h t x = some p) :
    OkV P B w0 μ w (Builtin.clear_ ats ty args) p.1 p.2 := by
  obtain ⟨d, hd, e⟩ := ob_some e
  have hu : vrel μ AV.undef (.tuple #[]) := by simp only [AV.undef, vrel]; exact ⟨[], rfl, by simp [vrels]⟩
  have key : ∀ (y o n c : Nat) (l : Loc) (h1 : H), μ y = some l → clearRow P h t y o n = some h1 → args[0]? = some (.slice (some ⟨l.block, l.base + o, none⟩) n c) → OkV P B w0 μ w (Builtin.clear_ ats ty args) .undef h1 := by
    intro y o n c l h1 hl ec har
    unfold clearRow at ec
    cases n with
    | zero =>
      have ec' : some h = some h1 := ec
      cases ec'
      exact .same r (v' := .tuple #[]) (by simp [Builtin.clear_, hat, har, run_underlying hd]) hu
    | succ k =>
      have hb : Nat.beq (k + 1) 0 = false := rfl
      rw [hb] at ec
      obtain ⟨el, hel, ec⟩ := ob_some ec
      obtain ⟨z, hz, ec⟩ := ob_some ec
      obtain ⟨hpos, ec⟩ := ifb_some ec
      have hst := sliceElem_some hel
      rw [hd] at hst
      cases hst
      obtain ⟨i, hi, hz⟩ := ob_some hz
      obtain ⟨zv, hzv, hz⟩ := ob_some hz
      have hzr : vrel μ z zv := ofValue_sound hz
      have hcs := zeroCells_sound hzr (blt_iff.1 hpos) (k + 1)
      obtain ⟨w', k1, k2⟩ := HR.stores (P := P) hl _ _ o 0 h h1 w r ec hcs
      refine ⟨.tuple #[], w', μ, ?_, Ext.refl _, hu, k2⟩
      simp [Builtin.clear_, hat, har, run_underlying hd, run_zeroValue hi hzv, k1]
  cases x with
  | nils =>
    cases e
    simp only [vrel] at hx; subst hx
    exact .same r (v' := .tuple #[]) (by simp [Builtin.clear_, hat, har, run_underlying hd]) hu
  | nilm =>
    cases e
    simp only [vrel] at hx; subst hx
    exact .same r (v' := .tuple #[]) (by simp [Builtin.clear_, hat, har, run_underlying hd]) hu
  | es =>
    cases e
    simp only [vrel] at hx; obtain ⟨b, c, rfl⟩ := hx
    exact .same r (v' := .tuple #[]) (by simp [Builtin.clear_, hat, har, run_underlying hd]) hu
  | sl y o n c =>
    obtain ⟨h1, hc, e⟩ := ob_some e
    cases e
    simp only [vrel] at hx; obtain ⟨l, hl, rfl⟩ := hx
    exact key y o n c l h1 hl hc har
  | so y o n c =>
    obtain ⟨h1, hc, e⟩ := ob_some e
    cases e
    simp only [vrel] at hx; obtain ⟨l, cc, hl, _, _, rfl⟩ := hx
    exact key y o n cc l h1 hl hc har
  | _ => simp at e
theorem findRL_mem {i : Nat} {v : AV} : ∀ {l : List (Nat × AV)}, findRL i l = some v → (i, v) ∈ l
  | [], e => by have e' : (none : Option AV) = some v := e; cases e'
  | r :: l, e => by
    have e' : (@Bool.rec (fun _ => Option AV) (findRL i l) (some r.2) (Nat.beq r.1 i)) = some v := e
    cases h1 : Nat.beq r.1 i with
    | false => rw [h1] at e'; exact List.mem_cons_of_mem _ (findRL_mem e')
    | true =>
      rw [h1] at e'
      cases e'
      rw [← nbeq_iff.1 h1]
      exact List.mem_cons_self
theorem len_sound (r : HR B w0 μ h w) {t ty : TypeId} {ats : Array TypeId} {args : Array Value} {x v : AV} {xv : Value} (hat : ats[0]? = some t) (har : args[0]? = some xv) (hx : vrel μ x xv) (e : len? P h t x = some v) :
    OkQ P μ w (Builtin.len_ ats ty args) v := by
  obtain ⟨d, hd, e⟩ := ob_some e
  unfold lenD at e
  split at e
  all_goals first | (simp at e; done) | skip
  case h_7 =>
    obtain ⟨b, hb, e⟩ := ob_some e
    obtain ⟨l, hl, _, _, hr⟩ := r.blk _ b hb
    cases b with
    | map es c =>
      simp only [mapLen] at e
      cases e
      simp only [vrel] at hx
      obtain ⟨l', hl', rfl⟩ := hx
      rw [hl] at hl'; cases hl'
      obtain ⟨es', h1, h2⟩ := hr
      refine .same r (v' := .int .i64 (es'.length : Int)) ?_ (by simp [vrel, esrel_length h2])
      simp [Builtin.len_, hat, har, run_underlying hd, run_getObj_map h1, goInt]
    | _ => simp [mapLen] at e
  all_goals (try cases e)
  case h_2 => exact .same r (v' := .int .i64 _) (by simp [Builtin.len_, hat, har, run_underlying hd, goInt]; rfl) (by simp [vrel])
  case h_9 _ _ j _ =>
    simp only [vrel] at hx
    obtain ⟨hj0, l, c, _, _, _, rfl⟩ := hx
    refine .same r (v' := .int .i64 ((Tab.iv j).2.toNat : Int)) (by simp [Builtin.len_, hat, har, run_underlying hd, goInt]) ?_
    simp only [vrel]
    rw [hj0.1, Int.toNat_of_nonneg hj0.2]
  case h_10 _ _ j _ =>
    simp only [vrel] at hx
    obtain ⟨hj0, _, rfl⟩ := hx
    refine .same r (v' := .int .i64 ((Tab.iv j).2.toNat : Int)) (by simp [Builtin.len_, hat, har, run_underlying hd, goInt]) ?_
    simp only [vrel]
    rw [hj0.1, Int.toNat_of_nonneg hj0.2]
  case h_11 =>
    obtain ⟨b, g1, g2⟩ := findT_ok e
    have := denS_rel g1 hx
    subst this
    exact .same r (v' := .int .i64 (b.size : Int)) (by simp [Builtin.len_, hat, har, run_underlying hd, goInt]) (den_mk g2)
  case h_12 =>
    obtain ⟨b, n, c, g1, g2⟩ := Tab.rlok _ (findRL_mem e)
    simp only [vrel] at hx
    obtain ⟨rfl, _⟩ := hx
    rw [g1] at har
    exact .same r (v' := .int .i64 (n : Int)) (by simp [Builtin.len_, hat, har, run_underlying hd, goInt]) (den_mk g2)
  all_goals simp only [vrel] at hx
  all_goals (try obtain ⟨_, _, rfl⟩ := hx)
  all_goals (try obtain ⟨_, _, _, _, _, rfl⟩ := hx)
  all_goals (try obtain ⟨_, rfl⟩ := hx)
  all_goals (try subst hx)
  all_goals exact .same r (v' := .int .i64 _) (by simp [Builtin.len_, hat, har, run_underlying hd, goInt, strOf_size]; try rfl) (by simp [vrel])
theorem cap_sound (r : HR B w0 μ h w) {t ty : TypeId} {ats : Array TypeId} {args : Array Value} {x v : AV} {xv : Value} (hat : ats[0]? = some t) (har : args[0]? = some xv) (hx : vrel μ x xv) (e : cap? P t x = some v) :
    OkQ P μ w (Builtin.cap_ ats ty args) v := by
  obtain ⟨d, hd, e⟩ := ob_some e
  unfold capD at e
  split at e
  all_goals first | (simp at e; done) | skip
  all_goals
    cases e
    simp only [vrel] at hx
  all_goals (try obtain ⟨_, _, rfl⟩ := hx)
  all_goals (try subst hx)
  all_goals exact .same r (v' := .int .i64 _) (by simp [Builtin.cap_, hat, har, run_underlying hd, goInt]; try rfl) (by simp [vrel])
theorem min_named {μ : M} {a b c : AV} {av bv : Value} (ha : vrel μ a av) (hb : vrel μ b bv) (e : mmB a b (findB 11 b a Tab.ib) = some c) : ∃ k x k' y, av = .int k x ∧ bv = .int k' y ∧ vrel μ c (.int k (if y < x then y else x)) := by
  cases hf : findB 11 b a Tab.ib with
  | none => rw [hf] at e; cases e
  | some t =>
    rw [hf] at e
    obtain ⟨k', y, k, x, q, h1, h2, h3, h4⟩ := Tab.ibok _ (findB_mem hf) .lss rfl
    have e1 := den_rel h1 hb
    have e2 := den_rel h2 ha
    subst e1 e2
    have h3' : ifb (Nat.beq (kcode k') (kcode k)) (some (.bool (decide (y < x)))) = some q := h3
    have hk : k' = k := by
      cases hq : Nat.beq (kcode k') (kcode k) with
      | false => rw [hq] at h3'; cases h3'
      | true => have h8 := nbeq_iff.1 hq; cases k' <;> cases k <;> first | rfl | (simp [kcode] at h8)
    subst hk
    have hq : Nat.beq (kcode k') (kcode k') = true := by cases k' <;> rfl
    rw [hq] at h3'
    have h5 : q = .bool (decide (y < x)) := (Option.some.inj h3').symm
    cases t with
    | bool c0 =>
      rw [h5] at h4
      have h6 : c0 = decide (y < x) := by simpa [outI] using h4
      have e' : some (Bool.rec a b c0 : AV) = some c := e
      refine ⟨k', x, k', y, rfl, rfl, ?_⟩
      cases c0 with
      | true =>
        have h7 : y < x := by simpa using h6
        rw [if_pos h7, ← Option.some.inj e']
        exact den_mk h1
      | false =>
        have h7 : ¬ (y < x) := by simpa using h6
        rw [if_neg h7, ← Option.some.inj e']
        exact den_mk h2
    | _ => cases e
theorem max_named {μ : M} {a b c : AV} {av bv : Value} (ha : vrel μ a av) (hb : vrel μ b bv) (e : mmB a b (findB 13 b a Tab.ib) = some c) : ∃ k x k' y, av = .int k x ∧ bv = .int k' y ∧ vrel μ c (.int k (if y > x then y else x)) := by
  cases hf : findB 13 b a Tab.ib with
  | none => rw [hf] at e; cases e
  | some t =>
    rw [hf] at e
    obtain ⟨k', y, k, x, q, h1, h2, h3, h4⟩ := Tab.ibok _ (findB_mem hf) .gtr rfl
    have e1 := den_rel h1 hb
    have e2 := den_rel h2 ha
    subst e1 e2
    have h3' : ifb (Nat.beq (kcode k') (kcode k)) (some (.bool (decide (y > x)))) = some q := h3
    have hk : k' = k := by
      cases hq : Nat.beq (kcode k') (kcode k) with
      | false => rw [hq] at h3'; cases h3'
      | true => have h8 := nbeq_iff.1 hq; cases k' <;> cases k <;> first | rfl | (simp [kcode] at h8)
    subst hk
    have hq : Nat.beq (kcode k') (kcode k') = true := by cases k' <;> rfl
    rw [hq] at h3'
    have h5 : q = .bool (decide (y > x)) := (Option.some.inj h3').symm
    cases t with
    | bool c0 =>
      rw [h5] at h4
      have h6 : c0 = decide (y > x) := by simpa [outI] using h4
      have e' : some (Bool.rec a b c0 : AV) = some c := e
      refine ⟨k', x, k', y, rfl, rfl, ?_⟩
      cases c0 with
      | true =>
        have h7 : y > x := by simpa using h6
        rw [if_pos h7, ← Option.some.inj e']
        exact den_mk h1
      | false =>
        have h7 : ¬ (y > x) := by simpa using h6
        rw [if_neg h7, ← Option.some.inj e']
        exact den_mk h2
    | _ => cases e
theorem min_sound (r : HR B w0 μ h w) : ∀ {l : List AV} {vs : List Value} {a v : AV} {av : Value}, vrel μ a av → vrels μ l vs → fold2 min2? l a = some v → ∃ v', (vs.foldlM Builtin.min2 av).run P w = .ok v' w ∧ vrel μ v v'
  | [], vs, a, v, av, ha, hl, e => by
    simp only [vrels] at hl; subst hl
    simp only [fold2] at e; cases e
    exact ⟨av, by simp, ha⟩
  | x :: l, vs, a, v, av, ha, hl, e => by
    simp only [vrels] at hl
    obtain ⟨xv, r', rfl, hx, hl⟩ := hl
    obtain ⟨b, hb, e⟩ := ob_some e
    unfold min2? at hb
    split at hb
    · cases hb
      simp only [vrel] at ha hx
      subst ha hx
      obtain ⟨v', h1, h2⟩ := min_sound r (a := .int _ _) (av := .int _ _) (by simp only [vrel]; rfl) hl e
      exact ⟨v', by simp only [List.foldlM_cons, Builtin.min2, Sem.run_bind, Sem.run_pure, Result.andThen_ok]; exact h1, h2⟩
    · obtain ⟨k, x_, k', y_, rfl, rfl, hc⟩ := min_named ha hx hb
      obtain ⟨v', h1, h2⟩ := min_sound r hc hl e
      exact ⟨v', by simp only [List.foldlM_cons, Builtin.min2, Sem.run_bind, Sem.run_pure, Result.andThen_ok]; exact h1, h2⟩
theorem max_sound (r : HR B w0 μ h w) : ∀ {l : List AV} {vs : List Value} {a v : AV} {av : Value}, vrel μ a av → vrels μ l vs → fold2 max2? l a = some v → ∃ v', (vs.foldlM Builtin.max2 av).run P w = .ok v' w ∧ vrel μ v v'
  | [], vs, a, v, av, ha, hl, e => by
    simp only [vrels] at hl; subst hl
    simp only [fold2] at e; cases e
    exact ⟨av, by simp, ha⟩
  | x :: l, vs, a, v, av, ha, hl, e => by
    simp only [vrels] at hl
    obtain ⟨xv, r', rfl, hx, hl⟩ := hl
    obtain ⟨b, hb, e⟩ := ob_some e
    unfold max2? at hb
    split at hb
    · cases hb
      simp only [vrel] at ha hx
      subst ha hx
      obtain ⟨v', h1, h2⟩ := max_sound r (a := .int _ _) (av := .int _ _) (by simp only [vrel]; rfl) hl e
      exact ⟨v', by simp only [List.foldlM_cons, Builtin.max2, Sem.run_bind, Sem.run_pure, Result.andThen_ok]; exact h1, h2⟩
    · obtain ⟨k, x_, k', y_, rfl, rfl, hc⟩ := max_named ha hx hb
      obtain ⟨v', h1, h2⟩ := max_sound r hc hl e
      exact ⟨v', by simp only [List.foldlM_cons, Builtin.max2, Sem.run_bind, Sem.run_pure, Result.andThen_ok]; exact h1, h2⟩
theorem plain_of {d : TypeDesc} {k : AV} {kv : Value} (hp : plainKey d k = true) (hk : vrel μ k kv) : (∃ q q' n, d = .int q ∧ kv = .int q' n) ∨ (∃ s, d = .string ∧ kv = .string s) ∨ (∃ b, d = .bool ∧ k = .bool b ∧ kv = .bool b) := by
  unfold plainKey at hp
  split at hp
  · simp only [vrel] at hk; exact .inl ⟨_, _, _, rfl, hk⟩
  · simp only [vrel] at hk; exact .inl ⟨_, _, _, rfl, hk⟩
  · simp only [vrel] at hk; exact .inr (.inl ⟨_, rfl, hk.2⟩)
  · simp only [vrel] at hk; exact .inr (.inr ⟨_, rfl, rfl, hk⟩)
  · simp only [vrel] at hk; exact .inr (.inl ⟨_, rfl, hk⟩)
  · simp at hp
theorem checkKey_sound {emp : Bool} {t : TypeId} {d : TypeDesc} {k : AV} {kv : Value} (hd : P.underlying t = some d) (hp : plainKey d k = true) (hk : vrel μ k kv) (n : Nat) : (Instr.checkKey emp (n + 1) t kv).run P w = .ok () w := by
  rcases plain_of hp hk with ⟨q, q', m, rfl, rfl⟩ | ⟨s, rfl, rfl⟩ | ⟨b, rfl, rfl, rfl⟩ <;> simp [Instr.checkKey, run_underlying hd]
theorem ba_beq (a b : ByteArray) : (a == b) = true ↔ a = b := by
  cases a with
  | mk x =>
    cases b with
    | mk y =>
      show (x == y) = true ↔ _
      simp
theorem tKey {x y : AV} {e : Bool} {xv yv : Value} (hx : vrel μ x xv) (hy : vrel μ y yv) (h : tEq x y = some e) : Instr.sameNow .string xv yv = some e ∧ (e = true → xv = yv) := by
  obtain ⟨a, b, rfl, rfl, h⟩ := tEq_sound hx hy h
  have : (a == b) = e := by rw [Bool.eq_iff_iff, ba_beq, h]
  exact ⟨by simp [Instr.sameNow, this], fun k => by rw [h.1 k]⟩
theorem iKey {q : IntKind} {x y : AV} {e : Bool} {xv yv : Value} (hx : vrel μ x xv) (hy : vrel μ y yv) (h : iEq x y = some e) : Instr.sameNow (.int q) xv yv = some e ∧ (e = true → xv = yv) := by
  unfold iEq at h
  cases hb : findB 9 x y Tab.ib with
  | none => rw [hb] at h; cases h
  | some v =>
    rw [hb] at h
    have hv : v = .bool e := by cases v <;> simp [bOf] at h; rw [h]
    subst hv
    obtain ⟨k, a, k', b, v', h1, h2, h3, h4⟩ := Tab.ibok _ (findB_mem hb) .eql rfl
    have h5 : v' = .bool e := by cases v' <;> simp [outI, denI] at h4; rw [h4]
    subst h5
    have h6 : (Bool.rec (ifb (Nat.beq (kcode k) (kcode k')) (intOp .eql k a b)) (shiftOp .eql k a b) false : Option AV) = some (.bool e) := h3
    obtain ⟨h7, h8⟩ := ifb_some h6
    obtain rfl := kcode_inj h7
    have h9 : some (AV.bool (a == b)) = some (.bool e) := h8
    cases h9
    have hx' : xv = .int k a := by
      cases x <;> simp [denI] at h1
      · obtain ⟨rfl, rfl⟩ := h1; simpa only [vrel] using hx
      · simp only [vrel] at hx; rw [hx, h1]
    have hy' : yv = .int k b := by
      cases y <;> simp [denI] at h2
      · obtain ⟨rfl, rfl⟩ := h2; simpa only [vrel] using hy
      · simp only [vrel] at hy; rw [hy, h2]
    subst hx' hy'
    exact ⟨by simp [Instr.sameNow], fun hh => by simp at hh; rw [hh]⟩
theorem keyEq_sound {d : TypeDesc} {k k' : AV} {kv kv' : Value} {b : Bool} (e : keyEq d k k' = some b) (hk : vrel μ k kv) (hk' : vrel μ k' kv') : Instr.sameNow d kv kv' = some b ∧ (b = true → kv = kv') := by
  unfold keyEq at e
  split at e
  · obtain ⟨h1, e⟩ := ifb_some e
    cases e
    obtain rfl := kcode_inj h1
    simp only [vrel] at hk hk'
    subst hk hk'
    exact ⟨by simp [Instr.sameNow], fun hh => by simp at hh; rw [hh]⟩
  · cases e
    simp only [vrel] at hk hk'
    obtain ⟨hc, rfl⟩ := hk
    obtain ⟨hd, rfl⟩ := hk'
    rename_i n c m q
    have heq : (strOf n c == strOf m q) = strEq n c m q := by
      rw [Bool.eq_iff_iff, ba_beq, strEq_iff hc hd]
    exact ⟨by simp [Instr.sameNow, heq], fun hh => by rw [(strEq_iff hc hd).1 hh]⟩
  · cases e
    simp only [vrel] at hk hk'
    subst hk hk'
    exact ⟨by simp [Instr.sameNow], fun hh => by simp at hh; rw [hh]⟩
  all_goals first | (simp at e; done) | skip
  · rename_i i j
    cases hij : Nat.beq i j with
    | false => rw [hij] at e; exact tKey hk hk' e
    | true =>
      rw [hij] at e
      cases e
      have := nbeq_iff.1 hij
      subst this
      simp only [vrel] at hk hk'
      subst hk hk'
      exact ⟨by simp [Instr.sameNow, (ba_beq _ _).2 rfl], fun _ => rfl⟩
  · exact tKey hk hk' e
  · exact tKey hk hk' e
  · exact iKey hk hk' e
  · exact iKey hk hk' e
  · exact iKey hk hk' e
theorem findKey_sound {d : TypeDesc} {k : AV} {kv : Value} (hk : vrel μ k kv) : ∀ {es : List (AV × AV × Nat)} {es' : List MapEntry} {i : Nat} {res : Option (Nat × AV × Nat)}, esrel μ es es' → findKey? d k es i = some res →
    match res with
    | none => Instr.findNow d kv es' i = some none
    | some (j, v, b) => ∃ e', Instr.findNow d kv es' i = some (some (j, e'.val)) ∧ vrel μ v e'.val ∧ i ≤ j ∧ es'[j - i]? = some e' ∧ e'.born = b ∧ e'.key = kv
  | [], es', i, res, he, e => by
    simp only [esrel] at he; subst he
    simp only [findKey?] at e; cases e
    simp [Instr.findNow]
  | a :: es, es', i, res, he, e => by
    simp only [esrel] at he
    obtain ⟨x, r, rfl, h1, h2, h3, h4⟩ := he
    simp only [findKey?] at e
    obtain ⟨b, hb, e⟩ := ob_some e
    obtain ⟨g1, g2⟩ := keyEq_sound hb hk h1
    cases b with
    | true =>
      cases e
      exact ⟨x, by simp [Instr.findNow, g1], h2, Nat.le_refl _, by simp, h3, (g2 rfl).symm⟩
    | false =>
      have ih := findKey_sound hk (i := i + 1) h4 e
      cases res with
      | none => simp only at ih ⊢; simp [Instr.findNow, g1, ih]
      | some q =>
        obtain ⟨j, v, bb⟩ := q
        simp only at ih ⊢
        obtain ⟨e', k1, k2, k3, k4, k5, k6⟩ := ih
        refine ⟨e', by simp [Instr.findNow, g1, k1], k2, by omega, ?_, k5, k6⟩
        rw [show j - i = (j - (i + 1)) + 1 by omega, List.getElem?_cons_succ]; exact k4
theorem asMap_some {d : TypeDesc} {ke : TypeId × TypeId} (e : asMap d = some ke) : d = .map ke.1 ke.2 := by
  cases d <;> simp [asMap] at e
  subst e; rfl
theorem mapIn_some {b : Blk} {p : List (AV × AV × Nat) × Nat} (e : mapIn b = some p) : b = .map p.1 p.2 := by
  cases b <;> simp [mapIn] at e
  subst e; rfl
theorem mapOf_sound (r : HR B w0 μ h w) {x : AV} {xv : Value} {es : List (AV × AV × Nat)} (hx : vrel μ x xv) (e : mapOf h x = some es) :
    ∃ es' : Array MapEntry, esrel μ es es'.toList ∧ (xv = .map none ∧ es' = #[] ∨ ∃ b c, xv = .map (some b) ∧ w.heap[b]? = some (.map es' c)) := by
  unfold mapOf at e
  split at e
  · cases e
    simp only [vrel] at hx
    exact ⟨#[], by simp [esrel], .inl ⟨hx, rfl⟩⟩
  · obtain ⟨b, hb, e⟩ := ob_some e
    obtain ⟨p, hp, e⟩ := ob_some e
    cases e
    obtain rfl := mapIn_some hp
    obtain ⟨l, hl, _, _, es', h1, h2⟩ := r.blk _ _ hb
    simp only [vrel] at hx
    obtain ⟨l', hl', rfl⟩ := hx
    rw [hl] at hl'; cases hl'
    exact ⟨⟨es'⟩, h2, .inr ⟨_, _, rfl, h1⟩⟩
  · simp at e
theorem lookup_sound (r : HR B w0 μ h w) {t : TypeId} {x i v : AV} {xv iv : Value} {ok : Bool} (hx : vrel μ x xv) (hi : vrel μ i iv) (e : lookup? P h t x i ok = some v) :
    OkQ P μ w (Instr.lookup t xv iv ok) v := by
  obtain ⟨d, hd, e⟩ := ob_some e
  obtain ⟨ke, hke, e⟩ := ob_some e
  obtain ⟨kd, hkd, e⟩ := ob_some e
  obtain ⟨hp, e⟩ := ifb_some e
  obtain ⟨es, hes, e⟩ := ob_some e
  obtain ⟨res, hres, e⟩ := ob_some e
  obtain ⟨q, hq, e⟩ := ob_some e
  cases e
  obtain rfl := asMap_some hke
  obtain ⟨es', g1, g2⟩ := mapOf_sound r hx hes
  have hf := findKey_sound hi g1 hres
  have hck : ∀ emp, (Instr.checkKey emp 10000 ke.1 iv).run P w = .ok () w := fun emp => checkKey_sound hkd hp hi 9999
  cases res with
  | none =>
    obtain ⟨z, hz, hq⟩ := ob_some hq
    cases hq
    obtain ⟨ii, zv, hii, hzv, hrel⟩ := zeroOf_some (μ := μ) hz
    simp only at hf
    refine .same r (v' := if ok then .tuple #[zv, .bool false] else zv) ?_ ?_
    · simp only [Instr.lookup, Sem.run_bind, run_underlying hd, Result.andThen_ok]
      rcases g2 with ⟨rfl, rfl⟩ | ⟨b, c, rfl, hb⟩
      · simp [hck, Instr.findKey, run_underlying hkd, hf, run_zeroValue hii hzv]
      · simp [run_getObj_map hb, hck, Instr.findKey, run_underlying hkd, hf, run_zeroValue hii hzv]
    · cases ok
      · simpa using hrel
      · simp only [if_true, vrel]; exact ⟨_, rfl, vrels_cons hrel (vrels_one (by simp [vrel]))⟩
  | some p =>
    obtain ⟨j, v, b⟩ := p
    cases hq
    simp only at hf
    obtain ⟨e', k1, k2, _⟩ := hf
    refine .same r (v' := if ok then .tuple #[e'.val, .bool true] else e'.val) ?_ ?_
    · simp only [Instr.lookup, Sem.run_bind, run_underlying hd, Result.andThen_ok]
      rcases g2 with ⟨rfl, rfl⟩ | ⟨b, c, rfl, hb⟩
      · simp [Instr.findNow] at k1
      · simp [run_getObj_map hb, hck, Instr.findKey, run_underlying hkd, k1]
    · cases ok
      · simpa using k2
      · simp only [if_true, vrel]; exact ⟨_, rfl, vrels_cons k2 (vrels_one (by simp [vrel]))⟩
end Go.X
set_option linter.unusedVariables false
set_option linter.unusedSimpArgs false
set_option linter.unusedSectionVars false
namespace Go.X
open Go.RowKit
variable [Tab]
variable {P : Program} {B : Kp} {w0 : World} {μ : M} {h h' : H} {w w' : World}
theorem esrel_append {k v : AV} {kv vv : Value} {c : Nat} (hk : vrel μ k kv) (hv : vrel μ v vv) : ∀ {es : List (AV × AV × Nat)} {es' : List MapEntry}, esrel μ es es' → esrel μ (es ++ [(k, v, c)]) (es' ++ [{ key := kv, val := vv, born := c }])
  | [], es', e => by
    simp only [esrel] at e; subst e
    simp only [List.nil_append, esrel]
    exact ⟨_, _, rfl, hk, hv, rfl, rfl⟩
  | a :: l, es', e => by
    simp only [esrel] at e
    obtain ⟨x, r, rfl, h1, h2, h3, h4⟩ := e
    simp only [List.cons_append, esrel]
    exact ⟨x, _, rfl, h1, h2, h3, esrel_append hk hv h4⟩
theorem esrel_modify {k v : AV} {kv vv : Value} (hk : vrel μ k kv) (hv : vrel μ v vv) : ∀ {es : List (AV × AV × Nat)} {es' : List MapEntry} (i : Nat), esrel μ es es' → esrel μ (mapSet es i k v) (es'.modify i fun e => { e with key := kv, val := vv })
  | [], es', i, e => by
    simp only [esrel] at e; subst e
    simp [mapSet, esrel]
  | a :: l, es', 0, e => by
    simp only [esrel] at e
    obtain ⟨x, r, rfl, h1, h2, h3, h4⟩ := e
    simp only [mapSet, List.modify_zero_cons, esrel]
    exact ⟨_, _, rfl, hk, hv, h3, h4⟩
  | a :: l, es', i + 1, e => by
    simp only [esrel] at e
    obtain ⟨x, r, rfl, h1, h2, h3, h4⟩ := e
    simp only [mapSet, List.modify_succ_cons, esrel]
    exact ⟨x, _, rfl, h1, h2, h3, esrel_modify hk hv i h4⟩
theorem esrel_erase : ∀ {es : List (AV × AV × Nat)} {es' : List MapEntry} (i : Nat), esrel μ es es' → esrel μ (es.eraseIdx i) (es'.eraseIdx i)
  | [], es', i, e => by
    simp only [esrel] at e; subst e
    simp [esrel]
  | a :: l, es', 0, e => by
    simp only [esrel] at e
    obtain ⟨x, r, rfl, h1, h2, h3, h4⟩ := e
    simpa using h4
  | a :: l, es', i + 1, e => by
    simp only [esrel] at e
    obtain ⟨x, r, rfl, h1, h2, h3, h4⟩ := e
    simp only [List.eraseIdx_cons_succ, esrel]
    exact ⟨x, _, rfl, h1, h2, h3, esrel_erase i h4⟩
theorem HR.putMap (r : HR B w0 μ h w) {x : Nat} {es es2 : List (AV × AV × Nat)} {c c2 : Nat} {l : Loc} {es' : Array MapEntry} (hx : h.get x = some (.map es c)) (hl : μ x = some l) (hlim : x < limit) (hw : w.heap[l.block]? = some (.map es' c)) {es2' : Array MapEntry} (he : esrel μ es2 es2'.toList) :
    HR B w0 μ (h.put x (.map es2 c2)) { w with heap := w.heap.setIfInBounds l.block (.map es2' c2) } :=
  r.upd hx hl rfl rfl (by unfold limit at hlim; omega) (upd_setObj w _ _) ⟨es2'.toList, get_setObj hw, he⟩
structure MapAt (P : Program) (μ : M) (h : H) (w : World) (t : TypeId) (m k : AV) (mv kv : Value) (x : Nat) (es : List (AV × AV × Nat)) (clock : Nat) (kt e : TypeId) (kd : TypeDesc) (l : Loc) (es' : Array MapEntry) : Prop where
  type : P.underlying t = some (.map kt e)
  key : P.underlying kt = some kd
  plain : plainKey kd k = true
  map : m = .map x
  val : mv = .map (some l.block)
  got : h.get x = some (.map es clock)
  loc : μ x = some l
  lim : x < limit
  obj : w.heap[l.block]? = some (.map es' clock)
  rel : esrel μ es es'.toList
theorem mapAt_sound (r : HR B w0 μ h w) {t : TypeId} {m k : AV} {mv kv : Value} {f : Nat → List (AV × AV × Nat) → Nat → TypeId → Option (Nat × AV × Nat) → Option (AV × H)} {p : AV × H} (hm : vrel μ m mv) (e : mapAt P h t m k f = some p) :
    ∃ x es clock kt e' kd l es' res, MapAt P μ h w t m k mv kv x es clock kt e' kd l es' ∧ findKey? kd k es 0 = some res ∧ f x es clock e' res = some p := by
  unfold mapAt at e
  split at e
  · rename_i x
    obtain ⟨d, hd, e⟩ := ob_some e
    obtain ⟨ke, hke, e⟩ := ob_some e
    obtain ⟨kd, hkd, e⟩ := ob_some e
    obtain ⟨hp, e⟩ := ifb_some e
    simp only [Bool.and_eq_true, blt_iff] at hp
    obtain ⟨b, hb, e⟩ := ob_some e
    obtain ⟨q, hq, e⟩ := ob_some e
    obtain ⟨res, hres, ef⟩ := ob_some e
    obtain rfl := asMap_some hke
    obtain rfl := mapIn_some hq
    obtain ⟨l, hl, _, _, es', h1, h2⟩ := r.blk _ _ hb
    simp only [vrel] at hm
    obtain ⟨l', hl', rfl⟩ := hm
    rw [hl] at hl'; cases hl'
    exact ⟨x, q.1, q.2, ke.1, ke.2, kd, l, ⟨es'⟩, res, ⟨hd, hkd, hp.1, rfl, rfl, hb, hl, hp.2, h1, h2⟩, hres, ef⟩
  · simp at e
theorem sameBits_self {d : TypeDesc} {k : AV} {kv : Value} (hp : plainKey d k = true) (hk : vrel μ k kv) (n : Nat) : Instr.sameBits n kv kv = true := by
  rcases plain_of hp hk with ⟨q, q', m, rfl, rfl⟩ | ⟨s, rfl, rfl⟩ | ⟨b, rfl, rfl, rfl⟩
  · simp [Instr.sameBits]
  · cases n <;> simp [Instr.sameBits, ba_beq]
  · simp [Instr.sameBits]
theorem mapUpdate_sound (r : HR B w0 μ h w) {t : TypeId} {m k v : AV} {mv kv vv : Value} {p : AV × H} (hm : vrel μ m mv) (hk : vrel μ k kv) (hv : vrel μ v vv) (e : mapUpdate? P h t m k v = some p) :
    p.1 = .undef ∧ ∃ w', (Instr.mapUpdate t mv kv vv).run P w = .ok () w' ∧ HR B w0 μ p.2 w' := by
  obtain ⟨x, es, clock, kt, e', kd, l, es', res, A, hres, e⟩ := mapAt_sound (kv := kv) r hm e
  have hval := A.val
  subst hval
  have hf := findKey_sound hk A.rel hres
  have hck : (Instr.checkKey false 10000 kt kv).run P w = .ok () w := checkKey_sound A.key A.plain hk 9999
  cases res with
  | none =>
    cases e
    refine ⟨rfl, _, ?_, r.putMap A.got A.loc A.lim A.obj (es2' := es'.push { key := kv, val := vv, born := clock }) (by rw [Array.toList_push]; exact esrel_append hk hv A.rel)⟩
    simp only at hf
    simp [Instr.mapUpdate, run_underlying A.type, run_getObj_map A.obj, hck, Instr.findKey, run_underlying A.key, hf, run_setObj_map _ A.obj]
  | some q =>
    obtain ⟨j, v0, b⟩ := q
    cases e
    simp only at hf
    obtain ⟨e0, k1, k2, _, k4, k5, k6⟩ := hf
    simp only [Nat.sub_zero] at k4
    have hg : es'[j]? = some e0 := by rw [← Array.getElem?_toList]; exact k4
    refine ⟨rfl, _, ?_, r.putMap A.got A.loc A.lim A.obj (es2' := es'.modify j fun e => { e with key := kv, val := vv }) (by rw [Array.toList_modify]; exact esrel_modify hk hv j A.rel)⟩
    have hstay : (Instr.keyThatStays kv kv).run P w = .ok kv w := by simp [Instr.keyThatStays, sameBits_self A.plain hk]
    simp [Instr.mapUpdate, run_underlying A.type, run_getObj_map A.obj, hck, Instr.findKey, run_underlying A.key, k1, hg, k6, hstay, run_setObj_map _ A.obj]
theorem mapEntry_sound (r : HR B w0 μ h w) {t : TypeId} {m k : AV} {mv kv : Value} {p : AV × H} (hm : vrel μ m mv) (hk : vrel μ k kv) (e : mapEntry? P h t m k = some p) :
    OkV P B w0 μ w (Instr.mapEntry t mv kv) p.1 p.2 := by
  obtain ⟨x, es, clock, kt, e', kd, l, es', res, A, hres, e⟩ := mapAt_sound (kv := kv) r hm e
  have hval := A.val
  subst hval
  have hf := findKey_sound hk A.rel hres
  have hck : (Instr.checkKey false 10000 kt kv).run P w = .ok () w := checkKey_sound A.key A.plain hk 9999
  cases res with
  | none =>
    obtain ⟨z, hz, e⟩ := ob_some e
    cases e
    obtain ⟨ii, zv, hii, hzv, hrel⟩ := zeroOf_some (μ := μ) hz
    refine ⟨.tuple #[zv, .int .i64 clock], _, μ, ?_, Ext.refl _, ?_, r.putMap A.got A.loc A.lim A.obj (es2' := es'.push { key := kv, val := zv, born := clock }) (by rw [Array.toList_push]; exact esrel_append hk hrel A.rel)⟩
    · simp only at hf
      simp [Instr.mapEntry, run_underlying A.type, run_getObj_map A.obj, hck, Instr.findKey, run_underlying A.key, hf, run_setObj_map _ A.obj, run_zeroValue hii hzv, goInt]
    · simp only [vrel]; exact ⟨_, rfl, vrels_cons hrel (vrels_one (by simp [vrel]))⟩
  | some q =>
    obtain ⟨j, v0, b⟩ := q
    cases e
    simp only at hf
    obtain ⟨e0, k1, k2, _, k4, k5, k6⟩ := hf
    simp only [Nat.sub_zero] at k4
    have hg : es'[j]? = some e0 := by rw [← Array.getElem?_toList]; exact k4
    have hmod : (es'.modify j fun e => { e with key := kv }) = es'.modify j fun e => { e with key := kv, val := e0.val } := by
      apply Array.ext_getElem?
      intro i
      rw [Array.getElem?_modify, Array.getElem?_modify]
      by_cases hij : j = i
      · subst hij
        rw [hg]; simp
      · rw [if_neg hij, if_neg hij]
    refine ⟨.tuple #[e0.val, .int .i64 b], _, μ, ?_, Ext.refl _, ?_, r.putMap A.got A.loc A.lim A.obj (es2' := es'.modify j fun e => { e with key := kv, val := e0.val }) (by rw [Array.toList_modify]; exact esrel_modify hk k2 j A.rel)⟩
    · have hstay : (Instr.keyThatStays kv kv).run P w = .ok kv w := by simp [Instr.keyThatStays, sameBits_self A.plain hk]
      rw [← hmod]
      simp [Instr.mapEntry, run_underlying A.type, run_getObj_map A.obj, hck, Instr.findKey, run_underlying A.key, k1, hg, k6, k5, hstay, run_setObj_map _ A.obj, goInt]
    · simp only [vrel]; exact ⟨_, rfl, vrels_cons k2 (vrels_one (by simp [vrel]))⟩
theorem delete_sound (r : HR B w0 μ h w) {t ty : TypeId} {ats : Array TypeId} {args : Array Value} {m k : AV} {mv kv : Value} {p : AV × H} (hat : ats[0]? = some t) (ha0 : args[0]? = some mv) (ha1 : args[1]? = some kv) (hm : vrel μ m mv) (hk : vrel μ k kv) (e : delete? P h t m k = some p) :
    OkV P B w0 μ w (Builtin.delete_ ats ty args) p.1 p.2 := by
  obtain ⟨x, es, clock, kt, e', kd, l, es', res, A, hres, e⟩ := mapAt_sound (kv := kv) r hm e
  have hval := A.val
  subst hval
  have hf := findKey_sound hk A.rel hres
  have hck : ∀ emp, (Instr.checkKey emp 10000 kt kv).run P w = .ok () w := fun emp => checkKey_sound A.key A.plain hk 9999
  cases res with
  | none =>
    cases e
    refine ⟨.tuple #[], _, μ, ?_, Ext.refl _, by simp only [AV.undef, vrel]; exact ⟨[], rfl, by simp [vrels]⟩, r.putMap A.got A.loc A.lim A.obj (es2' := es') A.rel⟩
    simp only at hf
    simp [Builtin.delete_, hat, ha0, ha1, run_underlying A.type, run_getObj_map A.obj, hck, Instr.findKey, run_underlying A.key, hf, run_setObj_map _ A.obj]
  | some q =>
    obtain ⟨j, v0, b⟩ := q
    cases e
    simp only at hf
    obtain ⟨e0, k1, k2, _, k4, k5, k6⟩ := hf
    simp only [Nat.sub_zero] at k4
    refine ⟨.tuple #[], _, μ, ?_, Ext.refl _, by simp only [AV.undef, vrel]; exact ⟨[], rfl, by simp [vrels]⟩, r.putMap A.got A.loc A.lim A.obj (es2' := es'.eraseIdxIfInBounds j) ?_⟩
    · simp [Builtin.delete_, hat, ha0, ha1, run_underlying A.type, run_getObj_map A.obj, hck, Instr.findKey, run_underlying A.key, k1, run_setObj_map _ A.obj]
    · have : (es'.eraseIdxIfInBounds j).toList = es'.toList.eraseIdx j := by simp
      rw [this]; exact esrel_erase j A.rel
theorem entrySet_sound {n : Int} {x : AV} {xv : Value} (hx : vrel μ x xv) : ∀ {es es2 : List (AV × AV × Nat)} {es' : List MapEntry}, esrel μ es es' → entrySet n x es = some es2 →
    ∃ i, es'.findIdx? (fun e => (e.born : Int) == n) = some i ∧ esrel μ es2 (es'.modify i fun e => { e with val := xv })
  | [], es2, es', he, e => by simp [entrySet] at e
  | (k, v, b) :: es, es2, es', he, e => by
    simp only [esrel] at he
    obtain ⟨y, r, rfl, h1, h2, h3, h4⟩ := he
    simp only [entrySet] at e
    split at e
    · rename_i hb
      cases e
      refine ⟨0, ?_, ?_⟩
      · rw [List.findIdx?_cons]; simp [h3, hb]
      · simp only [List.modify_zero_cons, esrel]
        exact ⟨_, _, rfl, h1, hx, h3, h4⟩
    · rename_i hb
      obtain ⟨r2, hr2, e⟩ := ob_some e
      cases e
      obtain ⟨i, g1, g2⟩ := entrySet_sound hx h4 hr2
      refine ⟨i + 1, ?_, ?_⟩
      · rw [List.findIdx?_cons, g1]; simp [h3, hb]
      · simp only [List.modify_succ_cons, esrel]
        exact ⟨_, _, rfl, h1, h2, h3, g2⟩
theorem entryStore_sound (r : HR B w0 μ h w) {t : TypeId} {m s v : AV} {mv sv vv : Value} {p : AV × H} (hm : vrel μ m mv) (hs : vrel μ s sv) (hv : vrel μ v vv) (e : entryStore? h m s v = some p) :
    p.1 = .undef ∧ ∃ w', (Instr.entryStore t mv sv vv).run P w = .ok () w' ∧ HR B w0 μ p.2 w' := by
  unfold entryStore? at e
  split at e
  · obtain ⟨b, hb, e⟩ := ob_some e
    obtain ⟨q, hq, e⟩ := ob_some e
    obtain ⟨es2, hes, e⟩ := ob_some e
    obtain ⟨hlim, e⟩ := ifb_some e
    cases e
    obtain rfl := mapIn_some hq
    obtain ⟨l, hl, _, _, es', h1, h2⟩ := r.blk _ _ hb
    simp only [vrel] at hm hs
    subst hs
    obtain ⟨l', hl', rfl⟩ := hm
    rw [hl] at hl'; cases hl'
    obtain ⟨i, g1, g2⟩ := entrySet_sound hv h2 hes
    refine ⟨rfl, _, ?_, r.putMap hb hl (blt_iff.1 hlim) h1 (es2' := (⟨es'⟩ : Array MapEntry).modify i fun e => { e with val := vv }) (by rw [Array.toList_modify]; exact g2)⟩
    simp [Instr.entryStore, run_getObj_map h1, asInt, asIntOf, run_setObj_map _ h1]
    simp [g1, run_setObj_map _ h1]
  · simp at e
theorem range_sound (r : HR B w0 μ h w) {t : TypeId} {x : AV} {xv : Value} {p : AV × H} (hx : vrel μ x xv) (e : range? P h t x = some p) :
    OkV P B w0 μ w (Instr.range t xv) p.1 p.2 := by
  obtain ⟨d, hd, e⟩ := ob_some e
  have key : ∀ (b : Blk) (o : Obj) (q : Nat × H), own b = true → (∀ l : Loc, l.block = w.heap.size → l.base = 0 → ∀ μ', Ext μ μ' → brel μ' b l { w with heap := w.heap.push o }) → h.alloc b = some q →
      ∃ μ', Ext μ μ' ∧ vrel μ' (.ptr q.1 0) (.pointer (some ⟨w.heap.size, 0, none⟩)) ∧ HR B w0 μ' q.2 { w with heap := w.heap.push o } := by
    intro b o q ho hb hq
    have hx := (H.alloc_some hq).1
    have hext : Ext μ (upm μ q.1 ⟨w.heap.size, 0, 0⟩) := Ext.upm _ (by rw [hx]; exact (r.fresh h.next (Nat.le_refl _)).2)
    refine ⟨_, hext, ?_, r.alloc (At.ofAlloc r hq) ho (below_push w o) (Nat.le_refl _) (hb _ rfl rfl _ hext)⟩
    simp only [vrel]
    exact ⟨⟨w.heap.size, 0, 0⟩, by simp [upm], rfl⟩
  cases d with
  | string =>
    cases x with
    | str n c =>
      simp only [rangeD] at e
      obtain ⟨q, hq, e2⟩ := ob_some e
      cases e2
      simp only [vrel] at hx
      obtain ⟨hc, rfl⟩ := hx
      obtain ⟨μ', g1, g2, g3⟩ := key (.siter n c 0) (.stringIter (strOf n c) 0) q rfl (fun l hl hb μ' _ => ⟨hb, hc, by rw [hl]; simp⟩) hq
      exact ⟨_, _, μ', by simp [Instr.range, run_underlying hd], g1, g2, g3⟩
    | _ => simp [rangeD] at e
  | map kt et =>
    cases x with
    | nilm =>
      simp only [rangeD] at e
      obtain ⟨q, hq, e2⟩ := ob_some e
      cases e2
      simp only [vrel] at hx
      subst hx
      obtain ⟨μ', g1, g2, g3⟩ := key (.miter none 0 [] 0) (.mapIter none 0 #[] 0) q rfl (fun l hl hb μ' _ => ⟨hb, by rw [hl]; simp⟩) hq
      exact ⟨_, _, μ', by simp [Instr.range, run_underlying hd], g1, g2, g3⟩
    | map m =>
      simp only [rangeD] at e
      obtain ⟨b, hb, e2⟩ := ob_some e
      obtain ⟨mq, hmq, e3⟩ := ob_some e2
      obtain ⟨q, hq, e4⟩ := ob_some e3
      cases e4
      obtain rfl := mapIn_some hmq
      obtain ⟨k, hk, _, _, es', h1, h2⟩ := r.blk _ _ hb
      simp only [vrel] at hx
      obtain ⟨k', hk', rfl⟩ := hx
      rw [hk] at hk'; cases hk'
      obtain ⟨μ', g1, g2, g3⟩ := key (.miter (some m) mq.2 [] mq.2) (.mapIter (some k.block) mq.2 #[] mq.2) q rfl (fun l hl hb μ' he => ⟨hb, k, he _ _ hk, by rw [hl]; simp⟩) hq
      exact ⟨_, _, μ', by simp [Instr.range, run_underlying hd, run_getObj_map h1], g1, g2, g3⟩
    | _ => simp [rangeD] at e
  | _ => simp [rangeD] at e
theorem str_at {n c pos : Nat} (hp : pos < n) : (strOf n c).get! pos = UInt8.ofNat (c / 256 ^ pos % 256) := by
  have hs : pos < (strOf n c).size := by rw [strOf_size]; exact hp
  have h2 : (strOf n c).data.toList[pos]? = some (UInt8.ofNat (c / 256 ^ pos % 256)) := by
    simp only [strOf, List.getElem?_map]
    have e1 : (dec n c)[pos]? = (dec (n - pos) (c / 256 ^ pos))[0]? := by
      rw [dec_div pos (n - pos) c, List.getElem?_drop]
      congr 2; omega
    rw [e1]
    cases hnk : n - pos with
    | zero => omega
    | succ q => simp [dec]
  rw [Array.getElem?_toList] at h2
  show (strOf n c).data[pos]! = _
  rw [getElem!_def, h2]
theorem esrel_filter (p : Nat → Bool) : ∀ {es : List (AV × AV × Nat)} {es' : List MapEntry}, esrel μ es es' → esrel μ (es.filter fun e => p e.2.2) (es'.filter fun e => p e.born)
  | [], es', e => by simp only [esrel] at e; subst e; simp [esrel]
  | a :: l, es', e => by
    simp only [esrel] at e
    obtain ⟨x, r, rfl, h1, h2, h3, h4⟩ := e
    have ih := esrel_filter p h4
    simp only [List.filter_cons, h3]
    cases p a.2.2 with
    | false => simpa using ih
    | true => simp only [if_true, esrel]; exact ⟨x, _, rfl, h1, h2, h3, ih⟩
theorem esrel_all (p : Nat → Bool) : ∀ {es : List (AV × AV × Nat)} {es' : List MapEntry}, esrel μ es es' → (es'.all fun e => p e.born) = (es.all fun e => p e.2.2)
  | [], es', e => by simp only [esrel] at e; subst e; simp
  | a :: l, es', e => by
    simp only [esrel] at e
    obtain ⟨x, r, rfl, h1, h2, h3, h4⟩ := e
    simp only [List.all_cons, h3, esrel_all p h4]
theorem choose_next (w : World) (n : Nat) (hn : 0 < n) : ∃ j d, j < n ∧ (choose (.mapNext n)).run P w = .ok j { w with drawn := d } := by
  rw [run_choose]
  by_cases h : n ≤ 1
  · exact ⟨0, w.drawn, hn, by simp [Question.forced, h]⟩
  · exact ⟨w.tape w.drawn (.mapNext n) % n, w.drawn + 1, Nat.mod_lt _ hn, by simp [Question.forced, h, Question.cut]⟩
def OkL (P : Program) (B : Kp) (w0 : World) (μ : M) (w : World) (s : Sem Value) (l : List (AV × H)) : Prop := ∃ p ∈ l, OkV P B w0 μ w s p.1 p.2
theorem esrel_get {es : List (AV × AV × Nat)} {es' : List MapEntry} (e : esrel μ es es') : ∀ {i : Nat} {x : MapEntry}, es'[i]? = some x → ∃ a, es[i]? = some a ∧ vrel μ a.1 x.key ∧ vrel μ a.2.1 x.val ∧ x.born = a.2.2 := by
  induction es generalizing es' with
  | nil => intro i x hx; simp only [esrel] at e; subst e; simp at hx
  | cons a l ih =>
    intro i x hx
    simp only [esrel] at e
    obtain ⟨y, r, rfl, h1, h2, h3, h4⟩ := e
    cases i with
    | zero => simp only [List.getElem?_cons_zero, Option.some.injEq] at hx; subst hx; exact ⟨a, rfl, h1, h2, h3⟩
    | succ i => simp only [List.getElem?_cons_succ] at hx ⊢; exact ih h4 hx
theorem next_sound (r : HR B w0 μ h w) {ty : TypeId} {it : AV} {iv : Value} {isString : Bool} {p : List (AV × H)} (hx : vrel μ it iv) (e : next? h it isString = some p) :
    OkL P B w0 μ w (Instr.next iv isString ty) p := by
  unfold next? at e
  split at e
  · rename_i x
    obtain ⟨b, hb, e⟩ := ob_some e
    obtain ⟨l, hl, _, _, hr⟩ := r.blk _ b hb
    simp only [vrel] at hx
    obtain ⟨l', hl', rfl⟩ := hx
    rw [hl] at hl'; cases hl'
    cases b with
    | siter n c pos =>
      cases isString with
      | false => simp [nextD] at e
      | true =>
        simp only [nextD] at e
        obtain ⟨p1, e0, he1⟩ := ob_some e
        cases he1
        clear e
        have e := e0
        clear e0
        refine ⟨p1, by simp [one1], ?_⟩
        obtain ⟨hb0, hc, h1⟩ := hr
        unfold nextStr at e
        by_cases hpos : pos < n
        · rw [if_pos hpos] at e
          obtain ⟨hcond, e2⟩ := ifb_some e
          simp only [Bool.and_eq_true, blt_iff] at hcond
          cases e2
          have hb1 : ((strOf n c).get! pos).toNat = c / 256 ^ pos % 256 := by
            rw [str_at hpos, UInt8.toNat_ofNat']
            omega
          have hdec : Utf8.decode (strOf n c) pos = (c / 256 ^ pos % 256, 1) := by
            unfold Utf8.decode
            simp only [Nat.add_zero, hb1]
            rw [if_pos hcond.1]
          refine ⟨.tuple #[.bool true, .int .i64 pos, .int .i32 ((c / 256 ^ pos % 256 : Nat) : Int)], _, μ, ?_, Ext.refl _, ?_, r.upd (b' := .siter n c (pos + 1)) hb hl rfl rfl (by have := hcond.2; unfold limit at this; omega) (upd_setObj w l.block (.stringIter (strOf n c) (pos + 1))) ⟨hb0, hc, get_setObj h1⟩⟩
          · simp only [hb0, Nat.zero_add]
            simp [Instr.next, run_getObj_siter h1, strOf_size, hpos, hdec, run_setObj_siter _ h1, goInt]
          · simp only [vrel]; exact ⟨_, rfl, vrels_cons (by simp [vrel]) (vrels_cons (by simp [vrel]) (vrels_one (by simp [vrel])))⟩
        · rw [if_neg hpos] at e
          cases e
          refine .same r (v' := .tuple #[.bool false]) ?_ (by simp only [vrel]; exact ⟨_, rfl, vrels_one (by simp [vrel])⟩)
          simp only [hb0, Nat.zero_add]
          simp [Instr.next, run_getObj_siter h1, strOf_size, hpos]
    | miter mm since seen last =>
      cases isString with
      | true => simp [nextD] at e
      | false =>
        cases mm with
        | none =>
          simp only [nextD] at e
          cases e
          obtain ⟨hb0, h1⟩ := hr
          refine ⟨_, List.mem_singleton.2 rfl, .same r (v' := .tuple #[.bool false]) ?_ (by simp only [vrel]; exact ⟨_, rfl, vrels_one (by simp [vrel])⟩)⟩
          simp only [hb0, Nat.zero_add]
          simp [Instr.next, run_getObj_miter h1]
        | some m =>
          simp only [nextD] at e
          obtain ⟨hb0, k, hk, h1⟩ := hr
          obtain ⟨b2, hb2, e2⟩ := ob_some e
          obtain ⟨q, hq, e3⟩ := ob_some e2
          obtain rfl := mapIn_some hq
          obtain ⟨k', hk', _, _, es', g1, g2⟩ := r.blk _ _ hb2
          rw [hk] at hk'; cases hk'
          unfold nextMap at e3
          split at e3
          · simp at e3
          · rename_i hgone
            have hall : (es'.all fun e => decide (last ≤ e.born)) = (q.1.all fun e => decide (last ≤ e.2.2)) := esrel_all (fun n => decide (last ≤ n)) g2
            have hemp : es'.isEmpty = q.1.isEmpty := by
              have := esrel_length g2
              cases es' <;> cases hq1 : q.1 <;> simp_all
            have hgone' : ¬ ((!(⟨seen⟩ : Array Nat).isEmpty && !(⟨es'⟩ : Array MapEntry).isEmpty && (⟨es'⟩ : Array MapEntry).all (fun e => decide (e.born ≥ last))) = true) := by
              intro hh
              apply hgone
              simp only [List.isEmpty_toArray, List.all_toArray] at hh
              simp only [ge_iff_le, hemp, hall] at hh
              exact hh
            have hleft := esrel_filter (fun n => !seen.contains n) g2
            have hfil : (⟨es'⟩ : Array MapEntry).filter (fun e => !(⟨seen⟩ : Array Nat).contains e.born) = ⟨es'.filter fun e => !seen.contains e.born⟩ := by
              apply Array.ext'
              simp
            generalize hf : (q.1.filter fun e => !seen.contains e.2.2) = left at e3 hleft
            generalize hf' : (es'.filter fun e => !seen.contains e.born) = left' at hleft hfil
            cases left with
            | nil =>
              simp only [esrel] at hleft
              subst hleft
              cases e3
              refine ⟨_, List.mem_singleton.2 rfl, .same r (v' := .tuple #[.bool false]) ?_ (by simp only [vrel]; exact ⟨_, rfl, vrels_one (by simp [vrel])⟩)⟩
              simp only [hb0, Nat.zero_add]
              simp only [Instr.next, Sem.run_bind, run_getObj_miter h1, Result.andThen_ok, run_getObj_map g1]
              rw [if_neg hgone']
              simp only [hfil, Sem.run_pure, Result.andThen_ok]
              simp [Question.forced]
            | cons a rest =>
              simp only at e3
              obtain ⟨hcond, e4⟩ := ifb_some e3
              simp only [Bool.and_eq_true] at hcond
              obtain ⟨hold, hlim⟩ := hcond
              have hlim := blt_iff.1 hlim
              have hlen : left'.length = (a :: rest).length := esrel_length hleft
              have hold' : ∀ y ∈ left', y.born < since := by
                intro y hy
                obtain ⟨i, hi⟩ := List.getElem?_of_mem hy
                obtain ⟨c, hc, _, _, hbn⟩ := esrel_get hleft hi
                have := List.all_eq_true.1 hold c (List.mem_of_getElem? hc)
                rw [hbn]; exact blt_iff.1 this
              have hne : left' ≠ [] := by intro hh; rw [hh] at hlen; simp at hlen
              obtain ⟨i, d, hi, hch⟩ := choose_next (P := P) w left'.length (by rw [hlen]; simp)
              obtain ⟨x0, hx0⟩ : ∃ x0, left'[i]? = some x0 := ⟨left'[i], by simp [hi]⟩
              obtain ⟨c, hc, k1, k2, k3⟩ := esrel_get hleft hx0
              cases e4
              refine ⟨_, List.mem_map.2 ⟨c, List.mem_of_getElem? hc, rfl⟩, ?_⟩
              have h1' : ({ w with drawn := d } : World).heap[l.block]? = some (.mapIter (some k.block) since ⟨seen⟩ last) := h1
              refine ⟨.tuple #[.bool true, x0.key, x0.val], _, μ, ?_, Ext.refl _, by simp only [vrel]; exact ⟨_, rfl, vrels_cons (by simp [vrel]) (vrels_cons k1 (vrels_one k2))⟩, (r.drawn d).upd (b' := .miter (some m) since (seen ++ [c.2.2]) q.2) hb hl rfl rfl (by unfold limit at hlim; omega) (upd_setObj { w with drawn := d } l.block (.mapIter (some k.block) since ((⟨seen⟩ : Array Nat).push x0.born) q.2)) ⟨hb0, k, hk, ?_⟩⟩
              · simp only [hb0, Nat.zero_add]
                simp only [Instr.next, Sem.run_bind, run_getObj_miter h1, Result.andThen_ok, run_getObj_map g1]
                rw [if_neg hgone']
                have hfo : (⟨left'⟩ : Array MapEntry).filter (fun e => decide (e.born < since)) = ⟨left'⟩ := by
                  apply Array.ext'
                  simp only [List.filter_toArray, Array.toList]
                  exact List.filter_eq_self.2 fun y hy => by simpa using hold' y hy
                have hfn : (⟨left'⟩ : Array MapEntry).filter (fun e => decide (e.born ≥ since)) = #[] := by
                  apply Array.ext'
                  simp only [List.filter_toArray, Array.toList]
                  exact List.filter_eq_nil_iff.2 fun y hy => by have := hold' y hy; simp; omega
                have hie : (⟨left'⟩ : Array MapEntry).isEmpty = false := by
                  cases left' with
                  | nil => exact absurd rfl hne
                  | cons y l => rfl
                simp only [hfil, Sem.run_pure, Result.andThen_ok, hfo, hfn, hie, Bool.false_eq_true, if_false, Array.append_empty, Array.empty_append]
                have hsz : ((⟨left'⟩ : Array MapEntry).map some).size = left'.length := by simp
                rw [Sem.run_bind, hsz, hch]
                have hgi : ((⟨left'⟩ : Array MapEntry).map some)[i]? = some (some x0) := by simp [hx0]
                simp only [Result.andThen_ok, hgi, Sem.run_bind, run_setObj_miter _ h1', Sem.run_pure]
              · rw [get_setObj h1', k3]
                simp
    | _ => simp [nextD] at e
  · simp at e
theorem findBorn_sound {n : Nat} : ∀ {es : List (AV × AV × Nat)} {es' : List MapEntry} {v : AV}, esrel μ es es' → findBorn n es = some v → ∃ x, es'.find? (fun e => e.born == n) = some x ∧ vrel μ v (.tuple #[x.key, x.val])
  | [], es', v, _, e => by have e' : (none : Option AV) = some v := e; simp at e'
  | a :: l, es', v, h, e => by
    simp only [esrel] at h
    obtain ⟨x, r, rfl, h1, h2, h3, h4⟩ := h
    have e' : (Bool.rec (findBorn n l) (some (.tup [a.1, a.2.1])) (Nat.beq a.2.2 n) : Option AV) = some v := e
    cases hb : Nat.beq a.2.2 n with
    | true =>
      rw [hb] at e'
      have e2 : some (AV.tup [a.1, a.2.1]) = some v := e'
      cases e2
      refine ⟨x, by rw [List.find?_cons, h3, nbeq_iff.1 hb]; simp, ?_⟩
      simp only [vrel]
      exact ⟨_, rfl, vrels_cons h1 (vrels_one h2)⟩
    | false =>
      rw [hb] at e'
      obtain ⟨y, g1, g2⟩ := findBorn_sound h4 e'
      refine ⟨y, ?_, g2⟩
      rw [List.find?_cons, h3]
      have : (a.2.2 == n) = false := by
        rw [beq_eq_false_iff_ne]
        intro hh
        rw [nbeq_iff.2 hh] at hb; simp at hb
      rw [this]; exact g1
theorem entry_sound (r : HR B w0 μ h w) {it v : AV} {iv : Value} (hx : vrel μ it iv) (e : entry? h it = some v) : OkQ P μ w (Instr.entry iv) v := by
  unfold entry? at e
  split at e
  · rename_i x
    obtain ⟨b, hb, e⟩ := ob_some e
    obtain ⟨l, hl, _, _, hr⟩ := r.blk _ b hb
    simp only [vrel] at hx
    obtain ⟨l', hl', rfl⟩ := hx
    rw [hl] at hl'; cases hl'
    cases b with
    | miter mm since seen st =>
     cases mm with
     | none => simp [entryD] at e
     | some m =>
      simp only [entryD] at e
      obtain ⟨n, hn, e1⟩ := ob_some e
      obtain ⟨b2, hb2, e2⟩ := ob_some e1
      obtain ⟨q, hq, e3⟩ := ob_some e2
      obtain ⟨hst, e4⟩ := ifb_some e3
      clear e e1 e2 e3
      obtain rfl := mapIn_some hq
      obtain ⟨hb0, k, hk, h1⟩ := hr
      obtain ⟨k', hk', _, _, es', g1, g2⟩ := r.blk _ _ hb2
      rw [hk] at hk'; cases hk'
      obtain ⟨y, f1, f2⟩ := findBorn_sound g2 e4
      refine .same r (v' := .tuple #[y.key, y.val]) ?_ f2
      have hbk : (⟨seen⟩ : Array Nat).back? = some n := by simp [hn]
      have hfd : (⟨es'⟩ : Array MapEntry).find? (fun e => e.born == n) = some y := by simpa using f1
      simp only [hb0, Nat.zero_add]
      simp only [Instr.entry, Sem.run_bind, run_getObj_miter h1, Result.andThen_ok, hbk, run_getObj_map g1, nbeq_iff.1 hst, bne_self_eq_false, Bool.false_eq_true, if_false, hfd, Sem.run_pure]
    | _ => simp [entryD] at e
  · simp at e
theorem typeAssert_sound (r : HR B w0 μ h w) {t a : TypeId} {x v : AV} {xv : Value} {ok : Bool} (hx : vrel μ x xv) (e : typeAssert? P x a ok = some v) :
    OkQ P μ w (Instr.typeAssert xv t a ok) v := by
  obtain ⟨d, hd, e1⟩ := ob_some e
  clear e
  obtain ⟨hni, e⟩ := ifb_some e1
  clear e1
  cases x with
  | iface u y =>
    simp only [vrel] at hx
    obtain ⟨yv, rfl, hy⟩ := hx
    simp only [assertD] at e
    by_cases hta : u = a
    · subst hta
      rw [Nat.beq_refl] at e
      cases e
      refine .same r (v' := if ok then .tuple #[yv, .bool true] else yv) ?_ ?_
      · cases d <;> first | (simp [isIface] at hni; done) | (cases ok <;> simp [Instr.typeAssert, run_underlying hd])
      · cases ok
        · simpa using hy
        · simp only [if_true, vrel]; exact ⟨_, rfl, vrels_cons hy (vrels_one (by simp [vrel]))⟩
    · rw [nbeq_false hta] at e
      obtain ⟨hok, e2⟩ := ifb_some e
      subst hok
      obtain ⟨z, hz, e3⟩ := ob_some e2
      cases e3
      obtain ⟨ii, zv, hii, hzv, hrel⟩ := zeroOf_some (μ := μ) hz
      refine .same r (v' := .tuple #[zv, .bool false]) ?_ (by simp only [vrel]; exact ⟨_, rfl, vrels_cons hrel (vrels_one (by simp [vrel]))⟩)
      cases d <;> first | (simp [isIface] at hni; done) | simp [Instr.typeAssert, run_underlying hd, hta, run_zeroValue hii hzv]
  | nili =>
    simp only [vrel] at hx
    subst hx
    simp only [assertD] at e
    obtain ⟨hok, e2⟩ := ifb_some e
    subst hok
    obtain ⟨z, hz, e3⟩ := ob_some e2
    cases e3
    obtain ⟨ii, zv, hii, hzv, hrel⟩ := zeroOf_some (μ := μ) hz
    refine .same r (v' := .tuple #[zv, .bool false]) ?_ (by simp only [vrel]; exact ⟨_, rfl, vrels_cons hrel (vrels_one (by simp [vrel]))⟩)
    cases d <;> first | (simp [isIface] at hni; done) | simp [Instr.typeAssert, run_underlying hd, run_zeroValue hii hzv]
  | _ => simp [assertD] at e
end Go.X
set_option linter.unusedVariables false
set_option linter.unusedSimpArgs false
set_option linter.unusedSectionVars false
namespace Go.X
open Go.RowKit
variable [Tab]
variable {P : Program} {B : Kp} {w0 : World} {μ : M} {h h' : H} {w w' : World} {ρ : Operand → Value} {fr : Fr}
def OkR (P : Program) (B : Kp) (w0 : World) (μ : M) (h : H) (w : World) (s : Sem Next) : Res → Prop
  | .val v h' => ∃ nx v' w' μ', s.run P w = .ok nx w' ∧ (nx = .value v' ∨ (nx = .skip ∧ v' = undef)) ∧ Ext μ μ' ∧ vrel μ' v v' ∧ HR B w0 μ' h' w'
  | .call f args => ∃ args' : Array Value, s.run P w = .ok (.enter f args') w ∧ vrels μ args args'.toList
  | .pick l => ∃ p ∈ l, ∃ v' w' μ', s.run P w = .ok (.value v') w' ∧ Ext μ μ' ∧ vrel μ' p.1 v' ∧ HR B w0 μ' p.2 w'
theorem OkV.toR {s : Sem Value} {v : AV} (hv : OkV P B w0 μ w s v h') : OkR P B w0 μ h w (do pure (.value (← s))) (.val v h') := by
  obtain ⟨v', w', μ', h1, h2, h3, h4⟩ := hv
  exact ⟨_, v', w', μ', by simp [h1], .inl rfl, h2, h3, h4⟩
theorem OkQ.toR {s : Sem Value} {v : AV} (r : HR B w0 μ h w) (hv : OkQ P μ w s v) : OkR P B w0 μ h w (do pure (.value (← s))) (.val v h) := (hv.toV r).toR
theorem rv_some {x : Option AV} {res : Res} (e : rv h x = some res) : ∃ v, x = some v ∧ res = .val v h := by
  obtain ⟨v, hv, e⟩ := ob_some e
  cases e
  exact ⟨v, hv, rfl⟩
theorem rvh_some {x : Option (AV × H)} {res : Res} (e : rvh x = some res) : ∃ p, x = some p ∧ res = .val p.1 p.2 := by
  obtain ⟨v, hv, e⟩ := ob_some e
  cases e
  exact ⟨v, hv, rfl⟩
def Ev (μ : M) (fr : Fr) (ρ : Operand → Value) (xs : List Operand) : Prop := ∀ x ∈ xs, ∀ v, ev x fr = some v → vrel μ v (ρ x)
theorem Ev.one {xs : List Operand} (he : Ev μ fr ρ xs) {x : Operand} {v : AV} (hx : x ∈ xs) (e : ev x fr = some v) : vrel μ v (ρ x) := he x hx v e
theorem Ev.sub {xs ys : List Operand} (he : Ev μ fr ρ xs) (hs : ∀ y ∈ ys, y ∈ xs) : Ev μ fr ρ ys := fun x hx v e => he x (hs x hx) v e
theorem evs_nil (fr : Fr) : evs fr [] = some [] := rfl
theorem evs_cons (fr : Fr) (x : Operand) (l : List Operand) : evs fr (x :: l) = ob (ev x fr) fun a => ob (evs fr l) fun r => some (a :: r) := rfl
theorem evs_sound : ∀ {l : List Operand} {as : List AV}, Ev μ fr ρ l → evs fr l = some as → vrels μ as (l.map ρ)
  | [], as, he, e => by rw [evs_nil] at e; cases e; simp [vrels]
  | x :: l, as, he, e => by
    rw [evs_cons] at e
    obtain ⟨a, ha, e⟩ := ob_some e
    obtain ⟨r, hr, e⟩ := ob_some e
    cases e
    simp only [List.map_cons]
    exact vrels_cons (he.one (by simp) ha) (evs_sound (he.sub (by simp +contextual)) hr)
theorem evParts_sound : ∀ {l : List (Nat × Operand)} {as : List (Nat × AV)}, Ev μ fr ρ (l.map (·.2)) → evParts fr l = some as → prels μ as (l.map fun p => (p.1, ρ p.2))
  | [], as, he, e => by simp only [evParts] at e; cases e; simp [prels]
  | (i, x) :: l, as, he, e => by
    simp only [evParts] at e
    obtain ⟨a, ha, e⟩ := ob_some e
    obtain ⟨r, hr, e⟩ := ob_some e
    cases e
    simp only [List.map_cons, prels]
    exact ⟨_, _, rfl, he.one (by simp) ha, evParts_sound (he.sub (by simp +contextual)) hr⟩
theorem opt_sound {x : Option Operand} {o : Option AV} (he : Ev μ fr ρ x.toList) (e : opt? fr x = some o) : orel μ o (x.map ρ) := by
  cases x with
  | none => simp only [opt?] at e; cases e; trivial
  | some y =>
    simp only [opt?] at e
    obtain ⟨v, hv, e⟩ := ob_some e
    cases e
    exact he.one (by simp) hv
theorem idxB_eq (k : Nat) (hk : k < 256) : ∀ (l : List Nat) (i : Nat), (∀ b ∈ l, b < 256) → idxB k l i = if Lib.indexByte (l.map UInt8.ofNat) (UInt8.ofNat k) == -1 then -1 else Lib.indexByte (l.map UInt8.ofNat) (UInt8.ofNat k) + i
  | [], i, _ => by simp [idxB, Lib.indexByte]
  | b :: l, i, h => by
    have hb := h b (by simp)
    have ih := idxB_eq k hk l (i + 1) (fun x hx => h x (by simp [hx]))
    have hbk : (UInt8.ofNat b == UInt8.ofNat k) = Nat.beq b k := by
      rw [Bool.eq_iff_iff, beq_iff_eq, nbeq_iff]
      constructor
      · intro e
        have := congrArg UInt8.toNat e
        simp only [UInt8.toNat_ofNat'] at this
        rw [Nat.mod_eq_of_lt (by omega), Nat.mod_eq_of_lt (by omega)] at this
        exact this
      · intro e; rw [e]
    have hge := Lib.indexByte_ge (l.map UInt8.ofNat) (UInt8.ofNat k)
    show (Bool.rec (idxB k l (Nat.succ i)) (Int.ofNat i) (Nat.beq b k) : Int) = _
    simp only [List.map_cons, Lib.indexByte]
    rw [hbk]
    cases hc : Nat.beq b k with
    | true => simp
    | false =>
      show idxB k l (i + 1) = _
      rw [ih]
      by_cases hm : Lib.indexByte (l.map UInt8.ofNat) (UInt8.ofNat k) = -1
      · simp [hm]
      · simp only [beq_iff_eq, hm, if_false, Bool.false_eq_true]
        rw [if_neg (by omega)]
        omega
theorem cntB_eq (k : Nat) (hk : k < 256) : ∀ (l : List Nat), (∀ b ∈ l, b < 256) → cntB k l = Lib.countByte (l.map UInt8.ofNat) (UInt8.ofNat k)
  | [], _ => by simp [cntB, Lib.countByte]
  | b :: l, h => by
    have hb := h b (by simp)
    have ih := cntB_eq k hk l (fun x hx => h x (by simp [hx]))
    have hbk : (UInt8.ofNat b == UInt8.ofNat k) = Nat.beq b k := by
      rw [Bool.eq_iff_iff, beq_iff_eq, nbeq_iff]
      constructor
      · intro e
        have := congrArg UInt8.toNat e
        simp only [UInt8.toNat_ofNat'] at this
        rw [Nat.mod_eq_of_lt (by omega), Nat.mod_eq_of_lt (by omega)] at this
        exact this
      · intro e; rw [e]
    show (Bool.rec (cntB k l) (Nat.succ (cntB k l)) (Nat.beq b k) : Nat) = _
    unfold Lib.countByte at ih ⊢
    rw [List.map_cons, List.count_cons, hbk, ih]
    cases Nat.beq b k <;> simp
theorem ext_indexByte {fn : Func} (hn : fn.name = nmIndex) (ho : fn.origin = "") : Extern.findNext fn = none ∧ Extern.find fn = some Extern.BytealgIndexByte.indexByte := by
  constructor
  · unfold Extern.findNext; rw [hn, ho]; rfl
  · unfold Extern.find; rw [hn, ho]; rfl
theorem ext_count {fn : Func} (hn : fn.name = nmCount) (ho : fn.origin = "") : Extern.findNext fn = none ∧ Extern.find fn = some Extern.BytealgCount.count := by
  constructor
  · unfold Extern.findNext; rw [hn, ho]; rfl
  · unfold Extern.find; rw [hn, ho]; rfl
theorem extOf_sound {f : FuncId} {fn : Func} {args : List AV} {args' : Array Value} {v : AV} (hf : P.funcs[f]? = some fn) (hname : (fn.name == "runtime.NumGoroutine") = false) (hb : fn.body = none) (e : extOf fn args = some v) (ha : vrels μ args args'.toList) :
    ∃ v', (callFunc f args').run P w = .ok (.value v') w ∧ vrel μ v v' := by
  unfold extOf at e
  split at e
  · rename_i n c k
    obtain ⟨hk, e⟩ := ifb_some e
    obtain ⟨ho, e⟩ := ifb_some e
    have hk := blt_iff.1 hk
    have ho : fn.origin = "" := by simpa using ho
    simp only [vrels, vrel] at ha
    obtain ⟨sv, _, hargs, ⟨hc, rfl⟩, kv, _, rfl, rfl, rfl⟩ := ha
    have h1 : args' = #[.string (strOf n c), .int .u8 (Int.ofNat k)] := by apply Array.ext'; simpa using hargs
    subst h1
    have hd : ∀ b ∈ dec n c, b < 256 := dec_lt n c
    have hs : (strOf n c).data.toList = (dec n c).map UInt8.ofNat := by simp [strOf]
    have hkk : (Int.ofNat k).toNat.toUInt8 = UInt8.ofNat k := by simp
    cases h1 : fn.name == nmIndex with
    | true =>
      rw [h1] at e
      have e2 : some (AV.int .i64 (idxB k (dec n c) 0)) = some v := e
      cases e2
      obtain ⟨g1, g2⟩ := ext_indexByte (fn := fn) (by simpa using h1) ho
      refine ⟨_, by rw [run_callFunc_extern hf hname (by simp [hb]) g1 g2, Lib.run_indexByteString]; rfl, ?_⟩
      simp only [vrel]
      rw [idxB_eq k hk _ _ hd, hs, hkk]
      congr 1
      split
      · rename_i h2; simpa using h2
      · simp
    | false =>
      rw [h1] at e
      obtain ⟨h2, e⟩ := ifb_some e
      cases e
      obtain ⟨g1, g2⟩ := ext_count (fn := fn) (by simpa using h2) ho
      refine ⟨_, by rw [run_callFunc_extern hf hname (by simp [hb]) g1 g2, Lib.run_countString]; rfl, ?_⟩
      simp only [vrel]
      rw [cntB_eq k hk _ hd, hs, hkk]
  · simp at e
theorem callFn_sound (r : HR B w0 μ h w) {f : FuncId} {args : List AV} {args' : Array Value} {res : Res} (e : callFn? P h f args = some res) (ha : vrels μ args args'.toList) : OkR P B w0 μ h w (callFunc f args') res := by
  obtain ⟨fn, hfn, e⟩ := ob_some e
  obtain ⟨hc, e⟩ := ifb_some e
  cases hb : fn.body with
  | some c =>
    rw [hb] at e
    have e2 : some (Res.call f args) = some res := e
    cases e2
    simp only [bne_iff_ne, ne_eq] at hc
    refine ⟨args', ?_, ha⟩
    simp only [callFunc, Sem.run_bind, run_program, Result.andThen_ok, hfn]
    rw [if_neg (by simpa using hc), if_neg (by simp [hb])]
    rfl
  | none =>
    rw [hb] at e
    have e2 : rv h (extOf fn args) = some res := e
    obtain ⟨v, hv, rfl⟩ := rv_some e2
    have hname : (fn.name == "runtime.NumGoroutine") = false := by simpa using hc
    obtain ⟨v', g1, g2⟩ := extOf_sound (w := w) hfn hname hb hv ha
    exact ⟨_, v', w, μ, g1, .inl rfl, Ext.refl _, g2, r⟩
theorem builtin_sound (r : HR B w0 μ h w) {b : Builtin} {ats : Array TypeId} {ty : TypeId} {consts : Array Bool} {args : List AV} {args' : Array Value} {res : Res} (ha : vrels μ args args'.toList) (e : builtin? P h b ats.toList args = some res) :
    OkR P B w0 μ h w (builtin b ats ty consts args') res := by
  unfold builtin? at e
  split at e
  · rename_i s x st xt hats
    obtain ⟨p, hp, rfl⟩ := rvh_some e
    simp only [vrels] at ha
    obtain ⟨sv, _, hargs, hs, xv, _, rfl, hx, rfl⟩ := ha
    have h1 : args' = #[sv, xv] := by apply Array.ext'; simpa using hargs
    have h2 : ats = #[st, xt] := by apply Array.ext'; simpa using hats
    subst h1 h2
    exact (append_sound r hs hx hp).toR
  · rename_i d s dt rest hats
    obtain ⟨p, hp, rfl⟩ := rvh_some e
    simp only [vrels] at ha
    obtain ⟨sv, _, hargs, hs, xv, _, rfl, hx, rfl⟩ := ha
    have h1 : args' = #[sv, xv] := by apply Array.ext'; simpa using hargs
    subst h1
    exact OkV.toR (s := Builtin.copy_ ats ty #[sv, xv]) (copy_sound r (dt := dt) (by rw [← Array.getElem?_toList, hats]; rfl) hs hx hp)
  · rename_i x t rest hats
    obtain ⟨v, hv, rfl⟩ := rv_some e
    simp only [vrels] at ha
    obtain ⟨xv, _, hargs, hx, rfl⟩ := ha
    refine OkQ.toR r (len_sound r (t := t) ?_ ?_ hx hv)
    · rw [← Array.getElem?_toList, hats]; rfl
    · rw [← Array.getElem?_toList, hargs]; rfl
  · rename_i x t rest hats
    obtain ⟨v, hv, rfl⟩ := rv_some e
    simp only [vrels] at ha
    obtain ⟨xv, _, hargs, hx, rfl⟩ := ha
    refine OkQ.toR r (cap_sound r (t := t) ?_ ?_ hx hv)
    · rw [← Array.getElem?_toList, hats]; rfl
    · rw [← Array.getElem?_toList, hargs]; rfl
  · obtain ⟨v, hv, rfl⟩ := rv_some e
    simp only [vrels] at ha
    obtain ⟨av, rest, hargs, hx, hrest⟩ := ha
    obtain ⟨v', h1, h2⟩ := min_sound (P := P) r hx hrest hv
    exact OkV.toR (s := Builtin.min_ ats ty args') (.same r (by simp only [Builtin.min_, hargs]; exact h1) h2)
  · obtain ⟨v, hv, rfl⟩ := rv_some e
    simp only [vrels] at ha
    obtain ⟨av, rest, hargs, hx, hrest⟩ := ha
    obtain ⟨v', h1, h2⟩ := max_sound (P := P) r hx hrest hv
    exact OkV.toR (s := Builtin.max_ ats ty args') (.same r (by simp only [Builtin.max_, hargs]; exact h1) h2)
  · rename_i m k t rest hats
    obtain ⟨p, hp, rfl⟩ := rvh_some e
    simp only [vrels] at ha
    obtain ⟨mv, _, hargs, hm, kv, _, rfl, hk, rfl⟩ := ha
    refine OkV.toR (s := Builtin.delete_ ats ty args') (delete_sound r (t := t) ?_ ?_ ?_ hm hk hp)
    · rw [← Array.getElem?_toList, hats]; rfl
    · rw [← Array.getElem?_toList, hargs]; rfl
    · rw [← Array.getElem?_toList, hargs]; rfl
  · rename_i x t rest hats
    obtain ⟨p, hp, rfl⟩ := rvh_some e
    simp only [vrels] at ha
    obtain ⟨xv, _, hargs, hx, rfl⟩ := ha
    refine OkV.toR (s := Builtin.clear_ ats ty args') (clear_sound r (t := t) ?_ ?_ hx hp)
    · rw [← Array.getElem?_toList, hats]; rfl
    · rw [← Array.getElem?_toList, hargs]; rfl
  · simp at e
theorem methodOf_sound {t : TypeId} {name : String} {f : FuncId} {v : Value} {W : World} (e : methodOf P t name = some f) : ∀ n, (method (n + 1) t v name).run P W = .ok (f, v) W := by
  intro n
  obtain ⟨i, hi, e⟩ := ob_some e
  obtain ⟨m, hm, e⟩ := ob_some e
  obtain ⟨q, hq, e⟩ := ob_some e
  obtain ⟨d, hd, e⟩ := ob_some e
  obtain ⟨hp, e⟩ := ifb_some e
  have hpath : m.path = #[] := by simpa using hp
  obtain ⟨g, p⟩ := q
  simp only at e
  cases d <;> cases p <;> simp at e <;> subst e <;> simp [method, run_typeInfo hi, hm, hpath, follow, hq, receiverAt, run_underlying hd, Place.get]
theorem oCall_sound (r : HR B w0 μ h w) {c : Call} {ty : TypeId} {res : Res} (he : Ev μ fr ρ c.operands.toList) (e : oCall c P fr h = some res) :
    OkR P B w0 μ h w (do let d ← resolve ρ c ty; invoke d.target d.args) res := by
  obtain ⟨args, hargs, e1⟩ := ob_some e
  clear e
  have hav : vrels μ args (c.args.map ρ).toList := by
    rw [Array.toList_map]
    exact evs_sound (he.sub (fun y hy => by unfold Call.operands; simp at hy ⊢; exact .inr hy)) hargs
  cases hcal : c.callee with
  | builtin b =>
    rw [hcal] at e1
    have := builtin_sound (ty := ty) (consts := c.args.map fun | .const _ => true | _ => false) r hav e1
    have heq : (do let d ← resolve ρ c ty; invoke d.target d.args : Sem Next) = builtin b c.argTypes ty (c.args.map fun | .const _ => true | _ => false) (c.args.map ρ) := by
      simp only [resolve, hcal]; rfl
    rw [heq]; exact this
  | value f =>
    rw [hcal] at e1
    simp only at e1
    obtain ⟨fv, hf, e2⟩ := ob_some e1
    have hfv := he.one (x := f) (by unfold Call.operands; rw [hcal]; simp) hf
    cases fv with
    | fn g first cap =>
      cases g with
      | func g =>
        simp only [callVal] at e2
        simp only [vrel] at hfv
        obtain ⟨as, bs, hρ, h1, h2⟩ := hfv
        have := callFn_sound r (args' := (⟨as⟩ ++ c.args.map ρ) ++ ⟨bs⟩) e2 (by simp only [Array.toList_append]; exact vrels_append (vrels_append h1 hav) h2)
        have heq : (do let d ← resolve ρ c ty; invoke d.target d.args : Sem Next) = callFunc g ((⟨as⟩ ++ c.args.map ρ) ++ ⟨bs⟩) := by
          simp only [resolve, hcal, hρ, Deferred.ofValue]; rfl
        rw [heq]; exact this
      | _ => simp [callVal] at e2
    | _ => simp [callVal] at e2
  | invoke rc name =>
    rw [hcal] at e1
    simp only at e1
    obtain ⟨rvv, hf, e2⟩ := ob_some e1
    have hfv := he.one (x := rc) (by unfold Call.operands; rw [hcal]; simp) hf
    cases rvv with
    | iface t v =>
      simp only [callMeth] at e2
      obtain ⟨f, hm, e3⟩ := ob_some e2
      simp only [vrel] at hfv
      obtain ⟨vv, hρ, h1⟩ := hfv
      have := callFn_sound r (args' := #[vv] ++ c.args.map ρ) e3 (by simp only [Array.toList_append]; exact vrels_cons h1 hav)
      have hmeth : (method (P.types.size + Made.depth) t vv name).run P w = .ok (f, vv) w := by
        have hd : P.types.size + Made.depth = (P.types.size + Made.depth - 1) + 1 := by unfold Made.depth; omega
        rw [hd]; exact methodOf_sound hm _
      have heq : (do let d ← resolve ρ c ty; invoke d.target d.args : Sem Next).run P w = (callFunc f (#[vv] ++ c.args.map ρ)).run P w := by
        have hex : (#[ρ rc] ++ c.args.map ρ).extract 1 (#[ρ rc] ++ c.args.map ρ).size = c.args.map ρ := by
          apply Array.ext'; simp; exact List.take_of_length_le (by simp)
        simp only [resolve, hcal, Sem.run_bind, Sem.run_pure, Result.andThen_ok, invoke]
        have h0 : (#[ρ rc] ++ c.args.map ρ)[0]? = some (ρ rc) := by rw [← Array.getElem?_toList]; simp
        rw [h0, hex, hρ]
        simp only [callMethod, Sem.run_bind, run_program, Result.andThen_ok, hmeth]
      unfold OkR at this ⊢
      cases res <;> simp only [heq] <;> exact this
    | _ => simp [callMeth] at e2
end Go.X
set_option linter.unusedVariables false
set_option linter.unusedSimpArgs false
set_option linter.unusedSectionVars false
namespace Go.X
open Go.RowKit
variable [Tab]
variable {P : Program} {B : Kp} {w0 : World} {μ : M} {h h' : H} {w w' : World} {ρ : Operand → Value} {fr : Fr}
theorem OkR.unit {s : Sem Unit} {w' : World} (e : s.run P w = .ok () w') (r : HR B w0 μ h' w') : OkR P B w0 μ h w (do s; pure .skip) (.val .undef h') :=
  ⟨.skip, undef, w', μ, by simp [e], .inr ⟨rfl, rfl⟩, Ext.refl _, by simp only [AV.undef, undef, vrel]; exact ⟨[], rfl, by simp [vrels]⟩, r⟩
theorem OkR.value {v : AV} {v' : Value} (r : HR B w0 μ h w) (hv : vrel μ v v') : OkR P B w0 μ h w (pure (.value v')) (.val v h) :=
  ⟨_, v', w, μ, rfl, .inl rfl, Ext.refl _, hv, r⟩
theorem OkL.toR {s : Sem Value} {l : List (AV × H)} (hl : OkL P B w0 μ w s l) : OkR P B w0 μ h w (do pure (.value (← s))) (resOf l) := by
  obtain ⟨p, hp, v', w', μ', h1, h2, h3, h4⟩ := hl
  unfold resOf
  split
  · rename_i q
    simp only [List.mem_singleton] at hp
    subst hp
    exact ⟨_, v', w', μ', by simp [h1], .inl rfl, h2, h3, h4⟩
  · exact ⟨p, hp, v', w', μ', by simp [h1], h2, h3, h4⟩
theorem op_sound (r : HR B w0 μ h w) (o : Oper) {res : Res} (he : Ev μ fr ρ o.op.operands.toList) (e : op? o.op P fr h = some res) :
    OkR P B w0 μ h w (execOp ρ o) res := by
  cases hop : o.op with
  | move x =>
    rw [hop] at e he
    obtain ⟨v, hv, e⟩ := ob_some e
    cases e
    simp only [execOp, hop]
    exact .value r (he.one (by simp [Op.operands]) hv)
  | assign x =>
    rw [hop] at e he
    obtain ⟨v, hv, e⟩ := ob_some e
    cases e
    simp only [execOp, hop]
    exact .value r (he.one (by simp [Op.operands]) hv)
  | pick c a b =>
    rw [hop] at e he
    obtain ⟨v, hv, e⟩ := ob_some e
    have hc := he.one (x := c) (by simp [Op.operands]) hv
    cases v with
    | bool t =>
      simp only [vrel] at hc
      simp only [execOp, hop, hc, asBool]
      cases t with
      | true =>
        obtain ⟨u, hu, rfl⟩ := rv_some e
        have := OkR.value (P := P) r (he.one (x := a) (by simp [Op.operands]) hu)
        simpa using this
      | false =>
        obtain ⟨u, hu, rfl⟩ := rv_some e
        have := OkR.value (P := P) r (he.one (x := b) (by simp [Op.operands]) hu)
        simpa using this
    | _ => simp [pickD] at e
  | alloc el =>
    rw [hop] at e he
    obtain ⟨z, hz, e⟩ := ob_some e
    obtain ⟨p, hp, e⟩ := ob_some e
    cases e
    simp only [execOp, hop]
    obtain ⟨hll, hp⟩ := H.row_some hp
    exact (alloc_sound r hz (At.ofAlloc r hp) hll).toR
  | box el x =>
    rw [hop] at e he
    obtain ⟨v, hv, e⟩ := ob_some e
    obtain ⟨p, hp, e⟩ := ob_some e
    cases e
    simp only [execOp, hop]
    obtain ⟨hll, hp⟩ := H.row_some hp
    exact (box_sound r (he.one (x := x) (by simp [Op.operands]) hv) (At.ofAlloc r hp) hll).toR
  | build t ps =>
    rw [hop] at e he
    obtain ⟨l, hl, e⟩ := ob_some e
    obtain ⟨v, hv, rfl⟩ := rv_some e
    simp only [execOp, hop]
    exact OkQ.toR r (build_sound r (by rw [Array.toList_map]; exact evParts_sound (he.sub (by simp [Op.operands])) hl) hv)
  | buildSlice t n ps =>
    rw [hop] at e he
    obtain ⟨l, hl, e⟩ := ob_some e
    obtain ⟨p, hp, rfl⟩ := rvh_some e
    obtain ⟨cl, hcl, hp⟩ := ob_some hp
    obtain ⟨q, hq, hp⟩ := ob_some hp
    cases hp
    obtain ⟨hll, hq⟩ := H.row_some hq
    simp only [execOp, hop]
    exact (buildSlice_sound r (by rw [Array.toList_map]; exact evParts_sound (he.sub (by simp [Op.operands])) hl) hcl (At.ofAlloc r hq) hll).toR
  | load t a =>
    rw [hop] at e he
    obtain ⟨v, hv, e⟩ := ob_some e
    have ha := he.one (x := a) (by simp [Op.operands]) hv
    cases v with
    | ptr x off =>
      obtain ⟨u, hu, rfl⟩ := rv_some e
      simp only [execOp, hop]
      exact OkQ.toR r (loadAt_sound r ha hu)
    | gp x off =>
      obtain ⟨u, hu, rfl⟩ := rv_some e
      simp only [execOp, hop]
      exact OkQ.toR r (gload_sound r ha hu)
    | op x k z f =>
      obtain ⟨u, hu, rfl⟩ := rv_some e
      simp only [execOp, hop]
      exact OkQ.toR r (vload_sound r ha hu)
    | fp x k z f =>
      obtain ⟨u, hu, rfl⟩ := rv_some e
      simp only [execOp, hop]
      exact OkQ.toR r (fload_sound r ha hu)
    | _ => simp [loadD] at e
  | store t a x =>
    rw [hop] at e he
    obtain ⟨v, hv, e⟩ := ob_some e
    have ha := he.one (x := a) (by simp [Op.operands]) hv
    cases v with
    | ptr y off =>
      obtain ⟨u, hu, e⟩ := ob_some e
      obtain ⟨h2, hh, e⟩ := ob_some e
      cases e
      obtain ⟨w', h1, h2⟩ := storeVar_sound r ha (he.one (x := x) (by simp [Op.operands]) hu) hh
      simp only [execOp, hop]
      exact .unit h1 h2
    | op y k z f =>
      obtain ⟨u, hu, e⟩ := ob_some e
      obtain ⟨h2, hh, e⟩ := ob_some e
      cases e
      obtain ⟨w', h1, h2⟩ := vstore_sound r ha (he.one (x := x) (by simp [Op.operands]) hu) hh
      simp only [execOp, hop]
      exact .unit h1 h2
    | _ => simp [storeD] at e
  | nilCheck x =>
    rw [hop] at e he
    obtain ⟨v, hv, e⟩ := ob_some e
    have ha := he.one (x := x) (by simp [Op.operands]) hv
    cases v with
    | ptr y off =>
      cases e
      have ha2 := ha
      simp only [vrel] at ha
      obtain ⟨l, hl, hρ⟩ := ha
      simp only [execOp, hop, hρ]
      rw [hρ] at ha2
      exact .value r ha2
    | gp y off =>
      cases e
      have ha2 := ha
      simp only [vrel] at ha
      simp only [execOp, hop, ha]
      rw [ha] at ha2
      exact .value r ha2
    | op y k z f =>
      cases e
      have ha2 := ha
      simp only [vrel] at ha
      obtain ⟨_, l, hl, hρ⟩ := ha
      simp only [execOp, hop, hρ]
      rw [hρ] at ha2
      exact .value r ha2
    | fp y k z f =>
      cases e
      have ha2 := ha
      simp only [vrel] at ha
      obtain ⟨_, hρ⟩ := ha
      simp only [execOp, hop, hρ]
      rw [hρ] at ha2
      exact .value r ha2
    | iface t y =>
      cases e
      have ha2 := ha
      simp only [vrel] at ha
      obtain ⟨yv, hρ, _⟩ := ha
      simp only [execOp, hop, hρ]
      rw [hρ] at ha2
      exact .value r ha2
    | fn g a b =>
      cases g with
      | func g =>
        cases e
        have ha2 := ha
        simp only [vrel] at ha
        obtain ⟨as, bs, hρ, _⟩ := ha
        simp only [execOp, hop, hρ]
        rw [hρ] at ha2
        exact .value r ha2
      | _ => simp [nilD] at e
    | _ => simp [nilD] at e
  | binOp op t x y u =>
    rw [hop] at e he
    obtain ⟨a, ha, e⟩ := ob_some e
    obtain ⟨b, hb, e⟩ := ob_some e
    obtain ⟨v, hv, rfl⟩ := rv_some e
    simp only [execOp, hop]
    exact OkQ.toR r (bin_sound r (he.one (x := x) (by simp [Op.operands]) ha) (he.one (x := y) (by simp [Op.operands]) hb) hv)
  | unOp op t x =>
    rw [hop] at e he
    obtain ⟨a, ha, e⟩ := ob_some e
    obtain ⟨v, hv, rfl⟩ := rv_some e
    simp only [execOp, hop]
    exact OkQ.toR r (un_sound r (he.one (x := x) (by simp [Op.operands]) ha) hv)
  | convert s d x =>
    rw [hop] at e he
    obtain ⟨a, ha, e⟩ := ob_some e
    obtain ⟨p, hp, rfl⟩ := rvh_some e
    simp only [execOp, hop]
    exact (conv_sound r (he.one (x := x) (by simp [Op.operands]) ha) hp).toR
  | makeInterface t x =>
    rw [hop] at e he
    obtain ⟨a, ha, e⟩ := ob_some e
    obtain ⟨d, hd, e⟩ := ob_some e
    obtain ⟨hc, e⟩ := ifb_some e
    cases e
    simp only [execOp, hop]
    refine OkV.toR (s := Instr.makeInterface t (ρ x)) (.same r (v' := .iface t (ρ x)) ?_ ?_)
    · cases d <;> first | (simp [isIface] at hc; done) | simp [Instr.makeInterface, run_underlying hd]
    · simp only [vrel]; exact ⟨_, rfl, he.one (x := x) (by simp [Op.operands]) ha⟩
  | makeFunc f a b =>
    rw [hop] at e he
    obtain ⟨as, ha, e⟩ := ob_some e
    obtain ⟨bs, hb, e⟩ := ob_some e
    cases e
    simp only [execOp, hop]
    refine OkV.toR (s := Instr.makeFunc f (a.map ρ) (b.map ρ)) (.same r (v' := .func f (a.map ρ) (b.map ρ)) (by simp [Instr.makeFunc]) ?_)
    simp only [vrel]
    exact ⟨(a.map ρ).toList, (b.map ρ).toList, rfl, by rw [Array.toList_map]; exact evs_sound (he.sub (by simp +contextual [Op.operands])) ha, by rw [Array.toList_map]; exact evs_sound (he.sub (by simp +contextual [Op.operands])) hb⟩
  | makeMap t rs =>
    rw [hop] at e he
    obtain ⟨_, hh, e⟩ := ob_some e
    obtain ⟨p, hp, e⟩ := ob_some e
    cases e
    simp only [execOp, hop]
    have hx := (H.alloc_some hp).1
    have hext : Ext μ (upm μ p.1 ⟨w.heap.size, 0, 0⟩) := Ext.upm _ (by rw [hx]; exact (r.fresh h.next (Nat.le_refl _)).2)
    have hr := r.alloc (l := ⟨w.heap.size, 0, 0⟩) (At.ofAlloc r hp) rfl (below_push w (.map #[] 0)) (Nat.le_refl _) ⟨[], by simp, by simp [esrel]⟩
    refine OkV.toR (s := Instr.makeMap t (rs.map ρ)) ⟨.map (some w.heap.size), _, _, ?_, hext, ?_, hr⟩
    · cases rs with
      | none => simp [Instr.makeMap]
      | some q =>
        simp only [hintOk] at hh
        obtain ⟨d, hd, hh⟩ := ob_some hh
        obtain ⟨ke, hke, hh⟩ := ob_some hh
        obtain ⟨v, hv, hh⟩ := ob_some hh
        obtain ⟨n, hn, hh⟩ := ob_some hh
        obtain rfl := asMap_some hke
        obtain ⟨k, rfl⟩ := nat_some hn
        have hq := he.one (x := q) (by simp [Op.operands]) hv
        simp only [vrel] at hq
        simp [Instr.makeMap, run_underlying hd, hq, asInt, asIntOf]
    · simp only [vrel]; exact ⟨⟨w.heap.size, 0, 0⟩, by simp [upm], rfl⟩
  | makeSlice t l c =>
    rw [hop] at e he
    obtain ⟨a, ha, e⟩ := ob_some e
    obtain ⟨b, hb, e⟩ := ob_some e
    obtain ⟨p, hp, rfl⟩ := rvh_some e
    simp only [execOp, hop]
    refine (OkV.toR ?_)
    have g1 := he.one (x := l) (by simp [Op.operands]) ha
    have g2 := he.one (x := c) (by simp [Op.operands]) hb
    unfold makeSlice? at hp
    split at hp
    · exact makeVec_sound r g1 g2 hp
    · obtain ⟨q, hq, hp⟩ := ob_some hp
      obtain ⟨p2, hp2, hp⟩ := ob_some hp
      cases hp
      exact make_sound r g1 g2 hq (At.ofAlloc r hp2)
  | slice t x lo hi mx =>
    rw [hop] at e he
    obtain ⟨a, ha, e⟩ := ob_some e
    obtain ⟨lo', hlo, e⟩ := ob_some e
    obtain ⟨hi', hhi, e⟩ := ob_some e
    obtain ⟨mx', hmx, e⟩ := ob_some e
    obtain ⟨v, hv, rfl⟩ := rv_some e
    simp only [execOp, hop]
    exact OkQ.toR r (slice_sound r (he.one (x := x) (by simp [Op.operands]) ha) (opt_sound (he.sub (by simp +contextual [Op.operands])) hlo) (opt_sound (he.sub (by simp +contextual [Op.operands])) hhi) (opt_sound (he.sub (by simp +contextual [Op.operands])) hmx) hv)
  | fieldAddr t x f =>
    rw [hop] at e he
    obtain ⟨a, ha, e⟩ := ob_some e
    obtain ⟨v, hv, rfl⟩ := rv_some e
    simp only [execOp, hop]
    exact OkQ.toR r (fieldAddr_sound r (he.one (x := x) (by simp [Op.operands]) ha) hv)
  | field t x f =>
    rw [hop] at e he
    obtain ⟨a, ha, e⟩ := ob_some e
    obtain ⟨v, hv, rfl⟩ := rv_some e
    simp only [execOp, hop]
    exact OkQ.toR r (field_sound r (he.one (x := x) (by simp [Op.operands]) ha) hv)
  | indexAddr t x i =>
    rw [hop] at e he
    obtain ⟨a, ha, e⟩ := ob_some e
    obtain ⟨b, hb, e⟩ := ob_some e
    obtain ⟨v, hv, rfl⟩ := rv_some e
    simp only [execOp, hop]
    exact OkQ.toR r (indexAddr_sound r (he.one (x := x) (by simp [Op.operands]) ha) (he.one (x := i) (by simp [Op.operands]) hb) hv)
  | index t x i =>
    rw [hop] at e he
    obtain ⟨a, ha, e⟩ := ob_some e
    obtain ⟨b, hb, e⟩ := ob_some e
    obtain ⟨v, hv, rfl⟩ := rv_some e
    simp only [execOp, hop]
    exact OkQ.toR r (index_sound r (he.one (x := x) (by simp [Op.operands]) ha) (he.one (x := i) (by simp [Op.operands]) hb) hv)
  | lookup t x i ok =>
    rw [hop] at e he
    obtain ⟨a, ha, e⟩ := ob_some e
    obtain ⟨b, hb, e⟩ := ob_some e
    obtain ⟨v, hv, rfl⟩ := rv_some e
    simp only [execOp, hop]
    exact OkQ.toR r (lookup_sound r (he.one (x := x) (by simp [Op.operands]) ha) (he.one (x := i) (by simp [Op.operands]) hb) hv)
  | mapUpdate t m k x =>
    rw [hop] at e he
    obtain ⟨a, ha, e⟩ := ob_some e
    obtain ⟨b, hb, e⟩ := ob_some e
    obtain ⟨c, hc, e⟩ := ob_some e
    obtain ⟨p, hp, rfl⟩ := rvh_some e
    simp only [execOp, hop]
    obtain ⟨g0, w', g1, g2⟩ := mapUpdate_sound r (he.one (x := m) (by simp [Op.operands]) ha) (he.one (x := k) (by simp [Op.operands]) hb) (he.one (x := x) (by simp [Op.operands]) hc) hp
    rw [g0]
    exact .unit g1 g2
  | insert t m k x =>
    rw [hop] at e he
    obtain ⟨a, ha, e⟩ := ob_some e
    obtain ⟨b, hb, e⟩ := ob_some e
    obtain ⟨c, hc, e⟩ := ob_some e
    obtain ⟨p, hp, rfl⟩ := rvh_some e
    simp only [execOp, hop]
    obtain ⟨g0, w', g1, g2⟩ := mapUpdate_sound r (he.one (x := m) (by simp [Op.operands]) ha) (he.one (x := k) (by simp [Op.operands]) hb) (he.one (x := x) (by simp [Op.operands]) hc) hp
    rw [g0]
    exact .unit g1 g2
  | mapEntry t m k =>
    rw [hop] at e he
    obtain ⟨a, ha, e⟩ := ob_some e
    obtain ⟨b, hb, e⟩ := ob_some e
    obtain ⟨p, hp, rfl⟩ := rvh_some e
    simp only [execOp, hop]
    exact (mapEntry_sound r (he.one (x := m) (by simp [Op.operands]) ha) (he.one (x := k) (by simp [Op.operands]) hb) hp).toR
  | entryStore t m s x =>
    rw [hop] at e he
    obtain ⟨a, ha, e⟩ := ob_some e
    obtain ⟨b, hb, e⟩ := ob_some e
    obtain ⟨c, hc, e⟩ := ob_some e
    obtain ⟨p, hp, rfl⟩ := rvh_some e
    simp only [execOp, hop]
    obtain ⟨g0, w', g1, g2⟩ := entryStore_sound (P := P) (t := t) r (he.one (x := m) (by simp [Op.operands]) ha) (he.one (x := s) (by simp [Op.operands]) hb) (he.one (x := x) (by simp [Op.operands]) hc) hp
    rw [g0]
    exact .unit g1 g2
  | range t x =>
    rw [hop] at e he
    obtain ⟨a, ha, e⟩ := ob_some e
    obtain ⟨p, hp, rfl⟩ := rvh_some e
    simp only [execOp, hop]
    exact (range_sound r (he.one (x := x) (by simp [Op.operands]) ha) hp).toR
  | next it s =>
    rw [hop] at e he
    obtain ⟨a, ha, e1⟩ := ob_some e
    obtain ⟨l, hl, e2⟩ := ob_some e1
    cases e2
    simp only [execOp, hop]
    exact OkL.toR (next_sound r (he.one (x := it) (by simp [Op.operands]) ha) hl)
  | entry it =>
    rw [hop] at e he
    obtain ⟨a, ha, e1⟩ := ob_some e
    obtain ⟨v, hv, rfl⟩ := rv_some e1
    simp only [execOp, hop]
    exact OkQ.toR r (entry_sound r (he.one (x := it) (by simp [Op.operands]) ha) hv)
  | typeAssert x t a ok =>
    rw [hop] at e he
    obtain ⟨u, hu, e⟩ := ob_some e
    obtain ⟨v, hv, rfl⟩ := rv_some e
    simp only [execOp, hop]
    exact OkQ.toR r (typeAssert_sound r (he.one (x := x) (by simp [Op.operands]) hu) hv)
  | extract x i =>
    rw [hop] at e he
    obtain ⟨u, hu, e⟩ := ob_some e
    obtain ⟨v, hv, rfl⟩ := rv_some e
    have hx := he.one (x := x) (by simp [Op.operands]) hu
    simp only [execOp, hop]
    cases u with
    | tup l =>
      simp only [vrel] at hx
      obtain ⟨cs, hρ, hl⟩ := hx
      obtain ⟨y, h1, h2⟩ := vrels_get hl hv
      exact OkV.toR (s := Instr.extract (ρ x) i) (.same r (v' := y) (by simp [Instr.extract, hρ, h1]) h2)
    | _ => simp [extractD] at hv
  | call c =>
    rw [hop] at e he
    simp only [execOp, hop]
    exact oCall_sound r (he.sub (by simp [Op.operands])) e
  | ready g => rw [hop] at e; simp [op?, oNone] at e
  | waits g => rw [hop] at e; simp [op?, oNone] at e
  | sliceToArrayPointer d x => rw [hop] at e; simp [op?, oNone] at e
  | makeChan t s => rw [hop] at e; simp [op?, oNone] at e
  | go c => rw [hop] at e; simp [op?, oNone] at e
  | defer c => rw [hop] at e; simp [op?, oNone] at e
  | panic x => rw [hop] at e; simp [op?, oNone] at e
  | send c x => rw [hop] at e; simp [op?, oNone] at e
  | recv t c ok => rw [hop] at e; simp [op?, oNone] at e
  | select c b => rw [hop] at e; simp [op?, oNone] at e
end Go.X
set_option linter.unusedVariables false
set_option linter.unusedSimpArgs false
set_option linter.unusedSectionVars false
namespace Go.X
open Go.RowKit
variable [Tab]
variable {P : Program} {B : Kp} {w0 : World} {μ : M} {h h' : H} {w w' : World} {ρ : Operand → Value} {fr : Fr}
def OkN (P : Program) (μ : M) (h : H) (w : World) (s : Sem Next) (res : Res) : Prop := ∃ v v', res = .val v h ∧ s.run P w = .ok (.value v') w ∧ vrel μ v v'
theorem OkQ.toN {s : Sem Value} {v : AV} (q : OkQ P μ w s v) : OkN P μ h w (do pure (.value (← s))) (.val v h) := let ⟨v', e, hv⟩ := q; ⟨v, v', rfl, by simp [e], hv⟩
theorem OkN.value {v : AV} {v' : Value} (hv : vrel μ v v') : OkN P μ h w (pure (.value v')) (.val v h) := ⟨v, v', rfl, rfl, hv⟩
theorem conv_quiet (r : HR B w0 μ h w) {src dst : TypeId} {a : AV} {x : Value} {p : AV × H} (hn : (sliceElem P dst).isNone = true) (hx : vrel μ a x) (e : conv? P src dst h a = some p) :
    p.2 = h ∧ OkQ P μ w (convert src dst x) p.1 := by
  obtain ⟨s, hs, e1⟩ := ob_some e
  clear e
  obtain ⟨d, hd, e⟩ := ob_some e1
  clear e1
  cases d <;> simp only at e <;> first | (simp at e; done) | skip
  case int k =>
    unfold convInt at e
    split at e
    · cases e
      simp only [vrel] at hx; subst hx
      exact ⟨rfl, .same r (by simp [convert, run_underlying hs, run_underlying hd, Conv.intToInt]; rfl) (by simp [vrel, wrapF_eq])⟩
    · obtain ⟨v, hv, e⟩ := ob_some e
      cases e
      obtain ⟨k', n, h1, h2⟩ := Tab.icok _ (findC_mem hv)
      rw [den_rel h1 hx]
      exact ⟨rfl, .same r (by simp [convert, run_underlying hs, run_underlying hd, Conv.intToInt]) (den_mk h2)⟩
    · simp at e
  case string =>
    unfold convStr at e
    split at e
    · cases e
      simp only [vrel] at hx
      obtain ⟨hc, rfl⟩ := hx
      exact ⟨rfl, .same r (by simp [convert, run_underlying hs, run_underlying hd]; rfl) (by simp only [vrel]; exact ⟨hc, trivial⟩)⟩
    · cases e
      simp only [vrel] at hx; subst hx
      exact ⟨rfl, .same r (v' := .string (Utf8.encode _)) (by simp [convert, run_underlying hs, run_underlying hd, Conv.intToString]) (vrel_string _)⟩
    · obtain ⟨hu, e⟩ := ifb_some e
      obtain ⟨q', hq', e⟩ := ob_some e
      cases e
      have hu := u8_some hu
      rcases orE_some hq' with hq' | ⟨_, hq'⟩
      case inr =>
        obtain ⟨b, n, c, s', rfl, g1, g2⟩ := bytesT_sound (P := P) r hx hq'
        exact ⟨rfl, .same r (v' := .string s') (by simp [convert, run_underlying hs, run_underlying hd, run_underlying hu, g1]) g2⟩
      obtain ⟨q, hq, hq'⟩ := ob_some hq'
      cases hq'
      obtain ⟨h1, h2⟩ := bytesString_sound (P := P) r hx hq
      have hsl : ∃ b n c, x = .slice b n c := by
        cases a <;> simp [bytesOfSlice] at hq <;> simp only [vrel] at hx
        · exact ⟨_, _, _, hx⟩
        · obtain ⟨_, _, rfl⟩ := hx; exact ⟨_, _, _, rfl⟩
        · obtain ⟨_, _, _, _, _, rfl⟩ := hx; exact ⟨_, _, _, rfl⟩
      obtain ⟨b, n, c, rfl⟩ := hsl
      exact ⟨rfl, .same r (v' := .string (strOf q.1 q.2)) (by simp [convert, run_underlying hs, run_underlying hd, run_underlying hu, h1]) (by simp only [vrel]; exact ⟨h2, trivial⟩)⟩
    · cases e
      simp only [vrel] at hx; subst hx
      exact ⟨rfl, .same r (v' := .string (Tab.str _)) (by simp [convert, run_underlying hs, run_underlying hd]; rfl) (by simp only [vrel])⟩
    · simp at e
  case slice el => simp [sliceElem, hd, asSlice] at hn
theorem builtin_quiet (r : HR B w0 μ h w) {b : Builtin} {ats : Array TypeId} {ty : TypeId} {consts : Array Bool} {args : List AV} {args' : Array Value} {res : Res} (hb : b = .len ∨ b = .cap ∨ b = .min ∨ b = .max) (ha : vrels μ args args'.toList) (e : builtin? P h b ats.toList args = some res) :
    OkN P μ h w (builtin b ats ty consts args') res := by
  unfold builtin? at e
  split at e
  · simp at hb
  · simp at hb
  · rename_i x t rest hats
    obtain ⟨v, hv, rfl⟩ := rv_some e
    simp only [vrels] at ha
    obtain ⟨xv, _, hargs, hx, rfl⟩ := ha
    refine OkQ.toN (len_sound r (t := t) ?_ ?_ hx hv)
    · rw [← Array.getElem?_toList, hats]; rfl
    · rw [← Array.getElem?_toList, hargs]; rfl
  · rename_i x t rest hats
    obtain ⟨v, hv, rfl⟩ := rv_some e
    simp only [vrels] at ha
    obtain ⟨xv, _, hargs, hx, rfl⟩ := ha
    refine OkQ.toN (cap_sound r (t := t) ?_ ?_ hx hv)
    · rw [← Array.getElem?_toList, hats]; rfl
    · rw [← Array.getElem?_toList, hargs]; rfl
  · obtain ⟨v, hv, rfl⟩ := rv_some e
    simp only [vrels] at ha
    obtain ⟨av, rest, hargs, hx, hrest⟩ := ha
    obtain ⟨v', h1, h2⟩ := min_sound (P := P) r hx hrest hv
    exact OkQ.toN (s := Builtin.min_ ats ty args') (.same r (by simp only [Builtin.min_, hargs]; exact h1) h2)
  · obtain ⟨v, hv, rfl⟩ := rv_some e
    simp only [vrels] at ha
    obtain ⟨av, rest, hargs, hx, hrest⟩ := ha
    obtain ⟨v', h1, h2⟩ := max_sound (P := P) r hx hrest hv
    exact OkQ.toN (s := Builtin.max_ ats ty args') (.same r (by simp only [Builtin.max_, hargs]; exact h1) h2)
  · simp at hb
  · simp at hb
  · simp at e
theorem quiet_sound (r : HR B w0 μ h w) (o : Oper) {res : Res} (hq : quietOp o.op P = true) (he : Ev μ fr ρ o.op.operands.toList) (e : op? o.op P fr h = some res) :
    OkN P μ h w (execOp ρ o) res := by
  cases hop : o.op with
  | move x =>
    rw [hop] at e he
    obtain ⟨v, hv, e⟩ := ob_some e
    cases e
    simp only [execOp, hop]
    exact .value (he.one (by simp [Op.operands]) hv)
  | assign x =>
    rw [hop] at e he
    obtain ⟨v, hv, e⟩ := ob_some e
    cases e
    simp only [execOp, hop]
    exact .value (he.one (by simp [Op.operands]) hv)
  | pick c a b =>
    rw [hop] at e he
    obtain ⟨v, hv, e⟩ := ob_some e
    have hc := he.one (x := c) (by simp [Op.operands]) hv
    cases v with
    | bool t =>
      simp only [vrel] at hc
      simp only [execOp, hop, hc, asBool]
      cases t with
      | true =>
        obtain ⟨u, hu, rfl⟩ := rv_some e
        have := OkN.value (P := P) (h := h) (w := w) (he.one (x := a) (by simp [Op.operands]) hu)
        simpa using this
      | false =>
        obtain ⟨u, hu, rfl⟩ := rv_some e
        have := OkN.value (P := P) (h := h) (w := w) (he.one (x := b) (by simp [Op.operands]) hu)
        simpa using this
    | _ => simp [pickD] at e
  | build t ps =>
    rw [hop] at e he
    obtain ⟨l, hl, e⟩ := ob_some e
    obtain ⟨v, hv, rfl⟩ := rv_some e
    simp only [execOp, hop]
    exact OkQ.toN (build_sound r (by rw [Array.toList_map]; exact evParts_sound (he.sub (by simp [Op.operands])) hl) hv)
  | load t a =>
    rw [hop] at e he
    obtain ⟨v, hv, e⟩ := ob_some e
    have ha := he.one (x := a) (by simp [Op.operands]) hv
    cases v with
    | ptr x off =>
      obtain ⟨u, hu, rfl⟩ := rv_some e
      simp only [execOp, hop]
      exact OkQ.toN (loadAt_sound r ha hu)
    | gp x off =>
      obtain ⟨u, hu, rfl⟩ := rv_some e
      simp only [execOp, hop]
      exact OkQ.toN (gload_sound r ha hu)
    | op x k z f =>
      obtain ⟨u, hu, rfl⟩ := rv_some e
      simp only [execOp, hop]
      exact OkQ.toN (vload_sound r ha hu)
    | fp x k z f =>
      obtain ⟨u, hu, rfl⟩ := rv_some e
      simp only [execOp, hop]
      exact OkQ.toN (fload_sound r ha hu)
    | _ => simp [loadD] at e
  | nilCheck x =>
    rw [hop] at e he
    obtain ⟨v, hv, e⟩ := ob_some e
    have ha := he.one (x := x) (by simp [Op.operands]) hv
    cases v with
    | ptr y off =>
      cases e
      have ha2 := ha
      simp only [vrel] at ha
      obtain ⟨l, hl, hρ⟩ := ha
      simp only [execOp, hop, hρ]
      rw [hρ] at ha2
      exact .value ha2
    | gp y off =>
      cases e
      have ha2 := ha
      simp only [vrel] at ha
      simp only [execOp, hop, ha]
      rw [ha] at ha2
      exact .value ha2
    | op y k z f =>
      cases e
      have ha2 := ha
      simp only [vrel] at ha
      obtain ⟨_, l, hl, hρ⟩ := ha
      simp only [execOp, hop, hρ]
      rw [hρ] at ha2
      exact .value ha2
    | fp y k z f =>
      cases e
      have ha2 := ha
      simp only [vrel] at ha
      obtain ⟨_, hρ⟩ := ha
      simp only [execOp, hop, hρ]
      rw [hρ] at ha2
      exact .value ha2
    | iface t y =>
      cases e
      have ha2 := ha
      simp only [vrel] at ha
      obtain ⟨yv, hρ, _⟩ := ha
      simp only [execOp, hop, hρ]
      rw [hρ] at ha2
      exact .value ha2
    | fn g a b =>
      cases g with
      | func g =>
        cases e
        have ha2 := ha
        simp only [vrel] at ha
        obtain ⟨as, bs, hρ, _⟩ := ha
        simp only [execOp, hop, hρ]
        rw [hρ] at ha2
        exact .value ha2
      | _ => simp [nilD] at e
    | _ => simp [nilD] at e
  | binOp op t x y u =>
    rw [hop] at e he
    obtain ⟨a, ha, e⟩ := ob_some e
    obtain ⟨b, hb, e⟩ := ob_some e
    obtain ⟨v, hv, rfl⟩ := rv_some e
    simp only [execOp, hop]
    exact OkQ.toN (bin_sound r (he.one (x := x) (by simp [Op.operands]) ha) (he.one (x := y) (by simp [Op.operands]) hb) hv)
  | unOp op t x =>
    rw [hop] at e he
    obtain ⟨a, ha, e⟩ := ob_some e
    obtain ⟨v, hv, rfl⟩ := rv_some e
    simp only [execOp, hop]
    exact OkQ.toN (un_sound r (he.one (x := x) (by simp [Op.operands]) ha) hv)
  | convert s d x =>
    rw [hop] at e he hq
    obtain ⟨a, ha, e⟩ := ob_some e
    obtain ⟨p, hp, rfl⟩ := rvh_some e
    simp only [execOp, hop]
    obtain ⟨g1, g2⟩ := conv_quiet r hq (he.one (x := x) (by simp [Op.operands]) ha) hp
    rw [g1]
    exact OkQ.toN g2
  | makeInterface t x =>
    rw [hop] at e he
    obtain ⟨a, ha, e⟩ := ob_some e
    obtain ⟨d, hd, e⟩ := ob_some e
    obtain ⟨hc, e⟩ := ifb_some e
    cases e
    simp only [execOp, hop]
    refine OkQ.toN (s := Instr.makeInterface t (ρ x)) (.same r (v' := .iface t (ρ x)) ?_ ?_)
    · cases d <;> first | (simp [isIface] at hc; done) | simp [Instr.makeInterface, run_underlying hd]
    · simp only [vrel]; exact ⟨_, rfl, he.one (x := x) (by simp [Op.operands]) ha⟩
  | makeFunc f a b =>
    rw [hop] at e he
    obtain ⟨as, ha, e⟩ := ob_some e
    obtain ⟨bs, hb, e⟩ := ob_some e
    cases e
    simp only [execOp, hop]
    refine OkQ.toN (s := Instr.makeFunc f (a.map ρ) (b.map ρ)) (.same r (v' := .func f (a.map ρ) (b.map ρ)) (by simp [Instr.makeFunc]) ?_)
    simp only [vrel]
    exact ⟨(a.map ρ).toList, (b.map ρ).toList, rfl, by rw [Array.toList_map]; exact evs_sound (he.sub (by simp +contextual [Op.operands])) ha, by rw [Array.toList_map]; exact evs_sound (he.sub (by simp +contextual [Op.operands])) hb⟩
  | slice t x lo hi mx =>
    rw [hop] at e he
    obtain ⟨a, ha, e⟩ := ob_some e
    obtain ⟨lo', hlo, e⟩ := ob_some e
    obtain ⟨hi', hhi, e⟩ := ob_some e
    obtain ⟨mx', hmx, e⟩ := ob_some e
    obtain ⟨v, hv, rfl⟩ := rv_some e
    simp only [execOp, hop]
    exact OkQ.toN (slice_sound r (he.one (x := x) (by simp [Op.operands]) ha) (opt_sound (he.sub (by simp +contextual [Op.operands])) hlo) (opt_sound (he.sub (by simp +contextual [Op.operands])) hhi) (opt_sound (he.sub (by simp +contextual [Op.operands])) hmx) hv)
  | fieldAddr t x f =>
    rw [hop] at e he
    obtain ⟨a, ha, e⟩ := ob_some e
    obtain ⟨v, hv, rfl⟩ := rv_some e
    simp only [execOp, hop]
    exact OkQ.toN (fieldAddr_sound r (he.one (x := x) (by simp [Op.operands]) ha) hv)
  | field t x f =>
    rw [hop] at e he
    obtain ⟨a, ha, e⟩ := ob_some e
    obtain ⟨v, hv, rfl⟩ := rv_some e
    simp only [execOp, hop]
    exact OkQ.toN (field_sound r (he.one (x := x) (by simp [Op.operands]) ha) hv)
  | indexAddr t x i =>
    rw [hop] at e he
    obtain ⟨a, ha, e⟩ := ob_some e
    obtain ⟨b, hb, e⟩ := ob_some e
    obtain ⟨v, hv, rfl⟩ := rv_some e
    simp only [execOp, hop]
    exact OkQ.toN (indexAddr_sound r (he.one (x := x) (by simp [Op.operands]) ha) (he.one (x := i) (by simp [Op.operands]) hb) hv)
  | index t x i =>
    rw [hop] at e he
    obtain ⟨a, ha, e⟩ := ob_some e
    obtain ⟨b, hb, e⟩ := ob_some e
    obtain ⟨v, hv, rfl⟩ := rv_some e
    simp only [execOp, hop]
    exact OkQ.toN (index_sound r (he.one (x := x) (by simp [Op.operands]) ha) (he.one (x := i) (by simp [Op.operands]) hb) hv)
  | lookup t x i ok =>
    rw [hop] at e he
    obtain ⟨a, ha, e⟩ := ob_some e
    obtain ⟨b, hb, e⟩ := ob_some e
    obtain ⟨v, hv, rfl⟩ := rv_some e
    simp only [execOp, hop]
    exact OkQ.toN (lookup_sound r (he.one (x := x) (by simp [Op.operands]) ha) (he.one (x := i) (by simp [Op.operands]) hb) hv)
  | typeAssert x t a ok =>
    rw [hop] at e he
    obtain ⟨u, hu, e⟩ := ob_some e
    obtain ⟨v, hv, rfl⟩ := rv_some e
    simp only [execOp, hop]
    exact OkQ.toN (typeAssert_sound r (he.one (x := x) (by simp [Op.operands]) hu) hv)
  | extract x i =>
    rw [hop] at e he
    obtain ⟨u, hu, e⟩ := ob_some e
    obtain ⟨v, hv, rfl⟩ := rv_some e
    have hx := he.one (x := x) (by simp [Op.operands]) hu
    simp only [execOp, hop]
    cases u with
    | tup l =>
      simp only [vrel] at hx
      obtain ⟨cs, hρ, hl⟩ := hx
      obtain ⟨y, h1, h2⟩ := vrels_get hl hv
      exact OkQ.toN (s := Instr.extract (ρ x) i) (.same r (v' := y) (by simp [Instr.extract, hρ, h1]) h2)
    | _ => simp [extractD] at hv
  | call c =>
    rw [hop] at e he hq
    obtain ⟨args, hargs, e1⟩ := ob_some e
    clear e
    have hav : vrels μ args (c.args.map ρ).toList := by
      rw [Array.toList_map]
      exact evs_sound (he.sub (fun y hy => by simp only [Op.operands]; unfold Call.operands; simp at hy ⊢; exact .inr hy)) hargs
    simp only [execOp, hop]
    simp only [quietOp] at hq
    cases hcal : c.callee with
    | builtin b =>
      rw [hcal] at e1 hq
      have hb : b = .len ∨ b = .cap ∨ b = .min ∨ b = .max := by cases b <;> simp at hq <;> simp
      have := builtin_quiet (ty := o.type) (consts := c.args.map fun | .const _ => true | _ => false) r hb hav e1
      have heq : (do let d ← resolve ρ c o.type; invoke d.target d.args : Sem Next) = builtin b c.argTypes o.type (c.args.map fun | .const _ => true | _ => false) (c.args.map ρ) := by
        simp only [resolve, hcal]; rfl
      rw [heq]; exact this
    | value f => rw [hcal] at hq; simp at hq
    | invoke rc name => rw [hcal] at hq; simp at hq
  | _ => rw [hop] at hq; simp [quietOp] at hq
theorem pure_same (o : Op) {h2 : H} {res : Res} (hq : quietOp o P = true) (hr : readOp o = false) (e : op? o P fr h = some res) : ∃ v, res = .val v h ∧ op? o P fr h2 = some (.val v h2) := by
  cases o with
  | move x => obtain ⟨v, hv, e⟩ := ob_some e; cases e; exact ⟨v, rfl, by simp [op?, oMove, hv]⟩
  | assign x => obtain ⟨v, hv, e⟩ := ob_some e; cases e; exact ⟨v, rfl, by simp [op?, oMove, hv]⟩
  | pick c a b =>
    obtain ⟨v, hv, e⟩ := ob_some e
    cases v with
    | bool t => cases t <;> (obtain ⟨u, hu, rfl⟩ := rv_some e; exact ⟨u, rfl, by simp [op?, oPick, hv, pickD, rv, hu]⟩)
    | _ => simp [pickD] at e
  | build t ps => obtain ⟨l, hl, e⟩ := ob_some e; obtain ⟨v, hv, rfl⟩ := rv_some e; exact ⟨v, rfl, by simp [op?, oBuild, hl, rv, hv]⟩
  | nilCheck x =>
    obtain ⟨v, hv, e⟩ := ob_some e
    cases v with
    | ptr y p => cases e; exact ⟨_, rfl, by simp [op?, oNil, hv, nilD]⟩
    | gp y p => cases e; exact ⟨_, rfl, by simp [op?, oNil, hv, nilD]⟩
    | op y k z f => cases e; exact ⟨_, rfl, by simp [op?, oNil, hv, nilD]⟩
    | fp y k z f => cases e; exact ⟨_, rfl, by simp [op?, oNil, hv, nilD]⟩
    | iface t y => cases e; exact ⟨_, rfl, by simp [op?, oNil, hv, nilD]⟩
    | fn g a b =>
      cases g with
      | func g => cases e; exact ⟨_, rfl, by simp [op?, oNil, hv, nilD]⟩
      | _ => simp [nilD] at e
    | _ => simp [nilD] at e
  | unOp op t x => obtain ⟨l, hl, e⟩ := ob_some e; obtain ⟨v, hv, rfl⟩ := rv_some e; exact ⟨v, rfl, by simp [op?, oUn, hl, rv, hv]⟩
  | makeInterface t x => obtain ⟨a, ha, e⟩ := ob_some e; obtain ⟨d, hd, e⟩ := ob_some e; obtain ⟨hc, e⟩ := ifb_some e; cases e; exact ⟨_, rfl, by simp [op?, oIface, ha, hd, hc, ifb]⟩
  | makeFunc f a b => obtain ⟨as, ha, e⟩ := ob_some e; obtain ⟨bs, hb, e⟩ := ob_some e; cases e; exact ⟨_, rfl, by simp [op?, oFunc, ha, hb]⟩
  | slice t x lo hi mx =>
    obtain ⟨a, ha, e⟩ := ob_some e
    obtain ⟨lo', hlo, e⟩ := ob_some e
    obtain ⟨hi', hhi, e⟩ := ob_some e
    obtain ⟨mx', hmx, e⟩ := ob_some e
    obtain ⟨v, hv, rfl⟩ := rv_some e
    exact ⟨v, rfl, by simp [op?, oSlice, ha, hlo, hhi, hmx, rv, hv]⟩
  | fieldAddr t x f => obtain ⟨l, hl, e⟩ := ob_some e; obtain ⟨v, hv, rfl⟩ := rv_some e; exact ⟨v, rfl, by simp [op?, oFieldAddr, hl, rv, hv]⟩
  | field t x f => obtain ⟨l, hl, e⟩ := ob_some e; obtain ⟨v, hv, rfl⟩ := rv_some e; exact ⟨v, rfl, by simp [op?, oField, hl, rv, hv]⟩
  | indexAddr t x i => obtain ⟨a, ha, e⟩ := ob_some e; obtain ⟨b, hb, e⟩ := ob_some e; obtain ⟨v, hv, rfl⟩ := rv_some e; exact ⟨v, rfl, by simp [op?, oIndexAddr, ha, hb, rv, hv]⟩
  | index t x i => obtain ⟨a, ha, e⟩ := ob_some e; obtain ⟨b, hb, e⟩ := ob_some e; obtain ⟨v, hv, rfl⟩ := rv_some e; exact ⟨v, rfl, by simp [op?, oIndex, ha, hb, rv, hv]⟩
  | typeAssert x t a ok => obtain ⟨l, hl, e⟩ := ob_some e; obtain ⟨v, hv, rfl⟩ := rv_some e; exact ⟨v, rfl, by simp [op?, oAssert, hl, rv, hv]⟩
  | extract x i => obtain ⟨l, hl, e⟩ := ob_some e; obtain ⟨v, hv, rfl⟩ := rv_some e; exact ⟨v, rfl, by simp [op?, oExtract, hl, rv, hv]⟩
  | load t a => simp [readOp] at hr
  | lookup t x i ok => simp [readOp] at hr
  | binOp op t x y u => simp [readOp] at hr
  | convert s d x => simp [readOp] at hr
  | call c => simp [readOp] at hr
  | _ => simp [quietOp] at hq
theorem made_sound (r : HR B w0 μ h w) (o : Oper) {x : Nat} {b : Blk} {v : AV} (he : Ev μ fr ρ o.op.operands.toList) (e : alloc? o.op P fr x = some (b, v)) (hfree : h.get x = none) (hnew : μ x = none) (hlt : x < h.next) (hlim : x < limit) (hres : ¬ B.res x) :
    own b = true ∧ ∃ v' w' μ', (execOp ρ o).run P w = .ok (.value v') w' ∧ Ext μ μ' ∧ vrel μ' v v' ∧ HR B w0 μ' (h.put x b) w' := by
  have hat : ∀ b, At B μ h x b (h.put x b) := fun b => ⟨fun y => H.get_put _ _ _ _ (by unfold limit at hlim; omega), Nat.le_refl _, hlt, hfree, hnew, hres⟩
  have key : ∀ (s : Sem Value) (v : AV) (b : Blk), OkV P B w0 μ w s v (h.put x b) → ∃ v' w' μ', (do pure (.value (← s)) : Sem Next).run P w = .ok (.value v') w' ∧ Ext μ μ' ∧ vrel μ' v v' ∧ HR B w0 μ' (h.put x b) w' := by
    intro s v b ⟨v', w', μ', h1, h2, h3, h4⟩
    exact ⟨v', w', μ', by simp [h1], h2, h3, h4⟩
  cases hop : o.op with
  | alloc el =>
    rw [hop] at e he
    obtain ⟨z, hz, e⟩ := ob_some e
    obtain ⟨hll, e⟩ := ifb_some e
    cases e
    simp only [execOp, hop]
    exact ⟨rfl, key _ _ _ (alloc_sound r hz (hat _) (blt_iff.1 hll))⟩
  | box el y =>
    rw [hop] at e he
    obtain ⟨z, hz, e⟩ := ob_some e
    obtain ⟨hll, e⟩ := ifb_some e
    cases e
    simp only [execOp, hop]
    exact ⟨rfl, key _ _ _ (box_sound r (he.one (x := y) (by simp [Op.operands]) hz) (hat _) (blt_iff.1 hll))⟩
  | buildSlice t n ps =>
    rw [hop] at e he
    obtain ⟨l, hl, e⟩ := ob_some e
    obtain ⟨cl, hcl, e⟩ := ob_some e
    obtain ⟨hll, e⟩ := ifb_some e
    cases e
    simp only [execOp, hop]
    exact ⟨rfl, key _ _ _ (buildSlice_sound r (by rw [Array.toList_map]; exact evParts_sound (he.sub (by simp [Op.operands])) hl) hcl (hat _) (blt_iff.1 hll))⟩
  | makeMap t rs =>
    rw [hop] at e he
    obtain ⟨_, hh, e⟩ := ob_some e
    cases e
    simp only [execOp, hop]
    refine ⟨rfl, key _ _ _ ?_⟩
    have hext : Ext μ (upm μ x ⟨w.heap.size, 0, 0⟩) := Ext.upm _ hnew
    have hr := r.alloc (l := ⟨w.heap.size, 0, 0⟩) (hat (.map [] 0)) rfl (below_push w (.map #[] 0)) (Nat.le_refl _) ⟨[], by simp, by simp [esrel]⟩
    refine ⟨.map (some w.heap.size), _, _, ?_, hext, ?_, hr⟩
    · cases rs with
      | none => simp [Instr.makeMap]
      | some q =>
        simp only [hintOk] at hh
        obtain ⟨d, hd, hh⟩ := ob_some hh
        obtain ⟨ke, hke, hh⟩ := ob_some hh
        obtain ⟨v, hv, hh⟩ := ob_some hh
        obtain ⟨n, hn, hh⟩ := ob_some hh
        obtain rfl := asMap_some hke
        obtain ⟨k, rfl⟩ := nat_some hn
        have hq := he.one (x := q) (by simp [Op.operands]) hv
        simp only [vrel] at hq
        simp [Instr.makeMap, run_underlying hd, hq, asInt, asIntOf]
    · simp only [vrel]; exact ⟨⟨w.heap.size, 0, 0⟩, by simp [upm], rfl⟩
  | makeSlice t l c =>
    rw [hop] at e he
    obtain ⟨a, ha, e⟩ := ob_some e
    obtain ⟨b2, hb, e⟩ := ob_some e
    obtain ⟨q, hq, e⟩ := ob_some e
    cases e
    simp only [execOp, hop]
    refine ⟨?_, key _ _ _ (make_sound r (he.one (x := l) (by simp [Op.operands]) ha) (he.one (x := c) (by simp [Op.operands]) hb) hq (hat _))⟩
    unfold makeBlk at hq
    obtain ⟨_, _, hq⟩ := ob_some hq
    obtain ⟨_, _, hq⟩ := ob_some hq
    obtain ⟨_, _, hq⟩ := ob_some hq
    obtain ⟨_, _, hq⟩ := ob_some hq
    obtain ⟨_, _, hq⟩ := ob_some hq
    obtain ⟨_, _, hq⟩ := ob_some hq
    obtain ⟨_, hq⟩ := ifb_some hq
    cases hq
    rfl
  | _ => rw [hop] at e; simp [alloc?] at e
end Go.X
set_option linter.unusedVariables false
set_option linter.unusedSimpArgs false
set_option linter.unusedSectionVars false
namespace Go.X
open Go.RowKit
variable [Tab]
variable {P : Program} {B : Kp} {w0 : World} {μ μ' : M} {h h' : H} {w w' : World} {fr fr' : Fr} {nt : Nat} {a : Act}
def FR (μ : M) (nt : Nat) (fr : Fr) (a : Act) : Prop := a.tmps.size = nt ∧ a.defers = [] ∧ ∀ t v, fr.get t = some v → ∃ v', a.tmps[t]? = some v' ∧ vrel μ v v'
theorem FR.ext (f : FR μ nt fr a) (e : Ext μ μ') : FR μ' nt fr a := ⟨f.1, f.2.1, fun t v ht => let ⟨v', h1, h2⟩ := f.2.2 t v ht; ⟨v', h1, vrel.ext e _ _ h2⟩⟩
theorem ev_known {x : Operand} {v : AV} (hf : ∀ t v, x = .tmp t → fr.get t = some v → ∃ v', a.tmps[t]? = some v' ∧ vrel μ v v') (e : ev x fr = some v) : vrel μ v (a.eval x) := by
  cases x with
  | tmp t =>
    obtain ⟨v', h1, h2⟩ := hf t v rfl e
    have : a.eval (.tmp t) = v' := by
      show a.tmps.getD t undef = v'
      rw [Array.getD_eq_getD_getElem?, h1]; rfl
    rw [this]; exact h2
  | const c => exact ofValue_sound e
  | func f =>
    have e' : some (AV.fn (.func f) [] []) = some v := e
    cases e'
    simp only [vrel]
    exact ⟨[], [], rfl, by simp [vrels], by simp [vrels]⟩
  | global g =>
    have e' : some (AV.gp g 0) = some v := e
    cases e'
    simp only [vrel]; rfl
theorem FR.ev (f : FR μ nt fr a) (xs : List Operand) : Ev μ fr a.eval xs := fun _ _ _ e => ev_known (fun t v _ ht => f.2.2 t v ht) e
theorem put_some {d : Option Tmp} {v : AV} (e : put? nt d v fr = some fr') : (d = none ∧ fr' = fr) ∨ ∃ t, d = some t ∧ t < nt ∧ t < limit ∧ fr' = fr.put t v := by
  cases d with
  | none => simp only [put?] at e; cases e; exact .inl ⟨rfl, rfl⟩
  | some t =>
    simp only [put?] at e
    obtain ⟨h1, e⟩ := ifb_some e
    cases e
    simp only [Bool.and_eq_true, blt_iff] at h1
    exact .inr ⟨t, rfl, h1.1, h1.2, rfl⟩
theorem FR.put (f : FR μ nt fr a) {d : Option Tmp} {v : AV} {v' : Value} (e : put? nt d v fr = some fr') (hv : vrel μ v v') : FR μ nt fr' (a.put d v') := by
  rcases put_some e with ⟨rfl, rfl⟩ | ⟨t, rfl, h1, h2, rfl⟩
  · exact f
  · refine ⟨by simpa [Act.put] using f.1, f.2.1, fun s u hs => ?_⟩
    rw [T.get_put _ _ _ _ (Nat.lt_of_lt_of_le h2 (by unfold limit; omega))] at hs
    simp only [Act.put, Array.getElem?_setIfInBounds]
    by_cases c : s = t
    · subst c
      rw [if_pos rfl] at hs; cases hs
      rw [if_pos rfl, if_pos (by rw [f.1]; exact h1)]
      exact ⟨v', rfl, hv⟩
    · rw [if_neg c] at hs
      rw [if_neg (fun e => c e.symm)]
      exact f.2.2 s u hs
theorem undef_rel : vrel μ .undef undef := by simp only [AV.undef, undef, vrel]; exact ⟨[], rfl, by simp [vrels]⟩
theorem wanted_known {ops : Array Oper} {o : Oper} {b : Bool} {tmps : Array Value} (hf : ∀ j want g d v, o.guard = some (j, want) → ops[j]? = some g → g.dst = some d → fr.get d = some v → ∃ v', tmps[d]? = some v' ∧ vrel μ v v')
    (e : wanted? ops.toList fr o.guard = some b) : Region.wanted o (yielded ops tmps) = b := by
  unfold wanted? at e
  unfold Region.wanted
  cases hg : o.guard with
  | none => rw [hg] at e; cases e; rfl
  | some p =>
    obtain ⟨j, want⟩ := p
    rw [hg] at e
    simp only at e ⊢
    obtain ⟨g, hg1, e⟩ := ob_some e
    obtain ⟨d, hd, e⟩ := ob_some e
    obtain ⟨v, hv, e⟩ := ob_some e
    rw [Array.getElem?_toList] at hg1
    obtain ⟨v', h1, h2⟩ := hf j want g d v hg hg1 hd hv
    have hy : yielded ops tmps j = match v' with | .bool b => some b | _ => none := by
      simp only [yielded, hg1, Option.bind_some, hd, h1]
      cases v' <;> rfl
    rw [hy]
    unfold guardV at e
    split at e
    · cases e
      simp only [vrel] at h2
      subst h2
      simp
    · cases e
      simp only [vrel] at h2
      obtain ⟨cs, rfl, _⟩ := h2
      rfl
    · simp at e
theorem FR.wanted (f : FR μ nt fr a) {ops : Array Oper} {o : Oper} {b : Bool} (e : wanted? ops.toList fr o.guard = some b) : Region.wanted o (yielded ops a.tmps) = b :=
  wanted_known (fun _ _ _ d v _ _ _ hv => f.2.2 d v hv) e
def Ex.to : Ex → Exit
  | .normal => .normal
  | .exit id => .exit id
  | .ret => .ret
def Post (B : Kp) (w0 : World) (μ : M) (nt : Nat) (e : Ex) (fr' : Fr) (h' : H) (e' : Exit) (a' : Act) (w' : World) : Prop :=
  e' = e.to ∧ ∃ μ', Ext μ μ' ∧ FR μ' nt fr' a' ∧ HR B w0 μ' h' w'
def PostL (B : Kp) (w0 : World) (μ : M) (nt : Nat) (l : List (Ex × Fr × H)) (e' : Exit) (a' : Act) (w' : World) : Prop := ∃ q ∈ l, Post B w0 μ nt q.1 q.2.1 q.2.2 e' a' w'
def RunOk (P : Program) (run : Run) : Prop := ∀ nt c fr h l, run nt c fr h = some l → ∀ B w0 μ a w, FR μ nt fr a → HR B w0 μ h w → c.wp P (PostL B w0 μ nt l) a w
def CallOk (P : Program) (f : FuncId) (args : List AV) (h : H) (p : AV × H) : Prop := ∀ B w0 μ w (args' : Array Value), HR B w0 μ h w → vrels μ args args'.toList →
  Calls P f args' w fun e w' => ∃ v' μ', e = .returned v' ∧ Ext μ μ' ∧ vrel μ' p.1 v' ∧ HR B w0 μ' p.2 w'
structure RecOk (P : Program) (rec : Rec) : Prop where
  run : RunOk P rec.run
  call : ∀ f args h p, rec.call f args h = some p → CallOk P f args h p
def resSem (tmps : Array Value) : ResultVar → Sem Value
  | .tmp t => pure (tmps.getD t undef)
  | .cell q t => do loadVar t (← asAddr (tmps.getD q undef))
theorem ress_sound (f : FR μ nt fr a) (r : HR B w0 μ h w) : ∀ {l : List ResultVar} {vs : List AV}, ress? P fr h l = some vs →
    ∃ us, (l.mapM (resSem a.tmps)).run P w = .ok us w ∧ vrels μ vs us
  | [], vs, e => by
    have e' : some ([] : List AV) = some vs := e
    cases e'
    exact ⟨[], by simp, by simp [vrels]⟩
  | x :: l, vs, e => by
    have e' : ob (res? P fr h x) (fun v => ob (ress? P fr h l) fun vs => some (v :: vs)) = some vs := e
    obtain ⟨v, hv, e'⟩ := ob_some e'
    obtain ⟨vs', hvs, e'⟩ := ob_some e'
    cases e'
    obtain ⟨us, h1, h2⟩ := ress_sound f r hvs
    have hget : ∀ t v, fr.get t = some v → ∃ v', a.tmps.getD t undef = v' ∧ vrel μ v v' := by
      intro t v ht
      obtain ⟨v', g1, g2⟩ := f.2.2 t v ht
      exact ⟨v', by rw [Array.getD_eq_getD_getElem?, g1]; rfl, g2⟩
    cases x with
    | tmp t =>
      obtain ⟨v', g1, g2⟩ := hget t v hv
      exact ⟨v' :: us, by simp only [List.mapM_cons, Sem.run_bind, resSem, g1, Sem.run_pure, Result.andThen_ok, h1], vrels_cons g2 h2⟩
    | cell q t =>
      simp only [res?] at hv
      obtain ⟨pv, hpv, hv⟩ := ob_some hv
      obtain ⟨v', g1, g2⟩ := hget q pv hpv
      cases pv with
      | ptr y o =>
        simp only [resD] at hv
        simp only [vrel] at g2
        obtain ⟨l', hl', rfl⟩ := g2
        obtain ⟨u, k1, k2⟩ := loadVar_sound (P := P) r hl' hv
        have hA : (asAddr (a.tmps.getD q undef)).run P w = .ok ⟨l'.block, l'.base + o, none⟩ w := by rw [g1]; rfl
        exact ⟨u :: us, by simp only [List.mapM_cons, Sem.run_bind, resSem, hA, Sem.run_pure, Result.andThen_ok, k1, h1], vrels_cons k2 h2⟩
      | _ => simp [resD] at hv
theorem results_sound (f : FR μ nt fr a) (r : HR B w0 μ h w) {fn : Func} {v : AV} (e : results? P fn fr h = some v) : ∃ v', (results fn a.tmps).run P w = .ok v' w ∧ vrel μ v v' := by
  obtain ⟨vs, hvs, e⟩ := ob_some e
  cases e
  obtain ⟨us, h1, h2⟩ := ress_sound f r hvs
  have hlen := vrels_length h2
  refine ⟨if hh : (⟨us⟩ : Array Value).size = 1 then (⟨us⟩ : Array Value)[0] else .tuple ⟨us⟩, ?_, ?_⟩
  · have hres : results fn a.tmps = (do let vs ← fn.results.mapM (resSem a.tmps); pure (if h : vs.size = 1 then vs[0] else .tuple vs)) := by
      unfold results
      congr 1
    rw [hres]
    simp only [Array.mapM_eq_mapM_toList, Sem.run_bind, Sem.run_map, h1, Result.andThen_ok, Sem.run_pure]
  · unfold tupD
    split
    · rename_i v
      simp only [vrels] at h2
      obtain ⟨u, _, rfl, hu, rfl⟩ := h2
      simpa using hu
    · rename_i hne
      have : ¬ (⟨us⟩ : Array Value).size = 1 := by
        intro hh
        have hh' : us.length = 1 := hh
        cases vs with
        | nil => simp only [List.length_nil] at hlen; omega
        | cons x l =>
          cases l with
          | nil => exact hne x rfl
          | cons y l => simp only [List.length_cons] at hlen; omega
      rw [dif_neg this]
      simp only [vrel]
      exact ⟨us, rfl, h2⟩
theorem bindL_nil {α β : Type} (f : α → Option (List β)) : bindL [] f = some [] := rfl
theorem bindL_one {α β : Type} (x : α) (f : α → Option (List β)) : bindL [x] f = f x := rfl
theorem bindL_cons {α β : Type} (x y : α) (t : List α) (f : α → Option (List β)) : bindL (x :: y :: t) f = ob (f x) fun a => ob (bindL (y :: t) f) fun b => some (a ++ b) := rfl
theorem bindL_some {α β : Type} {f : α → Option (List β)} : ∀ {l : List α} {r : List β}, bindL l f = some r → ∀ x ∈ l, ∃ a, f x = some a ∧ ∀ y ∈ a, y ∈ r
  | [], r, _, x, hx => by simp at hx
  | [z], r, e, x, hx => by
    simp only [List.mem_singleton] at hx; subst hx
    rw [bindL_one] at e
    exact ⟨r, e, fun _ h => h⟩
  | z :: y :: t, r, e, x, hx => by
    rw [bindL_cons] at e
    obtain ⟨a, ha, e1⟩ := ob_some e
    obtain ⟨b, hb, e2⟩ := ob_some e1
    cases e2
    simp only [List.mem_cons] at hx
    rcases hx with rfl | hx
    · exact ⟨a, ha, fun _ h => List.mem_append_left _ h⟩
    · obtain ⟨c, hc, h2⟩ := bindL_some hb x (by simpa using hx)
      exact ⟨c, hc, fun q hq => List.mem_append_right _ (h2 q hq)⟩
theorem obL_some {α β : Type} {x : Option (List α)} {f : α → Option (List β)} {r : List β} (e : obL x f = some r) : ∃ l, x = some l ∧ ∀ y ∈ l, ∃ a, f y = some a ∧ ∀ z ∈ a, z ∈ r := by
  obtain ⟨l, hl, e⟩ := ob_some e
  exact ⟨l, hl, bindL_some e⟩
theorem mapO_some {α β : Type} {f : α → Option β} : ∀ {l : List α} {r : List β}, mapO l f = some r → ∀ x ∈ l, ∃ b ∈ r, f x = some b
  | [], r, _, x, hx => by simp at hx
  | z :: t, r, e, x, hx => by
    have e' : (ob (f z) fun a => ob (mapO t f) fun b => some (a :: b)) = some r := e
    obtain ⟨a, ha, e1⟩ := ob_some e'
    obtain ⟨b, hb, e2⟩ := ob_some e1
    cases e2
    simp only [List.mem_cons] at hx
    rcases hx with rfl | hx
    · exact ⟨a, by simp, ha⟩
    · obtain ⟨c, hc, h2⟩ := mapO_some hb x hx
      exact ⟨c, by simp [hc], h2⟩
theorem kcode_eq {k k' : IntKind} (h : Nat.beq (kcode k) (kcode k') = true) : k = k' := by
  have h1 := nbeq_iff.1 h
  cases k <;> cases k' <;> first | rfl | (simp [kcode] at h1)
mutual
theorem veq_same : ∀ {a b : AV}, veq a b = true → a = b
  | .bool a, b, h => by cases b <;> simp [veq] at h; rw [h]
  | .int k a, b, h => by
    cases b <;> simp [veq] at h
    obtain ⟨h1, h2⟩ := h
    rw [kcode_eq (nbeq_iff.2 h1), h2]
  | .str n c, b, h => by cases b <;> simp [veq, strEq] at h; rw [h.1, h.2]
  | .nilp, b, h => by cases b <;> simp [veq] at h; rfl
  | .ptr x o, b, h => by cases b <;> simp [veq] at h; rw [h.1, h.2]
  | .gp x o, b, h => by cases b <;> simp [veq] at h; rw [h.1, h.2]
  | .oi x, b, h => by cases b <;> simp [veq] at h; rw [h]
  | .es, b, h => by cases b <;> simp [veq] at h; rfl
  | .fo x j z, b, h => by
    cases b <;> simp only [veq, Bool.and_eq_true, Bool.false_eq_true] at h
    rw [Nat.eq_of_beq_eq_true h.1, Nat.eq_of_beq_eq_true h.2.1, Nat.eq_of_beq_eq_true h.2.2]
  | .fp x j z f, b, h => by
    cases b <;> simp only [veq, Bool.and_eq_true, Bool.false_eq_true] at h
    rw [Nat.eq_of_beq_eq_true h.1, Nat.eq_of_beq_eq_true h.2.1, Nat.eq_of_beq_eq_true h.2.2.1, Nat.eq_of_beq_eq_true h.2.2.2]
  | .ov x j z, b, h => by
    cases b <;> simp only [veq, Bool.and_eq_true, Bool.false_eq_true] at h
    rw [Nat.eq_of_beq_eq_true h.1, Nat.eq_of_beq_eq_true h.2.1, Nat.eq_of_beq_eq_true h.2.2]
  | .op x j z f, b, h => by
    cases b <;> simp only [veq, Bool.and_eq_true, Bool.false_eq_true] at h
    rw [Nat.eq_of_beq_eq_true h.1, Nat.eq_of_beq_eq_true h.2.1, Nat.eq_of_beq_eq_true h.2.2.1, Nat.eq_of_beq_eq_true h.2.2.2]
  | .nils, b, h => by cases b <;> simp [veq] at h; rfl
  | .sl x o n c, b, h => by cases b <;> simp [veq] at h; rw [h.1, h.2.1, h.2.2.1, h.2.2.2]
  | .so x o n c, b, h => by cases b <;> simp [veq] at h; rw [h.1, h.2.1, h.2.2.1, h.2.2.2]
  | .nilm, b, h => by cases b <;> simp [veq] at h; rfl
  | .map x, b, h => by cases b <;> simp [veq] at h; rw [h]
  | .fn f a c, b, h => by
    cases b with
    | fn g d e =>
      cases f <;> cases g <;> simp [veq] at h
      obtain ⟨h1, h2, h3⟩ := h
      rw [h1, veqs_same h2, veqs_same h3]
    | _ => cases f <;> simp [veq] at h
  | .nilf, b, h => by cases b <;> simp [veq] at h; rfl
  | .iface t v, b, h => by
    cases b <;> simp [veq] at h
    rw [h.1, veq_same h.2]
  | .nili, b, h => by cases b <;> simp [veq] at h; rfl
  | .agg l, b, h => by cases b <;> simp [veq] at h; rw [veqs_same h]
  | .tup l, b, h => by cases b <;> simp [veq] at h; rw [veqs_same h]
  | .ostr i, b, h => by cases b <;> simp [veq] at h; rw [h]
  | .rw i, b, h => by cases b <;> simp [veq] at h; rw [h]
theorem veqs_same : ∀ {a b : List AV}, veqs a b = true → a = b
  | [], b, h => by cases b <;> simp [veqs] at h; rfl
  | x :: l, b, h => by
    cases b <;> simp [veqs] at h
    rw [veq_same h.1, veqs_same h.2]
end
theorem T.inter_get {α : Type} {eq : α → α → Bool} (he : ∀ x y, eq x y = true → x = y) : ∀ (a b : T α) (n : Nat) (x : α), (T.inter eq a b).get n = some x → a.get n = some x ∧ b.get n = some x
  | .leaf, b, n, x, h => by have h' : (T.leaf : T α).get n = some x := h; simp at h'
  | .node l v r, .leaf, n, x, h => by have h' : (T.leaf : T α).get n = some x := h; simp at h'
  | .node l v r, .node l' v' r', n, x, h => by
    have h' : (fT (T.inter eq l l') fun p => fT (T.inter eq r r') fun q => T.node p (bothO eq v v') q).get n = some x := h
    rw [fT_eq, fT_eq, T.get_node] at h'
    rw [T.get_node, T.get_node]
    split at h'
    · rename_i h0
      rw [if_pos h0, if_pos h0]
      cases v with
      | none => have h2 : (none : Option α) = some x := h'; simp at h2
      | some u =>
        cases v' with
        | none => have h2 : (none : Option α) = some x := h'; simp at h2
        | some u' =>
          have h2 : (Bool.rec none (some u) (eq u u') : Option α) = some x := h'
          cases hc : eq u u' with
          | false => rw [hc] at h2; simp at h2
          | true =>
            rw [hc] at h2
            have h3 : some u = some x := h2
            rw [← he u u' hc]; exact ⟨h3, h3⟩
    · rename_i h0
      rw [if_neg h0, if_neg h0]
      split at h'
      · rename_i h1
        rw [if_pos h1, if_pos h1]
        exact T.inter_get he l l' _ x h'
      · rename_i h1
        rw [if_neg h1, if_neg h1]
        exact T.inter_get he r r' _ x h'
theorem T.same_eq {α : Type} {eq : α → α → Bool} (he : ∀ x y, eq x y = true → x = y) : ∀ (a b : T α), a.same eq b = true → a = b
  | .leaf, .leaf, _ => rfl
  | .leaf, .node _ _ _, h => by have h' : false = true := h; simp at h'
  | .node l v r, .leaf, h => by have h' : false = true := h; simp at h'
  | .node l v r, .node l' v' r', h => by
    have h' : (eqO eq v v' && (l.same eq l' && r.same eq r')) = true := h
    simp only [Bool.and_eq_true] at h'
    have hv : v = v' := by
      cases v with
      | none =>
        cases v' with
        | none => rfl
        | some u => have h2 : false = true := h'.1; simp at h2
      | some u =>
        cases v' with
        | none => have h2 : false = true := h'.1; simp at h2
        | some u' => have h2 : eq u u' = true := h'.1; rw [he u u' h2]
    rw [hv, T.same_eq he l l' h'.2.1, T.same_eq he r r' h'.2.2]
theorem eqEs_eq : ∀ {a b : List (AV × AV × Nat)}, eqEs a b = true → a = b
  | [], [], _ => rfl
  | [], _ :: _, h => by simp [eqEs] at h
  | _ :: _, [], h => by simp [eqEs] at h
  | (k, v, n) :: l, (k', v', n') :: m, h => by
    simp only [eqEs, Bool.and_eq_true] at h
    rw [veq_same h.1, veq_same h.2.1, nbeq_iff.1 h.2.2.1, eqEs_eq h.2.2.2]
theorem eqNs_eq : ∀ {a b : List Nat}, eqNs a b = true → a = b
  | [], [], _ => rfl
  | [], _ :: _, h => by simp [eqNs] at h
  | _ :: _, [], h => by simp [eqNs] at h
  | k :: l, k' :: m, h => by
    simp only [eqNs, Bool.and_eq_true] at h
    rw [nbeq_iff.1 h.1, eqNs_eq h.2]
theorem beq_eq {a b : Blk} (h : beq? a b = true) : a = b := by
  unfold beq? at h
  split at h
  · simp only [Bool.and_eq_true, beq_iff_eq] at h
    rw [nbeq_iff.1 h.1, h.2.1, veqs_same h.2.2.1, T.same_eq (fun _ _ => veq_same) _ _ h.2.2.2]
  · simp only [Bool.and_eq_true] at h
    rw [nbeq_iff.1 h.1, veqs_same h.2.1, T.same_eq (fun _ _ => veq_same) _ _ h.2.2]
  · simp only [Bool.and_eq_true] at h
    rw [nbeq_iff.1 h.1, eqEs_eq h.2]
  · simp only [Bool.and_eq_true] at h
    rw [nbeq_iff.1 h.1, nbeq_iff.1 h.2.1, nbeq_iff.1 h.2.2]
  · simp only [Bool.and_eq_true] at h
    rw [nbeq_iff.1 h.1, nbeq_iff.1 h.2.1, eqNs_eq h.2.2.1, nbeq_iff.1 h.2.2.2]
  · simp only [Bool.and_eq_true] at h
    rw [nbeq_iff.1 h.1, eqNs_eq h.2.1, nbeq_iff.1 h.2.2]
  · simp only [nbeq_iff] at h; rw [h]
  · simp at h
structure Less (h' h : H) : Prop where
  next : h.next ≤ h'.next
  get : ∀ y b, h'.get y = some b → h.get y = some b
theorem Less.refl (h : H) : Less h h := ⟨Nat.le_refl _, fun _ _ e => e⟩
theorem Less.trans {a b c : H} (h : Less a b) (k : Less b c) : Less a c := ⟨Nat.le_trans k.next h.next, fun y e he => k.get y e (h.get y e he)⟩
theorem HR.less (r : HR B w0 μ h w) (l : Less h' h) : HR B w0 μ h' w :=
  r.weaken (R := B.res) l.next (fun x hx => ⟨Nat.lt_of_lt_of_le (r.res x hx).1 l.next, (r.res x hx).2⟩) l.get
theorem inter_less (a b : H) : Less (a.inter b) a ∧ Less (a.inter b) b := by
  have e : a.inter b = ⟨Nat.max a.next b.next, T.inter beq? a.t b.t⟩ := by unfold H.inter; rw [fN_eq, fT_eq]
  rw [e]
  exact ⟨⟨Nat.le_max_left _ _, fun y c hc => (T.inter_get (fun _ _ => beq_eq) a.t b.t y c hc).1⟩, ⟨Nat.le_max_right _ _, fun y c hc => (T.inter_get (fun _ _ => beq_eq) a.t b.t y c hc).2⟩⟩
def LessF (f' f : Fr) : Prop := ∀ t v, f'.get t = some v → f.get t = some v
theorem FR.less {fr fr' : Fr} (f : FR μ nt fr a) (l : LessF fr' fr) : FR μ nt fr' a := ⟨f.1, f.2.1, fun t v ht => f.2.2 t v (l t v ht)⟩
theorem exEq_eq {a b : Ex} (h : exEq a b = true) : a = b := by
  cases a <;> cases b <;> simp [exEq] at h <;> first | rfl | (rw [h])
def Under (q p : Ex × Fr × H) : Prop := q.1 = p.1 ∧ LessF q.2.1 p.2.1 ∧ Less q.2.2 p.2.2
theorem merge2_some {a b q : Ex × Fr × H} (e : merge2 a b = some q) : Under q a ∧ Under q b := by
  obtain ⟨h1, e⟩ := ifb_some e
  rw [fT_eq, fH_eq] at e
  cases e
  obtain ⟨g1, g2⟩ := inter_less a.2.2 b.2.2
  exact ⟨⟨rfl, fun t v h => (T.inter_get (fun _ _ => veq_same) _ _ t v h).1, g1⟩, ⟨exEq_eq h1, fun t v h => (T.inter_get (fun _ _ => veq_same) _ _ t v h).2, g2⟩⟩
theorem Under.refl (q : Ex × Fr × H) : Under q q := ⟨rfl, fun _ _ h => h, .refl _⟩
theorem Under.trans {a b c : Ex × Fr × H} (h : Under a b) (k : Under b c) : Under a c := ⟨h.1.trans k.1, fun t v e => k.2.1 t v (h.2.1 t v e), h.2.2.trans k.2.2⟩
theorem mergeGo_some : ∀ {l : List (Ex × Fr × H)} {a q : Ex × Fr × H}, mergeGo l a = some q → Under q a ∧ ∀ p ∈ l, Under q p
  | [], a, q, e => by have e' : some a = some q := e; cases e'; exact ⟨.refl _, fun p hp => by simp at hp⟩
  | b :: l, a, q, e => by
    have e' : ob (merge2 a b) (mergeGo l) = some q := e
    obtain ⟨m, hm, e1⟩ := ob_some e'
    obtain ⟨h1, h2⟩ := merge2_some hm
    obtain ⟨h3, h4⟩ := mergeGo_some e1
    refine ⟨h3.trans h1, fun p hp => ?_⟩
    simp only [List.mem_cons] at hp
    rcases hp with rfl | hp
    · exact h3.trans h2
    · exact h4 p hp
theorem mergeO_some {l r : List (Ex × Fr × H)} (e : mergeO l = some r) : ∀ p ∈ l, ∃ q ∈ r, Under q p := by
  cases l with
  | nil => intro p hp; simp at hp
  | cons x t =>
    cases t with
    | nil =>
      have e' : some [x] = some r := e
      cases e'
      intro p hp
      simp only [List.mem_singleton] at hp
      subst hp
      exact ⟨p, by simp, .refl _⟩
    | cons y t =>
      have e' : (Option.rec (some (x :: y :: t)) (fun q => some [q]) (mergeGo (y :: t) x) : Out) = some r := e
      cases hm : mergeGo (y :: t) x with
      | none =>
        rw [hm] at e'
        have e2 : some (x :: y :: t) = some r := e'
        cases e2
        exact fun p hp => ⟨p, hp, .refl _⟩
      | some q =>
        rw [hm] at e'
        have e2 : some [q] = some r := e'
        cases e2
        obtain ⟨h1, h2⟩ := mergeGo_some hm
        intro p hp
        simp only [List.mem_cons] at hp
        refine ⟨q, by simp, ?_⟩
        rcases hp with rfl | hp
        · exact h1
        · exact h2 p (by simpa using hp)
theorem mergeV_some : ∀ {l : List (AV × H)} {q : AV × H}, mergeV l = some q → ∀ p ∈ l, q.1 = p.1 ∧ Less q.2 p.2
  | [], q, e, p, hp => by simp at hp
  | [x], q, e, p, hp => by
    have e' : some x = some q := e
    cases e'
    simp only [List.mem_singleton] at hp
    subst hp
    exact ⟨rfl, .refl _⟩
  | x :: y :: t, q, e, p, hp => by
    have e' : ob (mergeV (y :: t)) (fun q => mergeV2 x q) = some q := e
    obtain ⟨m, hm, e1⟩ := ob_some e'
    obtain ⟨h1, e2⟩ := ifb_some e1
    rw [fH_eq] at e2
    cases e2
    have h1 := veq_same h1
    obtain ⟨g1, g2⟩ := inter_less x.2 m.2
    simp only [List.mem_cons] at hp
    rcases hp with rfl | hp
    · exact ⟨rfl, g1⟩
    · obtain ⟨k1, k2⟩ := mergeV_some hm p (by simpa using hp)
      exact ⟨h1.trans k1, g2.trans k2⟩
theorem enter_sound {run : Run} (hrec : RunOk P run) (r : HR B w0 μ h w) {f : FuncId} {args : List AV} {args' : Array Value} {p : AV × H} (ha : vrels μ args args'.toList) (e : enter? P run f args h = some p) :
    Calls P f args' w fun e w' => ∃ v' μ', e = .returned v' ∧ Ext μ μ' ∧ vrel μ' p.1 v' ∧ HR B w0 μ' p.2 w' := by
  obtain ⟨fn, hfn, e⟩ := ob_some e
  obtain ⟨body, hb, e⟩ := ob_some e
  obtain ⟨hle, e⟩ := ifb_some e
  simp only [Bool.and_eq_true, ble_iff, blt_iff] at hle
  obtain ⟨l, hq, e⟩ := ob_some e
  obtain ⟨lv, hlv, e⟩ := ob_some e
  have hlen : args'.size = args.length := by rw [← Array.length_toList, vrels_length ha]
  have hf : FR μ fn.ntmps (T.ofList 0 .leaf args) { tmps := args' ++ Array.replicate (fn.ntmps - args'.size) undef, defers := [] } := by
    refine ⟨by simp; omega, rfl, fun t v ht => ?_⟩
    rw [T.get_ofList _ _ _ _ (by have := hle.2; unfold limit at this; omega)] at ht
    split at ht
    · rename_i hc
      simp only [Nat.sub_zero] at ht
      obtain ⟨v', g1, g2⟩ := vrels_get ha ht
      refine ⟨v', ?_, g2⟩
      rw [Array.getElem?_append_left (by omega), ← Array.getElem?_toList]
      exact g1
    · simp at ht
  have hwp := hrec fn.ntmps body _ h l hq B w0 μ _ w hf r
  refine calls_of_wp hfn hb (wp_mono hwp ?_)
  rintro e' a' w' ⟨⟨ex, fr1, h1⟩, hmem, he, μ', g1, g2, g3⟩
  obtain ⟨b, hbm, hbl⟩ := mapO_some hlv _ hmem
  obtain ⟨m1, m2⟩ := mergeV_some e b hbm
  have hbl : leaves P fn ex fr1 h1 = some b := hbl
  dsimp only at he g2 g3
  subst he
  cases ex with
  | normal =>
    obtain ⟨v, hv, e⟩ := ob_some hbl
    cases e
    obtain ⟨v', k1, k2⟩ := results_sound (P := P) g2 g3 hv
    exact ⟨g2.2.1, v', k1, v', μ', rfl, g1, by rw [m1]; exact k2, g3.less m2⟩
  | ret =>
    obtain ⟨v, hv, e⟩ := ob_some hbl
    cases e
    obtain ⟨v', k1, k2⟩ := results_sound (P := P) g2 g3 hv
    exact ⟨g2.2.1, v', k1, v', μ', rfl, g1, by rw [m1]; exact k2, g3.less m2⟩
  | exit id => simp [leaves] at hbl
theorem oper_wp {rec : Rec} (hrec : RecOk P rec) (r : HR B w0 μ h w) (o : Oper) {res : Res} {v : AV} {next : Act → World → Prop} {Q : Exit → Act → World → Prop} (he : Ev μ fr a.eval o.op.operands.toList)
    (e : op? o.op P fr h = some res) (ev : valOf P rec h res = some (v, h')) (hnext : ∀ v' w' μ', Ext μ μ' → vrel μ' v v' → HR B w0 μ' h' w' → next (a.put o.dst v') w') : o.wp P a w next Q := by
  have hop := op_sound r o he e
  cases res with
  | val u h1 =>
    simp only [valOf] at ev
    cases ev
    obtain ⟨nx, v', w', μ', h1, h2, h3, h4, h5⟩ := hop
    unfold Oper.wp
    rw [h1]
    rcases h2 with rfl | ⟨rfl, rfl⟩
    · exact hnext v' w' μ' h3 h4 h5
    · exact hnext undef w' μ' h3 h4 h5
  | call f args =>
    simp only [valOf] at ev
    obtain ⟨args', h1, h2⟩ := hop
    unfold Oper.wp
    rw [h1]
    refine (hrec.call _ _ _ _ ev _ _ _ _ _ r h2).mono ?_
    rintro e w' ⟨v', μ', rfl, g1, g2, g3⟩
    exact hnext v' w' μ' g1 g2 g3
  | pick l => simp [valOf] at ev
theorem putH_eq {d : Option Tmp} {v : AV} : putH nt d fr v h = ob (put? nt d v fr) fun fr => some [(fr, h)] := by simp only [putH, fV_eq, fH_eq, fT_eq]
theorem finish_wp {rec : Rec} (hrec : RecOk P rec) (r : HR B w0 μ h w) (f : FR μ nt fr a) (o : Oper) {res : Res} {l : List (Fr × H)} {next : Act → World → Prop} {Q : Exit → Act → World → Prop}
    (e : op? o.op P fr h = some res) (ef : finish P rec nt o.dst fr h res = some l) (hnext : ∀ q ∈ l, ∀ a' w' μ', Ext μ μ' → FR μ' nt q.1 a' → HR B w0 μ' q.2 w' → next a' w') : o.wp P a w next Q := by
  have put : ∀ {v : AV} {h1 : H} {l : List (Fr × H)}, putH nt o.dst fr v h1 = some l → ∃ fr1, put? nt o.dst v fr = some fr1 ∧ l = [(fr1, h1)] := by
    intro v h1 l hp
    rw [putH_eq] at hp
    obtain ⟨fr1, h2, h3⟩ := ob_some hp
    cases h3
    exact ⟨fr1, h2, rfl⟩
  cases res with
  | val u h1 =>
    simp only [finish] at ef
    obtain ⟨fr1, hf, rfl⟩ := put ef
    exact oper_wp hrec r o (f.ev _) e (v := u) (h' := h1) rfl (fun v' w' μ' g1 g2 g3 => hnext (fr1, h1) (by simp) _ w' μ' g1 ((f.ext g1).put hf g2) g3)
  | call g args =>
    simp only [finish] at ef
    obtain ⟨p, hp, ef⟩ := ob2_some ef
    obtain ⟨fr1, hf, rfl⟩ := put ef
    exact oper_wp hrec r o (f.ev _) e (v := p.1) (h' := p.2) (by simp only [valOf]; exact hp) (fun v' w' μ' g1 g2 g3 => hnext (fr1, p.2) (by simp) _ w' μ' g1 ((f.ext g1).put hf g2) g3)
  | pick ps =>
    simp only [finish] at ef
    have hop := op_sound r o (f.ev _) e
    obtain ⟨p, hp, v', w', μ', h1, h2, h3, h4⟩ := hop
    obtain ⟨l1, hl1, hsub⟩ := bindL_some ef p hp
    obtain ⟨fr1, hf, rfl⟩ := put hl1
    unfold Oper.wp
    rw [h1]
    exact hnext (fr1, p.2) (hsub _ (by simp)) _ w' μ' h2 ((f.ext h2).put hf h3) h4
theorem opers_sound {rec : Rec} (hrec : RecOk P rec) {ops : Array Oper} {Q : Exit → Act → World → Prop} : ∀ (l : List Oper) (i : Nat) (fr : Fr) (h : H) (qs : List (Fr × H)) (μ : M) (a : Act) (w : World), ops.toList.drop i = l → opers? P rec nt ops.toList l fr h = some qs → FR μ nt fr a → HR B w0 μ h w →
    (∀ q ∈ qs, ∀ μ' a' w', Ext μ μ' → FR μ' nt q.1 a' → HR B w0 μ' q.2 w' → Q .normal a' w') → wpOps P ops Q (List.range' i l.length) a w
  | [], i, fr, h, qs, μ, a, w, hd, e, f, r, hQ => by
    have e' : some [(fr, h)] = some qs := e
    cases e'
    simpa [wpOps] using hQ (fr, h) (by simp) μ a w (Ext.refl _) f r
  | o :: l, i, fr, h, qs, μ, a, w, hd, e, f, r, hQ => by
    have e' : obL (oper? P rec nt ops.toList o fr h) (fun p => Prod.rec (fun fr h => opers? P rec nt ops.toList l fr h) p) = some qs := e
    obtain ⟨ps, hp, hps⟩ := obL_some e'
    have hi : ops[i]? = some o := by
      rw [← Array.getElem?_toList]
      have := List.getElem?_drop (xs := ops.toList) (i := i) (j := 0)
      rw [hd] at this
      simpa using this.symm
    have hd' : ops.toList.drop (i + 1) = l := by
      rw [← List.drop_drop, hd]; rfl
    simp only [List.length_cons, List.range'_succ, wpOps, hi]
    obtain ⟨b, hb, hp⟩ := ob_some hp
    rw [f.wanted hb]
    have go : ∀ p ∈ ps, ∀ μ' a' w', Ext μ μ' → FR μ' nt p.1 a' → HR B w0 μ' p.2 w' → wpOps P ops Q (List.range' (i + 1) l.length) a' w' := by
      intro p hpm μ' a' w' g1 g2 g3
      obtain ⟨l1, hl1, hsub⟩ := hps p hpm
      have hl1 : opers? P rec nt ops.toList l p.1 p.2 = some l1 := hl1
      exact opers_sound hrec l (i + 1) p.1 p.2 l1 μ' a' w' hd' hl1 g2 g3 (fun q hq μ2 a2 w2 k1 k2 k3 => hQ q (hsub q hq) μ2 a2 w2 (g1.trans k1) k2 k3)
    cases b with
    | false =>
      have hp : putH nt o.dst fr .undef h = some ps := hp
      rw [putH_eq] at hp
      obtain ⟨fr1, hf, hp⟩ := ob_some hp
      cases hp
      rw [if_neg (by simp)]
      exact go (fr1, h) (by simp) μ _ w (Ext.refl _) (f.put hf undef_rel) r
    | true =>
      obtain ⟨res, hres, hp⟩ := ob_some hp
      rw [if_pos rfl]
      exact .inl (finish_wp hrec r f o hres hp (fun q hq a' w' μ' g1 g2 g3 => go q hq μ' a' w' g1 g2 g3))
end Go.X
set_option linter.unusedVariables false
set_option linter.unusedSimpArgs false
set_option linter.unusedSectionVars false
namespace Go.X
open Go.RowKit
variable [Tab]
variable {P : Program} {B : Kp} {w0 : World} {μ μ' : M} {h h' : H} {w w' : World} {nt : Nat} {a : Act}
noncomputable def putAll (h : H) : List (Nat × Blk) → H
  | [] => h
  | p :: l => (putAll h l).put p.1 p.2
theorem putAll_next (h : H) : ∀ l, (putAll h l).next = h.next
  | [] => rfl
  | _ :: l => putAll_next h l
theorem HR.hideAll : ∀ (xs : List (Nat × Blk)) (B : Kp) (w0 : World) (h : H), HR B w0 μ h w → (∀ p ∈ xs, h.get p.1 = some p.2 ∧ own p.2 = true ∧ p.1 < limit) → (xs.map (·.1)).Nodup →
    ∃ B' w1 h2, HR B' w1 μ h2 w ∧ B'.res = B.res ∧ h2.next = h.next ∧ (∀ y, h2.get y = if y ∈ xs.map (·.1) then none else h.get y) ∧
      ∀ μ' h' w', Ext μ μ' → HR B' w1 μ' h' w' → (∀ p ∈ xs, p.1 < h'.next) → HR B w0 μ' (putAll h' xs) w'
  | [], B, w0, h, r, hx, hn => ⟨B, w0, h, r, rfl, rfl, fun y => by simp, fun μ' h' w' _ r' _ => r'⟩
  | p :: xs, B, w0, h, r, hx, hn => by
    obtain ⟨hg, ho, hlim⟩ := hx p (by simp)
    obtain ⟨l, hl⟩ := r.live hg
    have r1 := r.hide hg hl ho
    simp only [List.map_cons, List.nodup_cons] at hn
    obtain ⟨B', w1, h2, g1, g2, g3, g4, g5⟩ := HR.hideAll xs (B.with l.block) w (h.kill p.1) r1 (fun q hq => by
      obtain ⟨k1, k2, k3⟩ := hx q (by simp [hq])
      refine ⟨?_, k2, k3⟩
      rw [H.get_kill, if_neg]
      · exact k1
      · intro e
        exact hn.1 (e ▸ List.mem_map_of_mem hq)) hn.2
    refine ⟨B', w1, h2, g1, g2, g3, fun y => ?_, fun μ' h' w' he r' hlt => ?_⟩
    · rw [g4 y, H.get_kill]
      by_cases c1 : y ∈ xs.map (·.1)
      · rw [if_pos c1, if_pos (by simp only [List.map_cons, List.mem_cons]; exact .inr c1)]
      · rw [if_neg c1]
        by_cases c2 : y = p.1
        · rw [if_pos c2, if_pos (by simp [c2])]
        · rw [if_neg c2, if_neg]
          simp only [List.map_cons, List.mem_cons]
          intro hh
          rcases hh with hh | hh
          · exact c2 hh
          · exact c1 hh
    · have r2 := g5 μ' h' w' he r' (fun q hq => hlt q (by simp [hq]))
      exact r.unhide hg hl ho (by unfold limit at hlim; omega) (by rw [putAll_next]; exact hlt p (by simp)) he r2
theorem putAll_get (h : H) : ∀ (xs : List (Nat × Blk)), (∀ p ∈ xs, p.1 < limit) → (xs.map (·.1)).Nodup → ∀ y b, (putAll h xs).get y = some b ↔ (y, b) ∈ xs ∨ (y ∉ xs.map (·.1) ∧ h.get y = some b)
  | [], _, _, y, b => by simp [putAll]
  | p :: xs, hl, hn, y, b => by
    simp only [List.map_cons, List.nodup_cons] at hn
    have hlim := hl p (by simp)
    have ih := putAll_get h xs (fun q hq => hl q (by simp [hq])) hn.2 y b
    simp only [putAll]
    rw [H.get_put _ _ _ _ (by unfold limit at hlim; omega)]
    by_cases c : y = p.1
    · subst c
      rw [if_pos rfl]
      constructor
      · intro e; cases e; exact .inl (by simp)
      · rintro (hm | ⟨hm, _⟩)
        · simp only [List.mem_cons] at hm
          rcases hm with hm | hm
          · rw [← hm]
          · exact absurd (List.mem_map_of_mem (f := (·.1)) hm) hn.1
        · simp at hm
    · rw [if_neg c, ih]
      constructor
      · rintro (hm | ⟨hm, hg⟩)
        · exact .inl (by simp [hm])
        · exact .inr ⟨by simp only [List.map_cons, List.mem_cons]; rintro (e | e); exact c e; exact hm e, hg⟩
      · rintro (hm | ⟨hm, hg⟩)
        · simp only [List.mem_cons] at hm
          rcases hm with hm | hm
          · exact absurd (congrArg Prod.fst hm) c
          · exact .inl hm
        · exact .inr ⟨fun e => hm (by simp only [List.map_cons, List.mem_cons]; exact .inr e), hg⟩
def kdWant : Kd → Bool
  | .skip => false
  | _ => true
structure Plan (P : Program) (rec : Rec) (nt : Nat) (ops : Array Oper) (fr : Nat → Fr) (v : Nat → AV) (kd : Nat → Kd) (cnt : Nat → Nat) (β τ : Nat → H) (k : Nat) (anc : Nat → Nat → Prop) (E : Nat → Nat → H) (hEnd : H) : Prop where
  back : ∀ (i : Nat) (o : Oper), ops[i]? = some o → ∀ e ∈ o.after.toList, Region.binds .any e = true → e.on < i
  step : ∀ i m, anc i m → ∃ o e, ops[i]? = some o ∧ e ∈ o.after.toList ∧ Region.binds .any e = true ∧ (m = e.on ∨ anc e.on m)
  distinct : ∀ (i j : Nat) (o q : Oper) (d : Nat), i ≠ j → ops[i]? = some o → ops[j]? = some q → o.dst = some d → q.dst ≠ some d
  reads : ∀ (i m : Nat) (o q : Oper) (d : Nat), i ≠ m → ops[i]? = some o → ops[m]? = some q → q.dst = some d → d ∈ readsOf ops.toList o → (m < i ∧ anc i m) ∨ (i < m ∧ anc m i)
  want : ∀ (i : Nat) (o : Oper), ops[i]? = some o → wanted? ops.toList (fr i) o.guard = some (kdWant (kd i))
  put : ∀ (i : Nat) (o : Oper), ops[i]? = some o → put? nt o.dst (v i) (fr i) = some (fr (i + 1))
  skip : ∀ i, kd i = .skip → v i = .undef
  quiet : ∀ (i : Nat) (o : Oper), ops[i]? = some o → kd i = .quiet → quietOp o.op P = true ∧ ∀ j, j ≤ k → (∀ m, m < ops.size → kd m = .loud → cnt m < j → ¬ anc m i) → (∀ m, m < ops.size → kd m = .loud → j ≤ cnt m → ¬ anc i m) → ∃ u, op? o.op P (fr i) (E i j) = some (.val (v i) u)
  made : ∀ (i : Nat) (o : Oper) (x : Nat) (b : Blk), ops[i]? = some o → kd i = .made x b → alloc? o.op P (fr i) x = some (b, v i) ∧ x < limit ∧ own b = true
  ids : ∀ i m x b c, i < ops.size → m < ops.size → kd i = .made x b → kd m = .made x c → i = m
  loud : ∀ (i : Nat) (o : Oper), ops[i]? = some o → kd i = .loud → cnt i < k ∧ ∃ res, op? o.op P (fr i) (τ (cnt i)) = some res ∧ valOf P rec (τ (cnt i)) res = some (v i, β (cnt i + 1))
  inj : ∀ i m, i < ops.size → m < ops.size → kd i = .loud → kd m = .loud → cnt i = cnt m → i = m
  chain : ∀ i m, i < ops.size → m < ops.size → kd i = .loud → kd m = .loud → cnt i < cnt m → anc m i
  madeAnc : ∀ i m x b, i < ops.size → m < ops.size → kd i = .made x b → kd m = .loud → cnt i ≤ cnt m → anc m i
  aside : ∀ i x b, i < ops.size → kd i = .made x b → ∀ j, j ≤ cnt i → j ≤ k → (β j).get x = none
  madeK : ∀ i x b, i < ops.size → kd i = .made x b → cnt i ≤ k
  tauN : ∀ j, j ≤ k → (τ j).next = (β j).next
  tau : ∀ j, j ≤ k → ∀ y b, (τ j).get y = some b ↔ (∃ m, m < ops.size ∧ kd m = .made y b ∧ cnt m = j) ∨ ((∀ m c, m < ops.size → kd m = .made y c → cnt m ≠ j) ∧ (β j).get y = some b)
  EN : ∀ i j, (E i j).next = (β j).next
  Eg : ∀ i j y b, j ≤ k → (E i j).get y = some b → (∃ m, m < ops.size ∧ anc i m ∧ kd m = .made y b ∧ j ≤ cnt m) ∨ ((∀ m c, m < ops.size → kd m = .made y c → ¬ (anc i m ∧ j ≤ cnt m)) ∧ (β j).get y = some b)
  endN : hEnd.next = (β k).next
  endG : ∀ y b, hEnd.get y = some b → (∃ m, m < ops.size ∧ kd m = .made y b ∧ cnt m = k) ∨ ((∀ m c, m < ops.size → kd m = .made y c → cnt m ≠ k) ∧ (β k).get y = some b)
  all : ∀ j, j < k → ∃ i, i < ops.size ∧ kd i = .loud ∧ cnt i = j
variable {rec : Rec} {ops : Array Oper} {fr : Nat → Fr} {v : Nat → AV} {kd : Nat → Kd} {cnt : Nat → Nat} {β τ : Nat → H} {k : Nat} {anc : Nat → Nat → Prop} {E : Nat → Nat → H} {hEnd : H}
theorem some_lt {i : Nat} {o : Oper} (h : ops[i]? = some o) : i < ops.size := (Array.getElem?_eq_some_iff.1 h).1
theorem lt_some {i : Nat} (h : i < ops.size) : ∃ o, ops[i]? = some o := ⟨ops[i], by simp [h]⟩
theorem Plan.closed (p : Plan P rec nt ops fr v kd cnt β τ k anc E hEnd) {L : Nat → Prop} (hL : ∀ i o, ops[i]? = some o → L i → ∀ e ∈ o.after.toList, Region.binds .any e = true → L e.on) : ∀ (i : Nat), (∀ o, ops[i]? = some o → ∀ e ∈ o.after.toList, Region.binds .any e = true → L e.on) → ∀ m, anc i m → L m := by
  intro i
  induction i using Nat.strongRecOn with
  | _ i ih =>
    intro hi m hm
    obtain ⟨o, e, ho, he, hb, hme⟩ := p.step i m hm
    rcases hme with rfl | hme
    · exact hi o ho e he hb
    · exact ih e.on (p.back i o ho e he hb) (fun o' ho' => hL e.on o' ho' (hi o ho e he hb)) m hme
theorem Plan.frame (p : Plan P rec nt ops fr v kd cnt β τ k anc E hEnd) : ∀ (i : Nat), i ≤ ops.size → ∀ t, (∃ m o, m < i ∧ ops[m]? = some o ∧ o.dst = some t ∧ (fr i).get t = some (v m)) ∨ ((∀ m o, m < i → ops[m]? = some o → o.dst ≠ some t) ∧ (fr i).get t = (fr 0).get t)
  | 0, _, t => .inr ⟨fun m o hm => by omega, rfl⟩
  | i + 1, hi, t => by
    obtain ⟨o, ho⟩ := lt_some (ops := ops) (i := i) (by omega)
    have hput := p.put i o ho
    rcases put_some hput with ⟨hd, he⟩ | ⟨d, hd, h1, h2, he⟩
    · rw [he]
      rcases p.frame i (by omega) t with ⟨m, q, hm, hq, hqd, hg⟩ | ⟨hn, hg⟩
      · exact .inl ⟨m, q, by omega, hq, hqd, hg⟩
      · refine .inr ⟨fun m q hm hq hqd => ?_, hg⟩
        by_cases c : m = i
        · subst c; rw [ho] at hq; cases hq; rw [hd] at hqd; simp at hqd
        · exact hn m q (by omega) hq hqd
    · rw [he, T.get_put _ _ _ _ (Nat.lt_of_lt_of_le h2 (by unfold limit; omega))]
      by_cases c : t = d
      · subst c
        exact .inl ⟨i, o, by omega, ho, hd, by rw [if_pos rfl]⟩
      · rw [if_neg c]
        rcases p.frame i (by omega) t with ⟨m, q, hm, hq, hqd, hg⟩ | ⟨hn, hg⟩
        · exact .inl ⟨m, q, by omega, hq, hqd, hg⟩
        · refine .inr ⟨fun m q hm hq hqd => ?_, hg⟩
          by_cases c2 : m = i
          · subst c2; rw [ho] at hq; cases hq; rw [hd] at hqd; simp at hqd; exact c hqd.symm
          · exact hn m q (by omega) hq hqd
structure Cfg (B : Kp) (w0 : World) (nt : Nat) (ops : Array Oper) (fr : Nat → Fr) (v : Nat → AV) (kd : Nat → Kd) (cnt : Nat → Nat) (β : Nat → H) (k : Nat) (L : Nat → Prop) (j : Nat) (μ : M) (h : H) (a : Act) (w : World) : Prop where
  jk : j ≤ k
  louds : ∀ i, i < ops.size → kd i = .loud → (L i ↔ cnt i < j)
  closed : ∀ (i : Nat) (o : Oper), ops[i]? = some o → L i → ∀ e ∈ o.after.toList, Region.binds .any e = true → L e.on
  next : h.next = (β j).next
  get : ∀ y b, h.get y = some b ↔ (∃ m, m < ops.size ∧ L m ∧ kd m = .made y b ∧ j ≤ cnt m) ∨ ((∀ m c, m < ops.size → L m → kd m = .made y c → ¬ j ≤ cnt m) ∧ (β j).get y = some b)
  hr : HR (B.aside fun x => B.res x ∨ ∃ m b, m < ops.size ∧ kd m = .made x b ∧ ¬ L m) w0 μ h w
  size : a.tmps.size = nt
  defers : a.defers = []
  done : ∀ (i : Nat) (o : Oper) (d : Nat), ops[i]? = some o → L i → o.dst = some d → ∃ v', a.tmps[d]? = some v' ∧ vrel μ (v i) v'
  old : ∀ (t : Nat) (u : AV), (∀ (i : Nat) (o : Oper), ops[i]? = some o → L i → o.dst ≠ some t) → (fr 0).get t = some u → ∃ v', a.tmps[t]? = some v' ∧ vrel μ u v'
theorem Cfg.known (p : Plan P rec nt ops fr v kd cnt β τ k anc E hEnd) {L : Nat → Prop} {j : Nat} (c : Cfg B w0 nt ops fr v kd cnt β k L j μ h a w) {i : Nat} {o : Oper} (ho : ops[i]? = some o) (hi : ¬ L i)
    (hdeps : ∀ e ∈ o.after.toList, Region.binds .any e = true → L e.on) {t : Nat} {u : AV} (ht : t ∈ readsOf ops.toList o) (hg : (fr i).get t = some u) : ∃ v', a.tmps[t]? = some v' ∧ vrel μ u v' := by
  have hlt := some_lt ho
  have hanc : ∀ m, anc i m → L m := p.closed c.closed i (fun o' ho' => by rw [ho] at ho'; cases ho'; exact hdeps)
  have hdesc : ∀ m, anc m i → ¬ L m := fun m hm hLm => hi (p.closed c.closed m (fun o' ho' => c.closed m o' ho' hLm) i hm)
  rcases p.frame i (by omega) t with ⟨m, q, hm, hq, hqd, hgm⟩ | ⟨hn, hg0⟩
  · rw [hgm] at hg; cases hg
    rcases p.reads i m o q t (by omega) ho hq hqd ht with ⟨_, h2⟩ | ⟨h1, _⟩
    · exact c.done m q t hq (hanc m h2) hqd
    · omega
  · rw [hg0] at hg
    refine c.old t u (fun m q hq hLm hqd => ?_) hg
    by_cases e : m = i
    · subst e; exact hi hLm
    · rcases p.reads i m o q t (fun e2 => e e2.symm) ho hq hqd ht with ⟨h1, _⟩ | ⟨_, h2⟩
      · exact hn m q h1 hq hqd
      · exact hdesc m h2 hLm
theorem tmp_reads {o : Oper} {t : Nat} (h : Operand.tmp t ∈ o.op.operands.toList) : t ∈ readsOf ops.toList o := by
  unfold readsOf
  refine List.mem_append.2 (.inl (List.mem_filterMap.2 ⟨_, h, rfl⟩))
theorem guard_reads {o g : Oper} {j : Nat} {b : Bool} {d : Nat} (hg : o.guard = some (j, b)) (hj : ops[j]? = some g) (hd : g.dst = some d) : d ∈ readsOf ops.toList o := by
  unfold readsOf
  refine List.mem_append.2 (.inr ?_)
  rw [hg]
  simp [hj, hd]
theorem Cfg.put_done (p : Plan P rec nt ops fr v kd cnt β τ k anc E hEnd) {L : Nat → Prop} {j : Nat} (c : Cfg B w0 nt ops fr v kd cnt β k L j μ h a w) {i : Nat} {o : Oper} (ho : ops[i]? = some o) (he : Ext μ μ') {v' : Value} (hv : vrel μ' (v i) v') :
    (a.put o.dst v').tmps.size = nt ∧ (a.put o.dst v').defers = [] ∧ (∀ m q d, ops[m]? = some q → (L m ∨ m = i) → q.dst = some d → ∃ u, (a.put o.dst v').tmps[d]? = some u ∧ vrel μ' (v m) u) ∧
    (∀ t u, (∀ m q, ops[m]? = some q → (L m ∨ m = i) → q.dst ≠ some t) → (fr 0).get t = some u → ∃ v2, (a.put o.dst v').tmps[t]? = some v2 ∧ vrel μ' u v2) := by
  have hput := p.put i o ho
  rcases put_some hput with ⟨hd, _⟩ | ⟨d, hd, h1, h2, _⟩
  · simp only [hd, Act.put]
    refine ⟨c.size, c.defers, fun m q d hq hm hqd => ?_, fun t u hn hg => ?_⟩
    · rcases hm with hm | rfl
      · obtain ⟨u, g1, g2⟩ := c.done m q d hq hm hqd
        exact ⟨u, g1, vrel.ext he _ _ g2⟩
      · rw [ho] at hq; cases hq; rw [hd] at hqd; simp at hqd
    · obtain ⟨u2, g1, g2⟩ := c.old t u (fun m q hq hm => hn m q hq (.inl hm)) hg
      exact ⟨u2, g1, vrel.ext he _ _ g2⟩
  · simp only [hd, Act.put, Array.size_setIfInBounds, Array.getElem?_setIfInBounds]
    refine ⟨c.size, c.defers, fun m q d2 hq hm hqd => ?_, fun t u hn hg => ?_⟩
    · by_cases e : m = i
      · subst e
        rw [ho] at hq; cases hq
        rw [hd] at hqd; cases hqd
        rw [if_pos rfl, if_pos (by rw [c.size]; exact h1)]
        exact ⟨v', rfl, hv⟩
      · have hm' : L m := hm.resolve_right e
        obtain ⟨u, g1, g2⟩ := c.done m q d2 hq hm' hqd
        have hne : d ≠ d2 := by
          intro e2; subst e2
          exact p.distinct i m o q d (fun e3 => e e3.symm) ho hq hd hqd
        rw [if_neg hne]
        exact ⟨u, g1, vrel.ext he _ _ g2⟩
    · have hne : d ≠ t := by
        intro e2; subst e2
        exact hn i o ho (.inr rfl) hd
      rw [if_neg hne]
      obtain ⟨u2, g1, g2⟩ := c.old t u (fun m q hq hm => hn m q hq (.inl hm)) hg
      exact ⟨u2, g1, vrel.ext he _ _ g2⟩
theorem kd_loud_ne {i : Nat} (h : kd i = .loud) : ∀ x b, kd i ≠ .made x b := by intro x b e; rw [h] at e; cases e
theorem Cfg.same (p : Plan P rec nt ops fr v kd cnt β τ k anc E hEnd) {L : Nat → Prop} {j : Nat} (c : Cfg B w0 nt ops fr v kd cnt β k L j μ h a w) {i : Nat} {o : Oper} (ho : ops[i]? = some o)
    (hdeps : ∀ e ∈ o.after.toList, Region.binds .any e = true → L e.on) (hk : kd i = .skip ∨ kd i = .quiet) {v' : Value} (hv : vrel μ (v i) v') :
    Cfg B w0 nt ops fr v kd cnt β k (fun m => L m ∨ m = i) j μ h (a.put o.dst v') w := by
  have hnl : kd i ≠ .loud := by rcases hk with e | e <;> rw [e] <;> simp
  have hnm : ∀ x b, kd i ≠ .made x b := by rcases hk with e | e <;> rw [e] <;> simp
  obtain ⟨f1, f2, f3, f4⟩ := c.put_done p ho (Ext.refl μ) hv
  refine ⟨c.jk, fun m hm hmk => ?_, fun m q hq hm e he hb => ?_, c.next, fun y b => ?_, ?_, f1, f2, f3, f4⟩
  · rw [← c.louds m hm hmk]
    constructor
    · rintro (hh | rfl)
      · exact hh
      · exact absurd hmk hnl
    · exact .inl
  · rcases hm with hm | rfl
    · exact .inl (c.closed m q hq hm e he hb)
    · rw [ho] at hq; cases hq; exact .inl (hdeps e he hb)
  · rw [c.get y b]
    constructor
    · rintro (⟨m, h1, h2, h3, h4⟩ | ⟨h1, h2⟩)
      · exact .inl ⟨m, h1, .inl h2, h3, h4⟩
      · refine .inr ⟨fun m c2 hm hL hmk => ?_, h2⟩
        rcases hL with hL | rfl
        · exact h1 m c2 hm hL hmk
        · exact absurd hmk (hnm _ _)
    · rintro (⟨m, h1, h2, h3, h4⟩ | ⟨h1, h2⟩)
      · rcases h2 with h2 | rfl
        · exact .inl ⟨m, h1, h2, h3, h4⟩
        · exact absurd h3 (hnm _ _)
      · exact .inr ⟨fun m c2 hm hL hmk => h1 m c2 hm (.inl hL) hmk, h2⟩
  · refine (c.hr.weaken (h' := h) (Nat.le_refl _) (R := fun x => B.res x ∨ ∃ m b, m < ops.size ∧ kd m = .made x b ∧ ¬ (L m ∨ m = i)) ?_ (fun y b hy => hy))
    intro x hx
    refine c.hr.res x ?_
    rcases hx with hx | ⟨m, b, h1, h2, h3⟩
    · exact .inl hx
    · exact .inr ⟨m, b, h1, h2, fun hL => h3 (.inl hL)⟩
theorem Cfg.make (p : Plan P rec nt ops fr v kd cnt β τ k anc E hEnd) {L : Nat → Prop} {j : Nat} (c : Cfg B w0 nt ops fr v kd cnt β k L j μ h a w) {i : Nat} {o : Oper} (ho : ops[i]? = some o) (hi : ¬ L i)
    (hdeps : ∀ e ∈ o.after.toList, Region.binds .any e = true → L e.on) {x : Nat} {b : Blk} (hk : kd i = .made x b) (hBr : ¬ B.res x) {next : Act → World → Prop} {Q : Exit → Act → World → Prop}
    (hnext : ∀ a' w' μ' h', Ext μ μ' → Cfg B w0 nt ops fr v kd cnt β k (fun m => L m ∨ m = i) j μ' h' a' w' → next a' w') : o.wp P a w next Q := by
  have hlt := some_lt ho
  obtain ⟨hal, hlim, hown⟩ := p.made i o x b ho hk
  have hev : Ev μ (fr i) a.eval o.op.operands.toList := by
    intro y hy u hu
    refine ev_known (fun t u' ht hg => ?_) hu
    subst ht
    exact c.known p ho hi hdeps (tmp_reads hy) hg
  have hres0 := c.hr.res x (.inr ⟨i, b, hlt, hk, hi⟩)
  have hj : j ≤ cnt i := by
    rcases Nat.lt_or_ge (cnt i) j with hlt2 | hge
    · exfalso
      obtain ⟨m, hm, hmk, hmc⟩ := p.all (cnt i) (Nat.lt_of_lt_of_le hlt2 c.jk)
      have hLm := (c.louds m hm hmk).2 (by omega)
      have ha := p.madeAnc i m x b hlt hm hk hmk (by omega)
      exact hi (p.closed c.closed m (fun o' ho' => c.closed m o' ho' hLm) i ha)
    · exact hge
  have hfree : h.get x = none := by
    cases hg : h.get x with
    | none => rfl
    | some b2 =>
      exfalso
      rcases (c.get x b2).1 hg with ⟨m, h1, h2, h3, _⟩ | ⟨_, h2⟩
      · have := p.ids i m x b b2 hlt h1 hk h3
        subst this; exact hi h2
      · rw [p.aside i x b hlt hk j hj c.jk] at h2; simp at h2
  have r1 := c.hr.weaken (h' := h) (Nat.le_refl _) (R := fun y => B.res y ∨ ∃ m b, m < ops.size ∧ kd m = .made y b ∧ ¬ (L m ∨ m = i)) (fun y hy => c.hr.res y (by
    rcases hy with hy | ⟨m, b, h1, h2, h3⟩
    · exact .inl hy
    · exact .inr ⟨m, b, h1, h2, fun hL => h3 (.inl hL)⟩)) (fun y b hy => hy)
  · obtain ⟨_, v', w', μ', g1, g2, g3, g4⟩ := made_sound r1 o hev hal hfree hres0.2 hres0.1 hlim (by
      rintro (hh | ⟨m, b2, h1, h2, h3⟩)
      · exact hBr hh
      · exact h3 (.inr (p.ids m i x b2 b h1 hlt h2 hk)))
    unfold Oper.wp
    rw [g1]
    obtain ⟨f1, f2, f3, f4⟩ := c.put_done p ho g2 g3
    refine hnext _ _ μ' (h.put x b) g2 ⟨c.jk, fun m hm hmk => ?_, fun m q hq hm e he hb => ?_, c.next, fun y b2 => ?_, g4, f1, f2, f3, f4⟩
    · rw [← c.louds m hm hmk]
      constructor
      · rintro (hh | rfl)
        · exact hh
        · rw [hk] at hmk; cases hmk
      · exact .inl
    · rcases hm with hm | rfl
      · exact .inl (c.closed m q hq hm e he hb)
      · rw [ho] at hq; cases hq; exact .inl (hdeps e he hb)
    · rw [H.get_put _ _ _ _ (by unfold limit at hlim; omega)]
      by_cases e : y = x
      · subst e
        rw [if_pos rfl]
        constructor
        · intro e2; cases e2; exact .inl ⟨i, hlt, .inr rfl, hk, hj⟩
        · rintro (⟨m, h1, h2, h3, h4⟩ | ⟨h1, h2⟩)
          · have := p.ids m i y b2 b h1 hlt h3 hk
            subst this
            rw [hk] at h3; cases h3; rfl
          · exact absurd hj (h1 i b hlt (.inr rfl) hk)
      · rw [if_neg e, c.get y b2]
        constructor
        · rintro (⟨m, h1, h2, h3, h4⟩ | ⟨h1, h2⟩)
          · exact .inl ⟨m, h1, .inl h2, h3, h4⟩
          · refine .inr ⟨fun m c2 hm hL hmk => ?_, h2⟩
            rcases hL with hL | rfl
            · exact h1 m c2 hm hL hmk
            · rw [hk] at hmk; cases hmk; exact absurd rfl e
        · rintro (⟨m, h1, h2, h3, h4⟩ | ⟨h1, h2⟩)
          · rcases h2 with h2 | rfl
            · exact .inl ⟨m, h1, h2, h3, h4⟩
            · rw [hk] at h3; cases h3; exact absurd rfl e
          · exact .inr ⟨fun m c2 hm hL hmk => h1 m c2 hm (.inl hL) hmk, h2⟩
open Classical in
noncomputable def extras (kd : Nat → Kd) (cnt : Nat → Nat) (L : Nat → Prop) (j : Nat) : Nat → List (Nat × Blk)
  | 0 => []
  | n + 1 => (match kd n with
    | .made x b => if L n ∧ j < cnt n then [(x, b)] else []
    | _ => []) ++ extras kd cnt L j n
theorem mem_extras {L : Nat → Prop} {j : Nat} {x : Nat} {b : Blk} : ∀ {n : Nat}, (x, b) ∈ extras kd cnt L j n ↔ ∃ m, m < n ∧ kd m = .made x b ∧ L m ∧ j < cnt m
  | 0 => by simp [extras]
  | n + 1 => by
    simp only [extras, List.mem_append, mem_extras (n := n)]
    constructor
    · rintro (hh | ⟨m, h1, h2, h3, h4⟩)
      · cases hk : kd n with
        | made y c =>
          rw [hk] at hh
          simp only at hh
          split at hh
          · rename_i hc
            simp only [List.mem_singleton, Prod.mk.injEq] at hh
            obtain ⟨rfl, rfl⟩ := hh
            exact ⟨n, by omega, hk, hc.1, hc.2⟩
          · simp at hh
        | skip => rw [hk] at hh; simp at hh
        | quiet => rw [hk] at hh; simp at hh
        | loud => rw [hk] at hh; simp at hh
      · exact ⟨m, by omega, h2, h3, h4⟩
    · rintro ⟨m, h1, h2, h3, h4⟩
      by_cases e : m = n
      · subst e
        left
        rw [h2]
        simp only
        rw [if_pos ⟨h3, h4⟩]
        simp
      · exact .inr ⟨m, by omega, h2, h3, h4⟩
theorem nodup_extras {L : Nat → Prop} {j : Nat} (hids : ∀ i m x b c, i < ops.size → m < ops.size → kd i = .made x b → kd m = .made x c → i = m) : ∀ {n : Nat}, n ≤ ops.size → ((extras kd cnt L j n).map (·.1)).Nodup
  | 0, _ => by simp [extras]
  | n + 1, hn => by
    have ih := nodup_extras (L := L) (j := j) hids (n := n) (by omega)
    simp only [extras]
    cases hk : kd n with
    | made y c =>
      simp only
      split
      · simp only [List.cons_append, List.nil_append, List.map_cons, List.nodup_cons]
        refine ⟨?_, ih⟩
        intro hm
        obtain ⟨⟨y', c'⟩, hp, rfl⟩ := List.mem_map.1 hm
        obtain ⟨m, h1, h2, _, _⟩ := mem_extras.1 hp
        have := hids n m y' c c' (by omega) (by omega) hk h2
        omega
      · simpa using ih
    | skip => simpa using ih
    | quiet => simpa using ih
    | loud => simpa using ih
theorem Cfg.loudStep (hrec : RecOk P rec) (p : Plan P rec nt ops fr v kd cnt β τ k anc E hEnd) {L : Nat → Prop} {j : Nat} (c : Cfg B w0 nt ops fr v kd cnt β k L j μ h a w) {i : Nat} {o : Oper} (ho : ops[i]? = some o) (hi : ¬ L i)
    (hdeps : ∀ e ∈ o.after.toList, Region.binds .any e = true → L e.on) (hk : kd i = .loud) {next : Act → World → Prop} {Q : Exit → Act → World → Prop}
    (hnext : ∀ a' w' μ' h', Ext μ μ' → Cfg B w0 nt ops fr v kd cnt β k (fun m => L m ∨ m = i) (j + 1) μ' h' a' w' → next a' w') : o.wp P a w next Q := by
  have hlt := some_lt ho
  have hanc : ∀ m, anc i m → L m := p.closed c.closed i (fun o' ho' => by rw [ho] at ho'; cases ho'; exact hdeps)
  obtain ⟨hck, res, hres, hval⟩ := p.loud i o ho hk
  have hj : j = cnt i := by
    have h1 : ¬ cnt i < j := fun hh => hi ((c.louds i hlt hk).2 hh)
    rcases Nat.lt_or_ge j (cnt i) with h2 | h2
    · exfalso
      obtain ⟨m, hm, hmk, hmc⟩ := p.all j (by omega)
      have := (c.louds m hm hmk).1 (hanc m (p.chain m i hm hlt hmk hk (by omega)))
      omega
    · omega
  subst hj
  have hev : Ev μ (fr i) a.eval o.op.operands.toList := by
    intro y hy u hu
    refine ev_known (fun t u' ht hg => ?_) hu
    subst ht
    exact c.known p ho hi hdeps (tmp_reads hy) hg
  have hxs : ∀ q ∈ extras kd cnt L (cnt i) ops.size, h.get q.1 = some q.2 ∧ own q.2 = true ∧ q.1 < limit := by
    rintro ⟨x, b⟩ hq
    obtain ⟨m, h1, h2, h3, h4⟩ := mem_extras.1 hq
    obtain ⟨o2, ho2⟩ := lt_some h1
    obtain ⟨_, k2, k3⟩ := p.made m o2 x b ho2 h2
    exact ⟨(c.get x b).2 (.inl ⟨m, h1, h3, h2, by omega⟩), k3, k2⟩
  obtain ⟨B', w1, h2, g1, g2, g3, g4, g5⟩ := HR.hideAll (extras kd cnt L (cnt i) ops.size) _ _ h c.hr hxs (nodup_extras p.ids (Nat.le_refl _))
  have hτ : HR B' w1 μ (τ (cnt i)) w := by
    refine g1.congr (by rw [p.tauN _ (by omega), g3, c.next]) (fun y => ?_)
    rw [g4 y]
    apply Option.ext
    intro b
    rw [p.tau (cnt i) (by omega) y b]
    split
    · rename_i hy
      obtain ⟨⟨y', b'⟩, hq, rfl⟩ := List.mem_map.1 hy
      obtain ⟨m, k1, k2, k3, k4⟩ := mem_extras.1 hq
      simp only [reduceCtorEq, iff_false]
      rintro (⟨m', q1, q2, q3⟩ | ⟨_, q2⟩)
      · have := p.ids m m' y' b' b k1 q1 k2 q2
        subst this; omega
      · rw [p.aside m y' b' k1 k2 (cnt i) (by omega) (by omega)] at q2; simp at q2
    · rename_i hy
      rw [c.get y b]
      constructor
      · rintro (⟨m, q1, q2, q3⟩ | ⟨q1, q2⟩)
        · exact .inl ⟨m, q1, hanc m (p.madeAnc m i y b q1 hlt q2 hk (by omega)), q2, by omega⟩
        · refine .inr ⟨fun m c2 hm hL hmk hle => ?_, q2⟩
          rcases Nat.lt_or_ge (cnt i) (cnt m) with hh | hh
          · exact hy (List.mem_map.2 ⟨(y, c2), mem_extras.2 ⟨m, hm, hmk, hL, hh⟩, rfl⟩)
          · exact q1 m c2 hm hmk (by omega)
      · rintro (⟨m, q1, q2, q3, q4⟩ | ⟨q1, q2⟩)
        · rcases Nat.lt_or_ge (cnt i) (cnt m) with hh | hh
          · exact absurd (List.mem_map.2 ⟨(y, b), mem_extras.2 ⟨m, q1, q3, q2, hh⟩, rfl⟩) hy
          · exact .inl ⟨m, q1, q3, by omega⟩
        · refine .inr ⟨fun m c2 hm hmk hc => ?_, q2⟩
          exact q1 m c2 hm (hanc m (p.madeAnc m i y c2 hm hlt hmk hk (by omega))) hmk (by omega)
  refine oper_wp hrec hτ o hev hres hval ?_
  intro v' w' μ' e1 e2 r'
  have hlow : ∀ q ∈ extras kd cnt L (cnt i) ops.size, q.1 < (β (cnt i + 1)).next := by
    intro q hq
    obtain ⟨l, hl⟩ := c.hr.live (hxs q hq).1
    have hl2 := e1 _ _ hl
    rcases Nat.lt_or_ge q.1 (β (cnt i + 1)).next with hh | hh
    · exact hh
    · have := (r'.fresh q.1 hh).2
      rw [hl2] at this; simp at this
  have r3 := g5 μ' _ w' e1 r' hlow
  obtain ⟨f1, f2, f3, f4⟩ := c.put_done p ho e1 e2
  refine hnext _ _ μ' (putAll (β (cnt i + 1)) (extras kd cnt L (cnt i) ops.size)) e1 ⟨by omega, fun m hm hmk => ?_, fun m q hq hm e he hb => ?_, putAll_next _ _, fun y b => ?_, ?_, f1, f2, f3, f4⟩
  · constructor
    · rintro (hh | rfl)
      · have := (c.louds m hm hmk).1 hh; omega
      · omega
    · intro hh
      by_cases e : cnt m = cnt i
      · exact .inr (p.inj m i hm hlt hmk hk e)
      · exact .inl ((c.louds m hm hmk).2 (by omega))
  · rcases hm with hm | rfl
    · exact .inl (c.closed m q hq hm e he hb)
    · rw [ho] at hq; cases hq; exact .inl (hdeps e he hb)
  · rw [putAll_get _ _ (fun q hq => (hxs q hq).2.2) (nodup_extras p.ids (Nat.le_refl _))]
    constructor
    · rintro (hm | ⟨hm, hg⟩)
      · obtain ⟨m, q1, q2, q3, q4⟩ := mem_extras.1 hm
        exact .inl ⟨m, q1, .inl q3, q2, by omega⟩
      · refine .inr ⟨fun m c2 hm2 hL hmk hle => ?_, hg⟩
        rcases hL with hL | rfl
        · exact hm (List.mem_map.2 ⟨(y, c2), mem_extras.2 ⟨m, hm2, hmk, hL, by omega⟩, rfl⟩)
        · rw [hk] at hmk; cases hmk
    · rintro (⟨m, q1, q2, q3, q4⟩ | ⟨q1, q2⟩)
      · rcases q2 with q2 | rfl
        · exact .inl (mem_extras.2 ⟨m, q1, q3, q2, by omega⟩)
        · rw [hk] at q3; cases q3
      · refine .inr ⟨fun hm => ?_, q2⟩
        obtain ⟨⟨y', b'⟩, hq, rfl⟩ := List.mem_map.1 hm
        obtain ⟨m, k1, k2, k3, k4⟩ := mem_extras.1 hq
        exact q1 m b' k1 (.inl k3) k2 (by omega)
  · refine r3.weaken (h' := putAll (β (cnt i + 1)) (extras kd cnt L (cnt i) ops.size)) (Nat.le_refl _) (fun x hx => r3.res x ?_) (fun y b hy => hy)
    rcases hx with hx | ⟨m, b, q1, q2, q3⟩
    · exact .inl hx
    · exact .inr ⟨m, b, q1, q2, fun hL => q3 (.inl hL)⟩
theorem Cfg.quietStep (p : Plan P rec nt ops fr v kd cnt β τ k anc E hEnd) {L : Nat → Prop} {j : Nat} (c : Cfg B w0 nt ops fr v kd cnt β k L j μ h a w) {i : Nat} {o : Oper} (ho : ops[i]? = some o) (hi : ¬ L i)
    (hdeps : ∀ e ∈ o.after.toList, Region.binds .any e = true → L e.on) (hk : kd i = .quiet) {next : Act → World → Prop} {Q : Exit → Act → World → Prop}
    (hnext : ∀ a' w' μ' h', Ext μ μ' → Cfg B w0 nt ops fr v kd cnt β k (fun m => L m ∨ m = i) j μ' h' a' w' → next a' w') : o.wp P a w next Q := by
  have hlt := some_lt ho
  have hanc : ∀ m, anc i m → L m := p.closed c.closed i (fun o' ho' => by rw [ho] at ho'; cases ho'; exact hdeps)
  have hdesc : ∀ m, anc m i → ¬ L m := fun m hm hLm => hi (p.closed c.closed m (fun o' ho' => c.closed m o' ho' hLm) i hm)
  have hev : Ev μ (fr i) a.eval o.op.operands.toList := by
    intro y hy u hu
    refine ev_known (fun t u' ht hg => ?_) hu
    subst ht
    exact c.known p ho hi hdeps (tmp_reads hy) hg
  obtain ⟨hq, hall⟩ := p.quiet i o ho hk
  obtain ⟨u, hop⟩ := hall j c.jk (fun m hm hmk hc ha => hdesc m ha ((c.louds m hm hmk).2 hc)) (fun m hm hmk hc ha => by
    have := (c.louds m hm hmk).1 (hanc m ha); omega)
  have rE := c.hr.weaken (h' := E i j) (by rw [p.EN, c.next]; exact Nat.le_refl _) (R := fun x => B.res x ∨ ∃ m b, m < ops.size ∧ kd m = .made x b ∧ ¬ L m) (fun x hx => by
    have := c.hr.res x hx
    rw [p.EN, ← c.next]; exact this) (fun y b hy => by
    rw [c.get y b]
    rcases p.Eg i j y b c.jk hy with ⟨m, h1, h2, h3, h4⟩ | ⟨h1, h2⟩
    · exact .inl ⟨m, h1, hanc m h2, h3, h4⟩
    · refine .inr ⟨fun m c2 hm hL hmk hle => ?_, h2⟩
      rw [p.aside m y c2 hm hmk j hle c.jk] at h2; simp at h2)
  obtain ⟨v1, v', h1, h2, h3⟩ := quiet_sound rE o hq hev hop
  cases h1
  unfold Oper.wp
  rw [h2]
  exact hnext _ _ μ h (Ext.refl _) (c.same p ho hdeps (.inr hk) h3)
end Go.X
set_option linter.unusedVariables false
set_option linter.unusedSimpArgs false
set_option linter.unusedSectionVars false
namespace Go.X
open Go.RowKit
variable [Tab]
variable {P : Program} {B : Kp} {w0 : World} {μ μ' : M} {h h' : H} {w w' : World} {nt : Nat} {a : Act}
variable {rec : Rec} {ops : Array Oper} {fr : Nat → Fr} {v : Nat → AV} {kd : Nat → Kd} {cnt : Nat → Nat} {β τ : Nat → H} {k : Nat} {anc : Nat → Nat → Prop} {E : Nat → Nat → H} {hEnd : H}
theorem Cfg.congr {L L' : Nat → Prop} (hL : ∀ i, i < ops.size → (L i ↔ L' i)) (hb : ∀ (i : Nat) (o : Oper), ops[i]? = some o → ∀ e ∈ o.after.toList, Region.binds .any e = true → e.on < i) {j : Nat} (c : Cfg B w0 nt ops fr v kd cnt β k L j μ h a w) : Cfg B w0 nt ops fr v kd cnt β k L' j μ h a w := by
  refine ⟨c.jk, fun i hi hk => ?_, fun i o ho hl e he hbd => ?_, c.next, fun y b => ?_, ?_, c.size, c.defers, fun i o d ho hl hd => ?_, fun t u hn hg => ?_⟩
  · rw [← hL i hi]; exact c.louds i hi hk
  · have h1 := some_lt ho
    have h2 := hb i o ho e he hbd
    exact (hL e.on (by omega)).1 (c.closed i o ho ((hL i h1).2 hl) e he hbd)
  · rw [c.get y b]
    constructor
    · rintro (⟨m, h1, h2, h3⟩ | ⟨h1, h2⟩)
      · exact .inl ⟨m, h1, (hL m h1).1 h2, h3⟩
      · exact .inr ⟨fun m c2 hm hl => h1 m c2 hm ((hL m hm).2 hl), h2⟩
    · rintro (⟨m, h1, h2, h3⟩ | ⟨h1, h2⟩)
      · exact .inl ⟨m, h1, (hL m h1).2 h2, h3⟩
      · exact .inr ⟨fun m c2 hm hl => h1 m c2 hm ((hL m hm).1 hl), h2⟩
  · refine c.hr.weaken (h' := h) (Nat.le_refl _) (R := fun x => B.res x ∨ ∃ m b, m < ops.size ∧ kd m = .made x b ∧ ¬ L' m) (fun x hx => c.hr.res x ?_) (fun y b hy => hy)
    rcases hx with hx | ⟨m, b, h1, h2, h3⟩
    · exact .inl hx
    · exact .inr ⟨m, b, h1, h2, fun hl => h3 ((hL m h1).1 hl)⟩
  · exact c.done i o d ho ((hL i (some_lt ho)).2 hl) hd
  · exact c.old t u (fun i o ho hl => hn i o ho ((hL i (some_lt ho)).1 hl)) hg
theorem Cfg.finish (p : Plan P rec nt ops fr v kd cnt β τ k anc E hEnd) {L : Nat → Prop} {j : Nat} (c : Cfg B w0 nt ops fr v kd cnt β k L j μ h a w) (hall : ∀ i, i < ops.size → L i) : FR μ nt (fr ops.size) a ∧ HR B w0 μ hEnd w := by
  have hj : j = k := by
    rcases Nat.lt_or_ge j k with h1 | h1
    · obtain ⟨i, h2, h3, h4⟩ := p.all j h1
      have := (c.louds i h2 h3).1 (hall i h2)
      omega
    · have := c.jk; omega
  subst hj
  refine ⟨⟨c.size, c.defers, fun t u ht => ?_⟩, ?_⟩
  · rcases p.frame ops.size (Nat.le_refl _) t with ⟨m, o, h1, h2, h3, h4⟩ | ⟨h1, h2⟩
    · rw [h4] at ht; cases ht
      exact c.done m o t h2 (hall m h1) h3
    · rw [h2] at ht
      exact c.old t u (fun i o ho _ => h1 i o (some_lt ho) ho) ht
  · refine c.hr.weaken (h' := hEnd) (by rw [p.endN, c.next]; exact Nat.le_refl _) (R := B.res) (fun x hx => ?_) (fun y b hy => ?_)
    · have := c.hr.res x (.inl hx)
      rw [p.endN, ← c.next]; exact this
    · rw [c.get y b]
      rcases p.endG y b hy with ⟨m, h1, h2, h3⟩ | ⟨h1, h2⟩
      · exact .inl ⟨m, h1, hall m h1, h2, by omega⟩
      · refine .inr ⟨fun m c2 hm _ hmk hle => ?_, h2⟩
        have := p.madeK m y c2 hm hmk
        exact h1 m c2 hm hmk (by omega)
theorem ready_nil {listed : Array Bool} (hb : ∀ (i : Nat) (o : Oper), ops[i]? = some o → ∀ e ∈ o.after.toList, Region.binds .any e = true → e.on < i) (hs : listed.size = ops.size) (hr : Region.ready .any ops listed = []) : ∀ i, i < ops.size → listed.getD i false = true := by
  intro i
  induction i using Nat.strongRecOn with
  | _ i ih =>
    intro hi
    cases hc : listed.getD i false with
    | true => rfl
    | false =>
      exfalso
      have : i ∈ Region.ready .any ops listed := by
        unfold Region.ready
        rw [List.mem_filter]
        refine ⟨List.mem_range.2 hi, ?_⟩
        obtain ⟨o, ho⟩ := lt_some hi
        have h1 : listed.getD i true = false := by
          rw [Array.getD_eq_getD_getElem?] at hc ⊢
          rw [Array.getElem?_eq_getElem (by omega)] at hc ⊢
          exact hc
        simp only [h1, ho, Option.map_some, Option.getD_some, Bool.not_false, Bool.true_and]
        rw [Array.all_eq_true_iff_forall_mem]
        intro e he
        have he' : e ∈ o.after.toList := by simpa using he
        cases hbd : Region.binds .any e with
        | false => simp
        | true =>
          have h2 := hb i o ho e he' hbd
          simp [ih e.on h2 (by omega)]
      rw [hr] at this
      simp at this
theorem mem_ready {listed : Array Bool} (hs : listed.size = ops.size) {i : Nat} (hi : i ∈ Region.ready .any ops listed) : i < ops.size ∧ listed.getD i false = false ∧ ∀ o, ops[i]? = some o → ∀ e ∈ o.after.toList, Region.binds .any e = true → listed.getD e.on false = true := by
  unfold Region.ready at hi
  rw [List.mem_filter] at hi
  obtain ⟨h1, h2⟩ := hi
  have h1 := List.mem_range.1 h1
  rw [Bool.and_eq_true] at h2
  refine ⟨h1, ?_, fun o ho e he hb => ?_⟩
  · have := h2.1
    rw [Array.getD_eq_getD_getElem?, Array.getElem?_eq_getElem (by omega)] at this ⊢
    simpa using this
  · have h3 := h2.2
    rw [ho] at h3
    simp only [Option.map_some, Option.getD_some] at h3
    rw [Array.all_eq_true_iff_forall_mem] at h3
    have := h3 e (by simpa using he)
    rw [hb] at this
    simpa using this
theorem wanted_of (p : Plan P rec nt ops fr v kd cnt β τ k anc E hEnd) {L : Nat → Prop} {j : Nat} (c : Cfg B w0 nt ops fr v kd cnt β k L j μ h a w) {i : Nat} {o : Oper} (ho : ops[i]? = some o) (hi : ¬ L i)
    (hdeps : ∀ e ∈ o.after.toList, Region.binds .any e = true → L e.on) : Region.wanted o (yielded ops a.tmps) = kdWant (kd i) :=
  wanted_known (fun _ _ _ _ _ hg hj hd hv => c.known p ho hi hdeps (guard_reads hg hj hd) hv) (p.want i o ho)
theorem Cfg.step (hrec : RecOk P rec) (p : Plan P rec nt ops fr v kd cnt β τ k anc E hEnd) (hBr : ∀ i x b, i < ops.size → kd i = .made x b → ¬ B.res x) {L : Nat → Prop} {j : Nat} (c : Cfg B w0 nt ops fr v kd cnt β k L j μ h a w) {i : Nat} {o : Oper} (ho : ops[i]? = some o) (hi : ¬ L i)
    (hdeps : ∀ e ∈ o.after.toList, Region.binds .any e = true → L e.on) {next : Act → World → Prop} {Q : Exit → Act → World → Prop}
    (hnext : ∀ a' w' μ' h' j', Ext μ μ' → Cfg B w0 nt ops fr v kd cnt β k (fun m => L m ∨ m = i) j' μ' h' a' w' → next a' w') : wpOp P ops Q i next a w := by
  unfold wpOp
  rw [ho]
  simp only
  rw [wanted_of p c ho hi hdeps]
  cases hk : kd i with
  | skip =>
    simp only [kdWant, Bool.false_eq_true, if_false]
    refine hnext _ _ μ h j (Ext.refl _) (c.same p ho hdeps (.inl hk) ?_)
    rw [p.skip i hk]; exact undef_rel
  | quiet =>
    simp only [kdWant, if_true]
    exact .inl (c.quietStep p ho hi hdeps hk fun a' w' μ' h' e c' => hnext a' w' μ' h' j e c')
  | made x b =>
    simp only [kdWant, if_true]
    exact .inl (c.make p ho hi hdeps hk (hBr i x b (some_lt ho) hk) fun a' w' μ' h' e c' => hnext a' w' μ' h' j e c')
  | loud =>
    simp only [kdWant, if_true]
    exact .inl (c.loudStep hrec p ho hi hdeps hk fun a' w' μ' h' e c' => hnext a' w' μ' h' (j + 1) e c')
def unlisted (listed : Array Bool) : Nat := (listed.toList.filter fun b => !b).length
theorem unlisted_pos : ∀ {l : List Bool} {i : Nat}, l[i]? = some false → (l.filter fun b => !b).length = ((l.set i true).filter fun b => !b).length + 1
  | [], i, h => by simp at h
  | x :: l, 0, h => by simp at h; subst h; simp
  | x :: l, i + 1, h => by
    have := unlisted_pos (l := l) (i := i) (by simpa using h)
    simp only [List.set_cons_succ]
    cases x <;> simp [this]
theorem draw_wp (hrec : RecOk P rec) (p : Plan P rec nt ops fr v kd cnt β τ k anc E hEnd) (hBr : ∀ i x b, i < ops.size → kd i = .made x b → ¬ B.res x) {Q : Exit → Act → World → Prop} :
    ∀ (fuel : Nat) (listed : Array Bool) (j : Nat) (μ : M) (h : H) (a : Act) (w : World), listed.size = ops.size → unlisted listed ≤ fuel → Cfg B w0 nt ops fr v kd cnt β k (fun i => listed.getD i false = true) j μ h a w →
      (∀ μ' a' w', Ext μ μ' → FR μ' nt (fr ops.size) a' → HR B w0 μ' hEnd w' → Q .normal a' w') → wpAny P .any ops Q fuel listed a w
  | 0, listed, j, μ, h, a, w, hs, hu, c, hQ => by
    have hall : ∀ i, i < ops.size → listed.getD i false = true := by
      intro i hi
      cases hc : listed.getD i false with
      | true => rfl
      | false =>
        rw [Array.getD_eq_getD_getElem?, Array.getElem?_eq_getElem (by omega)] at hc
        have hc' : listed.toList[i]? = some false := by
          rw [Array.getElem?_toList, Array.getElem?_eq_getElem (by omega)]
          simpa using hc
        have := unlisted_pos hc'
        unfold unlisted at hu
        omega
    have hr : Region.ready .any ops listed = [] := by
      cases hr : Region.ready .any ops listed with
      | nil => rfl
      | cons i l =>
        obtain ⟨h1, h2, _⟩ := mem_ready hs (i := i) (by rw [hr]; simp)
        rw [hall i h1] at h2; simp at h2
    obtain ⟨f, r⟩ := c.finish p hall
    exact ⟨hr, hQ μ a w (Ext.refl _) f r⟩
  | fuel + 1, listed, j, μ, h, a, w, hs, hu, c, hQ => by
    refine ⟨fun hr => ?_, fun i hi => ?_⟩
    · obtain ⟨f, r⟩ := c.finish p (ready_nil p.back hs hr)
      exact hQ μ a w (Ext.refl _) f r
    · obtain ⟨h1, h2, h3⟩ := mem_ready hs hi
      obtain ⟨o, ho⟩ := lt_some h1
      refine c.step hrec p hBr ho (by rw [h2]; simp) (h3 o ho) ?_
      intro a' w' μ' h' j' e c'
      refine draw_wp hrec p hBr fuel (listed.setIfInBounds i true) j' μ' h' a' w' (by simpa using hs) ?_ (c'.congr (fun m hm => ?_) p.back) (fun μ2 a2 w2 k1 => hQ μ2 a2 w2 (e.trans k1))
      · have hc' : listed.toList[i]? = some false := by
          rw [Array.getElem?_toList, Array.getElem?_eq_getElem (by omega)]
          rw [Array.getD_eq_getD_getElem?, Array.getElem?_eq_getElem (by omega)] at h2
          simpa using h2
        have := unlisted_pos hc'
        unfold unlisted at hu ⊢
        rw [Array.toList_setIfInBounds]
        omega
      · simp only [Array.getD_eq_getD_getElem?, Array.getElem?_setIfInBounds]
        by_cases em : m = i
        · subst em
          simp [hs, h1]
        · rw [if_neg (fun q => em q.symm)]
          simp [em]
theorem draw_start (hrec : RecOk P rec) (p : Plan P rec nt ops fr v kd cnt β τ k anc E hEnd) {Q : Exit → Act → World → Prop} (hBr : ∀ i x b, i < ops.size → kd i = .made x b → ¬ B.res x)
    (f : FR μ nt (fr 0) a) (r : HR (B.aside fun x => B.res x ∨ ∃ m b, m < ops.size ∧ kd m = .made x b) w0 μ (β 0) w)
    (hQ : ∀ μ' a' w', Ext μ μ' → FR μ' nt (fr ops.size) a' → HR B w0 μ' hEnd w' → Q .normal a' w') : wpAny P .any ops Q ops.size (Array.replicate ops.size false) a w := by
  have hget : ∀ i : Nat, (Array.replicate ops.size false).getD i false = false := by
    intro i
    rw [Array.getD_eq_getD_getElem?, Array.getElem?_replicate]
    split <;> rfl
  refine draw_wp hrec p hBr ops.size _ 0 μ (β 0) a w (by simp) ?_ ?_ hQ
  · unfold unlisted
    refine Nat.le_trans (List.length_filter_le _ _) (by simp)
  · refine ⟨Nat.zero_le _, fun i hi _ => ?_, fun i o ho hl => ?_, rfl, fun y b => ?_, ?_, f.1, f.2.1, fun i o d ho hl => ?_, fun t u hn hg => f.2.2 t u hg⟩
    · rw [hget]; simp
    · rw [hget] at hl; simp at hl
    · simp [hget]
    · refine r.weaken (h' := β 0) (Nat.le_refl _) (fun x hx => r.res x ?_) (fun y b hy => hy)
      rcases hx with hx | ⟨m, b, h1, h2, _⟩
      · exact .inl hx
      · exact .inr ⟨m, b, h1, h2⟩
    · rw [hget] at hl; simp at hl
end Go.X
