/-
  States, told again under another table: less is known, names are cut, numbers and vectors get other names. Runs from state to state.
-/
import Derived.Test.YtgdonkfaicdeiaaGreatDoorXShut
set_option linter.unusedVariables false
set_option linter.unusedSimpArgs false
set_option linter.unusedSectionVars false
namespace Go.X
open Go.RowKit

/-- names told again: those below N0 stay; others by a list (new, old) -/
noncomputable def ren (N0 : Nat) (rn : T Nat) (μ : M) : M := fun x => if x < N0 then μ x else (rn.get x).bind μ
noncomputable def nm (N0 : Nat) (rn : T Nat) (x x' : Nat) : Bool :=
  Bool.rec (Option.rec false (fun y => Nat.beq y x) (rn.get x')) (Nat.beq x' x) (Nat.blt x' N0)
theorem nm_sound [Tab] {N0 : Nat} {rn : T Nat} {x x' : Nat} {μ : M} {l : Loc} (h : nm N0 rn x x' = true) (hl : μ x = some l) : ren N0 rn μ x' = some l := by
  unfold nm at h
  unfold ren
  cases hb : Nat.blt x' N0 with
  | true =>
    rw [hb] at h
    have h : Nat.beq x' x = true := h
    rw [if_pos (blt_iff.1 hb), nbeq_iff.1 h]; exact hl
  | false =>
    rw [hb] at h
    have h : (Option.rec false (fun y => Nat.beq y x) (rn.get x') : Bool) = true := h
    rw [if_neg (fun e => by rw [blt_iff.2 e] at hb; cases hb)]
    cases hg : rn.get x' with
    | none => rw [hg] at h; simp at h
    | some y =>
      rw [hg] at h
      have h : Nat.beq y x = true := h
      rw [nbeq_iff.1 h]; exact hl
theorem nm_of [Tab] {N0 : Nat} {rn : T Nat} {x x' : Nat} {μ : M} {l : Loc} (h : nm N0 rn x x' = true) (hl : ren N0 rn μ x' = some l) : μ x = some l := by
  unfold nm at h
  unfold ren at hl
  cases hb : Nat.blt x' N0 with
  | true =>
    rw [hb] at h
    have h : Nat.beq x' x = true := h
    rw [if_pos (blt_iff.1 hb), nbeq_iff.1 h] at hl; exact hl
  | false =>
    rw [hb] at h
    have h : (Option.rec false (fun y => Nat.beq y x) (rn.get x') : Bool) = true := h
    rw [if_neg (fun e => by rw [blt_iff.2 e] at hb; cases hb)] at hl
    cases hg : rn.get x' with
    | none => rw [hg] at h; simp at h
    | some y =>
      rw [hg] at h hl
      have h : Nat.beq y x = true := h
      rw [nbeq_iff.1 h] at hl; exact hl

mutual
/-- a value that no table tells, under other names -/
noncomputable def sv (N0 : Nat) (rn : T Nat) : AV → AV → Bool
  | .bool a, .bool b => a == b
  | .int k a, .int k' b => Nat.beq (kcode k) (kcode k') && a == b
  | .str n c, .str m d => strEq n c m d
  | .nilp, .nilp => true
  | .ptr x o, .ptr y p => nm N0 rn x y && Nat.beq o p
  | .nils, .nils => true
  | .sl x o n c, .sl y p m d => nm N0 rn x y && (Nat.beq o p && (Nat.beq n m && Nat.beq c d))
  | .so x o n c, .so y p m d => nm N0 rn x y && (Nat.beq o p && (Nat.beq n m && Nat.beq c d))
  | .nilm, .nilm => true
  | .map x, .map y => nm N0 rn x y
  | .fn (.func f) a b, .fn (.func g) c d => Nat.beq f g && (svs N0 rn a c && svs N0 rn b d)
  | .nilf, .nilf => true
  | .iface t v, .iface u x => Nat.beq t u && sv N0 rn v x
  | .nili, .nili => true
  | .agg l, .agg m => svs N0 rn l m
  | .tup l, .tup m => svs N0 rn l m
  | .gp x o, .gp y p => Nat.beq x y && Nat.beq o p
  | .es, .es => true
  | _, _ => false
noncomputable def svs (N0 : Nat) (rn : T Nat) : List AV → List AV → Bool
  | [], [] => true
  | a :: l, b :: m => sv N0 rn a b && svs N0 rn l m
  | _, _ => false
end

mutual
theorem sv_sound {T T' : Tab} {μ : M} {N0 : Nat} {rn : X.T Nat} : ∀ (a b : AV) (v : Value), sv N0 rn a b = true → @vrel T μ a v → @vrel T' (ren N0 rn μ) b v
  | .bool _, b, v, hf, h => by cases b <;> simp [sv] at hf; subst hf; simpa [vrel] using h
  | .int k n, b, v, hf, h => by
    cases b <;> simp only [sv, Bool.and_eq_true, beq_iff_eq, Bool.false_eq_true] at hf
    rw [kcode_eq hf.1, hf.2] at h
    simpa [vrel] using h
  | .str _ _, b, v, hf, h => by
    cases b <;> simp only [sv, strEq, Bool.and_eq_true, Bool.false_eq_true] at hf
    rw [Nat.eq_of_beq_eq_true hf.1, Nat.eq_of_beq_eq_true hf.2] at h
    simpa [vrel] using h
  | .nilp, b, v, hf, h => by cases b <;> simp [sv] at hf; simpa [vrel] using h
  | .ptr x o, b, v, hf, h => by
    cases b <;> simp only [sv, Bool.and_eq_true, Bool.false_eq_true] at hf
    rw [Nat.eq_of_beq_eq_true hf.2] at h
    simp only [vrel] at h ⊢
    obtain ⟨l, h1, h2⟩ := h
    exact ⟨l, nm_sound hf.1 h1, h2⟩
  | .nils, b, v, hf, h => by cases b <;> simp [sv] at hf; simpa [vrel] using h
  | .sl x o n c, b, v, hf, h => by
    cases b <;> simp only [sv, Bool.and_eq_true, Bool.false_eq_true] at hf
    rw [Nat.eq_of_beq_eq_true hf.2.1, Nat.eq_of_beq_eq_true hf.2.2.1, Nat.eq_of_beq_eq_true hf.2.2.2] at h
    simp only [vrel] at h ⊢
    obtain ⟨l, h1, h2⟩ := h
    exact ⟨l, nm_sound hf.1 h1, h2⟩
  | .so x o n z, b, v, hf, h => by
    cases b <;> simp only [sv, Bool.and_eq_true, Bool.false_eq_true] at hf
    rw [Nat.eq_of_beq_eq_true hf.2.1, Nat.eq_of_beq_eq_true hf.2.2.1, Nat.eq_of_beq_eq_true hf.2.2.2] at h
    simp only [vrel] at h ⊢
    obtain ⟨l, c, h1, h2⟩ := h
    exact ⟨l, c, nm_sound hf.1 h1, h2⟩
  | .nilm, b, v, hf, h => by cases b <;> simp [sv] at hf; simpa [vrel] using h
  | .map x, b, v, hf, h => by
    cases b <;> simp only [sv, Bool.false_eq_true] at hf
    simp only [vrel] at h ⊢
    obtain ⟨l, h1, h2⟩ := h
    exact ⟨l, nm_sound hf h1, h2⟩
  | .fn f as bs, b, v, hf, h => by
    cases b with
    | fn g cs ds =>
      cases f <;> cases g <;> simp only [sv, Bool.and_eq_true, Bool.false_eq_true] at hf
      simp only [vrel] at h ⊢
      obtain ⟨x, y, h1, h2, h3⟩ := h
      rw [Nat.eq_of_beq_eq_true hf.1] at h1
      exact ⟨x, y, h1, svs_sound as cs x hf.2.1 h2, svs_sound bs ds y hf.2.2 h3⟩
    | _ => cases f <;> simp [sv] at hf
  | .nilf, b, v, hf, h => by cases b <;> simp [sv] at hf; simpa [vrel] using h
  | .iface t x, b, v, hf, h => by
    cases b <;> simp only [sv, Bool.and_eq_true, Bool.false_eq_true] at hf
    simp only [vrel] at h ⊢
    obtain ⟨y, h1, h2⟩ := h
    rw [Nat.eq_of_beq_eq_true hf.1] at h1
    exact ⟨y, h1, sv_sound x _ y hf.2 h2⟩
  | .nili, b, v, hf, h => by cases b <;> simp [sv] at hf; simpa [vrel] using h
  | .agg l, b, v, hf, h => by
    cases b <;> simp only [sv, Bool.false_eq_true] at hf
    simp only [vrel] at h ⊢
    obtain ⟨cs, h1, h2⟩ := h
    exact ⟨cs, h1, svs_sound l _ cs hf h2⟩
  | .tup l, b, v, hf, h => by
    cases b <;> simp only [sv, Bool.false_eq_true] at hf
    simp only [vrel] at h ⊢
    obtain ⟨cs, h1, h2⟩ := h
    exact ⟨cs, h1, svs_sound l _ cs hf h2⟩
  | .ostr _, b, v, hf, h => by cases b <;> simp [sv] at hf
  | .gp _ _, b, v, hf, h => by
    cases b <;> simp only [sv, Bool.and_eq_true, Bool.false_eq_true] at hf
    rw [Nat.eq_of_beq_eq_true hf.1, Nat.eq_of_beq_eq_true hf.2] at h
    simpa [vrel] using h
  | .oi _, b, v, hf, h => by cases b <;> simp [sv] at hf
  | .es, b, v, hf, h => by cases b <;> simp [sv] at hf; simpa [vrel] using h
  | .ov _ _ _, b, v, hf, h => by cases b <;> simp [sv] at hf
  | .op _ _ _ _, b, v, hf, h => by cases b <;> simp [sv] at hf
  | .fo _ _ _, b, v, hf, h => by cases b <;> simp [sv] at hf
  | .fp _ _ _ _, b, v, hf, h => by cases b <;> simp [sv] at hf
theorem svs_sound {T T' : Tab} {μ : M} {N0 : Nat} {rn : X.T Nat} : ∀ (a b : List AV) (v : List Value), svs N0 rn a b = true → @vrels T μ a v → @vrels T' (ren N0 rn μ) b v
  | [], [], _, _, h => by simpa [vrels] using h
  | [], _ :: _, _, hf, _ => by simp [svs] at hf
  | _ :: _, [], _, hf, _ => by simp [svs] at hf
  | a :: l, b :: m, _, hf, h => by
    simp only [svs, Bool.and_eq_true] at hf
    simp only [vrels] at h ⊢
    obtain ⟨v, r, h1, h2, h3⟩ := h
    exact ⟨v, r, h1, sv_sound a b v hf.1 h2, svs_sound l m r hf.2 h3⟩
end

/-- numbers, and the names that they have under the new table -/
abbrev IP := List (AV × Nat)
noncomputable def ipHas (a : AV) (i : Nat) (l : IP) : Bool :=
  List.rec (motive := fun _ => Bool) false (fun p _ ih => Bool.rec ih (Bool.rec ih true (ieq p.1 a)) (Nat.beq p.2 i)) l
theorem ipHas_mem [Tab] {a : AV} {i : Nat} : ∀ {l : IP}, ipHas a i l = true → (a, i) ∈ l
  | [], h => by have h' : false = true := h; cases h'
  | p :: l, h => by
    have h' : (@Bool.rec (fun _ => Bool) (ipHas a i l) (@Bool.rec (fun _ => Bool) (ipHas a i l) true (ieq p.1 a)) (Nat.beq p.2 i)) = true := h
    cases h1 : Nat.beq p.2 i with
    | false => rw [h1] at h'; exact List.mem_cons_of_mem _ (ipHas_mem h')
    | true =>
    cases h2 : ieq p.1 a with
    | false => rw [h1, h2] at h'; exact List.mem_cons_of_mem _ (ipHas_mem h')
    | true =>
      have : p = (a, i) := by rw [← ieq_eq h2, ← nbeq_iff.1 h1]
      rw [← this]
      exact List.mem_cons_self

/-- how a state is told again -/
structure Cv where
  N0 : Nat
  N : Nat
  rn : T Nat
  ip : IP

/-- foreign slices, and the names that they have under the new table -/
noncomputable def foHas (i i' : Nat) (l : IP) : Bool :=
  List.rec (motive := fun _ => Bool) false (fun p _ ih => Bool.rec ih (match p.1 with
    | .fo x _ _ => Bool.rec ih true (Nat.beq x i)
    | _ => ih) (Nat.beq p.2 i')) l
def isNum : AV → Bool
  | .int _ _ => true
  | .oi _ => true
  | _ => false
noncomputable def cvV (C : Cv) (a a' : AV) : Bool :=
  match a' with
  | .fo i' j z => match a with
    | .fo i k z' => Nat.beq z' z && (foHas i i' C.ip && ipHas (.oi k) j C.ip)
    | _ => false
  | .oi i => isNum a && ipHas a i C.ip
  | .ov x j z => match a with
    | .so y o n z' => nm C.N0 C.rn y x && (Nat.beq o 0 && (Nat.beq z' z && ipHas (.int .i64 (n : Int)) j C.ip))
    | .ov y k z' => nm C.N0 C.rn y x && (Nat.beq z' z && ipHas (.oi k) j C.ip)
    | _ => false
  | a' => sv C.N0 C.rn a a'

def IpOk1 (T T' : Tab) (p : AV × Nat) : Prop :=
  match p.1 with
  | .fo i _ _ => T'.fb p.2 = T.fb i ∧ T'.fcap p.2 = T.fcap i
  | a => denI T.iv a = some (T'.iv p.2)
def IpOk (T T' : Tab) (ip : IP) : Prop := ∀ p ∈ ip, IpOk1 T T' p
theorem foHas_mem {i i' : Nat} : ∀ {l : IP}, foHas i i' l = true → ∃ j z, (AV.fo i j z, i') ∈ l
  | [], h => by have h' : false = true := h; cases h'
  | p :: l, h => by
    have ih := fun e => let ⟨j, z, q⟩ := foHas_mem (i := i) (i' := i') (l := l) e; (⟨j, z, List.mem_cons_of_mem p q⟩ : ∃ j z, (AV.fo i j z, i') ∈ p :: l)
    have h' : (@Bool.rec (fun _ => Bool) (foHas i i' l) (match p.1 with
      | .fo x _ _ => @Bool.rec (fun _ => Bool) (foHas i i' l) true (Nat.beq x i)
      | _ => foHas i i' l) (Nat.beq p.2 i')) = true := h
    cases h1 : Nat.beq p.2 i' with
    | false => rw [h1] at h'; exact ih h'
    | true =>
      rw [h1] at h'
      have h2 : (match p.1 with
        | .fo x _ _ => @Bool.rec (fun _ => Bool) (foHas i i' l) true (Nat.beq x i)
        | _ => foHas i i' l) = true := h'
      split at h2
      · rename_i x j z hp
        cases h3 : Nat.beq x i with
        | false => rw [h3] at h2; exact ih h2
        | true =>
          refine ⟨j, z, ?_⟩
          have : p = (.fo i j z, i') := by rw [← Nat.eq_of_beq_eq_true h3, ← hp, ← Nat.eq_of_beq_eq_true h1]
          rw [← this]; exact List.mem_cons_self
      · exact ih h2

theorem cvV_sound {T T' : Tab} {C : Cv} (hip : IpOk T T' C.ip) {μ : M} {a a' : AV} {v : Value} (h : cvV C a a' = true) (hv : @vrel T μ a v) : @vrel T' (ren C.N0 C.rn μ) a' v := by
  unfold cvV at h
  split at h
  · rename_i i' j z
    split at h
    · rename_i i k z'
      simp only [Bool.and_eq_true, nbeq_iff] at h
      obtain ⟨rfl, h1, h2⟩ := h
      obtain ⟨_, _, hm⟩ := foHas_mem h1
      obtain ⟨e1, e2⟩ := (show _ ∧ _ from hip _ hm)
      have hm2 := hip _ (ipHas_mem h2)
      simp only [IpOk1, denI, Option.some.injEq] at hm2
      simp only [vrel] at hv ⊢
      rw [e1, e2, ← hm2]
      exact hv
    · simp at h
  · rename_i i
    simp only [Bool.and_eq_true] at h
    have hm := hip _ (ipHas_mem h.2)
    cases a <;> simp [isNum] at h <;> simp [IpOk1, denI] at hm
    · simp only [vrel] at hv ⊢; rw [hv, ← hm]
    · simp only [vrel] at hv ⊢; rw [hv, ← hm]
  · rename_i x j z
    split at h
    · rename_i y o n z'
      simp only [Bool.and_eq_true, nbeq_iff, blt_iff] at h
      obtain ⟨hx, rfl, rfl, h⟩ := h
      have hm := hip _ (ipHas_mem h)
      simp only [IpOk1, denI, Option.some.injEq] at hm
      simp only [vrel] at hv ⊢
      obtain ⟨l, c, h1, h2, h3, h4⟩ := hv
      refine ⟨by rw [← hm]; exact ⟨rfl, Int.natCast_nonneg _⟩, l, c, nm_sound hx h1, ?_, by simpa using h3, ?_⟩
      · rw [← hm]; simpa using h2
      · rw [← hm, h4]; simp
    · rename_i y k z'
      simp only [Bool.and_eq_true, nbeq_iff, blt_iff] at h
      obtain ⟨hx, rfl, h⟩ := h
      have hm := hip _ (ipHas_mem h)
      simp only [IpOk1, denI, Option.some.injEq] at hm
      simp only [vrel] at hv ⊢
      obtain ⟨h0, l, c, h1, h2, h3, h4⟩ := hv
      rw [← hm]
      exact ⟨h0, l, c, nm_sound hx h1, h2, h3, h4⟩
    · simp at h
  · exact sv_sound _ _ _ h hv

noncomputable def cvO (C : Cv) (free : Bool) (v v' : Option AV) : Bool :=
  match v', v with
  | some a', some a => cvV C a a'
  | some _, none => false
  | none, some _ => free
  | none, none => true
noncomputable def isLeaf {α : Type} (t : T α) : Bool := T.rec (motive := fun _ => Bool) true (fun _ _ _ _ _ => false) t
noncomputable def cvT (C : Cv) (free : Bool) (t' : T AV) : T AV → Bool :=
  T.rec (motive := fun _ => T AV → Bool) (fun t => free || isLeaf t)
    (fun _ v' _ ihl ihr t => T.rec (motive := fun _ => Bool) false (fun l v r _ _ => Bool.rec false (Bool.rec false (ihr r) (ihl l)) (cvO C free v v')) t) t'

theorem cvT_sound [Tab] {C : Cv} {free : Bool} : ∀ (t' t : T AV), cvT C free t' t = true → ∀ i, (∀ a', t'.get i = some a' → ∃ a, t.get i = some a ∧ cvV C a a' = true) ∧ (free = false → t'.get i = none → t.get i = none)
  | .leaf, t, h, i => by
    refine ⟨fun a' e => by simp at e, fun hf _ => ?_⟩
    have h' : (free || isLeaf t) = true := h
    rw [hf] at h'
    cases t with
    | leaf => rfl
    | node l v r => simp [isLeaf] at h'
  | .node l' v' r', .leaf, h, i => by have h' : false = true := h; cases h'
  | .node l' v' r', .node l v r, h, i => by
    have h' : (@Bool.rec (fun _ => Bool) false (@Bool.rec (fun _ => Bool) false (cvT C free r' r) (cvT C free l' l)) (cvO C free v v')) = true := h
    cases h1 : cvO C free v v' with
    | false => rw [h1] at h'; simp at h'
    | true =>
    cases h2 : cvT C free l' l with
    | false => rw [h1, h2] at h'; simp at h'
    | true =>
    rw [h1, h2] at h'
    have h3 : cvT C free r' r = true := h'
    rw [T.get_node, T.get_node]
    by_cases c0 : i = 0
    · rw [if_pos c0, if_pos c0]
      unfold cvO at h1
      refine ⟨fun a' e => ?_, fun hf e => ?_⟩
      · subst e
        cases v with
        | none => simp at h1
        | some a => exact ⟨a, rfl, by simpa using h1⟩
      · subst e
        cases v with
        | none => rfl
        | some a => simp [hf] at h1
    · rw [if_neg c0, if_neg c0]
      by_cases c1 : i % 2 = 1
      · rw [if_pos c1, if_pos c1]; exact cvT_sound l' l h2 _
      · rw [if_neg c1, if_neg c1]; exact cvT_sound r' r h3 _

noncomputable def cvE (C : Cv) : List (AV × AV × Nat) → List (AV × AV × Nat) → Bool
  | [], [] => true
  | a :: l, b :: m => cvV C a.1 b.1 && (cvV C a.2.1 b.2.1 && (Nat.beq a.2.2 b.2.2 && cvE C l m))
  | _, _ => false
theorem cvE_sound {T T' : Tab} {C : Cv} (hip : IpOk T T' C.ip) {μ : M} : ∀ {a b : List (AV × AV × Nat)} {es : List MapEntry}, cvE C a b = true → @esrel T μ a es → @esrel T' (ren C.N0 C.rn μ) b es
  | [], [], _, _, h => h
  | [], _ :: _, _, h, _ => by simp [cvE] at h
  | _ :: _, [], _, h, _ => by simp [cvE] at h
  | a :: l, b :: m, es, h, hr => by
    simp only [cvE, Bool.and_eq_true, nbeq_iff] at h
    simp only [esrel] at hr ⊢
    obtain ⟨e, r, h1, h2, h3, h4, h5⟩ := hr
    exact ⟨e, r, h1, cvV_sound hip h.1 h2, cvV_sound hip h.2.1 h3, by rw [h4, h.2.2.1], cvE_sound hip h.2.2.2 h5⟩

noncomputable def cvB (C : Cv) (b b' : Blk) : Bool :=
  match b', b with
  | .cells n' p' z' t', .cells n p z t => Nat.ble n' n && ((p == p') && ((z'.isEmpty || svs C.N0 C.rn z z') && cvT C z'.isEmpty t' t))
  | .map es' c', .map es c => Nat.beq c c' && cvE C es es'
  | .siter n' c' p', .siter n c p => Nat.beq n n' && (Nat.beq c c' && Nat.beq p p')
  | _, _ => false

theorem cvB_own {C : Cv} {b b' : Blk} (h : cvB C b b' = true) : own b = true ∧ own b' = true := by
  unfold cvB at h
  split at h <;> first | exact ⟨rfl, rfl⟩ | simp at h

theorem svs_length {N0 : Nat} {rn : T Nat} : ∀ {a b : List AV}, svs N0 rn a b = true → a.length = b.length
  | [], [], _ => rfl
  | [], _ :: _, h => by simp [svs] at h
  | _ :: _, [], h => by simp [svs] at h
  | a :: l, b :: m, h => by
    simp only [svs, Bool.and_eq_true] at h
    simp [svs_length h.2]
theorem svs_get {N0 : Nat} {rn : T Nat} : ∀ {a b : List AV} {i : Nat} {x' : AV}, svs N0 rn a b = true → b[i]? = some x' → ∃ x, a[i]? = some x ∧ sv N0 rn x x' = true
  | [], [], i, x', _, h => by simp at h
  | [], _ :: _, _, _, h, _ => by simp [svs] at h
  | _ :: _, [], _, _, h, _ => by simp [svs] at h
  | a :: l, b :: m, 0, x', h, e => by
    simp only [svs, Bool.and_eq_true] at h
    simp at e; subst e
    exact ⟨a, rfl, h.1⟩
  | a :: l, b :: m, i + 1, x', h, e => by
    simp only [svs, Bool.and_eq_true] at h
    obtain ⟨x, h1, h2⟩ := svs_get (i := i) h.2 (by simpa using e)
    exact ⟨x, by simpa using h1, h2⟩

theorem cvB_sound {T T' : Tab} {C : Cv} (hip : IpOk T T' C.ip) {μ : M} {b b' : Blk} {l : Loc} {w : World} (h : cvB C b b' = true) (hb : @brel T μ b l w) : @brel T' (ren C.N0 C.rn μ) b' l w := by
  unfold cvB at h
  split at h
  · rename_i n' p' z' t' n p z t
    simp only [Bool.and_eq_true, ble_iff, Bool.or_eq_true, beq_iff_eq] at h
    obtain ⟨h1, rfl, h2, h4⟩ := h
    obtain ⟨arr, el, fz, g1, g2, g3, g4, g5, g6⟩ := hb
    refine ⟨arr, el, fz, g1, g2, g3, by omega, g5, fun i a' hi ha' => ?_⟩
    obtain ⟨k1, k2⟩ := cvT_sound t' t h4 i
    unfold cellOf at ha'
    cases ht : t'.get i with
    | some u =>
      rw [ht] at ha'
      simp only [Option.some.injEq] at ha'
      subst ha'
      obtain ⟨a, e1, e2⟩ := k1 u ht
      obtain ⟨v, v1, v2⟩ := g6 i a (by omega) (by unfold cellOf; rw [e1])
      exact ⟨v, v1, cvV_sound hip e2 v2⟩
    | none =>
      rw [ht] at ha'
      have ha2 : z'[i % z'.length]? = some a' := ha'
      cases hz : z'.isEmpty with
      | true =>
        have : z' = [] := by simpa using hz
        subst this; simp at ha2
      | false =>
        rw [hz] at h2 k2
        simp only [Bool.false_eq_true, false_or] at h2
        have ht2 := k2 rfl ht
        obtain ⟨a, e1, e2⟩ := svs_get h2 ha2
        obtain ⟨v, v1, v2⟩ := g6 i a (by omega) (by unfold cellOf; rw [ht2, svs_length h2]; exact e1)
        exact ⟨v, v1, sv_sound _ _ _ e2 v2⟩
  · rename_i es' c' es c
    simp only [Bool.and_eq_true, nbeq_iff] at h
    obtain ⟨rfl, h⟩ := h
    obtain ⟨es2, g1, g2⟩ := hb
    exact ⟨es2, g1, cvE_sound hip h g2⟩
  · simp only [Bool.and_eq_true, nbeq_iff] at h
    obtain ⟨rfl, rfl, rfl⟩ := h
    exact hb
  · simp at h

/-- blocks that become vectors by name -/
abbrev VP := List (Nat × Blk × Nat)
def VpOk (T T' : Tab) (C : Cv) (vp : VP) : Prop := ∀ p ∈ vp, own p.2.1 = true ∧ ∀ μ l w, @brel T μ p.2.1 l w → @brel T' (ren C.N0 C.rn μ) (.vec p.2.2) l w
noncomputable def vpHas (x : Nat) (b : Blk) (i : Nat) (l : VP) : Bool :=
  List.rec (motive := fun _ => Bool) false (fun p _ ih => Bool.rec ih (Bool.rec ih (Bool.rec ih true (beq? p.2.1 b)) (Nat.beq p.2.2 i)) (Nat.beq p.1 x)) l
theorem vpHas_mem [Tab] {x : Nat} {b : Blk} {i : Nat} : ∀ {l : VP}, vpHas x b i l = true → (x, b, i) ∈ l
  | [], h => by have h' : false = true := h; cases h'
  | p :: l, h => by
    have h' : (@Bool.rec (fun _ => Bool) (vpHas x b i l) (@Bool.rec (fun _ => Bool) (vpHas x b i l) (@Bool.rec (fun _ => Bool) (vpHas x b i l) true (beq? p.2.1 b)) (Nat.beq p.2.2 i)) (Nat.beq p.1 x)) = true := h
    cases h1 : Nat.beq p.1 x with
    | false => rw [h1] at h'; exact List.mem_cons_of_mem _ (vpHas_mem h')
    | true =>
    cases h2 : Nat.beq p.2.2 i with
    | false => rw [h1, h2] at h'; exact List.mem_cons_of_mem _ (vpHas_mem h')
    | true =>
    cases h3 : beq? p.2.1 b with
    | false => rw [h1, h2, h3] at h'; exact List.mem_cons_of_mem _ (vpHas_mem h')
    | true =>
      have : p = (x, b, i) := by rw [← beq_eq h3, ← nbeq_iff.1 h1, ← nbeq_iff.1 h2]
      rw [← this]
      exact List.mem_cons_self

noncomputable def ofPairs {α : Type} (l : List (Nat × α)) : T α := List.rec (motive := fun _ => T α) .leaf (fun p _ ih => ih.put p.1 p.2) l
/-- blocks: new name, old name, what is there -/
abbrev BS := List (Nat × Nat × Blk)
noncomputable def bsOf (bs : BS) : List (Nat × Blk) := List.rec (motive := fun _ => List (Nat × Blk)) [] (fun p _ ih => (p.1, p.2.2) :: ih) bs
noncomputable def hOf (N : Nat) (bs : BS) : H := fT (ofPairs (bsOf bs)) fun t => ⟨N, t⟩
noncomputable def frOf (fs : List (Nat × AV)) : Fr := ofPairs fs
theorem ofPairs_get {α : Type} : ∀ {l : List (Nat × α)} {x : Nat} {b : α}, (∀ p ∈ l, p.1 < limit) → (ofPairs l).get x = some b → (x, b) ∈ l
  | [], x, b, _, h => by simp [ofPairs] at h
  | p :: l, x, b, hl, h => by
    have h' : ((ofPairs l).put p.1 p.2).get x = some b := h
    rw [T.get_put _ _ _ _ (by have := hl p (by simp); unfold limit at this; omega)] at h'
    split at h'
    · rename_i e
      cases h'
      have : p = (x, p.2) := by rw [e]
      rw [← this]; exact List.mem_cons_self
    · exact List.mem_cons_of_mem _ (ofPairs_get (fun q hq => hl q (by simp [hq])) h')

noncomputable def okBs (C : Cv) (vp : VP) (h : H) (bs : BS) : T Nat → Bool :=
  List.rec (motive := fun _ => T Nat → Bool) (fun _ => true) (fun p _ ih seen => Bool.rec false (Option.rec (Bool.rec false (fT (seen.put p.2.1 0) fun s => ih s) (Option.rec false (fun b => match p.2.2 with
    | .vec i => vpHas p.2.1 b i vp
    | b' => cvB C b b') (h.get p.2.1))) (fun _ => false) (seen.get p.2.1)) (Nat.blt p.1 C.N && (Nat.blt p.1 limit && (Nat.blt p.2.1 limit && nm C.N0 C.rn p.2.1 p.1)))) bs
noncomputable def okFs (C : Cv) (fr : Fr) (fs : List (Nat × AV)) : Bool :=
  List.rec (motive := fun _ => Bool) true (fun p _ ih => Bool.rec false (Bool.rec false ih (Option.rec false (fun a => cvV C a p.2) (fr.get p.1))) (Nat.blt p.1 limit)) fs

theorem okBs_mem [Tab] {C : Cv} {vp : VP} {h : H} : ∀ {bs : BS} {seen : T Nat}, okBs C vp h bs seen = true → (∀ p ∈ bs, seen.get p.2.1 = none ∧ p.1 < C.N ∧ p.1 < limit ∧ nm C.N0 C.rn p.2.1 p.1 = true ∧ ∃ b, h.get p.2.1 = some b ∧ (cvB C b p.2.2 = true ∨ ∃ i, p.2.2 = .vec i ∧ (p.2.1, b, i) ∈ vp)) ∧
    bs.Pairwise fun p q => p.2.1 ≠ q.2.1
  | [], _, _ => ⟨fun p hp => by simp at hp, List.Pairwise.nil⟩
  | q :: l, seen, e => by
    have e' : (@Bool.rec (fun _ => Bool) false (@Option.rec Nat (fun _ => Bool) (@Bool.rec (fun _ => Bool) false (fT (seen.put q.2.1 0) fun s => okBs C vp h l s) (@Option.rec Blk (fun _ => Bool) false (fun b => match q.2.2 with
      | .vec i => vpHas q.2.1 b i vp
      | b' => cvB C b b') (h.get q.2.1))) (fun _ => false) (seen.get q.2.1)) (Nat.blt q.1 C.N && (Nat.blt q.1 limit && (Nat.blt q.2.1 limit && nm C.N0 C.rn q.2.1 q.1)))) = true := e
    cases h1 : (Nat.blt q.1 C.N && (Nat.blt q.1 limit && (Nat.blt q.2.1 limit && nm C.N0 C.rn q.2.1 q.1))) with
    | false => rw [h1] at e'; simp at e'
    | true =>
    rw [h1] at e'
    simp only [Bool.and_eq_true] at h1
    cases hs : seen.get q.2.1 with
    | some n => rw [hs] at e'; simp at e'
    | none =>
    rw [hs] at e'
    cases hg : h.get q.2.1 with
    | none => rw [hg] at e'; simp at e'
    | some b =>
    rw [hg] at e'
    cases h2 : (match q.2.2 with
      | .vec i => vpHas q.2.1 b i vp
      | b' => cvB C b b') with
    | false => simp only [h2] at e'; simp at e'
    | true =>
    simp only [h2, fT_eq] at e'
    obtain ⟨k1, k2⟩ := okBs_mem (bs := l) e'
    have hlim : q.2.1 < 16000000 := by have := blt_iff.1 h1.2.2.1; unfold limit at this; omega
    refine ⟨fun p hp => ?_, List.Pairwise.cons (fun p hp => ?_) k2⟩
    · simp only [List.mem_cons] at hp
      rcases hp with rfl | hp
      · refine ⟨hs, blt_iff.1 h1.1, blt_iff.1 h1.2.1, h1.2.2.2, b, hg, ?_⟩
        split at h2
        · rename_i i hq
          exact .inr ⟨i, hq, vpHas_mem h2⟩
        · exact .inl h2
      · obtain ⟨g1, g2⟩ := k1 p hp
        refine ⟨?_, g2⟩
        rw [T.get_put _ _ _ _ hlim] at g1
        split at g1
        · simp at g1
        · exact g1
    · have g1 := (k1 p hp).1
      rw [T.get_put _ _ _ _ hlim] at g1
      intro e
      rw [if_pos e.symm] at g1
      simp at g1

theorem okFs_mem [Tab] {C : Cv} {fr : Fr} : ∀ {fs : List (Nat × AV)}, okFs C fr fs = true → ∀ p ∈ fs, p.1 < limit ∧ ∃ a, fr.get p.1 = some a ∧ cvV C a p.2 = true
  | [], _, p, hp => by simp at hp
  | q :: l, e, p, hp => by
    have e' : (@Bool.rec (fun _ => Bool) false (@Bool.rec (fun _ => Bool) false (okFs C fr l) (@Option.rec AV (fun _ => Bool) false (fun a => cvV C a q.2) (fr.get q.1))) (Nat.blt q.1 limit)) = true := e
    cases h1 : Nat.blt q.1 limit with
    | false => rw [h1] at e'; simp at e'
    | true =>
    rw [h1] at e'
    cases hg : fr.get q.1 with
    | none => rw [hg] at e'; simp at e'
    | some a =>
    rw [hg] at e'
    cases h2 : cvV C a q.2 with
    | false => simp only [h2] at e'; simp at e'
    | true =>
    simp only [h2] at e'
    simp only [List.mem_cons] at hp
    rcases hp with rfl | hp
    · exact ⟨blt_iff.1 h1, a, hg, h2⟩
    · exact okFs_mem e' p hp

variable {P : Program} {B : Kp} {w0 : World} {μ0 : M} {N0 nt : Nat} {a : Act} {w : World}

/-- a state: under some names beyond those that were there -/
def St (T : Tab) (B : Kp) (w0 : World) (μ0 : M) (nt : Nat) (fr : Fr) (h : H) (a : Act) (w : World) : Prop := ∃ μ, Ext μ0 μ ∧ @FR T μ nt fr a ∧ @HR T B w0 μ h w

/-- names that were there lie below N0 -/
structure Base (B : Kp) (μ0 : M) (N0 : Nat) : Prop where
  names : ∀ x l, μ0 x = some l → x < N0
  res : ∀ x, B.res x → x < N0
theorem Base.none (n : Nat) : Base (Kp.below n) (fun _ => Option.none) 0 := ⟨fun x l h => by simp at h, fun x h => h.elim⟩

theorem HR.parts [Tab] {μ : M} {h : H} (r : HR B w0 μ h w) : (w.os = w0.os ∧ w.tape = w0.tape ∧ w.output = w0.output ∧ w0.heap.size ≤ w.heap.size ∧ (∀ k, B.kept k → w.heap[k]? = w0.heap[k]?) ∧ (∀ k, B.kept k → k < w0.heap.size)) ∧ Gl B w0 ∧
    (∀ x, B.res x → x < h.next ∧ μ x = none) ∧ (∀ x b, h.get x = some b → ∃ l, μ x = some l ∧ (own b = true → ¬ B.kept l.block) ∧ (own b = false → B.glob l.block) ∧ brel μ b l w) ∧
    (∀ x y b c l k, h.get x = some b → h.get y = some c → x ≠ y → own b = true → own c = true → μ x = some l → μ y = some k → l.block ≠ k.block) :=
  ⟨⟨r.below.os, r.below.tape, r.below.output, r.below.size, r.below.block, r.below.old⟩, r.below.glb, r.res, r.blk, r.sep⟩

theorem pw_all : ∀ {bs : BS}, bs.Pairwise (fun p q => p.2.1 ≠ q.2.1) → ∀ p ∈ bs, ∀ q ∈ bs, p ≠ q → p.2.1 ≠ q.2.1
  | [], _, p, hp, _, _, _ => by simp at hp
  | r :: l, h, p, hp, q, hq, hne => by
    cases h with
    | cons h1 h2 =>
      simp only [List.mem_cons] at hp hq
      rcases hp with rfl | hp
      · rcases hq with rfl | hq
        · exact absurd rfl hne
        · exact h1 q hq
      · rcases hq with rfl | hq
        · exact (h1 p hp).symm
        · exact pw_all h2 p hp q hq hne
theorem bsOf_mem : ∀ {bs : BS} {q : Nat × Blk}, q ∈ bsOf bs → ∃ o, (q.1, o, q.2) ∈ bs
  | [], q, h => by simp [bsOf] at h
  | p :: l, q, h => by
    have h' : q ∈ (p.1, p.2.2) :: bsOf l := h
    simp only [List.mem_cons] at h'
    rcases h' with rfl | h'
    · exact ⟨p.2.1, List.mem_cons_self⟩
    · obtain ⟨o, ho⟩ := bsOf_mem h'
      exact ⟨o, List.mem_cons_of_mem _ ho⟩

noncomputable def okRn (C : Cv) (rl : List (Nat × Nat)) : Bool := List.rec (motive := fun _ => Bool) true (fun p _ ih => Bool.rec false ih (Nat.blt p.1 C.N && Nat.blt p.1 limit)) rl
theorem okRn_mem [Tab] {C : Cv} : ∀ {rl : List (Nat × Nat)}, okRn C rl = true → ∀ p ∈ rl, p.1 < C.N ∧ p.1 < limit
  | [], _, p, hp => by simp at hp
  | q :: l, e, p, hp => by
    have e' : (@Bool.rec (fun _ => Bool) false (okRn C l) (Nat.blt q.1 C.N && Nat.blt q.1 limit)) = true := e
    cases h1 : (Nat.blt q.1 C.N && Nat.blt q.1 limit) with
    | false => rw [h1] at e'; simp at e'
    | true =>
    rw [h1] at e'
    simp only [Bool.and_eq_true] at h1
    simp only [List.mem_cons] at hp
    rcases hp with rfl | hp
    · exact ⟨blt_iff.1 h1.1, blt_iff.1 h1.2⟩
    · exact okRn_mem e' p hp

theorem St.weak {T T' : Tab} {fr : Fr} {h : H} {C : Cv} (hb : Base B μ0 C.N0) (hN : C.N0 ≤ C.N) {rl : List (Nat × Nat)} (hrl : C.rn = ofPairs rl) (hrk : okRn C rl = true) (hip : IpOk T T' C.ip) {vp : VP} (hvp : VpOk T T' C vp) (hgl : @Gl T B w0 → @Gl T' B w0) {fs : List (Nat × AV)} {bs : BS}
    (hf : okFs C fr fs = true) (hh : okBs C vp h bs .leaf = true) (s : St T B w0 μ0 nt fr h a w) : St T' B w0 μ0 nt (frOf fs) (hOf C.N bs) a w := by
  obtain ⟨μ, hx, f, r⟩ := s
  obtain ⟨⟨e1, e2, e3, e4, e5, e6⟩, eg, eres, eblk, esep⟩ := @HR.parts B w0 w T μ h r
  obtain ⟨hm, hpw⟩ := okBs_mem hh
  have key : ∀ x b', (hOf C.N bs).get x = some b' → ∃ o b, (x, o, b') ∈ bs ∧ x < C.N ∧ nm C.N0 C.rn o x = true ∧ h.get o = some b ∧ own b = true ∧ own b' = true ∧ ∀ l, @brel T μ b l w → @brel T' (ren C.N0 C.rn μ) b' l w := by
    intro x b' hx
    have hx' : (ofPairs (bsOf bs)).get x = some b' := by unfold hOf at hx; rw [fT_eq] at hx; exact hx
    have h1 := ofPairs_get (fun p hp => by obtain ⟨o, ho⟩ := bsOf_mem hp; exact (hm _ ho).2.2.1) hx'
    obtain ⟨o, ho⟩ := bsOf_mem h1
    have ho : (x, o, b') ∈ bs := ho
    obtain ⟨_, g1, _, g4, b, g2, g3⟩ := hm _ ho
    refine ⟨o, b, ho, g1, g4, g2, ?_⟩
    rcases g3 with g3 | ⟨i, g3, g4⟩
    · have := cvB_own g3
      exact ⟨this.1, this.2, fun l hl => cvB_sound hip g3 hl⟩
    · have := hvp _ g4
      have g3 : b' = .vec i := g3
      subst g3
      exact ⟨this.1, rfl, fun l hl => this.2 μ l w hl⟩
  refine ⟨ren C.N0 C.rn μ, fun x l hl => ?_, ⟨f.1, f.2.1, fun t v ht => ?_⟩, ⟨⟨e1, e2, e3, e4, e5, e6, hgl eg⟩, fun x hx' => ?_, fun x hr => ?_, fun x b' hb' => ?_, fun x y b c l k hx' hy hne ho ho2 hl hk => ?_⟩⟩
  · unfold ren; rw [if_pos (hb.names x l hl)]; exact hx x l hl
  · have hm := okFs_mem hf
    have := ofPairs_get (fun p hp => (hm p hp).1) ht
    obtain ⟨_, u, g1, g2⟩ := hm _ this
    obtain ⟨v', e1, e2⟩ := f.2.2 t u g1
    exact ⟨v', e1, cvV_sound hip g2 e2⟩
  · have hx2 : C.N ≤ x := by unfold hOf at hx'; rw [fT_eq] at hx'; exact hx'
    refine ⟨?_, ?_⟩
    · cases hg : (hOf C.N bs).get x with
      | none => rfl
      | some b => obtain ⟨_, _, _, h1, _⟩ := key x b hg; omega
    · unfold ren
      rw [if_neg (by omega)]
      cases hg : C.rn.get x with
      | none => rfl
      | some y =>
        rw [hrl] at hg
        have h1 := okRn_mem hrk
        have h2 := ofPairs_get (fun p hp => (h1 p hp).2) hg
        have h3 := (h1 _ h2).1
        dsimp only at h3
        omega
  · have := hb.res x hr
    refine ⟨by unfold hOf; rw [fT_eq]; show x < C.N; omega, ?_⟩
    unfold ren
    rw [if_pos this]
    exact (eres x hr).2
  · obtain ⟨o, b, _, g1, g0, g2, g3, g4, g5⟩ := key x b' hb'
    obtain ⟨l, k1, k2, _, k4⟩ := eblk o b g2
    exact ⟨l, nm_sound g0 k1, fun _ => k2 g3, fun e => (by rw [g4] at e; cases e), g5 l k4⟩
  · obtain ⟨o1, b1, m1, _, n1, g2, g3, _⟩ := key x b hx'
    obtain ⟨o2, c1, m2, _, n2, k2, k3, _⟩ := key y c hy
    have hne2 : o1 ≠ o2 := by
      intro e
      have : ∀ p ∈ bs, ∀ q ∈ bs, p ≠ q → p.2.1 ≠ q.2.1 := pw_all hpw
      exact this _ m1 _ m2 (fun e => hne (by injection e)) e
    exact esep o1 o2 b1 c1 l k g2 k2 hne2 g3 k3 (nm_of n1 hl) (nm_of n2 hk)

/-- what a run of code comes to -/
theorem St.run {T : Tab} {fr : Fr} {h : H} (hm : P.follows .mixedOrders = true) {K : Hand} (hK : @HandOk T P K) {n : Nat} {c : Code} {l : List (Ex × Fr × H)} (e : (@run? T P K n).run nt c fr h = some l) (s : St T B w0 μ0 nt fr h a w) :
    c.wp P (fun e' a' w' => ∃ q ∈ l, e' = q.1.to ∧ St T B w0 μ0 nt q.2.1 q.2.2 a' w') a w := by
  obtain ⟨μ, hx, f, r⟩ := s
  refine wp_mono ((@run_sound T P K hm hK n).1.run nt c fr h l e B w0 μ a w f r) ?_
  rintro e' a' w' ⟨q, hq, h1, μ', h2, h3, h4⟩
  exact ⟨q, hq, h1, μ', hx.trans h2, h3, h4⟩

/-- a run from a state to a state -/
noncomputable def runTo (T : Tab) (P : Program) (K : Hand) (n nt : Nat) (c : Code) (fr : Fr) (h : H) (ex : Ex) (C : Cv) (vp : VP) (fs : List (Nat × AV)) (bs : BS) : Bool :=
  Option.rec false (fun l => List.rec (motive := fun _ => Bool) true (fun q _ ih => Bool.rec false (Bool.rec false (Bool.rec false ih (okBs C vp q.2.2 bs .leaf)) (okFs C q.2.1 fs)) (exEq q.1 ex)) l) ((@run? T P K n).run nt c fr h)

theorem runTo_sound {T T' : Tab} {fr : Fr} {h : H} (hm : P.follows .mixedOrders = true) {K : Hand} (hK : @HandOk T P K) {n : Nat} {c : Code} {C : Cv} (hb : Base B μ0 C.N0) {ex : Ex} (hN : C.N0 ≤ C.N) {rl : List (Nat × Nat)} (hrl : C.rn = ofPairs rl) (hrk : okRn C rl = true) (hip : IpOk T T' C.ip) {vp : VP} (hvp : VpOk T T' C vp)
    (hgl : @Gl T B w0 → @Gl T' B w0) {fs : List (Nat × AV)} {bs : BS} (e : runTo T P K n nt c fr h ex C vp fs bs = true) (s : St T B w0 μ0 nt fr h a w) :
    c.wp P (fun e' a' w' => e' = ex.to ∧ St T' B w0 μ0 nt (frOf fs) (hOf C.N bs) a' w') a w := by
  cases hr : (@run? T P K n).run nt c fr h with
  | none => unfold runTo at e; rw [hr] at e; simp at e
  | some l =>
    unfold runTo at e
    rw [hr] at e
    refine wp_mono (s.run hm hK hr) ?_
    rintro e' a' w' ⟨q, hq, rfl, s'⟩
    have gen : ∀ (l : List (Ex × Fr × H)), (List.rec (motive := fun _ => Bool) true (fun q _ ih => Bool.rec false (Bool.rec false (Bool.rec false ih (okBs C vp q.2.2 bs .leaf)) (okFs C q.2.1 fs)) (exEq q.1 ex)) l : Bool) = true → ∀ q ∈ l, q.1 = ex ∧ okFs C q.2.1 fs = true ∧ okBs C vp q.2.2 bs .leaf = true := by
      intro l
      induction l with
      | nil => intro _ q hq; simp at hq
      | cons p l ih =>
        intro e q hq
        have e' : (@Bool.rec (fun _ => Bool) false (@Bool.rec (fun _ => Bool) false (@Bool.rec (fun _ => Bool) false (List.rec (motive := fun _ => Bool) true (fun q _ ih => Bool.rec false (Bool.rec false (Bool.rec false ih (okBs C vp q.2.2 bs .leaf)) (okFs C q.2.1 fs)) (exEq q.1 ex)) l) (okBs C vp p.2.2 bs .leaf)) (okFs C p.2.1 fs)) (exEq p.1 ex)) = true := e
        cases h1 : exEq p.1 ex with
        | false => rw [h1] at e'; simp at e'
        | true =>
        cases h2 : okFs C p.2.1 fs with
        | false => rw [h1, h2] at e'; simp at e'
        | true =>
        cases h3 : okBs C vp p.2.2 bs .leaf with
        | false => rw [h1, h2, h3] at e'; simp at e'
        | true =>
        rw [h1, h2, h3] at e'
        simp only [List.mem_cons] at hq
        rcases hq with rfl | hq
        · exact ⟨exEq_eq h1, h2, h3⟩
        · exact ih e' q hq
    obtain ⟨g1, g2, g3⟩ := gen l e q hq
    exact ⟨by rw [g1], s'.weak hb hN hrl hrk hip hvp hgl g2 g3⟩

/-- a run that returns true -/
noncomputable def runTrue (T : Tab) (P : Program) (K : Hand) (n : Nat) (fn : Func) (c : Code) (fr : Fr) (h : H) : Bool :=
  Option.rec false (fun l => List.rec (motive := fun _ => Bool) true (fun q _ ih => Bool.rec false ih (isT (Option.rec none (fun p => some p.1) (leaves P fn q.1 q.2.1 q.2.2)))) l) ((@run? T P K n).run fn.ntmps c fr h)

/-- what a call that returns true leaves -/
def Yes (P : Program) (fn : Func) (B : Kp) (w0 : World) (e' : Exit) (a' : Act) (w' : World) : Prop :=
  (e' = .normal ∨ e' = .ret) ∧ a'.defers = [] ∧ (w'.os = w0.os ∧ w'.tape = w0.tape ∧ w'.output = w0.output ∧ w0.heap.size ≤ w'.heap.size ∧ ∀ k, B.kept k → w'.heap[k]? = w0.heap[k]?) ∧ (results fn a'.tmps).run P w' = .ok (.bool true) w'

theorem isT_eq {o : Option AV} (h : isT o = true) : o = some (.bool true) := by
  unfold isT at h
  split at h
  · rfl
  · simp at h

theorem runTrue_sound [T : Tab] {fr : Fr} {h : H} (hm : P.follows .mixedOrders = true) {K : Hand} (hK : HandOk P K) {n : Nat} {fn : Func} {c : Code} (e : runTrue T P K n fn c fr h = true) (s : St T B w0 μ0 fn.ntmps fr h a w) :
    c.wp P (Yes P fn B w0) a w := by
  cases hr : (run? P K n).run fn.ntmps c fr h with
  | none => unfold runTrue at e; rw [hr] at e; simp at e
  | some l =>
    unfold runTrue at e
    rw [hr] at e
    refine wp_mono (s.run hm hK hr) ?_
    rintro e' a' w' ⟨q, hq, rfl, μ, _, f, r⟩
    have gen : ∀ (l : List (Ex × Fr × H)), (List.rec (motive := fun _ => Bool) true (fun q _ ih => Bool.rec false ih (isT (Option.rec none (fun p => some p.1) (leaves P fn q.1 q.2.1 q.2.2)))) l : Bool) = true → ∀ q ∈ l, ∃ h', leaves P fn q.1 q.2.1 q.2.2 = some (.bool true, h') := by
      intro l
      induction l with
      | nil => intro _ q hq; simp at hq
      | cons p l ih =>
        intro e q hq
        have e' : (@Bool.rec (fun _ => Bool) false (List.rec (motive := fun _ => Bool) true (fun q _ ih => Bool.rec false ih (isT (Option.rec none (fun p => some p.1) (leaves P fn q.1 q.2.1 q.2.2)))) l) (isT (Option.rec none (fun p => some p.1) (leaves P fn p.1 p.2.1 p.2.2)))) = true := e
        cases h1 : isT (Option.rec none (fun p => some p.1) (leaves P fn p.1 p.2.1 p.2.2)) with
        | false => rw [h1] at e'; simp at e'
        | true =>
        rw [h1] at e'
        simp only [List.mem_cons] at hq
        rcases hq with rfl | hq
        · have := isT_eq h1
          cases hl : leaves P fn q.1 q.2.1 q.2.2 with
          | none => rw [hl] at this; simp at this
          | some u =>
            rw [hl] at this
            simp only [Option.some.injEq] at this
            exact ⟨u.2, by rw [← this]⟩
        · exact ih e' q hq
    obtain ⟨h', hl⟩ := gen l e q hq
    obtain ⟨⟨e1, e2, e3, e4, e5, _⟩, _⟩ := r.parts
    obtain ⟨ex, fr1, h1⟩ := q
    cases ex with
    | normal =>
      obtain ⟨v, hv, e⟩ := ob_some (show ob _ _ = _ from hl)
      cases e
      obtain ⟨v', k1, k2⟩ := results_sound (P := P) f r hv
      simp only [vrel] at k2
      subst k2
      exact ⟨.inl rfl, f.2.1, ⟨e1, e2, e3, e4, e5⟩, k1⟩
    | ret =>
      obtain ⟨v, hv, e⟩ := ob_some (show ob _ _ = _ from hl)
      cases e
      obtain ⟨v', k1, k2⟩ := results_sound (P := P) f r hv
      simp only [vrel] at k2
      subst k2
      exact ⟨.inr rfl, f.2.1, ⟨e1, e2, e3, e4, e5⟩, k1⟩
    | exit id => simp [leaves] at hl

/-- the beginning of a law's call -/
theorem St.start [τ : Tab] {args : List AV} {args' : Array Value} {n : Nat} (w : World) (hg : Gl (Kp.below w.heap.size) w) (ha : vrels (fun _ => none) args args'.toList) (hl : args.length ≤ n) (hlim : args.length < limit) :
    St τ (Kp.below w.heap.size) w (fun _ => none) n (T.ofList 0 .leaf args) H.empty { tmps := args' ++ Array.replicate (n - args'.size) undef, defers := [] } w := by
  refine ⟨fun _ => none, Ext.refl _, ⟨?_, rfl, fun t v ht => ?_⟩, HR.start w hg⟩
  · have hlen : args'.size = args.length := by rw [← Array.length_toList, vrels_length ha]
    simp; omega
  · have hlen : args'.size = args.length := by rw [← Array.length_toList, vrels_length ha]
    rw [T.get_ofList _ _ _ _ (by unfold limit at hlim; omega)] at ht
    split at ht
    · rename_i hc
      simp only [Nat.sub_zero] at ht
      obtain ⟨v', g1, g2⟩ := vrels_get ha ht
      refine ⟨v', ?_, g2⟩
      rw [Array.getElem?_append_left (by omega), ← Array.getElem?_toList]
      exact g1
    · simp at ht

theorem yes_calls {f : FuncId} {fn : Func} {body : Code} {args' : Array Value} (hf : P.funcs[f]? = some fn) (hb : fn.body = some body) (w : World)
    (h : body.wp P (Yes P fn (Kp.below w.heap.size) w) { tmps := args' ++ Array.replicate (fn.ntmps - args'.size) undef, defers := [] } w) :
    Calls P f args' w fun e w' => e = .returned (.bool true) ∧ Below w.heap.size w w' := by
  refine calls_of_wp hf hb (wp_mono h ?_)
  rintro e' a' w' ⟨he, hd, ⟨e1, e2, e3, e4, e5⟩, hr⟩
  rcases he with rfl | rfl
  · exact ⟨hd, .bool true, hr, rfl, ⟨e1, e2, e3, e4, e5⟩⟩
  · exact ⟨hd, .bool true, hr, rfl, ⟨e1, e2, e3, e4, e5⟩⟩

/- code, the first parts and the rest -/
def firstn : Nat → Code → Code
  | n + 1, .seq a b => .seq a (firstn n b)
  | _, _ => .skip
def restn : Nat → Code → Code
  | n + 1, .seq _ b => restn n b
  | _, c => c

theorem split_sound [Tab] (hm : P.follows .mixedOrders = true) {K : Hand} (hK : HandOk P K) {Q : Exit → Act → World → Prop} : ∀ (n m : Nat) (c : Code) (fr : Fr) (h : H) (l : List (Ex × Fr × H)) (μ : M) (a : Act) (w : World),
    (run? P K m).run nt (firstn n c) fr h = some l → FR μ nt fr a → HR B w0 μ h w →
    (∀ q ∈ l, ∀ e' a' w', Post B w0 μ nt q.1 q.2.1 q.2.2 e' a' w' → match q.1 with
      | .normal => (restn n c).wp P Q a' w'
      | e => Q e.to a' w') → c.wp P Q a w := by
  intro n
  induction n with
  | zero =>
    intro m c fr h l μ a w e f r hq
    cases m with
    | zero => have e' : (none : Out) = some l := e; cases e'
    | succ m =>
      have e' : some [(Ex.normal, fr, h)] = some l := by cases c <;> exact e
      cases e'
      have := hq _ (List.mem_singleton.2 rfl) .normal a w ⟨rfl, μ, Ext.refl _, f, r⟩
      cases c <;> exact this
  | succ n ih =>
    intro m c fr h l μ a w e f r hq
    cases m with
    | zero => have e' : (none : Out) = some l := e; cases e'
    | succ m =>
      cases c with
      | seq x y =>
        have e' : sSeq x (firstn n y) P (run? P K m) nt fr h = some l := e
        obtain ⟨l1, hl1, hsub⟩ := obL_some e'
        refine wp_seq (wp_mono ((run_sound hm hK m).1.run nt x fr h l1 hl1 B w0 μ a w f r) ?_)
        rintro e' a' w' ⟨⟨e1, fr1, h1⟩, hmem, rfl, μ1, g1, g2, g3⟩
        obtain ⟨l2, hl2, hs2⟩ := hsub _ hmem
        have hl2 : seqD (firstn n y) (run? P K m) nt e1 fr1 h1 = some l2 := hl2
        cases e1 with
        | normal =>
          have hl3 : (run? P K m).run nt (firstn n y) fr1 h1 = some l2 := hl2
          refine ih m y fr1 h1 l2 μ1 a' w' hl3 g2 g3 fun q hq2 e2 a2 w2 p2 => ?_
          exact hq q (hs2 q hq2) e2 a2 w2 (p2.up g1)
        | exit id =>
          have hl3 : some [(Ex.exit id, fr1, h1)] = some l2 := hl2
          cases hl3
          exact hq _ (hs2 _ (List.mem_singleton.2 rfl)) (.exit id) a' w' ⟨rfl, μ1, g1, g2, g3⟩
        | ret =>
          have hl3 : some [(Ex.ret, fr1, h1)] = some l2 := hl2
          cases hl3
          exact hq _ (hs2 _ (List.mem_singleton.2 rfl)) .ret a' w' ⟨rfl, μ1, g1, g2, g3⟩
      | _ =>
        have e' : some [(Ex.normal, fr, h)] = some l := e
        cases e'
        exact hq _ (List.mem_singleton.2 rfl) .normal a w ⟨rfl, μ, Ext.refl _, f, r⟩

noncomputable def okOuts (C : Cv) (vp : VP) (ex : Ex) (fs : List (Nat × AV)) (bs : BS) (l : List (Ex × Fr × H)) : Bool :=
  List.rec (motive := fun _ => Bool) true (fun q _ ih => Bool.rec false (Bool.rec false (Bool.rec false ih (okBs C vp q.2.2 bs .leaf)) (okFs C q.2.1 fs)) (exEq q.1 ex)) l
theorem okOuts_mem [Tab] {C : Cv} {vp : VP} {ex : Ex} {fs : List (Nat × AV)} {bs : BS} : ∀ {l : List (Ex × Fr × H)}, okOuts C vp ex fs bs l = true → ∀ q ∈ l, q.1 = ex ∧ okFs C q.2.1 fs = true ∧ okBs C vp q.2.2 bs .leaf = true
  | [], _, q, hq => by simp at hq
  | p :: l, e, q, hq => by
    have e' : (@Bool.rec (fun _ => Bool) false (@Bool.rec (fun _ => Bool) false (@Bool.rec (fun _ => Bool) false (okOuts C vp ex fs bs l) (okBs C vp p.2.2 bs .leaf)) (okFs C p.2.1 fs)) (exEq p.1 ex)) = true := e
    cases h1 : exEq p.1 ex with
    | false => rw [h1] at e'; simp at e'
    | true =>
    cases h2 : okFs C p.2.1 fs with
    | false => rw [h1, h2] at e'; simp at e'
    | true =>
    cases h3 : okBs C vp p.2.2 bs .leaf with
    | false => rw [h1, h2, h3] at e'; simp at e'
    | true =>
    rw [h1, h2, h3] at e'
    simp only [List.mem_cons] at hq
    rcases hq with rfl | hq
    · exact ⟨exEq_eq h1, h2, h3⟩
    · exact okOuts_mem e' q hq

/-- the first parts of a code, run from a state to a state -/
noncomputable def firstTo (T : Tab) (P : Program) (K : Hand) (m nt n : Nat) (c : Code) (fr : Fr) (h : H) (C : Cv) (vp : VP) (fs : List (Nat × AV)) (bs : BS) : Bool :=
  Option.rec false (okOuts C vp .normal fs bs) ((@run? T P K m).run nt (firstn n c) fr h)

theorem firstTo_run [T : Tab] {fr : Fr} {h : H} (hm : P.follows .mixedOrders = true) {K : Hand} (hK : HandOk P K) {m n : Nat} {c : Code} {C : Cv} {vp : VP} {fs : List (Nat × AV)} {bs : BS} (e : firstTo T P K m nt n c fr h C vp fs bs = true) (s : St T B w0 μ0 nt fr h a w) {Q : Exit → Act → World → Prop}
    (hQ : ∀ fr' h' a' w', okFs C fr' fs = true → okBs C vp h' bs .leaf = true → St T B w0 μ0 nt fr' h' a' w' → (restn n c).wp P Q a' w') : c.wp P Q a w := by
  cases hr : (run? P K m).run nt (firstn n c) fr h with
  | none => unfold firstTo at e; rw [hr] at e; simp at e
  | some l =>
    unfold firstTo at e
    rw [hr] at e
    have e : okOuts C vp .normal fs bs l = true := e
    obtain ⟨μ, hx, f, r⟩ := s
    refine split_sound hm hK n m c fr h l μ a w hr f r fun q hq e' a' w' p => ?_
    obtain ⟨g1, g2, g3⟩ := okOuts_mem e q hq
    obtain ⟨_, μ', k1, k2, k3⟩ := p
    rw [g1]
    exact hQ q.2.1 q.2.2 a' w' g2 g3 ⟨μ', hx.trans k1, k2, k3⟩

theorem firstTo_sound {T T' : Tab} {fr : Fr} {h : H} (hm : P.follows .mixedOrders = true) {K : Hand} (hK : @HandOk T P K) {m n : Nat} {c : Code} {C : Cv} (hb : Base B μ0 C.N0) (hN : C.N0 ≤ C.N) {rl : List (Nat × Nat)} (hrl : C.rn = ofPairs rl) (hrk : okRn C rl = true) (hip : IpOk T T' C.ip) {vp : VP} (hvp : VpOk T T' C vp)
    (hgl : @Gl T B w0 → @Gl T' B w0) {fs : List (Nat × AV)} {bs : BS} (e : firstTo T P K m nt n c fr h C vp fs bs = true) (s : St T B w0 μ0 nt fr h a w) {Q : Exit → Act → World → Prop}
    (hQ : ∀ a' w', St T' B w0 μ0 nt (frOf fs) (hOf C.N bs) a' w' → (restn n c).wp P Q a' w') : c.wp P Q a w :=
  @firstTo_run P B w0 μ0 nt a w T fr h hm K hK m n c C vp fs bs e s Q (fun fr' h' a' w' hf hh s' => hQ a' w' (s'.weak hb hN hrl hrk hip hvp hgl hf hh))

/-- a loop, round for round -/
theorem rounds_of {c : Code} {Q : Exit → Act → World → Prop} {n : Nat} (h : c.wp P (fun e a' w' => match e with
    | .normal => Code.rounds P c Q n a' w'
    | e => Q e a' w') a w) : Code.rounds P c Q (n + 1) a w := by
  show c.wp P (Exit.then (Code.rounds P c Q n) Q) a w
  refine wp_mono h fun e a' w' p => ?_
  cases e <;> exact p
end Go.X
