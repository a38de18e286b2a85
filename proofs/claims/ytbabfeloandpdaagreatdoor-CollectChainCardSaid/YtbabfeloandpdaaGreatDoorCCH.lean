/-
  The law CollectChain: objects slide: loops, the contract.
-/
import Derived.Test.YtbabfeloandpdaaGreatDoorCCG
set_option linter.unusedVariables false
set_option linter.unusedSimpArgs false
set_option linter.unusedSectionVars false
set_option maxRecDepth 1000000
set_option maxHeartbeats 0
namespace Go.Proofs.YtbabfeloandpdaaGreatDoor.cc
open Go.X Go.RowKit Go.Proofs
/- a range over a map by name: one step further -/
def noIt : Blk → Bool
  | .oit .. => false
  | .oin .. => false
  | _ => true
theorem brel.tabN {T T' : Tab} (e : SameV T T') (em : T.mm = T'.mm) {μ : M} {b : Blk} {l : X.Loc} {w : World} (hn : noIt b = true) (h : @brel T μ b l w) : @brel T' μ b l w := by
  cases b with
  | cells n p z t => obtain ⟨arr, el, fz, h1, h2, h3, h4, h5, h6⟩ := h; exact ⟨arr, el, fz, h1, h2, h3, h4, h5, fun i a hi ha => let ⟨v, g1, g2⟩ := h6 i a hi ha; ⟨v, g1, vrel.tab e _ _ g2⟩⟩
  | glob n z t => obtain ⟨arr, el, fz, h1, h2⟩ := h; exact ⟨arr, el, fz, h1, fun i a hi ha => let ⟨v, g1, g2⟩ := h2 i a hi ha; ⟨v, g1, vrel.tab e _ _ g2⟩⟩
  | map es c => obtain ⟨es', h1, h2⟩ := h; exact ⟨es', h1, esrel.tab e h2⟩
  | siter n c pos => exact h
  | miter m since seen st =>
    cases m with
    | none => exact h
    | some x => exact h
  | vec i =>
    obtain ⟨arr, el, fz, h1, h2, h3, h4, h5⟩ := h
    exact ⟨arr, el, fz, h1, h2, h3, by rw [← e.vk]; exact h4, fun m a ha => let ⟨v, g1, g2⟩ := h5 m a (by rw [e.vv]; exact ha); ⟨v, g1, vrel.tab e _ _ g2⟩⟩
  | omap i => simp only [brel] at h ⊢; rw [← em]; exact h
  | oit m i => cases hn
  | oin m i q => cases hn
noncomputable abbrev withSv (T : Tab) (q' : Nat) (S : Nat × List Nat × Nat) : Tab := { T with
  sv := fun n => if n = q' then S else T.sv n, mr := [], mrok := (fun _ h => nomatch h), mx := [], mxok := (fun _ h => nomatch h), mn := [], mnok := (fun _ h => nomatch h) }
theorem St.oin {T : Tab} {B : Kp} {w0 : World} {μ0 : M} {nt : Nat} {fr : Fr} {h : H} {a : Act} {w : World} (s : St T B w0 μ0 nt fr h a w) {r m i q : Nat} (q' : Nat) (hr : h.get r = some (.oin m i q)) (hlim : r < 16000000) (hq : ∀ x b, h.get x = some b → x = r ∨ noIt b = true) :
    ∃ e ∈ (T.mm i).1, e.2.2 ∉ (T.sv q).2.1 ∧ St (withSv T q' ((T.sv q).1, (T.sv q).2.1 ++ [e.2.2], (T.mm i).2)) B w0 μ0 nt fr (h.put r (.oit m q')) a w := by
  obtain ⟨μ, hx, f, r0⟩ := s
  have hf := @HR.fresh T B w0 μ h w r0
  obtain ⟨⟨e1, e2, e3, e4, e5, e6⟩, eg, eres, eblk, esep⟩ := @HR.parts B w0 w T μ h r0
  obtain ⟨l, hl, o1, o2, hb⟩ := eblk r _ hr
  obtain ⟨h0, k, e, g0, g1, g2, g3⟩ := hb
  have sv : SameV T (withSv T q' ((T.sv q).1, (T.sv q).2.1 ++ [e.2.2], (T.mm i).2)) := ⟨rfl, rfl, rfl, rfl, rfl, rfl, rfl, rfl, rfl⟩
  have hrn : r < h.next := by
    rcases Nat.lt_or_ge r h.next with c | c
    · exact c
    · have := (hf r c).1; rw [hr] at this; cases this
  have gp : ∀ y, (h.put r (.oit m q')).get y = if y = r then some (.oit m q') else h.get y := fun y => H.get_put _ _ _ _ hlim
  have kp : @Keeps (withSv T q' ((T.sv q).1, (T.sv q).2.1 ++ [e.2.2], (T.mm i).2)) B w0 w := @Keeps.mk (withSv T q' ((T.sv q).1, (T.sv q).2.1 ++ [e.2.2], (T.mm i).2)) B w0 w e1 e2 e3 e4 e5 e6 (Gl.tab sv eg)
  refine ⟨e, g1, g2, μ, hx, ⟨f.1, f.2.1, fun t v ht => ?_⟩, @HR.mk (withSv T q' ((T.sv q).1, (T.sv q).2.1 ++ [e.2.2], (T.mm i).2)) B w0 μ (h.put r (.oit m q')) w kp (fun x hx => ?_) eres (fun x b hb => ?_) (fun x y b c l k hb hc hne ho ho' hl hk => ?_)⟩
  · obtain ⟨v', k1, k2⟩ := f.2.2 t v ht
    exact ⟨v', k1, vrel.tab sv _ _ k2⟩
  · have hx' : h.next ≤ x := hx
    exact ⟨by rw [gp, if_neg (by omega)]; exact (hf x hx').1, (hf x hx').2⟩
  · rw [gp] at hb
    split at hb
    · rename_i c; subst c; cases hb
      refine ⟨l, hl, o1, o2, ?_⟩
      refine ⟨h0, k, g0, ?_⟩
      show w.heap[l.block]? = some (.mapIter (some k.block) (if q' = q' then _ else _ : Nat × List Nat × Nat).1 ⟨(if q' = q' then _ else _ : Nat × List Nat × Nat).2.1⟩ (if q' = q' then _ else _ : Nat × List Nat × Nat).2.2)
      rw [if_pos rfl]
      exact g3
    · rename_i c
      obtain ⟨l', k1, k2, k3, k4⟩ := eblk x b hb
      rcases hq x b hb with d | d
      · exact absurd d c
      · exact ⟨l', k1, k2, k3, brel.tabN sv rfl d k4⟩
  · have old : ∀ x2 b2, (h.put r (.oit m q')).get x2 = some b2 → ∃ b', h.get x2 = some b' ∧ own b' = own b2 := fun x2 b2 hb2 => by
      rw [gp] at hb2
      by_cases c : x2 = r
      · rw [if_pos c] at hb2
        rw [c]
        rw [← Option.some.inj hb2]
        exact ⟨_, hr, rfl⟩
      · rw [if_neg c] at hb2
        exact ⟨b2, hb2, rfl⟩
    obtain ⟨b', q1, q2⟩ := old x b hb
    obtain ⟨c', q3, q4⟩ := old y c hc
    exact esep x y b' c' l k q1 q3 hne (q2.trans ho) (q4.trans ho') hl hk
def itFree (r : Nat) (bs : BS) : Bool := bs.all fun p => Nat.blt p.1 limit && (Nat.beq p.1 r || noIt p.2.2)
theorem itFree_ok {r N : Nat} {bs : BS} (h : itFree r bs = true) : ∀ x b, (hOf N bs).get x = some b → x = r ∨ noIt b = true := fun x b hb => by
  have hb' : (ofPairs (bsOf bs)).get x = some b := by
    have : hOf N bs = ⟨N, ofPairs (bsOf bs)⟩ := by unfold hOf; rw [fT_eq]
    rw [this] at hb; exact hb
  have mem : ∀ l : BS, ∀ q ∈ bsOf l, ∃ p ∈ l, p.1 = q.1 ∧ p.2.2 = q.2 := by
    intro l
    induction l with
    | nil => intro q hq; cases hq
    | cons a l ih =>
      intro q hq
      have hq' : q ∈ (a.1, a.2.2) :: bsOf l := hq
      rcases List.mem_cons.1 hq' with rfl | hq'
      · exact ⟨a, by simp, rfl, rfl⟩
      · obtain ⟨p, p1, p2⟩ := ih q hq'
        exact ⟨p, by simp [p1], p2⟩
  have hall := List.all_eq_true.1 h
  have hlim : ∀ q ∈ bsOf bs, q.1 < limit := fun q hq => by
    obtain ⟨p, p1, p2, _⟩ := mem bs q hq
    have := hall p p1
    simp only [Bool.and_eq_true] at this
    rw [← p2]; exact @blt_iff Tab.empty _ _ |>.1 this.1
  obtain ⟨p, p1, p2, p3⟩ := mem bs _ (ofPairs_get hlim hb')
  have := hall p p1
  simp only [Bool.and_eq_true, Bool.or_eq_true] at this
  rcases this.2 with c | c
  · exact .inl (by rw [← @nbeq_iff Tab.empty _ _ |>.1 c]; exact p2.symm)
  · right
    have p3 : p.2.2 = b := p3
    rw [← p3]; exact c
section
variable {p : Pc} {k : Nat} {B : Kp} {w0 : World} {μ : M} {a : Act} {w : World}
/-- what is marked -/
structure Mok (p : Pc) : Prop where
  y : ∀ c, p.g ≤ c → c < p.n → mapL ((3 * c + 1 : Nat) : Int) p.ma.1 = some 1
  no : ∀ c, c < p.g → mapL ((3 * c + 1 : Nat) : Int) p.ma.1 = none
theorem vW0 {T T' : Tab} {C : Cv} {n : Nat} {W W' : Nat → BitVec 64} {i : Nat} (h1 : T.vv i = numV .u64 (3 * n) (fun m => wI (W m)) := by exact rfl) (h2 : T.vk i = 3 * n := by exact rfl) (h3 : T'.vv 10 = numV .u64 (3 * n) (fun m => wI (W' m)) := by exact rfl) (h4 : T'.vk 10 = 3 * n := by exact rfl)
    (h5 : T.vv 11 = numV .i64 n (fun m => ((3 * m : Nat) : Int)) := by exact rfl) (h6 : T.vk 11 = n := by exact rfl) (h7 : T'.vv 11 = numV .i64 n (fun m => ((3 * m : Nat) : Int)) := by exact rfl) (h8 : T'.vk 11 = n := by exact rfl) (he : ∀ m, W' m = W m := by exact fun _ => rfl) : VpOk T T' C (vW i 10) :=
  vpNum (vpNum vpNil h5 h7 h6 h8 rfl (fun _ _ => rfl)) h1 h3 h2 h4 rfl (fun m _ => congrArg wI (he m))
def SF (p : Pc) (k : Nat) (B : Kp) (w0 : World) (μ : M) (a : Act) (w : World) : Prop := St (T0 p k) B w0 μ ntS (frOf (fsF (.oi 10) (.oi 40))) (hOf 40002 (bsF 40001 2)) a w
def SG (p : Pc) (B : Kp) (w0 : World) (μ : M) (a : Act) (w : World) : Prop := St (T0 p 0) B w0 μ ntS (frOf fsG) (hOf 40002 (bsJ 40001 10)) a w
theorem fRound (h : Ok p) (hm : Mok p) (hb : Base B μ 40000) (hk : k < p.n) (s : SF p k B w0 μ a w) : s4L.wp Tryz.prog (fun e a' w' => e = .normal ∧ SF p (k + 1) B w0 μ a' w') a w := by
  by_cases hg : p.g ≤ k
  · have hip : ∀ (R : RwP p k) (M : Mw p k), IpOk (Tb R M) (T0 p (k + 1)) iK := fun R M => ipM (ipZ (a := ((3 * (k - p.g) + 3 : Nat) : Int)) (b := ((3 * (k + 1 - p.g) : Nat) : Int)) (q := .i64) (ipE (ipE (ipE (ipM ipNil)))) rfl rfl (by omega)) (by show toM p.g (k + 1 - p.g) = toM p.g (k - p.g + 1); rw [show k + 1 - p.g = k - p.g + 1 by omega])
    by_cases ht : k + 1 < p.n
    · exact runTo_sound (T := Tb (RK p k true h hk hg (decide_eq_true ht)) (MK p k hg (hm.y k hg hk))) (T' := T0 p (k + 1)) mixed hNo (C := C1 40001 iK) (ex := .normal) hb (show 40000 ≤ 40002 by decide) (rl := rl1 40001) rfl (by kernel_rfl) (hip _ _) (vW0 (n := p.n) (W := p.W) (W' := p.W)) glL (gK1 p k h hk hg _ _) (St.same (Tb.same _ _ _ _) s)
    · exact runTo_sound (T := Tb (RK p k false h hk hg (decide_eq_false ht)) (MK p k hg (hm.y k hg hk))) (T' := T0 p (k + 1)) mixed hNo (C := C1 40001 iK) (ex := .normal) hb (show 40000 ≤ 40002 by decide) (rl := rl1 40001) rfl (by kernel_rfl) (hip _ _) (vW0 (n := p.n) (W := p.W) (W' := p.W)) glL (gK0 p k h hk hg _ _) (St.same (Tb.same _ _ _ _) s)
  · exact runTo_sound (T := Tb (RG p k h hk) (MG p k (hm.no k (by omega)))) (T' := T0 p (k + 1)) mixed hNo (C := C1 40001 iG) (ex := .normal) hb (show 40000 ≤ 40002 by decide) (rl := rl1 40001) rfl (by kernel_rfl)
      (ipM (ipZ (a := ((3 * (k - p.g) : Nat) : Int)) (b := ((3 * (k + 1 - p.g) : Nat) : Int)) (q := .i64) (ipE (ipE (ipE (ipM ipNil)))) rfl rfl (by omega)) (by show toM p.g (k + 1 - p.g) = toM p.g (k - p.g); rw [show k + 1 - p.g = k - p.g by omega]))
      (vW0 (n := p.n) (W := p.W) (W' := p.W)) glL (gG p k h hk _) (St.same (Tb.same _ _ _ _) s)
theorem fExit (hb : Base B μ 40000) (s : SF p p.n B w0 μ a w) : s4L.wp Tryz.prog (fun e a' w' => e = .exit 0 ∧ SG p B w0 μ a' w') a w :=
  runTo_sound (T := Tb (RE p p.n (Nat.lt_irrefl _)) (M0 p p.n)) (T' := T0 p 0) mixed hNo (C := C1 40001 iE) (ex := .exit 0) hb (show 40000 ≤ 40002 by decide) (rl := rl1 40001) rfl (by kernel_rfl) (ipM (ipE (q := (.i64, ((3 * p.cnt : Nat) : Int))) (ipE (ipE (ipM ipNil))) rfl rfl)) (vW0 (n := p.n) (W := p.W) (W' := p.W)) glL (gE p p.n _) (St.same (Tb.same _ _ _ _) s)
theorem fRounds (h : Ok p) (hm : Mok p) (hb : Base B μ 40000) : ∀ (j k : Nat) (a : Act) (w : World), k + j = p.n + 1 → k ≤ p.n → SF p k B w0 μ a w → Code.rounds Tryz.prog s4L (fun e a w => e = .exit 0 ∧ SG p B w0 μ a w) j a w
  | 0, k, a, w, h1, h2, s => by omega
  | j + 1, k, a, w, h1, h2, s => by
    by_cases hk : k < p.n
    · refine rounds_of (wp_mono (fRound h hm hb hk s) ?_)
      rintro e a' w' ⟨rfl, s'⟩
      exact fRounds h hm hb j (k + 1) a' w' (by omega) (by omega) s'
    · obtain rfl : k = p.n := by omega
      refine rounds_of (wp_mono (fExit hb s) ?_)
      rintro e a' w' ⟨rfl, s'⟩
      exact ⟨rfl, s'⟩
/- the range -/
def SI (p : Pc) (B : Kp) (w0 : World) (μ : M) (a : Act) (w : World) : Prop := St (T0 p 0) B w0 μ ntS (frOf fsI) (hOf 40003 (bsI 40001 40002 10 (.oit 40001 0))) a w
/-- what is not seen is as it was -/
structure Fok (p : Pc) : Prop where
  u : ∀ c, p.g ≤ c → c < p.n → c - p.g ∉ p.q.2.1 → wI (p.W (3 * c + 2)) = 0 ∨ ∃ d, p.g ≤ d ∧ d < p.n ∧ wI (p.W (3 * c + 2)) = ((3 * d + 1 : Nat) : Int)
theorem gO1 : okFs (C2 40001 40002 ((.ptr 1 0, 1) :: iR)) (frOf fsI2) fsI2 = true := by as_aux_lemma => kernel_rfl
theorem gO2 : okBs (C2 40001 40002 ((.ptr 1 0, 1) :: iR)) (vW 10 10) ((hOf 40003 (bsI 40001 40002 10 (.oin 40001 5 0))).put 40002 (.oit 40001 1)) (bsI 40001 40002 10 (.oit 40001 1)) .leaf = true := by as_aux_lemma => kernel_rfl
theorem gO3 : (hOf 40003 (bsI 40001 40002 10 (.oin 40001 5 0))).get 40002 = some (.oin 40001 5 0) := by as_aux_lemma => kernel_rfl
theorem gO4 : itFree 40002 (bsI 40001 40002 10 (.oin 40001 5 0)) = true := by as_aux_lemma => kernel_rfl
theorem rk2 : ∀ ip, okRn (C2 40001 40002 ip) (rl2 40001 40002) = true := fun ip => by kernel_rfl
/-- the next one is drawn -/
theorem iDraw (hb : Base B μ 40000) (hs : Sok p) (hn : ∃ j, j < p.cnt ∧ j ∉ p.q.2.1) (s : SI p B w0 μ a w) : n5.wp Tryz.prog (fun e a' w' => e = .normal ∧ ∃ j, j < p.cnt ∧ j ∉ p.q.2.1 ∧ ∀ x, St (T0 { p with c := p.g + j, x := x, q' := (p.cnt, p.q.2.1 ++ [j], p.cnt) } 0) B w0 μ ntS (frOf fsI2) (hOf 40003 (bsI 40001 40002 10 (.oit 40001 1))) a' w') a w := by
  obtain ⟨j0, h1, h2⟩ := hn
  refine wp_mono (runTo_sound (T := Tb (R0 p 0) (MXt p 0 j0 hs h1 h2)) (T' := T0 p 0) mixed hNo (C := C2 40001 40002 ((.ptr 0 0, 0) :: iR)) (ex := .normal) hb (show 40000 ≤ 40003 by decide) (rl := rl2 40001 40002) rfl (rk2 _) (ipQ (ipM (ipE (ipE (ipE (ipM ipNil)))))) (vW0 (n := p.n) (W := p.W) (W' := p.W)) glL (gNt p j0 hs h1 h2) (St.same (Tb.same _ _ _ _) s)) ?_
  rintro e a' w' ⟨rfl, s1⟩
  obtain ⟨e, e1, e2, s2⟩ := St.oin (T := T0 p 0) s1 1 gO3 (by decide) (itFree_ok gO4)
  have e1 : e ∈ (toM p.g p.cnt).1 := e1
  have e2 : e.2.2 ∉ p.q.2.1 := e2
  refine ⟨rfl, e.2.2, (toM_mem e1).1, e2, fun x => ?_⟩
  have hsv : ((p.q.1, p.q.2.1 ++ [e.2.2], (toM p.g p.cnt).2) : Nat × List Nat × Nat) = (p.cnt, p.q.2.1 ++ [e.2.2], p.cnt) := by rw [hs.a]; rfl
  exact St.weak (T := withSv (T0 p 0) 1 (p.q.1, p.q.2.1 ++ [e.2.2], (toM p.g p.cnt).2)) (T' := T0 { p with c := p.g + e.2.2, x := x, q' := (p.cnt, p.q.2.1 ++ [e.2.2], p.cnt) } 0) (C := C2 40001 40002 ((.ptr 1 0, 1) :: iR)) hb (show 40000 ≤ 40003 by decide) (rl := rl2 40001 40002) rfl (rk2 _)
    (ipQ (ipM (ipE (ipE (ipE (ipM ipNil))))) (by show ((p.cnt, p.q.2.1 ++ [e.2.2], p.cnt) : Nat × List Nat × Nat) = if (1 : Nat) = 1 then _ else _; rw [if_pos rfl]; exact hsv.symm)) (vW0 (n := p.n) (W := p.W) (W' := p.W)) glL gO1 gO2 s2
end
end Go.Proofs.YtbabfeloandpdaaGreatDoor.cc
