/-
  The search for what is below all that is there.
-/
import Derived.Test.YtbabfeloandpdaaGreatDoorCBM
import Derived.Test.YtbabfeloandpdaaGreatDoorXN4
import Derived.Test.YtbabfeloandpdaaGreatDoorProg
import Derived.KernelRfl
set_option linter.unusedSectionVars false
set_option linter.unusedVariables false
set_option maxRecDepth 1000000
set_option maxHeartbeats 0
namespace Go.Proofs.YtbabfeloandpdaaGreatDoor.bn
open Go.X Go.RowKit Go.Proofs.YtbabfeloandpdaaGreatDoor.bs
/-- n, what is looked for, lo, hi; their sum (twice), the middle (twice), what stands there, what stands first -/
abbrev ivN (F : Nat → Int) (n : Nat) (V : Int) (lo hi : Nat) : Nat → IntKind × Int
  | 0 => (.i64, (n : Int))
  | 1 => (.i64, V)
  | 2 => (.i64, (lo : Int))
  | 3 => (.i64, (hi : Int))
  | 4 => (.i64, ((lo + hi : Nat) : Int))
  | 5 => (.u64, ((lo + hi : Nat) : Int))
  | 6 => (.u64, ((mid lo hi : Nat) : Int))
  | 7 => (.i64, ((mid lo hi : Nat) : Int))
  | 8 => (.i64, F (mid lo hi))
  | 9 => (.i64, F 0)
  | _ => (.i64, 0)
abbrev N0 (F : Nat → Int) (n : Nat) (V : Int) (lo hi : Nat) : VRows (ivN F n V lo hi) noV noK where
  vvp := noVp
  ib := []
  ibok := ibNil
abbrev M0 (F : Nat → Int) (n : Nat) (V : Int) (lo hi : Nat) (fb : Nat × Nat) (cap : Nat) : Tab := (N0 F n V lo hi).ftab (fgn F n fb cap) [] noFl
noncomputable def S1 (F : Nat → Int) (n : Nat) (V : Int) (hi : Nat) (fb : Nat × Nat) (cap : Nat) (B : Kp) (w0 : World) (μ : M) (a : Act) (w : World) : Prop := St (M0 F n V 0 hi fb cap) B w0 μ nt (frOf fs0) (hOf 0 []) a w
section
variable {F : Nat → Int} {n : Nat} {V : Int} {lo hi : Nat} {fb : Nat × Nat} {cap : Nat} {B : Kp} {w0 : World} {μ : M} {a : Act} {w : World}
theorem ibA (h1 : lo < hi) (h2 : hi ≤ n) (h3 : n < 100000) (h4 : decide (F (mid lo hi) < V) = false) : ∀ x_ ∈ ([(11, .oi 2, .oi 3, .bool true), (0, .oi 2, .oi 3, .oi 4), (16, .oi 5, .int .u64 1, .oi 6), (11, .oi 7, .oi 0, .bool true), (14, .oi 7, .int .i64 0, .bool true), (10, .oi 8, .oi 8, .bool false), (10, .oi 1, .oi 1, .bool false), (11, .oi 8, .oi 1, .bool false)] : List BRow), IbOk (ivN F n V lo hi) x_ := by
  letI := Tab.empty
  have hm : mid lo hi < n := by unfold mid; omega
  exact (ibCons (ibLt (a := (lo : Int)) (b := (hi : Int)) rfl rfl (decide_eq_true (by omega)))
    (ibCons (ibAdd (a := (lo : Int)) (b := (hi : Int)) (c := ((lo + hi : Nat) : Int)) rfl rfl rfl (by omega) (by omega) (by omega))
    (ibCons (ibShr (a := ((lo + hi : Nat) : Int)) (b := 1) (c := ((mid lo hi : Nat) : Int)) rfl rfl rfl (by decide) (by
      show (((lo + hi : Nat) : Int)).fdiv 2 = ((mid lo hi : Nat) : Int)
      rw [Int.fdiv_eq_ediv_of_nonneg _ (by decide)]; unfold mid; omega))
    (ibCons (ibLt (a := ((mid lo hi : Nat) : Int)) (b := (n : Int)) rfl rfl (decide_eq_true (by omega)))
    (ibCons (ibGe (a := ((mid lo hi : Nat) : Int)) (b := 0) rfl rfl (decide_eq_true (by omega)))
    (ibCons (ibNe (a := F (mid lo hi)) (b := F (mid lo hi)) rfl rfl (by simp))
    (ibCons (ibNe (a := V) (b := V) rfl rfl (by simp))
    (ibCons (ibLt (a := F (mid lo hi)) (b := V) rfl rfl h4) ibNil))))))))
theorem icA (h1 : lo < hi) (h2 : hi ≤ n) (h3 : n < 100000) : ∀ x_ ∈ ([(.u64, .oi 4, .oi 5), (.i64, .oi 6, .oi 7)] : List (IntKind × AV × AV)), IcOk' (ivN F n V lo hi) x_ := by
  have hm : mid lo hi < n := by unfold mid; omega
  exact icCons ⟨.i64, ((lo + hi : Nat) : Int), rfl, by show some (IntKind.u64, _) = some (IntKind.u64, _); rw [wrapU (by omega) (by omega)]⟩ (icCons ⟨.u64, ((mid lo hi : Nat) : Int), rfl, by show some (IntKind.i64, _) = some (IntKind.i64, _); rw [wrap64 (by omega) (by omega)]⟩ icNil)
theorem flA (h1 : lo < hi) (h2 : hi ≤ n) : ∀ r ∈ ([⟨0, 7, 1, 0, [.oi 8]⟩] : List VL), FlOk (ivN F n V lo hi) (fgn F n fb cap) r := fun r hr => by
  have hm : mid lo hi < n := by unfold mid; omega
  simp only [List.mem_cons, List.not_mem_nil, or_false] at hr
  subst hr
  refine flN (K := .i64) (k := mid lo hi) (A := n) (e := F) rfl rfl (by show mid lo hi * 1 + 0 + 1 ≤ n; omega) (fun m b hb => ?_)
  cases m with
  | succ m => simp at hb
  | zero =>
    cases hb
    show some (IntKind.i64, F (mid lo hi)) = some (IntKind.i64, F (mid lo hi * 1 + 0 + 0))
    congr 3; omega
abbrev RA (h1 : lo < hi) (h2 : hi ≤ n) (h3 : n < 100000) (h4 : decide (F (mid lo hi) < V) = false) : VRows (ivN F n V lo hi) noV noK where
  vvp := noVp
  ib := [(11, .oi 2, .oi 3, .bool true), (0, .oi 2, .oi 3, .oi 4), (16, .oi 5, .int .u64 1, .oi 6), (11, .oi 7, .oi 0, .bool true), (14, .oi 7, .int .i64 0, .bool true), (10, .oi 8, .oi 8, .bool false), (10, .oi 1, .oi 1, .bool false), (11, .oi 8, .oi 1, .bool false)]
  ibok := ibA h1 h2 h3 h4
  ic := [(.u64, .oi 4, .oi 5), (.i64, .oi 6, .oi 7)]
  icok := icA h1 h2 h3
abbrev PA (h1 : lo < hi) (h2 : hi ≤ n) (h3 : n < 100000) (h4 : decide (F (mid lo hi) < V) = false) : Tab := (RA h1 h2 h3 h4).ftab (fgn F n fb cap) [⟨0, 7, 1, 0, [.oi 8]⟩] (flA h1 h2)
theorem goMore (h1 : 0 < hi) (h2 : hi ≤ n) (h3 : n < 100000) (h4 : ¬ F (mid 0 hi) < V) (hb : Base B μ 0) {Q : Exit → Act → World → Prop} {j_ : Nat} (s_ : S1 F n V hi fb cap B w0 μ a w) (hQ : ∀ a' w', S1 F n V (mid 0 hi) fb cap B w0 μ a' w' → Code.rounds Tryz.prog la Q j_ a' w') : Code.rounds Tryz.prog la Q (j_ + 1) a w := by
  have e4 : decide (F (mid 0 hi) < V) = false := decide_eq_false h4
  exact stepsTo_sound (T := PA (fb := fb) (cap := cap) h1 h2 h3 e4) (T' := M0 F n V 0 (mid 0 hi) fb cap) (K := Hand.none) (m := 5000) mixed (@HandOk.none (PA (fb := fb) (cap := cap) h1 h2 h3 e4) Tryz.prog) (C := ⟨0, 0, ofPairs [], [(.fo 0 0 1, 0), (.oi 0, 0), (.oi 1, 1), (.oi 2, 2), (.oi 7, 3)]⟩) (ex := .normal) (rl := []) (vp := []) (fs := fs0) (bs := [])
    hb (by decide) rfl (by kernel_rfl) (ipCons ⟨rfl, rfl⟩ (ipCons (ipN (.i64, (n : Int)) rfl rfl) (ipCons (ipN (.i64, V) rfl rfl) (ipCons (ipN (.i64, ((0 : Nat) : Int)) rfl rfl) (ipCons (ipN (.i64, ((mid 0 hi : Nat) : Int)) rfl rfl) ipNil))))) vpNil (glB rfl rfl rfl rfl) (by as_aux_lemma => kernel_rfl) (St.same (VRows.fsame _ _ _ _ _ _ _) s_) (fun a' w' q => hQ a' w' q)
-- the end
theorem ibE (h1 : 0 < n) (h3 : n < 100000) (h : V < F 0) : ∀ x_ ∈ ([(11, .oi 2, .oi 3, .bool false), (11, .oi 2, .oi 0, .bool true), (14, .oi 2, .int .i64 0, .bool true), (9, .oi 9, .oi 1, .bool false), (10, .oi 9, .oi 9, .bool false), (10, .oi 1, .oi 1, .bool false)] : List BRow), IbOk (ivN F n V 0 0) x_ := by
  letI := Tab.empty
  exact (ibCons (ibLt (a := ((0 : Nat) : Int)) (b := ((0 : Nat) : Int)) rfl rfl (decide_eq_false (by omega)))
    (ibCons (ibLt (a := ((0 : Nat) : Int)) (b := (n : Int)) rfl rfl (decide_eq_true (by omega)))
    (ibCons (ibGe (a := ((0 : Nat) : Int)) (b := 0) rfl rfl (decide_eq_true (by omega)))
    (ibCons (ibEq (a := F 0) (b := V) rfl rfl (decide_eq_false (by omega))) (ibCons (ibNe (a := F 0) (b := F 0) rfl rfl (by simp)) (ibCons (ibNe (a := V) (b := V) rfl rfl (by simp)) ibNil))))))
theorem flE (h1 : 0 < n) : ∀ r ∈ ([⟨0, 2, 1, 0, [.oi 9]⟩] : List VL), FlOk (ivN F n V 0 0) (fgn F n fb cap) r := fun r hr => by
  simp only [List.mem_cons, List.not_mem_nil, or_false] at hr
  subst hr
  refine flN (K := .i64) (k := 0) (A := n) (e := F) rfl rfl (by show 0 * 1 + 0 + 1 ≤ n; omega) (fun m b hb => ?_)
  cases m with
  | succ m => simp at hb
  | zero =>
    cases hb
    show some (IntKind.i64, F 0) = some (IntKind.i64, F (0 * 1 + 0 + 0))
    rfl
abbrev RE (h1 : 0 < n) (h3 : n < 100000) (h : V < F 0) : VRows (ivN F n V 0 0) noV noK where
  vvp := noVp
  ib := [(11, .oi 2, .oi 3, .bool false), (11, .oi 2, .oi 0, .bool true), (14, .oi 2, .int .i64 0, .bool true), (9, .oi 9, .oi 1, .bool false), (10, .oi 9, .oi 9, .bool false), (10, .oi 1, .oi 1, .bool false)]
  ibok := ibE h1 h3 h
abbrev PE (h1 : 0 < n) (h3 : n < 100000) (h : V < F 0) : Tab := (RE h1 h3 h).ftab (fgn F n fb cap) [⟨0, 2, 1, 0, [.oi 9]⟩] (flE h1)
theorem goEnd (h1 : 0 < n) (h3 : n < 100000) (h : V < F 0) (hb : Base B μ 0) {Q : Exit → Act → World → Prop} {j_ : Nat} (s_ : S1 F n V 0 fb cap B w0 μ a w) (hQ : ∀ a' w', S1 F n V 0 fb cap B w0 μ a' w' → Q (.exit 0) a' w') : Code.rounds Tryz.prog la Q (j_ + 1) a w := by
  exact stepsTo_sound (T := PE (fb := fb) (cap := cap) h1 h3 h) (T' := M0 F n V 0 0 fb cap) (K := Hand.none) (m := 5000) mixed (@HandOk.none (PE (fb := fb) (cap := cap) h1 h3 h) Tryz.prog) (C := ⟨0, 0, ofPairs [], [(.fo 0 0 1, 0), (.oi 0, 0), (.oi 1, 1), (.oi 2, 2), (.oi 3, 3)]⟩) (ex := .exit 0) (rl := []) (vp := []) (fs := fs0) (bs := [])
    hb (by decide) rfl (by kernel_rfl) (ipCons ⟨rfl, rfl⟩ (ipCons (ipN (.i64, (n : Int)) rfl rfl) (ipCons (ipN (.i64, V) rfl rfl) (ipCons (ipN (.i64, ((0 : Nat) : Int)) rfl rfl) (ipCons (ipN (.i64, ((0 : Nat) : Int)) rfl rfl) ipNil))))) vpNil (glB rfl rfl rfl rfl) (by as_aux_lemma => kernel_rfl) (St.same (VRows.fsame _ _ _ _ _ _ _) s_) (fun a' w' q => hQ a' w' q)
theorem rounds (h1 : 0 < n) (h3 : n < 100000) (h : ∀ m, m < n → V < F m) (hb : Base B μ 0) {Q : Exit → Act → World → Prop} (hQ : ∀ a' w', S1 F n V 0 fb cap B w0 μ a' w' → Q (.exit 0) a' w') :
    ∀ (g hi : Nat) (a : Act) (w : World), hi ≤ g → hi ≤ n → S1 F n V hi fb cap B w0 μ a w → Code.rounds Tryz.prog la Q (g + 1) a w
  | 0, hi, a, w, e1, e2, s => by
    obtain rfl : hi = 0 := by omega
    exact goEnd h1 h3 (h 0 h1) hb s hQ
  | g + 1, hi, a, w, e1, e2, s => by
    by_cases c : 0 < hi
    · have hm : mid 0 hi < hi := by unfold mid; omega
      have d := h (mid 0 hi) (by omega)
      exact goMore c e2 h3 (by omega) hb s (fun a' w' s' => rounds h1 h3 h hb hQ g _ a' w' (by omega) (by omega) s')
    · obtain rfl : hi = 0 := by omega
      exact goEnd h1 h3 (h 0 h1) hb s hQ
/-- the search, over a slice that came in -/
theorem bs0 (h1 : 0 < n) (h3 : n < 100000) (h : ∀ m, m < n → V < F m) : @CallOk (M0 F n V 0 0 fb cap) Tryz.prog 62 [.fo 0 0 1, .oi 1] ⟨0, .leaf⟩ (.tup [.oi 2, .bool false], hOf 0 []) := by
  letI : Tab := M0 F n V 0 0 fb cap
  refine callOk_of (fn := Tryz.f62) Tryz.func62 bodyB (by decide +kernel) (by decide) fun B w0 μ a w hb s0 => ?_
  refine firstTo_sound (T := M0 F n V 0 0 fb cap) (T' := M0 F n V 0 n fb cap) (K := Hand.none) (m := 5000) (n := 3) mixed (@HandOk.none (M0 F n V 0 0 fb cap) Tryz.prog) (C := ⟨0, 0, ofPairs [], [(.fo 0 0 1, 0), (.oi 0, 0), (.oi 1, 1), (.int .i64 0, 2), (.oi 0, 3)]⟩) (rl := []) (vp := []) (fs := fs0) (bs := [])
    hb (by decide) rfl (by kernel_rfl) (ipCons ⟨rfl, rfl⟩ (ipCons (ipN (.i64, (n : Int)) rfl rfl) (ipCons (ipN (.i64, V) rfl rfl) (ipCons (ipK rfl) (ipCons (ipN (.i64, (n : Int)) rfl rfl) ipNil))))) vpNil (glB rfl rfl rfl rfl) (by as_aux_lemma => kernel_rfl) s0 fun a' w' s' => ?_
  rw [restB]
  refine wp_seq (wp_block (wp_mono (wp_loop_rounds _ (rounds h1 h3 h hb (Q := fun e a w => e = .exit 0 ∧ S1 F n V 0 fb cap B w0 μ a w) (fun a w s => ⟨rfl, s⟩) n n a' w' (by omega) (by omega) s')) ?_))
  rintro e2 a2 w2 ⟨rfl, s2⟩
  refine wp_mono (runTo_sound (T := PE (fb := fb) (cap := cap) h1 h3 (h 0 h1)) (T' := M0 F n V 0 0 fb cap) (K := Hand.none) (n := 5000) mixed (@HandOk.none (PE (fb := fb) (cap := cap) h1 h3 (h 0 h1)) Tryz.prog) (C := ⟨0, 0, ofPairs [], [(.oi 2, 2)]⟩) (ex := .ret) (rl := []) (vp := []) (fs := [(4, .oi 2), (5, .bool false)]) (bs := [])
    hb (by decide) rfl (by kernel_rfl) (ipCons (ipN (.i64, ((0 : Nat) : Int)) rfl rfl) ipNil) vpNil (glB rfl rfl rfl rfl) (by as_aux_lemma => kernel_rfl) (St.same (VRows.fsame _ _ _ _ _ _ _) s2)) ?_
  rintro e' a' w' ⟨rfl, s'⟩
  exact St.done (.inr rfl) (by kernel_rfl) s'
end
theorem bnMove {T : Tab} {hh : H} {ta : AV} {x i j n : Nat} {V : Int} {F : Nat → Int} (hx : hh.get x = some (.vec i)) (hj : T.iv j = (.i64, (n : Int))) (ht : ∀ (μ : M) v, @vrel T μ ta v → v = .int .i64 V)
    (hs : ∀ m, m < n → ∃ a, T.vv i m = some a ∧ ∀ μ v, @vrel T μ a v → v = .int .i64 (F m)) (h1 : 0 < n) (h3 : n < 100000) (h : ∀ m, m < n → V < F m) :
    @CallOk T Tryz.prog 62 [.ov x j 1, ta] hh (.tup [.int .i64 0, .bool false], hh) := by
  intro B w0 μ w args' hr0 ha
  obtain ⟨l, g1, g2, g3, g4⟩ := hr0.blk x _ hx
  obtain ⟨arr, el, fz, b1, b2, b3, b4, b5⟩ := g4
  simp only [vrels] at ha
  obtain ⟨v1, r1, e1, hv1, v2, r2, e2, hv2, rfl⟩ := ha
  simp only [vrel] at hv1
  obtain ⟨k1, l', c, q1, q2, q3, rfl⟩ := hv1
  obtain rfl := ht _ _ hv2
  rw [g1] at q1; cases q1
  subst e2
  let E : Nat → Prop := fun k => ∃ y b m, hh.get y = some b ∧ own b = true ∧ μ y = some m ∧ m.block = k
  let B' : Kp := ⟨fun k => B.kept k ∨ E k, B.glob, fun k hk => .inl (B.sub k hk), fun _ => False⟩
  have hold : ∀ k, B'.kept k → k < w.heap.size := by
    rintro k (hb | ⟨y, b, m, k1, k2, k3, k4⟩)
    · exact Nat.lt_of_lt_of_le (hr0.below.old k hb) hr0.below.size
    · obtain ⟨m2, c1, _, _, c4⟩ := hr0.blk y b k1
      rw [k3] at c1; cases c1
      rw [← k4]; exact c4.lt
  have hnn : (T.iv j).2.toNat = n := by rw [hj]; simp
  have r' : @HR (M0 F n V 0 0 (l.block, l.base) c) B' w (fun _ => none) ⟨0, .leaf⟩ w := by
    have hgl : @Gl (M0 F n V 0 0 (l.block, l.base) c) B' w := by
      refine ⟨fun g o a hg => (by have hg' : (none : Option AV) = some a := hg; cases hg'), fun i' m a hg => ?_⟩
      replace hg : (fgn F n (l.block, l.base) c).fv i' m = some a := hg
      match i', hg with
      | 0, hg =>
        obtain ⟨hm, rfl⟩ := numV_some hg
        refine ⟨.inr ⟨x, _, l, hx, rfl, g1, rfl⟩, .int .i64 (F m), ?_, by simp only [vrel]⟩
        obtain ⟨a, ha1, ha2⟩ := hs m hm
        obtain ⟨v, hv1, hv2⟩ := b5 m a ha1
        have := ha2 _ _ hv2
        subst this
        show World.cell? w ⟨l.block, l.base + m, none⟩ = _
        unfold World.cell?
        simp only [b1]
        exact hv1
      | _ + 1, hg => cases hg
    exact @HR.mk (M0 F n V 0 0 (l.block, l.base) c) B' w (fun _ => none) ⟨0, .leaf⟩ w (@Keeps.mk (M0 F n V 0 0 (l.block, l.base) c) B' w w rfl rfl rfl (Nat.le_refl _) (fun _ _ => rfl) hold hgl) (fun y _ => ⟨rfl, rfl⟩) (fun y hy => hy.elim) (fun y b hb => (by have hb' : (none : Option Blk) = some b := hb; cases hb')) (fun y z b d m m' hb => (by have hb' : (none : Option Blk) = some b := hb; cases hb'))
  have e1' : args' = #[.slice (some ⟨l.block, l.base, none⟩) n c, .int .i64 V] := by
    apply Array.ext'
    rw [e1, hnn]
  have ha' : @vrels (M0 F n V 0 0 (l.block, l.base) c) (fun _ => none) [.fo 0 0 1, .oi 1] args'.toList := by
    rw [e1']
    simp only [vrels, vrel]
    refine ⟨_, _, rfl, ⟨⟨rfl, Int.natCast_nonneg _⟩, by show ((n : Int)).toNat ≤ c; rw [hnn] at q2; simpa using q2, by show _ = Value.slice (some ⟨l.block, l.base, none⟩) ((n : Int)).toNat c; simp⟩, _, _, rfl, rfl, rfl⟩
  refine (bn.bs0 (F := F) (V := V) (fb := (l.block, l.base)) (cap := c) h1 h3 h B' w (fun _ => none) w args' r' ha').mono ?_
  rintro e w' ⟨v', μ', rfl, _, hv, rr⟩
  refine ⟨v', μ, rfl, fun _ _ h => h, ?_, ?_⟩
  · simp only [vrel, vrels] at hv ⊢
    obtain ⟨cs, rfl, v1, r1, rfl, rfl, v2, r2, rfl, rfl, rfl⟩ := hv
    exact ⟨_, rfl, _, _, rfl, rfl, _, _, rfl, rfl, rfl⟩
  · have hb' := (@HR.below (M0 F n V 0 0 (l.block, l.base) c) _ _ _ _ _ rr)
    have hw : ∀ k, B'.kept k → w'.heap[k]? = w.heap[k]? := (@Keeps.block (M0 F n V 0 0 (l.block, l.base) c) _ _ _ hb')
    refine ⟨⟨(@Keeps.os (M0 F n V 0 0 (l.block, l.base) c) _ _ _ hb').trans hr0.below.os, (@Keeps.tape (M0 F n V 0 0 (l.block, l.base) c) _ _ _ hb').trans hr0.below.tape, (@Keeps.output (M0 F n V 0 0 (l.block, l.base) c) _ _ _ hb').trans hr0.below.output, Nat.le_trans hr0.below.size (@Keeps.size (M0 F n V 0 0 (l.block, l.base) c) _ _ _ hb'), fun k hk => (hw k (.inl hk)).trans (hr0.below.block k hk), hr0.below.old, hr0.below.glb⟩, hr0.fresh, hr0.res, ?_, hr0.sep⟩
    intro y b hb
    obtain ⟨m, c1, c2, c3, c4⟩ := hr0.blk y b hb
    refine ⟨m, c1, c2, c3, c4.congr ?_⟩
    cases ho : own b with
    | true => exact hw _ (.inr ⟨y, b, m, hb, ho, c1, rfl⟩)
    | false => exact hw _ (.inl (B.sub _ (c3 ho)))
/-- the machine's way to use it -/
noncomputable def bnHand (i j : Nat) (t : Int) : Hand := fun f args h =>
  match args with
  | [.ov x j' z, .int .i64 t'] => Bool.rec none (Bool.rec none (Bool.rec none (Bool.rec none (Bool.rec none (some (.tup [.int .i64 0, .bool false], h)) (Option.rec false (fun b => beq? (.vec i) b) (h.get x))) (decide (t = t'))) (Nat.beq j j')) (Nat.beq 1 z)) (Nat.beq 62 f)
  | _ => none
theorem bnHand_ok {T : Tab} {i j n : Nat} {t : Int} {F : Nat → Int} (hj : T.iv j = (.i64, (n : Int)))
    (hs : ∀ m, m < n → ∃ a, T.vv i m = some a ∧ ∀ μ v, @vrel T μ a v → v = .int .i64 (F m)) (h1 : 0 < n) (h3 : n < 100000) (hlt : ∀ m, m < n → t < F m) : @HandOk T Tryz.prog (bnHand i j t) := by
  intro f args h q e
  unfold bnHand at e
  split at e
  · rename_i x j' z t'
    cases c1 : Nat.beq 62 f with
    | false => rw [c1] at e; cases e
    | true =>
    cases c2 : Nat.beq 1 z with
    | false => rw [c1, c2] at e; cases e
    | true =>
    cases c3 : Nat.beq j j' with
    | false => rw [c1, c2, c3] at e; cases e
    | true =>
    cases c4 : decide (t = t') with
    | false => rw [c1, c2, c3, c4] at e; cases e
    | true =>
      rw [c1, c2, c3, c4] at e
      cases hg : h.get x with
      | none => rw [hg] at e; cases e
      | some b =>
        rw [hg] at e
        cases c5 : beq? (.vec i) b with
        | false => simp only [c5] at e; cases e
        | true =>
          simp only [c5] at e
          cases e
          have := beq_eq c5
          subst this
          rw [← nbeq_iff.1 c1, ← nbeq_iff.1 c2, ← nbeq_iff.1 c3, ← of_decide_eq_true c4]
          exact bnMove hg hj (fun μ v hv => by simpa only [vrel] using hv) hs h1 h3 hlt
  · cases e
end Go.Proofs.YtbabfeloandpdaaGreatDoor.bn
