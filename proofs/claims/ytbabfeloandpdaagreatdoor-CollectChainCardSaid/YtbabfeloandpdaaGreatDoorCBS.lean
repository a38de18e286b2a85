/-
  The program's search in an ordered slice, whatever its length.
-/
import Derived.Test.YtbabfeloandpdaaGreatDoorXN4
import Derived.Test.YtbabfeloandpdaaGreatDoorProg
import Derived.KernelRfl
set_option linter.unusedSectionVars false
set_option linter.unusedVariables false
set_option maxRecDepth 1000000
set_option maxHeartbeats 0
namespace Go.Proofs.YtbabfeloandpdaaGreatDoor.bs
open Go.X Go.RowKit
theorem mixed : Tryz.prog.follows .mixedOrders = true := by kernel_rfl
noncomputable def fullB : Code := (Tryz.f62.body).getD .skip
noncomputable def la : Code := lpOf (restn 3 fullB)
noncomputable def tl : Code := tlOf (restn 3 fullB)
theorem bodyB : Tryz.f62.body = some fullB := by kernel_rfl
theorem restB : restn 3 fullB = .seq (.block 0 (.loop la)) tl := by kernel_rfl
noncomputable abbrev nt : Nat := Tryz.f62.ntmps
abbrev mid (lo hi : Nat) : Nat := (lo + hi) / 2
/-- n, what is looked for, lo, hi; their sum (twice), the middle (twice), what stands there, the place behind -/
abbrev ivB (F : Nat → Int) (n p lo hi : Nat) : Nat → IntKind × Int
  | 0 => (.i64, (n : Int))
  | 1 => (.i64, F p)
  | 2 => (.i64, (lo : Int))
  | 3 => (.i64, (hi : Int))
  | 4 => (.i64, ((lo + hi : Nat) : Int))
  | 5 => (.u64, ((lo + hi : Nat) : Int))
  | 6 => (.u64, ((mid lo hi : Nat) : Int))
  | 7 => (.i64, ((mid lo hi : Nat) : Int))
  | 8 => (.i64, F (mid lo hi))
  | 9 => (.i64, ((mid lo hi + 1 : Nat) : Int))
  | _ => (.i64, 0)
abbrev fgn (F : Nat → Int) (n : Nat) (fb : Nat × Nat) (cap : Nat) : Fgn := ⟨fun _ => fb, fun _ => cap, fun i => match i with | 0 => numV .i64 n F | _ => fun _ => none⟩
abbrev R0 (F : Nat → Int) (n p lo hi : Nat) : VRows (ivB F n p lo hi) noV noK where
  vvp := noVp
  ib := []
  ibok := ibNil
theorem noFl {iv : Nat → IntKind × Int} {Fg : Fgn} : ∀ r ∈ ([] : List VL), FlOk iv Fg r := fun r h => by simp at h
abbrev P0 (F : Nat → Int) (n p lo hi : Nat) (fb : Nat × Nat) (cap : Nat) : Tab := (R0 F n p lo hi).ftab (fgn F n fb cap) [] noFl
noncomputable abbrev fs0 : List (Nat × AV) := [(0, .fo 0 0 1), (1, .oi 1), (6, .oi 0), (7, .oi 2), (8, .oi 3)]
noncomputable def S0 (F : Nat → Int) (n p lo hi : Nat) (fb : Nat × Nat) (cap : Nat) (B : Kp) (w0 : World) (μ : M) (a : Act) (w : World) : Prop := St (P0 F n p lo hi fb cap) B w0 μ nt (frOf fs0) (hOf 0 []) a w
section
variable {F : Nat → Int} {n p lo hi : Nat} {fb : Nat × Nat} {cap : Nat} {B : Kp} {w0 : World} {μ : M} {a : Act} {w : World}
-- a round
theorem ibA (h1 : lo < hi) (h2 : hi ≤ n) (h3 : n < 100000) (t : Bool) (h4 : decide (F (mid lo hi) < F p) = t) : ∀ x_ ∈ ([(11, .oi 2, .oi 3, .bool true), (0, .oi 2, .oi 3, .oi 4), (16, .oi 5, .int .u64 1, .oi 6), (11, .oi 7, .oi 0, .bool true), (14, .oi 7, .int .i64 0, .bool true), (10, .oi 8, .oi 8, .bool false), (10, .oi 1, .oi 1, .bool false), (11, .oi 8, .oi 1, .bool t), (0, .oi 7, .int .i64 1, .oi 9)] : List BRow), IbOk (ivB F n p lo hi) x_ := by
  letI := Tab.empty
  have hm : mid lo hi < n := by unfold mid; omega
  exact (ibCons (ibLt (a := (lo : Int)) (b := (hi : Int)) rfl rfl (decide_eq_true (by omega)))
    (ibCons (ibAdd (a := (lo : Int)) (b := (hi : Int)) (c := ((lo + hi : Nat) : Int)) rfl rfl rfl (by omega) (by omega) (by omega))
    (ibCons (ibShr (a := ((lo + hi : Nat) : Int)) (b := 1) (c := ((mid lo hi : Nat) : Int)) rfl rfl rfl (by decide) (by
      show (((lo + hi : Nat) : Int)).fdiv 2 = ((mid lo hi : Nat) : Int)
      rw [Int.fdiv_eq_ediv_of_nonneg _ (by decide)]; unfold mid; omega))
    (ibCons (ibLt (a := ((mid lo hi : Nat) : Int)) (b := (n : Int)) rfl rfl (decide_eq_true (by omega)))
    (ibCons (ibGe (a := ((mid lo hi : Nat) : Int)) (b := 0) rfl rfl (decide_eq_true (by omega)))
    (ibCons (ibNe (a := F (mid lo hi)) (b := F (mid lo hi)) rfl rfl (by simp))
    (ibCons (ibNe (a := F p) (b := F p) rfl rfl (by simp))
    (ibCons (ibLt (a := F (mid lo hi)) (b := F p) rfl rfl h4)
    (ibCons (ibAdd (a := ((mid lo hi : Nat) : Int)) (b := 1) (c := ((mid lo hi + 1 : Nat) : Int)) rfl rfl rfl (by omega) (by omega) (by omega)) ibNil)))))))))
theorem wrapU {n : Int} (h1 : 0 ≤ n) (h2 : n ≤ 18446744073709551615) : IntKind.u64.wrap n = n := by
  unfold IntKind.wrap IntKind.bits IntKind.signed
  simp
  omega
theorem icA (h1 : lo < hi) (h2 : hi ≤ n) (h3 : n < 100000) : ∀ x_ ∈ ([(.u64, .oi 4, .oi 5), (.i64, .oi 6, .oi 7)] : List (IntKind × AV × AV)), IcOk' (ivB F n p lo hi) x_ := by
  have hm : mid lo hi < n := by unfold mid; omega
  exact icCons ⟨.i64, ((lo + hi : Nat) : Int), rfl, by show some (IntKind.u64, _) = some (IntKind.u64, _); rw [wrapU (by omega) (by omega)]⟩ (icCons ⟨.u64, ((mid lo hi : Nat) : Int), rfl, by show some (IntKind.i64, _) = some (IntKind.i64, _); rw [wrap64 (by omega) (by omega)]⟩ icNil)
theorem flA (h1 : lo < hi) (h2 : hi ≤ n) : ∀ r ∈ ([⟨0, 7, 1, 0, [.oi 8]⟩] : List VL), FlOk (ivB F n p lo hi) (fgn F n fb cap) r := fun r hr => by
  have hm : mid lo hi < n := by unfold mid; omega
  simp only [List.mem_cons, List.not_mem_nil, or_false] at hr
  subst hr
  refine flN (K := .i64) (k := mid lo hi) (A := n) (e := F) rfl rfl (by show mid lo hi * 1 + 0 + 1 ≤ n; omega) (fun m b hb => ?_)
  cases m with
  | succ m => simp at hb
  | zero =>
    cases hb
    show some (IntKind.i64, F (mid lo hi)) = some (IntKind.i64, F (mid lo hi * 1 + 0 + 0))
    congr 3; omega
abbrev RA (h1 : lo < hi) (h2 : hi ≤ n) (h3 : n < 100000) (t : Bool) (h4 : decide (F (mid lo hi) < F p) = t) : VRows (ivB F n p lo hi) noV noK where
  vvp := noVp
  ib := [(11, .oi 2, .oi 3, .bool true), (0, .oi 2, .oi 3, .oi 4), (16, .oi 5, .int .u64 1, .oi 6), (11, .oi 7, .oi 0, .bool true), (14, .oi 7, .int .i64 0, .bool true), (10, .oi 8, .oi 8, .bool false), (10, .oi 1, .oi 1, .bool false), (11, .oi 8, .oi 1, .bool t), (0, .oi 7, .int .i64 1, .oi 9)]
  ibok := ibA h1 h2 h3 t h4
  ic := [(.u64, .oi 4, .oi 5), (.i64, .oi 6, .oi 7)]
  icok := icA h1 h2 h3
abbrev PA (h1 : lo < hi) (h2 : hi ≤ n) (h3 : n < 100000) (t : Bool) (h4 : decide (F (mid lo hi) < F p) = t) : Tab := (RA h1 h2 h3 t h4).ftab (fgn F n fb cap) [⟨0, 7, 1, 0, [.oi 8]⟩] (flA h1 h2)
theorem glB {T T' : Tab} (h : T'.gv = fun _ _ => none) (h1 : T.fb = T'.fb) (h2 : T.fv = T'.fv) (h3 : T'.fv = (fgn F n fb cap).fv) : @Gl T B w0 → @Gl T' B w0 := glF h h1 h2 (fun i m a ha => by
  rw [h3] at ha
  match i with
  | 0 => exact ⟨_, _, (numV_some ha).2⟩
  | _ + 1 => cases ha)
theorem goLess (h1 : lo < hi) (h2 : hi ≤ n) (h3 : n < 100000) (h4 : F (mid lo hi) < F p) (hb : Base B μ 0) {Q : Exit → Act → World → Prop} {j_ : Nat} (s_ : S0 F n p lo hi fb cap B w0 μ a w) (hQ : ∀ a' w', S0 F n p (mid lo hi + 1) hi fb cap B w0 μ a' w' → Code.rounds Tryz.prog la Q j_ a' w') : Code.rounds Tryz.prog la Q (j_ + 1) a w := by
  have e4 : decide (F (mid lo hi) < F p) = true := decide_eq_true h4
  exact stepsTo_sound (T := PA (fb := fb) (cap := cap) h1 h2 h3 true e4) (T' := P0 F n p (mid lo hi + 1) hi fb cap) (K := Hand.none) (m := 5000) mixed (@HandOk.none (PA (fb := fb) (cap := cap) h1 h2 h3 true e4) Tryz.prog) (C := ⟨0, 0, ofPairs [], [(.fo 0 0 1, 0), (.oi 0, 0), (.oi 1, 1), (.oi 9, 2), (.oi 3, 3)]⟩) (ex := .normal) (rl := []) (vp := []) (fs := fs0) (bs := [])
    hb (by decide) rfl (by kernel_rfl) (ipCons ⟨rfl, rfl⟩ (ipCons (ipN (.i64, (n : Int)) rfl rfl) (ipCons (ipN (.i64, F p) rfl rfl) (ipCons (ipN (.i64, ((mid lo hi + 1 : Nat) : Int)) rfl rfl) (ipCons (ipN (.i64, (hi : Int)) rfl rfl) ipNil))))) vpNil (glB rfl rfl rfl rfl) (by as_aux_lemma => kernel_rfl) (St.same (VRows.fsame _ _ _ _ _ _ _) s_) (fun a' w' q => hQ a' w' q)
theorem goMore (h1 : lo < hi) (h2 : hi ≤ n) (h3 : n < 100000) (h4 : ¬ F (mid lo hi) < F p) (hb : Base B μ 0) {Q : Exit → Act → World → Prop} {j_ : Nat} (s_ : S0 F n p lo hi fb cap B w0 μ a w) (hQ : ∀ a' w', S0 F n p lo (mid lo hi) fb cap B w0 μ a' w' → Code.rounds Tryz.prog la Q j_ a' w') : Code.rounds Tryz.prog la Q (j_ + 1) a w := by
  have e4 : decide (F (mid lo hi) < F p) = false := decide_eq_false h4
  exact stepsTo_sound (T := PA (fb := fb) (cap := cap) h1 h2 h3 false e4) (T' := P0 F n p lo (mid lo hi) fb cap) (K := Hand.none) (m := 5000) mixed (@HandOk.none (PA (fb := fb) (cap := cap) h1 h2 h3 false e4) Tryz.prog) (C := ⟨0, 0, ofPairs [], [(.fo 0 0 1, 0), (.oi 0, 0), (.oi 1, 1), (.oi 2, 2), (.oi 7, 3)]⟩) (ex := .normal) (rl := []) (vp := []) (fs := fs0) (bs := [])
    hb (by decide) rfl (by kernel_rfl) (ipCons ⟨rfl, rfl⟩ (ipCons (ipN (.i64, (n : Int)) rfl rfl) (ipCons (ipN (.i64, F p) rfl rfl) (ipCons (ipN (.i64, (lo : Int)) rfl rfl) (ipCons (ipN (.i64, ((mid lo hi : Nat) : Int)) rfl rfl) ipNil))))) vpNil (glB rfl rfl rfl rfl) (by as_aux_lemma => kernel_rfl) (St.same (VRows.fsame _ _ _ _ _ _ _) s_) (fun a' w' q => hQ a' w' q)
-- the end
theorem ibE (h1 : p < n) (h3 : n < 100000) : ∀ x_ ∈ ([(11, .oi 2, .oi 3, .bool false), (11, .oi 2, .oi 0, .bool true), (14, .oi 2, .int .i64 0, .bool true), (9, .oi 1, .oi 1, .bool true)] : List BRow), IbOk (ivB F n p p p) x_ := by
  letI := Tab.empty
  exact (ibCons (ibLt (a := (p : Int)) (b := (p : Int)) rfl rfl (decide_eq_false (by omega)))
    (ibCons (ibLt (a := (p : Int)) (b := (n : Int)) rfl rfl (decide_eq_true (by omega)))
    (ibCons (ibGe (a := (p : Int)) (b := 0) rfl rfl (decide_eq_true (by omega)))
    (ibCons (ibEq (a := F p) (b := F p) rfl rfl (decide_eq_true rfl)) ibNil))))
theorem flE (h1 : p < n) : ∀ r ∈ ([⟨0, 2, 1, 0, [.oi 1]⟩] : List VL), FlOk (ivB F n p p p) (fgn F n fb cap) r := fun r hr => by
  simp only [List.mem_cons, List.not_mem_nil, or_false] at hr
  subst hr
  refine flN (K := .i64) (k := p) (A := n) (e := F) rfl rfl (by show p * 1 + 0 + 1 ≤ n; omega) (fun m b hb => ?_)
  cases m with
  | succ m => simp at hb
  | zero =>
    cases hb
    show some (IntKind.i64, F p) = some (IntKind.i64, F (p * 1 + 0 + 0))
    congr 3; omega
abbrev RE (h1 : p < n) (h3 : n < 100000) : VRows (ivB F n p p p) noV noK where
  vvp := noVp
  ib := [(11, .oi 2, .oi 3, .bool false), (11, .oi 2, .oi 0, .bool true), (14, .oi 2, .int .i64 0, .bool true), (9, .oi 1, .oi 1, .bool true)]
  ibok := ibE h1 h3
abbrev PE (h1 : p < n) (h3 : n < 100000) : Tab := (RE (F := F) h1 h3).ftab (fgn F n fb cap) [⟨0, 2, 1, 0, [.oi 1]⟩] (flE h1)
theorem goEnd (h1 : p < n) (h3 : n < 100000) (hb : Base B μ 0) {Q : Exit → Act → World → Prop} {j_ : Nat} (s_ : S0 F n p p p fb cap B w0 μ a w) (hQ : ∀ a' w', S0 F n p p p fb cap B w0 μ a' w' → Q (.exit 0) a' w') : Code.rounds Tryz.prog la Q (j_ + 1) a w := by
  exact stepsTo_sound (T := PE (F := F) (fb := fb) (cap := cap) h1 h3) (T' := P0 F n p p p fb cap) (K := Hand.none) (m := 5000) mixed (@HandOk.none (PE (F := F) (fb := fb) (cap := cap) h1 h3) Tryz.prog) (C := ⟨0, 0, ofPairs [], [(.fo 0 0 1, 0), (.oi 0, 0), (.oi 1, 1), (.oi 2, 2), (.oi 3, 3)]⟩) (ex := .exit 0) (rl := []) (vp := []) (fs := fs0) (bs := [])
    hb (by decide) rfl (by kernel_rfl) (ipCons ⟨rfl, rfl⟩ (ipCons (ipN (.i64, (n : Int)) rfl rfl) (ipCons (ipN (.i64, F p) rfl rfl) (ipCons (ipN (.i64, (p : Int)) rfl rfl) (ipCons (ipN (.i64, (p : Int)) rfl rfl) ipNil))))) vpNil (glB rfl rfl rfl rfl) (by as_aux_lemma => kernel_rfl) (St.same (VRows.fsame _ _ _ _ _ _ _) s_) (fun a' w' q => hQ a' w' q)
theorem rounds (h1 : p < n) (h3 : n < 100000) (inc : ∀ m k, m < k → k < n → F m < F k) (hb : Base B μ 0) {Q : Exit → Act → World → Prop} (hQ : ∀ a' w', S0 F n p p p fb cap B w0 μ a' w' → Q (.exit 0) a' w') :
    ∀ (g lo hi : Nat) (a : Act) (w : World), hi ≤ lo + g → lo ≤ p → p ≤ hi → (hi = n ∨ hi < n) → (hi = p → True) → S0 F n p lo hi fb cap B w0 μ a w → Code.rounds Tryz.prog la Q (g + 1) a w
  | 0, lo, hi, a, w, e1, e2, e3, e4, _, s => by
    obtain rfl : lo = p := by omega
    obtain rfl : hi = lo := by omega
    exact goEnd h1 h3 hb s hQ
  | g + 1, lo, hi, a, w, e1, e2, e3, e4, _, s => by
    by_cases c : lo < hi
    · by_cases d : F (mid lo hi) < F p
      · refine goLess c (by omega) h3 d hb s (fun a' w' s' => rounds h1 h3 inc hb hQ g _ _ a' w' ?_ ?_ e3 e4 (fun _ => trivial) s')
        · unfold mid; omega
        · have : mid lo hi < p := by
            rcases Nat.lt_or_ge (mid lo hi) p with q | q
            · exact q
            · rcases Nat.lt_or_ge p (mid lo hi) with r | r
              · have := inc p (mid lo hi) r (by unfold mid; omega)
                omega
              · have : mid lo hi = p := by omega
                rw [this] at d; omega
          omega
      · refine goMore c (by omega) h3 d hb s (fun a' w' s' => rounds h1 h3 inc hb hQ g _ _ a' w' ?_ e2 ?_ (.inr ?_) (fun _ => trivial) s')
        · unfold mid; omega
        · rcases Nat.lt_or_ge (mid lo hi) p with q | q
          · exact absurd (inc _ _ q h1) d
          · exact q
        · unfold mid; omega
    · obtain rfl : lo = p := by omega
      obtain rfl : hi = lo := by omega
      exact goEnd h1 h3 hb s hQ
/-- the search, over a slice that came in -/
theorem bs0 (h1 : p < n) (h3 : n < 100000) (inc : ∀ m k, m < k → k < n → F m < F k) : @CallOk (P0 F n p p p fb cap) Tryz.prog 62 [.fo 0 0 1, .oi 1] ⟨0, .leaf⟩ (.tup [.oi 2, .bool true], hOf 0 []) := by
  letI : Tab := P0 F n p p p fb cap
  refine callOk_of (fn := Tryz.f62) Tryz.func62 bodyB (by decide +kernel) (by decide) fun B w0 μ a w hb s0 => ?_
  refine firstTo_sound (T := P0 F n p p p fb cap) (T' := P0 F n p 0 n fb cap) (K := Hand.none) (m := 5000) (n := 3) mixed (@HandOk.none (P0 F n p p p fb cap) Tryz.prog) (C := ⟨0, 0, ofPairs [], [(.fo 0 0 1, 0), (.oi 0, 0), (.oi 1, 1), (.int .i64 0, 2), (.oi 0, 3)]⟩) (rl := []) (vp := []) (fs := fs0) (bs := [])
    hb (by decide) rfl (by kernel_rfl) (ipCons ⟨rfl, rfl⟩ (ipCons (ipN (.i64, (n : Int)) rfl rfl) (ipCons (ipN (.i64, F p) rfl rfl) (ipCons (ipK rfl) (ipCons (ipN (.i64, (n : Int)) rfl rfl) ipNil))))) vpNil (glB rfl rfl rfl rfl) (by as_aux_lemma => kernel_rfl) s0 fun a' w' s' => ?_
  rw [restB]
  refine wp_seq (wp_block (wp_mono (wp_loop_rounds _ (rounds h1 h3 inc hb (Q := fun e a w => e = .exit 0 ∧ S0 F n p p p fb cap B w0 μ a w) (fun a w s => ⟨rfl, s⟩) n 0 n a' w' (by omega) (by omega) (by omega) (.inl rfl) (fun _ => trivial) s')) ?_))
  rintro e2 a2 w2 ⟨rfl, s2⟩
  refine wp_mono (runTo_sound (T := PE (F := F) (fb := fb) (cap := cap) h1 h3) (T' := P0 F n p p p fb cap) (K := Hand.none) (n := 5000) mixed (@HandOk.none (PE (F := F) (fb := fb) (cap := cap) h1 h3) Tryz.prog) (C := ⟨0, 0, ofPairs [], [(.oi 2, 2)]⟩) (ex := .ret) (rl := []) (vp := []) (fs := [(4, .oi 2), (5, .bool true)]) (bs := [])
    hb (by decide) rfl (by kernel_rfl) (ipCons (ipN (.i64, (p : Int)) rfl rfl) ipNil) vpNil (glB rfl rfl rfl rfl) (by as_aux_lemma => kernel_rfl) (St.same (VRows.fsame _ _ _ _ _ _ _) s2)) ?_
  rintro e' a' w' ⟨rfl, s'⟩
  exact St.done (.inr rfl) (by kernel_rfl) s'
end
end Go.Proofs.YtbabfeloandpdaaGreatDoor.bs
