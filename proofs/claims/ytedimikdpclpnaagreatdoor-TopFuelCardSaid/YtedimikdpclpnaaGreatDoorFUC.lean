/-
  The calls of Run in the law TopFuel: loops put together.
-/
import Derived.Test.YtedimikdpclpnaaGreatDoorFUM
set_option linter.unusedSectionVars false
set_option linter.unusedVariables false
set_option maxRecDepth 1000000
set_option maxHeartbeats 0
namespace Go.Proofs.YtedimikdpclpnaaGreatDoor.fu
open Go.X Go.RowKit
section
variable {B : Kp} {w0 : World} {μ : M} {a : Act} {w : World}
theorem rounds1D {x0 f_ nd S : Int} (g1 : 0 ≤ x0) (g2 : x0 < 100) (g3 : 0 ≤ f_) (g4 : f_ < 1000) (hn : nd = 6 + 8 * x0) (hS : (x0 * (x0 + 1)).tdiv 2 = S) (p0 : 0 ≤ x0 * (x0 + 1)) (p1 : x0 * (x0 + 1) ≤ 9900) (q0 : 0 ≤ S) (q1 : S ≤ 9900) (hg : nd ≤ f_) (hb : Base B μ 14523) (xn : Nat) : ∀ (k x s : Int) (a : Act) (w : World), x = xn → x < 100 → 0 ≤ s → s ≤ 9900 → 0 ≤ k → k + 8 * x + 4 = nd → s + tri xn = S → SS1 k x s B w0 μ a w →
    Code.rounds Tryz.prog la (Q1D g1 g2 g3 g4 hn hS p0 p1 q0 q1 hg B w0 μ) (8 * xn + 4) a w := by
  induction xn with
  | zero =>
    intro k x s a w ex e1 e2 e3 e4 e5 e6 s'
    have hx : x = 0 := ex
    have hs : s = S := by simpa [tri] using e6
    have hz : 8 * 0 + 4 = 0 + 4 := rfl
    rw [hz]
    exact end1D g1 g2 g3 g4 hn hS p0 p1 q0 q1 hg e4 (by omega) hx e2 e3 (by omega) hs hb s'
  | succ xn ih =>
    intro k x s a w ex e1 e2 e3 e4 e5 e6 s'
    have e6' : s + (tri xn + (xn + 1)) = S := e6
    have tn := tri_nonneg xn
    have hz : 8 * (xn + 1) + 4 = (8 * xn + 4) + 8 := by omega
    have c1 : 1 ≤ x := by omega
    have c2 : k < 900 := by omega
    have d1 : x - 1 = (xn : Int) := by omega
    have d2 : x - 1 < 100 := by omega
    have d3 : 0 ≤ s + x := by omega
    have d4 : s + x ≤ 9900 := by omega
    have d5 : 0 ≤ k + 8 := by omega
    have d6 : k + 8 + 8 * (x - 1) + 4 = nd := by omega
    have d7 : s + x + tri xn = S := by omega
    rw [hz]
    exact go1 e4 c2 c1 e1 e2 e3 hb s' fun a' w' q => ih (k + 8) (x - 1) (s + x) a' w' d1 d2 d3 d4 d5 d6 d7 q
theorem rounds1X {x0 f_ nd S : Int} (g1 : 0 ≤ x0) (g2 : x0 < 100) (g3 : 0 ≤ f_) (g4 : f_ < 1000) (hn : nd = 6 + 8 * x0) (hS : (x0 * (x0 + 1)).tdiv 2 = S) (p0 : 0 ≤ x0 * (x0 + 1)) (p1 : x0 * (x0 + 1) ≤ 9900) (q0 : 0 ≤ S) (q1 : S ≤ 9900) (hg : f_ < nd) (hb : Base B μ 14523) (xn : Nat) : ∀ (k x s : Int) (a : Act) (w : World), x = xn → x < 100 → 0 ≤ s → s ≤ 9900 → 0 ≤ k → k + 8 * x + 4 = nd → s + tri xn = S → SS1 k x s B w0 μ a w →
    Code.rounds Tryz.prog la (Q1X g1 g2 g3 g4 hn hS p0 p1 q0 q1 hg B w0 μ) (8 * xn + 4) a w := by
  induction xn with
  | zero =>
    intro k x s a w ex e1 e2 e3 e4 e5 e6 s'
    have hx : x = 0 := ex
    have hs : s = S := by simpa [tri] using e6
    have hz : 8 * 0 + 4 = 0 + 4 := rfl
    rw [hz]
    exact end1X g1 g2 g3 g4 hn hS p0 p1 q0 q1 hg e4 (by omega) hx e2 e3 (by omega) hs hb s'
  | succ xn ih =>
    intro k x s a w ex e1 e2 e3 e4 e5 e6 s'
    have e6' : s + (tri xn + (xn + 1)) = S := e6
    have tn := tri_nonneg xn
    have hz : 8 * (xn + 1) + 4 = (8 * xn + 4) + 8 := by omega
    have c1 : 1 ≤ x := by omega
    have c2 : k < 900 := by omega
    have d1 : x - 1 = (xn : Int) := by omega
    have d2 : x - 1 < 100 := by omega
    have d3 : 0 ≤ s + x := by omega
    have d4 : s + x ≤ 9900 := by omega
    have d5 : 0 ≤ k + 8 := by omega
    have d6 : k + 8 + 8 * (x - 1) + 4 = nd := by omega
    have d7 : s + x + tri xn = S := by omega
    rw [hz]
    exact go1 e4 c2 c1 e1 e2 e3 hb s' fun a' w' q => ih (k + 8) (x - 1) (s + x) a' w' d1 d2 d3 d4 d5 d6 d7 q
theorem rounds2D {x0 f_ nd S : Int} (g1 : 0 ≤ x0) (g2 : x0 < 100) (g3 : 0 ≤ f_) (g4 : f_ < 1000) (hn : nd = 6 + 8 * x0) (hS : (x0 * (x0 + 1)).tdiv 2 = S) (p0 : 0 ≤ x0 * (x0 + 1)) (p1 : x0 * (x0 + 1) ≤ 9900) (q0 : 0 ≤ S) (q1 : S ≤ 9900) (hg : nd ≤ f_) (hb : Base B μ 16223) (xn : Nat) : ∀ (c k f x s : Int) (a : Act) (w : World), x = xn → x < 100 → 0 ≤ s → s ≤ 9900 → 0 ≤ k → k + 8 * x + 4 = nd → s + tri xn = S → 0 ≤ c → c + 8 * x < 2000 → 0 ≤ f → f < 1000 → nd ≤ f → SS2 c k f x s B w0 μ a w →
    Code.rounds Tryz.prog la (Q2D g1 g2 g3 g4 hn hS p0 p1 q0 q1 hg B w0 μ) (8 * xn + 4) a w := by
  induction xn with
  | zero =>
    intro c k f x s a w ex e1 e2 e3 e4 e5 e6 y0 y1 y2 y3 y4 s'
    have hx : x = 0 := ex
    have hs : s = S := by simpa [tri] using e6
    have hz : 8 * 0 + 4 = 0 + 4 := rfl
    rw [hz]
    exact end2D g1 g2 g3 g4 hn hS p0 p1 q0 q1 hg y0 (by omega) e4 (by omega) y2 y3 hx e2 e3 (by omega) (by omega) hs hb s'
  | succ xn ih =>
    intro c k f x s a w ex e1 e2 e3 e4 e5 e6 y0 y1 y2 y3 y4 s'
    have e6' : s + (tri xn + (xn + 1)) = S := e6
    have tn := tri_nonneg xn
    have hz : 8 * (xn + 1) + 4 = (8 * xn + 4) + 8 := by omega
    have c1 : 1 ≤ x := by omega
    have c2 : k < 900 := by omega
    have c3 : c < 2000 := by omega
    have c4 : k + 8 ≤ f := by omega
    have d0 : 0 ≤ c + 8 := by omega
    have d01 : c + 8 + 8 * (x - 1) < 2000 := by omega
    have d1 : x - 1 = (xn : Int) := by omega
    have d2 : x - 1 < 100 := by omega
    have d3 : 0 ≤ s + x := by omega
    have d4 : s + x ≤ 9900 := by omega
    have d5 : 0 ≤ k + 8 := by omega
    have d6 : k + 8 + 8 * (x - 1) + 4 = nd := by omega
    have d7 : s + x + tri xn = S := by omega
    rw [hz]
    exact go2 y0 c3 e4 c2 y2 y3 c1 e1 e2 e3 c4 hb s' fun a' w' q => ih (c + 8) (k + 8) f (x - 1) (s + x) a' w' d1 d2 d3 d4 d5 d6 d7 d0 d01 y2 y3 y4 q
theorem rounds2X {x0 f_ nd S : Int} (g1 : 0 ≤ x0) (g2 : x0 < 100) (g3 : 0 ≤ f_) (g4 : f_ < 1000) (hn : nd = 6 + 8 * x0) (hS : (x0 * (x0 + 1)).tdiv 2 = S) (p0 : 0 ≤ x0 * (x0 + 1)) (p1 : x0 * (x0 + 1) ≤ 9900) (q0 : 0 ≤ S) (q1 : S ≤ 9900) (hg : f_ < nd) (hb : Base B μ 16223) (xn : Nat) : ∀ (d : Nat) (c k f x s : Int) (a : Act) (w : World), x = xn → x < 100 → 0 ≤ s → s + tri xn ≤ 9900 → 0 ≤ k → f = k + d → f < k + 8 * x + 4 → k < 900 → 0 ≤ c → c + 8 * x < 2000 → 0 ≤ f → f < 1000 → f = f_ → SS2 c k f x s B w0 μ a w →
    Code.rounds Tryz.prog la (Q2X g1 g2 g3 g4 hn hS p0 p1 q0 q1 hg B w0 μ) (d + 1) a w := by
  induction xn with
  | zero =>
    intro d c k f x s a w ex e1 e2 e3 e4 e5 e6 e7 y0 y1 y2 y3 y4 s'
    have hx : x = 0 := ex
    have e3' : s ≤ 9900 := by simpa [tri] using e3
    have hd : d < 4 := by omega
    have yc : c < 2000 := by omega
    match d, hd, e5 with
    | 0, _, e5 => exact (show Code.rounds Tryz.prog la _ (0 + 1) a w from endZ0 g1 g2 g3 g4 hn hS p0 p1 q0 q1 hg y0 yc e4 e7 y2 y3 hx e2 e3' (by omega) y4 hb s')
    | 1, _, e5 => exact (show Code.rounds Tryz.prog la _ (0 + 2) a w from endZ1 g1 g2 g3 g4 hn hS p0 p1 q0 q1 hg y0 yc e4 e7 y2 y3 hx e2 e3' (by omega) y4 hb s')
    | 2, _, e5 => exact (show Code.rounds Tryz.prog la _ (0 + 3) a w from endZ2 g1 g2 g3 g4 hn hS p0 p1 q0 q1 hg y0 yc e4 e7 y2 y3 hx e2 e3' (by omega) y4 hb s')
    | 3, _, e5 => exact (show Code.rounds Tryz.prog la _ (0 + 4) a w from endZ3 g1 g2 g3 g4 hn hS p0 p1 q0 q1 hg y0 yc e4 e7 y2 y3 hx e2 e3' (by omega) y4 hb s')
    | d + 4, h, _ => exact absurd h (by omega)
  | succ xn ih =>
    intro d c k f x s a w ex e1 e2 e3 e4 e5 e6 e7 y0 y1 y2 y3 y4 s'
    have tn := tri_nonneg xn
    have e3' : s + (tri xn + (xn + 1)) ≤ 9900 := e3
    have c1 : 1 ≤ x := by omega
    have e3'' : s ≤ 9900 := by omega
    have yc : c < 2000 := by omega
    match d, e5 with
    | 0, e5 => exact (show Code.rounds Tryz.prog la _ (0 + 1) a w from endX0 g1 g2 g3 g4 hn hS p0 p1 q0 q1 hg y0 yc e4 e7 y2 y3 c1 e1 e2 e3'' (by omega) y4 hb s')
    | 1, e5 => exact (show Code.rounds Tryz.prog la _ (0 + 2) a w from endX1 g1 g2 g3 g4 hn hS p0 p1 q0 q1 hg y0 yc e4 e7 y2 y3 c1 e1 e2 e3'' (by omega) y4 hb s')
    | 2, e5 => exact (show Code.rounds Tryz.prog la _ (0 + 3) a w from endX2 g1 g2 g3 g4 hn hS p0 p1 q0 q1 hg y0 yc e4 e7 y2 y3 c1 e1 e2 e3'' (by omega) y4 hb s')
    | 3, e5 => exact (show Code.rounds Tryz.prog la _ (0 + 4) a w from endX3 g1 g2 g3 g4 hn hS p0 p1 q0 q1 hg y0 yc e4 e7 y2 y3 c1 e1 e2 e3'' (by omega) y4 hb s')
    | 4, e5 => exact (show Code.rounds Tryz.prog la _ (0 + 5) a w from endX4 g1 g2 g3 g4 hn hS p0 p1 q0 q1 hg y0 yc e4 e7 y2 y3 c1 e1 e2 e3'' (by omega) y4 hb s')
    | 5, e5 => exact (show Code.rounds Tryz.prog la _ (0 + 6) a w from endX5 g1 g2 g3 g4 hn hS p0 p1 q0 q1 hg y0 yc e4 e7 y2 y3 c1 e1 e2 e3'' (by omega) y4 hb s')
    | 6, e5 => exact (show Code.rounds Tryz.prog la _ (0 + 7) a w from endX6 g1 g2 g3 g4 hn hS p0 p1 q0 q1 hg y0 yc e4 e7 y2 y3 c1 e1 e2 e3'' (by omega) y4 hb s')
    | 7, e5 => exact (show Code.rounds Tryz.prog la _ (0 + 8) a w from endX7 g1 g2 g3 g4 hn hS p0 p1 q0 q1 hg y0 yc e4 e7 y2 y3 c1 e1 e2 e3'' (by omega) y4 hb s')
    | d + 8, e5 =>
      have c4 : k + 8 ≤ f := by omega
      have d0 : 0 ≤ c + 8 := by omega
      have d01 : c + 8 + 8 * (x - 1) < 2000 := by omega
      have d1 : x - 1 = (xn : Int) := by omega
      have d2 : x - 1 < 100 := by omega
      have d3 : 0 ≤ s + x := by omega
      have d4 : s + x + tri xn ≤ 9900 := by omega
      have d5 : 0 ≤ k + 8 := by omega
      have d6 : f = k + 8 + d := by omega
      have d7 : f < k + 8 + 8 * (x - 1) + 4 := by omega
      have d8 : k + 8 < 900 := by omega
      have hz : d + 8 + 1 = (d + 1) + 8 := by omega
      rw [hz]
      exact go2 y0 yc e4 e7 y2 y3 c1 e1 e2 e3'' c4 hb s' fun a' w' q => ih d (c + 8) (k + 8) f (x - 1) (s + x) a' w' d1 d2 d3 d4 d5 d6 d7 d8 d0 d01 y2 y3 y4 q
theorem tail1D {x0 f_ nd S : Int} (g1 : 0 ≤ x0) (g2 : x0 < 100) (g3 : 0 ≤ f_) (g4 : f_ < 1000) (hn : nd = 6 + 8 * x0) (hS : (x0 * (x0 + 1)).tdiv 2 = S) (p0 : 0 ≤ x0 * (x0 + 1)) (p1 : x0 * (x0 + 1) ≤ 9900) (q0 : 0 ≤ S) (q1 : S ≤ 9900) (hg : nd ≤ f_) (hb : Base B μ 14523) (s : St (TD (x := x0) (f := f_) (nd := nd) (S := S) g1 g2 g3 g4 hn hS p0 p1 q0 q1 hg) B w0 μ Tryz.f70.ntmps (frOf fsR1) (hOf 16219 bsE1) a w) : tl.wp Tryz.prog (@Done (TD (x := x0) (f := f_) (nd := nd) (S := S) g1 g2 g3 g4 hn hS p0 p1 q0 q1 hg) Tryz.prog Tryz.f70 B w0 μ CR1.v (hOf 16219 bsF1)) a w := by
  letI : Tab := (TD (x := x0) (f := f_) (nd := nd) (S := S) g1 g2 g3 g4 hn hS p0 p1 q0 q1 hg)
  refine wp_mono (runTo_sound (T := (TD (x := x0) (f := f_) (nd := nd) (S := S) g1 g2 g3 g4 hn hS p0 p1 q0 q1 hg)) (T' := (TD (x := x0) (f := f_) (nd := nd) (S := S) g1 g2 g3 g4 hn hS p0 p1 q0 q1 hg)) (K := K_top0) (n := 5000) mixed (@K_top0_ok (TD (x := x0) (f := f_) (nd := nd) (S := S) g1 g2 g3 g4 hn hS p0 p1 q0 q1 hg)) (C := ⟨14523, 16219, ofPairs [(14523, 14523), (15359, 15359), (15363, 15363), (15364, 15364), (15370, 15370), (15576, 15576), (15577, 15577)], [(.oi 2, 2), (.oi 3, 3)]⟩) (ex := .ret) (rl := [(14523, 14523), (15359, 15359), (15363, 15363), (15364, 15364), (15370, 15370), (15576, 15576), (15577, 15577)]) (vp := []) (fs := [(10, .ptr 14523 0)]) (bs := bsF1)
    hb (by decide) rfl (by kernel_rfl) (ipCons (ipN _ rfl rfl) (ipCons (ipN _ rfl rfl) ipNil)) vpNil (glNone rfl rfl) (by as_aux_lemma => kernel_rfl) s) ?_
  rintro e' a' w' ⟨rfl, s'⟩
  exact St.done (.inr rfl) (by kernel_rfl) s'
theorem tail1X {x0 f_ nd S : Int} (g1 : 0 ≤ x0) (g2 : x0 < 100) (g3 : 0 ≤ f_) (g4 : f_ < 1000) (hn : nd = 6 + 8 * x0) (hS : (x0 * (x0 + 1)).tdiv 2 = S) (p0 : 0 ≤ x0 * (x0 + 1)) (p1 : x0 * (x0 + 1) ≤ 9900) (q0 : 0 ≤ S) (q1 : S ≤ 9900) (hg : f_ < nd) (hb : Base B μ 14523) (s : St (TX (x := x0) (f := f_) (nd := nd) (S := S) g1 g2 g3 g4 hn hS p0 p1 q0 q1 hg) B w0 μ Tryz.f70.ntmps (frOf fsR1) (hOf 16219 bsE1) a w) : tl.wp Tryz.prog (@Done (TX (x := x0) (f := f_) (nd := nd) (S := S) g1 g2 g3 g4 hn hS p0 p1 q0 q1 hg) Tryz.prog Tryz.f70 B w0 μ CR1.v (hOf 16219 bsF1)) a w := by
  letI : Tab := (TX (x := x0) (f := f_) (nd := nd) (S := S) g1 g2 g3 g4 hn hS p0 p1 q0 q1 hg)
  refine wp_mono (runTo_sound (T := (TX (x := x0) (f := f_) (nd := nd) (S := S) g1 g2 g3 g4 hn hS p0 p1 q0 q1 hg)) (T' := (TX (x := x0) (f := f_) (nd := nd) (S := S) g1 g2 g3 g4 hn hS p0 p1 q0 q1 hg)) (K := K_top0) (n := 5000) mixed (@K_top0_ok (TX (x := x0) (f := f_) (nd := nd) (S := S) g1 g2 g3 g4 hn hS p0 p1 q0 q1 hg)) (C := ⟨14523, 16219, ofPairs [(14523, 14523), (15359, 15359), (15363, 15363), (15364, 15364), (15370, 15370), (15576, 15576), (15577, 15577)], [(.oi 2, 2), (.oi 3, 3)]⟩) (ex := .ret) (rl := [(14523, 14523), (15359, 15359), (15363, 15363), (15364, 15364), (15370, 15370), (15576, 15576), (15577, 15577)]) (vp := []) (fs := [(10, .ptr 14523 0)]) (bs := bsF1)
    hb (by decide) rfl (by kernel_rfl) (ipCons (ipN _ rfl rfl) (ipCons (ipN _ rfl rfl) ipNil)) vpNil (glNone rfl rfl) (by as_aux_lemma => kernel_rfl) s) ?_
  rintro e' a' w' ⟨rfl, s'⟩
  exact St.done (.inr rfl) (by kernel_rfl) s'
theorem tail2D {x0 f_ nd S : Int} (g1 : 0 ≤ x0) (g2 : x0 < 100) (g3 : 0 ≤ f_) (g4 : f_ < 1000) (hn : nd = 6 + 8 * x0) (hS : (x0 * (x0 + 1)).tdiv 2 = S) (p0 : 0 ≤ x0 * (x0 + 1)) (p1 : x0 * (x0 + 1) ≤ 9900) (q0 : 0 ≤ S) (q1 : S ≤ 9900) (hg : nd ≤ f_) (hb : Base B μ 16223) (s : St (TD (x := x0) (f := f_) (nd := nd) (S := S) g1 g2 g3 g4 hn hS p0 p1 q0 q1 hg) B w0 μ Tryz.f70.ntmps (frOf fsR2) (hOf 21219 bsE2D) a w) : tl.wp Tryz.prog (@Done (TD (x := x0) (f := f_) (nd := nd) (S := S) g1 g2 g3 g4 hn hS p0 p1 q0 q1 hg) Tryz.prog Tryz.f70 B w0 μ CR2D.v (hOf 21219 bsF2D)) a w := by
  letI : Tab := (TD (x := x0) (f := f_) (nd := nd) (S := S) g1 g2 g3 g4 hn hS p0 p1 q0 q1 hg)
  refine wp_mono (runTo_sound (T := (TD (x := x0) (f := f_) (nd := nd) (S := S) g1 g2 g3 g4 hn hS p0 p1 q0 q1 hg)) (T' := (TD (x := x0) (f := f_) (nd := nd) (S := S) g1 g2 g3 g4 hn hS p0 p1 q0 q1 hg)) (K := K_top0) (n := 5000) mixed (@K_top0_ok (TD (x := x0) (f := f_) (nd := nd) (S := S) g1 g2 g3 g4 hn hS p0 p1 q0 q1 hg)) (C := ⟨16223, 21219, ofPairs [(16223, 16223)], [(.oi 2, 2), (.oi 3, 3)]⟩) (ex := .ret) (rl := [(16223, 16223)]) (vp := []) (fs := [(10, .ptr 16223 0)]) (bs := bsF2D)
    hb (by decide) rfl (by kernel_rfl) (ipCons (ipN _ rfl rfl) (ipCons (ipN _ rfl rfl) ipNil)) vpNil (glNone rfl rfl) (by as_aux_lemma => kernel_rfl) s) ?_
  rintro e' a' w' ⟨rfl, s'⟩
  exact St.done (.inr rfl) (by kernel_rfl) s'
theorem tail2X {x0 f_ nd S : Int} (g1 : 0 ≤ x0) (g2 : x0 < 100) (g3 : 0 ≤ f_) (g4 : f_ < 1000) (hn : nd = 6 + 8 * x0) (hS : (x0 * (x0 + 1)).tdiv 2 = S) (p0 : 0 ≤ x0 * (x0 + 1)) (p1 : x0 * (x0 + 1) ≤ 9900) (q0 : 0 ≤ S) (q1 : S ≤ 9900) (hg : f_ < nd) (hb : Base B μ 16223) (s : St (TX (x := x0) (f := f_) (nd := nd) (S := S) g1 g2 g3 g4 hn hS p0 p1 q0 q1 hg) B w0 μ Tryz.f70.ntmps (frOf fsR2) (hOf 21219 bsE2X) a w) : tl.wp Tryz.prog (@Done (TX (x := x0) (f := f_) (nd := nd) (S := S) g1 g2 g3 g4 hn hS p0 p1 q0 q1 hg) Tryz.prog Tryz.f70 B w0 μ CR2X.v (hOf 21219 bsF2X)) a w := by
  letI : Tab := (TX (x := x0) (f := f_) (nd := nd) (S := S) g1 g2 g3 g4 hn hS p0 p1 q0 q1 hg)
  refine wp_mono (runTo_sound (T := (TX (x := x0) (f := f_) (nd := nd) (S := S) g1 g2 g3 g4 hn hS p0 p1 q0 q1 hg)) (T' := (TX (x := x0) (f := f_) (nd := nd) (S := S) g1 g2 g3 g4 hn hS p0 p1 q0 q1 hg)) (K := K_top0) (n := 5000) mixed (@K_top0_ok (TX (x := x0) (f := f_) (nd := nd) (S := S) g1 g2 g3 g4 hn hS p0 p1 q0 q1 hg)) (C := ⟨16223, 21219, ofPairs [(16223, 16223)], [(.oi 1, 1)]⟩) (ex := .ret) (rl := [(16223, 16223)]) (vp := []) (fs := [(10, .ptr 16223 0)]) (bs := bsF2X)
    hb (by decide) rfl (by kernel_rfl) (ipCons (ipN _ rfl rfl) ipNil) vpNil (glNone rfl rfl) (by as_aux_lemma => kernel_rfl) s) ?_
  rintro e' a' w' ⟨rfl, s'⟩
  exact St.done (.inr rfl) (by kernel_rfl) s'
theorem CR1D_ok {x0 f_ nd S : Int} (g1 : 0 ≤ x0) (g2 : x0 < 100) (g3 : 0 ≤ f_) (g4 : f_ < 1000) (hn : nd = 6 + 8 * x0) (hS : (x0 * (x0 + 1)).tdiv 2 = S) (p0 : 0 ≤ x0 * (x0 + 1)) (p1 : x0 * (x0 + 1) ≤ 9900) (q0 : 0 ≤ S) (q1 : S ≤ 9900) (hg : nd ≤ f_) : @InOk Tryz.prog CR1 (TD (x := x0) (f := f_) (nd := nd) (S := S) g1 g2 g3 g4 hn hS p0 p1 q0 q1 hg) := by
  letI : Tab := (TD (x := x0) (f := f_) (nd := nd) (S := S) g1 g2 g3 g4 hn hS p0 p1 q0 q1 hg)
  refine ⟨by kernel_rfl, hOf 16219 bsF1, ?_, by unfold hOf; rw [fT_eq]; rfl, by kernel_rfl⟩
  refine callOk_of (fn := Tryz.f70) Tryz.func70 body_eq (by decide +kernel) (by decide) fun B w0 μ a w hb s => ?_
  have hb : Base B μ 14523 := by
    have h := hb
    rw [show (hIn CR1.N CR1.bs).next = 14523 from hIn_next] at h
    exact h
  refine firstTo_sound (T := (TD (x := x0) (f := f_) (nd := nd) (S := S) g1 g2 g3 g4 hn hS p0 p1 q0 q1 hg)) (T' := PB1 x0) (K := K_top0) (m := 5000) (n := 2) mixed (@K_top0_ok (TD (x := x0) (f := f_) (nd := nd) (S := S) g1 g2 g3 g4 hn hS p0 p1 q0 q1 hg)) (C := ⟨14523, 15377, ofPairs rlB1, [(.oi 0, 0)]⟩) (rl := rlB1) (vp := []) (fs := fsR1) (bs := bsB1)
    hb (by decide) rfl (by kernel_rfl) (ipCons (ipN (.i64, x0) rfl rfl) ipNil) vpNil (glNone rfl rfl) (by as_aux_lemma => kernel_rfl) s fun a' w' s' => ?_
  rw [rest_eq]
  have hx : ((x0.toNat : Nat) : Int) = x0 := by omega
  have t2 := tri_two x0.toNat
  have tS : tri x0.toNat = S := by
    rw [hx] at t2
    rw [← hS, ← t2, Int.mul_tdiv_cancel _ (by decide)]
  refine wp_seq (wp_block (wp_mono (wp_loop_rounds ((8 * x0.toNat + 4) + 2) (goB1 g1 g2 hb s' fun a2 w2 s2 => rounds1D g1 g2 g3 g4 hn hS p0 p1 q0 q1 hg hb x0.toNat 2 x0 0 a2 w2 hx.symm g2 (by decide) (by decide) (by decide) (by omega) (by omega) s2)) ?_))
  rintro e2 a2 w2 ⟨rfl, s2⟩
  exact tail1D g1 g2 g3 g4 hn hS p0 p1 q0 q1 hg hb s2
theorem CR1X_ok {x0 f_ nd S : Int} (g1 : 0 ≤ x0) (g2 : x0 < 100) (g3 : 0 ≤ f_) (g4 : f_ < 1000) (hn : nd = 6 + 8 * x0) (hS : (x0 * (x0 + 1)).tdiv 2 = S) (p0 : 0 ≤ x0 * (x0 + 1)) (p1 : x0 * (x0 + 1) ≤ 9900) (q0 : 0 ≤ S) (q1 : S ≤ 9900) (hg : f_ < nd) : @InOk Tryz.prog CR1 (TX (x := x0) (f := f_) (nd := nd) (S := S) g1 g2 g3 g4 hn hS p0 p1 q0 q1 hg) := by
  letI : Tab := (TX (x := x0) (f := f_) (nd := nd) (S := S) g1 g2 g3 g4 hn hS p0 p1 q0 q1 hg)
  refine ⟨by kernel_rfl, hOf 16219 bsF1, ?_, by unfold hOf; rw [fT_eq]; rfl, by kernel_rfl⟩
  refine callOk_of (fn := Tryz.f70) Tryz.func70 body_eq (by decide +kernel) (by decide) fun B w0 μ a w hb s => ?_
  have hb : Base B μ 14523 := by
    have h := hb
    rw [show (hIn CR1.N CR1.bs).next = 14523 from hIn_next] at h
    exact h
  refine firstTo_sound (T := (TX (x := x0) (f := f_) (nd := nd) (S := S) g1 g2 g3 g4 hn hS p0 p1 q0 q1 hg)) (T' := PB1 x0) (K := K_top0) (m := 5000) (n := 2) mixed (@K_top0_ok (TX (x := x0) (f := f_) (nd := nd) (S := S) g1 g2 g3 g4 hn hS p0 p1 q0 q1 hg)) (C := ⟨14523, 15377, ofPairs rlB1, [(.oi 0, 0)]⟩) (rl := rlB1) (vp := []) (fs := fsR1) (bs := bsB1)
    hb (by decide) rfl (by kernel_rfl) (ipCons (ipN (.i64, x0) rfl rfl) ipNil) vpNil (glNone rfl rfl) (by as_aux_lemma => kernel_rfl) s fun a' w' s' => ?_
  rw [rest_eq]
  have hx : ((x0.toNat : Nat) : Int) = x0 := by omega
  have t2 := tri_two x0.toNat
  have tS : tri x0.toNat = S := by
    rw [hx] at t2
    rw [← hS, ← t2, Int.mul_tdiv_cancel _ (by decide)]
  refine wp_seq (wp_block (wp_mono (wp_loop_rounds ((8 * x0.toNat + 4) + 2) (goB1 g1 g2 hb s' fun a2 w2 s2 => rounds1X g1 g2 g3 g4 hn hS p0 p1 q0 q1 hg hb x0.toNat 2 x0 0 a2 w2 hx.symm g2 (by decide) (by decide) (by decide) (by omega) (by omega) s2)) ?_))
  rintro e2 a2 w2 ⟨rfl, s2⟩
  exact tail1X g1 g2 g3 g4 hn hS p0 p1 q0 q1 hg hb s2
theorem CR2D_ok {x0 f_ nd S : Int} (g1 : 0 ≤ x0) (g2 : x0 < 100) (g3 : 0 ≤ f_) (g4 : f_ < 1000) (hn : nd = 6 + 8 * x0) (hS : (x0 * (x0 + 1)).tdiv 2 = S) (p0 : 0 ≤ x0 * (x0 + 1)) (p1 : x0 * (x0 + 1) ≤ 9900) (q0 : 0 ≤ S) (q1 : S ≤ 9900) (hg : nd ≤ f_) : @InOk Tryz.prog CR2D (TD (x := x0) (f := f_) (nd := nd) (S := S) g1 g2 g3 g4 hn hS p0 p1 q0 q1 hg) := by
  letI : Tab := (TD (x := x0) (f := f_) (nd := nd) (S := S) g1 g2 g3 g4 hn hS p0 p1 q0 q1 hg)
  refine ⟨by kernel_rfl, hOf 21219 bsF2D, ?_, by unfold hOf; rw [fT_eq]; rfl, by kernel_rfl⟩
  refine callOk_of (fn := Tryz.f70) Tryz.func70 body_eq (by decide +kernel) (by decide) fun B w0 μ a w hb s => ?_
  have hb : Base B μ 16223 := by
    have h := hb
    rw [show (hIn CR2D.N CR2D.bs).next = 16223 from hIn_next] at h
    exact h
  refine firstTo_sound (T := (TD (x := x0) (f := f_) (nd := nd) (S := S) g1 g2 g3 g4 hn hS p0 p1 q0 q1 hg)) (T' := PB2 nd f_ x0) (K := K_top0) (m := 5000) (n := 2) mixed (@K_top0_ok (TD (x := x0) (f := f_) (nd := nd) (S := S) g1 g2 g3 g4 hn hS p0 p1 q0 q1 hg)) (C := ⟨16223, 16248, ofPairs rlB2, [(.oi 2, 0), (.oi 1, 1), (.oi 0, 2)]⟩) (rl := rlB2) (vp := []) (fs := fsR2) (bs := bsB2)
    hb (by decide) rfl (by kernel_rfl) (ipCons (ipN (.i64, nd) rfl rfl) (ipCons (ipN (.i64, f_) rfl rfl) (ipCons (ipN (.i64, x0) rfl rfl) ipNil))) vpNil (glNone rfl rfl) (by as_aux_lemma => kernel_rfl) s fun a' w' s' => ?_
  rw [rest_eq]
  have hx : ((x0.toNat : Nat) : Int) = x0 := by omega
  have t2 := tri_two x0.toNat
  have tS : tri x0.toNat = S := by
    rw [hx] at t2
    rw [← hS, ← t2, Int.mul_tdiv_cancel _ (by decide)]
  refine wp_seq (wp_block (wp_mono (wp_loop_rounds ((8 * x0.toNat + 4) + 2) (goB2 (by omega) (by omega) g3 g4 g1 g2 (by omega) hb s' fun a2 w2 s2 => rounds2D g1 g2 g3 g4 hn hS p0 p1 q0 q1 hg hb x0.toNat (nd + 2) 2 f_ x0 0 a2 w2 hx.symm g2 (by decide) (by decide) (by decide) (by omega) (by omega) (by omega) (by omega) g3 g4 hg s2)) ?_))
  rintro e2 a2 w2 ⟨rfl, s2⟩
  exact tail2D g1 g2 g3 g4 hn hS p0 p1 q0 q1 hg hb s2
theorem CR2X_ok {x0 f_ nd S : Int} (g1 : 0 ≤ x0) (g2 : x0 < 100) (g3 : 0 ≤ f_) (g4 : f_ < 1000) (hn : nd = 6 + 8 * x0) (hS : (x0 * (x0 + 1)).tdiv 2 = S) (p0 : 0 ≤ x0 * (x0 + 1)) (p1 : x0 * (x0 + 1) ≤ 9900) (q0 : 0 ≤ S) (q1 : S ≤ 9900) (hg : f_ < nd) : @InOk Tryz.prog CR2X (TX (x := x0) (f := f_) (nd := nd) (S := S) g1 g2 g3 g4 hn hS p0 p1 q0 q1 hg) := by
  letI : Tab := (TX (x := x0) (f := f_) (nd := nd) (S := S) g1 g2 g3 g4 hn hS p0 p1 q0 q1 hg)
  refine ⟨by kernel_rfl, hOf 21219 bsF2X, ?_, by unfold hOf; rw [fT_eq]; rfl, by kernel_rfl⟩
  refine callOk_of (fn := Tryz.f70) Tryz.func70 body_eq (by decide +kernel) (by decide) fun B w0 μ a w hb s => ?_
  have hb : Base B μ 16223 := by
    have h := hb
    rw [show (hIn CR2X.N CR2X.bs).next = 16223 from hIn_next] at h
    exact h
  refine firstTo_sound (T := (TX (x := x0) (f := f_) (nd := nd) (S := S) g1 g2 g3 g4 hn hS p0 p1 q0 q1 hg)) (T' := PB2 nd f_ x0) (K := K_top0) (m := 5000) (n := 2) mixed (@K_top0_ok (TX (x := x0) (f := f_) (nd := nd) (S := S) g1 g2 g3 g4 hn hS p0 p1 q0 q1 hg)) (C := ⟨16223, 16248, ofPairs rlB2, [(.oi 2, 0), (.oi 1, 1), (.oi 0, 2)]⟩) (rl := rlB2) (vp := []) (fs := fsR2) (bs := bsB2)
    hb (by decide) rfl (by kernel_rfl) (ipCons (ipN (.i64, nd) rfl rfl) (ipCons (ipN (.i64, f_) rfl rfl) (ipCons (ipN (.i64, x0) rfl rfl) ipNil))) vpNil (glNone rfl rfl) (by as_aux_lemma => kernel_rfl) s fun a' w' s' => ?_
  rw [rest_eq]
  have hx : ((x0.toNat : Nat) : Int) = x0 := by omega
  have t2 := tri_two x0.toNat
  have tS : tri x0.toNat = S := by
    rw [hx] at t2
    rw [← hS, ← t2, Int.mul_tdiv_cancel _ (by decide)]
  have all : ∃ J, Code.rounds Tryz.prog la (Q2X g1 g2 g3 g4 hn hS p0 p1 q0 q1 hg B w0 μ) J a' w' := by
    by_cases c0 : f_ = 0
    · exact ⟨_, endY0 g1 g2 g3 g4 hn hS p0 p1 q0 q1 hg (by omega) (by omega) g3 g4 g1 g2 c0 rfl hb s'⟩
    by_cases c1 : f_ = 1
    · exact ⟨_, endY1 g1 g2 g3 g4 hn hS p0 p1 q0 q1 hg (by omega) (by omega) g3 g4 g1 g2 c1 rfl hb s'⟩
    have hd : f_ = 2 + (((f_ - 2).toNat : Nat) : Int) := by omega
    exact ⟨_, goB2 (by omega) (by omega) g3 g4 g1 g2 (by omega) hb s' fun a2 w2 s2 => rounds2X g1 g2 g3 g4 hn hS p0 p1 q0 q1 hg hb x0.toNat (f_ - 2).toNat (nd + 2) 2 f_ x0 0 a2 w2 hx.symm g2 (by decide) (by omega) (by decide) hd (by omega) (by decide) (by omega) (by omega) g3 g4 rfl s2⟩
  obtain ⟨J, hJ⟩ := all
  refine wp_seq (wp_block (wp_mono (wp_loop_rounds J hJ) ?_))
  rintro e2 a2 w2 ⟨rfl, s2⟩
  exact tail2X g1 g2 g3 g4 hn hS p0 p1 q0 q1 hg hb s2
end
end Go.Proofs.YtedimikdpclpnaaGreatDoor.fu
