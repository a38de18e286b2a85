/-
  What the law ClassInits gives: true, whatever the flags and the kind.
-/
import Derived.Test.YtlfinnicdpiaaaaGreatDoorCI0
import Derived.Test.YtlfinnicdpiaaaaGreatDoorCI1
import Derived.Test.YtlfinnicdpiaaaaGreatDoorCI2
import Derived.Test.YtlfinnicdpiaaaaGreatDoorCI3
set_option linter.unusedVariables false
set_option maxRecDepth 100000
namespace Go.Proofs.YtlfinnicdpiaaaaGreatDoor.inits
open Go.X Go.RowKit
abbrev Out (w0 : World) := Yes Tryz.prog Tryz.f4 (Kp.below w0.heap.size) w0
noncomputable abbrev act0 (x : Int) (i c v : Bool) : Act := { tmps := #[.int .i64 x, .bool i, .bool c, .bool v] ++ Array.replicate (Tryz.f4.ntmps - 4) undef, defers := [] }
theorem startE {x : Int} {i c v : Bool} (U : Tab) (hg : U.gv = fun _ _ => none) (hg2 : U.fv = fun _ _ => none) (h0 : U.iv 0 = (.i64, x)) (w : World) : St U (Kp.below w.heap.size) w (fun _ => none) Tryz.f4.ntmps (T.ofList 0 .leaf [.oi 0, .bool i, .bool c, .bool v]) H.empty (act0 x i c v) w := by
  letI := U
  refine @St.start U [.oi 0, .bool i, .bool c, .bool v] #[.int .i64 x, .bool i, .bool c, .bool v] Tryz.f4.ntmps w ⟨fun g o a h => (by rw [hg] at h; cases h), fun g o a h => (by rw [hg2] at h; cases h)⟩ ?_ (show 4 ≤ Tryz.f4.ntmps by decide +kernel) (show 4 < limit by decide)
  refine ⟨_, _, rfl, ?_, _, _, rfl, ?_, _, _, rfl, ?_, _, _, rfl, ?_, rfl⟩
  · simp only [vrel]; rw [h0]
  · simp only [vrel]
  · simp only [vrel]
  · simp only [vrel]
section
variable {n : Nat} {i c v : Bool} {w : World}
theorem goO (hn : n < 65536) {ext : List BRow} {h : ∀ r ∈ ext, IbOk (ivC n) r} (e : runTrue (RC hn ext h).tab Tryz.prog KO 3000 Tryz.f4 body (T.ofList 0 .leaf [.oi 0, .bool i, .bool c, .bool v]) H.empty = true) : body.wp Tryz.prog (Out w) (act0 n i c v) w :=
  @runTrue_sound _ _ _ _ _ _ (RC hn ext h).tab _ _ mx KO (@HandOk.or (RC hn ext h).tab _ _ _ (@ones_ok (RC hn ext h).tab n rfl rfl) (@sumsHand_ok (RC hn ext h).tab Tryz.prog _ (@tabG_ok (RC hn ext h).tab))) 3000 Tryz.f4 body e (startE (RC hn ext h).tab rfl rfl rfl w)
theorem goA {g : Bool} (hn : n < 65536) (h8 : n < 8) (hg : accB n = g) {ext : List BRow} {h : ∀ r ∈ ext, IbOk (ivC n) r} (e : runTrue (RC hn ext h).tab Tryz.prog (KA g) 3000 Tryz.f4 body (T.ofList 0 .leaf [.oi 0, .bool i, .bool c, .bool v]) H.empty = true) : body.wp Tryz.prog (Out w) (act0 n i c v) w :=
  @runTrue_sound _ _ _ _ _ _ (RC hn ext h).tab _ _ mx (KA g) (@HandOk.or (RC hn ext h).tab _ _ _ (@ones_ok (RC hn ext h).tab n rfl rfl) (@HandOk.or (RC hn ext h).tab _ _ _ (@acc_ok (RC hn ext h).tab n g h8 rfl hg) (@sumsHand_ok (RC hn ext h).tab Tryz.prog _ (@tabG_ok (RC hn ext h).tab)))) 3000 Tryz.f4 body e (startE (RC hn ext h).tab rfl rfl rfl w)
theorem small (h8 : n < 8) : decide (vN n 7 = 0) = true ∧ decide (vN n 1055 = 0) = !false ∧ decide (vA n 1024 = 0) = true ∧ decide (vA n 8 = 0) = true ∧ decide (pc (n % 8) ≤ 1) = accB n ∧ decide ((n : Int) = 8) = false := by
  obtain rfl | rfl | rfl | rfl | rfl | rfl | rfl | rfl : n = 0 ∨ n = 1 ∨ n = 2 ∨ n = 3 ∨ n = 4 ∨ n = 5 ∨ n = 6 ∨ n = 7 := by omega
  all_goals decide
theorem all000 (hn : n < 65536) : body.wp Tryz.prog (Out w) (act0 n false false false) w := by
  by_cases hz : vN n 7 = 0
  · have h8 := z_small hn hz
    obtain ⟨s0, s1, s2, s3, s4, s5⟩ := small h8
    cases hg : accB n with
    | false => exact goA hn h8 hg (rK10xx_000 hn s0 s1 s2 s3 (s4.trans hg) s5)
    | true => exact goA hn h8 hg (rK11xx_000 hn s0 s1 s2 s3 (s4.trans hg) s5)
  have z : decide (vN n 7 = 0) = false := decide_eq_false hz
  cases ha : decide (vA n 1024 = 0) with
  | false =>
    cases hs : decide (vA n 8 = 0) with
    | false =>
      cases hr : decide (vN n 1055 = 0) with
      | false => exact goO hn (rK3x11_000 hn z hr ha hs)
      | true =>
        cases hg : decide (pc (n % 8) ≤ 1) with
        | false => exact goO hn (rK4011_000 hn z hr ha hs hg)
        | true => exact goO hn (rK4111_000 hn z hr ha hs hg)
    | true =>
      cases hr : decide (vN n 1055 = 0) with
      | false => exact goO hn (rK3x10_000 hn z hr ha hs)
      | true =>
        cases hg : decide (pc (n % 8) ≤ 1) with
        | false => exact goO hn (rK4010_000 hn z hr ha hs hg)
        | true => exact goO hn (rK4110_000 hn z hr ha hs hg)
  | true =>
    cases hs : decide (vA n 8 = 0) with
    | false =>
      cases hr : decide (vN n 1055 = 0) with
      | false => exact goO hn (rK3x01_000 hn z hr ha hs)
      | true =>
        cases hg : decide (pc (n % 8) ≤ 1) with
        | false => exact goO hn (rK4001_000 hn z hr ha hs hg)
        | true => exact goO hn (rK4101_000 hn z hr ha hs hg)
    | true =>
      cases hr : decide (vN n 1055 = 0) with
      | false => exact goO hn (rK3x00_000 hn z hr ha hs)
      | true =>
        cases hg : decide (pc (n % 8) ≤ 1) with
        | false => exact goO hn (rK4000_000 hn z hr ha hs hg)
        | true => exact goO hn (rK4100_000 hn z hr ha hs hg)
theorem all001 (hn : n < 65536) : body.wp Tryz.prog (Out w) (act0 n false false true) w := by
  by_cases hz : vN n 7 = 0
  · have h8 := z_small hn hz
    obtain ⟨s0, s1, s2, s3, s4, s5⟩ := small h8
    cases hg : accB n with
    | false => exact goA hn h8 hg (rK10xx_001 hn s0 s1 s2 s3 (s4.trans hg) s5)
    | true => exact goA hn h8 hg (rK11xx_001 hn s0 s1 s2 s3 (s4.trans hg) s5)
  have z : decide (vN n 7 = 0) = false := decide_eq_false hz
  cases ha : decide (vA n 1024 = 0) with
  | false =>
    cases hs : decide (vA n 8 = 0) with
    | false =>
      cases hr : decide (vN n 1055 = 0) with
      | false => exact goO hn (rK3x11_001 hn z hr ha hs)
      | true =>
        cases hg : decide (pc (n % 8) ≤ 1) with
        | false => exact goO hn (rK4011_001 hn z hr ha hs hg)
        | true => exact goO hn (rK4111_001 hn z hr ha hs hg)
    | true =>
      cases hr : decide (vN n 1055 = 0) with
      | false => exact goO hn (rK3x10_001 hn z hr ha hs)
      | true =>
        cases hg : decide (pc (n % 8) ≤ 1) with
        | false => exact goO hn (rK4010_001 hn z hr ha hs hg)
        | true => exact goO hn (rK4110_001 hn z hr ha hs hg)
  | true =>
    cases hs : decide (vA n 8 = 0) with
    | false =>
      cases hr : decide (vN n 1055 = 0) with
      | false => exact goO hn (rK3x01_001 hn z hr ha hs)
      | true =>
        cases hg : decide (pc (n % 8) ≤ 1) with
        | false => exact goO hn (rK4001_001 hn z hr ha hs hg)
        | true => exact goO hn (rK4101_001 hn z hr ha hs hg)
    | true =>
      cases hr : decide (vN n 1055 = 0) with
      | false => exact goO hn (rK3x00_001 hn z hr ha hs)
      | true =>
        cases hg : decide (pc (n % 8) ≤ 1) with
        | false => exact goO hn (rK4000_001 hn z hr ha hs hg)
        | true => exact goO hn (rK4100_001 hn z hr ha hs hg)
theorem all010 (hn : n < 65536) : body.wp Tryz.prog (Out w) (act0 n false true false) w := by
  by_cases hq : n = 8
  · subst hq
    exact goO hn (rK2xxx_010 hn (by decide) (by decide) (by decide) (by decide) (by decide) (by decide))
  have q : decide ((n : Int) = 8) = false := decide_eq_false (by omega)
  by_cases hz : vN n 7 = 0
  · have h8 := z_small hn hz
    obtain ⟨s0, s1, s2, s3, s4, s5⟩ := small h8
    cases hg : accB n with
    | false => exact goA hn h8 hg (rK10xx_010 hn s0 s1 s2 s3 (s4.trans hg) s5)
    | true => exact goA hn h8 hg (rK11xx_010 hn s0 s1 s2 s3 (s4.trans hg) s5)
  have z : decide (vN n 7 = 0) = false := decide_eq_false hz
  cases ha : decide (vA n 1024 = 0) with
  | false =>
    cases hs : decide (vA n 8 = 0) with
    | false =>
      exact goO hn (rK5x11_010 hn z ha hs q)
    | true =>
      exact goO hn (rK5x10_010 hn z ha hs q)
  | true =>
    cases hs : decide (vA n 8 = 0) with
    | false =>
      exact goO hn (rK5x01_010 hn z ha hs q)
    | true =>
      exact goO hn (rK5x00_010 hn z ha hs q)
theorem all011 (hn : n < 65536) : body.wp Tryz.prog (Out w) (act0 n false true true) w := by
  by_cases hq : n = 8
  · subst hq
    exact goO hn (rK2xxx_011 hn (by decide) (by decide) (by decide) (by decide) (by decide) (by decide))
  have q : decide ((n : Int) = 8) = false := decide_eq_false (by omega)
  by_cases hz : vN n 7 = 0
  · have h8 := z_small hn hz
    obtain ⟨s0, s1, s2, s3, s4, s5⟩ := small h8
    cases hg : accB n with
    | false => exact goA hn h8 hg (rK10xx_011 hn s0 s1 s2 s3 (s4.trans hg) s5)
    | true => exact goA hn h8 hg (rK11xx_011 hn s0 s1 s2 s3 (s4.trans hg) s5)
  have z : decide (vN n 7 = 0) = false := decide_eq_false hz
  cases ha : decide (vA n 1024 = 0) with
  | false =>
    cases hs : decide (vA n 8 = 0) with
    | false =>
      exact goO hn (rK5x11_011 hn z ha hs q)
    | true =>
      exact goO hn (rK5x10_011 hn z ha hs q)
  | true =>
    cases hs : decide (vA n 8 = 0) with
    | false =>
      exact goO hn (rK5x01_011 hn z ha hs q)
    | true =>
      exact goO hn (rK5x00_011 hn z ha hs q)
theorem all100 (hn : n < 65536) : body.wp Tryz.prog (Out w) (act0 n true false false) w := by
  by_cases hz : vN n 7 = 0
  · have h8 := z_small hn hz
    obtain ⟨s0, s1, s2, s3, s4, s5⟩ := small h8
    cases hg : accB n with
    | false => exact goA hn h8 hg (rK10xx_100 hn s0 s1 s2 s3 (s4.trans hg) s5)
    | true => exact goA hn h8 hg (rK11xx_100 hn s0 s1 s2 s3 (s4.trans hg) s5)
  have z : decide (vN n 7 = 0) = false := decide_eq_false hz
  cases ha : decide (vA n 1024 = 0) with
  | false =>
    cases hs : decide (vA n 8 = 0) with
    | false =>
      cases hr : decide (vN n 1055 = 0) with
      | false => exact goO hn (rK3x11_100 hn z hr ha hs)
      | true =>
        cases hg : decide (pc (n % 8) ≤ 1) with
        | false => exact goO hn (rK4011_100 hn z hr ha hs hg)
        | true => exact goO hn (rK4111_100 hn z hr ha hs hg)
    | true =>
      cases hr : decide (vN n 1055 = 0) with
      | false => exact goO hn (rK3x10_100 hn z hr ha hs)
      | true =>
        cases hg : decide (pc (n % 8) ≤ 1) with
        | false => exact goO hn (rK4010_100 hn z hr ha hs hg)
        | true => exact goO hn (rK4110_100 hn z hr ha hs hg)
  | true =>
    cases hs : decide (vA n 8 = 0) with
    | false =>
      cases hr : decide (vN n 1055 = 0) with
      | false => exact goO hn (rK3x01_100 hn z hr ha hs)
      | true =>
        cases hg : decide (pc (n % 8) ≤ 1) with
        | false => exact goO hn (rK4001_100 hn z hr ha hs hg)
        | true => exact goO hn (rK4101_100 hn z hr ha hs hg)
    | true =>
      cases hr : decide (vN n 1055 = 0) with
      | false => exact goO hn (rK3x00_100 hn z hr ha hs)
      | true =>
        cases hg : decide (pc (n % 8) ≤ 1) with
        | false => exact goO hn (rK4000_100 hn z hr ha hs hg)
        | true => exact goO hn (rK4100_100 hn z hr ha hs hg)
theorem all101 (hn : n < 65536) : body.wp Tryz.prog (Out w) (act0 n true false true) w := by
  by_cases hz : vN n 7 = 0
  · have h8 := z_small hn hz
    obtain ⟨s0, s1, s2, s3, s4, s5⟩ := small h8
    cases hg : accB n with
    | false => exact goA hn h8 hg (rK10xx_101 hn s0 s1 s2 s3 (s4.trans hg) s5)
    | true => exact goA hn h8 hg (rK11xx_101 hn s0 s1 s2 s3 (s4.trans hg) s5)
  have z : decide (vN n 7 = 0) = false := decide_eq_false hz
  cases ha : decide (vA n 1024 = 0) with
  | false =>
    cases hs : decide (vA n 8 = 0) with
    | false =>
      cases hr : decide (vN n 1055 = 0) with
      | false => exact goO hn (rK3x11_101 hn z hr ha hs)
      | true =>
        cases hg : decide (pc (n % 8) ≤ 1) with
        | false => exact goO hn (rK4011_101 hn z hr ha hs hg)
        | true => exact goO hn (rK4111_101 hn z hr ha hs hg)
    | true =>
      cases hr : decide (vN n 1055 = 0) with
      | false => exact goO hn (rK3x10_101 hn z hr ha hs)
      | true =>
        cases hg : decide (pc (n % 8) ≤ 1) with
        | false => exact goO hn (rK4010_101 hn z hr ha hs hg)
        | true => exact goO hn (rK4110_101 hn z hr ha hs hg)
  | true =>
    cases hs : decide (vA n 8 = 0) with
    | false =>
      cases hr : decide (vN n 1055 = 0) with
      | false => exact goO hn (rK3x01_101 hn z hr ha hs)
      | true =>
        cases hg : decide (pc (n % 8) ≤ 1) with
        | false => exact goO hn (rK4001_101 hn z hr ha hs hg)
        | true => exact goO hn (rK4101_101 hn z hr ha hs hg)
    | true =>
      cases hr : decide (vN n 1055 = 0) with
      | false => exact goO hn (rK3x00_101 hn z hr ha hs)
      | true =>
        cases hg : decide (pc (n % 8) ≤ 1) with
        | false => exact goO hn (rK4000_101 hn z hr ha hs hg)
        | true => exact goO hn (rK4100_101 hn z hr ha hs hg)
theorem all110 (hn : n < 65536) : body.wp Tryz.prog (Out w) (act0 n true true false) w := by
  by_cases hq : n = 8
  · subst hq
    exact goO hn (rK2xxx_110 hn (by decide) (by decide) (by decide) (by decide) (by decide) (by decide))
  have q : decide ((n : Int) = 8) = false := decide_eq_false (by omega)
  cases ha : decide (vA n 1024 = 0) with
  | false =>
    cases hs : decide (vA n 8 = 0) with
    | false =>
      exact goO hn (rK6x11_110 hn ha hs q)
    | true =>
      exact goO hn (rK6x10_110 hn ha hs q)
  | true =>
    cases hs : decide (vA n 8 = 0) with
    | false =>
      exact goO hn (rK6x01_110 hn ha hs q)
    | true =>
      exact goO hn (rK6x00_110 hn ha hs q)
theorem all111 (hn : n < 65536) : body.wp Tryz.prog (Out w) (act0 n true true true) w := by
  by_cases hq : n = 8
  · subst hq
    exact goO hn (rK2xxx_111 hn (by decide) (by decide) (by decide) (by decide) (by decide) (by decide))
  have q : decide ((n : Int) = 8) = false := decide_eq_false (by omega)
  cases ha : decide (vA n 1024 = 0) with
  | false =>
    cases hs : decide (vA n 8 = 0) with
    | false =>
      exact goO hn (rK6x11_111 hn ha hs q)
    | true =>
      exact goO hn (rK6x10_111 hn ha hs q)
  | true =>
    cases hs : decide (vA n 8 = 0) with
    | false =>
      exact goO hn (rK6x01_111 hn ha hs q)
    | true =>
      exact goO hn (rK6x00_111 hn ha hs q)
end
abbrev only {iv : Nat → IntKind × Int} {ib : List BRow} (h : ∀ r ∈ ib, IbOk iv r) : VRows iv noV noK where
  vvp := noVp
  ib := ib
  ibok := h
abbrev ivE (x : Int) : Nat → IntKind × Int := fun i0 => (.i64, match i0 with | 0 => x | _ => 0)
theorem lo {x : Int} (h : x < 0) : ∀ r ∈ ([(11, .oi 0, cI 0, .bool true)] : List BRow), IbOk (ivE x) r := ibCons (ibLt (a := x) (b := 0) rfl rfl (decide_eq_true h)) ibNil
theorem hi {x : Int} (h : ¬ x < 0) (h2 : x > 65535) : ∀ r ∈ ([(11, .oi 0, cI 0, .bool false), (13, .oi 0, cI 65535, .bool true)] : List BRow), IbOk (ivE x) r := ibCons (ibLt (a := x) (b := 0) rfl rfl (decide_eq_false h)) (ibCons (ibGt (a := x) (b := 65535) rfl rfl (decide_eq_true h2)) ibNil)
theorem classInits_any (x : Int) (i c v : Bool) (w : World) : Calls Tryz.prog 4 #[.int .i64 x, .bool i, .bool c, .bool v] w fun e w' => e = .returned (.bool true) ∧ Below w.heap.size w w' := by
  refine yes_calls Tryz.func4 body_eq w ?_
  show body.wp Tryz.prog (Out w) (act0 x i c v) w
  have out : ∀ {ib : List BRow} (h : ∀ r ∈ ib, IbOk (ivE x) r), runTrue (only h).tab Tryz.prog (sumsHand tabG) 1000 Tryz.f4 body (T.ofList 0 .leaf [.oi 0, .bool i, .bool c, .bool v]) H.empty = true → body.wp Tryz.prog (Out w) (act0 x i c v) w := fun h e =>
    @runTrue_sound _ _ _ _ _ _ (only h).tab _ _ mx (sumsHand tabG) (@sumsHand_ok (only h).tab Tryz.prog _ (@tabG_ok (only h).tab)) 1000 Tryz.f4 body e (startE (only h).tab rfl rfl rfl w)
  by_cases h1 : x < 0
  · exact out (lo h1) (by kernel_rfl)
  by_cases h2 : x > 65535
  · exact out (hi h1 h2) (by kernel_rfl)
  obtain ⟨n, rfl⟩ : ∃ m : Nat, x = (m : Int) := ⟨x.toNat, by omega⟩
  have hn : n < 65536 := by omega
  cases i <;> cases c <;> cases v
  · exact all000 hn
  · exact all001 hn
  · exact all010 hn
  · exact all011 hn
  · exact all100 hn
  · exact all101 hn
  · exact all110 hn
  · exact all111 hn
end Go.Proofs.YtlfinnicdpiaaaaGreatDoor.inits
