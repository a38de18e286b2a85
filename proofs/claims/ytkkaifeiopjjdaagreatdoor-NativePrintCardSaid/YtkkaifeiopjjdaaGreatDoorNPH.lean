/-
  Chars as UTF-8: the tables of the two loops, by classes of chars.
-/
import Derived.Test.YtkkaifeiopjjdaaGreatDoorNPG
set_option linter.unusedVariables false
set_option linter.unusedSimpArgs false
set_option linter.unusedSectionVars false
set_option maxRecDepth 1000000
set_option maxHeartbeats 0
namespace Go.Proofs.YtkkaifeiopjjdaaGreatDoor.np
open Go.X Go.RowKit Go.Proofs
/-- the classes of chars -/
def OK (e : Oe) : Nat → Prop
  | 0 => 0 ≤ e.c ∧ e.c < 128
  | 1 => 128 ≤ e.c ∧ e.c < 2048
  | 2 => 2048 ≤ e.c ∧ e.c < 55296
  | 3 => 57344 ≤ e.c
  | 4 => 56320 ≤ e.c ∧ e.c < 57344
  | 5 => 55296 ≤ e.c ∧ e.c < 56320 ∧ ¬ e.i + 1 < e.n
  | 6 => 55296 ≤ e.c ∧ e.c < 56320 ∧ e.i + 1 < e.n ∧ e.d < 56320
  | 7 => 55296 ≤ e.c ∧ e.c < 56320 ∧ e.i + 1 < e.n ∧ 56320 ≤ e.d ∧ e.d < 57344
  | _ => 55296 ≤ e.c ∧ e.c < 56320 ∧ e.i + 1 < e.n ∧ 57344 ≤ e.d
theorem OK_ex (e : Oe) (o : OF e) : ∃ k, k < 9 ∧ OK e k := by
  have h0 := o.h0 e.i; have h1 := o.h1 e.i
  by_cases a : e.c < 128
  · exact ⟨0, by decide, h0, a⟩
  by_cases b : e.c < 2048
  · exact ⟨1, by decide, by omega, b⟩
  by_cases c : e.c < 55296
  · exact ⟨2, by decide, by omega, c⟩
  by_cases d : 57344 ≤ e.c
  · exact ⟨3, by decide, d⟩
  by_cases f : 56320 ≤ e.c
  · exact ⟨4, by decide, f, by omega⟩
  by_cases g : e.i + 1 < e.n
  · by_cases j : e.d < 56320
    · exact ⟨6, by decide, by omega, by omega, g, j⟩
    · by_cases k : e.d < 57344
      · exact ⟨7, by decide, by omega, by omega, g, by omega, k⟩
      · exact ⟨8, by decide, by omega, by omega, g, by omega⟩
  · exact ⟨5, by decide, by omega, by omega, g⟩
theorem outC_s {c : Int} (h : 55296 ≤ c ∧ c < 57344) : outC c = [63] := if_pos h
theorem outC_0 {c : Int} (h : ¬ (55296 ≤ c ∧ c < 57344)) (h1 : c < 128) : outC c = [c] := by unfold outC; rw [if_neg h, if_pos h1]
theorem outC_1 {c : Int} (h : ¬ (55296 ≤ c ∧ c < 57344)) (h1 : ¬ c < 128) (h2 : c < 2048) : outC c = [192 + c / 64, 128 + c % 64] := by unfold outC; rw [if_neg h, if_neg h1, if_pos h2]
theorem outC_2 {c : Int} (h : ¬ (55296 ≤ c ∧ c < 57344)) (h1 : ¬ c < 128) (h2 : ¬ c < 2048) : outC c = [224 + c / 4096, 128 + c / 64 % 64, 128 + c % 64] := by unfold outC; rw [if_neg h, if_neg h1, if_neg h2]
theorem b_one {e : Oe} (h : ¬ isP e.f e.n e.i) : e.b = outC e.c := if_neg h
theorem s_one {e : Oe} (h : ¬ isP e.f e.n e.i) : outS e.f e.n e.i = 1 := if_neg h
section
variable {e : Oe}
noncomputable abbrev sr0 : List AV := [.oi 48]
theorem p0 (h : OK e 0) : ¬ isP e.f e.n e.i := fun p => by have h1 := p.1; have h2 : 0 ≤ e.c ∧ e.c < 128 := h; have h1 : 55296 ≤ e.c := h1; omega
theorem b0 (h : OK e 0) : e.b = [e.c] := (b_one (p0 h)).trans (outC_0 (by have h : 0 ≤ e.c ∧ e.c < 128 := h; omega) h.2)
theorem st0 (h : OK e 0) : outS e.f e.n e.i = 1 := s_one (p0 h)
theorem src0 (h : OK e 0) : Src e sr0 := by
  have hb := b0 h
  refine ⟨by rw [hb]; rfl, fun m hm => ?_⟩
  rw [hb]
  match m, hm with
  | 0, _ => exact ⟨_, rfl, rfl⟩
noncomputable abbrev ibo0 : List BRow := [(11, .oi 0, .oi 2, .bool true), (14, .oi 0, .int .i64 0, .bool true), (0, .oi 0, .int .i64 1, .oi 1), (5, .oi 10, .int .i32 64512, .oi 11), (9, .oi 11, .int .i32 55296, .bool false), (5, .oi 10, .int .i32 63488, .oi 12), (9, .oi 12, .int .i32 55296, .bool false), (12, .oi 13, .int .u32 127, .bool true)]
noncomputable abbrev ico0 : List (IntKind × AV × AV) := [(.i32, .oi 5, .oi 10), (.u32, .oi 10, .oi 13), (.u8, .oi 10, .oi 48)]
theorem ibo0_ok (o : OF e) (hk : e.i < e.n) (h : OK e 0) : ∀ r ∈ ibo0, IbOk (ivO e) r := by
  have hn := o.hn; have g0 := o.h0 e.i; have g1 := o.h1 e.i; have k0 := o.h0 (e.i + 1); have k1 := o.h1 (e.i + 1)
  have g0 : 0 ≤ e.c := g0; have g1 : e.c < 65536 := g1; have k0 : 0 ≤ e.d := k0; have k1 : e.d < 65536 := k1
  obtain ⟨q0, q1⟩ : 0 ≤ e.c ∧ e.c < 128 := h
  exact (rLtK (rGeK (rAdd (rAndK (rEq (rAndK (rEq (rLeK (ibNil))) (h := aI11 (by omega) (by omega)))) (h := aI10 (by omega) (by omega))))))
theorem ico0_ok (o : OF e) (hk : e.i < e.n) (h : OK e 0) : ∀ r ∈ ico0, IcOk' (ivO e) r := by
  have hn := o.hn; have g0 := o.h0 e.i; have g1 := o.h1 e.i; have k0 := o.h0 (e.i + 1); have k1 := o.h1 (e.i + 1)
  have g0 : 0 ≤ e.c := g0; have g1 : e.c < 65536 := g1; have k0 : 0 ≤ e.d := k0; have k1 : e.d < 65536 := k1
  obtain ⟨q0, q1⟩ : 0 ≤ e.c ∧ e.c < 128 := h
  exact (rConv (rConv (rConv (icNil) (h := wr8 _ (by omega))) (h := wr32 (by omega) (by omega))) (h := wri32 (by omega) (by omega)))
noncomputable abbrev ibg0 : List BRow := [(11, .oi 0, .oi 2, .bool true), (14, .oi 0, .int .i64 0, .bool true), (0, .oi 0, .int .i64 1, .oi 1), (14, .oi 13, .int .u32 55296, .bool false), (12, .oi 13, .int .u32 127, .bool true)]
noncomputable abbrev icg0 : List (IntKind × AV × AV) := [(.u32, .oi 5, .oi 13), (.u8, .oi 13, .oi 48)]
theorem ibg0_ok (o : OF e) (hk : e.i < e.n) (h : OK e 0) : ∀ r ∈ ibg0, IbOk (ivO e) r := by
  have hn := o.hn; have g0 := o.h0 e.i; have g1 := o.h1 e.i; have k0 := o.h0 (e.i + 1); have k1 := o.h1 (e.i + 1)
  have g0 : 0 ≤ e.c := g0; have g1 : e.c < 65536 := g1; have k0 : 0 ≤ e.d := k0; have k1 : e.d < 65536 := k1
  obtain ⟨q0, q1⟩ : 0 ≤ e.c ∧ e.c < 128 := h
  exact (rLtK (rGeK (rAdd (rGeK (rLeK (ibNil))))))
theorem icg0_ok (o : OF e) (hk : e.i < e.n) (h : OK e 0) : ∀ r ∈ icg0, IcOk' (ivO e) r := by
  have hn := o.hn; have g0 := o.h0 e.i; have g1 := o.h1 e.i; have k0 := o.h0 (e.i + 1); have k1 := o.h1 (e.i + 1)
  have g0 : 0 ≤ e.c := g0; have g1 : e.c < 65536 := g1; have k0 : 0 ≤ e.d := k0; have k1 : e.d < 65536 := k1
  obtain ⟨q0, q1⟩ : 0 ≤ e.c ∧ e.c < 128 := h
  exact (rConv (rConv (icNil) (h := wr8 _ (by omega))) (h := wr32 (by omega) (by omega)))
end
section
variable {e : Oe}
noncomputable abbrev sr1 : List AV := [.oi 17, .oi 19]
theorem p1 (h : OK e 1) : ¬ isP e.f e.n e.i := fun p => by have h1 : 55296 ≤ e.c := p.1; have h2 : 128 ≤ e.c ∧ e.c < 2048 := h; omega
theorem b1 (h : OK e 1) : e.b = [192 + e.c / 64, 128 + e.c % 64] := (b_one (p1 h)).trans (outC_1 (by have h : 128 ≤ e.c ∧ e.c < 2048 := h; omega) (by have h : 128 ≤ e.c ∧ e.c < 2048 := h; omega) h.2)
theorem st1 (h : OK e 1) : outS e.f e.n e.i = 1 := s_one (p1 h)
theorem src1 (h : OK e 1) : Src e sr1 := by
  have hb := b1 h
  refine ⟨by rw [hb]; rfl, fun m hm => ?_⟩
  rw [hb]
  match m, hm with
  | 0, _ => exact ⟨_, rfl, rfl⟩
  | 1, _ => exact ⟨_, rfl, rfl⟩
noncomputable abbrev ibo1 : List BRow := [(11, .oi 0, .oi 2, .bool true), (14, .oi 0, .int .i64 0, .bool true), (0, .oi 0, .int .i64 1, .oi 1), (5, .oi 10, .int .i32 64512, .oi 11), (9, .oi 11, .int .i32 55296, .bool false), (5, .oi 10, .int .i32 63488, .oi 12), (9, .oi 12, .int .i32 55296, .bool false), (12, .oi 13, .int .u32 127, .bool false), (12, .oi 13, .int .u32 2047, .bool true), (16, .oi 10, .int .u64 6, .oi 15), (6, .int .u8 192, .oi 16, .oi 17), (5, .oi 14, .int .u8 63, .oi 18), (6, .int .u8 128, .oi 18, .oi 19)]
noncomputable abbrev ico1 : List (IntKind × AV × AV) := [(.i32, .oi 5, .oi 10), (.u32, .oi 10, .oi 13), (.u8, .oi 10, .oi 14), (.u8, .oi 15, .oi 16)]
theorem ibo1_ok (o : OF e) (hk : e.i < e.n) (h : OK e 1) : ∀ r ∈ ibo1, IbOk (ivO e) r := by
  have hn := o.hn; have g0 := o.h0 e.i; have g1 := o.h1 e.i; have k0 := o.h0 (e.i + 1); have k1 := o.h1 (e.i + 1)
  have g0 : 0 ≤ e.c := g0; have g1 : e.c < 65536 := g1; have k0 : 0 ≤ e.d := k0; have k1 : e.d < 65536 := k1
  obtain ⟨q0, q1⟩ : 128 ≤ e.c ∧ e.c < 2048 := h
  exact (rLtK (rGeK (rAdd (rAndK (rEq (rAndK (rEq (rLeK (rLeK (rShrK (rOrK (rAndK (rOrK (ibNil) (h := or8 (t := 64) (by omega) (by omega) (by omega) or128)) (h := aB6 (by omega) (by omega) (by omega))) (h := or8 (t := 32) (by omega) (by omega) (by omega) or192)) (h := fd 64))))) (h := aI11 (by omega) (by omega)))) (h := aI10 (by omega) (by omega))))))
theorem ico1_ok (o : OF e) (hk : e.i < e.n) (h : OK e 1) : ∀ r ∈ ico1, IcOk' (ivO e) r := by
  have hn := o.hn; have g0 := o.h0 e.i; have g1 := o.h1 e.i; have k0 := o.h0 (e.i + 1); have k1 := o.h1 (e.i + 1)
  have g0 : 0 ≤ e.c := g0; have g1 : e.c < 65536 := g1; have k0 : 0 ≤ e.d := k0; have k1 : e.d < 65536 := k1
  obtain ⟨q0, q1⟩ : 128 ≤ e.c ∧ e.c < 2048 := h
  exact (rConv (rConv (rConv (rConv (icNil) (h := wr8 _ rfl)) (h := wr8 _ rfl)) (h := wr32 (by omega) (by omega))) (h := wri32 (by omega) (by omega)))
noncomputable abbrev ibg1 : List BRow := [(11, .oi 0, .oi 2, .bool true), (14, .oi 0, .int .i64 0, .bool true), (0, .oi 0, .int .i64 1, .oi 1), (14, .oi 13, .int .u32 55296, .bool false), (12, .oi 13, .int .u32 127, .bool false), (12, .oi 13, .int .u32 2047, .bool true), (16, .oi 13, .int .u64 6, .oi 50), (5, .oi 13, .int .u32 63, .oi 52), (0, .int .u8 128, .oi 18, .oi 19), (0, .int .u8 192, .oi 16, .oi 17)]
noncomputable abbrev icg1 : List (IntKind × AV × AV) := [(.u32, .oi 5, .oi 13), (.u8, .oi 52, .oi 18), (.u8, .oi 50, .oi 16)]
theorem ibg1_ok (o : OF e) (hk : e.i < e.n) (h : OK e 1) : ∀ r ∈ ibg1, IbOk (ivO e) r := by
  have hn := o.hn; have g0 := o.h0 e.i; have g1 := o.h1 e.i; have k0 := o.h0 (e.i + 1); have k1 := o.h1 (e.i + 1)
  have g0 : 0 ≤ e.c := g0; have g1 : e.c < 65536 := g1; have k0 : 0 ≤ e.d := k0; have k1 : e.d < 65536 := k1
  obtain ⟨q0, q1⟩ : 128 ≤ e.c ∧ e.c < 2048 := h
  exact (rLtK (rGeK (rAdd (rGeK (rLeK (rLeK (rShrK (rAndK (rAddK (rAddK (ibNil) (h := wr8 _ (by omega))) (h := wr8 _ (by omega))) (h := aW6 (by omega) (by omega))) (h := fd 64))))))))
theorem icg1_ok (o : OF e) (hk : e.i < e.n) (h : OK e 1) : ∀ r ∈ icg1, IcOk' (ivO e) r := by
  have hn := o.hn; have g0 := o.h0 e.i; have g1 := o.h1 e.i; have k0 := o.h0 (e.i + 1); have k1 := o.h1 (e.i + 1)
  have g0 : 0 ≤ e.c := g0; have g1 : e.c < 65536 := g1; have k0 : 0 ≤ e.d := k0; have k1 : e.d < 65536 := k1
  obtain ⟨q0, q1⟩ : 128 ≤ e.c ∧ e.c < 2048 := h
  exact (rConv (rConv (rConv (icNil) (h := wr8 _ rfl)) (h := wr8 _ (by omega))) (h := wr32 (by omega) (by omega)))
end
section
variable {e : Oe}
noncomputable abbrev sr2 : List AV := [.oi 22, .oi 24, .oi 19]
theorem p2 (h : OK e 2) : ¬ isP e.f e.n e.i := fun p => by have h1 : 55296 ≤ e.c := p.1; have h2 : 2048 ≤ e.c ∧ e.c < 55296 := h; omega
theorem b2 (h : OK e 2) : e.b = [224 + e.c / 4096, 128 + e.c / 64 % 64, 128 + e.c % 64] := (b_one (p2 h)).trans (outC_2 (by have h : 2048 ≤ e.c ∧ e.c < 55296 := h; omega) (by have h : 2048 ≤ e.c ∧ e.c < 55296 := h; omega) (by have h : 2048 ≤ e.c ∧ e.c < 55296 := h; omega))
theorem st2 (h : OK e 2) : outS e.f e.n e.i = 1 := s_one (p2 h)
theorem src2 (h : OK e 2) : Src e sr2 := by
  have hb := b2 h
  refine ⟨by rw [hb]; rfl, fun m hm => ?_⟩
  rw [hb]
  match m, hm with
  | 0, _ => exact ⟨_, rfl, rfl⟩
  | 1, _ => exact ⟨_, rfl, rfl⟩
  | 2, _ => exact ⟨_, rfl, rfl⟩
noncomputable abbrev ibo2 : List BRow := [(11, .oi 0, .oi 2, .bool true), (14, .oi 0, .int .i64 0, .bool true), (0, .oi 0, .int .i64 1, .oi 1), (5, .oi 10, .int .i32 64512, .oi 11), (9, .oi 11, .int .i32 55296, .bool false), (5, .oi 10, .int .i32 63488, .oi 12), (9, .oi 12, .int .i32 55296, .bool false), (12, .oi 13, .int .u32 127, .bool false), (12, .oi 13, .int .u32 2047, .bool false), (11, .oi 13, .int .u32 55296, .bool true), (16, .oi 10, .int .u64 12, .oi 20), (6, .int .u8 224, .oi 21, .oi 22), (16, .oi 10, .int .u64 6, .oi 15), (5, .oi 16, .int .u8 63, .oi 23), (6, .int .u8 128, .oi 23, .oi 24), (5, .oi 14, .int .u8 63, .oi 18), (6, .int .u8 128, .oi 18, .oi 19)]
noncomputable abbrev ico2 : List (IntKind × AV × AV) := [(.i32, .oi 5, .oi 10), (.u32, .oi 10, .oi 13), (.u8, .oi 10, .oi 14), (.u8, .oi 20, .oi 21), (.u8, .oi 15, .oi 16)]
theorem ibo2_ok (o : OF e) (hk : e.i < e.n) (h : OK e 2) : ∀ r ∈ ibo2, IbOk (ivO e) r := by
  have hn := o.hn; have g0 := o.h0 e.i; have g1 := o.h1 e.i; have k0 := o.h0 (e.i + 1); have k1 := o.h1 (e.i + 1)
  have g0 : 0 ≤ e.c := g0; have g1 : e.c < 65536 := g1; have k0 : 0 ≤ e.d := k0; have k1 : e.d < 65536 := k1
  obtain ⟨q0, q1⟩ : 2048 ≤ e.c ∧ e.c < 55296 := h
  exact (rLtK (rGeK (rAdd (rAndK (rEq (rAndK (rEq (rLeK (rLeK (rLtK (rShrK (rOrK (rShrK (rAndK (rOrK (rAndK (rOrK (ibNil) (h := or8 (t := 64) (by omega) (by omega) (by omega) or128)) (h := aB6 (by omega) (by omega) (by omega))) (h := or8 (t := 64) (by omega) (by omega) (by omega) or128)) (h := aB6 (by omega) (by omega) (by omega))) (h := fd 64)) (h := or8 (t := 16) (by omega) (by omega) (by omega) or224)) (h := fd 4096)))))) (h := aI11 (by omega) (by omega)))) (h := aI10 (by omega) (by omega))))))
theorem ico2_ok (o : OF e) (hk : e.i < e.n) (h : OK e 2) : ∀ r ∈ ico2, IcOk' (ivO e) r := by
  have hn := o.hn; have g0 := o.h0 e.i; have g1 := o.h1 e.i; have k0 := o.h0 (e.i + 1); have k1 := o.h1 (e.i + 1)
  have g0 : 0 ≤ e.c := g0; have g1 : e.c < 65536 := g1; have k0 : 0 ≤ e.d := k0; have k1 : e.d < 65536 := k1
  obtain ⟨q0, q1⟩ : 2048 ≤ e.c ∧ e.c < 55296 := h
  exact (rConv (rConv (rConv (rConv (rConv (icNil) (h := wr8 _ rfl)) (h := wr8 _ (by omega))) (h := wr8 _ rfl)) (h := wr32 (by omega) (by omega))) (h := wri32 (by omega) (by omega)))
noncomputable abbrev ibg2 : List BRow := [(11, .oi 0, .oi 2, .bool true), (14, .oi 0, .int .i64 0, .bool true), (0, .oi 0, .int .i64 1, .oi 1), (14, .oi 13, .int .u32 55296, .bool false), (12, .oi 13, .int .u32 127, .bool false), (12, .oi 13, .int .u32 2047, .bool false), (16, .oi 13, .int .u64 6, .oi 50), (5, .oi 13, .int .u32 63, .oi 52), (0, .int .u8 128, .oi 18, .oi 19), (16, .oi 13, .int .u64 12, .oi 54), (0, .int .u8 224, .oi 21, .oi 22), (5, .oi 50, .int .u32 63, .oi 55), (0, .int .u8 128, .oi 23, .oi 24)]
noncomputable abbrev icg2 : List (IntKind × AV × AV) := [(.u32, .oi 5, .oi 13), (.u8, .oi 52, .oi 18), (.u8, .oi 54, .oi 21), (.u8, .oi 55, .oi 23)]
theorem ibg2_ok (o : OF e) (hk : e.i < e.n) (h : OK e 2) : ∀ r ∈ ibg2, IbOk (ivO e) r := by
  have hn := o.hn; have g0 := o.h0 e.i; have g1 := o.h1 e.i; have k0 := o.h0 (e.i + 1); have k1 := o.h1 (e.i + 1)
  have g0 : 0 ≤ e.c := g0; have g1 : e.c < 65536 := g1; have k0 : 0 ≤ e.d := k0; have k1 : e.d < 65536 := k1
  obtain ⟨q0, q1⟩ : 2048 ≤ e.c ∧ e.c < 55296 := h
  exact (rLtK (rGeK (rAdd (rGeK (rLeK (rLeK (rShrK (rAndK (rAddK (rShrK (rAddK (rAndK (rAddK (ibNil) (h := wr8 _ (by omega))) (h := aW6 (by omega) (by omega))) (h := wr8 _ (by omega))) (h := fd 4096)) (h := wr8 _ (by omega))) (h := aW6 (by omega) (by omega))) (h := fd 64))))))))
theorem icg2_ok (o : OF e) (hk : e.i < e.n) (h : OK e 2) : ∀ r ∈ icg2, IcOk' (ivO e) r := by
  have hn := o.hn; have g0 := o.h0 e.i; have g1 := o.h1 e.i; have k0 := o.h0 (e.i + 1); have k1 := o.h1 (e.i + 1)
  have g0 : 0 ≤ e.c := g0; have g1 : e.c < 65536 := g1; have k0 : 0 ≤ e.d := k0; have k1 : e.d < 65536 := k1
  obtain ⟨q0, q1⟩ : 2048 ≤ e.c ∧ e.c < 55296 := h
  exact (rConv (rConv (rConv (rConv (icNil) (h := wr8 _ (by omega))) (h := wr8 _ (by omega))) (h := wr8 _ (by omega))) (h := wr32 (by omega) (by omega)))
end
section
variable {e : Oe}
noncomputable abbrev sr3 : List AV := [.oi 22, .oi 24, .oi 19]
theorem p3 (h : OK e 3) : ¬ isP e.f e.n e.i := fun p => by have h1 : e.c < 56320 := p.2.1; have h2 : 57344 ≤ e.c := h; omega
theorem b3 (h : OK e 3) : e.b = [224 + e.c / 4096, 128 + e.c / 64 % 64, 128 + e.c % 64] := (b_one (p3 h)).trans (outC_2 (by have h : 57344 ≤ e.c := h; omega) (by have h : 57344 ≤ e.c := h; omega) (by have h : 57344 ≤ e.c := h; omega))
theorem st3 (h : OK e 3) : outS e.f e.n e.i = 1 := s_one (p3 h)
theorem src3 (h : OK e 3) : Src e sr3 := by
  have hb := b3 h
  refine ⟨by rw [hb]; rfl, fun m hm => ?_⟩
  rw [hb]
  match m, hm with
  | 0, _ => exact ⟨_, rfl, rfl⟩
  | 1, _ => exact ⟨_, rfl, rfl⟩
  | 2, _ => exact ⟨_, rfl, rfl⟩
noncomputable abbrev ibo3 : List BRow := [(11, .oi 0, .oi 2, .bool true), (14, .oi 0, .int .i64 0, .bool true), (0, .oi 0, .int .i64 1, .oi 1), (5, .oi 10, .int .i32 64512, .oi 11), (9, .oi 11, .int .i32 55296, .bool false), (5, .oi 10, .int .i32 63488, .oi 12), (9, .oi 12, .int .i32 55296, .bool false), (12, .oi 13, .int .u32 127, .bool false), (12, .oi 13, .int .u32 2047, .bool false), (11, .oi 13, .int .u32 55296, .bool false), (11, .int .u32 57343, .oi 13, .bool true), (12, .oi 13, .int .u32 65535, .bool true), (16, .oi 10, .int .u64 12, .oi 20), (6, .int .u8 224, .oi 21, .oi 22), (16, .oi 10, .int .u64 6, .oi 15), (5, .oi 16, .int .u8 63, .oi 23), (6, .int .u8 128, .oi 23, .oi 24), (5, .oi 14, .int .u8 63, .oi 18), (6, .int .u8 128, .oi 18, .oi 19)]
noncomputable abbrev ico3 : List (IntKind × AV × AV) := [(.i32, .oi 5, .oi 10), (.u32, .oi 10, .oi 13), (.u8, .oi 10, .oi 14), (.u8, .oi 20, .oi 21), (.u8, .oi 15, .oi 16)]
theorem ibo3_ok (o : OF e) (hk : e.i < e.n) (h : OK e 3) : ∀ r ∈ ibo3, IbOk (ivO e) r := by
  have hn := o.hn; have g0 := o.h0 e.i; have g1 := o.h1 e.i; have k0 := o.h0 (e.i + 1); have k1 := o.h1 (e.i + 1)
  have g0 : 0 ≤ e.c := g0; have g1 : e.c < 65536 := g1; have k0 : 0 ≤ e.d := k0; have k1 : e.d < 65536 := k1
  have q0 : 57344 ≤ e.c := h
  exact (rLtK (rGeK (rAdd (rAndK (rEq (rAndK (rEq (rLeK (rLeK (rLtK (rLtK (rLeK (rShrK (rOrK (rShrK (rAndK (rOrK (rAndK (rOrK (ibNil) (h := or8 (t := 64) (by omega) (by omega) (by omega) or128)) (h := aB6 (by omega) (by omega) (by omega))) (h := or8 (t := 64) (by omega) (by omega) (by omega) or128)) (h := aB6 (by omega) (by omega) (by omega))) (h := fd 64)) (h := or8 (t := 16) (by omega) (by omega) (by omega) or224)) (h := fd 4096)))))))) (h := aI11 (by omega) (by omega)))) (h := aI10 (by omega) (by omega))))))
theorem ico3_ok (o : OF e) (hk : e.i < e.n) (h : OK e 3) : ∀ r ∈ ico3, IcOk' (ivO e) r := by
  have hn := o.hn; have g0 := o.h0 e.i; have g1 := o.h1 e.i; have k0 := o.h0 (e.i + 1); have k1 := o.h1 (e.i + 1)
  have g0 : 0 ≤ e.c := g0; have g1 : e.c < 65536 := g1; have k0 : 0 ≤ e.d := k0; have k1 : e.d < 65536 := k1
  have q0 : 57344 ≤ e.c := h
  exact (rConv (rConv (rConv (rConv (rConv (icNil) (h := wr8 _ rfl)) (h := wr8 _ (by omega))) (h := wr8 _ rfl)) (h := wr32 (by omega) (by omega))) (h := wri32 (by omega) (by omega)))
noncomputable abbrev ibg3 : List BRow := [(11, .oi 0, .oi 2, .bool true), (14, .oi 0, .int .i64 0, .bool true), (0, .oi 0, .int .i64 1, .oi 1), (14, .oi 13, .int .u32 55296, .bool true), (12, .oi 13, .int .u32 57343, .bool false), (12, .oi 13, .int .u32 127, .bool false), (12, .oi 13, .int .u32 2047, .bool false), (16, .oi 13, .int .u64 6, .oi 50), (5, .oi 13, .int .u32 63, .oi 52), (0, .int .u8 128, .oi 18, .oi 19), (16, .oi 13, .int .u64 12, .oi 54), (0, .int .u8 224, .oi 21, .oi 22), (5, .oi 50, .int .u32 63, .oi 55), (0, .int .u8 128, .oi 23, .oi 24)]
noncomputable abbrev icg3 : List (IntKind × AV × AV) := [(.u32, .oi 5, .oi 13), (.u8, .oi 52, .oi 18), (.u8, .oi 54, .oi 21), (.u8, .oi 55, .oi 23)]
theorem ibg3_ok (o : OF e) (hk : e.i < e.n) (h : OK e 3) : ∀ r ∈ ibg3, IbOk (ivO e) r := by
  have hn := o.hn; have g0 := o.h0 e.i; have g1 := o.h1 e.i; have k0 := o.h0 (e.i + 1); have k1 := o.h1 (e.i + 1)
  have g0 : 0 ≤ e.c := g0; have g1 : e.c < 65536 := g1; have k0 : 0 ≤ e.d := k0; have k1 : e.d < 65536 := k1
  have q0 : 57344 ≤ e.c := h
  exact (rLtK (rGeK (rAdd (rGeK (rLeK (rLeK (rLeK (rShrK (rAndK (rAddK (rShrK (rAddK (rAndK (rAddK (ibNil) (h := wr8 _ (by omega))) (h := aW6 (by omega) (by omega))) (h := wr8 _ (by omega))) (h := fd 4096)) (h := wr8 _ (by omega))) (h := aW6 (by omega) (by omega))) (h := fd 64)))))))))
theorem icg3_ok (o : OF e) (hk : e.i < e.n) (h : OK e 3) : ∀ r ∈ icg3, IcOk' (ivO e) r := by
  have hn := o.hn; have g0 := o.h0 e.i; have g1 := o.h1 e.i; have k0 := o.h0 (e.i + 1); have k1 := o.h1 (e.i + 1)
  have g0 : 0 ≤ e.c := g0; have g1 : e.c < 65536 := g1; have k0 : 0 ≤ e.d := k0; have k1 : e.d < 65536 := k1
  have q0 : 57344 ≤ e.c := h
  exact (rConv (rConv (rConv (rConv (icNil) (h := wr8 _ (by omega))) (h := wr8 _ (by omega))) (h := wr8 _ (by omega))) (h := wr32 (by omega) (by omega)))
end
section
variable {e : Oe}
noncomputable abbrev sr4 : List AV := [.int .u8 63]
theorem p4 (h : OK e 4) : ¬ isP e.f e.n e.i := fun p => by have h1 : e.c < 56320 := p.2.1; have h2 : 56320 ≤ e.c ∧ e.c < 57344 := h; omega
theorem b4 (h : OK e 4) : e.b = [63] := (b_one (p4 h)).trans (outC_s (by have h : 56320 ≤ e.c ∧ e.c < 57344 := h; omega))
theorem st4 (h : OK e 4) : outS e.f e.n e.i = 1 := s_one (p4 h)
theorem src4 (h : OK e 4) : Src e sr4 := by
  have hb := b4 h
  refine ⟨by rw [hb]; rfl, fun m hm => ?_⟩
  rw [hb]
  match m, hm with
  | 0, _ => exact ⟨_, rfl, rfl⟩
noncomputable abbrev ibo4 : List BRow := [(11, .oi 0, .oi 2, .bool true), (14, .oi 0, .int .i64 0, .bool true), (0, .oi 0, .int .i64 1, .oi 1), (5, .oi 10, .int .i32 64512, .oi 11), (9, .oi 11, .int .i32 55296, .bool false), (5, .oi 10, .int .i32 63488, .oi 12), (9, .oi 12, .int .i32 55296, .bool true)]
noncomputable abbrev ico4 : List (IntKind × AV × AV) := [(.i32, .oi 5, .oi 10)]
theorem ibo4_ok (o : OF e) (hk : e.i < e.n) (h : OK e 4) : ∀ r ∈ ibo4, IbOk (ivO e) r := by
  have hn := o.hn; have g0 := o.h0 e.i; have g1 := o.h1 e.i; have k0 := o.h0 (e.i + 1); have k1 := o.h1 (e.i + 1)
  have g0 : 0 ≤ e.c := g0; have g1 : e.c < 65536 := g1; have k0 : 0 ≤ e.d := k0; have k1 : e.d < 65536 := k1
  obtain ⟨q0, q1⟩ : 56320 ≤ e.c ∧ e.c < 57344 := h
  exact (rLtK (rGeK (rAdd (rAndK (rEq (rAndK (rEq (ibNil)) (h := aI11 (by omega) (by omega)))) (h := aI10 (by omega) (by omega))))))
theorem ico4_ok (o : OF e) (hk : e.i < e.n) (h : OK e 4) : ∀ r ∈ ico4, IcOk' (ivO e) r := by
  have hn := o.hn; have g0 := o.h0 e.i; have g1 := o.h1 e.i; have k0 := o.h0 (e.i + 1); have k1 := o.h1 (e.i + 1)
  have g0 : 0 ≤ e.c := g0; have g1 : e.c < 65536 := g1; have k0 : 0 ≤ e.d := k0; have k1 : e.d < 65536 := k1
  obtain ⟨q0, q1⟩ : 56320 ≤ e.c ∧ e.c < 57344 := h
  exact (rConv (icNil) (h := wri32 (by omega) (by omega)))
noncomputable abbrev ibg4 : List BRow := [(11, .oi 0, .oi 2, .bool true), (14, .oi 0, .int .i64 0, .bool true), (0, .oi 0, .int .i64 1, .oi 1), (14, .oi 13, .int .u32 55296, .bool true), (12, .oi 13, .int .u32 57343, .bool true), (11, .oi 13, .int .u32 56320, .bool false)]
noncomputable abbrev icg4 : List (IntKind × AV × AV) := [(.u32, .oi 5, .oi 13)]
theorem ibg4_ok (o : OF e) (hk : e.i < e.n) (h : OK e 4) : ∀ r ∈ ibg4, IbOk (ivO e) r := by
  have hn := o.hn; have g0 := o.h0 e.i; have g1 := o.h1 e.i; have k0 := o.h0 (e.i + 1); have k1 := o.h1 (e.i + 1)
  have g0 : 0 ≤ e.c := g0; have g1 : e.c < 65536 := g1; have k0 : 0 ≤ e.d := k0; have k1 : e.d < 65536 := k1
  obtain ⟨q0, q1⟩ : 56320 ≤ e.c ∧ e.c < 57344 := h
  exact (rLtK (rGeK (rAdd (rGeK (rLeK (rLtK (ibNil)))))))
theorem icg4_ok (o : OF e) (hk : e.i < e.n) (h : OK e 4) : ∀ r ∈ icg4, IcOk' (ivO e) r := by
  have hn := o.hn; have g0 := o.h0 e.i; have g1 := o.h1 e.i; have k0 := o.h0 (e.i + 1); have k1 := o.h1 (e.i + 1)
  have g0 : 0 ≤ e.c := g0; have g1 : e.c < 65536 := g1; have k0 : 0 ≤ e.d := k0; have k1 : e.d < 65536 := k1
  obtain ⟨q0, q1⟩ : 56320 ≤ e.c ∧ e.c < 57344 := h
  exact (rConv (icNil) (h := wr32 (by omega) (by omega)))
end
section
variable {e : Oe}
noncomputable abbrev sr5 : List AV := [.int .u8 63]
theorem p5 (h : OK e 5) : ¬ isP e.f e.n e.i := fun p => h.2.2 p.2.2.1
theorem b5 (h : OK e 5) : e.b = [63] := (b_one (p5 h)).trans (outC_s (by have h1 := h.1; have h2 := h.2.1; have h1 : 55296 ≤ e.c := h1; have h2 : e.c < 56320 := h2; omega))
theorem st5 (h : OK e 5) : outS e.f e.n e.i = 1 := s_one (p5 h)
theorem src5 (h : OK e 5) : Src e sr5 := by
  have hb := b5 h
  refine ⟨by rw [hb]; rfl, fun m hm => ?_⟩
  rw [hb]
  match m, hm with
  | 0, _ => exact ⟨_, rfl, rfl⟩
noncomputable abbrev ibo5 : List BRow := [(11, .oi 0, .oi 2, .bool true), (14, .oi 0, .int .i64 0, .bool true), (0, .oi 0, .int .i64 1, .oi 1), (5, .oi 10, .int .i32 64512, .oi 11), (9, .oi 11, .int .i32 55296, .bool true), (11, .oi 1, .oi 2, .bool false), (5, .oi 10, .int .i32 63488, .oi 12), (9, .oi 12, .int .i32 55296, .bool true)]
noncomputable abbrev ico5 : List (IntKind × AV × AV) := [(.i32, .oi 5, .oi 10)]
theorem ibo5_ok (o : OF e) (hk : e.i < e.n) (h : OK e 5) : ∀ r ∈ ibo5, IbOk (ivO e) r := by
  have hn := o.hn; have g0 := o.h0 e.i; have g1 := o.h1 e.i; have k0 := o.h0 (e.i + 1); have k1 := o.h1 (e.i + 1)
  have g0 : 0 ≤ e.c := g0; have g1 : e.c < 65536 := g1; have k0 : 0 ≤ e.d := k0; have k1 : e.d < 65536 := k1
  obtain ⟨q0, q1, q2⟩ : 55296 ≤ e.c ∧ e.c < 56320 ∧ ¬ e.i + 1 < e.n := h
  exact (rLtK (rGeK (rAdd (rAndK (rEq (rLtK (rAndK (rEq (ibNil)) (h := aI11 (by omega) (by omega))))) (h := aI10 (by omega) (by omega))))))
theorem ico5_ok (o : OF e) (hk : e.i < e.n) (h : OK e 5) : ∀ r ∈ ico5, IcOk' (ivO e) r := by
  have hn := o.hn; have g0 := o.h0 e.i; have g1 := o.h1 e.i; have k0 := o.h0 (e.i + 1); have k1 := o.h1 (e.i + 1)
  have g0 : 0 ≤ e.c := g0; have g1 : e.c < 65536 := g1; have k0 : 0 ≤ e.d := k0; have k1 : e.d < 65536 := k1
  obtain ⟨q0, q1, q2⟩ : 55296 ≤ e.c ∧ e.c < 56320 ∧ ¬ e.i + 1 < e.n := h
  exact (rConv (icNil) (h := wri32 (by omega) (by omega)))
noncomputable abbrev ibg5 : List BRow := [(11, .oi 0, .oi 2, .bool true), (14, .oi 0, .int .i64 0, .bool true), (0, .oi 0, .int .i64 1, .oi 1), (14, .oi 13, .int .u32 55296, .bool true), (12, .oi 13, .int .u32 57343, .bool true), (11, .oi 13, .int .u32 56320, .bool true), (11, .oi 1, .oi 2, .bool false)]
noncomputable abbrev icg5 : List (IntKind × AV × AV) := [(.u32, .oi 5, .oi 13)]
theorem ibg5_ok (o : OF e) (hk : e.i < e.n) (h : OK e 5) : ∀ r ∈ ibg5, IbOk (ivO e) r := by
  have hn := o.hn; have g0 := o.h0 e.i; have g1 := o.h1 e.i; have k0 := o.h0 (e.i + 1); have k1 := o.h1 (e.i + 1)
  have g0 : 0 ≤ e.c := g0; have g1 : e.c < 65536 := g1; have k0 : 0 ≤ e.d := k0; have k1 : e.d < 65536 := k1
  obtain ⟨q0, q1, q2⟩ : 55296 ≤ e.c ∧ e.c < 56320 ∧ ¬ e.i + 1 < e.n := h
  exact (rLtK (rGeK (rAdd (rGeK (rLeK (rLtK (rLtK (ibNil))))))))
theorem icg5_ok (o : OF e) (hk : e.i < e.n) (h : OK e 5) : ∀ r ∈ icg5, IcOk' (ivO e) r := by
  have hn := o.hn; have g0 := o.h0 e.i; have g1 := o.h1 e.i; have k0 := o.h0 (e.i + 1); have k1 := o.h1 (e.i + 1)
  have g0 : 0 ≤ e.c := g0; have g1 : e.c < 65536 := g1; have k0 : 0 ≤ e.d := k0; have k1 : e.d < 65536 := k1
  obtain ⟨q0, q1, q2⟩ : 55296 ≤ e.c ∧ e.c < 56320 ∧ ¬ e.i + 1 < e.n := h
  exact (rConv (icNil) (h := wr32 (by omega) (by omega)))
end
section
variable {e : Oe}
noncomputable abbrev sr6 : List AV := [.int .u8 63]
theorem p6 (h : OK e 6) : ¬ isP e.f e.n e.i := fun p => by have h1 : 56320 ≤ e.d := p.2.2.2.1; have h2 : e.d < 56320 := h.2.2.2; omega
theorem b6 (h : OK e 6) : e.b = [63] := (b_one (p6 h)).trans (outC_s (by have h1 := h.1; have h2 := h.2.1; have h1 : 55296 ≤ e.c := h1; have h2 : e.c < 56320 := h2; omega))
theorem st6 (h : OK e 6) : outS e.f e.n e.i = 1 := s_one (p6 h)
theorem src6 (h : OK e 6) : Src e sr6 := by
  have hb := b6 h
  refine ⟨by rw [hb]; rfl, fun m hm => ?_⟩
  rw [hb]
  match m, hm with
  | 0, _ => exact ⟨_, rfl, rfl⟩
noncomputable abbrev ibo6 : List BRow := [(11, .oi 0, .oi 2, .bool true), (14, .oi 0, .int .i64 0, .bool true), (0, .oi 0, .int .i64 1, .oi 1), (5, .oi 10, .int .i32 64512, .oi 11), (9, .oi 11, .int .i32 55296, .bool true), (11, .oi 1, .oi 2, .bool true), (14, .oi 1, .int .i64 0, .bool true), (5, .oi 6, .int .u16 64512, .oi 25), (9, .oi 25, .int .u16 56320, .bool false), (5, .oi 10, .int .i32 63488, .oi 12), (9, .oi 12, .int .i32 55296, .bool true)]
noncomputable abbrev ico6 : List (IntKind × AV × AV) := [(.i32, .oi 5, .oi 10)]
theorem ibo6_ok (o : OF e) (hk : e.i < e.n) (h : OK e 6) : ∀ r ∈ ibo6, IbOk (ivO e) r := by
  have hn := o.hn; have g0 := o.h0 e.i; have g1 := o.h1 e.i; have k0 := o.h0 (e.i + 1); have k1 := o.h1 (e.i + 1)
  have g0 : 0 ≤ e.c := g0; have g1 : e.c < 65536 := g1; have k0 : 0 ≤ e.d := k0; have k1 : e.d < 65536 := k1
  obtain ⟨q0, q1, q2, q3⟩ : 55296 ≤ e.c ∧ e.c < 56320 ∧ e.i + 1 < e.n ∧ e.d < 56320 := h
  exact (rLtK (rGeK (rAdd (rAndK (rEq (rLtK (rGeK (rAndK (rEq (rAndK (rEq (ibNil)) (h := aI11 (by omega) (by omega)))) (h := aU10 (by omega) (by omega)))))) (h := aI10 (by omega) (by omega))))))
theorem ico6_ok (o : OF e) (hk : e.i < e.n) (h : OK e 6) : ∀ r ∈ ico6, IcOk' (ivO e) r := by
  have hn := o.hn; have g0 := o.h0 e.i; have g1 := o.h1 e.i; have k0 := o.h0 (e.i + 1); have k1 := o.h1 (e.i + 1)
  have g0 : 0 ≤ e.c := g0; have g1 : e.c < 65536 := g1; have k0 : 0 ≤ e.d := k0; have k1 : e.d < 65536 := k1
  obtain ⟨q0, q1, q2, q3⟩ : 55296 ≤ e.c ∧ e.c < 56320 ∧ e.i + 1 < e.n ∧ e.d < 56320 := h
  exact (rConv (icNil) (h := wri32 (by omega) (by omega)))
noncomputable abbrev ibg6 : List BRow := [(11, .oi 0, .oi 2, .bool true), (14, .oi 0, .int .i64 0, .bool true), (0, .oi 0, .int .i64 1, .oi 1), (14, .oi 13, .int .u32 55296, .bool true), (12, .oi 13, .int .u32 57343, .bool true), (11, .oi 13, .int .u32 56320, .bool true), (11, .oi 1, .oi 2, .bool true), (14, .oi 1, .int .i64 0, .bool true), (14, .oi 6, .int .u16 56320, .bool false)]
noncomputable abbrev icg6 : List (IntKind × AV × AV) := [(.u32, .oi 5, .oi 13)]
theorem ibg6_ok (o : OF e) (hk : e.i < e.n) (h : OK e 6) : ∀ r ∈ ibg6, IbOk (ivO e) r := by
  have hn := o.hn; have g0 := o.h0 e.i; have g1 := o.h1 e.i; have k0 := o.h0 (e.i + 1); have k1 := o.h1 (e.i + 1)
  have g0 : 0 ≤ e.c := g0; have g1 : e.c < 65536 := g1; have k0 : 0 ≤ e.d := k0; have k1 : e.d < 65536 := k1
  obtain ⟨q0, q1, q2, q3⟩ : 55296 ≤ e.c ∧ e.c < 56320 ∧ e.i + 1 < e.n ∧ e.d < 56320 := h
  exact (rLtK (rGeK (rAdd (rGeK (rLeK (rLtK (rLtK (rGeK (rGeK (ibNil))))))))))
theorem icg6_ok (o : OF e) (hk : e.i < e.n) (h : OK e 6) : ∀ r ∈ icg6, IcOk' (ivO e) r := by
  have hn := o.hn; have g0 := o.h0 e.i; have g1 := o.h1 e.i; have k0 := o.h0 (e.i + 1); have k1 := o.h1 (e.i + 1)
  have g0 : 0 ≤ e.c := g0; have g1 : e.c < 65536 := g1; have k0 : 0 ≤ e.d := k0; have k1 : e.d < 65536 := k1
  obtain ⟨q0, q1, q2, q3⟩ : 55296 ≤ e.c ∧ e.c < 56320 ∧ e.i + 1 < e.n ∧ e.d < 56320 := h
  exact (rConv (icNil) (h := wr32 (by omega) (by omega)))
end
section
variable {e : Oe}
noncomputable abbrev sr7 : List AV := [.oi 35, .oi 39, .oi 43, .oi 46]
theorem p7 (h : OK e 7) : isP e.f e.n e.i := ⟨h.1, h.2.1, h.2.2.1, h.2.2.2.1, h.2.2.2.2⟩
theorem b7 (h : OK e 7) : e.b = outP e.x := if_pos (p7 h)
theorem st7 (h : OK e 7) : outS e.f e.n e.i = 2 := if_pos (p7 h)
theorem src7 (h : OK e 7) : Src e sr7 := by
  have hb := b7 h
  refine ⟨by rw [hb]; rfl, fun m hm => ?_⟩
  rw [hb]
  match m, hm with
  | 0, _ => exact ⟨_, rfl, rfl⟩
  | 1, _ => exact ⟨_, rfl, rfl⟩
  | 2, _ => exact ⟨_, rfl, rfl⟩
  | 3, _ => exact ⟨_, rfl, rfl⟩
noncomputable abbrev ibo7 : List BRow := [(11, .oi 0, .oi 2, .bool true), (14, .oi 0, .int .i64 0, .bool true), (0, .oi 0, .int .i64 1, .oi 1), (5, .oi 10, .int .i32 64512, .oi 11), (9, .oi 11, .int .i32 55296, .bool true), (11, .oi 1, .oi 2, .bool true), (14, .oi 1, .int .i64 0, .bool true), (5, .oi 6, .int .u16 64512, .oi 25), (9, .oi 25, .int .u16 56320, .bool true), (0, .oi 1, .int .i64 1, .oi 47), (5, .oi 10, .int .i32 1023, .oi 26), (15, .oi 26, .int .u64 10, .oi 27), (0, .int .i32 65536, .oi 27, .oi 28), (5, .oi 6, .int .u16 1023, .oi 29), (0, .oi 28, .oi 30, .oi 31), (12, .oi 32, .int .u32 127, .bool false), (12, .oi 32, .int .u32 2047, .bool false), (11, .oi 32, .int .u32 55296, .bool false), (11, .int .u32 57343, .oi 32, .bool true), (12, .oi 32, .int .u32 65535, .bool false), (13, .oi 32, .int .u32 65535, .bool true), (12, .oi 32, .int .u32 1114111, .bool true), (16, .oi 31, .int .u64 18, .oi 33), (6, .int .u8 240, .oi 34, .oi 35), (16, .oi 31, .int .u64 12, .oi 36), (5, .oi 37, .int .u8 63, .oi 38), (6, .int .u8 128, .oi 38, .oi 39), (16, .oi 31, .int .u64 6, .oi 40), (5, .oi 41, .int .u8 63, .oi 42), (6, .int .u8 128, .oi 42, .oi 43), (5, .oi 44, .int .u8 63, .oi 45), (6, .int .u8 128, .oi 45, .oi 46)]
noncomputable abbrev ico7 : List (IntKind × AV × AV) := [(.i32, .oi 5, .oi 10), (.i32, .oi 29, .oi 30), (.u32, .oi 31, .oi 32), (.u8, .oi 33, .oi 34), (.u8, .oi 36, .oi 37), (.u8, .oi 40, .oi 41), (.u8, .oi 31, .oi 44)]
theorem ibo7_ok (o : OF e) (hk : e.i < e.n) (h : OK e 7) : ∀ r ∈ ibo7, IbOk (ivO e) r := by
  have hn := o.hn; have g0 := o.h0 e.i; have g1 := o.h1 e.i; have k0 := o.h0 (e.i + 1); have k1 := o.h1 (e.i + 1)
  have g0 : 0 ≤ e.c := g0; have g1 : e.c < 65536 := g1; have k0 : 0 ≤ e.d := k0; have k1 : e.d < 65536 := k1
  obtain ⟨q0, q1, q2, q3, q4⟩ : 55296 ≤ e.c ∧ e.c < 56320 ∧ e.i + 1 < e.n ∧ 56320 ≤ e.d ∧ e.d < 57344 := h
  have hx : e.x = 65536 + e.c % 1024 * 1024 + e.d % 1024 := rfl
  exact (rLtK (rGeK (rAdd (rAndK (rEq (rLtK (rGeK (rAndK (rEq (rAdd (rAndK (rShlK (rAddK (rAndK (rAddK (rLeK (rLeK (rLtK (rLtK (rLeK (rGtK (rLeK (rShrK (rOrK (rShrK (rAndK (rOrK (rShrK (rAndK (rOrK (rAndK (rOrK (ibNil) (h := or8 (t := 64) (by omega) (by omega) (by omega) or128)) (h := aB6 (by omega) (by omega) (by omega))) (h := or8 (t := 64) (by omega) (by omega) (by omega) or128)) (h := aB6 (by omega) (by omega) (by omega))) (h := fd 64)) (h := or8 (t := 64) (by omega) (by omega) (by omega) or128)) (h := aB6 (by omega) (by omega) (by omega))) (h := fd 4096)) (h := or8 (t := 8) (by omega) (by omega) (by omega) or240)) (h := fd 262144))))))))) (h := wri32 (by omega) (by omega))) (h := aUl (by omega) (by omega))) (h := wri32 (by omega) (by omega))) (h := wri32 (n := e.c % 1024 * 1024) (by omega) (by omega))) (h := aIl (by omega) (by omega))))) (h := aU10 (by omega) (by omega)))))) (h := aI10 (by omega) (by omega))))))
theorem ico7_ok (o : OF e) (hk : e.i < e.n) (h : OK e 7) : ∀ r ∈ ico7, IcOk' (ivO e) r := by
  have hn := o.hn; have g0 := o.h0 e.i; have g1 := o.h1 e.i; have k0 := o.h0 (e.i + 1); have k1 := o.h1 (e.i + 1)
  have g0 : 0 ≤ e.c := g0; have g1 : e.c < 65536 := g1; have k0 : 0 ≤ e.d := k0; have k1 : e.d < 65536 := k1
  obtain ⟨q0, q1, q2, q3, q4⟩ : 55296 ≤ e.c ∧ e.c < 56320 ∧ e.i + 1 < e.n ∧ 56320 ≤ e.d ∧ e.d < 57344 := h
  have hx : e.x = 65536 + e.c % 1024 * 1024 + e.d % 1024 := rfl
  exact (rConv (rConv (rConv (rConv (rConv (rConv (rConv (icNil) (h := wr8 _ rfl)) (h := wr8 _ rfl)) (h := wr8 _ rfl)) (h := wr8 _ (by omega))) (h := wr32 (by omega) (by omega))) (h := wri32 (by omega) (by omega))) (h := wri32 (by omega) (by omega)))
noncomputable abbrev ibg7 : List BRow := [(11, .oi 0, .oi 2, .bool true), (14, .oi 0, .int .i64 0, .bool true), (0, .oi 0, .int .i64 1, .oi 1), (14, .oi 13, .int .u32 55296, .bool true), (12, .oi 13, .int .u32 57343, .bool true), (11, .oi 13, .int .u32 56320, .bool true), (11, .oi 1, .oi 2, .bool true), (14, .oi 1, .int .i64 0, .bool true), (14, .oi 6, .int .u16 56320, .bool true), (12, .oi 6, .int .u16 57343, .bool true), (0, .oi 1, .int .i64 1, .oi 47), (1, .oi 13, .int .u32 55296, .oi 57), (15, .oi 57, .int .u64 10, .oi 58), (0, .int .u32 65536, .oi 58, .oi 59), (0, .oi 59, .oi 56, .oi 60), (1, .oi 60, .int .u32 56320, .oi 32), (16, .oi 32, .int .u64 18, .oi 62), (0, .int .u8 240, .oi 34, .oi 35), (16, .oi 32, .int .u64 12, .oi 63), (5, .oi 63, .int .u32 63, .oi 64), (0, .int .u8 128, .oi 38, .oi 39), (16, .oi 32, .int .u64 6, .oi 65), (5, .oi 65, .int .u32 63, .oi 66), (0, .int .u8 128, .oi 42, .oi 43), (5, .oi 32, .int .u32 63, .oi 67), (0, .int .u8 128, .oi 45, .oi 46)]
noncomputable abbrev icg7 : List (IntKind × AV × AV) := [(.u32, .oi 5, .oi 13), (.u32, .oi 6, .oi 56), (.u8, .oi 62, .oi 34), (.u8, .oi 64, .oi 38), (.u8, .oi 66, .oi 42), (.u8, .oi 67, .oi 45)]
theorem ibg7_ok (o : OF e) (hk : e.i < e.n) (h : OK e 7) : ∀ r ∈ ibg7, IbOk (ivO e) r := by
  have hn := o.hn; have g0 := o.h0 e.i; have g1 := o.h1 e.i; have k0 := o.h0 (e.i + 1); have k1 := o.h1 (e.i + 1)
  have g0 : 0 ≤ e.c := g0; have g1 : e.c < 65536 := g1; have k0 : 0 ≤ e.d := k0; have k1 : e.d < 65536 := k1
  obtain ⟨q0, q1, q2, q3, q4⟩ : 55296 ≤ e.c ∧ e.c < 56320 ∧ e.i + 1 < e.n ∧ 56320 ≤ e.d ∧ e.d < 57344 := h
  have hx : e.x = 65536 + e.c % 1024 * 1024 + e.d % 1024 := rfl
  exact (rLtK (rGeK (rAdd (rGeK (rLeK (rLtK (rLtK (rGeK (rGeK (rLeK (rAdd (rSubK (rShlK (rAddK (rAddK (rSubK (rShrK (rAddK (rShrK (rAndK (rAddK (rShrK (rAndK (rAddK (rAndK (rAddK (ibNil) (h := wr8 _ (by omega))) (h := aW6 (by omega) (by omega))) (h := wr8 _ (by omega))) (h := aW6 (by omega) (by omega))) (h := fd 64)) (h := wr8 _ (by omega))) (h := aW6 (by omega) (by omega))) (h := fd 4096)) (h := wr8 _ (by omega))) (h := fd 262144)) (h := (wr32 (by omega) (by omega)).trans (by omega))) (h := wr32 (by omega) (by omega))) (h := wr32 (by omega) (by omega))) (h := wr32 (n := (e.c - 55296) * 1024) (by omega) (by omega))) (h := wr32 (by omega) (by omega))))))))))))))
theorem icg7_ok (o : OF e) (hk : e.i < e.n) (h : OK e 7) : ∀ r ∈ icg7, IcOk' (ivO e) r := by
  have hn := o.hn; have g0 := o.h0 e.i; have g1 := o.h1 e.i; have k0 := o.h0 (e.i + 1); have k1 := o.h1 (e.i + 1)
  have g0 : 0 ≤ e.c := g0; have g1 : e.c < 65536 := g1; have k0 : 0 ≤ e.d := k0; have k1 : e.d < 65536 := k1
  obtain ⟨q0, q1, q2, q3, q4⟩ : 55296 ≤ e.c ∧ e.c < 56320 ∧ e.i + 1 < e.n ∧ 56320 ≤ e.d ∧ e.d < 57344 := h
  have hx : e.x = 65536 + e.c % 1024 * 1024 + e.d % 1024 := rfl
  exact (rConv (rConv (rConv (rConv (rConv (rConv (icNil) (h := wr8 _ (by omega))) (h := wr8 _ (by omega))) (h := wr8 _ (by omega))) (h := wr8 _ (by omega))) (h := wr32 (by omega) (by omega))) (h := wr32 (by omega) (by omega)))
end
section
variable {e : Oe}
noncomputable abbrev sr8 : List AV := [.int .u8 63]
theorem p8 (h : OK e 8) : ¬ isP e.f e.n e.i := fun p => by have h1 : e.d < 57344 := p.2.2.2.2; have h2 : 57344 ≤ e.d := h.2.2.2; omega
theorem b8 (h : OK e 8) : e.b = [63] := (b_one (p8 h)).trans (outC_s (by have h1 := h.1; have h2 := h.2.1; have h1 : 55296 ≤ e.c := h1; have h2 : e.c < 56320 := h2; omega))
theorem st8 (h : OK e 8) : outS e.f e.n e.i = 1 := s_one (p8 h)
theorem src8 (h : OK e 8) : Src e sr8 := by
  have hb := b8 h
  refine ⟨by rw [hb]; rfl, fun m hm => ?_⟩
  rw [hb]
  match m, hm with
  | 0, _ => exact ⟨_, rfl, rfl⟩
noncomputable abbrev ibo8 : List BRow := [(11, .oi 0, .oi 2, .bool true), (14, .oi 0, .int .i64 0, .bool true), (0, .oi 0, .int .i64 1, .oi 1), (5, .oi 10, .int .i32 64512, .oi 11), (9, .oi 11, .int .i32 55296, .bool true), (11, .oi 1, .oi 2, .bool true), (14, .oi 1, .int .i64 0, .bool true), (5, .oi 6, .int .u16 64512, .oi 25), (9, .oi 25, .int .u16 56320, .bool false), (5, .oi 10, .int .i32 63488, .oi 12), (9, .oi 12, .int .i32 55296, .bool true)]
noncomputable abbrev ico8 : List (IntKind × AV × AV) := [(.i32, .oi 5, .oi 10)]
theorem ibo8_ok (o : OF e) (hk : e.i < e.n) (h : OK e 8) : ∀ r ∈ ibo8, IbOk (ivO e) r := by
  have hn := o.hn; have g0 := o.h0 e.i; have g1 := o.h1 e.i; have k0 := o.h0 (e.i + 1); have k1 := o.h1 (e.i + 1)
  have g0 : 0 ≤ e.c := g0; have g1 : e.c < 65536 := g1; have k0 : 0 ≤ e.d := k0; have k1 : e.d < 65536 := k1
  obtain ⟨q0, q1, q2, q3⟩ : 55296 ≤ e.c ∧ e.c < 56320 ∧ e.i + 1 < e.n ∧ 57344 ≤ e.d := h
  exact (rLtK (rGeK (rAdd (rAndK (rEq (rLtK (rGeK (rAndK (rEq (rAndK (rEq (ibNil)) (h := aI11 (by omega) (by omega)))) (h := aU10 (by omega) (by omega)))))) (h := aI10 (by omega) (by omega))))))
theorem ico8_ok (o : OF e) (hk : e.i < e.n) (h : OK e 8) : ∀ r ∈ ico8, IcOk' (ivO e) r := by
  have hn := o.hn; have g0 := o.h0 e.i; have g1 := o.h1 e.i; have k0 := o.h0 (e.i + 1); have k1 := o.h1 (e.i + 1)
  have g0 : 0 ≤ e.c := g0; have g1 : e.c < 65536 := g1; have k0 : 0 ≤ e.d := k0; have k1 : e.d < 65536 := k1
  obtain ⟨q0, q1, q2, q3⟩ : 55296 ≤ e.c ∧ e.c < 56320 ∧ e.i + 1 < e.n ∧ 57344 ≤ e.d := h
  exact (rConv (icNil) (h := wri32 (by omega) (by omega)))
noncomputable abbrev ibg8 : List BRow := [(11, .oi 0, .oi 2, .bool true), (14, .oi 0, .int .i64 0, .bool true), (0, .oi 0, .int .i64 1, .oi 1), (14, .oi 13, .int .u32 55296, .bool true), (12, .oi 13, .int .u32 57343, .bool true), (11, .oi 13, .int .u32 56320, .bool true), (11, .oi 1, .oi 2, .bool true), (14, .oi 1, .int .i64 0, .bool true), (14, .oi 6, .int .u16 56320, .bool true), (12, .oi 6, .int .u16 57343, .bool false)]
noncomputable abbrev icg8 : List (IntKind × AV × AV) := [(.u32, .oi 5, .oi 13)]
theorem ibg8_ok (o : OF e) (hk : e.i < e.n) (h : OK e 8) : ∀ r ∈ ibg8, IbOk (ivO e) r := by
  have hn := o.hn; have g0 := o.h0 e.i; have g1 := o.h1 e.i; have k0 := o.h0 (e.i + 1); have k1 := o.h1 (e.i + 1)
  have g0 : 0 ≤ e.c := g0; have g1 : e.c < 65536 := g1; have k0 : 0 ≤ e.d := k0; have k1 : e.d < 65536 := k1
  obtain ⟨q0, q1, q2, q3⟩ : 55296 ≤ e.c ∧ e.c < 56320 ∧ e.i + 1 < e.n ∧ 57344 ≤ e.d := h
  exact (rLtK (rGeK (rAdd (rGeK (rLeK (rLtK (rLtK (rGeK (rGeK (rLeK (ibNil)))))))))))
theorem icg8_ok (o : OF e) (hk : e.i < e.n) (h : OK e 8) : ∀ r ∈ icg8, IcOk' (ivO e) r := by
  have hn := o.hn; have g0 := o.h0 e.i; have g1 := o.h1 e.i; have k0 := o.h0 (e.i + 1); have k1 := o.h1 (e.i + 1)
  have g0 : 0 ≤ e.c := g0; have g1 : e.c < 65536 := g1; have k0 : 0 ≤ e.d := k0; have k1 : e.d < 65536 := k1
  obtain ⟨q0, q1, q2, q3⟩ : 55296 ≤ e.c ∧ e.c < 56320 ∧ e.i + 1 < e.n ∧ 57344 ≤ e.d := h
  exact (rConv (icNil) (h := wr32 (by omega) (by omega)))
end
end Go.Proofs.YtkkaifeiopjjdaaGreatDoor.np
