/-
  The laws of profile: Top's contract.
-/
import Derived.Test.YtnenjcehicaobaaPGB
set_option linter.unusedVariables false
set_option linter.unusedSimpArgs false
set_option linter.unusedSectionVars false
set_option maxRecDepth 1000000
set_option maxHeartbeats 0
namespace Go.Proofs.Ytnenjcehicaobaa.pf
open Go.X Go.RowKit Go.Proofs
theorem Up.gl {T : Tab} {B B' : Kp} {w0 w1 : World} (u : Up B w0 B' w1) (g : @Gl T B w0) : @Gl T B' w1 := by
  refine ⟨fun x o a hg => ?_, fun i m a hg => ?_⟩
  · obtain ⟨h1, v, h2, h3, h4⟩ := g.1 x o a hg
    exact ⟨u.k _ h1, v, by rw [World.cell?_of_block (w := w0) (a := ⟨x, o, none⟩) (u.bl x h1)]; exact h2, h3, fun e => by rw [World.cell?_of_block (w := w0) (a := ⟨x, o + 1, none⟩) (u.bl x h1)]; exact h4 e⟩
  · obtain ⟨h1, v, h2, h3⟩ := g.2 i m a hg
    exact ⟨u.k _ h1, v, by rw [World.cell?_of_block (w := w0) (a := ⟨(T.fb i).1, (T.fb i).2 + m, none⟩) (u.bl _ h1)]; exact h2, h3⟩
noncomputable def tI0 : In := ⟨7, [.map 18001, .oi 40], 19000, [(18001, .omap 0)], .nils, 20010, bsOf bsTm⟩
noncomputable def tI1 : In := ⟨7, [.map 18001, .oi 40], 19000, [(18001, .omap 0)], .ov 20003 30 2, 20010, bsOf bsTo⟩
noncomputable def tI0C : In := ⟨7, [.map 18001, .int .i64 100], 19000, [(18001, .omap 0)], .nils, 20010, bsOf bsTm⟩
noncomputable def tI1C : In := ⟨7, [.map 18001, .int .i64 100], 19000, [(18001, .omap 0)], .ov 20003 30 2, 20010, bsOf bsTo⟩
/-- what the caller's names stand for -/
structure TFC (τ : Tab) (p : Pm) (F : List Row) : Prop where
  m : τ.mm 0 = p.mm 0
  o : τ.iv 30 = (.i64, (outN p F : Int))
  v : τ.vv 30 = celV (2 * outN p F) co
  vk : τ.vk 30 = 2 * outN p F
  s : ∀ j, j < outN p F → τ.str (2 * j + 1) = (p.R j).1
  c : ∀ j, j < outN p F → τ.iv (1002 + 3 * j) = (.i64, (p.R j).2)
structure TF (τ : Tab) (p : Pm) (F : List Row) : Prop extends TFC τ p F where
  k : τ.iv 40 = (.i64, p.K)
theorem rest_gi {M : Nat} {ad : Nat → Nat × Nat} {ro : Nat → Row} {m : Nat} (h : m < M) : rest (gi M ad ro) m = [ro m] := by
  unfold rest
  have e : (gi M ad ro).len m = 1 := if_pos h
  rw [e]
  rfl
theorem flat_gi {M : Nat} {ad : Nat → Nat × Nat} {ro : Nat → Row} : ∀ (l : List Nat), (∀ m ∈ l, m < M) → l.flatMap (rest (gi M ad ro)) = l.map ro
  | [], _ => rfl
  | m :: l, h => by
    rw [List.flatMap_cons, rest_gi (h m List.mem_cons_self), flat_gi l fun x hx => h x (List.mem_cons_of_mem _ hx)]
    rfl
section
variable {p : Pm} {B : Kp} {w0 : World} {μ : M} {a : Act} {w : World} {F : List Row} {D : List En} {ad : Nat → Nat × Nat} {ro : Nat → Row} {τ : Tab}
theorem gl0 {T : Tab} {p : Pm} {B : Kp} {w : World} (h : p.G = gi 0 ad ro) : @Gl T B w → @Gl (T0 p) B w := fun _ => gw_gl (by
  rw [h]
  intro e he
  have := gi_len.1 he
  omega)
theorem vpTo {T T' : Tab} {C : Cv} {x n : Nat} {l : VP} (k : VpOk T T' C l) (hv : T.vv 30 = celV (2 * n) co) (hv' : T'.vv 30 = celV (2 * n) co) (hk : T.vk 30 = 2 * n) (hk' : T'.vk 30 = 2 * n) (he : ∀ j, j < n → T.str (2 * j + 1) = T'.str (2 * j + 1) ∧ T.iv (1002 + 3 * j) = T'.iv (1002 + 3 * j)) : VpOk T T' C ((x, .vec 30, 30) :: l) := vpOut (i := 30) (n := n) k hv hv' hk hk' he
theorem tEnd (h : TIn p F) (hoo : p.o = outN p F) (hf : TFC τ p F) (hb : Base B μ 19000) (hg : @Gl τ B w0) (hd : Dr (p.mm 0).1 D ro) (hn : ∀ e ∈ (p.mm 0).1, e.2.2 ∈ D.map born) (hD : D.length ≤ (p.mm 0).1.length) (s : STe p D ad ro B w0 μ a w) :
    (restn 3 tC).wp Try.prog (fun x a' w' => x = .ret ∧ ((outN p F = 0 ∧ St τ B w0 μ ntT (frOf [(4, .nils)]) (hOf 20010 bsTm) a' w') ∨ (0 < outN p F ∧ St τ B w0 μ ntT (frOf [(4, .ov 20003 30 2)]) (hOf 20010 bsTo) a' w'))) a w := by
  have hpe : D.Perm (p.mm 0).1 := hd.all h.nd hn
  have hF : F.Perm (D.map rowE) := h.pm.trans (hpe.map rowE).symm
  have hln := h.ln
  rcases s with ⟨h0, s⟩ | ⟨h0, s⟩
  · have hz : outN p F = 0 := by
      have := hF.length_eq
      rw [List.length_map, h0] at this
      unfold outN; omega
    refine wp_mono (runTo_sound (T := (RCn (p := atS p (sD p D) D.length ad ro) _ _ rfl rfl).T) (T' := τ) mixed hNo (C := CTz [] [(.map 0, 0)]) (ex := .ret) hb (by decide) (rl := []) rfl (by kernel_rfl) (ipM ipNil hf.m) vpNil (fun _ => hg) (gTz0 _ _ _ _) (St.same (Rz.same _) s)) ?_
    rintro x a' w' ⟨rfl, s'⟩
    exact ⟨rfl, .inl ⟨hz, s'⟩⟩
  · have hm : MIn (atS p (sD p D) D.length ad ro) F := by
      refine ⟨gi_ok (by omega), (by show D.length < 999999; omega), fun m hm => ?_, h.sf, ?_, ⟨h.f.F1, h.f.R⟩⟩
      · show (rest (gi D.length ad ro) m).Pairwise Lt
        rw [rest_gi (show m < D.length from hm)]
        exact List.pairwise_singleton _ _
      · have e : qR (gi D.length ad ro) (fun m => m) D.length = D.map rowE := by
          unfold qR qL
          rw [flat_gi _ (fun m hm => by
            obtain ⟨k, hk, rfl⟩ := List.mem_map.1 hm
            exact List.mem_range.1 hk), List.map_map, ← hd.r]
          rfl
        show F.Perm (qR (gi D.length ad ro) (fun m => m) D.length)
        rw [e]; exact hF
    have hoq : (atS p (sD p D) D.length ad ro).o = outN (atS p (sD p D) D.length ad ro) F := hoo
    by_cases hz : outN p F = 0
    · refine wp_mono (runTo_sound (T := T0 (atS p (sD p D) D.length ad ro)) (T' := τ) mixed (inH (moI0_ok hm hoq hz) moLim) (C := CTz [] [(.map 0, 0)]) (ex := .ret) hb (by decide) (rl := []) rfl (by kernel_rfl) (ipM ipNil hf.m) vpNil (fun _ => hg) (gTz1 _) s) ?_
      rintro x a' w' ⟨rfl, s'⟩
      exact ⟨rfl, .inl ⟨hz, s'⟩⟩
    · refine wp_mono (runTo_sound (T := T0 (atS p (sD p D) D.length ad ro)) (T' := τ) mixed (inH (moI1_ok hm hoq (Nat.pos_of_ne_zero hz)) moLim) (C := CTz [(20003, 20003)] [(.oi 30, 30), (.map 0, 0)]) (ex := .ret) hb (by decide) (rl := [(20003, 20003)]) rfl (by kernel_rfl) (ipE (q := (.i64, (outN p F : Int))) (ipM ipNil hf.m) (by show ((IntKind.i64, (p.o : Int)) : IntKind × Int) = _; rw [hoo]) hf.o) (vpTo (n := outN p F) vpNil (by show celV (2 * p.o) co = _; rw [hoo]) hf.v (by show 2 * p.o = _; rw [hoo]) hf.vk (fun j hj => ⟨by rw [hf.s j hj]; exact str_out _ j, by rw [hf.c j hj]; exact iv_out _ j⟩)) (fun _ => hg) (gTz2 _) s) ?_
      rintro x a' w' ⟨rfl, s'⟩
      exact ⟨rfl, .inr ⟨Nat.pos_of_ne_zero hz, s'⟩⟩
theorem tRest (h : TIn p F) (hoo : p.o = outN p F) (hf : TFC τ p F) (hb : Base B μ 19000) (hg : @Gl τ B w0) (ups : Up B w0 B w0) {ad0 : Nat → Nat × Nat} {ro0 : Nat → Row} (s1 : St (T0 (atS p (sD p []) 0 ad0 ro0)) B w0 μ ntT (frOf fsT0) (hOf 20000 bsTm) a w) :
    (restn 2 tC).wp Try.prog (fun x a' w' => x = .ret ∧ ((outN p F = 0 ∧ St τ B w0 μ ntT (frOf [(4, .nils)]) (hOf 20010 bsTm) a' w') ∨ (0 < outN p F ∧ St τ B w0 μ ntT (frOf [(4, .ov 20003 30 2)]) (hOf 20010 bsTo) a' w'))) a w := by
  rw [t2_eq, t2_in]
  refine wp_seq (wp_seq (wp_mono (runTo_sound (T := (Mr (p := atS p (sD p []) 0 ad0 ro0) (by exact rfl)).T (R0 _)) (T' := T0 (atS p (sD p []) 0 ad0 ro0)) mixed hNo (C := CT [(19003, 20000)] iT) (ex := .normal) hb (by decide) (rl := [(19003, 20000)]) rfl (by kernel_rfl) (iT_ok (x := p.K) (by exact rfl) (by exact rfl) (by exact rfl) (by exact rfl)) vpNil (fun g => sameB _ (Mw.same _ _) (by exact rfl) g) (gT1 _) (St.same (Mw.same _ _) s1)) ?_))
  rintro x a2 w2 ⟨rfl, s2⟩
  show (Code.block 0 (.loop t2L)).wp _ _ _ _
  refine wp_block (wp_mono (wp_loop_rounds (Q := fun x a w => x = .exit 0 ∧ ∃ D ad ro B' w1, Up B w0 B' w1 ∧ Dr (p.mm 0).1 D ro ∧ (∀ e ∈ (p.mm 0).1, e.2.2 ∈ D.map born) ∧ D.length ≤ (p.mm 0).1.length ∧ STe p D ad ro B' w1 μ a w) ((p.mm 0).1.length + 1)
    (tRounds h hb (p.mm 0).1.length B w0 [] ad0 ro0 a2 w2 (left_le _) (by have := left_le (p.mm 0).1; show 0 + _ ≤ _; omega) ups ⟨fun e he => (by cases he), List.nodup_nil, rfl⟩ (.inl ⟨rfl, s2⟩))) ?_)
  rintro x a3 w3 ⟨rfl, D, ad, ro, B', w1, u, hd, hn, hD, s3⟩
  show (restn 3 tC).wp _ _ _ _
  refine wp_mono (tEnd h hoo hf (u.base hb) (u.gl hg) hd hn hD s3) ?_
  rintro x a4 w4 ⟨rfl, ⟨hz, s4⟩ | ⟨hz, s4⟩⟩
  · exact ⟨rfl, .inl ⟨hz, St.down u hg s4⟩⟩
  · exact ⟨rfl, .inr ⟨hz, St.down u hg s4⟩⟩
theorem tAll (h : TIn p F) (hoo : p.o = outN p F) (hf : TF τ p F) (hb : Base B μ 19000) (s : St τ B w0 μ ntT (T.ofList 0 .leaf [.map 18001, .oi 40]) (hIn 19000 [(18001, .omap 0)]) a w) :
    tC.wp Try.prog (fun x a' w' => x = .ret ∧ ((outN p F = 0 ∧ St τ B w0 μ ntT (frOf [(4, .nils)]) (hOf 20010 bsTm) a' w') ∨ (0 < outN p F ∧ St τ B w0 μ ntT (frOf [(4, .ov 20003 30 2)]) (hOf 20010 bsTo) a' w'))) a w := by
  have hg := St.gl s
  have ups := Up.self s
  have ad0 : Nat → Nat × Nat := fun _ => (0, 0)
  have ro0 : Nat → Row := fun _ => (.empty, 0)
  refine firstTo_sound (T := τ) (T' := T0 (atS p (sD p []) 0 ad0 ro0)) (n := 2) mixed (K := Hand.none) hNo (C := CT [] [(.oi 40, 40), (.map 0, 0)]) (rl := []) (fs := fsT0) (bs := bsTm)
    hb (by decide) rfl (by kernel_rfl) (ipE (q := (.i64, p.K)) (ipM ipNil hf.m.symm) hf.k (by exact rfl)) vpNil (gl0 (by exact rfl)) (gT0 τ) s fun a1 w1 s1 => tRest h hoo hf.toTFC hb hg ups s1
theorem gT0C (τ : Tab) : firstTo τ Try.prog Hand.none 3000 ntT 2 tC (T.ofList 0 .leaf [.map 18001, .int .i64 100]) (hIn 19000 [(18001, .omap 0)]) (CT [] [(.int .i64 100, 40), (.map 0, 0)]) [] fsT0 bsTm = true := by as_aux_lemma => kernel_rfl
theorem tAllC (hK : p.K = 100) (h : TIn p F) (hoo : p.o = outN p F) (hf : TFC τ p F) (hb : Base B μ 19000) (s : St τ B w0 μ ntT (T.ofList 0 .leaf [.map 18001, .int .i64 100]) (hIn 19000 [(18001, .omap 0)]) a w) :
    tC.wp Try.prog (fun x a' w' => x = .ret ∧ ((outN p F = 0 ∧ St τ B w0 μ ntT (frOf [(4, .nils)]) (hOf 20010 bsTm) a' w') ∨ (0 < outN p F ∧ St τ B w0 μ ntT (frOf [(4, .ov 20003 30 2)]) (hOf 20010 bsTo) a' w'))) a w := by
  have hg := St.gl s
  have ups := Up.self s
  have ad0 : Nat → Nat × Nat := fun _ => (0, 0)
  have ro0 : Nat → Row := fun _ => (.empty, 0)
  refine firstTo_sound (T := τ) (T' := T0 (atS p (sD p []) 0 ad0 ro0)) (n := 2) mixed (K := Hand.none) hNo (C := CT [] [(.int .i64 100, 40), (.map 0, 0)]) (rl := []) (fs := fsT0) (bs := bsTm)
    hb (by decide) rfl (by kernel_rfl) (ipK' (b := p.K) (ipM ipNil hf.m.symm) (by exact rfl) hK) vpNil (gl0 (by exact rfl)) (gT0C τ) s fun a1 w1 s1 => tRest h hoo hf hb hg ups s1
theorem tLim0 : okLim tI0.bs' = true := by kernel_rfl
theorem tLim1 : okLim tI1.bs' = true := by kernel_rfl
theorem tLim : okLim tI0.bs = true := by kernel_rfl
theorem tAll0 : hasAll (hOf 20010 bsTm) tI0.bs' = true := by as_aux_lemma => kernel_rfl
theorem tAll1 : hasAll (hOf 20010 bsTo) tI1.bs' = true := by as_aux_lemma => kernel_rfl
theorem tRes0 : results? Try.prog Try.f7 (frOf [(4, .nils)]) (hOf 20010 bsTm) = some .nils := by as_aux_lemma => kernel_rfl
theorem tRes1 : results? Try.prog Try.f7 (frOf [(4, .ov 20003 30 2)]) (hOf 20010 bsTo) = some (.ov 20003 30 2) := by as_aux_lemma => kernel_rfl
theorem tI0_ok (h : TIn p F) (hoo : p.o = outN p F) (hf : TF τ p F) (hz : outN p F = 0) : @InOk Try.prog tI0 τ := by
  letI : Tab := τ
  refine ⟨tLim0, hOf 20010 bsTm, ?_, hOf_next'.symm, tAll0⟩
  refine callOk_of (fn := Try.f7) Try.func7 tC_eq (show 2 ≤ Try.f7.ntmps by decide +kernel) (show 2 < limit by decide) fun B w0 μ a0 w hb s => ?_
  have hb : Base B μ 19000 := by
    have h := hb
    rw [show (hIn tI0.N tI0.bs).next = 19000 from hIn_next] at h
    exact h
  refine wp_mono (tAll h hoo hf hb s) ?_
  rintro x a1 w1 ⟨rfl, ⟨_, s1⟩ | ⟨c, _⟩⟩
  · exact St.done (τ := τ) (e := .ret) (.inr rfl) tRes0 s1
  · omega
theorem tI1_ok (h : TIn p F) (hoo : p.o = outN p F) (hf : TF τ p F) (hz : 0 < outN p F) : @InOk Try.prog tI1 τ := by
  letI : Tab := τ
  refine ⟨tLim1, hOf 20010 bsTo, ?_, hOf_next'.symm, tAll1⟩
  refine callOk_of (fn := Try.f7) Try.func7 tC_eq (show 2 ≤ Try.f7.ntmps by decide +kernel) (show 2 < limit by decide) fun B w0 μ a0 w hb s => ?_
  have hb : Base B μ 19000 := by
    have h := hb
    rw [show (hIn tI1.N tI1.bs).next = 19000 from hIn_next] at h
    exact h
  refine wp_mono (tAll h hoo hf hb s) ?_
  rintro x a1 w1 ⟨rfl, ⟨c, _⟩ | ⟨_, s1⟩⟩
  · omega
  · exact St.done (τ := τ) (e := .ret) (.inr rfl) tRes1 s1
theorem tI0C_ok (hK : p.K = 100) (h : TIn p F) (hoo : p.o = outN p F) (hf : TFC τ p F) (hz : outN p F = 0) : @InOk Try.prog tI0C τ := by
  letI : Tab := τ
  refine ⟨tLim0, hOf 20010 bsTm, ?_, hOf_next'.symm, tAll0⟩
  refine callOk_of (fn := Try.f7) Try.func7 tC_eq (show 2 ≤ Try.f7.ntmps by decide +kernel) (show 2 < limit by decide) fun B w0 μ a0 w hb s => ?_
  have hb : Base B μ 19000 := by
    have h := hb
    rw [show (hIn tI0C.N tI0C.bs).next = 19000 from hIn_next] at h
    exact h
  refine wp_mono (tAllC hK h hoo hf hb s) ?_
  rintro x a1 w1 ⟨rfl, ⟨_, s1⟩ | ⟨c, _⟩⟩
  · exact St.done (τ := τ) (e := .ret) (.inr rfl) tRes0 s1
  · omega
theorem tI1C_ok (hK : p.K = 100) (h : TIn p F) (hoo : p.o = outN p F) (hf : TFC τ p F) (hz : 0 < outN p F) : @InOk Try.prog tI1C τ := by
  letI : Tab := τ
  refine ⟨tLim1, hOf 20010 bsTo, ?_, hOf_next'.symm, tAll1⟩
  refine callOk_of (fn := Try.f7) Try.func7 tC_eq (show 2 ≤ Try.f7.ntmps by decide +kernel) (show 2 < limit by decide) fun B w0 μ a0 w hb s => ?_
  have hb : Base B μ 19000 := by
    have h := hb
    rw [show (hIn tI1C.N tI1C.bs).next = 19000 from hIn_next] at h
    exact h
  refine wp_mono (tAllC hK h hoo hf hb s) ?_
  rintro x a1 w1 ⟨rfl, ⟨c, _⟩ | ⟨_, s1⟩⟩
  · omega
  · exact St.done (τ := τ) (e := .ret) (.inr rfl) tRes1 s1
end
end Go.Proofs.Ytnenjcehicaobaa.pf
