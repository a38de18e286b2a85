/-
  The laws of profile: Top: runs; a list of one row is set aside.
-/
import Derived.Test.YtnenjcehicaobaaPFV
set_option linter.unusedVariables false
set_option linter.unusedSimpArgs false
set_option linter.unusedSectionVars false
set_option maxRecDepth 1000000
set_option maxHeartbeats 0
namespace Go.Proofs.Ytnenjcehicaobaa.pf
open Go.X Go.RowKit Go.Proofs
theorem ipM {T T' : Tab} {i i' : Nat} {l : IP} (k : IpOk T T' l) (h : T'.mm i' = T.mm i := by exact rfl) : IpOk T T' ((.map i, i') :: l) := ipCons h k
theorem ipQ {T T' : Tab} {i i' o : Nat} {l : IP} (k : IpOk T T' l) (h : T'.sv i' = T.sv i := by exact rfl) : IpOk T T' ((.ptr i o, i') :: l) := ipCons h k
theorem vrw {T : Tab} {μ : M} {i : Nat} {v : Value} (h : v = T.rv i) (h1 : oneV v = true) : @vrel T μ (.rw i) v := by
  simp only [vrel]
  exact ⟨h, h1⟩
noncomputable abbrev iT : IP := [(.oi 40, 40), (.map 0, 0), (.ptr 0 0, 0)]
noncomputable abbrev CT (rl : List (Nat × Nat)) (ip : IP) : Cv := ⟨19000, 20000, ofPairs rl, ip⟩
noncomputable abbrev rT1 : List (Nat × Nat) := [(19003, 19003), (19004, 19004)]
noncomputable abbrev iPb : IP := (.oi 26, 24) :: iT
theorem okPf : okFs (CT rT1 iPb) (frOf (fsT (.ov 19004 26 1))) (fsT (.ov 19004 24 1)) = true := by as_aux_lemma => kernel_rfl
theorem okPb : okBs (CT rT1 iPb) [(19004, .vec 26, 24)] (hOf 20000 (bsTr 19003 19004 19005 (.oit 18001 0) 26)) (bsT1 19003 19004 (.oit 18001 0) 24) .leaf = true := by as_aux_lemma => kernel_rfl
theorem get5 : (hOf 20000 (bsTr 19003 19004 19005 (.oit 18001 0) 26)).get 19005 = some (rowOf [.ostr 14, .oi 1021] false) := by as_aux_lemma => kernel_rfl
theorem get4 : (hOf 20000 (bsTr 19003 19004 19005 (.oit 18001 0) 26)).get 19004 = some (.vec 26) := by as_aux_lemma => kernel_rfl
def adU (ad : Nat → Nat × Nat) (M : Nat) (l : Nat × Nat) : Nat → Nat × Nat := fun m => if m = M then l else ad m
def atP (p : Pm) (M : Nat) (ad : Nat → Nat × Nat) (ro : Nat → Row) : Pm := { p with G := gi M ad ro, M := M, ls := fun m => m, r := M }
section
variable {p : Pm} {B : Kp} {w0 : World} {μ : M} {a : Act} {w : World} {M : Nat} {ad : Nat → Nat × Nat} {ro : Nat → Row}
theorem publish (hM : M < 1000000) (hb : Base B μ 19000) (s : St (T0 (atP p M ad ro)) B w0 μ ntT (frOf (fsT (.ov 19004 26 1))) (hOf 20000 (bsTr 19003 19004 19005 (.oit 18001 0) 26)) a w) :
    ∃ l B' w1, Up B w0 B' w1 ∧ St (T0 (atP p (M + 1) (adU ad M l) ro)) B' w1 μ ntT (frOf (fsT (.ov 19004 24 1))) (hOf 20000 (bsT1 19003 19004 (.oit 18001 0) 24)) a w := by
  have up := St.up s
  have gl0 := gl_gw (St.gl s)
  obtain ⟨μ1, hx, f, r⟩ := s
  obtain ⟨l, hl, o1, _, hbr⟩ := @HR.blk (T0 (atP p M ad ro)) _ _ _ _ _ r 19005 _ get5
  have o1 := o1 rfl
  have hbl := hbr
  obtain ⟨arr, el, fz, g1, g2, g3, g4, _, g5⟩ := hbl
  obtain ⟨v0, a0, b0⟩ := g5 0 (.ostr 14) (by decide) (by kernel_rfl)
  obtain ⟨v1, a1, b1⟩ := g5 1 (.oi 1021) (by decide) (by kernel_rfl)
  simp only [vrel] at b0 b1
  have b0 : v0 = .string (ro M).1 := by rw [b0]; show Value.string (strP (atP p M ad ro) (2 * 7)) = _; rw [str_txt]; rfl
  have b1 : v1 = .int .i64 (ro M).2 := by rw [b1]; show Value.int (ivP (atP p M ad ro) (1000 + 3 * 7)).1 (ivP (atP p M ad ro) (1000 + 3 * 7)).2 = _; rw [iv_cnt]; rfl
  have hE := aside_of (T := T0 (atP p M ad ro)) r get5 rfl hl (bs := bsT1 19003 19004 (.oit 18001 0) 24) (by intro q hq; simp only [List.mem_cons, List.not_mem_nil, or_false] at hq; rcases hq with rfl | rfl | rfl <;> decide)
  refine ⟨(l.block, l.base), B.also (fun j => j = l.block), w, up _, ?_⟩
  have hgw : GW (gi (M + 1) (adU ad M (l.block, l.base)) ro) (B.also (fun j => j = l.block)) w := by
    intro e he
    have he := gi_len.1 he
    show (B.kept (adU ad M (l.block, l.base) e).1 ∨ (adU ad M (l.block, l.base) e).1 = l.block) ∧ w.cell? ⟨(adU ad M (l.block, l.base) e).1, (adU ad M (l.block, l.base) e).2, none⟩ = _ ∧ w.cell? ⟨(adU ad M (l.block, l.base) e).1, (adU ad M (l.block, l.base) e).2 + 1, none⟩ = _
    unfold adU
    by_cases c : e = M
    · subst c
      rw [if_pos rfl]
      refine ⟨.inr rfl, ?_, ?_⟩
      · show w.cell? ⟨l.block, l.base, none⟩ = some (.string (ro e).1)
        simpa [World.cell?, g1, b0] using a0
      · show w.cell? ⟨l.block, l.base + 1, none⟩ = some (.int .i64 (ro e).2)
        simpa [World.cell?, g1, b1] using a1
    · rw [if_neg c]
      obtain ⟨k1, k2, k3⟩ := gl0 e (gi_len.2 (by omega))
      have kb := (up (fun j => j = l.block)).bl _ k1
      refine ⟨.inl k1, ?_, ?_⟩
      · rw [World.cell?_of_block (w := w0) (a := ⟨(ad e).1, (ad e).2, none⟩) kb]; exact k2
      · rw [World.cell?_of_block (w := w0) (a := ⟨(ad e).1, (ad e).2 + 1, none⟩) kb]; exact k3
  exact ⟨_, HR.weakAt (T := T0 (atP p M ad ro)) (T' := T0 (atP p (M + 1) (adU ad M (l.block, l.base)) ro)) (C := CT rT1 iPb) hb (by decide) (rl := rT1) rfl (by kernel_rfl)
    (ipE (q := (.i64, ((M + 1 : Nat) : Int))) (ipE (q := (.i64, p.K)) (ipM (ipQ ipNil)) (by exact rfl) (by exact rfl)) (by exact rfl) (by exact rfl)) (vp := [(19004, .vec 26, 24)]) (fun q hq => by
      rw [List.mem_singleton] at hq
      subst hq
      refine ⟨rfl, fun k hk hv => ?_⟩
      obtain ⟨arr', el', fz', e1, e2, e3, e4, e5⟩ := hv
      refine ⟨arr', el', fz', e1, e2, e3, e4, fun m x hm => ?_⟩
      have hm : celV (M + 1) (cq (fun m => m)) m = some x := hm
      obtain ⟨hlt, rfl⟩ := celV_some hm
      obtain ⟨v, q1, q2⟩ := e5 m (cs 19005 M (fun m => m) m) (celV_lt hlt)
      refine ⟨v, q1, ?_⟩
      unfold cs at q2
      by_cases c : m = M
      · subst c
        rw [if_pos rfl] at q2
        simp only [vrel] at q2
        obtain ⟨k', h1, h2⟩ := q2
        rw [hl] at h1
        cases h1
        refine vrw ?_ (by rw [h2]; rfl)
        rw [h2]
        show _ = (gi (m + 1) (adU ad m (l.block, l.base)) ro).rv m
        show _ = (if m < m + 1 then Value.slice (some ⟨(adU ad m (l.block, l.base) m).1, (adU ad m (l.block, l.base) m).2, none⟩) 1 1 else _)
        rw [if_pos (Nat.lt_succ_self _)]
        unfold adU
        rw [if_pos rfl]
        rfl
      · rw [if_neg c] at q2
        refine rwRel ?_ q2
        show (gi M ad ro).rv m = (gi (M + 1) (adU ad M (l.block, l.base)) ro).rv m
        show (if m < M then Value.slice (some ⟨(ad m).1, (ad m).2, none⟩) 1 1 else _) = (if m < M + 1 then Value.slice (some ⟨(adU ad M (l.block, l.base) m).1, (adU ad M (l.block, l.base) m).2, none⟩) 1 1 else _)
        rw [if_pos (by omega), if_pos (by omega)]
        unfold adU
        rw [if_neg c]) hE okPf okPb hx f r (fun _ => gw_gl (p := atP p (M + 1) (adU ad M (l.block, l.base)) ro) hgw)⟩
end
end Go.Proofs.Ytnenjcehicaobaa.pf
