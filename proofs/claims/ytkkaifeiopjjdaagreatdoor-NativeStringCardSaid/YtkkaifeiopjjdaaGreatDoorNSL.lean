/-
  The law NativeString: a text's key as a contract.
-/
import Derived.Test.YtkkaifeiopjjdaaGreatDoorNSK
set_option linter.unusedVariables false
set_option linter.unusedSimpArgs false
set_option linter.unusedSectionVars false
set_option maxRecDepth 1000000
set_option maxHeartbeats 0
namespace Go.Proofs.YtkkaifeiopjjdaaGreatDoor.ns
open Go.X Go.RowKit Go.Proofs
structure EG (y N o : Nat) : Prop where
  gr : ∀ z cl, cl < 4 → GR y z cl
  gq : GQ y
  gf : GF y N o
  gs : GS y N o
  gt : GT y
def SE (p : Pm) (e : En) (y : Nat) (z : Bool) (B : Kp) (w0 : World) (μ : M) (a : Act) (w : World) : Prop := St (TE p e) B w0 μ Tryz.f143.ntmps (frOf (fsE y z)) (hOf 20002 (bsE y z)) a w
theorem glE {p : Pm} {T T' : Tab} {B : Kp} {w0 : World} (h1 : T.fb = (fgL p).fb := by exact rfl) (h2 : T.fv = (fgL p).fv := by exact rfl) (h3 : T'.fb = (fgL p).fb := by exact rfl) (h4 : T'.fv = (fgL p).fv := by exact rfl) (h5 : T'.gv = fun _ _ => none := by exact rfl) : @Gl T B w0 → @Gl T' B w0 := glL (p := p) (q := qZ) (q' := qZ) (st := 0) (st' := 0) h1 h2 h3 h4 h5
theorem EK_ex (e : En) (c : EF e) : ∃ cl, cl < 4 ∧ EK e cl := by
  have h0 := c.h0 e.k
  by_cases a : e.f e.k = 0
  · exact ⟨1, by decide, a⟩
  · by_cases b : e.f e.k < 128
    · exact ⟨0, by decide, by omega, b⟩
    · by_cases d : e.f e.k < 2048
      · exact ⟨2, by decide, by omega, d⟩
      · exact ⟨3, by decide, by show 2048 ≤ e.f e.k; omega⟩
section
variable {p : Pm} {e : En} {y N o : Nat} {B : Kp} {w0 : World} {μ : M} {a : Act} {w : World}
theorem vpRow {T T' : Tab} {C : Cv} {l : VP} {x i n : Nat} {K : IntKind} {r : List AV} {f : Nat → Int} (k : VpOk T T' C l) (hr : r.length = n) (hl : n < 1000000) (h2 : T'.vv i = numV K n f) (h4 : T'.vk i = n) (h : ∀ m, m < n → ∃ v, r[m]? = some v ∧ denI T.iv v = some (K, f m)) : VpOk T T' C ((x, rowOf r true, i) :: l) := by
  refine vpCons ⟨rfl, fun μ p w hh => ?_⟩ k
  obtain ⟨arr, el, fz, g1, g2, g3, g4, g5, g6⟩ := hh
  refine ⟨arr, el, fz, g1, g2, g3, by dsimp only; rw [h4]; omega, fun m a ha => ?_⟩
  dsimp only at ha
  rw [h2] at ha
  obtain ⟨hm, rfl⟩ := numV_some ha
  obtain ⟨b, b1, b2⟩ := h m hm
  obtain ⟨v, v1, v2⟩ := g6 m b (by omega) (by rw [@cellOf_row T _ _ (by rw [hr]; exact hl)]; exact b1)
  refine ⟨v, v1, ?_⟩
  cases b <;> simp [denI] at b2
  · obtain ⟨rfl, rfl⟩ := b2; simpa [vrel] using v2
  · simp only [vrel] at v2 ⊢; rw [v2, b2]
theorem eRound1 (G : EG y N o) (hb : Base B μ 20000) (c : EF e) (hk : e.k < e.n) (s : SE p e y false B w0 μ a w) : eL.wp Tryz.prog (fun x a' w' => x = .normal ∧ SE p (e.at (e.k + 1)) y false B w0 μ a' w') a w := by
  obtain ⟨cl, hc, hE⟩ := EK_ex e c
  have q := runTo_sound (bs := [(y, y, .vec 0), (20001, 20003, .vec 1)]) (fs := fsE y false) (T := (RR p e cl c hk hc hE).T) (T' := TE p (e.at (e.k + 1))) mixed hNo (C := cvR false cl) (ex := .normal) hb (show 20000 ≤ 20002 by decide) (rl := [(20001, 20003)]) rfl (by rfl) (ipE (ipE (ipE ipNil))) (vpNum (n := e.n) (e := e.f) (e' := e.f) (vpNum (n := e.L (e.k + 1)) (e := e.bt) (e' := e.bt) vpNil rfl rfl rfl rfl (fun _ _ => rfl)) rfl rfl rfl rfl (fun _ _ => rfl)) (glE (p := p)) (G.gr false cl hc p e c hk hc hE) (St.same (Rw.same _ _) s)
  exact q
theorem eRound0 (G : EG y N o) (hb : Base B μ 20000) (c : EF e) (hk : e.k < e.n) (h0 : e.k = 0) (s : SE p e y true B w0 μ a w) : eL.wp Tryz.prog (fun x a' w' => x = .normal ∧ SE p (e.at (e.k + 1)) y false B w0 μ a' w') a w := by
  obtain ⟨cl, hc, hE⟩ := EK_ex e c
  obtain ⟨hl, hs⟩ := srcE_ok cl hc hE
  have hL : e.L (e.k + 1) = (srcE cl).length := by rw [e.L1, hl, h0]; show (encL e.f 0).length + _ = _; rw [show encL e.f 0 = [] from rfl]; simp
  have hz : e.L e.k = 0 := by rw [h0]; rfl
  have q := runTo_sound (bs := [(y, y, .vec 0), (20001, 20003, .vec 1)]) (fs := fsE y false) (T := (RR p e cl c hk hc hE).T) (T' := TE p (e.at (e.k + 1))) mixed hNo (C := cvR true cl) (ex := .normal) hb (show 20000 ≤ 20002 by decide) (rl := [(20001, 20003)]) rfl (by rfl) (ipE (ipE (ipK' ipNil rfl (by show (e.L (e.k + 1) : Int) = _; rw [hL])))) (vpNum (n := e.n) (e := e.f) (e' := e.f) (vpRow (n := e.L (e.k + 1)) (K := .u8) (f := e.bt) vpNil hL.symm (by have := (encC_len (e.f e.k)).2; omega) rfl rfl (fun m hm => by
    obtain ⟨v, v1, v2⟩ := hs m (by omega)
    refine ⟨v, v1, v2.trans ?_⟩
    have := e.new hk (m := m) (by omega)
    rw [hz, Nat.zero_add] at this
    rw [this])) rfl rfl rfl rfl (fun _ _ => rfl)) (glE (p := p)) (G.gr true cl hc p e c hk hc hE) (St.same (Rw.same _ _) s)
  exact q
theorem eExit (G : EG y N o) (hb : Base B μ 20000) (hk : ¬ e.k < e.n) (s : SE p e y false B w0 μ a w) : eL.wp Tryz.prog (fun x a' w' => x = .exit 0 ∧ SE p e y false B w0 μ a' w') a w :=
  runTo_sound (T := (RKq p e hk).T) (T' := TE p e) mixed hNo (C := cvKq) (ex := .exit 0) hb (show 20000 ≤ 20002 by decide) (rl := [(20001, 20001)]) rfl (by rfl) (ipE (ipE (ipE ipNil))) (vpNum (n := e.n) (e := e.f) (e' := e.f) (vpNum (n := e.L e.k) (e := e.bt) (e' := e.bt) vpNil rfl rfl rfl rfl (fun _ _ => rfl)) rfl rfl rfl rfl (fun _ _ => rfl)) (glE (p := p)) (G.gq p e hk) (St.same (Rw.same _ _) s)
theorem eRounds (G : EG y N o) (hb : Base B μ 20000) (c : EF e) : ∀ (j k : Nat) (a : Act) (w : World), k + j = e.n + 1 → k ≤ e.n → SE p (e.at k) y false B w0 μ a w → Code.rounds Tryz.prog eL (fun x a w => x = .exit 0 ∧ SE p (e.at e.n) y false B w0 μ a w) j a w
  | 0, k, a, w, h1, h2, s => by omega
  | j + 1, k, a, w, h1, h2, s => by
    by_cases hk : k < e.n
    · refine rounds_of (wp_mono (eRound1 (e := e.at k) G hb ⟨c.hn, c.h0, c.h1⟩ hk s) ?_)
      rintro x a' w' ⟨rfl, s'⟩
      exact eRounds G hb c j (k + 1) a' w' (by omega) (by omega) s'
    · have hkL : k = e.n := by omega
      refine rounds_of (wp_mono (eExit (e := e.at k) G hb hk s) ?_)
      rintro x a' w' ⟨rfl, s'⟩
      rw [hkL] at s'
      exact ⟨rfl, s'⟩
theorem eLoop (G : EG y N o) (hb : Base B μ 20000) (c : EF e) (h0 : 0 < e.n) (s : SE p (e.at 0) y true B w0 μ a w) : Code.rounds Tryz.prog eL (fun x a w => x = .exit 0 ∧ SE p (e.at e.n) y false B w0 μ a w) (e.n + 1) a w := by
  refine rounds_of (wp_mono (eRound0 (e := e.at 0) G hb ⟨c.hn, c.h0, c.h1⟩ h0 rfl s) ?_)
  rintro x a' w' ⟨rfl, s'⟩
  exact eRounds G hb c e.n 1 a' w' (by omega) h0 s'
end
def eO (p : Pm) (o : Nat) : En := ⟨oN p o, 0, oF p o⟩
theorem keyO_eq (p : Pm) : ∀ o, o < 2 → keyO p o = key (oF p o) (oN p o)
  | 0, _ => rfl
  | 1, _ => rfl
  | _ + 2, h => by omega
theorem encI_ok {p : Pm} {y N o : Nat} (h : Ar p) (o2 : o < 2) (h0 : 0 < oN p o) (G : EG y N o) (hN : N ≤ 20000) (l : okLim (encI y N o).bs' = true) (hl : hasAll (hOf (Nat.add N 40) [(y, y, .vec (Nat.add 3 o))]) (encI y N o).bs' = true)
    (hr : results? Tryz.prog Tryz.f143 (frOf [(2, .ostr o)]) (hOf (Nat.add N 40) [(y, y, .vec (Nat.add 3 o))]) = some (.ostr o)) : @InOk Tryz.prog (encI y N o) (TL p) := by
  have o3 : o < 3 := by omega
  have c : EF (eO p o) := ⟨by show oN p o ≤ 60; match o, o2 with | 0, _ => exact h.a60 | 1, _ => exact h.b60, fun m => by show 0 ≤ oF p o m; match o, o2 with | 0, _ => exact (h.hA m).1 | 1, _ => exact (h.hB m).1, fun m => by show oF p o m < 65536; match o, o2 with | 0, _ => exact (h.hA m).2 | 1, _ => exact (h.hB m).2⟩
  letI : Tab := TL p
  refine ⟨l, hOf (Nat.add N 40) [(y, y, .vec (Nat.add 3 o))], ?_, hOf_next'.symm, hl⟩
  refine callOk_of (fn := Tryz.f143) Tryz.func143 eC_eq (show 1 ≤ Tryz.f143.ntmps by decide +kernel) (show 1 < limit by decide) fun B w0 μ a w hb s => ?_
  have hb : Base B μ N := by
    have h := hb
    rw [show (hIn (encI y N o).N (encI y N o).bs).next = N from hIn_next] at h
    exact h
  have hbU : Base B μ 20000 := baseUp hb hN
  refine firstTo_sound (T := TL p) (T' := TE p ((eO p o).at 0)) (n := 2) mixed hNo (C := cvS o) (rl := []) (fs := fsS y) (bs := [(y, y, .vec 0)])
    hbU (show 20000 ≤ 20002 by decide) rfl rfl (ipE ipNil (jO_iv p qZ 0 o o3) rfl) (vpNum (n := oN p o) (e := oF p o) (e' := oF p o) vpNil (cO_vv p qZ o o3).1 rfl (cO_vv p qZ o o3).2 rfl (fun _ _ => rfl)) (glE (p := p)) (G.gs p) s fun a1 w1 s1 => ?_
  rw [e2_eq]
  refine wp_seq (wp_seq (wp_mono (runTo_sound (T := TE p ((eO p o).at 0)) (T' := TE p ((eO p o).at 0)) mixed hNo (C := cvT) (ex := .normal) hbU (show 20000 ≤ 20002 by decide) (rl := []) rfl rfl (ipK' (ipE ipNil) rfl rfl) (vpNum (n := oN p o) (e := oF p o) (e' := oF p o) vpNil rfl rfl rfl rfl (fun _ _ => rfl)) (glE (p := p)) (G.gt p _) s1) ?_))
  rintro x a2 w2 ⟨rfl, s2⟩
  show (Code.block 0 (.loop eL)).wp _ _ _ _
  refine wp_block (wp_mono (wp_loop_rounds (Q := fun x a w => x = .exit 0 ∧ SE p ((eO p o).at (oN p o)) y false B w0 μ a w) (oN p o + 1) (eLoop (e := eO p o) G hbU c h0 s2)) ?_)
  rintro x a3 w3 ⟨rfl, s3⟩
  show (restn 3 eC).wp _ _ _ _
  refine wp_mono (runTo_sound (T := (RZ p ((eO p o).at (oN p o)) ⟨c.hn, c.h0, c.h1⟩ rfl).T) (T' := TL p) mixed hNo (C := cvF N o) (ex := .ret) hb (Nat.le_add_right _ 40) (rl := []) rfl rfl (ipE (ipCons (keyO_eq p o o2) ipNil) rfl (jO_iv p qZ 0 o o3)) (vpNum (n := oN p o) (e := oF p o) (e' := oF p o) vpNil rfl (cO_vv p qZ o o3).1 rfl (cO_vv p qZ o o3).2 (fun _ _ => rfl)) (glE (p := p)) (G.gf p _ _ _) (St.same (Rw.same _ _) s3)) ?_
  rintro x a4 w4 ⟨rfl, s4⟩
  exact St.done (τ := TL p) (e := .ret) (.inr rfl) hr s4
end Go.Proofs.YtkkaifeiopjjdaaGreatDoor.ns
