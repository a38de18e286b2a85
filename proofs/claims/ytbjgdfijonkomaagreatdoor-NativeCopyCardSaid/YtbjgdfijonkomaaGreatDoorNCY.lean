/-
  The law NativeCopy.
-/
import Derived.Test.YtbjgdfijonkomaaGreatDoorNCW
import Derived.Test.YtbjgdfijonkomaaGreatDoorNCI
import Derived.Test.YtbjgdfijonkomaaGreatDoorNCJ0
import Derived.Test.YtbjgdfijonkomaaGreatDoorNCJ1
import Derived.Test.YtbjgdfijonkomaaGreatDoorNCJ2
import Derived.ChangeSlices
import Derived.ChangeShapes
import Derived.Carry
set_option linter.unusedVariables false
set_option linter.unusedSimpArgs false
set_option linter.unusedSectionVars false
set_option maxRecDepth 1000000
set_option maxHeartbeats 0
namespace Go.Proofs.YtbjgdfijonkomaaGreatDoor.nc
open Go.X Go.RowKit Go.Proofs
theorem gnNN_all : ∀ k, k = 0 → ∀ rf sf, GNNN k rf sf
  | _, rfl, false, false => gnNN_0_00
  | _, rfl, false, true => gnNN_0_01
  | _, rfl, true, false => gnNN_0_10
  | _, rfl, true, true => gnNN_0_11
theorem gnNS_all : ∀ k, k ≤ 20 → ∀ rf sf, GNNS k rf sf
  | 0, _, false, false => gnNS_0_00
  | 0, _, false, true => gnNS_0_01
  | 0, _, true, false => gnNS_0_10
  | 0, _, true, true => gnNS_0_11
  | 1, _, false, false => gnNS_1_00
  | 1, _, false, true => gnNS_1_01
  | 1, _, true, false => gnNS_1_10
  | 1, _, true, true => gnNS_1_11
  | 2, _, false, false => gnNS_2_00
  | 2, _, false, true => gnNS_2_01
  | 2, _, true, false => gnNS_2_10
  | 2, _, true, true => gnNS_2_11
  | 3, _, false, false => gnNS_3_00
  | 3, _, false, true => gnNS_3_01
  | 3, _, true, false => gnNS_3_10
  | 3, _, true, true => gnNS_3_11
  | 4, _, false, false => gnNS_4_00
  | 4, _, false, true => gnNS_4_01
  | 4, _, true, false => gnNS_4_10
  | 4, _, true, true => gnNS_4_11
  | 5, _, false, false => gnNS_5_00
  | 5, _, false, true => gnNS_5_01
  | 5, _, true, false => gnNS_5_10
  | 5, _, true, true => gnNS_5_11
  | 6, _, false, false => gnNS_6_00
  | 6, _, false, true => gnNS_6_01
  | 6, _, true, false => gnNS_6_10
  | 6, _, true, true => gnNS_6_11
  | 7, _, false, false => gnNS_7_00
  | 7, _, false, true => gnNS_7_01
  | 7, _, true, false => gnNS_7_10
  | 7, _, true, true => gnNS_7_11
  | 8, _, false, false => gnNS_8_00
  | 8, _, false, true => gnNS_8_01
  | 8, _, true, false => gnNS_8_10
  | 8, _, true, true => gnNS_8_11
  | 9, _, false, false => gnNS_9_00
  | 9, _, false, true => gnNS_9_01
  | 9, _, true, false => gnNS_9_10
  | 9, _, true, true => gnNS_9_11
  | 10, _, false, false => gnNS_10_00
  | 10, _, false, true => gnNS_10_01
  | 10, _, true, false => gnNS_10_10
  | 10, _, true, true => gnNS_10_11
  | 11, _, false, false => gnNS_11_00
  | 11, _, false, true => gnNS_11_01
  | 11, _, true, false => gnNS_11_10
  | 11, _, true, true => gnNS_11_11
  | 12, _, false, false => gnNS_12_00
  | 12, _, false, true => gnNS_12_01
  | 12, _, true, false => gnNS_12_10
  | 12, _, true, true => gnNS_12_11
  | 13, _, false, false => gnNS_13_00
  | 13, _, false, true => gnNS_13_01
  | 13, _, true, false => gnNS_13_10
  | 13, _, true, true => gnNS_13_11
  | 14, _, false, false => gnNS_14_00
  | 14, _, false, true => gnNS_14_01
  | 14, _, true, false => gnNS_14_10
  | 14, _, true, true => gnNS_14_11
  | 15, _, false, false => gnNS_15_00
  | 15, _, false, true => gnNS_15_01
  | 15, _, true, false => gnNS_15_10
  | 15, _, true, true => gnNS_15_11
  | 16, _, false, false => gnNS_16_00
  | 16, _, false, true => gnNS_16_01
  | 16, _, true, false => gnNS_16_10
  | 16, _, true, true => gnNS_16_11
  | 17, _, false, false => gnNS_17_00
  | 17, _, false, true => gnNS_17_01
  | 17, _, true, false => gnNS_17_10
  | 17, _, true, true => gnNS_17_11
  | 18, _, false, false => gnNS_18_00
  | 18, _, false, true => gnNS_18_01
  | 18, _, true, false => gnNS_18_10
  | 18, _, true, true => gnNS_18_11
  | 19, _, false, false => gnNS_19_00
  | 19, _, false, true => gnNS_19_01
  | 19, _, true, false => gnNS_19_10
  | 19, _, true, true => gnNS_19_11
  | 20, _, false, false => gnNS_20_00
  | 20, _, false, true => gnNS_20_01
  | 20, _, true, false => gnNS_20_10
  | 20, _, true, true => gnNS_20_11
  | k + 21, h, _, _ => absurd h (by omega)
theorem gnNB_all : ∀ k, k = 20 → ∀ rf sf, GNNB k rf sf
  | _, rfl, false, false => gnNB_20_00
  | _, rfl, false, true => gnNB_20_01
  | _, rfl, true, false => gnNB_20_10
  | _, rfl, true, true => gnNB_20_11
theorem gnSN_all : ∀ k, k ≤ 20 → ∀ rf sf, GNSN k rf sf
  | 0, _, false, false => gnSN_0_00
  | 0, _, false, true => gnSN_0_01
  | 0, _, true, false => gnSN_0_10
  | 0, _, true, true => gnSN_0_11
  | 1, _, false, false => gnSN_1_00
  | 1, _, false, true => gnSN_1_01
  | 1, _, true, false => gnSN_1_10
  | 1, _, true, true => gnSN_1_11
  | 2, _, false, false => gnSN_2_00
  | 2, _, false, true => gnSN_2_01
  | 2, _, true, false => gnSN_2_10
  | 2, _, true, true => gnSN_2_11
  | 3, _, false, false => gnSN_3_00
  | 3, _, false, true => gnSN_3_01
  | 3, _, true, false => gnSN_3_10
  | 3, _, true, true => gnSN_3_11
  | 4, _, false, false => gnSN_4_00
  | 4, _, false, true => gnSN_4_01
  | 4, _, true, false => gnSN_4_10
  | 4, _, true, true => gnSN_4_11
  | 5, _, false, false => gnSN_5_00
  | 5, _, false, true => gnSN_5_01
  | 5, _, true, false => gnSN_5_10
  | 5, _, true, true => gnSN_5_11
  | 6, _, false, false => gnSN_6_00
  | 6, _, false, true => gnSN_6_01
  | 6, _, true, false => gnSN_6_10
  | 6, _, true, true => gnSN_6_11
  | 7, _, false, false => gnSN_7_00
  | 7, _, false, true => gnSN_7_01
  | 7, _, true, false => gnSN_7_10
  | 7, _, true, true => gnSN_7_11
  | 8, _, false, false => gnSN_8_00
  | 8, _, false, true => gnSN_8_01
  | 8, _, true, false => gnSN_8_10
  | 8, _, true, true => gnSN_8_11
  | 9, _, false, false => gnSN_9_00
  | 9, _, false, true => gnSN_9_01
  | 9, _, true, false => gnSN_9_10
  | 9, _, true, true => gnSN_9_11
  | 10, _, false, false => gnSN_10_00
  | 10, _, false, true => gnSN_10_01
  | 10, _, true, false => gnSN_10_10
  | 10, _, true, true => gnSN_10_11
  | 11, _, false, false => gnSN_11_00
  | 11, _, false, true => gnSN_11_01
  | 11, _, true, false => gnSN_11_10
  | 11, _, true, true => gnSN_11_11
  | 12, _, false, false => gnSN_12_00
  | 12, _, false, true => gnSN_12_01
  | 12, _, true, false => gnSN_12_10
  | 12, _, true, true => gnSN_12_11
  | 13, _, false, false => gnSN_13_00
  | 13, _, false, true => gnSN_13_01
  | 13, _, true, false => gnSN_13_10
  | 13, _, true, true => gnSN_13_11
  | 14, _, false, false => gnSN_14_00
  | 14, _, false, true => gnSN_14_01
  | 14, _, true, false => gnSN_14_10
  | 14, _, true, true => gnSN_14_11
  | 15, _, false, false => gnSN_15_00
  | 15, _, false, true => gnSN_15_01
  | 15, _, true, false => gnSN_15_10
  | 15, _, true, true => gnSN_15_11
  | 16, _, false, false => gnSN_16_00
  | 16, _, false, true => gnSN_16_01
  | 16, _, true, false => gnSN_16_10
  | 16, _, true, true => gnSN_16_11
  | 17, _, false, false => gnSN_17_00
  | 17, _, false, true => gnSN_17_01
  | 17, _, true, false => gnSN_17_10
  | 17, _, true, true => gnSN_17_11
  | 18, _, false, false => gnSN_18_00
  | 18, _, false, true => gnSN_18_01
  | 18, _, true, false => gnSN_18_10
  | 18, _, true, true => gnSN_18_11
  | 19, _, false, false => gnSN_19_00
  | 19, _, false, true => gnSN_19_01
  | 19, _, true, false => gnSN_19_10
  | 19, _, true, true => gnSN_19_11
  | 20, _, false, false => gnSN_20_00
  | 20, _, false, true => gnSN_20_01
  | 20, _, true, false => gnSN_20_10
  | 20, _, true, true => gnSN_20_11
  | k + 21, h, _, _ => absurd h (by omega)
theorem gnBN_all : ∀ k, k = 20 → ∀ rf sf, GNBN k rf sf
  | _, rfl, false, false => gnBN_20_00
  | _, rfl, false, true => gnBN_20_01
  | _, rfl, true, false => gnBN_20_10
  | _, rfl, true, true => gnBN_20_11
theorem vpCells0 {T T' : Tab} {C : Cv} {i' n : Nat} {q : Bool} {L : List AV} {W' : Nat → BitVec 64} (hn : n = L.length) (h2 : T'.vv i' = pvw [] n W') (hk : T'.vk i' ≤ n) (hlen : L.length < 16000000) (hv : ∀ (m : Nat) (a : AV), L[m]? = some a → a = AV.int .u64 (wI (W' m))) :
    own (.cells n q [] (X.T.ofList 0 .leaf L)) = true ∧ ∀ μ l w, @brel T μ (.cells n q [] (X.T.ofList 0 .leaf L)) l w → @brel T' (ren C.N0 C.rn μ) (.vec i') l w := by
  refine ⟨rfl, fun μ l w hb_ => ?_⟩
  obtain ⟨arr, el, fz, g1, g2, g3, g4, _, g5⟩ := hb_
  refine ⟨arr, el, fz, g1, g2, g3, Nat.le_trans (Nat.add_le_add_left hk _) g4, fun m a ha => ?_⟩
  rw [h2] at ha
  rcases pvw_cases ha with ⟨c2, _⟩ | ⟨q, rfl, c4, rfl⟩
  · exact absurd c2 (by simp)
  · have hq : q < L.length := by have : ([] : List AV).length + q < n := c4; simp at this; omega
    have hL := hv q _ (List.getElem?_eq_getElem hq)
    obtain ⟨v, k3, k4⟩ := g5 q _ (by omega) (by
      unfold cellOf
      rw [X.T.get_ofList _ _ _ _ (by omega), if_pos ⟨Nat.zero_le _, by omega⟩, Nat.sub_zero, List.getElem?_eq_getElem hq])
    rw [hL] at k4
    simp only [vrel] at k4
    subst k4
    refine ⟨_, by simpa using k3, ?_⟩
    simp only [vrel]
/-- a slice of numbers that came in -/
structure Arg (w : World) (v : Value) (c : Bool) (b o cap len : Nat) (A : Nat → Int) : Prop where
  val : (c = false ∧ v = .slice none 0 0 ∧ len = 0) ∨ (c = true ∧ v = .slice (some ⟨b, o, none⟩) len cap ∧ len ≤ cap ∧ len ≤ 9223372036854775807)
  cell : ∀ m, m < len → w.cell? ⟨b, o + m, none⟩ = some (.int .i64 (A m))
  rng : ∀ m, -9223372036854775808 ≤ A m ∧ A m ≤ 9223372036854775807
noncomputable def mkP (la lb : Nat) (fr to n : Int) (rf : Bool) (A B : Nat → Int) (b o cap b' o' cap' : Nat) : Pm := ⟨la, lb, 3 + la, 6 + la + lb, 0, fr.toNat, to.toNat, fr, to, n, A, B, fun m => WX la lb rf m, b, o, cap, b', o', cap'⟩
theorem glW {T : Tab} {p : Pm} {w : World} (hg : T.gv = fun _ _ => none) (hf : T.fv = (fgC p).fv) (hb : T.fb = (fgC p).fb) (ha : ∀ m, m < p.la → w.cell? ⟨p.ba, p.oa + m, none⟩ = some (.int .i64 (p.A m))) (hb' : ∀ m, m < p.lb → w.cell? ⟨p.bb, p.ob + m, none⟩ = some (.int .i64 (p.B m))) : @Gl T (Kp.below w.heap.size) w := by
  refine ⟨fun g o a h => (by rw [hg] at h; cases h), fun i m a h => ?_⟩
  rw [hf] at h
  rw [hb]
  match i, h with
  | 0, h =>
    obtain ⟨hm, rfl⟩ := numV_some h
    have hcm := ha m hm
    exact ⟨World.block_lt_of_cell? _ _ hcm, _, hcm, by simp only [vrel]⟩
  | 1, h =>
    obtain ⟨hm, rfl⟩ := numV_some h
    have hcm := hb' m hm
    exact ⟨World.block_lt_of_cell? _ _ hcm, _, hcm, by simp only [vrel]⟩
  | (i + 2), h => cases h
theorem enter {T : Tab} {p : Pm} {c : Cs} {ip : IP} {vp : VP} {args : List AV} {args' : Array Value} {w : World} {Q : Exit → Act → World → Prop} (hip : IpOk T (plV p (W1 p)) ip) (hvp : VpOk T (plV p (W1 p)) ⟨0, 6, ofPairs (rlE c.rf), ip⟩ vp) (hg : @Gl T (Kp.below w.heap.size) w) (hf : T.fv = (fgC p).fv) (hb : T.fb = (fgC p).fb)
    (e : firstTo T Tryz.prog KK 3000 Tryz.f3.ntmps 9 cB (X.T.ofList 0 .leaf args) H.empty ⟨0, 6, ofPairs (rlE c.rf), ip⟩ vp (fs9 c) (bsE c.rf) = true) (hlen : args.length = 7) (hrel : @vrels T (fun _ => none) args args'.toList)
    (hQ : ∀ a w', SV p (W1 p) c (fs9 c) (Kp.below w.heap.size) w (fun _ => none) a w' → (restn 9 cB).wp Tryz.prog Q a w') : cB.wp Tryz.prog Q { tmps := args' ++ Array.replicate (Tryz.f3.ntmps - args'.size) undef, defers := [] } w := by
  have hk : okRn (⟨0, 6, ofPairs (rlE c.rf), ip⟩ : Cv) (rlE c.rf) = true := by cases c.rf <;> kernel_rfl
  refine firstTo_sound (T := T) (T' := plV p (W1 p)) mixed (@nq.K_top0_ok T) (C := ⟨0, 6, ofPairs (rlE c.rf), ip⟩) (Base.none _) (Nat.zero_le _) (rl := rlE c.rf) rfl hk hip hvp (glV (p := p) hb hf rfl rfl) e (@St.start T args args' Tryz.f3.ntmps w hg hrel (by rw [hlen]; decide +kernel) (by rw [hlen]; decide)) ?_
  exact fun a' w' s => hQ a' w' s
theorem oiEq {T T' : Tab} {i j : Nat} (h : T.iv i = T'.iv j) : IpOk1 T T' (.oi i, j) := by show some (T.iv i) = some (T'.iv j); rw [h]
theorem inEq {T T' : Tab} {k : IntKind} {n : Int} {j : Nat} (h : (k, n) = T'.iv j) : IpOk1 T T' (.int k n, j) := by show some (k, n) = some (T'.iv j); rw [h]
theorem natEq {a b : Nat} (h : a = b) : (IntKind.i64, (a : Int)) = (IntKind.i64, (b : Int)) := by rw [h]
theorem relFo {T : Tab} {μ : M} {i j z b o len cap : Nat} (hj : T.iv j = (.i64, (len : Int))) (hb : T.fb i = (b, o)) (hc : T.fcap i = cap) (h : len ≤ cap) : @vrel T μ (.fo i j z) (.slice (some ⟨b, o, none⟩) len cap) := by
  simp only [vrel]
  rw [hj, hb, hc]
  exact ⟨⟨rfl, Int.natCast_nonneg _⟩, by simpa using h, by simp⟩
theorem relAll {T : Tab} {a b : AV} {v u : Value} {fr to n : Int} {sf rf : Bool} (h2 : T.iv 2 = (.i64, fr)) (h3 : T.iv 3 = (.i64, to)) (h4 : T.iv 4 = (.i64, n)) (ha : @vrel T (fun _ => none) a v) (hb : @vrel T (fun _ => none) b u) : @vrels T (fun _ => none) [a, b, .oi 2, .oi 3, .oi 4, .bool sf, .bool rf] [v, u, .int .i64 fr, .int .i64 to, .int .i64 n, .bool sf, .bool rf] := by
  refine @vrels_cons T _ _ _ _ _ ha (@vrels_cons T _ _ _ _ _ hb (@vrels_cons T _ _ _ _ _ ?_ (@vrels_cons T _ _ _ _ _ ?_ (@vrels_cons T _ _ _ _ _ ?_ (@vrels_cons T _ _ _ _ _ (by simp only [vrel]) (@vrels_cons T _ _ _ _ _ (by simp only [vrel]) (by simp [vrels])))))))
  · simp only [vrel]; rw [h2]
  · simp only [vrel]; rw [h3]
  · simp only [vrel]; rw [h4]
theorem ipAll {T : Tab} {p : Pm} {a8 a10 a13 : AV} {q1 : Nat} (hb : T.fb = (fgC p).fb) (hc : T.fcap = (fgC p).fcap) (h0 : T.iv 0 = (.i64, (p.la : Int))) (h1 : T.iv q1 = (.i64, (p.lb : Int))) (h2 : T.iv 2 = (.i64, p.fr)) (h3 : T.iv 3 = (.i64, p.to)) (h4 : T.iv 4 = (.i64, p.n)) (h8 : IpOk1 T (plV p (W1 p)) (a8, 8)) (h10 : IpOk1 T (plV p (W1 p)) (a10, 10)) (h13 : IpOk1 T (plV p (W1 p)) (a13, 13)) :
    IpOk T (plV p (W1 p)) [(.fo 0 0 1, 0), (.fo 1 q1 1, 1), (.oi 0, 0), (.oi q1, 1), (.oi 2, 2), (.oi 3, 3), (.oi 4, 4), (a8, 8), (a10, 10), (a13, 13)] :=
  ipCons ⟨by rw [hb]; rfl, by rw [hc]; rfl⟩ (ipCons ⟨by rw [hb]; rfl, by rw [hc]; rfl⟩ (ipCons (oiEq (j := 0) h0) (ipCons (oiEq (j := 1) h1) (ipCons (oiEq (j := 2) h2) (ipCons (oiEq (j := 3) h3) (ipCons (oiEq (j := 4) h4) (ipCons h8 (ipCons h10 (ipCons h13 ipNil)))))))))
theorem ipL {T : Tab} {p : Pm} {la lb : Nat} (hb : T.fb = (fgC p).fb) (hc : T.fcap = (fgC p).fcap) (h0 : T.iv 0 = (.i64, (p.la : Int))) (h1 : T.iv 1 = (.i64, (p.lb : Int))) (h2 : T.iv 2 = (.i64, p.fr)) (h3 : T.iv 3 = (.i64, p.to)) (h4 : T.iv 4 = (.i64, p.n)) (e8 : la = p.la) (e10 : 4 + p.la = p.s + 1) (e13 : 6 + la + lb = p.tot) : IpOk T (plV p (W1 p)) ((cvL la lb false).ip) :=
  ipAll hb hc h0 h1 h2 h3 h4 (inEq (j := 8) (show (IntKind.i64, ((3 + la : Nat) : Int)) = (IntKind.i64, ((3 + p.la : Nat) : Int)) from natEq (by rw [e8]))) (inEq (j := 10) (show (IntKind.i64, ((4 + la : Nat) : Int)) = (IntKind.i64, ((p.s + 1 : Nat) : Int)) from natEq (by rw [e8, e10]))) (inEq (j := 13) (show (IntKind.i64, ((6 + la + lb : Nat) : Int)) = (IntKind.i64, (p.tot : Int)) from natEq e13))
theorem ipE {T : Tab} {p : Pm} {q1 : Nat} (hb : T.fb = (fgC p).fb) (hc : T.fcap = (fgC p).fcap) (h0 : T.iv 0 = (.i64, (p.la : Int))) (h1 : T.iv q1 = (.i64, (p.lb : Int))) (h2 : T.iv 2 = (.i64, p.fr)) (h3 : T.iv 3 = (.i64, p.to)) (h4 : T.iv 4 = (.i64, p.n)) (h8 : T.iv 10 = (.i64, ((3 + p.la : Nat) : Int))) (h10 : T.iv 18 = (.i64, ((4 + p.la : Nat) : Int))) (h13 : T.iv 20 = (.i64, (p.tot : Int))) (e10 : 4 + p.la = p.s + 1) : IpOk T (plV p (W1 p)) [(.fo 0 0 1, 0), (.fo 1 q1 1, 1), (.oi 0, 0), (.oi q1, 1), (.oi 2, 2), (.oi 3, 3), (.oi 4, 4), (.oi 10, 8), (.oi 18, 10), (.oi 20, 13)] :=
  ipAll hb hc h0 h1 h2 h3 h4 (oiEq (j := 8) h8) (oiEq (j := 10) (h10.trans (show (IntKind.i64, ((4 + p.la : Nat) : Int)) = (IntKind.i64, ((p.s + 1 : Nat) : Int)) from natEq e10))) (oiEq (j := 13) h13)
theorem LX_length (la lb : Nat) (rf : Bool) : (LX la lb rf).length = 6 + la + lb := by simp [LX]
theorem vpLok {T : Tab} {p : Pm} {C : Cv} {la lb : Nat} {rf : Bool} (h1 : p.tot = 6 + la + lb) (h2 : p.W = WX la lb rf) (hl : 6 + la + lb < 16000000) : VpOk T (plV p (W1 p)) C (vpL la lb rf) :=
  vpCons (vpCells0 (W' := p.W) (LX_length la lb rf).symm (by show pvw [] p.tot p.W = _; rw [h1]) (by show p.tot ≤ _; omega) (by rw [LX_length]; exact hl) (fun m a h => by
    unfold LX at h
    rw [List.getElem?_map] at h
    cases e : (List.range (6 + la + lb))[m]? with
    | none => rw [e] at h; cases h
    | some q =>
      rw [e] at h
      have hq : m = q := by
        have := (List.getElem?_eq_some_iff.1 e).2
        rw [List.getElem_range] at this
        exact this
      cases h
      rw [h2, hq])) vpNil
theorem vpE {T : Tab} {p : Pm} {C : Cv} {rf : Bool} (hip : IpOk T (plV p (W1 p)) C.ip) (h1 : T.vv 6 = pvw [] p.tot (WE p rf 6)) (h2 : T.vk 6 = p.tot) (hW : ∀ m, p.W m = WE p rf 6 m) : VpOk T (plV p (W1 p)) C [(oldB rf 1, .vec 6, 6)] :=
  vpCons (vpW (L := []) (L' := []) (n := p.tot) (n' := p.tot) (W := WE p rf 6) (W' := W1 p 6) hip h1 rfl (by show p.tot ≤ T.vk 6; rw [h2]; exact Nat.le_refl _) (Nat.le_refl _) (Nat.le_refl _) (Nat.zero_le _) rfl (fun q x h => by simp at h) (fun q hq => by rw [show ([] : List AV).length - ([] : List AV).length + q = q by simp]; exact hW q)) vpNil
theorem mkPs {la lb : Nat} {fr to n : Int} {rf : Bool} {A B : Nat → Int} {b o cap b' o' cap' : Nat} : 4 + (mkP la lb fr to n rf A B b o cap b' o' cap').la = (mkP la lb fr to n rf A B b o cap b' o' cap').s + 1 := by
  show 4 + la = 3 + la + 1
  omega
section
variable {w : World} {v u : Value} {ca cb : Bool} {b o cap len b' o' cap' len' : Nat} {A A' : Nat → Int} {fr to n : Int} {sf rf : Bool}
/-- the law's beginning: both arrays are made -/
theorem entry (ha : Arg w v ca b o cap len A) (hb : Arg w u cb b' o' cap' len' A') {Q : Exit → Act → World → Prop}
    (hQ : ∀ a w', SV (mkP (min len 20) (min len' 20) fr to n rf A A' b o cap b' o' cap') (W1 (mkP (min len 20) (min len' 20) fr to n rf A A' b o cap b' o' cap')) ⟨ca, cb, sf, rf⟩ (fs9 ⟨ca, cb, sf, rf⟩) (Kp.below w.heap.size) w (fun _ => none) a w' → (restn 9 cB).wp Tryz.prog Q a w') :
    cB.wp Tryz.prog Q { tmps := #[v, u, .int .i64 fr, .int .i64 to, .int .i64 n, .bool sf, .bool rf] ++ Array.replicate (Tryz.f3.ntmps - (#[v, u, .int .i64 fr, .int .i64 to, .int .i64 n, .bool sf, .bool rf] : Array Value).size) undef, defers := [] } w := by
  have cellA : ∀ m, m < min len 20 → w.cell? ⟨b, o + m, none⟩ = some (.int .i64 (A m)) := fun m hm => ha.cell m (by omega)
  have cellB : ∀ m, m < min len' 20 → w.cell? ⟨b', o' + m, none⟩ = some (.int .i64 (A' m)) := fun m hm => hb.cell m (by omega)
  generalize hla : min len 20 = la at hQ cellA
  generalize hlb : min len' 20 = lb at hQ cellB
  have l20 : la ≤ 20 := by omega
  have m20 : lb ≤ 20 := by omega
  let p : Pm := mkP la lb fr to n rf A A' b o cap b' o' cap'
  have g : ∀ {T : Tab}, T.gv = (fun _ _ => none) → T.fv = (fgC p).fv → T.fb = (fgC p).fb → @Gl T (Kp.below w.heap.size) w := fun h1 h2 h3 => glW (p := p) h1 h2 h3 cellA cellB
  rcases ha.val with ⟨rfl, rfl, e0⟩ | ⟨rfl, rfl, hcap, hmax⟩
  · have l0 : la = 0 := by omega
    rcases hb.val with ⟨rfl, rfl, e0'⟩ | ⟨rfl, rfl, hcap', hmax'⟩
    · have m0 : lb = 0 := by omega
      subst l0 m0
      exact enter (p := p) (c := ⟨false, false, sf, rf⟩) (args := [.nils, .nils, .oi 2, .oi 3, .oi 4, .bool sf, .bool rf]) (T := TNNN p 0 0 0 (by omega)) (ipL rfl rfl rfl rfl rfl rfl rfl rfl mkPs rfl) (vpLok rfl rfl (by omega)) (g rfl rfl rfl) rfl rfl (gnNN_all 0 (by decide) rf sf p 0 0 (by omega)) rfl (relAll rfl rfl rfl (by simp only [vrel]) (by simp only [vrel])) hQ
    · by_cases h20 : len' ≤ 20
      · have hm : lb = len' := by omega
        subst l0 hm
        exact enter (p := p) (c := ⟨false, true, sf, rf⟩) (args := [.nils, .fo 1 1 1, .oi 2, .oi 3, .oi 4, .bool sf, .bool rf]) (T := TNNS p 0 0 lb m20 rfl) (ipL rfl rfl rfl rfl rfl rfl rfl rfl mkPs rfl) (vpLok rfl rfl (by omega)) (g rfl rfl rfl) rfl rfl (gnNS_all lb m20 rf sf p 0 0 m20 rfl) rfl (relAll rfl rfl rfl (by simp only [vrel]) (relFo rfl rfl rfl hcap')) hQ
      · have hm : lb = 20 := by omega
        subst l0 hm
        exact enter (p := p) (c := ⟨false, true, sf, rf⟩) (args := [.nils, .fo 1 6 1, .oi 2, .oi 3, .oi 4, .bool sf, .bool rf]) (T := TNNB p 0 (len' : Int) 20 m20 rfl (by omega) rfl) (ipL rfl rfl rfl rfl rfl rfl rfl rfl mkPs rfl) (vpLok rfl rfl (by omega)) (g rfl rfl rfl) rfl rfl (gnNB_all 20 rfl rf sf p 0 (len' : Int) m20 rfl (by omega) rfl) rfl (relAll rfl rfl rfl (by simp only [vrel]) (relFo (len := len') rfl rfl rfl hcap')) hQ
  · rcases hb.val with ⟨rfl, rfl, e0'⟩ | ⟨rfl, rfl, hcap', hmax'⟩
    · have m0 : lb = 0 := by omega
      by_cases h20 : len ≤ 20
      · have hm : la = len := by omega
        subst m0 hm
        exact enter (p := p) (c := ⟨true, false, sf, rf⟩) (args := [.fo 0 0 1, .nils, .oi 2, .oi 3, .oi 4, .bool sf, .bool rf]) (T := TNSN p 0 0 la l20 rfl) (ipL rfl rfl rfl rfl rfl rfl rfl rfl mkPs rfl) (vpLok rfl rfl (by omega)) (g rfl rfl rfl) rfl rfl (gnSN_all la l20 rf sf p 0 0 l20 rfl) rfl (relAll rfl rfl rfl (relFo rfl rfl rfl hcap) (by simp only [vrel])) hQ
      · have hm : la = 20 := by omega
        subst m0 hm
        exact enter (p := p) (c := ⟨true, false, sf, rf⟩) (args := [.fo 0 5 1, .nils, .oi 2, .oi 3, .oi 4, .bool sf, .bool rf]) (T := TNBN p (len : Int) 0 20 l20 rfl (by omega) rfl) (ipL rfl rfl rfl rfl rfl rfl rfl rfl mkPs rfl) (vpLok rfl rfl (by omega)) (g rfl rfl rfl) rfl rfl (gnBN_all 20 rfl rf sf p (len : Int) 0 l20 rfl (by omega) rfl) rfl (relAll rfl rfl rfl (relFo (len := len) rfl rfl rfl hcap) (by simp only [vrel])) hQ
    · by_cases h20 : len ≤ 20
      · have hm : la = len := by omega
        by_cases h20' : len' ≤ 20
        · have hm' : lb = len' := by omega
          subst hm hm'
          cases rf with
          | false => exact enter (p := p) (c := ⟨true, true, sf, false⟩) (args := [.fo 0 0 1, .fo 1 1 1, .oi 2, .oi 3, .oi 4, .bool sf, .bool false]) (T := TESS0 p 0 0 l20 m20 rfl) (ipE rfl rfl rfl rfl rfl rfl rfl rfl rfl rfl mkPs) (vpE (ipE (q1 := 1) rfl rfl rfl rfl rfl rfl rfl rfl rfl rfl mkPs) rfl rfl (fun m => rfl)) (g rfl rfl rfl) rfl rfl (geSS0 sf p 0 0 l20 m20 rfl) rfl (relAll rfl rfl rfl (relFo rfl rfl rfl hcap) (relFo rfl rfl rfl hcap')) hQ
          | true => exact enter (p := p) (c := ⟨true, true, sf, true⟩) (args := [.fo 0 0 1, .fo 1 1 1, .oi 2, .oi 3, .oi 4, .bool sf, .bool true]) (T := TESS1 p 0 0 l20 m20 rfl) (ipE rfl rfl rfl rfl rfl rfl rfl rfl rfl rfl mkPs) (vpE (ipE (q1 := 1) rfl rfl rfl rfl rfl rfl rfl rfl rfl rfl mkPs) rfl rfl (fun m => rfl)) (g rfl rfl rfl) rfl rfl (geSS1 sf p 0 0 l20 m20 rfl) rfl (relAll rfl rfl rfl (relFo rfl rfl rfl hcap) (relFo rfl rfl rfl hcap')) hQ
        · have hm' : lb = 20 := by omega
          subst hm hm'
          have gB : (20 : Int) < (len' : Int) := by omega
          have mB : (len' : Int) ≤ 9223372036854775807 := by omega
          cases rf with
          | false => exact enter (p := p) (c := ⟨true, true, sf, false⟩) (args := [.fo 0 0 1, .fo 1 6 1, .oi 2, .oi 3, .oi 4, .bool sf, .bool false]) (T := TESB0 p 0 (len' : Int) l20 m20 rfl rfl gB mB) (ipE rfl rfl rfl rfl rfl rfl rfl rfl rfl rfl mkPs) (vpE (ipE (q1 := 1) rfl rfl rfl rfl rfl rfl rfl rfl rfl rfl mkPs) rfl rfl (fun m => rfl)) (g rfl rfl rfl) rfl rfl (geSB0 sf p 0 (len' : Int) l20 m20 rfl rfl gB mB) rfl (relAll rfl rfl rfl (relFo rfl rfl rfl hcap) (relFo (len := len') rfl rfl rfl hcap')) hQ
          | true => exact enter (p := p) (c := ⟨true, true, sf, true⟩) (args := [.fo 0 0 1, .fo 1 6 1, .oi 2, .oi 3, .oi 4, .bool sf, .bool true]) (T := TESB1 p 0 (len' : Int) l20 m20 rfl rfl gB mB) (ipE rfl rfl rfl rfl rfl rfl rfl rfl rfl rfl mkPs) (vpE (ipE (q1 := 1) rfl rfl rfl rfl rfl rfl rfl rfl rfl rfl mkPs) rfl rfl (fun m => rfl)) (g rfl rfl rfl) rfl rfl (geSB1 sf p 0 (len' : Int) l20 m20 rfl rfl gB mB) rfl (relAll rfl rfl rfl (relFo rfl rfl rfl hcap) (relFo (len := len') rfl rfl rfl hcap')) hQ
      · have hm : la = 20 := by omega
        have gA : (20 : Int) < (len : Int) := by omega
        have mA : (len : Int) ≤ 9223372036854775807 := by omega
        by_cases h20' : len' ≤ 20
        · have hm' : lb = len' := by omega
          subst hm hm'
          cases rf with
          | false => exact enter (p := p) (c := ⟨true, true, sf, false⟩) (args := [.fo 0 5 1, .fo 1 1 1, .oi 2, .oi 3, .oi 4, .bool sf, .bool false]) (T := TEBS0 p (len : Int) 0 l20 m20 rfl rfl gA mA) (ipE rfl rfl rfl rfl rfl rfl rfl rfl rfl rfl mkPs) (vpE (ipE (q1 := 1) rfl rfl rfl rfl rfl rfl rfl rfl rfl rfl mkPs) rfl rfl (fun m => rfl)) (g rfl rfl rfl) rfl rfl (geBS0 sf p (len : Int) 0 l20 m20 rfl rfl gA mA) rfl (relAll rfl rfl rfl (relFo (len := len) rfl rfl rfl hcap) (relFo rfl rfl rfl hcap')) hQ
          | true => exact enter (p := p) (c := ⟨true, true, sf, true⟩) (args := [.fo 0 5 1, .fo 1 1 1, .oi 2, .oi 3, .oi 4, .bool sf, .bool true]) (T := TEBS1 p (len : Int) 0 l20 m20 rfl rfl gA mA) (ipE rfl rfl rfl rfl rfl rfl rfl rfl rfl rfl mkPs) (vpE (ipE (q1 := 1) rfl rfl rfl rfl rfl rfl rfl rfl rfl rfl mkPs) rfl rfl (fun m => rfl)) (g rfl rfl rfl) rfl rfl (geBS1 sf p (len : Int) 0 l20 m20 rfl rfl gA mA) rfl (relAll rfl rfl rfl (relFo (len := len) rfl rfl rfl hcap) (relFo rfl rfl rfl hcap')) hQ
        · have hm' : lb = 20 := by omega
          subst hm hm'
          have gB : (20 : Int) < (len' : Int) := by omega
          have mB : (len' : Int) ≤ 9223372036854775807 := by omega
          cases rf with
          | false => exact enter (p := p) (c := ⟨true, true, sf, false⟩) (args := [.fo 0 5 1, .fo 1 6 1, .oi 2, .oi 3, .oi 4, .bool sf, .bool false]) (T := TEBB0 p (len : Int) (len' : Int) l20 m20 rfl rfl gA mA rfl gB mB rfl) (ipE rfl rfl rfl rfl rfl rfl rfl rfl rfl rfl mkPs) (vpE (ipE (q1 := 0) rfl rfl rfl rfl rfl rfl rfl rfl rfl rfl mkPs) rfl rfl (fun m => rfl)) (g rfl rfl rfl) rfl rfl (geBB0 sf p (len : Int) (len' : Int) l20 m20 rfl rfl gA mA rfl gB mB rfl) rfl (relAll rfl rfl rfl (relFo (len := len) rfl rfl rfl hcap) (relFo (len := len') rfl rfl rfl hcap')) hQ
          | true => exact enter (p := p) (c := ⟨true, true, sf, true⟩) (args := [.fo 0 5 1, .fo 1 6 1, .oi 2, .oi 3, .oi 4, .bool sf, .bool true]) (T := TEBB1 p (len : Int) (len' : Int) l20 m20 rfl rfl gA mA rfl gB mB rfl) (ipE rfl rfl rfl rfl rfl rfl rfl rfl rfl rfl mkPs) (vpE (ipE (q1 := 0) rfl rfl rfl rfl rfl rfl rfl rfl rfl rfl mkPs) rfl rfl (fun m => rfl)) (g rfl rfl rfl) rfl rfl (geBB1 sf p (len : Int) (len' : Int) l20 m20 rfl rfl gA mA rfl gB mB rfl) rfl (relAll rfl rfl rfl (relFo (len := len) rfl rfl rfl hcap) (relFo (len := len') rfl rfl rfl hcap')) hQ
end
section
variable {B : Kp} {w0 : World} {μ : M}
theorem tru {p : Pm} {c : Cs} {Wf : Nat → Nat → BitVec 64} {ib hib ic hic vc hvc vl hvl vs hvs fl hfl} {code : Code} {fs0 : List (Nat × AV)} {a : Act} {w : World}
    (e : runTrue (TN (ivC p) p.tot Wf (fgC p) ib hib ic hic vc hvc vl hvl vs hvs fl hfl) Tryz.prog KK 3000 Tryz.f3 code (frOf fs0) (hOf 6 (bs6 c.rf)) = true) (s : SV p Wf c fs0 B w0 μ a w) : code.wp Tryz.prog (Yes Tryz.prog Tryz.f3 B w0) a w :=
  @runTrue_sound _ _ _ _ _ _ (TN (ivC p) p.tot Wf (fgC p) ib hib ic hic vc hvc vl hvl vs hvs fl hfl) (frOf fs0) (hOf 6 (bs6 c.rf)) mixed KK (@nq.K_top0_ok (TN (ivC p) p.tot Wf (fgC p) ib hib ic hic vc hvc vl hvl vs hvs fl hfl)) 3000 Tryz.f3 code e (St.same (VRows.fsame _ _ _ _ _ _ _) s)
theorem goFirst {p p' : Pm} {c : Cs} {Wf Wf' : Nat → Nat → BitVec 64} {ib hib ic hic vc hvc vl hvl vs hvs fl hfl} {code : Code} {fs0 fs1 : List (Nat × AV)} {m : Nat} {ii : AV} {ex : List (AV × Nat)} {v : Nat} {a : Act} {w : World} {Q : Exit → Act → World → Prop} (hb : Base B μ 0) (L : Like p p') (hi : denI (ivC p) ii = some (.i64, (p'.i : Int))) (hn : isNum ii = true) (hx : IpOk (TN (ivC p) p.tot Wf (fgC p) ib hib ic hic vc hvc vl hvl vs hvs fl hfl) (plV p' Wf') ex) (hW : ∀ m, m < p.tot → Wf' 6 m = Wf v m)
    (e : firstTo (TN (ivC p) p.tot Wf (fgC p) ib hib ic hic vc hvc vl hvl vs hvs fl hfl) Tryz.prog KK 3000 Tryz.f3.ntmps m code (frOf fs0) (hOf 6 (bs6 c.rf)) (cvC ii ex) [(1, .vec v, 6)] fs1 (bs6 c.rf) = true) (s : SV p Wf c fs0 B w0 μ a w) (hQ : ∀ a' w', SV p' Wf' c fs1 B w0 μ a' w' → (restn m code).wp Tryz.prog Q a' w') : code.wp Tryz.prog Q a w := by
  have hip := ipV (T := TN (ivC p) p.tot Wf (fgC p) ib hib ic hic vc hvc vl hvl vs hvs fl hfl) (Wf' := Wf') (ex := ex) L rfl rfl rfl hi hn hx
  exact firstTo_sound (T := TN (ivC p) p.tot Wf (fgC p) ib hib ic hic vc hvc vl hvl vs hvs fl hfl) (T' := plV p' Wf') mixed (@nq.K_top0_ok (TN (ivC p) p.tot Wf (fgC p) ib hib ic hic vc hvc vl hvl vs hvs fl hfl)) (C := cvC ii ex) hb (Nat.zero_le _) (rl := rlC) rfl (by kernel_rfl) hip (vpCons (relV hip rfl rfl L.e6 hW) vpNil) (glV (p := p) rfl rfl (likeF L).1 (likeF L).2) e (St.same (VRows.fsame _ _ _ _ _ _ _) s) hQ
/-- the number that is copied, as it is -/
theorem slotN {p : Pm} {c : Cs} {Wf : Nat → Nat → BitVec 64} {n : Nat} {a : Act} {w : World} (hn : p.n = (n : Int)) (s : SV p Wf c (fs9 c) B w0 μ a w) : SV p Wf c (fsN c n) B w0 μ a w := by
  obtain ⟨ν, h1, ⟨f1, f2, f3⟩, h3⟩ := s
  refine ⟨ν, h1, ⟨f1, f2, fun t v hv => ?_⟩, h3⟩
  have hm := ofPairs_get (l := fsN c n) (fun q hq => by
    simp only [fsN, List.mem_cons, List.not_mem_nil, or_false] at hq
    rcases hq with rfl | rfl | rfl | rfl | rfl | rfl | rfl | rfl | rfl | rfl | rfl | rfl <;> simp [limit]) hv
  simp only [fsN, List.mem_cons, Prod.mk.injEq, List.not_mem_nil, or_false] at hm
  rcases hm with ⟨rfl, rfl⟩ | ⟨rfl, rfl⟩ | ⟨rfl, rfl⟩ | ⟨rfl, rfl⟩ | ⟨rfl, rfl⟩ | ⟨rfl, rfl⟩ | ⟨rfl, rfl⟩ | ⟨rfl, rfl⟩ | ⟨rfl, rfl⟩ | ⟨rfl, rfl⟩ | ⟨rfl, rfl⟩ | ⟨rfl, rfl⟩
  · exact f3 0 _ (by kernel_rfl)
  · exact f3 1 _ (by kernel_rfl)
  · exact f3 2 _ (by kernel_rfl)
  · exact f3 3 _ (by kernel_rfl)
  · obtain ⟨v', k1, k2⟩ := f3 4 (.oi 4) (by kernel_rfl)
    refine ⟨v', k1, ?_⟩
    simp only [vrel] at k2 ⊢
    rw [k2]
    show Value.int .i64 p.n = _
    rw [hn]
  · exact f3 5 _ (by kernel_rfl)
  · exact f3 6 _ (by kernel_rfl)
  · exact f3 15 _ (by kernel_rfl)
  · exact f3 16 _ (by kernel_rfl)
  · exact f3 17 _ (by kernel_rfl)
  · exact f3 19 _ (by kernel_rfl)
  · exact f3 20 _ (by kernel_rfl)
theorem Wk_at (p : Pm) (i : Nat) : ∀ n, Wk p n (p.s + 3 + i) = if p.t ≤ i ∧ i < p.t + n then p.W (3 + (p.f + (i - p.t))) else p.W (p.s + 3 + i)
  | 0 => by rw [if_neg (by omega)]; rfl
  | n + 1 => by
    show upd (Wk p n) (p.s + 3 + (p.t + n)) (p.W (3 + (p.f + n))) (p.s + 3 + i) = _
    by_cases e : i = p.t + n
    · rw [if_pos (by omega), show p.s + 3 + i = p.s + 3 + (p.t + n) by omega, upd_eq, show i - p.t = n by omega]
    · rw [upd_ne (by omega), Wk_at p i n]
      by_cases h : p.t ≤ i ∧ i < p.t + n
      · rw [if_pos h, if_pos (by omega)]
      · rw [if_neg h, if_neg (by omega)]
theorem r17 : restn 5 (restn 12 cB) = restn 17 cB := by kernel_rfl
theorem r10 : restn 1 (restn 9 cB) = restn 10 cB := by kernel_rfl
/-- behind the copy -/
theorem from17 {p : Pm} {c : Cs} {W : Nat → BitVec 64} {i : Nat} (o : Ok p c) (v : Va p) (hr : (c.sf || !c.rf) = true) (hb : Base B μ 0) (h : In3 p W) {a : Act} {w : World} (s : SV (p.at i W) (W0 (p.at i W)) c (fs3 c) B w0 μ a w) : (restn 17 cB).wp Tryz.prog (Yes Tryz.prog Tryz.f3 B w0) a w := by
  rw [c3_eq]
  refine wp_seq (wp_seq (wp_mono (go (p := p.at i W) (p' := p.at 0 W) (Wf := W0 (p.at i W)) (Wf' := W0 (p.at 0 W)) hb (likeAt _ _ _ _ _) (ii := .int .i64 0) (v := 6) rfl rfl (fun m _ => rfl) (hi3_all c o.hc hr (p.at i W) (W0 (p.at i W))) s) ?_))
  rintro e a' w' ⟨rfl, s2⟩
  refine wp_block (wp_mono (wp_loop_rounds _ (rounds3 o v hr hb h p.lb 0 (by omega) a' w' s2)) ?_)
  rintro e a2 w2 ⟨rfl, s3⟩
  exact tru (he3_all c o.hc hr (p.at p.lb W) (W0 (p.at p.lb W))) s3
theorem in3_of {p : Pm} {c : Cs} {W : Nat → BitVec 64} {n i : Nat} (o : Ok p c) (v : Va p) (hn : p.n = (n : Int)) (h : In2 p 0 p.lb W) : In3 p (Wk (p.at i W) n) := by
  have hft := v.fn
  have htn := v.tn
  have hf := v.hf
  have ht := v.ht
  refine ⟨by rw [Wk_lo (p.at i W) n p.s (show p.s < p.s + 3 by omega)]; exact h.h3, by rw [Wk_lo (p.at i W) n (p.s + 2) (show p.s + 2 < p.s + 3 by omega)]; exact h.h4, fun k hi => ?_⟩
  refine (Wk_at (p.at i W) k n).trans ?_
  show (if p.t ≤ k ∧ k < p.t + n then W (3 + (p.f + (k - p.t))) else W (p.s + 3 + k)) = _
  by_cases g : p.t ≤ k ∧ k < p.t + n
  · rw [if_pos g, if_pos (by omega), h.hA _ (by omega), show p.f + (k - p.t) = p.f + k - p.t by omega]
  · rw [if_neg g, if_neg (by omega), h.hB _ hi]
/-- behind the second loop -/
theorem from12 {p : Pm} {c : Cs} {W : Nat → BitVec 64} {i : Nat} (o : Ok p c) (hr : (c.sf || !c.rf) = true) (hb : Base B μ 0) (h : In2 p 0 p.lb W) (hf : 0 ≤ p.fr → p.fr = (p.f : Int)) (ht : 0 ≤ p.to → p.to = (p.t : Int)) (m1 : p.fr ≤ 9223372036854775807) (m2 : p.to ≤ 9223372036854775807) {a : Act} {w : World} (s : SV (p.at i W) (Wf3 (p.at i W)) c (fs9 c) B w0 μ a w) : (restn 12 cB).wp Tryz.prog (Yes Tryz.prog Tryz.f3 B w0) a w := by
  by_cases h1 : p.fr < 0
  · exact tru (gb1_all c o.hc hr (p.at i W) o.la20 o.lb20 o.tx o.ty o.tt o.s8 h.h0 h.h2 h.h3 h.h4 o.sY1 o.sY2 o.sY3 o.sY4 h1) s
  have h1' : 0 ≤ p.fr := by omega
  by_cases h2 : p.to < 0
  · exact tru (gb2_all c o.hc hr (p.at i W) o.la20 o.lb20 o.tx o.ty o.tt o.s8 h.h0 h.h2 h.h3 h.h4 o.sY1 o.sY2 o.sY3 o.sY4 h1' h2) s
  have h2' : 0 ≤ p.to := by omega
  by_cases h3 : p.n < 0
  · exact tru (gb3_all c o.hc hr (p.at i W) o.la20 o.lb20 o.tx o.ty o.tt o.s8 h.h0 h.h2 h.h3 h.h4 o.sY1 o.sY2 o.sY3 o.sY4 h1' h2' h3) s
  have h3' : 0 ≤ p.n := by omega
  by_cases h4 : p.n > (p.la : Int) - p.fr
  · by_cases h5 : p.fr > 100
    · exact tru (gb4a_all c o.hc hr (p.at i W) o.la20 o.lb20 o.tx o.ty o.tt o.s8 h.h0 h.h2 h.h3 h.h4 o.sY1 o.sY2 o.sY3 o.sY4 h1' h2' h3' m1 m2 h4 h5) s
    have h5' : p.fr ≤ 100 := by omega
    by_cases h6 : p.to > 100
    · exact tru (gb4b_all c o.hc hr (p.at i W) o.la20 o.lb20 o.tx o.ty o.tt o.s8 h.h0 h.h2 h.h3 h.h4 o.sY1 o.sY2 o.sY3 o.sY4 h1' h2' h3' m1 m2 h4 h5' h6) s
    have h6' : p.to ≤ 100 := by omega
    by_cases h7 : p.n > 100
    · exact tru (gb4c_all c o.hc hr (p.at i W) o.la20 o.lb20 o.tx o.ty o.tt o.s8 h.h0 h.h2 h.h3 h.h4 o.sY1 o.sY2 o.sY3 o.sY4 h1' h2' h3' m1 m2 h4 h5' h6' h7) s
    · exact tru (gb4d_all c o.hc hr (p.at i W) o.la20 o.lb20 o.tx o.ty o.tt o.s8 h.h0 h.h2 h.h3 h.h4 o.sY1 o.sY2 o.sY3 o.sY4 h1' h2' h3' m1 m2 h4 h5' h6' (show p.n ≤ 100 by omega)) s
  have h4' : p.n ≤ (p.la : Int) - p.fr := by omega
  by_cases h5 : p.n > (p.lb : Int) - p.to
  · by_cases h6 : p.to > 100
    · exact tru (gb5a_all c o.hc hr (p.at i W) o.la20 o.lb20 o.tx o.ty o.tt o.s8 h.h0 h.h2 h.h3 h.h4 o.sY1 o.sY2 o.sY3 o.sY4 h1' h2' h3' m1 m2 h4' h5 h6) s
    have h6' : p.to ≤ 100 := by omega
    cases hca : c.ca with
    | true => exact tru (gb5b_all c o.hc hr hca (p.at i W) o.la20 o.lb20 o.tx o.ty o.tt o.s8 h.h0 h.h2 h.h3 h.h4 o.sY1 o.sY2 o.sY3 o.sY4 h1' h2' h3' m1 m2 h4' h5 h6') s
    | false => exact tru (gb5n_all c o.hc hr hca (p.at i W) o.la20 o.lb20 o.tx o.ty o.tt o.s8 h.h0 h.h2 h.h3 h.h4 o.sY1 o.sY2 o.sY3 o.sY4 h1' h2' h3' m1 m2 h4' h5 h6' (o.na hca)) s
  have l20 := o.la20
  obtain ⟨n, hn⟩ : ∃ n : Nat, p.n = (n : Int) := ⟨p.n.toNat, by omega⟩
  have hf' := hf h1'
  have ht' := ht h2'
  have v : Va p := ⟨hf', ht', h3', by omega, by omega, by omega⟩
  have nn : 0 < n → c.ca = true ∧ c.cb = true := fun g => ⟨o.ha (by omega), o.hb (by omega)⟩
  have na : (!c.ca) = true → (p.at i W).la = 0 := fun g => o.na (by simpa using g)
  have nb : (!c.cb) = true → (p.at i W).lb = 0 := fun g => o.nb (by simpa using g)
  have e := gc_all n (by omega) c o.hc hr nn (p.at i W) o.la20 o.lb20 o.tx o.ty o.tt o.s8 h.h0 h.h2 h.h3 h.h4 o.sY1 o.sY2 o.sY3 o.sY4 hf' ht' hn (show p.f + n ≤ p.la by omega) (show p.t + n ≤ p.lb by omega) na nb
  refine goFirst (p := p.at i W) (p' := p.at i (Wk (p.at i W) n)) (c := c) (Wf := Wf3 (p.at i W)) (Wf' := W0 (p.at i (Wk (p.at i W) n))) (ii := .oi 5) (v := 6 + n) (ex := [(.int .i64 (n : Int), 4)]) hb (likeAt p i i W (Wk (p.at i W) n)) rfl rfl (ipCons (inEq (j := 4) (show (IntKind.i64, (n : Int)) = (IntKind.i64, p.n) by rw [hn])) ipNil) (fun m _ => ?_) e (slotN (p := p.at i W) hn s) ?_
  · show Wk (p.at i W) n m = Wk (p.at i W) (6 + n - 6) m
    rw [show 6 + n - 6 = n by omega]
  · intro a' w' s2
    rw [r17]
    exact from17 o v hr hb (in3_of o v hn h) s2
/-- behind the choice of the second array -/
theorem from10 {p : Pm} {c : Cs} {W : Nat → BitVec 64} {sh : Int} (o : Ok p c) (hb : Base B μ 0) (h : In1 p sh 0 W) (s0 : (c.sf || !c.rf) = true → sh = 0) (s1 : (c.sf || !c.rf) = false → sh = 1) (hf : 0 ≤ p.fr → p.fr = (p.f : Int)) (ht : 0 ≤ p.to → p.to = (p.t : Int)) (m1 : p.fr ≤ 9223372036854775807) (m2 : p.to ≤ 9223372036854775807) {a : Act} {w : World} (s : SV (p.at 0 W) (W1 (p.at 0 W)) c (fs9 c) B w0 μ a w) : (restn 10 cB).wp Tryz.prog (Yes Tryz.prog Tryz.f3 B w0) a w := by
  rw [c1_eq]
  refine wp_seq (wp_seq (wp_mono (go (p := p.at 0 W) (p' := p.at 0 W) (Wf := W1 (p.at 0 W)) (Wf' := W1 (p.at 0 W)) hb (likeAt _ _ _ _ _) (ii := .int .i64 0) (v := 6) rfl rfl (fun m _ => rfl) (hi1_all c o.hc (p.at 0 W) (W1 (p.at 0 W))) s) ?_))
  rintro e a' w' ⟨rfl, s2⟩
  refine wp_block (wp_mono (wp_loop_rounds _ (rounds1 o hb p.la 0 W (by omega) h a' w' s2)) ?_)
  rintro e a2 w2 ⟨rfl, W', h', s3⟩
  show (restn 11 cB).wp Tryz.prog (Yes Tryz.prog Tryz.f3 B w0) a2 w2
  rw [c2_eq]
  refine wp_seq (wp_seq (wp_mono (go (p := p.at p.la W') (p' := p.at 0 W') (Wf := W2 (p.at p.la W')) (Wf' := W2 (p.at 0 W')) hb (likeAt _ _ _ _ _) (ii := .int .i64 0) (v := 6) rfl rfl (fun m _ => rfl) (hi2_all c o.hc (p.at p.la W') (W2 (p.at p.la W'))) s3) ?_))
  rintro e a3 w3 ⟨rfl, s4⟩
  cases hr : (c.sf || !c.rf) with
  | true =>
    have e0 := s0 hr
    subst e0
    refine wp_block (wp_mono (wp_loop_rounds _ (rounds2 o hr hb p.lb 0 W' (by omega) ⟨h', fun k hk => absurd hk (by omega)⟩ a3 w3 s4)) ?_)
    rintro e a4 w4 ⟨rfl, W2, h2, s5⟩
    exact from12 o hr hb h2 hf ht m1 m2 s5
  | false =>
    have e1 := s1 hr
    subst e1
    refine wp_block (wp_mono (wp_loop_rounds _ (none2 o hr hb W' a3 w3 s4)) ?_)
    rintro e a4 w4 ⟨rfl, s5⟩
    exact tru (ges_all c o.hc hr (p.at 0 W') o.la20 o.lb20 o.tx o.ty o.tt o.s8 h'.h0 h'.h2 h'.h3 h'.h4 o.sY1 o.sY2 o.sY3 o.sY4) s5
end
theorem WX0 {la lb : Nat} {rf : Bool} : wI (WX la lb rf 0) = 0 := by
  unfold WX
  rw [upd_ne (by omega), upd_ne (by omega), upd_ne (by omega)]; rfl
theorem WX2 {la lb : Nat} {rf : Bool} (h : la ≤ 20) : wI (WX la lb rf 2) = (la : Int) := by
  unfold WX
  rw [upd_ne (by omega), upd_ne (by omega), upd_eq, natW (by omega)]
theorem WX3 {la lb : Nat} {rf : Bool} : wI (WX la lb rf (3 + la)) = Bool.rec 0 1 rf := by
  unfold WX
  rw [upd_ne (by omega), upd_eq]; cases rf <;> rfl
theorem WX5 {la lb : Nat} {rf : Bool} (h : lb ≤ 20) : wI (WX la lb rf (3 + la + 2)) = (lb : Int) := by
  unfold WX
  rw [show 3 + la + 2 = 5 + la by omega, upd_eq, natW (by omega)]
noncomputable def mkS (la lb : Nat) (fr to n : Int) (rf : Bool) (A : Nat → Int) (b o cap : Nat) : Pm := ⟨la, la, 0, 6 + la + lb, 0, fr.toNat, to.toNat, fr, to, n, A, A, fun m => WX la lb rf m, b, o, cap, b, o, cap⟩
section
variable {w : World} {v u : Value} {ca cb : Bool} {b o cap len b' o' cap' len' : Nat} {A A' : Nat → Int} {fr to n : Int} {sf rf : Bool}
theorem Arg.no (h : Arg w v ca b o cap len A) (e : ca = false) : len = 0 := by rcases h.val with ⟨_, _, h0⟩ | ⟨h1, _⟩; exact h0; rw [e] at h1; cases h1
theorem Arg.yes (h : Arg w v ca b o cap len A) (e : 0 < len) : ca = true := by rcases h.val with ⟨_, _, h0⟩ | ⟨h1, _⟩; omega; exact h1
theorem okN (ha : Arg w v ca b o cap len A) (hb : Arg w u cb b' o' cap' len' A') : Ok (mkP (min len 20) (min len' 20) fr to n rf A A' b o cap b' o' cap') ⟨ca, cb, false, rf⟩ := by
  refine ⟨show min len 20 ≤ 20 by omega, show min len' 20 ≤ 20 by omega, show 3 + min len 20 ≤ 6 + min len 20 + min len' 20 by omega, show 3 + min len 20 + 3 + min len' 20 ≤ 6 + min len 20 + min len' 20 by omega, show 6 + min len 20 + min len' 20 ≤ 60 by omega, rfl, fun h => (by cases h), fun h => (by cases h), fun h => ha.yes ?_, fun h => hb.yes ?_, fun h => ?_, fun h => ?_, ha.rng, hb.rng⟩
  · have h' : 0 < min len 20 := h
    omega
  · have h' : 0 < min len' 20 := h
    omega
  · have := ha.no h
    show min len 20 = 0
    omega
  · have := hb.no h
    show min len' 20 = 0
    omega
theorem okS (ha : Arg w v ca b o cap len A) (hb : Arg w u cb b' o' cap' len' A') : Ok (mkS (min len 20) (min len' 20) fr to n rf A b o cap) ⟨ca, ca, true, rf⟩ := by
  refine ⟨show min len 20 ≤ 20 by omega, show min len 20 ≤ 20 by omega, show 3 + min len 20 ≤ 6 + min len 20 + min len' 20 by omega, show 0 + 3 + min len 20 ≤ 6 + min len 20 + min len' 20 by omega, show 6 + min len 20 + min len' 20 ≤ 60 by omega, rfl, fun h => ⟨rfl, rfl⟩, fun h => rfl, fun h => ha.yes ?_, fun h => ha.yes ?_, fun h => ?_, fun h => ?_, ha.rng, ha.rng⟩
  · have h' : 0 < min len 20 := h
    omega
  · have h' : 0 < min len 20 := h
    omega
  · have := ha.no h
    show min len 20 = 0
    omega
  · have := ha.no h
    show min len 20 = 0
    omega
theorem glS {la lb : Nat} {Wf Wf' : Nat → Nat → BitVec 64} {B : Kp} {w0 : World} : @Gl (plV (mkP la lb fr to n rf A A' b o cap b' o' cap') Wf) B w0 → @Gl (plV (mkS la lb fr to n rf A b o cap) Wf') B w0 := fun g => ⟨fun g o a h => (by cases h), fun i m a h => by
    have h' : numV .i64 la A m = some a := by
      match i, h with
      | 0, h => exact h
      | 1, h => exact h
      | (i + 2), h => cases h
    obtain ⟨hm, rfl⟩ := numV_some h'
    obtain ⟨k1, v, k2, k3⟩ := g.2 0 m _ h'
    have e : (plV (mkS la lb fr to n rf A b o cap) Wf').fb i = (b, o) := by
      match i, h with
      | 0, h => rfl
      | 1, h => rfl
      | (i + 2), h => cases h
    rw [e]
    refine ⟨k1, v, k2, ?_⟩
    simp only [vrel] at k3 ⊢
    exact k3⟩
/-- the law -/
theorem law_args (ha : Arg w v ca b o cap len A) (hb : Arg w u cb b' o' cap' len' A') (m1 : fr ≤ 9223372036854775807) (m2 : to ≤ 9223372036854775807) :
    Calls Tryz.prog 3 #[v, u, .int .i64 fr, .int .i64 to, .int .i64 n, .bool sf, .bool rf] w fun e w' => e = .returned (.bool true) ∧ Below w.heap.size w w' := by
  refine yes_calls Tryz.func3 cB_eq w ?_
  refine entry ha hb fun a' w' s => ?_
  have e := hs9_all ⟨ca, cb, sf, rf⟩ (mkP (min len 20) (min len' 20) fr to n rf A A' b o cap b' o' cap') (W1 (mkP (min len 20) (min len' 20) fr to n rf A A' b o cap b' o' cap'))
  cases sf with
  | false =>
    refine goFirst (p := (mkP (min len 20) (min len' 20) fr to n rf A A' b o cap b' o' cap')) (p' := (mkP (min len 20) (min len' 20) fr to n rf A A' b o cap b' o' cap')) (c := ⟨ca, cb, false, rf⟩) (Wf := W1 (mkP (min len 20) (min len' 20) fr to n rf A A' b o cap b' o' cap')) (Wf' := W1 (mkP (min len 20) (min len' 20) fr to n rf A A' b o cap b' o' cap')) (ii := .oi 5) (v := 6) (ex := []) (Base.none _) (likeAt (mkP (min len 20) (min len' 20) fr to n rf A A' b o cap b' o' cap') 0 0 _ _) rfl rfl ipNil (fun m _ => rfl) e s fun a2 w2 s2 => ?_
    rw [r10]
    refine from10 (p := mkP (min len 20) (min len' 20) fr to n rf A A' b o cap b' o' cap') (c := ⟨ca, cb, false, rf⟩) (W := WX (min len 20) (min len' 20) rf) (sh := Bool.rec 0 1 rf) (okN ha hb) (Base.none _) ⟨WX0, WX2 (by omega), WX3, WX5 (by omega), fun k hk => absurd hk (by omega)⟩ (fun h => ?_) (fun h => ?_) (fun h => (Int.toNat_of_nonneg h).symm) (fun h => (Int.toNat_of_nonneg h).symm) m1 m2 s2
    · cases rf with
      | false => rfl
      | true => cases h
    · cases rf with
      | false => cases h
      | true => rfl
  | true =>
    have hip : IpOk (plV (mkP (min len 20) (min len' 20) fr to n rf A A' b o cap b' o' cap') (W1 (mkP (min len 20) (min len' 20) fr to n rf A A' b o cap b' o' cap'))) (plV (mkS (min len 20) (min len' 20) fr to n rf A b o cap) (W1 (mkS (min len 20) (min len' 20) fr to n rf A b o cap))) cv9.ip :=
      ipCons ⟨rfl, rfl⟩ (ipCons ⟨rfl, rfl⟩ (ipCons rfl (ipCons rfl (ipCons rfl (ipCons rfl (ipCons rfl (ipCons rfl (ipCons rfl (ipCons rfl ipNil)))))))))
    refine firstTo_sound (T := plV (mkP (min len 20) (min len' 20) fr to n rf A A' b o cap b' o' cap') (W1 (mkP (min len 20) (min len' 20) fr to n rf A A' b o cap b' o' cap'))) (T' := plV (mkS (min len 20) (min len' 20) fr to n rf A b o cap) (W1 (mkS (min len 20) (min len' 20) fr to n rf A b o cap))) mixed (@nq.K_top0_ok (plV (mkP (min len 20) (min len' 20) fr to n rf A A' b o cap b' o' cap') (W1 (mkP (min len 20) (min len' 20) fr to n rf A A' b o cap b' o' cap')))) (C := cv9) (Base.none _) (Nat.zero_le _) (rl := rlC) rfl (by kernel_rfl) hip
      (vpCons (relV (p := mkP (min len 20) (min len' 20) fr to n rf A A' b o cap b' o' cap') (p' := mkS (min len 20) (min len' 20) fr to n rf A b o cap) hip rfl rfl rfl (fun m _ => rfl)) vpNil) glS e s fun a2 w2 s2 => ?_
    rw [r10]
    exact from10 (p := mkS (min len 20) (min len' 20) fr to n rf A b o cap) (c := ⟨ca, ca, true, rf⟩) (W := WX (min len 20) (min len' 20) rf) (sh := 0) (okS ha hb) (Base.none _) ⟨WX0, WX2 (by omega), WX0, WX2 (by omega), fun k hk => absurd hk (by omega)⟩ (fun h => rfl) (fun h => by cases h) (fun h => (Int.toNat_of_nonneg h).symm) (fun h => (Int.toNat_of_nonneg h).symm) m1 m2 s2
end
open Go.ChangeShapes Go.WideShapes
theorem arg_any {w : World} {v : Value} {H : Type} {enc : TypeId × Value → H} {base : Nat} {spare : Nat → Bool} {held : Bool} {d : DataW H} {ps : List MemPlace} (hval : Value.okWide Tryz.prog w .any 0 22 v) (h : DataW.Trod enc Tryz.prog w base spare held 22 v d ps) :
    ∃ c b o cap len A, Arg w v c b o cap len A := by
  obtain ⟨a0, len0, cap0, rfl⟩ := okWide_slice Tryz.underlying22 hval
  obtain ⟨fuel, hf⟩ := h
  rcases open_ints Tryz.underlying22 Tryz.underlying2 (by kernel_rfl) hf with ⟨h0, _⟩ | ⟨a, len, cap, zs, h0, _, hcap, hm, hz, _, hc, hw⟩
  · have h1 : Value.slice a0 len0 cap0 = .slice none 0 0 := by simpa [Value.cells] using h0
    rw [h1]
    exact ⟨false, 0, 0, 0, 0, fun _ => 0, ⟨.inl ⟨rfl, rfl, rfl⟩, fun m hm => absurd hm (by omega), fun m => ⟨by decide, by decide⟩⟩⟩
  · have h1 : Value.slice a0 len0 cap0 = .slice (some a) len cap := by simpa [Value.cells] using h0
    rw [h1] at hval ⊢
    have hs : a.spot = none := by
      simp only [Value.okWide, Tryz.underlying22, Cell.okWide, Cell.ok] at hval
      exact hval.2.2.2.1
    obtain ⟨b, o, sp⟩ := a
    simp only at hs
    subst hs
    have hA : len ≤ zs.length := by rw [hz]; split <;> omega
    refine ⟨true, b, o, cap, len, fun k => zs.getD k 0, ⟨.inr ⟨rfl, rfl, hcap, by unfold maxLen at hm; omega⟩, fun m hm => by rw [← WideShapes.add_plain]; exact hc m (by omega), fun k => ?_⟩⟩
    by_cases hk : k < zs.length
    · have hmem : zs.getD k 0 ∈ zs := by
        rw [List.getD_eq_getElem?_getD, List.getElem?_eq_getElem hk]
        exact List.getElem_mem hk
      have := hw _ hmem
      simp only [Lit.wf, Bool.and_eq_true, decide_eq_true_eq] at this
      have h3 : (-9223372036854775808 : Int) ≤ zs.getD k 0 := this.1
      have h4 : zs.getD k 0 ≤ 9223372036854775807 := this.2
      exact ⟨h3, h4⟩
    · have e : zs.getD k 0 = 0 := by
        rw [List.getD_eq_getElem?_getD, List.getElem?_eq_none (by omega)]; rfl
      rw [e]; exact ⟨by decide, by decide⟩
/-- the law, for whatever the call is handed -/
theorem any {w : World} {fr to n : Int} (w2 : (Lit.int .i64 fr).wf = true) (w3 : (Lit.int .i64 to).wf = true) (sf rf : Bool) {v u : Value} {H : Type} {enc : TypeId × Value → H} {base : Nat} {spare : Nat → Bool} {held : Bool} {d : DataW H} {ps : List MemPlace} (hval : Value.okWide Tryz.prog w .any 0 22 v) (h : DataW.Trod enc Tryz.prog w base spare held 22 v d ps)
    {base' : Nat} {spare' : Nat → Bool} {held' : Bool} {d' : DataW H} {ps' : List MemPlace} (hval' : Value.okWide Tryz.prog w .any 0 22 u) (h' : DataW.Trod enc Tryz.prog w base' spare' held' 22 u d' ps') :
    Calls Tryz.prog 3 #[v, u, .int .i64 fr, .int .i64 to, .int .i64 n, .bool sf, .bool rf] w fun e w' => e = .returned (.bool true) ∧ Below w.heap.size w w' := by
  obtain ⟨c, b, o, cap, len, A, g1⟩ := arg_any hval h
  obtain ⟨c', b', o', cap', len', A', g2⟩ := arg_any hval' h'
  simp only [Lit.wf, Bool.and_eq_true, decide_eq_true_eq] at w2 w3
  exact law_args g1 g2 w2.2 w3.2
end Go.Proofs.YtbjgdfijonkomaaGreatDoor.nc
