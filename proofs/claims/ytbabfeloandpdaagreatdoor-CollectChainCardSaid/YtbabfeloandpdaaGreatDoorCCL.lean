/-
  The law CollectChain: the contract of Run.
-/
import Derived.Test.YtbabfeloandpdaaGreatDoorCCJ
set_option linter.unusedVariables false
set_option linter.unusedSimpArgs false
set_option linter.unusedSectionVars false
set_option maxRecDepth 1000000
set_option maxHeartbeats 0
namespace Go.Proofs.YtbabfeloandpdaaGreatDoor.cc
open Go.X Go.RowKit Go.Proofs
noncomputable def r6 : Code := restn 6 rC
noncomputable abbrev RD (p : Pc) (h : Ok p) (hw : Wok p) (hc : p.c < p.n) : RwP p 0 where
  vvp := vvPp p 0
  ib := rowsC ++ []
  ibok := rowsC_ok h hc ibNil
  vl := [⟨10, 31, 1, 0, [.int .u64 0]⟩]
  vlok := vlC_ h hw hc allNil
noncomputable abbrev MD (p : Pc) (hm : p.ma = mapU ([], 0) ((3 * p.c + 1 : Nat) : Int) 1) : Mw p 0 where
  ml := [(4, .oi 32, .int .i64 0, false)]
  mlok := allCons ⟨_, rfl, (fun e => by cases e), fun _ => rfl⟩ (fun r h => nomatch h)
  mu := [(4, .oi 32, .int .i64 1, 0)]
  muok := allCons ⟨_, 1, rfl, rfl, hm⟩ (fun r h => nomatch h)
noncomputable abbrev rFr : Fr := T.ofList 0 .leaf [.ptr 3255 0, .sl 20010 0 1 1]
noncomputable abbrev iB2 : IP := [(.oi 0, 0), (.oi 2, 2)]
noncomputable abbrev rlD (a b c d : Nat) : List (Nat × Nat) := [(30001, a), (30002, b), (30003, c), (30004, d)]
noncomputable abbrev CD (a b c d : Nat) (ip : IP) : Cv := ⟨30000, 30005, ofPairs (rlD a b c d), ip⟩
noncomputable abbrev rlE (e : Nat) : List (Nat × Nat) := [(30001, 30001), (30002, 30002), (30003, 30003), (30004, 30004), (30005, e)]
noncomputable abbrev CE (e : Nat) (ip : IP) : Cv := ⟨30000, 30006, ofPairs (rlE e), ip⟩
theorem gD0 (p : Pc) : firstTo (T0 p 0) Tryz.prog Hand.none 3000 ntR 4 rC rFr (hIn 20011 preR) (CD 20011 20013 20012 20014 ((.nilm, 4) :: (.oi 32, 32) :: iB2)) (vW 10 10) fsD (bsD 20011 20013 20012 20014) = true := by as_aux_lemma => kernel_rfl
theorem gD1 (p : Pc) (h : Ok p) (hw : Wok p) (hc : p.c < p.n) (hm : p.ma = mapU ([], 0) ((3 * p.c + 1 : Nat) : Int) 1) : runTo (Tb (RD p h hw hc) (MD p hm)) Tryz.prog hC 3000 ntR r4 (frOf fsD) (hOf 30005 (bsD 30001 30002 30003 30004)) .normal (CE 30006 ((.map 0, 0) :: (.oi 32, 32) :: iB2)) (vW 10 10) fsE (bsE 30001 30002 30003 30004 30006 0 1) = true := by as_aux_lemma => kernel_rfl
theorem gM1 (p : Pc) (d : Nat) (h : Ok p) (hw : Wok p) (hc : p.c < p.n) (hv : Vok p d) (h1 : mapL p.v p.ma.1 = none) (h2 : p.ma' = mapU p.ma p.v 1) : runTo (Tb (RN p 0 d h hw hc hv) (MN p 0 h1 h2)) Tryz.prog (hC.or hD) 3000 ntR r5 (frOf fsE) (hOf 30006 (bsE 30001 30002 30003 30004 30005 0 1)) .normal (CE 30005 ((.map 1, 0) :: (.oi 35, 32) :: iB2)) (vW 10 10) fsE (bsE 30001 30002 30003 30004 30005 0 1) = true := by as_aux_lemma => kernel_rfl
noncomputable abbrev iN0 : IP := (.map 0, 0) :: (.oi 32, 32) :: iB2
theorem gM2 (p : Pc) (d : Nat) (h : Ok p) (hw : Wok p) (hc : p.c < p.n) (hv : Vok p d) (h1 : mapL p.v p.ma.1 = some 1) : runTo (Tb (RN p 0 d h hw hc hv) (MY p 0 h1)) Tryz.prog (hC.or hD) 3000 ntR r5 (frOf fsE) (hOf 30006 (bsE 30001 30002 30003 30004 30005 0 1)) .normal (CE 30005 iN0) (vW 10 10) fsE (bsE 30001 30002 30003 30004 30005 0 0) = true := by as_aux_lemma => kernel_rfl
theorem gM3 (p : Pc) (h : Ok p) (hw : Wok p) (hc : p.c < p.n) (hz : p.v = 0) (h1 : mapL 0 p.ma.1 = none) : runTo (Tb (RZ p 0 h hw hc hz) (MZ p 0 h1)) Tryz.prog (hC.or hZ) 3000 ntR r5 (frOf fsE) (hOf 30006 (bsE 30001 30002 30003 30004 30005 0 1)) .normal (CE 30005 iN0) (vW 10 10) fsE (bsE 30001 30002 30003 30004 30005 0 0) = true := by as_aux_lemma => kernel_rfl
noncomputable abbrev fsR : List (Nat × AV) := [(2, .ptr 30001 0), (6, .ptr 30002 0)]
noncomputable abbrev bsR : BS := (30001, 30001, cel (.ptr 3255 0)) :: hG
noncomputable abbrev rlR : List (Nat × Nat) := [(30001, 30001), (30002, 30002), (30003, 30003)]
noncomputable abbrev CR (ip : IP) : Cv := ⟨30000, 30006, ofPairs rlR, ip⟩
theorem gM4 (p : Pc) : runTo (T0 p 0) Tryz.prog Hand.none 3000 ntR r5 (frOf fsE) (hOf 30006 (bsE 30001 30002 30003 30004 30005 0 0)) (.exit 2) (CR ((.map 0, 0) :: iB2)) (vW 10 10) fsR bsR = true := by as_aux_lemma => kernel_rfl
noncomputable abbrev postR : BS := [(20021, 30011, .omap 5), (20022, 30012, .vec 23), (20001, 20001, .vec 22), (20004, 20004, shp 20005), (20005, 20005, knd), (3255, 3255, hp 20001 4 20022 3 20004), (3254, 3254, mp)]
noncomputable abbrev CP' (ip : IP) : Cv := ⟨20011, 20050, ofPairs [(20021, 30011), (20022, 30012)], ip⟩
noncomputable abbrev hS' : Hand := inHand slI
theorem gP (p : Pc) : runTo (T0 p 0) Tryz.prog hS' 3000 ntR r6 (frOf fsR) (hOf 30006 bsR) .ret (CP' iZ) [(20001, .vec 22, 22), (30012, .vec 23, 23)] [(4, .map 20021), (5, .oi 4)] postR = true := by as_aux_lemma => kernel_rfl
noncomputable def runI : In := ⟨10, [.ptr 3255 0, .sl 20010 0 1 1], 20011, preR, .tup [.map 20021, .oi 4], 20050, bsOf postR⟩
theorem rnLim : okLim runI.bs' = true := by as_aux_lemma => kernel_rfl
theorem rnLim0 : okLim runI.bs = true := by as_aux_lemma => kernel_rfl
theorem rnAll : hasAll (hOf 20050 postR) runI.bs' = true := by as_aux_lemma => kernel_rfl
theorem rnRes : results? Tryz.prog Tryz.f10 (frOf [(4, .map 20021), (5, .oi 4)]) (hOf 20050 postR) = some (.tup [.map 20021, .oi 4]) := by as_aux_lemma => kernel_rfl
theorem orOk {T : Tab} {K L : Hand} (h1 : @HandOk T Tryz.prog K) (h2 : @HandOk T Tryz.prog L) : @HandOk T Tryz.prog (K.or L) := by
  letI := T
  exact HandOk.or h1 h2
/- what is marked -/
def ps (n f j : Nat) : Nat := if f + j < n then f + j else f + j - n
def mkM (n f m : Nat) : List (Int × Int × Nat) × Nat := ((List.range m).map fun j => (((3 * ps n f j + 1 : Nat) : Int), (1 : Int), j), m)
theorem mapL_no {n f m : Nat} {v : Int} (h : ∀ j, j < m → v ≠ ((3 * ps n f j + 1 : Nat) : Int)) : mapL v (mkM n f m).1 = none := by
  have hn : ∀ (l : List Nat), (∀ j ∈ l, j < m) → mapL v (l.map fun j => ((((3 * ps n f j + 1 : Nat) : Int), (1 : Int), j) : Int × Int × Nat)) = none := by
    intro l
    induction l with
    | nil => intro _; rfl
    | cons j l ih =>
      intro hl
      simp only [List.map_cons, mapL]
      rw [if_neg (h j (hl j (by simp)))]
      exact ih fun i hi => hl i (by simp [hi])
  exact hn _ (fun j hj => List.mem_range.1 hj)
theorem mapL_yes {n f m j : Nat} (hj : j < m) : mapL ((3 * ps n f j + 1 : Nat) : Int) (mkM n f m).1 = some 1 := by
  have hn : ∀ (l : List Nat), j ∈ l → mapL ((3 * ps n f j + 1 : Nat) : Int) (l.map fun j => ((((3 * ps n f j + 1 : Nat) : Int), (1 : Int), j) : Int × Int × Nat)) = some 1 := by
    intro l
    induction l with
    | nil => intro h; cases h
    | cons i l ih =>
      intro hl
      simp only [List.map_cons, mapL]
      by_cases e : ((3 * ps n f j + 1 : Nat) : Int) = ((3 * ps n f i + 1 : Nat) : Int)
      · rw [if_pos e]
      · rw [if_neg e]
        exact ih (by rcases List.mem_cons.1 hl with h | h; exact absurd (by rw [h]) e; exact h)
  exact hn _ (List.mem_range.2 hj)
theorem mapU_mk {n f m : Nat} (h : ∀ j, j < m → ps n f j ≠ ps n f m) : mapU (mkM n f m) ((3 * ps n f m + 1 : Nat) : Int) 1 = mkM n f (m + 1) := by
  unfold mapU
  rw [mapL_no fun j hj e => h j hj (by omega)]
  simp only [mkM]
  rw [List.range_succ, List.map_append]
  rfl
/-- the words behind the making of the chain -/
def chW (n : Nat) (r : Bool) (c : Nat) : Int := if c + 1 < n then ((3 * (c + 1) + 1 : Nat) : Int) else if r then 1 else 0
structure Chn (p : Pc) (r : Bool) : Prop where
  ok : Ok p
  w : Wok p
  u : ∀ c, c < p.n → wI (p.W (3 * c + 2)) = chW p.n r c
  g : p.g = if r then 0 else p.f
section
variable {p : Pc} {r : Bool} {B : Kp} {w0 : World} {μ : M} {a : Act} {w : World}
/-- m are marked, the last one is to be looked at -/
def pm (p : Pc) (m : Nat) : Pc := { p with c := ps p.n p.f (m - 1), ma := mkM p.n p.f m, ma' := mkM p.n p.f (m + 1) }
def SM (p : Pc) (m : Nat) (B : Kp) (w0 : World) (μ : M) (a : Act) (w : World) : Prop := St (T0 (pm p m) 0) B w0 μ ntR (frOf fsE) (hOf 30006 (bsE 30001 30002 30003 30004 30005 0 1)) a w
def SN (p : Pc) (m : Nat) (B : Kp) (w0 : World) (μ : M) (a : Act) (w : World) : Prop := St (T0 (pm p m) 0) B w0 μ ntR (frOf fsE) (hOf 30006 (bsE 30001 30002 30003 30004 30005 0 0)) a w
def SR (p : Pc) (m : Nat) (B : Kp) (w0 : World) (μ : M) (a : Act) (w : World) : Prop := St (T0 (pm p m) 0) B w0 μ ntR (frOf fsR) (hOf 30006 bsR) a w
theorem Chn.pm (i : Chn p r) (m : Nat) : Ok (pm p m) ∧ Wok (cc.pm p m) := ⟨⟨i.ok.n1, i.ok.n6, i.ok.f1, i.ok.g1⟩, ⟨i.w.z⟩⟩
theorem ps_lt {n f j : Nat} (h : f < n) (hj : j ≤ n) : ps n f j < n := by unfold ps; split <;> omega
theorem cnt_le (i : Chn p r) : p.cnt ≤ p.n := Nat.sub_le _ _
theorem mNext (i : Chn p r) (hb : Base B μ 30000) {m : Nat} (h1 : 1 ≤ m) (h2 : m < p.cnt) (s : SM p m B w0 μ a w) : r5.wp Tryz.prog (fun e a' w' => e = .normal ∧ SM p (m + 1) B w0 μ a' w') a w := by
  have f1 := i.ok.f1
  have hcl := cnt_le i
  have hg := i.g
  have hcc : p.cnt = p.n - p.g := rfl
  have hc : ps p.n p.f (m - 1) < p.n := ps_lt f1 (by omega)
  have hd : ps p.n p.f m < p.n := ps_lt f1 (by omega)
  have hv : (pm p m).v = ((3 * ps p.n p.f m + 1 : Nat) : Int) := by
    show wI (p.W (3 * ps p.n p.f (m - 1) + 2)) = _
    rw [i.u _ hc]
    unfold chW
    cases r with
    | false =>
      have hg : p.g = p.f := hg
      have e1 : ps p.n p.f (m - 1) = p.f + m - 1 := by unfold ps; rw [if_pos (by omega)]; omega
      have e2 : ps p.n p.f m = p.f + m := by unfold ps; rw [if_pos (by omega)]
      rw [e1, e2, if_pos (by omega)]
      congr 1; omega
    | true =>
      have hg : p.g = 0 := hg
      by_cases c1 : p.f + m < p.n
      · have e1 : ps p.n p.f (m - 1) = p.f + m - 1 := by unfold ps; rw [if_pos (by omega)]; omega
        have e2 : ps p.n p.f m = p.f + m := by unfold ps; rw [if_pos c1]
        rw [e1, e2, if_pos (by omega)]
        congr 1; omega
      · have e2 : ps p.n p.f m = p.f + m - p.n := by unfold ps; rw [if_neg c1]
        by_cases c2 : p.f + (m - 1) < p.n
        · have e1 : ps p.n p.f (m - 1) = p.f + m - 1 := by unfold ps; rw [if_pos c2]; omega
          rw [e1, e2, if_neg (by omega)]
          simp only [if_true]
          have : p.f + m - p.n = 0 := by omega
          rw [this]; rfl
        · have e1 : ps p.n p.f (m - 1) = p.f + m - 1 - p.n := by unfold ps; rw [if_neg c2]; omega
          rw [e1, e2, if_pos (by omega)]
          congr 1; omega
  have hne : ∀ j, j < m → ps p.n p.f j ≠ ps p.n p.f m := fun j hj => by
    unfold ps
    split <;> split <;> omega
  have q1 : mapL (pm p m).v (pm p m).ma.1 = none := by
    rw [hv]; exact mapL_no fun j hj e => hne j hj (by omega)
  have q2 : (pm p m).ma' = mapU (pm p m).ma (pm p m).v 1 := by
    rw [hv]; exact (mapU_mk hne).symm
  have hvk : Vok (pm p m) (ps p.n p.f m) := ⟨hv, hd⟩
  have hpm := i.pm m
  exact runTo_sound (T := Tb (RN (pm p m) 0 (ps p.n p.f m) hpm.1 hpm.2 hc hvk) (MN (pm p m) 0 q1 q2)) (T' := T0 (pm p (m + 1)) 0) mixed (K := hC.or hD) (orOk (hC_ok hpm.1 hc _ _) (hD_ok hpm.1 hvk _ _)) (C := CE 30005 ((.map 1, 0) :: (.oi 35, 32) :: iB2)) (ex := .normal) hb (show 30000 ≤ 30006 by decide) (rl := rlE 30005) rfl (by kernel_rfl)
    (ipM (ipCons (ipN (.i64, (pm p m).v) rfl (by show ((IntKind.i64, ((3 * ps p.n p.f (m + 1 - 1) + 1 : Nat) : Int)) : IntKind × Int) = _; rw [hv]; rfl)) (ipE (ipE ipNil)))) (vW0 (n := p.n) (W := p.W) (W' := p.W)) glL (gM1 (pm p m) _ _ _ _ _ _ _) (St.same (Tb.same _ _ _ _) s)
theorem mLast (i : Chn p r) (hb : Base B μ 30000) {m : Nat} (h1 : 1 ≤ m) (h2 : m = p.cnt) (s : SM p m B w0 μ a w) : r5.wp Tryz.prog (fun e a' w' => e = .normal ∧ SN p m B w0 μ a' w') a w := by
  have f1 := i.ok.f1
  have hcl := cnt_le i
  have hg := i.g
  have hcc : p.cnt = p.n - p.g := rfl
  have hc : ps p.n p.f (m - 1) < p.n := ps_lt f1 (by omega)
  have hpm := i.pm m
  have hip : ∀ (R : RwP (pm p m) 0) (M : Mw (pm p m) 0), IpOk (Tb R M) (T0 (pm p m) 0) iN0 := fun R M => ipM (ipE (ipE (ipE ipNil)))
  have hvv : (pm p m).v = chW p.n r (ps p.n p.f (m - 1)) := i.u _ hc
  cases r with
  | false =>
    have hg : p.g = p.f := hg
    have e1 : ps p.n p.f (m - 1) = p.n - 1 := by unfold ps; rw [if_pos (by omega)]; omega
    have hz : (pm p m).v = 0 := by rw [hvv]; unfold chW; rw [if_neg (by omega)]; rfl
    exact runTo_sound (T := Tb (RZ (pm p m) 0 hpm.1 hpm.2 hc hz) (MZ (pm p m) 0 (mapL_no fun j hj => by omega))) (T' := T0 (pm p m) 0) mixed (K := hC.or hZ) (orOk (hC_ok hpm.1 hc _ _) (hZ_ok hpm.1 _ _)) (C := CE 30005 iN0) (ex := .normal) hb (show 30000 ≤ 30006 by decide) (rl := rlE 30005) rfl (by kernel_rfl)
      (hip _ _) (vW0 (n := p.n) (W := p.W) (W' := p.W)) glL (gM3 (pm p m) _ _ _ _ _) (St.same (Tb.same _ _ _ _) s)
  | true =>
    have hg : p.g = 0 := hg
    have hv : (pm p m).v = ((3 * ps p.n p.f 0 + 1 : Nat) : Int) := by
      rw [hvv]
      have e0 : ps p.n p.f 0 = p.f := by unfold ps; rw [if_pos (by omega)]; rfl
      rw [e0]
      unfold chW ps
      by_cases c : p.f + (m - 1) < p.n
      · rw [if_pos c, if_neg (by omega)]
        simp only [if_true]
        have : p.f = 0 := by omega
        rw [this]; rfl
      · rw [if_neg c, if_pos (by omega)]
        congr 1; omega
    have hvk : Vok (pm p m) (ps p.n p.f 0) := ⟨hv, ps_lt f1 (by omega)⟩
    exact runTo_sound (T := Tb (RN (pm p m) 0 (ps p.n p.f 0) hpm.1 hpm.2 hc hvk) (MY (pm p m) 0 (by rw [hv]; exact mapL_yes (by omega)))) (T' := T0 (pm p m) 0) mixed (K := hC.or hD) (orOk (hC_ok hpm.1 hc _ _) (hD_ok hpm.1 hvk _ _)) (C := CE 30005 iN0) (ex := .normal) hb (show 30000 ≤ 30006 by decide) (rl := rlE 30005) rfl (by kernel_rfl)
      (hip _ _) (vW0 (n := p.n) (W := p.W) (W' := p.W)) glL (gM2 (pm p m) _ _ _ _ _ _) (St.same (Tb.same _ _ _ _) s)
theorem mExit (hb : Base B μ 30000) {m : Nat} (s : SN p m B w0 μ a w) : r5.wp Tryz.prog (fun e a' w' => e = .exit 2 ∧ SR p m B w0 μ a' w') a w :=
  runTo_sound (T := T0 (pm p m) 0) (T' := T0 (pm p m) 0) mixed hNo (C := CR ((.map 0, 0) :: iB2)) (ex := .exit 2) hb (show 30000 ≤ 30006 by decide) (rl := rlR) rfl (by kernel_rfl) (ipM (ipE (ipE ipNil))) (vW0 (n := p.n) (W := p.W) (W' := p.W)) glL (gM4 (pm p m)) s
theorem mRounds (i : Chn p r) (hb : Base B μ 30000) : ∀ (j m : Nat) (a : Act) (w : World), m + j = p.cnt + 2 → 1 ≤ m → m ≤ p.cnt → SM p m B w0 μ a w → Code.rounds Tryz.prog r5 (fun e a w => e = .exit 2 ∧ SR p p.cnt B w0 μ a w) j a w := by
  intro j
  induction j with
  | zero => intro m a w h1 h2 h3 s; omega
  | succ j ih =>
    intro m a w h1 h2 h3 s
    by_cases hm : m < p.cnt
    · refine rounds_of (wp_mono (mNext i hb h2 hm s) ?_)
      rintro e a' w' ⟨rfl, s'⟩
      exact ih (m + 1) a' w' (by omega) (by omega) (by omega) s'
    · obtain rfl : m = p.cnt := by omega
      obtain rfl : j = 1 := by omega
      refine rounds_of (wp_mono (mLast i hb h2 rfl s) ?_)
      rintro e a' w' ⟨rfl, s'⟩
      refine rounds_of (wp_mono (mExit hb s') ?_)
      rintro e a' w' ⟨rfl, s'⟩
      exact ⟨rfl, s'⟩
theorem mok (i : Chn p r) : Mok (pm p p.cnt) := by
  have f1 := i.ok.f1
  have hg := i.g
  have hcc : p.cnt = p.n - p.g := rfl
  refine ⟨fun c h1 h2 => ?_, fun c h1 => ?_⟩
  · have h1 : p.g ≤ c := h1
    have h2 : c < p.n := h2
    cases r with
    | false =>
      have hg : p.g = p.f := hg
      have e : ps p.n p.f (c - p.f) = c := by unfold ps; rw [if_pos (by omega)]; omega
      have := mapL_yes (n := p.n) (f := p.f) (m := p.cnt) (j := c - p.f) (by omega)
      rw [e] at this; exact this
    | true =>
      have hg : p.g = 0 := hg
      by_cases q : p.f ≤ c
      · have e : ps p.n p.f (c - p.f) = c := by unfold ps; rw [if_pos (by omega)]; omega
        have := mapL_yes (n := p.n) (f := p.f) (m := p.cnt) (j := c - p.f) (by omega)
        rw [e] at this; exact this
      · have e : ps p.n p.f (p.n + c - p.f) = c := by unfold ps; rw [if_neg (by omega)]; omega
        have := mapL_yes (n := p.n) (f := p.f) (m := p.cnt) (j := p.n + c - p.f) (by omega)
        rw [e] at this; exact this
  · have h1 : c < p.g := h1
    cases r with
    | false =>
      have hg : p.g = p.f := hg
      refine mapL_no fun j hj => ?_
      have e : ps p.n p.f j = p.f + j := by unfold ps; rw [if_pos (by omega)]
      rw [e]; omega
    | true =>
      have hg : p.g = 0 := hg
      omega
theorem inv (i : Chn p r) (hq : p.q = (p.cnt, [], p.cnt)) : Inv (pm p p.cnt) := by
  have hpm := i.pm p.cnt
  refine ⟨hpm.1, hpm.2, ⟨by show p.q.1 = p.cnt; rw [hq], by show p.q.2.2 = p.cnt; rw [hq]⟩, ⟨fun c h1 h2 _ => ?_⟩⟩
  have h1 : p.g ≤ c := h1
  have h2 : c < p.n := h2
  have hg := i.g
  show wI (p.W (3 * c + 2)) = 0 ∨ ∃ d, p.g ≤ d ∧ d < p.n ∧ wI (p.W (3 * c + 2)) = _
  rw [i.u c h2]
  unfold chW
  by_cases e : c + 1 < p.n
  · rw [if_pos e]; exact .inr ⟨c + 1, by omega, e, rfl⟩
  · rw [if_neg e]
    cases r with
    | false => exact .inl rfl
    | true =>
      have hg : p.g = 0 := hg
      exact .inr ⟨0, by omega, by omega, rfl⟩
theorem runI_ok (i : Chn p r) (hc : p.c = p.f) (hq : p.q = (p.cnt, [], p.cnt)) : @InOk Tryz.prog runI (T0 p 0) := by
  letI : Tab := T0 p 0
  have f1 := i.ok.f1
  have hpm := i.pm 1
  have e0 : ps p.n p.f 0 = p.f := by unfold ps; rw [if_pos (by omega)]; rfl
  refine ⟨rnLim, hOf 20050 postR, ?_, hOf_next'.symm, rnAll⟩
  refine callOk_of (fn := Tryz.f10) Tryz.func10 rC_eq (show 2 ≤ Tryz.f10.ntmps by decide +kernel) (show 2 < limit by decide) fun B w0 μ a0 w hb s => ?_
  have hb : Base B μ 20011 := by
    have h := hb
    rw [show (hIn runI.N runI.bs).next = 20011 from hIn_next] at h
    exact h
  have hbU : Base B μ 30000 := baseUp hb (by decide)
  have e32 : ((IntKind.i64, ((3 * p.c + 1 : Nat) : Int)) : IntKind × Int) = (.i64, ((3 * ps p.n p.f (1 - 1) + 1 : Nat) : Int)) := by rw [hc, show 1 - 1 = 0 from rfl, e0]
  refine firstTo_sound (T := T0 p 0) (T' := T0 (pm p 1) 0) (n := 4) mixed (K := Hand.none) hNo (C := CD 20011 20013 20012 20014 ((.nilm, 4) :: (.oi 32, 32) :: iB2)) (rl := rlD 20011 20013 20012 20014) (fs := fsD) (bs := bsD 20011 20013 20012 20014)
    hbU (show 30000 ≤ 30005 by decide) rfl (by kernel_rfl) (ipMZ (ipCons (ipN (.i64, ((3 * p.c + 1 : Nat) : Int)) rfl e32.symm) (ipE (ipE ipNil)))) (vW0 (n := p.n) (W := p.W) (W' := p.W)) glL (gD0 p) s fun a1 w1 s1 => ?_
  rw [r4_eq]
  have hma : (pm p 1).ma = mapU ([], 0) ((3 * (pm p 1).c + 1 : Nat) : Int) 1 := rfl
  refine wp_seq (wp_mono (runTo_sound (T := Tb (RD (pm p 1) hpm.1 hpm.2 (ps_lt f1 (Nat.zero_le _))) (MD (pm p 1) hma)) (T' := T0 (pm p 1) 0) mixed (K := hC) (hC_ok hpm.1 (ps_lt f1 (Nat.zero_le _)) _ _) (C := CE 30006 ((.map 0, 0) :: (.oi 32, 32) :: iB2)) (ex := .normal) hbU (show 30000 ≤ 30006 by decide) (rl := rlE 30006) rfl (by kernel_rfl)
    (ipM (ipE (ipE (ipE ipNil)))) (vW0 (n := p.n) (W := p.W) (W' := p.W)) glL (gD1 (pm p 1) _ _ _ _) (St.same (Tb.same _ _ _ _) s1)) ?_)
  rintro e a2 w2 ⟨rfl, s2⟩
  show (restn 5 rC).wp _ _ _ _
  rw [r5_eq]
  have hcp := i.ok.c1
  refine wp_seq (wp_block (wp_mono (wp_loop_rounds (Q := fun e a w => e = .exit 2 ∧ SR p p.cnt B w0 μ a w) (p.cnt + 1) (mRounds i hbU (p.cnt + 1) 1 a2 w2 (by omega) (Nat.le_refl _) hcp s2)) ?_))
  rintro e a3 w3 ⟨rfl, s3⟩
  show r6.wp _ _ _ _
  refine wp_mono (runTo_sound (T := T0 (pm p p.cnt) 0) (T' := T0 p 0) mixed (K := hS') (@inHand_ok Tryz.prog (T0 (pm p p.cnt) 0) slI (slI_ok (inv i hq) (mok i) hq) slLim0) (C := CP' iZ) (ex := .ret) hb (show 20011 ≤ 20050 by decide) (rl := [(20021, 30011), (20022, 30012)]) rfl (by kernel_rfl)
    (ipM (ipE (ipE ipNil))) (vpU (vp23 (n := p.cnt) vpNil) rfl (Nat.le_refl _)) glL (gP (pm p p.cnt)) s3) ?_
  rintro e a4 w4 ⟨rfl, s4⟩
  exact St.done (τ := T0 p 0) (e := .ret) (.inr rfl) rnRes s4
end
end Go.Proofs.YtbabfeloandpdaaGreatDoor.cc
