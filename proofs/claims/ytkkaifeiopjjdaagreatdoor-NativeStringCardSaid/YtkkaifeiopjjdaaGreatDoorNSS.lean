/-
  The law NativeString: empty texts are made: contracts.
-/
import Derived.Test.YtkkaifeiopjjdaaGreatDoorNSR
set_option linter.unusedVariables false
set_option linter.unusedSimpArgs false
set_option linter.unusedSectionVars false
set_option maxRecDepth 1000000
set_option maxHeartbeats 0
namespace Go.Proofs.YtkkaifeiopjjdaaGreatDoor.ns
open Go.X Go.RowKit Go.Proofs
/-- where the new words and starts lie -/
noncomputable def wZ (o : Nat) : Nat := Nat.rec 13257 (fun k _ => Nat.rec 13282 (fun _ _ => 13446) k) o
noncomputable def sZ (o : Nat) : Nat := Nat.rec 13259 (fun k _ => Nat.rec 13284 (fun _ _ => 13448) k) o
noncomputable def preZ (o : Nat) (bs : BL) : BL := Nat.rec nq.I12423.bs (fun k _ => Nat.rec (map1 :: bL 0) (fun _ _ => map1 :: (bs ++ bL 1)) k) o
noncomputable def xbZ (o : Nat) : BL := Nat.rec (map1 :: nq.I12423.bs.take 5) (fun _ _ => [map1]) o
noncomputable def postZ (o : Nat) : BS := (nW o, wZ o, .vec o) :: (nS o, sZ o, .cells (Nat.succ o) true [] (T.ofList 0 .leaf (stL o))) :: (9899, 9899, .cells 5 false [] (T.ofList 0 .leaf [.ptr 6646 0, .ov (nW o) (lw o) 1, .so (nS o) 0 (Nat.succ o) 1, .so 13256 0 1 3, .map 9898])) :: (13256, 13256, .cells 3 true [] (T.ofList 0 .leaf [.str 16 137483774941304901841256615957136564586, .nils, .int .u8 67])) :: same (xbZ o)
noncomputable def tzI (o : Nat) (src : AV) (bs : BL) : In := ⟨9, [.ptr 9899 0, src], tNo o, preZ o bs, adO o, Nat.add (tNo o) 40, bsOf (postZ o)⟩
theorem zW (p : Pm) : ∀ o, o < 3 → oN p o = 0 → ∀ m, WS p o m = WZ p o m
  | 0, _, hz, m => by
    have hz : p.la = 0 := hz
    show wn 0 p.la p.A (fun _ => 0#64) p.la m = 0#64
    rw [hz, show m = 0 + m by omega, wn_hi]
    unfold objW
    split
    · rfl
    · split <;> rfl
  | 1, _, hz, m => by
    have hz : p.lb = 0 := hz
    show wn p.s1 p.lb p.B p.W1 p.lb m = if m < p.s1 then p.W1 m else 0#64
    by_cases c : m < p.s1
    · rw [if_pos c, wn_lo c]
    · rw [if_neg c, hz, show m = p.s1 + (m - p.s1) by omega, wn_hi]
      unfold objW
      split
      · rfl
      · split <;> rfl
  | 2, _, hz, m => by
    have hz : p.lc = 0 := hz
    show wn p.s2 p.lc p.C p.W2 p.lc m = if m < p.s2 then p.W2 m else 0#64
    by_cases c : m < p.s2
    · rw [if_pos c, wn_lo c]
    · rw [if_neg c, hz, show m = p.s2 + (m - p.s2) by omega, wn_hi]
      unfold objW
      split
      · rfl
      · split <;> rfl
  | _ + 3, h, _, _ => by omega
theorem wd0 : wd 0 = 3 := rfl
noncomputable def ibZ (o : Nat) : List BRow := Nat.rec [] (fun k _ => Nat.rec [(0, .oi 4, .int .i64 3, .oi 5), (13, .int .i64 3, .oi 18, .bool false)] (fun _ _ => [(0, .oi 5, .int .i64 3, .oi 6), (13, .int .i64 3, .oi 19, .bool false)]) k) o
noncomputable def vaZ (o : Nat) : List VA := Nat.rec [] (fun k _ => Nat.rec [⟨0, 4, 1, [.int .u64 0, .int .u64 0, .int .u64 0], 27, 5⟩] (fun _ _ => [⟨1, 5, 1, [.int .u64 0, .int .u64 0, .int .u64 0], 28, 6⟩]) k) o
noncomputable def vsZ (o : Nat) : List VS := Nat.rec [] (fun k _ => Nat.rec [⟨27, 9, 1, 0, [.int .u64 0], 1⟩] (fun _ _ => [⟨28, 10, 1, 0, [.int .u64 0], 2⟩]) k) o
theorem ibZ_ok {p : Pm} (h : Ar p) : ∀ o, o < 3 → oN p o = 0 → ∀ r ∈ ibZ o, IbOk (ivL p qZ 0) r
  | 0, _, _ => ibNil
  | 1, _, hz => by
    have hz : p.lb = 0 := hz
    have h1 := h.s1
    have w2 : p.s2 = p.s1 + 3 := by show p.s1 + wd p.lb = _; rw [hz]; rfl
    exact rAdd (rGt ibNil)
  | 2, _, hz => by
    have hz : p.lc = 0 := hz
    have h1 := h.s2
    have w2 : p.s3 = p.s2 + 3 := by show p.s2 + wd p.lc = _; rw [hz]; rfl
    exact rAdd (rGt ibNil)
  | _ + 3, h, _ => by omega
/-- known numbers behind a vector -/
theorem aK {iv : Nat → IntKind × Int} {vv : Nat → Nat → Option AV} {vk : Nat → Nat} {i j i' j' n c : Nat} {K : IntKind} {l : List VA} {e e' : Nat → Int} (t : ∀ r ∈ l, VaOk iv vv vk r) (hj : iv j = (.i64, (n : Int))) (hj' : iv j' = (.i64, ((n + c : Nat) : Int))) (hv : vv i = numV K n e) (hv' : vv i' = numV K (n + c) e') (h2 : vk i' = n + c) (hl : n + c < 1000000) (h1 : ∀ m, m < n → e' m = e m) (h0 : ∀ m, m < c → e' (n + m) = 0) : ∀ r ∈ (⟨i, j, 1, List.replicate c (.int K 0), i', j'⟩ : VA) :: l, VaOk iv vv vk r := by
  refine allCons ⟨by rw [hj]; exact ⟨rfl, Int.natCast_nonneg _⟩, by rw [hj']; exact ⟨rfl, Int.natCast_nonneg _⟩, by rw [hj, hj']; simp only [Int.toNat_natCast, List.length_replicate]; omega, by rw [hj']; show ((n + c : Nat) : Int).toNat < 1000000; rw [Int.toNat_natCast]; exact hl, by rw [hj', h2]; simp only [Int.toNat_natCast]; omega, fun m a ha => ?_⟩ t
  rw [hv'] at ha
  obtain ⟨hm, rfl⟩ := numV_some ha
  show ∃ b, (if m < (iv j).2.toNat * 1 then vv i m else (List.replicate c (AV.int K 0))[m - (iv j).2.toNat * 1]?) = some b ∧ sameAV iv b (.int K (e' m))
  rw [hj]
  simp only [Int.toNat_natCast, Nat.mul_one]
  by_cases d : m < n
  · exact ⟨.int K (e m), by rw [if_pos d, hv]; unfold numV; rw [if_pos d], .inl (by rw [h1 m d])⟩
  · refine ⟨.int K 0, by rw [if_neg d, List.getElem?_replicate, if_pos (by omega)], .inl ?_⟩
    have := h0 (m - n) (by omega)
    rw [show n + (m - n) = m by omega] at this
    rw [this]
theorem vaZ_ok {p : Pm} (h : Ar p) : ∀ o, o < 3 → oN p o = 0 → ∀ r ∈ vaZ o, VaOk (ivL p qZ 0) (vvL p qZ) (vkL p qZ) r
  | 0, _, _ => allNil
  | 1, _, hz => by
    have hz : p.lb = 0 := hz
    have h1 := h.s1
    have w2 : p.s2 = p.s1 + 3 := by show p.s1 + wd p.lb = _; rw [hz]; rfl
    exact aK (n := p.s1) (c := 3) (e := fun m => wI (p.W1 m)) (e' := fun m => wI (WZ p 1 m)) allNil rfl (by rw [← w2]; rfl) rfl (by rw [← w2]; rfl) (by rw [← w2]; rfl) (by omega) (fun m hm => by show wI (if m < p.s1 then p.W1 m else 0#64) = _; rw [if_pos hm]) (fun m hm => by show wI (if p.s1 + m < p.s1 then p.W1 (p.s1 + m) else 0#64) = 0; rw [if_neg (by omega)]; rfl)
  | 2, _, hz => by
    have hz : p.lc = 0 := hz
    have h1 := h.s2
    have w2 : p.s3 = p.s2 + 3 := by show p.s2 + wd p.lc = _; rw [hz]; rfl
    exact aK (n := p.s2) (c := 3) (e := fun m => wI (p.W2 m)) (e' := fun m => wI (WZ p 2 m)) allNil rfl (by rw [← w2]; rfl) rfl (by rw [← w2]; rfl) (by rw [← w2]; rfl) (by omega) (fun m hm => by show wI (if m < p.s2 then p.W2 m else 0#64) = _; rw [if_pos hm]) (fun m hm => by show wI (if p.s2 + m < p.s2 then p.W2 (p.s2 + m) else 0#64) = 0; rw [if_neg (by omega)]; rfl)
  | _ + 3, h, _ => by omega
theorem vsZ_ok {p : Pm} (h : Ar p) : ∀ o, (o3 : o < 3) → oN p o = 0 → ∀ r ∈ vsZ o, VsOk (ivL p qZ 0) (vvL p qZ) (vkL p qZ) r
  | 0, _, _ => allNil
  | 1, o3, hz => by
    have z := zW p 1 o3 hz
    have hz : p.lb = 0 := hz
    have w2 : p.s2 = p.s1 + 3 := by show p.s1 + wd p.lb = _; rw [hz]; rfl
    have z0 : wI (p.W2 (p.s1 + 2)) = 0 := by have := z (p.s1 + 2); rw [show p.W2 (p.s1 + 2) = _ from this]; show wI (if p.s1 + 2 < p.s1 then _ else 0#64) = 0; rw [if_neg (by omega)]; rfl
    exact sN (n := p.s2) (q := p.s1 + 2) (e := fun m => wI (WZ p 1 m)) (e' := fun m => wI (p.W2 m)) allNil (hy := by show some ((IntKind.u64, (0 : Int)) : IntKind × Int) = some (.u64, wI (p.W2 (p.s1 + 2))); rw [z0]) (hw := fun m _ _ => congrArg wI (z m))
  | 2, o3, hz => by
    have z := zW p 2 o3 hz
    have hz : p.lc = 0 := hz
    have w2 : p.s3 = p.s2 + 3 := by show p.s2 + wd p.lc = _; rw [hz]; rfl
    have z0 : wI (p.W3 (p.s2 + 2)) = 0 := by have := z (p.s2 + 2); rw [show p.W3 (p.s2 + 2) = _ from this]; show wI (if p.s2 + 2 < p.s2 then _ else 0#64) = 0; rw [if_neg (by omega)]; rfl
    exact sN (n := p.s3) (q := p.s2 + 2) (e := fun m => wI (WZ p 2 m)) (e' := fun m => wI (p.W3 m)) allNil (hy := by show some ((IntKind.u64, (0 : Int)) : IntKind × Int) = some (.u64, wI (p.W3 (p.s2 + 2))); rw [z0]) (hw := fun m _ _ => congrArg wI (z m))
  | _ + 3, h, _ => by omega
noncomputable abbrev RTZ (p : Pm) (h : Ar p) (o : Nat) (o3 : o < 3) (hz : oN p o = 0) : Rw (ivL p qZ 0) (vvL p qZ) (vkL p qZ) (fgL p) (txL p qZ 0) where
  vvp := vvLp p qZ
  ib := ibZ o ++ (rowsT ++ rowsL)
  ibok := fun r hr => (List.mem_append.1 hr).elim (ibZ_ok h o o3 hz r) fun hr => (List.mem_append.1 hr).elim (rowsT_ok h r) (rowsL_ok h r)
  ic := icT ++ icL
  icok := fun r hr => (List.mem_append.1 hr).elim (icT_ok h r) (icL_ok h r)
  va := vaZ o
  vaok := vaZ_ok h o o3 hz
  vs := vsZ o ++ vsT
  vsok := fun r hr => (List.mem_append.1 hr).elim (vsZ_ok h o o3 hz r) (vsT_ok h r)
  vc := [(0, 11), (2, 12)]
  vcok := cN (cN allNil)
noncomputable abbrev ipTZ (o : Nat) : IP := Nat.rec [(.int .i64 3, 4)] (fun _ _ => [(.oi 4, 4), (.oi 5, 5), (.oi 6, 6), (.oi 7, 7), (.oi 8, 8)]) o
noncomputable def cvTZ (o : Nat) : Cv := ⟨tNo o, Nat.add (tNo o) 40, ofPairs [(nW o, wZ o), (nS o, sZ o), (13256, 13256)], ipTZ o⟩
noncomputable def vpTZ (o : Nat) : VP := Nat.rec [(13257, rowOf [.int .u64 0, .int .u64 0, .int .u64 0] true, 0)] (fun k _ => Nat.rec [(13282, .vec 1, 1)] (fun _ _ => [(13446, .vec 2, 2)]) k) o
def HTZ (o : Nat) (src : AV) (bs : BL) : Prop := ∀ p h o3 hz, runTo (RTZ p h o o3 hz).T Tryz.prog KK 3000 Tryz.f9.ntmps tC (T.ofList 0 .leaf [.ptr 9899 0, src]) (hIn (tNo o) (preZ o bs)) .ret (cvTZ o) (vpTZ o) [(4, adO o)] (postZ o) = true
theorem htz0n : HTZ 0 .nils [] := fun p h o3 hz => by as_aux_lemma => kernel_rfl
theorem htz0e : HTZ 0 .es [] := fun p h o3 hz => by as_aux_lemma => kernel_rfl
theorem htz1n : HTZ 1 .nils [] := fun p h o3 hz => by as_aux_lemma => kernel_rfl
theorem htz1e : HTZ 1 .es [] := fun p h o3 hz => by as_aux_lemma => kernel_rfl
theorem htz2 : HTZ 2 (.sl 13445 0 0 0) [] := fun p h o3 hz => by as_aux_lemma => kernel_rfl
theorem ipTZ_ok {p : Pm} {T T' : Tab} (h1 : T.iv = ivL p qZ 0) (h2 : T'.iv = ivL p qZ 0) : ∀ o, oN p o = 0 → IpOk T T' (ipTZ o)
  | 0, hz => ipK' ipNil (b := (p.s1 : Int)) (by rw [h2]; rfl) (by have hz : p.la = 0 := hz; show ((wd p.la : Nat) : Int) = 3; rw [hz]; rfl)
  | _ + 1, _ => ipE (ipE (ipE (ipE (ipE ipNil (congrFun h1 _) (congrFun h2 _)) (congrFun h1 _) (congrFun h2 _)) (congrFun h1 _) (congrFun h2 _)) (congrFun h1 _) (congrFun h2 _)) (congrFun h1 _) (congrFun h2 _)
theorem xbZ_ok : True := trivial
/-- an empty text is made -/
theorem tzI_ok {p : Pm} {o : Nat} {src : AV} {bs : BL} (h : Ar p) (o3 : o < 3) (hz : oN p o = 0) (H : HTZ o src bs) (V : @VpOk (RTZ p h o o3 hz).T (TL p) (cvTZ o) (vpTZ o)) (l : okLim (bsOf (postZ o)) = true) (hl : hasAll (hOf (Nat.add (tNo o) 40) (postZ o)) (bsOf (postZ o)) = true)
    (rk : okRn (cvTZ o) [(nW o, wZ o), (nS o, sZ o), (13256, 13256)] = true) (hr : results? Tryz.prog Tryz.f9 (frOf [(4, adO o)]) (hOf (Nat.add (tNo o) 40) (postZ o)) = some (adO o)) : @InOk Tryz.prog (tzI o src bs) (TL p) := by
  letI : Tab := TL p
  refine ⟨l, hOf (Nat.add (tNo o) 40) (postZ o), ?_, hOf_next'.symm, hl⟩
  refine callOk_of (fn := Tryz.f9) Tryz.func9 tC_eq (show 2 ≤ Tryz.f9.ntmps by decide +kernel) (show 2 < limit by decide) fun B w0 μ a w hb s => ?_
  have hb : Base B μ (tNo o) := by
    have h := hb
    rw [show (hIn (tzI o src bs).N (tzI o src bs).bs).next = tNo o from hIn_next] at h
    exact h
  refine wp_mono (runTo_sound (T := (RTZ p h o o3 hz).T) (T' := TL p) mixed (K := KK) (@nq.K_top0_ok (RTZ p h o o3 hz).T) (C := cvTZ o) (ex := .ret) hb (Nat.le_add_right _ 40) (rl := [(nW o, wZ o), (nS o, sZ o), (13256, 13256)]) rfl rk (ipTZ_ok rfl rfl o hz) V (glL (p := p) (q := qZ) (q' := qZ) (st := 0) (st' := 0)) (H p h o3 hz) (St.same (Rw.same _ _) s)) ?_
  rintro e a4 w4 ⟨rfl, s4⟩
  exact St.done (τ := TL p) (e := .ret) (.inr rfl) hr s4
theorem vpz0 {p : Pm} {T T' : Tab} {C : Cv} (hz : oN p 0 = 0) (h2 : T'.vv = vvL p qZ) (h4 : T'.vk = vkL p qZ) : VpOk T T' C (vpTZ 0) := by
  have hz' : p.la = 0 := hz
  have e : p.s1 = 3 := by show wd p.la = 3; rw [hz']; rfl
  refine vpRow (n := p.s1) (K := .u64) (f := fun m => wI (p.W1 m)) vpNil (by rw [e]; rfl) (by omega) (congrFun h2 0) (congrFun h4 0) fun m hm => ?_
  have : wI (p.W1 m) = 0 := by rw [show p.W1 m = _ from zW p 0 (by decide) hz m]; rfl
  rw [this]
  match m, (show m < 3 by omega) with
  | 0, _ => exact ⟨_, rfl, rfl⟩
  | 1, _ => exact ⟨_, rfl, rfl⟩
  | 2, _ => exact ⟨_, rfl, rfl⟩
theorem vpz1 {p : Pm} {T T' : Tab} {C : Cv} (h1 : T.vv = vvL p qZ) (h2 : T'.vv = vvL p qZ) (h3 : T.vk = vkL p qZ) (h4 : T'.vk = vkL p qZ) : VpOk T T' C (vpTZ 1) := vpNum (n := p.s2) (e := fun m => wI (p.W2 m)) (e' := fun m => wI (p.W2 m)) vpNil (congrFun h1 1) (congrFun h2 1) (congrFun h3 1) (congrFun h4 1) (fun _ _ => rfl)
theorem vpz2 {p : Pm} {T T' : Tab} {C : Cv} (h1 : T.vv = vvL p qZ) (h2 : T'.vv = vvL p qZ) (h3 : T.vk = vkL p qZ) (h4 : T'.vk = vkL p qZ) : VpOk T T' C (vpTZ 2) := vpNum (n := p.s3) (e := fun m => wI (p.W3 m)) (e' := fun m => wI (p.W3 m)) vpNil (congrFun h1 2) (congrFun h2 2) (congrFun h3 2) (congrFun h4 2) (fun _ _ => rfl)
section
variable {p : Pm}
theorem z0n_ok (h : Ar p) (hz : oN p 0 = 0) : @InOk Tryz.prog (tzI 0 .nils []) (TL p) := tzI_ok h (by decide) hz htz0n (vpz0 hz rfl rfl) (by kernel_rfl) (by kernel_rfl) (by kernel_rfl) (by kernel_rfl)
theorem z0e_ok (h : Ar p) (hz : oN p 0 = 0) : @InOk Tryz.prog (tzI 0 .es []) (TL p) := tzI_ok h (by decide) hz htz0e (vpz0 hz rfl rfl) (by kernel_rfl) (by kernel_rfl) (by kernel_rfl) (by kernel_rfl)
theorem z1n_ok (h : Ar p) (hz : oN p 1 = 0) : @InOk Tryz.prog (tzI 1 .nils []) (TL p) := tzI_ok h (by decide) hz htz1n (vpz1 rfl rfl rfl rfl) (by kernel_rfl) (by kernel_rfl) (by kernel_rfl) (by kernel_rfl)
theorem z1e_ok (h : Ar p) (hz : oN p 1 = 0) : @InOk Tryz.prog (tzI 1 .es []) (TL p) := tzI_ok h (by decide) hz htz1e (vpz1 rfl rfl rfl rfl) (by kernel_rfl) (by kernel_rfl) (by kernel_rfl) (by kernel_rfl)
theorem z2_ok (h : Ar p) (hz : oN p 2 = 0) : @InOk Tryz.prog (tzI 2 (.sl 13445 0 0 0) []) (TL p) := tzI_ok h (by decide) hz htz2 (vpz2 rfl rfl rfl rfl) (by kernel_rfl) (by kernel_rfl) (by kernel_rfl) (by kernel_rfl)
end
end Go.Proofs.YtkkaifeiopjjdaaGreatDoor.ns
