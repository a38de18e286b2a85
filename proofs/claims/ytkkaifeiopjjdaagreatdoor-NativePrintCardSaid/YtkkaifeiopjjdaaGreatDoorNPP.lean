/-
  The law NativePrint, for whatever the call is handed.
-/
import Derived.Test.YtkkaifeiopjjdaaGreatDoorNPO
import Derived.ChangeSlices
import Derived.ChangeShapes
import Derived.Carry
import Derived.Deep.Slices
set_option linter.unusedVariables false
set_option linter.unusedSimpArgs false
set_option linter.unusedSectionVars false
set_option maxRecDepth 1000000
set_option maxHeartbeats 0
namespace Go.Proofs.YtkkaifeiopjjdaaGreatDoor.np
open Go.X Go.RowKit Go.Proofs Go.ChangeShapes Go.WideShapes
noncomputable def fsB' (l : Bool) : List (Nat × AV) := [(0, .fo 0 15 1), (1, .bool l), (5, .bool true), (6, .ptr 9899 0), (7, .ptr 9902 0), (8, psS), (9, .int .i64 1), (10, nmS l), (11, outA 20005 true), (12, .bool false)]
noncomputable abbrev cv0 : Cv := ⟨20000, 20010, ofPairs [(20001, 13267), (20002, 13269), (20003, 13266)], [(.fo 0 15 1, 0), (.int .i64 2, 1), (.int .i64 1, 2), (.oi 15, 15)]⟩
noncomputable abbrev vp0 : VP := [(13267, rowOf [.int .u64 0, .int .u64 0] true, 0), (13269, rowOf [.int .i64 0] true, 1)]
def KS (l : Bool) : Prop := ∀ p, firstTo (TP p) Tryz.prog KN 5000 Tryz.f5.ntmps 10 aC (T.ofList 0 .leaf [.fo 0 15 1, .bool l]) H.empty cv0 vp0 (fsB' l) (bsA 0 true 13267 13269 13266 0 0) = true
theorem ksf : KS false := fun p => by as_aux_lemma => kernel_rfl
theorem kst : KS true := fun p => by as_aux_lemma => kernel_rfl
noncomputable abbrev cvI0 : Cv := ⟨20000, 20010, ofPairs [(20001, 20001), (20002, 20002), (20003, 20003)], [(.fo 0 15 1, 0), (.oi 1, 1), (.oi 2, 2), (.oi 15, 15), (.int .i64 0, 14)]⟩
def KI (l : Bool) : Prop := ∀ p, runTo (TP p) Tryz.prog Hand.none 3000 Tryz.f5.ntmps aI (frOf (fsB' l)) (hA 0 true) .normal cvI0 [(20001, .vec 0, 0), (20002, .vec 1, 1)] (fsA' l true) (bsA 0 true 20001 20002 20003 0 0) = true
theorem kif : KI false := fun p => by as_aux_lemma => kernel_rfl
theorem kit : KI true := fun p => by as_aux_lemma => kernel_rfl
def c0 : Co := ⟨2, fun _ => 0#64, 1, fun _ => 0, 0, fun _ => 0, 0⟩
theorem cr0 : Cr c0 where
  t0 := Nat.le_refl _
  t2 := by decide
  cn := rfl
  i2 := by decide
  d2 := by decide
  w0 := rfl
  s0 := rfl
  sm := fun m _ => by show (0 : Int) < 2; decide
  inc := fun m k h1 h2 => by have h2 : k < 1 := h2; omega
  D := fun _ => by show (0 : Int) ≤ 0 ∧ (0 : Int) < 256; decide
theorem inv0 (l : Bool) : Inv c0 0 true l := ⟨cr0, fun _ => ⟨rfl, rfl⟩, by decide, ⟨fun _ => rfl, fun _ => rfl⟩, (fun e => by cases e)⟩
abbrev Ends (w : World) (v : Value) (l : Bool) : Prop := Calls Tryz.prog 5 #[v, .bool l] w fun e w' => e = .returned (.bool true) ∧ Below w.heap.size w w'
theorem hAe {x y z a b x' y' z' a' b' : Nat} : hOf 20010 (bsA 0 true x y z a b) = hOf 20010 (bsA 0 true x' y' z' a' b') := rfl
theorem walkS {u : Ue} {w : World} {l : Bool} (o : UOk u) (hc : u.lu ≤ u.cu) (gu : ∀ c, @Gl (TP (mkP u c)) (Kp.below w.heap.size) w) (ks : KS l) (ki : KI l) : Ends w (.slice (some ⟨u.bu, u.ou, none⟩) u.lu u.cu) l := by
  refine yes_calls Tryz.func5 aC_eq w ?_
  have s0 := @St.start (TP (mkP u c0)) [.fo 0 15 1, .bool l] #[.slice (some ⟨u.bu, u.ou, none⟩) u.lu u.cu, .bool l] Tryz.f5.ntmps w (gu c0)
    (@vrels_cons (TP (mkP u c0)) _ _ _ _ _ (by
      simp only [vrel]
      exact ⟨⟨rfl, Int.natCast_nonneg _⟩, by show ((u.lu : Nat) : Int).toNat ≤ u.cu; omega, by show _ = Value.slice (some ⟨u.bu, u.ou, none⟩) ((u.lu : Nat) : Int).toNat u.cu; rw [Int.toNat_natCast]⟩) (@vrels_cons (TP (mkP u c0)) _ _ _ _ _ (by simp only [vrel]) (by simp [vrels]))) (show 2 ≤ Tryz.f5.ntmps by decide +kernel) (show 2 < limit by decide)
  have hb : Base (Kp.below w.heap.size) (fun _ => none) 20000 := baseUp (Base.none _) (Nat.zero_le _)
  refine firstTo_sound (T := TP (mkP u c0)) (T' := TP (mkP u c0)) (n := 10) mixed (K := KN) KN_ok (C := cv0) (rl := [(20001, 13267), (20002, 13269), (20003, 13266)]) (fs := fsB' l) (bs := bsA 0 true 13267 13269 13266 0 0)
    hb (show 20000 ≤ 20010 by decide) rfl (by kernel_rfl) (ipG (ipK' (ipK' (ipE ipNil) (e := rfl)) (e := rfl))) (vpRow (n := 2) (K := .u64) (f := fun _ => 0) (vpRow (n := 1) (K := .i64) (f := fun _ => 0) vpNil rfl (by decide) rfl rfl (fun m hm => by
      match m, hm with
      | 0, _ => exact ⟨_, rfl, rfl⟩)) rfl (by decide) rfl rfl (fun m hm => by
      match m, hm with
      | 0, _ => exact ⟨_, rfl, rfl⟩
      | 1, _ => exact ⟨_, rfl, rfl⟩)) (fun _ => gu c0) (ks _) s0 fun a1 w1 s1 => ?_
  have s1 : St (TP (mkP u c0)) (Kp.below w.heap.size) w (fun _ => none) Tryz.f5.ntmps (frOf (fsB' l)) (hOf 20010 (bsA 0 true 13267 13269 13266 0 0)) a1 w1 := s1
  rw [hAe (x' := 20001) (y' := 20002) (z' := 20003) (a' := 20004) (b' := 20005)] at s1
  rw [a10_eq]
  refine wp_seq (wp_seq (wp_mono (runTo_sound (fs := fsA' l true) (bs := bsA 0 true 20001 20002 20003 0 0) (T := TP (mkP u c0)) (T' := TP (mkP u c0)) mixed hNo (C := cvI0) (ex := .normal) hb (show 20000 ≤ 20010 by decide) (rl := [(20001, 20001), (20002, 20002), (20003, 20003)]) rfl (by kernel_rfl) (ipG (ipE (ipE (ipE (ipK' ipNil (e := rfl)))))) (vpNum (n := 2) (K := .u64) (e := fun _ => 0) (e' := fun _ => 0) (vpNum (n := 1) (K := .i64) (e := fun _ => 0) (e' := fun _ => 0) vpNil)) (fun _ => gu c0) (ki _) s1) ?_))
  rintro x a2 w2 ⟨rfl, s2⟩
  show (Code.block 0 (.loop aL)).wp _ _ _ _
  have s2 : St (TP (mkP u c0)) (Kp.below w.heap.size) w (fun _ => none) Tryz.f5.ntmps (frOf (fsA' l true)) (hOf 20010 (bsA 0 true 20001 20002 20003 0 0)) a2 w2 := s2
  rw [hAe (x' := 20001) (y' := 20002) (z' := 20003) (a' := 20004) (b' := 20005)] at s2
  refine wp_block (wp_mono (wp_loop_rounds 122 (loop hb o gu 122 c0 0 true a2 w2 (by decide) (inv0 l) (fun _ => rfl) s2)) ?_)
  rintro x a3 w3 (⟨rfl, c, n, full, r, h1, h2, s3⟩ | ⟨rfl, y⟩)
  · show (restn 11 aC).wp _ _ _ _
    exact endS r.D r.d2 h1 h2 s3
  · exact y
/- what comes in -/
/-- nothing to be printed -/
theorem none_ok {x : AV} {v : Value} {l : Bool} {w : World} (hq : ∃ q, @CallOk Tab.empty Tryz.prog 5 [x, .bool l] H.empty (.bool true, q)) (hx : @vrel Tab.empty (fun _ => none) x v) : Ends w v l := by
  letI := Tab.empty
  obtain ⟨q, hq⟩ := hq
  exact CallOk.yes hq (vrels_cons hx (vrels_cons (by simp only [vrel]) (by simp [vrels]))) w ⟨fun g o a h => (by cases h), fun i m a h => (by cases h)⟩
theorem cnf : ∃ q, @CallOk Tab.empty Tryz.prog 5 [.nils, .bool false] H.empty (.bool true, q) := @CallOk.of_okTrue Tab.empty Tryz.prog KN mixed (@KN_ok Tab.empty) 5000 _ _ (by as_aux_lemma => kernel_rfl)
theorem cnt : ∃ q, @CallOk Tab.empty Tryz.prog 5 [.nils, .bool true] H.empty (.bool true, q) := @CallOk.of_okTrue Tab.empty Tryz.prog KN mixed (@KN_ok Tab.empty) 5000 _ _ (by as_aux_lemma => kernel_rfl)
theorem cef : ∃ q, @CallOk Tab.empty Tryz.prog 5 [.es, .bool false] H.empty (.bool true, q) := @CallOk.of_okTrue Tab.empty Tryz.prog KN mixed (@KN_ok Tab.empty) 5000 _ _ (by as_aux_lemma => kernel_rfl)
theorem cet : ∃ q, @CallOk Tab.empty Tryz.prog 5 [.es, .bool true] H.empty (.bool true, q) := @CallOk.of_okTrue Tab.empty Tryz.prog KN mixed (@KN_ok Tab.empty) 5000 _ _ (by as_aux_lemma => kernel_rfl)
/-- an element, as a value -/
structure ElV (w : World) (e : El) (v : Value) : Prop where
  v0 : e.ek = 0 → v = .slice (some ⟨e.ba, e.oa, none⟩) e.la e.ca ∧ e.la ≤ e.ca
  v1 : e.ek = 1 → v = .slice (some ⟨e.ba, e.oa, none⟩) e.fa e.ca ∧ e.fa ≤ e.ca
  v2 : e.ek = 2 → v = .slice none 0 0
  v3 : 3 ≤ e.ek → ∃ b c, v = .slice (some b) 0 c
  cs : ∀ m, m < e.la → w.cell? ⟨e.ba, e.oa + m, none⟩ = some (.int .u16 (e.A m))
theorem cell_lt {w : World} {a : Addr} {v : Value} (h : w.cell? a = some v) : a.block < w.heap.size ∧ a.spot = none := by
  unfold World.cell? at h
  split at h
  · rename_i e
    refine ⟨(Array.getElem?_eq_some_iff.1 e).1, ?_⟩
    cases hs : a.spot with
    | none => rfl
    | some x => rw [hs] at h; simp at h
  all_goals cases h
theorem el_of {w : World} {v : Value} {H : Type} {enc : TypeId × Value → H} {base fuel : Nat} {spare : Nat → Bool} {held : Bool} {x : DataW H × List MemPlace} (h : DataW.trod enc Tryz.prog w base spare held fuel 22 [v] = some x) : ∃ e, ElOk e ∧ ElV w e v := by
  rcases open_ints Tryz.underlying22 Tryz.underlying34 (by kernel_rfl) h with ⟨h0, _⟩ | ⟨a, len, cap, zs, h0, _, hcap, hm, hz, _, hc, hw⟩
  · have h1 : v = .slice none 0 0 := by simpa using h0
    exact ⟨⟨2, 0, 0, fun _ => 0, 0, 0, 0⟩, ⟨Nat.zero_le _, (fun _ => by show (0 : Int) ≤ 0 ∧ (0 : Int) < 65536; decide), by decide, (fun e => by cases e), (fun e => by cases e), fun _ => rfl⟩, ⟨(fun e => by cases e), (fun e => by cases e), fun _ => h1, (fun e => by have e : 3 ≤ 2 := e; omega), (fun m hm => by have hm : m < 0 := hm; omega)⟩⟩
  · have h1 : v = .slice (some a) len cap := by simpa using h0
    subst h1
    have hA : len ≤ zs.length := by rw [hz]; split <;> omega
    have hr : ∀ m, 0 ≤ zs.getD m 0 ∧ zs.getD m 0 < 65536 := fun m => by
      rw [List.getD_eq_getElem?_getD]
      cases e : zs[m]? with
      | none => exact ⟨by decide, by decide⟩
      | some z =>
        have hz' := hw z (List.mem_of_getElem? e)
        simp only [Lit.wf, Bool.and_eq_true, decide_eq_true_eq] at hz'
        obtain ⟨q1, q2⟩ := hz'
        have q3 : (IntKind.u16.min : Int) = 0 := by decide
        have q4 : (IntKind.u16.max : Int) = 65535 := by decide
        show 0 ≤ z ∧ z < 65536
        omega
    have hl : cap < 9223372036854775808 := by unfold maxLen at hm; omega
    rcases Nat.eq_zero_or_pos len with e | e
    · subst e
      exact ⟨⟨3, 0, 0, fun _ => 0, 0, 0, 0⟩, ⟨Nat.zero_le _, (fun _ => by show (0 : Int) ≤ 0 ∧ (0 : Int) < 65536; decide), by decide, (fun e => by cases e), (fun e => by cases e), fun _ => rfl⟩, ⟨(fun e => by cases e), (fun e => by cases e), (fun e => by cases e), fun _ => ⟨a, cap, rfl⟩, (fun m hm => by have hm : m < 0 := hm; omega)⟩⟩
    · have hs : a.spot = none := (cell_lt (hc 0 (by omega))).2
      obtain ⟨b, o, sp⟩ := a
      simp only at hs
      subst hs
      have cells : ∀ m, m < len → w.cell? ⟨b, o + m, none⟩ = some (.int .u16 (zs.getD m 0)) := fun m hm => by rw [← WideShapes.add_plain]; exact hc m (by omega)
      by_cases h60 : len ≤ 60
      · exact ⟨⟨0, len, len, fun m => zs.getD m 0, b, o, cap⟩, ⟨h60, hr, by show 0 < 4; decide, fun _ => e, (fun e => by cases e), (fun e => by have e : 2 ≤ 0 := e; omega)⟩, ⟨fun _ => ⟨rfl, hcap⟩, (fun e => by cases e), (fun e => by cases e), (fun e => by have e : 3 ≤ 0 := e; omega), cells⟩⟩
      · exact ⟨⟨1, 60, len, fun m => zs.getD m 0, b, o, cap⟩, ⟨Nat.le_refl _, hr, by show 1 < 4; decide, (fun e => by cases e), fun _ => ⟨rfl, by show 60 < len; omega, by show len < _; omega⟩, (fun e => by have e : 2 ≤ 1 := e; omega)⟩, ⟨(fun e => by cases e), fun _ => ⟨rfl, hcap⟩, (fun e => by cases e), (fun e => by have e : 3 ≤ 1 := e; omega), fun m hm => cells m (by have hm : m < 60 := hm; omega)⟩⟩
theorem elV_rel {T : Tab} {w : World} {e : El} {v : Value} (h0 : T.iv 0 = (.i64, (e.la : Int))) (h1 : T.iv 19 = (.i64, (e.fa : Int))) (h2 : T.fb 1 = (e.ba, e.oa)) (h3 : T.fcap 1 = e.ca) (q : ElV w e v) : @vrel T (fun _ => none) (elK e.ek) v := by
  have hk : ∃ k, e.ek = k := ⟨_, rfl⟩
  obtain ⟨k, hk⟩ := hk
  rw [hk]
  match k, hk with
  | 0, hk =>
    obtain ⟨g1, g2⟩ := q.v0 hk
    simp only [elK, vrel]
    rw [h0, h2, h3]
    exact ⟨⟨rfl, Int.natCast_nonneg _⟩, by simpa using g2, by simpa using g1⟩
  | 1, hk =>
    obtain ⟨g1, g2⟩ := q.v1 hk
    simp only [elK, vrel]
    rw [h1, h2, h3]
    exact ⟨⟨rfl, Int.natCast_nonneg _⟩, by simpa using g2, by simpa using g1⟩
  | 2, hk => simp only [elK, vrel]; exact q.v2 hk
  | k + 3, hk => simp only [elK, vrel]; exact q.v3 (by omega)
theorem guOf {u : Ue} {w : World} (hl : 0 < u.lu) (h : ∀ j, j < u.lu → ∃ v, w.cell? ⟨u.bu, u.ou + j, none⟩ = some v ∧ ElV w (u.us j) v) (c : Co) : @Gl (TP (mkP u c)) (Kp.below w.heap.size) w := by
  have hj := Nat.mod_lt c.i hl
  obtain ⟨v, v1, v2⟩ := h _ hj
  refine ⟨fun g' o a h => (by cases h), fun i m a h => ?_⟩
  match i, h with
  | 0, h =>
    have h : (if m = c.i % u.lu then some (elK (elAt u c).ek) else none) = some a := h
    split at h
    · rename_i e
      cases h
      subst e
      exact ⟨(cell_lt v1).1, v, v1, elV_rel (e := elAt u c) rfl rfl rfl rfl v2⟩
    · cases h
  | 1, h =>
    obtain ⟨hm, rfl⟩ := numV_some (show numV .u16 (elAt u c).la (elAt u c).A m = some a from h)
    have hc := v2.cs m hm
    exact ⟨(cell_lt hc).1, _, hc, by simp only [vrel]; rfl⟩
  | i + 2, h => cases h
theorem chooseN {P : Nat → El → Prop} {n : Nat} (h : ∀ j, j < n → ∃ e, ElOk e ∧ P j e) : ∃ f : Nat → El, (∀ j, ElOk (f j)) ∧ ∀ j, j < n → P j (f j) := by
  have d : ElOk ⟨2, 0, 0, fun _ => 0, 0, 0, 0⟩ := ⟨Nat.zero_le _, (fun _ => by show (0 : Int) ≤ 0 ∧ (0 : Int) < 65536; decide), by decide, (fun e => by cases e), (fun e => by cases e), fun _ => rfl⟩
  refine ⟨fun j => if hj : j < n then Classical.choose (h j hj) else ⟨2, 0, 0, fun _ => 0, 0, 0, 0⟩, fun j => ?_, fun j hj => ?_⟩
  · by_cases hj : j < n
    · simp only [dif_pos hj]; exact (Classical.choose_spec (h j hj)).1
    · simp only [dif_neg hj]; exact d
  · simp only [dif_pos hj]; exact (Classical.choose_spec (h j hj)).2
/-- the law, for whatever the call is handed -/
theorem any {w : World} {l : Bool} {v : Value} {H : Type} {enc : TypeId × Value → H} {base : Nat} {spare : Nat → Bool} {held : Bool} {d : DataW H} {ps : List MemPlace} (hval : Value.okWide Tryz.prog w .any 0 38 v) (h : DataW.Trod enc Tryz.prog w base spare held 38 v d ps) : Ends w v l := by
  obtain ⟨a0, len0, cap0, rfl⟩ := okWide_slice Tryz.underlying38 hval
  obtain ⟨fuel, hf⟩ := h
  rcases Deep.open_slice1 Tryz.underlying38 (by kernel_rfl) hf with ⟨h0, _⟩ | ⟨a, len, cap, m, n, V, D, Pl, h0, _, hcap, hmx, hm, _, hx⟩
  · have h1 : Value.slice a0 len0 cap0 = .slice none 0 0 := by simpa [Value.cells] using h0
    rw [h1]
    cases l with
    | false => exact none_ok cnf (by simp only [vrel])
    | true => exact none_ok cnt (by simp only [vrel])
  · have h1 : Value.slice a0 len0 cap0 = .slice (some a) len cap := by simpa [Value.cells] using h0
    rw [h1] at hval ⊢
    have hs : a.spot = none := by
      simp only [Value.okWide, Tryz.underlying38, Cell.okWide, Cell.ok] at hval
      exact hval.2.2.2.1
    obtain ⟨b, o, sp⟩ := a
    simp only at hs
    subst hs
    rcases Nat.eq_zero_or_pos len with e | e
    · subst e
      cases l with
      | false => exact none_ok cef (by simp only [vrel]; exact ⟨_, _, rfl⟩)
      | true => exact none_ok cet (by simp only [vrel]; exact ⟨_, _, rfl⟩)
    · have hmm : len ≤ m := by rw [hm]; split <;> omega
      obtain ⟨us, u1, u2⟩ := chooseN (n := len) (P := fun j e => ElV w e (V j)) fun j hj => el_of (hx j (by omega)).2
      have hl : len < 9223372036854775808 := by unfold maxLen at hmx; omega
      have gu := guOf (u := ⟨len, b, o, cap, us⟩) (w := w) e fun j hj => ⟨V j, by rw [← WideShapes.add_plain]; exact (hx j (by have hj : j < len := hj; omega)).1, u2 j hj⟩
      cases l with
      | false => exact walkS (u := ⟨len, b, o, cap, us⟩) ⟨hl, u1⟩ hcap gu ksf kif
      | true => exact walkS (u := ⟨len, b, o, cap, us⟩) ⟨hl, u1⟩ hcap gu kst kit
end Go.Proofs.YtkkaifeiopjjdaaGreatDoor.np
