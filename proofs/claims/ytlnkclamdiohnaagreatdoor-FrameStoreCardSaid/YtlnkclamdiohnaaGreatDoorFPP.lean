/-
  The reference asks whether a text is a plain name: it answers, whatever the bytes.
-/
import Derived.Test.YtlnkclamdiohnaaGreatDoorFPE
set_option linter.unusedVariables false
set_option linter.unusedSimpArgs false
set_option linter.unusedSectionVars false
set_option maxRecDepth 1000000
set_option maxHeartbeats 0
namespace Go.Proofs.YtlnkclamdiohnaaGreatDoor.fp
open Go.X Go.RowKit Go.Proofs
/-- a call that makes one block -/
noncomputable def newHand (g : FuncId) (xs : List AV) (bl : Blk) (mk : Nat → AV) : Hand := fun f args h =>
  Bool.rec none (Bool.rec none (ob (h.alloc bl) fun p => some (mk p.1, p.2)) (veqs xs args)) (Nat.beq g f)
theorem newHand_ok [Tab] {g : FuncId} {xs : List AV} {bl : Blk} {mk : Nat → AV} (hk : ∀ h h' x, H.alloc h bl = some (x, h') → CallOk Tryz.prog g xs h (mk x, h')) : HandOk Tryz.prog (newHand g xs bl mk) := by
  intro f args h p e
  have e' : (Bool.rec none (Bool.rec none (ob (h.alloc bl) fun p => some (mk p.1, p.2)) (veqs xs args)) (Nat.beq g f) : Option (AV × H)) = some p := e
  cases h1 : Nat.beq g f with
  | false => rw [h1] at e'; cases e'
  | true =>
    rw [h1] at e'
    cases h2 : veqs xs args with
    | false => rw [h2] at e'; cases e'
    | true =>
      rw [h2] at e'
      obtain ⟨q, h3, h4⟩ := ob_some (show ob (h.alloc bl) (fun p => some (mk p.1, p.2)) = some p from e')
      cases h4
      rw [← nbeq_iff.1 h1, ← veqs_eq h2]
      exact hk h q.2 q.1 h3
theorem callDec_ok [Tab] {s : ByteArray} {j L : Nat} (hs : Tab.str 0 = s) (hj : Tab.iv j = (.i64, (L : Int))) (hv : ∀ m, Tab.vv 0 m = none) (hk : Tab.vk 0 = 0) (hc : DecW s L) {h h' : H} {x : Nat} (e : h.alloc (.vec 0) = some (x, h')) : CallOk Tryz.prog 34 [.ostr 0] h (.tup [.ov x j 1, .bool true], h') := by
  intro B w0 μ w args' r hva
  have e1 : args' = #[.string s] := by
    cases args' with
    | mk l => rw [one_s hs μ l hva]
  subst e1
  have hq := At.ofAlloc r e
  refine (hc w).mono ?_
  rintro e' w' ⟨b, base, c, rfl, hb, hlt, h5, arr, el, fz, h1, h2, h3⟩
  have hL : (Tab.iv j).2.toNat = L := by rw [hj]; simp
  refine ⟨_, upm μ x ⟨b, base, base + c⟩, rfl, Ext.upm _ hq.new, ?_, r.alloc hq rfl hb hlt ⟨arr, el, fz, h1, h2, h3, ?_, ?_⟩⟩
  · refine mk2 ?_ (by simp only [vrel])
    simp only [vrel]
    refine ⟨by rw [hj]; exact ⟨rfl, Int.natCast_nonneg _⟩, ⟨b, base, base + c⟩, c, by simp [upm], by rw [hL]; exact h5, ?_, by rw [hL]⟩
    show base + c * 1 = base + c
    omega
  · show base + Tab.vk 0 ≤ base + c
    rw [hk]
    omega
  · intro k a hk'
    rw [hv] at hk'
    cases hk'
noncomputable abbrev ivP (s : ByteArray) (i l : Nat) : Nat → IntKind × Int
  | 0 => (.i64, (s.size : Int))
  | 1 => (.i64, (i : Int))
  | 2 => (.i64, ((i + 1 : Nat) : Int))
  | 3 => (.i64, (l : Int))
  | _ => (.u8, byt s i)
noncomputable def pb : Code := codeOf Tryz.f25
theorem pb_eq : Tryz.f25.body = some pb := by kernel_rfl
noncomputable def pA : Code := hd (hd (restn 1 pb))
noncomputable def pL : Code := lpIn (tl (hd (restn 1 pb)))
noncomputable def pT : Code := tl (restn 1 pb)
theorem p_eq : restn 1 pb = .seq (.seq pA (.block 0 (.loop pL))) pT := by kernel_rfl
noncomputable abbrev plP (s : ByteArray) (i l : Nat) : Tab := plT (ivP s i l) (fun _ => s)
section
variable {s : ByteArray} {i l : Nat} {B : Kp} {w0 w : World} {μ : M} {a : Act}
noncomputable abbrev fsP : List (Nat × AV) := [(0, .ostr 0), (3, .oi 1)]
def PS (s : ByteArray) (i : Nat) (B : Kp) (w0 : World) (μ : M) (a : Act) (w : World) : Prop := St (plP s i 0) B w0 μ Tryz.f25.ntmps (frOf fsP) (hOf 0 []) a w
def PR (s : ByteArray) (b : Bool) (B : Kp) (w0 : World) (μ : M) (a : Act) (w : World) : Prop := St (plP s 0 0) B w0 μ Tryz.f25.ntmps (frOf [(2, .bool b)]) (hOf 0 []) a w
theorem ibPl0 (hi : i < 2000) (hlt : i < s.size) (e0 : (byt s i == 46) = true) : ∀ r ∈ ([(11, .oi 1, .oi 0, .bool true), (9, .oi 4, .int .u8 46, .bool true)] : List BRow), IbOk (ivP s i 0) r := by
  letI := Tab.empty
  exact (ibCons (ibB (op := .lss) rfl rfl (k := .i64) (a := (i : Int)) (b := (s.size : Int)) rfl rfl (tB (decide_eq_true (by omega)))) (ibCons (ibB (op := .eql) rfl rfl (k := .u8) (a := byt s i) (b := 46) rfl rfl (tB e0)) ibNil))
theorem goPl0 (hb : Base B μ 0) (hi : i < 2000) (hlt : i < s.size) (e0 : (byt s i == 46) = true) (s' : PS s i B w0 μ a w) : pL.wp Tryz.prog (fun e a' w' => e = .ret ∧ PR s false B w0 μ a' w') a w :=
  runTo_sound (fr := frOf fsP) (h := hOf 0 []) (T := (RT (ivP s i 0) (fun _ => s) _ (ibPl0 hi hlt e0) [] icNil [(0, [.ostr 0], .oi 0), (1, [.ostr 0, .oi 1], .oi 4)] (txCons (trLen rfl) (txCons (trAt (m := i) rfl rfl hlt) txNil)) [] allNil)) (T' := plP s 0 0) (K := Hand.none) (n := 100) mixed (@HandOk.none (RT (ivP s i 0) (fun _ => s) _ (ibPl0 hi hlt e0) [] icNil [(0, [.ostr 0], .oi 0), (1, [.ostr 0, .oi 1], .oi 4)] (txCons (trLen rfl) (txCons (trAt (m := i) rfl rfl hlt) txNil)) [] allNil) Tryz.prog) (C := (⟨0, 0, ofPairs [], []⟩ : Cv)) (rl := []) (ex := .ret) (vp := []) (fs := [(2, .bool false)]) (bs := [])
    hb (Nat.zero_le _) rfl (by kernel_rfl) ipNil vpNil (glNone rfl rfl) (by as_aux_lemma => kernel_rfl) (St.same sameRT s')
theorem ibPl1 (hi : i < 2000) (hlt : i < s.size) (e0 : (byt s i == 46) = false) (e1 : (byt s i == 59) = true) : ∀ r ∈ ([(11, .oi 1, .oi 0, .bool true), (9, .oi 4, .int .u8 46, .bool false), (9, .oi 4, .int .u8 59, .bool true)] : List BRow), IbOk (ivP s i 0) r := by
  letI := Tab.empty
  exact (ibCons (ibB (op := .lss) rfl rfl (k := .i64) (a := (i : Int)) (b := (s.size : Int)) rfl rfl (tB (decide_eq_true (by omega)))) (ibCons (ibB (op := .eql) rfl rfl (k := .u8) (a := byt s i) (b := 46) rfl rfl (tB e0)) (ibCons (ibB (op := .eql) rfl rfl (k := .u8) (a := byt s i) (b := 59) rfl rfl (tB e1)) ibNil)))
theorem goPl1 (hb : Base B μ 0) (hi : i < 2000) (hlt : i < s.size) (e0 : (byt s i == 46) = false) (e1 : (byt s i == 59) = true) (s' : PS s i B w0 μ a w) : pL.wp Tryz.prog (fun e a' w' => e = .ret ∧ PR s false B w0 μ a' w') a w :=
  runTo_sound (fr := frOf fsP) (h := hOf 0 []) (T := (RT (ivP s i 0) (fun _ => s) _ (ibPl1 hi hlt e0 e1) [] icNil [(0, [.ostr 0], .oi 0), (1, [.ostr 0, .oi 1], .oi 4)] (txCons (trLen rfl) (txCons (trAt (m := i) rfl rfl hlt) txNil)) [] allNil)) (T' := plP s 0 0) (K := Hand.none) (n := 100) mixed (@HandOk.none (RT (ivP s i 0) (fun _ => s) _ (ibPl1 hi hlt e0 e1) [] icNil [(0, [.ostr 0], .oi 0), (1, [.ostr 0, .oi 1], .oi 4)] (txCons (trLen rfl) (txCons (trAt (m := i) rfl rfl hlt) txNil)) [] allNil) Tryz.prog) (C := (⟨0, 0, ofPairs [], []⟩ : Cv)) (rl := []) (ex := .ret) (vp := []) (fs := [(2, .bool false)]) (bs := [])
    hb (Nat.zero_le _) rfl (by kernel_rfl) ipNil vpNil (glNone rfl rfl) (by as_aux_lemma => kernel_rfl) (St.same sameRT s')
theorem ibPl2 (hi : i < 2000) (hlt : i < s.size) (e0 : (byt s i == 46) = false) (e1 : (byt s i == 59) = false) (e2 : (byt s i == 91) = true) : ∀ r ∈ ([(11, .oi 1, .oi 0, .bool true), (9, .oi 4, .int .u8 46, .bool false), (9, .oi 4, .int .u8 59, .bool false), (9, .oi 4, .int .u8 91, .bool true)] : List BRow), IbOk (ivP s i 0) r := by
  letI := Tab.empty
  exact (ibCons (ibB (op := .lss) rfl rfl (k := .i64) (a := (i : Int)) (b := (s.size : Int)) rfl rfl (tB (decide_eq_true (by omega)))) (ibCons (ibB (op := .eql) rfl rfl (k := .u8) (a := byt s i) (b := 46) rfl rfl (tB e0)) (ibCons (ibB (op := .eql) rfl rfl (k := .u8) (a := byt s i) (b := 59) rfl rfl (tB e1)) (ibCons (ibB (op := .eql) rfl rfl (k := .u8) (a := byt s i) (b := 91) rfl rfl (tB e2)) ibNil))))
theorem goPl2 (hb : Base B μ 0) (hi : i < 2000) (hlt : i < s.size) (e0 : (byt s i == 46) = false) (e1 : (byt s i == 59) = false) (e2 : (byt s i == 91) = true) (s' : PS s i B w0 μ a w) : pL.wp Tryz.prog (fun e a' w' => e = .ret ∧ PR s false B w0 μ a' w') a w :=
  runTo_sound (fr := frOf fsP) (h := hOf 0 []) (T := (RT (ivP s i 0) (fun _ => s) _ (ibPl2 hi hlt e0 e1 e2) [] icNil [(0, [.ostr 0], .oi 0), (1, [.ostr 0, .oi 1], .oi 4)] (txCons (trLen rfl) (txCons (trAt (m := i) rfl rfl hlt) txNil)) [] allNil)) (T' := plP s 0 0) (K := Hand.none) (n := 100) mixed (@HandOk.none (RT (ivP s i 0) (fun _ => s) _ (ibPl2 hi hlt e0 e1 e2) [] icNil [(0, [.ostr 0], .oi 0), (1, [.ostr 0, .oi 1], .oi 4)] (txCons (trLen rfl) (txCons (trAt (m := i) rfl rfl hlt) txNil)) [] allNil) Tryz.prog) (C := (⟨0, 0, ofPairs [], []⟩ : Cv)) (rl := []) (ex := .ret) (vp := []) (fs := [(2, .bool false)]) (bs := [])
    hb (Nat.zero_le _) rfl (by kernel_rfl) ipNil vpNil (glNone rfl rfl) (by as_aux_lemma => kernel_rfl) (St.same sameRT s')
theorem ibPl3 (hi : i < 2000) (hlt : i < s.size) (e0 : (byt s i == 46) = false) (e1 : (byt s i == 59) = false) (e2 : (byt s i == 91) = false) (e3 : (byt s i == 47) = true) : ∀ r ∈ ([(11, .oi 1, .oi 0, .bool true), (9, .oi 4, .int .u8 46, .bool false), (9, .oi 4, .int .u8 59, .bool false), (9, .oi 4, .int .u8 91, .bool false), (9, .oi 4, .int .u8 47, .bool true)] : List BRow), IbOk (ivP s i 0) r := by
  letI := Tab.empty
  exact (ibCons (ibB (op := .lss) rfl rfl (k := .i64) (a := (i : Int)) (b := (s.size : Int)) rfl rfl (tB (decide_eq_true (by omega)))) (ibCons (ibB (op := .eql) rfl rfl (k := .u8) (a := byt s i) (b := 46) rfl rfl (tB e0)) (ibCons (ibB (op := .eql) rfl rfl (k := .u8) (a := byt s i) (b := 59) rfl rfl (tB e1)) (ibCons (ibB (op := .eql) rfl rfl (k := .u8) (a := byt s i) (b := 91) rfl rfl (tB e2)) (ibCons (ibB (op := .eql) rfl rfl (k := .u8) (a := byt s i) (b := 47) rfl rfl (tB e3)) ibNil)))))
theorem goPl3 (hb : Base B μ 0) (hi : i < 2000) (hlt : i < s.size) (e0 : (byt s i == 46) = false) (e1 : (byt s i == 59) = false) (e2 : (byt s i == 91) = false) (e3 : (byt s i == 47) = true) (s' : PS s i B w0 μ a w) : pL.wp Tryz.prog (fun e a' w' => e = .ret ∧ PR s false B w0 μ a' w') a w :=
  runTo_sound (fr := frOf fsP) (h := hOf 0 []) (T := (RT (ivP s i 0) (fun _ => s) _ (ibPl3 hi hlt e0 e1 e2 e3) [] icNil [(0, [.ostr 0], .oi 0), (1, [.ostr 0, .oi 1], .oi 4)] (txCons (trLen rfl) (txCons (trAt (m := i) rfl rfl hlt) txNil)) [] allNil)) (T' := plP s 0 0) (K := Hand.none) (n := 100) mixed (@HandOk.none (RT (ivP s i 0) (fun _ => s) _ (ibPl3 hi hlt e0 e1 e2 e3) [] icNil [(0, [.ostr 0], .oi 0), (1, [.ostr 0, .oi 1], .oi 4)] (txCons (trLen rfl) (txCons (trAt (m := i) rfl rfl hlt) txNil)) [] allNil) Tryz.prog) (C := (⟨0, 0, ofPairs [], []⟩ : Cv)) (rl := []) (ex := .ret) (vp := []) (fs := [(2, .bool false)]) (bs := [])
    hb (Nat.zero_le _) rfl (by kernel_rfl) ipNil vpNil (glNone rfl rfl) (by as_aux_lemma => kernel_rfl) (St.same sameRT s')
theorem ibPl4 (hi : i < 2000) (hlt : i < s.size) (e0 : (byt s i == 46) = false) (e1 : (byt s i == 59) = false) (e2 : (byt s i == 91) = false) (e3 : (byt s i == 47) = false) : ∀ r ∈ ([(11, .oi 1, .oi 0, .bool true), (9, .oi 4, .int .u8 46, .bool false), (9, .oi 4, .int .u8 59, .bool false), (9, .oi 4, .int .u8 91, .bool false), (9, .oi 4, .int .u8 47, .bool false), (0, .oi 1, .int .i64 1, .oi 2)] : List BRow), IbOk (ivP s i 0) r := by
  letI := Tab.empty
  exact (ibCons (ibB (op := .lss) rfl rfl (k := .i64) (a := (i : Int)) (b := (s.size : Int)) rfl rfl (tB (decide_eq_true (by omega)))) (ibCons (ibB (op := .eql) rfl rfl (k := .u8) (a := byt s i) (b := 46) rfl rfl (tB e0)) (ibCons (ibB (op := .eql) rfl rfl (k := .u8) (a := byt s i) (b := 59) rfl rfl (tB e1)) (ibCons (ibB (op := .eql) rfl rfl (k := .u8) (a := byt s i) (b := 91) rfl rfl (tB e2)) (ibCons (ibB (op := .eql) rfl rfl (k := .u8) (a := byt s i) (b := 47) rfl rfl (tB e3)) (ibCons (ibAdd (a := (i : Int)) (b := 1) (c := ((i + 1 : Nat) : Int)) rfl rfl rfl (by omega) (by omega) (by omega)) ibNil))))))
theorem goPl4 (hb : Base B μ 0) (hi : i < 2000) (hlt : i < s.size) (e0 : (byt s i == 46) = false) (e1 : (byt s i == 59) = false) (e2 : (byt s i == 91) = false) (e3 : (byt s i == 47) = false) (s' : PS s i B w0 μ a w) : pL.wp Tryz.prog (fun e a' w' => e = .normal ∧ PS s (i + 1) B w0 μ a' w') a w :=
  runTo_sound (fr := frOf fsP) (h := hOf 0 []) (T := (RT (ivP s i 0) (fun _ => s) _ (ibPl4 hi hlt e0 e1 e2 e3) [] icNil [(0, [.ostr 0], .oi 0), (1, [.ostr 0, .oi 1], .oi 4)] (txCons (trLen rfl) (txCons (trAt (m := i) rfl rfl hlt) txNil)) [] allNil)) (T' := plP s (i + 1) 0) (K := Hand.none) (n := 100) mixed (@HandOk.none (RT (ivP s i 0) (fun _ => s) _ (ibPl4 hi hlt e0 e1 e2 e3) [] icNil [(0, [.ostr 0], .oi 0), (1, [.ostr 0, .oi 1], .oi 4)] (txCons (trLen rfl) (txCons (trAt (m := i) rfl rfl hlt) txNil)) [] allNil) Tryz.prog) (C := (⟨0, 0, ofPairs [], [(.ostr 0, 0), (.oi 2, 1)]⟩ : Cv)) (rl := []) (ex := .normal) (vp := []) (fs := fsP) (bs := [])
    hb (Nat.zero_le _) rfl (by kernel_rfl) (ipCons (ipS rfl) (ipCons (ipO (.i64, ((i + 1 : Nat) : Int)) rfl rfl) ipNil)) vpNil (glNone rfl rfl) (by as_aux_lemma => kernel_rfl) (St.same sameRT s')
/-- behind the loop -/
def PE (s : ByteArray) (l : Nat) (B : Kp) (w0 : World) (μ : M) (a : Act) (w : World) : Prop := St (plP s 0 l) B w0 μ Tryz.f25.ntmps (frOf [(0, .ostr 0)]) (hOf 0 []) a w
theorem ibPX (h : ¬ i < s.size) : ∀ r ∈ ([(11, .oi 1, .oi 0, .bool false)] : List BRow), IbOk (ivP s i l) r := ibCons (ibB (op := .lss) rfl rfl (k := .i64) (a := (i : Int)) (b := (s.size : Int)) rfl rfl (tB (decide_eq_false (by omega)))) ibNil
noncomputable abbrev TPX (s : ByteArray) (i : Nat) (h : ¬ i < s.size) : Tab := RT (ivP s i 0) (fun _ => s) _ (ibPX h) [] icNil [(0, [.ostr 0], .oi 0)] (txCons (trLen rfl) txNil) [] allNil
theorem outP (hb : Base B μ 0) (h : ¬ i < s.size) (s' : PS s i B w0 μ a w) : pL.wp Tryz.prog (fun e a' w' => e = .exit 0 ∧ PE s l B w0 μ a' w') a w :=
  (runTo_sound (fr := frOf fsP) (h := hOf 0 []) (T := TPX s i h) (T' := plP s 0 l) (K := Hand.none) (n := 100) mixed (@HandOk.none (TPX s i h) Tryz.prog) (C := (⟨0, 0, ofPairs [], [(.ostr 0, 0)]⟩ : Cv)) (rl := []) (ex := .exit 0) (vp := []) (fs := [(0, .ostr 0)]) (bs := [])
    hb (Nat.zero_le _) rfl (by kernel_rfl) (ipCons (ipS rfl) ipNil) vpNil (glNone rfl rfl) (by as_aux_lemma => kernel_rfl) (St.same sameRT s'))
theorem endP0 (hb : Base B μ 0)  (hd : Ans 34 #[.string s] (.tuple #[.slice none 0 0, .bool false])) (s' : PE s l B w0 μ a w) : pT.wp Tryz.prog (fun e a' w' => e = .ret ∧ PR s false B w0 μ a' w') a w :=
  runTo_sound (fr := frOf [(0, .ostr 0)]) (h := hOf 0 []) (T := (RT (ivP s 0 l) (fun _ => s) [] ibNil [] icNil [] txNil [] allNil)) (T' := plP s 0 0) (K := (oneHand 34 [.ostr 0] (.tup [.nils, .bool false]))) (n := 100) mixed (@valHand (RT (ivP s 0 l) (fun _ => s) [] ibNil [] icNil [] txNil [] allNil) _ _ [.string s] _ _ (@one_s (RT (ivP s 0 l) (fun _ => s) [] ibNil [] icNil [] txNil [] allNil) _ _ rfl) (fun μ => @mk2 (RT (ivP s 0 l) (fun _ => s) [] ibNil [] icNil [] txNil [] allNil) _ _ _ _ _ (by simp only [vrel]) (by simp only [vrel])) hd) (C := (⟨0, 0, ofPairs [], []⟩ : Cv)) (rl := []) (ex := .ret) (vp := []) (fs := [(2, .bool false)]) (bs := [])
    hb (Nat.zero_le _) rfl (by kernel_rfl) ipNil vpNil (glNone rfl rfl) (by as_aux_lemma => kernel_rfl) (St.same sameRT s')
theorem endP10 (hb : Base B μ 0) (he : ¬ s = strOf 0 0) (hd : Ans 34 #[.string s] (.tuple #[.slice none 0 0, .bool true])) (s' : PE s l B w0 μ a w) : pT.wp Tryz.prog (fun e a' w' => e = .ret ∧ PR s true B w0 μ a' w') a w :=
  runTo_sound (fr := frOf [(0, .ostr 0)]) (h := hOf 0 []) (T := (RT (ivP s 0 l) (fun _ => s) [] ibNil [] icNil [(4, [.ostr 0, .str 0 0], .bool false)] (txCons (trEq (a := s) (b := strOf 0 0) rfl (by rfl) ⟨fun h => (by cases h), fun h => absurd h he⟩) txNil) [] allNil)) (T' := plP s 0 0) (K := (oneHand 34 [.ostr 0] (.tup [.nils, .bool true]))) (n := 100) mixed (@valHand (RT (ivP s 0 l) (fun _ => s) [] ibNil [] icNil [(4, [.ostr 0, .str 0 0], .bool false)] (txCons (trEq (a := s) (b := strOf 0 0) rfl (by rfl) ⟨fun h => (by cases h), fun h => absurd h he⟩) txNil) [] allNil) _ _ [.string s] _ _ (@one_s (RT (ivP s 0 l) (fun _ => s) [] ibNil [] icNil [(4, [.ostr 0, .str 0 0], .bool false)] (txCons (trEq (a := s) (b := strOf 0 0) rfl (by rfl) ⟨fun h => (by cases h), fun h => absurd h he⟩) txNil) [] allNil) _ _ rfl) (fun μ => @mk2 (RT (ivP s 0 l) (fun _ => s) [] ibNil [] icNil [(4, [.ostr 0, .str 0 0], .bool false)] (txCons (trEq (a := s) (b := strOf 0 0) rfl (by rfl) ⟨fun h => (by cases h), fun h => absurd h he⟩) txNil) [] allNil) _ _ _ _ _ (by simp only [vrel]) (by simp only [vrel])) hd) (C := (⟨0, 0, ofPairs [], []⟩ : Cv)) (rl := []) (ex := .ret) (vp := []) (fs := [(2, .bool true)]) (bs := [])
    hb (Nat.zero_le _) rfl (by kernel_rfl) ipNil vpNil (glNone rfl rfl) (by as_aux_lemma => kernel_rfl) (St.same sameRT s')
theorem endP11 (hb : Base B μ 0) (he : s = strOf 0 0) (hd : Ans 34 #[.string s] (.tuple #[.slice none 0 0, .bool true])) (s' : PE s l B w0 μ a w) : pT.wp Tryz.prog (fun e a' w' => e = .ret ∧ PR s false B w0 μ a' w') a w :=
  runTo_sound (fr := frOf [(0, .ostr 0)]) (h := hOf 0 []) (T := (RT (ivP s 0 l) (fun _ => s) [] ibNil [] icNil [(4, [.ostr 0, .str 0 0], .bool true)] (txCons (trEq (a := s) (b := strOf 0 0) rfl (by rfl) ⟨fun _ => he, fun _ => rfl⟩) txNil) [] allNil)) (T' := plP s 0 0) (K := (oneHand 34 [.ostr 0] (.tup [.nils, .bool true]))) (n := 100) mixed (@valHand (RT (ivP s 0 l) (fun _ => s) [] ibNil [] icNil [(4, [.ostr 0, .str 0 0], .bool true)] (txCons (trEq (a := s) (b := strOf 0 0) rfl (by rfl) ⟨fun _ => he, fun _ => rfl⟩) txNil) [] allNil) _ _ [.string s] _ _ (@one_s (RT (ivP s 0 l) (fun _ => s) [] ibNil [] icNil [(4, [.ostr 0, .str 0 0], .bool true)] (txCons (trEq (a := s) (b := strOf 0 0) rfl (by rfl) ⟨fun _ => he, fun _ => rfl⟩) txNil) [] allNil) _ _ rfl) (fun μ => @mk2 (RT (ivP s 0 l) (fun _ => s) [] ibNil [] icNil [(4, [.ostr 0, .str 0 0], .bool true)] (txCons (trEq (a := s) (b := strOf 0 0) rfl (by rfl) ⟨fun _ => he, fun _ => rfl⟩) txNil) [] allNil) _ _ _ _ _ (by simp only [vrel]) (by simp only [vrel])) hd) (C := (⟨0, 0, ofPairs [], []⟩ : Cv)) (rl := []) (ex := .ret) (vp := []) (fs := [(2, .bool false)]) (bs := [])
    hb (Nat.zero_le _) rfl (by kernel_rfl) ipNil vpNil (glNone rfl rfl) (by as_aux_lemma => kernel_rfl) (St.same sameRT s')
theorem endP20 (hb : Base B μ 0) (he : ¬ s = strOf 0 0) (hd : DecW s l) (s' : PE s l B w0 μ a w) : pT.wp Tryz.prog (fun e a' w' => e = .ret ∧ PR s true B w0 μ a' w') a w :=
  runTo_sound (fr := frOf [(0, .ostr 0)]) (h := hOf 0 []) (T := (RT (ivP s 0 l) (fun _ => s) [] ibNil [] icNil [(4, [.ostr 0, .str 0 0], .bool false)] (txCons (trEq (a := s) (b := strOf 0 0) rfl (by rfl) ⟨fun h => (by cases h), fun h => absurd h he⟩) txNil) [] allNil)) (T' := plP s 0 0) (K := (newHand 34 [.ostr 0] (.vec 0) fun x => .tup [.ov x 3 1, .bool true])) (n := 100) mixed (@newHand_ok (RT (ivP s 0 l) (fun _ => s) [] ibNil [] icNil [(4, [.ostr 0, .str 0 0], .bool false)] (txCons (trEq (a := s) (b := strOf 0 0) rfl (by rfl) ⟨fun h => (by cases h), fun h => absurd h he⟩) txNil) [] allNil) _ _ _ _ fun h h' x e => @callDec_ok (RT (ivP s 0 l) (fun _ => s) [] ibNil [] icNil [(4, [.ostr 0, .str 0 0], .bool false)] (txCons (trEq (a := s) (b := strOf 0 0) rfl (by rfl) ⟨fun h => (by cases h), fun h => absurd h he⟩) txNil) [] allNil) s 3 l rfl rfl (fun _ => rfl) rfl hd h h' x e) (C := (⟨0, 0, ofPairs [], []⟩ : Cv)) (rl := []) (ex := .ret) (vp := []) (fs := [(2, .bool true)]) (bs := [])
    hb (Nat.zero_le _) rfl (by kernel_rfl) ipNil vpNil (glNone rfl rfl) (by as_aux_lemma => kernel_rfl) (St.same sameRT s')
theorem endP21 (hb : Base B μ 0) (he : s = strOf 0 0) (hd : DecW s l) (s' : PE s l B w0 μ a w) : pT.wp Tryz.prog (fun e a' w' => e = .ret ∧ PR s false B w0 μ a' w') a w :=
  runTo_sound (fr := frOf [(0, .ostr 0)]) (h := hOf 0 []) (T := (RT (ivP s 0 l) (fun _ => s) [] ibNil [] icNil [(4, [.ostr 0, .str 0 0], .bool true)] (txCons (trEq (a := s) (b := strOf 0 0) rfl (by rfl) ⟨fun _ => he, fun _ => rfl⟩) txNil) [] allNil)) (T' := plP s 0 0) (K := (newHand 34 [.ostr 0] (.vec 0) fun x => .tup [.ov x 3 1, .bool true])) (n := 100) mixed (@newHand_ok (RT (ivP s 0 l) (fun _ => s) [] ibNil [] icNil [(4, [.ostr 0, .str 0 0], .bool true)] (txCons (trEq (a := s) (b := strOf 0 0) rfl (by rfl) ⟨fun _ => he, fun _ => rfl⟩) txNil) [] allNil) _ _ _ _ fun h h' x e => @callDec_ok (RT (ivP s 0 l) (fun _ => s) [] ibNil [] icNil [(4, [.ostr 0, .str 0 0], .bool true)] (txCons (trEq (a := s) (b := strOf 0 0) rfl (by rfl) ⟨fun _ => he, fun _ => rfl⟩) txNil) [] allNil) s 3 l rfl rfl (fun _ => rfl) rfl hd h h' x e) (C := (⟨0, 0, ofPairs [], []⟩ : Cv)) (rl := []) (ex := .ret) (vp := []) (fs := [(2, .bool false)]) (bs := [])
    hb (Nat.zero_le _) rfl (by kernel_rfl) ipNil vpNil (glNone rfl rfl) (by as_aux_lemma => kernel_rfl) (St.same sameRT s')
theorem roundsP (hs : s.size < 1900) : ∀ j i, s.size ≤ i + j → i ≤ s.size → ∃ o : Bool, ∀ B w0 μ, Base B μ 0 → ∀ l a w, PS s i B w0 μ a w → Code.rounds Tryz.prog pL (fun e a w => (o = false ∧ e = .ret ∧ PR s false B w0 μ a w) ∨ (o = true ∧ e = .exit 0 ∧ PE s l B w0 μ a w)) (j + 1) a w := by
  have last : ∀ j i, ¬ i < s.size → ∃ o : Bool, ∀ B w0 μ, Base B μ 0 → ∀ l a w, PS s i B w0 μ a w → Code.rounds Tryz.prog pL (fun e a w => (o = false ∧ e = .ret ∧ PR s false B w0 μ a w) ∨ (o = true ∧ e = .exit 0 ∧ PE s l B w0 μ a w)) (j + 1) a w := by
    intro j i h
    refine ⟨true, fun B w0 μ hb l a w s' => ?_⟩
    refine rounds_of (wp_mono (outP (l := l) hb h s') ?_)
    rintro e a' w' ⟨rfl, s2⟩
    exact .inr ⟨rfl, rfl, s2⟩
  intro j
  induction j with
  | zero => exact fun i h1 h2 => last 0 i (by omega)
  | succ j ih =>
    intro i h1 h2
    by_cases hlt : i < s.size
    · have hi : i < 2000 := by omega
      have bad : (∀ B w0 μ, Base B μ 0 → ∀ a w, PS s i B w0 μ a w → pL.wp Tryz.prog (fun e a' w' => e = .ret ∧ PR s false B w0 μ a' w') a w) → ∃ o : Bool, ∀ B w0 μ, Base B μ 0 → ∀ l a w, PS s i B w0 μ a w → Code.rounds Tryz.prog pL (fun e a w => (o = false ∧ e = .ret ∧ PR s false B w0 μ a w) ∨ (o = true ∧ e = .exit 0 ∧ PE s l B w0 μ a w)) (j + 1 + 1) a w := by
        intro hf
        refine ⟨false, fun B w0 μ hb l a w s' => ?_⟩
        refine rounds_of (wp_mono (hf B w0 μ hb a w s') ?_)
        rintro e a' w' ⟨rfl, s2⟩
        exact .inl ⟨rfl, rfl, s2⟩
      cases e0 : (byt s i == 46) with
      | true => exact bad fun B w0 μ hb a w s' => goPl0 hb hi hlt e0 s'
      | false =>
      cases e1 : (byt s i == 59) with
      | true => exact bad fun B w0 μ hb a w s' => goPl1 hb hi hlt e0 e1 s'
      | false =>
      cases e2 : (byt s i == 91) with
      | true => exact bad fun B w0 μ hb a w s' => goPl2 hb hi hlt e0 e1 e2 s'
      | false =>
      cases e3 : (byt s i == 47) with
      | true => exact bad fun B w0 μ hb a w s' => goPl3 hb hi hlt e0 e1 e2 e3 s'
      | false =>
        obtain ⟨o, hr⟩ := ih (i + 1) (by omega) (by omega)
        refine ⟨o, fun B w0 μ hb l a w s' => ?_⟩
        refine rounds_of (wp_mono (goPl4 hb hi hlt e0 e1 e2 e3 s') ?_)
        rintro e a' w' ⟨rfl, s2⟩
        exact hr B w0 μ hb l a' w' s2
    · exact last (j + 1) i hlt
theorem firstP : firstTo (plP s 0 0) Tryz.prog Hand.none 100 Tryz.f25.ntmps 1 pb (T.ofList 0 .leaf [.ostr 0]) H.empty (⟨0, 0, ofPairs [], [(.ostr 0, 0)]⟩ : Cv) [] [(0, .ostr 0)] [] = true := by kernel_rfl
theorem startP (hb : Base B μ 0) (s' : St (plP s 0 0) B w0 μ Tryz.f25.ntmps (frOf [(0, .ostr 0)]) (hOf 0 []) a w) : pA.wp Tryz.prog (fun e a' w' => e = .normal ∧ PS s 0 B w0 μ a' w') a w :=
  runTo_sound (T := plP s 0 0) (T' := plP s 0 0) (K := Hand.none) (n := 100) mixed (@HandOk.none (plP s 0 0) Tryz.prog) (C := (⟨0, 0, ofPairs [], [(.ostr 0, 0), (.int .i64 0, 1)]⟩ : Cv)) (rl := []) (ex := .normal) (vp := []) (fs := fsP) (bs := [])
    hb (Nat.zero_le _) rfl (by kernel_rfl) (ipCons (ipS rfl) (ipCons (ipC rfl) ipNil)) vpNil (glNone rfl rfl) (by as_aux_lemma => kernel_rfl) s'
end
theorem resPl (b : Bool) (h : H) : results? Tryz.prog Tryz.f25 (frOf [(2, .bool b)]) h = some (.bool b) := by kernel_rfl
theorem plain_ans (s : ByteArray) (hs : s.size < 1900) : ∃ b : Bool, Ans 25 #[.string s] (.bool b) := by
  obtain ⟨o, hr⟩ := roundsP hs s.size 0 (by omega) (Nat.zero_le _)
  have fin : ∀ (b : Bool), (∀ B w0 μ, Base B μ 0 → ∃ l, ∀ a w, (o = true ∧ PE s l B w0 μ a w → pT.wp Tryz.prog (fun e a' w' => e = .ret ∧ PR s b B w0 μ a' w') a w)) → (o = false → b = false) → Ans 25 #[.string s] (.bool b) := by
    intro b hE hF
    letI : Tab := plP s 0 0
    refine ans_of (args := [.ostr 0]) (a := .bool b) (q := hOf 0 []) ?_ (fun μ v g => isBool μ v g) (vrels_cons (by simp only [vrel]; rfl) (by simp [vrels])) rfl rfl
    refine @callOk_of Tryz.prog (plP s 0 0) 25 Tryz.f25 pb [.ostr 0] H.empty _ _ Tryz.func25 pb_eq (show 1 ≤ Tryz.f25.ntmps by decide +kernel) (show 1 < limit by decide) fun B w0 μ a w hb s' => ?_
    have hb : Base B μ 0 := hb
    obtain ⟨l, hl⟩ := hE B w0 μ hb
    refine firstTo_sound (T := plP s 0 0) (T' := plP s 0 0) (K := Hand.none) (m := 100) (n := 1) mixed (@HandOk.none (plP s 0 0) Tryz.prog) (C := (⟨0, 0, ofPairs [], [(.ostr 0, 0)]⟩ : Cv)) (rl := []) (vp := []) (fs := [(0, .ostr 0)]) (bs := [])
      hb (Nat.le_refl _) rfl (by kernel_rfl) (ipCons (ipS rfl) ipNil) vpNil (glNone rfl rfl) firstP s' fun a1 w1 s1 => ?_
    rw [p_eq]
    refine wp_seq (wp_seq (wp_mono (startP hb s1) ?_))
    rintro e a2 w2 ⟨rfl, s2⟩
    show (Code.block 0 (.loop pL)).wp _ _ _ _
    refine wp_block (wp_mono (wp_loop_rounds _ (hr B w0 μ hb l a2 w2 s2)) ?_)
    rintro e a3 w3 (⟨ho, rfl, s3⟩ | ⟨ho, rfl, s3⟩)
    · have hbf := hF ho
      subst hbf
      exact St.done (τ := plP s 0 0) (e := .ret) (.inr rfl) (resPl _ _) s3
    · show pT.wp _ _ _ _
      refine wp_mono (hl a3 w3 ⟨ho, s3⟩) ?_
      rintro e a4 w4 ⟨rfl, s4⟩
      exact St.done (τ := plP s 0 0) (e := .ret) (.inr rfl) (resPl _ _) s4
  rcases dec_out s hs with hd | hd | ⟨L, hd⟩
  · exact ⟨false, fin false (fun B w0 μ hb => ⟨0, fun a w q => endP0 hb hd q.2⟩) (fun _ => rfl)⟩
  · by_cases he : s = strOf 0 0
    · exact ⟨false, fin false (fun B w0 μ hb => ⟨0, fun a w q => endP11 hb he hd q.2⟩) (fun _ => rfl)⟩
    · cases o with
      | true => exact ⟨true, fin true (fun B w0 μ hb => ⟨0, fun a w q => endP10 hb he hd q.2⟩) (fun h => by cases h)⟩
      | false => exact ⟨false, fin false (fun B w0 μ hb => ⟨0, fun a w q => by cases q.1⟩) (fun _ => rfl)⟩
  · by_cases he : s = strOf 0 0
    · exact ⟨false, fin false (fun B w0 μ hb => ⟨L, fun a w q => endP21 hb he hd q.2⟩) (fun _ => rfl)⟩
    · cases o with
      | true => exact ⟨true, fin true (fun B w0 μ hb => ⟨L, fun a w q => endP20 hb he hd q.2⟩) (fun h => by cases h)⟩
      | false => exact ⟨false, fin false (fun B w0 μ hb => ⟨L, fun a w q => by cases q.1⟩) (fun _ => rfl)⟩
end Go.Proofs.YtlnkclamdiohnaaGreatDoor.fp
