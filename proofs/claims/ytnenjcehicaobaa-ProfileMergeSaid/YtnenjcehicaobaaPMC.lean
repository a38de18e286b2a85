/-
  The law ProfileMerge: Top is called for each list: runs; lists as items.
-/
import Derived.Test.YtnenjcehicaobaaPMB
set_option linter.unusedVariables false
set_option linter.unusedSimpArgs false
set_option linter.unusedSectionVars false
set_option maxRecDepth 1000000
set_option maxHeartbeats 0
namespace Go.Proofs.Ytnenjcehicaobaa.pf
open Go.X Go.RowKit Go.Proofs
section
variable {p : Lm}
noncomputable abbrev Ra1 (hM : p.M + 1 < 1000000) : Rq p where
  va := [⟨24, 24, 1, [.ov 20003 30 2], 25, 26⟩]
  vaok := gA (n := p.M) (e := cm) (e' := cm1 p.M) (fun _ h => nomatch h) (by exact rfl) (by exact rfl) (by exact rfl) (by exact rfl) (by exact rfl) hM (fun m hm => .inl (.inl (by unfold cm cm1; rw [if_neg (by omega)]))) (.inl (.inl (by unfold cm1; rw [if_pos rfl])))
noncomputable abbrev Ra0 (hM : p.M + 1 < 1000000) : Rq p where
  va := [⟨24, 24, 1, [.nils], 27, 26⟩]
  vaok := gA (n := p.M) (e := cm) (e' := cm0 p.M) (fun _ h => nomatch h) (by exact rfl) (by exact rfl) (by exact rfl) (by exact rfl) (by exact rfl) hM (fun m hm => .inl (.inl (by unfold cm cm0; rw [if_neg (by omega)]))) (.inl (.inl (by unfold cm0; rw [if_pos rfl])))
noncomputable abbrev ls6 : AV := .ov 18003 26 1
noncomputable abbrev bsR1 (x y : Nat) : BS := bsP [(18003, x, .vec 28), (18004, y, .vec 30)]
noncomputable abbrev bsR0 (x : Nat) : BS := bsP [(18003, x, .vec 27)]
noncomputable abbrev rlR1 : List (Nat × Nat) := [(18002, 18002), (18003, 20011), (18004, 20003)]
noncomputable abbrev rlR0 : List (Nat × Nat) := [(18002, 18002), (18003, 20011)]
noncomputable abbrev zR1 : Blk := rowOf [.ov 20003 30 2] true
noncomputable abbrev zR0 : Blk := rowOf [.nils] true
theorem gr11 (hM : p.M + 1 < 1000000) : runTo (Ra1 hM).T Try.prog (inHand tI1C) 3000 ntQ y2 (frOf (fsO1 lsv)) (hOf 19000 (bsP1 bsl)) .normal (CQ rlR1 ((.oi 26, 26) :: (.oi 30, 30) :: iO)) [(20011, .vec 25, 28), (20003, .vec 30, 30)] (fsO ls6) (bsR1 20011 20003) = true := by as_aux_lemma => kernel_rfl
theorem gr01 (p : Lm) : runTo (M0 p) Try.prog (inHand tI1C) 3000 ntQ y2 (frOf (fsO1 .nils)) (hOf 19000 (bsP1 [])) .normal (CQ rlR1 ((.int .i64 1, 26) :: (.oi 30, 30) :: iO)) [(20011, zR1, 28), (20003, .vec 30, 30)] (fsO ls6) (bsR1 20011 20003) = true := by as_aux_lemma => kernel_rfl
theorem gr10 (hM : p.M + 1 < 1000000) : runTo (Ra0 hM).T Try.prog (inHand tI0C) 3000 ntQ y2 (frOf (fsO1 lsv)) (hOf 19000 (bsP1 bsl)) .normal (CQ rlR0 ((.oi 26, 26) :: iO)) [(20011, .vec 27, 27)] (fsO ls6) (bsR0 20011) = true := by as_aux_lemma => kernel_rfl
theorem gr00 (p : Lm) : runTo (M0 p) Try.prog (inHand tI0C) 3000 ntQ y2 (frOf (fsO1 .nils)) (hOf 19000 (bsP1 [])) .normal (CQ rlR0 ((.int .i64 1, 26) :: iO)) [(20011, zR0, 27)] (fsO ls6) (bsR0 20011) = true := by as_aux_lemma => kernel_rfl
noncomputable abbrev Rz' (hi : p.i < 1000) : Rq p where
  ib := [(0, .oi 2, .int .i64 1, .oi 3)]
  ibok := rAdd (a := (p.i : Int)) (b := 1) (c := ((p.i + 1 : Nat) : Int)) ibNil
theorem gqz (hi : p.i < 1000) : runTo (Rz' hi).T Try.prog Hand.none 3000 ntQ q6z (frOf (fsO lsv)) (hOf 19000 (bsP bsl)) .normal (CQ [(18002, 18002), (18003, 18003)] ((.oi 24, 24) :: (.oi 3, 2) :: iP)) [(18003, .vec 24, 24)] (fsO lsv) (bsP bsl) = true := by as_aux_lemma => kernel_rfl
end
/- M lists of rows -/
def adM (ad : Nat → Nat × Nat) (i k : Nat) : Addr := ⟨(ad i).1, (ad i).2 + 2 * k, none⟩
def gm (M : Nat) (L : Nat → Nat) (ad : Nat → Nat × Nat) (cp : Nat → Nat) (Fs : Nat → List Row) : Gi where
  rv := fun e => if e % 8 < M ∧ 0 < L (e % 8) then (if e / 8 < L (e % 8) then .slice (some (adM ad (e % 8) (e / 8))) (L (e % 8) - e / 8) (cp (e % 8) - e / 8) else if e / 8 = L (e % 8) then .slice (some (if cp (e % 8) - (e / 8 - 1) = 1 then adM ad (e % 8) (e / 8 - 1) else (adM ad (e % 8) (e / 8 - 1)).add (1 * 2))) 0 (cp (e % 8) - e / 8) else .slice none 0 0) else .slice none 0 0
  adr := fun e => ((ad (e % 8)).1, (ad (e % 8)).2 + 2 * (e / 8))
  cap := fun e => cp (e % 8) - e / 8
  len := fun e => if e % 8 < M then L (e % 8) - e / 8 else 0
  row := fun e => (Fs (e % 8)).getD (e / 8) (.empty, 0)
  nx := fun e => e + 8
section
variable {M : Nat} {L : Nat → Nat} {ad : Nat → Nat × Nat} {cp : Nat → Nat} {Fs : Nat → List Row}
theorem gm_len {e : Nat} : 0 < (gm M L ad cp Fs).len e ↔ e % 8 < M ∧ e / 8 < L (e % 8) := by
  show 0 < (if e % 8 < M then L (e % 8) - e / 8 else 0) ↔ _
  split <;> omega
theorem gm_ok (hc : ∀ i, i < M → L i ≤ cp i) (hL : ∀ i, L i ≤ 8) : Gok (gm M L ad cp Fs) := by
  refine ⟨fun e h => ?_, fun e h => ?_, fun e h => ?_, fun e h => ?_, fun e h => ?_, fun e => ?_⟩
  · obtain ⟨h1, h2⟩ := gm_len.1 h
    have := hc _ h1
    show (if e % 8 < M then L (e % 8) - e / 8 else 0) ≤ cp (e % 8) - e / 8
    rw [if_pos h1]; omega
  · obtain ⟨h1, h2⟩ := gm_len.1 h
    show (if e % 8 < M ∧ 0 < L (e % 8) then _ else _ : Value) = .slice (some (adM ad (e % 8) (e / 8))) (if e % 8 < M then L (e % 8) - e / 8 else 0) (cp (e % 8) - e / 8)
    rw [if_pos ⟨h1, by omega⟩, if_pos h2, if_pos h1]
  · obtain ⟨h1, h2⟩ := gm_len.1 h
    have hcc := hc _ h1
    have e1 : (e + 8) % 8 = e % 8 := by omega
    have e2 : (e + 8) / 8 = e / 8 + 1 := by omega
    show (if (e + 8) % 8 < M ∧ 0 < L ((e + 8) % 8) then (if (e + 8) / 8 < L ((e + 8) % 8) then Value.slice (some (adM ad ((e + 8) % 8) ((e + 8) / 8))) (L ((e + 8) % 8) - (e + 8) / 8) (cp ((e + 8) % 8) - (e + 8) / 8) else if (e + 8) / 8 = L ((e + 8) % 8) then .slice (some (if cp ((e + 8) % 8) - ((e + 8) / 8 - 1) = 1 then adM ad ((e + 8) % 8) ((e + 8) / 8 - 1) else (adM ad ((e + 8) % 8) ((e + 8) / 8 - 1)).add (1 * 2))) 0 (cp ((e + 8) % 8) - (e + 8) / 8) else .slice none 0 0) else .slice none 0 0) = .slice (some (if cp (e % 8) - e / 8 = 1 then adM ad (e % 8) (e / 8) else (adM ad (e % 8) (e / 8)).add (1 * 2))) ((if e % 8 < M then L (e % 8) - e / 8 else 0) - 1) (cp (e % 8) - e / 8 - 1)
    rw [e1, e2, if_pos ⟨h1, by omega⟩, if_pos h1]
    by_cases c : e / 8 + 1 < L (e % 8)
    · rw [if_pos c, if_neg (show ¬ cp (e % 8) - e / 8 = 1 by omega)]
      have ea : (adM ad (e % 8) (e / 8)).add (1 * 2) = adM ad (e % 8) (e / 8 + 1) := by
        unfold adM
        rw [Addr.add_lit]
        congr 1
      rw [ea, show L (e % 8) - (e / 8 + 1) = L (e % 8) - e / 8 - 1 by omega, show cp (e % 8) - (e / 8 + 1) = cp (e % 8) - e / 8 - 1 by omega]
    · rw [if_neg c, if_pos (by omega), show e / 8 + 1 - 1 = e / 8 by omega, show L (e % 8) - e / 8 - 1 = 0 by omega, show cp (e % 8) - (e / 8 + 1) = cp (e % 8) - e / 8 - 1 by omega]
  · obtain ⟨h1, h2⟩ := gm_len.1 h
    show (if (e + 8) % 8 < M then L ((e + 8) % 8) - (e + 8) / 8 else 0) = (if e % 8 < M then L (e % 8) - e / 8 else 0) - 1
    rw [show (e + 8) % 8 = e % 8 by omega, show (e + 8) / 8 = e / 8 + 1 by omega, if_pos h1, if_pos h1]; omega
  · have h' : ¬ (e % 8 < M ∧ e / 8 < L (e % 8)) := fun c => by have := gm_len (ad := ad) (cp := cp) (Fs := Fs).2 c; omega
    show ∃ b c, (if e % 8 < M ∧ 0 < L (e % 8) then _ else _ : Value) = .slice b 0 c
    split
    · rw [if_neg (fun c => h' ⟨by omega, c⟩)]
      split
      · exact ⟨_, _, rfl⟩
      · exact ⟨_, _, rfl⟩
    · exact ⟨_, _, rfl⟩
  · have := hL (e % 8)
    show (if e % 8 < M then L (e % 8) - e / 8 else 0) < 1000000
    split <;> omega
theorem gm_rest (g : Gok (gm M L ad cp Fs)) {i : Nat} (hi : i < M) (h8 : i < 8) (hl : L i = (Fs i).length) : ∀ (d k : Nat), k + d = L i → rest (gm M L ad cp Fs) (8 * k + i) = (Fs i).drop k
  | 0, k, h => by
    rw [rest_nil]
    · rw [List.drop_eq_nil_of_le (by omega)]
    · show (if (8 * k + i) % 8 < M then L ((8 * k + i) % 8) - (8 * k + i) / 8 else 0) = 0
      rw [show (8 * k + i) % 8 = i by omega, show (8 * k + i) / 8 = k by omega, if_pos hi]; omega
  | d + 1, k, h => by
    have hlen : 0 < (gm M L ad cp Fs).len (8 * k + i) := gm_len.2 (by rw [show (8 * k + i) % 8 = i by omega, show (8 * k + i) / 8 = k by omega]; exact ⟨hi, by omega⟩)
    rw [rest_cons g hlen]
    have e1 : (gm M L ad cp Fs).nx (8 * k + i) = 8 * (k + 1) + i := by show 8 * k + i + 8 = _; omega
    have e2 : (gm M L ad cp Fs).row (8 * k + i) = (Fs i)[k]'(by omega) := by
      show (Fs ((8 * k + i) % 8)).getD ((8 * k + i) / 8) (.empty, 0) = _
      rw [show (8 * k + i) % 8 = i by omega, show (8 * k + i) / 8 = k by omega, List.getD_eq_getElem?_getD, List.getElem?_eq_getElem (by omega)]
      rfl
    rw [e1, e2, gm_rest g hi h8 hl d (k + 1) (by omega)]
    exact (List.drop_eq_getElem_cons (by omega)).symm
end
end Go.Proofs.Ytnenjcehicaobaa.pf
