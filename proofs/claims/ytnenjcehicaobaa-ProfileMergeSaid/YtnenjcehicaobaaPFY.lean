/-
  The laws of profile: Top: runs.
-/
import Derived.Test.YtnenjcehicaobaaPFW
set_option linter.unusedVariables false
set_option linter.unusedSimpArgs false
set_option linter.unusedSectionVars false
set_option maxRecDepth 1000000
set_option maxHeartbeats 0
namespace Go.Proofs.Ytnenjcehicaobaa.pf
open Go.X Go.RowKit Go.Proofs
noncomputable abbrev rT0 : List (Nat × Nat) := [(19003, 19003)]
noncomputable abbrev rTr : List (Nat × Nat) := [(19003, 19003), (19004, 20002), (19005, 20000)]
noncomputable abbrev iT1 : IP := (.oi 24, 24) :: iT
noncomputable abbrev fsT0 : List (Nat × AV) := [(0, .map 18001), (1, .oi 40), (5, .nils)]
noncomputable abbrev fsTe (l : AV) : List (Nat × AV) := [(1, .oi 40), (5, l)]
noncomputable abbrev bsTm : BS := [(18001, 18001, .omap 0)]
noncomputable abbrev bsTe : BS := [(18001, 18001, .omap 0), (19004, 19004, .vec 24)]
section
variable {p : Pm}
noncomputable abbrev Mr (h : p.sv 0 = ((p.mm 0).2, [], (p.mm 0).2)) : Mw p where
  mr := [(0, 0)]
  mrok := allCons h (fun _ h => nomatch h)
noncomputable abbrev Mx (t : Bool) (h : (∀ e ∈ (p.mm 0).1, e.2.2 < (p.sv 0).1 ∧ e.2.2 < (p.sv 0).2.2) ∧ (t = true → ∃ e ∈ (p.mm 0).1, e.2.2 ∉ (p.sv 0).2.1) ∧ (t = false → ∀ e ∈ (p.mm 0).1, e.2.2 ∈ (p.sv 0).2.1)) : Mw p where
  mx := [(0, 0, t)]
  mxok := allCons h (fun _ h => nomatch h)
noncomputable abbrev Mn (h : ∃ n k v, (p.sv 1).2.1.getLast? = some n ∧ (p.mm 0).2 = (p.sv 1).2.2 ∧ (p.mm 0).1.find? (fun e => Nat.beq e.2.2 n) = some (k, v, n) ∧ denK (strP p) (ivP p) (.ostr 14) k ∧ denI (ivP p) (.oi 1021) = some (.i64, v)) : Mw p where
  mn := [(0, 1, .ostr 14, .oi 1021)]
  mnok := allCons h (fun _ h => nomatch h)
noncomputable abbrev Rv (hM : p.M + 1 < 1000000) (hr : p.r = p.M) : Rz p where
  va := [⟨24, 24, 1, [.sl 20000 0 1 1], 25, 26⟩]
  vaok := by
    refine gA (n := p.M) (e := cq p.ls) (e' := cs 20000 p.M p.ls) (fun _ h => nomatch h) (by exact rfl) (by show ((IntKind.i64, ((p.r + 1 : Nat) : Int)) : IntKind × Int) = _; rw [hr]) (by exact rfl) (by exact rfl) (by exact rfl) hM (fun m hm => ?_) ?_
    · exact .inl (.inl (by unfold cq cs; rw [if_neg (by omega)]))
    · exact .inl (.inl (by unfold cs; rw [if_pos rfl]))
theorem gT0 (τ : Tab) : firstTo τ Try.prog Hand.none 3000 ntT 2 tC (T.ofList 0 .leaf [.map 18001, .oi 40]) (hIn 19000 [(18001, .omap 0)]) (CT [] [(.oi 40, 40), (.map 0, 0)]) [] fsT0 bsTm = true := by as_aux_lemma => kernel_rfl
theorem gT1 (h : p.sv 0 = ((p.mm 0).2, [], (p.mm 0).2)) : runTo ((Mr h).T (R0 p)) Try.prog Hand.none 3000 ntT t2a (frOf fsT0) (hOf 20000 bsTm) .normal (CT [(19003, 20000)] iT) [] (fsT .nils) (bsT0 20000 (.oit 18001 0)) = true := by as_aux_lemma => kernel_rfl
theorem gTn0 (h : (∀ e ∈ (p.mm 0).1, e.2.2 < (p.sv 0).1 ∧ e.2.2 < (p.sv 0).2.2) ∧ (true = true → ∃ e ∈ (p.mm 0).1, e.2.2 ∉ (p.sv 0).2.1) ∧ (true = false → ∀ e ∈ (p.mm 0).1, e.2.2 ∈ (p.sv 0).2.1)) : runTo ((Mx true h).T (R0 p)) Try.prog Hand.none 3000 ntT t2n (frOf (fsT .nils)) (hOf 20000 (bsT0 19003 (.oit 18001 0))) .normal (CT rT0 iT) [] (fsTn .nils) (bsT0 19003 (.oin 18001 0 0)) = true := by as_aux_lemma => kernel_rfl
theorem gTn1 (h : (∀ e ∈ (p.mm 0).1, e.2.2 < (p.sv 0).1 ∧ e.2.2 < (p.sv 0).2.2) ∧ (true = true → ∃ e ∈ (p.mm 0).1, e.2.2 ∉ (p.sv 0).2.1) ∧ (true = false → ∀ e ∈ (p.mm 0).1, e.2.2 ∈ (p.sv 0).2.1)) : runTo ((Mx true h).T (R0 p)) Try.prog Hand.none 3000 ntT t2n (frOf (fsT (.ov 19004 24 1))) (hOf 20000 (bsT1 19003 19004 (.oit 18001 0) 24)) .normal (CT rT1 iT1) [(19004, .vec 24, 24)] (fsTn (.ov 19004 24 1)) (bsT1 19003 19004 (.oin 18001 0 0) 24) = true := by as_aux_lemma => kernel_rfl
theorem gTe0 (h : (∀ e ∈ (p.mm 0).1, e.2.2 < (p.sv 0).1 ∧ e.2.2 < (p.sv 0).2.2) ∧ (false = true → ∃ e ∈ (p.mm 0).1, e.2.2 ∉ (p.sv 0).2.1) ∧ (false = false → ∀ e ∈ (p.mm 0).1, e.2.2 ∈ (p.sv 0).2.1)) : runTo ((Mx false h).T (R0 p)) Try.prog Hand.none 3000 ntT t2L (frOf (fsT .nils)) (hOf 20000 (bsT0 19003 (.oit 18001 0))) (.exit 0) (CT [] [(.oi 40, 40), (.map 0, 0)]) [] (fsTe .nils) bsTm = true := by as_aux_lemma => kernel_rfl
theorem gTe1 (h : (∀ e ∈ (p.mm 0).1, e.2.2 < (p.sv 0).1 ∧ e.2.2 < (p.sv 0).2.2) ∧ (false = true → ∃ e ∈ (p.mm 0).1, e.2.2 ∉ (p.sv 0).2.1) ∧ (false = false → ∀ e ∈ (p.mm 0).1, e.2.2 ∈ (p.sv 0).2.1)) : runTo ((Mx false h).T (R0 p)) Try.prog Hand.none 3000 ntT t2L (frOf (fsT (.ov 19004 24 1))) (hOf 20000 (bsT1 19003 19004 (.oit 18001 0) 24)) (.exit 0) (CT [(19004, 19004)] [(.oi 24, 24), (.oi 40, 40), (.map 0, 0)]) [(19004, .vec 24, 24)] (fsTe (.ov 19004 24 1)) bsTe = true := by as_aux_lemma => kernel_rfl
noncomputable abbrev zT : Blk := rowOf [.sl 20000 0 1 1] true
noncomputable abbrev iTb : IP := [(.oi 40, 40), (.map 0, 0), (.ptr 1 0, 0)]
theorem gTb0 (h : ∃ n k v, (p.sv 1).2.1.getLast? = some n ∧ (p.mm 0).2 = (p.sv 1).2.2 ∧ (p.mm 0).1.find? (fun e => Nat.beq e.2.2 n) = some (k, v, n) ∧ denK (strP p) (ivP p) (.ostr 14) k ∧ denI (ivP p) (.oi 1021) = some (.i64, v)) (hM : p.M + 1 < 1000000) (hr : p.r = p.M) : runTo ((Mn h).T (Rv hM hr)) Try.prog Hand.none 3000 ntT t2b (frOf (fsTn .nils)) (hOf 20000 (bsT0 19003 (.oit 18001 1))) .normal (CT rTr ((.int .i64 1, 26) :: (.ostr 14, 14) :: (.oi 1021, 1021) :: iTb)) [(20002, zT, 26)] (fsT (.ov 19004 26 1)) (bsTr 19003 20002 20000 (.oit 18001 0) 26) = true := by as_aux_lemma => kernel_rfl
theorem gTb1 (h : ∃ n k v, (p.sv 1).2.1.getLast? = some n ∧ (p.mm 0).2 = (p.sv 1).2.2 ∧ (p.mm 0).1.find? (fun e => Nat.beq e.2.2 n) = some (k, v, n) ∧ denK (strP p) (ivP p) (.ostr 14) k ∧ denI (ivP p) (.oi 1021) = some (.i64, v)) (hM : p.M + 1 < 1000000) (hr : p.r = p.M) : runTo ((Mn h).T (Rv hM hr)) Try.prog Hand.none 3000 ntT t2b (frOf (fsTn (.ov 19004 24 1))) (hOf 20000 (bsT1 19003 19004 (.oit 18001 1) 24)) .normal (CT rTr ((.oi 26, 26) :: (.ostr 14, 14) :: (.oi 1021, 1021) :: iTb)) [(20002, .vec 25, 26)] (fsT (.ov 19004 26 1)) (bsTr 19003 20002 20000 (.oit 18001 0) 26) = true := by as_aux_lemma => kernel_rfl
noncomputable abbrev CTz (rl : List (Nat × Nat)) (ip : IP) : Cv := ⟨19000, 20010, ofPairs rl, ip⟩
noncomputable abbrev bsTo : BS := [(18001, 18001, .omap 0), (20003, 20003, .vec 30)]
theorem gTz0 (t u : Bool) (ht : decide ((0 : Int) < p.K) = t) (hu : decide (0 < p.N) = u) : runTo (RCn t u ht hu).T Try.prog Hand.none 3000 ntT (restn 3 tC) (frOf (fsTe .nils)) (hOf 20000 bsTm) .ret (CTz [] [(.map 0, 0)]) [] [(4, .nils)] bsTm = true := by cases t <;> cases u <;> as_aux_lemma => kernel_rfl
theorem gTz1 (p : Pm) : runTo (T0 p) Try.prog (inHand moI0) 3000 ntT (restn 3 tC) (frOf (fsTe (.ov 19004 24 1))) (hOf 20000 bsTe) .ret (CTz [] [(.map 0, 0)]) [] [(4, .nils)] bsTm = true := by as_aux_lemma => kernel_rfl
theorem gTz2 (p : Pm) : runTo (T0 p) Try.prog (inHand moI1) 3000 ntT (restn 3 tC) (frOf (fsTe (.ov 19004 24 1))) (hOf 20000 bsTe) .ret (CTz [(20003, 20003)] [(.oi 30, 30), (.map 0, 0)]) [(20003, .vec 30, 30)] [(4, .ov 20003 30 2)] bsTo = true := by as_aux_lemma => kernel_rfl
/- what is drawn -/
theorem gO1a : okFs (CT rT0 [(.oi 40, 40), (.map 0, 0), (.ptr 1 0, 1)]) (frOf (fsTn .nils)) (fsTn .nils) = true := by as_aux_lemma => kernel_rfl
theorem gO2a : okBs (CT rT0 [(.oi 40, 40), (.map 0, 0), (.ptr 1 0, 1)]) [] ((hOf 20000 (bsT0 19003 (.oin 18001 0 0))).put 19003 (.oit 18001 1)) (bsT0 19003 (.oit 18001 1)) .leaf = true := by as_aux_lemma => kernel_rfl
theorem gO3a : (hOf 20000 (bsT0 19003 (.oin 18001 0 0))).get 19003 = some (.oin 18001 0 0) := by as_aux_lemma => kernel_rfl
theorem gO4a : itFree 19003 (bsT0 19003 (.oin 18001 0 0)) = true := by as_aux_lemma => kernel_rfl
theorem gO1b : okFs (CT rT1 [(.oi 24, 24), (.oi 40, 40), (.map 0, 0), (.ptr 1 0, 1)]) (frOf (fsTn (.ov 19004 24 1))) (fsTn (.ov 19004 24 1)) = true := by as_aux_lemma => kernel_rfl
theorem gO2b : okBs (CT rT1 [(.oi 24, 24), (.oi 40, 40), (.map 0, 0), (.ptr 1 0, 1)]) [(19004, .vec 24, 24)] ((hOf 20000 (bsT1 19003 19004 (.oin 18001 0 0) 24)).put 19003 (.oit 18001 1)) (bsT1 19003 19004 (.oit 18001 1) 24) .leaf = true := by as_aux_lemma => kernel_rfl
theorem gO3b : (hOf 20000 (bsT1 19003 19004 (.oin 18001 0 0) 24)).get 19003 = some (.oin 18001 0 0) := by as_aux_lemma => kernel_rfl
theorem gO4b : itFree 19003 (bsT1 19003 19004 (.oin 18001 0 0) 24) = true := by as_aux_lemma => kernel_rfl
end
end Go.Proofs.Ytnenjcehicaobaa.pf
