/-
  The law StringsAll: exits, ends, the beginning.
-/
import Derived.Test.YtifdjfcakkdgeaaGreatDoorSAO
set_option linter.unusedVariables false
set_option linter.unusedSimpArgs false
set_option linter.unusedSectionVars false
set_option maxRecDepth 1000000
set_option maxHeartbeats 0
namespace Go.Proofs.YtifdjfcakkdgeaaGreatDoor.sa
open Go.X Go.RowKit Go.Proofs
theorem tab_of [Tab] (hp : Tab.gv = gvP) (w : World) (hg : ∀ g o a, Tab.gv g o = some a → ∃ v, w.cell? ⟨g, o, none⟩ = some v ∧ (vrel (fun _ => none) a v ∧ (Tab.gv g (o + 1) = none → w.cell? ⟨g, o + 1, none⟩ = none))) :
    Lib.TabIs Tryz.prog w "internal/strconv.uint64pow10" .u64 Lib.pow10Tab := by
  have c : ∀ o, o < 20 → w.cell? ⟨0, o, none⟩ = some (.int .u64 ((10 ^ o : Nat) : Int)) := fun o ho => by
    obtain ⟨v, h1, h2, _⟩ := hg 0 o _ (by rw [hp]; exact gvP_at ho)
    simp only [vrel] at h2
    rw [h1, h2]
  have z : w.cell? ⟨0, 20, none⟩ = none := by
    obtain ⟨v, h1, h2, h3⟩ := hg 0 19 _ (by rw [hp]; exact gvP_at (by decide))
    exact h3 (by rw [hp]; exact gvP_end)
  unfold Lib.TabIs World.var?
  rw [show Tryz.prog.globalNamed "internal/strconv.uint64pow10" = some 0 from by kernel_rfl]
  simp only [Option.bind_some]
  cases hh : w.heap[0]? with
  | none =>
    have c0 := c 0 (by decide)
    simp [World.cell?, hh] at c0
  | some ob =>
    cases ob with
    | cells cs t f =>
      have c' : ∀ o, o < 20 → cs[o]? = some (.int .u64 ((10 ^ o : Nat) : Int)) := fun o ho => by
        have := c o ho
        simpa [World.cell?, hh] using this
      have z' : cs.size ≤ 20 := by simpa [World.cell?, hh] using z
      show some cs = some _
      congr 1
      have hs : cs.size = 20 := by
        have h2 : 19 < cs.size := by
          rcases Nat.lt_or_ge 19 cs.size with h | h
          · exact h
          · have := c' 19 (by decide); rw [Array.getElem?_eq_none h] at this; cases this
        omega
      apply Array.ext
      · rw [hs]; simp [Lib.pow10Tab]
      · intro i h1 h2
        have := c' i (by omega)
        rw [Array.getElem?_eq_getElem h1] at this
        simp only [Option.some.injEq] at this
        rw [this]
        simp [Lib.pow10Tab]
    | _ =>
      have c0 := c 0 (by decide)
      simp [World.cell?, hh] at c0
noncomputable def begH : Hand := fun f args h => ifb (Nat.beq 4 f) (match args with
  | [] => some (.bool true, h)
  | _ => none)
theorem begH_ok {T : Tab} (hp : T.gv = gvP) : @HandOk T Tryz.prog begH := by
  letI := T
  intro f args h q e0
  unfold begH at e0
  obtain ⟨h1, e1⟩ := ifb_some e0
  clear e0
  have h1 := nbeq_iff.1 h1
  subst h1
  rcases args with _ | ⟨u, l⟩ <;> first | (cases e1; done) | skip
  have e2 : some ((.bool true, h) : AV × H) = some q := e1
  cases e2
  refine callFact fun B w0 μ w l r hv => ?_
  have hv : l = [] := hv
  subst hv
  refine (begun_is (w := w) (tab_of hp w fun g o a hg => (r.below.glbs hg).2)).mono ?_
  rintro x w' ⟨rfl, hb⟩
  exact ⟨⟨_, rfl, fun μ => by simp only [vrel]⟩, hb⟩
noncomputable abbrev TG' (p : Pm) : Tab := { TP p with gv := gvP }
noncomputable abbrev K0 : Hand := begH.or KN
theorem K0_ok {T : Tab} (hp : T.gv = gvP) : @HandOk T Tryz.prog K0 := HandOk.or (begH_ok hp) KN_ok
noncomputable def fsB' : List (Nat × AV) := [(0, .fo 0 15 1), (1, .oi 30), (5, .bool true), (6, .ptr 3255 0), (7, .ptr 3257 0), (8, .nils), (9, .nils)]
noncomputable def cvB0 : Cv := ⟨20000, 20010, ofPairs [], [(.fo 0 15 1, 0), (.oi 30, 30), (.oi 15, 15)]⟩
theorem gs0 (p : Pm) : firstTo (TG' p) Tryz.prog K0 5000 Tryz.f3.ntmps 7 lC (T.ofList 0 .leaf [.fo 0 15 1, .oi 30]) H.empty cvB0 [] fsB' (bsL 0 0 0 0 0 0 0) = true := by as_aux_lemma => kernel_rfl
noncomputable def cvI0 : Cv := ⟨20000, 20010, ofPairs [], [(.fo 0 15 1, 0), (.oi 30, 30), (.oi 15, 15), (.int .i64 0, 14)]⟩
theorem gi00 (p : Pm) : runTo (TP p) Tryz.prog Hand.none 500 Tryz.f3.ntmps lI (frOf fsB') (hL 0) .normal cvI0 [] (fsL' 0) (bsL 0 0 0 0 0 0 0) = true := by as_aux_lemma => kernel_rfl
/- nothing comes in -/
abbrev RZ0 (n : Int) : Rw (fun _ => (.i64, n)) noV noK (⟨fun _ => (0, 0), fun _ => 0, fun _ _ => none⟩ : Fgn) (⟨fun _ => .empty, fun _ => [], (fun _ _ h => nomatch h), [], (fun _ h => nomatch h)⟩ : Txts fun _ => (.i64, n)) where
  vvp := noVp
noncomputable abbrev TZ (n : Int) : Tab := { (RZ0 n).T with gv := gvP }
theorem zN0 (n : Int) : okTrue (@call (TZ n) Tryz.prog K0 5000 3 [.nils, .oi 0] H.empty) = true := by as_aux_lemma => kernel_rfl
theorem zE0 (n : Int) : okTrue (@call (TZ n) Tryz.prog K0 5000 3 [.es, .oi 0] H.empty) = true := by as_aux_lemma => kernel_rfl
abbrev Ends (w : World) (v : Value) (n : Int) : Prop := Calls Tryz.prog 3 #[v, .int .i64 n] w fun e w' => e = .returned (.bool true) ∧ Below w.heap.size w w'
theorem none_ok {x : AV} {v : Value} {n : Int} {w : World} (ht : PowIs w) (hq : okTrue (@call (TZ n) Tryz.prog K0 5000 3 [x, .oi 0] H.empty) = true) (hx : @vrel (TZ n) (fun _ => none) x v) : Ends w v n := by
  letI := TZ n
  obtain ⟨q, hq⟩ := CallOk.of_okTrue (P := Tryz.prog) mixed (K0_ok (T := TZ n) rfl) hq
  exact CallOk.yes hq (vrels_cons hx (vrels_cons (by simp only [vrel]; rfl) (by simp [vrels]))) w (gl_pow rfl rfl ht)
end Go.Proofs.YtifdjfcakkdgeaaGreatDoor.sa
