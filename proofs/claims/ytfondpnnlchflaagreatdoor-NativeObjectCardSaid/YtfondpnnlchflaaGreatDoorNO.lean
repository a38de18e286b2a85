/-
  What the law NativeObject gives: true, whatever the number, where the world has the program's shape.
-/
import Derived.Test.YtfondpnnlchflaaGreatDoorXHand
import Derived.Test.YtfondpnnlchflaaGreatDoorNQG
import Derived.Test.YtfondpnnlchflaaGreatDoorNSH
import Derived.KernelRfl
set_option linter.unusedVariables false
set_option maxRecDepth 100000
namespace Go.Proofs.YtfondpnnlchflaaGreatDoor.nobj
open Go.X Go.RowKit
abbrev cI (n : Int) : AV := .int .i64 n
noncomputable def codeOf (f : Func) : Code := f.body.getD .skip
noncomputable def body : Code := codeOf Tryz.f3
theorem body_eq : Tryz.f3.body = some body := by kernel_rfl
theorem mx : Tryz.prog.follows .mixedOrders = true := by kernel_rfl
abbrev ivN (x m : Int) : Nat → IntKind × Int := fun i => (.i64, match i with | 0 => x | 1 => x.tmod 3 | 2 => x.tmod 3 + 3 | 3 => m | _ => 0)
abbrev rN (c : Int) : List BRow := [(4, .oi 0, cI 3, .oi 1), (0, .oi 1, cI 3, .oi 2), (4, .oi 2, cI 3, cI c)]
theorem rN_ok {x c m : Int} (h : (x.tmod 3 + 3).tmod 3 = c) : ∀ r ∈ rN c, IbOk (ivN x m) r := by
  letI := Tab.empty
  have h1 : x.tmod 3 < 3 := Int.tmod_lt_of_pos _ (by decide)
  have h2 : -3 < x.tmod 3 := Int.lt_tmod_of_pos _ (by decide)
  exact ibCons (ibRem (a := x) (b := 3) (c := x.tmod 3) rfl rfl rfl (by decide) rfl) (ibCons (ibAdd (a := x.tmod 3) (b := 3) (c := x.tmod 3 + 3) rfl rfl rfl rfl (by omega) (by omega)) (ibCons (ibRem (a := x.tmod 3 + 3) (b := 3) (c := c) rfl rfl rfl (by decide) h) ibNil))
/-- the variable internal/bytealg.MaxLen holds some number -/
noncomputable abbrev gvN (g o : Nat) : Option AV := Bool.rec none (Bool.rec none (some (.oi 3)) (Nat.beq o 0)) (Nat.beq g 0)
abbrev RN {x c : Int} (m : Int) (h : (x.tmod 3 + 3).tmod 3 = c) : VRows (ivN x m) noV noK where
  vvp := noVp
  ib := rN c
  ibok := rN_ok h
noncomputable abbrev TN {x c : Int} (m : Int) (h : (x.tmod 3 + 3).tmod 3 = c) : Tab := { (RN m h).tab with gv := gvN }
section
variable {x c : Int} {m : Int} {h : (x.tmod 3 + 3).tmod 3 = c}
theorem rep_ok {n d n' d' : Nat} (hd : d < 256 ^ n) (hd' : d' < 256 ^ n') (hs : (strOf n d).size < 4294967281) (hr : (⟨(Lib.replaceAll (strOf n d).data.toList (strOf 1 47).data.toList (strOf 1 46).data.toList).toArray⟩ : ByteArray) = strOf n' d')
    (hl : (strOf n d).size + Lib.countB (strOf n d) (strOf 1 47) * (strOf 1 46).size ≤ 140737488355328) (q : H) : @CallOk (TN m h) Tryz.prog 134 [.str n d, .str 1 47, .str 1 46] q (.str n' d', q) := by
  letI := TN m h
  refine callStr_ok (vs := [.string (strOf n d), .string (strOf 1 47), .string (strOf 1 46)]) hd' ?_ ?_ q
  · intro μ l hv
    obtain ⟨v1, l1, rfl, g1, v2, l2, rfl, g2, v3, l3, rfl, g3, g4⟩ := hv
    simp only [vrel] at g1 g2 g3
    obtain ⟨_, rfl⟩ := g1
    obtain ⟨_, rfl⟩ := g2
    obtain ⟨_, rfl⟩ := g3
    have : l3 = [] := g4
    rw [this]
  · intro w hg
    obtain ⟨v, h1, h2⟩ := hg 0 0 (.oi 3) rfl
    simp only [vrel] at h2
    subst h2
    have k := Tryz.strings_ReplaceAll (strOf n d) (strOf 1 47) (strOf 1 46) m w hs h1 (by decide) hl
    rw [hr] at k
    exact k
theorem rep0 (q : H) : @CallOk (TN m h) Tryz.prog 134 [.str 16 154706541852025644484233205990057992554, .str 1 47, .str 1 46] q (.str 16 154706541852025639761866723116117811562, q) := rep_ok (by decide) (by decide) (by decide +kernel) (by kernel_rfl) (by decide +kernel) q
theorem rep1 (q : H) : @CallOk (TN m h) Tryz.prog 134 [.str 15 594182256714433171583859471190221162, .str 1 47, .str 1 46] q (.str 15 594182256714428449217376597250040170, q) := rep_ok (by decide) (by decide) (by decide +kernel) (by kernel_rfl) (by decide +kernel) q
theorem rep2 (q : H) : @CallOk (TN m h) Tryz.prog 134 [.str 29 2977327179366744475310567174670984700336777289692309623825572795146602, .str 1 47, .str 1 46] q (.str 29 2977327179366744475310567174670984700336777289687587257342698854965610, q) := rep_ok (by decide) (by decide) (by decide +kernel) (by kernel_rfl) (by decide +kernel) q
noncomputable abbrev KH : Hand := (oneHand 134 [.str 16 154706541852025644484233205990057992554, .str 1 47, .str 1 46] (.str 16 154706541852025639761866723116117811562)).or ((oneHand 134 [.str 15 594182256714433171583859471190221162, .str 1 47, .str 1 46] (.str 15 594182256714428449217376597250040170)).or ((oneHand 134 [.str 29 2977327179366744475310567174670984700336777289692309623825572795146602, .str 1 47, .str 1 46] (.str 29 2977327179366744475310567174670984700336777289687587257342698854965610)).or (sumsHand tabG)))
theorem KH_ok : @HandOk (TN m h) Tryz.prog KH := by
  letI := TN m h
  exact HandOk.or (oneHand_ok rep0) (HandOk.or (oneHand_ok rep1) (HandOk.or (oneHand_ok rep2) (sumsHand_ok tabG_ok)))
end
abbrev Out (w0 : World) := Yes Tryz.prog Tryz.f3 (Kp.below w0.heap.size) w0
noncomputable abbrev act0 (x : Int) : Act := { tmps := #[.int .i64 x] ++ Array.replicate (Tryz.f3.ntmps - 1) undef, defers := [] }
theorem startN {x c m : Int} (h : (x.tmod 3 + 3).tmod 3 = c) (w : World) (hm : w.cell? ⟨0, 0, none⟩ = some (.int .i64 m)) : St (TN m h) (Kp.below w.heap.size) w (fun _ => none) Tryz.f3.ntmps (T.ofList 0 .leaf [.oi 0]) H.empty (act0 x) w := by
  refine @St.start (TN m h) [.oi 0] #[.int .i64 x] Tryz.f3.ntmps w ⟨fun g o a e => ?_, fun g o a e => by cases e⟩ (@vrels_cons (TN m h) _ _ _ _ _ (by simp only [vrel]; rfl) (by simp [vrels])) (show 1 ≤ Tryz.f3.ntmps by decide +kernel) (show 1 < limit by decide)
  have e : gvN g o = some a := e
  cases h1 : Nat.beq g 0 with
  | false => unfold gvN at e; rw [h1] at e; cases e
  | true =>
  cases h2 : Nat.beq o 0 with
  | false => unfold gvN at e; rw [h1, h2] at e; cases e
  | true =>
  unfold gvN at e; rw [h1, h2] at e; cases e
  obtain rfl := Nat.eq_of_beq_eq_true h1
  obtain rfl := Nat.eq_of_beq_eq_true h2
  refine ⟨?_, _, hm, by simp only [vrel]; rfl⟩
  show 0 < w.heap.size
  rcases Nat.eq_zero_or_pos w.heap.size with h0 | h0
  · have : w.heap[0]? = none := by simp [h0]
    simp [World.cell?, this] at hm
  · exact h0
theorem c0 {x m : Int} (h : (x.tmod 3 + 3).tmod 3 = 0) : runTrue (TN m h) Tryz.prog KH 3000 Tryz.f3 body (T.ofList 0 .leaf [.oi 0]) H.empty = true := by as_aux_lemma => kernel_rfl
theorem c1 {x m : Int} (h : (x.tmod 3 + 3).tmod 3 = 1) : runTrue (TN m h) Tryz.prog KH 3000 Tryz.f3 body (T.ofList 0 .leaf [.oi 0]) H.empty = true := by as_aux_lemma => kernel_rfl
theorem c2 {x m : Int} (h : (x.tmod 3 + 3).tmod 3 = 2) : runTrue (TN m h) Tryz.prog KH 3000 Tryz.f3 body (T.ofList 0 .leaf [.oi 0]) H.empty = true := by as_aux_lemma => kernel_rfl
theorem nativeObject_any (x : Int) (w : World) (hS : w.ShapedOpen Tryz.prog) : Calls Tryz.prog 3 #[.int .i64 x] w fun e w' => e = .returned (.bool true) ∧ Below w.heap.size w w' := by
  obtain ⟨m, hm⟩ := Tryz.laysM155.s1_3 w hS
  replace hm : w.cell? ⟨0, 0, none⟩ = some (.int .i64 m) := hm
  refine yes_calls Tryz.func3 body_eq w ?_
  show body.wp Tryz.prog (Out w) (act0 x) w
  have h1 : x.tmod 3 < 3 := Int.tmod_lt_of_pos _ (by decide)
  have h2 : -3 < x.tmod 3 := Int.lt_tmod_of_pos _ (by decide)
  have h3 : (x.tmod 3 + 3).tmod 3 = (x.tmod 3 + 3) % 3 := Int.tmod_eq_emod_of_nonneg (by omega)
  obtain h | h | h : (x.tmod 3 + 3).tmod 3 = 0 ∨ (x.tmod 3 + 3).tmod 3 = 1 ∨ (x.tmod 3 + 3).tmod 3 = 2 := by omega
  · exact @runTrue_sound _ _ _ _ _ _ (TN m h) _ _ mx KH KH_ok 3000 Tryz.f3 body (c0 h) (startN h w hm)
  · exact @runTrue_sound _ _ _ _ _ _ (TN m h) _ _ mx KH KH_ok 3000 Tryz.f3 body (c1 h) (startN h w hm)
  · exact @runTrue_sound _ _ _ _ _ _ (TN m h) _ _ mx KH KH_ok 3000 Tryz.f3 body (c2 h) (startN h w hm)
end Go.Proofs.YtfondpnnlchflaaGreatDoor.nobj
