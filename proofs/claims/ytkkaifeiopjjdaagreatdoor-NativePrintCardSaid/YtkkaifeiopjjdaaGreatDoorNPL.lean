/-
  The law NativePrint: its loop.
-/
import Derived.Test.YtkkaifeiopjjdaaGreatDoorNPJ
set_option linter.unusedVariables false
set_option linter.unusedSimpArgs false
set_option linter.unusedSectionVars false
set_option maxRecDepth 1000000
set_option maxHeartbeats 0
namespace Go.Proofs.YtkkaifeiopjjdaaGreatDoor.np
open Go.X Go.RowKit Go.Proofs
noncomputable def aC : Code := codeOf Tryz.f5
theorem aC_eq : Tryz.f5.body = some aC := by kernel_rfl
noncomputable def aL : Code := lpIn (tl (hd (restn 10 aC)))
noncomputable def aI : Code := hd (hd (restn 10 aC))
theorem a10_eq : restn 10 aC = .seq (.seq aI (.block 0 (.loop aL))) (restn 11 aC) := by kernel_rfl
noncomputable abbrev nmS (l : Bool) : AV := Bool.rec (.str 5 500068610672) (.str 7 31081494762582640) l
noncomputable abbrev dsS : AV := .str 21 125924534186164816246133852188561726513007718714408
/-- the world: what is printed, is it full? -/
noncomputable def wld (out : AV) (full : Bool) : Blk := .cells 7 false [] (T.ofList 0 .leaf [.ptr 9899 0, .ptr 9901 0, .ptr 6646 0, .so 10616 0 39 3, out, .bool full, .bool false])
/-- nothing is printed (n), or something -/
noncomputable def outA (x : Nat) (n : Bool) : AV := Bool.rec (.ov x 20 1) .nils n
noncomputable def fsA' (l n : Bool) : List (Nat × AV) := [(0, .fo 0 15 1), (1, .bool l), (5, .bool true), (6, .ptr 9899 0), (7, .ptr 9902 0), (8, psS), (9, .int .i64 1), (10, nmS l), (11, outA 20005 n), (12, .bool false), (13, .oi 14)]
noncomputable def bsA (z : Nat) (n : Bool) (wN sN hNm oN aN : Nat) : BS := same (kb ++ wb) ++ ((9898, 9898, mp z) :: (9899, 9899, hp 20001 1 20002 2 20003 z) :: (20001, wN, .vec 0) :: (20002, sN, .vec 1) :: (20003, hNm, shp z) :: (9902, 9902, wld (outA 20004 n) false) :: Bool.rec [(20004, oN, .vec 2), (20005, aN, .vec 2)] [] n)
noncomputable abbrev hA (z : Nat) (n : Bool) : H := hOf 20010 (bsA z n 20001 20002 20003 20004 20005)
noncomputable def fsX (n full : Bool) : List (Nat × AV) := [(5, .bool true), (7, .ptr 9902 0), (11, outA 20005 n), (12, .bool full)]
noncomputable def bsX (n full : Bool) : BS := (9902, 9902, wld (outA 20004 n) full) :: Bool.rec [(20004, 20004, .vec 2), (20005, 20005, .vec 2)] [] n
/- contracts of calls with known arguments -/
noncomputable def naI (l : Bool) : In := ⟨11, [psS, nmS l, dsS], 20050, [], .int .i64 (Bool.rec 23 29 l), Bool.rec 20112 20118 l, []⟩
theorem na_ok {T : Tab} : ∀ l, @InOk Tryz.prog (upIn (naI l) 20120) T
  | false => @upOk T Tryz.prog (naI false) 20120 (by decide +kernel) (@InOk.of_run Tryz.prog T KN mixed (@KN_ok T) 5000 (naI false) (by kernel_rfl) (by as_aux_lemma => kernel_rfl))
  | true => @upOk T Tryz.prog (naI true) 20120 (by decide +kernel) (@InOk.of_run Tryz.prog T KN mixed (@KN_ok T) 5000 (naI true) (by kernel_rfl) (by as_aux_lemma => kernel_rfl))
noncomputable abbrev kbP : BL := [b6644, b6645, b6646, b6842]
noncomputable abbrev kbS : BL := [b6644, b6645, b6646, b9391]
noncomputable def ipI' : In := ⟨53, [.ptr 6646 0, psS, psS], 20122, kbP, .bool true, 20129, kbP⟩
noncomputable def isI' : In := ⟨53, [.ptr 6646 0, stS, stS], 20139, kbS, .bool true, 20146, kbS⟩
theorem ip_ok {T : Tab} : @InOk Tryz.prog ipI' T := @InOk.of_run Tryz.prog T KN mixed (@KN_ok T) 5000 _ (by kernel_rfl) (by as_aux_lemma => kernel_rfl)
theorem is_ok {T : Tab} : @InOk Tryz.prog isI' T := @InOk.of_run Tryz.prog T KN mixed (@KN_ok T) 5000 _ (by kernel_rfl) (by as_aux_lemma => kernel_rfl)
theorem gsg0 : GSg 20187 := fun p => by as_aux_lemma => kernel_rfl
theorem gfg0 : GFg 20187 := fun p e => by as_aux_lemma => kernel_rfl
theorem gsg1 : GSg 20189 := fun p => by as_aux_lemma => kernel_rfl
theorem gfg1 : GFg 20189 := fun p e => by as_aux_lemma => kernel_rfl
theorem gsg2 : GSg 20186 := fun p => by as_aux_lemma => kernel_rfl
theorem gfg2 : GFg 20186 := fun p e => by as_aux_lemma => kernel_rfl
theorem gsg3 : GSg 20188 := fun p => by as_aux_lemma => kernel_rfl
theorem gfg3 : GFg 20188 := fun p e => by as_aux_lemma => kernel_rfl
noncomputable def nF (l : Bool) : Nat := Bool.rec 20186 20188 l
theorem outg_ok'' {p : Pm} (h : Ar p) (b : Bt p) (h0 : 0 < p.la) : ∀ l, @InOk Tryz.prog (ing (nF l)) (TP p)
  | false => outg_ok h b h0 gsg2 gfg2 (by decide) (by kernel_rfl) (by kernel_rfl) (by kernel_rfl) (by kernel_rfl)
  | true => outg_ok h b h0 gsg3 gfg3 (by decide) (by kernel_rfl) (by kernel_rfl) (by kernel_rfl) (by kernel_rfl)
noncomputable def nO (l : Bool) : Nat := Bool.rec 20187 20189 l
theorem outg_ok' {p : Pm} (h : Ar p) (b : Bt p) (h0 : 0 < p.la) : ∀ l, @InOk Tryz.prog (ing (nO l)) (TP p)
  | false => outg_ok h b h0 gsg0 gfg0 (by decide) (by kernel_rfl) (by kernel_rfl) (by kernel_rfl) (by kernel_rfl)
  | true => outg_ok h b h0 gsg1 gfg1 (by decide) (by kernel_rfl) (by kernel_rfl) (by kernel_rfl) (by kernel_rfl)
noncomputable abbrev KC (l : Bool) : Hand := (inHand (upIn (naI l) 20120)).or ((inHand ipI').or ((inHand isI').or KB))
theorem KC_ok {p : Pm} {T : Tab} (h : Ar p) (e : SameTab (TP p) T) (l : Bool) : @HandOk T Tryz.prog (KC l) := by
  letI := T
  cases l with
  | false => exact HandOk.or (inHand_ok (na_ok false) (by kernel_rfl)) (HandOk.or (inHand_ok ip_ok (by kernel_rfl)) (HandOk.or (inHand_ok is_ok (by kernel_rfl)) (KB_ok (k := 0) h e)))
  | true => exact HandOk.or (inHand_ok (na_ok true) (by kernel_rfl)) (HandOk.or (inHand_ok ip_ok (by kernel_rfl)) (HandOk.or (inHand_ok is_ok (by kernel_rfl)) (KB_ok (k := 0) h e)))
/-- hands of a round: the text has chars -/
noncomputable abbrev KG (z : Nat) (l : Bool) : Hand := (inHand (txI z)).or ((inHand (chI 20129 z)).or ((inHand (ino 20146)).or ((inHand (ing (nO l))).or (KC l))))
/-- it has chars and does not fit into what is printed -/
noncomputable abbrev KF (l : Bool) : Hand := (inHand (txI 1)).or ((inHand (chI 20129 1)).or ((inHand (ino 20146)).or ((inHand (ing (nF l))).or (KC l))))
/-- it is empty -/
noncomputable abbrev KZ (z : Nat) (s : AV) (l : Bool) : Hand := (inHand (teI z s)).or ((inHand (upIn (czI 20129 z) 20139)).or (KC l))
section
variable {p : Pm} {T : Tab}
theorem KG0f_ok (h : Ar p) (b : Bt p) (hf : p.t1 ≤ 2048) (h0 : 0 < p.la) (e : SameTab (TP p) T) : @HandOk T Tryz.prog (KG 0 false) := by
  letI := T
  exact HandOk.or (inHand_ok (InOk.tab e (tx0_ok h hf)) (by kernel_rfl)) (HandOk.or (inHand_ok (InOk.tab e (ch0_ok h hf h0)) (by kernel_rfl)) (HandOk.or (inHand_ok (InOk.tab e (outo146_ok h b h0)) (by kernel_rfl)) (HandOk.or (inHand_ok (InOk.tab e (outg_ok' h b h0 false)) (by kernel_rfl)) (KC_ok h e false))))
theorem KZ0nf_ok (h : Ar p) (hf : p.t1 ≤ 2048) (hz : p.la = 0) (e : SameTab (TP p) T) : @HandOk T Tryz.prog (KZ 0 .nils false) := by
  letI := T
  exact HandOk.or (inHand_ok (InOk.tab e (te0n_ok h hf hz)) (by kernel_rfl)) (HandOk.or (inHand_ok (InOk.tab e (cz0_ok h hf hz)) (by kernel_rfl)) (KC_ok h e false))
theorem KZ0ef_ok (h : Ar p) (hf : p.t1 ≤ 2048) (hz : p.la = 0) (e : SameTab (TP p) T) : @HandOk T Tryz.prog (KZ 0 .es false) := by
  letI := T
  exact HandOk.or (inHand_ok (InOk.tab e (te0e_ok h hf hz)) (by kernel_rfl)) (HandOk.or (inHand_ok (InOk.tab e (cz0_ok h hf hz)) (by kernel_rfl)) (KC_ok h e false))
theorem KG0t_ok (h : Ar p) (b : Bt p) (hf : p.t1 ≤ 2048) (h0 : 0 < p.la) (e : SameTab (TP p) T) : @HandOk T Tryz.prog (KG 0 true) := by
  letI := T
  exact HandOk.or (inHand_ok (InOk.tab e (tx0_ok h hf)) (by kernel_rfl)) (HandOk.or (inHand_ok (InOk.tab e (ch0_ok h hf h0)) (by kernel_rfl)) (HandOk.or (inHand_ok (InOk.tab e (outo146_ok h b h0)) (by kernel_rfl)) (HandOk.or (inHand_ok (InOk.tab e (outg_ok' h b h0 true)) (by kernel_rfl)) (KC_ok h e true))))
theorem KZ0nt_ok (h : Ar p) (hf : p.t1 ≤ 2048) (hz : p.la = 0) (e : SameTab (TP p) T) : @HandOk T Tryz.prog (KZ 0 .nils true) := by
  letI := T
  exact HandOk.or (inHand_ok (InOk.tab e (te0n_ok h hf hz)) (by kernel_rfl)) (HandOk.or (inHand_ok (InOk.tab e (cz0_ok h hf hz)) (by kernel_rfl)) (KC_ok h e true))
theorem KZ0et_ok (h : Ar p) (hf : p.t1 ≤ 2048) (hz : p.la = 0) (e : SameTab (TP p) T) : @HandOk T Tryz.prog (KZ 0 .es true) := by
  letI := T
  exact HandOk.or (inHand_ok (InOk.tab e (te0e_ok h hf hz)) (by kernel_rfl)) (HandOk.or (inHand_ok (InOk.tab e (cz0_ok h hf hz)) (by kernel_rfl)) (KC_ok h e true))
theorem KG1f_ok (h : Ar p) (b : Bt p) (hf : p.t1 ≤ 2048) (h0 : 0 < p.la) (e : SameTab (TP p) T) : @HandOk T Tryz.prog (KG 1 false) := by
  letI := T
  exact HandOk.or (inHand_ok (InOk.tab e (tx1_ok h hf)) (by kernel_rfl)) (HandOk.or (inHand_ok (InOk.tab e (ch1_ok h hf h0)) (by kernel_rfl)) (HandOk.or (inHand_ok (InOk.tab e (outo146_ok h b h0)) (by kernel_rfl)) (HandOk.or (inHand_ok (InOk.tab e (outg_ok' h b h0 false)) (by kernel_rfl)) (KC_ok h e false))))
theorem KZ1nf_ok (h : Ar p) (hf : p.t1 ≤ 2048) (hz : p.la = 0) (e : SameTab (TP p) T) : @HandOk T Tryz.prog (KZ 1 .nils false) := by
  letI := T
  exact HandOk.or (inHand_ok (InOk.tab e (te1n_ok h hf hz)) (by kernel_rfl)) (HandOk.or (inHand_ok (InOk.tab e (cz1_ok h hf hz)) (by kernel_rfl)) (KC_ok h e false))
theorem KZ1ef_ok (h : Ar p) (hf : p.t1 ≤ 2048) (hz : p.la = 0) (e : SameTab (TP p) T) : @HandOk T Tryz.prog (KZ 1 .es false) := by
  letI := T
  exact HandOk.or (inHand_ok (InOk.tab e (te1e_ok h hf hz)) (by kernel_rfl)) (HandOk.or (inHand_ok (InOk.tab e (cz1_ok h hf hz)) (by kernel_rfl)) (KC_ok h e false))
theorem KG1t_ok (h : Ar p) (b : Bt p) (hf : p.t1 ≤ 2048) (h0 : 0 < p.la) (e : SameTab (TP p) T) : @HandOk T Tryz.prog (KG 1 true) := by
  letI := T
  exact HandOk.or (inHand_ok (InOk.tab e (tx1_ok h hf)) (by kernel_rfl)) (HandOk.or (inHand_ok (InOk.tab e (ch1_ok h hf h0)) (by kernel_rfl)) (HandOk.or (inHand_ok (InOk.tab e (outo146_ok h b h0)) (by kernel_rfl)) (HandOk.or (inHand_ok (InOk.tab e (outg_ok' h b h0 true)) (by kernel_rfl)) (KC_ok h e true))))
theorem KZ1nt_ok (h : Ar p) (hf : p.t1 ≤ 2048) (hz : p.la = 0) (e : SameTab (TP p) T) : @HandOk T Tryz.prog (KZ 1 .nils true) := by
  letI := T
  exact HandOk.or (inHand_ok (InOk.tab e (te1n_ok h hf hz)) (by kernel_rfl)) (HandOk.or (inHand_ok (InOk.tab e (cz1_ok h hf hz)) (by kernel_rfl)) (KC_ok h e true))
theorem KZ1et_ok (h : Ar p) (hf : p.t1 ≤ 2048) (hz : p.la = 0) (e : SameTab (TP p) T) : @HandOk T Tryz.prog (KZ 1 .es true) := by
  letI := T
  exact HandOk.or (inHand_ok (InOk.tab e (te1e_ok h hf hz)) (by kernel_rfl)) (HandOk.or (inHand_ok (InOk.tab e (cz1_ok h hf hz)) (by kernel_rfl)) (KC_ok h e true))
theorem KFf_ok (h : Ar p) (b : Bt p) (hf : p.t1 ≤ 2048) (h0 : 0 < p.la) (e : SameTab (TP p) T) : @HandOk T Tryz.prog (KF false) := by
  letI := T
  exact HandOk.or (inHand_ok (InOk.tab e (tx1_ok h hf)) (by kernel_rfl)) (HandOk.or (inHand_ok (InOk.tab e (ch1_ok h hf h0)) (by kernel_rfl)) (HandOk.or (inHand_ok (InOk.tab e (outo146_ok h b h0)) (by kernel_rfl)) (HandOk.or (inHand_ok (InOk.tab e (outg_ok'' h b h0 false)) (by kernel_rfl)) (KC_ok h e false))))
theorem KFt_ok (h : Ar p) (b : Bt p) (hf : p.t1 ≤ 2048) (h0 : 0 < p.la) (e : SameTab (TP p) T) : @HandOk T Tryz.prog (KF true) := by
  letI := T
  exact HandOk.or (inHand_ok (InOk.tab e (tx1_ok h hf)) (by kernel_rfl)) (HandOk.or (inHand_ok (InOk.tab e (ch1_ok h hf h0)) (by kernel_rfl)) (HandOk.or (inHand_ok (InOk.tab e (outo146_ok h b h0)) (by kernel_rfl)) (HandOk.or (inHand_ok (InOk.tab e (outg_ok'' h b h0 true)) (by kernel_rfl)) (KC_ok h e true))))
end
section
variable {iv : Nat → IntKind × Int}
theorem rMulW {x y z : AV} {l : List BRow} {a b c : Int} (k : ∀ r ∈ l, IbOk iv r) (hx : denI iv x = some (.i64, a) := by exact rfl) (hy : denI iv y = some (.i64, b) := by exact rfl) (hz : denI iv z = some (.i64, c) := by exact rfl) (h : IntKind.i64.wrap (a * b) = c := by exact rfl) : ∀ q ∈ (2, x, y, z) :: l, IbOk iv q :=
  ibCons (ibOf (op := .mul) hx hy (v := .int .i64 c) (by
    show some (AV.int .i64 (wrapF .i64 (Int.mul a b))) = _; rw [@wrapF_eq Tab.empty]; show some (AV.int .i64 (IntKind.i64.wrap (a * b))) = _; rw [h]) hz) k
end
/-- the loop goes on -/
structure Go (p : Pm) : Prop where
  c1 : (p.i : Int) < IntKind.i64.wrap ((p.lu : Int) * 6)
  c2 : p.i < 120
  c3 : 0 < p.lu
  c4 : p.lu < 9223372036854775808
noncomputable abbrev rowsH : List BRow := [(2, .oi 15, .int .i64 6, .oi 17), (11, .oi 14, .oi 17, .bool true), (11, .oi 14, .int .i64 120, .bool true), (13, .oi 15, .int .i64 0, .bool true), (4, .oi 14, .oi 15, .oi 16), (11, .oi 16, .oi 15, .bool true), (14, .oi 16, .int .i64 0, .bool true), (0, .oi 14, .int .i64 1, .oi 18)]
theorem rowsH_ok {p : Pm} {k : Nat} (g : Go p) : ∀ r ∈ rowsH, IbOk (ivP p k) r := by
  have h1 := g.c1; have h2 := g.c2; have h3 := g.c3; have h4 := g.c4
  have h5 := Nat.mod_lt p.i h3
  exact rMulW (rLt (rLt (rGt (rRem (rLt (rGe (rAdd ibNil)))))) (h := decide_eq_true h1))
noncomputable abbrev rowsV : List BRow := [(9, .oi 4, .int .i64 0, .bool false), (11, .oi 25, .oi 3, .bool true), (14, .oi 25, .int .i64 0, .bool true)]
theorem rowsV_ok {p : Pm} {k : Nat} (h : Ar p) : ∀ r ∈ rowsV, IbOk (ivP p k) r := by
  have h1 := t1_gt p; have h2 := h.t0
  exact rEq (rLt (rGe ibNil))
theorem vlV_ok {p : Pm} {k : Nat} (h : Ar p) : ∀ r ∈ ([⟨3, 1, 1, 0, [.int .u64 1]⟩, ⟨3, 25, 1, 0, [.int .u64 0]⟩] : List VL), VlOk (ivP p k) (vvP p k) r := by
  have h1 := t1_gt p; have h2 := h.t0
  have n1 := w_0 p p.la
  have n2 : wI (p.w p.la 0) = 0 := by rw [w_lo p _ (by omega), h.w0]; rfl
  exact lC (lC allNil (n := p.t1) (q := 0) (e := fun m => wI (p.w p.la m)) (hy := n2)) (n := p.t1) (q := p.tot) (e := fun m => wI (p.w p.la m)) (hy := n1)
theorem flV_ok {p : Pm} {k e : Nat} (h : p.ek = e) : ∀ r ∈ ([⟨0, 16, 1, 0, [elK e]⟩] : List VL), FlOk (ivP p k) (fgP p) r := by
  refine allCons ⟨⟨rfl, Int.natCast_nonneg _⟩, fun m b hb => ?_⟩ allNil
  match m, hb with
  | 0, hb =>
    cases hb
    refine ⟨elK e, ?_, .inl rfl⟩
    show (if ((p.i % p.lu : Nat) : Int).toNat * 1 + 0 + 0 = p.i % p.lu then some (elK p.ek) else none) = _
    rw [Int.toNat_natCast, if_pos (by omega), h]
/-- what is known of the text, by what it is -/
def EkC (p : Pm) : Nat → Prop
  | 0 => 0 < p.la
  | 1 => p.la = 60 ∧ 60 < p.fa ∧ p.fa < 9223372036854775808
  | _ => p.la = 0
noncomputable abbrev cu0 : List BRow := [(13, .oi 0, .int .i64 60, .bool false)]
theorem cu0_ok {p : Pm} {j : Nat} (h : Ar p) (q : EkC p 0) : ∀ r ∈ cu0, IbOk (ivP p j) r := by
  have h1 := h.a60
  exact rGt ibNil
noncomputable abbrev cu1 : List BRow := [(13, .oi 19, .int .i64 60, .bool true), (12, .oi 0, .oi 19, .bool true), (14, .oi 0, .int .i64 0, .bool true)]
theorem cu1_ok {p : Pm} {j : Nat} (h : Ar p) (q : EkC p 1) : ∀ r ∈ cu1, IbOk (ivP p j) r := by
  obtain ⟨q1, q2, q3⟩ : p.la = 60 ∧ 60 < p.fa ∧ p.fa < 9223372036854775808 := q
  exact rGt (rLe (rGe ibNil))
noncomputable abbrev cu2 : List BRow := []
theorem cu2_ok {p : Pm} {j : Nat} (h : Ar p) (q : EkC p 2) : ∀ r ∈ cu2, IbOk (ivP p j) r := ibNil
noncomputable abbrev cu3 : List BRow := []
theorem cu3_ok {p : Pm} {j : Nat} (h : Ar p) (q : EkC p 3) : ∀ r ∈ cu3, IbOk (ivP p j) r := ibNil
theorem vc1_ok {p : Pm} {k : Nat} (q : EkC p 1) : ∀ r ∈ ([(0, 25), (60, 0)] : List (Nat × Nat)), ivP p k r.2 = (.i64, (r.1 : Int)) :=
  cN (cN allNil (h := by show ((IntKind.i64, (p.la : Int)) : IntKind × Int) = _; rw [q.1]))
theorem vc0_ok {p : Pm} {k : Nat} : ∀ r ∈ ([(0, 25)] : List (Nat × Nat)), ivP p k r.2 = (.i64, (r.1 : Int)) := cN allNil
theorem aNil {p : Pm} {k : Nat} (h2 : p.ld ≤ 4096) : ∀ r ∈ ([⟨2, 20, 1, [], 2, 20⟩] : List VA), VaOk (ivP p k) (vvP p k) (vkP p k) r := by
  refine allCons ⟨⟨rfl, Int.natCast_nonneg _⟩, ⟨rfl, Int.natCast_nonneg _⟩, rfl, ?_, ?_, fun m a ha => ?_⟩ allNil
  · show p.ld < 1000000; omega
  · show p.ld ≤ p.ld * 1; omega
  · obtain ⟨hm, rfl⟩ := numV_some (show numV .u8 p.ld p.D m = some a from ha)
    refine ⟨.int .u8 (p.D m), ?_, .inl rfl⟩
    show (if m < p.ld * 1 then numV .u8 p.ld p.D m else _) = _
    rw [if_pos (by omega)]
    unfold numV
    rw [if_pos hm]
theorem lapos {p : Pm} : ∀ {k : Nat}, k < 2 → EkC p k → 0 < p.la
  | 0, _, q => q
  | 1, _, q => by have q := q.1; omega
  | _ + 2, h, _ => by omega
theorem lbpos_ {p : Pm} (b : Bt p) (h0 : 0 < p.la) : 0 < p.lb := by
  rw [b.lb]
  have e : fin p = outL p.A p.la p.la (0 + outS p.A p.la 0) ([] ++ outB p.A p.la 0) := if_pos h0
  have h1 := outL_ge p.A p.la p.la (0 + outS p.A p.la 0) ([] ++ outB p.A p.la 0)
  have h2 := (outB_len p.A p.la 0).1
  rw [e]
  rw [List.nil_append] at h1 ⊢
  omega
class Ch (k : Nat) : Prop where
  lt : k < 2
instance : Ch 0 := ⟨by decide⟩
instance : Ch 1 := ⟨by decide⟩
theorem lbpos {p : Pm} {k : Nat} [c : Ch k] (h : Ar p) (b : Bt p) (q : EkC p k) : 0 < p.lb := lbpos_ b (lapos c.lt q)
noncomputable abbrev cvX : Cv := ⟨20000, 20010, ofPairs [(20004, 20004), (20005, 20005)], [(.oi 20, 20)]⟩
noncomputable abbrev cvY : Cv := ⟨20000, 20010, ofPairs [], []⟩
end Go.Proofs.YtkkaifeiopjjdaaGreatDoor.np
