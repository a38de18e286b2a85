/-
  The law ProfileTop: the map is made.
-/
import Derived.Test.YtnenjcehicaobaaPGJ
set_option linter.unusedVariables false
set_option linter.unusedSimpArgs false
set_option linter.unusedSectionVars false
set_option maxRecDepth 1000000
set_option maxHeartbeats 0
namespace Go.Proofs.Ytnenjcehicaobaa.pf
open Go.X Go.RowKit Go.Proofs
def fL (q : Lw) : Nat → ByteArray := fun m => cutB (q.e1 m)
def nL' (q : Lw) : Nat := min q.n1 (min q.n2 30)
noncomputable def kN (q : Lw) (i : Nat) : Nat := (kL (fL q) i).length
noncomputable def vN (q : Lw) (i : Nat) : Nat → Int := vF (fL q) q.e2 q.kt i
noncomputable def eN (q : Lw) (i : Nat) : List En × Nat := EF (kN q i) q.kt (vN q i)
noncomputable def atI (q : Lw) (i : Nat) : Lw := { q with i := i, k := kN q i, E := eN q i, E' := eN q (i + 1), vi := (mapL (.s (fL q i)) (eN q i).1).getD 0 }
/-- keys by name -/
structure Kt (q : Lw) : Prop where
  kt : ∀ m, q.kt m = (kL (fL q) (nL' q)).getD m .empty
section
variable {q : Lw} {B : Kp} {w0 : World} {μ : M} {a : Act} {w : World} {i : Nat}
theorem kN_le (hi : i ≤ nL' q) : kN q i ≤ kN q (nL' q) := by
  obtain ⟨l, h⟩ := kL_pre (fL q) i (nL' q - i)
  unfold kN
  rw [show nL' q = i + (nL' q - i) by omega, h, List.length_append]
  omega
theorem Kt.get (h : Kt q) {i m : Nat} (hi : i ≤ nL' q) (hm : m < kN q i) : (kL (fL q) i)[m]? = some (q.kt m) := by
  obtain ⟨l, e⟩ := kL_pre (fL q) i (nL' q - i)
  have hm : m < (kL (fL q) i).length := hm
  rw [h.kt m, show nL' q = i + (nL' q - i) by omega, e, List.getD_eq_getElem?_getD, List.getElem?_append_left hm, List.getElem?_eq_getElem hm]
  rfl
theorem Kt.inj (h : Kt q) (hi : i ≤ nL' q) : ∀ a b, a < kN q i → b < kN q i → q.kt a = q.kt b → a = b := by
  intro a b ha hb hab
  have e1 := h.get hi ha
  have e2 := h.get hi hb
  rw [hab] at e1
  exact (List.getElem?_inj ha (kL_nodup _ _)).1 (e1.trans e2.symm)
theorem Kt.mem (h : Kt q) (hi : i ≤ nL' q) (hm : fL q i ∈ kL (fL q) i) : ∃ m, m < kN q i ∧ q.kt m = fL q i := by
  obtain ⟨m, hm, e⟩ := List.getElem_of_mem hm
  refine ⟨m, hm, ?_⟩
  have := h.get hi hm
  rw [List.getElem?_eq_getElem hm, e] at this
  exact (Option.some.inj this).symm
theorem Kt.new (h : Kt q) (hi : i < nL' q) (hm : fL q i ∉ kL (fL q) i) : kN q (i + 1) = kN q i + 1 ∧ q.kt (kN q i) = fL q i ∧ ∀ m, m < kN q i → q.kt m ≠ fL q i := by
  have e := (kL_succ (fL q) i).2 hm
  have e1 : kN q (i + 1) = kN q i + 1 := by unfold kN; rw [e, List.length_append]; rfl
  refine ⟨e1, ?_, fun m hlt c => hm ?_⟩
  · have := h.get (i := i + 1) (m := kN q i) (by omega) (by omega)
    rw [e] at this
    have h2 : (kL (fL q) i ++ [fL q i])[kN q i]? = some (fL q i) := by
      unfold kN
      rw [List.getElem?_append_right (Nat.le_refl _), Nat.sub_self]
      rfl
    rw [h2] at this
    exact (Option.some.inj this).symm
  · have := h.get (i := i) (m := m) (by omega) hlt
    rw [c] at this
    exact List.mem_of_getElem? this
theorem Kt.old (hm : fL q i ∈ kL (fL q) i) : kN q (i + 1) = kN q i := by unfold kN; rw [(kL_succ (fL q) i).1 hm]
theorem eN_old (h : Kt q) (hi : i < nL' q) (hm : fL q i ∈ kL (fL q) i) : eN q (i + 1) = mapU (eN q i) (.s (fL q i)) (q.e2 i) := by
  obtain ⟨m, m1, m2⟩ := h.mem (by omega) hm
  unfold eN
  rw [EF_old m1 m2 (h.inj (by omega)), Kt.old hm]
  rfl
theorem eN_new (h : Kt q) (hi : i < nL' q) (hm : fL q i ∉ kL (fL q) i) : eN q (i + 1) = mapU (eN q i) (.s (fL q i)) (q.e2 i) := by
  obtain ⟨e1, e2, e3⟩ := h.new hi hm
  unfold eN
  rw [EF_new e2 e3, e1]
  rfl
theorem kN_lt (hi : i ≤ nL' q) : kN q i < 100 := by
  have := kL_len (fL q) i
  unfold kN nL' at *
  omega
def SA (q : Lw) (i : Nat) (B : Kp) (w0 : World) (μ : M) (a : Act) (w : World) : Prop :=
  (kN q i = 0 ∧ St (L0 (atI q i)) B w0 μ ntL (frOf (fsA' .nils)) (hOf 19000 (bsA0 18001)) a w) ∨ (0 < kN q i ∧ St (L0 (atI q i)) B w0 μ ntL (frOf (fsA' kv)) (hOf 19000 (bsA1 18001 18002 40)) a w)
theorem glI {p p' : Lw} {R : Rl p} {B : Kp} {w : World} (h1 : p'.n1 = p.n1) (h2 : p'.n2 = p.n2) (h3 : p'.a1 = p.a1) (h4 : p'.a2 = p.a2) (h5 : p'.e1 = p.e1) (h6 : p'.e2 = p.e2) (g : @Gl R.T B w) : @Gl (L0 p') B w := glL (p := p) h1 h2 h3 h4 h5 h6 (Gl.tab (Rl.same R).symm.toSameV g)
theorem iLw_ok {T T' : Tab} {x y z : Int} (f0 : T'.fb 0 = T.fb 0) (g0 : T'.fcap 0 = T.fcap 0) (f1 : T'.fb 1 = T.fb 1) (g1 : T'.fcap 1 = T.fcap 1) (h0 : T.iv 0 = (.i64, x)) (h0' : T'.iv 0 = (.i64, x)) (h1 : T.iv 1 = (.i64, y)) (h1' : T'.iv 1 = (.i64, y)) (h2 : T.iv 40 = (.i64, z)) (h2' : T'.iv 40 = (.i64, z)) : IpOk T T' iLw := ipF (ipF (ipE (ipE (ipE ipNil h2 h2') h1 h1') h0 h0') f1 g1) f0 g0
theorem vKey {T T' : Tab} {C : Cv} {x i n n' : Nat} {l : VP} (k : VpOk T T' C l) (hv : T.vv i = celV n ck := by exact rfl) (hv' : T'.vv 40 = celV n' ck := by exact rfl) (hn : n' ≤ n) (hk : T'.vk 40 ≤ T.vk i) (he : ∀ m, m < n' → T.str (100 + 4 * m) = T'.str (100 + 4 * m)) : VpOk T T' C ((x, .vec i, 40) :: l) :=
  vpVec k hv hv' hn hk (fun m hm μ μ' v h => by
    have h : @vrel T μ (.ostr (100 + 4 * m)) v := h
    show @vrel T' μ' (.ostr (100 + 4 * m)) v
    simp only [vrel] at h ⊢
    rw [← he m hm]; exact h)
theorem aRound (h : Kt q) (hb : Base B μ 18000) (hi : i < nL' q) (s : SA q i B w0 μ a w) : l5L.wp Try.prog (fun e a' w' => e = .normal ∧ SA q (i + 1) B w0 μ a' w') a w := by
  have hA : Ai (atI q i) := by
    have hk := kN_lt (q := q) (i := i) (by omega)
    unfold nL' at hi
    exact ⟨by show i < q.n1; omega, by show i < q.n2; omega, by show i < 30; omega, hk⟩
  have hc : @HandOk (L0 (atI q i)) Try.prog cutH := cutH_ok (s := q.e1 i) rfl rfl
  have ht : ∀ e ∈ (atI q i).E.1, e.1.txt = true := EF_txt
  have il : ∀ (R : Rl (atI q i)), IpOk R.T (L0 (atI q (i + 1))) ((.oi 3, 2) :: (.map 1, 0) :: iLw) := fun R => ipE (q := (.i64, ((i + 1 : Nat) : Int))) (ipM (iLw_ok (x := (q.n1 : Int)) (y := (q.n2 : Int)) (z := q.K) (by exact rfl) (by exact rfl) (by exact rfl) (by exact rfl) (by exact rfl) (by exact rfl) (by exact rfl) (by exact rfl) (by exact rfl) (by exact rfl)) (by exact rfl)) (by exact rfl) (by exact rfl)
  have hck : ∀ {R : Rl (atI q i)}, @HandOk R.T Try.prog cutH := fun {R} => cutH_ok (s := q.e1 i) (by exact rfl) (by exact rfl)
  have hst : ∀ m, (L0 (atI q i)).str (100 + 4 * m) = (L0 (atI q (i + 1))).str (100 + 4 * m) := fun m => by show strL (atI q i) (100 + 4 * m) = strL (atI q (i + 1)) (100 + 4 * m); rw [strL_k, strL_k]; rfl
  by_cases hm : fL q i ∈ kL (fL q) i
  · obtain ⟨m, m1, m2⟩ := h.mem (by omega) hm
    have hl : mapL (.s (cutB ((atI q i).e1 (atI q i).i))) (atI q i).E.1 = some (atI q i).vi := by
      have e := EF_some (v := vN q i) m1 m2 (h.inj (i := i) (by omega))
      show mapL (.s (fL q i)) (eN q i).1 = some ((mapL (.s (fL q i)) (eN q i).1).getD 0)
      unfold eN
      rw [e]; rfl
    have hu := eN_old h hi hm
    have ek := Kt.old hm
    rcases s with ⟨h0, s⟩ | ⟨h0, s⟩
    · omega
    · refine wp_mono (runTo_sound (T := (RO hA ht hu hl).T) (T' := L0 (atI q (i + 1))) mixed hck (C := CL [(18001, 18001), (18002, 18002)] ((.oi 6, 6) :: (.oi 3, 2) :: (.map 1, 0) :: iLw)) (ex := .normal) hb (by decide) (rl := [(18001, 18001), (18002, 18002)]) rfl (by kernel_rfl)
        (ipE (q := (.i64, (kN q i : Int))) (il _) (by exact rfl) (by show ((IntKind.i64, (kN q (i + 1) : Int)) : IntKind × Int) = _; rw [ek])) (vKey (n := kN q i) (n' := kN q (i + 1)) vpNil (by exact rfl) (by exact rfl) (by omega) (by show kN q (i + 1) ≤ kN q i; omega) (fun m _ => hst m)) (fun g => glI (by exact rfl) (by exact rfl) (by exact rfl) (by exact rfl) (by exact rfl) (by exact rfl) g) (gLo1 hA ht hu hl) (St.same (Rl.same _) s)) ?_
      rintro e a' w' ⟨rfl, s'⟩
      exact ⟨rfl, .inr ⟨by omega, s'⟩⟩
  · obtain ⟨ek, e2, e3⟩ := h.new hi hm
    have hl : mapL (.s (cutB ((atI q i).e1 (atI q i).i))) (atI q i).E.1 = none := EF_none e3
    have hu := eN_new h hi hm
    have hkt : (atI q i).kt (atI q i).k = cutB ((atI q i).e1 (atI q i).i) := e2
    rcases s with ⟨h0, s⟩ | ⟨h0, s⟩
    · refine wp_mono (runTo_sound (T := (RN hA hkt ht hu hl).T) (T' := L0 (atI q (i + 1))) mixed hck (C := CL [(18001, 18001), (18002, 19001)] ((.int .i64 1, 6) :: (.oi 3, 2) :: (.map 1, 0) :: iLw)) (ex := .normal) hb (by decide) (rl := [(18001, 18001), (18002, 19001)]) rfl (by kernel_rfl)
        (ipK' (b := (kN q (i + 1) : Int)) (il _) (by exact rfl) (by rw [ek, h0]; rfl)) (vpRowC (n := 1) (L := [.ostr 2]) (e' := ck) vpNil rfl (by decide) (by show celV (kN q (i + 1)) ck = _; rw [ek, h0]) (by show kN q (i + 1) ≤ 1; omega) (fun m a ha μ μ' v k => by
          match m, ha with
          | 0, ha =>
            cases ha
            show @vrel (L0 (atI q (i + 1))) μ' (.ostr (100 + 4 * 0)) v
            simp only [vrel] at k ⊢
            rw [k]
            show Value.string (fL q i) = Value.string (strL (atI q (i + 1)) (100 + 4 * 0))
            rw [strL_k]
            show _ = Value.string (q.kt 0)
            rw [← e2, h0]
          | (m + 1), ha => simp at ha)) (fun g => glI (by exact rfl) (by exact rfl) (by exact rfl) (by exact rfl) (by exact rfl) (by exact rfl) g) (gLn0 hA hkt ht hu hl) (St.same (Rl.same _) s)) ?_
      rintro e a' w' ⟨rfl, s'⟩
      exact ⟨rfl, .inr ⟨by omega, s'⟩⟩
    · refine wp_mono (runTo_sound (T := (RN hA hkt ht hu hl).T) (T' := L0 (atI q (i + 1))) mixed hck (C := CL [(18001, 18001), (18002, 19001)] ((.oi 7, 6) :: (.oi 3, 2) :: (.map 1, 0) :: iLw)) (ex := .normal) hb (by decide) (rl := [(18001, 18001), (18002, 19001)]) rfl (by kernel_rfl)
        (ipZ (a := ((kN q i + 1 : Nat) : Int)) (b := (kN q (i + 1) : Int)) (q := .i64) (il _) (by exact rfl) (by exact rfl) (by rw [ek])) (vKey (n := kN q i + 1) (n' := kN q (i + 1)) vpNil (by exact rfl) (by exact rfl) (by omega) (by show kN q (i + 1) ≤ kN q i + 1; omega) (fun m _ => hst m)) (fun g => glI (by exact rfl) (by exact rfl) (by exact rfl) (by exact rfl) (by exact rfl) (by exact rfl) g) (gLn1 hA hkt ht hu hl) (St.same (Rl.same _) s)) ?_
      rintro e a' w' ⟨rfl, s'⟩
      exact ⟨rfl, .inr ⟨by omega, s'⟩⟩
end
end Go.Proofs.Ytnenjcehicaobaa.pf
