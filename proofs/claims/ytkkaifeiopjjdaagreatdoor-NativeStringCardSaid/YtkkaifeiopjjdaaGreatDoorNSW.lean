/-
  The law NativeString, for whatever the call is handed.
-/
import Derived.Test.YtkkaifeiopjjdaaGreatDoorNSVpp
import Derived.Test.YtkkaifeiopjjdaaGreatDoorNSVpn
import Derived.Test.YtkkaifeiopjjdaaGreatDoorNSVpe
import Derived.Test.YtkkaifeiopjjdaaGreatDoorNSVnp
import Derived.Test.YtkkaifeiopjjdaaGreatDoorNSVnn
import Derived.Test.YtkkaifeiopjjdaaGreatDoorNSVne
import Derived.Test.YtkkaifeiopjjdaaGreatDoorNSVep
import Derived.Test.YtkkaifeiopjjdaaGreatDoorNSVen
import Derived.Test.YtkkaifeiopjjdaaGreatDoorNSVee
set_option linter.unusedVariables false
set_option linter.unusedSimpArgs false
set_option linter.unusedSectionVars false
set_option maxRecDepth 1000000
set_option maxHeartbeats 0
namespace Go.Proofs.YtkkaifeiopjjdaaGreatDoor.ns
open Go.X Go.RowKit Go.Proofs
/-- a slice that came in -/
structure Arg (w : World) (v : Value) (n b o c : Nat) (A : Nat → Int) : Prop where
  v : v = .slice (some ⟨b, o, none⟩) n c
  c : n ≤ c
  lim : n < 9223372036854775808
  cells : ∀ m, m < n → w.cell? ⟨b, o + m, none⟩ = some (.int .u16 (A m))
  rng : ∀ m, 0 ≤ A m ∧ A m < 65536
structure TL' (p : Pm) (T : Tab) : Prop where
  iv : T.iv = ivL p qZ 0
  fb : T.fb = (fgL p).fb
  fc : T.fcap = (fgL p).fcap
  fv : T.fv = (fgL p).fv
  gv : T.gv = fun _ _ => none
section
variable {w : World} {p : Pm} {T : Tab} {v u : Value}
theorem glW (e : TL' p T) (ha : ∀ m, m < p.la → w.cell? ⟨p.ba, p.oa + m, none⟩ = some (.int .u16 (p.A m))) (hb : ∀ m, m < p.lb → w.cell? ⟨p.bb, p.ob + m, none⟩ = some (.int .u16 (p.B m))) : @Gl T (Kp.below w.heap.size) w := by
  refine ⟨fun g o a hg => (by rw [e.gv] at hg; cases hg), fun i m a h => ?_⟩
  rw [e.fv] at h
  rw [e.fb]
  match i, h with
  | 0, h =>
    obtain ⟨hm, rfl⟩ := numV_some h
    have hcm := ha m hm
    exact ⟨cell_lt hcm, _, hcm, by simp only [vrel]⟩
  | 1, h =>
    obtain ⟨hm, rfl⟩ := numV_some h
    have hcm := hb m hm
    exact ⟨cell_lt hcm, _, hcm, by simp only [vrel]⟩
  | (i + 2), h => cases h
theorem fin {x y : AV} (e : TL' p T) (r : ∃ q, @CallOk T Tryz.prog 3 [x, y, .oi 2] H.empty (.bool true, q)) (hx : @vrel T (fun _ => none) x v) (hy : @vrel T (fun _ => none) y u)
    (ha : ∀ m, m < p.la → w.cell? ⟨p.ba, p.oa + m, none⟩ = some (.int .u16 (p.A m))) (hb : ∀ m, m < p.lb → w.cell? ⟨p.bb, p.ob + m, none⟩ = some (.int .u16 (p.B m))) :
    Calls Tryz.prog 3 #[v, u, .int .i64 p.ix] w fun e w' => e = .returned (.bool true) ∧ Below w.heap.size w w' := by
  letI := T
  obtain ⟨q, hq⟩ := r
  exact CallOk.yes hq (vrels_cons hx (vrels_cons hy (vrels_cons (by simp only [vrel]; rw [e.iv]; rfl) (by simp [vrels])))) w (glW e ha hb)
theorem relN : @vrel T (fun _ => none) .nils (.slice none 0 0) := by simp only [vrel]
theorem relE {b o c : Nat} : @vrel T (fun _ => none) .es (.slice (some ⟨b, o, none⟩) 0 c) := by simp only [vrel]; exact ⟨_, _, rfl⟩
theorem relA (e : TL' p T) (h : p.fa ≤ p.ca) : @vrel T (fun _ => none) (foF 0) (.slice (some ⟨p.ba, p.oa, none⟩) p.fa p.ca) := by
  show @vrel T (fun _ => none) (.fo 0 32 1) _
  simp only [vrel]
  rw [e.iv, e.fb, e.fc]
  exact ⟨⟨rfl, Int.natCast_nonneg _⟩, (show ((p.fa : Nat) : Int).toNat ≤ p.ca by rw [Int.toNat_natCast]; exact h), (by show _ = Value.slice (some ⟨p.ba, p.oa, none⟩) ((p.fa : Nat) : Int).toNat p.ca; rw [Int.toNat_natCast])⟩
theorem relB (e : TL' p T) (h : p.fb ≤ p.cb) : @vrel T (fun _ => none) (foF 1) (.slice (some ⟨p.bb, p.ob, none⟩) p.fb p.cb) := by
  show @vrel T (fun _ => none) (.fo 1 33 1) _
  simp only [vrel]
  rw [e.iv, e.fb, e.fc]
  exact ⟨⟨rfl, Int.natCast_nonneg _⟩, (show ((p.fb : Nat) : Int).toNat ≤ p.cb by rw [Int.toNat_natCast]; exact h), (by show _ = Value.slice (some ⟨p.bb, p.ob, none⟩) ((p.fb : Nat) : Int).toNat p.cb; rw [Int.toNat_natCast])⟩
theorem eM {t lo hi : Bool} (h : Ar p) (L : Lw p t lo hi) : TL' p (RM p t lo hi h L).T := ⟨rfl, rfl, rfl, rfl, rfl⟩
theorem eN {za zb lo hi : Bool} (h : Ar p) (L : Lz p za zb lo hi) : TL' p (RN p za zb lo hi h L).T := ⟨rfl, rfl, rfl, rfl, rfl⟩
end
def cutN (n : Nat) : Nat := if n ≤ 60 then n else 60
theorem cutN_le (n : Nat) : cutN n ≤ 60 := by unfold cutN; split <;> omega
theorem cutN_n (n : Nat) : cutN n ≤ n := by unfold cutN; split <;> omega
theorem cutN_pos {n : Nat} (h : 0 < n) : 0 < cutN n := by unfold cutN; split <;> omega
theorem cutN_ct {n : Nat} (h : n < 9223372036854775808) : (n ≤ 60 ∧ cutN n = n) ∨ (60 < n ∧ cutN n = 60 ∧ n < 9223372036854775808) := by unfold cutN; split <;> omega
theorem loc (n : Nat) (ix : Int) : (true = decide (ix < 0) ∧ false = decide ((n : Int) ≤ ix)) ∨ (false = decide (ix < 0) ∧ true = decide ((n : Int) ≤ ix)) ∨ (false = decide (ix < 0) ∧ false = decide ((n : Int) ≤ ix) ∧ 0 < n) := by
  by_cases a : ix < 0
  · exact .inl ⟨(decide_eq_true a).symm, (decide_eq_false (by omega)).symm⟩
  · by_cases b : (n : Int) ≤ ix
    · exact .inr (.inl ⟨(decide_eq_false a).symm, (decide_eq_true b).symm⟩)
    · exact .inr (.inr ⟨(decide_eq_false a).symm, (decide_eq_false b).symm, by omega⟩)
/-- what comes in: nil, empty, chars -/
def Kd (w : World) (v : Value) (k n b o c : Nat) (A : Nat → Int) : Prop :=
  (n < 9223372036854775808 ∧ (∀ m, 0 ≤ A m ∧ A m < 65536)) ∧ match k with
  | 0 => v = .slice none 0 0 ∧ n = 0
  | 1 => v = .slice (some ⟨b, o, none⟩) 0 c ∧ n = 0
  | _ => v = .slice (some ⟨b, o, none⟩) n c ∧ n ≤ c ∧ 0 < n ∧ ∀ m, m < cutN n → w.cell? ⟨b, o + m, none⟩ = some (.int .u16 (A m))
theorem Kd.cells {w : World} {v : Value} {n b o c : Nat} {A : Nat → Int} : ∀ {k : Nat}, Kd w v k n b o c A → ∀ m, m < cutN n → w.cell? ⟨b, o + m, none⟩ = some (.int .u16 (A m))
  | 0, h, m, hm => by have := h.2.2; subst this; exact absurd hm (Nat.not_lt_zero m)
  | 1, h, m, hm => by have := h.2.2; subst this; exact absurd hm (Nat.not_lt_zero m)
  | _ + 2, h, m, hm => h.2.2.2.2 m hm
section
variable {w : World} {v u : Value} {ix : Int} {n b o c n' b' o' c' : Nat} {A B : Nat → Int}
abbrev pA (ix : Int) (n b o c : Nat) (A : Nat → Int) (n' b' o' c' : Nat) (B : Nat → Int) : Pm := ⟨cutN n, cutN n', ix, A, B, b, o, c, b', o', c', n, n'⟩
abbrev Ends (w : World) (v u : Value) (ix : Int) : Prop := Calls Tryz.prog 3 #[v, u, .int .i64 ix] w fun e w' => e = .returned (.bool true) ∧ Below w.heap.size w w'
theorem arA {k k' : Nat} (x : Kd w v k n b o c A) (y : Kd w u k' n' b' o' c' B) : Ar (pA ix n b o c A n' b' o' c' B) := ⟨cutN_le n, cutN_le n', x.1.2, y.1.2⟩
theorem ctA {k k' : Nat} (x : Kd w v k n b o c A) (y : Kd w u k' n' b' o' c' B) : Ct (pA ix n b o c A n' b' o' c' B) := ⟨cutN_ct x.1.1, cutN_ct y.1.1⟩
theorem gopp (x : Kd w v 2 n b o c A) (y : Kd w u 2 n' b' o' c' B) : Ends w v u ix := by
  have h : Ar (pA ix n b o c A n' b' o' c' B) := arA x y
  have ct : Ct (pA ix n b o c A n' b' o' c' B) := ctA x y
  have ca := x.cells
  have cb := y.cells
  obtain ⟨xr, xv, xc, xp, _⟩ := x
  obtain ⟨yr, yv, yc, yp, _⟩ := y
  subst xv yv
  by_cases s : cutN n = cutN n' ∧ ∀ k, k < cutN n → A k = B k
  · rcases loc (cutN n) ix with ⟨l1, l2⟩ | ⟨l1, l2⟩ | ⟨l1, l2, _⟩
    · have L : Lw (pA ix n b o c A n' b' o' c' B) true true false := ⟨cutN_pos xp, cutN_pos yp, ⟨fun _ => s, fun _ => rfl⟩, l1, l2⟩
      exact (have E := eM h L; fin (p := pA ix n b o c A n' b' o' c' B) E (rpp110 h ct L) (relA E xc) (relB E yc) ca cb)
    · have L : Lw (pA ix n b o c A n' b' o' c' B) true false true := ⟨cutN_pos xp, cutN_pos yp, ⟨fun _ => s, fun _ => rfl⟩, l1, l2⟩
      exact (have E := eM h L; fin (p := pA ix n b o c A n' b' o' c' B) E (rpp101 h ct L) (relA E xc) (relB E yc) ca cb)
    · have L : Lw (pA ix n b o c A n' b' o' c' B) true false false := ⟨cutN_pos xp, cutN_pos yp, ⟨fun _ => s, fun _ => rfl⟩, l1, l2⟩
      exact (have E := eM h L; fin (p := pA ix n b o c A n' b' o' c' B) E (rpp100 h ct L) (relA E xc) (relB E yc) ca cb)
  · rcases loc (cutN n) ix with ⟨l1, l2⟩ | ⟨l1, l2⟩ | ⟨l1, l2, _⟩
    · have L : Lw (pA ix n b o c A n' b' o' c' B) false true false := ⟨cutN_pos xp, cutN_pos yp, ⟨fun e => Bool.noConfusion e, fun e => absurd e s⟩, l1, l2⟩
      exact (have E := eM h L; fin (p := pA ix n b o c A n' b' o' c' B) E (rpp010 h ct L) (relA E xc) (relB E yc) ca cb)
    · have L : Lw (pA ix n b o c A n' b' o' c' B) false false true := ⟨cutN_pos xp, cutN_pos yp, ⟨fun e => Bool.noConfusion e, fun e => absurd e s⟩, l1, l2⟩
      exact (have E := eM h L; fin (p := pA ix n b o c A n' b' o' c' B) E (rpp001 h ct L) (relA E xc) (relB E yc) ca cb)
    · have L : Lw (pA ix n b o c A n' b' o' c' B) false false false := ⟨cutN_pos xp, cutN_pos yp, ⟨fun e => Bool.noConfusion e, fun e => absurd e s⟩, l1, l2⟩
      exact (have E := eM h L; fin (p := pA ix n b o c A n' b' o' c' B) E (rpp000 h ct L) (relA E xc) (relB E yc) ca cb)
theorem gopn (x : Kd w v 2 n b o c A) (y : Kd w u 0 n' b' o' c' B) : Ends w v u ix := by
  have h : Ar (pA ix n b o c A n' b' o' c' B) := arA x y
  have ct : Ct (pA ix n b o c A n' b' o' c' B) := ctA x y
  have ca := x.cells
  have cb := y.cells
  obtain ⟨xr, xv, xc, xp, _⟩ := x
  obtain ⟨yr, yv, yn⟩ := y
  subst xv yv
  rcases loc (cutN n) ix with ⟨l1, l2⟩ | ⟨l1, l2⟩ | ⟨l1, l2, l3⟩
  · have L : Lz (pA ix n b o c A n' b' o' c' B) false true true false := ⟨(decide_eq_false (by have := cutN_pos xp; show ¬ cutN n = 0; omega)).symm, (decide_eq_true (by show cutN n' = 0; rw [yn]; rfl)).symm, l1, l2⟩
    exact (have E := eN h L; fin (p := pA ix n b o c A n' b' o' c' B) E (rpn010 h ct L) (relA E xc) relN ca cb)
  · have L : Lz (pA ix n b o c A n' b' o' c' B) false true false true := ⟨(decide_eq_false (by have := cutN_pos xp; show ¬ cutN n = 0; omega)).symm, (decide_eq_true (by show cutN n' = 0; rw [yn]; rfl)).symm, l1, l2⟩
    exact (have E := eN h L; fin (p := pA ix n b o c A n' b' o' c' B) E (rpn001 h ct L) (relA E xc) relN ca cb)
  · have L : Lz (pA ix n b o c A n' b' o' c' B) false true false false := ⟨(decide_eq_false (by have := cutN_pos xp; show ¬ cutN n = 0; omega)).symm, (decide_eq_true (by show cutN n' = 0; rw [yn]; rfl)).symm, l1, l2⟩
    exact (have E := eN h L; fin (p := pA ix n b o c A n' b' o' c' B) E (rpn000 h ct L) (relA E xc) relN ca cb)
theorem gope (x : Kd w v 2 n b o c A) (y : Kd w u 1 n' b' o' c' B) : Ends w v u ix := by
  have h : Ar (pA ix n b o c A n' b' o' c' B) := arA x y
  have ct : Ct (pA ix n b o c A n' b' o' c' B) := ctA x y
  have ca := x.cells
  have cb := y.cells
  obtain ⟨xr, xv, xc, xp, _⟩ := x
  obtain ⟨yr, yv, yn⟩ := y
  subst xv yv
  rcases loc (cutN n) ix with ⟨l1, l2⟩ | ⟨l1, l2⟩ | ⟨l1, l2, l3⟩
  · have L : Lz (pA ix n b o c A n' b' o' c' B) false true true false := ⟨(decide_eq_false (by have := cutN_pos xp; show ¬ cutN n = 0; omega)).symm, (decide_eq_true (by show cutN n' = 0; rw [yn]; rfl)).symm, l1, l2⟩
    exact (have E := eN h L; fin (p := pA ix n b o c A n' b' o' c' B) E (rpe010 h ct L) (relA E xc) relE ca cb)
  · have L : Lz (pA ix n b o c A n' b' o' c' B) false true false true := ⟨(decide_eq_false (by have := cutN_pos xp; show ¬ cutN n = 0; omega)).symm, (decide_eq_true (by show cutN n' = 0; rw [yn]; rfl)).symm, l1, l2⟩
    exact (have E := eN h L; fin (p := pA ix n b o c A n' b' o' c' B) E (rpe001 h ct L) (relA E xc) relE ca cb)
  · have L : Lz (pA ix n b o c A n' b' o' c' B) false true false false := ⟨(decide_eq_false (by have := cutN_pos xp; show ¬ cutN n = 0; omega)).symm, (decide_eq_true (by show cutN n' = 0; rw [yn]; rfl)).symm, l1, l2⟩
    exact (have E := eN h L; fin (p := pA ix n b o c A n' b' o' c' B) E (rpe000 h ct L) (relA E xc) relE ca cb)
theorem gonp (x : Kd w v 0 n b o c A) (y : Kd w u 2 n' b' o' c' B) : Ends w v u ix := by
  have h : Ar (pA ix n b o c A n' b' o' c' B) := arA x y
  have ct : Ct (pA ix n b o c A n' b' o' c' B) := ctA x y
  have ca := x.cells
  have cb := y.cells
  obtain ⟨xr, xv, xn⟩ := x
  obtain ⟨yr, yv, yc, yp, _⟩ := y
  subst xv yv
  rcases loc (cutN n) ix with ⟨l1, l2⟩ | ⟨l1, l2⟩ | ⟨l1, l2, l3⟩
  · have L : Lz (pA ix n b o c A n' b' o' c' B) true false true false := ⟨(decide_eq_true (by show cutN n = 0; rw [xn]; rfl)).symm, (decide_eq_false (by have := cutN_pos yp; show ¬ cutN n' = 0; omega)).symm, l1, l2⟩
    exact (have E := eN h L; fin (p := pA ix n b o c A n' b' o' c' B) E (rnp010 h ct L) relN (relB E yc) ca cb)
  · have L : Lz (pA ix n b o c A n' b' o' c' B) true false false true := ⟨(decide_eq_true (by show cutN n = 0; rw [xn]; rfl)).symm, (decide_eq_false (by have := cutN_pos yp; show ¬ cutN n' = 0; omega)).symm, l1, l2⟩
    exact (have E := eN h L; fin (p := pA ix n b o c A n' b' o' c' B) E (rnp001 h ct L) relN (relB E yc) ca cb)
  · rw [xn] at l3; exact absurd l3 (by decide)
theorem gonn (x : Kd w v 0 n b o c A) (y : Kd w u 0 n' b' o' c' B) : Ends w v u ix := by
  have h : Ar (pA ix n b o c A n' b' o' c' B) := arA x y
  have ct : Ct (pA ix n b o c A n' b' o' c' B) := ctA x y
  have ca := x.cells
  have cb := y.cells
  obtain ⟨xr, xv, xn⟩ := x
  obtain ⟨yr, yv, yn⟩ := y
  subst xv yv
  rcases loc (cutN n) ix with ⟨l1, l2⟩ | ⟨l1, l2⟩ | ⟨l1, l2, l3⟩
  · have L : Lz (pA ix n b o c A n' b' o' c' B) true true true false := ⟨(decide_eq_true (by show cutN n = 0; rw [xn]; rfl)).symm, (decide_eq_true (by show cutN n' = 0; rw [yn]; rfl)).symm, l1, l2⟩
    exact (have E := eN h L; fin (p := pA ix n b o c A n' b' o' c' B) E (rnn110 h ct L) relN relN ca cb)
  · have L : Lz (pA ix n b o c A n' b' o' c' B) true true false true := ⟨(decide_eq_true (by show cutN n = 0; rw [xn]; rfl)).symm, (decide_eq_true (by show cutN n' = 0; rw [yn]; rfl)).symm, l1, l2⟩
    exact (have E := eN h L; fin (p := pA ix n b o c A n' b' o' c' B) E (rnn101 h ct L) relN relN ca cb)
  · rw [xn] at l3; exact absurd l3 (by decide)
theorem gone (x : Kd w v 0 n b o c A) (y : Kd w u 1 n' b' o' c' B) : Ends w v u ix := by
  have h : Ar (pA ix n b o c A n' b' o' c' B) := arA x y
  have ct : Ct (pA ix n b o c A n' b' o' c' B) := ctA x y
  have ca := x.cells
  have cb := y.cells
  obtain ⟨xr, xv, xn⟩ := x
  obtain ⟨yr, yv, yn⟩ := y
  subst xv yv
  rcases loc (cutN n) ix with ⟨l1, l2⟩ | ⟨l1, l2⟩ | ⟨l1, l2, l3⟩
  · have L : Lz (pA ix n b o c A n' b' o' c' B) true true true false := ⟨(decide_eq_true (by show cutN n = 0; rw [xn]; rfl)).symm, (decide_eq_true (by show cutN n' = 0; rw [yn]; rfl)).symm, l1, l2⟩
    exact (have E := eN h L; fin (p := pA ix n b o c A n' b' o' c' B) E (rne110 h ct L) relN relE ca cb)
  · have L : Lz (pA ix n b o c A n' b' o' c' B) true true false true := ⟨(decide_eq_true (by show cutN n = 0; rw [xn]; rfl)).symm, (decide_eq_true (by show cutN n' = 0; rw [yn]; rfl)).symm, l1, l2⟩
    exact (have E := eN h L; fin (p := pA ix n b o c A n' b' o' c' B) E (rne101 h ct L) relN relE ca cb)
  · rw [xn] at l3; exact absurd l3 (by decide)
theorem goep (x : Kd w v 1 n b o c A) (y : Kd w u 2 n' b' o' c' B) : Ends w v u ix := by
  have h : Ar (pA ix n b o c A n' b' o' c' B) := arA x y
  have ct : Ct (pA ix n b o c A n' b' o' c' B) := ctA x y
  have ca := x.cells
  have cb := y.cells
  obtain ⟨xr, xv, xn⟩ := x
  obtain ⟨yr, yv, yc, yp, _⟩ := y
  subst xv yv
  rcases loc (cutN n) ix with ⟨l1, l2⟩ | ⟨l1, l2⟩ | ⟨l1, l2, l3⟩
  · have L : Lz (pA ix n b o c A n' b' o' c' B) true false true false := ⟨(decide_eq_true (by show cutN n = 0; rw [xn]; rfl)).symm, (decide_eq_false (by have := cutN_pos yp; show ¬ cutN n' = 0; omega)).symm, l1, l2⟩
    exact (have E := eN h L; fin (p := pA ix n b o c A n' b' o' c' B) E (rep010 h ct L) relE (relB E yc) ca cb)
  · have L : Lz (pA ix n b o c A n' b' o' c' B) true false false true := ⟨(decide_eq_true (by show cutN n = 0; rw [xn]; rfl)).symm, (decide_eq_false (by have := cutN_pos yp; show ¬ cutN n' = 0; omega)).symm, l1, l2⟩
    exact (have E := eN h L; fin (p := pA ix n b o c A n' b' o' c' B) E (rep001 h ct L) relE (relB E yc) ca cb)
  · rw [xn] at l3; exact absurd l3 (by decide)
theorem goen (x : Kd w v 1 n b o c A) (y : Kd w u 0 n' b' o' c' B) : Ends w v u ix := by
  have h : Ar (pA ix n b o c A n' b' o' c' B) := arA x y
  have ct : Ct (pA ix n b o c A n' b' o' c' B) := ctA x y
  have ca := x.cells
  have cb := y.cells
  obtain ⟨xr, xv, xn⟩ := x
  obtain ⟨yr, yv, yn⟩ := y
  subst xv yv
  rcases loc (cutN n) ix with ⟨l1, l2⟩ | ⟨l1, l2⟩ | ⟨l1, l2, l3⟩
  · have L : Lz (pA ix n b o c A n' b' o' c' B) true true true false := ⟨(decide_eq_true (by show cutN n = 0; rw [xn]; rfl)).symm, (decide_eq_true (by show cutN n' = 0; rw [yn]; rfl)).symm, l1, l2⟩
    exact (have E := eN h L; fin (p := pA ix n b o c A n' b' o' c' B) E (ren110 h ct L) relE relN ca cb)
  · have L : Lz (pA ix n b o c A n' b' o' c' B) true true false true := ⟨(decide_eq_true (by show cutN n = 0; rw [xn]; rfl)).symm, (decide_eq_true (by show cutN n' = 0; rw [yn]; rfl)).symm, l1, l2⟩
    exact (have E := eN h L; fin (p := pA ix n b o c A n' b' o' c' B) E (ren101 h ct L) relE relN ca cb)
  · rw [xn] at l3; exact absurd l3 (by decide)
theorem goee (x : Kd w v 1 n b o c A) (y : Kd w u 1 n' b' o' c' B) : Ends w v u ix := by
  have h : Ar (pA ix n b o c A n' b' o' c' B) := arA x y
  have ct : Ct (pA ix n b o c A n' b' o' c' B) := ctA x y
  have ca := x.cells
  have cb := y.cells
  obtain ⟨xr, xv, xn⟩ := x
  obtain ⟨yr, yv, yn⟩ := y
  subst xv yv
  rcases loc (cutN n) ix with ⟨l1, l2⟩ | ⟨l1, l2⟩ | ⟨l1, l2, l3⟩
  · have L : Lz (pA ix n b o c A n' b' o' c' B) true true true false := ⟨(decide_eq_true (by show cutN n = 0; rw [xn]; rfl)).symm, (decide_eq_true (by show cutN n' = 0; rw [yn]; rfl)).symm, l1, l2⟩
    exact (have E := eN h L; fin (p := pA ix n b o c A n' b' o' c' B) E (ree110 h ct L) relE relE ca cb)
  · have L : Lz (pA ix n b o c A n' b' o' c' B) true true false true := ⟨(decide_eq_true (by show cutN n = 0; rw [xn]; rfl)).symm, (decide_eq_true (by show cutN n' = 0; rw [yn]; rfl)).symm, l1, l2⟩
    exact (have E := eN h L; fin (p := pA ix n b o c A n' b' o' c' B) E (ree101 h ct L) relE relE ca cb)
  · rw [xn] at l3; exact absurd l3 (by decide)
end
end Go.Proofs.YtkkaifeiopjjdaaGreatDoor.ns
