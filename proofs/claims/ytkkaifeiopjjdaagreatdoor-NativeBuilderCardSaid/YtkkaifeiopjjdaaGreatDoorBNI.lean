/-
  The program writes a number as its decimal numeral: by the length of the numeral.
-/
import Derived.Test.YtkkaifeiopjjdaaGreatDoorBNQ
import Derived.Test.YtkkaifeiopjjdaaGreatDoorXN3
set_option linter.unusedVariables false
set_option linter.unusedSimpArgs false
set_option linter.unusedSectionVars false
set_option maxRecDepth 1000000
set_option maxHeartbeats 0
namespace Go.Proofs.YtkkaifeiopjjdaaGreatDoor.stx
open Go.X Go.RowKit Go.Proofs
/-- a number's chars -/
def Cn (n : Int) : Nat → Int := fun k => (((Lib.itoa n).getD k 0).toNat : Int)
theorem Cn_lo (n : Int) (k : Nat) : 0 ≤ Cn n k := Int.natCast_nonneg _
theorem Cn_hi (n : Int) (k : Nat) : Cn n k < 256 := by
  have := ((Lib.itoa n).getD k 0).toNat_lt
  unfold Cn
  omega
abbrev ivI (n : Int) : Nat → IntKind × Int
  | 0 => (.i64, n)
  | m + 1 => if m % 2 = 0 then (.u8, Cn n (m / 2)) else (.u16, Cn n (m / 2))
theorem ivI8 (n : Int) (o : Nat) : ivI n (1 + 2 * o) = (.u8, Cn n o) := by
  rw [show 1 + 2 * o = 2 * o + 1 by omega]
  show (if 2 * o % 2 = 0 then (IntKind.u8, Cn n (2 * o / 2)) else (IntKind.u16, Cn n (2 * o / 2))) = _
  rw [if_pos (by omega), show 2 * o / 2 = o by omega]
theorem ivI16 (n : Int) (o : Nat) : ivI n (2 + 2 * o) = (.u16, Cn n o) := by
  rw [show 2 + 2 * o = (2 * o + 1) + 1 by omega]
  show (if (2 * o + 1) % 2 = 0 then (IntKind.u8, Cn n ((2 * o + 1) / 2)) else (IntKind.u16, Cn n ((2 * o + 1) / 2))) = _
  rw [if_neg (by omega), show (2 * o + 1) / 2 = o by omega]
def c8 (m : Nat) : List AV := (List.range m).map fun o => .oi (1 + 2 * o)
def c16 (m : Nat) : List AV := (List.range m).map fun o => .oi (2 + 2 * o)
def icI (m : Nat) : List (IntKind × AV × AV) := (List.range m).map fun o => (.u16, .oi (1 + 2 * o), .oi (2 + 2 * o))
theorem u16s {n : Int} (h0 : 0 ≤ n) (h1 : n < 65536) : IntKind.u16.wrap n = n := by
  unfold IntKind.wrap IntKind.bits IntKind.signed
  simp only [Bool.false_and]
  exact Int.emod_eq_of_lt h0 h1
theorem icI_ok (n : Int) (m : Nat) : ∀ r ∈ icI m, IcOk' (ivI n) r := by
  intro r hr
  obtain ⟨o, _, rfl⟩ := List.mem_map.1 hr
  refine icOf (k := .u16) (k' := .u8) (n := Cn n o) (c := Cn n o) ?_ ?_ (u16s (Cn_lo n o) (by have := Cn_hi n o; omega))
  · show some (ivI n (1 + 2 * o)) = _
    rw [ivI8]
  · show some (ivI n (2 + 2 * o)) = _
    rw [ivI16]
abbrev strI (n : Int) : Nat → ByteArray := fun _ => itb n
theorem trI_ok {n : Int} {m : Nat} (hm : (Lib.itoa n).length = m) : ∀ r ∈ ([(7, [.ostr 0], .agg (c8 m))] : List (Nat × List AV × AV)), TrOk (strI n) (ivI n) r.1 r.2.1 r.2.2 := by
  intro r hr
  obtain rfl : r = (7, [.ostr 0], .agg (c8 m)) := by simpa using hr
  refine ⟨itb n, c8 m, rfl, rfl, ?_⟩
  show (c8 m).map (denI (ivI n)) = (Lib.itoa n).map fun x => some (IntKind.u8, (x.toNat : Int))
  apply List.ext_getElem
  · simp [c8, hm]
  · intro k h1 h2
    have hk : k < (Lib.itoa n).length := by simpa using h2
    simp only [c8, List.getElem_map, List.getElem_range]
    show some (ivI n (1 + 2 * k)) = _
    rw [ivI8]
    unfold Cn
    rw [List.getD_eq_getElem?_getD, List.getElem?_eq_getElem hk]
    rfl
abbrev RI (n : Int) (m : Nat) : VRows (ivI n) noV noK where
  vvp := noVp
  ib := []
  ibok := ibNil
  ic := icI m
  icok := icI_ok n m
abbrev XI (n : Int) (m : Nat) (hm : (Lib.itoa n).length = m) : Txts (ivI n) where
  str := strI n
  tr := [(7, [.ostr 0], .agg (c8 m))]
  trok := trI_ok hm
noncomputable abbrev TI (n : Int) (m : Nat) (hm : (Lib.itoa n).length = m) : Tab := { (RI n m).ttab (XI n m hm) with gv := gvP }
/- what a run gives is a row -/
def isC : Option Blk → Bool
  | some (.cells _ _ _ _) => true
  | _ => false
noncomputable def soIs (v : AV) (q : H) (l : List AV) : Bool := match v with
  | .so x o m z => Nat.beq o 0 && (Nat.beq z 1 && (Nat.beq m l.length && (isC (q.get x) && Option.rec false (fun l' => peqs l' l) (q.loads x 0 m))))
  | _ => false
noncomputable def chkSo (r : Option (AV × H)) (l : List AV) : Bool := Option.rec false (fun p => soIs p.1 p.2 l) r
theorem isC_some {b : Option Blk} (h : isC b = true) : ∃ n p z t, b = some (.cells n p z t) := by
  unfold isC at h
  split at h
  · exact ⟨_, _, _, _, rfl⟩
  · cases h
theorem chkSo_some [Tab] {r : Option (AV × H)} {l : List AV} (h : chkSo r l = true) : ∃ x q n p z t, r = some (.so x 0 l.length 1, q) ∧ q.get x = some (.cells n p z t) ∧ q.loads x 0 l.length = some l := by
  cases r with
  | none => exact absurd (show false = true from h) (by decide)
  | some p =>
    obtain ⟨v, q⟩ := p
    have h' : soIs v q l = true := h
    cases v with
    | so x o m z =>
      have h2 : (Nat.beq o 0 && (Nat.beq z 1 && (Nat.beq m l.length && (isC (q.get x) && @Option.rec (List AV) (fun _ => Bool) false (fun l' => peqs l' l) (q.loads x 0 m))))) = true := h'
      simp only [Bool.and_eq_true, nbeq_iff] at h2
      obtain ⟨rfl, rfl, rfl, h3, h4⟩ := h2
      obtain ⟨n, p, z, t, h3⟩ := isC_some h3
      cases h5 : q.loads x 0 l.length with
      | none => rw [h5] at h4; exact absurd (show false = true from h4) (by decide)
      | some l' =>
        rw [h5] at h4
        have h6 : peqs l' l = true := h4
        exact ⟨x, q, n, p, z, t, rfl, h3, by rw [h5, peqs_eq h6]⟩
    | _ => exact absurd (show false = true from h') (by decide)
def GI (m : Nat) : Prop := ∀ (n : Int) (hm : (Lib.itoa n).length = m), chkSo (@call (TI n m hm) Tryz.prog (oneHand 144 [.oi 0, .int .i64 10] (.ostr 0)) 500 110 [.oi 0] H.empty) (c16 m) = true
theorem run1 : GI 1 := fun n hm => (by as_aux_lemma => kernel_rfl)
theorem run2 : GI 2 := fun n hm => (by as_aux_lemma => kernel_rfl)
theorem run3 : GI 3 := fun n hm => (by as_aux_lemma => kernel_rfl)
theorem run4 : GI 4 := fun n hm => (by as_aux_lemma => kernel_rfl)
theorem run5 : GI 5 := fun n hm => (by as_aux_lemma => kernel_rfl)
theorem run6 : GI 6 := fun n hm => (by as_aux_lemma => kernel_rfl)
theorem run7 : GI 7 := fun n hm => (by as_aux_lemma => kernel_rfl)
theorem run8 : GI 8 := fun n hm => (by as_aux_lemma => kernel_rfl)
theorem run9 : GI 9 := fun n hm => (by as_aux_lemma => kernel_rfl)
theorem run10 : GI 10 := fun n hm => (by as_aux_lemma => kernel_rfl)
theorem run11 : GI 11 := fun n hm => (by as_aux_lemma => kernel_rfl)
theorem run12 : GI 12 := fun n hm => (by as_aux_lemma => kernel_rfl)
theorem run13 : GI 13 := fun n hm => (by as_aux_lemma => kernel_rfl)
theorem run14 : GI 14 := fun n hm => (by as_aux_lemma => kernel_rfl)
theorem run15 : GI 15 := fun n hm => (by as_aux_lemma => kernel_rfl)
theorem run16 : GI 16 := fun n hm => (by as_aux_lemma => kernel_rfl)
theorem run17 : GI 17 := fun n hm => (by as_aux_lemma => kernel_rfl)
theorem run18 : GI 18 := fun n hm => (by as_aux_lemma => kernel_rfl)
theorem run19 : GI 19 := fun n hm => (by as_aux_lemma => kernel_rfl)
theorem run20 : GI 20 := fun n hm => (by as_aux_lemma => kernel_rfl)
theorem run21 : GI 21 := fun n hm => (by as_aux_lemma => kernel_rfl)
theorem run_all : ∀ (m : Nat), 1 ≤ m → m ≤ 21 → GI m
  | 0, h, _ => by omega
  | 1, _, _ => run1
  | 2, _, _ => run2
  | 3, _, _ => run3
  | 4, _, _ => run4
  | 5, _, _ => run5
  | 6, _, _ => run6
  | 7, _, _ => run7
  | 8, _, _ => run8
  | 9, _, _ => run9
  | 10, _, _ => run10
  | 11, _, _ => run11
  | 12, _, _ => run12
  | 13, _, _ => run13
  | 14, _, _ => run14
  | 15, _, _ => run15
  | 16, _, _ => run16
  | 17, _, _ => run17
  | 18, _, _ => run18
  | 19, _, _ => run19
  | 20, _, _ => run20
  | 21, _, _ => run21
  | m + 22, _, h => by omega
theorem itoa_pos (n : Int) : 1 ≤ (Lib.itoa n).length := by
  have key : ∀ u : Nat, 1 ≤ (Lib.decDigits u).length := by
    intro u
    rw [Lib.decDigits]
    split <;> simp
  unfold Lib.itoa
  split
  · simp
  · exact key _
theorem int_is {n : Int} (h0 : -9223372036854775808 ≤ n) (h1 : n ≤ 9223372036854775807) {w : World} (ht : PowIs w) : Gives 110 #[.int .i64 n] w (Lib.itoa n).length (Cn n) Wide := by
  have hr := run_all (Lib.itoa n).length (itoa_pos n) (Lib.itoa_length_le n h0 h1) n rfl
  letI : Tab := TI n (Lib.itoa n).length rfl
  obtain ⟨x, q, a1, a2, a3, a4, e1, e2, e3⟩ := chkSo_some hr
  have hl : (c16 (Lib.itoa n).length).length = (Lib.itoa n).length := by simp [c16]
  rw [hl] at e1 e3
  have o := call_sound mixed (fmtHand (n := n) rfl rfl rfl h0 h1) e1
  refine gives_so (l := c16 (Lib.itoa n).length) o e2 e3 (fun k hk => ⟨.oi (2 + 2 * k), ?_, ?_⟩) (vrels_cons (by simp only [vrel]; rfl) (by simp [vrels])) (gl_pow rfl rfl ht)
  · rw [List.getElem?_eq_getElem (by rw [hl]; exact hk)]
    simp [c16]
  · show some (ivI n (2 + 2 * k)) = _
    rw [ivI16]
end Go.Proofs.YtkkaifeiopjjdaaGreatDoor.stx
