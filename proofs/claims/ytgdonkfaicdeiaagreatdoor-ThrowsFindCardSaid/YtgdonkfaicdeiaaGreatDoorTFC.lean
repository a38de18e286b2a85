/-
  Handlers: which are kept, which one catches; what is known of operations on them.
-/
import Derived.Test.YtgdonkfaicdeiaaGreatDoorXFgn
import Derived.Test.YtgdonkfaicdeiaaGreatDoorXKind
import Derived.Test.YtgdonkfaicdeiaaGreatDoorFQG
import Derived.KernelRfl
set_option linter.unusedVariables false
set_option linter.unusedSimpArgs false
set_option linter.unusedSectionVars false
set_option maxRecDepth 100000
namespace Go.Proofs.YtgdonkfaicdeiaaGreatDoor.find
open Go.X Go.RowKit
abbrev cI (n : Int) : AV := .int .i64 n
noncomputable def codeOf (f : Func) : Code := f.body.getD .skip
noncomputable def hd : Code → Code
  | .seq c _ => c
  | _ => .skip
noncomputable def tl : Code → Code
  | .seq _ c => c
  | _ => .skip
noncomputable def lpIn : Code → Code
  | .block _ (.loop c) => c
  | _ => .skip
noncomputable def body : Code := codeOf Tryz.f3
noncomputable def r6 : Code := restn 6 body
noncomputable def a0 : Code := hd (hd r6)
noncomputable def la : Code := lpIn (tl (hd r6))
noncomputable def rest : Code := tl r6
theorem body_eq : Tryz.f3.body = some body := by kernel_rfl
theorem r6_eq : restn 6 body = .seq (.seq a0 (.block 0 (.loop la))) rest := by kernel_rfl
noncomputable def fb : Code := codeOf Tryz.f7
noncomputable def f2 : Code := hd (hd (restn 2 fb))
noncomputable def lf : Code := lpIn (tl (hd (restn 2 fb)))
noncomputable def ft : Code := tl (restn 2 fb)
theorem fb_eq : Tryz.f7.body = some fb := by kernel_rfl
theorem f_eq : restn 2 fb = .seq (.seq f2 (.block 0 (.loop lf))) ft := by kernel_rfl
noncomputable def gb : Code := codeOf Tryz.f9
noncomputable def g1 : Code := hd (hd (restn 1 gb))
noncomputable def lg : Code := lpIn (tl (hd (restn 1 gb)))
noncomputable def gt : Code := tl (restn 1 gb)
theorem gb_eq : Tryz.f9.body = some gb := by kernel_rfl
theorem g_eq : restn 1 gb = .seq (.seq g1 (.block 0 (.loop lg))) gt := by kernel_rfl
theorem mx : Tryz.prog.follows .mixedOrders = true := by kernel_rfl

structure Hd where
  (f t a y : Int)
instance : Inhabited Hd := ⟨⟨0, 0, 0, 0⟩⟩
def ty2 (t : Int) : Int := if t < 0 ∨ t > 5 then 0 else t * 2
def el (z : Nat → Int) (n : Nat) : Hd := ⟨z (n * 4), z (n * 4 + 1), z (n * 4 + 2), ty2 (z (n * 4 + 3))⟩
def Hd.kept (h : Hd) : Prop := 0 ≤ h.f ∧ h.f < h.t ∧ 0 ≤ h.a
instance (h : Hd) : Decidable h.kept := by unfold Hd.kept; infer_instance
/-- what is kept of the first n -/
def kl (z : Nat → Int) : Nat → List Hd
  | 0 => []
  | n + 1 => if (el z n).kept then kl z n ++ [el z n] else kl z n
theorem kl_len (z : Nat → Int) : ∀ n, (kl z n).length ≤ n
  | 0 => Nat.le_refl _
  | n + 1 => by
    have := kl_len z n
    unfold kl
    split <;> simp <;> omega
theorem ty2_in (t : Int) : ty2 t = 0 ∨ ty2 t = 2 ∨ ty2 t = 4 ∨ ty2 t = 6 ∨ ty2 t = 8 ∨ ty2 t = 10 := by
  unfold ty2
  split <;> omega
theorem kl_ty (z : Nat → Int) : ∀ n, ∀ h ∈ kl z n, h.y = 0 ∨ h.y = 2 ∨ h.y = 4 ∨ h.y = 6 ∨ h.y = 8 ∨ h.y = 10
  | 0, h, hh => by cases hh
  | n + 1, h, hh => by
    unfold kl at hh
    split at hh
    · rcases List.mem_append.1 hh with h1 | h1
      · exact kl_ty z n h h1
      · obtain rfl : h = el z n := by simpa using h1
        exact ty2_in _
    · exact kl_ty z n h hh
/-- the cells of a list -/
def cell (K : List Hd) (m : Nat) : Int := match K[m / 4]? with
  | none => 0
  | some h => match m % 4 with
    | 0 => h.f | 1 => h.t | 2 => h.a | _ => h.y
theorem cell_at {K : List Hd} {k : Nat} {h : Hd} (e : K[k]? = some h) : cell K (k * 4 + 0) = h.f ∧ cell K (k * 4 + 1) = h.t ∧ cell K (k * 4 + 2) = h.a ∧ cell K (k * 4 + 3) = h.y := by
  unfold cell
  refine ⟨?_, ?_, ?_, ?_⟩
  · rw [show (k * 4 + 0) / 4 = k by omega, show (k * 4 + 0) % 4 = 0 by omega, e]; rfl
  · rw [show (k * 4 + 1) / 4 = k by omega, show (k * 4 + 1) % 4 = 1 by omega, e]; rfl
  · rw [show (k * 4 + 2) / 4 = k by omega, show (k * 4 + 2) % 4 = 2 by omega, e]; rfl
  · rw [show (k * 4 + 3) / 4 = k by omega, show (k * 4 + 3) % 4 = 3 by omega, e]; rfl
theorem cell_old {K : List Hd} {h : Hd} {m : Nat} (hm : m < K.length * 4) : cell (K ++ [h]) m = cell K m := by
  unfold cell
  rw [List.getElem?_append_left (by omega)]
theorem cell_new {K : List Hd} {h : Hd} : (K ++ [h])[K.length]? = some h := by simp
/-- who catches -/
def fnd (mt : Int → Bool) (p : Int) : List Hd → Int
  | [] => -1
  | h :: l => if h.f ≤ p ∧ p < h.t ∧ mt h.y = true then h.a else fnd mt p l

/- the law's loop -/
abbrev ivA (N : Nat) (p x : Int) (z : Nat → Int) (K : List Hd) (n : Nat) : Nat → IntKind × Int := fun i0 => (.i64, match i0 with
  | 1 => (N : Int) | 2 => p | 3 => x | 4 => (n : Int) | 5 => (K.length : Int) | 6 => ((K.length + 1 : Nat) : Int) | 10 => z (n * 4) | 11 => z (n * 4 + 1) | 12 => z (n * 4 + 2) | 13 => z (n * 4 + 3) | 14 => z (n * 4 + 3) * 2 | 15 => ((n + 1 : Nat) : Int) | _ => 0)
abbrev vvA (K K' : List Hd) : Nat → Nat → Option AV := fun j => match j with
  | 0 => intV (K.length * 4) (cell K) | 1 => intV (K'.length * 4) (cell K') | _ => fun _ => none
abbrev vkA (K K' : List Hd) : Nat → Nat := fun j => match j with
  | 0 => K.length * 4 | 1 => K'.length * 4 | _ => 0
theorem intV_plain {A : Nat} {e : Nat → Int} : ∀ m a, intV A e m = some a → plain a = true := fun m a h => by
  obtain ⟨_, rfl⟩ := intV_some h; rfl
theorem vvAp {K K' : List Hd} : ∀ j m x, vvA K K' j m = some x → plain x = true := fun j m x h => by
  match j, h with
  | 0, h => exact intV_plain m x h
  | 1, h => exact intV_plain m x h
  | (j + 2), h => cases h
/-- the slice that came in -/
abbrev fgn (b o cap N : Nat) (z : Nat → Int) : Fgn := ⟨fun _ => (b, o), fun _ => cap, fun i m => match i with
  | 0 => numV .i64 (N * 4) z m | _ => none⟩
section
variable {b o cap N n : Nat} {p x : Int} {z : Nat → Int} {K K' : List Hd}
theorem fl_ok (hn : n < N) : ∀ r ∈ [(⟨0, 4, 4, 0, [.oi 10, .oi 11, .oi 12, .oi 13]⟩ : VL)], FlOk (ivA N p x z K n) (fgn b o cap N z) r :=
  allCons (flN (K := .i64) (k := n) (A := N * 4) (e := z) rfl rfl (by show n * 4 + 0 + 4 ≤ N * 4; omega) (fun m c hc => by
    have hm : m < 4 := (List.getElem?_eq_some_iff.1 hc).1
    obtain rfl | rfl | rfl | rfl : m = 0 ∨ m = 1 ∨ m = 2 ∨ m = 3 := by omega
    · have hc' : some (AV.oi 10) = some c := hc
      cases hc'; rfl
    · have hc' : some (AV.oi 11) = some c := hc
      cases hc'; rfl
    · have hc' : some (AV.oi 12) = some c := hc
      cases hc'; rfl
    · have hc' : some (AV.oi 13) = some c := hc
      cases hc'; rfl)) allNil
theorem va_ok {y : AV} (hl : K.length < 1000) (hy : denI (ivA N p x z K n) y = some (.i64, ty2 (z (n * 4 + 3)))) (hK : K' = K ++ [el z n]) : ∀ r ∈ [(⟨0, 5, 4, [.oi 10, .oi 11, .oi 12, y], 1, 6⟩ : VA)], VaOk (ivA N p x z K n) (vvA K K') (vkA K K') r := by
  subst hK
  refine allCons (vaI (a := K.length) (b := K.length + 1) (A' := (K ++ [el z n]).length * 4) (e := cell K) (e' := cell (K ++ [el z n])) rfl rfl rfl rfl rfl (by simp; omega) (by simp) (by omega) (fun m hm => cell_old hm) fun q c hc => ?_) allNil
  have hq : q < 4 := (List.getElem?_eq_some_iff.1 hc).1
  obtain ⟨c0, c1, c2, c3⟩ := cell_at (cell_new (K := K) (h := el z n))
  obtain rfl | rfl | rfl | rfl : q = 0 ∨ q = 1 ∨ q = 2 ∨ q = 3 := by omega
  · have hc' : some (AV.oi 10) = some c := hc
    cases hc'; show some _ = some (IntKind.i64, cell _ (K.length * 4 + 0)); rw [c0]; rfl
  · have hc' : some (AV.oi 11) = some c := hc
    cases hc'; show some _ = some (IntKind.i64, cell _ (K.length * 4 + 1)); rw [c1]; rfl
  · have hc' : some (AV.oi 12) = some c := hc
    cases hc'; show some _ = some (IntKind.i64, cell _ (K.length * 4 + 2)); rw [c2]; rfl
  · have hc' : some y = some c := hc
    cases hc'; show denI _ y = some (IntKind.i64, cell _ (K.length * 4 + 3)); rw [c3]; exact hy
theorem row_ok {T T' : Tab} {C : Cv} {q i : Nat} {y : AV} (h10 : T.iv 10 = (.i64, z (n * 4))) (h11 : T.iv 11 = (.i64, z (n * 4 + 1))) (h12 : T.iv 12 = (.i64, z (n * 4 + 2))) (hy : denI T.iv y = some (.i64, ty2 (z (n * 4 + 3)))) (hv : T'.vv i = intV 4 (cell [el z n])) (hk : T'.vk i = 4) :
    own (q, rowOf [.oi 10, .oi 11, .oi 12, y] true, i).2.1 = true ∧ ∀ μ w2 w, @brel T μ (q, rowOf [.oi 10, .oi 11, .oi 12, y] true, i).2.1 w2 w → @brel T' (ren C.N0 C.rn μ) (.vec (q, rowOf [.oi 10, .oi 11, .oi 12, y] true, i).2.2) w2 w := by
  refine rowVec (show 4 < limit by decide) (fun m a ha => ?_) (by rw [hk]; exact Nat.le_refl _)
  rw [hv] at ha
  obtain ⟨hm, rfl⟩ := intV_some ha
  obtain ⟨c0, c1, c2, c3⟩ := cell_at (K := [el z n]) (k := 0) (h := el z n) rfl
  obtain rfl | rfl | rfl | rfl : m = 0 ∨ m = 1 ∨ m = 2 ∨ m = 3 := by omega
  · exact ⟨.oi 10, rfl, .inl ⟨_, by show some (T.iv 10) = _; rw [h10], by rw [show cell [el z n] 0 = _ from c0]; rfl⟩⟩
  · exact ⟨.oi 11, rfl, .inl ⟨_, by show some (T.iv 11) = _; rw [h11], by rw [show cell [el z n] 1 = _ from c1]; rfl⟩⟩
  · exact ⟨.oi 12, rfl, .inl ⟨_, by show some (T.iv 12) = _; rw [h12], by rw [show cell [el z n] 2 = _ from c2]; rfl⟩⟩
  · exact ⟨y, rfl, .inl ⟨_, hy, by rw [show cell [el z n] 3 = _ from c3]; rfl⟩⟩
theorem intSame (A : Nat) (e : Nat → Int) : ∀ m a, intV A e m = some a → intV A e m = some a ∧ ∃ k n, a = .int k n := fun m a ha => ⟨ha, _, e m, (intV_some ha).2⟩

/- a search's loop -/
abbrev ivF (p : Int) (K : List Hd) (k : Nat) (R : Int) : Nat → IntKind × Int := fun i0 => (.i64, match i0 with
  | 2 => p | 5 => (K.length : Int) | 10 => (K.getD k default).f | 11 => (K.getD k default).t | 12 => (K.getD k default).a | 13 => (K.getD k default).y | 20 => R | 21 => (k : Int) | 22 => ((k + 1 : Nat) : Int) | _ => 0)
abbrev vvF (K : List Hd) : Nat → Nat → Option AV := fun j => match j with
  | 0 => intV (K.length * 4) (cell K) | _ => fun _ => none
abbrev vkF (K : List Hd) : Nat → Nat := fun j => match j with
  | 0 => K.length * 4 | _ => 0
theorem vvFp {K : List Hd} : ∀ j m x, vvF K j m = some x → plain x = true := fun j m x h => by
  match j, h with
  | 0, h => exact intV_plain m x h
  | (j + 1), h => cases h
theorem vl4 {k : Nat} {R : Int} {y : AV} (hk : k < K.length) (hy : denI (ivF p K k R) y = some (.i64, (K.getD k default).y)) : ∀ r ∈ [(⟨0, 21, 4, 0, [.oi 10, .oi 11, .oi 12, y]⟩ : VL)], VlOk (ivF p K k R) (vvF K) r := by
  refine allCons ⟨⟨rfl, by show (0 : Int) ≤ (k : Int); omega⟩, fun m c hc => ?_⟩ allNil
  have hm : m < 4 := (List.getElem?_eq_some_iff.1 hc).1
  have e : K[k]? = some (K.getD k default) := by simp [List.getD, List.getElem?_eq_getElem hk]
  obtain ⟨c0, c1, c2, c3⟩ := cell_at e
  have e1 : ((ivF p K k R) 21).2.toNat = k := by show ((k : Nat) : Int).toNat = k; omega
  show ∃ a, vvF K 0 (((ivF p K k R) 21).2.toNat * 4 + 0 + m) = some a ∧ sameAV (ivF p K k R) a c
  rw [e1]
  have lt : k * 4 + 0 + m < K.length * 4 := by omega
  refine ⟨_, intV_lt lt, .inr ⟨(.i64, cell K (k * 4 + 0 + m)), rfl, ?_⟩⟩
  obtain rfl | rfl | rfl | rfl : m = 0 ∨ m = 1 ∨ m = 2 ∨ m = 3 := by omega
  · have hc' : some (AV.oi 10) = some c := hc
    cases hc'; rw [show cell K (k * 4 + 0 + 0) = _ from c0]; rfl
  · have hc' : some (AV.oi 11) = some c := hc
    cases hc'; rw [show cell K (k * 4 + 0 + 1) = _ from c1]; rfl
  · have hc' : some (AV.oi 12) = some c := hc
    cases hc'; rw [show cell K (k * 4 + 0 + 2) = _ from c2]; rfl
  · have hc' : some y = some c := hc
    cases hc'; rw [show cell K (k * 4 + 0 + 3) = _ from c3]; exact hy
theorem drop_at {k : Nat} (hk : k < K.length) : K.drop k = K.getD k default :: K.drop (k + 1) := by
  rw [List.drop_eq_getElem_cons hk]
  simp [List.getD, List.getElem?_eq_getElem hk]
end
end Go.Proofs.YtgdonkfaicdeiaaGreatDoor.find
