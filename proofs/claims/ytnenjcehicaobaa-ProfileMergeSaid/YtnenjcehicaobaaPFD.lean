/-
  The laws of profile: container/heap's down: rows, states.
-/
import Derived.Test.YtnenjcehicaobaaPFC
set_option linter.unusedVariables false
set_option linter.unusedSimpArgs false
set_option linter.unusedSectionVars false
set_option maxRecDepth 1000000
set_option maxHeartbeats 0
namespace Go.Proofs.Ytnenjcehicaobaa.pf
open Go.X Go.RowKit Go.Proofs
noncomputable def dC : Code := codeOf Try.f13
theorem dC_eq : Try.f13.body = some dC := by kernel_rfl
noncomputable abbrev ntD : Nat := Try.f13.ntmps
noncomputable def dL : Code := lpIn (hd (restn 2 dC))
theorem dL_eq : restn 2 dC = .seq (.block 0 (.loop dL)) (restn 3 dC) := by kernel_rfl
noncomputable def cel (v : AV) : Blk := .cells 1 false [] (T.ofList 0 .leaf [v])
noncomputable abbrev fsD : List (Nat × AV) := [(0, .iface 41 (.ptr 20001 0)), (1, .oi 7), (2, .oi 1), (6, .bool false), (7, .oi 3)]
noncomputable abbrev bsD (v : Nat) : BS := [(20001, 20001, cel (.ov 20002 0 1)), (20002, 20002, .vec v)]
def lessI (G : Gi) (a b : Nat) : Bool := decide (cmpR (G.row a) (G.row b) < 0)
def dnJ (G : Gi) (n : Nat) (it : Nat → Nat) (i : Nat) : Nat := if decide (2 * i + 2 < n) && lessI G (it (2 * i + 2)) (it (2 * i + 1)) then 2 * i + 2 else 2 * i + 1
def swF (f : Nat → Nat) (a b : Nat) : Nat → Nat := upF (upF f a (f b)) b (f a)
def dn (G : Gi) (n : Nat) : Nat → (Nat → Nat) → Nat → (Nat → Nat) × Nat
  | 0, it, i => (it, i)
  | f + 1, it, i => if decide (2 * i + 1 < n) && lessI G (it (dnJ G n it i)) (it i) then dn G n f (swF it i (dnJ G n it i)) (dnJ G n it i) else (it, i)
/-- the queue at hand -/
structure Dok (p : Pm) : Prop where
  g : Gok p.G
  nN : p.n ≤ p.N
  N1 : p.N < 1000000
  ne : ∀ m, m < p.n → 0 < p.G.len (p.it m)
  i : p.i < 2000000
section
variable {p : Pm}
noncomputable abbrev rwD0 (t : Bool) : List BRow := [(2, .int .i64 2, .oi 3, .oi 4), (0, .oi 4, .int .i64 1, .oi 5), (14, .oi 5, .oi 1, .bool t)]
theorem rwD0_ok {t : Bool} (h : p.i < 2000000) (ht : decide (2 * p.i + 1 < p.n) = !t) {l : List BRow} (k : ∀ r ∈ l, IbOk (ivP p) r) : ∀ r ∈ rwD0 t ++ l, IbOk (ivP p) r := by
  refine rMul (rAdd (rGe k rfl rfl ?_))
  cases t
  · have := of_decide_eq_true ht
    exact decide_eq_false (by omega)
  · have := of_decide_eq_false ht
    exact decide_eq_true (by omega)
theorem rLen (a : Nat) {k : Nat} {l : List BRow} (h : 0 < p.G.len (p.al a)) (hk : k = 1001 + 3 * a) (t : ∀ r ∈ l, IbOk (ivP p) r) : ∀ r ∈ (11, .oi 10, .oi k, .bool true) :: l, IbOk (ivP p) r := by
  subst hk
  exact rLt (a := ((0 : Nat) : Int)) (b := (p.G.len (p.al a) : Int)) t (by exact rfl) (by show some (ivP p (1001 + 3 * a)) = _; rw [iv_len]) (decide_eq_true (by omega))
theorem rGe0 (n : Nat) {k : Nat} {l : List BRow} (h : ivP p k = (.i64, (n : Int))) (t : ∀ r ∈ l, IbOk (ivP p) r) : ∀ r ∈ (14, .oi k, .int .i64 0, .bool true) :: l, IbOk (ivP p) r :=
  rGe (a := (n : Int)) (b := 0) t (by show some (ivP p k) = _; rw [h]) (by exact rfl) (decide_eq_true (Int.natCast_nonneg n))
noncomputable abbrev rwD1 (t : Bool) : List BRow := [(11, .oi 5, .int .i64 0, .bool false), (0, .oi 5, .int .i64 1, .oi 6), (11, .oi 6, .oi 1, .bool t), (11, .oi 3, .oi 0, .bool true), (11, .oi 5, .oi 0, .bool true), (11, .oi 10, .oi 1004, .bool true), (11, .oi 10, .oi 1007, .bool true), (14, .oi 3, .int .i64 0, .bool true), (14, .oi 5, .int .i64 0, .bool true), (14, .oi 10, .int .i64 0, .bool true)]
theorem rwD1_ok {t : Bool} (h : Dok p) (h0 : 2 * p.i + 1 < p.n) (ht : decide (2 * p.i + 2 < p.n) = t) {l : List BRow} (k : ∀ r ∈ l, IbOk (ivP p) r) : ∀ r ∈ rwD1 t ++ l, IbOk (ivP p) r := by
  have h1 := h.nN; have h2 := h.N1; have h3 := h.i
  have h4 : 0 < p.G.len (p.al 1) := h.ne p.i (by omega)
  have h5 : 0 < p.G.len (p.al 2) := h.ne (2 * p.i + 1) (by omega)
  refine rLt (rAdd (rLt (a := ((2 * p.i + 2 : Nat) : Int)) (b := (p.n : Int)) (rLt (a := (p.i : Int)) (b := (p.N : Int)) (rLt (a := ((2 * p.i + 1 : Nat) : Int)) (b := (p.N : Int)) (rLen 1 h4 (by exact rfl) (rLen 2 h5 (by exact rfl) (rGe0 p.i (by exact rfl) (rGe0 (2 * p.i + 1) (by exact rfl) (rGe0 0 (by exact rfl) k))))))) (by exact rfl) (by exact rfl) ?_))
  cases t
  · have := of_decide_eq_false ht
    exact decide_eq_false (by omega)
  · have := of_decide_eq_true ht
    exact decide_eq_true (by omega)
noncomputable abbrev rwD2 : List BRow := [(11, .oi 6, .oi 0, .bool true), (11, .oi 10, .oi 1010, .bool true), (14, .oi 6, .int .i64 0, .bool true)]
theorem rwD2_ok (h : Dok p) (h0 : 2 * p.i + 2 < p.n) {l : List BRow} (k : ∀ r ∈ l, IbOk (ivP p) r) : ∀ r ∈ rwD2 ++ l, IbOk (ivP p) r := by
  have h1 := h.nN
  have h4 : 0 < p.G.len (p.al 3) := h.ne (2 * p.i + 2) (by omega)
  exact rLt (a := ((2 * p.i + 2 : Nat) : Int)) (b := (p.N : Int)) (rLen 3 h4 (by exact rfl) (rGe0 (2 * p.i + 2) (by exact rfl) k))
/-- what comparisons say: of the children, of the one that is taken -/
noncomputable abbrev rwL (t : Bool) : List BRow := [(11, .oi 8, .int .i64 0, .bool t)]
theorem rwL_ok {t : Bool} (h : lessI p.G (p.it (2 * p.i + 2)) (p.it (2 * p.i + 1)) = t) {l : List BRow} (k : ∀ r ∈ l, IbOk (ivP p) r) : ∀ r ∈ rwL t ++ l, IbOk (ivP p) r := rLt k (by exact rfl) (by exact rfl) h
noncomputable abbrev rwJ (t : Bool) : List BRow := [(11, .oi 9, .int .i64 0, .bool t)]
theorem rwJ_ok {t : Bool} (h : lessI p.G (p.it p.j) (p.it p.i) = t) {l : List BRow} (k : ∀ r ∈ l, IbOk (ivP p) r) : ∀ r ∈ rwJ t ++ l, IbOk (ivP p) r := rLt k (by exact rfl) (by exact rfl) h
theorem al1 (h : Dok p) (h0 : 2 * p.i + 1 < p.n) : 0 < p.G.len (p.al 1) := h.ne p.i (by omega)
theorem al2 (h : Dok p) (h0 : 2 * p.i + 1 < p.n) : 0 < p.G.len (p.al 2) := h.ne (2 * p.i + 1) h0
theorem al3 (h : Dok p) (h0 : 2 * p.i + 2 < p.n) : 0 < p.G.len (p.al 3) := h.ne (2 * p.i + 2) h0
/-- cells of the queue -/
noncomputable abbrev vlD : List VL := [⟨10, 3, 1, 0, [.rw 1]⟩, ⟨10, 5, 1, 0, [.rw 2]⟩]
theorem vlD_ok (h : Dok p) (h0 : 2 * p.i + 1 < p.n) {l : List VL} (k : ∀ r ∈ l, VlT (NmP p) (vvP p) r) : ∀ r ∈ vlD ++ l, VlT (NmP p) (vvP p) r := by
  have h1 := h.nN
  exact gL (q := p.i) (n := p.N) (e := cq p.it) (gL (q := 2 * p.i + 1) (n := p.N) (e := cq p.it) k (by exact rfl) (by exact rfl) (by omega) (sameH' (by exact rfl))) (by exact rfl) (by exact rfl) (by omega) (sameH' (by exact rfl))
noncomputable abbrev vlD3 : List VL := [⟨10, 6, 1, 0, [.rw 3]⟩]
theorem vlD3_ok (h : Dok p) (h0 : 2 * p.i + 2 < p.n) {l : List VL} (k : ∀ r ∈ l, VlT (NmP p) (vvP p) r) : ∀ r ∈ vlD3 ++ l, VlT (NmP p) (vvP p) r := by
  have h1 := h.nN
  exact gL (q := 2 * p.i + 2) (n := p.N) (e := cq p.it) k (by exact rfl) (by exact rfl) (by omega) (sameH' (by exact rfl))
theorem up_ne {f : Nat → Nat} {a v m : Nat} (h : m ≠ a) : upF f a v m = f m := if_neg h
theorem up_eq {f : Nat → Nat} {a v : Nat} : upF f a v a = v := if_pos rfl
/-- two places change -/
noncomputable abbrev vsD (J k : Nat) : List VS := [⟨10, 3, 1, 0, [.rw J], 13⟩, ⟨13, k, 1, 0, [.rw 1], 14⟩]
theorem vsD_ok {J k : Nat} (h : Dok p) (h0 : 2 * p.i + 1 < p.n) (hj : p.j < p.n) (hJ : p.al J = p.it p.j) (hk : ivP p k = (.i64, (p.j : Int))) : ∀ r ∈ vsD J k, VsT (NmP p) (vvP p) (vlP p) r := by
  have h1 := h.nN
  refine gS (q := p.i) (n := p.N) (e := cq p.it) (e' := cq (upF p.it p.i (p.it p.j))) (gS (q := p.j) (n := p.N) (e := cq (upF p.it p.i (p.it p.j))) (e' := cq (upF (upF p.it p.i (p.it p.j)) p.j (p.it p.i))) (fun _ h => nomatch h) hk (by exact rfl) (by exact rfl) (by exact rfl) (by exact rfl) (by omega) ?_ (fun m _ hm => ?_)) (by exact rfl) (by exact rfl) (by exact rfl) (by exact rfl) (by exact rfl) (by omega) ?_ (fun m _ hm => ?_)
  · exact sameH' (by show p.G.rv (p.it p.i) = p.G.rv (upF _ _ _ _); rw [up_eq])
  · exact .inl (.inl (by unfold cq; rw [up_ne hm]))
  · exact sameH' (by show p.G.rv (p.al J) = p.G.rv (upF _ _ _ _); rw [up_eq, hJ])
  · exact .inl (.inl (by unfold cq; rw [up_ne hm]))
end
end Go.Proofs.Ytnenjcehicaobaa.pf
