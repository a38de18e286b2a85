/-
  The laws of profile: Top: rows, states.
-/
import Derived.Test.YtnenjcehicaobaaPFT
set_option linter.unusedVariables false
set_option linter.unusedSimpArgs false
set_option linter.unusedSectionVars false
set_option maxRecDepth 1000000
set_option maxHeartbeats 0
namespace Go.Proofs.Ytnenjcehicaobaa.pf
open Go.X Go.RowKit Go.Proofs
noncomputable def tC : Code := codeOf Try.f7
theorem tC_eq : Try.f7.body = some tC := by kernel_rfl
noncomputable abbrev ntT : Nat := Try.f7.ntmps
noncomputable def t2 : Code := hd (restn 2 tC)
theorem t2_eq : restn 2 tC = .seq t2 (restn 3 tC) := by kernel_rfl
noncomputable def t2a : Code := hd t2
noncomputable def t2L : Code := lpIn (tl t2)
theorem t2_in : t2 = .seq t2a (.block 0 (.loop t2L)) := by kernel_rfl
noncomputable def t2n : Code := hd t2L
noncomputable def t2b : Code := tl t2L
theorem t2L_in : t2L = .seq t2n t2b := by kernel_rfl
/-- rows of maps -/
structure Mw (p : Pm) where
  ml : List (Nat × AV × AV × Bool) := []
  mlok : ∀ r ∈ ml, ∃ k, denK (strP p) (ivP p) r.2.1 k ∧ (∀ e ∈ (p.mm r.1).1, e.1.txt = k.txt) ∧ (r.2.2.2 = true → ∃ n, denI (ivP p) r.2.2.1 = some (.i64, n) ∧ mapL k (p.mm r.1).1 = some n) ∧ (r.2.2.2 = false → mapL k (p.mm r.1).1 = none) := by exact fun _ h => nomatch h
  mr : List (Nat × Nat) := []
  mrok : ∀ r ∈ mr, p.sv r.2 = ((p.mm r.1).2, [], (p.mm r.1).2) := by exact fun _ h => nomatch h
  mx : List (Nat × Nat × Bool) := []
  mxok : ∀ r ∈ mx, (∀ e ∈ (p.mm r.1).1, e.2.2 < (p.sv r.2.1).1 ∧ e.2.2 < (p.sv r.2.1).2.2) ∧ (r.2.2 = true → ∃ e ∈ (p.mm r.1).1, e.2.2 ∉ (p.sv r.2.1).2.1) ∧ (r.2.2 = false → ∀ e ∈ (p.mm r.1).1, e.2.2 ∈ (p.sv r.2.1).2.1) := by exact fun _ h => nomatch h
  mn : List (Nat × Nat × AV × AV) := []
  mnok : ∀ r ∈ mn, ∃ n k v, (p.sv r.2.1).2.1.getLast? = some n ∧ (p.mm r.1).2 = (p.sv r.2.1).2.2 ∧ (p.mm r.1).1.find? (fun e => Nat.beq e.2.2 n) = some (k, v, n) ∧ denK (strP p) (ivP p) r.2.2.1 k ∧ denI (ivP p) r.2.2.2 = some (.i64, v) := by exact fun _ h => nomatch h
noncomputable abbrev Mw.T {p : Pm} (M : Mw p) (R : Rz p) : Tab := { R.T with
  ml := M.ml
  mlok := M.mlok
  mr := M.mr
  mrok := M.mrok
  mx := M.mx
  mxok := M.mxok
  mn := M.mn
  mnok := M.mnok }
theorem Mw.same {p : Pm} (M : Mw p) (R : Rz p) : SameTab (T0 p) (M.T R) := ⟨⟨rfl, rfl, rfl, rfl, rfl, rfl, rfl, rfl, rfl⟩, rfl, rfl⟩
noncomputable abbrev R0 (p : Pm) : Rz p := {}
noncomputable abbrev fsT (l : AV) : List (Nat × AV) := [(1, .oi 40), (5, l), (9, .ptr 19003 0)]
noncomputable abbrev fsTn (l : AV) : List (Nat × AV) := [(1, .oi 40), (5, l), (9, .ptr 19003 0), (11, .bool true)]
noncomputable abbrev bsT0 (x : Nat) (i : Blk) : BS := [(18001, 18001, .omap 0), (19003, x, i)]
noncomputable abbrev bsT1 (x y : Nat) (i : Blk) (v : Nat) : BS := [(18001, 18001, .omap 0), (19003, x, i), (19004, y, .vec v)]
noncomputable abbrev bsTr (x y z : Nat) (i : Blk) (v : Nat) : BS := [(18001, 18001, .omap 0), (19003, x, i), (19004, y, .vec v), (19005, z, rowOf [.ostr 14, .oi 1021] false)]
end Go.Proofs.Ytnenjcehicaobaa.pf
