/-
  The law ProfileTop: what is there by name, tables.
-/
import Derived.Test.YtnenjcehicaobaaPGD
set_option linter.unusedVariables false
set_option linter.unusedSimpArgs false
set_option linter.unusedSectionVars false
set_option maxRecDepth 1000000
set_option maxHeartbeats 0
namespace Go.Proofs.Ytnenjcehicaobaa.pf
open Go.X Go.RowKit Go.Proofs
def cutB (s : ByteArray) : ByteArray := if 30 < s.size then s.extract 0 30 else s
/-- names and counts as they come in; the map, before and behind; its keys; what comes out -/
structure Lw where
  n1 : Nat
  n2 : Nat
  a1 : Nat × Nat
  a2 : Nat × Nat
  c1 : Nat
  c2 : Nat
  e1 : Nat → ByteArray
  e2 : Nat → Int
  i : Nat
  E : List En × Nat
  E' : List En × Nat
  kt : Nat → ByteArray
  k : Nat
  K : Int
  o : Nat
  R : Nat → Row
  j : Nat
  vi : Int
abbrev iv1L (p : Lw) : Nat → IntKind × Int
  | 0 => (.i64, (p.n1 : Int))
  | 1 => (.i64, (p.n2 : Int))
  | 2 => (.i64, (p.i : Int))
  | 3 => (.i64, ((p.i + 1 : Nat) : Int))
  | 4 => (.i64, p.e2 p.i)
  | 5 => (.i64, ((p.e1 p.i).size : Int))
  | 6 => (.i64, (p.k : Int))
  | 7 => (.i64, ((p.k + 1 : Nat) : Int))
  | 8 => (.i64, (p.R p.j).2)
  | 9 => (.i64, (p.R (p.j - 1)).2)
  | 10 => (.i64, ((0 : Nat) : Int))
  | 11 => (.i64, (p.j : Int))
  | 12 => (.i64, ((p.j + 1 : Nat) : Int))
  | 13 => (.i64, ((p.j - 1 : Nat) : Int))
  | 14 => (.i64, p.vi)
  | 15 => (.i64, (p.R (p.o - 1)).2)
  | 16 => (.i64, ((p.o - 1 : Nat) : Int))
  | 30 => (.i64, (p.o : Int))
  | 40 => (.i64, p.K)
  | _ => (.i64, 0)
abbrev ivL (p : Lw) : Nat → IntKind × Int := fun k => bif Nat.blt k 1000 then iv1L p k else if (k - 1000) % 3 = 2 then (.i64, (p.R ((k - 1000) / 3)).2) else (.i64, 0)
abbrev st1L (p : Lw) : Nat → ByteArray
  | 0 => p.e1 p.i
  | 2 => cutB (p.e1 p.i)
  | 4 => (p.R p.j).1
  | 6 => (p.R (p.j - 1)).1
  | 8 => p.kt p.i
  | 10 => (p.R (p.o - 1)).1
  | _ => .empty
abbrev strL (p : Lw) : Nat → ByteArray := fun k => if k % 2 = 1 then (p.R (k / 2)).1 else bif Nat.blt k 100 then st1L p k else if (k - 100) % 4 = 0 then p.kt ((k - 100) / 4) else p.e1 ((k - 100) / 4)
noncomputable abbrev NmL (p : Lw) : Nms := ⟨ivL p, strL p, fun _ => .nilIface⟩
def ck : Nat → AV := fun m => .ostr (100 + 4 * m)
abbrev vnL (p : Lw) : Nat → Nat
  | 30 => 2 * p.o
  | 40 => p.k
  | 41 => p.k + 1
  | _ => 0
abbrev vcL : Nat → Nat → AV
  | 30 => co
  | _ => ck
abbrev vvL (p : Lw) : Nat → Nat → Option AV := fun i => celV (vnL p i) (vcL i)
theorem vvLp (p : Lw) : ∀ i m a, vvL p i m = some a → vplain a = true := fun i m a h => by
  obtain ⟨_, rfl⟩ := celV_some h
  have h2 : vplain (co m) = true := by unfold co; split <;> rfl
  unfold vcL
  split <;> first | exact h2 | rfl
def fvL (p : Lw) : Nat → Nat → Option AV
  | 0 => celV p.n1 (fun m => .ostr (102 + 4 * m))
  | 1 => numV .i64 p.n2 p.e2
  | _ => fun _ => none
abbrev mmL (p : Lw) : Nat → List En × Nat
  | 0 => p.E
  | _ => p.E'
noncomputable abbrev L0 (p : Lw) : Tab := tabG (NmL p) (vvL p) (vnL p) (vvLp p) (fun i => if i = 0 then p.a1 else p.a2) (fun i => if i = 0 then p.c1 else p.c2) (fvL p) (fun _ _ => none) (mmL p) (fun _ => (0, [], 0))
theorem strL_e (p : Lw) (m : Nat) : strL p (102 + 4 * m) = p.e1 m := by
  have h1 : Nat.blt (102 + 4 * m) 100 = false := by
    rw [Bool.eq_false_iff]
    intro h
    have := Nat.le_of_ble_eq_true h
    omega
  unfold strL
  rw [if_neg (by omega), h1, cond_false, if_neg (by omega), show (102 + 4 * m - 100) / 4 = m by omega]
theorem strL_k (p : Lw) (m : Nat) : strL p (100 + 4 * m) = p.kt m := by
  have h1 : Nat.blt (100 + 4 * m) 100 = false := by
    rw [Bool.eq_false_iff]
    intro h
    have := Nat.le_of_ble_eq_true h
    omega
  unfold strL
  rw [if_neg (by omega), h1, cond_false, if_pos (by omega), show (100 + 4 * m - 100) / 4 = m by omega]
theorem strL_R (p : Lw) (m : Nat) : strL p (2 * m + 1) = (p.R m).1 := by
  unfold strL
  rw [if_pos (by omega), show (2 * m + 1) / 2 = m by omega]
theorem ivL_R (p : Lw) (m : Nat) : ivL p (1002 + 3 * m) = (.i64, (p.R m).2) := by
  have h1 : Nat.blt (1002 + 3 * m) 1000 = false := by
    rw [Bool.eq_false_iff]
    intro h
    have := Nat.le_of_ble_eq_true h
    omega
  unfold ivL
  rw [h1, cond_false, if_pos (by omega), show (1002 + 3 * m - 1000) / 3 = m by omega]
structure Rl (p : Lw) where
  ib : List BRow := []
  ibok : ∀ r ∈ ib, IbOk (ivL p) r := by exact fun _ h => nomatch h
  vl : List VL := []
  vlok : ∀ r ∈ vl, VlT (NmL p) (vvL p) r := by exact fun _ h => nomatch h
  va : List VA := []
  vaok : ∀ r ∈ va, VaT (NmL p) (vvL p) (vnL p) r := by exact fun _ h => nomatch h
  fl : List VL := []
  flok : ∀ r ∈ fl, isLen (ivL p r.k) ∧ ∀ m b, r.l[m]? = some b → ∃ a, fvL p r.i ((ivL p r.k).2.toNat * r.z + r.f + m) = some a ∧ sameT (strL p) (fun _ => .nilIface) (ivL p) a b := by exact fun _ h => nomatch h
  vc : List (Nat × Nat) := []
  vcok : ∀ q ∈ vc, ivL p q.2 = (.i64, (q.1 : Int)) := by exact fun _ h => nomatch h
  tr : List (Nat × List AV × AV) := []
  trok : ∀ r ∈ tr, TrOk (strL p) (ivL p) r.1 r.2.1 r.2.2 := by exact fun _ h => nomatch h
  ml : List (Nat × AV × AV × Bool) := []
  mlok : ∀ r ∈ ml, ∃ k, denK (strL p) (ivL p) r.2.1 k ∧ (∀ e ∈ (mmL p r.1).1, e.1.txt = k.txt) ∧ (r.2.2.2 = true → ∃ n, denI (ivL p) r.2.2.1 = some (.i64, n) ∧ mapL k (mmL p r.1).1 = some n) ∧ (r.2.2.2 = false → mapL k (mmL p r.1).1 = none) := by exact fun _ h => nomatch h
  mu : List (Nat × AV × AV × Nat) := []
  muok : ∀ r ∈ mu, ∃ k n, denK (strL p) (ivL p) r.2.1 k ∧ (∀ e ∈ (mmL p r.1).1, e.1.txt = k.txt) ∧ denI (ivL p) r.2.2.1 = some (.i64, n) ∧ mmL p r.2.2.2 = mapU (mmL p r.1) k n := by exact fun _ h => nomatch h
noncomputable abbrev Rl.T {p : Lw} (R : Rl p) : Tab := { L0 p with
  ib := R.ib
  ibok := R.ibok
  vl := R.vl
  vlok := R.vlok
  va := R.va
  vaok := R.vaok
  fl := R.fl
  flok := R.flok
  vc := R.vc
  vcok := R.vcok
  tr := R.tr
  trok := R.trok
  ml := R.ml
  mlok := R.mlok
  mu := R.mu
  muok := R.muok }
theorem Rl.same {p : Lw} (R : Rl p) : SameTab (L0 p) R.T := ⟨⟨rfl, rfl, rfl, rfl, rfl, rfl, rfl, rfl, rfl⟩, rfl, rfl⟩
/- what comes in stays -/
theorem glL {p p' : Lw} {B : Kp} {w : World} (h1 : p'.n1 = p.n1) (h2 : p'.n2 = p.n2) (h3 : p'.a1 = p.a1) (h4 : p'.a2 = p.a2) (h5 : p'.e1 = p.e1) (h6 : p'.e2 = p.e2) (g : @Gl (L0 p) B w) : @Gl (L0 p') B w := by
  refine ⟨fun x o a hg => (nomatch hg), fun i m a hg => ?_⟩
  have hg : fvL p' i m = some a := hg
  have hb : (L0 p').fb i = (L0 p).fb i := by show (if i = 0 then p'.a1 else p'.a2) = (if i = 0 then p.a1 else p.a2); rw [h3, h4]
  match i, hg with
  | 0, hg =>
    obtain ⟨hm, rfl⟩ := celV_some (show celV p'.n1 (fun m => AV.ostr (102 + 4 * m)) m = some a from hg)
    obtain ⟨k1, v, k2, k3⟩ := g.2 0 m (.ostr (102 + 4 * m)) (by show celV p.n1 (fun m => AV.ostr (102 + 4 * m)) m = some (AV.ostr (102 + 4 * m)); exact celV_lt (by omega))
    refine ⟨by rw [hb]; exact k1, v, by rw [hb]; exact k2, ?_⟩
    simp only [vrel] at k3 ⊢
    rw [k3]
    show Value.string (strL p (102 + 4 * m)) = Value.string (strL p' (102 + 4 * m))
    rw [strL_e, strL_e, h5]
  | 1, hg =>
    have hg : numV .i64 p'.n2 p'.e2 m = some a := hg
    obtain ⟨k1, v, k2, k3⟩ := g.2 1 m a (by show numV .i64 p.n2 p.e2 m = _; rw [← h2, ← h6]; exact hg)
    refine ⟨by rw [hb]; exact k1, v, by rw [hb]; exact k2, ?_⟩
    obtain ⟨hm, rfl⟩ := numV_some hg
    simp only [vrel] at k3 ⊢
    exact k3
  | (i + 2), hg => cases hg
end Go.Proofs.Ytnenjcehicaobaa.pf
