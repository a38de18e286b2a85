/-
  The law CollectChain: what is there by name, tables.
-/
import Derived.Test.YtbabfeloandpdaaGreatDoorXN4
import Derived.Test.YtbabfeloandpdaaGreatDoorXN3
import Derived.Test.YtbabfeloandpdaaGreatDoorCBN
import Derived.Test.YtbabfeloandpdaaGreatDoorCQT0
set_option linter.unusedVariables false
set_option linter.unusedSimpArgs false
set_option linter.unusedSectionVars false
set_option maxRecDepth 1000000
set_option maxHeartbeats 0
namespace Go.Proofs.YtbabfeloandpdaaGreatDoor.cc
open Go.X Go.RowKit Go.Proofs
theorem mixed : Tryz.prog.follows .mixedOrders = true := by kernel_rfl
noncomputable def codeOf (f : Func) : Code := f.body.getD .skip
noncomputable def hd : Code → Code
  | .seq a _ => a
  | c => c
noncomputable def tl : Code → Code
  | .seq _ b => b
  | c => c
noncomputable def lpIn : Code → Code
  | .block _ (.loop c) => c
  | _ => .skip
/-- one word is another one -/
def put (W : Nat → BitVec 64) (a : Nat) (v : Int) : Nat → BitVec 64 := fun m => if m = a then BitVec.ofInt 64 v else W m
/-- n objects; the first that is kept; words; what is marked, where they go (maps), what the range has seen; the object at hand, what it is told -/
structure Pc where
  n : Nat
  f : Nat
  g : Nat
  W : Nat → BitVec 64
  c : Nat
  x : Int
  ma : List (Int × Int × Nat) × Nat
  ma' : List (Int × Int × Nat) × Nat
  q : Nat × List Nat × Nat
  q' : Nat × List Nat × Nat
def Pc.cnt (p : Pc) : Nat := p.n - p.g
def Pc.v (p : Pc) : Int := wI (p.W (3 * p.c + 2))
abbrev ivP (p : Pc) (k : Nat) : Nat → IntKind × Int
  | 0 => (.i64, (p.n : Int))
  | 1 => (.i64, (p.f : Int))
  | 2 => (.i64, ((3 * p.n : Nat) : Int))
  | 3 => (.i64, (p.cnt : Int))
  | 4 => (.i64, ((3 * p.cnt : Nat) : Int))
  | 5 => (.i64, ((3 : Nat) : Int))
  | 10 => (.i64, (k : Int))
  | 11 => (.i64, ((k + 1 : Nat) : Int))
  | 12 => (.i64, ((3 * k : Nat) : Int))
  | 13 => (.i64, ((3 * k + 1 : Nat) : Int))
  | 14 => (.i64, ((3 * k + 2 : Nat) : Int))
  | 15 => (.i64, ((3 * k + 3 : Nat) : Int))
  | 16 => (.i64, ((3 * k + 4 : Nat) : Int))
  | 17 => (.i64, ((2048 - 3 * k : Nat) : Int))
  | 18 => (.u64, ((3 * k + 4 : Nat) : Int))
  | 30 => (.i64, (p.c : Int))
  | 31 => (.i64, ((3 * p.c : Nat) : Int))
  | 32 => (.i64, ((3 * p.c + 1 : Nat) : Int))
  | 33 => (.i64, ((3 * p.c + 2 : Nat) : Int))
  | 34 => (.u64, p.v)
  | 35 => (.i64, p.v)
  | 36 => (.i64, p.v - 1)
  | 37 => (.i64, p.x)
  | 38 => (.u64, p.x)
  | 39 => (.i64, p.v / 3)
  | 40 => (.i64, ((3 * (k - p.g) : Nat) : Int))
  | 41 => (.i64, ((3 * (k - p.g) + 1 : Nat) : Int))
  | 42 => (.i64, ((3 * (k - p.g) + 3 : Nat) : Int))
  | 43 => (.i64, ((k - p.g : Nat) : Int))
  | 44 => (.i64, ((k - p.g + 1 : Nat) : Int))
  | 45 => (.i64, ((3 * p.n - 3 * (k - p.g) : Nat) : Int))
  | 46 => (.i64, ((3 * p.n - 3 * p.cnt : Nat) : Int))
  | 48 => (.i64, ((3 * (p.c - p.g) + 1 : Nat) : Int))
  | 49 => (.i64, ((p.n - p.f : Nat) : Int))
  | 47 => (.i64, ((0 : Nat) : Int))
  | _ => (.i64, 0)
abbrev noVal : Nat → Option AV := fun _ => none
abbrev vvP (p : Pc) (k : Nat) : Nat → Nat → Option AV
  | 0 => numV .u64 (3 * k) (fun _ => 0)
  | 1 => numV .i64 k (fun m => ((3 * m : Nat) : Int))
  | 2 => numV .i64 k (fun m => ((3 * m + 1 : Nat) : Int))
  | 3 => numV .u64 (3 * k + 3) (fun _ => 0)
  | 4 => numV .i64 (k + 1) (fun m => ((3 * m : Nat) : Int))
  | 5 => numV .i64 (k + 1) (fun m => ((3 * m + 1 : Nat) : Int))
  | 10 => numV .u64 (3 * p.n) (fun m => wI (p.W m))
  | 11 => numV .i64 p.n (fun m => ((3 * m : Nat) : Int))
  | 12 => numV .i64 p.n (fun m => ((3 * m + 1 : Nat) : Int))
  | 13 => numV .u64 (3 * p.n) (fun m => wI (put p.W (3 * k + 2) ((3 * k + 4 : Nat) : Int) m))
  | 14 => numV .u64 (3 * p.n) (fun m => wI (put p.W (3 * k + 2) 1 m))
  | 15 => numV .u64 (3 * p.n) (fun m => wI (put p.W (3 * p.c + 2) p.x m))
  | 16 => numV .u64 (3 * p.n) (fun m => wI (if 3 * (k - p.g) ≤ m ∧ m < 3 * (k - p.g) + 3 then p.W (3 * k + (m - 3 * (k - p.g))) else p.W m))
  | 20 => numV .i64 (k - p.g) (fun m => ((3 * m : Nat) : Int))
  | 21 => numV .i64 (k - p.g + 1) (fun m => ((3 * m : Nat) : Int))
  | 23 => numV .i64 p.cnt (fun m => ((3 * m : Nat) : Int))
  | 24 => numV .i64 p.cnt (fun m => ((3 * m + 1 : Nat) : Int))
  | _ => noVal
abbrev vkP (p : Pc) (k : Nat) : Nat → Nat
  | 0 => 3 * k
  | 1 => k
  | 2 => k
  | 3 => 3 * k + 3
  | 4 => k + 1
  | 5 => k + 1
  | 10 => 3 * p.n
  | 11 => p.n
  | 12 => p.n
  | 13 => 3 * p.n
  | 14 => 3 * p.n
  | 15 => 3 * p.n
  | 16 => 3 * p.n
  | 20 => k - p.g
  | 21 => k - p.g + 1
  | 22 => 3 * p.cnt
  | 23 => p.cnt
  | 24 => p.cnt
  | 25 => 3 * p.n
  | _ => 0
theorem numP {K : IntKind} {n : Nat} {e : Nat → Int} {m : Nat} {a : AV} (h : numV K n e m = some a) : vplain a = true := by
  obtain ⟨_, rfl⟩ := numV_some h; rfl
theorem vvPp (p : Pc) (k : Nat) : ∀ i m a, vvP p k i m = some a → vplain a = true := fun i m a h => by
  unfold vvP at h
  split at h <;> first | exact numP h | cases h
abbrev fg0 : Fgn := ⟨fun _ => (0, 0), fun _ => 0, fun _ _ => none⟩
abbrev tx0 (iv : Nat → IntKind × Int) : Txts iv := ⟨fun _ => .empty, fun _ => [], (fun _ _ h => nomatch h), [], (fun _ h => nomatch h)⟩
abbrev RwP (p : Pc) (k : Nat) : Type := Rw (ivP p k) (vvP p k) (vkP p k) fg0 (tx0 (ivP p k))
abbrev R0 (p : Pc) (k : Nat) : RwP p k where
  vvp := vvPp p k
/-- where so many objects go -/
def toM (g m : Nat) : List (Int × Int × Nat) × Nat := ((List.range m).map fun j => (((3 * (g + j) + 1 : Nat) : Int), ((3 * j + 1 : Nat) : Int), j), m)
/-- maps and iterators: 0 what is marked, 1 with one more; 2 where they go, 3 with one more; 4 an empty one; 5 where all go -/
abbrev mmP (p : Pc) (k : Nat) : Nat → List (Int × Int × Nat) × Nat
  | 0 => p.ma
  | 1 => p.ma'
  | 2 => toM p.g (k - p.g)
  | 3 => toM p.g (k - p.g + 1)
  | 5 => toM p.g p.cnt
  | _ => ([], 0)
abbrev svP (p : Pc) : Nat → Nat × List Nat × Nat
  | 0 => p.q
  | 1 => p.q'
  | _ => (0, [], 0)
/-- rows of maps -/
structure Mw (p : Pc) (k : Nat) where
  ml : List (Nat × AV × AV × Bool) := []
  mlok : ∀ r ∈ ml, ∃ a, denI (ivP p k) r.2.1 = some (.i64, a) ∧ (r.2.2.2 = true → ∃ n, denI (ivP p k) r.2.2.1 = some (.i64, n) ∧ mapL a (mmP p k r.1).1 = some n) ∧ (r.2.2.2 = false → mapL a (mmP p k r.1).1 = none) := by exact fun _ h => nomatch h
  mu : List (Nat × AV × AV × Nat) := []
  muok : ∀ r ∈ mu, ∃ a n, denI (ivP p k) r.2.1 = some (.i64, a) ∧ denI (ivP p k) r.2.2.1 = some (.i64, n) ∧ mmP p k r.2.2.2 = mapU (mmP p k r.1) a n := by exact fun _ h => nomatch h
  me : List (Nat × AV) := []
  meok : ∀ r ∈ me, denI (ivP p k) r.2 = some (.i64, (((mmP p k r.1).1.length : Nat) : Int)) := by exact fun _ h => nomatch h
  mr : List (Nat × Nat) := []
  mrok : ∀ r ∈ mr, svP p r.2 = ((mmP p k r.1).2, [], (mmP p k r.1).2) := by exact fun _ h => nomatch h
  mx : List (Nat × Nat × Bool) := []
  mxok : ∀ r ∈ mx, (∀ e ∈ (mmP p k r.1).1, e.2.2 < (svP p r.2.1).1 ∧ e.2.2 < (svP p r.2.1).2.2) ∧ (r.2.2 = true → ∃ e ∈ (mmP p k r.1).1, e.2.2 ∉ (svP p r.2.1).2.1) ∧ (r.2.2 = false → ∀ e ∈ (mmP p k r.1).1, e.2.2 ∈ (svP p r.2.1).2.1) := by exact fun _ h => nomatch h
  mn : List (Nat × Nat × AV × AV) := []
  mnok : ∀ r ∈ mn, ∃ n a v, (svP p r.2.1).2.1.getLast? = some n ∧ (mmP p k r.1).2 = (svP p r.2.1).2.2 ∧ (mmP p k r.1).1.find? (fun e => Nat.beq e.2.2 n) = some (a, v, n) ∧ denI (ivP p k) r.2.2.1 = some (.i64, a) ∧ denI (ivP p k) r.2.2.2 = some (.i64, v) := by exact fun _ h => nomatch h
  vo : List (Nat × Nat × Nat) := []
  vook : ∀ r ∈ vo, isLen (ivP p k r.2.1) ∧ isLen (ivP p k r.2.2) ∧ 0 < (ivP p k r.2.2).2 ∧ (ivP p k r.1).2 = (ivP p k r.2.1).2 + (ivP p k r.2.2).2 := by exact fun _ h => nomatch h
  cp : List CP := []
  cpok : ∀ r ∈ cp, denI (ivP p k) r.n = some (.i64, ((min (ivP p k r.k).2.toNat (ivP p k r.j).2.toNat : Nat) : Int)) ∧ (ivP p k r.a).2.toNat + min (ivP p k r.k).2.toNat (ivP p k r.j).2.toNat ≤ vkP p k r.i ∧ vkP p k r.i' ≤ vkP p k r.i ∧
    (∀ m, m < min (ivP p k r.k).2.toNat (ivP p k r.j).2.toNat → ∃ x, vvP p k r.i ((ivP p k r.b).2.toNat + m) = some x) ∧
    ∀ m x, vvP p k r.i' m = some x → ∃ y, (if (ivP p k r.a).2.toNat ≤ m ∧ m < (ivP p k r.a).2.toNat + min (ivP p k r.k).2.toNat (ivP p k r.j).2.toNat then vvP p k r.i ((ivP p k r.b).2.toNat + (m - (ivP p k r.a).2.toNat)) else vvP p k r.i m) = some y ∧ sameAV (ivP p k) y x := by exact fun _ h => nomatch h
  cl : List CL := []
  clok : ∀ r ∈ cl, (ivP p k r.a).2.toNat + (ivP p k r.j).2.toNat ≤ vkP p k r.i ∧ vkP p k r.i' ≤ vkP p k r.i ∧
    ∀ m x, vvP p k r.i' m = some x → ∃ y, (if (ivP p k r.a).2.toNat ≤ m ∧ m < (ivP p k r.a).2.toNat + (ivP p k r.j).2.toNat then some r.z else vvP p k r.i m) = some y ∧ sameAV (ivP p k) y x := by exact fun _ h => nomatch h
abbrev M0 (p : Pc) (k : Nat) : Mw p k := {}
noncomputable abbrev Tb {p : Pc} {k : Nat} (R : RwP p k) (M : Mw p k) : Tab := { R.T with
  mm := mmP p k, sv := svP p, ml := M.ml, mlok := M.mlok, mu := M.mu, muok := M.muok, me := M.me, meok := M.meok, mr := M.mr, mrok := M.mrok, mx := M.mx, mxok := M.mxok, mn := M.mn, mnok := M.mnok, vo := M.vo, vook := M.vook, cp := M.cp, cpok := M.cpok, cl := M.cl, clok := M.clok }
theorem Tb.same {p : Pc} {k : Nat} (R R' : RwP p k) (M M' : Mw p k) : SameTab (Tb R M) (Tb R' M') := ⟨⟨rfl, rfl, rfl, rfl, rfl, rfl, rfl, rfl, rfl⟩, rfl, rfl⟩
noncomputable abbrev T0 (p : Pc) (k : Nat) : Tab := Tb (R0 p k) (M0 p k)
noncomputable abbrev KN : Hand := cq.K_top0
theorem KN_ok {T : Tab} : @HandOk T Tryz.prog KN := @cq.K_top0_ok T
theorem hNo {T : Tab} : @HandOk T Tryz.prog Hand.none := @HandOk.none T Tryz.prog
theorem catR {α : Type} {a b : List α} {P : α → Prop} (h1 : ∀ r ∈ a, P r) (h2 : ∀ r ∈ b, P r) : ∀ r ∈ a ++ b, P r := fun r hr => (List.mem_append.1 hr).elim (h1 r) (h2 r)
theorem vpRow {T T' : Tab} {C : Cv} {l : VP} {x i n : Nat} {K : IntKind} {r : List AV} {f : Nat → Int} (k : VpOk T T' C l) (hr : r.length = n) (hl : n < 1000000) (h2 : T'.vv i = numV K n f) (h4 : T'.vk i = n) (h : ∀ m, m < n → ∃ v, r[m]? = some v ∧ denI T.iv v = some (K, f m)) : VpOk T T' C ((x, rowOf r true, i) :: l) := by
  refine vpCons ⟨rfl, fun μ p w hh => ?_⟩ k
  obtain ⟨arr, el, fz, g1, g2, g3, g4, g5, g6⟩ := hh
  refine ⟨arr, el, fz, g1, g2, g3, by dsimp only; rw [h4]; omega, fun m a ha => ?_⟩
  dsimp only at ha
  rw [h2] at ha
  obtain ⟨hm, rfl⟩ := numV_some ha
  obtain ⟨b, b1, b2⟩ := h m hm
  obtain ⟨v, v1, v2⟩ := g6 m b (by omega) (by rw [@cellOf_row T _ _ (by rw [hr]; exact hl)]; exact b1)
  refine ⟨v, v1, ?_⟩
  cases b <;> simp [denI] at b2
  · obtain ⟨rfl, rfl⟩ := b2; simpa [vrel] using v2
  · simp only [vrel] at v2 ⊢; rw [v2, b2]
theorem vpNum {T T' : Tab} {C : Cv} {l : VP} {x i i' n n' : Nat} {K : IntKind} {e e' : Nat → Int} (k : VpOk T T' C l) (h1 : T.vv i = numV K n e := by exact rfl) (h2 : T'.vv i' = numV K n' e' := by exact rfl) (h3 : T.vk i = n := by exact rfl) (h4 : T'.vk i' = n' := by exact rfl) (hn : n' = n := by first | exact rfl | omega) (he : ∀ m, m < n → e' m = e m := by first | assumption | exact fun _ _ => rfl) : VpOk T T' C ((x, .vec i, i') :: l) := by
  subst hn
  exact vpCons (vecSubN (fun m a h => by
    rw [h2] at h
    rw [h1]
    exact numSub he m a h) (by rw [h3, h4]; exact Nat.le_refl _)) k
theorem glL {T T' : Tab} {B : Kp} {w0 : World} (h4 : T'.fv = fun _ _ => none := by exact rfl) (h5 : T'.gv = fun _ _ => none := by exact rfl) : @Gl T B w0 → @Gl T' B w0 := by
  intro g
  refine ⟨fun g' o a h => (by rw [h5] at h; cases h), fun i m a h => ?_⟩
  rw [h4] at h
  cases h
theorem ipM {T T' : Tab} {i j : Nat} {l : IP} (k : IpOk T T' l) (h : T'.mm j = T.mm i := by exact rfl) : IpOk T T' ((.map i, j) :: l) := ipCons h k
theorem ipQ {T T' : Tab} {i j o : Nat} {l : IP} (k : IpOk T T' l) (h : T'.sv j = T.sv i := by exact rfl) : IpOk T T' ((.ptr i o, j) :: l) := ipCons h k
theorem ipMZ {T T' : Tab} {j : Nat} {l : IP} (k : IpOk T T' l) (h : T'.mm j = ([], 0) := by exact rfl) : IpOk T T' ((.nilm, j) :: l) := ipCons h k
end Go.Proofs.YtbabfeloandpdaaGreatDoor.cc
