/-
  The laws of profile: what is there by name, tables.
-/
import Derived.Test.YtnenjcehicaobaaXN4
import Derived.Test.YtnenjcehicaobaaXN3
import Derived.Test.YtnenjcehicaobaaPFS
set_option linter.unusedVariables false
set_option linter.unusedSimpArgs false
set_option linter.unusedSectionVars false
set_option maxRecDepth 1000000
set_option maxHeartbeats 0
namespace Go.Proofs.Ytnenjcehicaobaa.pf
open Go.X Go.RowKit Go.Proofs
theorem mixed : Try.prog.follows .mixedOrders = true := by kernel_rfl
theorem hNo {T : Tab} : @HandOk T Try.prog Hand.none := fun _ _ _ _ h => nomatch h
noncomputable def codeOf (f : Func) : Code := f.body.getD .skip
noncomputable def hd : Code → Code
  | .seq a _ => a
  | c => c
noncomputable def tl : Code → Code
  | .seq _ b => b
  | c => c
noncomputable def lpIn : Code → Code
  | .block _ (.loop c) => c
  | _ => .skip
/-- a row: a name and a count -/
abbrev Row : Type := ByteArray × Int
def cmpN (x y : Int) : Int := if x < y then -1 else if y < x then 1 else 0
def cmpS (a b : ByteArray) : Int := Lib.compareBytes a.data.toList b.data.toList
def cmpR (a b : Row) : Int := if cmpN b.2 a.2 = 0 then cmpS a.1 b.1 else cmpN b.2 a.2
/-- lists of rows that lie in memory: their values, where they lie, how long they are, the first row, what is left behind it -/
structure Gi where
  rv : Nat → Value
  adr : Nat → Nat × Nat
  cap : Nat → Nat
  len : Nat → Nat
  row : Nat → Row
  nx : Nat → Nat
def Gi.at (G : Gi) (e : Nat) : Addr := ⟨(G.adr e).1, (G.adr e).2, none⟩
structure Gok (G : Gi) : Prop where
  c : ∀ e, 0 < G.len e → G.len e ≤ G.cap e
  v : ∀ e, 0 < G.len e → G.rv e = .slice (some (G.at e)) (G.len e) (G.cap e)
  n : ∀ e, 0 < G.len e → G.rv (G.nx e) = .slice (some (if G.cap e = 1 then G.at e else (G.at e).add (1 * 2))) (G.len e - 1) (G.cap e - 1)
  l : ∀ e, 0 < G.len e → G.len (G.nx e) = G.len e - 1
  z : ∀ e, G.len e = 0 → ∃ b c, G.rv e = .slice b 0 c
  s : ∀ e, G.len e < 1000000
def GW (G : Gi) (B : Kp) (w : World) : Prop := ∀ e, 0 < G.len e → B.kept (G.adr e).1 ∧ w.cell? ⟨(G.adr e).1, (G.adr e).2, none⟩ = some (.string (G.row e).1) ∧ w.cell? ⟨(G.adr e).1, (G.adr e).2 + 1, none⟩ = some (.int .i64 (G.row e).2)
def upF (f : Nat → Nat) (a v : Nat) : Nat → Nat := fun m => if m = a then v else f m
/-- a queue, before and behind a call; where one is in it; lists; what comes out -/
structure Pm where
  G : Gi
  N : Nat
  it : Nat → Nat
  ita : Nat → Nat
  itb : Nat → Nat
  i0 : Int
  n : Nat
  i : Nat
  j : Nat
  M : Nat
  ls : Nat → Nat
  r : Nat
  K : Int
  o : Nat
  R : Nat → Row
  mm : Nat → List (MK × Int × Nat) × Nat
  sv : Nat → Nat × List Nat × Nat
/-- the first list without its first row; and the last one put there -/
def Pm.it1 (p : Pm) : Nat → Nat := upF p.it 0 (p.G.nx (p.it 0))
def Pm.it2 (p : Pm) : Nat → Nat := upF p.it1 0 (p.it1 (p.N - 1))
abbrev Pm.al (p : Pm) : Nat → Nat
  | 0 => 0
  | 1 => p.it p.i
  | 2 => p.it (2 * p.i + 1)
  | 3 => p.it (2 * p.i + 2)
  | 4 => p.it 0
  | 5 => p.G.nx (p.it 0)
  | 6 => p.it1 (p.N - 1)
  | 7 => p.ls p.r
  | 8 => p.it p.j
  | 9 => 0
  | k + 10 => k
abbrev iv1 (p : Pm) : Nat → IntKind × Int
  | 0 => (.i64, (p.N : Int))
  | 1 => (.i64, (p.n : Int))
  | 3 => (.i64, (p.i : Int))
  | 4 => (.i64, ((2 * p.i : Nat) : Int))
  | 5 => (.i64, ((2 * p.i + 1 : Nat) : Int))
  | 6 => (.i64, ((2 * p.i + 2 : Nat) : Int))
  | 7 => (.i64, p.i0)
  | 8 => (.i64, cmpR (p.G.row (p.it (2 * p.i + 2))) (p.G.row (p.it (2 * p.i + 1))))
  | 9 => (.i64, cmpR (p.G.row (p.it p.j)) (p.G.row (p.it p.i)))
  | 10 => (.i64, ((0 : Nat) : Int))
  | 20 => (.i64, p.i0)
  | 21 => (.i64, ((p.N - 1 : Nat) : Int))
  | 22 => (.i64, (p.N : Int))
  | 23 => (.i64, p.i0 - 1)
  | 24 => (.i64, (p.M : Int))
  | 25 => (.i64, (p.r : Int))
  | 26 => (.i64, ((p.r + 1 : Nat) : Int))
  | 27 => (.i64, ((p.N / 2 : Nat) : Int))
  | 28 => (.i64, ((p.N + 1 : Nat) : Int))
  | 29 => (.i64, ((p.N / 2 : Nat) : Int) - 1)
  | 30 => (.i64, (p.o : Int))
  | 31 => (.i64, ((p.o + 1 : Nat) : Int))
  | 40 => (.i64, p.K)
  | _ => (.i64, 0)
abbrev iv2 (p : Pm) (k : Nat) : IntKind × Int := if k % 3 = 0 then (.i64, (p.G.row (p.al (k / 3))).2) else if k % 3 = 1 then (.i64, (p.G.len (p.al (k / 3)) : Int)) else (.i64, (p.R (k / 3)).2)
abbrev ivP (p : Pm) : Nat → IntKind × Int := fun k => bif Nat.blt k 1000 then iv1 p k else iv2 p (k - 1000)
abbrev strP (p : Pm) : Nat → ByteArray := fun k => if k % 2 = 0 then (p.G.row (p.al (k / 2))).1 else (p.R (k / 2)).1
abbrev rvP (p : Pm) : Nat → Value := fun i => p.G.rv (p.al i)
noncomputable abbrev NmP (p : Pm) : Nms := ⟨ivP p, strP p, rvP p⟩
def cq (f : Nat → Nat) : Nat → AV := fun m => .rw (f m + 10)
def cs (x M : Nat) (f : Nat → Nat) : Nat → AV := fun m => if m = M then .sl x 0 1 1 else .rw (f m + 10)
def co : Nat → AV := fun m => if m % 2 = 0 then .ostr (2 * (m / 2) + 1) else .oi (1002 + 3 * (m / 2))
abbrev vlP (p : Pm) : Nat → Nat
  | 10 => p.N
  | 11 => p.N
  | 12 => p.N
  | 13 => p.N
  | 14 => p.N
  | 15 => p.N + 1
  | 20 => p.N
  | 21 => p.N
  | 24 => p.M
  | 25 => p.M + 1
  | 26 => p.M + 1
  | 30 => 2 * p.o
  | 31 => 2 * (p.o + 1)
  | _ => 0
abbrev vcP (p : Pm) : Nat → Nat → AV
  | 10 => cq p.it
  | 11 => cq p.it1
  | 12 => cq p.it2
  | 13 => cq (upF p.it p.i (p.it p.j))
  | 14 => cq (upF (upF p.it p.i (p.it p.j)) p.j (p.it p.i))
  | 15 => cq (upF p.it p.N (p.ls p.r))
  | 20 => cq p.ita
  | 21 => cq p.itb
  | 24 => cq p.ls
  | 25 => cs 20000 p.M p.ls
  | 26 => cs 19005 p.M p.ls
  | _ => co
abbrev vvP (p : Pm) : Nat → Nat → Option AV := fun i => celV (vlP p i) (vcP p i)
theorem vcPp (p : Pm) (i m : Nat) : vplain (vcP p i m) = true := by
  have h1 : ∀ f, vplain (cq f m) = true := fun f => rfl
  have h2 : vplain (co m) = true := by unfold co; split <;> rfl
  have h3 : ∀ x M f, vplain (cs x M f m) = true := fun x M f => by unfold cs; split <;> rfl
  unfold vcP
  split <;> first | exact h1 _ | exact h3 _ _ _ | exact h2
theorem vvPp (p : Pm) : ∀ i m a, vvP p i m = some a → vplain a = true := fun i m a h => by
  obtain ⟨_, rfl⟩ := celV_some h
  exact vcPp p i m
def fvP (p : Pm) : Nat → Nat → Option AV := fun i m => if 0 < p.G.len (p.al i) then (match m with
  | 0 => some (.ostr (2 * i))
  | 1 => some (.oi (1000 + 3 * i))
  | _ => none) else none
noncomputable abbrev T0 (p : Pm) : Tab := tabG (NmP p) (vvP p) (vlP p) (vvPp p) (fun i => p.G.adr (p.al i)) (fun i => p.G.cap (p.al i)) (fvP p) (fun _ _ => none) p.mm p.sv
theorem iv_cnt (p : Pm) (i : Nat) : ivP p (1000 + 3 * i) = (.i64, (p.G.row (p.al i)).2) := by
  have h1 : Nat.blt (1000 + 3 * i) 1000 = false := by
    rw [Bool.eq_false_iff]
    intro h
    have := Nat.le_of_ble_eq_true h
    omega
  unfold ivP
  rw [h1, cond_false, show 1000 + 3 * i - 1000 = 3 * i by omega]
  unfold iv2
  rw [if_pos (by omega), show 3 * i / 3 = i by omega]
theorem str_txt (p : Pm) (i : Nat) : strP p (2 * i) = (p.G.row (p.al i)).1 := by
  show (if (2 * i) % 2 = 0 then (p.G.row (p.al (2 * i / 2))).1 else _) = _
  rw [if_pos (by omega), show 2 * i / 2 = i by omega]
theorem gw_gl {p : Pm} {B : Kp} {w : World} (h : GW p.G B w) : @Gl (T0 p) B w := by
  refine ⟨fun g o a hg => (nomatch hg), fun i m a hg => ?_⟩
  have hg : fvP p i m = some a := hg
  unfold fvP at hg
  split at hg
  · rename_i c
    obtain ⟨h1, h2, h3⟩ := h _ c
    match m, hg with
    | 0, hg => cases hg; exact ⟨h1, _, h2, by simp only [vrel]; show Value.string _ = Value.string (strP p (2 * i)); rw [str_txt]⟩
    | 1, hg => cases hg; exact ⟨h1, _, h3, by simp only [vrel]; show Value.int _ _ = Value.int (ivP p (1000 + 3 * i)).1 (ivP p (1000 + 3 * i)).2; rw [iv_cnt]⟩
    | (m + 2), hg => cases hg
  · cases hg
theorem gl_gw {p : Pm} {B : Kp} {w : World} (h : @Gl (T0 p) B w) : GW p.G B w := by
  intro e he
  have a1 := h.2 (e + 10) 0 (.ostr (2 * (e + 10))) (by show fvP p (e + 10) 0 = _; unfold fvP; rw [if_pos (by exact he)]; rfl)
  have a2 := h.2 (e + 10) 1 (.oi (1000 + 3 * (e + 10))) (by show fvP p (e + 10) 1 = _; unfold fvP; rw [if_pos (by exact he)]; rfl)
  have hal : p.al (e + 10) = e := rfl
  obtain ⟨k1, v1, k2, k3⟩ := a1
  obtain ⟨k4, v2, k5, k6⟩ := a2
  have k1 : B.kept (p.G.adr (p.al (e + 10))).1 := k1
  have k2 : w.cell? ⟨(p.G.adr (p.al (e + 10))).1, (p.G.adr (p.al (e + 10))).2 + 0, none⟩ = some v1 := k2
  have k5 : w.cell? ⟨(p.G.adr (p.al (e + 10))).1, (p.G.adr (p.al (e + 10))).2 + 1, none⟩ = some v2 := k5
  rw [hal] at k1 k2 k5
  simp only [vrel] at k3 k6
  have k3 : v1 = .string (strP p (2 * (e + 10))) := k3
  have k6 : v2 = .int (ivP p (1000 + 3 * (e + 10))).1 (ivP p (1000 + 3 * (e + 10))).2 := k6
  rw [str_txt, hal] at k3
  rw [iv_cnt, hal] at k6
  refine ⟨k1, ?_, ?_⟩
  · rw [← k3]; exact k2
  · exact k5.trans (by rw [k6])
theorem glP {p p' : Pm} {B : Kp} {w : World} (e : p'.G = p.G := by rfl) : @Gl (T0 p) B w → @Gl (T0 p') B w := fun h => gw_gl (by rw [e]; exact gl_gw h)
end Go.Proofs.Ytnenjcehicaobaa.pf
