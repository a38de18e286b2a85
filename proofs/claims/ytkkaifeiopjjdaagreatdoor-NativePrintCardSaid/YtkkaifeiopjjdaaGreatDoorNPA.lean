/-
  The law NativePrint: what is there by name, tables, what the words hold.
-/
import Derived.Test.YtkkaifeiopjjdaaGreatDoorXN4
import Derived.Test.YtkkaifeiopjjdaaGreatDoorXN3
import Derived.Test.YtkkaifeiopjjdaaGreatDoorProg
import Derived.KernelRfl
set_option linter.unusedVariables false
set_option linter.unusedSimpArgs false
set_option linter.unusedSectionVars false
set_option maxRecDepth 1000000
set_option maxHeartbeats 0
namespace Go.Proofs.YtkkaifeiopjjdaaGreatDoor.np
open Go.X Go.RowKit Go.Proofs
theorem mixed : Tryz.prog.follows .mixedOrders = true := by kernel_rfl
noncomputable def codeOf (f : Func) : Code := f.body.getD .skip
noncomputable def hd : Code → Code
  | .seq a _ => a
  | c => c
noncomputable def tl : Code → Code
  | .seq _ b => b
  | c => c
noncomputable def lpIn : Code → Code
  | .block _ (.loop c) => c
  | _ => .skip
noncomputable def cIn : Code → Code
  | .seq (.seq _ (.cond _ x _)) _ => x
  | _ => .skip
/-- chars as words -/
def fV (f : Nat → Int) (j : Nat) : BitVec 64 := BitVec.ofInt 64 (f j)
/-- how many words a text of n chars takes -/
def wd (n : Nat) : Nat := 3 + (n * 2 + 7) / 8
/-- the words of a text of n chars when k of them are in it; texts have the shape 1 -/
def objW (n : Nat) (f : Nat → Int) (k : Nat) : Nat → BitVec 64 := fun q => if q = 0 then 1#64 else if q = 2 then BitVec.ofNat 64 n else if 3 ≤ q then putsTo 4 16 (fV f) k (q - 3) else 0#64
/-- such a text behind other words -/
def wn (s n : Nat) (f : Nat → Int) (Wo : Nat → BitVec 64) (k : Nat) : Nat → BitVec 64 := fun m => if m < s then Wo m else objW n f k (m - s)
/-- what an element of the slice of texts is: a slice (of at most 60 chars, of more), nil, an empty slice -/
def elK : Nat → AV
  | 0 => .fo 1 0 1
  | 1 => .fo 1 19 1
  | 2 => .nils
  | _ => .es
structure Pm where
  la : Nat
  fa : Nat
  A : Nat → Int
  ba : Nat
  oa : Nat
  ca : Nat
  tot : Nat
  W : Nat → BitVec 64
  cnt : Nat
  S : Nat → Int
  ld : Nat
  D : Nat → Int
  i : Nat
  lu : Nat
  bu : Nat
  ou : Nat
  cu : Nat
  ek : Nat
  lb : Nat
  E : Nat → Int
def Pm.t1 (p : Pm) : Nat := p.tot + wd p.la
/-- all words when k chars are written -/
def Pm.w (p : Pm) (k : Nat) : Nat → BitVec 64 := wn p.tot p.la p.A p.W k
def Pm.WZ (p : Pm) : Nat → BitVec 64 := fun m => if m < p.tot then p.W m else 0#64
def Pm.WY (p : Pm) : Nat → BitVec 64 := fun m => if m = p.tot then 1#64 else p.WZ m
def Pm.S1 (p : Pm) : Nat → Int := fun m => if m < p.cnt then p.S m else (p.tot : Int)
/-- bytes with a line's end, bytes behind those that were there -/
def Pm.E1 (p : Pm) : Nat → Int := fun m => if m < p.lb then p.E m else 10
def cat (n : Nat) (f g : Nat → Int) : Nat → Int := fun m => if m < n then f m else g (m - n)
/-- chars that are read, so many of them -/
def upTo (f : Nat → Int) (k : Nat) : Nat → Int := fun m => if m < k then f m else 0
abbrev ivP (p : Pm) (k : Nat) : Nat → IntKind × Int
  | 0 => (.i64, (p.la : Int))
  | 1 => (.i64, (p.tot : Int))
  | 2 => (.i64, (p.cnt : Int))
  | 3 => (.i64, (p.t1 : Int))
  | 4 => (.i64, ((p.tot + 1 : Nat) : Int))
  | 5 => (.i64, ((wd p.la : Nat) : Int))
  | 6 => (.i64, ((2048 - p.tot : Nat) : Int))
  | 7 => (.i64, ((p.cnt + 1 : Nat) : Int))
  | 8 => (.i64, ((p.la * 2 : Nat) : Int))
  | 9 => (.i64, ((p.la * 2 + 8 : Nat) : Int))
  | 10 => (.i64, ((p.la * 2 + 7 : Nat) : Int))
  | 11 => (.i64, (((p.la * 2 + 7) / 8 : Nat) : Int))
  | 12 => (.i64, ((p.tot + 2 : Nat) : Int))
  | 13 => (.u64, (p.la : Int))
  | 14 => (.i64, (p.i : Int))
  | 15 => (.i64, (p.lu : Int))
  | 16 => (.i64, ((p.i % p.lu : Nat) : Int))
  | 17 => (.i64, IntKind.i64.wrap ((p.lu : Int) * 6))
  | 18 => (.i64, ((p.i + 1 : Nat) : Int))
  | 19 => (.i64, (p.fa : Int))
  | 20 => (.i64, (p.ld : Int))
  | 21 => (.i64, (p.lb : Int))
  | 22 => (.i64, ((p.ld + p.lb : Nat) : Int))
  | 23 => (.i64, ((p.lb + 1 : Nat) : Int))
  | 24 => (.i64, ((p.ld + (p.lb + 1) : Nat) : Int))
  | 25 => (.i64, ((0 : Nat) : Int))
  | 26 => (.i64, ((p.ld + 1 : Nat) : Int))
  | 40 => (.i64, (k : Int))
  | 41 => (.i64, ((k + 1 : Nat) : Int))
  | 44 => (.i64, ((k / 4 : Nat) : Int))
  | 46 => (.i64, ((p.tot + 3 : Nat) : Int))
  | 47 => (.i64, ((p.tot + 3 + k / 4 : Nat) : Int))
  | 48 => (.i64, ((k % 4 : Nat) : Int))
  | 49 => (.i64, ((k % 4 * 2 : Nat) : Int))
  | 50 => (.i64, ((k % 4 * 2 * 8 : Nat) : Int))
  | 51 => (.u64, wI (p.w p.la (p.tot + 3 + k / 4)))
  | 52 => (.u64, wI (p.w p.la (p.tot + 3 + k / 4) >>> (k % 4 * 2 * 8)))
  | 53 => (.u16, p.A k)
  | 55 => (.u64, wI (p.w k (p.tot + 3 + k / 4)))
  | 56 => (.u64, wI (msk 16 (k % 4 * 2 * 8)))
  | 57 => (.u64, wI (p.w k (p.tot + 3 + k / 4) &&& ~~~msk 16 (k % 4 * 2 * 8)))
  | 59 => (.i64, p.A k)
  | 60 => (.u64, wI (fV p.A k))
  | 61 => (.u64, wI (fV p.A k <<< (k % 4 * 2 * 8)))
  | 62 => (.u64, wI ((fV p.A k <<< (k % 4 * 2 * 8)) &&& msk 16 (k % 4 * 2 * 8)))
  | 63 => (.u64, wI ((p.w k (p.tot + 3 + k / 4) &&& ~~~msk 16 (k % 4 * 2 * 8)) ||| ((fV p.A k <<< (k % 4 * 2 * 8)) &&& msk 16 (k % 4 * 2 * 8))))
  | _ => (.i64, 0)
abbrev vvP (p : Pm) (k : Nat) : Nat → Nat → Option AV
  | 0 => numV .u64 p.tot (fun m => wI (p.W m))
  | 1 => numV .i64 p.cnt p.S
  | 2 => numV .u8 p.ld p.D
  | 3 => numV .u64 p.t1 (fun m => wI (p.w p.la m))
  | 4 => numV .i64 (p.cnt + 1) p.S1
  | 5 => numV .u16 p.la p.A
  | 6 => numV .u8 p.lb p.E
  | 7 => numV .u8 (p.lb + 1) p.E1
  | 8 => numV .u8 (p.ld + p.lb) (cat p.ld p.D p.E)
  | 9 => numV .u8 (p.ld + (p.lb + 1)) (cat p.ld p.D p.E1)
  | 10 => numV .u64 p.t1 (fun m => wI (p.w k m))
  | 11 => numV .u64 p.t1 (fun m => wI (p.w (k + 1) m))
  | 12 => numV .u16 p.la (upTo p.A k)
  | 13 => numV .u16 p.la (upTo p.A (k + 1))
  | 14 => numV .u8 (p.ld + 1) (cat p.ld p.D fun _ => 10)
  | 20 => numV .u16 p.la (fun _ => 0)
  | 26 => numV .u64 p.t1 (fun m => wI (p.WZ m))
  | 27 => numV .u64 p.t1 (fun m => wI (p.WY m))
  | 28 => numV .u64 p.t1 (fun m => wI (p.w 0 m))
  | _ => fun _ => none
abbrev vkP (p : Pm) (k : Nat) : Nat → Nat
  | 0 => p.tot
  | 1 => p.cnt
  | 2 => p.ld
  | 3 => p.t1
  | 4 => p.cnt + 1
  | 5 => p.la
  | 6 => p.lb
  | 7 => p.lb + 1
  | 8 => p.ld + p.lb
  | 9 => p.ld + (p.lb + 1)
  | 10 => p.t1
  | 11 => p.t1
  | 12 => p.la
  | 13 => p.la
  | 14 => p.ld + 1
  | 20 => p.la
  | 26 => p.t1
  | 27 => p.t1
  | 28 => p.t1
  | _ => 0
theorem numP {K : IntKind} {n : Nat} {e : Nat → Int} {m : Nat} {a : AV} (h : numV K n e m = some a) : vplain a = true := by
  obtain ⟨_, rfl⟩ := numV_some h; rfl
theorem vvPp (p : Pm) (k : Nat) : ∀ i m a, vvP p k i m = some a → vplain a = true := fun i m a h => by
  unfold vvP at h
  split at h <;> first | exact numP h | cases h
/-- what is foreign: the slice of texts (0), of which one is looked at, and that one (1) -/
abbrev fgP (p : Pm) : Fgn where
  fb := fun i => match i with | 0 => (p.bu, p.ou) | _ => (p.ba, p.oa)
  fcap := fun i => match i with | 0 => p.cu | _ => p.ca
  fv := fun i => match i with | 0 => fun m => if m = p.i % p.lu then some (elK p.ek) else none | 1 => numV .u16 p.la p.A | _ => fun _ => none
abbrev txP (p : Pm) (k : Nat) : Txts (ivP p k) where
  str := fun _ => bytesI ((List.range p.ld).map p.D)
  tr := [(4, [.ostr 0, .ostr 0], .bool true)]
  trok := fun r hr => by
    simp only [List.mem_singleton] at hr
    subst hr
    exact tr4 rfl rfl (by simp)
abbrev R0 (p : Pm) (k : Nat) : Rw (ivP p k) (vvP p k) (vkP p k) (fgP p) (txP p k) where
  vvp := vvPp p k
abbrev T0 (p : Pm) (k : Nat) : Tab := (R0 p k).T
abbrev TP (p : Pm) : Tab := T0 p 0
/-- what is known -/
structure Ar (p : Pm) : Prop where
  a60 : p.la ≤ 60
  hA : ∀ m, 0 ≤ p.A m ∧ p.A m < 65536
  t0 : 2 ≤ p.tot
  t2 : p.tot ≤ 2048
  c0 : 1 ≤ p.cnt
  c2 : p.cnt ≤ 200
  d2 : p.ld ≤ 4096
  w0 : p.W 0 = 0#64
  s0 : p.S 0 = 0
  sm : ∀ m, m < p.cnt → p.S m < p.tot
  inc : ∀ m k, m < k → k < p.cnt → p.S m < p.S k
theorem wn_lo {s n k m : Nat} {f : Nat → Int} {Wo : Nat → BitVec 64} (h : m < s) : wn s n f Wo k m = Wo m := if_pos h
theorem wn_hi {s n k j : Nat} {f : Nat → Int} {Wo : Nat → BitVec 64} : wn s n f Wo k (s + j) = objW n f k j := by
  unfold wn
  rw [if_neg (by omega), show s + j - s = j by omega]
theorem wd_pos (n : Nat) : 3 ≤ wd n := by unfold wd; omega
theorem wd_k {n k : Nat} (h : k < n) : 3 + k / 4 < wd n := by unfold wd; omega
theorem wd_le {n : Nat} (h : n ≤ 60) : wd n ≤ 18 := by unfold wd; omega
theorem objW0 {n k : Nat} {f : Nat → Int} : wI (objW n f k 0) = 1 := rfl
theorem objW2 {n k : Nat} {f : Nat → Int} (h : n < 65536) : wI (objW n f k 2) = (n : Int) := by
  show ((BitVec.ofNat 64 n).toNat : Int) = n
  rw [BitVec.toNat_ofNat, Nat.mod_eq_of_lt (by omega)]
theorem objWc {n k j : Nat} {f : Nat → Int} (hj : j < k) (h0 : 0 ≤ f j) (h1 : f j < 65536) : IntKind.u16.wrap (wI (objW n f k (3 + j / 4) >>> (j % 4 * 2 * 8))) = f j := by
  have e : objW n f k (3 + j / 4) = putsTo 4 16 (fV f) k (j / 4) := by
    unfold objW
    rw [if_neg (by omega), if_neg (by omega), if_pos (by omega), show 3 + j / 4 - 3 = j / 4 by omega]
  rw [e, show j % 4 * 2 * 8 = j % 4 * 16 by omega]
  have h2 := low_mod (per := 4) (S := 16) (putsTo 4 16 (fV f) k) j
  rw [low_puts (by decide) (fV f) k j hj] at h2
  have h3 := setWidth_mod (S := 16) (by decide) (f j)
  unfold IntKind.wrap IntKind.bits IntKind.signed
  simp only [Bool.false_and]
  have h4 : (((fV f j).setWidth 16).toNat : Int) = f j % 2 ^ 16 := h3
  rw [h4] at h2
  have h5 : f j % 2 ^ 16 = f j := Int.emod_eq_of_lt h0 (by omega)
  rw [h5] at h2
  exact h2
theorem upTo_eq {f : Nat → Int} {k m : Nat} (h : m < k) : upTo f k m = f m := if_pos h
theorem upTo_ne {f : Nat → Int} {k m : Nat} (h : m ≠ k) : upTo f (k + 1) m = upTo f k m := by
  unfold upTo
  by_cases c : m < k
  · rw [if_pos c, if_pos (by omega)]
  · rw [if_neg c, if_neg (by omega)]
theorem objZ {n m : Nat} {f : Nat → Int} (h : m ≠ 2) (h0 : m ≠ 0) : objW n f 0 m = 0#64 := by
  unfold objW
  rw [if_neg h0, if_neg h]
  split
  · rfl
  · rfl
/-- words ahead of a text's chars, and with its length -/
theorem w0_ne (p : Pm) (m : Nat) (h : m ≠ p.tot + 2) : p.w 0 m = p.WY m := by
  show wn p.tot p.la p.A p.W 0 m = if m = p.tot then 1#64 else if m < p.tot then p.W m else 0#64
  by_cases c : m < p.tot
  · rw [wn_lo c, if_neg (by omega), if_pos c]
  · obtain ⟨j, rfl⟩ : ∃ j, m = p.tot + j := ⟨m - p.tot, by omega⟩
    rw [wn_hi]
    by_cases d : j = 0
    · subst d; rw [if_pos (show p.tot + 0 = p.tot by omega)]; rfl
    · rw [if_neg (by omega), if_neg c, objZ (by omega) d]
theorem w0_n (p : Pm) (h : p.la < 65536) (k : Nat) : wI (p.w k (p.tot + 2)) = (p.la : Int) := by
  show wI (wn p.tot p.la p.A p.W k (p.tot + 2)) = _
  rw [wn_hi]; exact objW2 h
theorem w_0 (p : Pm) (k : Nat) : wI (p.w k p.tot) = 1 := by
  show wI (wn p.tot p.la p.A p.W k (p.tot + 0)) = _
  rw [wn_hi]; exact objW0
theorem w_lo (p : Pm) (k : Nat) {m : Nat} (h : m < p.tot) : p.w k m = p.W m := wn_lo h
theorem w_c (p : Pm) (h : Ar p) {j : Nat} (hj : j < p.la) : IntKind.u16.wrap (wI (p.w p.la (p.tot + 3 + j / 4) >>> (j % 4 * 2 * 8))) = p.A j := by
  show IntKind.u16.wrap (wI (wn p.tot p.la p.A p.W p.la (p.tot + 3 + j / 4) >>> _)) = _
  rw [Nat.add_assoc, wn_hi]
  exact objWc hj (h.hA j).1 (h.hA j).2
theorem w_eq (p : Pm) (k : Nat) : p.w (k + 1) (p.tot + 3 + k / 4) = (p.w k (p.tot + 3 + k / 4) &&& ~~~msk 16 (k % 4 * 2 * 8)) ||| ((fV p.A k <<< (k % 4 * 2 * 8)) &&& msk 16 (k % 4 * 2 * 8)) := by
  show wn p.tot p.la p.A p.W (k + 1) (p.tot + 3 + k / 4) = (wn p.tot p.la p.A p.W k (p.tot + 3 + k / 4) &&& _) ||| _
  have e : ∀ j, objW p.la p.A j (3 + k / 4) = putsTo 4 16 (fV p.A) j (k / 4) := fun j => by
    unfold objW
    rw [if_neg (by omega), if_neg (by omega), if_pos (by omega), show 3 + k / 4 - 3 = k / 4 by omega]
  rw [Nat.add_assoc, wn_hi, wn_hi, e, e, show k % 4 * 2 * 8 = k % 4 * 16 by omega]
  show Go.X.upd 4 16 (putsTo 4 16 (fV p.A) k) k (fV p.A k) (k / 4) = _
  unfold Go.X.upd
  rw [if_pos rfl]
  rfl
theorem w_ne (p : Pm) (k m : Nat) (h : m ≠ p.tot + 3 + k / 4) : p.w (k + 1) m = p.w k m := by
  show wn p.tot p.la p.A p.W (k + 1) m = wn p.tot p.la p.A p.W k m
  by_cases c : m < p.tot
  · rw [wn_lo c, wn_lo c]
  · obtain ⟨j, rfl⟩ : ∃ j, m = p.tot + j := ⟨m - p.tot, by omega⟩
    rw [wn_hi, wn_hi]
    unfold objW
    by_cases c0 : j = 0
    · rw [if_pos c0, if_pos c0]
    · rw [if_neg c0, if_neg c0]
      by_cases c2 : j = 2
      · rw [if_pos c2, if_pos c2]
      · rw [if_neg c2, if_neg c2]
        by_cases c3 : 3 ≤ j
        · rw [if_pos c3, if_pos c3]
          show Go.X.upd 4 16 (putsTo 4 16 (fV p.A) k) k (fV p.A k) (j - 3) = _
          unfold Go.X.upd
          rw [if_neg (by omega)]
        · rw [if_neg c3, if_neg c3]
end Go.Proofs.YtkkaifeiopjjdaaGreatDoor.np
