/-
  The law NativeBuilder: texts in the words of the heap.
-/
import Derived.Test.YtkkaifeiopjjdaaGreatDoorXN4
import Derived.Test.YtkkaifeiopjjdaaGreatDoorXN3
import Derived.Test.YtkkaifeiopjjdaaGreatDoorProg
import Derived.KernelRfl
set_option linter.unusedVariables false
set_option linter.unusedSimpArgs false
set_option linter.unusedSectionVars false
set_option maxRecDepth 1000000
set_option maxHeartbeats 0
namespace Go.Proofs.YtkkaifeiopjjdaaGreatDoor.bd
open Go.X Go.RowKit Go.Proofs
theorem mixed : Tryz.prog.follows .mixedOrders = true := by kernel_rfl
noncomputable def codeOf (f : Func) : Code := f.body.getD .skip
noncomputable def hd : Code → Code
  | .seq a _ => a
  | c => c
noncomputable def tl : Code → Code
  | .seq _ b => b
  | c => c
noncomputable def lpIn : Code → Code
  | .block _ (.loop c) => c
  | _ => .skip
noncomputable def cIn : Code → Code
  | .seq (.seq _ (.cond _ x _)) _ => x
  | _ => .skip
/-- chars as words -/
def fV (f : Nat → Int) (j : Nat) : BitVec 64 := BitVec.ofInt 64 (f j)
/-- how many words a text of n chars takes -/
def wd (n : Nat) : Nat := 3 + (n * 2 + 7) / 8
/-- the words of a text of n chars when k of them are in it; texts have the shape 1 -/
def objW (n : Nat) (f : Nat → Int) (k : Nat) : Nat → BitVec 64 := fun q => if q = 0 then 1#64 else if q = 2 then BitVec.ofNat 64 n else if 3 ≤ q then putsTo 4 16 (fV f) k (q - 3) else 0#64
/-- such a text behind other words -/
def wn (s n : Nat) (f : Nat → Int) (Wo : Nat → BitVec 64) (k : Nat) : Nat → BitVec 64 := fun m => if m < s then Wo m else objW n f k (m - s)
/-- a text that is made: its chars, the words and the starts ahead of it -/
structure Tx where
  la : Nat
  A : Nat → Int
  tot : Nat
  W : Nat → BitVec 64
  cnt : Nat
  S : Nat → Int
def Tx.t1 (p : Tx) : Nat := p.tot + wd p.la
def Tx.w (p : Tx) (k : Nat) : Nat → BitVec 64 := wn p.tot p.la p.A p.W k
def Tx.WZ (p : Tx) : Nat → BitVec 64 := fun m => if m < p.tot then p.W m else 0#64
def Tx.WY (p : Tx) : Nat → BitVec 64 := fun m => if m = p.tot then 1#64 else p.WZ m
def Tx.S1 (p : Tx) : Nat → Int := fun m => if m < p.cnt then p.S m else (p.tot : Int)
def cat (n : Nat) (f g : Nat → Int) : Nat → Int := fun m => if m < n then f m else g (m - n)
def upTo (f : Nat → Int) (k : Nat) : Nat → Int := fun m => if m < k then f m else 0
theorem numP {K : IntKind} {n : Nat} {e : Nat → Int} {m : Nat} {a : AV} (h : numV K n e m = some a) : vplain a = true := by
  obtain ⟨_, rfl⟩ := numV_some h; rfl
structure TxOk (p : Tx) : Prop where
  a7 : p.la ≤ 700
  hA : ∀ m, 0 ≤ p.A m ∧ p.A m < 65536
  t0 : 3 ≤ p.tot
  t2 : p.t1 ≤ 2048
  c0 : 1 ≤ p.cnt
  c2 : p.cnt ≤ 60
  s0 : p.S 0 = 0
  sm : ∀ m, m < p.cnt → p.S m < p.tot
  inc : ∀ m k, m < k → k < p.cnt → p.S m < p.S k
theorem wn_lo {s n k m : Nat} {f : Nat → Int} {Wo : Nat → BitVec 64} (h : m < s) : wn s n f Wo k m = Wo m := if_pos h
theorem wn_hi {s n k j : Nat} {f : Nat → Int} {Wo : Nat → BitVec 64} : wn s n f Wo k (s + j) = objW n f k j := by
  unfold wn
  rw [if_neg (by omega), show s + j - s = j by omega]
theorem wd_pos (n : Nat) : 3 ≤ wd n := by unfold wd; omega
theorem wd_k {n k : Nat} (h : k < n) : 3 + k / 4 < wd n := by unfold wd; omega
theorem objW0 {n k : Nat} {f : Nat → Int} : wI (objW n f k 0) = 1 := rfl
theorem objW2 {n k : Nat} {f : Nat → Int} (h : n < 65536) : wI (objW n f k 2) = (n : Int) := by
  show ((BitVec.ofNat 64 n).toNat : Int) = n
  rw [BitVec.toNat_ofNat, Nat.mod_eq_of_lt (by omega)]
theorem objWc {n k j : Nat} {f : Nat → Int} (hj : j < k) (h0 : 0 ≤ f j) (h1 : f j < 65536) : IntKind.u16.wrap (wI (objW n f k (3 + j / 4) >>> (j % 4 * 2 * 8))) = f j := by
  have e : objW n f k (3 + j / 4) = putsTo 4 16 (fV f) k (j / 4) := by
    unfold objW
    rw [if_neg (by omega), if_neg (by omega), if_pos (by omega), show 3 + j / 4 - 3 = j / 4 by omega]
  rw [e, show j % 4 * 2 * 8 = j % 4 * 16 by omega]
  have h2 := low_mod (per := 4) (S := 16) (putsTo 4 16 (fV f) k) j
  rw [low_puts (by decide) (fV f) k j hj] at h2
  have h3 := setWidth_mod (S := 16) (by decide) (f j)
  unfold IntKind.wrap IntKind.bits IntKind.signed
  simp only [Bool.false_and]
  have h4 : (((fV f j).setWidth 16).toNat : Int) = f j % 2 ^ 16 := h3
  rw [h4] at h2
  have h5 : f j % 2 ^ 16 = f j := Int.emod_eq_of_lt h0 (by omega)
  rw [h5] at h2
  exact h2
theorem upTo_eq {f : Nat → Int} {k m : Nat} (h : m < k) : upTo f k m = f m := if_pos h
theorem upTo_ne {f : Nat → Int} {k m : Nat} (h : m ≠ k) : upTo f (k + 1) m = upTo f k m := by
  unfold upTo
  by_cases c : m < k
  · rw [if_pos c, if_pos (by omega)]
  · rw [if_neg c, if_neg (by omega)]
theorem objZ {n m : Nat} {f : Nat → Int} (h : m ≠ 2) (h0 : m ≠ 0) : objW n f 0 m = 0#64 := by
  unfold objW
  rw [if_neg h0, if_neg h]
  split
  · rfl
  · rfl
/-- words ahead of a text's chars, and with its length -/
theorem w0_ne (p : Tx) (m : Nat) (h : m ≠ p.tot + 2) : p.w 0 m = p.WY m := by
  show wn p.tot p.la p.A p.W 0 m = if m = p.tot then 1#64 else if m < p.tot then p.W m else 0#64
  by_cases c : m < p.tot
  · rw [wn_lo c, if_neg (by omega), if_pos c]
  · obtain ⟨j, rfl⟩ : ∃ j, m = p.tot + j := ⟨m - p.tot, by omega⟩
    rw [wn_hi]
    by_cases d : j = 0
    · subst d; rw [if_pos (show p.tot + 0 = p.tot by omega)]; rfl
    · rw [if_neg (by omega), if_neg c, objZ (by omega) d]
theorem w0_n (p : Tx) (h : p.la < 65536) (k : Nat) : wI (p.w k (p.tot + 2)) = (p.la : Int) := by
  show wI (wn p.tot p.la p.A p.W k (p.tot + 2)) = _
  rw [wn_hi]; exact objW2 h
theorem w_0 (p : Tx) (k : Nat) : wI (p.w k p.tot) = 1 := by
  show wI (wn p.tot p.la p.A p.W k (p.tot + 0)) = _
  rw [wn_hi]; exact objW0
theorem w_lo (p : Tx) (k : Nat) {m : Nat} (h : m < p.tot) : p.w k m = p.W m := wn_lo h
theorem w_c (p : Tx) (h : TxOk p) {j : Nat} (hj : j < p.la) : IntKind.u16.wrap (wI (p.w p.la (p.tot + 3 + j / 4) >>> (j % 4 * 2 * 8))) = p.A j := by
  show IntKind.u16.wrap (wI (wn p.tot p.la p.A p.W p.la (p.tot + 3 + j / 4) >>> _)) = _
  rw [Nat.add_assoc, wn_hi]
  exact objWc hj (h.hA j).1 (h.hA j).2
theorem w_eq (p : Tx) (k : Nat) : p.w (k + 1) (p.tot + 3 + k / 4) = (p.w k (p.tot + 3 + k / 4) &&& ~~~msk 16 (k % 4 * 2 * 8)) ||| ((fV p.A k <<< (k % 4 * 2 * 8)) &&& msk 16 (k % 4 * 2 * 8)) := by
  show wn p.tot p.la p.A p.W (k + 1) (p.tot + 3 + k / 4) = (wn p.tot p.la p.A p.W k (p.tot + 3 + k / 4) &&& _) ||| _
  have e : ∀ j, objW p.la p.A j (3 + k / 4) = putsTo 4 16 (fV p.A) j (k / 4) := fun j => by
    unfold objW
    rw [if_neg (by omega), if_neg (by omega), if_pos (by omega), show 3 + k / 4 - 3 = k / 4 by omega]
  rw [Nat.add_assoc, wn_hi, wn_hi, e, e, show k % 4 * 2 * 8 = k % 4 * 16 by omega]
  show Go.X.upd 4 16 (putsTo 4 16 (fV p.A) k) k (fV p.A k) (k / 4) = _
  unfold Go.X.upd
  rw [if_pos rfl]
  rfl
theorem w_ne (p : Tx) (k m : Nat) (h : m ≠ p.tot + 3 + k / 4) : p.w (k + 1) m = p.w k m := by
  show wn p.tot p.la p.A p.W (k + 1) m = wn p.tot p.la p.A p.W k m
  by_cases c : m < p.tot
  · rw [wn_lo c, wn_lo c]
  · obtain ⟨j, rfl⟩ : ∃ j, m = p.tot + j := ⟨m - p.tot, by omega⟩
    rw [wn_hi, wn_hi]
    unfold objW
    by_cases c0 : j = 0
    · rw [if_pos c0, if_pos c0]
    · rw [if_neg c0, if_neg c0]
      by_cases c2 : j = 2
      · rw [if_pos c2, if_pos c2]
      · rw [if_neg c2, if_neg c2]
        by_cases c3 : 3 ≤ j
        · rw [if_pos c3, if_pos c3]
          show Go.X.upd 4 16 (putsTo 4 16 (fV p.A) k) k (fV p.A k) (j - 3) = _
          unfold Go.X.upd
          rw [if_neg (by omega)]
        · rw [if_neg c3, if_neg c3]
theorem t1_gt (p : Tx) : p.tot + 3 ≤ p.t1 := by have := wd_pos p.la; unfold Tx.t1; omega
theorem S1_tot (p : Tx) : p.S1 p.cnt = (p.tot : Int) := if_neg (Nat.lt_irrefl _)
theorem S1_0 {p : Tx} (h : TxOk p) : p.S1 0 = 0 := by
  show (if 0 < p.cnt then p.S 0 else _) = _
  rw [if_pos (by have := h.c0; omega)]; exact h.s0
theorem S1_lo {p : Tx} {m : Nat} (h : m < p.cnt) : p.S1 m = p.S m := if_pos h
theorem S1_inc {p : Tx} (h : TxOk p) : ∀ m k, m < k → k < p.cnt + 1 → p.S1 m < p.S1 k := fun m k h1 h2 => by
  show (if m < p.cnt then p.S m else _) < (if k < p.cnt then p.S k else _)
  rw [if_pos (by omega)]
  split
  · exact h.inc m k h1 (by omega)
  · exact h.sm m (by omega)
theorem S1_lt {p : Tx} (h : TxOk p) : ∀ m, m < p.cnt + 1 → p.S1 m < (p.t1 : Int) := fun m hm => by
  have h1 := t1_gt p
  show (if m < p.cnt then p.S m else _) < _
  split
  · have := h.sm m (by assumption); omega
  · omega
theorem t1z {p : Tx} (hz : p.la = 0) : p.t1 = p.tot + 3 := by unfold Tx.t1; rw [hz]; rfl
theorem wz {p : Tx} (hz : p.la = 0) (m : Nat) (h : m ≠ p.tot) : p.w p.la m = p.WZ m := by
  show wn p.tot p.la p.A p.W p.la m = if m < p.tot then p.W m else 0#64
  rw [hz]
  by_cases c : m < p.tot
  · rw [wn_lo c, if_pos c]
  · obtain ⟨j, rfl⟩ : ∃ j, m = p.tot + j := ⟨m - p.tot, by omega⟩
    rw [wn_hi, if_neg c]
    unfold objW
    rw [if_neg (by omega)]
    split
    · rfl
    · split <;> rfl
/-- a text that stands in words: its place, its length, its chars -/
structure At (W : Nat → BitVec 64) (s n : Nat) (F : Nat → Int) : Prop where
  sh : wI (W s) = 1
  ln : wI (W (s + 2)) = (n : Int)
  ch : ∀ j, j < n → IntKind.u16.wrap (wI (W (s + 3 + j / 4) >>> (j % 4 * 2 * 8))) = F j
/-- the text just made stands there -/
theorem at_new {p : Tx} (h : TxOk p) : At (p.w p.la) p.tot p.la p.A := ⟨w_0 p _, w0_n p (by have := h.a7; omega) _, fun j hj => w_c p h hj⟩
/-- what stood there still stands there -/
theorem At.keep {p : Tx} {s n : Nat} {F : Nat → Int} (h : At p.W s n F) (hs : s + wd n ≤ p.tot) (k : Nat) : At (p.w k) s n F := by
  have h1 := wd_pos n
  refine ⟨by rw [w_lo p k (by omega)]; exact h.sh, by rw [w_lo p k (by omega)]; exact h.ln, fun j hj => ?_⟩
  have := wd_k hj
  rw [w_lo p k (by omega)]; exact h.ch j hj
/-- a field of the first object changes -/
theorem At.put {W : Nat → BitVec 64} {s n : Nat} {F : Nat → Int} {v : BitVec 64} (h : At W s n F) (hs : 3 ≤ s) : At (fun m => if m = 2 then v else W m) s n F :=
  ⟨by show wI (if s = 2 then v else W s) = 1; rw [if_neg (by omega)]; exact h.sh, by show wI (if s + 2 = 2 then v else W (s + 2)) = _; rw [if_neg (by omega)]; exact h.ln, fun j hj => by
    show IntKind.u16.wrap (wI ((if s + 3 + j / 4 = 2 then v else W (s + 3 + j / 4)) >>> _)) = _
    rw [if_neg (by omega)]; exact h.ch j hj⟩
end Go.Proofs.YtkkaifeiopjjdaaGreatDoor.bd
