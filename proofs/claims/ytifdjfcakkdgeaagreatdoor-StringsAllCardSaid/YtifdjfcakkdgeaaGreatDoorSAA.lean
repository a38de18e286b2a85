/-
  The law StringsAll: what is there by name, tables, what the words hold.
-/
import Derived.Test.YtifdjfcakkdgeaaGreatDoorXN4
import Derived.Test.YtifdjfcakkdgeaaGreatDoorXN3
import Derived.Test.YtifdjfcakkdgeaaGreatDoorProg
import Derived.KernelRfl
set_option linter.unusedVariables false
set_option linter.unusedSimpArgs false
set_option linter.unusedSectionVars false
set_option maxRecDepth 1000000
set_option maxHeartbeats 0
namespace Go.Proofs.YtifdjfcakkdgeaaGreatDoor.sa
open Go.X Go.RowKit Go.Proofs
theorem mixed : Tryz.prog.follows .mixedOrders = true := by kernel_rfl
noncomputable def codeOf (f : Func) : Code := f.body.getD .skip
noncomputable def hd : Code → Code
  | .seq a _ => a
  | c => c
noncomputable def tl : Code → Code
  | .seq _ b => b
  | c => c
noncomputable def lpIn : Code → Code
  | .block _ (.loop c) => c
  | _ => .skip
noncomputable def cIn : Code → Code
  | .seq (.seq _ (.cond _ x _)) _ => x
  | _ => .skip
/-- modified UTF-8 -/
def encC (c : Int) : List Int := if 0 < c ∧ c < 128 then [c] else if c < 2048 then [192 + c / 64, 128 + c % 64] else [224 + c / 4096, 128 + c / 64 % 64, 128 + c % 64]
def encL (f : Nat → Int) : Nat → List Int
  | 0 => []
  | k + 1 => encL f k ++ encC (f k)
/-- a text's key -/
def key (f : Nat → Int) (n : Nat) : ByteArray := bytesI (encL f n)
/-- chars as words -/
def fV (f : Nat → Int) (j : Nat) : BitVec 64 := BitVec.ofInt 64 (f j)
/-- how many words a text of n chars takes -/
def wd (n : Nat) : Nat := 3 + (n * 2 + 7) / 8
/-- the words of a text of n chars when k of them are in it; texts have the shape 0 -/
def objW (n : Nat) (f : Nat → Int) (k : Nat) : Nat → BitVec 64 := fun q => if q = 2 then BitVec.ofNat 64 n else if 3 ≤ q then putsTo 4 16 (fV f) k (q - 3) else 0#64
/-- such a text behind other words -/
def wn (s n : Nat) (f : Nat → Int) (Wo : Nat → BitVec 64) (k : Nat) : Nat → BitVec 64 := fun m => if m < s then Wo m else objW n f k (m - s)
/-- what an element of the slice of texts is: a slice (of at most 40 chars, of more), nil, an empty slice; what it is when it is cut -/
def elK : Nat → AV
  | 0 => .fo 1 0 1
  | 1 => .fo 1 19 1
  | 2 => .nils
  | _ => .es
def cuK : Nat → AV
  | 0 => .fo 1 0 1
  | 1 => .fo 1 0 1
  | 2 => .nils
  | _ => .es
/-- such an element: its kind, its length when it is cut, its length, its chars, where it lies, its value -/
structure El where
  ek : Nat
  la : Nat
  fa : Nat
  A : Nat → Int
  ba : Nat
  oa : Nat
  ca : Nat
  v : Value
/-- its value when it is cut -/
def El.cv (e : El) : Value := if e.ek = 1 then .slice (some ⟨e.ba, e.oa, none⟩) e.la e.ca else e.v
structure Pm where
  ek : Nat
  la : Nat
  fa : Nat
  A : Nat → Int
  ba : Nat
  oa : Nat
  ca : Nat
  v : Value
  tot : Nat
  W : Nat → BitVec 64
  cnt : Nat
  S : Nat → Int
  i : Nat
  lu : Nat
  bu : Nat
  ou : Nat
  cu : Nat
  lim : Int
  q : Nat → El
  adr : Nat → Nat
def Pm.e (p : Pm) : El := ⟨p.ek, p.la, p.fa, p.A, p.ba, p.oa, p.ca, p.v⟩
def Pm.t1 (p : Pm) : Nat := p.tot + wd p.la
/-- all words when k chars are written -/
def Pm.w (p : Pm) (k : Nat) : Nat → BitVec 64 := wn p.tot p.la p.A p.W k
def Pm.WZ (p : Pm) : Nat → BitVec 64 := fun m => if m < p.tot then p.W m else 0#64
def Pm.WY (p : Pm) : Nat → BitVec 64 := p.WZ
def Pm.S1 (p : Pm) : Nat → Int := fun m => if m < p.cnt then p.S m else (p.tot : Int)
/-- chars that are read, so many of them -/
def upTo (f : Nat → Int) (k : Nat) : Nat → Int := fun m => if m < k then f m else 0
abbrev ivP (p : Pm) (k : Nat) : Nat → IntKind × Int
  | 0 => (.i64, (p.la : Int))
  | 1 => (.i64, (p.tot : Int))
  | 2 => (.i64, (p.cnt : Int))
  | 3 => (.i64, (p.t1 : Int))
  | 4 => (.i64, ((p.tot + 1 : Nat) : Int))
  | 5 => (.i64, ((wd p.la : Nat) : Int))
  | 6 => (.i64, ((2048 - p.tot : Nat) : Int))
  | 7 => (.i64, ((p.cnt + 1 : Nat) : Int))
  | 8 => (.i64, ((p.la * 2 : Nat) : Int))
  | 9 => (.i64, ((p.la * 2 + 8 : Nat) : Int))
  | 10 => (.i64, ((p.la * 2 + 7 : Nat) : Int))
  | 11 => (.i64, (((p.la * 2 + 7) / 8 : Nat) : Int))
  | 12 => (.i64, ((p.tot + 2 : Nat) : Int))
  | 13 => (.u64, (p.la : Int))
  | 14 => (.i64, (p.i : Int))
  | 15 => (.i64, (p.lu : Int))
  | 18 => (.i64, ((p.i + 1 : Nat) : Int))
  | 19 => (.i64, (p.fa : Int))
  | 30 => (.i64, p.lim)
  | 40 => (.i64, (k : Int))
  | 41 => (.i64, ((k + 1 : Nat) : Int))
  | 44 => (.i64, ((k / 4 : Nat) : Int))
  | 46 => (.i64, ((p.tot + 3 : Nat) : Int))
  | 47 => (.i64, ((p.tot + 3 + k / 4 : Nat) : Int))
  | 48 => (.i64, ((k % 4 : Nat) : Int))
  | 49 => (.i64, ((k % 4 * 2 : Nat) : Int))
  | 50 => (.i64, ((k % 4 * 2 * 8 : Nat) : Int))
  | 51 => (.u64, wI (p.w p.la (p.tot + 3 + k / 4)))
  | 52 => (.u64, wI (p.w p.la (p.tot + 3 + k / 4) >>> (k % 4 * 2 * 8)))
  | 53 => (.u16, p.A k)
  | 55 => (.u64, wI (p.w k (p.tot + 3 + k / 4)))
  | 56 => (.u64, wI (msk 16 (k % 4 * 2 * 8)))
  | 57 => (.u64, wI (p.w k (p.tot + 3 + k / 4) &&& ~~~msk 16 (k % 4 * 2 * 8)))
  | 59 => (.i64, p.A k)
  | 60 => (.u64, wI (fV p.A k))
  | 61 => (.u64, wI (fV p.A k <<< (k % 4 * 2 * 8)))
  | 62 => (.u64, wI ((fV p.A k <<< (k % 4 * 2 * 8)) &&& msk 16 (k % 4 * 2 * 8)))
  | 63 => (.u64, wI ((p.w k (p.tot + 3 + k / 4) &&& ~~~msk 16 (k % 4 * 2 * 8)) ||| ((fV p.A k <<< (k % 4 * 2 * 8)) &&& msk 16 (k % 4 * 2 * 8))))
  | 96 => (.i64, ((2 : Nat) : Int))
  | 97 => (.i64, ((0 : Nat) : Int))
  | n => if 200 ≤ n then (.i64, ((p.adr (n - 200) : Nat) : Int)) else (.i64, 0)
/-- the words with an object of the shape 1 behind them -/
def Pm.WO (p : Pm) : Nat → BitVec 64 := fun m => if m = p.tot then 1#64 else p.WZ m
abbrev vvP (p : Pm) (k : Nat) : Nat → Nat → Option AV
  | 0 => numV .u64 p.tot (fun m => wI (p.W m))
  | 1 => numV .i64 p.cnt p.S
  | 3 => numV .u64 p.t1 (fun m => wI (p.w p.la m))
  | 4 => numV .i64 (p.cnt + 1) p.S1
  | 5 => numV .u16 p.la p.A
  | 10 => numV .u64 p.t1 (fun m => wI (p.w k m))
  | 11 => numV .u64 p.t1 (fun m => wI (p.w (k + 1) m))
  | 12 => numV .u16 p.la (upTo p.A k)
  | 13 => numV .u16 p.la (upTo p.A (k + 1))
  | 20 => numV .u16 p.la (fun _ => 0)
  | 26 => numV .u64 p.t1 (fun m => wI (p.WZ m))
  | 27 => numV .u64 p.t1 (fun m => wI (p.WY m))
  | 28 => numV .u64 p.t1 (fun m => wI (p.w 0 m))
  | 80 => numV .u64 (p.tot + 2) (fun m => wI (p.WZ m))
  | 81 => numV .u64 (p.tot + 2) (fun m => wI (p.WO m))
  | _ => fun _ => none
abbrev vkP (p : Pm) (k : Nat) : Nat → Nat
  | 0 => p.tot
  | 1 => p.cnt
  | 3 => p.t1
  | 4 => p.cnt + 1
  | 5 => p.la
  | 10 => p.t1
  | 11 => p.t1
  | 12 => p.la
  | 13 => p.la
  | 20 => p.la
  | 26 => p.t1
  | 27 => p.t1
  | 28 => p.t1
  | 80 => p.tot + 2
  | 81 => p.tot + 2
  | _ => 0
theorem numP {K : IntKind} {n : Nat} {e : Nat → Int} {m : Nat} {a : AV} (h : numV K n e m = some a) : vplain a = true := by
  obtain ⟨_, rfl⟩ := numV_some h; rfl
theorem vvPp (p : Pm) (k : Nat) : ∀ i m a, vvP p k i m = some a → vplain a = true := fun i m a h => by
  unfold vvP at h
  split at h <;> first | exact numP h | cases h
/-- what is foreign: the slice of texts (0), of which one is looked at, that one (1), the texts that are interned (10 and on) -/
abbrev fgP (p : Pm) : Fgn where
  fb := fun i => match i with | 0 => (p.bu, p.ou) | 1 => (p.ba, p.oa) | i => ((p.q (i - 10)).ba, (p.q (i - 10)).oa)
  fcap := fun i => match i with | 0 => p.cu | 1 => p.ca | i => (p.q (i - 10)).ca
  fv := fun i => match i with | 0 => fun m => if m = p.i ∧ p.i < p.lu then some (.rw 0) else none | 1 => numV .u16 p.la p.A | i => numV .u16 (p.q (i - 10)).la (p.q (i - 10)).A
/-- values that are known by name alone: the element, the element that is cut, the texts that are interned -/
def rvP (p : Pm) : Nat → Value := fun i => if i = 0 then p.v else if i = 1 then p.e.cv else (p.q (i - 300)).cv
/-- a text's key -/
def keyE (e : El) : ByteArray := key e.A e.la
abbrev stP (p : Pm) : Nat → ByteArray := fun i => if i = 99 then keyE p.e else keyE (p.q i)
abbrev txP (p : Pm) (k : Nat) : Txts (ivP p k) where
  str := stP p
abbrev R0 (p : Pm) (k : Nat) : Rw (ivP p k) (vvP p k) (vkP p k) (fgP p) (txP p k) where
  vvp := vvPp p k
/-- a table that knows of the hidden values -/
noncomputable abbrev Pt (p : Pm) {iv : Nat → IntKind × Int} {vv : Nat → Nat → Option AV} {vk : Nat → Nat} {F : Fgn} {X : Txts iv} (R : Rw iv vv vk F X) : Tab := { R.T with rv := rvP p, rl := [], rlok := fun _ h => nomatch h }
theorem Pt.same {p : Pm} {iv : Nat → IntKind × Int} {vv : Nat → Nat → Option AV} {vk : Nat → Nat} {F : Fgn} {X X' : Txts iv} (R : Rw iv vv vk F X) (R' : Rw iv vv vk F X') (h : X.str = X'.str := by exact rfl) : SameTab (Pt p R) (Pt p R') := ⟨rfl, rfl, h, rfl, rfl, rfl, rfl, rfl, rfl⟩
noncomputable abbrev T0 (p : Pm) (k : Nat) : Tab := Pt p (R0 p k)
noncomputable abbrev TP (p : Pm) : Tab := T0 p 0
/-- what is known -/
structure Ar (p : Pm) : Prop where
  a60 : p.la ≤ 40
  hA : ∀ m, 0 ≤ p.A m ∧ p.A m < 65536
  t2 : p.tot ≤ 400
  c2 : p.cnt ≤ 20
  ct : p.cnt = 0 ↔ p.tot = 0
  s0 : 0 < p.cnt → p.S 0 = 0
  sm : ∀ m, m < p.cnt → p.S m < p.tot
  inc : ∀ m k, m < k → k < p.cnt → p.S m < p.S k
theorem wn_lo {s n k m : Nat} {f : Nat → Int} {Wo : Nat → BitVec 64} (h : m < s) : wn s n f Wo k m = Wo m := if_pos h
theorem wn_hi {s n k j : Nat} {f : Nat → Int} {Wo : Nat → BitVec 64} : wn s n f Wo k (s + j) = objW n f k j := by
  unfold wn
  rw [if_neg (by omega), show s + j - s = j by omega]
theorem wd_pos (n : Nat) : 3 ≤ wd n := by unfold wd; omega
theorem wd_k {n k : Nat} (h : k < n) : 3 + k / 4 < wd n := by unfold wd; omega
theorem wd_le {n : Nat} (h : n ≤ 40) : wd n ≤ 13 := by unfold wd; omega
theorem objW0 {n k : Nat} {f : Nat → Int} : wI (objW n f k 0) = 0 := rfl
theorem objW2 {n k : Nat} {f : Nat → Int} (h : n < 65536) : wI (objW n f k 2) = (n : Int) := by
  show ((BitVec.ofNat 64 n).toNat : Int) = n
  rw [BitVec.toNat_ofNat, Nat.mod_eq_of_lt (by omega)]
theorem objWc {n k j : Nat} {f : Nat → Int} (hj : j < k) (h0 : 0 ≤ f j) (h1 : f j < 65536) : IntKind.u16.wrap (wI (objW n f k (3 + j / 4) >>> (j % 4 * 2 * 8))) = f j := by
  have e : objW n f k (3 + j / 4) = putsTo 4 16 (fV f) k (j / 4) := by
    unfold objW
    rw [if_neg (by omega), if_pos (by omega), show 3 + j / 4 - 3 = j / 4 by omega]
  rw [e, show j % 4 * 2 * 8 = j % 4 * 16 by omega]
  have h2 := low_mod (per := 4) (S := 16) (putsTo 4 16 (fV f) k) j
  rw [low_puts (by decide) (fV f) k j hj] at h2
  have h3 := setWidth_mod (S := 16) (by decide) (f j)
  unfold IntKind.wrap IntKind.bits IntKind.signed
  simp only [Bool.false_and]
  have h4 : (((fV f j).setWidth 16).toNat : Int) = f j % 2 ^ 16 := h3
  rw [h4] at h2
  have h5 : f j % 2 ^ 16 = f j := Int.emod_eq_of_lt h0 (by omega)
  rw [h5] at h2
  exact h2
theorem upTo_eq {f : Nat → Int} {k m : Nat} (h : m < k) : upTo f k m = f m := if_pos h
theorem upTo_ne {f : Nat → Int} {k m : Nat} (h : m ≠ k) : upTo f (k + 1) m = upTo f k m := by
  unfold upTo
  by_cases c : m < k
  · rw [if_pos c, if_pos (by omega)]
  · rw [if_neg c, if_neg (by omega)]
theorem objZ {n m : Nat} {f : Nat → Int} (h : m ≠ 2) : objW n f 0 m = 0#64 := by
  unfold objW
  rw [if_neg h]
  split
  · rfl
  · rfl
/-- words ahead of a text's chars, and with its length -/
theorem w0_ne (p : Pm) (m : Nat) (h : m ≠ p.tot + 2) : p.w 0 m = p.WY m := by
  show wn p.tot p.la p.A p.W 0 m = if m < p.tot then p.W m else 0#64
  by_cases c : m < p.tot
  · rw [wn_lo c, if_pos c]
  · obtain ⟨j, rfl⟩ : ∃ j, m = p.tot + j := ⟨m - p.tot, by omega⟩
    rw [wn_hi, if_neg c, objZ (by omega)]
theorem w0_n (p : Pm) (h : p.la < 65536) (k : Nat) : wI (p.w k (p.tot + 2)) = (p.la : Int) := by
  show wI (wn p.tot p.la p.A p.W k (p.tot + 2)) = _
  rw [wn_hi]; exact objW2 h
theorem w_0 (p : Pm) (k : Nat) : wI (p.w k p.tot) = 0 := by
  show wI (wn p.tot p.la p.A p.W k (p.tot + 0)) = _
  rw [wn_hi]; exact objW0
theorem w_lo (p : Pm) (k : Nat) {m : Nat} (h : m < p.tot) : p.w k m = p.W m := wn_lo h
theorem w_c (p : Pm) (h : Ar p) {j : Nat} (hj : j < p.la) : IntKind.u16.wrap (wI (p.w p.la (p.tot + 3 + j / 4) >>> (j % 4 * 2 * 8))) = p.A j := by
  show IntKind.u16.wrap (wI (wn p.tot p.la p.A p.W p.la (p.tot + 3 + j / 4) >>> _)) = _
  rw [Nat.add_assoc, wn_hi]
  exact objWc hj (h.hA j).1 (h.hA j).2
theorem w_eq (p : Pm) (k : Nat) : p.w (k + 1) (p.tot + 3 + k / 4) = (p.w k (p.tot + 3 + k / 4) &&& ~~~msk 16 (k % 4 * 2 * 8)) ||| ((fV p.A k <<< (k % 4 * 2 * 8)) &&& msk 16 (k % 4 * 2 * 8)) := by
  show wn p.tot p.la p.A p.W (k + 1) (p.tot + 3 + k / 4) = (wn p.tot p.la p.A p.W k (p.tot + 3 + k / 4) &&& _) ||| _
  have e : ∀ j, objW p.la p.A j (3 + k / 4) = putsTo 4 16 (fV p.A) j (k / 4) := fun j => by
    unfold objW
    rw [if_neg (by omega), if_pos (by omega), show 3 + k / 4 - 3 = k / 4 by omega]
  rw [Nat.add_assoc, wn_hi, wn_hi, e, e, show k % 4 * 2 * 8 = k % 4 * 16 by omega]
  show Go.X.upd 4 16 (putsTo 4 16 (fV p.A) k) k (fV p.A k) (k / 4) = _
  unfold Go.X.upd
  rw [if_pos rfl]
  rfl
theorem w_ne (p : Pm) (k m : Nat) (h : m ≠ p.tot + 3 + k / 4) : p.w (k + 1) m = p.w k m := by
  show wn p.tot p.la p.A p.W (k + 1) m = wn p.tot p.la p.A p.W k m
  by_cases c : m < p.tot
  · rw [wn_lo c, wn_lo c]
  · obtain ⟨j, rfl⟩ : ∃ j, m = p.tot + j := ⟨m - p.tot, by omega⟩
    rw [wn_hi, wn_hi]
    unfold objW
    by_cases c2 : j = 2
    · rw [if_pos c2, if_pos c2]
    · rw [if_neg c2, if_neg c2]
      by_cases c3 : 3 ≤ j
      · rw [if_pos c3, if_pos c3]
        show Go.X.upd 4 16 (putsTo 4 16 (fV p.A) k) k (fV p.A k) (j - 3) = _
        unfold Go.X.upd
        rw [if_neg (by omega)]
      · rw [if_neg c3, if_neg c3]
end Go.Proofs.YtifdjfcakkdgeaaGreatDoor.sa
