/-
  The law NativeString: what is there by name, tables, states.
-/
import Derived.Test.YtkkaifeiopjjdaaGreatDoorXN4
import Derived.Test.YtkkaifeiopjjdaaGreatDoorXN3
import Derived.Test.YtkkaifeiopjjdaaGreatDoorProg
import Derived.KernelRfl
set_option linter.unusedVariables false
set_option linter.unusedSimpArgs false
set_option linter.unusedSectionVars false
set_option maxRecDepth 1000000
set_option maxHeartbeats 0
namespace Go.Proofs.YtkkaifeiopjjdaaGreatDoor.ns
open Go.X Go.RowKit Go.Proofs
theorem mixed : Tryz.prog.follows .mixedOrders = true := by kernel_rfl
noncomputable def codeOf (f : Func) : Code := f.body.getD .skip
noncomputable def hd : Code → Code
  | .seq a _ => a
  | c => c
noncomputable def tl : Code → Code
  | .seq _ b => b
  | c => c
noncomputable def lpIn : Code → Code
  | .block _ (.loop c) => c
  | _ => .skip
/-- chars as words -/
def fV (f : Nat → Int) (j : Nat) : BitVec 64 := BitVec.ofInt 64 (f j)
/-- how many words a text of n chars takes -/
def wd (n : Nat) : Nat := 3 + (n * 2 + 7) / 8
/-- the words of a text of n chars when k of them are in it -/
def objW (n : Nat) (f : Nat → Int) (k : Nat) : Nat → BitVec 64 := fun q => if q = 2 then BitVec.ofNat 64 n else if 3 ≤ q then putsTo 4 16 (fV f) k (q - 3) else 0#64
/-- such a text behind other words -/
def wn (s n : Nat) (f : Nat → Int) (Wo : Nat → BitVec 64) (k : Nat) : Nat → BitVec 64 := fun m => if m < s then Wo m else objW n f k (m - s)
structure Pm where
  la : Nat
  lb : Nat
  ix : Int
  A : Nat → Int
  B : Nat → Int
  ba : Nat
  oa : Nat
  ca : Nat
  bb : Nat
  ob : Nat
  cb : Nat
  fa : Nat
  fb : Nat
def Pm.C (p : Pm) (m : Nat) : Int := if m < p.la then p.A m else p.B (m - p.la)
def Pm.lc (p : Pm) : Nat := p.la + p.lb
def Pm.s1 (p : Pm) : Nat := wd p.la
def Pm.s2 (p : Pm) : Nat := p.s1 + wd p.lb
def Pm.s3 (p : Pm) : Nat := p.s2 + wd p.lc
def Pm.W1 (p : Pm) : Nat → BitVec 64 := wn 0 p.la p.A (fun _ => 0#64) p.la
def Pm.W2 (p : Pm) : Nat → BitVec 64 := wn p.s1 p.lb p.B p.W1 p.lb
def Pm.W3 (p : Pm) : Nat → BitVec 64 := wn p.s2 p.lc p.C p.W2 p.lc
/-- a loop: the object's place, its chars, the round, all words ahead of it -/
structure Lq where
  s : Nat
  n : Nat
  k : Nat
  tot : Nat
  f : Nat → Int
  Wo : Nat → BitVec 64
/-- the words within a loop that writes -/
def Lq.w (q : Lq) : Nat → BitVec 64 := wn q.s q.n q.f q.Wo q.k
def Lq.at (q : Lq) (k : Nat) : Lq := { q with k := k }
/-- all words within a loop that reads (told by its stage), or writes -/
def WS (p : Pm) : Nat → Nat → BitVec 64
  | 0 => p.W1
  | 1 => p.W2
  | _ => p.W3
def tS (p : Pm) : Nat → Nat
  | 0 => p.s1
  | 1 => p.s2
  | _ => p.s3
abbrev ivL (p : Pm) (q : Lq) (st : Nat) : Nat → IntKind × Int
  | 0 => (.i64, (p.la : Int))
  | 1 => (.i64, (p.lb : Int))
  | 2 => (.i64, p.ix)
  | 3 => (.i64, (p.lc : Int))
  | 4 => (.i64, (p.s1 : Int))
  | 5 => (.i64, (p.s2 : Int))
  | 6 => (.i64, (p.s3 : Int))
  | 7 => (.i64, ((p.s1 + 1 : Nat) : Int))
  | 8 => (.i64, ((p.s2 + 1 : Nat) : Int))
  | 9 => (.i64, ((p.s1 + 2 : Nat) : Int))
  | 10 => (.i64, ((p.s2 + 2 : Nat) : Int))
  | 11 => (.i64, ((0 : Nat) : Int))
  | 12 => (.i64, ((2 : Nat) : Int))
  | 13 => (.u64, (p.la : Int))
  | 14 => (.u64, (p.lb : Int))
  | 15 => (.u64, (p.lc : Int))
  | 16 => (.i64, ((wd p.lb : Nat) : Int))
  | 17 => (.i64, ((wd p.lc : Nat) : Int))
  | 18 => (.i64, ((2048 - p.s1 : Nat) : Int))
  | 19 => (.i64, ((2048 - p.s2 : Nat) : Int))
  | 20 => (.i64, ((p.la * 2 : Nat) : Int))
  | 21 => (.i64, ((p.la * 2 + 8 : Nat) : Int))
  | 22 => (.i64, ((p.la * 2 + 7 : Nat) : Int))
  | 23 => (.i64, (((p.la * 2 + 7) / 8 : Nat) : Int))
  | 24 => (.i64, ((p.lb * 2 : Nat) : Int))
  | 25 => (.i64, ((p.lb * 2 + 8 : Nat) : Int))
  | 26 => (.i64, ((p.lb * 2 + 7 : Nat) : Int))
  | 27 => (.i64, (((p.lb * 2 + 7) / 8 : Nat) : Int))
  | 28 => (.i64, ((p.lc * 2 : Nat) : Int))
  | 29 => (.i64, ((p.lc * 2 + 8 : Nat) : Int))
  | 30 => (.i64, ((p.lc * 2 + 7 : Nat) : Int))
  | 31 => (.i64, (((p.lc * 2 + 7) / 8 : Nat) : Int))
  | 32 => (.i64, (p.fa : Int))
  | 33 => (.i64, (p.fb : Int))
  | 40 => (.i64, (q.k : Int))
  | 41 => (.i64, ((q.k + 1 : Nat) : Int))
  | 42 => (.i64, (q.n : Int))
  | 43 => (.i64, ((q.s + 1 : Nat) : Int))
  | 44 => (.i64, ((q.k / 4 : Nat) : Int))
  | 45 => (.i64, (q.s : Int))
  | 46 => (.i64, ((q.s + 3 : Nat) : Int))
  | 47 => (.i64, ((q.s + 3 + q.k / 4 : Nat) : Int))
  | 48 => (.i64, ((q.k % 4 : Nat) : Int))
  | 49 => (.i64, ((q.k % 4 * 2 : Nat) : Int))
  | 50 => (.i64, ((q.k % 4 * 2 * 8 : Nat) : Int))
  | 51 => (.u64, wI (WS p st (q.s + 3 + q.k / 4)))
  | 52 => (.u64, wI (WS p st (q.s + 3 + q.k / 4) >>> (q.k % 4 * 2 * 8)))
  | 53 => (.u16, q.f q.k)
  | 54 => (.i64, (tS p st : Int))
  | 55 => (.u64, wI (q.w (q.s + 3 + q.k / 4)))
  | 56 => (.u64, wI (msk 16 (q.k % 4 * 2 * 8)))
  | 57 => (.u64, wI (q.w (q.s + 3 + q.k / 4) &&& ~~~msk 16 (q.k % 4 * 2 * 8)))
  | 59 => (.i64, q.f q.k)
  | 60 => (.u64, wI (fV q.f q.k))
  | 61 => (.u64, wI (fV q.f q.k <<< (q.k % 4 * 2 * 8)))
  | 62 => (.u64, wI ((fV q.f q.k <<< (q.k % 4 * 2 * 8)) &&& msk 16 (q.k % 4 * 2 * 8)))
  | 63 => (.u64, wI ((q.w (q.s + 3 + q.k / 4) &&& ~~~msk 16 (q.k % 4 * 2 * 8)) ||| ((fV q.f q.k <<< (q.k % 4 * 2 * 8)) &&& msk 16 (q.k % 4 * 2 * 8))))
  | 64 => (.u16, p.A p.ix.toNat)
  | 65 => (.i64, p.A p.ix.toNat)
  | 66 => (.i64, ((p.s1 + 3 : Nat) : Int))
  | _ => (.i64, 0)
/-- chars that are read, so many of them -/
def upTo (f : Nat → Int) (k : Nat) : Nat → Int := fun m => if m < k then f m else 0
/-- words ahead of a text's chars, its length is there -/
def WB (p : Pm) : Nat → Nat → BitVec 64
  | 0 => wn 0 p.la p.A (fun _ => 0#64) 0
  | 1 => wn p.s1 p.lb p.B p.W1 0
  | _ => wn p.s2 p.lc p.C p.W2 0
/-- zeros behind the words -/
def WZ (p : Pm) : Nat → Nat → BitVec 64
  | 0 => fun _ => 0#64
  | 1 => fun m => if m < p.s1 then p.W1 m else 0#64
  | _ => fun m => if m < p.s2 then p.W2 m else 0#64
abbrev vvL (p : Pm) (q : Lq) : Nat → Nat → Option AV
  | 0 => numV .u64 p.s1 (fun m => wI (p.W1 m))
  | 1 => numV .u64 p.s2 (fun m => wI (p.W2 m))
  | 2 => numV .u64 p.s3 (fun m => wI (p.W3 m))
  | 3 => numV .u16 p.la p.A
  | 4 => numV .u16 p.lb p.B
  | 5 => numV .u16 p.lc p.C
  | 10 => numV .u64 q.tot (fun m => wI (q.w m))
  | 11 => numV .u64 q.tot (fun m => wI ((q.at (q.k + 1)).w m))
  | 12 => numV .u16 q.n (upTo q.f q.k)
  | 13 => numV .u16 q.n (upTo q.f (q.k + 1))
  | 20 => numV .u16 p.la (fun _ => 0)
  | 21 => numV .u16 p.lb (fun _ => 0)
  | 22 => numV .u16 p.lc (fun _ => 0)
  | 23 => numV .u64 p.s1 (fun m => wI (WB p 0 m))
  | 24 => numV .u64 p.s2 (fun m => wI (WB p 1 m))
  | 25 => numV .u64 p.s3 (fun m => wI (WB p 2 m))
  | 26 => numV .u64 p.s1 (fun m => wI (WZ p 0 m))
  | 27 => numV .u64 p.s2 (fun m => wI (WZ p 1 m))
  | 28 => numV .u64 p.s3 (fun m => wI (WZ p 2 m))
  | _ => fun _ => none
abbrev vkL (p : Pm) (q : Lq) : Nat → Nat
  | 0 => p.s1
  | 1 => p.s2
  | 2 => p.s3
  | 3 => p.la
  | 4 => p.lb
  | 5 => p.lc
  | 10 => q.tot
  | 11 => q.tot
  | 12 => q.n
  | 13 => q.n
  | 20 => p.la
  | 21 => p.lb
  | 22 => p.lc
  | 23 => p.s1
  | 24 => p.s2
  | 25 => p.s3
  | 26 => p.s1
  | 27 => p.s2
  | 28 => p.s3
  | _ => 0
theorem numP {K : IntKind} {n : Nat} {e : Nat → Int} {m : Nat} {a : AV} (h : numV K n e m = some a) : vplain a = true := by
  obtain ⟨_, rfl⟩ := numV_some h; rfl
theorem vvLp (p : Pm) (q : Lq) : ∀ i m a, vvL p q i m = some a → vplain a = true := fun i m a h => by
  unfold vvL at h
  split at h <;> first | exact numP h | cases h
theorem vS_eq (p : Pm) (q : Lq) : ∀ st, st < 3 → vvL p q st = numV .u64 (tS p st) (fun m => wI (WS p st m))
  | 0, _ => rfl
  | 1, _ => rfl
  | 2, _ => rfl
  | _ + 3, h => by omega
theorem vkS_eq (p : Pm) (q : Lq) : ∀ st, st < 3 → vkL p q st = tS p st
  | 0, _ => rfl
  | 1, _ => rfl
  | 2, _ => rfl
  | _ + 3, h => by omega
abbrev fgL (p : Pm) : Fgn where
  fb := fun i => match i with | 0 => (p.ba, p.oa) | _ => (p.bb, p.ob)
  fcap := fun i => match i with | 0 => p.ca | _ => p.cb
  fv := fun i => match i with | 0 => numV .u16 p.la p.A | 1 => numV .u16 p.lb p.B | _ => fun _ => none
/-- modified UTF-8 -/
def encC (c : Int) : List Int := if 0 < c ∧ c < 128 then [c] else if c < 2048 then [192 + c / 64, 128 + c % 64] else [224 + c / 4096, 128 + c / 64 % 64, 128 + c % 64]
def encL (f : Nat → Int) : Nat → List Int
  | 0 => []
  | k + 1 => encL f k ++ encC (f k)
/-- a text's key -/
def key (f : Nat → Int) (n : Nat) : ByteArray := bytesI (encL f n)
def keyO (p : Pm) : Nat → ByteArray
  | 0 => key p.A p.la
  | _ => key p.B p.lb
abbrev txL (p : Pm) (q : Lq) (st : Nat) : Txts (ivL p q st) where
  str := keyO p
def qZ : Lq := ⟨0, 0, 0, 0, fun _ => 0, fun _ => 0#64⟩
abbrev R0 (p : Pm) (q : Lq) (st : Nat) : Rw (ivL p q st) (vvL p q) (vkL p q) (fgL p) (txL p q st) where
  vvp := vvLp p q
abbrev T0 (p : Pm) (q : Lq) (st : Nat) : Tab := (R0 p q st).T
end Go.Proofs.YtkkaifeiopjjdaaGreatDoor.ns
