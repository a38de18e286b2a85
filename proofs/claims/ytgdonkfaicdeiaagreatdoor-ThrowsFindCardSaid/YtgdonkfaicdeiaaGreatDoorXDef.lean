/-
  A deterministic machine over abstract values: block numbers are names, a string is its length and one number, a slice's capacity may be open.
  What it computes holds of every run of the model (XSound). Its functions are written so that the kernel runs them fast.
-/
import Derived.Calls
set_option linter.unusedSimpArgs false
set_option linter.unusedVariables false
set_option linter.unusedSectionVars false
namespace Go.X

inductive T (α : Type) where
  | leaf
  | node (l : T α) (v : Option α) (r : T α)

/- forcing: the kernel runs these so that what is kept is small -/
noncomputable def fN {α : Type} (n : Nat) (k : Nat → α) : α := Nat.rec (motive := fun _ => α) (k 0) (fun m _ => k (Nat.succ m)) n
noncomputable def fT {α β : Type} (t : T α) (k : T α → β) : β := T.rec (motive := fun _ => β) (k .leaf) (fun l v r _ _ => k (.node l v r)) t

namespace T
noncomputable def get {α : Type} (t : T α) : Nat → Option α :=
  T.rec (motive := fun _ => Nat → Option α) (fun _ => none)
    (fun _ v _ ihl ihr n => Bool.rec (Bool.rec (fN (Nat.sub (Nat.div n 2) 1) ihr) (fN (Nat.div n 2) ihl) (Nat.beq (Nat.mod n 2) 1)) v (Nat.beq n 0)) t
noncomputable def mk {α : Type} (x : α) (f : Nat) : Nat → T α :=
  Nat.rec (motive := fun _ => Nat → T α) (fun _ => leaf)
    (fun _ ih n => Bool.rec (Bool.rec (fT (fN (Nat.sub (Nat.div n 2) 1) ih) fun t => node leaf none t) (fT (fN (Nat.div n 2) ih) fun t => node t none leaf) (Nat.beq (Nat.mod n 2) 1)) (node leaf (some x) leaf) (Nat.beq n 0)) f
noncomputable def put {α : Type} (t : T α) (n : Nat) (x : α) : T α :=
  T.rec (motive := fun _ => Nat → T α) (fun n => mk x 24 n)
    (fun l v r ihl ihr n => Bool.rec (Bool.rec (fT (fN (Nat.sub (Nat.div n 2) 1) ihr) fun t => node l v t) (fT (fN (Nat.div n 2) ihl) fun t => node t v r) (Nat.beq (Nat.mod n 2) 1)) (node l (some x) r) (Nat.beq n 0)) t n
noncomputable def erase {α : Type} (t : T α) : Nat → T α :=
  T.rec (motive := fun _ => Nat → T α) (fun _ => leaf)
    (fun l v r ihl ihr n => Bool.rec (Bool.rec (fT (fN (Nat.sub (Nat.div n 2) 1) ihr) fun t => node l v t) (fT (fN (Nat.div n 2) ihl) fun t => node t v r) (Nat.beq (Nat.mod n 2) 1)) (node l none r) (Nat.beq n 0)) t
noncomputable def ofList {α : Type} (i : Nat) (t : T α) (l : List α) : T α :=
  List.rec (motive := fun _ => Nat → T α → T α) (fun _ t => t) (fun x _ ih i t => fT (t.put i x) fun t => ih (Nat.succ i) t) l i t
end T

inductive AV where
  | bool (b : Bool)
  | int (k : IntKind) (n : Int)
  | str (n c : Nat)
  | nilp
  | ptr (x o : Nat)
  | nils
  | sl (x o n c : Nat)
  | so (x o n z : Nat)
  | nilm
  | map (x : Nat)
  | fn (f : Fn) (first cap : List AV)
  | nilf
  | iface (t : Nat) (v : AV)
  | nili
  | agg (l : List AV)
  | tup (l : List AV)
  | ostr (i : Nat)
  | gp (g o : Nat)
  | oi (i : Nat)
  | es
  | ov (x j z : Nat)
  | op (x k z f : Nat)
  | fo (i j z : Nat)
  | fp (i k z f : Nat)

inductive Blk where
  | cells (n : Nat) (opn : Bool) (z : List AV) (t : T AV)
  | glob (n : Nat) (z : List AV) (t : T AV)
  | map (es : List (AV × AV × Nat)) (clock : Nat)
  | siter (n c pos : Nat)
  | miter (m : Option Nat) (since : Nat) (seen : List Nat) (stepped : Nat)
  | vec (i : Nat)

structure H where
  next : Nat
  t : T Blk

abbrev Fr := T AV

noncomputable def fI {α : Type} (n : Int) (k : Int → α) : α := Int.rec (fun m => fN m fun m => k (.ofNat m)) (fun m => fN m fun m => k (.negSucc m)) n
noncomputable def fB {α : Type} (b : Bool) (k : Bool → α) : α := Bool.rec (k false) (k true) b
noncomputable def fA {α : Type} (v : AV) (k : AV → α) : α :=
  match v with
  | .bool b => fB b fun b => k (.bool b)
  | .int t n => fI n fun n => k (.int t n)
  | .str n c => fN n fun n => fN c fun c => k (.str n c)
  | .ptr x o => fN x fun x => fN o fun o => k (.ptr x o)
  | .sl x o n c => fN x fun x => fN o fun o => fN n fun n => fN c fun c => k (.sl x o n c)
  | .so x o n c => fN x fun x => fN o fun o => fN n fun n => fN c fun c => k (.so x o n c)
  | .map x => fN x fun x => k (.map x)
  | .ov x j z => fN x fun x => fN j fun j => k (.ov x j z)
  | .op x j z f => fN x fun x => fN j fun j => fN f fun f => k (.op x j z f)
  | .fo i j z => fN j fun j => k (.fo i j z)
  | .fp i j z f => fN j fun j => fN f fun f => k (.fp i j z f)
  | v => k v
noncomputable def fL {α : Type} (l : List AV) : (List AV → α) → α :=
  List.rec (motive := fun _ => (List AV → α) → α) (fun k => k []) (fun x _ ih k => fA x fun x => ih fun r => k (x :: r)) l
noncomputable def fV {α : Type} (v : AV) (k : AV → α) : α :=
  match v with
  | .agg l => fL l fun l => k (.agg l)
  | .tup l => fL l fun l => k (.tup l)
  | v => fA v k
noncomputable def fH {α : Type} (h : H) (k : H → α) : α := H.rec (fun n t => fN n fun n => fT t fun t => k ⟨n, t⟩) h

noncomputable def ob {α β : Type} (x : Option α) (f : α → Option β) : Option β := Option.rec none f x
noncomputable def ob2 {α β γ : Type} (x : Option (α × β)) (f : α → β → Option γ) : Option γ := ob x fun p => Prod.rec (fun a b => f a b) p
noncomputable def ob3 {α β γ δ : Type} (x : Option (α × β × γ)) (f : α → β → γ → Option δ) : Option δ := ob x fun p => Prod.rec (fun a q => Prod.rec (fun b c => f a b c) q) p
noncomputable def ifb {α : Type} (b : Bool) (x : Option α) : Option α := Bool.rec none x b

def AV.undef : AV := .tup []
def AV.cells : AV → List AV
  | .agg l => l
  | v => [v]
def AV.one : AV → Bool
  | .agg _ => false
  | .tup _ => false
  | _ => true

def enc : List UInt8 → Nat
  | [] => 0
  | b :: l => b.toNat + 256 * enc l
def dec : Nat → Nat → List Nat
  | 0, _ => []
  | n + 1, c => c % 256 :: dec n (c / 256)

def strOf (n c : Nat) : ByteArray := ⟨⟨(dec n c).map UInt8.ofNat⟩⟩

def ofAtom : Value → Option AV
  | .bool b => some (.bool b)
  | .int k n => some (.int k n)
  | .string s => some (.str s.size (enc s.data.toList))
  | .pointer none => some .nilp
  | .slice none 0 0 => some .nils
  | .map none => some .nilm
  | .nilFunc => some .nilf
  | .nilIface => some .nili
  | .tuple ⟨[]⟩ => some (.tup [])
  | .func f ⟨[]⟩ ⟨[]⟩ => some (.fn f [] [])
  | _ => none

noncomputable def ofAtoms : List Value → Option (List AV)
  | [] => some []
  | v :: l => ob (ofAtom v) fun a => ob (ofAtoms l) fun r => some (a :: r)

noncomputable def ofValue : Value → Option AV
  | .agg cs => ob (ofAtoms cs.toList) fun l => some (.agg l)
  | v => ofAtom v

noncomputable def evTmp (t : Tmp) (fr : Fr) : Option AV := fr.get t
noncomputable def ev (x : Operand) : Fr → Option AV :=
  match x with
  | .tmp t => evTmp t
  | .const v => fun _ => ofValue v
  | .func f => fun _ => some (.fn (.func f) [] [])
  | .global g => fun _ => some (.gp g 0)

noncomputable def evs (fr : Fr) (l : List Operand) : Option (List AV) :=
  List.rec (motive := fun _ => Option (List AV)) (some []) (fun x _ ih => ob (ev x fr) fun a => ob ih fun r => some (a :: r)) l

/- memory -/
def limit : Nat := 1000000

noncomputable def H.get (h : H) (x : Nat) : Option Blk := h.t.get x
noncomputable def H.put (h : H) (x : Nat) (b : Blk) : H := ⟨h.next, h.t.put x b⟩
noncomputable def H.alloc (h : H) (b : Blk) : Option (Nat × H) :=
  ifb (Nat.blt h.next limit) (some (h.next, ⟨Nat.succ h.next, h.t.put h.next b⟩))
noncomputable def H.kill (h : H) (x : Nat) : H := ⟨h.next, h.t.erase x⟩

noncomputable def cellOf (z : List AV) (t : T AV) (o : Nat) : Option AV :=
  Option.rec z[o % z.length]? (fun v => some v) (t.get o)

noncomputable def loadIn (o : Nat) (b : Blk) : Option AV :=
  match b with
  | .cells n _ z t => ifb (Nat.blt o n) (cellOf z t o)
  | .glob n z t => ifb (Nat.blt o n) (cellOf z t o)
  | _ => none

noncomputable def H.load (h : H) (x o : Nat) : Option AV := ob (h.get x) (loadIn o)

noncomputable def storeIn (o : Nat) (v : AV) (b : Blk) : Option Blk :=
  match b with
  | .cells n p z t => ifb (Nat.blt o n) (ifb (Nat.blt o limit) (ifb v.one (some (.cells n p z (t.put o v)))))
  | _ => none

noncomputable def H.store (h : H) (x o : Nat) (v : AV) : Option H := ob (h.get x) fun b => ob (storeIn o v b) fun b => ifb (Nat.blt x limit) (some (h.put x b))

noncomputable def H.loads (h : H) (x o n : Nat) : Option (List AV) :=
  Nat.rec (motive := fun _ => Nat → Option (List AV)) (fun _ => some []) (fun _ ih o => ob (h.load x o) fun v => ob (ih (Nat.succ o)) fun r => some (v :: r)) n o

noncomputable def H.stores (h : H) (x o : Nat) (l : List AV) : Option H :=
  List.rec (motive := fun _ => H → Nat → Option H) (fun h _ => some h) (fun v _ ih h o => ob (h.store x o v) fun h' => ih h' (Nat.succ o)) l h o

noncomputable def rowOf (l : List AV) (opn : Bool) : Blk := .cells l.length opn [] (T.ofList 0 .leaf l)
noncomputable def H.row (h : H) (l : List AV) (opn : Bool) : Option (Nat × H) := ifb (Nat.blt l.length limit) (h.alloc (rowOf l opn))

/- types -/
noncomputable def zeroOf (P : Program) (t : TypeId) : Option AV := ob (P.info? t) fun i => ob i.zero ofValue
noncomputable def sizeOf? (P : Program) (t : TypeId) : Option Nat := ob (P.info? t) fun i => some i.size
noncomputable def bytesOf? (P : Program) (t : TypeId) : Option Nat := ob (P.info? t) fun i => some i.bytes
def descAgg : TypeDesc → Bool
  | .struct _ => true
  | .array _ _ => true
  | _ => false
noncomputable def isAgg? (P : Program) (t : TypeId) : Option Bool := ob (P.underlying t) fun d => some (descAgg d)
def asSlice : TypeDesc → Option TypeId
  | .slice e => some e
  | _ => none
noncomputable def sliceElem (P : Program) (t : TypeId) : Option TypeId := ob (P.underlying t) asSlice

noncomputable def loadVar? (P : Program) (h : H) (t : TypeId) (x o : Nat) : Option AV :=
  ob (isAgg? P t) fun b => Bool.rec (h.load x o) (ob (sizeOf? P t) fun n => ob (h.loads x o n) fun l => some (.agg l)) b

noncomputable def storeVar? (P : Program) (h : H) (t : TypeId) (x o : Nat) (v : AV) : Option H :=
  ob (sizeOf? P t) fun n => ifb (Nat.beq v.cells.length n) (h.stores x o v.cells)

noncomputable def part? (P : Program) (t : TypeId) (cs : List AV) (off : Nat) : Option AV :=
  ob (isAgg? P t) fun b => Bool.rec (cs[off]?) (ob (sizeOf? P t) fun n => some (.agg ((cs.drop off).take n))) b

/- plain values -/
def bytesLt : List Nat → List Nat → Bool
  | _, [] => false
  | [], _ :: _ => true
  | a :: x, b :: y => Nat.blt a b || (Nat.beq a b && bytesLt x y)

def strEq (n c m d : Nat) : Bool := Nat.beq n m && Nat.beq c d

def strOp (op : BinOp) (n c m d : Nat) : Option AV :=
  match op with
  | .add => if n + m < limit then some (.str (n + m) (c + d * 256 ^ n)) else none
  | .eql => some (.bool (strEq n c m d))
  | .neq => some (.bool (!strEq n c m d))
  | .lss => some (.bool (bytesLt (dec n c) (dec m d)))
  | .geq => some (.bool (!bytesLt (dec n c) (dec m d)))
  | .leq => some (.bool (bytesLt (dec n c) (dec m d) || strEq n c m d))
  | .gtr => some (.bool (!(bytesLt (dec n c) (dec m d) || strEq n c m d)))
  | _ => none

def kcode : IntKind → Nat
  | .i8 => 0 | .i16 => 1 | .i32 => 2 | .i64 => 3 | .u8 => 4 | .u16 => 5 | .u32 => 6 | .u64 => 7
def kmax : IntKind → Nat
  | .i8 => 127 | .i16 => 32767 | .i32 => 2147483647 | .i64 => 9223372036854775807
  | .u8 => 255 | .u16 => 65535 | .u32 => 4294967295 | .u64 => 18446744073709551615
noncomputable def wrapF (k : IntKind) (n : Int) : Int :=
  Int.rec (fun m => Bool.rec (k.wrap n) n (Nat.ble m (kmax k))) (fun _ => k.wrap n) n

noncomputable def intOp (op : BinOp) : IntKind → Int → Int → Option AV :=
  match op with
  | .add => fun k a b => some (.int k (wrapF k (Int.add a b)))
  | .sub => fun k a b => some (.int k (wrapF k (Int.sub a b)))
  | .mul => fun k a b => some (.int k (wrapF k (Int.mul a b)))
  | .quo => fun k a b => if b = 0 then none else some (.int k (wrapF k (a.tdiv b)))
  | .rem => fun k a b => if b = 0 then none else some (.int k (a.tmod b))
  | .and => fun k a b => some (.int k (k.wrap (BitVec.ofInt k.bits a &&& BitVec.ofInt k.bits b).toNat))
  | .or => fun k a b => some (.int k (k.wrap (BitVec.ofInt k.bits a ||| BitVec.ofInt k.bits b).toNat))
  | .xor => fun k a b => some (.int k (k.wrap (BitVec.ofInt k.bits a ^^^ BitVec.ofInt k.bits b).toNat))
  | .andNot => fun k a b => some (.int k (k.wrap (BitVec.ofInt k.bits a &&& ~~~BitVec.ofInt k.bits b).toNat))
  | .eql => fun _ a b => some (.bool (a == b))
  | .neq => fun _ a b => some (.bool (a != b))
  | .lss => fun _ a b => some (.bool (decide (a < b)))
  | .leq => fun _ a b => some (.bool (decide (a ≤ b)))
  | .gtr => fun _ a b => some (.bool (decide (a > b)))
  | .geq => fun _ a b => some (.bool (decide (a ≥ b)))
  | _ => fun _ _ _ => none

noncomputable def shiftOp (op : BinOp) (k : IntKind) (a b : Int) : Option AV :=
  match op with
  | .shl => if b < 0 then none else some (.int k (k.wrap (a * 2 ^ (min b.toNat k.bits))))
  | .shr => if b < 0 then none else some (.int k (a.fdiv (2 ^ (min b.toNat k.bits))))
  | _ => none

def isShift : BinOp → Bool
  | .shl => true
  | .shr => true
  | _ => false

def plainIn : Blk → Bool
  | .cells n p _ _ => Nat.blt 0 n && !p
  | _ => false
noncomputable def plainBlk (h : H) (x : Nat) : Bool := Option.rec false plainIn (h.get x)

/-- '==' of values that are no numbers and no strings -/
noncomputable def atomEq (P : Program) (h : H) (d : TypeDesc) (x y : AV) : Option Bool :=
  match d, x, y with
  | .bool, .bool a, .bool b => some (a == b)
  | .pointer _, .nilp, .nilp => some true
  | .pointer _, .nilp, .ptr _ _ => some false
  | .pointer _, .ptr _ _, .nilp => some false
  | .pointer e, .ptr x o, .ptr y p =>
    ob (sizeOf? P e) fun n => if n = 0 then none else if x = y then some (o == p) else if plainBlk h x && plainBlk h y then some false else none
  | .slice _, .nils, .nils => some true
  | .slice _, .nils, .sl .. => some false
  | .slice _, .sl .., .nils => some false
  | .slice _, .nils, .so .. => some false
  | .slice _, .so .., .nils => some false
  | .slice _, .nils, .es => some false
  | .slice _, .es, .nils => some false
  | .slice _, .nils, .ov .. => some false
  | .slice _, .ov .., .nils => some false
  | .pointer _, .nilp, .op .. => some false
  | .pointer _, .op .., .nilp => some false
  | .slice _, .nils, .fo .. => some false
  | .slice _, .fo .., .nils => some false
  | .pointer _, .nilp, .fp .. => some false
  | .pointer _, .fp .., .nilp => some false
  | .map _ _, .nilm, .nilm => some true
  | .map _ _, .nilm, .map _ => some false
  | .map _ _, .map _, .nilm => some false
  | .func _ _ _, .nilf, .nilf => some true
  | .func _ _ _, .nilf, .fn .. => some false
  | .func _ _ _, .fn .., .nilf => some false
  | .interface _, .nili, .iface .. => some false
  | .interface _, .iface .., .nili => some false
  | _, _, _ => none

noncomputable def eqOp (P : Program) (h : H) (op : BinOp) (t : TypeId) (x y : AV) : Option AV :=
  match op with
  | .eql => ob (P.underlying t) fun d => ob (atomEq P h d x y) fun b => some (.bool b)
  | .neq => ob (P.underlying t) fun d => ob (atomEq P h d x y) fun b => some (.bool (!b))
  | _ => none

def isConst : Operand → Bool
  | .const _ => true
  | _ => false

noncomputable def niliEq (op : BinOp) (P : Program) (t : TypeId) (c : Bool) : Option AV :=
  match op with
  | .eql => ob (P.underlying t) fun d => match d with | .interface _ => ifb c (some (.bool true)) | _ => none
  | .neq => ob (P.underlying t) fun d => match d with | .interface _ => ifb c (some (.bool false)) | _ => none
  | _ => none

noncomputable def intBin (op : BinOp) (k : IntKind) (a : Int) (k' : IntKind) (b : Int) : Option AV :=
  Bool.rec (ifb (Nat.beq (kcode k) (kcode k')) (intOp op k a b)) (shiftOp op k a b) (isShift op)

/- numbers that are known by name alone, and what is known of operations on them -/
def bcode : BinOp → Nat
  | .add => 0 | .sub => 1 | .mul => 2 | .quo => 3 | .rem => 4 | .and => 5 | .or => 6 | .xor => 7 | .andNot => 8 | .eql => 9 | .neq => 10 | .lss => 11 | .leq => 12 | .gtr => 13 | .geq => 14 | .shl => 15 | .shr => 16
def ucode : UnOp → Nat
  | .neg => 0 | .xor => 1 | .not => 2 | _ => 3
noncomputable def unI (op : UnOp) (k : IntKind) (n : Int) : Option AV :=
  match op with
  | .neg => some (.int k (k.wrap (0 - n)))
  | .xor => some (.int k (k.wrap (BitVec.ofInt k.bits (if k.signed then -1 else k.max) ^^^ BitVec.ofInt k.bits n).toNat))
  | _ => none
def denI (iv : Nat → IntKind × Int) : AV → Option (IntKind × Int)
  | .int k n => some (k, n)
  | .oi i => some (iv i)
  | _ => none
def outI (iv : Nat → IntKind × Int) (v : AV) (c : AV) : Prop :=
  match c with
  | .bool b => v = .bool b
  | .int k n => denI iv v = some (k, n)
  | _ => False

/- vectors that are known by name alone: whose cells are a list of plain values -/
def plain : AV → Bool
  | .bool _ => true
  | .int _ _ => true
  | .str _ _ => true
  | .nilp => true
  | .nils => true
  | .nilm => true
  | .nilf => true
  | .nili => true
  | .ostr _ => true
  | .oi _ => true
  | _ => false
/-- a number that is a length -/
def isLen (p : IntKind × Int) : Prop := p.1 = .i64 ∧ 0 ≤ p.2
/-- the same value, or two names of one number -/
def sameAV (iv : Nat → IntKind × Int) (a b : AV) : Prop := a = b ∨ ∃ p, denI iv a = some p ∧ denI iv b = some p
structure VA where
  (i j z : Nat) (src : List AV) (i' j' : Nat)
structure VZ where
  (i j z k : Nat) (zc : List AV) (i' j' : Nat)
structure VN where
  (z k : Nat) (zc : List AV) (i' j' : Nat)
structure VL where
  (i k z f : Nat) (l : List AV)
structure VS where
  (i k z f : Nat) (l : List AV) (i' : Nat)

/-- What is known beside the machine: texts by name (from which constants they differ), package variables' cells, numbers by name. -/
class Tab where
  str : Nat → ByteArray
  ne : Nat → List (Nat × Nat)
  ok : ∀ i p, p ∈ ne i → p.2 < 256 ^ p.1 → str i ≠ strOf p.1 p.2
  gv : Nat → Nat → Option AV
  iv : Nat → IntKind × Int
  ib : List (Nat × AV × AV × AV)
  ibok : ∀ r ∈ ib, ∀ op, bcode op = r.1 → ∃ k a k' b v', denI iv r.2.1 = some (k, a) ∧ denI iv r.2.2.1 = some (k', b) ∧ intBin op k a k' b = some v' ∧ outI iv r.2.2.2 v'
  ic : List (IntKind × AV × AV)
  icok : ∀ r ∈ ic, ∃ k n, denI iv r.2.1 = some (k, n) ∧ denI iv r.2.2 = some (r.1, r.1.wrap n)
  iu : List (Nat × AV × AV)
  iuok : ∀ r ∈ iu, ∀ op, ucode op = r.1 → ∃ k n v', denI iv r.2.1 = some (k, n) ∧ unI op k n = some v' ∧ outI iv r.2.2 v'
  vv : Nat → Nat → Option AV
  vk : Nat → Nat
  vvp : ∀ i m a, vv i m = some a → plain a = true
  va : List VA
  vaok : ∀ r ∈ va, isLen (iv r.j) ∧ isLen (iv r.j') ∧ (iv r.j').2.toNat * r.z = (iv r.j).2.toNat * r.z + r.src.length ∧ (iv r.j').2.toNat < limit ∧ vk r.i' ≤ (iv r.j').2.toNat * r.z ∧
    ∀ m a, vv r.i' m = some a → ∃ b, (if m < (iv r.j).2.toNat * r.z then vv r.i m else r.src[m - (iv r.j).2.toNat * r.z]?) = some b ∧ sameAV iv b a
  vz : List VZ
  vzok : ∀ r ∈ vz, isLen (iv r.j) ∧ isLen (iv r.k) ∧ isLen (iv r.j') ∧ (iv r.j').2 = (iv r.j).2 + (iv r.k).2 ∧ (iv r.j').2.toNat < limit ∧ vk r.i' ≤ (iv r.j').2.toNat * r.z ∧
    ∀ m a, vv r.i' m = some a → m < (iv r.j').2.toNat * r.z ∧ ∃ b, (if m < (iv r.j).2.toNat * r.z then vv r.i m else r.zc[(m - (iv r.j).2.toNat * r.z) % r.zc.length]?) = some b ∧ sameAV iv b a
  vn : List VN
  vnok : ∀ r ∈ vn, isLen (iv r.k) ∧ 0 < (iv r.k).2 ∧ iv r.j' = iv r.k ∧ (iv r.k).2.toNat < limit ∧ vk r.i' ≤ (iv r.k).2.toNat * r.z ∧
    ∀ m a, vv r.i' m = some a → m < (iv r.k).2.toNat * r.z ∧ ∃ b, r.zc[m % r.zc.length]? = some b ∧ sameAV iv b a
  vc : List (Nat × Nat)
  vcok : ∀ p ∈ vc, iv p.2 = (.i64, (p.1 : Int))
  fb : Nat → Nat × Nat
  fcap : Nat → Nat
  fv : Nat → Nat → Option AV
  fl : List VL
  flok : ∀ r ∈ fl, isLen (iv r.k) ∧ ∀ m b, r.l[m]? = some b → ∃ a, fv r.i ((iv r.k).2.toNat * r.z + r.f + m) = some a ∧ sameAV iv a b
  vl : List VL
  vlok : ∀ r ∈ vl, isLen (iv r.k) ∧ ∀ m b, r.l[m]? = some b → ∃ a, vv r.i ((iv r.k).2.toNat * r.z + r.f + m) = some a ∧ sameAV iv a b
  vs : List VS
  vsok : ∀ r ∈ vs, isLen (iv r.k) ∧ (iv r.k).2.toNat * r.z + r.f + r.l.length ≤ vk r.i ∧ vk r.i' ≤ vk r.i ∧
    ∀ m a, vv r.i' m = some a → ∃ b, (if (iv r.k).2.toNat * r.z + r.f ≤ m ∧ m < (iv r.k).2.toNat * r.z + r.f + r.l.length then r.l[m - ((iv r.k).2.toNat * r.z + r.f)]? else vv r.i m) = some b ∧ sameAV iv b a

noncomputable def ieq (x y : AV) : Bool :=
  match x, y with
  | .int k a, .int k' b => Nat.beq (kcode k) (kcode k') && (a == b)
  | .oi i, .oi j => Nat.beq i j
  | _, _ => false
noncomputable def findB (n : Nat) (x y : AV) (l : List (Nat × AV × AV × AV)) : Option AV :=
  List.rec (motive := fun _ => Option AV) none (fun r _ ih => Bool.rec ih (Bool.rec ih (Bool.rec ih (some r.2.2.2) (ieq r.2.2.1 y)) (ieq r.2.1 x)) (Nat.beq r.1 n)) l
noncomputable def findC (k : IntKind) (x : AV) (l : List (IntKind × AV × AV)) : Option AV :=
  List.rec (motive := fun _ => Option AV) none (fun r _ ih => Bool.rec ih (Bool.rec ih (some r.2.2) (ieq r.2.1 x)) (Nat.beq (kcode r.1) (kcode k))) l
noncomputable def findU (n : Nat) (x : AV) (l : List (Nat × AV × AV)) : Option AV :=
  List.rec (motive := fun _ => Option AV) none (fun r _ ih => Bool.rec ih (Bool.rec ih (some r.2.2) (ieq r.2.1 x)) (Nat.beq r.1 n)) l

/-- the same plain value? -/
noncomputable def peq (x y : AV) : Bool :=
  match x, y with
  | .bool a, .bool b => a == b
  | .int k a, .int k' b => Nat.beq (kcode k) (kcode k') && (a == b)
  | .oi i, .oi j => Nat.beq i j
  | .str n c, .str m d => Nat.beq n m && Nat.beq c d
  | .ostr i, .ostr j => Nat.beq i j
  | .nilp, .nilp => true
  | .nils, .nils => true
  | .nilm, .nilm => true
  | .nilf, .nilf => true
  | .nili, .nili => true
  | _, _ => false
noncomputable def peqs : List AV → List AV → Bool
  | [], [] => true
  | a :: l, b :: m => Bool.rec false (peqs l m) (peq a b)
  | _, _ => false
noncomputable def findVA (i j z : Nat) (src : List AV) (l : List VA) : Option (Nat × Nat) :=
  List.rec (motive := fun _ => Option (Nat × Nat)) none (fun r _ ih => Bool.rec ih (Bool.rec ih (Bool.rec ih (Bool.rec ih (some (r.i', r.j')) (peqs r.src src)) (Nat.beq r.z z)) (Nat.beq r.j j)) (Nat.beq r.i i)) l
noncomputable def findVZ (i j z k : Nat) (zc : List AV) (l : List VZ) : Option (Nat × Nat) :=
  List.rec (motive := fun _ => Option (Nat × Nat)) none (fun r _ ih => Bool.rec ih (Bool.rec ih (Bool.rec ih (Bool.rec ih (Bool.rec ih (some (r.i', r.j')) (peqs r.zc zc)) (Nat.beq r.k k)) (Nat.beq r.z z)) (Nat.beq r.j j)) (Nat.beq r.i i)) l
noncomputable def findVN (z k : Nat) (zc : List AV) (l : List VN) : Option (Nat × Nat) :=
  List.rec (motive := fun _ => Option (Nat × Nat)) none (fun r _ ih => Bool.rec ih (Bool.rec ih (Bool.rec ih (some (r.i', r.j')) (peqs r.zc zc)) (Nat.beq r.k k)) (Nat.beq r.z z)) l
noncomputable def findVL (i k z f n : Nat) (l : List VL) : Option (List AV) :=
  List.rec (motive := fun _ => Option (List AV)) none (fun r _ ih => Bool.rec ih (Bool.rec ih (Bool.rec ih (Bool.rec ih (Bool.rec ih (some r.l) (Nat.beq r.l.length n)) (Nat.beq r.f f)) (Nat.beq r.z z)) (Nat.beq r.k k)) (Nat.beq r.i i)) l
noncomputable def findVS (i k z f : Nat) (c : List AV) (l : List VS) : Option Nat :=
  List.rec (motive := fun _ => Option Nat) none (fun r _ ih => Bool.rec ih (Bool.rec ih (Bool.rec ih (Bool.rec ih (Bool.rec ih (some r.i') (peqs r.l c)) (Nat.beq r.f f)) (Nat.beq r.z z)) (Nat.beq r.k k)) (Nat.beq r.i i)) l
noncomputable def findVC (n : Nat) (l : List (Nat × Nat)) : Option Nat :=
  List.rec (motive := fun _ => Option Nat) none (fun p _ ih => Bool.rec ih (some p.2) (Nat.beq p.1 n)) l
def isT : Option AV → Bool
  | some (.bool true) => true
  | _ => false
def vecIn : Blk → Option Nat
  | .vec i => some i
  | _ => none

variable [Tab]

/-- a number by name that is below another one, and not below 0 -/
noncomputable def ltOk (k j : Nat) : Bool := isT (findB 11 (.oi k) (.oi j) Tab.ib) && isT (findB 14 (.oi k) (.int .i64 0) Tab.ib)
noncomputable def leOk (k j : Nat) : Bool := isT (findB 12 (.oi k) (.oi j) Tab.ib) && isT (findB 14 (.oi k) (.int .i64 0) Tab.ib)

noncomputable def isNe (n c : Nat) (l : List (Nat × Nat)) : Bool :=
  List.rec (motive := fun _ => Bool) false (fun p _ ih => Bool.rec ih (Bool.rec ih true (Nat.beq p.2 c)) (Nat.beq p.1 n)) l
noncomputable def ostrOp (op : BinOp) (i n c : Nat) : Option AV :=
  match op with
  | .eql => ifb (isNe n c (Tab.ne i)) (some (.bool false))
  | .neq => ifb (isNe n c (Tab.ne i)) (some (.bool true))
  | _ => none

noncomputable def gloads (g o n : Nat) : Option (List AV) :=
  Nat.rec (motive := fun _ => Nat → Option (List AV)) (fun _ => some []) (fun _ ih o => ob (Tab.gv g o) fun v => ob (ih (Nat.succ o)) fun r => some (v :: r)) n o
noncomputable def gload? (P : Program) (t : TypeId) (g o : Nat) : Option AV :=
  ob (isAgg? P t) fun b => Bool.rec (Tab.gv g o) (ob (sizeOf? P t) fun n => ob (gloads g o n) fun l => some (.agg l)) b

noncomputable def bin? (P : Program) (h : H) (op : BinOp) (t : TypeId) (c : Bool) (x y : AV) : Option AV :=
  match x, y with
  | .int k a, .int k' b => intBin op k a k' b
  | .str n c, .str m d => strOp op n c m d
  | .ostr i, .str n c => ostrOp op i n c
  | .str n c, .ostr i => ostrOp op i n c
  | .nili, .nili => niliEq op P t c
  | .oi i, y => findB (bcode op) (.oi i) y Tab.ib
  | x, .oi i => findB (bcode op) x (.oi i) Tab.ib
  | x, y => eqOp P h op t x y

noncomputable def un? (op : UnOp) (x : AV) : Option AV :=
  match op, x with
  | op, .oi i => findU (ucode op) (.oi i) Tab.iu
  | .neg, .int k n => some (.int k (k.wrap (0 - n)))
  | .xor, .int k n => some (.int k (k.wrap (BitVec.ofInt k.bits (if k.signed then -1 else k.max) ^^^ BitVec.ofInt k.bits n).toNat))
  | .not, .bool b => some (.bool (!b))
  | _, _ => none

def byteCells : Nat → Nat → List AV
  | 0, _ => []
  | n + 1, c => .int .u8 ((c % 256 : Nat) : Int) :: byteCells n (c / 256)

noncomputable def cellByte : AV → Option Nat
  | .int .u8 (.ofNat n) => ifb (Nat.blt n 256) (some n)
  | _ => none
noncomputable def cellBytes (l : List AV) : Option Nat :=
  List.rec (motive := fun _ => Option Nat) (some 0) (fun v _ ih => ob (cellByte v) fun n => ob ih fun r => some (n + 256 * r)) l

noncomputable def bytesOfSlice (h : H) (v : AV) : Option (Nat × Nat) :=
  match v with
  | .nils => some (0, 0)
  | .sl x o n _ => ob (h.loads x o n) fun l => ob (cellBytes l) fun c => some (n, c)
  | .so x o n _ => ob (h.loads x o n) fun l => ob (cellBytes l) fun c => some (n, c)
  | _ => none

noncomputable def convInt (k : IntKind) (h : H) (x : AV) : Option (AV × H) :=
  match x with
  | .int _ n => some (.int k (wrapF k n), h)
  | .oi i => ob (findC k (.oi i) Tab.ic) fun v => some (v, h)
  | _ => none

def isU8 : TypeDesc → Bool
  | .int .u8 => true
  | _ => false
noncomputable def u8? (P : Program) (e : TypeId) : Bool := Option.rec false isU8 (P.underlying e)

noncomputable def convStr (P : Program) (s : TypeDesc) (h : H) (x : AV) : Option (AV × H) :=
  match s, x with
  | _, .str n c => some (.str n c, h)
  | _, .int _ n => let l := (Utf8.encode n).data.toList; some (.str l.length (enc l), h)
  | .slice e, x => ifb (u8? P e) (ob (bytesOfSlice h x) fun p => some (.str p.1 p.2, h))
  | _, _ => none

/-- a row of bytes that is a constant's -/
def marked : Blk → Option Blk
  | .cells n false z t => some (.cells n true z t)
  | _ => none
noncomputable def convBytes (P : Program) (e : TypeId) (same : Bool) (s : TypeDesc) (h : H) (x : AV) : Option (AV × H) :=
  match x with
  | .sl x o n c => ifb same (ob (asSlice s) fun _ => ifb (u8? P e && Nat.blt x limit) (ob (h.get x) fun b => ob (marked b) fun b => some (.sl x o n c, h.put x b)))
  | .str n c => ifb (u8? P e && Nat.blt n limit) (ob (h.row (byteCells n c) true) fun p => some (.so p.1 0 n 1, p.2))
  | _ => none

noncomputable def conv? (P : Program) (src dst : TypeId) (h : H) (x : AV) : Option (AV × H) :=
  ob (P.underlying src) fun s => ob (P.underlying dst) fun d =>
    match d with
    | .int k => convInt k h x
    | .string => convStr P s h x
    | .slice e => convBytes P e (Nat.beq src dst) s h x
    | _ => none

/- slices -/
def nat? (v : AV) : Option Nat :=
  match v with
  | .int _ (.ofNat n) => some n
  | _ => none

def bound? (d : Nat) : Option AV → Option Nat
  | none => some d
  | some v => nat? v

noncomputable def sub3 (l r m c : Nat) : Bool := Nat.ble l r && (Nat.ble r m && Nat.ble m c)

noncomputable def sliceStr (n c : Nat) (lo hi mx : Option AV) : Option AV :=
  ob (bound? 0 lo) fun l => ob (bound? n hi) fun r =>
    ifb (mx.isNone && (Nat.ble l r && Nat.ble r n)) (some (.str (r - l) (c / 256 ^ l % 256 ^ (r - l))))

noncomputable def sliceRow (z x o n c : Nat) (lo hi mx : Option AV) : Option AV :=
  ob (bound? 0 lo) fun l => ob (bound? n hi) fun r => ob (bound? c mx) fun m =>
    ifb ((mx.isNone || hi.isSome) && sub3 l r m c) (some (.sl x (if m = l then o else o + l * z) (r - l) (m - l)))

noncomputable def sliceOpen (z x o n : Nat) (lo hi mx : Option AV) : Option AV :=
  ob (bound? 0 lo) fun l => ob (bound? n hi) fun r =>
    match mx with
    | none => ifb (Nat.ble l r && Nat.ble r n) (Bool.rec (some .es) (some (.so x (o + l * z) (r - l) z)) (Nat.beq l 0 || Nat.blt l n))
    | some v => ob (nat? v) fun m => ifb (hi.isSome && sub3 l r m n) (some (.sl x (if m = l then o else o + l * z) (r - l) (m - l)))

noncomputable def sliceVec (x j z : Nat) (lo hi : Option AV) : Option AV :=
  match lo, hi with
  | none, some (.oi k) => ifb (leOk k j) (some (.ov x k z))
  | none, some (.int _ (.ofNat n)) => ob (findVC n Tab.vc) fun k => ifb (leOk k j) (some (.ov x k z))
  | _, _ => none

noncomputable def sliceFor (i j z : Nat) (lo hi : Option AV) : Option AV :=
  match lo, hi with
  | none, some (.oi k) => ifb (leOk k j) (some (.fo i k z))
  | none, some (.int _ (.ofNat n)) => ob (findVC n Tab.vc) fun k => ifb (leOk k j) (some (.fo i k z))
  | _, _ => none

noncomputable def sliceSl (P : Program) (e : TypeId) (x : AV) (lo hi mx : Option AV) : Option AV :=
  match x with
  | .nils => ob (bound? 0 lo) fun l => ob (bound? 0 hi) fun r => ob (bound? 0 mx) fun m => ob (sizeOf? P e) fun _ => ifb ((mx.isNone || hi.isSome) && sub3 l r m 0) (some .nils)
  | .sl x o n c => ob (sizeOf? P e) fun z => sliceRow z x o n c lo hi mx
  | .so x o n z' => ob (sizeOf? P e) fun z => ifb (Nat.beq z z') (sliceOpen z x o n lo hi mx)
  | .ov x j z' => ob (sizeOf? P e) fun z => ifb (Nat.beq z z' && mx.isNone) (sliceVec x j z lo hi)
  | .fo i j z' => ob (sizeOf? P e) fun z => ifb (Nat.beq z z' && mx.isNone) (sliceFor i j z lo hi)
  | _ => none

noncomputable def sliceArr (P : Program) (n : Nat) (e : TypeId) (x : AV) (lo hi mx : Option AV) : Option AV :=
  match x with
  | .ptr x o => ob (sizeOf? P e) fun z => sliceRow z x o n n lo hi mx
  | _ => none
def asArray : TypeDesc → Option (Nat × TypeId)
  | .array n e => some (n, e)
  | _ => none

noncomputable def slice? (P : Program) (t : TypeId) (x : AV) (lo hi mx : Option AV) : Option AV :=
  ob (P.underlying t) fun d =>
    match d, x with
    | .string, .str n c => sliceStr n c lo hi mx
    | .slice e, x => sliceSl P e x lo hi mx
    | .pointer arr, x => ob (P.underlying arr) fun d => ob (asArray d) fun q => sliceArr P q.1 q.2 x lo hi mx
    | .array n e, x => sliceArr P n e x lo hi mx
    | _, _ => none

noncomputable def idx (P : Program) (e : TypeId) (x o n k : Nat) : Option AV :=
  ifb (Nat.blt k n) (ob (sizeOf? P e) fun z => some (.ptr x (o + k * z)))

noncomputable def indexAddrD (P : Program) (k : Nat) (x : AV) (d : TypeDesc) : Option AV :=
  match d, x with
  | .array n e, .ptr x o => idx P e x o n k
  | .array n e, .gp g o => ifb (Nat.blt k n) (ob (sizeOf? P e) fun z => some (.gp g (o + k * z)))
  | .slice e, .sl x o n _ => idx P e x o n k
  | .slice e, .so x o n _ => idx P e x o n k
  | _, _ => none
noncomputable def indexVec (P : Program) (x j z : Nat) (i : AV) (d : TypeDesc) : Option AV :=
  ob (asSlice d) fun e => ob (sizeOf? P e) fun s => ifb (Nat.beq s z) (match i with
    | .oi k => ifb (ltOk k j) (some (.op x k z 0))
    | .int _ (.ofNat n) => ob (findVC n Tab.vc) fun k => ifb (ltOk k j) (some (.op x k z 0))
    | _ => none)
noncomputable def indexFor (P : Program) (x j z : Nat) (i : AV) (d : TypeDesc) : Option AV :=
  ob (asSlice d) fun e => ob (sizeOf? P e) fun s => ifb (Nat.beq s z) (match i with
    | .oi k => ifb (ltOk k j) (some (.fp x k z 0))
    | .int _ (.ofNat n) => ob (findVC n Tab.vc) fun k => ifb (ltOk k j) (some (.fp x k z 0))
    | _ => none)
noncomputable def indexAddr? (P : Program) (t : TypeId) (x i : AV) : Option AV :=
  match x with
  | .ov x j z => ob (P.underlying t) (indexVec P x j z i)
  | .fo x j z => ob (P.underlying t) (indexFor P x j z i)
  | x => ob (nat? i) fun k => ob (P.underlying t) (indexAddrD P k x)

noncomputable def indexD (P : Program) (k : Nat) (x : AV) (d : TypeDesc) : Option AV :=
  match d, x with
  | .array n e, .agg cs => ifb (Nat.blt k n) (ob (sizeOf? P e) fun z => part? P e cs (k * z))
  | .string, .str n c => ifb (Nat.blt k n) (some (.int .u8 ((c / 256 ^ k % 256 : Nat) : Int)))
  | _, _ => none
noncomputable def index? (P : Program) (t : TypeId) (x i : AV) : Option AV :=
  ob (nat? i) fun k => ob (P.underlying t) (indexD P k x)

def asStruct : TypeDesc → Option (Array Field)
  | .struct fs => some fs
  | _ => none
noncomputable def fieldOf (P : Program) (t : TypeId) (f : Nat) : Option Field :=
  ob (P.underlying t) fun d => ob (asStruct d) fun fs => fs[f]?

noncomputable def field? (P : Program) (t : TypeId) (x : AV) (f : Nat) : Option AV :=
  match x with
  | .agg cs => ob (fieldOf P t f) fun f => part? P f.type cs f.offset
  | _ => none

noncomputable def fieldOff (P : Program) (t : TypeId) (f : Nat) : Option Nat :=
  ob (fieldOf P t f) fun f => ob (sizeOf? P f.type) fun n => ifb (Nat.blt 0 n) (some f.offset)

noncomputable def fieldAddr? (P : Program) (t : TypeId) (x : AV) (f : Nat) : Option AV :=
  match x with
  | .ptr x o => ob (fieldOff P t f) fun k => some (.ptr x (Nat.add o k))
  | .gp x o => ob (fieldOff P t f) fun k => some (.gp x (Nat.add o k))
  | .op x j z o => ob (fieldOff P t f) fun k => some (.op x j z (Nat.add o k))
  | .fp x j z o => ob (fieldOff P t f) fun k => some (.fp x j z (Nat.add o k))
  | _ => none

def fillAt (cells : List AV) (off : Nat) (vs : List AV) : List AV := cells.take off ++ vs ++ cells.drop (off + vs.length)

noncomputable def fill? (place : Nat → Option (Nat × Nat)) : List (Nat × AV) → List AV → Option (List AV)
  | [], cells => some cells
  | (i, v) :: rest, cells => ob (place i) fun p =>
    ifb (Nat.beq v.cells.length p.2 && Nat.ble (p.1 + p.2) cells.length) (fill? place rest (fillAt cells p.1 v.cells))

noncomputable def evParts (fr : Fr) : List (Nat × Operand) → Option (List (Nat × AV))
  | [] => some []
  | (i, x) :: l => ob (ev x fr) fun a => ob (evParts fr l) fun r => some ((i, a) :: r)

def cyc (z : List AV) : Nat → Nat → List AV
  | _, 0 => []
  | i, n + 1 => (z[i % z.length]?).getD .undef :: cyc z (i + 1) n

noncomputable def placeOf (P : Program) (fs : Array Field) (i : Nat) : Option (Nat × Nat) :=
  ob fs[i]? fun f => ob (sizeOf? P f.type) fun z => some (f.offset, z)
noncomputable def allSized (P : Program) (fs : List Field) : Bool :=
  List.rec (motive := fun _ => Bool) true (fun f _ ih => Option.rec false (fun _ => ih) (P.info? f.type)) fs

noncomputable def build? (P : Program) (t : TypeId) (parts : List (Nat × AV)) : Option AV :=
  ob (zeroOf P t) fun z => ob (P.underlying t) fun d =>
    match d with
    | .struct fs => ifb (allSized P fs.toList) (ob (fill? (placeOf P fs) parts z.cells) fun l => some (.agg l))
    | .array _ e => ob (sizeOf? P e) fun s => ob (fill? (fun i => some (i * s, s)) parts z.cells) fun l => some (.agg l)
    | _ => none

noncomputable def buildCells (P : Program) (t : TypeId) (len : Nat) (parts : List (Nat × AV)) : Option (List AV) :=
  ob (sliceElem P t) fun e => ob (sizeOf? P e) fun s => ob (zeroOf P e) fun z =>
    ifb (Nat.blt (len * s) limit && Nat.beq z.cells.length s) (fill? (fun i => some (i * s, s)) parts (cyc z.cells 0 (len * s)))

noncomputable def buildSlice? (P : Program) (h : H) (t : TypeId) (len : Nat) (parts : List (Nat × AV)) : Option (AV × H) :=
  ob (buildCells P t len parts) fun l => ob (h.row l false) fun p => some (.sl p.1 0 len len, p.2)

noncomputable def makeBlk (P : Program) (t : TypeId) (len cap : AV) : Option (Blk × Nat × Nat) :=
  ob (sliceElem P t) fun e => ob (nat? len) fun l => ob (nat? cap) fun c => ob (sizeOf? P e) fun s => ob (bytesOf? P e) fun b => ob (zeroOf P e) fun z =>
    ifb (Nat.ble l c && (Nat.blt c limit && (Nat.beq z.cells.length s && (Nat.blt 0 s && Nat.blt b limit)))) (some (.cells (c * s) false z.cells .leaf, l, c))


/- builtins -/
noncomputable def mapLen : Blk → Option AV
  | .map es _ => some (.int .i64 es.length)
  | _ => none
noncomputable def lenD (h : H) (x : AV) (d : TypeDesc) : Option AV :=
  match d, x with
  | .string, .str n _ => some (.int .i64 n)
  | .array n _, _ => some (.int .i64 n)
  | .slice _, .nils => some (.int .i64 0)
  | .slice _, .sl _ _ n _ => some (.int .i64 n)
  | .slice _, .so _ _ n _ => some (.int .i64 n)
  | .map _ _, .nilm => some (.int .i64 0)
  | .map _ _, .map x => ob (h.get x) mapLen
  | .slice _, .es => some (.int .i64 0)
  | .slice _, .ov _ j _ => some (.oi j)
  | .slice _, .fo _ j _ => some (.oi j)
  | _, _ => none
noncomputable def len? (P : Program) (h : H) (t : TypeId) (x : AV) : Option AV := ob (P.underlying t) (lenD h x)

def capD (x : AV) (d : TypeDesc) : Option AV :=
  match d, x with
  | .slice _, .nils => some (.int .i64 0)
  | .slice _, .sl _ _ _ c => some (.int .i64 c)
  | _, _ => none
noncomputable def cap? (P : Program) (t : TypeId) (x : AV) : Option AV := ob (P.underlying t) (capD x)

def srcLen : AV → Option Nat
  | .nils => some 0
  | .sl _ _ n _ => some n
  | .so _ _ n _ => some n
  | .str n _ => some n
  | .es => some 0
  | _ => none

noncomputable def srcCells (h : H) (z n : Nat) (v : AV) : Option (List AV) :=
  match v with
  | .nils => ifb (Nat.beq n 0) (some [])
  | .sl x o _ _ => h.loads x o (n * z)
  | .so x o _ _ => h.loads x o (n * z)
  | .str m c => ifb (Nat.beq z 1 && Nat.ble n m) (some (byteCells n c))
  | .es => ifb (Nat.beq n 0) (some [])
  | _ => none

def isInt : TypeDesc → Option Bool
  | .int _ => some true
  | .slice _ => some false
  | .string => some false
  | _ => none
noncomputable def isInt? (P : Program) (t : TypeId) : Option Bool := ob (P.underlying t) isInt

noncomputable def newRow? (h : H) (l : List AV) (n z : Nat) : Option (AV × H) :=
  ob (h.row l true) fun p => some (.so p.1 0 n z, p.2)

noncomputable def openRoom (o need z : Nat) (b : Blk) : Option Bool :=
  match b with
  | .cells k true _ _ => some (Nat.ble (o + need * z) k)
  | _ => none

noncomputable def allOne (l : List AV) : Bool := List.rec (motive := fun _ => Bool) true (fun v _ ih => Bool.rec false ih v.one) l

noncomputable def appendTo (h : H) (z n : Nat) (src : List AV) (s : AV) : Option (AV × H) :=
  match s with
  | .nils => Bool.rec (newRow? h src n z) (some (.nils, h)) (Nat.beq n 0)
  | .sl x o m c =>
    Bool.rec (ob (h.loads x o (m * z)) fun old => ifb (Nat.blt (m + n) limit) (newRow? h (old ++ src) (m + n) z))
      (ob (h.stores x (o + m * z) src) fun h => some (.sl x o (m + n) c, h)) (Nat.ble (m + n) c)
  | .so x o m z' =>
    ifb (Nat.beq z z') (Bool.rec
      (ob (h.get x) fun b => ob (openRoom o (m + n) z b) fun r =>
        Bool.rec (ob (h.loads x o (m * z)) fun old => ifb (Nat.blt (m + n) limit && allOne src) (newRow? (h.kill x) (old ++ src) (m + n) z))
          (ob (h.stores x (o + m * z) src) fun h => some (.so x o (m + n) z, h)) r)
      (some (.so x o m z, h)) (Nat.beq n 0))
  | _ => none

noncomputable def append0? (P : Program) (h : H) (st xt : TypeId) (s x : AV) : Option (AV × H) :=
  ob (sliceElem P st) fun e => ob (sizeOf? P e) fun z => ob (bytesOf? P e) fun b => ob (zeroOf P e) fun v => ob (isInt? P xt) fun i =>
    ifb (Nat.blt 0 b && (Nat.blt b 100000 && (Nat.blt 0 z && (Nat.blt z 1000 && Nat.beq v.cells.length z))))
      (ob (Bool.rec (srcLen x) (nat? x) i) fun n => ifb (Nat.blt n limit)
        (ob (Bool.rec (srcCells h z n x) (some (cyc v.cells 0 (n * z))) i) fun src => appendTo h z n src s))

noncomputable def allPlain (l : List AV) : Bool := List.rec (motive := fun _ => Bool) true (fun v _ ih => Bool.rec false ih (plain v)) l
noncomputable def vecNew (h : H) (z : Nat) (q : Nat × Nat) : Option (AV × H) := ob (h.alloc (.vec q.1)) fun p => some (.ov p.1 q.2 z, p.2)
noncomputable def appendVec? (P : Program) (h : H) (st xt : TypeId) (y j z : Nat) (x : AV) : Option (AV × H) :=
  ob (sliceElem P st) fun e => ob (sizeOf? P e) fun s => ob (bytesOf? P e) fun b => ob (zeroOf P e) fun v => ob (isInt? P xt) fun i =>
    ifb (Nat.beq s z && (Nat.blt 0 b && (Nat.blt b 100000 && (Nat.blt 0 z && (Nat.blt z 1000 && Nat.beq v.cells.length z)))))
      (ob (h.get y) fun bl => ob (vecIn bl) fun vi =>
        Bool.rec (ob (srcLen x) fun n => ifb (Nat.blt n limit) (ob (srcCells h z n x) fun src => ifb (Nat.beq src.length (Nat.mul n z) && allPlain src) (ob (findVA vi j z src Tab.va) (vecNew (h.kill y) z))))
          (match x with
            | .oi k => ifb (allPlain v.cells) (ob (findVZ vi j z k v.cells Tab.vz) (vecNew (h.kill y) z))
            | .int _ (.ofNat n) => ifb (Nat.blt n limit && allPlain (cyc v.cells 0 (Nat.mul n z))) (ob (findVA vi j z (cyc v.cells 0 (Nat.mul n z)) Tab.va) (vecNew (h.kill y) z))
            | _ => none) i)
noncomputable def appendNil? (P : Program) (h : H) (st xt : TypeId) (k : Nat) : Option (AV × H) :=
  ob (sliceElem P st) fun e => ob (sizeOf? P e) fun z => ob (bytesOf? P e) fun b => ob (zeroOf P e) fun v => ob (isInt? P xt) fun i =>
    ifb (i && (Nat.blt 0 b && (Nat.blt b 100000 && (Nat.blt 0 z && (Nat.blt z 1000 && Nat.beq v.cells.length z)))))
      (ob (findVN z k v.cells Tab.vn) (vecNew h z))
noncomputable def makeSlice0? (P : Program) (h : H) (t : TypeId) (len cap : AV) : Option (AV × H) :=
  ob (makeBlk P t len cap) fun q => ob (h.alloc q.1) fun p => some (.sl p.1 0 q.2.1 q.2.2, p.2)
noncomputable def makeVec? (P : Program) (h : H) (t : TypeId) (k j : Nat) : Option (AV × H) :=
  ob (sliceElem P t) fun e => ob (sizeOf? P e) fun z => ob (bytesOf? P e) fun b => ob (zeroOf P e) fun v =>
    ifb (Nat.beq k j && (Nat.blt b 100000 && (Nat.blt 0 z && Nat.beq v.cells.length z))) (ob (findVN z k v.cells Tab.vn) (vecNew h z))
noncomputable def makeSlice? (P : Program) (h : H) (t : TypeId) (len cap : AV) : Option (AV × H) :=
  match len, cap with
  | .oi k, .oi j => makeVec? P h t k j
  | len, cap => makeSlice0? P h t len cap
noncomputable def append? (P : Program) (h : H) (st xt : TypeId) (s x : AV) : Option (AV × H) :=
  match s with
  | .ov y j z => appendVec? P h st xt y j z x
  | .nils => match x with
    | .oi k => appendNil? P h st xt k
    | x => append0? P h st xt .nils x
  | s => append0? P h st xt s x

noncomputable def copyTo (h : H) (x o : Nat) (k : Nat) (l : List AV) : Option (AV × H) :=
  ob (h.stores x o l) fun h => some (.int .i64 k, h)
noncomputable def copy? (P : Program) (h : H) (dt : TypeId) (d s : AV) : Option (AV × H) :=
  ob (sliceElem P dt) fun e => ob (sizeOf? P e) fun z => ob (srcLen s) fun m =>
    match d with
    | .sl x o n _ => ob (srcCells h z (min m n) s) (copyTo h x o (min m n))
    | .so x o n _ => ob (srcCells h z (min m n) s) (copyTo h x o (min m n))
    | _ => none

noncomputable def clearRow (P : Program) (h : H) (t : TypeId) (x o n : Nat) : Option H :=
  Bool.rec (ob (sliceElem P t) fun e => ob (zeroOf P e) fun v => ifb (Nat.blt 0 v.cells.length) (h.stores x o (cyc v.cells 0 (n * v.cells.length)))) (some h) (Nat.beq n 0)
noncomputable def clear? (P : Program) (h : H) (t : TypeId) (x : AV) : Option (AV × H) :=
  ob (P.underlying t) fun _ =>
  match x with
  | .nils => some (.undef, h)
  | .nilm => some (.undef, h)
  | .es => some (.undef, h)
  | .sl x o n _ => ob (clearRow P h t x o n) fun h => some (.undef, h)
  | .so x o n _ => ob (clearRow P h t x o n) fun h => some (.undef, h)
  | _ => none

def min2? : AV → AV → Option AV
  | .int k x, .int _ y => some (.int k (if y < x then y else x))
  | _, _ => none
def max2? : AV → AV → Option AV
  | .int k x, .int _ y => some (.int k (if y > x then y else x))
  | _, _ => none
noncomputable def fold2 (f : AV → AV → Option AV) : List AV → AV → Option AV
  | [], a => some a
  | x :: l, a => ob (f a x) (fold2 f l)

/- maps -/
noncomputable def keyEq : TypeDesc → AV → AV → Option Bool
  | .int _, .int k a, .int k' b => ifb (Nat.beq (kcode k) (kcode k')) (some (a == b))
  | .string, .str n c, .str m d => some (strEq n c m d)
  | .bool, .bool a, .bool b => some (a == b)
  | _, _, _ => none

noncomputable def findKey? (d : TypeDesc) (k : AV) : List (AV × AV × Nat) → Nat → Option (Option (Nat × AV × Nat))
  | [], _ => some none
  | e :: es, i => ob (keyEq d k e.1) fun b => Bool.rec (findKey? d k es (i + 1)) (some (some (i, e.2.1, e.2.2))) b

def plainKey : TypeDesc → AV → Bool
  | .int _, .int _ _ => true
  | .string, .str _ _ => true
  | .bool, .bool _ => true
  | _, _ => false

def asMap : TypeDesc → Option (TypeId × TypeId)
  | .map k e => some (k, e)
  | _ => none
def mapIn : Blk → Option (List (AV × AV × Nat) × Nat)
  | .map es c => some (es, c)
  | _ => none
noncomputable def mapOf (h : H) (x : AV) : Option (List (AV × AV × Nat)) :=
  match x with
  | .nilm => some []
  | .map x => ob (h.get x) fun b => ob (mapIn b) fun p => some p.1
  | _ => none

noncomputable def lookup? (P : Program) (h : H) (t : TypeId) (x i : AV) (ok : Bool) : Option AV :=
  ob (P.underlying t) fun d => ob (asMap d) fun ke => ob (P.underlying ke.1) fun kd => ifb (plainKey kd i)
    (ob (mapOf h x) fun es => ob (findKey? kd i es 0) fun r =>
      ob (Option.rec (ob (zeroOf P ke.2) fun z => some (z, false)) (fun p => some (p.2.1, true)) r) fun p =>
        some (if ok then .tup [p.1, .bool p.2] else p.1))

def mapSet (es : List (AV × AV × Nat)) (i : Nat) (k v : AV) : List (AV × AV × Nat) := es.modify i fun e => (k, v, e.2.2)

noncomputable def mapAt (P : Program) (h : H) (t : TypeId) (m k : AV) (f : Nat → List (AV × AV × Nat) → Nat → TypeId → Option (Nat × AV × Nat) → Option (AV × H)) : Option (AV × H) :=
  match m with
  | .map x => ob (P.underlying t) fun d => ob (asMap d) fun ke => ob (P.underlying ke.1) fun kd => ifb (plainKey kd k && Nat.blt x limit)
      (ob (h.get x) fun b => ob (mapIn b) fun p => ob (findKey? kd k p.1 0) fun r => f x p.1 p.2 ke.2 r)
  | _ => none

noncomputable def mapUpdate? (P : Program) (h : H) (t : TypeId) (m k v : AV) : Option (AV × H) :=
  mapAt P h t m k fun x es clock _ r =>
    match r with
    | some (i, _, _) => some (.undef, h.put x (.map (mapSet es i k v) clock))
    | none => some (.undef, h.put x (.map (es ++ [(k, v, clock)]) (clock + 1)))

noncomputable def mapEntry? (P : Program) (h : H) (t : TypeId) (m k : AV) : Option (AV × H) :=
  mapAt P h t m k fun x es clock e r =>
    match r with
    | some (i, v, b) => some (.tup [v, .int .i64 b], h.put x (.map (mapSet es i k v) clock))
    | none => ob (zeroOf P e) fun z => some (.tup [z, .int .i64 clock], h.put x (.map (es ++ [(k, z, clock)]) (clock + 1)))

noncomputable def delete? (P : Program) (h : H) (t : TypeId) (m k : AV) : Option (AV × H) :=
  mapAt P h t m k fun x es clock _ r =>
    match r with
    | some (i, _, _) => some (.undef, h.put x (.map (es.eraseIdx i) clock))
    | none => some (.undef, h.put x (.map es clock))

noncomputable def entrySet (n : Int) (x : AV) : List (AV × AV × Nat) → Option (List (AV × AV × Nat))
  | [] => none
  | (k, v, b) :: es => if (b : Int) = n then some ((k, x, b) :: es) else ob (entrySet n x es) fun r => some ((k, v, b) :: r)

noncomputable def entryStore? (h : H) (m s v : AV) : Option (AV × H) :=
  match m, s with
  | .map x, .int _ n => ob (h.get x) fun b => ob (mapIn b) fun p => ob (entrySet n v p.1) fun es => ifb (Nat.blt x limit) (some (.undef, h.put x (.map es p.2)))
  | _, _ => none

noncomputable def rangeD (h : H) (x : AV) (d : TypeDesc) : Option (AV × H) :=
  match d, x with
  | .string, .str n c => ob (h.alloc (.siter n c 0)) fun p => some (.ptr p.1 0, p.2)
  | .map _ _, .nilm => ob (h.alloc (.miter none 0 [] 0)) fun p => some (.ptr p.1 0, p.2)
  | .map _ _, .map m => ob (h.get m) fun b => ob (mapIn b) fun q => ob (h.alloc (.miter (some m) q.2 [] q.2)) fun p => some (.ptr p.1 0, p.2)
  | _, _ => none
noncomputable def range? (P : Program) (h : H) (t : TypeId) (x : AV) : Option (AV × H) := ob (P.underlying t) (rangeD h x)

noncomputable def nextStr (h : H) (r n c pos : Nat) : Option (AV × H) :=
  if pos < n then
    ifb (Nat.blt (c / 256 ^ pos % 256) 128 && Nat.blt r limit) (some (.tup [.bool true, .int .i64 pos, .int .i32 ((c / 256 ^ pos % 256 : Nat) : Int)], h.put r (.siter n c (pos + 1))))
  else some (.tup [.bool false], h)

noncomputable def nextMap (h : H) (r m since : Nat) (seen : List Nat) (last : Nat) (es : List (AV × AV × Nat)) (clock : Nat) : Option (List (AV × H)) :=
  if !seen.isEmpty && !es.isEmpty && es.all (fun e => decide (last ≤ e.2.2)) then none else
  match es.filter fun e => !seen.contains e.2.2 with
  | [] => some [(.tup [.bool false], h)]
  | a :: l => ifb ((a :: l).all (fun e => Nat.blt e.2.2 since) && Nat.blt r limit) (some ((a :: l).map fun e => (.tup [.bool true, e.1, e.2.1], h.put r (.miter (some m) since (seen ++ [e.2.2]) clock))))

def one1 (p : AV × H) : List (AV × H) := [p]
noncomputable def nextD (h : H) (r : Nat) (isString : Bool) (b : Blk) : Option (List (AV × H)) :=
  match b, isString with
  | .siter n c pos, true => ob (nextStr h r n c pos) fun p => some (one1 p)
  | .miter none _ _ _, false => some [(.tup [.bool false], h)]
  | .miter (some m) since seen last, false => ob (h.get m) fun b => ob (mapIn b) fun p => nextMap h r m since seen last p.1 p.2
  | _, _ => none

noncomputable def next? (h : H) (it : AV) (isString : Bool) : Option (List (AV × H)) :=
  match it with
  | .ptr r 0 => ob (h.get r) (nextD h r isString)
  | _ => none

/-- what the last step of a range over a map came to -/
noncomputable def findBorn (n : Nat) (es : List (AV × AV × Nat)) : Option AV :=
  List.rec (motive := fun _ => Option AV) none (fun e _ ih => Bool.rec ih (some (.tup [e.1, e.2.1])) (Nat.beq e.2.2 n)) es
noncomputable def entryD (h : H) (b : Blk) : Option AV :=
  match b with
  | .miter (some m) _ seen st => ob seen.getLast? fun n => ob (h.get m) fun b => ob (mapIn b) fun p => ifb (Nat.beq p.2 st) (findBorn n p.1)
  | _ => none
noncomputable def entry? (h : H) (it : AV) : Option AV :=
  match it with
  | .ptr r 0 => ob (h.get r) (entryD h)
  | _ => none

def isIface : TypeDesc → Bool
  | .interface _ => true
  | _ => false
noncomputable def assertD (P : Program) (a : TypeId) (ok : Bool) (x : AV) : Option AV :=
  match x with
  | .iface t v => Bool.rec (ifb ok (ob (zeroOf P a) fun z => some (.tup [z, .bool false]))) (some (if ok then .tup [v, .bool true] else v)) (Nat.beq t a)
  | .nili => ifb ok (ob (zeroOf P a) fun z => some (.tup [z, .bool false]))
  | _ => none
noncomputable def typeAssert? (P : Program) (x : AV) (a : TypeId) (ok : Bool) : Option AV :=
  ob (P.underlying a) fun d => ifb (!isIface d) (assertD P a ok x)

/- an operation -/
inductive Res where
  | val (v : AV) (h : H)
  | call (f : FuncId) (args : List AV)
  | pick (l : List (AV × H))

noncomputable def rv (h : H) (x : Option AV) : Option Res := ob x fun v => some (.val v h)
noncomputable def rvh (x : Option (AV × H)) : Option Res := ob x fun p => some (.val p.1 p.2)

/- functions without a body: their names, letter by letter (package internal bytealg: IndexByteString, CountString) -/
def nameOf (l : List Nat) : String := String.ofList (l.map Char.ofNat)
def nmIndex : String := nameOf [105, 110, 116, 101, 114, 110, 97, 108, 47, 98, 121, 116, 101, 97, 108, 103, 46, 73, 110, 100, 101, 120, 66, 121, 116, 101, 83, 116, 114, 105, 110, 103]
def nmCount : String := nameOf [105, 110, 116, 101, 114, 110, 97, 108, 47, 98, 121, 116, 101, 97, 108, 103, 46, 67, 111, 117, 110, 116, 83, 116, 114, 105, 110, 103]
noncomputable def idxB (k : Nat) (l : List Nat) : Nat → Int :=
  List.rec (motive := fun _ => Nat → Int) (fun _ => -1) (fun b _ ih i => Bool.rec (ih (Nat.succ i)) (Int.ofNat i) (Nat.beq b k)) l
noncomputable def cntB (k : Nat) (l : List Nat) : Nat :=
  List.rec (motive := fun _ => Nat) 0 (fun b _ ih => Bool.rec ih (Nat.succ ih) (Nat.beq b k)) l
noncomputable def extOf (fn : Func) (args : List AV) : Option AV :=
  match args with
  | [.str n c, .int .u8 (.ofNat k)] =>
    ifb (Nat.blt k 256) (ifb (fn.origin == "") (Bool.rec (ifb (fn.name == nmCount) (some (.int .i64 (cntB k (dec n c))))) (some (.int .i64 (idxB k (dec n c) 0))) (fn.name == nmIndex)))
  | _ => none
noncomputable def callFn? (P : Program) (h : H) (f : FuncId) (args : List AV) : Option Res :=
  ob P.funcs[f]? fun fn => ifb (fn.name != "runtime.NumGoroutine") (Option.rec (rv h (extOf fn args)) (fun _ => some (.call f args)) fn.body)

noncomputable def builtin? (P : Program) (h : H) (b : Builtin) (tys : List TypeId) (args : List AV) : Option Res :=
  match b, args, tys with
  | .append, [s, x], [st, xt] => rvh (append? P h st xt s x)
  | .copy, [d, s], dt :: _ => rvh (copy? P h dt d s)
  | .len, [x], t :: _ => rv h (len? P h t x)
  | .cap, [x], t :: _ => rv h (cap? P t x)
  | .min, a :: l, _ => rv h (fold2 min2? l a)
  | .max, a :: l, _ => rv h (fold2 max2? l a)
  | .delete, [m, k], t :: _ => rvh (delete? P h t m k)
  | .clear, [x], t :: _ => rvh (clear? P h t x)
  | _, _, _ => none

noncomputable def methodOf (P : Program) (t : TypeId) (name : String) : Option FuncId :=
  ob (P.info? t) fun i => ob (i.methods.find? (·.name == name)) fun m => ob m.func fun q => ob (P.underlying t) fun d =>
    ifb (m.path.isEmpty) (match d, q.2 with
      | .pointer _, true => some q.1
      | .pointer _, false => none
      | _, true => none
      | _, false => some q.1)

noncomputable def callVal (P : Program) (h : H) (args : List AV) (f : AV) : Option Res :=
  match f with
  | .fn (.func f) first cap => callFn? P h f (first ++ args ++ cap)
  | _ => none

noncomputable def callMeth (P : Program) (h : H) (name : String) (args : List AV) (r : AV) : Option Res :=
  match r with
  | .iface t v => ob (methodOf P t name) fun f => callFn? P h f (v :: args)
  | _ => none

noncomputable def oCall (c : Call) (P : Program) (fr : Fr) (h : H) : Option Res :=
  ob (evs fr c.args.toList) fun args =>
    match c.callee with
    | .builtin b => builtin? P h b c.argTypes.toList args
    | .value f => ob (ev f fr) (callVal P h args)
    | .invoke r name => ob (ev r fr) (callMeth P h name args)

noncomputable def opt? (fr : Fr) (x : Option Operand) : Option (Option AV) :=
  match x with
  | none => some none
  | some x => ob (ev x fr) fun v => some (some v)

noncomputable def oMove (x : Operand) (_ : Program) (fr : Fr) (h : H) : Option Res := ob (ev x fr) fun v => some (.val v h)
noncomputable def pickD (a b : Operand) (fr : Fr) (h : H) (v : AV) : Option Res :=
  match v with
  | .bool t => Bool.rec (rv h (ev b fr)) (rv h (ev a fr)) t
  | _ => none
noncomputable def oPick (c a b : Operand) (_ : Program) (fr : Fr) (h : H) : Option Res := ob (ev c fr) (pickD a b fr h)
noncomputable def oAlloc (e : TypeId) (P : Program) (_ : Fr) (h : H) : Option Res :=
  ob (zeroOf P e) fun z => ob (h.row z.cells false) fun p => some (.val (.ptr p.1 0) p.2)
noncomputable def oBox (_ : TypeId) (x : Operand) (_ : Program) (fr : Fr) (h : H) : Option Res :=
  ob (ev x fr) fun v => ob (h.row v.cells false) fun p => some (.val (.ptr p.1 0) p.2)
noncomputable def oBuild (t : TypeId) (ps : Array (Nat × Operand)) (P : Program) (fr : Fr) (h : H) : Option Res :=
  ob (evParts fr ps.toList) fun l => rv h (build? P t l)
noncomputable def oBuildSlice (t : TypeId) (n : Nat) (ps : Array (Nat × Operand)) (P : Program) (fr : Fr) (h : H) : Option Res :=
  ob (evParts fr ps.toList) fun l => rvh (buildSlice? P h t n l)
noncomputable def vload? (P : Program) (h : H) (t : TypeId) (x k z f : Nat) : Option AV :=
  ob (h.get x) fun b => ob (vecIn b) fun i => ob (isAgg? P t) fun b => Bool.rec (ob (findVL i k z f 1 Tab.vl) fun l => l.head?) (ob (sizeOf? P t) fun n => ob (findVL i k z f n Tab.vl) fun l => some (.agg l)) b
noncomputable def fload? (P : Program) (t : TypeId) (i k z f : Nat) : Option AV :=
  ob (isAgg? P t) fun b => Bool.rec (ob (findVL i k z f 1 Tab.fl) fun l => l.head?) (ob (sizeOf? P t) fun n => ob (findVL i k z f n Tab.fl) fun l => some (.agg l)) b
noncomputable def vstore? (P : Program) (h : H) (t : TypeId) (x k z f : Nat) (v : AV) : Option H :=
  ob (sizeOf? P t) fun n => ifb (Nat.beq v.cells.length n && allPlain v.cells) (ob (h.get x) fun b => ob (vecIn b) fun i => ob (findVS i k z f v.cells Tab.vs) fun i' => ifb (Nat.blt x limit) (some (h.put x (.vec i'))))
noncomputable def loadD (t : TypeId) (P : Program) (h : H) (a : AV) : Option Res :=
  match a with
  | .ptr x o => rv h (loadVar? P h t x o)
  | .gp g o => rv h (gload? P t g o)
  | .op x k z f => rv h (vload? P h t x k z f)
  | .fp i k z f => rv h (fload? P t i k z f)
  | _ => none
noncomputable def oLoad (t : TypeId) (a : Operand) (P : Program) (fr : Fr) (h : H) : Option Res := ob (ev a fr) (loadD t P h)
noncomputable def storeD (t : TypeId) (v : Operand) (P : Program) (fr : Fr) (h : H) (a : AV) : Option Res :=
  match a with
  | .ptr x o => ob (ev v fr) fun v => ob (storeVar? P h t x o v) fun h => some (.val .undef h)
  | .op x k z f => ob (ev v fr) fun v => ob (vstore? P h t x k z f v) fun h => some (.val .undef h)
  | _ => none
noncomputable def oStore (t : TypeId) (a v : Operand) (P : Program) (fr : Fr) (h : H) : Option Res := ob (ev a fr) (storeD t v P fr h)
noncomputable def nilD (h : H) (v : AV) : Option Res :=
  match v with
  | .ptr x o => some (.val (.ptr x o) h)
  | .gp x o => some (.val (.gp x o) h)
  | .op x k z f => some (.val (.op x k z f) h)
  | .fp x k z f => some (.val (.fp x k z f) h)
  | .iface t v => some (.val (.iface t v) h)
  | .fn (.func f) a b => some (.val (.fn (.func f) a b) h)
  | _ => none
noncomputable def oNil (x : Operand) (_ : Program) (fr : Fr) (h : H) : Option Res := ob (ev x fr) (nilD h)
noncomputable def oBin (op : BinOp) (t : TypeId) (x y : Operand) (_ : TypeId) (P : Program) (fr : Fr) (h : H) : Option Res :=
  ob (ev x fr) fun a => ob (ev y fr) fun b => rv h (bin? P h op t (isConst x || isConst y) a b)
noncomputable def oUn (op : UnOp) (_ : TypeId) (x : Operand) (_ : Program) (fr : Fr) (h : H) : Option Res := ob (ev x fr) fun a => rv h (un? op a)
noncomputable def oConv (s d : TypeId) (x : Operand) (P : Program) (fr : Fr) (h : H) : Option Res := ob (ev x fr) fun a => rvh (conv? P s d h a)
noncomputable def oIface (t : TypeId) (x : Operand) (P : Program) (fr : Fr) (h : H) : Option Res :=
  ob (ev x fr) fun a => ob (P.underlying t) fun d => ifb (!isIface d) (some (.val (.iface t a) h))
noncomputable def oFunc (f : Fn) (a b : Array Operand) (_ : Program) (fr : Fr) (h : H) : Option Res :=
  ob (evs fr a.toList) fun a => ob (evs fr b.toList) fun b => some (.val (.fn f a b) h)
noncomputable def hintOk (P : Program) (t : TypeId) (fr : Fr) (r : Option Operand) : Option Unit :=
  match r with
  | none => some ()
  | some r => ob (P.underlying t) fun d => ob (asMap d) fun _ => ob (ev r fr) fun v => ob (nat? v) fun _ => some ()
noncomputable def oMakeMap (t : TypeId) (r : Option Operand) (P : Program) (fr : Fr) (h : H) : Option Res :=
  ob (hintOk P t fr r) fun _ => ob (h.alloc (.map [] 0)) fun p => some (.val (.map p.1) p.2)
noncomputable def oMakeSlice (t : TypeId) (l c : Operand) (P : Program) (fr : Fr) (h : H) : Option Res :=
  ob (ev l fr) fun l => ob (ev c fr) fun c => rvh (makeSlice? P h t l c)
noncomputable def oSlice (t : TypeId) (x : Operand) (lo hi mx : Option Operand) (P : Program) (fr : Fr) (h : H) : Option Res :=
  ob (ev x fr) fun x => ob (opt? fr lo) fun lo => ob (opt? fr hi) fun hi => ob (opt? fr mx) fun mx => rv h (slice? P t x lo hi mx)
noncomputable def oFieldAddr (t : TypeId) (x : Operand) (f : Nat) (P : Program) (fr : Fr) (h : H) : Option Res := ob (ev x fr) fun x => rv h (fieldAddr? P t x f)
noncomputable def oField (t : TypeId) (x : Operand) (f : Nat) (P : Program) (fr : Fr) (h : H) : Option Res := ob (ev x fr) fun x => rv h (field? P t x f)
noncomputable def oIndexAddr (t : TypeId) (x i : Operand) (P : Program) (fr : Fr) (h : H) : Option Res :=
  ob (ev x fr) fun x => ob (ev i fr) fun i => rv h (indexAddr? P t x i)
noncomputable def oIndex (t : TypeId) (x i : Operand) (P : Program) (fr : Fr) (h : H) : Option Res :=
  ob (ev x fr) fun x => ob (ev i fr) fun i => rv h (index? P t x i)
noncomputable def oLookup (t : TypeId) (x i : Operand) (ok : Bool) (P : Program) (fr : Fr) (h : H) : Option Res :=
  ob (ev x fr) fun x => ob (ev i fr) fun i => rv h (lookup? P h t x i ok)
noncomputable def oMapUpdate (t : TypeId) (m k v : Operand) (P : Program) (fr : Fr) (h : H) : Option Res :=
  ob (ev m fr) fun m => ob (ev k fr) fun k => ob (ev v fr) fun v => rvh (mapUpdate? P h t m k v)
noncomputable def oMapEntry (t : TypeId) (m k : Operand) (P : Program) (fr : Fr) (h : H) : Option Res :=
  ob (ev m fr) fun m => ob (ev k fr) fun k => rvh (mapEntry? P h t m k)
noncomputable def oEntryStore (_ : TypeId) (m s v : Operand) (_ : Program) (fr : Fr) (h : H) : Option Res :=
  ob (ev m fr) fun m => ob (ev s fr) fun s => ob (ev v fr) fun v => rvh (entryStore? h m s v)
noncomputable def oRange (t : TypeId) (x : Operand) (P : Program) (fr : Fr) (h : H) : Option Res := ob (ev x fr) fun x => rvh (range? P h t x)
noncomputable def resOf (l : List (AV × H)) : Res :=
  match l with
  | [p] => .val p.1 p.2
  | l => .pick l
noncomputable def oNext (x : Operand) (s : Bool) (_ : Program) (fr : Fr) (h : H) : Option Res := ob (ev x fr) fun x => ob (next? h x s) fun l => some (resOf l)
noncomputable def oEntry (x : Operand) (_ : Program) (fr : Fr) (h : H) : Option Res := ob (ev x fr) fun x => rv h (entry? h x)
noncomputable def oAssert (x : Operand) (_ a : TypeId) (ok : Bool) (P : Program) (fr : Fr) (h : H) : Option Res := ob (ev x fr) fun x => rv h (typeAssert? P x a ok)
noncomputable def extractD (i : Nat) (v : AV) : Option AV :=
  match v with
  | .tup l => l[i]?
  | _ => none
noncomputable def oExtract (x : Operand) (i : Nat) (_ : Program) (fr : Fr) (h : H) : Option Res := ob (ev x fr) fun v => rv h (extractD i v)
noncomputable def oNone (_ : Program) (_ : Fr) (_ : H) : Option Res := none

noncomputable def op? (o : Op) : Program → Fr → H → Option Res :=
  match o with
  | .move x => oMove x
  | .assign x => oMove x
  | .pick c a b => oPick c a b
  | .alloc e => oAlloc e
  | .box e v => oBox e v
  | .build t ps => oBuild t ps
  | .buildSlice t n ps => oBuildSlice t n ps
  | .load t a => oLoad t a
  | .store t a v => oStore t a v
  | .nilCheck x => oNil x
  | .binOp op t x y u => oBin op t x y u
  | .unOp op t x => oUn op t x
  | .convert s d x => oConv s d x
  | .makeInterface t x => oIface t x
  | .makeFunc f a b => oFunc f a b
  | .makeMap t r => oMakeMap t r
  | .makeSlice t l c => oMakeSlice t l c
  | .slice t x lo hi mx => oSlice t x lo hi mx
  | .fieldAddr t x f => oFieldAddr t x f
  | .field t x f => oField t x f
  | .indexAddr t x i => oIndexAddr t x i
  | .index t x i => oIndex t x i
  | .lookup t x i ok => oLookup t x i ok
  | .mapUpdate t m k v => oMapUpdate t m k v
  | .insert t m k v => oMapUpdate t m k v
  | .mapEntry t m k => oMapEntry t m k
  | .entryStore t m s v => oEntryStore t m s v
  | .range t x => oRange t x
  | .next it s => oNext it s
  | .entry it => oEntry it
  | .typeAssert x t a ok => oAssert x t a ok
  | .extract x i => oExtract x i
  | .call c => oCall c
  | _ => oNone

/- control -/
inductive Ex where
  | normal
  | exit (id : Nat)
  | ret

abbrev Out := Option (List (Ex × Fr × H))
abbrev Run := Nat → Code → Fr → H → Out
/-- what runs code, and what makes a call -/
structure Rec where
  run : Run
  call : FuncId → List AV → H → Option (AV × H)

noncomputable def resD (P : Program) (h : H) (t : TypeId) (v : AV) : Option AV :=
  match v with
  | .ptr x o => loadVar? P h t x o
  | _ => none
noncomputable def res? (P : Program) (fr : Fr) (h : H) (r : ResultVar) : Option AV :=
  match r with
  | .tmp t => fr.get t
  | .cell a t => ob (fr.get a) (resD P h t)

noncomputable def ress? (P : Program) (fr : Fr) (h : H) (l : List ResultVar) : Option (List AV) :=
  List.rec (motive := fun _ => Option (List AV)) (some []) (fun r _ ih => ob (res? P fr h r) fun v => ob ih fun vs => some (v :: vs)) l

def tupD (vs : List AV) : AV :=
  match vs with
  | [v] => v
  | vs => .tup vs

noncomputable def results? (P : Program) (fn : Func) (fr : Fr) (h : H) : Option AV := ob (ress? P fr h fn.results.toList) fun vs => some (tupD vs)

/- outcomes: a list of all that may come -/
noncomputable def bindL {α β : Type} (l : List α) (f : α → Option (List β)) : Option (List β) :=
  List.rec (motive := fun _ => Option (List β)) (some []) (fun x t ih => List.rec (motive := fun _ => Option (List β)) (f x) (fun _ _ _ => ob (f x) fun a => ob ih fun b => some (a ++ b)) t) l
noncomputable def mapO {α β : Type} (l : List α) (f : α → Option β) : Option (List β) :=
  List.rec (motive := fun _ => Option (List β)) (some []) (fun x _ ih => ob (f x) fun a => ob ih fun b => some (a :: b)) l
noncomputable def obL {α β : Type} (x : Option (List α)) (f : α → Option (List β)) : Option (List β) := ob x fun l => bindL l f

mutual
def veq : AV → AV → Bool
  | .bool a, .bool b => a == b
  | .int k a, .int k' b => Nat.beq (kcode k) (kcode k') && a == b
  | .str n c, .str m d => strEq n c m d
  | .nilp, .nilp => true
  | .ptr x o, .ptr y p => Nat.beq x y && Nat.beq o p
  | .nils, .nils => true
  | .sl x o n c, .sl y p m d => Nat.beq x y && (Nat.beq o p && (Nat.beq n m && Nat.beq c d))
  | .so x o n c, .so y p m d => Nat.beq x y && (Nat.beq o p && (Nat.beq n m && Nat.beq c d))
  | .nilm, .nilm => true
  | .map x, .map y => Nat.beq x y
  | .fn (.func f) a b, .fn (.func g) c d => Nat.beq f g && (veqs a c && veqs b d)
  | .nilf, .nilf => true
  | .iface t v, .iface u x => Nat.beq t u && veq v x
  | .nili, .nili => true
  | .agg l, .agg m => veqs l m
  | .tup l, .tup m => veqs l m
  | .ostr i, .ostr j => Nat.beq i j
  | .gp x o, .gp y p => Nat.beq x y && Nat.beq o p
  | .oi i, .oi j => Nat.beq i j
  | .es, .es => true
  | .ov x j z, .ov x' j' z' => Nat.beq x x' && (Nat.beq j j' && Nat.beq z z')
  | .fo x j z, .fo x' j' z' => Nat.beq x x' && (Nat.beq j j' && Nat.beq z z')
  | .fp x j z f, .fp x' j' z' f' => Nat.beq x x' && (Nat.beq j j' && (Nat.beq z z' && Nat.beq f f'))
  | .op x j z f, .op x' j' z' f' => Nat.beq x x' && (Nat.beq j j' && (Nat.beq z z' && Nat.beq f f'))
  | _, _ => false
def veqs : List AV → List AV → Bool
  | [], [] => true
  | a :: l, b :: m => veq a b && veqs l m
  | _, _ => false
end

noncomputable def bothO {α : Type} (eq : α → α → Bool) (a b : Option α) : Option α :=
  Option.rec none (fun x => Option.rec none (fun y => Bool.rec none (some x) (eq x y)) b) a
/-- what two of them have in common -/
noncomputable def T.inter {α : Type} (eq : α → α → Bool) (a : T α) : T α → T α :=
  T.rec (motive := fun _ => T α → T α) (fun _ => .leaf)
    (fun _ v _ ihl ihr b => T.rec (motive := fun _ => T α) .leaf (fun l' v' r' _ _ => fT (ihl l') fun l => fT (ihr r') fun r => .node l (bothO eq v v') r) b) a
noncomputable def eqO {α : Type} (eq : α → α → Bool) (a b : Option α) : Bool :=
  Option.rec (Option.rec true (fun _ => false) b) (fun x => Option.rec false (fun y => eq x y) b) a
noncomputable def T.same {α : Type} (eq : α → α → Bool) (a : T α) : T α → Bool :=
  T.rec (motive := fun _ => T α → Bool) (fun b => T.rec (motive := fun _ => Bool) true (fun _ _ _ _ _ => false) b)
    (fun _ v _ ihl ihr b => T.rec (motive := fun _ => Bool) false (fun l' v' r' _ _ => eqO eq v v' && (ihl l' && ihr r')) b) a
def eqEs : List (AV × AV × Nat) → List (AV × AV × Nat) → Bool
  | [], [] => true
  | a :: l, b :: m => veq a.1 b.1 && (veq a.2.1 b.2.1 && (Nat.beq a.2.2 b.2.2 && eqEs l m))
  | _, _ => false
def eqNs : List Nat → List Nat → Bool
  | [], [] => true
  | a :: l, b :: m => Nat.beq a b && eqNs l m
  | _, _ => false
noncomputable def beq? (a b : Blk) : Bool :=
  match a, b with
  | .cells n p z t, .cells n' p' z' t' => Nat.beq n n' && ((p == p') && (veqs z z' && t.same veq t'))
  | .glob n z t, .glob n' z' t' => Nat.beq n n' && (veqs z z' && t.same veq t')
  | .map es c, .map es' c' => Nat.beq c c' && eqEs es es'
  | .siter n c p, .siter n' c' p' => Nat.beq n n' && (Nat.beq c c' && Nat.beq p p')
  | .miter (some m) s l t, .miter (some m') s' l' t' => Nat.beq m m' && (Nat.beq s s' && (eqNs l l' && Nat.beq t t'))
  | .miter none s l t, .miter none s' l' t' => Nat.beq s s' && (eqNs l l' && Nat.beq t t')
  | .vec i, .vec j => Nat.beq i j
  | _, _ => false
noncomputable def H.inter (h h' : H) : H := fN (Nat.max h.next h'.next) fun n => fT (T.inter beq? h.t h'.t) fun t => ⟨n, t⟩
def exEq : Ex → Ex → Bool
  | .normal, .normal => true
  | .ret, .ret => true
  | .exit i, .exit j => Nat.beq i j
  | _, _ => false
noncomputable def merge2 (a b : Ex × Fr × H) : Option (Ex × Fr × H) :=
  ifb (exEq a.1 b.1) (fT (T.inter veq a.2.1 b.2.1) fun fr => fH (a.2.2.inter b.2.2) fun h => some (a.1, fr, h))
/-- all of them in one, if that can be -/
noncomputable def mergeGo (l : List (Ex × Fr × H)) : Ex × Fr × H → Option (Ex × Fr × H) :=
  List.rec (motive := fun _ => Ex × Fr × H → Option (Ex × Fr × H)) (fun a => some a) (fun b _ ih a => ob (merge2 a b) ih) l
noncomputable def mergeO (l : List (Ex × Fr × H)) : Out :=
  List.rec (motive := fun _ => Out) (some []) (fun x t _ => List.rec (motive := fun _ => Out) (some [x]) (fun _ _ _ => Option.rec (some (x :: t)) (fun q => some [q]) (mergeGo t x)) t) l
noncomputable def mergeV2 (a b : AV × H) : Option (AV × H) := ifb (veq a.1 b.1) (fH (a.2.inter b.2) fun h => some (a.1, h))
noncomputable def mergeV (l : List (AV × H)) : Option (AV × H) :=
  List.rec (motive := fun _ => Option (AV × H)) none (fun x t ih => List.rec (motive := fun _ => Option (AV × H)) (some x) (fun _ _ _ => ob ih fun q => mergeV2 x q) t) l

noncomputable def leaves (P : Program) (fn : Func) (e : Ex) (fr : Fr) (h : H) : Option (AV × H) :=
  match e with
  | .normal => ob (results? P fn fr h) fun v => some (v, h)
  | .ret => ob (results? P fn fr h) fun v => some (v, h)
  | .exit _ => none

noncomputable def enter? (P : Program) (run : Run) (f : FuncId) (args : List AV) (h : H) : Option (AV × H) :=
  ob P.funcs[f]? fun fn => ob fn.body fun body => ifb (Nat.ble args.length fn.ntmps && Nat.blt args.length limit)
    (ob (run fn.ntmps body (T.ofList 0 .leaf args) h) fun l => ob (mapO l (fun r => Prod.rec (fun e q => Prod.rec (fun fr h => leaves P fn e fr h) q) r)) mergeV)

noncomputable def put? (nt : Nat) (d : Option Tmp) (v : AV) (fr : Fr) : Option Fr :=
  match d with
  | some d => ifb (Nat.blt d nt && Nat.blt d limit) (some (fr.put d v))
  | none => some fr

noncomputable def guardV (b : Bool) (v : AV) : Option Bool :=
  match v with
  | .bool t => some (t == b)
  | .tup _ => some false
  | _ => none
noncomputable def wanted? (ops : List Oper) (fr : Fr) (g : Option (Nat × Bool)) : Option Bool :=
  match g with
  | none => some true
  | some (j, b) => ob ops[j]? fun o => ob o.dst fun d => ob (fr.get d) (guardV b)

noncomputable def putH (nt : Nat) (d : Option Tmp) (fr : Fr) (v : AV) (h : H) : Option (List (Fr × H)) := fV v fun v => fH h fun h => ob (put? nt d v fr) fun fr => fT fr fun fr => some [(fr, h)]

noncomputable def finish (_ : Program) (rec : Rec) (nt : Nat) (d : Option Tmp) (fr : Fr) (h : H) (r : Res) : Option (List (Fr × H)) :=
  match r with
  | .val v h => putH nt d fr v h
  | .call f args => ob2 (rec.call f args h) fun v h => putH nt d fr v h
  | .pick l => bindL l fun p => putH nt d fr p.1 p.2

noncomputable def oper? (P : Program) (rec : Rec) (nt : Nat) (ops : List Oper) (o : Oper) (fr : Fr) (h : H) : Option (List (Fr × H)) :=
  ob (wanted? ops fr o.guard) fun b => Bool.rec (putH nt o.dst fr .undef h) (ob (op? o.op P fr h) (finish P rec nt o.dst fr h)) b

noncomputable def opers? (P : Program) (rec : Rec) (nt : Nat) (ops : List Oper) (l : List Oper) : Fr → H → Option (List (Fr × H)) :=
  List.rec (motive := fun _ => Fr → H → Option (List (Fr × H))) (fun fr h => some [(fr, h)])
    (fun o _ ih fr h => obL (oper? P rec nt ops o fr h) fun p => Prod.rec (fun fr h => ih fr h) p) l

/- a region whose order is drawn -/
noncomputable def quietOp (o : Op) : Program → Bool :=
  match o with
  | .move _ => fun _ => true
  | .assign _ => fun _ => true
  | .pick .. => fun _ => true
  | .build .. => fun _ => true
  | .load .. => fun _ => true
  | .nilCheck _ => fun _ => true
  | .binOp .. => fun _ => true
  | .unOp .. => fun _ => true
  | .makeInterface .. => fun _ => true
  | .makeFunc .. => fun _ => true
  | .slice .. => fun _ => true
  | .fieldAddr .. => fun _ => true
  | .field .. => fun _ => true
  | .indexAddr .. => fun _ => true
  | .index .. => fun _ => true
  | .lookup .. => fun _ => true
  | .typeAssert .. => fun _ => true
  | .extract .. => fun _ => true
  | .convert _ d _ => fun P => (sliceElem P d).isNone
  | .call c => fun _ => match c.callee with
    | .builtin .len => true
    | .builtin .cap => true
    | .builtin .min => true
    | .builtin .max => true
    | _ => false
  | _ => fun _ => false

/-- what an operation makes that makes memory alone, under the name x -/
noncomputable def alloc? (o : Op) : Program → Fr → Nat → Option (Blk × AV) :=
  match o with
  | .alloc e => fun P _ x => ob (zeroOf P e) fun z => ifb (Nat.blt z.cells.length limit) (some (rowOf z.cells false, .ptr x 0))
  | .box _ v => fun _ fr x => ob (ev v fr) fun a => ifb (Nat.blt a.cells.length limit) (some (rowOf a.cells false, .ptr x 0))
  | .buildSlice t n ps => fun P fr x => ob (evParts fr ps.toList) fun l => ob (buildCells P t n l) fun c => ifb (Nat.blt c.length limit) (some (rowOf c false, .sl x 0 n n))
  | .makeMap t r => fun P fr x => ob (hintOk P t fr r) fun _ => some (.map [] 0, .map x)
  | .makeSlice t l c => fun P fr x => ob (ev l fr) fun l => ob (ev c fr) fun c => ob (makeBlk P t l c) fun q => some (q.1, .sl x 0 q.2.1 q.2.2)
  | _ => fun _ _ _ => none
def isAlloc : Op → Bool
  | .alloc _ => true
  | .box .. => true
  | .buildSlice .. => true
  | .makeMap .. => true
  | .makeSlice .. => true
  | _ => false

/-- does it look into memory? -/
def readOp : Op → Bool
  | .load .. => true
  | .lookup .. => true
  | .binOp .. => true
  | .convert .. => true
  | .call _ => true
  | _ => false

inductive Kd where
  | skip
  | quiet
  | made (x : Nat) (b : Blk)
  | loud

/-- one operation of a trace: the frame ahead of it, what it gave, how many loud ones were ahead of it, of which kind it is -/
structure Tr where
  fr : Fr
  v : AV
  cnt : Nat
  kd : Kd

noncomputable def valOf (_ : Program) (rec : Rec) (h : H) (r : Res) : Option (AV × H) :=
  match r with
  | .val v h => some (v, h)
  | .call f args => rec.call f args h
  | .pick _ => none
noncomputable def plainOf (r : Res) : Option AV :=
  match r with
  | .val v _ => some v
  | .call _ _ => none
  | .pick _ => none

structure TrOut where
  trs : List Tr
  hs : List H
  fr : Fr
  h : H
abbrev Trace := Option TrOut
noncomputable def trCons (t : Tr) (hs : List H) (r : Trace) : Trace := ob r fun q => some ⟨t :: q.trs, hs ++ q.hs, q.fr, q.h⟩

/-- l: what is to come; fr, h: the frame and the memory now; c: so many loud ones have been; x: the next name that is set aside -/
noncomputable def trace? (P : Program) (rec : Rec) (nt : Nat) (ops : List Oper) (l : List Oper) : Fr → H → Nat → Nat → Trace :=
  List.rec (motive := fun _ => Fr → H → Nat → Nat → Trace) (fun fr h _ _ => some ⟨[], [], fr, h⟩)
    (fun o _ ih fr h c x => ob (wanted? ops fr o.guard) fun b =>
      Bool.rec (ob (put? nt o.dst .undef fr) fun fr' => fT fr' fun fr' => trCons ⟨fr, .undef, c, .skip⟩ [] (ih fr' h c x))
        (Bool.rec
          (ob (op? o.op P fr h) fun r =>
            Bool.rec (ob2 (valOf P rec h r) fun v h => fV v fun v => fH h fun h => ob (put? nt o.dst v fr) fun fr' => fT fr' fun fr' => trCons ⟨fr, v, c, .loud⟩ [h] (ih fr' h (Nat.succ c) x))
              (ob (plainOf r) fun v => fV v fun v => ob (put? nt o.dst v fr) fun fr' => fT fr' fun fr' => trCons ⟨fr, v, c, .quiet⟩ [] (ih fr' h c x))
              (quietOp o.op P))
          (ob2 (alloc? o.op P fr x) fun b v => fV v fun v => fH (h.put x b) fun h => ob (put? nt o.dst v fr) fun fr' => fT fr' fun fr' => trCons ⟨fr, v, c, .made x b⟩ [] (ih fr' h c (Nat.succ x)))
          (isAlloc o.op)) b) l

def ancOf (acc : List Nat) (o : Oper) : Nat :=
  o.after.toList.foldl (fun s e => if Region.binds .any e then s ||| (1 <<< e.on) ||| acc.getD e.on 0 else s) 0
def ancGo : List Oper → List Nat → List Nat
  | [], acc => acc
  | o :: l, acc => ancGo l (acc ++ [ancOf acc o])
def ancs (ops : List Oper) : List Nat := ancGo ops []

def tmpOf : Operand → Option Nat
  | .tmp t => some t
  | _ => none
def readsOf (ops : List Oper) (o : Oper) : List Nat :=
  o.op.operands.toList.filterMap tmpOf ++ (match o.guard with
    | none => []
    | some (j, _) => match ops[j]? with
      | none => []
      | some g => g.dst.toList)

def pairOk (as : List Nat) (i m : Nat) : Bool :=
  (Nat.blt m i && (as.getD i 0).testBit m) || (Nat.blt i m && (as.getD m 0).testBit i)

/-- edges go back; no slot is written twice; whoever reads a slot that is written here stands in an order to the writer -/
def staticOk (ops : List Oper) : Bool :=
  let as := ancs ops
  ops.zipIdx.all fun p =>
    (p.1.after.toList.all fun e => !Region.binds .any e || Nat.blt e.on p.2) &&
    (let rd := readsOf ops p.1
     ops.zipIdx.all fun q => Nat.beq p.2 q.2 || (match q.1.dst with
      | none => true
      | some d => !(p.1.dst == some d) && (!rd.contains d || pairOk as p.2 q.2)))

/- the same, faster -/
noncomputable def writers (l : List Oper) : Nat → T Nat → Option (T Nat) :=
  List.rec (motive := fun _ => Nat → T Nat → Option (T Nat)) (fun _ t => some t)
    (fun o _ ih i t => Option.rec (ih (Nat.succ i) t) (fun d => ifb (Nat.blt d limit) (Option.rec (fT (t.put d i) fun t => ih (Nat.succ i) t) (fun _ => none) (t.get d))) o.dst) l
noncomputable def maskT (t : T Nat) (i : Nat) : Nat := Option.rec 0 (fun n => n) (t.get i)
noncomputable def ancTOf (t : T Nat) (o : Oper) : Nat :=
  o.after.toList.foldl (fun s e => if Region.binds .any e then s ||| (1 <<< e.on) ||| maskT t e.on else s) 0
noncomputable def ancTGo (l : List Oper) : Nat → T Nat → T Nat :=
  List.rec (motive := fun _ => Nat → T Nat → T Nat) (fun _ t => t) (fun o _ ih i t => fN (ancTOf t o) fun n => fT (t.put i n) fun t => ih (Nat.succ i) t) l
noncomputable def pairT (as : T Nat) (i m : Nat) : Bool :=
  (Nat.blt m i && (maskT as i).testBit m) || (Nat.blt i m && (maskT as m).testBit i)
noncomputable def allAt (ops : List Oper) (w as : T Nat) (l : List Oper) : Nat → Bool :=
  List.rec (motive := fun _ => Nat → Bool) (fun _ => true)
    (fun o _ ih i => (o.after.toList.all fun e => !Region.binds .any e || Nat.blt e.on i) && ((readsOf ops o).all (fun d => Option.rec true (fun m => Nat.beq m i || pairT as i m) (w.get d)) && ih (Nat.succ i))) l
noncomputable def staticFast (ops : List Oper) : Bool :=
  Nat.blt ops.length limit && Option.rec false (fun w => allAt ops w (ancTGo ops 0 .leaf) ops 0) (writers ops 0 .leaf)

noncomputable def sameVal (r : Option Res) (v : AV) : Bool :=
  Option.rec false (fun r => Option.rec false (fun x => veq x v) (plainOf r)) r

def isLoud : Kd → Bool
  | .loud => true
  | _ => false
def madeOf : Kd → Option (Nat × Blk)
  | .made x b => some (x, b)
  | _ => none
def isQuiet : Kd → Bool
  | .quiet => true
  | _ => false
/-- (place, how many loud ones ahead) -/
def loudsOf (trs : List Tr) : List (Nat × Nat) := trs.zipIdx.filterMap fun p => if isLoud p.1.kd then some (p.2, p.1.cnt) else none
/-- (place, how many loud ones ahead, name, block) -/
def madesOf (trs : List Tr) : List (Nat × Nat × Nat × Blk) := trs.zipIdx.filterMap fun p => (madeOf p.1.kd).map fun q => (p.2, p.1.cnt, q.1, q.2)

/-- may operation i run at the state behind the first j loud ones? -/
def compat (as : List Nat) (louds : List (Nat × Nat)) (i j : Nat) : Bool :=
  louds.all fun p => if p.2 < j then !(as.getD p.1 0).testBit i else !(as.getD i 0).testBit p.1
def chainOk (as : List Nat) (louds : List (Nat × Nat)) : Bool :=
  louds.all fun p => louds.all fun q => !Nat.blt p.2 q.2 || (as.getD q.1 0).testBit p.1
def madeOk (as : List Nat) (louds : List (Nat × Nat)) (mades : List (Nat × Nat × Nat × Blk)) : Bool :=
  mades.all fun p => louds.all fun q => !Nat.ble p.2.1 q.2 || (as.getD q.1 0).testBit p.1
/-- names that are set aside are free till they are given -/
noncomputable def asideOk (mades : List (Nat × Nat × Nat × Blk)) (hs : List H) : Bool :=
  mades.all fun p => Nat.blt p.2.2.1 limit && hs.zipIdx.all fun s => !Nat.ble s.2 p.2.1 || (s.1.get p.2.2.1).isNone

/-- the state behind j loud ones, with what i hangs on of what is made later -/
noncomputable def stateAt (as : List Nat) (i j : Nat) (h : H) (mades : List (Nat × Nat × Nat × Blk)) : H :=
  List.rec (motive := fun _ => H → H) (fun h => h) (fun p _ ih h => ih (Bool.rec h (h.put p.2.2.1 p.2.2.2) (Nat.ble j p.2.1 && (as.getD i 0).testBit p.1))) mades h

noncomputable def stillOk (P : Program) (ops : List Oper) (as : List Nat) (louds : List (Nat × Nat)) (mades : List (Nat × Nat × Nat × Blk)) (trs : List Tr) (hs : List H) : Bool :=
  (ops.zip trs).zipIdx.all fun q =>
    !(isQuiet q.1.2.kd && readOp q.1.1.op) || hs.zipIdx.all fun s => !compat as louds q.2 s.2 || sameVal (op? q.1.1.op P q.1.2.fr (stateAt as q.2 s.2 s.1 mades)) q.1.2.v

noncomputable def drawOk (P : Program) (ops : List Oper) (trs : List Tr) (hs : List H) : Bool :=
  let as := ancs ops
  let louds := loudsOf trs
  let mades := madesOf trs
  staticFast ops && (Bool.rec (chainOk as louds && (madeOk as louds mades && (asideOk mades hs && stillOk P ops as louds mades trs hs))) true (louds.isEmpty && mades.isEmpty))

def countAlloc : List Oper → Nat
  | [] => 0
  | o :: l => if isAlloc o.op then countAlloc l + 1 else countAlloc l

noncomputable def sDraw (ops : Array Oper) (P : Program) (rec : Rec) (nt : Nat) (fr : Fr) (h : H) : Out :=
  ob (trace? P rec nt ops.toList ops.toList fr ⟨Nat.add h.next (countAlloc ops.toList), h.t⟩ 0 h.next) fun q =>
    ifb (drawOk P ops.toList q.trs (⟨Nat.add h.next (countAlloc ops.toList), h.t⟩ :: q.hs)) (some [(.normal, q.fr, q.h)])

noncomputable def sSkip (_ : Program) (_ : Rec) (_ : Nat) (fr : Fr) (h : H) : Out := some [(.normal, fr, h)]
noncomputable def sRegion (ops : Array Oper) (P : Program) (rec : Rec) (nt : Nat) (fr : Fr) (h : H) : Out :=
  obL (opers? P rec nt ops.toList ops.toList fr h) fun p => Prod.rec (fun fr h => some [(.normal, fr, h)]) p
noncomputable def seqD (b : Code) (rec : Rec) (nt : Nat) (e : Ex) (fr : Fr) (h : H) : Out :=
  match e with
  | .normal => rec.run nt b fr h
  | e => some [(e, fr, h)]
noncomputable def sSeq (a b : Code) (_ : Program) (rec : Rec) (nt : Nat) (fr : Fr) (h : H) : Out :=
  obL (rec.run nt a fr h) fun r => Prod.rec (fun e q => Prod.rec (fun fr h => seqD b rec nt e fr h) q) r
noncomputable def condD (a b : Code) (rec : Rec) (nt : Nat) (fr : Fr) (h : H) (v : AV) : Out :=
  match v with
  | .bool t => rec.run nt (Bool.rec b a t) fr h
  | _ => none
noncomputable def sCond (x : Operand) (a b : Code) (_ : Program) (rec : Rec) (nt : Nat) (fr : Fr) (h : H) : Out := ob (ev x fr) (condD a b rec nt fr h)
noncomputable def blockD (id : Nat) (e : Ex) (fr : Fr) (h : H) : Out :=
  match e with
  | .exit j => Bool.rec (some [(.exit j, fr, h)]) (some [(.normal, fr, h)]) (Nat.beq j id)
  | e => some [(e, fr, h)]
noncomputable def sBlock (id : Nat) (b : Code) (_ : Program) (rec : Rec) (nt : Nat) (fr : Fr) (h : H) : Out :=
  obL (rec.run nt b fr h) fun r => Prod.rec (fun e q => Prod.rec (fun fr h => blockD id e fr h) q) r
def opPicks : Op → Bool
  | .next _ false => true
  | _ => false
/-- does it range over a map? -/
def picks : Code → Bool
  | .region _ ops _ => ops.toList.any fun o => opPicks o.op
  | .seq a b => picks a || picks b
  | .cond _ a b => picks a || picks b
  | .block _ b => picks b
  | .loop b => picks b
  | _ => false
noncomputable def sLoop (b : Code) (_ : Program) (rec : Rec) (nt : Nat) (fr : Fr) (h : H) : Out :=
  Bool.rec (obL (rec.run nt b fr h) fun r => Prod.rec (fun e q => Prod.rec (fun fr h => seqD (.loop b) rec nt e fr h) q) r)
    (ob (obL (rec.run nt b fr h) fun r => Prod.rec (fun e q => Prod.rec (fun fr h => seqD (.loop b) rec nt e fr h) q) r) mergeO) (picks b)
noncomputable def sExit (id : Nat) (_ : Program) (_ : Rec) (_ : Nat) (fr : Fr) (h : H) : Out := some [(.exit id, fr, h)]
noncomputable def sRet (_ : Program) (_ : Rec) (_ : Nat) (fr : Fr) (h : H) : Out := some [(.ret, fr, h)]
noncomputable def sNone (_ : Program) (_ : Rec) (_ : Nat) (_ : Fr) (_ : H) : Out := none

noncomputable def step? (c : Code) : Program → Rec → Nat → Fr → H → Out :=
  match c with
  | .skip => sSkip
  | .label _ => sSkip
  | .region _ ops false => sRegion ops
  | .region _ ops true => sDraw ops
  | .seq a b => sSeq a b
  | .cond x a b => sCond x a b
  | .block id b => sBlock id b
  | .loop b => sLoop b
  | .exit id => sExit id
  | .ret => sRet
  | _ => sNone

/-- what is known of calls ahead -/
abbrev Hand := FuncId → List AV → H → Option (AV × H)
def Hand.none : Hand := fun _ _ _ => Option.none

noncomputable def run? (P : Program) (K : Hand) (n : Nat) : Rec :=
  Nat.rec (motive := fun _ => Rec) ⟨fun _ _ _ _ => none, fun _ _ _ => none⟩
    (fun _ rec => ⟨fun nt c fr h => step? c P rec nt fr h, fun f args h => Option.rec (enter? P rec.run f args h) (fun r => some r) (K f args h)⟩) n

noncomputable def call (P : Program) (K : Hand) (n : Nat) (f : FuncId) (args : List AV) (h : H) : Option (AV × H) := enter? P (run? P K n).run f args h

def H.empty : H := ⟨0, .leaf⟩

end Go.X
