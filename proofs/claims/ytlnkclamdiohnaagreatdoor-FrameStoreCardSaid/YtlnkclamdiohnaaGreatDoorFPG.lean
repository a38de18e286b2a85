/-
  Rows of any kind of number, calls that give known values, texts by name.
-/
import Derived.Test.YtlnkclamdiohnaaGreatDoorXN3
import Derived.Test.YtlnkclamdiohnaaGreatDoorProg
import Derived.KernelRfl
set_option linter.unusedVariables false
set_option linter.unusedSimpArgs false
set_option linter.unusedSectionVars false
set_option maxRecDepth 1000000
namespace Go.Proofs.YtlnkclamdiohnaaGreatDoor.fp
open Go.X Go.RowKit Go.Proofs
theorem mixed : Tryz.prog.follows .mixedOrders = true := by kernel_rfl
noncomputable def codeOf (f : Func) : Code := f.body.getD .skip
noncomputable def hd : Code → Code
  | .seq a _ => a
  | c => c
noncomputable def tl : Code → Code
  | .seq _ b => b
  | c => c
noncomputable def lpIn : Code → Code
  | .block _ (.loop c) => c
  | _ => .skip
theorem bcode_inj {a b : BinOp} (h : bcode a = bcode b) : a = b := by
  cases a <;> cases b <;> first | rfl | (simp [bcode] at h)
variable {iv : Nat → IntKind × Int} {str : Nat → ByteArray}
theorem kbeq (k : IntKind) : Nat.beq (kcode k) (kcode k) = true := by cases k <;> rfl
theorem ibV {op : BinOp} {n : Nat} (hn : bcode op = n) (hs : isShift op = false) {k : IntKind} {a b : Int} {x y z v' : AV} (hx : denI iv x = some (k, a)) (hy : denI iv y = some (k, b)) (e : intOp op k a b = some v') (ho : outI iv z v') : IbOk iv (n, x, y, z) := by
  intro op' ho'
  obtain rfl : op' = op := bcode_inj (by rw [hn]; exact ho')
  refine ⟨k, a, k, b, v', hx, hy, ?_, ho⟩
  show (@Bool.rec (fun _ => Option AV) (ifb (Nat.beq (kcode k) (kcode k)) (intOp op' k a b)) (shiftOp op' k a b) (isShift op')) = some v'
  rw [hs, kbeq]
  exact e
theorem ibB {op : BinOp} {n : Nat} (hn : bcode op = n) (hs : isShift op = false) {k : IntKind} {a b : Int} {x y : AV} {t : Bool} (hx : denI iv x = some (k, a)) (hy : denI iv y = some (k, b)) (e : intOp op k a b = some (.bool t)) : IbOk iv (n, x, y, .bool t) :=
  ibV hn hs hx hy e rfl
theorem ibN {op : BinOp} {n : Nat} (hn : bcode op = n) (hs : isShift op = false) {k : IntKind} {a b c : Int} {x y : AV} {i : Nat} (hx : denI iv x = some (k, a)) (hy : denI iv y = some (k, b)) (e : intOp op k a b = some (.int k c)) (hz : iv i = (k, c)) : IbOk iv (n, x, y, .oi i) :=
  ibV hn hs hx hy e (by show some (iv i) = _; rw [hz])
/-- a truth of a row -/
theorem tB {b t : Bool} (h : b = t) : some (AV.bool b) = some (AV.bool t) := by rw [h]
def andv (k : IntKind) (a b : Int) : Int := k.wrap (BitVec.ofInt k.bits a &&& BitVec.ofInt k.bits b).toNat
def shlv (k : IntKind) (a : Int) (b : Nat) : Int := k.wrap (a * 2 ^ (min b k.bits))
noncomputable def addv (k : IntKind) (a b : Int) : Int := wrapF k (Int.add a b)
theorem ibAnd {k : IntKind} {a b : Int} {x y : AV} {i : Nat} (hx : denI iv x = some (k, a)) (hy : denI iv y = some (k, b)) (hz : iv i = (k, andv k a b)) : IbOk iv (5, x, y, .oi i) := ibN (op := .and) rfl rfl hx hy rfl hz
theorem ibAddv {k : IntKind} {a b : Int} {x y : AV} {i : Nat} (hx : denI iv x = some (k, a)) (hy : denI iv y = some (k, b)) (hz : iv i = (k, addv k a b)) : IbOk iv (0, x, y, .oi i) := ibN (op := .add) rfl rfl hx hy rfl hz
theorem ibShl {k : IntKind} {a : Int} {b : Nat} {x : AV} {i : Nat} (hx : denI iv x = some (k, a)) (hz : iv i = (k, shlv k a b)) : IbOk iv (15, x, .int .u64 (b : Int), .oi i) := by
  intro op' ho'
  obtain rfl : op' = .shl := bcode_inj ho'
  refine ⟨k, a, .u64, (b : Int), .int k (shlv k a b), hx, rfl, ?_, by show some (iv i) = _; rw [hz]⟩
  show (if (b : Int) < 0 then none else some (AV.int k (k.wrap (a * 2 ^ (min (b : Int).toNat k.bits))))) = some (.int k (shlv k a b))
  rw [if_neg (by omega), Int.toNat_natCast]
  rfl
theorem icV {k k' : IntKind} {n : Int} {x : AV} {i : Nat} (hx : denI iv x = some (k', n)) (hz : iv i = (k, k.wrap n)) : IcOk' iv (k, x, .oi i) := ⟨k', n, hx, by show some (iv i) = _; rw [hz]⟩
/- bytes of a text -/
def byt (s : ByteArray) (i : Nat) : Int := match s[i]? with
  | some x => (x.toNat : Int)
  | none => 0
theorem byt_at {s : ByteArray} {i : Nat} (h : i < s.size) : ∃ x, s[i]? = some x ∧ byt s i = (x.toNat : Int) := by
  have e : s[i]? = some s[i] := getElem?_pos s i h
  refine ⟨s[i], e, ?_⟩
  unfold byt
  rw [e]
theorem byt_lo (s : ByteArray) (i : Nat) : 0 ≤ byt s i := by
  unfold byt
  split <;> omega
theorem byt_hi (s : ByteArray) (i : Nat) : byt s i < 256 := by
  unfold byt
  split
  · rename_i x _
    have := x.toNat_lt
    omega
  · omega
theorem trLen {j i : Nat} (h : iv j = (.i64, ((str i).size : Int))) : TrOk str iv 0 [.ostr i] (.oi j) := ⟨str i, rfl, by show some (iv j) = _; rw [h]⟩
theorem trAt {j i q m : Nat} (hm : iv j = (.i64, (m : Int))) (hq : iv q = (.u8, byt (str i) m)) (h : m < (str i).size) : TrOk str iv 1 [.ostr i, .oi j] (.oi q) := by
  obtain ⟨x, h1, h2⟩ := byt_at h
  exact ⟨str i, .i64, m, x, rfl, by show some (iv j) = _; rw [hm], h1, by show some (iv q) = _; rw [hq, h2]⟩
theorem trPart {i q l r : Nat} {lo hi : AV} (hl : bndS iv 0 lo l) (hr : bndS iv (str i).size hi r) (h1 : l ≤ r) (h2 : r ≤ (str i).size) (hq : str q = (str i).extract l r) : TrOk str iv 2 [.ostr i, lo, hi] (.ostr q) := ⟨str i, l, r, rfl, hl, hr, h1, h2, by show some (str q) = _; rw [hq]⟩
theorem trEq {x y : AV} {a b : ByteArray} {e : Bool} (hx : denS str x = some a) (hy : denS str y = some b) (h : e = true ↔ a = b) : TrOk str iv 4 [x, y] (.bool e) := ⟨a, b, e, hx, hy, rfl, h⟩
theorem bndI {d j m : Nat} (h : iv j = (.i64, (m : Int))) : bndS iv d (.oi j) m := ⟨.i64, by show some (iv j) = _; rw [h]⟩
/- tables -/
abbrev plT (iv : Nat → IntKind × Int) (str : Nat → ByteArray) : Tab := (bare iv noV noK noVp).ttab { str := str }
abbrev RV (iv : Nat → IntKind × Int) (ib : List BRow) (hib : ∀ r ∈ ib, IbOk iv r) (ic : List (IntKind × AV × AV)) (hic : ∀ r ∈ ic, IcOk' iv r) (va : List VA) (hva : ∀ r ∈ va, VaOk iv noV noK r) : VRows iv noV noK where
  vvp := noVp
  ib := ib
  ibok := hib
  ic := ic
  icok := hic
  va := va
  vaok := hva
abbrev RT (iv : Nat → IntKind × Int) (str : Nat → ByteArray) (ib : List BRow) (hib : ∀ r ∈ ib, IbOk iv r) (ic : List (IntKind × AV × AV)) (hic : ∀ r ∈ ic, IcOk' iv r) (tr : List TRow) (htr : ∀ r ∈ tr, TrOk str iv r.1 r.2.1 r.2.2) (va : List VA) (hva : ∀ r ∈ va, VaOk iv noV noK r) : Tab := (RV iv ib hib ic hic va hva).ttab { str := str, tr := tr, trok := htr }
theorem sameRT {ib hib ic hic tr htr va hva} : SameTab (plT iv str) (RT iv str ib hib ic hic tr htr va hva) := ⟨rfl, rfl, rfl, rfl, rfl, rfl, rfl, rfl, rfl⟩
theorem ipS {T T' : Tab} {i j : Nat} (h : T'.str j = T.str i) : IpOk1 T T' (.ostr i, j) := h
theorem ipT {T T' : Tab} {n c j : Nat} (h : T'.str j = strOf n c) : IpOk1 T T' (.str n c, j) := h
/- calls that give known values -/
abbrev GlW [Tab] (w : World) : Prop := ∀ g o a, Tab.gv g o = some a → ∃ v, w.cell? ⟨g, o, none⟩ = some v ∧ (vrel (fun _ => none) a v ∧ (Tab.gv g (o + 1) = none → w.cell? ⟨g, o + 1, none⟩ = none))
theorem gl_none {T : Tab} {w : World} (h1 : T.gv = fun _ _ => none) (h2 : T.fv = fun _ _ => none) : @Gl T (Kp.below w.heap.size) w := ⟨fun g o a h => (by rw [h1] at h; cases h), fun i m a h => (by rw [h2] at h; cases h)⟩
/-- a call answers one value, from whatever world -/
abbrev Ans (f : FuncId) (vs : Array Value) (v : Value) : Prop := ∀ w : World, Calls Tryz.prog f vs w fun e w' => e = .returned v ∧ Below w.heap.size w w'
theorem callVal_ok [Tab] {f : FuncId} {args : List AV} {vs : List Value} {a : AV} {v : Value} (ha : ∀ (μ : M) (l : List Value), vrels μ args l → l = vs) (hr : ∀ μ : M, vrel μ a v) (hk : Ans f vs.toArray v) (h : H) : CallOk Tryz.prog f args h (a, h) := by
  intro B w0 μ w args' r hv
  have e1 : args' = vs.toArray := by
    cases args' with
    | mk l => rw [ha μ l hv]
  subst e1
  refine (hk w).mono ?_
  rintro e w' ⟨rfl, hb⟩
  exact ⟨_, μ, rfl, Ext.refl _, hr μ, r.grow hb⟩
theorem valHand [Tab] {f : FuncId} {args : List AV} {vs : List Value} {a : AV} {v : Value} (ha : ∀ (μ : M) (l : List Value), vrels μ args l → l = vs) (hr : ∀ μ : M, vrel μ a v) (hk : Ans f vs.toArray v) : HandOk Tryz.prog (oneHand f args a) := oneHand_ok fun q => callVal_ok ha hr hk q
theorem ans_of [Tab] {f : FuncId} {args : List AV} {a : AV} {q : H} {args' : Array Value} {v : Value} (o : CallOk Tryz.prog f args H.empty (a, q)) (hv : ∀ (μ : M) v', vrel μ a v' → v' = v) (ha : vrels (fun _ => none) args args'.toList) (hg : Tab.gv = fun _ _ => none) (hf : Tab.fv = fun _ _ => none) : Ans f args' v := fun w => by
  refine (o.closed ha w (gl_none hg hf)).mono ?_
  rintro e w' ⟨v', μ', rfl, hr, r⟩
  exact ⟨by rw [hv μ' v' hr], r.below.toBelow⟩
/-- a run gives a value -/
noncomputable def retIs [Tab] (K : Hand) (n : Nat) (f : FuncId) (xs : List AV) (v : AV) : Bool := Option.rec false (fun p => veq v p.1) (call Tryz.prog K n f xs H.empty)
theorem ret_of [Tab] {K : Hand} (hK : HandOk Tryz.prog K) {n : Nat} {f : FuncId} {xs : List AV} {v : AV} (e : retIs K n f xs v = true) : ∃ q, CallOk Tryz.prog f xs H.empty (v, q) := by
  unfold retIs at e
  cases h1 : call Tryz.prog K n f xs H.empty with
  | none => rw [h1] at e; cases e
  | some p =>
    rw [h1] at e
    have e' : veq v p.1 = true := e
    refine ⟨p.2, ?_⟩
    rw [veq_eq e']
    exact call_sound mixed hK h1
theorem one_s [Tab] {i : Nat} {s : ByteArray} (h : Tab.str i = s) (μ : M) (l : List Value) (e : vrels μ [.ostr i] l) : l = [.string s] := by
  obtain ⟨v1, l1, rfl, g1, g2⟩ := e
  simp only [vrel] at g1
  have : l1 = [] := g2
  rw [this, g1, h]
theorem two_si [Tab] {i j : Nat} {s : ByteArray} {p : IntKind × Int} (h : Tab.str i = s) (hj : Tab.iv j = p) (μ : M) (l : List Value) (e : vrels μ [.ostr i, .oi j] l) : l = [.string s, .int p.1 p.2] := by
  obtain ⟨v1, l1, rfl, g1, v2, l2, rfl, g2, g3⟩ := e
  simp only [vrel] at g1 g2
  have : l2 = [] := g3
  rw [this, g1, g2, h, hj]
end Go.Proofs.YtlnkclamdiohnaaGreatDoor.fp
