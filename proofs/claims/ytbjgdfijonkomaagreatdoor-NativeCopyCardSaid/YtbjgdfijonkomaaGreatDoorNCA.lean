/-
  The law NativeCopy: its tables and states.
-/
import Derived.Test.YtbjgdfijonkomaaGreatDoorNQT0
import Derived.Test.YtbjgdfijonkomaaGreatDoorXN3
import Derived.Test.YtbjgdfijonkomaaGreatDoorXN4
set_option linter.unusedVariables false
set_option linter.unusedSimpArgs false
set_option linter.unusedSectionVars false
set_option maxRecDepth 1000000
set_option maxHeartbeats 0
namespace Go.Proofs.YtbjgdfijonkomaaGreatDoor.nc
open Go.X Go.RowKit Go.Proofs
theorem mixed : Tryz.prog.follows .mixedOrders = true := by kernel_rfl
noncomputable def codeOf (f : Func) : Code := f.body.getD .skip
noncomputable def hd : Code → Code
  | .seq a _ => a
  | c => c
noncomputable def tl : Code → Code
  | .seq _ b => b
  | c => c
noncomputable def lpIn : Code → Code
  | .block _ (.loop c) => c
  | _ => .skip
/-- a number as a word -/
def bV (v : Int) : BitVec 64 := BitVec.ofInt 64 v
theorem toBV (v : Int) : IntKind.u64.wrap v = wI (bV v) := u64OfInt v
theorem ofBV {v : Int} (h1 : -9223372036854775808 ≤ v) (h2 : v ≤ 9223372036854775807) : IntKind.i64.wrap (wI (bV v)) = v := by
  rw [← toBV, wrap_wrap (by decide), wrap64 h1 h2]
theorem backBV (W : BitVec 64) : IntKind.u64.wrap (IntKind.i64.wrap (wI W)) = wI W := by
  rw [wrap_wrap (by decide), wrapU]
def upd (W : Nat → BitVec 64) (q : Nat) (v : BitVec 64) : Nat → BitVec 64 := fun m => if m = q then v else W m
theorem upd_eq {W : Nat → BitVec 64} {q : Nat} {v : BitVec 64} : upd W q v q = v := if_pos rfl
theorem upd_ne {W : Nat → BitVec 64} {q m : Nat} {v : BitVec 64} (h : m ≠ q) : upd W q v m = W m := if_neg h
/-- what is there: lengths, the loop's index, where the second array begins, places, contents -/
structure Pm where
  la : Nat
  lb : Nat
  s : Nat
  tot : Nat
  i : Nat
  f : Nat
  t : Nat
  fr : Int
  to : Int
  n : Int
  A : Nat → Int
  B : Nat → Int
  W : Nat → BitVec 64
  ba : Nat
  oa : Nat
  ca : Nat
  bb : Nat
  ob : Nat
  cb : Nat
def Wk (p : Pm) : Nat → Nat → BitVec 64
  | 0 => p.W
  | k + 1 => upd (Wk p k) (p.s + 3 + (p.t + k)) (p.W (3 + (p.f + k)))
def famD (p : Pm) (k : Nat) : Nat → IntKind × Int
  | 0 => (.i64, ((p.f + k : Nat) : Int))
  | 1 => (.i64, ((3 + (p.f + k) : Nat) : Int))
  | 2 => (.i64, IntKind.i64.wrap (wI (p.W (3 + (p.f + k)))))
  | 3 => (.i64, ((p.t + k : Nat) : Int))
  | 4 => (.i64, ((p.s + 3 + (p.t + k) : Nat) : Int))
  | 5 => (.u64, wI (p.W (3 + (p.f + k))))
  | _ => (.u64, wI (Wk p k (p.s + 3 + (p.t + k))))
abbrev ivC (p : Pm) : Nat → IntKind × Int
  | 0 => (.i64, (p.la : Int))
  | 1 => (.i64, (p.lb : Int))
  | 2 => (.i64, p.fr)
  | 3 => (.i64, p.to)
  | 4 => (.i64, p.n)
  | 5 => (.i64, (p.i : Int))
  | 6 => (.i64, ((p.i + 1 : Nat) : Int))
  | 7 => (.i64, ((3 + p.i : Nat) : Int))
  | 8 => (.i64, ((3 + p.la : Nat) : Int))
  | 9 => (.i64, p.A p.i)
  | 10 => (.i64, ((p.s + 1 : Nat) : Int))
  | 11 => (.i64, ((p.s + 3 + p.i : Nat) : Int))
  | 12 => (.i64, p.B p.i)
  | 13 => (.i64, (p.tot : Int))
  | 14 => (.i64, ((0 : Nat) : Int))
  | 15 => (.i64, ((2 : Nat) : Int))
  | 16 => (.i64, ((p.s + 2 : Nat) : Int))
  | 17 => (.i64, ((p.s + 3 : Nat) : Int))
  | 18 => (.i64, p.to + p.n)
  | 19 => (.i64, ((p.f + p.i : Nat) : Int))
  | 20 => (.i64, ((p.f + p.i - p.t : Nat) : Int))
  | 21 => (.i64, p.A (p.f + p.i - p.t))
  | 22 => (.i64, (p.la : Int) - p.fr)
  | 23 => (.i64, (p.lb : Int) - p.to)
  | 24 => (.i64, p.fr + p.n)
  | 25 => (.i64, (p.s : Int))
  | 26 => (.u64, (p.la : Int))
  | 27 => (.u64, (p.lb : Int))
  | 28 => (.u64, wI (p.W (3 + p.i)))
  | 29 => (.u64, wI (bV (p.A p.i)))
  | 30 => (.u64, wI (p.W (p.s + 3 + p.i)))
  | 31 => (.u64, wI (bV (p.B p.i)))
  | m + 32 => famD p (m / 10) (m % 10)
abbrev fgC (p : Pm) : Fgn where
  fb := fun i => match i with | 0 => (p.ba, p.oa) | _ => (p.bb, p.ob)
  fcap := fun i => match i with | 0 => p.ca | _ => p.cb
  fv := fun i => match i with | 0 => numV .i64 p.la p.A | 1 => numV .i64 p.lb p.B | _ => fun _ => none
theorem flN1 {iv : Nat → IntKind × Int} {F : Fgn} {q j y : Nat} {K : IntKind} {k A : Nat} {e : Nat → Int} (hk : iv j = (.i64, (k : Int))) (h0 : F.fv q = numV K A e) (ho : k < A) (hy : iv y = (K, e k)) : FlOk iv F ⟨q, j, 1, 0, [.oi y]⟩ := by
  refine flN (K := K) (k := k) (A := A) (e := e) hk h0 (by show k * 1 + 0 + 1 ≤ A; omega) fun m b hb => ?_
  have hm : m = 0 := by
    have := (List.getElem?_eq_some_iff.1 hb).1
    simpa using this
  subst hm
  have hb' : some (AV.oi y) = some b := hb
  cases hb'
  show some (iv y) = some (K, e (k * 1 + 0 + 0))
  rw [hy, show k * 1 + 0 + 0 = k by omega]
theorem dMask {iv : Nat → IntKind × Int} : denI iv (.int .u64 18446744073709551615) = some (.u64, wI (BitVec.allOnes 64)) := rfl
theorem d0 {iv : Nat → IntKind × Int} : denI iv (.int .u64 0) = some (.u64, wI 0#64) := rfl
abbrev vvN (n : Nat) (Wf : Nat → Nat → BitVec 64) : Nat → Nat → Option AV := fun v => pvw [] n (Wf v)
theorem vvNp {n : Nat} {Wf : Nat → Nat → BitVec 64} : ∀ i m a, vvN n Wf i m = some a → vplain a = true := fun i m a h => pvw_plain (L := []) rfl h
abbrev VRN (iv : Nat → IntKind × Int) (n : Nat) (Wf : Nat → Nat → BitVec 64) (ib : List BRow) (hib : ∀ r ∈ ib, IbOk iv r) (ic : List (IntKind × AV × AV)) (hic : ∀ r ∈ ic, IcOk iv r) (vc : List (Nat × Nat)) (hvc : ∀ p ∈ vc, iv p.2 = (.i64, (p.1 : Int))) (vl : List VL) (hvl : ∀ r ∈ vl, VlOk iv (vvN n Wf) r) (vs : List VS) (hvs : ∀ r ∈ vs, VsOk iv (vvN n Wf) (fun _ => n) r) : VRows iv (vvN n Wf) (fun _ => n) where
  vvp := vvNp
  ib := ib
  ibok := hib
  ic := ic
  icok := hic
  vc := vc
  vcok := hvc
  vl := vl
  vlok := hvl
  vs := vs
  vsok := hvs
abbrev TN (iv : Nat → IntKind × Int) (n : Nat) (Wf : Nat → Nat → BitVec 64) (F : Fgn) (ib : List BRow) (hib : ∀ r ∈ ib, IbOk iv r) (ic : List (IntKind × AV × AV)) (hic : ∀ r ∈ ic, IcOk iv r) (vc : List (Nat × Nat)) (hvc : ∀ p ∈ vc, iv p.2 = (.i64, (p.1 : Int))) (vl : List VL) (hvl : ∀ r ∈ vl, VlOk iv (vvN n Wf) r) (vs : List VS) (hvs : ∀ r ∈ vs, VsOk iv (vvN n Wf) (fun _ => n) r) (fl : List VL) (hfl : ∀ r ∈ fl, FlOk iv F r) : Tab := (VRN iv n Wf ib hib ic hic vc hvc vl hvl vs hvs).ftab F fl hfl
abbrev pl (p : Pm) : Tab := TN (ivC p) p.tot (fun _ => p.W) (fgC p) [] ibNil [] allNil [] allNil [] allNil [] allNil [] allNil
/- the state -/
def shF : List (Nat × AV) := [(0, .str 2 19035), (1, .nils), (2, .int .u8 74)]
def shT : List (Nat × AV) := [(0, .str 2 19035), (1, .nils), (2, .int .u8 74), (3, .str 19 1324754103387860123397675971669620230749572187), (4, .nils), (5, .int .u8 76)]
noncomputable abbrev bks (rf : Bool) (old : Nat → Nat) (v : Nat) : BS := [(0, old 0, .cells 5 false [] (ofPairs [(1, .ov 1 13 1), (2, .so 2 0 2 1), (3, .so 3 0 (Bool.rec 1 2 rf) 3)])), (1, old 1, .vec v), (2, old 2, .cells 2 true [] (ofPairs [(0, .int .i64 0), (1, .oi 8)])), (3, old 3, .cells (Bool.rec 3 6 rf) true [] (ofPairs (Bool.rec shF shT rf))), (4, old 4, .cells 7 false [] (ofPairs [(0, .ptr 0 0), (3, .so 5 0 39 3)])), (5, old 5, .cells 117 true [] (ofPairs [(66, .str 0 0), (67, .int .i64 5), (68, .fn (.func 62) [] [])]))]
noncomputable abbrev bs6 (rf : Bool) : BS := bks rf (fun x => x) 6
noncomputable def uS (q : Nat) (c : Bool) : AV := Bool.rec .nils (.fo q q 1) c
/-- which slices are there, self, refs -/
structure Cs where
  ca : Bool
  cb : Bool
  sf : Bool
  rf : Bool
noncomputable abbrev fs9 (c : Cs) : List (Nat × AV) := [(0, uS 0 c.ca), (1, uS 1 c.cb), (2, .oi 2), (3, .oi 3), (4, .oi 4), (5, .bool c.sf), (6, .bool c.rf), (15, .bool true), (16, .ptr 0 0), (17, .ptr 4 0), (19, .int .i64 1), (20, .oi 10)]
noncomputable abbrev fs3 (c : Cs) : List (Nat × AV) := [(0, uS 0 c.ca), (1, uS 1 c.cb), (2, .oi 2), (3, .oi 3), (4, .oi 4), (15, .bool true), (16, .ptr 0 0), (20, .oi 10), (25, .int .i64 0)]
def SN (p : Pm) (c : Cs) (fs : List (Nat × AV)) (B : Kp) (w0 : World) (μ : M) (a : Act) (w : World) : Prop := St (pl p) B w0 μ Tryz.f3.ntmps (frOf fs) (hOf 6 (bs6 c.rf)) a w
theorem relabel {p p' : Pm} {Wf : Nat → Nat → BitVec 64} {v : Nat} {T : Tab} {C : Cv} (hip : IpOk T (pl p') C.ip) (h1 : T.vv v = pvw [] p.tot (Wf v)) (h2 : T.vk v = p.tot) (ht : p'.tot = p.tot) (hW : ∀ m, m < p.tot → p'.W m = Wf v m) : own (.vec v) = true ∧ ∀ μ l w, @brel T μ (.vec v) l w → @brel (pl p') (ren C.N0 C.rn μ) (.vec 6) l w :=
  vpW (L := []) (L' := []) (n := p.tot) (n' := p.tot) (W := Wf v) (W' := p'.W) hip h1 (by show pvw [] p'.tot p'.W = _; rw [ht]) (by show p'.tot ≤ T.vk v; rw [ht, h2]; exact Nat.le_refl _) (Nat.le_refl _) (Nat.le_refl _) (Nat.zero_le _) rfl (fun q x h => by simp at h) (fun q hq => by rw [show ([] : List AV).length - ([] : List AV).length + q = q by simp]; exact hW q (by simpa using hq))
theorem glC {p p' : Pm} {T : Tab} {B : Kp} {w0 : World} (h1 : T.fb = (fgC p).fb) (h2 : T.fv = (fgC p).fv) (e1 : (fgC p').fb = (fgC p).fb) (e2 : (fgC p').fv = (fgC p).fv) : @Gl T B w0 → @Gl (pl p') B w0 := fun g => ⟨fun g o a h => (by cases h), fun i m a h => by
    have h' : (fgC p').fv i m = some a := h
    rw [e2] at h'
    obtain ⟨k1, v, k2, k3⟩ := g.2 i m a (by rw [h2]; exact h')
    rw [h1] at k1 k2
    refine ⟨by show B.kept ((fgC p').fb i).1; rw [e1]; exact k1, v, by show w0.cell? ⟨((fgC p').fb i).1, ((fgC p').fb i).2 + m, none⟩ = _; rw [e1]; exact k2, ?_⟩
    have hn : ∃ k z, a = AV.int k z := by
      match i, h' with
      | 0, h' => obtain ⟨_, e⟩ := numV_some h'; exact ⟨_, _, e⟩
      | 1, h' => obtain ⟨_, e⟩ := numV_some h'; exact ⟨_, _, e⟩
      | (i + 2), h' => cases h'
    obtain ⟨k, z, rfl⟩ := hn
    simp only [vrel] at k3 ⊢
    exact k3⟩
noncomputable abbrev cvC (ii : AV) (ex : List (AV × Nat)) : Cv := ⟨0, 6, ofPairs [(0, 0), (1, 1), (2, 2), (3, 3), (4, 4), (5, 5)], [(.fo 0 0 1, 0), (.fo 1 1 1, 1), (.oi 0, 0), (.oi 1, 1), (.oi 2, 2), (.oi 3, 3), (.oi 4, 4), (.oi 8, 8), (.oi 10, 10), (.oi 13, 13), (ii, 5)] ++ ex⟩
abbrev rlC : List (Nat × Nat) := [(0, 0), (1, 1), (2, 2), (3, 3), (4, 4), (5, 5)]
/-- the same but for the index, the words -/
structure Like (p p' : Pm) : Prop where
  e0 : p'.la = p.la
  e1 : p'.lb = p.lb
  e2 : p'.fr = p.fr
  e3 : p'.to = p.to
  e4 : p'.n = p.n
  e5 : p'.s = p.s
  e6 : p'.tot = p.tot
  e7 : p'.A = p.A
  e8 : p'.B = p.B
  f0 : p'.ba = p.ba
  f1 : p'.oa = p.oa
  f2 : p'.ca = p.ca
  f3 : p'.bb = p.bb
  f4 : p'.ob = p.ob
  f5 : p'.cb = p.cb
theorem ipC {p p' : Pm} {T : Tab} {ii : AV} {ex : List (AV × Nat)} (L : Like p p') (h1 : T.fb = (fgC p).fb) (h2 : T.fcap = (fgC p).fcap) (h3 : T.iv = ivC p) (hi : denI (ivC p) ii = some (.i64, (p'.i : Int))) (hn : isNum ii = true) (hx : IpOk T (pl p') ex) : IpOk T (pl p') ((cvC ii ex).ip) := by
  have nm : ∀ q, ivC p q = ivC p' q → IpOk1 T (pl p') (.oi q, q) := fun q h => by show some (T.iv q) = some (ivC p' q); rw [h3, h]
  refine ipCons ⟨by show (p'.ba, p'.oa) = T.fb 0; rw [h1, L.f0, L.f1]; rfl, by show p'.ca = T.fcap 0; rw [h2, L.f2]; rfl⟩ (ipCons ⟨by show (p'.bb, p'.ob) = T.fb 1; rw [h1, L.f3, L.f4]; rfl, by show p'.cb = T.fcap 1; rw [h2, L.f5]; rfl⟩ ?_)
  refine ipCons (nm 0 (by show (IntKind.i64, (p.la : Int)) = (.i64, (p'.la : Int)); rw [L.e0])) (ipCons (nm 1 (by show (IntKind.i64, (p.lb : Int)) = (.i64, (p'.lb : Int)); rw [L.e1])) (ipCons (nm 2 (by show (IntKind.i64, p.fr) = (.i64, p'.fr); rw [L.e2])) (ipCons (nm 3 (by show (IntKind.i64, p.to) = (.i64, p'.to); rw [L.e3])) (ipCons (nm 4 (by show (IntKind.i64, p.n) = (.i64, p'.n); rw [L.e4])) ?_))))
  refine ipCons (nm 8 (by show (IntKind.i64, ((3 + p.la : Nat) : Int)) = (.i64, ((3 + p'.la : Nat) : Int)); rw [L.e0])) (ipCons (nm 10 (by show (IntKind.i64, ((p.s + 1 : Nat) : Int)) = (.i64, ((p'.s + 1 : Nat) : Int)); rw [L.e5])) (ipCons (nm 13 (by show (IntKind.i64, (p.tot : Int)) = (.i64, (p'.tot : Int)); rw [L.e6])) (ipCons ?_ hx)))
  have e : denI T.iv ii = some (ivC p' 5) := by rw [h3]; exact hi
  cases ii <;> first | (simp [isNum] at hn; done) | exact e
theorem likeF {p p' : Pm} (L : Like p p') : (fgC p').fb = (fgC p).fb ∧ (fgC p').fv = (fgC p).fv := by
  refine ⟨?_, ?_⟩
  · funext i
    match i with
    | 0 => show (p'.ba, p'.oa) = (p.ba, p.oa); rw [L.f0, L.f1]
    | i + 1 => show (p'.bb, p'.ob) = (p.bb, p.ob); rw [L.f3, L.f4]
  · funext i
    match i with
    | 0 => show numV .i64 p'.la p'.A = numV .i64 p.la p.A; rw [L.e0, L.e7]
    | 1 => show numV .i64 p'.lb p'.B = numV .i64 p.lb p.B; rw [L.e1, L.e8]
    | i + 2 => rfl
noncomputable def cB : Code := codeOf Tryz.f3
theorem cB_eq : Tryz.f3.body = some cB := by kernel_rfl
noncomputable def i1 : Code := hd (hd (restn 10 cB))
noncomputable def l1 : Code := lpIn (tl (hd (restn 10 cB)))
theorem c1_eq : restn 10 cB = .seq (.seq i1 (.block 0 (.loop l1))) (restn 11 cB) := by kernel_rfl
noncomputable def i2 : Code := hd (hd (restn 11 cB))
noncomputable def l2 : Code := lpIn (tl (hd (restn 11 cB)))
theorem c2_eq : restn 11 cB = .seq (.seq i2 (.block 2 (.loop l2))) (restn 12 cB) := by kernel_rfl
noncomputable def i3 : Code := hd (hd (restn 17 cB))
noncomputable def l3 : Code := lpIn (tl (hd (restn 17 cB)))
theorem c3_eq : restn 17 cB = .seq (.seq i3 (.block 4 (.loop l3))) (restn 18 cB) := by kernel_rfl
noncomputable abbrev KK : Hand := nq.K_top0
end Go.Proofs.YtbjgdfijonkomaaGreatDoor.nc
