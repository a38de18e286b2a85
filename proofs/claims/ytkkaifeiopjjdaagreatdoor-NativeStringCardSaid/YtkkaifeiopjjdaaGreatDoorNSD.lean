/-
  The law NativeString: the law's own table; a text's chars as a contract.
-/
import Derived.Test.YtkkaifeiopjjdaaGreatDoorNSB
set_option linter.unusedVariables false
set_option linter.unusedSimpArgs false
set_option linter.unusedSectionVars false
set_option maxRecDepth 1000000
set_option maxHeartbeats 0
namespace Go.Proofs.YtkkaifeiopjjdaaGreatDoor.ns
open Go.X Go.RowKit Go.Proofs
noncomputable abbrev rowsL : List BRow := [(1, .oi 7, .int .i64 1, .oi 4), (1, .oi 8, .int .i64 1, .oi 5), (0, .oi 7, .int .i64 1, .oi 9), (0, .oi 8, .int .i64 1, .oi 10),
  (10, .oi 4, .oi 4, .bool false), (10, .oi 5, .oi 5, .bool false), (11, .oi 4, .int .i64 0, .bool false), (11, .oi 5, .int .i64 0, .bool false), (11, .int .i64 0, .oi 4, .bool true), (11, .int .i64 0, .oi 5, .bool true), (11, .oi 4, .oi 4, .bool false), (11, .oi 4, .oi 5, .bool true), (11, .oi 5, .oi 4, .bool false), (11, .oi 5, .oi 5, .bool false), (9, .oi 4, .oi 4, .bool true), (9, .oi 5, .oi 5, .bool true),
  (11, .oi 11, .oi 5, .bool true), (11, .oi 12, .oi 5, .bool true), (11, .oi 9, .oi 5, .bool true), (11, .oi 11, .oi 6, .bool true), (11, .oi 12, .oi 6, .bool true), (11, .oi 4, .oi 6, .bool true), (11, .oi 9, .oi 6, .bool true), (11, .oi 5, .oi 6, .bool true), (11, .oi 10, .oi 6, .bool true),
  (14, .oi 11, .int .i64 0, .bool true), (14, .oi 12, .int .i64 0, .bool true), (14, .oi 4, .int .i64 0, .bool true), (14, .oi 9, .int .i64 0, .bool true), (14, .oi 5, .int .i64 0, .bool true), (14, .oi 10, .int .i64 0, .bool true)]
section
variable {p : Pm} {q : Lq} {st : Nat}
theorem rowsL_ok (h : Ar p) : ∀ r ∈ rowsL, IbOk (ivL p q st) r := by
  have h1 := h.s1; have h2 := h.s2; have h3 := h.s3
  exact rSub (rSub (rAdd (rAdd (rNe (rNe (rLt (rLt (rLt (rLt (rLt (rLt (rLt (rLt (rEq (rEq (rLt (rLt (rLt (rLt (rLt (rLt (rLt (rLt (rLt (rGe (rGe (rGe (rGe (rGe (rGe ibNil))))))))))))))))))))))))))))))
theorem WS0 (h : Ar p) {o : Nat} (ho : o ≤ st) (hst : st < 3) : wI (WS p st (oS p o)) = 0 := by
  have := WS_at p st o 0 ho hst (by have := wd_pos (oN p o); omega)
  rw [Nat.add_zero] at this
  rw [this]; exact objW0
theorem WSn (h : Ar p) {o : Nat} (ho : o ≤ st) (hst : st < 3) : wI (WS p st (oS p o + 2)) = (oN p o : Int) := by
  rw [WS_at p st o 2 ho hst (by have := wd_pos (oN p o); omega)]
  exact objW2 (by have := h.hN o; omega)
theorem vlR_ok (h : Ar p) {l : List VL} {o jz jn ju : Nat} (ho : o ≤ st) (h2 : st < 3) {st' : Nat} (e1 : ivL p q st' jz = (.i64, (oS p o : Int))) (e2 : ivL p q st' jn = (.i64, ((oS p o + 2 : Nat) : Int))) (e3 : ivL p q st' ju = (.u64, (oN p o : Int))) (t : ∀ r ∈ l, VlOk (ivL p q st') (vvL p q) r) : ∀ r ∈ (⟨st, jz, 1, 0, [.int .u64 0]⟩ : VL) :: ⟨st, jn, 1, 0, [.oi ju]⟩ :: l, VlOk (ivL p q st') (vvL p q) r := by
  have h4 := h.oT st o ho h2
  have h5 := wd_pos (oN p o)
  have g1 := WS0 h ho h2
  have g2 := WSn h ho h2
  exact lC (lN t (hk := e2) (hv := vS_eq p q st h2) (hy := e3.trans (congrArg (Prod.mk IntKind.u64) g2.symm))) (hk := e1) (hv := vS_eq p q st h2) (hy := g1)
noncomputable abbrev vlL : List VL := [⟨1, 11, 1, 0, [.int .u64 0]⟩, ⟨1, 12, 1, 0, [.oi 13]⟩, ⟨1, 4, 1, 0, [.int .u64 0]⟩, ⟨1, 9, 1, 0, [.oi 14]⟩, ⟨2, 11, 1, 0, [.int .u64 0]⟩, ⟨2, 12, 1, 0, [.oi 13]⟩, ⟨2, 4, 1, 0, [.int .u64 0]⟩, ⟨2, 9, 1, 0, [.oi 14]⟩, ⟨2, 5, 1, 0, [.int .u64 0]⟩, ⟨2, 10, 1, 0, [.oi 15]⟩]
theorem vlL_ok (h : Ar p) : ∀ r ∈ vlL, VlOk (ivL p q st) (vvL p q) r :=
  vlR_ok (st := 1) (o := 0) h (by decide) (by decide) rfl rfl rfl (vlR_ok (st := 1) (o := 1) h (by decide) (by decide) rfl rfl rfl (vlR_ok (st := 2) (o := 0) h (by decide) (by decide) rfl rfl rfl (vlR_ok (st := 2) (o := 1) h (by decide) (by decide) rfl rfl rfl (vlR_ok (st := 2) (o := 2) h (by decide) (by decide) rfl rfl rfl allNil))))
end
/-- the law's table, with no rows -/
abbrev TL (p : Pm) : Tab := T0 p qZ 0
noncomputable def adO (o : Nat) : AV := Nat.rec (.int .i64 1) (fun k _ => Nat.rec (.oi 7) (fun _ _ => .oi 8) k) o
noncomputable def jO (o : Nat) : Nat := Nat.rec 0 (fun k _ => Nat.rec 1 (fun _ _ => 3) k) o
noncomputable def chI (N st o : Nat) : In := ⟨13, [.ptr 9899 0, adO o], N, bL st, .ov N (jO o) 1, Nat.succ N, (N, .vec (Nat.add 3 o)) :: bL st⟩
noncomputable abbrev icL : List (IntKind × AV × AV) := [(.i64, .oi 13, .oi 0), (.i64, .oi 14, .oi 1), (.i64, .oi 15, .oi 3)]
theorem icL_ok {p : Pm} {q : Lq} {st : Nat} (h : Ar p) : ∀ r ∈ icL, IcOk' (ivL p q st) r := by
  have h1 := h.a60; have h2 := h.b60
  have h3 : (p.lc : Int) = p.la + p.lb := by show ((p.la + p.lb : Nat) : Int) = _; omega
  exact rConv (rConv (rConv icNil))
theorem vnO_ok {p : Pm} {q : Lq} {st : Nat} (h : Ar p) : ∀ o, o < 3 → 0 < oN p o → ∀ r ∈ ([⟨1, jO o, [.int .u16 0], Nat.add 20 o, jO o⟩] : List VN), VnOk (ivL p q st) (vvL p q) (vkL p q) r
  | 0, _, h0 => by have h1 := h.a60; have h0 : 0 < p.la := h0; exact nN (n := p.la) (e := fun _ => 0) allNil
  | 1, _, h0 => by have h1 := h.b60; have h0 : 0 < p.lb := h0; exact nN (n := p.lb) (e := fun _ => 0) allNil
  | 2, _, h0 => by have h1 := h.a60; have h2 := h.b60; have h0 : 0 < p.lc := h0; have h3 : p.lc = p.la + p.lb := rfl; exact nN (n := p.lc) (e := fun _ => 0) allNil
  | _ + 3, h, _ => by omega
/-- the law's table for the reading of chars -/
noncomputable abbrev RB (p : Pm) (o : Nat) (h : Ar p) (o3 : o < 3) (h0 : 0 < oN p o) : Rw (ivL p qZ 0) (vvL p qZ) (vkL p qZ) (fgL p) (txL p qZ 0) where
  vvp := vvLp p qZ
  ib := rowsL
  ibok := rowsL_ok h
  ic := icL
  icok := icL_ok h
  vl := vlL
  vlok := vlL_ok h
  vn := [⟨1, jO o, [.int .u16 0], Nat.add 20 o, jO o⟩]
  vnok := vnO_ok h o o3 h0
  vc := [(0, 11), (2, 12)]
  vcok := cN (cN allNil)
noncomputable abbrev cvB (N st o : Nat) : Cv := ⟨20000, 20002, ofPairs [(20001, N)], [(adO o, 43), (.oi (jO o), 42), (.oi 4, 4), (.oi 5, 5), (.oi 6, 6), (.oi (lw st), 54)]⟩
def GB (N st o : Nat) : Prop := ∀ p h o3 h0, firstTo (RB p o h o3 h0).T Tryz.prog Hand.none 3000 Tryz.f13.ntmps 3 cC (T.ofList 0 .leaf [.ptr 9899 0, adO o]) (hIn N (bL st)) (cvB N st o) [(N, .vec (Nat.add 20 o), 12), (nW st, .vec st, st)] [(0, .ptr 9899 0), (1, .oi 43), (5, .ov 20001 42 1)] ((20001, N, .vec 12) :: same (bH st)) = true
end Go.Proofs.YtkkaifeiopjjdaaGreatDoor.ns
