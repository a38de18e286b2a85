/-
  The law NativeString: contracts of reading empty texts.
-/
import Derived.Test.YtkkaifeiopjjdaaGreatDoorNST
set_option linter.unusedVariables false
set_option linter.unusedSimpArgs false
set_option linter.unusedSectionVars false
set_option maxRecDepth 1000000
set_option maxHeartbeats 0
namespace Go.Proofs.YtkkaifeiopjjdaaGreatDoor.ns
open Go.X Go.RowKit Go.Proofs
noncomputable abbrev zB : Blk := .cells 0 false [.int .u16 0] .leaf
noncomputable def chZ (N st o m : Nat) : In := ⟨13, [.ptr 9899 0, adO o], N, bL st, .sl N 0 0 0, Nat.add N m, (N, zB) :: bL st⟩
noncomputable def enZ (y N : Nat) : In := ⟨143, [.sl y 0 0 0], N, [(y, zB)], .str 0 0, Nat.add N 40, [(y, zB)]⟩
noncomputable def enZ0 (y N : Nat) : In := ⟨143, [.sl y 0 0 0], N, [(y, zB)], .str 0 0, N, [(y, zB)]⟩
noncomputable def chZ0 (N st o : Nat) : In := ⟨13, [.ptr 9899 0, adO o], N, bL st, .sl N 0 0 0, Nat.succ N, (N, zB) :: bL st⟩
/-- one text is empty: its word is a known zero -/
noncomputable def icO (o : Nat) : List (IntKind × AV × AV) := [(.i64, .oi (Nat.add 13 o), .int .i64 0)]
theorem icO_ok {p : Pm} : ∀ o, o < 3 → oN p o = 0 → ∀ r ∈ icO o, IcOk' (ivL p qZ 0) r
  | 0, _, h => by have h : p.la = 0 := h; exact rConv (n := (p.la : Int)) icNil (h := by rw [h]; rfl)
  | 1, _, h => by have h : p.lb = 0 := h; exact rConv (n := (p.lb : Int)) icNil (h := by rw [h]; rfl)
  | 2, _, h => by have h : p.lc = 0 := h; exact rConv (n := (p.lc : Int)) icNil (h := by rw [h]; rfl)
  | _ + 3, h, _ => by omega
noncomputable abbrev RO (p : Pm) (o : Nat) (h : Ar p) (o3 : o < 3) (hz : oN p o = 0) : Rw (ivL p qZ 0) (vvL p qZ) (vkL p qZ) (fgL p) (txL p qZ 0) where
  vvp := vvLp p qZ
  ib := rowsL
  ibok := rowsL_ok h
  ic := icO o ++ icL
  icok := fun r hr => (List.mem_append.1 hr).elim (icO_ok o o3 hz r) (icL_ok h r)
  vl := vlL
  vlok := vlL_ok h
  vc := [(0, 11), (2, 12)]
  vcok := cN (cN allNil)
section
variable {p : Pm}
theorem chZ_ok {N st o m : Nat} (hm : 1 ≤ m) (h : @InOk Tryz.prog (chZ0 N st o) (TL p)) : @InOk Tryz.prog (chZ N st o m) (TL p) := @upOk (TL p) Tryz.prog (chZ0 N st o) (Nat.add N m) (by show N + 1 ≤ N + m; omega) h
theorem enZ_ok {y N : Nat} (h : @InOk Tryz.prog (enZ0 y N) (TL p)) : @InOk Tryz.prog (enZ y N) (TL p) := @upOk (TL p) Tryz.prog (enZ0 y N) (Nat.add N 40) (Nat.le_add_right N 40) h
theorem y13377_ok (h : Ar p) (hz : oN p 0 = 0) : @InOk Tryz.prog (chZ0 13377 1 0) (TL p) := InOk.tab (Rw.same _ _) (@InOk.of_run Tryz.prog (RO p 0 h (by decide) hz).T Hand.none mixed hNo 3000 _ (by kernel_rfl) (by as_aux_lemma => kernel_rfl))
theorem y13423_ok (h : Ar p) (hz : oN p 0 = 0) : @InOk Tryz.prog (chZ0 13423 1 0) (TL p) := InOk.tab (Rw.same _ _) (@InOk.of_run Tryz.prog (RO p 0 h (by decide) hz).T Hand.none mixed hNo 3000 _ (by kernel_rfl) (by as_aux_lemma => kernel_rfl))
theorem y13433_ok (h : Ar p) (hz : oN p 1 = 0) : @InOk Tryz.prog (chZ0 13433 1 1) (TL p) := InOk.tab (Rw.same _ _) (@InOk.of_run Tryz.prog (RO p 1 h (by decide) hz).T Hand.none mixed hNo 3000 _ (by kernel_rfl) (by as_aux_lemma => kernel_rfl))
theorem y13523_ok (h : Ar p) (hz : oN p 0 = 0) : @InOk Tryz.prog (chZ0 13523 2 0) (TL p) := InOk.tab (Rw.same _ _) (@InOk.of_run Tryz.prog (RO p 0 h (by decide) hz).T Hand.none mixed hNo 3000 _ (by kernel_rfl) (by as_aux_lemma => kernel_rfl))
theorem y13533_ok (h : Ar p) (hz : oN p 1 = 0) : @InOk Tryz.prog (chZ0 13533 2 1) (TL p) := InOk.tab (Rw.same _ _) (@InOk.of_run Tryz.prog (RO p 1 h (by decide) hz).T Hand.none mixed hNo 3000 _ (by kernel_rfl) (by as_aux_lemma => kernel_rfl))
theorem y13574_ok (h : Ar p) (hz : oN p 0 = 0) : @InOk Tryz.prog (chZ0 13574 2 0) (TL p) := InOk.tab (Rw.same _ _) (@InOk.of_run Tryz.prog (RO p 0 h (by decide) hz).T Hand.none mixed hNo 3000 _ (by kernel_rfl) (by as_aux_lemma => kernel_rfl))
theorem y13697_ok (h : Ar p) (hz : oN p 1 = 0) : @InOk Tryz.prog (chZ0 13697 2 1) (TL p) := InOk.tab (Rw.same _ _) (@InOk.of_run Tryz.prog (RO p 1 h (by decide) hz).T Hand.none mixed hNo 3000 _ (by kernel_rfl) (by as_aux_lemma => kernel_rfl))
theorem y13798_ok (h : Ar p) (hz : oN p 2 = 0) : @InOk Tryz.prog (chZ0 13798 2 2) (TL p) := InOk.tab (Rw.same _ _) (@InOk.of_run Tryz.prog (RO p 2 h (by decide) hz).T Hand.none mixed hNo 3000 _ (by kernel_rfl) (by as_aux_lemma => kernel_rfl))
theorem n13584_ok : @InOk Tryz.prog (enZ0 13574 13584) (TL p) := @InOk.of_run Tryz.prog (TL p) Hand.none mixed hNo 3000 _ (by kernel_rfl) (by as_aux_lemma => kernel_rfl)
theorem n13624_ok : @InOk Tryz.prog (enZ0 13574 13624) (TL p) := @InOk.of_run Tryz.prog (TL p) Hand.none mixed hNo 3000 _ (by kernel_rfl) (by as_aux_lemma => kernel_rfl)
theorem n13707_ok : @InOk Tryz.prog (enZ0 13697 13707) (TL p) := @InOk.of_run Tryz.prog (TL p) Hand.none mixed hNo 3000 _ (by kernel_rfl) (by as_aux_lemma => kernel_rfl)
theorem n13747_ok : @InOk Tryz.prog (enZ0 13697 13747) (TL p) := @InOk.of_run Tryz.prog (TL p) Hand.none mixed hNo 3000 _ (by kernel_rfl) (by as_aux_lemma => kernel_rfl)
theorem sTM {t lo hi : Bool} (h : Ar p) (L : Lw p t lo hi) : SameTab (TL p) (RM p t lo hi h L).T := ⟨rfl, rfl, rfl, rfl, rfl, rfl, rfl, rfl, rfl⟩
theorem sTN {za zb lo hi : Bool} (h : Ar p) (L : Lz p za zb lo hi) : SameTab (TL p) (RN p za zb lo hi h L).T := ⟨rfl, rfl, rfl, rfl, rfl, rfl, rfl, rfl, rfl⟩
end
end Go.Proofs.YtkkaifeiopjjdaaGreatDoor.ns
