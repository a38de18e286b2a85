/-
  The law NativeString: the contracts of the law's calls, each at its names.
-/
import Derived.Test.YtkkaifeiopjjdaaGreatDoorNSN
set_option linter.unusedVariables false
set_option linter.unusedSimpArgs false
set_option linter.unusedSectionVars false
set_option maxRecDepth 1000000
set_option maxHeartbeats 0
namespace Go.Proofs.YtkkaifeiopjjdaaGreatDoor.ns
open Go.X Go.RowKit Go.Proofs
theorem t0_ok {p : Pm} (h : Ar p) : @InOk Tryz.prog (txI 0) (TL p) := txI_ok h (by decide) ha0 hr0 hi0 hw0 hy0 hz0 (by decide) (by kernel_rfl) (by kernel_rfl) (by kernel_rfl) (by kernel_rfl) (by kernel_rfl) (by kernel_rfl) (by kernel_rfl)
theorem t1_ok {p : Pm} (h : Ar p) : @InOk Tryz.prog (txI 1) (TL p) := txI_ok h (by decide) ha1 hr1 hi1 hw1 hy1 hz1 (by decide) (by kernel_rfl) (by kernel_rfl) (by kernel_rfl) (by kernel_rfl) (by kernel_rfl) (by kernel_rfl) (by kernel_rfl)
theorem t2_ok {p : Pm} (h : Ar p) : @InOk Tryz.prog (txI 2) (TL p) := txI_ok h (by decide) ha2 hr2 hi2 hw2 hy2 hz2 (by decide) (by kernel_rfl) (by kernel_rfl) (by kernel_rfl) (by kernel_rfl) (by kernel_rfl) (by kernel_rfl) (by kernel_rfl)
theorem gb13377 : GB 13377 1 0 := fun p h o3 h0 => by as_aux_lemma => kernel_rfl
theorem ge13377 : GE 13377 1 0 := fun p q => by as_aux_lemma => kernel_rfl
theorem c13377_ok {p : Pm} (h : Ar p) (h0 : 0 < oN p 0) : @InOk Tryz.prog (chU 13377 1 0) (TL p) := @upOk (TL p) _ _ _ (Nat.le_of_ble_eq_true rfl) (chI_ok h (by decide) (by decide) (by decide) (RB p 0 h (by decide) h0) gc1 gi1 gx1 (by decide) (by kernel_rfl) (by kernel_rfl) (by kernel_rfl) (by kernel_rfl) (gb13377 p h (by decide) h0) ge13377 (by kernel_rfl))
theorem gb13423 : GB 13423 1 0 := fun p h o3 h0 => by as_aux_lemma => kernel_rfl
theorem ge13423 : GE 13423 1 0 := fun p q => by as_aux_lemma => kernel_rfl
theorem c13423_ok {p : Pm} (h : Ar p) (h0 : 0 < oN p 0) : @InOk Tryz.prog (chU 13423 1 0) (TL p) := @upOk (TL p) _ _ _ (Nat.le_of_ble_eq_true rfl) (chI_ok h (by decide) (by decide) (by decide) (RB p 0 h (by decide) h0) gc1 gi1 gx1 (by decide) (by kernel_rfl) (by kernel_rfl) (by kernel_rfl) (by kernel_rfl) (gb13423 p h (by decide) h0) ge13423 (by kernel_rfl))
theorem gb13433 : GB 13433 1 1 := fun p h o3 h0 => by as_aux_lemma => kernel_rfl
theorem ge13433 : GE 13433 1 1 := fun p q => by as_aux_lemma => kernel_rfl
theorem c13433_ok {p : Pm} (h : Ar p) (h0 : 0 < oN p 1) : @InOk Tryz.prog (chU 13433 1 1) (TL p) := @upOk (TL p) _ _ _ (Nat.le_of_ble_eq_true rfl) (chI_ok h (by decide) (by decide) (by decide) (RB p 1 h (by decide) h0) gc1 gi1 gx1 (by decide) (by kernel_rfl) (by kernel_rfl) (by kernel_rfl) (by kernel_rfl) (gb13433 p h (by decide) h0) ge13433 (by kernel_rfl))
theorem gb13523 : GB 13523 2 0 := fun p h o3 h0 => by as_aux_lemma => kernel_rfl
theorem ge13523 : GE 13523 2 0 := fun p q => by as_aux_lemma => kernel_rfl
theorem c13523_ok {p : Pm} (h : Ar p) (h0 : 0 < oN p 0) : @InOk Tryz.prog (chU 13523 2 0) (TL p) := @upOk (TL p) _ _ _ (Nat.le_of_ble_eq_true rfl) (chI_ok h (by decide) (by decide) (by decide) (RB p 0 h (by decide) h0) gc2 gi2 gx2 (by decide) (by kernel_rfl) (by kernel_rfl) (by kernel_rfl) (by kernel_rfl) (gb13523 p h (by decide) h0) ge13523 (by kernel_rfl))
theorem gb13533 : GB 13533 2 1 := fun p h o3 h0 => by as_aux_lemma => kernel_rfl
theorem ge13533 : GE 13533 2 1 := fun p q => by as_aux_lemma => kernel_rfl
theorem c13533_ok {p : Pm} (h : Ar p) (h0 : 0 < oN p 1) : @InOk Tryz.prog (chU 13533 2 1) (TL p) := @upOk (TL p) _ _ _ (Nat.le_of_ble_eq_true rfl) (chI_ok h (by decide) (by decide) (by decide) (RB p 1 h (by decide) h0) gc2 gi2 gx2 (by decide) (by kernel_rfl) (by kernel_rfl) (by kernel_rfl) (by kernel_rfl) (gb13533 p h (by decide) h0) ge13533 (by kernel_rfl))
theorem gb13574 : GB 13574 2 0 := fun p h o3 h0 => by as_aux_lemma => kernel_rfl
theorem ge13574 : GE 13574 2 0 := fun p q => by as_aux_lemma => kernel_rfl
theorem c13574_ok {p : Pm} (h : Ar p) (h0 : 0 < oN p 0) : @InOk Tryz.prog (chU 13574 2 0) (TL p) := @upOk (TL p) _ _ _ (Nat.le_of_ble_eq_true rfl) (chI_ok h (by decide) (by decide) (by decide) (RB p 0 h (by decide) h0) gc2 gi2 gx2 (by decide) (by kernel_rfl) (by kernel_rfl) (by kernel_rfl) (by kernel_rfl) (gb13574 p h (by decide) h0) ge13574 (by kernel_rfl))
theorem gb13697 : GB 13697 2 1 := fun p h o3 h0 => by as_aux_lemma => kernel_rfl
theorem ge13697 : GE 13697 2 1 := fun p q => by as_aux_lemma => kernel_rfl
theorem c13697_ok {p : Pm} (h : Ar p) (h0 : 0 < oN p 1) : @InOk Tryz.prog (chU 13697 2 1) (TL p) := @upOk (TL p) _ _ _ (Nat.le_of_ble_eq_true rfl) (chI_ok h (by decide) (by decide) (by decide) (RB p 1 h (by decide) h0) gc2 gi2 gx2 (by decide) (by kernel_rfl) (by kernel_rfl) (by kernel_rfl) (by kernel_rfl) (gb13697 p h (by decide) h0) ge13697 (by kernel_rfl))
theorem gb13798 : GB 13798 2 2 := fun p h o3 h0 => by as_aux_lemma => kernel_rfl
theorem ge13798 : GE 13798 2 2 := fun p q => by as_aux_lemma => kernel_rfl
theorem c13798_ok {p : Pm} (h : Ar p) (h0 : 0 < oN p 2) : @InOk Tryz.prog (chU 13798 2 2) (TL p) := @upOk (TL p) _ _ _ (Nat.le_of_ble_eq_true rfl) (chI_ok h (by decide) (by decide) (by decide) (RB p 2 h (by decide) h0) gc2 gi2 gx2 (by decide) (by kernel_rfl) (by kernel_rfl) (by kernel_rfl) (by kernel_rfl) (gb13798 p h (by decide) h0) ge13798 (by kernel_rfl))
theorem gb13840 : GB 13840 2 2 := fun p h o3 h0 => by as_aux_lemma => kernel_rfl
theorem ge13840 : GE 13840 2 2 := fun p q => by as_aux_lemma => kernel_rfl
theorem c13840_ok {p : Pm} (h : Ar p) (h0 : 0 < oN p 2) : @InOk Tryz.prog (chU 13840 2 2) (TL p) := @upOk (TL p) _ _ _ (Nat.le_of_ble_eq_true rfl) (chI_ok h (by decide) (by decide) (by decide) (RB p 2 h (by decide) h0) gc2 gi2 gx2 (by decide) (by kernel_rfl) (by kernel_rfl) (by kernel_rfl) (by kernel_rfl) (gb13840 p h (by decide) h0) ge13840 (by kernel_rfl))
theorem gr13574 : ∀ z cl, cl < 4 → GR 13574 z cl
  | true, 0, _ => fun p e c hk hc h => by as_aux_lemma => kernel_rfl
  | true, 1, _ => fun p e c hk hc h => by as_aux_lemma => kernel_rfl
  | true, 2, _ => fun p e c hk hc h => by as_aux_lemma => kernel_rfl
  | true, 3, _ => fun p e c hk hc h => by as_aux_lemma => kernel_rfl
  | false, 0, _ => fun p e c hk hc h => by as_aux_lemma => kernel_rfl
  | false, 1, _ => fun p e c hk hc h => by as_aux_lemma => kernel_rfl
  | false, 2, _ => fun p e c hk hc h => by as_aux_lemma => kernel_rfl
  | false, 3, _ => fun p e c hk hc h => by as_aux_lemma => kernel_rfl
  | _, _ + 4, h => by omega
theorem gq13574 : GQ 13574 := fun p e hk => by as_aux_lemma => kernel_rfl
theorem gt13574 : GT 13574 := fun p e => by as_aux_lemma => kernel_rfl
theorem gr13697 : ∀ z cl, cl < 4 → GR 13697 z cl
  | true, 0, _ => fun p e c hk hc h => by as_aux_lemma => kernel_rfl
  | true, 1, _ => fun p e c hk hc h => by as_aux_lemma => kernel_rfl
  | true, 2, _ => fun p e c hk hc h => by as_aux_lemma => kernel_rfl
  | true, 3, _ => fun p e c hk hc h => by as_aux_lemma => kernel_rfl
  | false, 0, _ => fun p e c hk hc h => by as_aux_lemma => kernel_rfl
  | false, 1, _ => fun p e c hk hc h => by as_aux_lemma => kernel_rfl
  | false, 2, _ => fun p e c hk hc h => by as_aux_lemma => kernel_rfl
  | false, 3, _ => fun p e c hk hc h => by as_aux_lemma => kernel_rfl
  | _, _ + 4, h => by omega
theorem gq13697 : GQ 13697 := fun p e hk => by as_aux_lemma => kernel_rfl
theorem gt13697 : GT 13697 := fun p e => by as_aux_lemma => kernel_rfl
theorem gf13584 : GF 13574 13584 0 := fun p e c hk => by as_aux_lemma => kernel_rfl
theorem gs13584 : GS 13574 13584 0 := fun p => by as_aux_lemma => kernel_rfl
theorem e13584_ok {p : Pm} (h : Ar p) (h0 : 0 < oN p 0) : @InOk Tryz.prog (encI 13574 13584 0) (TL p) := encI_ok h (by decide) h0 ⟨gr13574, gq13574, gf13584, gs13584, gt13574⟩ (by decide) (by kernel_rfl) (by kernel_rfl) (by kernel_rfl)
theorem gf13624 : GF 13574 13624 0 := fun p e c hk => by as_aux_lemma => kernel_rfl
theorem gs13624 : GS 13574 13624 0 := fun p => by as_aux_lemma => kernel_rfl
theorem e13624_ok {p : Pm} (h : Ar p) (h0 : 0 < oN p 0) : @InOk Tryz.prog (encI 13574 13624 0) (TL p) := encI_ok h (by decide) h0 ⟨gr13574, gq13574, gf13624, gs13624, gt13574⟩ (by decide) (by kernel_rfl) (by kernel_rfl) (by kernel_rfl)
theorem gf13707 : GF 13697 13707 1 := fun p e c hk => by as_aux_lemma => kernel_rfl
theorem gs13707 : GS 13697 13707 1 := fun p => by as_aux_lemma => kernel_rfl
theorem e13707_ok {p : Pm} (h : Ar p) (h0 : 0 < oN p 1) : @InOk Tryz.prog (encI 13697 13707 1) (TL p) := encI_ok h (by decide) h0 ⟨gr13697, gq13697, gf13707, gs13707, gt13697⟩ (by decide) (by kernel_rfl) (by kernel_rfl) (by kernel_rfl)
theorem gf13747 : GF 13697 13747 1 := fun p e c hk => by as_aux_lemma => kernel_rfl
theorem gs13747 : GS 13697 13747 1 := fun p => by as_aux_lemma => kernel_rfl
theorem e13747_ok {p : Pm} (h : Ar p) (h0 : 0 < oN p 1) : @InOk Tryz.prog (encI 13697 13747 1) (TL p) := encI_ok h (by decide) h0 ⟨gr13697, gq13697, gf13747, gs13747, gt13697⟩ (by decide) (by kernel_rfl) (by kernel_rfl) (by kernel_rfl)
end Go.Proofs.YtkkaifeiopjjdaaGreatDoor.ns
