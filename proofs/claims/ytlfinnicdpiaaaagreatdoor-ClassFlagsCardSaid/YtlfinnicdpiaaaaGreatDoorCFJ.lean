/-
  What the law ClassFlags gives, whatever the flags.
-/
import Derived.Test.YtlfinnicdpiaaaaGreatDoorXN3
import Derived.Test.YtlfinnicdpiaaaaGreatDoorCFB
import Derived.Test.YtlfinnicdpiaaaaGreatDoorCFRZ
import Derived.Test.YtlfinnicdpiaaaaGreatDoorCFL0
import Derived.Test.YtlfinnicdpiaaaaGreatDoorCFL1
import Derived.KernelRfl
set_option linter.unusedVariables false
set_option linter.unusedSimpArgs false
set_option maxRecDepth 1000000
set_option maxHeartbeats 0
namespace Go.Proofs.YtlfinnicdpiaaaaGreatDoor.cf
open Go.X Go.RowKit
theorem vA_nat {n c : Nat} (hn : n < 65536) (hc : c < 65536) : vA n c = ((n &&& c : Nat) : Int) :=
  andNat (by omega) (by omega) rfl (Nat.lt_of_le_of_lt Nat.and_le_left (by omega))
theorem vN_zero {n c : Nat} (hn : n < 65536) (hc : c < 65536) (hz : vN n c = 0) : n &&& c = n := by
  have h1 : IntKind.i64.wrap ((BitVec.ofInt 64 (n : Int) &&& ~~~BitVec.ofInt 64 (c : Int)).toNat : Int) = 0 := hz
  rw [BitVec.ofInt_natCast, BitVec.ofInt_natCast] at h1
  have hle : (BitVec.ofNat 64 n &&& ~~~BitVec.ofNat 64 c).toNat ≤ n := by
    rw [BitVec.toNat_and, BitVec.toNat_ofNat, Nat.mod_eq_of_lt (by omega)]
    exact Nat.and_le_left
  rw [wrap64 (by omega) (by omega)] at h1
  have h2 : BitVec.ofNat 64 n &&& ~~~BitVec.ofNat 64 c = 0#64 := BitVec.eq_of_toNat_eq (by simp at h1 ⊢; omega)
  have h3 : BitVec.ofNat 64 n &&& BitVec.ofNat 64 c = BitVec.ofNat 64 n := by
    refine BitVec.eq_of_getLsbD_eq fun i hi => ?_
    have h4 := congrArg (fun x => BitVec.getLsbD x i) h2
    simp only [BitVec.getLsbD_and, BitVec.getLsbD_not, hi, decide_true, Bool.true_and, BitVec.getLsbD_zero] at h4
    rw [BitVec.getLsbD_and]
    cases h5 : (BitVec.ofNat 64 n).getLsbD i <;> cases h6 : (BitVec.ofNat 64 c).getLsbD i <;> simp_all
  have h4 := congrArg BitVec.toNat h3
  rw [BitVec.toNat_and, BitVec.toNat_ofNat, BitVec.toNat_ofNat, Nat.mod_eq_of_lt (by omega), Nat.mod_eq_of_lt (by omega)] at h4
  exact h4
theorem br0 {k : Nat} {Q : Prop} (hk : k < 65536) (h1 : ¬ vA k 8 = (0)) (h2 : vA k 26 = (0)) : Q := by
  have e1 := vA_nat (c := 8) hk (by decide)
  have e2 := vA_nat (c := 26) hk (by decide)
  rw [show ((8 : Nat) : Int) = 8 from rfl] at e1
  rw [show ((26 : Nat) : Int) = 26 from rfl] at e2
  rw [e1] at h1
  rw [e2] at h2
  have h3 : k &&& 26 = 0 := by omega
  have h4 : (k &&& 26) &&& 8 = k &&& 8 := by rw [Nat.and_assoc]; rfl
  rw [h3, Nat.zero_and] at h4
  exact absurd (by rw [← h4]; rfl) h1
theorem br2_all : (List.range 1056).all (fun k => Nat.beq (k &&& 1024) 0 || (!Nat.beq (k &&& 26) 0) || Nat.beq (k &&& 3) 0 || (!acc k) || (!Nat.beq (k &&& 1055) k) || Nat.beq k 1025) = true := by decide +kernel
theorem br2 {k : Nat} {Q : Prop} (hk : k < 65536) (h0 : vN k 1055 = (0)) (h1 : ¬ (k : Int) = (1025)) (h2 : ¬ vA k 1024 = (0)) (h3 : vA k 26 = (0)) (h4 : ¬ vA k 3 = (0)) (h5 : acc k = true) : Q := by
  have e1 := vA_nat (c := 1024) hk (by decide)
  have e2 := vA_nat (c := 26) hk (by decide)
  have e3 := vA_nat (c := 3) hk (by decide)
  have e4 : k &&& 1055 = k := vN_zero hk (by decide) h0
  have e5 : k &&& 1055 ≤ 1055 := Nat.and_le_right
  rw [show ((1024 : Nat) : Int) = 1024 from rfl] at e1
  rw [show ((26 : Nat) : Int) = 26 from rfl] at e2
  rw [show ((3 : Nat) : Int) = 3 from rfl] at e3
  rw [e1] at h2
  rw [e2] at h3
  rw [e3] at h4
  have h6 := List.all_eq_true.1 br2_all k (List.mem_range.2 (by omega))
  simp only [Bool.or_eq_true, Bool.not_eq_true', Nat.beq_eq_true_eq, h5, e4] at h6
  have f1 : k &&& 1024 ≠ 0 := by omega
  have f2 : k &&& 26 = 0 := by omega
  have f3 : k &&& 3 ≠ 0 := by omega
  have f4 : k ≠ 1025 := by omega
  simp [f1, f2, f3, f4] at h6
theorem main {m c f k : Nat} (b : Bd m c f k) (w : World) : Gives m c f k w := by
 by_cases x1 : vA c 512 = (0)
 ·by_cases x2 : vA k 1024 = (0)
  ·by_cases x3 : vN c 1585 = (0)
   ·by_cases x4 : vA c 16 = (0)
    ·by_cases x5 : vN f 31 = (0)
     ·by_cases x6 : acc f = true
      ·by_cases x7 : vN k 1055 = (0)
       ·by_cases x8 : acc k = true
        ·by_cases x9 : vA c 1024 = (0)
         ·have x10 : headD m c f k = 1 := by unfold headD; rw [if_pos x1, if_pos x9, if_pos x4, if_pos x3]
          have x11 : fieldD m c f k = 0 := by unfold fieldD; rw [if_pos x5, if_pos x6, if_pos x1]
          by_cases x12 : vA k 8 = (0)
          ·have x13 : methodD m c f k = 6 := by unfold methodD; rw [if_pos x1, if_pos x7, if_pos x8, if_pos x2, if_pos x12]
           have x14 : ReadD m c f k = 5 := by unfold ReadD; rw [if_neg (by rw [x10]; decide), if_pos x10, if_pos x11, if_neg (by rw [x13]; decide), if_neg (by rw [x13]; decide), if_neg (by rw [x13]; decide), if_neg (by rw [x13]; decide), if_neg (by rw [x13]; decide), if_neg (by rw [x13]; decide), if_pos x13]
           exact L_law_14 b x1 x2 x3 x4 x5 x6 x7 x8 (Read1_5_ok b x14) (Read5_5_ok b x14) w
          ·have x15 : methodD m c f k = 5 := by unfold methodD; rw [if_pos x1, if_pos x7, if_pos x8, if_pos x2, if_neg x12]
           have x16 : ReadD m c f k = 3 := by unfold ReadD; rw [if_neg (by rw [x10]; decide), if_pos x10, if_pos x11, if_neg (by rw [x15]; decide), if_neg (by rw [x15]; decide), if_neg (by rw [x15]; decide), if_neg (by rw [x15]; decide), if_neg (by rw [x15]; decide), if_pos x15]
           exact L_law_35 b x1 x2 x3 x4 x5 x6 x7 x8 (Read1_3_ok b x16) (Read5_3_ok b x16) w
         ·have x17 : headD m c f k = 1 := by unfold headD; rw [if_pos x1, if_neg x9, if_pos x4, if_pos x3]
          have x18 : fieldD m c f k = 0 := by unfold fieldD; rw [if_pos x5, if_pos x6, if_pos x1]
          by_cases x19 : vA k 8 = (0)
          ·have x20 : methodD m c f k = 6 := by unfold methodD; rw [if_pos x1, if_pos x7, if_pos x8, if_pos x2, if_pos x19]
           have x21 : ReadD m c f k = 5 := by unfold ReadD; rw [if_neg (by rw [x17]; decide), if_pos x17, if_pos x18, if_neg (by rw [x20]; decide), if_neg (by rw [x20]; decide), if_neg (by rw [x20]; decide), if_neg (by rw [x20]; decide), if_neg (by rw [x20]; decide), if_neg (by rw [x20]; decide), if_pos x20]
           exact L_law_14 b x1 x2 x3 x4 x5 x6 x7 x8 (Read1_5_ok b x21) (Read5_5_ok b x21) w
          ·have x22 : methodD m c f k = 5 := by unfold methodD; rw [if_pos x1, if_pos x7, if_pos x8, if_pos x2, if_neg x19]
           have x23 : ReadD m c f k = 3 := by unfold ReadD; rw [if_neg (by rw [x17]; decide), if_pos x17, if_pos x18, if_neg (by rw [x22]; decide), if_neg (by rw [x22]; decide), if_neg (by rw [x22]; decide), if_neg (by rw [x22]; decide), if_neg (by rw [x22]; decide), if_pos x22]
           exact L_law_35 b x1 x2 x3 x4 x5 x6 x7 x8 (Read1_3_ok b x23) (Read5_3_ok b x23) w
        ·by_cases x24 : vA c 1024 = (0)
         ·have x25 : headD m c f k = 1 := by unfold headD; rw [if_pos x1, if_pos x24, if_pos x4, if_pos x3]
          have x26 : fieldD m c f k = 0 := by unfold fieldD; rw [if_pos x5, if_pos x6, if_pos x1]
          by_cases x27 : vA k 8 = (0)
          ·have x28 : methodD m c f k = 4 := by unfold methodD; rw [if_pos x1, if_pos x7, if_neg x8, if_pos x27, if_pos x2]
           have x29 : ReadD m c f k = 2 := by unfold ReadD; rw [if_neg (by rw [x25]; decide), if_pos x25, if_pos x26, if_neg (by rw [x28]; decide), if_neg (by rw [x28]; decide), if_neg (by rw [x28]; decide), if_neg (by rw [x28]; decide), if_pos x28]
           exact L_law_46 b x1 x2 x3 x4 x5 x6 x7 (Bool.eq_false_iff.2 x8) (Read1_2_ok b x29) (Read4_2_ok b x29) w
          ·have x30 : methodD m c f k = 3 := by unfold methodD; rw [if_pos x1, if_pos x7, if_neg x8, if_neg x27, if_pos x2]
           have x31 : ReadD m c f k = 1 := by unfold ReadD; rw [if_neg (by rw [x25]; decide), if_pos x25, if_pos x26, if_neg (by rw [x30]; decide), if_neg (by rw [x30]; decide), if_neg (by rw [x30]; decide), if_pos x30]
           exact L_law_22 b x1 x2 x3 x4 x5 x6 x7 (Bool.eq_false_iff.2 x8) (Read1_1_ok b x31) (Read4_1_ok b x31) w
         ·have x32 : headD m c f k = 1 := by unfold headD; rw [if_pos x1, if_neg x24, if_pos x4, if_pos x3]
          have x33 : fieldD m c f k = 0 := by unfold fieldD; rw [if_pos x5, if_pos x6, if_pos x1]
          by_cases x34 : vA k 8 = (0)
          ·have x35 : methodD m c f k = 4 := by unfold methodD; rw [if_pos x1, if_pos x7, if_neg x8, if_pos x34, if_pos x2]
           have x36 : ReadD m c f k = 2 := by unfold ReadD; rw [if_neg (by rw [x32]; decide), if_pos x32, if_pos x33, if_neg (by rw [x35]; decide), if_neg (by rw [x35]; decide), if_neg (by rw [x35]; decide), if_neg (by rw [x35]; decide), if_pos x35]
           exact L_law_46 b x1 x2 x3 x4 x5 x6 x7 (Bool.eq_false_iff.2 x8) (Read1_2_ok b x36) (Read4_2_ok b x36) w
          ·have x37 : methodD m c f k = 3 := by unfold methodD; rw [if_pos x1, if_pos x7, if_neg x8, if_neg x34, if_pos x2]
           have x38 : ReadD m c f k = 1 := by unfold ReadD; rw [if_neg (by rw [x32]; decide), if_pos x32, if_pos x33, if_neg (by rw [x37]; decide), if_neg (by rw [x37]; decide), if_neg (by rw [x37]; decide), if_pos x37]
           exact L_law_22 b x1 x2 x3 x4 x5 x6 x7 (Bool.eq_false_iff.2 x8) (Read1_1_ok b x38) (Read4_1_ok b x38) w
       ·by_cases x39 : vA c 1024 = (0)
        ·have x40 : headD m c f k = 1 := by unfold headD; rw [if_pos x1, if_pos x39, if_pos x4, if_pos x3]
         have x41 : fieldD m c f k = 0 := by unfold fieldD; rw [if_pos x5, if_pos x6, if_pos x1]
         by_cases x42 : vA k 8 = (0)
         ·have x43 : methodD m c f k = 4 := by unfold methodD; rw [if_pos x1, if_neg x7, if_pos x42, if_pos x2]
          have x44 : ReadD m c f k = 2 := by unfold ReadD; rw [if_neg (by rw [x40]; decide), if_pos x40, if_pos x41, if_neg (by rw [x43]; decide), if_neg (by rw [x43]; decide), if_neg (by rw [x43]; decide), if_neg (by rw [x43]; decide), if_pos x43]
          exact L_law_21 b x1 x2 x3 x4 x5 x6 x7 (Read1_2_ok b x44) (Read4_2_ok b x44) w
         ·have x45 : methodD m c f k = 3 := by unfold methodD; rw [if_pos x1, if_neg x7, if_neg x42, if_pos x2]
          have x46 : ReadD m c f k = 1 := by unfold ReadD; rw [if_neg (by rw [x40]; decide), if_pos x40, if_pos x41, if_neg (by rw [x45]; decide), if_neg (by rw [x45]; decide), if_neg (by rw [x45]; decide), if_pos x45]
          exact L_law_20 b x1 x2 x3 x4 x5 x6 x7 (Read1_1_ok b x46) (Read4_1_ok b x46) w
        ·have x47 : headD m c f k = 1 := by unfold headD; rw [if_pos x1, if_neg x39, if_pos x4, if_pos x3]
         have x48 : fieldD m c f k = 0 := by unfold fieldD; rw [if_pos x5, if_pos x6, if_pos x1]
         by_cases x49 : vA k 8 = (0)
         ·have x50 : methodD m c f k = 4 := by unfold methodD; rw [if_pos x1, if_neg x7, if_pos x49, if_pos x2]
          have x51 : ReadD m c f k = 2 := by unfold ReadD; rw [if_neg (by rw [x47]; decide), if_pos x47, if_pos x48, if_neg (by rw [x50]; decide), if_neg (by rw [x50]; decide), if_neg (by rw [x50]; decide), if_neg (by rw [x50]; decide), if_pos x50]
          exact L_law_21 b x1 x2 x3 x4 x5 x6 x7 (Read1_2_ok b x51) (Read4_2_ok b x51) w
         ·have x52 : methodD m c f k = 3 := by unfold methodD; rw [if_pos x1, if_neg x7, if_neg x49, if_pos x2]
          have x53 : ReadD m c f k = 1 := by unfold ReadD; rw [if_neg (by rw [x47]; decide), if_pos x47, if_pos x48, if_neg (by rw [x52]; decide), if_neg (by rw [x52]; decide), if_neg (by rw [x52]; decide), if_pos x52]
          exact L_law_20 b x1 x2 x3 x4 x5 x6 x7 (Read1_1_ok b x53) (Read4_1_ok b x53) w
      ·by_cases x54 : vA c 1024 = (0)
       ·have x55 : headD m c f k = 1 := by unfold headD; rw [if_pos x1, if_pos x54, if_pos x4, if_pos x3]
        have x56 : fieldD m c f k = 1 := by unfold fieldD; rw [if_pos x5, if_neg x6, if_pos x1]
        by_cases x57 : (k : Int) > (0)
        ·have x58 : ReadD m c f k = 4 := by unfold ReadD; rw [if_neg (by rw [x55]; decide), if_pos x55, if_neg (by rw [x56]; decide), if_pos x56, if_pos x57]
         exact L_law_57 b x1 x2 x3 x4 x5 (Bool.eq_false_iff.2 x6) (Read1_4_ok b x58) (Read6_4_ok b x58) w
        ·have x59 : ReadD m c f k = 6 := by unfold ReadD; rw [if_neg (by rw [x55]; decide), if_pos x55, if_neg (by rw [x56]; decide), if_pos x56, if_neg x57]
         exact L_law_72 b x1 x2 x3 x4 x5 (Bool.eq_false_iff.2 x6) (Read1_6_ok b x59) (Read6_6_ok b x59) w
       ·have x60 : headD m c f k = 1 := by unfold headD; rw [if_pos x1, if_neg x54, if_pos x4, if_pos x3]
        have x61 : fieldD m c f k = 1 := by unfold fieldD; rw [if_pos x5, if_neg x6, if_pos x1]
        by_cases x62 : (k : Int) > (0)
        ·have x63 : ReadD m c f k = 4 := by unfold ReadD; rw [if_neg (by rw [x60]; decide), if_pos x60, if_neg (by rw [x61]; decide), if_pos x61, if_pos x62]
         exact L_law_57 b x1 x2 x3 x4 x5 (Bool.eq_false_iff.2 x6) (Read1_4_ok b x63) (Read6_4_ok b x63) w
        ·have x64 : ReadD m c f k = 6 := by unfold ReadD; rw [if_neg (by rw [x60]; decide), if_pos x60, if_neg (by rw [x61]; decide), if_pos x61, if_neg x62]
         exact L_law_72 b x1 x2 x3 x4 x5 (Bool.eq_false_iff.2 x6) (Read1_6_ok b x64) (Read6_6_ok b x64) w
     ·by_cases x65 : vA c 1024 = (0)
      ·have x66 : headD m c f k = 1 := by unfold headD; rw [if_pos x1, if_pos x65, if_pos x4, if_pos x3]
       have x67 : fieldD m c f k = 1 := by unfold fieldD; rw [if_neg x5, if_pos x1]
       by_cases x68 : (k : Int) > (0)
       ·have x69 : ReadD m c f k = 4 := by unfold ReadD; rw [if_neg (by rw [x66]; decide), if_pos x66, if_neg (by rw [x67]; decide), if_pos x67, if_pos x68]
        exact L_law_13 b x1 x2 x3 x4 x5 (Read1_4_ok b x69) (Read6_4_ok b x69) w
       ·have x70 : ReadD m c f k = 6 := by unfold ReadD; rw [if_neg (by rw [x66]; decide), if_pos x66, if_neg (by rw [x67]; decide), if_pos x67, if_neg x68]
        exact L_law_71 b x1 x2 x3 x4 x5 (Read1_6_ok b x70) (Read6_6_ok b x70) w
      ·have x71 : headD m c f k = 1 := by unfold headD; rw [if_pos x1, if_neg x65, if_pos x4, if_pos x3]
       have x72 : fieldD m c f k = 1 := by unfold fieldD; rw [if_neg x5, if_pos x1]
       by_cases x73 : (k : Int) > (0)
       ·have x74 : ReadD m c f k = 4 := by unfold ReadD; rw [if_neg (by rw [x71]; decide), if_pos x71, if_neg (by rw [x72]; decide), if_pos x72, if_pos x73]
        exact L_law_13 b x1 x2 x3 x4 x5 (Read1_4_ok b x74) (Read6_4_ok b x74) w
       ·have x75 : ReadD m c f k = 6 := by unfold ReadD; rw [if_neg (by rw [x71]; decide), if_pos x71, if_neg (by rw [x72]; decide), if_pos x72, if_neg x73]
        exact L_law_71 b x1 x2 x3 x4 x5 (Read1_6_ok b x75) (Read6_6_ok b x75) w
    ·by_cases x76 : vA c 1024 = (0)
     ·by_cases x77 : vN f 31 = (0)
      ·by_cases x78 : acc f = true
       ·by_cases x79 : vN k 1055 = (0)
        ·by_cases x80 : acc k = true
         ·have x81 : headD m c f k = 1 := by unfold headD; rw [if_pos x1, if_pos x76, if_neg x4, if_pos x3]
          have x82 : fieldD m c f k = 0 := by unfold fieldD; rw [if_pos x77, if_pos x78, if_pos x1]
          by_cases x83 : vA k 8 = (0)
          ·have x84 : methodD m c f k = 6 := by unfold methodD; rw [if_pos x1, if_pos x79, if_pos x80, if_pos x2, if_pos x83]
           have x85 : ReadD m c f k = 5 := by unfold ReadD; rw [if_neg (by rw [x81]; decide), if_pos x81, if_pos x82, if_neg (by rw [x84]; decide), if_neg (by rw [x84]; decide), if_neg (by rw [x84]; decide), if_neg (by rw [x84]; decide), if_neg (by rw [x84]; decide), if_neg (by rw [x84]; decide), if_pos x84]
           exact L_law_24 b x1 x2 x3 x4 x76 x77 x78 x79 x80 (Read1_5_ok b x85) (Read5_5_ok b x85) w
          ·have x86 : methodD m c f k = 5 := by unfold methodD; rw [if_pos x1, if_pos x79, if_pos x80, if_pos x2, if_neg x83]
           have x87 : ReadD m c f k = 3 := by unfold ReadD; rw [if_neg (by rw [x81]; decide), if_pos x81, if_pos x82, if_neg (by rw [x86]; decide), if_neg (by rw [x86]; decide), if_neg (by rw [x86]; decide), if_neg (by rw [x86]; decide), if_neg (by rw [x86]; decide), if_pos x86]
           exact L_law_33 b x1 x2 x3 x4 x76 x77 x78 x79 x80 (Read1_3_ok b x87) (Read5_3_ok b x87) w
         ·have x88 : headD m c f k = 1 := by unfold headD; rw [if_pos x1, if_pos x76, if_neg x4, if_pos x3]
          have x89 : fieldD m c f k = 0 := by unfold fieldD; rw [if_pos x77, if_pos x78, if_pos x1]
          by_cases x90 : vA k 8 = (0)
          ·have x91 : methodD m c f k = 4 := by unfold methodD; rw [if_pos x1, if_pos x79, if_neg x80, if_pos x90, if_pos x2]
           have x92 : ReadD m c f k = 2 := by unfold ReadD; rw [if_neg (by rw [x88]; decide), if_pos x88, if_pos x89, if_neg (by rw [x91]; decide), if_neg (by rw [x91]; decide), if_neg (by rw [x91]; decide), if_neg (by rw [x91]; decide), if_pos x91]
           exact L_law_62 b x1 x2 x3 x4 x76 x77 x78 x79 (Bool.eq_false_iff.2 x80) (Read1_2_ok b x92) (Read4_2_ok b x92) w
          ·have x93 : methodD m c f k = 3 := by unfold methodD; rw [if_pos x1, if_pos x79, if_neg x80, if_neg x90, if_pos x2]
           have x94 : ReadD m c f k = 1 := by unfold ReadD; rw [if_neg (by rw [x88]; decide), if_pos x88, if_pos x89, if_neg (by rw [x93]; decide), if_neg (by rw [x93]; decide), if_neg (by rw [x93]; decide), if_pos x93]
           exact L_law_56 b x1 x2 x3 x4 x76 x77 x78 x79 (Bool.eq_false_iff.2 x80) (Read1_1_ok b x94) (Read4_1_ok b x94) w
        ·have x95 : headD m c f k = 1 := by unfold headD; rw [if_pos x1, if_pos x76, if_neg x4, if_pos x3]
         have x96 : fieldD m c f k = 0 := by unfold fieldD; rw [if_pos x77, if_pos x78, if_pos x1]
         by_cases x97 : vA k 8 = (0)
         ·have x98 : methodD m c f k = 4 := by unfold methodD; rw [if_pos x1, if_neg x79, if_pos x97, if_pos x2]
          have x99 : ReadD m c f k = 2 := by unfold ReadD; rw [if_neg (by rw [x95]; decide), if_pos x95, if_pos x96, if_neg (by rw [x98]; decide), if_neg (by rw [x98]; decide), if_neg (by rw [x98]; decide), if_neg (by rw [x98]; decide), if_pos x98]
          exact L_law_31 b x1 x2 x3 x4 x76 x77 x78 x79 (Read1_2_ok b x99) (Read4_2_ok b x99) w
         ·have x100 : methodD m c f k = 3 := by unfold methodD; rw [if_pos x1, if_neg x79, if_neg x97, if_pos x2]
          have x101 : ReadD m c f k = 1 := by unfold ReadD; rw [if_neg (by rw [x95]; decide), if_pos x95, if_pos x96, if_neg (by rw [x100]; decide), if_neg (by rw [x100]; decide), if_neg (by rw [x100]; decide), if_pos x100]
          exact L_law_32 b x1 x2 x3 x4 x76 x77 x78 x79 (Read1_1_ok b x101) (Read4_1_ok b x101) w
       ·have x102 : headD m c f k = 1 := by unfold headD; rw [if_pos x1, if_pos x76, if_neg x4, if_pos x3]
        have x103 : fieldD m c f k = 1 := by unfold fieldD; rw [if_pos x77, if_neg x78, if_pos x1]
        by_cases x104 : (k : Int) > (0)
        ·have x105 : ReadD m c f k = 4 := by unfold ReadD; rw [if_neg (by rw [x102]; decide), if_pos x102, if_neg (by rw [x103]; decide), if_pos x103, if_pos x104]
         exact L_law_55 b x1 x2 x3 x4 x76 x77 (Bool.eq_false_iff.2 x78) (Read1_4_ok b x105) (Read6_4_ok b x105) w
        ·have x106 : ReadD m c f k = 6 := by unfold ReadD; rw [if_neg (by rw [x102]; decide), if_pos x102, if_neg (by rw [x103]; decide), if_pos x103, if_neg x104]
         exact L_law_74 b x1 x2 x3 x4 x76 x77 (Bool.eq_false_iff.2 x78) (Read1_6_ok b x106) (Read6_6_ok b x106) w
      ·have x107 : headD m c f k = 1 := by unfold headD; rw [if_pos x1, if_pos x76, if_neg x4, if_pos x3]
       have x108 : fieldD m c f k = 1 := by unfold fieldD; rw [if_neg x77, if_pos x1]
       by_cases x109 : (k : Int) > (0)
       ·have x110 : ReadD m c f k = 4 := by unfold ReadD; rw [if_neg (by rw [x107]; decide), if_pos x107, if_neg (by rw [x108]; decide), if_pos x108, if_pos x109]
        exact L_law_54 b x1 x2 x3 x4 x76 x77 (Read1_4_ok b x110) (Read6_4_ok b x110) w
       ·have x111 : ReadD m c f k = 6 := by unfold ReadD; rw [if_neg (by rw [x107]; decide), if_pos x107, if_neg (by rw [x108]; decide), if_pos x108, if_neg x109]
        exact L_law_73 b x1 x2 x3 x4 x76 x77 (Read1_6_ok b x111) (Read6_6_ok b x111) w
     ·have x112 : headD m c f k = 0 := by unfold headD; rw [if_pos x1, if_neg x76, if_neg x4, if_pos x3]
      by_cases x113 : (f : Int) ≤ (100)
      ·by_cases x114 : (f : Int) > (0)
       ·have x115 : ReadD m c f k = 0 := by unfold ReadD; rw [if_pos x112, if_pos x113, if_pos x114]
        exact L_law_65 b x1 x2 x3 x4 x76 (Read1_0_ok b x115) (Read0_0_ok b x115) w
       ·have x116 : ReadD m c f k = 0 := by unfold ReadD; rw [if_pos x112, if_pos x113, if_neg x114]
        exact L_law_65 b x1 x2 x3 x4 x76 (Read1_0_ok b x116) (Read0_0_ok b x116) w
      ·by_cases x117 : (f : Int) > (0)
       ·have x118 : ReadD m c f k = 0 := by unfold ReadD; rw [if_pos x112, if_neg x113, if_pos x117]
        exact L_law_65 b x1 x2 x3 x4 x76 (Read1_0_ok b x118) (Read0_0_ok b x118) w
       ·have e_ : f = 0 := by omega
        subst e_
        first | omega | exact absurd x113 (by decide)
   ·by_cases x119 : vA c 1024 = (0)
    ·by_cases x120 : vA c 16 = (0)
     ·have x121 : headD m c f k = 0 := by unfold headD; rw [if_pos x1, if_pos x119, if_pos x120, if_neg x3]
      by_cases x122 : (f : Int) ≤ (100)
      ·by_cases x123 : (f : Int) > (0)
       ·have x124 : ReadD m c f k = 0 := by unfold ReadD; rw [if_pos x121, if_pos x122, if_pos x123]
        exact L_law_12 b x1 x2 x3 (Read1_0_ok b x124) (Read0_0_ok b x124) w
       ·have x125 : ReadD m c f k = 0 := by unfold ReadD; rw [if_pos x121, if_pos x122, if_neg x123]
        exact L_law_12 b x1 x2 x3 (Read1_0_ok b x125) (Read0_0_ok b x125) w
      ·by_cases x126 : (f : Int) > (0)
       ·have x127 : ReadD m c f k = 0 := by unfold ReadD; rw [if_pos x121, if_neg x122, if_pos x126]
        exact L_law_12 b x1 x2 x3 (Read1_0_ok b x127) (Read0_0_ok b x127) w
       ·have e_ : f = 0 := by omega
        subst e_
        first | omega | exact absurd x122 (by decide)
     ·have x128 : headD m c f k = 0 := by unfold headD; rw [if_pos x1, if_pos x119, if_neg x120, if_neg x3]
      by_cases x129 : (f : Int) ≤ (100)
      ·by_cases x130 : (f : Int) > (0)
       ·have x131 : ReadD m c f k = 0 := by unfold ReadD; rw [if_pos x128, if_pos x129, if_pos x130]
        exact L_law_12 b x1 x2 x3 (Read1_0_ok b x131) (Read0_0_ok b x131) w
       ·have x132 : ReadD m c f k = 0 := by unfold ReadD; rw [if_pos x128, if_pos x129, if_neg x130]
        exact L_law_12 b x1 x2 x3 (Read1_0_ok b x132) (Read0_0_ok b x132) w
      ·by_cases x133 : (f : Int) > (0)
       ·have x134 : ReadD m c f k = 0 := by unfold ReadD; rw [if_pos x128, if_neg x129, if_pos x133]
        exact L_law_12 b x1 x2 x3 (Read1_0_ok b x134) (Read0_0_ok b x134) w
       ·have e_ : f = 0 := by omega
        subst e_
        first | omega | exact absurd x129 (by decide)
    ·by_cases x135 : vA c 16 = (0)
     ·have x136 : headD m c f k = 0 := by unfold headD; rw [if_pos x1, if_neg x119, if_pos x135, if_neg x3]
      by_cases x137 : (f : Int) ≤ (100)
      ·by_cases x138 : (f : Int) > (0)
       ·have x139 : ReadD m c f k = 0 := by unfold ReadD; rw [if_pos x136, if_pos x137, if_pos x138]
        exact L_law_12 b x1 x2 x3 (Read1_0_ok b x139) (Read0_0_ok b x139) w
       ·have x140 : ReadD m c f k = 0 := by unfold ReadD; rw [if_pos x136, if_pos x137, if_neg x138]
        exact L_law_12 b x1 x2 x3 (Read1_0_ok b x140) (Read0_0_ok b x140) w
      ·by_cases x141 : (f : Int) > (0)
       ·have x142 : ReadD m c f k = 0 := by unfold ReadD; rw [if_pos x136, if_neg x137, if_pos x141]
        exact L_law_12 b x1 x2 x3 (Read1_0_ok b x142) (Read0_0_ok b x142) w
       ·have e_ : f = 0 := by omega
        subst e_
        first | omega | exact absurd x137 (by decide)
     ·have x143 : headD m c f k = 0 := by unfold headD; rw [if_pos x1, if_neg x119, if_neg x135, if_neg x3]
      by_cases x144 : (f : Int) ≤ (100)
      ·by_cases x145 : (f : Int) > (0)
       ·have x146 : ReadD m c f k = 0 := by unfold ReadD; rw [if_pos x143, if_pos x144, if_pos x145]
        exact L_law_12 b x1 x2 x3 (Read1_0_ok b x146) (Read0_0_ok b x146) w
       ·have x147 : ReadD m c f k = 0 := by unfold ReadD; rw [if_pos x143, if_pos x144, if_neg x145]
        exact L_law_12 b x1 x2 x3 (Read1_0_ok b x147) (Read0_0_ok b x147) w
      ·by_cases x148 : (f : Int) > (0)
       ·have x149 : ReadD m c f k = 0 := by unfold ReadD; rw [if_pos x143, if_neg x144, if_pos x148]
        exact L_law_12 b x1 x2 x3 (Read1_0_ok b x149) (Read0_0_ok b x149) w
       ·have e_ : f = 0 := by omega
        subst e_
        first | omega | exact absurd x144 (by decide)
  ·by_cases x150 : vN c 1585 = (0)
   ·by_cases x151 : vA c 16 = (0)
    ·by_cases x152 : vN f 31 = (0)
     ·by_cases x153 : acc f = true
      ·by_cases x154 : vN k 1055 = (0)
       ·by_cases x155 : acc k = true
        ·by_cases x156 : vA k 26 = (0)
         ·by_cases x157 : vA c 1024 = (0)
          ·have x158 : headD m c f k = 1 := by unfold headD; rw [if_pos x1, if_pos x157, if_pos x151, if_pos x150]
           have x159 : fieldD m c f k = 0 := by unfold fieldD; rw [if_pos x152, if_pos x153, if_pos x1]
           by_cases x160 : vA k 8 = (0)
           ·have x161 : methodD m c f k = 2 := by unfold methodD; rw [if_pos x1, if_pos x154, if_pos x155, if_neg x2, if_pos x156, if_pos x160]
            have x162 : ReadD m c f k = 9 := by unfold ReadD; rw [if_neg (by rw [x158]; decide), if_pos x158, if_pos x159, if_neg (by rw [x161]; decide), if_neg (by rw [x161]; decide), if_pos x161]
            exact L_law_19 b x1 x2 x150 x151 x152 x153 x154 x155 x156 (Read3_9_ok b x162) (Read2_9_ok b x162) w
           ·exact br0 b.k1 x160 x156
          ·have x163 : headD m c f k = 1 := by unfold headD; rw [if_pos x1, if_neg x157, if_pos x151, if_pos x150]
           have x164 : fieldD m c f k = 0 := by unfold fieldD; rw [if_pos x152, if_pos x153, if_pos x1]
           by_cases x165 : vA k 8 = (0)
           ·have x166 : methodD m c f k = 2 := by unfold methodD; rw [if_pos x1, if_pos x154, if_pos x155, if_neg x2, if_pos x156, if_pos x165]
            have x167 : ReadD m c f k = 9 := by unfold ReadD; rw [if_neg (by rw [x163]; decide), if_pos x163, if_pos x164, if_neg (by rw [x166]; decide), if_neg (by rw [x166]; decide), if_pos x166]
            exact L_law_19 b x1 x2 x150 x151 x152 x153 x154 x155 x156 (Read3_9_ok b x167) (Read2_9_ok b x167) w
           ·exact br0 b.k1 x165 x156
         ·by_cases x168 : vA c 1024 = (0)
          ·have x169 : headD m c f k = 1 := by unfold headD; rw [if_pos x1, if_pos x168, if_pos x151, if_pos x150]
           have x170 : fieldD m c f k = 0 := by unfold fieldD; rw [if_pos x152, if_pos x153, if_pos x1]
           by_cases x171 : vA k 8 = (0)
           ·have x172 : methodD m c f k = 1 := by unfold methodD; rw [if_pos x1, if_pos x154, if_pos x155, if_neg x2, if_neg x156, if_pos x171]
            have x173 : ReadD m c f k = 8 := by unfold ReadD; rw [if_neg (by rw [x169]; decide), if_pos x169, if_pos x170, if_neg (by rw [x172]; decide), if_pos x172]
            exact L_law_18 b x1 x2 x150 x151 x152 x153 x154 x155 x156 (Read3_8_ok b x173) (Read2_8_ok b x173) w
           ·have x174 : methodD m c f k = 0 := by unfold methodD; rw [if_pos x1, if_pos x154, if_pos x155, if_neg x2, if_neg x156, if_neg x171]
            have x175 : ReadD m c f k = 7 := by unfold ReadD; rw [if_neg (by rw [x169]; decide), if_pos x169, if_pos x170, if_pos x174]
            exact L_law_17 b x1 x2 x150 x151 x152 x153 x154 x155 x156 (Read3_7_ok b x175) (Read2_7_ok b x175) w
          ·have x176 : headD m c f k = 1 := by unfold headD; rw [if_pos x1, if_neg x168, if_pos x151, if_pos x150]
           have x177 : fieldD m c f k = 0 := by unfold fieldD; rw [if_pos x152, if_pos x153, if_pos x1]
           by_cases x178 : vA k 8 = (0)
           ·have x179 : methodD m c f k = 1 := by unfold methodD; rw [if_pos x1, if_pos x154, if_pos x155, if_neg x2, if_neg x156, if_pos x178]
            have x180 : ReadD m c f k = 8 := by unfold ReadD; rw [if_neg (by rw [x176]; decide), if_pos x176, if_pos x177, if_neg (by rw [x179]; decide), if_pos x179]
            exact L_law_18 b x1 x2 x150 x151 x152 x153 x154 x155 x156 (Read3_8_ok b x180) (Read2_8_ok b x180) w
           ·have x181 : methodD m c f k = 0 := by unfold methodD; rw [if_pos x1, if_pos x154, if_pos x155, if_neg x2, if_neg x156, if_neg x178]
            have x182 : ReadD m c f k = 7 := by unfold ReadD; rw [if_neg (by rw [x176]; decide), if_pos x176, if_pos x177, if_pos x181]
            exact L_law_17 b x1 x2 x150 x151 x152 x153 x154 x155 x156 (Read3_7_ok b x182) (Read2_7_ok b x182) w
        ·by_cases x183 : vA c 1024 = (0)
         ·have x184 : headD m c f k = 1 := by unfold headD; rw [if_pos x1, if_pos x183, if_pos x151, if_pos x150]
          have x185 : fieldD m c f k = 0 := by unfold fieldD; rw [if_pos x152, if_pos x153, if_pos x1]
          by_cases x186 : vA k 8 = (0)
          ·have x187 : methodD m c f k = 1 := by unfold methodD; rw [if_pos x1, if_pos x154, if_neg x155, if_pos x186, if_neg x2]
           have x188 : ReadD m c f k = 8 := by unfold ReadD; rw [if_neg (by rw [x184]; decide), if_pos x184, if_pos x185, if_neg (by rw [x187]; decide), if_pos x187]
           exact L_law_49 b x1 x2 x150 x151 x152 x153 x154 (Bool.eq_false_iff.2 x155) (Read3_8_ok b x188) (Read2_8_ok b x188) w
          ·have x189 : methodD m c f k = 0 := by unfold methodD; rw [if_pos x1, if_pos x154, if_neg x155, if_neg x186, if_neg x2]
           have x190 : ReadD m c f k = 7 := by unfold ReadD; rw [if_neg (by rw [x184]; decide), if_pos x184, if_pos x185, if_pos x189]
           exact L_law_34 b x1 x2 x150 x151 x152 x153 x154 (Bool.eq_false_iff.2 x155) (Read3_7_ok b x190) (Read2_7_ok b x190) w
         ·have x191 : headD m c f k = 1 := by unfold headD; rw [if_pos x1, if_neg x183, if_pos x151, if_pos x150]
          have x192 : fieldD m c f k = 0 := by unfold fieldD; rw [if_pos x152, if_pos x153, if_pos x1]
          by_cases x193 : vA k 8 = (0)
          ·have x194 : methodD m c f k = 1 := by unfold methodD; rw [if_pos x1, if_pos x154, if_neg x155, if_pos x193, if_neg x2]
           have x195 : ReadD m c f k = 8 := by unfold ReadD; rw [if_neg (by rw [x191]; decide), if_pos x191, if_pos x192, if_neg (by rw [x194]; decide), if_pos x194]
           exact L_law_49 b x1 x2 x150 x151 x152 x153 x154 (Bool.eq_false_iff.2 x155) (Read3_8_ok b x195) (Read2_8_ok b x195) w
          ·have x196 : methodD m c f k = 0 := by unfold methodD; rw [if_pos x1, if_pos x154, if_neg x155, if_neg x193, if_neg x2]
           have x197 : ReadD m c f k = 7 := by unfold ReadD; rw [if_neg (by rw [x191]; decide), if_pos x191, if_pos x192, if_pos x196]
           exact L_law_34 b x1 x2 x150 x151 x152 x153 x154 (Bool.eq_false_iff.2 x155) (Read3_7_ok b x197) (Read2_7_ok b x197) w
       ·by_cases x198 : vA c 1024 = (0)
        ·have x199 : headD m c f k = 1 := by unfold headD; rw [if_pos x1, if_pos x198, if_pos x151, if_pos x150]
         have x200 : fieldD m c f k = 0 := by unfold fieldD; rw [if_pos x152, if_pos x153, if_pos x1]
         by_cases x201 : vA k 8 = (0)
         ·have x202 : methodD m c f k = 1 := by unfold methodD; rw [if_pos x1, if_neg x154, if_pos x201, if_neg x2]
          have x203 : ReadD m c f k = 8 := by unfold ReadD; rw [if_neg (by rw [x199]; decide), if_pos x199, if_pos x200, if_neg (by rw [x202]; decide), if_pos x202]
          exact L_law_15 b x1 x2 x150 x151 x152 x153 x154 (Read3_8_ok b x203) (Read2_8_ok b x203) w
         ·have x204 : methodD m c f k = 0 := by unfold methodD; rw [if_pos x1, if_neg x154, if_neg x201, if_neg x2]
          have x205 : ReadD m c f k = 7 := by unfold ReadD; rw [if_neg (by rw [x199]; decide), if_pos x199, if_pos x200, if_pos x204]
          exact L_law_16 b x1 x2 x150 x151 x152 x153 x154 (Read3_7_ok b x205) (Read2_7_ok b x205) w
        ·have x206 : headD m c f k = 1 := by unfold headD; rw [if_pos x1, if_neg x198, if_pos x151, if_pos x150]
         have x207 : fieldD m c f k = 0 := by unfold fieldD; rw [if_pos x152, if_pos x153, if_pos x1]
         by_cases x208 : vA k 8 = (0)
         ·have x209 : methodD m c f k = 1 := by unfold methodD; rw [if_pos x1, if_neg x154, if_pos x208, if_neg x2]
          have x210 : ReadD m c f k = 8 := by unfold ReadD; rw [if_neg (by rw [x206]; decide), if_pos x206, if_pos x207, if_neg (by rw [x209]; decide), if_pos x209]
          exact L_law_15 b x1 x2 x150 x151 x152 x153 x154 (Read3_8_ok b x210) (Read2_8_ok b x210) w
         ·have x211 : methodD m c f k = 0 := by unfold methodD; rw [if_pos x1, if_neg x154, if_neg x208, if_neg x2]
          have x212 : ReadD m c f k = 7 := by unfold ReadD; rw [if_neg (by rw [x206]; decide), if_pos x206, if_pos x207, if_pos x211]
          exact L_law_16 b x1 x2 x150 x151 x152 x153 x154 (Read3_7_ok b x212) (Read2_7_ok b x212) w
      ·by_cases x213 : vA c 1024 = (0)
       ·have x214 : headD m c f k = 1 := by unfold headD; rw [if_pos x1, if_pos x213, if_pos x151, if_pos x150]
        have x215 : fieldD m c f k = 1 := by unfold fieldD; rw [if_pos x152, if_neg x153, if_pos x1]
        by_cases x216 : (k : Int) > (0)
        ·have x217 : ReadD m c f k = 4 := by unfold ReadD; rw [if_neg (by rw [x214]; decide), if_pos x214, if_neg (by rw [x215]; decide), if_pos x215, if_pos x216]
         exact L_law_63 b x1 x2 x150 x151 x152 (Bool.eq_false_iff.2 x153) (Read3_4_ok b x217) (Read8_4_ok b x217) w
        ·have e_ : k = 0 := by omega
         subst e_
         first | omega | exact absurd x2 (by decide)
       ·have x218 : headD m c f k = 1 := by unfold headD; rw [if_pos x1, if_neg x213, if_pos x151, if_pos x150]
        have x219 : fieldD m c f k = 1 := by unfold fieldD; rw [if_pos x152, if_neg x153, if_pos x1]
        by_cases x220 : (k : Int) > (0)
        ·have x221 : ReadD m c f k = 4 := by unfold ReadD; rw [if_neg (by rw [x218]; decide), if_pos x218, if_neg (by rw [x219]; decide), if_pos x219, if_pos x220]
         exact L_law_63 b x1 x2 x150 x151 x152 (Bool.eq_false_iff.2 x153) (Read3_4_ok b x221) (Read8_4_ok b x221) w
        ·have e_ : k = 0 := by omega
         subst e_
         first | omega | exact absurd x2 (by decide)
     ·by_cases x222 : vA c 1024 = (0)
      ·have x223 : headD m c f k = 1 := by unfold headD; rw [if_pos x1, if_pos x222, if_pos x151, if_pos x150]
       have x224 : fieldD m c f k = 1 := by unfold fieldD; rw [if_neg x152, if_pos x1]
       by_cases x225 : (k : Int) > (0)
       ·have x226 : ReadD m c f k = 4 := by unfold ReadD; rw [if_neg (by rw [x223]; decide), if_pos x223, if_neg (by rw [x224]; decide), if_pos x224, if_pos x225]
        exact L_law_45 b x1 x2 x150 x151 x152 (Read3_4_ok b x226) (Read8_4_ok b x226) w
       ·have e_ : k = 0 := by omega
        subst e_
        first | omega | exact absurd x2 (by decide)
      ·have x227 : headD m c f k = 1 := by unfold headD; rw [if_pos x1, if_neg x222, if_pos x151, if_pos x150]
       have x228 : fieldD m c f k = 1 := by unfold fieldD; rw [if_neg x152, if_pos x1]
       by_cases x229 : (k : Int) > (0)
       ·have x230 : ReadD m c f k = 4 := by unfold ReadD; rw [if_neg (by rw [x227]; decide), if_pos x227, if_neg (by rw [x228]; decide), if_pos x228, if_pos x229]
        exact L_law_45 b x1 x2 x150 x151 x152 (Read3_4_ok b x230) (Read8_4_ok b x230) w
       ·have e_ : k = 0 := by omega
        subst e_
        first | omega | exact absurd x2 (by decide)
    ·by_cases x231 : vA c 1024 = (0)
     ·by_cases x232 : vN f 31 = (0)
      ·by_cases x233 : acc f = true
       ·by_cases x234 : vN k 1055 = (0)
        ·by_cases x235 : acc k = true
         ·by_cases x236 : vA k 26 = (0)
          ·have x237 : headD m c f k = 1 := by unfold headD; rw [if_pos x1, if_pos x231, if_neg x151, if_pos x150]
           have x238 : fieldD m c f k = 0 := by unfold fieldD; rw [if_pos x232, if_pos x233, if_pos x1]
           by_cases x239 : vA k 8 = (0)
           ·have x240 : methodD m c f k = 2 := by unfold methodD; rw [if_pos x1, if_pos x234, if_pos x235, if_neg x2, if_pos x236, if_pos x239]
            have x241 : ReadD m c f k = 9 := by unfold ReadD; rw [if_neg (by rw [x237]; decide), if_pos x237, if_pos x238, if_neg (by rw [x240]; decide), if_neg (by rw [x240]; decide), if_pos x240]
            exact L_law_30 b x1 x2 x150 x151 x231 x232 x233 x234 x235 x236 (Read3_9_ok b x241) (Read2_9_ok b x241) w
           ·exact br0 b.k1 x239 x236
          ·have x242 : headD m c f k = 1 := by unfold headD; rw [if_pos x1, if_pos x231, if_neg x151, if_pos x150]
           have x243 : fieldD m c f k = 0 := by unfold fieldD; rw [if_pos x232, if_pos x233, if_pos x1]
           by_cases x244 : vA k 8 = (0)
           ·have x245 : methodD m c f k = 1 := by unfold methodD; rw [if_pos x1, if_pos x234, if_pos x235, if_neg x2, if_neg x236, if_pos x244]
            have x246 : ReadD m c f k = 8 := by unfold ReadD; rw [if_neg (by rw [x242]; decide), if_pos x242, if_pos x243, if_neg (by rw [x245]; decide), if_pos x245]
            exact L_law_28 b x1 x2 x150 x151 x231 x232 x233 x234 x235 x236 (Read3_8_ok b x246) (Read2_8_ok b x246) w
           ·have x247 : methodD m c f k = 0 := by unfold methodD; rw [if_pos x1, if_pos x234, if_pos x235, if_neg x2, if_neg x236, if_neg x244]
            have x248 : ReadD m c f k = 7 := by unfold ReadD; rw [if_neg (by rw [x242]; decide), if_pos x242, if_pos x243, if_pos x247]
            exact L_law_29 b x1 x2 x150 x151 x231 x232 x233 x234 x235 x236 (Read3_7_ok b x248) (Read2_7_ok b x248) w
         ·have x249 : headD m c f k = 1 := by unfold headD; rw [if_pos x1, if_pos x231, if_neg x151, if_pos x150]
          have x250 : fieldD m c f k = 0 := by unfold fieldD; rw [if_pos x232, if_pos x233, if_pos x1]
          by_cases x251 : vA k 8 = (0)
          ·have x252 : methodD m c f k = 1 := by unfold methodD; rw [if_pos x1, if_pos x234, if_neg x235, if_pos x251, if_neg x2]
           have x253 : ReadD m c f k = 8 := by unfold ReadD; rw [if_neg (by rw [x249]; decide), if_pos x249, if_pos x250, if_neg (by rw [x252]; decide), if_pos x252]
           exact L_law_48 b x1 x2 x150 x151 x231 x232 x233 x234 (Bool.eq_false_iff.2 x235) (Read3_8_ok b x253) (Read2_8_ok b x253) w
          ·have x254 : methodD m c f k = 0 := by unfold methodD; rw [if_pos x1, if_pos x234, if_neg x235, if_neg x251, if_neg x2]
           have x255 : ReadD m c f k = 7 := by unfold ReadD; rw [if_neg (by rw [x249]; decide), if_pos x249, if_pos x250, if_pos x254]
           exact L_law_27 b x1 x2 x150 x151 x231 x232 x233 x234 (Bool.eq_false_iff.2 x235) (Read3_7_ok b x255) (Read2_7_ok b x255) w
        ·have x256 : headD m c f k = 1 := by unfold headD; rw [if_pos x1, if_pos x231, if_neg x151, if_pos x150]
         have x257 : fieldD m c f k = 0 := by unfold fieldD; rw [if_pos x232, if_pos x233, if_pos x1]
         by_cases x258 : vA k 8 = (0)
         ·have x259 : methodD m c f k = 1 := by unfold methodD; rw [if_pos x1, if_neg x234, if_pos x258, if_neg x2]
          have x260 : ReadD m c f k = 8 := by unfold ReadD; rw [if_neg (by rw [x256]; decide), if_pos x256, if_pos x257, if_neg (by rw [x259]; decide), if_pos x259]
          exact L_law_26 b x1 x2 x150 x151 x231 x232 x233 x234 (Read3_8_ok b x260) (Read2_8_ok b x260) w
         ·have x261 : methodD m c f k = 0 := by unfold methodD; rw [if_pos x1, if_neg x234, if_neg x258, if_neg x2]
          have x262 : ReadD m c f k = 7 := by unfold ReadD; rw [if_neg (by rw [x256]; decide), if_pos x256, if_pos x257, if_pos x261]
          exact L_law_25 b x1 x2 x150 x151 x231 x232 x233 x234 (Read3_7_ok b x262) (Read2_7_ok b x262) w
       ·have x263 : headD m c f k = 1 := by unfold headD; rw [if_pos x1, if_pos x231, if_neg x151, if_pos x150]
        have x264 : fieldD m c f k = 1 := by unfold fieldD; rw [if_pos x232, if_neg x233, if_pos x1]
        by_cases x265 : (k : Int) > (0)
        ·have x266 : ReadD m c f k = 4 := by unfold ReadD; rw [if_neg (by rw [x263]; decide), if_pos x263, if_neg (by rw [x264]; decide), if_pos x264, if_pos x265]
         exact L_law_61 b x1 x2 x150 x151 x231 x232 (Bool.eq_false_iff.2 x233) (Read3_4_ok b x266) (Read8_4_ok b x266) w
        ·have e_ : k = 0 := by omega
         subst e_
         first | omega | exact absurd x2 (by decide)
      ·have x267 : headD m c f k = 1 := by unfold headD; rw [if_pos x1, if_pos x231, if_neg x151, if_pos x150]
       have x268 : fieldD m c f k = 1 := by unfold fieldD; rw [if_neg x232, if_pos x1]
       by_cases x269 : (k : Int) > (0)
       ·have x270 : ReadD m c f k = 4 := by unfold ReadD; rw [if_neg (by rw [x267]; decide), if_pos x267, if_neg (by rw [x268]; decide), if_pos x268, if_pos x269]
        exact L_law_60 b x1 x2 x150 x151 x231 x232 (Read3_4_ok b x270) (Read8_4_ok b x270) w
       ·have e_ : k = 0 := by omega
        subst e_
        first | omega | exact absurd x2 (by decide)
     ·have x271 : headD m c f k = 0 := by unfold headD; rw [if_pos x1, if_neg x231, if_neg x151, if_pos x150]
      by_cases x272 : (f : Int) ≤ (100)
      ·by_cases x273 : (f : Int) > (0)
       ·have x274 : ReadD m c f k = 0 := by unfold ReadD; rw [if_pos x271, if_pos x272, if_pos x273]
        exact L_law_68 b x1 x2 x150 x151 x231 (Read3_0_ok b x274) (Read7_0_ok b x274) w
       ·have x275 : ReadD m c f k = 0 := by unfold ReadD; rw [if_pos x271, if_pos x272, if_neg x273]
        exact L_law_68 b x1 x2 x150 x151 x231 (Read3_0_ok b x275) (Read7_0_ok b x275) w
      ·by_cases x276 : (f : Int) > (0)
       ·have x277 : ReadD m c f k = 0 := by unfold ReadD; rw [if_pos x271, if_neg x272, if_pos x276]
        exact L_law_68 b x1 x2 x150 x151 x231 (Read3_0_ok b x277) (Read7_0_ok b x277) w
       ·have e_ : f = 0 := by omega
        subst e_
        first | omega | exact absurd x272 (by decide)
   ·by_cases x278 : vA c 1024 = (0)
    ·by_cases x279 : vA c 16 = (0)
     ·have x280 : headD m c f k = 0 := by unfold headD; rw [if_pos x1, if_pos x278, if_pos x279, if_neg x150]
      by_cases x281 : (f : Int) ≤ (100)
      ·by_cases x282 : (f : Int) > (0)
       ·have x283 : ReadD m c f k = 0 := by unfold ReadD; rw [if_pos x280, if_pos x281, if_pos x282]
        exact L_law_44 b x1 x2 x150 (Read3_0_ok b x283) (Read7_0_ok b x283) w
       ·have x284 : ReadD m c f k = 0 := by unfold ReadD; rw [if_pos x280, if_pos x281, if_neg x282]
        exact L_law_44 b x1 x2 x150 (Read3_0_ok b x284) (Read7_0_ok b x284) w
      ·by_cases x285 : (f : Int) > (0)
       ·have x286 : ReadD m c f k = 0 := by unfold ReadD; rw [if_pos x280, if_neg x281, if_pos x285]
        exact L_law_44 b x1 x2 x150 (Read3_0_ok b x286) (Read7_0_ok b x286) w
       ·have e_ : f = 0 := by omega
        subst e_
        first | omega | exact absurd x281 (by decide)
     ·have x287 : headD m c f k = 0 := by unfold headD; rw [if_pos x1, if_pos x278, if_neg x279, if_neg x150]
      by_cases x288 : (f : Int) ≤ (100)
      ·by_cases x289 : (f : Int) > (0)
       ·have x290 : ReadD m c f k = 0 := by unfold ReadD; rw [if_pos x287, if_pos x288, if_pos x289]
        exact L_law_44 b x1 x2 x150 (Read3_0_ok b x290) (Read7_0_ok b x290) w
       ·have x291 : ReadD m c f k = 0 := by unfold ReadD; rw [if_pos x287, if_pos x288, if_neg x289]
        exact L_law_44 b x1 x2 x150 (Read3_0_ok b x291) (Read7_0_ok b x291) w
      ·by_cases x292 : (f : Int) > (0)
       ·have x293 : ReadD m c f k = 0 := by unfold ReadD; rw [if_pos x287, if_neg x288, if_pos x292]
        exact L_law_44 b x1 x2 x150 (Read3_0_ok b x293) (Read7_0_ok b x293) w
       ·have e_ : f = 0 := by omega
        subst e_
        first | omega | exact absurd x288 (by decide)
    ·by_cases x294 : vA c 16 = (0)
     ·have x295 : headD m c f k = 0 := by unfold headD; rw [if_pos x1, if_neg x278, if_pos x294, if_neg x150]
      by_cases x296 : (f : Int) ≤ (100)
      ·by_cases x297 : (f : Int) > (0)
       ·have x298 : ReadD m c f k = 0 := by unfold ReadD; rw [if_pos x295, if_pos x296, if_pos x297]
        exact L_law_44 b x1 x2 x150 (Read3_0_ok b x298) (Read7_0_ok b x298) w
       ·have x299 : ReadD m c f k = 0 := by unfold ReadD; rw [if_pos x295, if_pos x296, if_neg x297]
        exact L_law_44 b x1 x2 x150 (Read3_0_ok b x299) (Read7_0_ok b x299) w
      ·by_cases x300 : (f : Int) > (0)
       ·have x301 : ReadD m c f k = 0 := by unfold ReadD; rw [if_pos x295, if_neg x296, if_pos x300]
        exact L_law_44 b x1 x2 x150 (Read3_0_ok b x301) (Read7_0_ok b x301) w
       ·have e_ : f = 0 := by omega
        subst e_
        first | omega | exact absurd x296 (by decide)
     ·have x302 : headD m c f k = 0 := by unfold headD; rw [if_pos x1, if_neg x278, if_neg x294, if_neg x150]
      by_cases x303 : (f : Int) ≤ (100)
      ·by_cases x304 : (f : Int) > (0)
       ·have x305 : ReadD m c f k = 0 := by unfold ReadD; rw [if_pos x302, if_pos x303, if_pos x304]
        exact L_law_44 b x1 x2 x150 (Read3_0_ok b x305) (Read7_0_ok b x305) w
       ·have x306 : ReadD m c f k = 0 := by unfold ReadD; rw [if_pos x302, if_pos x303, if_neg x304]
        exact L_law_44 b x1 x2 x150 (Read3_0_ok b x306) (Read7_0_ok b x306) w
      ·by_cases x307 : (f : Int) > (0)
       ·have x308 : ReadD m c f k = 0 := by unfold ReadD; rw [if_pos x302, if_neg x303, if_pos x307]
        exact L_law_44 b x1 x2 x150 (Read3_0_ok b x308) (Read7_0_ok b x308) w
       ·have e_ : f = 0 := by omega
        subst e_
        first | omega | exact absurd x303 (by decide)
 ·by_cases x309 : vA k 1024 = (0)
  ·by_cases x310 : vN c 1585 = (0)
   ·by_cases x311 : vA c 16 = (0)
    ·by_cases x312 : vA c 1024 = (0)
     ·have x313 : headD m c f k = 0 := by unfold headD; rw [if_neg x1, if_pos x312, if_pos x311, if_pos x310]
      by_cases x314 : (f : Int) ≤ (100)
      ·by_cases x315 : (f : Int) > (0)
       ·have x316 : ReadD m c f k = 0 := by unfold ReadD; rw [if_pos x313, if_pos x314, if_pos x315]
        exact L_law_53 b x1 x309 x310 x311 x312 (Read1_0_ok b x316) (Read0_0_ok b x316) w
       ·have x317 : ReadD m c f k = 0 := by unfold ReadD; rw [if_pos x313, if_pos x314, if_neg x315]
        exact L_law_53 b x1 x309 x310 x311 x312 (Read1_0_ok b x317) (Read0_0_ok b x317) w
      ·by_cases x318 : (f : Int) > (0)
       ·have x319 : ReadD m c f k = 0 := by unfold ReadD; rw [if_pos x313, if_neg x314, if_pos x318]
        exact L_law_53 b x1 x309 x310 x311 x312 (Read1_0_ok b x319) (Read0_0_ok b x319) w
       ·have e_ : f = 0 := by omega
        subst e_
        first | omega | exact absurd x314 (by decide)
     ·by_cases x320 : (f : Int) = (25)
      ·by_cases x321 : vN k 1055 = (0)
       ·by_cases x322 : acc k = true
        ·by_cases x323 : vA k 20 = (0)
         ·by_cases x324 : vA k 3 = (0)
          ·have x325 : headD m c f k = 1 := by unfold headD; rw [if_neg x1, if_neg x312, if_pos x311, if_pos x310]
           by_cases x326 : vN f 31 = (0)
           ·by_cases x327 : acc f = true
            ·have x328 : fieldD m c f k = 0 := by unfold fieldD; rw [if_pos x326, if_pos x327, if_neg x1, if_pos x320]
             by_cases x329 : (m : Int) < (52)
             ·by_cases x330 : (k : Int) = (1025)
              ·have e_ : k = 1025 := by omega
               subst e_
               first | omega | exact absurd x309 (by decide) | exact absurd x321 (by decide) | exact absurd x322 (by decide) | exact absurd x323 (by decide) | exact absurd x324 (by decide)
              ·by_cases x331 : vA k 8 = (0)
               ·have x332 : methodD m c f k = 4 := by unfold methodD; rw [if_neg x1, if_pos x321, if_pos x322, if_pos x309, if_pos x329, if_neg x330, if_pos x331]
                have x333 : ReadD m c f k = 2 := by unfold ReadD; rw [if_neg (by rw [x325]; decide), if_pos x325, if_pos x328, if_neg (by rw [x332]; decide), if_neg (by rw [x332]; decide), if_neg (by rw [x332]; decide), if_neg (by rw [x332]; decide), if_pos x332]
                exact L_law_10 b x1 x309 x310 x311 x312 x320 x321 x322 x323 x324 (Read1_2_ok b x333) (Read4_2_ok b x333) w
               ·have x334 : methodD m c f k = 3 := by unfold methodD; rw [if_neg x1, if_pos x321, if_pos x322, if_pos x309, if_pos x329, if_neg x330, if_neg x331]
                have x335 : ReadD m c f k = 1 := by unfold ReadD; rw [if_neg (by rw [x325]; decide), if_pos x325, if_pos x328, if_neg (by rw [x334]; decide), if_neg (by rw [x334]; decide), if_neg (by rw [x334]; decide), if_pos x334]
                exact L_law_67 b x1 x309 x310 x311 x312 x320 x321 x322 x323 x324 (Read1_1_ok b x335) (Read4_1_ok b x335) w
             ·by_cases x336 : vA k 8 = (0)
              ·have x337 : methodD m c f k = 4 := by unfold methodD; rw [if_neg x1, if_pos x321, if_pos x322, if_pos x309, if_neg x329, if_pos x323, if_pos x324, if_pos x336]
               have x338 : ReadD m c f k = 2 := by unfold ReadD; rw [if_neg (by rw [x325]; decide), if_pos x325, if_pos x328, if_neg (by rw [x337]; decide), if_neg (by rw [x337]; decide), if_neg (by rw [x337]; decide), if_neg (by rw [x337]; decide), if_pos x337]
               exact L_law_10 b x1 x309 x310 x311 x312 x320 x321 x322 x323 x324 (Read1_2_ok b x338) (Read4_2_ok b x338) w
              ·have x339 : methodD m c f k = 3 := by unfold methodD; rw [if_neg x1, if_pos x321, if_pos x322, if_pos x309, if_neg x329, if_pos x323, if_pos x324, if_neg x336]
               have x340 : ReadD m c f k = 1 := by unfold ReadD; rw [if_neg (by rw [x325]; decide), if_pos x325, if_pos x328, if_neg (by rw [x339]; decide), if_neg (by rw [x339]; decide), if_neg (by rw [x339]; decide), if_pos x339]
               exact L_law_67 b x1 x309 x310 x311 x312 x320 x321 x322 x323 x324 (Read1_1_ok b x340) (Read4_1_ok b x340) w
            ·have e_ : f = 25 := by omega
             subst e_
             first | omega | exact absurd x326 (by decide) | exact absurd x327 (by decide)
           ·have e_ : f = 25 := by omega
            subst e_
            first | omega | exact absurd x326 (by decide)
          ·by_cases x341 : (m : Int) = (52)
           ·have x342 : headD m c f k = 1 := by unfold headD; rw [if_neg x1, if_neg x312, if_pos x311, if_pos x310]
            by_cases x343 : vN f 31 = (0)
            ·by_cases x344 : acc f = true
             ·have x345 : fieldD m c f k = 0 := by unfold fieldD; rw [if_pos x343, if_pos x344, if_neg x1, if_pos x320]
              by_cases x346 : (m : Int) < (52)
              ·have m0 := b.m0; have m1 := b.m1; omega
              ·by_cases x347 : vA k 8 = (0)
               ·have x348 : methodD m c f k = 6 := by unfold methodD; rw [if_neg x1, if_pos x321, if_pos x322, if_pos x309, if_neg x346, if_pos x323, if_neg x324, if_pos x347]
                have x349 : ReadD m c f k = 5 := by unfold ReadD; rw [if_neg (by rw [x342]; decide), if_pos x342, if_pos x345, if_neg (by rw [x348]; decide), if_neg (by rw [x348]; decide), if_neg (by rw [x348]; decide), if_neg (by rw [x348]; decide), if_neg (by rw [x348]; decide), if_neg (by rw [x348]; decide), if_pos x348]
                exact L_law_42 b x1 x309 x310 x311 x312 x320 x321 x322 x323 x324 x341 (Read1_5_ok b x349) (Read5_5_ok b x349) w
               ·have x350 : methodD m c f k = 5 := by unfold methodD; rw [if_neg x1, if_pos x321, if_pos x322, if_pos x309, if_neg x346, if_pos x323, if_neg x324, if_neg x347]
                have x351 : ReadD m c f k = 3 := by unfold ReadD; rw [if_neg (by rw [x342]; decide), if_pos x342, if_pos x345, if_neg (by rw [x350]; decide), if_neg (by rw [x350]; decide), if_neg (by rw [x350]; decide), if_neg (by rw [x350]; decide), if_neg (by rw [x350]; decide), if_pos x350]
                exact L_law_9 b x1 x309 x310 x311 x312 x320 x321 x322 x323 x324 x341 (Read1_3_ok b x351) (Read5_3_ok b x351) w
             ·have e_ : f = 25 := by omega
              subst e_
              first | omega | exact absurd x343 (by decide) | exact absurd x344 (by decide)
            ·have e_ : f = 25 := by omega
             subst e_
             first | omega | exact absurd x343 (by decide)
           ·by_cases x352 : (k : Int) = (1025)
            ·have e_ : k = 1025 := by omega
             subst e_
             first | omega | exact absurd x309 (by decide) | exact absurd x321 (by decide) | exact absurd x322 (by decide) | exact absurd x323 (by decide) | exact absurd x324 (by decide)
            ·have x353 : headD m c f k = 1 := by unfold headD; rw [if_neg x1, if_neg x312, if_pos x311, if_pos x310]
             by_cases x354 : vN f 31 = (0)
             ·by_cases x355 : acc f = true
              ·have x356 : fieldD m c f k = 0 := by unfold fieldD; rw [if_pos x354, if_pos x355, if_neg x1, if_pos x320]
               by_cases x357 : (m : Int) < (52)
               ·by_cases x358 : vA k 8 = (0)
                ·have x359 : methodD m c f k = 4 := by unfold methodD; rw [if_neg x1, if_pos x321, if_pos x322, if_pos x309, if_pos x357, if_neg x352, if_pos x358]
                 have x360 : ReadD m c f k = 2 := by unfold ReadD; rw [if_neg (by rw [x353]; decide), if_pos x353, if_pos x356, if_neg (by rw [x359]; decide), if_neg (by rw [x359]; decide), if_neg (by rw [x359]; decide), if_neg (by rw [x359]; decide), if_pos x359]
                 exact L_law_50 b x1 x309 x310 x311 x312 x320 x321 x322 x323 x324 x341 x352 (Read1_2_ok b x360) (Read4_2_ok b x360) w
                ·have x361 : methodD m c f k = 3 := by unfold methodD; rw [if_neg x1, if_pos x321, if_pos x322, if_pos x309, if_pos x357, if_neg x352, if_neg x358]
                 have x362 : ReadD m c f k = 1 := by unfold ReadD; rw [if_neg (by rw [x353]; decide), if_pos x353, if_pos x356, if_neg (by rw [x361]; decide), if_neg (by rw [x361]; decide), if_neg (by rw [x361]; decide), if_pos x361]
                 exact L_law_36 b x1 x309 x310 x311 x312 x320 x321 x322 x323 x324 x341 x352 (Read1_1_ok b x362) (Read4_1_ok b x362) w
               ·have m0 := b.m0; have m1 := b.m1; omega
              ·have e_ : f = 25 := by omega
               subst e_
               first | omega | exact absurd x354 (by decide) | exact absurd x355 (by decide)
             ·have e_ : f = 25 := by omega
              subst e_
              first | omega | exact absurd x354 (by decide)
         ·have x363 : headD m c f k = 1 := by unfold headD; rw [if_neg x1, if_neg x312, if_pos x311, if_pos x310]
          by_cases x364 : vN f 31 = (0)
          ·by_cases x365 : acc f = true
           ·have x366 : fieldD m c f k = 0 := by unfold fieldD; rw [if_pos x364, if_pos x365, if_neg x1, if_pos x320]
            by_cases x367 : (m : Int) < (52)
            ·by_cases x368 : (k : Int) = (1025)
             ·have e_ : k = 1025 := by omega
              subst e_
              first | omega | exact absurd x309 (by decide) | exact absurd x321 (by decide) | exact absurd x322 (by decide) | exact absurd x323 (by decide)
             ·by_cases x369 : vA k 8 = (0)
              ·have x370 : methodD m c f k = 4 := by unfold methodD; rw [if_neg x1, if_pos x321, if_pos x322, if_pos x309, if_pos x367, if_neg x368, if_pos x369]
               have x371 : ReadD m c f k = 2 := by unfold ReadD; rw [if_neg (by rw [x363]; decide), if_pos x363, if_pos x366, if_neg (by rw [x370]; decide), if_neg (by rw [x370]; decide), if_neg (by rw [x370]; decide), if_neg (by rw [x370]; decide), if_pos x370]
               exact L_law_8 b x1 x309 x310 x311 x312 x320 x321 x322 x323 (Read1_2_ok b x371) (Read4_2_ok b x371) w
              ·have x372 : methodD m c f k = 3 := by unfold methodD; rw [if_neg x1, if_pos x321, if_pos x322, if_pos x309, if_pos x367, if_neg x368, if_neg x369]
               have x373 : ReadD m c f k = 1 := by unfold ReadD; rw [if_neg (by rw [x363]; decide), if_pos x363, if_pos x366, if_neg (by rw [x372]; decide), if_neg (by rw [x372]; decide), if_neg (by rw [x372]; decide), if_pos x372]
               exact L_law_40 b x1 x309 x310 x311 x312 x320 x321 x322 x323 (Read1_1_ok b x373) (Read4_1_ok b x373) w
            ·by_cases x374 : vA k 8 = (0)
             ·have x375 : methodD m c f k = 4 := by unfold methodD; rw [if_neg x1, if_pos x321, if_pos x322, if_pos x309, if_neg x367, if_neg x323, if_pos x374]
              have x376 : ReadD m c f k = 2 := by unfold ReadD; rw [if_neg (by rw [x363]; decide), if_pos x363, if_pos x366, if_neg (by rw [x375]; decide), if_neg (by rw [x375]; decide), if_neg (by rw [x375]; decide), if_neg (by rw [x375]; decide), if_pos x375]
              exact L_law_8 b x1 x309 x310 x311 x312 x320 x321 x322 x323 (Read1_2_ok b x376) (Read4_2_ok b x376) w
             ·have x377 : methodD m c f k = 3 := by unfold methodD; rw [if_neg x1, if_pos x321, if_pos x322, if_pos x309, if_neg x367, if_neg x323, if_neg x374]
              have x378 : ReadD m c f k = 1 := by unfold ReadD; rw [if_neg (by rw [x363]; decide), if_pos x363, if_pos x366, if_neg (by rw [x377]; decide), if_neg (by rw [x377]; decide), if_neg (by rw [x377]; decide), if_pos x377]
              exact L_law_40 b x1 x309 x310 x311 x312 x320 x321 x322 x323 (Read1_1_ok b x378) (Read4_1_ok b x378) w
           ·have e_ : f = 25 := by omega
            subst e_
            first | omega | exact absurd x364 (by decide) | exact absurd x365 (by decide)
          ·have e_ : f = 25 := by omega
           subst e_
           first | omega | exact absurd x364 (by decide)
        ·have x379 : headD m c f k = 1 := by unfold headD; rw [if_neg x1, if_neg x312, if_pos x311, if_pos x310]
         by_cases x380 : vN f 31 = (0)
         ·by_cases x381 : acc f = true
          ·have x382 : fieldD m c f k = 0 := by unfold fieldD; rw [if_pos x380, if_pos x381, if_neg x1, if_pos x320]
           by_cases x383 : vA k 8 = (0)
           ·have x384 : methodD m c f k = 4 := by unfold methodD; rw [if_neg x1, if_pos x321, if_neg x322, if_pos x383, if_pos x309]
            have x385 : ReadD m c f k = 2 := by unfold ReadD; rw [if_neg (by rw [x379]; decide), if_pos x379, if_pos x382, if_neg (by rw [x384]; decide), if_neg (by rw [x384]; decide), if_neg (by rw [x384]; decide), if_neg (by rw [x384]; decide), if_pos x384]
            exact L_law_41 b x1 x309 x310 x311 x312 x320 x321 (Bool.eq_false_iff.2 x322) (Read1_2_ok b x385) (Read4_2_ok b x385) w
           ·have x386 : methodD m c f k = 3 := by unfold methodD; rw [if_neg x1, if_pos x321, if_neg x322, if_neg x383, if_pos x309]
            have x387 : ReadD m c f k = 1 := by unfold ReadD; rw [if_neg (by rw [x379]; decide), if_pos x379, if_pos x382, if_neg (by rw [x386]; decide), if_neg (by rw [x386]; decide), if_neg (by rw [x386]; decide), if_pos x386]
            exact L_law_7 b x1 x309 x310 x311 x312 x320 x321 (Bool.eq_false_iff.2 x322) (Read1_1_ok b x387) (Read4_1_ok b x387) w
          ·have e_ : f = 25 := by omega
           subst e_
           first | omega | exact absurd x380 (by decide) | exact absurd x381 (by decide)
         ·have e_ : f = 25 := by omega
          subst e_
          first | omega | exact absurd x380 (by decide)
       ·have x388 : headD m c f k = 1 := by unfold headD; rw [if_neg x1, if_neg x312, if_pos x311, if_pos x310]
        by_cases x389 : vN f 31 = (0)
        ·by_cases x390 : acc f = true
         ·have x391 : fieldD m c f k = 0 := by unfold fieldD; rw [if_pos x389, if_pos x390, if_neg x1, if_pos x320]
          by_cases x392 : vA k 8 = (0)
          ·have x393 : methodD m c f k = 4 := by unfold methodD; rw [if_neg x1, if_neg x321, if_pos x392, if_pos x309]
           have x394 : ReadD m c f k = 2 := by unfold ReadD; rw [if_neg (by rw [x388]; decide), if_pos x388, if_pos x391, if_neg (by rw [x393]; decide), if_neg (by rw [x393]; decide), if_neg (by rw [x393]; decide), if_neg (by rw [x393]; decide), if_pos x393]
           exact L_law_6 b x1 x309 x310 x311 x312 x320 x321 (Read1_2_ok b x394) (Read4_2_ok b x394) w
          ·have x395 : methodD m c f k = 3 := by unfold methodD; rw [if_neg x1, if_neg x321, if_neg x392, if_pos x309]
           have x396 : ReadD m c f k = 1 := by unfold ReadD; rw [if_neg (by rw [x388]; decide), if_pos x388, if_pos x391, if_neg (by rw [x395]; decide), if_neg (by rw [x395]; decide), if_neg (by rw [x395]; decide), if_pos x395]
           exact L_law_5 b x1 x309 x310 x311 x312 x320 x321 (Read1_1_ok b x396) (Read4_1_ok b x396) w
         ·have e_ : f = 25 := by omega
          subst e_
          first | omega | exact absurd x389 (by decide) | exact absurd x390 (by decide)
        ·have e_ : f = 25 := by omega
         subst e_
         first | omega | exact absurd x389 (by decide)
      ·have x397 : headD m c f k = 1 := by unfold headD; rw [if_neg x1, if_neg x312, if_pos x311, if_pos x310]
       by_cases x398 : vN f 31 = (0)
       ·by_cases x399 : acc f = true
        ·have x400 : fieldD m c f k = 1 := by unfold fieldD; rw [if_pos x398, if_pos x399, if_neg x1, if_neg x320]
         by_cases x401 : (k : Int) > (0)
         ·have x402 : ReadD m c f k = 4 := by unfold ReadD; rw [if_neg (by rw [x397]; decide), if_pos x397, if_neg (by rw [x400]; decide), if_pos x400, if_pos x401]
          exact L_law_11 b x1 x309 x310 x311 x312 x320 (Read1_4_ok b x402) (Read6_4_ok b x402) w
         ·have x403 : ReadD m c f k = 6 := by unfold ReadD; rw [if_neg (by rw [x397]; decide), if_pos x397, if_neg (by rw [x400]; decide), if_pos x400, if_neg x401]
          exact L_law_70 b x1 x309 x310 x311 x312 x320 (Read1_6_ok b x403) (Read6_6_ok b x403) w
        ·have x404 : fieldD m c f k = 1 := by unfold fieldD; rw [if_pos x398, if_neg x399, if_neg x1, if_neg x320]
         by_cases x405 : (k : Int) > (0)
         ·have x406 : ReadD m c f k = 4 := by unfold ReadD; rw [if_neg (by rw [x397]; decide), if_pos x397, if_neg (by rw [x404]; decide), if_pos x404, if_pos x405]
          exact L_law_11 b x1 x309 x310 x311 x312 x320 (Read1_4_ok b x406) (Read6_4_ok b x406) w
         ·have x407 : ReadD m c f k = 6 := by unfold ReadD; rw [if_neg (by rw [x397]; decide), if_pos x397, if_neg (by rw [x404]; decide), if_pos x404, if_neg x405]
          exact L_law_70 b x1 x309 x310 x311 x312 x320 (Read1_6_ok b x407) (Read6_6_ok b x407) w
       ·have x408 : fieldD m c f k = 1 := by unfold fieldD; rw [if_neg x398, if_neg x1, if_neg x320]
        by_cases x409 : (k : Int) > (0)
        ·have x410 : ReadD m c f k = 4 := by unfold ReadD; rw [if_neg (by rw [x397]; decide), if_pos x397, if_neg (by rw [x408]; decide), if_pos x408, if_pos x409]
         exact L_law_11 b x1 x309 x310 x311 x312 x320 (Read1_4_ok b x410) (Read6_4_ok b x410) w
        ·have x411 : ReadD m c f k = 6 := by unfold ReadD; rw [if_neg (by rw [x397]; decide), if_pos x397, if_neg (by rw [x408]; decide), if_pos x408, if_neg x409]
         exact L_law_70 b x1 x309 x310 x311 x312 x320 (Read1_6_ok b x411) (Read6_6_ok b x411) w
    ·by_cases x412 : vA c 1024 = (0)
     ·have x413 : headD m c f k = 0 := by unfold headD; rw [if_neg x1, if_pos x412, if_neg x311, if_pos x310]
      by_cases x414 : (f : Int) ≤ (100)
      ·by_cases x415 : (f : Int) > (0)
       ·have x416 : ReadD m c f k = 0 := by unfold ReadD; rw [if_pos x413, if_pos x414, if_pos x415]
        exact L_law_23 b x1 x309 x310 x311 x412 (Read1_0_ok b x416) (Read0_0_ok b x416) w
       ·have x417 : ReadD m c f k = 0 := by unfold ReadD; rw [if_pos x413, if_pos x414, if_neg x415]
        exact L_law_23 b x1 x309 x310 x311 x412 (Read1_0_ok b x417) (Read0_0_ok b x417) w
      ·by_cases x418 : (f : Int) > (0)
       ·have x419 : ReadD m c f k = 0 := by unfold ReadD; rw [if_pos x413, if_neg x414, if_pos x418]
        exact L_law_23 b x1 x309 x310 x311 x412 (Read1_0_ok b x419) (Read0_0_ok b x419) w
       ·have e_ : f = 0 := by omega
        subst e_
        first | omega | exact absurd x414 (by decide)
     ·have x420 : headD m c f k = 0 := by unfold headD; rw [if_neg x1, if_neg x412, if_neg x311, if_pos x310]
      by_cases x421 : (f : Int) ≤ (100)
      ·by_cases x422 : (f : Int) > (0)
       ·have x423 : ReadD m c f k = 0 := by unfold ReadD; rw [if_pos x420, if_pos x421, if_pos x422]
        exact L_law_51 b x1 x309 x310 x311 x412 (Read1_0_ok b x423) (Read0_0_ok b x423) w
       ·have x424 : ReadD m c f k = 0 := by unfold ReadD; rw [if_pos x420, if_pos x421, if_neg x422]
        exact L_law_51 b x1 x309 x310 x311 x412 (Read1_0_ok b x424) (Read0_0_ok b x424) w
      ·by_cases x425 : (f : Int) > (0)
       ·have x426 : ReadD m c f k = 0 := by unfold ReadD; rw [if_pos x420, if_neg x421, if_pos x425]
        exact L_law_51 b x1 x309 x310 x311 x412 (Read1_0_ok b x426) (Read0_0_ok b x426) w
       ·have e_ : f = 0 := by omega
        subst e_
        first | omega | exact absurd x421 (by decide)
   ·by_cases x427 : vA c 1024 = (0)
    ·by_cases x428 : vA c 16 = (0)
     ·have x429 : headD m c f k = 0 := by unfold headD; rw [if_neg x1, if_pos x427, if_pos x428, if_neg x310]
      by_cases x430 : (f : Int) ≤ (100)
      ·by_cases x431 : (f : Int) > (0)
       ·have x432 : ReadD m c f k = 0 := by unfold ReadD; rw [if_pos x429, if_pos x430, if_pos x431]
        exact L_law_0 b x1 x309 x310 (Read1_0_ok b x432) (Read0_0_ok b x432) w
       ·have x433 : ReadD m c f k = 0 := by unfold ReadD; rw [if_pos x429, if_pos x430, if_neg x431]
        exact L_law_0 b x1 x309 x310 (Read1_0_ok b x433) (Read0_0_ok b x433) w
      ·by_cases x434 : (f : Int) > (0)
       ·have x435 : ReadD m c f k = 0 := by unfold ReadD; rw [if_pos x429, if_neg x430, if_pos x434]
        exact L_law_0 b x1 x309 x310 (Read1_0_ok b x435) (Read0_0_ok b x435) w
       ·have e_ : f = 0 := by omega
        subst e_
        first | omega | exact absurd x430 (by decide)
     ·have x436 : headD m c f k = 0 := by unfold headD; rw [if_neg x1, if_pos x427, if_neg x428, if_neg x310]
      by_cases x437 : (f : Int) ≤ (100)
      ·by_cases x438 : (f : Int) > (0)
       ·have x439 : ReadD m c f k = 0 := by unfold ReadD; rw [if_pos x436, if_pos x437, if_pos x438]
        exact L_law_0 b x1 x309 x310 (Read1_0_ok b x439) (Read0_0_ok b x439) w
       ·have x440 : ReadD m c f k = 0 := by unfold ReadD; rw [if_pos x436, if_pos x437, if_neg x438]
        exact L_law_0 b x1 x309 x310 (Read1_0_ok b x440) (Read0_0_ok b x440) w
      ·by_cases x441 : (f : Int) > (0)
       ·have x442 : ReadD m c f k = 0 := by unfold ReadD; rw [if_pos x436, if_neg x437, if_pos x441]
        exact L_law_0 b x1 x309 x310 (Read1_0_ok b x442) (Read0_0_ok b x442) w
       ·have e_ : f = 0 := by omega
        subst e_
        first | omega | exact absurd x437 (by decide)
    ·by_cases x443 : vA c 16 = (0)
     ·have x444 : headD m c f k = 0 := by unfold headD; rw [if_neg x1, if_neg x427, if_pos x443, if_neg x310]
      by_cases x445 : (f : Int) ≤ (100)
      ·by_cases x446 : (f : Int) > (0)
       ·have x447 : ReadD m c f k = 0 := by unfold ReadD; rw [if_pos x444, if_pos x445, if_pos x446]
        exact L_law_0 b x1 x309 x310 (Read1_0_ok b x447) (Read0_0_ok b x447) w
       ·have x448 : ReadD m c f k = 0 := by unfold ReadD; rw [if_pos x444, if_pos x445, if_neg x446]
        exact L_law_0 b x1 x309 x310 (Read1_0_ok b x448) (Read0_0_ok b x448) w
      ·by_cases x449 : (f : Int) > (0)
       ·have x450 : ReadD m c f k = 0 := by unfold ReadD; rw [if_pos x444, if_neg x445, if_pos x449]
        exact L_law_0 b x1 x309 x310 (Read1_0_ok b x450) (Read0_0_ok b x450) w
       ·have e_ : f = 0 := by omega
        subst e_
        first | omega | exact absurd x445 (by decide)
     ·have x451 : headD m c f k = 0 := by unfold headD; rw [if_neg x1, if_neg x427, if_neg x443, if_neg x310]
      by_cases x452 : (f : Int) ≤ (100)
      ·by_cases x453 : (f : Int) > (0)
       ·have x454 : ReadD m c f k = 0 := by unfold ReadD; rw [if_pos x451, if_pos x452, if_pos x453]
        exact L_law_0 b x1 x309 x310 (Read1_0_ok b x454) (Read0_0_ok b x454) w
       ·have x455 : ReadD m c f k = 0 := by unfold ReadD; rw [if_pos x451, if_pos x452, if_neg x453]
        exact L_law_0 b x1 x309 x310 (Read1_0_ok b x455) (Read0_0_ok b x455) w
      ·by_cases x456 : (f : Int) > (0)
       ·have x457 : ReadD m c f k = 0 := by unfold ReadD; rw [if_pos x451, if_neg x452, if_pos x456]
        exact L_law_0 b x1 x309 x310 (Read1_0_ok b x457) (Read0_0_ok b x457) w
       ·have e_ : f = 0 := by omega
        subst e_
        first | omega | exact absurd x452 (by decide)
  ·by_cases x458 : vN c 1585 = (0)
   ·by_cases x459 : vA c 16 = (0)
    ·by_cases x460 : vA c 1024 = (0)
     ·have x461 : headD m c f k = 0 := by unfold headD; rw [if_neg x1, if_pos x460, if_pos x459, if_pos x458]
      by_cases x462 : (f : Int) ≤ (100)
      ·by_cases x463 : (f : Int) > (0)
       ·have x464 : ReadD m c f k = 0 := by unfold ReadD; rw [if_pos x461, if_pos x462, if_pos x463]
        exact L_law_59 b x1 x309 x458 x459 x460 (Read3_0_ok b x464) (Read7_0_ok b x464) w
       ·have x465 : ReadD m c f k = 0 := by unfold ReadD; rw [if_pos x461, if_pos x462, if_neg x463]
        exact L_law_59 b x1 x309 x458 x459 x460 (Read3_0_ok b x465) (Read7_0_ok b x465) w
      ·by_cases x466 : (f : Int) > (0)
       ·have x467 : ReadD m c f k = 0 := by unfold ReadD; rw [if_pos x461, if_neg x462, if_pos x466]
        exact L_law_59 b x1 x309 x458 x459 x460 (Read3_0_ok b x467) (Read7_0_ok b x467) w
       ·have e_ : f = 0 := by omega
        subst e_
        first | omega | exact absurd x462 (by decide)
     ·by_cases x468 : (f : Int) = (25)
      ·by_cases x469 : vN k 1055 = (0)
       ·by_cases x470 : acc k = true
        ·by_cases x471 : vA k 26 = (0)
         ·by_cases x472 : vA k 20 = (0)
          ·by_cases x473 : vA k 3 = (0)
           ·have x474 : headD m c f k = 1 := by unfold headD; rw [if_neg x1, if_neg x460, if_pos x459, if_pos x458]
            by_cases x475 : vN f 31 = (0)
            ·by_cases x476 : acc f = true
             ·have x477 : fieldD m c f k = 0 := by unfold fieldD; rw [if_pos x475, if_pos x476, if_neg x1, if_pos x468]
              by_cases x478 : (m : Int) < (52)
              ·by_cases x479 : (k : Int) = (1025)
               ·have e_ : k = 1025 := by omega
                subst e_
                first | omega | exact absurd x309 (by decide) | exact absurd x469 (by decide) | exact absurd x470 (by decide) | exact absurd x471 (by decide) | exact absurd x472 (by decide) | exact absurd x473 (by decide)
               ·by_cases x480 : vA k 8 = (0)
                ·have x481 : methodD m c f k = 1 := by unfold methodD; rw [if_neg x1, if_pos x469, if_pos x470, if_neg x309, if_pos x471, if_pos x478, if_neg x479, if_pos x480]
                 have x482 : ReadD m c f k = 8 := by unfold ReadD; rw [if_neg (by rw [x474]; decide), if_pos x474, if_pos x477, if_neg (by rw [x481]; decide), if_pos x481]
                 exact L_law_64 b x1 x309 x458 x459 x460 x468 x469 x470 x471 x472 x473 (Read3_8_ok b x482) (Read2_8_ok b x482) w
                ·exact br0 b.k1 x480 x471
              ·by_cases x483 : vA k 8 = (0)
               ·have x484 : methodD m c f k = 1 := by unfold methodD; rw [if_neg x1, if_pos x469, if_pos x470, if_neg x309, if_pos x471, if_neg x478, if_pos x472, if_pos x473, if_pos x483]
                have x485 : ReadD m c f k = 8 := by unfold ReadD; rw [if_neg (by rw [x474]; decide), if_pos x474, if_pos x477, if_neg (by rw [x484]; decide), if_pos x484]
                exact L_law_64 b x1 x309 x458 x459 x460 x468 x469 x470 x471 x472 x473 (Read3_8_ok b x485) (Read2_8_ok b x485) w
               ·exact br0 b.k1 x483 x471
             ·have e_ : f = 25 := by omega
              subst e_
              first | omega | exact absurd x475 (by decide) | exact absurd x476 (by decide)
            ·have e_ : f = 25 := by omega
             subst e_
             first | omega | exact absurd x475 (by decide)
           ·by_cases x486 : (m : Int) = (52)
            ·have x487 : headD m c f k = 1 := by unfold headD; rw [if_neg x1, if_neg x460, if_pos x459, if_pos x458]
             by_cases x488 : vN f 31 = (0)
             ·by_cases x489 : acc f = true
              ·have x490 : fieldD m c f k = 0 := by unfold fieldD; rw [if_pos x488, if_pos x489, if_neg x1, if_pos x468]
               by_cases x491 : (m : Int) < (52)
               ·have m0 := b.m0; have m1 := b.m1; omega
               ·by_cases x492 : vA k 8 = (0)
                ·have x493 : methodD m c f k = 2 := by unfold methodD; rw [if_neg x1, if_pos x469, if_pos x470, if_neg x309, if_pos x471, if_neg x491, if_pos x472, if_neg x473, if_pos x492]
                 have x494 : ReadD m c f k = 9 := by unfold ReadD; rw [if_neg (by rw [x487]; decide), if_pos x487, if_pos x490, if_neg (by rw [x493]; decide), if_neg (by rw [x493]; decide), if_pos x493]
                 exact L_law_66 b x1 x309 x458 x459 x460 x468 x469 x470 x471 x472 x473 x486 (Read3_9_ok b x494) (Read2_9_ok b x494) w
                ·exact br0 b.k1 x492 x471
              ·have e_ : f = 25 := by omega
               subst e_
               first | omega | exact absurd x488 (by decide) | exact absurd x489 (by decide)
             ·have e_ : f = 25 := by omega
              subst e_
              first | omega | exact absurd x488 (by decide)
            ·by_cases x495 : (k : Int) = (1025)
             ·have x496 : headD m c f k = 1 := by unfold headD; rw [if_neg x1, if_neg x460, if_pos x459, if_pos x458]
              by_cases x497 : vN f 31 = (0)
              ·by_cases x498 : acc f = true
               ·have x499 : fieldD m c f k = 0 := by unfold fieldD; rw [if_pos x497, if_pos x498, if_neg x1, if_pos x468]
                by_cases x500 : (m : Int) < (52)
                ·by_cases x501 : vA k 8 = (0)
                 ·have x502 : methodD m c f k = 2 := by unfold methodD; rw [if_neg x1, if_pos x469, if_pos x470, if_neg x309, if_pos x471, if_pos x500, if_pos x495, if_pos x501]
                  have x503 : ReadD m c f k = 9 := by unfold ReadD; rw [if_neg (by rw [x496]; decide), if_pos x496, if_pos x499, if_neg (by rw [x502]; decide), if_neg (by rw [x502]; decide), if_pos x502]
                  exact L_law_69 b x1 x309 x458 x459 x460 x468 x469 x470 x471 x472 x473 x486 x495 (Read3_9_ok b x503) (Read2_9_ok b x503) w
                 ·have e_ : k = 1025 := by omega
                  subst e_
                  first | omega | exact absurd x309 (by decide) | exact absurd x469 (by decide) | exact absurd x470 (by decide) | exact absurd x471 (by decide) | exact absurd x472 (by decide) | exact absurd x473 (by decide) | exact absurd x501 (by decide)
                ·have m0 := b.m0; have m1 := b.m1; omega
               ·have e_ : f = 25 := by omega
                subst e_
                first | omega | exact absurd x497 (by decide) | exact absurd x498 (by decide)
              ·have e_ : f = 25 := by omega
               subst e_
               first | omega | exact absurd x497 (by decide)
             ·exact br2 b.k1 x469 x495 x309 x471 x473 x470
          ·have x504 : headD m c f k = 1 := by unfold headD; rw [if_neg x1, if_neg x460, if_pos x459, if_pos x458]
           by_cases x505 : vN f 31 = (0)
           ·by_cases x506 : acc f = true
            ·have x507 : fieldD m c f k = 0 := by unfold fieldD; rw [if_pos x505, if_pos x506, if_neg x1, if_pos x468]
             by_cases x508 : (m : Int) < (52)
             ·by_cases x509 : (k : Int) = (1025)
              ·have e_ : k = 1025 := by omega
               subst e_
               first | omega | exact absurd x309 (by decide) | exact absurd x469 (by decide) | exact absurd x470 (by decide) | exact absurd x471 (by decide) | exact absurd x472 (by decide)
              ·by_cases x510 : vA k 8 = (0)
               ·have x511 : methodD m c f k = 1 := by unfold methodD; rw [if_neg x1, if_pos x469, if_pos x470, if_neg x309, if_pos x471, if_pos x508, if_neg x509, if_pos x510]
                have x512 : ReadD m c f k = 8 := by unfold ReadD; rw [if_neg (by rw [x504]; decide), if_pos x504, if_pos x507, if_neg (by rw [x511]; decide), if_pos x511]
                exact L_law_52 b x1 x309 x458 x459 x460 x468 x469 x470 x471 x472 (Read3_8_ok b x512) (Read2_8_ok b x512) w
               ·exact br0 b.k1 x510 x471
             ·by_cases x513 : vA k 8 = (0)
              ·have x514 : methodD m c f k = 1 := by unfold methodD; rw [if_neg x1, if_pos x469, if_pos x470, if_neg x309, if_pos x471, if_neg x508, if_neg x472, if_pos x513]
               have x515 : ReadD m c f k = 8 := by unfold ReadD; rw [if_neg (by rw [x504]; decide), if_pos x504, if_pos x507, if_neg (by rw [x514]; decide), if_pos x514]
               exact L_law_52 b x1 x309 x458 x459 x460 x468 x469 x470 x471 x472 (Read3_8_ok b x515) (Read2_8_ok b x515) w
              ·exact br0 b.k1 x513 x471
            ·have e_ : f = 25 := by omega
             subst e_
             first | omega | exact absurd x505 (by decide) | exact absurd x506 (by decide)
           ·have e_ : f = 25 := by omega
            subst e_
            first | omega | exact absurd x505 (by decide)
         ·have x516 : headD m c f k = 1 := by unfold headD; rw [if_neg x1, if_neg x460, if_pos x459, if_pos x458]
          by_cases x517 : vN f 31 = (0)
          ·by_cases x518 : acc f = true
           ·have x519 : fieldD m c f k = 0 := by unfold fieldD; rw [if_pos x517, if_pos x518, if_neg x1, if_pos x468]
            by_cases x520 : vA k 8 = (0)
            ·have x521 : methodD m c f k = 1 := by unfold methodD; rw [if_neg x1, if_pos x469, if_pos x470, if_neg x309, if_neg x471, if_pos x520]
             have x522 : ReadD m c f k = 8 := by unfold ReadD; rw [if_neg (by rw [x516]; decide), if_pos x516, if_pos x519, if_neg (by rw [x521]; decide), if_pos x521]
             exact L_law_3 b x1 x309 x458 x459 x460 x468 x469 x470 x471 (Read3_8_ok b x522) (Read2_8_ok b x522) w
            ·have x523 : methodD m c f k = 0 := by unfold methodD; rw [if_neg x1, if_pos x469, if_pos x470, if_neg x309, if_neg x471, if_neg x520]
             have x524 : ReadD m c f k = 7 := by unfold ReadD; rw [if_neg (by rw [x516]; decide), if_pos x516, if_pos x519, if_pos x523]
             exact L_law_38 b x1 x309 x458 x459 x460 x468 x469 x470 x471 (Read3_7_ok b x524) (Read2_7_ok b x524) w
           ·have e_ : f = 25 := by omega
            subst e_
            first | omega | exact absurd x517 (by decide) | exact absurd x518 (by decide)
          ·have e_ : f = 25 := by omega
           subst e_
           first | omega | exact absurd x517 (by decide)
        ·have x525 : headD m c f k = 1 := by unfold headD; rw [if_neg x1, if_neg x460, if_pos x459, if_pos x458]
         by_cases x526 : vN f 31 = (0)
         ·by_cases x527 : acc f = true
          ·have x528 : fieldD m c f k = 0 := by unfold fieldD; rw [if_pos x526, if_pos x527, if_neg x1, if_pos x468]
           by_cases x529 : vA k 8 = (0)
           ·have x530 : methodD m c f k = 1 := by unfold methodD; rw [if_neg x1, if_pos x469, if_neg x470, if_pos x529, if_neg x309]
            have x531 : ReadD m c f k = 8 := by unfold ReadD; rw [if_neg (by rw [x525]; decide), if_pos x525, if_pos x528, if_neg (by rw [x530]; decide), if_pos x530]
            exact L_law_39 b x1 x309 x458 x459 x460 x468 x469 (Bool.eq_false_iff.2 x470) (Read3_8_ok b x531) (Read2_8_ok b x531) w
           ·have x532 : methodD m c f k = 0 := by unfold methodD; rw [if_neg x1, if_pos x469, if_neg x470, if_neg x529, if_neg x309]
            have x533 : ReadD m c f k = 7 := by unfold ReadD; rw [if_neg (by rw [x525]; decide), if_pos x525, if_pos x528, if_pos x532]
            exact L_law_4 b x1 x309 x458 x459 x460 x468 x469 (Bool.eq_false_iff.2 x470) (Read3_7_ok b x533) (Read2_7_ok b x533) w
          ·have e_ : f = 25 := by omega
           subst e_
           first | omega | exact absurd x526 (by decide) | exact absurd x527 (by decide)
         ·have e_ : f = 25 := by omega
          subst e_
          first | omega | exact absurd x526 (by decide)
       ·have x534 : headD m c f k = 1 := by unfold headD; rw [if_neg x1, if_neg x460, if_pos x459, if_pos x458]
        by_cases x535 : vN f 31 = (0)
        ·by_cases x536 : acc f = true
         ·have x537 : fieldD m c f k = 0 := by unfold fieldD; rw [if_pos x535, if_pos x536, if_neg x1, if_pos x468]
          by_cases x538 : vA k 8 = (0)
          ·have x539 : methodD m c f k = 1 := by unfold methodD; rw [if_neg x1, if_neg x469, if_pos x538, if_neg x309]
           have x540 : ReadD m c f k = 8 := by unfold ReadD; rw [if_neg (by rw [x534]; decide), if_pos x534, if_pos x537, if_neg (by rw [x539]; decide), if_pos x539]
           exact L_law_2 b x1 x309 x458 x459 x460 x468 x469 (Read3_8_ok b x540) (Read2_8_ok b x540) w
          ·have x541 : methodD m c f k = 0 := by unfold methodD; rw [if_neg x1, if_neg x469, if_neg x538, if_neg x309]
           have x542 : ReadD m c f k = 7 := by unfold ReadD; rw [if_neg (by rw [x534]; decide), if_pos x534, if_pos x537, if_pos x541]
           exact L_law_1 b x1 x309 x458 x459 x460 x468 x469 (Read3_7_ok b x542) (Read2_7_ok b x542) w
         ·have e_ : f = 25 := by omega
          subst e_
          first | omega | exact absurd x535 (by decide) | exact absurd x536 (by decide)
        ·have e_ : f = 25 := by omega
         subst e_
         first | omega | exact absurd x535 (by decide)
      ·have x543 : headD m c f k = 1 := by unfold headD; rw [if_neg x1, if_neg x460, if_pos x459, if_pos x458]
       by_cases x544 : vN f 31 = (0)
       ·by_cases x545 : acc f = true
        ·have x546 : fieldD m c f k = 1 := by unfold fieldD; rw [if_pos x544, if_pos x545, if_neg x1, if_neg x468]
         by_cases x547 : (k : Int) > (0)
         ·have x548 : ReadD m c f k = 4 := by unfold ReadD; rw [if_neg (by rw [x543]; decide), if_pos x543, if_neg (by rw [x546]; decide), if_pos x546, if_pos x547]
          exact L_law_43 b x1 x309 x458 x459 x460 x468 (Read3_4_ok b x548) (Read8_4_ok b x548) w
         ·have e_ : k = 0 := by omega
          subst e_
          first | omega | exact absurd x309 (by decide)
        ·have x549 : fieldD m c f k = 1 := by unfold fieldD; rw [if_pos x544, if_neg x545, if_neg x1, if_neg x468]
         by_cases x550 : (k : Int) > (0)
         ·have x551 : ReadD m c f k = 4 := by unfold ReadD; rw [if_neg (by rw [x543]; decide), if_pos x543, if_neg (by rw [x549]; decide), if_pos x549, if_pos x550]
          exact L_law_43 b x1 x309 x458 x459 x460 x468 (Read3_4_ok b x551) (Read8_4_ok b x551) w
         ·have e_ : k = 0 := by omega
          subst e_
          first | omega | exact absurd x309 (by decide)
       ·have x552 : fieldD m c f k = 1 := by unfold fieldD; rw [if_neg x544, if_neg x1, if_neg x468]
        by_cases x553 : (k : Int) > (0)
        ·have x554 : ReadD m c f k = 4 := by unfold ReadD; rw [if_neg (by rw [x543]; decide), if_pos x543, if_neg (by rw [x552]; decide), if_pos x552, if_pos x553]
         exact L_law_43 b x1 x309 x458 x459 x460 x468 (Read3_4_ok b x554) (Read8_4_ok b x554) w
        ·have e_ : k = 0 := by omega
         subst e_
         first | omega | exact absurd x309 (by decide)
    ·by_cases x555 : vA c 1024 = (0)
     ·have x556 : headD m c f k = 0 := by unfold headD; rw [if_neg x1, if_pos x555, if_neg x459, if_pos x458]
      by_cases x557 : (f : Int) ≤ (100)
      ·by_cases x558 : (f : Int) > (0)
       ·have x559 : ReadD m c f k = 0 := by unfold ReadD; rw [if_pos x556, if_pos x557, if_pos x558]
        exact L_law_47 b x1 x309 x458 x459 x555 (Read3_0_ok b x559) (Read7_0_ok b x559) w
       ·have x560 : ReadD m c f k = 0 := by unfold ReadD; rw [if_pos x556, if_pos x557, if_neg x558]
        exact L_law_47 b x1 x309 x458 x459 x555 (Read3_0_ok b x560) (Read7_0_ok b x560) w
      ·by_cases x561 : (f : Int) > (0)
       ·have x562 : ReadD m c f k = 0 := by unfold ReadD; rw [if_pos x556, if_neg x557, if_pos x561]
        exact L_law_47 b x1 x309 x458 x459 x555 (Read3_0_ok b x562) (Read7_0_ok b x562) w
       ·have e_ : f = 0 := by omega
        subst e_
        first | omega | exact absurd x557 (by decide)
     ·have x563 : headD m c f k = 0 := by unfold headD; rw [if_neg x1, if_neg x555, if_neg x459, if_pos x458]
      by_cases x564 : (f : Int) ≤ (100)
      ·by_cases x565 : (f : Int) > (0)
       ·have x566 : ReadD m c f k = 0 := by unfold ReadD; rw [if_pos x563, if_pos x564, if_pos x565]
        exact L_law_58 b x1 x309 x458 x459 x555 (Read3_0_ok b x566) (Read7_0_ok b x566) w
       ·have x567 : ReadD m c f k = 0 := by unfold ReadD; rw [if_pos x563, if_pos x564, if_neg x565]
        exact L_law_58 b x1 x309 x458 x459 x555 (Read3_0_ok b x567) (Read7_0_ok b x567) w
      ·by_cases x568 : (f : Int) > (0)
       ·have x569 : ReadD m c f k = 0 := by unfold ReadD; rw [if_pos x563, if_neg x564, if_pos x568]
        exact L_law_58 b x1 x309 x458 x459 x555 (Read3_0_ok b x569) (Read7_0_ok b x569) w
       ·have e_ : f = 0 := by omega
        subst e_
        first | omega | exact absurd x564 (by decide)
   ·by_cases x570 : vA c 1024 = (0)
    ·by_cases x571 : vA c 16 = (0)
     ·have x572 : headD m c f k = 0 := by unfold headD; rw [if_neg x1, if_pos x570, if_pos x571, if_neg x458]
      by_cases x573 : (f : Int) ≤ (100)
      ·by_cases x574 : (f : Int) > (0)
       ·have x575 : ReadD m c f k = 0 := by unfold ReadD; rw [if_pos x572, if_pos x573, if_pos x574]
        exact L_law_37 b x1 x309 x458 (Read3_0_ok b x575) (Read7_0_ok b x575) w
       ·have x576 : ReadD m c f k = 0 := by unfold ReadD; rw [if_pos x572, if_pos x573, if_neg x574]
        exact L_law_37 b x1 x309 x458 (Read3_0_ok b x576) (Read7_0_ok b x576) w
      ·by_cases x577 : (f : Int) > (0)
       ·have x578 : ReadD m c f k = 0 := by unfold ReadD; rw [if_pos x572, if_neg x573, if_pos x577]
        exact L_law_37 b x1 x309 x458 (Read3_0_ok b x578) (Read7_0_ok b x578) w
       ·have e_ : f = 0 := by omega
        subst e_
        first | omega | exact absurd x573 (by decide)
     ·have x579 : headD m c f k = 0 := by unfold headD; rw [if_neg x1, if_pos x570, if_neg x571, if_neg x458]
      by_cases x580 : (f : Int) ≤ (100)
      ·by_cases x581 : (f : Int) > (0)
       ·have x582 : ReadD m c f k = 0 := by unfold ReadD; rw [if_pos x579, if_pos x580, if_pos x581]
        exact L_law_37 b x1 x309 x458 (Read3_0_ok b x582) (Read7_0_ok b x582) w
       ·have x583 : ReadD m c f k = 0 := by unfold ReadD; rw [if_pos x579, if_pos x580, if_neg x581]
        exact L_law_37 b x1 x309 x458 (Read3_0_ok b x583) (Read7_0_ok b x583) w
      ·by_cases x584 : (f : Int) > (0)
       ·have x585 : ReadD m c f k = 0 := by unfold ReadD; rw [if_pos x579, if_neg x580, if_pos x584]
        exact L_law_37 b x1 x309 x458 (Read3_0_ok b x585) (Read7_0_ok b x585) w
       ·have e_ : f = 0 := by omega
        subst e_
        first | omega | exact absurd x580 (by decide)
    ·by_cases x586 : vA c 16 = (0)
     ·have x587 : headD m c f k = 0 := by unfold headD; rw [if_neg x1, if_neg x570, if_pos x586, if_neg x458]
      by_cases x588 : (f : Int) ≤ (100)
      ·by_cases x589 : (f : Int) > (0)
       ·have x590 : ReadD m c f k = 0 := by unfold ReadD; rw [if_pos x587, if_pos x588, if_pos x589]
        exact L_law_37 b x1 x309 x458 (Read3_0_ok b x590) (Read7_0_ok b x590) w
       ·have x591 : ReadD m c f k = 0 := by unfold ReadD; rw [if_pos x587, if_pos x588, if_neg x589]
        exact L_law_37 b x1 x309 x458 (Read3_0_ok b x591) (Read7_0_ok b x591) w
      ·by_cases x592 : (f : Int) > (0)
       ·have x593 : ReadD m c f k = 0 := by unfold ReadD; rw [if_pos x587, if_neg x588, if_pos x592]
        exact L_law_37 b x1 x309 x458 (Read3_0_ok b x593) (Read7_0_ok b x593) w
       ·have e_ : f = 0 := by omega
        subst e_
        first | omega | exact absurd x588 (by decide)
     ·have x594 : headD m c f k = 0 := by unfold headD; rw [if_neg x1, if_neg x570, if_neg x586, if_neg x458]
      by_cases x595 : (f : Int) ≤ (100)
      ·by_cases x596 : (f : Int) > (0)
       ·have x597 : ReadD m c f k = 0 := by unfold ReadD; rw [if_pos x594, if_pos x595, if_pos x596]
        exact L_law_37 b x1 x309 x458 (Read3_0_ok b x597) (Read7_0_ok b x597) w
       ·have x598 : ReadD m c f k = 0 := by unfold ReadD; rw [if_pos x594, if_pos x595, if_neg x596]
        exact L_law_37 b x1 x309 x458 (Read3_0_ok b x598) (Read7_0_ok b x598) w
      ·by_cases x599 : (f : Int) > (0)
       ·have x600 : ReadD m c f k = 0 := by unfold ReadD; rw [if_pos x594, if_neg x595, if_pos x599]
        exact L_law_37 b x1 x309 x458 (Read3_0_ok b x600) (Read7_0_ok b x600) w
       ·have e_ : f = 0 := by omega
        subst e_
        first | omega | exact absurd x595 (by decide)
end Go.Proofs.YtlfinnicdpiaaaaGreatDoor.cf
