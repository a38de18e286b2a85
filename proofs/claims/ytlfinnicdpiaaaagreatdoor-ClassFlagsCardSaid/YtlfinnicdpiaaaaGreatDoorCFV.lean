/-
  What the law ClassFlags gives, whatever the numbers.
-/
import Derived.Test.YtlfinnicdpiaaaaGreatDoorXN3
import Derived.Test.YtlfinnicdpiaaaaGreatDoorCFB
import Derived.Test.YtlfinnicdpiaaaaGreatDoorCFJ
import Derived.KernelRfl
set_option linter.unusedVariables false
set_option linter.unusedSimpArgs false
set_option maxRecDepth 1000000
set_option maxHeartbeats 0
namespace Go.Proofs.YtlfinnicdpiaaaaGreatDoor.cf
open Go.X Go.RowKit
abbrev ivR (a b c d : Int) : Nat → IntKind × Int := fun i0 => match i0 with
  | 0 => (.i64, a) | 1 => (.i64, b) | 2 => (.i64, c) | 3 => (.i64, d) | _ => (.i64, 0)
abbrev RR {a b c d : Int} (ext : List BRow) (h : ∀ r ∈ ext, IbOk (ivR a b c d) r) : VRows (ivR a b c d) noV noK where
  vvp := noVp
  ib := ext
  ibok := h
def GivesI (a b c d : Int) (w : World) : Prop := Calls Tryz.prog 3 #[.int .i64 a, .int .i64 b, .int .i64 c, .int .i64 d] w fun e w' => e = .returned (.bool true) ∧ Below w.heap.size w w'
theorem givesI {T : Tab} {a b c d : Int} {h' : H} (hq : @CallOk T Tryz.prog 3 [.oi 0, .oi 1, .oi 2, .oi 3] H.empty (.bool true, h')) (w : World) (i0 : T.iv 0 = (.i64, a)) (i1 : T.iv 1 = (.i64, b)) (i2 : T.iv 2 = (.i64, c)) (i3 : T.iv 3 = (.i64, d)) (g1 : T.gv = fun _ _ => none) (g2 : T.fv = fun _ _ => none) : GivesI a b c d w := by
  letI := T
  refine CallOk.yes hq (vrels_cons (by simp only [vrel]; rw [i0]) (vrels_cons (by simp only [vrel]; rw [i1]) (vrels_cons (by simp only [vrel]; rw [i2]) (vrels_cons (by simp only [vrel]; rw [i3]) (by simp [vrels]))))) w ⟨fun g o a h => ?_, fun i m a h => ?_⟩
  · rw [g1] at h; cases h
  · rw [g2] at h; cases h
section
variable {a b c d : Int} (h0 : a < 50)
abbrev T_out0 : Tab := (RR (a := a) (b := b) (c := c) (d := d) (e11t 0 (50) ++ ([])) (by letI := Tab.empty; exact (allApp (e11t_ok rfl h0) ibNil))).tab
theorem out0_run : okTrue (@call (T_out0 (a := a) (b := b) (c := c) (d := d) h0) Tryz.prog H_CF0a 5000 3 [.oi 0, .oi 1, .oi 2, .oi 3] H.empty) = true := (by as_aux_lemma => kernel_rfl)
end
theorem out0 {a b c d : Int} (h0 : a < 50) (w : World) : GivesI a b c d w := by
  letI : Tab := (T_out0 (a := a) (b := b) (c := c) (d := d) h0)
  obtain ⟨q_, hq_⟩ := CallOk.of_okTrue (P := Tryz.prog) mixed H_CF0a_ok (out0_run (a := a) (b := b) (c := c) (d := d) h0)
  exact givesI hq_ w rfl rfl rfl rfl rfl rfl
section
variable {a b c d : Int} (h0 : ¬ a < 50) (h1 : a > 52)
abbrev T_out1 : Tab := (RR (a := a) (b := b) (c := c) (d := d) (e11f 0 (50) ++ (e13t 0 (52) ++ ([]))) (by letI := Tab.empty; exact (allApp (e11f_ok rfl h0) (allApp (e13t_ok rfl h1) ibNil)))).tab
theorem out1_run : okTrue (@call (T_out1 (a := a) (b := b) (c := c) (d := d) h0 h1) Tryz.prog H_CF0a 5000 3 [.oi 0, .oi 1, .oi 2, .oi 3] H.empty) = true := (by as_aux_lemma => kernel_rfl)
end
theorem out1 {a b c d : Int} (h0 : ¬ a < 50) (h1 : a > 52) (w : World) : GivesI a b c d w := by
  letI : Tab := (T_out1 (a := a) (b := b) (c := c) (d := d) h0 h1)
  obtain ⟨q_, hq_⟩ := CallOk.of_okTrue (P := Tryz.prog) mixed H_CF0a_ok (out1_run (a := a) (b := b) (c := c) (d := d) h0 h1)
  exact givesI hq_ w rfl rfl rfl rfl rfl rfl
section
variable {a b c d : Int} (h0 : ¬ a < 50) (h1 : ¬ a > 52) (h2 : b < 0)
abbrev T_out2 : Tab := (RR (a := a) (b := b) (c := c) (d := d) (e11f 0 (50) ++ (e13f 0 (52) ++ (e11t 1 (0) ++ ([])))) (by letI := Tab.empty; exact (allApp (e11f_ok rfl h0) (allApp (e13f_ok rfl h1) (allApp (e11t_ok rfl h2) ibNil))))).tab
theorem out2_run : okTrue (@call (T_out2 (a := a) (b := b) (c := c) (d := d) h0 h1 h2) Tryz.prog H_CF0a 5000 3 [.oi 0, .oi 1, .oi 2, .oi 3] H.empty) = true := (by as_aux_lemma => kernel_rfl)
end
theorem out2 {a b c d : Int} (h0 : ¬ a < 50) (h1 : ¬ a > 52) (h2 : b < 0) (w : World) : GivesI a b c d w := by
  letI : Tab := (T_out2 (a := a) (b := b) (c := c) (d := d) h0 h1 h2)
  obtain ⟨q_, hq_⟩ := CallOk.of_okTrue (P := Tryz.prog) mixed H_CF0a_ok (out2_run (a := a) (b := b) (c := c) (d := d) h0 h1 h2)
  exact givesI hq_ w rfl rfl rfl rfl rfl rfl
section
variable {a b c d : Int} (h0 : ¬ a < 50) (h1 : ¬ a > 52) (h2 : ¬ b < 0) (h3 : b > 65535)
abbrev T_out3 : Tab := (RR (a := a) (b := b) (c := c) (d := d) (e11f 0 (50) ++ (e13f 0 (52) ++ (e11f 1 (0) ++ (e13t 1 (65535) ++ ([]))))) (by letI := Tab.empty; exact (allApp (e11f_ok rfl h0) (allApp (e13f_ok rfl h1) (allApp (e11f_ok rfl h2) (allApp (e13t_ok rfl h3) ibNil)))))).tab
theorem out3_run : okTrue (@call (T_out3 (a := a) (b := b) (c := c) (d := d) h0 h1 h2 h3) Tryz.prog H_CF0a 5000 3 [.oi 0, .oi 1, .oi 2, .oi 3] H.empty) = true := (by as_aux_lemma => kernel_rfl)
end
theorem out3 {a b c d : Int} (h0 : ¬ a < 50) (h1 : ¬ a > 52) (h2 : ¬ b < 0) (h3 : b > 65535) (w : World) : GivesI a b c d w := by
  letI : Tab := (T_out3 (a := a) (b := b) (c := c) (d := d) h0 h1 h2 h3)
  obtain ⟨q_, hq_⟩ := CallOk.of_okTrue (P := Tryz.prog) mixed H_CF0a_ok (out3_run (a := a) (b := b) (c := c) (d := d) h0 h1 h2 h3)
  exact givesI hq_ w rfl rfl rfl rfl rfl rfl
section
variable {a b c d : Int} (h0 : ¬ a < 50) (h1 : ¬ a > 52) (h2 : ¬ b < 0) (h3 : ¬ b > 65535) (h4 : c < 0)
abbrev T_out4 : Tab := (RR (a := a) (b := b) (c := c) (d := d) (e11f 0 (50) ++ (e13f 0 (52) ++ (e11f 1 (0) ++ (e13f 1 (65535) ++ (e11t 2 (0) ++ ([])))))) (by letI := Tab.empty; exact (allApp (e11f_ok rfl h0) (allApp (e13f_ok rfl h1) (allApp (e11f_ok rfl h2) (allApp (e13f_ok rfl h3) (allApp (e11t_ok rfl h4) ibNil))))))).tab
theorem out4_run : okTrue (@call (T_out4 (a := a) (b := b) (c := c) (d := d) h0 h1 h2 h3 h4) Tryz.prog H_CF0a 5000 3 [.oi 0, .oi 1, .oi 2, .oi 3] H.empty) = true := (by as_aux_lemma => kernel_rfl)
end
theorem out4 {a b c d : Int} (h0 : ¬ a < 50) (h1 : ¬ a > 52) (h2 : ¬ b < 0) (h3 : ¬ b > 65535) (h4 : c < 0) (w : World) : GivesI a b c d w := by
  letI : Tab := (T_out4 (a := a) (b := b) (c := c) (d := d) h0 h1 h2 h3 h4)
  obtain ⟨q_, hq_⟩ := CallOk.of_okTrue (P := Tryz.prog) mixed H_CF0a_ok (out4_run (a := a) (b := b) (c := c) (d := d) h0 h1 h2 h3 h4)
  exact givesI hq_ w rfl rfl rfl rfl rfl rfl
section
variable {a b c d : Int} (h0 : ¬ a < 50) (h1 : ¬ a > 52) (h2 : ¬ b < 0) (h3 : ¬ b > 65535) (h4 : ¬ c < 0) (h5 : c > 65535)
abbrev T_out5 : Tab := (RR (a := a) (b := b) (c := c) (d := d) (e11f 0 (50) ++ (e13f 0 (52) ++ (e11f 1 (0) ++ (e13f 1 (65535) ++ (e11f 2 (0) ++ (e13t 2 (65535) ++ ([]))))))) (by letI := Tab.empty; exact (allApp (e11f_ok rfl h0) (allApp (e13f_ok rfl h1) (allApp (e11f_ok rfl h2) (allApp (e13f_ok rfl h3) (allApp (e11f_ok rfl h4) (allApp (e13t_ok rfl h5) ibNil)))))))).tab
theorem out5_run : okTrue (@call (T_out5 (a := a) (b := b) (c := c) (d := d) h0 h1 h2 h3 h4 h5) Tryz.prog H_CF0a 5000 3 [.oi 0, .oi 1, .oi 2, .oi 3] H.empty) = true := (by as_aux_lemma => kernel_rfl)
end
theorem out5 {a b c d : Int} (h0 : ¬ a < 50) (h1 : ¬ a > 52) (h2 : ¬ b < 0) (h3 : ¬ b > 65535) (h4 : ¬ c < 0) (h5 : c > 65535) (w : World) : GivesI a b c d w := by
  letI : Tab := (T_out5 (a := a) (b := b) (c := c) (d := d) h0 h1 h2 h3 h4 h5)
  obtain ⟨q_, hq_⟩ := CallOk.of_okTrue (P := Tryz.prog) mixed H_CF0a_ok (out5_run (a := a) (b := b) (c := c) (d := d) h0 h1 h2 h3 h4 h5)
  exact givesI hq_ w rfl rfl rfl rfl rfl rfl
section
variable {a b c d : Int} (h0 : ¬ a < 50) (h1 : ¬ a > 52) (h2 : ¬ b < 0) (h3 : ¬ b > 65535) (h4 : ¬ c < 0) (h5 : ¬ c > 65535) (h6 : d < 0)
abbrev T_out6 : Tab := (RR (a := a) (b := b) (c := c) (d := d) (e11f 0 (50) ++ (e13f 0 (52) ++ (e11f 1 (0) ++ (e13f 1 (65535) ++ (e11f 2 (0) ++ (e13f 2 (65535) ++ (e11t 3 (0) ++ ([])))))))) (by letI := Tab.empty; exact (allApp (e11f_ok rfl h0) (allApp (e13f_ok rfl h1) (allApp (e11f_ok rfl h2) (allApp (e13f_ok rfl h3) (allApp (e11f_ok rfl h4) (allApp (e13f_ok rfl h5) (allApp (e11t_ok rfl h6) ibNil))))))))).tab
theorem out6_run : okTrue (@call (T_out6 (a := a) (b := b) (c := c) (d := d) h0 h1 h2 h3 h4 h5 h6) Tryz.prog H_CF0a 5000 3 [.oi 0, .oi 1, .oi 2, .oi 3] H.empty) = true := (by as_aux_lemma => kernel_rfl)
end
theorem out6 {a b c d : Int} (h0 : ¬ a < 50) (h1 : ¬ a > 52) (h2 : ¬ b < 0) (h3 : ¬ b > 65535) (h4 : ¬ c < 0) (h5 : ¬ c > 65535) (h6 : d < 0) (w : World) : GivesI a b c d w := by
  letI : Tab := (T_out6 (a := a) (b := b) (c := c) (d := d) h0 h1 h2 h3 h4 h5 h6)
  obtain ⟨q_, hq_⟩ := CallOk.of_okTrue (P := Tryz.prog) mixed H_CF0a_ok (out6_run (a := a) (b := b) (c := c) (d := d) h0 h1 h2 h3 h4 h5 h6)
  exact givesI hq_ w rfl rfl rfl rfl rfl rfl
section
variable {a b c d : Int} (h0 : ¬ a < 50) (h1 : ¬ a > 52) (h2 : ¬ b < 0) (h3 : ¬ b > 65535) (h4 : ¬ c < 0) (h5 : ¬ c > 65535) (h6 : ¬ d < 0) (h7 : d > 65535)
abbrev T_out7 : Tab := (RR (a := a) (b := b) (c := c) (d := d) (e11f 0 (50) ++ (e13f 0 (52) ++ (e11f 1 (0) ++ (e13f 1 (65535) ++ (e11f 2 (0) ++ (e13f 2 (65535) ++ (e11f 3 (0) ++ (e13t 3 (65535) ++ ([]))))))))) (by letI := Tab.empty; exact (allApp (e11f_ok rfl h0) (allApp (e13f_ok rfl h1) (allApp (e11f_ok rfl h2) (allApp (e13f_ok rfl h3) (allApp (e11f_ok rfl h4) (allApp (e13f_ok rfl h5) (allApp (e11f_ok rfl h6) (allApp (e13t_ok rfl h7) ibNil)))))))))).tab
theorem out7_run : okTrue (@call (T_out7 (a := a) (b := b) (c := c) (d := d) h0 h1 h2 h3 h4 h5 h6 h7) Tryz.prog H_CF0a 5000 3 [.oi 0, .oi 1, .oi 2, .oi 3] H.empty) = true := (by as_aux_lemma => kernel_rfl)
end
theorem out7 {a b c d : Int} (h0 : ¬ a < 50) (h1 : ¬ a > 52) (h2 : ¬ b < 0) (h3 : ¬ b > 65535) (h4 : ¬ c < 0) (h5 : ¬ c > 65535) (h6 : ¬ d < 0) (h7 : d > 65535) (w : World) : GivesI a b c d w := by
  letI : Tab := (T_out7 (a := a) (b := b) (c := c) (d := d) h0 h1 h2 h3 h4 h5 h6 h7)
  obtain ⟨q_, hq_⟩ := CallOk.of_okTrue (P := Tryz.prog) mixed H_CF0a_ok (out7_run (a := a) (b := b) (c := c) (d := d) h0 h1 h2 h3 h4 h5 h6 h7)
  exact givesI hq_ w rfl rfl rfl rfl rfl rfl
theorem walk0 (a b c d : Int) (w : World) : GivesI a b c d w := by
  by_cases h0 : a < 50
  · exact out0 h0 w
  by_cases h1 : a > 52
  · exact out1 h0 h1 w
  by_cases h2 : b < 0
  · exact out2 h0 h1 h2 w
  by_cases h3 : b > 65535
  · exact out3 h0 h1 h2 h3 w
  by_cases h4 : c < 0
  · exact out4 h0 h1 h2 h3 h4 w
  by_cases h5 : c > 65535
  · exact out5 h0 h1 h2 h3 h4 h5 w
  by_cases h6 : d < 0
  · exact out6 h0 h1 h2 h3 h4 h5 h6 w
  by_cases h7 : d > 65535
  · exact out7 h0 h1 h2 h3 h4 h5 h6 h7 w
  obtain ⟨m, rfl⟩ : ∃ m : Nat, a = (m : Int) := ⟨a.toNat, by omega⟩
  obtain ⟨b, rfl⟩ : ∃ m : Nat, b = (m : Int) := ⟨b.toNat, by omega⟩
  obtain ⟨c, rfl⟩ : ∃ m : Nat, c = (m : Int) := ⟨c.toNat, by omega⟩
  obtain ⟨d, rfl⟩ : ∃ m : Nat, d = (m : Int) := ⟨d.toNat, by omega⟩
  exact main (m := m) (c := b) (f := c) (k := d) ⟨by omega, by omega, by omega, by omega, by omega⟩ w
end Go.Proofs.YtlfinnicdpiaaaaGreatDoor.cf
