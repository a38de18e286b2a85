/-
  What the law BuiltinClass answers at any text: true; all memory that was there is kept.
-/
import Derived.Test.YtmeepibkgbgmhaaB10K
import Derived.Test.YtmeepibkgbgmhaaB10Cut
import Derived.Test.YtmeepibkgbgmhaaXShut
set_option linter.unusedVariables false
set_option maxRecDepth 1000000
namespace Go.Proofs.Ytmeepibkgbgmhaa
open Go.X Go.RowKit

def allNames : List (Nat × Nat) := [(16, 154706541852025644484233205990057992554), (16, 137483774941304901841256615957136564586), (23, 10956966084090815260342509131105871416374185281426186602), (16, 145412635431568811361768410208787652970), (19, 2439265639030268300842157990401791553877467498), (19, 2261816869159440624969593107871851903301607786), (19, 2462787319999361794871408518597065734545105258), (15, 594182256714433171583859471190221162), (26, 177462528906270532328520934635542489792491443287338843928682858), (35, 838043098472257520366253329360822735706660890049674080341799799296269125818196058474), (26, 183890501555036136351903328603364899342229922045770665733546346), (38, 14569306542031293471471962209605688152784288289213751582725315083544705153644676387098222954), (30, 789803690223817235625993454897404583541813632134065715887439951296881002), (31, 202189744697330995387852485397630371027294446829100397077902765524415570282), (38, 14569306542030247732875768419210667608278730874565438596096215620376147580735894642209743210), (22, 42815343838886881203639546329033052610660173325164906), (21, 167247436870678459232146883126634948762985622298986), (26, 183890501555012814945400634590948384637649511452497603397575018), (27, 47075968398083285027902446257440240237115773113246055769402925418), (28, 12051447909910759173808661238977857107111767888823090726697178653034), (29, 3085170664936786167588614718972924591866388410301586339335837578584426), (28, 12051447909910278778317482300033197087305720853520054876288643916138), (37, 56911353679811531822920492603033782110087255578636309514658723732473720363105297718731114), (28, 12051447909911140811364177168575840195048631602135540194265359868266), (26, 183890501555043540957095622503328518117729969598634276033028458), (29, 2977327179366744475310567174670984700336777289692309623825572795146602), (30, 762195757917886585679527096405151622096281774544538073876077408773628266), (40, 921438131347674524995356669863897659779420152864154109574888483886346161678995665599280333611370), (36, 214539033208897925213755128370838752992305990670598911423725060199978812837976799076714), (28, 11630184294401345606682283003339240975915084228737354846334270988650), (29, 2977327179366744475310578792928741468592950331792981622238945052352874), (38, 14060030080378334426808655457799320232265086119729716606675995945190890063755479020322840938), (41, 235888161625004678398811307485157800903531559133223452051171428016118026562849321940164899390251370)]

theorem cutS_ne {s : ByteArray} {n : Nat} {l : List (Nat × Nat)} (hl : l.all (fun p => Nat.blt p.1 n) = true) (h : ∀ p ∈ l, s ≠ strOf p.1 p.2) : ∀ p ∈ l, cutS s n ≠ strOf p.1 p.2 := by
  letI := Tab.empty
  intro p hp
  unfold cutS
  split
  · intro e
    have h1 := congrArg ByteArray.size e
    rw [strOf_size] at h1
    have h2 := List.all_eq_true.1 hl p hp
    have h3 : p.1 < n := blt_iff.1 h2
    simp at h1; omega
  · exact h p hp

theorem cut_ok [T : Tab] {i j n : Nat} (hs : (Tab.str i).size ≤ maxLen) (hj : Tab.str j = cutS (Tab.str i) n) (h : H) : CallOk Try.prog 7 [.ostr i, .int .i64 n] h (.ostr j, h) := by
  intro B w0 μ w args' r ha
  have e : args' = #[.string (Tab.str i), .int .i64 n] := by
    cases args' with
    | mk l =>
      have ha : vrels μ [.ostr i, .int .i64 n] l := ha
      obtain ⟨v, r, h1, hv, v2, r2, h2, hv2, h3⟩ := ha
      subst h1 h2 h3
      simp only [vrel] at hv hv2
      subst hv hv2; rfl
  subst e
  by_cases hc : n < (Tab.str i).size
  · refine (cut_long _ n w hs hc).mono ?_
    rintro e w' ⟨rfl, rfl⟩
    exact ⟨_, μ, rfl, Ext.refl _, by simp only [vrel]; rw [hj, cutS, if_pos hc], r⟩
  · refine (cut_short _ n w hs hc).mono ?_
    rintro e w' ⟨rfl, rfl⟩
    exact ⟨_, μ, rfl, Ext.refl _, by simp only [vrel]; rw [hj, cutS, if_neg hc], r⟩

abbrev textsC (a : ByteArray) (l : List (Nat × Nat)) (h : ∀ p ∈ l, a ≠ strOf p.1 p.2) (h' : ∀ p ∈ l, cutS a 100 ≠ strOf p.1 p.2) : Tab :=
  ⟨fun i => Nat.rec a (fun _ _ => cutS a 100) i, fun _ => l, fun i p hp _ => by cases i with | zero => exact h p hp | succ _ => exact h' p hp⟩

theorem class_other (a : ByteArray) (ha : a.size ≤ maxLen) (h : ∀ p ∈ allNames, a ≠ strOf p.1 p.2) (w : World) :
    Calls Try.prog 3 #[.string a] w fun e w' => e = .returned (.bool true) ∧ Below w.heap.size w w' := by
  letI T : Tab := textsC a allNames h (cutS_ne (by decide +kernel) h)
  have hK : HandOk Try.prog ((oneHand 7 [.ostr 0, .int .i64 100] (.ostr 1)).or (sumsHand tabK)) :=
    HandOk.or (oneHand_ok fun h => cut_ok (T := T) ha rfl h) (sumsHand_ok tabK_ok)
  obtain ⟨q, hq⟩ := CallOk.of_okTrue (f := 3) (n := 2000) (args := [.ostr 0]) mixed hK (by kernel_rfl)
  exact hq.yes (by simp only [vrels, vrel]; exact ⟨_, _, rfl, rfl, rfl⟩) w

theorem class_any (a : ByteArray) (ha : a.size ≤ maxLen) (w : World) : Calls Try.prog 3 #[.string a] w fun e w' => e = .returned (.bool true) ∧ Below w.heap.size w w' := by
  letI := Tab.empty
  rcases pick allNames a with ⟨p, hp, rfl⟩ | h
  · simp only [allNames, List.mem_cons, List.not_mem_nil, or_false] at hp
    rcases hp with rfl | rfl | rfl | rfl | rfl | rfl | rfl | rfl | rfl | rfl | rfl | rfl | rfl | rfl | rfl | rfl | rfl | rfl | rfl | rfl | rfl | rfl | rfl | rfl | rfl | rfl | rfl | rfl | rfl | rfl | rfl | rfl | rfl
    · exact K_0_ok.yes rfl (by simp only [vrels, vrel]; exact ⟨_, _, rfl, ⟨by decide +kernel, rfl⟩, rfl⟩) w
    · exact K_1_ok.yes rfl (by simp only [vrels, vrel]; exact ⟨_, _, rfl, ⟨by decide +kernel, rfl⟩, rfl⟩) w
    · exact K_2_ok.yes rfl (by simp only [vrels, vrel]; exact ⟨_, _, rfl, ⟨by decide +kernel, rfl⟩, rfl⟩) w
    · exact K_3_ok.yes rfl (by simp only [vrels, vrel]; exact ⟨_, _, rfl, ⟨by decide +kernel, rfl⟩, rfl⟩) w
    · exact K_4_ok.yes rfl (by simp only [vrels, vrel]; exact ⟨_, _, rfl, ⟨by decide +kernel, rfl⟩, rfl⟩) w
    · exact K_5_ok.yes rfl (by simp only [vrels, vrel]; exact ⟨_, _, rfl, ⟨by decide +kernel, rfl⟩, rfl⟩) w
    · exact K_6_ok.yes rfl (by simp only [vrels, vrel]; exact ⟨_, _, rfl, ⟨by decide +kernel, rfl⟩, rfl⟩) w
    · exact K_7_ok.yes rfl (by simp only [vrels, vrel]; exact ⟨_, _, rfl, ⟨by decide +kernel, rfl⟩, rfl⟩) w
    · exact K_8_ok.yes rfl (by simp only [vrels, vrel]; exact ⟨_, _, rfl, ⟨by decide +kernel, rfl⟩, rfl⟩) w
    · exact K_9_ok.yes rfl (by simp only [vrels, vrel]; exact ⟨_, _, rfl, ⟨by decide +kernel, rfl⟩, rfl⟩) w
    · exact K_10_ok.yes rfl (by simp only [vrels, vrel]; exact ⟨_, _, rfl, ⟨by decide +kernel, rfl⟩, rfl⟩) w
    · exact K_11_ok.yes rfl (by simp only [vrels, vrel]; exact ⟨_, _, rfl, ⟨by decide +kernel, rfl⟩, rfl⟩) w
    · exact K_12_ok.yes rfl (by simp only [vrels, vrel]; exact ⟨_, _, rfl, ⟨by decide +kernel, rfl⟩, rfl⟩) w
    · exact K_13_ok.yes rfl (by simp only [vrels, vrel]; exact ⟨_, _, rfl, ⟨by decide +kernel, rfl⟩, rfl⟩) w
    · exact K_14_ok.yes rfl (by simp only [vrels, vrel]; exact ⟨_, _, rfl, ⟨by decide +kernel, rfl⟩, rfl⟩) w
    · exact K_15_ok.yes rfl (by simp only [vrels, vrel]; exact ⟨_, _, rfl, ⟨by decide +kernel, rfl⟩, rfl⟩) w
    · exact K_16_ok.yes rfl (by simp only [vrels, vrel]; exact ⟨_, _, rfl, ⟨by decide +kernel, rfl⟩, rfl⟩) w
    · exact K_17_ok.yes rfl (by simp only [vrels, vrel]; exact ⟨_, _, rfl, ⟨by decide +kernel, rfl⟩, rfl⟩) w
    · exact K_18_ok.yes rfl (by simp only [vrels, vrel]; exact ⟨_, _, rfl, ⟨by decide +kernel, rfl⟩, rfl⟩) w
    · exact K_19_ok.yes rfl (by simp only [vrels, vrel]; exact ⟨_, _, rfl, ⟨by decide +kernel, rfl⟩, rfl⟩) w
    · exact K_20_ok.yes rfl (by simp only [vrels, vrel]; exact ⟨_, _, rfl, ⟨by decide +kernel, rfl⟩, rfl⟩) w
    · exact K_21_ok.yes rfl (by simp only [vrels, vrel]; exact ⟨_, _, rfl, ⟨by decide +kernel, rfl⟩, rfl⟩) w
    · exact K_22_ok.yes rfl (by simp only [vrels, vrel]; exact ⟨_, _, rfl, ⟨by decide +kernel, rfl⟩, rfl⟩) w
    · exact K_23_ok.yes rfl (by simp only [vrels, vrel]; exact ⟨_, _, rfl, ⟨by decide +kernel, rfl⟩, rfl⟩) w
    · exact K_24_ok.yes rfl (by simp only [vrels, vrel]; exact ⟨_, _, rfl, ⟨by decide +kernel, rfl⟩, rfl⟩) w
    · exact K_25_ok.yes rfl (by simp only [vrels, vrel]; exact ⟨_, _, rfl, ⟨by decide +kernel, rfl⟩, rfl⟩) w
    · exact K_26_ok.yes rfl (by simp only [vrels, vrel]; exact ⟨_, _, rfl, ⟨by decide +kernel, rfl⟩, rfl⟩) w
    · exact K_27_ok.yes rfl (by simp only [vrels, vrel]; exact ⟨_, _, rfl, ⟨by decide +kernel, rfl⟩, rfl⟩) w
    · exact K_28_ok.yes rfl (by simp only [vrels, vrel]; exact ⟨_, _, rfl, ⟨by decide +kernel, rfl⟩, rfl⟩) w
    · exact K_29_ok.yes rfl (by simp only [vrels, vrel]; exact ⟨_, _, rfl, ⟨by decide +kernel, rfl⟩, rfl⟩) w
    · exact K_30_ok.yes rfl (by simp only [vrels, vrel]; exact ⟨_, _, rfl, ⟨by decide +kernel, rfl⟩, rfl⟩) w
    · exact K_31_ok.yes rfl (by simp only [vrels, vrel]; exact ⟨_, _, rfl, ⟨by decide +kernel, rfl⟩, rfl⟩) w
    · exact K_32_ok.yes rfl (by simp only [vrels, vrel]; exact ⟨_, _, rfl, ⟨by decide +kernel, rfl⟩, rfl⟩) w
  · exact class_other a ha h w
end Go.Proofs.Ytmeepibkgbgmhaa
