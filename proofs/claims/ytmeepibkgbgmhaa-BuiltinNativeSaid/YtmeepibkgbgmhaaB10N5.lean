/-
  What the law BuiltinNative answers at known classes.
-/
import Derived.Test.YtmeepibkgbgmhaaB10Na
set_option maxHeartbeats 4000000
set_option linter.unusedVariables false
set_option maxRecDepth 1000000
namespace Go.Proofs.Ytmeepibkgbgmhaa
open Go.X Go.RowKit

def nm11 : List (Nat × Nat) := [(6, 68669705972028)]
def ds11 : List (Nat × Nat) := [(3, 5646632), (21, 125924534186164816246133852188561726513007718714408)]
theorem nat_11 {b c : ByteArray} (sb : b.size ≤ maxLen) (sc : c.size ≤ maxLen) : Fine #[.string (strOf 38 14569306542031293471471962209605688152784288289213751582725315083544705153644676387098222954), .string b, .string c] := by
  have sa : (strOf 38 14569306542031293471471962209605688152784288289213751582725315083544705153644676387098222954).size ≤ maxLen := by decide +kernel
  rcases @pick Tab.empty nm11 b with ⟨p, hp, rfl⟩ | hb
  · simp only [nm11, List.mem_cons, List.not_mem_nil, or_false] at hp
    subst hp
    · rcases @pick Tab.empty ds11 c with ⟨p, hp, rfl⟩ | hc
      · simp only [ds11, List.mem_cons, List.not_mem_nil, or_false] at hp
        rcases hp with rfl | rfl
        · exact nat_case (la := []) (lb := []) (lc := []) sa sb sc (no _) (no _) (no _) rfl (by kernel_rfl) (by kernel_rfl) (.str 38 14569306542031293471471962209605688152784288289213751582725315083544705153644676387098222954) (.str 6 68669705972028) (.str 3 5646632) ⟨by decide +kernel, rfl⟩ ⟨by decide +kernel, rfl⟩ ⟨by decide +kernel, rfl⟩ (by as_aux_lemma => kernel_rfl)
        · exact nat_case (la := []) (lb := []) (lc := []) sa sb sc (no _) (no _) (no _) rfl (by kernel_rfl) (by kernel_rfl) (.str 38 14569306542031293471471962209605688152784288289213751582725315083544705153644676387098222954) (.str 6 68669705972028) (.str 21 125924534186164816246133852188561726513007718714408) ⟨by decide +kernel, rfl⟩ ⟨by decide +kernel, rfl⟩ ⟨by decide +kernel, rfl⟩ (by as_aux_lemma => kernel_rfl)
      · exact nat_case (la := []) (lb := []) (lc := ds11) sa sb sc (no _) (no _) (hc) rfl (by kernel_rfl) (by kernel_rfl) (.str 38 14569306542031293471471962209605688152784288289213751582725315083544705153644676387098222954) (.str 6 68669705972028) (.ostr 4) ⟨by decide +kernel, rfl⟩ ⟨by decide +kernel, rfl⟩ rfl (by as_aux_lemma => kernel_rfl)
  · rcases @pick Tab.empty ds11 c with ⟨p, hp, rfl⟩ | hc
    · simp only [ds11, List.mem_cons, List.not_mem_nil, or_false] at hp
      rcases hp with rfl | rfl
      · exact nat_case (la := []) (lb := nm11) (lc := []) sa sb sc (no _) (hb) (no _) rfl (by kernel_rfl) (by kernel_rfl) (.str 38 14569306542031293471471962209605688152784288289213751582725315083544705153644676387098222954) (.ostr 2) (.str 3 5646632) ⟨by decide +kernel, rfl⟩ rfl ⟨by decide +kernel, rfl⟩ (by as_aux_lemma => kernel_rfl)
      · exact nat_case (la := []) (lb := nm11) (lc := []) sa sb sc (no _) (hb) (no _) rfl (by kernel_rfl) (by kernel_rfl) (.str 38 14569306542031293471471962209605688152784288289213751582725315083544705153644676387098222954) (.ostr 2) (.str 21 125924534186164816246133852188561726513007718714408) ⟨by decide +kernel, rfl⟩ rfl ⟨by decide +kernel, rfl⟩ (by as_aux_lemma => kernel_rfl)
    · exact nat_case (la := []) (lb := nm11) (lc := ds11) sa sb sc (no _) (hb) (hc) rfl (by kernel_rfl) (by kernel_rfl) (.str 38 14569306542031293471471962209605688152784288289213751582725315083544705153644676387098222954) (.ostr 2) (.ostr 4) ⟨by decide +kernel, rfl⟩ rfl rfl (by as_aux_lemma => kernel_rfl)

def nm12 : List (Nat × Nat) := [(6, 68669705972028)]
def ds12 : List (Nat × Nat) := [(3, 5646632), (21, 125924534186164816246133852188561726513007718714408)]
theorem nat_12 {b c : ByteArray} (sb : b.size ≤ maxLen) (sc : c.size ≤ maxLen) : Fine #[.string (strOf 30 789803690223817235625993454897404583541813632134065715887439951296881002), .string b, .string c] := by
  have sa : (strOf 30 789803690223817235625993454897404583541813632134065715887439951296881002).size ≤ maxLen := by decide +kernel
  rcases @pick Tab.empty nm12 b with ⟨p, hp, rfl⟩ | hb
  · simp only [nm12, List.mem_cons, List.not_mem_nil, or_false] at hp
    subst hp
    · rcases @pick Tab.empty ds12 c with ⟨p, hp, rfl⟩ | hc
      · simp only [ds12, List.mem_cons, List.not_mem_nil, or_false] at hp
        rcases hp with rfl | rfl
        · exact nat_case (la := []) (lb := []) (lc := []) sa sb sc (no _) (no _) (no _) rfl (by kernel_rfl) (by kernel_rfl) (.str 30 789803690223817235625993454897404583541813632134065715887439951296881002) (.str 6 68669705972028) (.str 3 5646632) ⟨by decide +kernel, rfl⟩ ⟨by decide +kernel, rfl⟩ ⟨by decide +kernel, rfl⟩ (by as_aux_lemma => kernel_rfl)
        · exact nat_case (la := []) (lb := []) (lc := []) sa sb sc (no _) (no _) (no _) rfl (by kernel_rfl) (by kernel_rfl) (.str 30 789803690223817235625993454897404583541813632134065715887439951296881002) (.str 6 68669705972028) (.str 21 125924534186164816246133852188561726513007718714408) ⟨by decide +kernel, rfl⟩ ⟨by decide +kernel, rfl⟩ ⟨by decide +kernel, rfl⟩ (by as_aux_lemma => kernel_rfl)
      · exact nat_case (la := []) (lb := []) (lc := ds12) sa sb sc (no _) (no _) (hc) rfl (by kernel_rfl) (by kernel_rfl) (.str 30 789803690223817235625993454897404583541813632134065715887439951296881002) (.str 6 68669705972028) (.ostr 4) ⟨by decide +kernel, rfl⟩ ⟨by decide +kernel, rfl⟩ rfl (by as_aux_lemma => kernel_rfl)
  · rcases @pick Tab.empty ds12 c with ⟨p, hp, rfl⟩ | hc
    · simp only [ds12, List.mem_cons, List.not_mem_nil, or_false] at hp
      rcases hp with rfl | rfl
      · exact nat_case (la := []) (lb := nm12) (lc := []) sa sb sc (no _) (hb) (no _) rfl (by kernel_rfl) (by kernel_rfl) (.str 30 789803690223817235625993454897404583541813632134065715887439951296881002) (.ostr 2) (.str 3 5646632) ⟨by decide +kernel, rfl⟩ rfl ⟨by decide +kernel, rfl⟩ (by as_aux_lemma => kernel_rfl)
      · exact nat_case (la := []) (lb := nm12) (lc := []) sa sb sc (no _) (hb) (no _) rfl (by kernel_rfl) (by kernel_rfl) (.str 30 789803690223817235625993454897404583541813632134065715887439951296881002) (.ostr 2) (.str 21 125924534186164816246133852188561726513007718714408) ⟨by decide +kernel, rfl⟩ rfl ⟨by decide +kernel, rfl⟩ (by as_aux_lemma => kernel_rfl)
    · exact nat_case (la := []) (lb := nm12) (lc := ds12) sa sb sc (no _) (hb) (hc) rfl (by kernel_rfl) (by kernel_rfl) (.str 30 789803690223817235625993454897404583541813632134065715887439951296881002) (.ostr 2) (.ostr 4) ⟨by decide +kernel, rfl⟩ rfl rfl (by as_aux_lemma => kernel_rfl)

def nm13 : List (Nat × Nat) := [(6, 68669705972028)]
def ds13 : List (Nat × Nat) := [(3, 5646632), (21, 125924534186164816246133852188561726513007718714408)]
theorem nat_13 {b c : ByteArray} (sb : b.size ≤ maxLen) (sc : c.size ≤ maxLen) : Fine #[.string (strOf 31 202189744697330995387852485397630371027294446829100397077902765524415570282), .string b, .string c] := by
  have sa : (strOf 31 202189744697330995387852485397630371027294446829100397077902765524415570282).size ≤ maxLen := by decide +kernel
  rcases @pick Tab.empty nm13 b with ⟨p, hp, rfl⟩ | hb
  · simp only [nm13, List.mem_cons, List.not_mem_nil, or_false] at hp
    subst hp
    · rcases @pick Tab.empty ds13 c with ⟨p, hp, rfl⟩ | hc
      · simp only [ds13, List.mem_cons, List.not_mem_nil, or_false] at hp
        rcases hp with rfl | rfl
        · exact nat_case (la := []) (lb := []) (lc := []) sa sb sc (no _) (no _) (no _) rfl (by kernel_rfl) (by kernel_rfl) (.str 31 202189744697330995387852485397630371027294446829100397077902765524415570282) (.str 6 68669705972028) (.str 3 5646632) ⟨by decide +kernel, rfl⟩ ⟨by decide +kernel, rfl⟩ ⟨by decide +kernel, rfl⟩ (by as_aux_lemma => kernel_rfl)
        · exact nat_case (la := []) (lb := []) (lc := []) sa sb sc (no _) (no _) (no _) rfl (by kernel_rfl) (by kernel_rfl) (.str 31 202189744697330995387852485397630371027294446829100397077902765524415570282) (.str 6 68669705972028) (.str 21 125924534186164816246133852188561726513007718714408) ⟨by decide +kernel, rfl⟩ ⟨by decide +kernel, rfl⟩ ⟨by decide +kernel, rfl⟩ (by as_aux_lemma => kernel_rfl)
      · exact nat_case (la := []) (lb := []) (lc := ds13) sa sb sc (no _) (no _) (hc) rfl (by kernel_rfl) (by kernel_rfl) (.str 31 202189744697330995387852485397630371027294446829100397077902765524415570282) (.str 6 68669705972028) (.ostr 4) ⟨by decide +kernel, rfl⟩ ⟨by decide +kernel, rfl⟩ rfl (by as_aux_lemma => kernel_rfl)
  · rcases @pick Tab.empty ds13 c with ⟨p, hp, rfl⟩ | hc
    · simp only [ds13, List.mem_cons, List.not_mem_nil, or_false] at hp
      rcases hp with rfl | rfl
      · exact nat_case (la := []) (lb := nm13) (lc := []) sa sb sc (no _) (hb) (no _) rfl (by kernel_rfl) (by kernel_rfl) (.str 31 202189744697330995387852485397630371027294446829100397077902765524415570282) (.ostr 2) (.str 3 5646632) ⟨by decide +kernel, rfl⟩ rfl ⟨by decide +kernel, rfl⟩ (by as_aux_lemma => kernel_rfl)
      · exact nat_case (la := []) (lb := nm13) (lc := []) sa sb sc (no _) (hb) (no _) rfl (by kernel_rfl) (by kernel_rfl) (.str 31 202189744697330995387852485397630371027294446829100397077902765524415570282) (.ostr 2) (.str 21 125924534186164816246133852188561726513007718714408) ⟨by decide +kernel, rfl⟩ rfl ⟨by decide +kernel, rfl⟩ (by as_aux_lemma => kernel_rfl)
    · exact nat_case (la := []) (lb := nm13) (lc := ds13) sa sb sc (no _) (hb) (hc) rfl (by kernel_rfl) (by kernel_rfl) (.str 31 202189744697330995387852485397630371027294446829100397077902765524415570282) (.ostr 2) (.ostr 4) ⟨by decide +kernel, rfl⟩ rfl rfl (by as_aux_lemma => kernel_rfl)

def nm14 : List (Nat × Nat) := [(6, 68669705972028)]
def ds14 : List (Nat × Nat) := [(3, 5646632), (21, 125924534186164816246133852188561726513007718714408)]
theorem nat_14 {b c : ByteArray} (sb : b.size ≤ maxLen) (sc : c.size ≤ maxLen) : Fine #[.string (strOf 38 14569306542030247732875768419210667608278730874565438596096215620376147580735894642209743210), .string b, .string c] := by
  have sa : (strOf 38 14569306542030247732875768419210667608278730874565438596096215620376147580735894642209743210).size ≤ maxLen := by decide +kernel
  rcases @pick Tab.empty nm14 b with ⟨p, hp, rfl⟩ | hb
  · simp only [nm14, List.mem_cons, List.not_mem_nil, or_false] at hp
    subst hp
    · rcases @pick Tab.empty ds14 c with ⟨p, hp, rfl⟩ | hc
      · simp only [ds14, List.mem_cons, List.not_mem_nil, or_false] at hp
        rcases hp with rfl | rfl
        · exact nat_case (la := []) (lb := []) (lc := []) sa sb sc (no _) (no _) (no _) rfl (by kernel_rfl) (by kernel_rfl) (.str 38 14569306542030247732875768419210667608278730874565438596096215620376147580735894642209743210) (.str 6 68669705972028) (.str 3 5646632) ⟨by decide +kernel, rfl⟩ ⟨by decide +kernel, rfl⟩ ⟨by decide +kernel, rfl⟩ (by as_aux_lemma => kernel_rfl)
        · exact nat_case (la := []) (lb := []) (lc := []) sa sb sc (no _) (no _) (no _) rfl (by kernel_rfl) (by kernel_rfl) (.str 38 14569306542030247732875768419210667608278730874565438596096215620376147580735894642209743210) (.str 6 68669705972028) (.str 21 125924534186164816246133852188561726513007718714408) ⟨by decide +kernel, rfl⟩ ⟨by decide +kernel, rfl⟩ ⟨by decide +kernel, rfl⟩ (by as_aux_lemma => kernel_rfl)
      · exact nat_case (la := []) (lb := []) (lc := ds14) sa sb sc (no _) (no _) (hc) rfl (by kernel_rfl) (by kernel_rfl) (.str 38 14569306542030247732875768419210667608278730874565438596096215620376147580735894642209743210) (.str 6 68669705972028) (.ostr 4) ⟨by decide +kernel, rfl⟩ ⟨by decide +kernel, rfl⟩ rfl (by as_aux_lemma => kernel_rfl)
  · rcases @pick Tab.empty ds14 c with ⟨p, hp, rfl⟩ | hc
    · simp only [ds14, List.mem_cons, List.not_mem_nil, or_false] at hp
      rcases hp with rfl | rfl
      · exact nat_case (la := []) (lb := nm14) (lc := []) sa sb sc (no _) (hb) (no _) rfl (by kernel_rfl) (by kernel_rfl) (.str 38 14569306542030247732875768419210667608278730874565438596096215620376147580735894642209743210) (.ostr 2) (.str 3 5646632) ⟨by decide +kernel, rfl⟩ rfl ⟨by decide +kernel, rfl⟩ (by as_aux_lemma => kernel_rfl)
      · exact nat_case (la := []) (lb := nm14) (lc := []) sa sb sc (no _) (hb) (no _) rfl (by kernel_rfl) (by kernel_rfl) (.str 38 14569306542030247732875768419210667608278730874565438596096215620376147580735894642209743210) (.ostr 2) (.str 21 125924534186164816246133852188561726513007718714408) ⟨by decide +kernel, rfl⟩ rfl ⟨by decide +kernel, rfl⟩ (by as_aux_lemma => kernel_rfl)
    · exact nat_case (la := []) (lb := nm14) (lc := ds14) sa sb sc (no _) (hb) (hc) rfl (by kernel_rfl) (by kernel_rfl) (.str 38 14569306542030247732875768419210667608278730874565438596096215620376147580735894642209743210) (.ostr 2) (.ostr 4) ⟨by decide +kernel, rfl⟩ rfl rfl (by as_aux_lemma => kernel_rfl)

def nm15 : List (Nat × Nat) := [(6, 68669705972028)]
def ds15 : List (Nat × Nat) := [(3, 5646632), (21, 125924534186164816246133852188561726513007718714408)]
theorem nat_15 {b c : ByteArray} (sb : b.size ≤ maxLen) (sc : c.size ≤ maxLen) : Fine #[.string (strOf 22 42815343838886881203639546329033052610660173325164906), .string b, .string c] := by
  have sa : (strOf 22 42815343838886881203639546329033052610660173325164906).size ≤ maxLen := by decide +kernel
  rcases @pick Tab.empty nm15 b with ⟨p, hp, rfl⟩ | hb
  · simp only [nm15, List.mem_cons, List.not_mem_nil, or_false] at hp
    subst hp
    · rcases @pick Tab.empty ds15 c with ⟨p, hp, rfl⟩ | hc
      · simp only [ds15, List.mem_cons, List.not_mem_nil, or_false] at hp
        rcases hp with rfl | rfl
        · exact nat_case (la := []) (lb := []) (lc := []) sa sb sc (no _) (no _) (no _) rfl (by kernel_rfl) (by kernel_rfl) (.str 22 42815343838886881203639546329033052610660173325164906) (.str 6 68669705972028) (.str 3 5646632) ⟨by decide +kernel, rfl⟩ ⟨by decide +kernel, rfl⟩ ⟨by decide +kernel, rfl⟩ (by as_aux_lemma => kernel_rfl)
        · exact nat_case (la := []) (lb := []) (lc := []) sa sb sc (no _) (no _) (no _) rfl (by kernel_rfl) (by kernel_rfl) (.str 22 42815343838886881203639546329033052610660173325164906) (.str 6 68669705972028) (.str 21 125924534186164816246133852188561726513007718714408) ⟨by decide +kernel, rfl⟩ ⟨by decide +kernel, rfl⟩ ⟨by decide +kernel, rfl⟩ (by as_aux_lemma => kernel_rfl)
      · exact nat_case (la := []) (lb := []) (lc := ds15) sa sb sc (no _) (no _) (hc) rfl (by kernel_rfl) (by kernel_rfl) (.str 22 42815343838886881203639546329033052610660173325164906) (.str 6 68669705972028) (.ostr 4) ⟨by decide +kernel, rfl⟩ ⟨by decide +kernel, rfl⟩ rfl (by as_aux_lemma => kernel_rfl)
  · rcases @pick Tab.empty ds15 c with ⟨p, hp, rfl⟩ | hc
    · simp only [ds15, List.mem_cons, List.not_mem_nil, or_false] at hp
      rcases hp with rfl | rfl
      · exact nat_case (la := []) (lb := nm15) (lc := []) sa sb sc (no _) (hb) (no _) rfl (by kernel_rfl) (by kernel_rfl) (.str 22 42815343838886881203639546329033052610660173325164906) (.ostr 2) (.str 3 5646632) ⟨by decide +kernel, rfl⟩ rfl ⟨by decide +kernel, rfl⟩ (by as_aux_lemma => kernel_rfl)
      · exact nat_case (la := []) (lb := nm15) (lc := []) sa sb sc (no _) (hb) (no _) rfl (by kernel_rfl) (by kernel_rfl) (.str 22 42815343838886881203639546329033052610660173325164906) (.ostr 2) (.str 21 125924534186164816246133852188561726513007718714408) ⟨by decide +kernel, rfl⟩ rfl ⟨by decide +kernel, rfl⟩ (by as_aux_lemma => kernel_rfl)
    · exact nat_case (la := []) (lb := nm15) (lc := ds15) sa sb sc (no _) (hb) (hc) rfl (by kernel_rfl) (by kernel_rfl) (.str 22 42815343838886881203639546329033052610660173325164906) (.ostr 2) (.ostr 4) ⟨by decide +kernel, rfl⟩ rfl rfl (by as_aux_lemma => kernel_rfl)

def nm16 : List (Nat × Nat) := [(6, 68669705972028)]
def ds16 : List (Nat × Nat) := [(3, 5646632), (21, 125924534186164816246133852188561726513007718714408)]
theorem nat_16 {b c : ByteArray} (sb : b.size ≤ maxLen) (sc : c.size ≤ maxLen) : Fine #[.string (strOf 21 167247436870678459232146883126634948762985622298986), .string b, .string c] := by
  have sa : (strOf 21 167247436870678459232146883126634948762985622298986).size ≤ maxLen := by decide +kernel
  rcases @pick Tab.empty nm16 b with ⟨p, hp, rfl⟩ | hb
  · simp only [nm16, List.mem_cons, List.not_mem_nil, or_false] at hp
    subst hp
    · rcases @pick Tab.empty ds16 c with ⟨p, hp, rfl⟩ | hc
      · simp only [ds16, List.mem_cons, List.not_mem_nil, or_false] at hp
        rcases hp with rfl | rfl
        · exact nat_case (la := []) (lb := []) (lc := []) sa sb sc (no _) (no _) (no _) rfl (by kernel_rfl) (by kernel_rfl) (.str 21 167247436870678459232146883126634948762985622298986) (.str 6 68669705972028) (.str 3 5646632) ⟨by decide +kernel, rfl⟩ ⟨by decide +kernel, rfl⟩ ⟨by decide +kernel, rfl⟩ (by as_aux_lemma => kernel_rfl)
        · exact nat_case (la := []) (lb := []) (lc := []) sa sb sc (no _) (no _) (no _) rfl (by kernel_rfl) (by kernel_rfl) (.str 21 167247436870678459232146883126634948762985622298986) (.str 6 68669705972028) (.str 21 125924534186164816246133852188561726513007718714408) ⟨by decide +kernel, rfl⟩ ⟨by decide +kernel, rfl⟩ ⟨by decide +kernel, rfl⟩ (by as_aux_lemma => kernel_rfl)
      · exact nat_case (la := []) (lb := []) (lc := ds16) sa sb sc (no _) (no _) (hc) rfl (by kernel_rfl) (by kernel_rfl) (.str 21 167247436870678459232146883126634948762985622298986) (.str 6 68669705972028) (.ostr 4) ⟨by decide +kernel, rfl⟩ ⟨by decide +kernel, rfl⟩ rfl (by as_aux_lemma => kernel_rfl)
  · rcases @pick Tab.empty ds16 c with ⟨p, hp, rfl⟩ | hc
    · simp only [ds16, List.mem_cons, List.not_mem_nil, or_false] at hp
      rcases hp with rfl | rfl
      · exact nat_case (la := []) (lb := nm16) (lc := []) sa sb sc (no _) (hb) (no _) rfl (by kernel_rfl) (by kernel_rfl) (.str 21 167247436870678459232146883126634948762985622298986) (.ostr 2) (.str 3 5646632) ⟨by decide +kernel, rfl⟩ rfl ⟨by decide +kernel, rfl⟩ (by as_aux_lemma => kernel_rfl)
      · exact nat_case (la := []) (lb := nm16) (lc := []) sa sb sc (no _) (hb) (no _) rfl (by kernel_rfl) (by kernel_rfl) (.str 21 167247436870678459232146883126634948762985622298986) (.ostr 2) (.str 21 125924534186164816246133852188561726513007718714408) ⟨by decide +kernel, rfl⟩ rfl ⟨by decide +kernel, rfl⟩ (by as_aux_lemma => kernel_rfl)
    · exact nat_case (la := []) (lb := nm16) (lc := ds16) sa sb sc (no _) (hb) (hc) rfl (by kernel_rfl) (by kernel_rfl) (.str 21 167247436870678459232146883126634948762985622298986) (.ostr 2) (.ostr 4) ⟨by decide +kernel, rfl⟩ rfl rfl (by as_aux_lemma => kernel_rfl)

def nm17 : List (Nat × Nat) := [(6, 68669705972028)]
def ds17 : List (Nat × Nat) := [(3, 5646632), (21, 125924534186164816246133852188561726513007718714408)]
theorem nat_17 {b c : ByteArray} (sb : b.size ≤ maxLen) (sc : c.size ≤ maxLen) : Fine #[.string (strOf 26 183890501555012814945400634590948384637649511452497603397575018), .string b, .string c] := by
  have sa : (strOf 26 183890501555012814945400634590948384637649511452497603397575018).size ≤ maxLen := by decide +kernel
  rcases @pick Tab.empty nm17 b with ⟨p, hp, rfl⟩ | hb
  · simp only [nm17, List.mem_cons, List.not_mem_nil, or_false] at hp
    subst hp
    · rcases @pick Tab.empty ds17 c with ⟨p, hp, rfl⟩ | hc
      · simp only [ds17, List.mem_cons, List.not_mem_nil, or_false] at hp
        rcases hp with rfl | rfl
        · exact nat_case (la := []) (lb := []) (lc := []) sa sb sc (no _) (no _) (no _) rfl (by kernel_rfl) (by kernel_rfl) (.str 26 183890501555012814945400634590948384637649511452497603397575018) (.str 6 68669705972028) (.str 3 5646632) ⟨by decide +kernel, rfl⟩ ⟨by decide +kernel, rfl⟩ ⟨by decide +kernel, rfl⟩ (by as_aux_lemma => kernel_rfl)
        · exact nat_case (la := []) (lb := []) (lc := []) sa sb sc (no _) (no _) (no _) rfl (by kernel_rfl) (by kernel_rfl) (.str 26 183890501555012814945400634590948384637649511452497603397575018) (.str 6 68669705972028) (.str 21 125924534186164816246133852188561726513007718714408) ⟨by decide +kernel, rfl⟩ ⟨by decide +kernel, rfl⟩ ⟨by decide +kernel, rfl⟩ (by as_aux_lemma => kernel_rfl)
      · exact nat_case (la := []) (lb := []) (lc := ds17) sa sb sc (no _) (no _) (hc) rfl (by kernel_rfl) (by kernel_rfl) (.str 26 183890501555012814945400634590948384637649511452497603397575018) (.str 6 68669705972028) (.ostr 4) ⟨by decide +kernel, rfl⟩ ⟨by decide +kernel, rfl⟩ rfl (by as_aux_lemma => kernel_rfl)
  · rcases @pick Tab.empty ds17 c with ⟨p, hp, rfl⟩ | hc
    · simp only [ds17, List.mem_cons, List.not_mem_nil, or_false] at hp
      rcases hp with rfl | rfl
      · exact nat_case (la := []) (lb := nm17) (lc := []) sa sb sc (no _) (hb) (no _) rfl (by kernel_rfl) (by kernel_rfl) (.str 26 183890501555012814945400634590948384637649511452497603397575018) (.ostr 2) (.str 3 5646632) ⟨by decide +kernel, rfl⟩ rfl ⟨by decide +kernel, rfl⟩ (by as_aux_lemma => kernel_rfl)
      · exact nat_case (la := []) (lb := nm17) (lc := []) sa sb sc (no _) (hb) (no _) rfl (by kernel_rfl) (by kernel_rfl) (.str 26 183890501555012814945400634590948384637649511452497603397575018) (.ostr 2) (.str 21 125924534186164816246133852188561726513007718714408) ⟨by decide +kernel, rfl⟩ rfl ⟨by decide +kernel, rfl⟩ (by as_aux_lemma => kernel_rfl)
    · exact nat_case (la := []) (lb := nm17) (lc := ds17) sa sb sc (no _) (hb) (hc) rfl (by kernel_rfl) (by kernel_rfl) (.str 26 183890501555012814945400634590948384637649511452497603397575018) (.ostr 2) (.ostr 4) ⟨by decide +kernel, rfl⟩ rfl rfl (by as_aux_lemma => kernel_rfl)

def nm18 : List (Nat × Nat) := [(6, 68669705972028)]
def ds18 : List (Nat × Nat) := [(3, 5646632), (21, 125924534186164816246133852188561726513007718714408)]
theorem nat_18 {b c : ByteArray} (sb : b.size ≤ maxLen) (sc : c.size ≤ maxLen) : Fine #[.string (strOf 27 47075968398083285027902446257440240237115773113246055769402925418), .string b, .string c] := by
  have sa : (strOf 27 47075968398083285027902446257440240237115773113246055769402925418).size ≤ maxLen := by decide +kernel
  rcases @pick Tab.empty nm18 b with ⟨p, hp, rfl⟩ | hb
  · simp only [nm18, List.mem_cons, List.not_mem_nil, or_false] at hp
    subst hp
    · rcases @pick Tab.empty ds18 c with ⟨p, hp, rfl⟩ | hc
      · simp only [ds18, List.mem_cons, List.not_mem_nil, or_false] at hp
        rcases hp with rfl | rfl
        · exact nat_case (la := []) (lb := []) (lc := []) sa sb sc (no _) (no _) (no _) rfl (by kernel_rfl) (by kernel_rfl) (.str 27 47075968398083285027902446257440240237115773113246055769402925418) (.str 6 68669705972028) (.str 3 5646632) ⟨by decide +kernel, rfl⟩ ⟨by decide +kernel, rfl⟩ ⟨by decide +kernel, rfl⟩ (by as_aux_lemma => kernel_rfl)
        · exact nat_case (la := []) (lb := []) (lc := []) sa sb sc (no _) (no _) (no _) rfl (by kernel_rfl) (by kernel_rfl) (.str 27 47075968398083285027902446257440240237115773113246055769402925418) (.str 6 68669705972028) (.str 21 125924534186164816246133852188561726513007718714408) ⟨by decide +kernel, rfl⟩ ⟨by decide +kernel, rfl⟩ ⟨by decide +kernel, rfl⟩ (by as_aux_lemma => kernel_rfl)
      · exact nat_case (la := []) (lb := []) (lc := ds18) sa sb sc (no _) (no _) (hc) rfl (by kernel_rfl) (by kernel_rfl) (.str 27 47075968398083285027902446257440240237115773113246055769402925418) (.str 6 68669705972028) (.ostr 4) ⟨by decide +kernel, rfl⟩ ⟨by decide +kernel, rfl⟩ rfl (by as_aux_lemma => kernel_rfl)
  · rcases @pick Tab.empty ds18 c with ⟨p, hp, rfl⟩ | hc
    · simp only [ds18, List.mem_cons, List.not_mem_nil, or_false] at hp
      rcases hp with rfl | rfl
      · exact nat_case (la := []) (lb := nm18) (lc := []) sa sb sc (no _) (hb) (no _) rfl (by kernel_rfl) (by kernel_rfl) (.str 27 47075968398083285027902446257440240237115773113246055769402925418) (.ostr 2) (.str 3 5646632) ⟨by decide +kernel, rfl⟩ rfl ⟨by decide +kernel, rfl⟩ (by as_aux_lemma => kernel_rfl)
      · exact nat_case (la := []) (lb := nm18) (lc := []) sa sb sc (no _) (hb) (no _) rfl (by kernel_rfl) (by kernel_rfl) (.str 27 47075968398083285027902446257440240237115773113246055769402925418) (.ostr 2) (.str 21 125924534186164816246133852188561726513007718714408) ⟨by decide +kernel, rfl⟩ rfl ⟨by decide +kernel, rfl⟩ (by as_aux_lemma => kernel_rfl)
    · exact nat_case (la := []) (lb := nm18) (lc := ds18) sa sb sc (no _) (hb) (hc) rfl (by kernel_rfl) (by kernel_rfl) (.str 27 47075968398083285027902446257440240237115773113246055769402925418) (.ostr 2) (.ostr 4) ⟨by decide +kernel, rfl⟩ rfl rfl (by as_aux_lemma => kernel_rfl)

def nm19 : List (Nat × Nat) := [(6, 68669705972028)]
def ds19 : List (Nat × Nat) := [(3, 5646632), (21, 125924534186164816246133852188561726513007718714408)]
theorem nat_19 {b c : ByteArray} (sb : b.size ≤ maxLen) (sc : c.size ≤ maxLen) : Fine #[.string (strOf 28 12051447909910759173808661238977857107111767888823090726697178653034), .string b, .string c] := by
  have sa : (strOf 28 12051447909910759173808661238977857107111767888823090726697178653034).size ≤ maxLen := by decide +kernel
  rcases @pick Tab.empty nm19 b with ⟨p, hp, rfl⟩ | hb
  · simp only [nm19, List.mem_cons, List.not_mem_nil, or_false] at hp
    subst hp
    · rcases @pick Tab.empty ds19 c with ⟨p, hp, rfl⟩ | hc
      · simp only [ds19, List.mem_cons, List.not_mem_nil, or_false] at hp
        rcases hp with rfl | rfl
        · exact nat_case (la := []) (lb := []) (lc := []) sa sb sc (no _) (no _) (no _) rfl (by kernel_rfl) (by kernel_rfl) (.str 28 12051447909910759173808661238977857107111767888823090726697178653034) (.str 6 68669705972028) (.str 3 5646632) ⟨by decide +kernel, rfl⟩ ⟨by decide +kernel, rfl⟩ ⟨by decide +kernel, rfl⟩ (by as_aux_lemma => kernel_rfl)
        · exact nat_case (la := []) (lb := []) (lc := []) sa sb sc (no _) (no _) (no _) rfl (by kernel_rfl) (by kernel_rfl) (.str 28 12051447909910759173808661238977857107111767888823090726697178653034) (.str 6 68669705972028) (.str 21 125924534186164816246133852188561726513007718714408) ⟨by decide +kernel, rfl⟩ ⟨by decide +kernel, rfl⟩ ⟨by decide +kernel, rfl⟩ (by as_aux_lemma => kernel_rfl)
      · exact nat_case (la := []) (lb := []) (lc := ds19) sa sb sc (no _) (no _) (hc) rfl (by kernel_rfl) (by kernel_rfl) (.str 28 12051447909910759173808661238977857107111767888823090726697178653034) (.str 6 68669705972028) (.ostr 4) ⟨by decide +kernel, rfl⟩ ⟨by decide +kernel, rfl⟩ rfl (by as_aux_lemma => kernel_rfl)
  · rcases @pick Tab.empty ds19 c with ⟨p, hp, rfl⟩ | hc
    · simp only [ds19, List.mem_cons, List.not_mem_nil, or_false] at hp
      rcases hp with rfl | rfl
      · exact nat_case (la := []) (lb := nm19) (lc := []) sa sb sc (no _) (hb) (no _) rfl (by kernel_rfl) (by kernel_rfl) (.str 28 12051447909910759173808661238977857107111767888823090726697178653034) (.ostr 2) (.str 3 5646632) ⟨by decide +kernel, rfl⟩ rfl ⟨by decide +kernel, rfl⟩ (by as_aux_lemma => kernel_rfl)
      · exact nat_case (la := []) (lb := nm19) (lc := []) sa sb sc (no _) (hb) (no _) rfl (by kernel_rfl) (by kernel_rfl) (.str 28 12051447909910759173808661238977857107111767888823090726697178653034) (.ostr 2) (.str 21 125924534186164816246133852188561726513007718714408) ⟨by decide +kernel, rfl⟩ rfl ⟨by decide +kernel, rfl⟩ (by as_aux_lemma => kernel_rfl)
    · exact nat_case (la := []) (lb := nm19) (lc := ds19) sa sb sc (no _) (hb) (hc) rfl (by kernel_rfl) (by kernel_rfl) (.str 28 12051447909910759173808661238977857107111767888823090726697178653034) (.ostr 2) (.ostr 4) ⟨by decide +kernel, rfl⟩ rfl rfl (by as_aux_lemma => kernel_rfl)

def nm20 : List (Nat × Nat) := [(6, 68669705972028)]
def ds20 : List (Nat × Nat) := [(3, 5646632), (21, 125924534186164816246133852188561726513007718714408)]
theorem nat_20 {b c : ByteArray} (sb : b.size ≤ maxLen) (sc : c.size ≤ maxLen) : Fine #[.string (strOf 29 3085170664936786167588614718972924591866388410301586339335837578584426), .string b, .string c] := by
  have sa : (strOf 29 3085170664936786167588614718972924591866388410301586339335837578584426).size ≤ maxLen := by decide +kernel
  rcases @pick Tab.empty nm20 b with ⟨p, hp, rfl⟩ | hb
  · simp only [nm20, List.mem_cons, List.not_mem_nil, or_false] at hp
    subst hp
    · rcases @pick Tab.empty ds20 c with ⟨p, hp, rfl⟩ | hc
      · simp only [ds20, List.mem_cons, List.not_mem_nil, or_false] at hp
        rcases hp with rfl | rfl
        · exact nat_case (la := []) (lb := []) (lc := []) sa sb sc (no _) (no _) (no _) rfl (by kernel_rfl) (by kernel_rfl) (.str 29 3085170664936786167588614718972924591866388410301586339335837578584426) (.str 6 68669705972028) (.str 3 5646632) ⟨by decide +kernel, rfl⟩ ⟨by decide +kernel, rfl⟩ ⟨by decide +kernel, rfl⟩ (by as_aux_lemma => kernel_rfl)
        · exact nat_case (la := []) (lb := []) (lc := []) sa sb sc (no _) (no _) (no _) rfl (by kernel_rfl) (by kernel_rfl) (.str 29 3085170664936786167588614718972924591866388410301586339335837578584426) (.str 6 68669705972028) (.str 21 125924534186164816246133852188561726513007718714408) ⟨by decide +kernel, rfl⟩ ⟨by decide +kernel, rfl⟩ ⟨by decide +kernel, rfl⟩ (by as_aux_lemma => kernel_rfl)
      · exact nat_case (la := []) (lb := []) (lc := ds20) sa sb sc (no _) (no _) (hc) rfl (by kernel_rfl) (by kernel_rfl) (.str 29 3085170664936786167588614718972924591866388410301586339335837578584426) (.str 6 68669705972028) (.ostr 4) ⟨by decide +kernel, rfl⟩ ⟨by decide +kernel, rfl⟩ rfl (by as_aux_lemma => kernel_rfl)
  · rcases @pick Tab.empty ds20 c with ⟨p, hp, rfl⟩ | hc
    · simp only [ds20, List.mem_cons, List.not_mem_nil, or_false] at hp
      rcases hp with rfl | rfl
      · exact nat_case (la := []) (lb := nm20) (lc := []) sa sb sc (no _) (hb) (no _) rfl (by kernel_rfl) (by kernel_rfl) (.str 29 3085170664936786167588614718972924591866388410301586339335837578584426) (.ostr 2) (.str 3 5646632) ⟨by decide +kernel, rfl⟩ rfl ⟨by decide +kernel, rfl⟩ (by as_aux_lemma => kernel_rfl)
      · exact nat_case (la := []) (lb := nm20) (lc := []) sa sb sc (no _) (hb) (no _) rfl (by kernel_rfl) (by kernel_rfl) (.str 29 3085170664936786167588614718972924591866388410301586339335837578584426) (.ostr 2) (.str 21 125924534186164816246133852188561726513007718714408) ⟨by decide +kernel, rfl⟩ rfl ⟨by decide +kernel, rfl⟩ (by as_aux_lemma => kernel_rfl)
    · exact nat_case (la := []) (lb := nm20) (lc := ds20) sa sb sc (no _) (hb) (hc) rfl (by kernel_rfl) (by kernel_rfl) (.str 29 3085170664936786167588614718972924591866388410301586339335837578584426) (.ostr 2) (.ostr 4) ⟨by decide +kernel, rfl⟩ rfl rfl (by as_aux_lemma => kernel_rfl)

def nm21 : List (Nat × Nat) := [(6, 68669705972028)]
def ds21 : List (Nat × Nat) := [(3, 5646632), (21, 125924534186164816246133852188561726513007718714408)]
theorem nat_21 {b c : ByteArray} (sb : b.size ≤ maxLen) (sc : c.size ≤ maxLen) : Fine #[.string (strOf 28 12051447909910278778317482300033197087305720853520054876288643916138), .string b, .string c] := by
  have sa : (strOf 28 12051447909910278778317482300033197087305720853520054876288643916138).size ≤ maxLen := by decide +kernel
  rcases @pick Tab.empty nm21 b with ⟨p, hp, rfl⟩ | hb
  · simp only [nm21, List.mem_cons, List.not_mem_nil, or_false] at hp
    subst hp
    · rcases @pick Tab.empty ds21 c with ⟨p, hp, rfl⟩ | hc
      · simp only [ds21, List.mem_cons, List.not_mem_nil, or_false] at hp
        rcases hp with rfl | rfl
        · exact nat_case (la := []) (lb := []) (lc := []) sa sb sc (no _) (no _) (no _) rfl (by kernel_rfl) (by kernel_rfl) (.str 28 12051447909910278778317482300033197087305720853520054876288643916138) (.str 6 68669705972028) (.str 3 5646632) ⟨by decide +kernel, rfl⟩ ⟨by decide +kernel, rfl⟩ ⟨by decide +kernel, rfl⟩ (by as_aux_lemma => kernel_rfl)
        · exact nat_case (la := []) (lb := []) (lc := []) sa sb sc (no _) (no _) (no _) rfl (by kernel_rfl) (by kernel_rfl) (.str 28 12051447909910278778317482300033197087305720853520054876288643916138) (.str 6 68669705972028) (.str 21 125924534186164816246133852188561726513007718714408) ⟨by decide +kernel, rfl⟩ ⟨by decide +kernel, rfl⟩ ⟨by decide +kernel, rfl⟩ (by as_aux_lemma => kernel_rfl)
      · exact nat_case (la := []) (lb := []) (lc := ds21) sa sb sc (no _) (no _) (hc) rfl (by kernel_rfl) (by kernel_rfl) (.str 28 12051447909910278778317482300033197087305720853520054876288643916138) (.str 6 68669705972028) (.ostr 4) ⟨by decide +kernel, rfl⟩ ⟨by decide +kernel, rfl⟩ rfl (by as_aux_lemma => kernel_rfl)
  · rcases @pick Tab.empty ds21 c with ⟨p, hp, rfl⟩ | hc
    · simp only [ds21, List.mem_cons, List.not_mem_nil, or_false] at hp
      rcases hp with rfl | rfl
      · exact nat_case (la := []) (lb := nm21) (lc := []) sa sb sc (no _) (hb) (no _) rfl (by kernel_rfl) (by kernel_rfl) (.str 28 12051447909910278778317482300033197087305720853520054876288643916138) (.ostr 2) (.str 3 5646632) ⟨by decide +kernel, rfl⟩ rfl ⟨by decide +kernel, rfl⟩ (by as_aux_lemma => kernel_rfl)
      · exact nat_case (la := []) (lb := nm21) (lc := []) sa sb sc (no _) (hb) (no _) rfl (by kernel_rfl) (by kernel_rfl) (.str 28 12051447909910278778317482300033197087305720853520054876288643916138) (.ostr 2) (.str 21 125924534186164816246133852188561726513007718714408) ⟨by decide +kernel, rfl⟩ rfl ⟨by decide +kernel, rfl⟩ (by as_aux_lemma => kernel_rfl)
    · exact nat_case (la := []) (lb := nm21) (lc := ds21) sa sb sc (no _) (hb) (hc) rfl (by kernel_rfl) (by kernel_rfl) (.str 28 12051447909910278778317482300033197087305720853520054876288643916138) (.ostr 2) (.ostr 4) ⟨by decide +kernel, rfl⟩ rfl rfl (by as_aux_lemma => kernel_rfl)

end Go.Proofs.Ytmeepibkgbgmhaa
