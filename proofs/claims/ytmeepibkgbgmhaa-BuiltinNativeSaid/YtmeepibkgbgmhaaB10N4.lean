/-
  What the law BuiltinNative answers at known classes.
-/
import Derived.Test.YtmeepibkgbgmhaaB10Na
set_option maxHeartbeats 4000000
set_option linter.unusedVariables false
set_option maxRecDepth 1000000
namespace Go.Proofs.Ytmeepibkgbgmhaa
open Go.X Go.RowKit

def nm4 : List (Nat × Nat) := [(5, 500068610672), (7, 31081494762582640)]
def ds4 : List (Nat × Nat) := [(21, 125924534186164816246133852188561726513007718714408), (4, 1445546280), (4, 1445546536), (4, 1445544744), (4, 1445550632), (21, 125924535314876068507128442038675530910546422025256), (3, 5646632)]
theorem nat_4 {b c : ByteArray} (sb : b.size ≤ maxLen) (sc : c.size ≤ maxLen) : Fine #[.string (strOf 19 2439265639030268300842157990401791553877467498), .string b, .string c] := by
  have sa : (strOf 19 2439265639030268300842157990401791553877467498).size ≤ maxLen := by decide +kernel
  rcases @pick Tab.empty nm4 b with ⟨p, hp, rfl⟩ | hb
  · simp only [nm4, List.mem_cons, List.not_mem_nil, or_false] at hp
    rcases hp with rfl | rfl
    · rcases @pick Tab.empty ds4 c with ⟨p, hp, rfl⟩ | hc
      · simp only [ds4, List.mem_cons, List.not_mem_nil, or_false] at hp
        rcases hp with rfl | rfl | rfl | rfl | rfl | rfl | rfl
        · exact nat_case (la := []) (lb := []) (lc := []) sa sb sc (no _) (no _) (no _) rfl (by kernel_rfl) (by kernel_rfl) (.str 19 2439265639030268300842157990401791553877467498) (.str 5 500068610672) (.str 21 125924534186164816246133852188561726513007718714408) ⟨by decide +kernel, rfl⟩ ⟨by decide +kernel, rfl⟩ ⟨by decide +kernel, rfl⟩ (by as_aux_lemma => kernel_rfl)
        · exact nat_case (la := []) (lb := []) (lc := []) sa sb sc (no _) (no _) (no _) rfl (by kernel_rfl) (by kernel_rfl) (.str 19 2439265639030268300842157990401791553877467498) (.str 5 500068610672) (.str 4 1445546280) ⟨by decide +kernel, rfl⟩ ⟨by decide +kernel, rfl⟩ ⟨by decide +kernel, rfl⟩ (by as_aux_lemma => kernel_rfl)
        · exact nat_case (la := []) (lb := []) (lc := []) sa sb sc (no _) (no _) (no _) rfl (by kernel_rfl) (by kernel_rfl) (.str 19 2439265639030268300842157990401791553877467498) (.str 5 500068610672) (.str 4 1445546536) ⟨by decide +kernel, rfl⟩ ⟨by decide +kernel, rfl⟩ ⟨by decide +kernel, rfl⟩ (by as_aux_lemma => kernel_rfl)
        · exact nat_case (la := []) (lb := []) (lc := []) sa sb sc (no _) (no _) (no _) rfl (by kernel_rfl) (by kernel_rfl) (.str 19 2439265639030268300842157990401791553877467498) (.str 5 500068610672) (.str 4 1445544744) ⟨by decide +kernel, rfl⟩ ⟨by decide +kernel, rfl⟩ ⟨by decide +kernel, rfl⟩ (by as_aux_lemma => kernel_rfl)
        · exact nat_case (la := []) (lb := []) (lc := []) sa sb sc (no _) (no _) (no _) rfl (by kernel_rfl) (by kernel_rfl) (.str 19 2439265639030268300842157990401791553877467498) (.str 5 500068610672) (.str 4 1445550632) ⟨by decide +kernel, rfl⟩ ⟨by decide +kernel, rfl⟩ ⟨by decide +kernel, rfl⟩ (by as_aux_lemma => kernel_rfl)
        · exact nat_case (la := []) (lb := []) (lc := []) sa sb sc (no _) (no _) (no _) rfl (by kernel_rfl) (by kernel_rfl) (.str 19 2439265639030268300842157990401791553877467498) (.str 5 500068610672) (.str 21 125924535314876068507128442038675530910546422025256) ⟨by decide +kernel, rfl⟩ ⟨by decide +kernel, rfl⟩ ⟨by decide +kernel, rfl⟩ (by as_aux_lemma => kernel_rfl)
        · exact nat_case (la := []) (lb := []) (lc := []) sa sb sc (no _) (no _) (no _) rfl (by kernel_rfl) (by kernel_rfl) (.str 19 2439265639030268300842157990401791553877467498) (.str 5 500068610672) (.str 3 5646632) ⟨by decide +kernel, rfl⟩ ⟨by decide +kernel, rfl⟩ ⟨by decide +kernel, rfl⟩ (by as_aux_lemma => kernel_rfl)
      · exact nat_case (la := []) (lb := []) (lc := ds4) sa sb sc (no _) (no _) (hc) rfl (by kernel_rfl) (by kernel_rfl) (.str 19 2439265639030268300842157990401791553877467498) (.str 5 500068610672) (.ostr 4) ⟨by decide +kernel, rfl⟩ ⟨by decide +kernel, rfl⟩ rfl (by as_aux_lemma => kernel_rfl)
    · rcases @pick Tab.empty ds4 c with ⟨p, hp, rfl⟩ | hc
      · simp only [ds4, List.mem_cons, List.not_mem_nil, or_false] at hp
        rcases hp with rfl | rfl | rfl | rfl | rfl | rfl | rfl
        · exact nat_case (la := []) (lb := []) (lc := []) sa sb sc (no _) (no _) (no _) rfl (by kernel_rfl) (by kernel_rfl) (.str 19 2439265639030268300842157990401791553877467498) (.str 7 31081494762582640) (.str 21 125924534186164816246133852188561726513007718714408) ⟨by decide +kernel, rfl⟩ ⟨by decide +kernel, rfl⟩ ⟨by decide +kernel, rfl⟩ (by as_aux_lemma => kernel_rfl)
        · exact nat_case (la := []) (lb := []) (lc := []) sa sb sc (no _) (no _) (no _) rfl (by kernel_rfl) (by kernel_rfl) (.str 19 2439265639030268300842157990401791553877467498) (.str 7 31081494762582640) (.str 4 1445546280) ⟨by decide +kernel, rfl⟩ ⟨by decide +kernel, rfl⟩ ⟨by decide +kernel, rfl⟩ (by as_aux_lemma => kernel_rfl)
        · exact nat_case (la := []) (lb := []) (lc := []) sa sb sc (no _) (no _) (no _) rfl (by kernel_rfl) (by kernel_rfl) (.str 19 2439265639030268300842157990401791553877467498) (.str 7 31081494762582640) (.str 4 1445546536) ⟨by decide +kernel, rfl⟩ ⟨by decide +kernel, rfl⟩ ⟨by decide +kernel, rfl⟩ (by as_aux_lemma => kernel_rfl)
        · exact nat_case (la := []) (lb := []) (lc := []) sa sb sc (no _) (no _) (no _) rfl (by kernel_rfl) (by kernel_rfl) (.str 19 2439265639030268300842157990401791553877467498) (.str 7 31081494762582640) (.str 4 1445544744) ⟨by decide +kernel, rfl⟩ ⟨by decide +kernel, rfl⟩ ⟨by decide +kernel, rfl⟩ (by as_aux_lemma => kernel_rfl)
        · exact nat_case (la := []) (lb := []) (lc := []) sa sb sc (no _) (no _) (no _) rfl (by kernel_rfl) (by kernel_rfl) (.str 19 2439265639030268300842157990401791553877467498) (.str 7 31081494762582640) (.str 4 1445550632) ⟨by decide +kernel, rfl⟩ ⟨by decide +kernel, rfl⟩ ⟨by decide +kernel, rfl⟩ (by as_aux_lemma => kernel_rfl)
        · exact nat_case (la := []) (lb := []) (lc := []) sa sb sc (no _) (no _) (no _) rfl (by kernel_rfl) (by kernel_rfl) (.str 19 2439265639030268300842157990401791553877467498) (.str 7 31081494762582640) (.str 21 125924535314876068507128442038675530910546422025256) ⟨by decide +kernel, rfl⟩ ⟨by decide +kernel, rfl⟩ ⟨by decide +kernel, rfl⟩ (by as_aux_lemma => kernel_rfl)
        · exact nat_case (la := []) (lb := []) (lc := []) sa sb sc (no _) (no _) (no _) rfl (by kernel_rfl) (by kernel_rfl) (.str 19 2439265639030268300842157990401791553877467498) (.str 7 31081494762582640) (.str 3 5646632) ⟨by decide +kernel, rfl⟩ ⟨by decide +kernel, rfl⟩ ⟨by decide +kernel, rfl⟩ (by as_aux_lemma => kernel_rfl)
      · exact nat_case (la := []) (lb := []) (lc := ds4) sa sb sc (no _) (no _) (hc) rfl (by kernel_rfl) (by kernel_rfl) (.str 19 2439265639030268300842157990401791553877467498) (.str 7 31081494762582640) (.ostr 4) ⟨by decide +kernel, rfl⟩ ⟨by decide +kernel, rfl⟩ rfl (by as_aux_lemma => kernel_rfl)
  · rcases @pick Tab.empty ds4 c with ⟨p, hp, rfl⟩ | hc
    · simp only [ds4, List.mem_cons, List.not_mem_nil, or_false] at hp
      rcases hp with rfl | rfl | rfl | rfl | rfl | rfl | rfl
      · exact nat_case (la := []) (lb := nm4) (lc := []) sa sb sc (no _) (hb) (no _) rfl (by kernel_rfl) (by kernel_rfl) (.str 19 2439265639030268300842157990401791553877467498) (.ostr 2) (.str 21 125924534186164816246133852188561726513007718714408) ⟨by decide +kernel, rfl⟩ rfl ⟨by decide +kernel, rfl⟩ (by as_aux_lemma => kernel_rfl)
      · exact nat_case (la := []) (lb := nm4) (lc := []) sa sb sc (no _) (hb) (no _) rfl (by kernel_rfl) (by kernel_rfl) (.str 19 2439265639030268300842157990401791553877467498) (.ostr 2) (.str 4 1445546280) ⟨by decide +kernel, rfl⟩ rfl ⟨by decide +kernel, rfl⟩ (by as_aux_lemma => kernel_rfl)
      · exact nat_case (la := []) (lb := nm4) (lc := []) sa sb sc (no _) (hb) (no _) rfl (by kernel_rfl) (by kernel_rfl) (.str 19 2439265639030268300842157990401791553877467498) (.ostr 2) (.str 4 1445546536) ⟨by decide +kernel, rfl⟩ rfl ⟨by decide +kernel, rfl⟩ (by as_aux_lemma => kernel_rfl)
      · exact nat_case (la := []) (lb := nm4) (lc := []) sa sb sc (no _) (hb) (no _) rfl (by kernel_rfl) (by kernel_rfl) (.str 19 2439265639030268300842157990401791553877467498) (.ostr 2) (.str 4 1445544744) ⟨by decide +kernel, rfl⟩ rfl ⟨by decide +kernel, rfl⟩ (by as_aux_lemma => kernel_rfl)
      · exact nat_case (la := []) (lb := nm4) (lc := []) sa sb sc (no _) (hb) (no _) rfl (by kernel_rfl) (by kernel_rfl) (.str 19 2439265639030268300842157990401791553877467498) (.ostr 2) (.str 4 1445550632) ⟨by decide +kernel, rfl⟩ rfl ⟨by decide +kernel, rfl⟩ (by as_aux_lemma => kernel_rfl)
      · exact nat_case (la := []) (lb := nm4) (lc := []) sa sb sc (no _) (hb) (no _) rfl (by kernel_rfl) (by kernel_rfl) (.str 19 2439265639030268300842157990401791553877467498) (.ostr 2) (.str 21 125924535314876068507128442038675530910546422025256) ⟨by decide +kernel, rfl⟩ rfl ⟨by decide +kernel, rfl⟩ (by as_aux_lemma => kernel_rfl)
      · exact nat_case (la := []) (lb := nm4) (lc := []) sa sb sc (no _) (hb) (no _) rfl (by kernel_rfl) (by kernel_rfl) (.str 19 2439265639030268300842157990401791553877467498) (.ostr 2) (.str 3 5646632) ⟨by decide +kernel, rfl⟩ rfl ⟨by decide +kernel, rfl⟩ (by as_aux_lemma => kernel_rfl)
    · exact nat_case (la := []) (lb := nm4) (lc := ds4) sa sb sc (no _) (hb) (hc) rfl (by kernel_rfl) (by kernel_rfl) (.str 19 2439265639030268300842157990401791553877467498) (.ostr 2) (.ostr 4) ⟨by decide +kernel, rfl⟩ rfl rfl (by as_aux_lemma => kernel_rfl)

def nm5 : List (Nat × Nat) := [(6, 68669705972028), (10, 478866051492549179499879)]
def ds5 : List (Nat × Nat) := [(3, 5646632), (21, 125924534186164816246133852188561726513007718714408), (20, 339137050467292191589805048747422779071890467112)]
theorem nat_5 {b c : ByteArray} (sb : b.size ≤ maxLen) (sc : c.size ≤ maxLen) : Fine #[.string (strOf 19 2261816869159440624969593107871851903301607786), .string b, .string c] := by
  have sa : (strOf 19 2261816869159440624969593107871851903301607786).size ≤ maxLen := by decide +kernel
  rcases @pick Tab.empty nm5 b with ⟨p, hp, rfl⟩ | hb
  · simp only [nm5, List.mem_cons, List.not_mem_nil, or_false] at hp
    rcases hp with rfl | rfl
    · rcases @pick Tab.empty ds5 c with ⟨p, hp, rfl⟩ | hc
      · simp only [ds5, List.mem_cons, List.not_mem_nil, or_false] at hp
        rcases hp with rfl | rfl | rfl
        · exact nat_case (la := []) (lb := []) (lc := []) sa sb sc (no _) (no _) (no _) rfl (by kernel_rfl) (by kernel_rfl) (.str 19 2261816869159440624969593107871851903301607786) (.str 6 68669705972028) (.str 3 5646632) ⟨by decide +kernel, rfl⟩ ⟨by decide +kernel, rfl⟩ ⟨by decide +kernel, rfl⟩ (by as_aux_lemma => kernel_rfl)
        · exact nat_case (la := []) (lb := []) (lc := []) sa sb sc (no _) (no _) (no _) rfl (by kernel_rfl) (by kernel_rfl) (.str 19 2261816869159440624969593107871851903301607786) (.str 6 68669705972028) (.str 21 125924534186164816246133852188561726513007718714408) ⟨by decide +kernel, rfl⟩ ⟨by decide +kernel, rfl⟩ ⟨by decide +kernel, rfl⟩ (by as_aux_lemma => kernel_rfl)
        · exact nat_case (la := []) (lb := []) (lc := []) sa sb sc (no _) (no _) (no _) rfl (by kernel_rfl) (by kernel_rfl) (.str 19 2261816869159440624969593107871851903301607786) (.str 6 68669705972028) (.str 20 339137050467292191589805048747422779071890467112) ⟨by decide +kernel, rfl⟩ ⟨by decide +kernel, rfl⟩ ⟨by decide +kernel, rfl⟩ (by as_aux_lemma => kernel_rfl)
      · exact nat_case (la := []) (lb := []) (lc := ds5) sa sb sc (no _) (no _) (hc) rfl (by kernel_rfl) (by kernel_rfl) (.str 19 2261816869159440624969593107871851903301607786) (.str 6 68669705972028) (.ostr 4) ⟨by decide +kernel, rfl⟩ ⟨by decide +kernel, rfl⟩ rfl (by as_aux_lemma => kernel_rfl)
    · rcases @pick Tab.empty ds5 c with ⟨p, hp, rfl⟩ | hc
      · simp only [ds5, List.mem_cons, List.not_mem_nil, or_false] at hp
        rcases hp with rfl | rfl | rfl
        · exact nat_case (la := []) (lb := []) (lc := []) sa sb sc (no _) (no _) (no _) rfl (by kernel_rfl) (by kernel_rfl) (.str 19 2261816869159440624969593107871851903301607786) (.str 10 478866051492549179499879) (.str 3 5646632) ⟨by decide +kernel, rfl⟩ ⟨by decide +kernel, rfl⟩ ⟨by decide +kernel, rfl⟩ (by as_aux_lemma => kernel_rfl)
        · exact nat_case (la := []) (lb := []) (lc := []) sa sb sc (no _) (no _) (no _) rfl (by kernel_rfl) (by kernel_rfl) (.str 19 2261816869159440624969593107871851903301607786) (.str 10 478866051492549179499879) (.str 21 125924534186164816246133852188561726513007718714408) ⟨by decide +kernel, rfl⟩ ⟨by decide +kernel, rfl⟩ ⟨by decide +kernel, rfl⟩ (by as_aux_lemma => kernel_rfl)
        · exact nat_case (la := []) (lb := []) (lc := []) sa sb sc (no _) (no _) (no _) rfl (by kernel_rfl) (by kernel_rfl) (.str 19 2261816869159440624969593107871851903301607786) (.str 10 478866051492549179499879) (.str 20 339137050467292191589805048747422779071890467112) ⟨by decide +kernel, rfl⟩ ⟨by decide +kernel, rfl⟩ ⟨by decide +kernel, rfl⟩ (by as_aux_lemma => kernel_rfl)
      · exact nat_case (la := []) (lb := []) (lc := ds5) sa sb sc (no _) (no _) (hc) rfl (by kernel_rfl) (by kernel_rfl) (.str 19 2261816869159440624969593107871851903301607786) (.str 10 478866051492549179499879) (.ostr 4) ⟨by decide +kernel, rfl⟩ ⟨by decide +kernel, rfl⟩ rfl (by as_aux_lemma => kernel_rfl)
  · rcases @pick Tab.empty ds5 c with ⟨p, hp, rfl⟩ | hc
    · simp only [ds5, List.mem_cons, List.not_mem_nil, or_false] at hp
      rcases hp with rfl | rfl | rfl
      · exact nat_case (la := []) (lb := nm5) (lc := []) sa sb sc (no _) (hb) (no _) rfl (by kernel_rfl) (by kernel_rfl) (.str 19 2261816869159440624969593107871851903301607786) (.ostr 2) (.str 3 5646632) ⟨by decide +kernel, rfl⟩ rfl ⟨by decide +kernel, rfl⟩ (by as_aux_lemma => kernel_rfl)
      · exact nat_case (la := []) (lb := nm5) (lc := []) sa sb sc (no _) (hb) (no _) rfl (by kernel_rfl) (by kernel_rfl) (.str 19 2261816869159440624969593107871851903301607786) (.ostr 2) (.str 21 125924534186164816246133852188561726513007718714408) ⟨by decide +kernel, rfl⟩ rfl ⟨by decide +kernel, rfl⟩ (by as_aux_lemma => kernel_rfl)
      · exact nat_case (la := []) (lb := nm5) (lc := []) sa sb sc (no _) (hb) (no _) rfl (by kernel_rfl) (by kernel_rfl) (.str 19 2261816869159440624969593107871851903301607786) (.ostr 2) (.str 20 339137050467292191589805048747422779071890467112) ⟨by decide +kernel, rfl⟩ rfl ⟨by decide +kernel, rfl⟩ (by as_aux_lemma => kernel_rfl)
    · exact nat_case (la := []) (lb := nm5) (lc := ds5) sa sb sc (no _) (hb) (hc) rfl (by kernel_rfl) (by kernel_rfl) (.str 19 2261816869159440624969593107871851903301607786) (.ostr 2) (.ostr 4) ⟨by decide +kernel, rfl⟩ rfl rfl (by as_aux_lemma => kernel_rfl)

def nm6 : List (Nat × Nat) := [(6, 68669705972028)]
def ds6 : List (Nat × Nat) := [(3, 5646632), (21, 125924534186164816246133852188561726513007718714408)]
theorem nat_6 {b c : ByteArray} (sb : b.size ≤ maxLen) (sc : c.size ≤ maxLen) : Fine #[.string (strOf 19 2462787319999361794871408518597065734545105258), .string b, .string c] := by
  have sa : (strOf 19 2462787319999361794871408518597065734545105258).size ≤ maxLen := by decide +kernel
  rcases @pick Tab.empty nm6 b with ⟨p, hp, rfl⟩ | hb
  · simp only [nm6, List.mem_cons, List.not_mem_nil, or_false] at hp
    subst hp
    · rcases @pick Tab.empty ds6 c with ⟨p, hp, rfl⟩ | hc
      · simp only [ds6, List.mem_cons, List.not_mem_nil, or_false] at hp
        rcases hp with rfl | rfl
        · exact nat_case (la := []) (lb := []) (lc := []) sa sb sc (no _) (no _) (no _) rfl (by kernel_rfl) (by kernel_rfl) (.str 19 2462787319999361794871408518597065734545105258) (.str 6 68669705972028) (.str 3 5646632) ⟨by decide +kernel, rfl⟩ ⟨by decide +kernel, rfl⟩ ⟨by decide +kernel, rfl⟩ (by as_aux_lemma => kernel_rfl)
        · exact nat_case (la := []) (lb := []) (lc := []) sa sb sc (no _) (no _) (no _) rfl (by kernel_rfl) (by kernel_rfl) (.str 19 2462787319999361794871408518597065734545105258) (.str 6 68669705972028) (.str 21 125924534186164816246133852188561726513007718714408) ⟨by decide +kernel, rfl⟩ ⟨by decide +kernel, rfl⟩ ⟨by decide +kernel, rfl⟩ (by as_aux_lemma => kernel_rfl)
      · exact nat_case (la := []) (lb := []) (lc := ds6) sa sb sc (no _) (no _) (hc) rfl (by kernel_rfl) (by kernel_rfl) (.str 19 2462787319999361794871408518597065734545105258) (.str 6 68669705972028) (.ostr 4) ⟨by decide +kernel, rfl⟩ ⟨by decide +kernel, rfl⟩ rfl (by as_aux_lemma => kernel_rfl)
  · rcases @pick Tab.empty ds6 c with ⟨p, hp, rfl⟩ | hc
    · simp only [ds6, List.mem_cons, List.not_mem_nil, or_false] at hp
      rcases hp with rfl | rfl
      · exact nat_case (la := []) (lb := nm6) (lc := []) sa sb sc (no _) (hb) (no _) rfl (by kernel_rfl) (by kernel_rfl) (.str 19 2462787319999361794871408518597065734545105258) (.ostr 2) (.str 3 5646632) ⟨by decide +kernel, rfl⟩ rfl ⟨by decide +kernel, rfl⟩ (by as_aux_lemma => kernel_rfl)
      · exact nat_case (la := []) (lb := nm6) (lc := []) sa sb sc (no _) (hb) (no _) rfl (by kernel_rfl) (by kernel_rfl) (.str 19 2462787319999361794871408518597065734545105258) (.ostr 2) (.str 21 125924534186164816246133852188561726513007718714408) ⟨by decide +kernel, rfl⟩ rfl ⟨by decide +kernel, rfl⟩ (by as_aux_lemma => kernel_rfl)
    · exact nat_case (la := []) (lb := nm6) (lc := ds6) sa sb sc (no _) (hb) (hc) rfl (by kernel_rfl) (by kernel_rfl) (.str 19 2462787319999361794871408518597065734545105258) (.ostr 2) (.ostr 4) ⟨by decide +kernel, rfl⟩ rfl rfl (by as_aux_lemma => kernel_rfl)

def nm7 : List (Nat × Nat) := [(6, 68669705972028)]
def ds7 : List (Nat × Nat) := [(3, 5646632), (21, 125924534186164816246133852188561726513007718714408)]
theorem nat_7 {b c : ByteArray} (sb : b.size ≤ maxLen) (sc : c.size ≤ maxLen) : Fine #[.string (strOf 15 594182256714433171583859471190221162), .string b, .string c] := by
  have sa : (strOf 15 594182256714433171583859471190221162).size ≤ maxLen := by decide +kernel
  rcases @pick Tab.empty nm7 b with ⟨p, hp, rfl⟩ | hb
  · simp only [nm7, List.mem_cons, List.not_mem_nil, or_false] at hp
    subst hp
    · rcases @pick Tab.empty ds7 c with ⟨p, hp, rfl⟩ | hc
      · simp only [ds7, List.mem_cons, List.not_mem_nil, or_false] at hp
        rcases hp with rfl | rfl
        · exact nat_case (la := []) (lb := []) (lc := []) sa sb sc (no _) (no _) (no _) rfl (by kernel_rfl) (by kernel_rfl) (.str 15 594182256714433171583859471190221162) (.str 6 68669705972028) (.str 3 5646632) ⟨by decide +kernel, rfl⟩ ⟨by decide +kernel, rfl⟩ ⟨by decide +kernel, rfl⟩ (by as_aux_lemma => kernel_rfl)
        · exact nat_case (la := []) (lb := []) (lc := []) sa sb sc (no _) (no _) (no _) rfl (by kernel_rfl) (by kernel_rfl) (.str 15 594182256714433171583859471190221162) (.str 6 68669705972028) (.str 21 125924534186164816246133852188561726513007718714408) ⟨by decide +kernel, rfl⟩ ⟨by decide +kernel, rfl⟩ ⟨by decide +kernel, rfl⟩ (by as_aux_lemma => kernel_rfl)
      · exact nat_case (la := []) (lb := []) (lc := ds7) sa sb sc (no _) (no _) (hc) rfl (by kernel_rfl) (by kernel_rfl) (.str 15 594182256714433171583859471190221162) (.str 6 68669705972028) (.ostr 4) ⟨by decide +kernel, rfl⟩ ⟨by decide +kernel, rfl⟩ rfl (by as_aux_lemma => kernel_rfl)
  · rcases @pick Tab.empty ds7 c with ⟨p, hp, rfl⟩ | hc
    · simp only [ds7, List.mem_cons, List.not_mem_nil, or_false] at hp
      rcases hp with rfl | rfl
      · exact nat_case (la := []) (lb := nm7) (lc := []) sa sb sc (no _) (hb) (no _) rfl (by kernel_rfl) (by kernel_rfl) (.str 15 594182256714433171583859471190221162) (.ostr 2) (.str 3 5646632) ⟨by decide +kernel, rfl⟩ rfl ⟨by decide +kernel, rfl⟩ (by as_aux_lemma => kernel_rfl)
      · exact nat_case (la := []) (lb := nm7) (lc := []) sa sb sc (no _) (hb) (no _) rfl (by kernel_rfl) (by kernel_rfl) (.str 15 594182256714433171583859471190221162) (.ostr 2) (.str 21 125924534186164816246133852188561726513007718714408) ⟨by decide +kernel, rfl⟩ rfl ⟨by decide +kernel, rfl⟩ (by as_aux_lemma => kernel_rfl)
    · exact nat_case (la := []) (lb := nm7) (lc := ds7) sa sb sc (no _) (hb) (hc) rfl (by kernel_rfl) (by kernel_rfl) (.str 15 594182256714433171583859471190221162) (.ostr 2) (.ostr 4) ⟨by decide +kernel, rfl⟩ rfl rfl (by as_aux_lemma => kernel_rfl)

def nm8 : List (Nat × Nat) := [(6, 68669705972028)]
def ds8 : List (Nat × Nat) := [(3, 5646632), (21, 125924534186164816246133852188561726513007718714408)]
theorem nat_8 {b c : ByteArray} (sb : b.size ≤ maxLen) (sc : c.size ≤ maxLen) : Fine #[.string (strOf 26 177462528906270532328520934635542489792491443287338843928682858), .string b, .string c] := by
  have sa : (strOf 26 177462528906270532328520934635542489792491443287338843928682858).size ≤ maxLen := by decide +kernel
  rcases @pick Tab.empty nm8 b with ⟨p, hp, rfl⟩ | hb
  · simp only [nm8, List.mem_cons, List.not_mem_nil, or_false] at hp
    subst hp
    · rcases @pick Tab.empty ds8 c with ⟨p, hp, rfl⟩ | hc
      · simp only [ds8, List.mem_cons, List.not_mem_nil, or_false] at hp
        rcases hp with rfl | rfl
        · exact nat_case (la := []) (lb := []) (lc := []) sa sb sc (no _) (no _) (no _) rfl (by kernel_rfl) (by kernel_rfl) (.str 26 177462528906270532328520934635542489792491443287338843928682858) (.str 6 68669705972028) (.str 3 5646632) ⟨by decide +kernel, rfl⟩ ⟨by decide +kernel, rfl⟩ ⟨by decide +kernel, rfl⟩ (by as_aux_lemma => kernel_rfl)
        · exact nat_case (la := []) (lb := []) (lc := []) sa sb sc (no _) (no _) (no _) rfl (by kernel_rfl) (by kernel_rfl) (.str 26 177462528906270532328520934635542489792491443287338843928682858) (.str 6 68669705972028) (.str 21 125924534186164816246133852188561726513007718714408) ⟨by decide +kernel, rfl⟩ ⟨by decide +kernel, rfl⟩ ⟨by decide +kernel, rfl⟩ (by as_aux_lemma => kernel_rfl)
      · exact nat_case (la := []) (lb := []) (lc := ds8) sa sb sc (no _) (no _) (hc) rfl (by kernel_rfl) (by kernel_rfl) (.str 26 177462528906270532328520934635542489792491443287338843928682858) (.str 6 68669705972028) (.ostr 4) ⟨by decide +kernel, rfl⟩ ⟨by decide +kernel, rfl⟩ rfl (by as_aux_lemma => kernel_rfl)
  · rcases @pick Tab.empty ds8 c with ⟨p, hp, rfl⟩ | hc
    · simp only [ds8, List.mem_cons, List.not_mem_nil, or_false] at hp
      rcases hp with rfl | rfl
      · exact nat_case (la := []) (lb := nm8) (lc := []) sa sb sc (no _) (hb) (no _) rfl (by kernel_rfl) (by kernel_rfl) (.str 26 177462528906270532328520934635542489792491443287338843928682858) (.ostr 2) (.str 3 5646632) ⟨by decide +kernel, rfl⟩ rfl ⟨by decide +kernel, rfl⟩ (by as_aux_lemma => kernel_rfl)
      · exact nat_case (la := []) (lb := nm8) (lc := []) sa sb sc (no _) (hb) (no _) rfl (by kernel_rfl) (by kernel_rfl) (.str 26 177462528906270532328520934635542489792491443287338843928682858) (.ostr 2) (.str 21 125924534186164816246133852188561726513007718714408) ⟨by decide +kernel, rfl⟩ rfl ⟨by decide +kernel, rfl⟩ (by as_aux_lemma => kernel_rfl)
    · exact nat_case (la := []) (lb := nm8) (lc := ds8) sa sb sc (no _) (hb) (hc) rfl (by kernel_rfl) (by kernel_rfl) (.str 26 177462528906270532328520934635542489792491443287338843928682858) (.ostr 2) (.ostr 4) ⟨by decide +kernel, rfl⟩ rfl rfl (by as_aux_lemma => kernel_rfl)

def nm9 : List (Nat × Nat) := [(6, 68669705972028)]
def ds9 : List (Nat × Nat) := [(3, 5646632), (21, 125924534186164816246133852188561726513007718714408)]
theorem nat_9 {b c : ByteArray} (sb : b.size ≤ maxLen) (sc : c.size ≤ maxLen) : Fine #[.string (strOf 35 838043098472257520366253329360822735706660890049674080341799799296269125818196058474), .string b, .string c] := by
  have sa : (strOf 35 838043098472257520366253329360822735706660890049674080341799799296269125818196058474).size ≤ maxLen := by decide +kernel
  rcases @pick Tab.empty nm9 b with ⟨p, hp, rfl⟩ | hb
  · simp only [nm9, List.mem_cons, List.not_mem_nil, or_false] at hp
    subst hp
    · rcases @pick Tab.empty ds9 c with ⟨p, hp, rfl⟩ | hc
      · simp only [ds9, List.mem_cons, List.not_mem_nil, or_false] at hp
        rcases hp with rfl | rfl
        · exact nat_case (la := []) (lb := []) (lc := []) sa sb sc (no _) (no _) (no _) rfl (by kernel_rfl) (by kernel_rfl) (.str 35 838043098472257520366253329360822735706660890049674080341799799296269125818196058474) (.str 6 68669705972028) (.str 3 5646632) ⟨by decide +kernel, rfl⟩ ⟨by decide +kernel, rfl⟩ ⟨by decide +kernel, rfl⟩ (by as_aux_lemma => kernel_rfl)
        · exact nat_case (la := []) (lb := []) (lc := []) sa sb sc (no _) (no _) (no _) rfl (by kernel_rfl) (by kernel_rfl) (.str 35 838043098472257520366253329360822735706660890049674080341799799296269125818196058474) (.str 6 68669705972028) (.str 21 125924534186164816246133852188561726513007718714408) ⟨by decide +kernel, rfl⟩ ⟨by decide +kernel, rfl⟩ ⟨by decide +kernel, rfl⟩ (by as_aux_lemma => kernel_rfl)
      · exact nat_case (la := []) (lb := []) (lc := ds9) sa sb sc (no _) (no _) (hc) rfl (by kernel_rfl) (by kernel_rfl) (.str 35 838043098472257520366253329360822735706660890049674080341799799296269125818196058474) (.str 6 68669705972028) (.ostr 4) ⟨by decide +kernel, rfl⟩ ⟨by decide +kernel, rfl⟩ rfl (by as_aux_lemma => kernel_rfl)
  · rcases @pick Tab.empty ds9 c with ⟨p, hp, rfl⟩ | hc
    · simp only [ds9, List.mem_cons, List.not_mem_nil, or_false] at hp
      rcases hp with rfl | rfl
      · exact nat_case (la := []) (lb := nm9) (lc := []) sa sb sc (no _) (hb) (no _) rfl (by kernel_rfl) (by kernel_rfl) (.str 35 838043098472257520366253329360822735706660890049674080341799799296269125818196058474) (.ostr 2) (.str 3 5646632) ⟨by decide +kernel, rfl⟩ rfl ⟨by decide +kernel, rfl⟩ (by as_aux_lemma => kernel_rfl)
      · exact nat_case (la := []) (lb := nm9) (lc := []) sa sb sc (no _) (hb) (no _) rfl (by kernel_rfl) (by kernel_rfl) (.str 35 838043098472257520366253329360822735706660890049674080341799799296269125818196058474) (.ostr 2) (.str 21 125924534186164816246133852188561726513007718714408) ⟨by decide +kernel, rfl⟩ rfl ⟨by decide +kernel, rfl⟩ (by as_aux_lemma => kernel_rfl)
    · exact nat_case (la := []) (lb := nm9) (lc := ds9) sa sb sc (no _) (hb) (hc) rfl (by kernel_rfl) (by kernel_rfl) (.str 35 838043098472257520366253329360822735706660890049674080341799799296269125818196058474) (.ostr 2) (.ostr 4) ⟨by decide +kernel, rfl⟩ rfl rfl (by as_aux_lemma => kernel_rfl)

def nm10 : List (Nat × Nat) := [(6, 68669705972028)]
def ds10 : List (Nat × Nat) := [(3, 5646632), (21, 125924534186164816246133852188561726513007718714408)]
theorem nat_10 {b c : ByteArray} (sb : b.size ≤ maxLen) (sc : c.size ≤ maxLen) : Fine #[.string (strOf 26 183890501555036136351903328603364899342229922045770665733546346), .string b, .string c] := by
  have sa : (strOf 26 183890501555036136351903328603364899342229922045770665733546346).size ≤ maxLen := by decide +kernel
  rcases @pick Tab.empty nm10 b with ⟨p, hp, rfl⟩ | hb
  · simp only [nm10, List.mem_cons, List.not_mem_nil, or_false] at hp
    subst hp
    · rcases @pick Tab.empty ds10 c with ⟨p, hp, rfl⟩ | hc
      · simp only [ds10, List.mem_cons, List.not_mem_nil, or_false] at hp
        rcases hp with rfl | rfl
        · exact nat_case (la := []) (lb := []) (lc := []) sa sb sc (no _) (no _) (no _) rfl (by kernel_rfl) (by kernel_rfl) (.str 26 183890501555036136351903328603364899342229922045770665733546346) (.str 6 68669705972028) (.str 3 5646632) ⟨by decide +kernel, rfl⟩ ⟨by decide +kernel, rfl⟩ ⟨by decide +kernel, rfl⟩ (by as_aux_lemma => kernel_rfl)
        · exact nat_case (la := []) (lb := []) (lc := []) sa sb sc (no _) (no _) (no _) rfl (by kernel_rfl) (by kernel_rfl) (.str 26 183890501555036136351903328603364899342229922045770665733546346) (.str 6 68669705972028) (.str 21 125924534186164816246133852188561726513007718714408) ⟨by decide +kernel, rfl⟩ ⟨by decide +kernel, rfl⟩ ⟨by decide +kernel, rfl⟩ (by as_aux_lemma => kernel_rfl)
      · exact nat_case (la := []) (lb := []) (lc := ds10) sa sb sc (no _) (no _) (hc) rfl (by kernel_rfl) (by kernel_rfl) (.str 26 183890501555036136351903328603364899342229922045770665733546346) (.str 6 68669705972028) (.ostr 4) ⟨by decide +kernel, rfl⟩ ⟨by decide +kernel, rfl⟩ rfl (by as_aux_lemma => kernel_rfl)
  · rcases @pick Tab.empty ds10 c with ⟨p, hp, rfl⟩ | hc
    · simp only [ds10, List.mem_cons, List.not_mem_nil, or_false] at hp
      rcases hp with rfl | rfl
      · exact nat_case (la := []) (lb := nm10) (lc := []) sa sb sc (no _) (hb) (no _) rfl (by kernel_rfl) (by kernel_rfl) (.str 26 183890501555036136351903328603364899342229922045770665733546346) (.ostr 2) (.str 3 5646632) ⟨by decide +kernel, rfl⟩ rfl ⟨by decide +kernel, rfl⟩ (by as_aux_lemma => kernel_rfl)
      · exact nat_case (la := []) (lb := nm10) (lc := []) sa sb sc (no _) (hb) (no _) rfl (by kernel_rfl) (by kernel_rfl) (.str 26 183890501555036136351903328603364899342229922045770665733546346) (.ostr 2) (.str 21 125924534186164816246133852188561726513007718714408) ⟨by decide +kernel, rfl⟩ rfl ⟨by decide +kernel, rfl⟩ (by as_aux_lemma => kernel_rfl)
    · exact nat_case (la := []) (lb := nm10) (lc := ds10) sa sb sc (no _) (hb) (hc) rfl (by kernel_rfl) (by kernel_rfl) (.str 26 183890501555036136351903328603364899342229922045770665733546346) (.ostr 2) (.ostr 4) ⟨by decide +kernel, rfl⟩ rfl rfl (by as_aux_lemma => kernel_rfl)

end Go.Proofs.Ytmeepibkgbgmhaa
