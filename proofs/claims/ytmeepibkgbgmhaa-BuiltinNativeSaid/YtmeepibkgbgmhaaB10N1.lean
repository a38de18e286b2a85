/-
  What the law BuiltinNative answers at known classes.
-/
import Derived.Test.YtmeepibkgbgmhaaB10Na
set_option maxHeartbeats 4000000
set_option linter.unusedVariables false
set_option maxRecDepth 1000000
namespace Go.Proofs.Ytmeepibkgbgmhaa
open Go.X Go.RowKit

def nm0 : List (Nat × Nat) := [(6, 68669705972028), (6, 126909328748901), (8, 7453010373643562868)]
def ds0 : List (Nat × Nat) := [(3, 5646632), (21, 131770541864199680179943181369540662989170152197160), (20, 339137050467292191589805048747422779071890467112)]
theorem nat_0 {b c : ByteArray} (sb : b.size ≤ maxLen) (sc : c.size ≤ maxLen) : Fine #[.string (strOf 16 154706541852025644484233205990057992554), .string b, .string c] := by
  have sa : (strOf 16 154706541852025644484233205990057992554).size ≤ maxLen := by decide +kernel
  rcases @pick Tab.empty nm0 b with ⟨p, hp, rfl⟩ | hb
  · simp only [nm0, List.mem_cons, List.not_mem_nil, or_false] at hp
    rcases hp with rfl | rfl | rfl
    · rcases @pick Tab.empty ds0 c with ⟨p, hp, rfl⟩ | hc
      · simp only [ds0, List.mem_cons, List.not_mem_nil, or_false] at hp
        rcases hp with rfl | rfl | rfl
        · exact nat_case (la := []) (lb := []) (lc := []) sa sb sc (no _) (no _) (no _) rfl (by kernel_rfl) (by kernel_rfl) (.str 16 154706541852025644484233205990057992554) (.str 6 68669705972028) (.str 3 5646632) ⟨by decide +kernel, rfl⟩ ⟨by decide +kernel, rfl⟩ ⟨by decide +kernel, rfl⟩ (by as_aux_lemma => kernel_rfl)
        · exact nat_case (la := []) (lb := []) (lc := []) sa sb sc (no _) (no _) (no _) rfl (by kernel_rfl) (by kernel_rfl) (.str 16 154706541852025644484233205990057992554) (.str 6 68669705972028) (.str 21 131770541864199680179943181369540662989170152197160) ⟨by decide +kernel, rfl⟩ ⟨by decide +kernel, rfl⟩ ⟨by decide +kernel, rfl⟩ (by as_aux_lemma => kernel_rfl)
        · exact nat_case (la := []) (lb := []) (lc := []) sa sb sc (no _) (no _) (no _) rfl (by kernel_rfl) (by kernel_rfl) (.str 16 154706541852025644484233205990057992554) (.str 6 68669705972028) (.str 20 339137050467292191589805048747422779071890467112) ⟨by decide +kernel, rfl⟩ ⟨by decide +kernel, rfl⟩ ⟨by decide +kernel, rfl⟩ (by as_aux_lemma => kernel_rfl)
      · exact nat_case (la := []) (lb := []) (lc := ds0) sa sb sc (no _) (no _) (hc) rfl (by kernel_rfl) (by kernel_rfl) (.str 16 154706541852025644484233205990057992554) (.str 6 68669705972028) (.ostr 4) ⟨by decide +kernel, rfl⟩ ⟨by decide +kernel, rfl⟩ rfl (by as_aux_lemma => kernel_rfl)
    · rcases @pick Tab.empty ds0 c with ⟨p, hp, rfl⟩ | hc
      · simp only [ds0, List.mem_cons, List.not_mem_nil, or_false] at hp
        rcases hp with rfl | rfl | rfl
        · exact nat_case (la := []) (lb := []) (lc := []) sa sb sc (no _) (no _) (no _) rfl (by kernel_rfl) (by kernel_rfl) (.str 16 154706541852025644484233205990057992554) (.str 6 126909328748901) (.str 3 5646632) ⟨by decide +kernel, rfl⟩ ⟨by decide +kernel, rfl⟩ ⟨by decide +kernel, rfl⟩ (by as_aux_lemma => kernel_rfl)
        · exact nat_case (la := []) (lb := []) (lc := []) sa sb sc (no _) (no _) (no _) rfl (by kernel_rfl) (by kernel_rfl) (.str 16 154706541852025644484233205990057992554) (.str 6 126909328748901) (.str 21 131770541864199680179943181369540662989170152197160) ⟨by decide +kernel, rfl⟩ ⟨by decide +kernel, rfl⟩ ⟨by decide +kernel, rfl⟩ (by as_aux_lemma => kernel_rfl)
        · exact nat_case (la := []) (lb := []) (lc := []) sa sb sc (no _) (no _) (no _) rfl (by kernel_rfl) (by kernel_rfl) (.str 16 154706541852025644484233205990057992554) (.str 6 126909328748901) (.str 20 339137050467292191589805048747422779071890467112) ⟨by decide +kernel, rfl⟩ ⟨by decide +kernel, rfl⟩ ⟨by decide +kernel, rfl⟩ (by as_aux_lemma => kernel_rfl)
      · exact nat_case (la := []) (lb := []) (lc := ds0) sa sb sc (no _) (no _) (hc) rfl (by kernel_rfl) (by kernel_rfl) (.str 16 154706541852025644484233205990057992554) (.str 6 126909328748901) (.ostr 4) ⟨by decide +kernel, rfl⟩ ⟨by decide +kernel, rfl⟩ rfl (by as_aux_lemma => kernel_rfl)
    · rcases @pick Tab.empty ds0 c with ⟨p, hp, rfl⟩ | hc
      · simp only [ds0, List.mem_cons, List.not_mem_nil, or_false] at hp
        rcases hp with rfl | rfl | rfl
        · exact nat_case (la := []) (lb := []) (lc := []) sa sb sc (no _) (no _) (no _) rfl (by kernel_rfl) (by kernel_rfl) (.str 16 154706541852025644484233205990057992554) (.str 8 7453010373643562868) (.str 3 5646632) ⟨by decide +kernel, rfl⟩ ⟨by decide +kernel, rfl⟩ ⟨by decide +kernel, rfl⟩ (by as_aux_lemma => kernel_rfl)
        · exact nat_case (la := []) (lb := []) (lc := []) sa sb sc (no _) (no _) (no _) rfl (by kernel_rfl) (by kernel_rfl) (.str 16 154706541852025644484233205990057992554) (.str 8 7453010373643562868) (.str 21 131770541864199680179943181369540662989170152197160) ⟨by decide +kernel, rfl⟩ ⟨by decide +kernel, rfl⟩ ⟨by decide +kernel, rfl⟩ (by as_aux_lemma => kernel_rfl)
        · exact nat_case (la := []) (lb := []) (lc := []) sa sb sc (no _) (no _) (no _) rfl (by kernel_rfl) (by kernel_rfl) (.str 16 154706541852025644484233205990057992554) (.str 8 7453010373643562868) (.str 20 339137050467292191589805048747422779071890467112) ⟨by decide +kernel, rfl⟩ ⟨by decide +kernel, rfl⟩ ⟨by decide +kernel, rfl⟩ (by as_aux_lemma => kernel_rfl)
      · exact nat_case (la := []) (lb := []) (lc := ds0) sa sb sc (no _) (no _) (hc) rfl (by kernel_rfl) (by kernel_rfl) (.str 16 154706541852025644484233205990057992554) (.str 8 7453010373643562868) (.ostr 4) ⟨by decide +kernel, rfl⟩ ⟨by decide +kernel, rfl⟩ rfl (by as_aux_lemma => kernel_rfl)
  · rcases @pick Tab.empty ds0 c with ⟨p, hp, rfl⟩ | hc
    · simp only [ds0, List.mem_cons, List.not_mem_nil, or_false] at hp
      rcases hp with rfl | rfl | rfl
      · exact nat_case (la := []) (lb := nm0) (lc := []) sa sb sc (no _) (hb) (no _) rfl (by kernel_rfl) (by kernel_rfl) (.str 16 154706541852025644484233205990057992554) (.ostr 2) (.str 3 5646632) ⟨by decide +kernel, rfl⟩ rfl ⟨by decide +kernel, rfl⟩ (by as_aux_lemma => kernel_rfl)
      · exact nat_case (la := []) (lb := nm0) (lc := []) sa sb sc (no _) (hb) (no _) rfl (by kernel_rfl) (by kernel_rfl) (.str 16 154706541852025644484233205990057992554) (.ostr 2) (.str 21 131770541864199680179943181369540662989170152197160) ⟨by decide +kernel, rfl⟩ rfl ⟨by decide +kernel, rfl⟩ (by as_aux_lemma => kernel_rfl)
      · exact nat_case (la := []) (lb := nm0) (lc := []) sa sb sc (no _) (hb) (no _) rfl (by kernel_rfl) (by kernel_rfl) (.str 16 154706541852025644484233205990057992554) (.ostr 2) (.str 20 339137050467292191589805048747422779071890467112) ⟨by decide +kernel, rfl⟩ rfl ⟨by decide +kernel, rfl⟩ (by as_aux_lemma => kernel_rfl)
    · exact nat_case (la := []) (lb := nm0) (lc := ds0) sa sb sc (no _) (hb) (hc) rfl (by kernel_rfl) (by kernel_rfl) (.str 16 154706541852025644484233205990057992554) (.ostr 2) (.ostr 4) ⟨by decide +kernel, rfl⟩ rfl rfl (by as_aux_lemma => kernel_rfl)

end Go.Proofs.Ytmeepibkgbgmhaa
