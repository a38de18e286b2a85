/-
  What the law BuiltinNative answers at known classes.
-/
import Derived.Test.YtmeepibkgbgmhaaB10Na
set_option maxHeartbeats 4000000
set_option linter.unusedVariables false
set_option maxRecDepth 1000000
namespace Go.Proofs.Ytmeepibkgbgmhaa
open Go.X Go.RowKit

def nm22 : List (Nat × Nat) := [(6, 68669705972028)]
def ds22 : List (Nat × Nat) := [(3, 5646632), (21, 125924534186164816246133852188561726513007718714408)]
theorem nat_22 {b c : ByteArray} (sb : b.size ≤ maxLen) (sc : c.size ≤ maxLen) : Fine #[.string (strOf 37 56911353679811531822920492603033782110087255578636309514658723732473720363105297718731114), .string b, .string c] := by
  have sa : (strOf 37 56911353679811531822920492603033782110087255578636309514658723732473720363105297718731114).size ≤ maxLen := by decide +kernel
  rcases @pick Tab.empty nm22 b with ⟨p, hp, rfl⟩ | hb
  · simp only [nm22, List.mem_cons, List.not_mem_nil, or_false] at hp
    subst hp
    · rcases @pick Tab.empty ds22 c with ⟨p, hp, rfl⟩ | hc
      · simp only [ds22, List.mem_cons, List.not_mem_nil, or_false] at hp
        rcases hp with rfl | rfl
        · exact nat_case (la := []) (lb := []) (lc := []) sa sb sc (no _) (no _) (no _) rfl (by kernel_rfl) (by kernel_rfl) (.str 37 56911353679811531822920492603033782110087255578636309514658723732473720363105297718731114) (.str 6 68669705972028) (.str 3 5646632) ⟨by decide +kernel, rfl⟩ ⟨by decide +kernel, rfl⟩ ⟨by decide +kernel, rfl⟩ (by as_aux_lemma => kernel_rfl)
        · exact nat_case (la := []) (lb := []) (lc := []) sa sb sc (no _) (no _) (no _) rfl (by kernel_rfl) (by kernel_rfl) (.str 37 56911353679811531822920492603033782110087255578636309514658723732473720363105297718731114) (.str 6 68669705972028) (.str 21 125924534186164816246133852188561726513007718714408) ⟨by decide +kernel, rfl⟩ ⟨by decide +kernel, rfl⟩ ⟨by decide +kernel, rfl⟩ (by as_aux_lemma => kernel_rfl)
      · exact nat_case (la := []) (lb := []) (lc := ds22) sa sb sc (no _) (no _) (hc) rfl (by kernel_rfl) (by kernel_rfl) (.str 37 56911353679811531822920492603033782110087255578636309514658723732473720363105297718731114) (.str 6 68669705972028) (.ostr 4) ⟨by decide +kernel, rfl⟩ ⟨by decide +kernel, rfl⟩ rfl (by as_aux_lemma => kernel_rfl)
  · rcases @pick Tab.empty ds22 c with ⟨p, hp, rfl⟩ | hc
    · simp only [ds22, List.mem_cons, List.not_mem_nil, or_false] at hp
      rcases hp with rfl | rfl
      · exact nat_case (la := []) (lb := nm22) (lc := []) sa sb sc (no _) (hb) (no _) rfl (by kernel_rfl) (by kernel_rfl) (.str 37 56911353679811531822920492603033782110087255578636309514658723732473720363105297718731114) (.ostr 2) (.str 3 5646632) ⟨by decide +kernel, rfl⟩ rfl ⟨by decide +kernel, rfl⟩ (by as_aux_lemma => kernel_rfl)
      · exact nat_case (la := []) (lb := nm22) (lc := []) sa sb sc (no _) (hb) (no _) rfl (by kernel_rfl) (by kernel_rfl) (.str 37 56911353679811531822920492603033782110087255578636309514658723732473720363105297718731114) (.ostr 2) (.str 21 125924534186164816246133852188561726513007718714408) ⟨by decide +kernel, rfl⟩ rfl ⟨by decide +kernel, rfl⟩ (by as_aux_lemma => kernel_rfl)
    · exact nat_case (la := []) (lb := nm22) (lc := ds22) sa sb sc (no _) (hb) (hc) rfl (by kernel_rfl) (by kernel_rfl) (.str 37 56911353679811531822920492603033782110087255578636309514658723732473720363105297718731114) (.ostr 2) (.ostr 4) ⟨by decide +kernel, rfl⟩ rfl rfl (by as_aux_lemma => kernel_rfl)

def nm23 : List (Nat × Nat) := [(6, 68669705972028)]
def ds23 : List (Nat × Nat) := [(3, 5646632), (21, 125924534186164816246133852188561726513007718714408)]
theorem nat_23 {b c : ByteArray} (sb : b.size ≤ maxLen) (sc : c.size ≤ maxLen) : Fine #[.string (strOf 28 12051447909911140811364177168575840195048631602135540194265359868266), .string b, .string c] := by
  have sa : (strOf 28 12051447909911140811364177168575840195048631602135540194265359868266).size ≤ maxLen := by decide +kernel
  rcases @pick Tab.empty nm23 b with ⟨p, hp, rfl⟩ | hb
  · simp only [nm23, List.mem_cons, List.not_mem_nil, or_false] at hp
    subst hp
    · rcases @pick Tab.empty ds23 c with ⟨p, hp, rfl⟩ | hc
      · simp only [ds23, List.mem_cons, List.not_mem_nil, or_false] at hp
        rcases hp with rfl | rfl
        · exact nat_case (la := []) (lb := []) (lc := []) sa sb sc (no _) (no _) (no _) rfl (by kernel_rfl) (by kernel_rfl) (.str 28 12051447909911140811364177168575840195048631602135540194265359868266) (.str 6 68669705972028) (.str 3 5646632) ⟨by decide +kernel, rfl⟩ ⟨by decide +kernel, rfl⟩ ⟨by decide +kernel, rfl⟩ (by as_aux_lemma => kernel_rfl)
        · exact nat_case (la := []) (lb := []) (lc := []) sa sb sc (no _) (no _) (no _) rfl (by kernel_rfl) (by kernel_rfl) (.str 28 12051447909911140811364177168575840195048631602135540194265359868266) (.str 6 68669705972028) (.str 21 125924534186164816246133852188561726513007718714408) ⟨by decide +kernel, rfl⟩ ⟨by decide +kernel, rfl⟩ ⟨by decide +kernel, rfl⟩ (by as_aux_lemma => kernel_rfl)
      · exact nat_case (la := []) (lb := []) (lc := ds23) sa sb sc (no _) (no _) (hc) rfl (by kernel_rfl) (by kernel_rfl) (.str 28 12051447909911140811364177168575840195048631602135540194265359868266) (.str 6 68669705972028) (.ostr 4) ⟨by decide +kernel, rfl⟩ ⟨by decide +kernel, rfl⟩ rfl (by as_aux_lemma => kernel_rfl)
  · rcases @pick Tab.empty ds23 c with ⟨p, hp, rfl⟩ | hc
    · simp only [ds23, List.mem_cons, List.not_mem_nil, or_false] at hp
      rcases hp with rfl | rfl
      · exact nat_case (la := []) (lb := nm23) (lc := []) sa sb sc (no _) (hb) (no _) rfl (by kernel_rfl) (by kernel_rfl) (.str 28 12051447909911140811364177168575840195048631602135540194265359868266) (.ostr 2) (.str 3 5646632) ⟨by decide +kernel, rfl⟩ rfl ⟨by decide +kernel, rfl⟩ (by as_aux_lemma => kernel_rfl)
      · exact nat_case (la := []) (lb := nm23) (lc := []) sa sb sc (no _) (hb) (no _) rfl (by kernel_rfl) (by kernel_rfl) (.str 28 12051447909911140811364177168575840195048631602135540194265359868266) (.ostr 2) (.str 21 125924534186164816246133852188561726513007718714408) ⟨by decide +kernel, rfl⟩ rfl ⟨by decide +kernel, rfl⟩ (by as_aux_lemma => kernel_rfl)
    · exact nat_case (la := []) (lb := nm23) (lc := ds23) sa sb sc (no _) (hb) (hc) rfl (by kernel_rfl) (by kernel_rfl) (.str 28 12051447909911140811364177168575840195048631602135540194265359868266) (.ostr 2) (.ostr 4) ⟨by decide +kernel, rfl⟩ rfl rfl (by as_aux_lemma => kernel_rfl)

def nm24 : List (Nat × Nat) := [(6, 68669705972028)]
def ds24 : List (Nat × Nat) := [(3, 5646632), (21, 125924534186164816246133852188561726513007718714408)]
theorem nat_24 {b c : ByteArray} (sb : b.size ≤ maxLen) (sc : c.size ≤ maxLen) : Fine #[.string (strOf 26 183890501555043540957095622503328518117729969598634276033028458), .string b, .string c] := by
  have sa : (strOf 26 183890501555043540957095622503328518117729969598634276033028458).size ≤ maxLen := by decide +kernel
  rcases @pick Tab.empty nm24 b with ⟨p, hp, rfl⟩ | hb
  · simp only [nm24, List.mem_cons, List.not_mem_nil, or_false] at hp
    subst hp
    · rcases @pick Tab.empty ds24 c with ⟨p, hp, rfl⟩ | hc
      · simp only [ds24, List.mem_cons, List.not_mem_nil, or_false] at hp
        rcases hp with rfl | rfl
        · exact nat_case (la := []) (lb := []) (lc := []) sa sb sc (no _) (no _) (no _) rfl (by kernel_rfl) (by kernel_rfl) (.str 26 183890501555043540957095622503328518117729969598634276033028458) (.str 6 68669705972028) (.str 3 5646632) ⟨by decide +kernel, rfl⟩ ⟨by decide +kernel, rfl⟩ ⟨by decide +kernel, rfl⟩ (by as_aux_lemma => kernel_rfl)
        · exact nat_case (la := []) (lb := []) (lc := []) sa sb sc (no _) (no _) (no _) rfl (by kernel_rfl) (by kernel_rfl) (.str 26 183890501555043540957095622503328518117729969598634276033028458) (.str 6 68669705972028) (.str 21 125924534186164816246133852188561726513007718714408) ⟨by decide +kernel, rfl⟩ ⟨by decide +kernel, rfl⟩ ⟨by decide +kernel, rfl⟩ (by as_aux_lemma => kernel_rfl)
      · exact nat_case (la := []) (lb := []) (lc := ds24) sa sb sc (no _) (no _) (hc) rfl (by kernel_rfl) (by kernel_rfl) (.str 26 183890501555043540957095622503328518117729969598634276033028458) (.str 6 68669705972028) (.ostr 4) ⟨by decide +kernel, rfl⟩ ⟨by decide +kernel, rfl⟩ rfl (by as_aux_lemma => kernel_rfl)
  · rcases @pick Tab.empty ds24 c with ⟨p, hp, rfl⟩ | hc
    · simp only [ds24, List.mem_cons, List.not_mem_nil, or_false] at hp
      rcases hp with rfl | rfl
      · exact nat_case (la := []) (lb := nm24) (lc := []) sa sb sc (no _) (hb) (no _) rfl (by kernel_rfl) (by kernel_rfl) (.str 26 183890501555043540957095622503328518117729969598634276033028458) (.ostr 2) (.str 3 5646632) ⟨by decide +kernel, rfl⟩ rfl ⟨by decide +kernel, rfl⟩ (by as_aux_lemma => kernel_rfl)
      · exact nat_case (la := []) (lb := nm24) (lc := []) sa sb sc (no _) (hb) (no _) rfl (by kernel_rfl) (by kernel_rfl) (.str 26 183890501555043540957095622503328518117729969598634276033028458) (.ostr 2) (.str 21 125924534186164816246133852188561726513007718714408) ⟨by decide +kernel, rfl⟩ rfl ⟨by decide +kernel, rfl⟩ (by as_aux_lemma => kernel_rfl)
    · exact nat_case (la := []) (lb := nm24) (lc := ds24) sa sb sc (no _) (hb) (hc) rfl (by kernel_rfl) (by kernel_rfl) (.str 26 183890501555043540957095622503328518117729969598634276033028458) (.ostr 2) (.ostr 4) ⟨by decide +kernel, rfl⟩ rfl rfl (by as_aux_lemma => kernel_rfl)

def nm25 : List (Nat × Nat) := [(6, 68669705972028)]
def ds25 : List (Nat × Nat) := [(3, 5646632), (21, 125924534186164816246133852188561726513007718714408)]
theorem nat_25 {b c : ByteArray} (sb : b.size ≤ maxLen) (sc : c.size ≤ maxLen) : Fine #[.string (strOf 29 2977327179366744475310567174670984700336777289692309623825572795146602), .string b, .string c] := by
  have sa : (strOf 29 2977327179366744475310567174670984700336777289692309623825572795146602).size ≤ maxLen := by decide +kernel
  rcases @pick Tab.empty nm25 b with ⟨p, hp, rfl⟩ | hb
  · simp only [nm25, List.mem_cons, List.not_mem_nil, or_false] at hp
    subst hp
    · rcases @pick Tab.empty ds25 c with ⟨p, hp, rfl⟩ | hc
      · simp only [ds25, List.mem_cons, List.not_mem_nil, or_false] at hp
        rcases hp with rfl | rfl
        · exact nat_case (la := []) (lb := []) (lc := []) sa sb sc (no _) (no _) (no _) rfl (by kernel_rfl) (by kernel_rfl) (.str 29 2977327179366744475310567174670984700336777289692309623825572795146602) (.str 6 68669705972028) (.str 3 5646632) ⟨by decide +kernel, rfl⟩ ⟨by decide +kernel, rfl⟩ ⟨by decide +kernel, rfl⟩ (by as_aux_lemma => kernel_rfl)
        · exact nat_case (la := []) (lb := []) (lc := []) sa sb sc (no _) (no _) (no _) rfl (by kernel_rfl) (by kernel_rfl) (.str 29 2977327179366744475310567174670984700336777289692309623825572795146602) (.str 6 68669705972028) (.str 21 125924534186164816246133852188561726513007718714408) ⟨by decide +kernel, rfl⟩ ⟨by decide +kernel, rfl⟩ ⟨by decide +kernel, rfl⟩ (by as_aux_lemma => kernel_rfl)
      · exact nat_case (la := []) (lb := []) (lc := ds25) sa sb sc (no _) (no _) (hc) rfl (by kernel_rfl) (by kernel_rfl) (.str 29 2977327179366744475310567174670984700336777289692309623825572795146602) (.str 6 68669705972028) (.ostr 4) ⟨by decide +kernel, rfl⟩ ⟨by decide +kernel, rfl⟩ rfl (by as_aux_lemma => kernel_rfl)
  · rcases @pick Tab.empty ds25 c with ⟨p, hp, rfl⟩ | hc
    · simp only [ds25, List.mem_cons, List.not_mem_nil, or_false] at hp
      rcases hp with rfl | rfl
      · exact nat_case (la := []) (lb := nm25) (lc := []) sa sb sc (no _) (hb) (no _) rfl (by kernel_rfl) (by kernel_rfl) (.str 29 2977327179366744475310567174670984700336777289692309623825572795146602) (.ostr 2) (.str 3 5646632) ⟨by decide +kernel, rfl⟩ rfl ⟨by decide +kernel, rfl⟩ (by as_aux_lemma => kernel_rfl)
      · exact nat_case (la := []) (lb := nm25) (lc := []) sa sb sc (no _) (hb) (no _) rfl (by kernel_rfl) (by kernel_rfl) (.str 29 2977327179366744475310567174670984700336777289692309623825572795146602) (.ostr 2) (.str 21 125924534186164816246133852188561726513007718714408) ⟨by decide +kernel, rfl⟩ rfl ⟨by decide +kernel, rfl⟩ (by as_aux_lemma => kernel_rfl)
    · exact nat_case (la := []) (lb := nm25) (lc := ds25) sa sb sc (no _) (hb) (hc) rfl (by kernel_rfl) (by kernel_rfl) (.str 29 2977327179366744475310567174670984700336777289692309623825572795146602) (.ostr 2) (.ostr 4) ⟨by decide +kernel, rfl⟩ rfl rfl (by as_aux_lemma => kernel_rfl)

def nm26 : List (Nat × Nat) := [(6, 68669705972028)]
def ds26 : List (Nat × Nat) := [(3, 5646632), (21, 125924534186164816246133852188561726513007718714408)]
theorem nat_26 {b c : ByteArray} (sb : b.size ≤ maxLen) (sc : c.size ≤ maxLen) : Fine #[.string (strOf 30 762195757917886585679527096405151622096281774544538073876077408773628266), .string b, .string c] := by
  have sa : (strOf 30 762195757917886585679527096405151622096281774544538073876077408773628266).size ≤ maxLen := by decide +kernel
  rcases @pick Tab.empty nm26 b with ⟨p, hp, rfl⟩ | hb
  · simp only [nm26, List.mem_cons, List.not_mem_nil, or_false] at hp
    subst hp
    · rcases @pick Tab.empty ds26 c with ⟨p, hp, rfl⟩ | hc
      · simp only [ds26, List.mem_cons, List.not_mem_nil, or_false] at hp
        rcases hp with rfl | rfl
        · exact nat_case (la := []) (lb := []) (lc := []) sa sb sc (no _) (no _) (no _) rfl (by kernel_rfl) (by kernel_rfl) (.str 30 762195757917886585679527096405151622096281774544538073876077408773628266) (.str 6 68669705972028) (.str 3 5646632) ⟨by decide +kernel, rfl⟩ ⟨by decide +kernel, rfl⟩ ⟨by decide +kernel, rfl⟩ (by as_aux_lemma => kernel_rfl)
        · exact nat_case (la := []) (lb := []) (lc := []) sa sb sc (no _) (no _) (no _) rfl (by kernel_rfl) (by kernel_rfl) (.str 30 762195757917886585679527096405151622096281774544538073876077408773628266) (.str 6 68669705972028) (.str 21 125924534186164816246133852188561726513007718714408) ⟨by decide +kernel, rfl⟩ ⟨by decide +kernel, rfl⟩ ⟨by decide +kernel, rfl⟩ (by as_aux_lemma => kernel_rfl)
      · exact nat_case (la := []) (lb := []) (lc := ds26) sa sb sc (no _) (no _) (hc) rfl (by kernel_rfl) (by kernel_rfl) (.str 30 762195757917886585679527096405151622096281774544538073876077408773628266) (.str 6 68669705972028) (.ostr 4) ⟨by decide +kernel, rfl⟩ ⟨by decide +kernel, rfl⟩ rfl (by as_aux_lemma => kernel_rfl)
  · rcases @pick Tab.empty ds26 c with ⟨p, hp, rfl⟩ | hc
    · simp only [ds26, List.mem_cons, List.not_mem_nil, or_false] at hp
      rcases hp with rfl | rfl
      · exact nat_case (la := []) (lb := nm26) (lc := []) sa sb sc (no _) (hb) (no _) rfl (by kernel_rfl) (by kernel_rfl) (.str 30 762195757917886585679527096405151622096281774544538073876077408773628266) (.ostr 2) (.str 3 5646632) ⟨by decide +kernel, rfl⟩ rfl ⟨by decide +kernel, rfl⟩ (by as_aux_lemma => kernel_rfl)
      · exact nat_case (la := []) (lb := nm26) (lc := []) sa sb sc (no _) (hb) (no _) rfl (by kernel_rfl) (by kernel_rfl) (.str 30 762195757917886585679527096405151622096281774544538073876077408773628266) (.ostr 2) (.str 21 125924534186164816246133852188561726513007718714408) ⟨by decide +kernel, rfl⟩ rfl ⟨by decide +kernel, rfl⟩ (by as_aux_lemma => kernel_rfl)
    · exact nat_case (la := []) (lb := nm26) (lc := ds26) sa sb sc (no _) (hb) (hc) rfl (by kernel_rfl) (by kernel_rfl) (.str 30 762195757917886585679527096405151622096281774544538073876077408773628266) (.ostr 2) (.ostr 4) ⟨by decide +kernel, rfl⟩ rfl rfl (by as_aux_lemma => kernel_rfl)

def nm27 : List (Nat × Nat) := [(6, 68669705972028)]
def ds27 : List (Nat × Nat) := [(3, 5646632), (21, 125924534186164816246133852188561726513007718714408)]
theorem nat_27 {b c : ByteArray} (sb : b.size ≤ maxLen) (sc : c.size ≤ maxLen) : Fine #[.string (strOf 40 921438131347674524995356669863897659779420152864154109574888483886346161678995665599280333611370), .string b, .string c] := by
  have sa : (strOf 40 921438131347674524995356669863897659779420152864154109574888483886346161678995665599280333611370).size ≤ maxLen := by decide +kernel
  rcases @pick Tab.empty nm27 b with ⟨p, hp, rfl⟩ | hb
  · simp only [nm27, List.mem_cons, List.not_mem_nil, or_false] at hp
    subst hp
    · rcases @pick Tab.empty ds27 c with ⟨p, hp, rfl⟩ | hc
      · simp only [ds27, List.mem_cons, List.not_mem_nil, or_false] at hp
        rcases hp with rfl | rfl
        · exact nat_case (la := []) (lb := []) (lc := []) sa sb sc (no _) (no _) (no _) rfl (by kernel_rfl) (by kernel_rfl) (.str 40 921438131347674524995356669863897659779420152864154109574888483886346161678995665599280333611370) (.str 6 68669705972028) (.str 3 5646632) ⟨by decide +kernel, rfl⟩ ⟨by decide +kernel, rfl⟩ ⟨by decide +kernel, rfl⟩ (by as_aux_lemma => kernel_rfl)
        · exact nat_case (la := []) (lb := []) (lc := []) sa sb sc (no _) (no _) (no _) rfl (by kernel_rfl) (by kernel_rfl) (.str 40 921438131347674524995356669863897659779420152864154109574888483886346161678995665599280333611370) (.str 6 68669705972028) (.str 21 125924534186164816246133852188561726513007718714408) ⟨by decide +kernel, rfl⟩ ⟨by decide +kernel, rfl⟩ ⟨by decide +kernel, rfl⟩ (by as_aux_lemma => kernel_rfl)
      · exact nat_case (la := []) (lb := []) (lc := ds27) sa sb sc (no _) (no _) (hc) rfl (by kernel_rfl) (by kernel_rfl) (.str 40 921438131347674524995356669863897659779420152864154109574888483886346161678995665599280333611370) (.str 6 68669705972028) (.ostr 4) ⟨by decide +kernel, rfl⟩ ⟨by decide +kernel, rfl⟩ rfl (by as_aux_lemma => kernel_rfl)
  · rcases @pick Tab.empty ds27 c with ⟨p, hp, rfl⟩ | hc
    · simp only [ds27, List.mem_cons, List.not_mem_nil, or_false] at hp
      rcases hp with rfl | rfl
      · exact nat_case (la := []) (lb := nm27) (lc := []) sa sb sc (no _) (hb) (no _) rfl (by kernel_rfl) (by kernel_rfl) (.str 40 921438131347674524995356669863897659779420152864154109574888483886346161678995665599280333611370) (.ostr 2) (.str 3 5646632) ⟨by decide +kernel, rfl⟩ rfl ⟨by decide +kernel, rfl⟩ (by as_aux_lemma => kernel_rfl)
      · exact nat_case (la := []) (lb := nm27) (lc := []) sa sb sc (no _) (hb) (no _) rfl (by kernel_rfl) (by kernel_rfl) (.str 40 921438131347674524995356669863897659779420152864154109574888483886346161678995665599280333611370) (.ostr 2) (.str 21 125924534186164816246133852188561726513007718714408) ⟨by decide +kernel, rfl⟩ rfl ⟨by decide +kernel, rfl⟩ (by as_aux_lemma => kernel_rfl)
    · exact nat_case (la := []) (lb := nm27) (lc := ds27) sa sb sc (no _) (hb) (hc) rfl (by kernel_rfl) (by kernel_rfl) (.str 40 921438131347674524995356669863897659779420152864154109574888483886346161678995665599280333611370) (.ostr 2) (.ostr 4) ⟨by decide +kernel, rfl⟩ rfl rfl (by as_aux_lemma => kernel_rfl)

def nm28 : List (Nat × Nat) := [(6, 68669705972028)]
def ds28 : List (Nat × Nat) := [(3, 5646632), (21, 125924534186164816246133852188561726513007718714408)]
theorem nat_28 {b c : ByteArray} (sb : b.size ≤ maxLen) (sc : c.size ≤ maxLen) : Fine #[.string (strOf 36 214539033208897925213755128370838752992305990670598911423725060199978812837976799076714), .string b, .string c] := by
  have sa : (strOf 36 214539033208897925213755128370838752992305990670598911423725060199978812837976799076714).size ≤ maxLen := by decide +kernel
  rcases @pick Tab.empty nm28 b with ⟨p, hp, rfl⟩ | hb
  · simp only [nm28, List.mem_cons, List.not_mem_nil, or_false] at hp
    subst hp
    · rcases @pick Tab.empty ds28 c with ⟨p, hp, rfl⟩ | hc
      · simp only [ds28, List.mem_cons, List.not_mem_nil, or_false] at hp
        rcases hp with rfl | rfl
        · exact nat_case (la := []) (lb := []) (lc := []) sa sb sc (no _) (no _) (no _) rfl (by kernel_rfl) (by kernel_rfl) (.str 36 214539033208897925213755128370838752992305990670598911423725060199978812837976799076714) (.str 6 68669705972028) (.str 3 5646632) ⟨by decide +kernel, rfl⟩ ⟨by decide +kernel, rfl⟩ ⟨by decide +kernel, rfl⟩ (by as_aux_lemma => kernel_rfl)
        · exact nat_case (la := []) (lb := []) (lc := []) sa sb sc (no _) (no _) (no _) rfl (by kernel_rfl) (by kernel_rfl) (.str 36 214539033208897925213755128370838752992305990670598911423725060199978812837976799076714) (.str 6 68669705972028) (.str 21 125924534186164816246133852188561726513007718714408) ⟨by decide +kernel, rfl⟩ ⟨by decide +kernel, rfl⟩ ⟨by decide +kernel, rfl⟩ (by as_aux_lemma => kernel_rfl)
      · exact nat_case (la := []) (lb := []) (lc := ds28) sa sb sc (no _) (no _) (hc) rfl (by kernel_rfl) (by kernel_rfl) (.str 36 214539033208897925213755128370838752992305990670598911423725060199978812837976799076714) (.str 6 68669705972028) (.ostr 4) ⟨by decide +kernel, rfl⟩ ⟨by decide +kernel, rfl⟩ rfl (by as_aux_lemma => kernel_rfl)
  · rcases @pick Tab.empty ds28 c with ⟨p, hp, rfl⟩ | hc
    · simp only [ds28, List.mem_cons, List.not_mem_nil, or_false] at hp
      rcases hp with rfl | rfl
      · exact nat_case (la := []) (lb := nm28) (lc := []) sa sb sc (no _) (hb) (no _) rfl (by kernel_rfl) (by kernel_rfl) (.str 36 214539033208897925213755128370838752992305990670598911423725060199978812837976799076714) (.ostr 2) (.str 3 5646632) ⟨by decide +kernel, rfl⟩ rfl ⟨by decide +kernel, rfl⟩ (by as_aux_lemma => kernel_rfl)
      · exact nat_case (la := []) (lb := nm28) (lc := []) sa sb sc (no _) (hb) (no _) rfl (by kernel_rfl) (by kernel_rfl) (.str 36 214539033208897925213755128370838752992305990670598911423725060199978812837976799076714) (.ostr 2) (.str 21 125924534186164816246133852188561726513007718714408) ⟨by decide +kernel, rfl⟩ rfl ⟨by decide +kernel, rfl⟩ (by as_aux_lemma => kernel_rfl)
    · exact nat_case (la := []) (lb := nm28) (lc := ds28) sa sb sc (no _) (hb) (hc) rfl (by kernel_rfl) (by kernel_rfl) (.str 36 214539033208897925213755128370838752992305990670598911423725060199978812837976799076714) (.ostr 2) (.ostr 4) ⟨by decide +kernel, rfl⟩ rfl rfl (by as_aux_lemma => kernel_rfl)

def nm29 : List (Nat × Nat) := [(6, 68669705972028)]
def ds29 : List (Nat × Nat) := [(3, 5646632), (21, 125924534186164816246133852188561726513007718714408)]
theorem nat_29 {b c : ByteArray} (sb : b.size ≤ maxLen) (sc : c.size ≤ maxLen) : Fine #[.string (strOf 28 11630184294401345606682283003339240975915084228737354846334270988650), .string b, .string c] := by
  have sa : (strOf 28 11630184294401345606682283003339240975915084228737354846334270988650).size ≤ maxLen := by decide +kernel
  rcases @pick Tab.empty nm29 b with ⟨p, hp, rfl⟩ | hb
  · simp only [nm29, List.mem_cons, List.not_mem_nil, or_false] at hp
    subst hp
    · rcases @pick Tab.empty ds29 c with ⟨p, hp, rfl⟩ | hc
      · simp only [ds29, List.mem_cons, List.not_mem_nil, or_false] at hp
        rcases hp with rfl | rfl
        · exact nat_case (la := []) (lb := []) (lc := []) sa sb sc (no _) (no _) (no _) rfl (by kernel_rfl) (by kernel_rfl) (.str 28 11630184294401345606682283003339240975915084228737354846334270988650) (.str 6 68669705972028) (.str 3 5646632) ⟨by decide +kernel, rfl⟩ ⟨by decide +kernel, rfl⟩ ⟨by decide +kernel, rfl⟩ (by as_aux_lemma => kernel_rfl)
        · exact nat_case (la := []) (lb := []) (lc := []) sa sb sc (no _) (no _) (no _) rfl (by kernel_rfl) (by kernel_rfl) (.str 28 11630184294401345606682283003339240975915084228737354846334270988650) (.str 6 68669705972028) (.str 21 125924534186164816246133852188561726513007718714408) ⟨by decide +kernel, rfl⟩ ⟨by decide +kernel, rfl⟩ ⟨by decide +kernel, rfl⟩ (by as_aux_lemma => kernel_rfl)
      · exact nat_case (la := []) (lb := []) (lc := ds29) sa sb sc (no _) (no _) (hc) rfl (by kernel_rfl) (by kernel_rfl) (.str 28 11630184294401345606682283003339240975915084228737354846334270988650) (.str 6 68669705972028) (.ostr 4) ⟨by decide +kernel, rfl⟩ ⟨by decide +kernel, rfl⟩ rfl (by as_aux_lemma => kernel_rfl)
  · rcases @pick Tab.empty ds29 c with ⟨p, hp, rfl⟩ | hc
    · simp only [ds29, List.mem_cons, List.not_mem_nil, or_false] at hp
      rcases hp with rfl | rfl
      · exact nat_case (la := []) (lb := nm29) (lc := []) sa sb sc (no _) (hb) (no _) rfl (by kernel_rfl) (by kernel_rfl) (.str 28 11630184294401345606682283003339240975915084228737354846334270988650) (.ostr 2) (.str 3 5646632) ⟨by decide +kernel, rfl⟩ rfl ⟨by decide +kernel, rfl⟩ (by as_aux_lemma => kernel_rfl)
      · exact nat_case (la := []) (lb := nm29) (lc := []) sa sb sc (no _) (hb) (no _) rfl (by kernel_rfl) (by kernel_rfl) (.str 28 11630184294401345606682283003339240975915084228737354846334270988650) (.ostr 2) (.str 21 125924534186164816246133852188561726513007718714408) ⟨by decide +kernel, rfl⟩ rfl ⟨by decide +kernel, rfl⟩ (by as_aux_lemma => kernel_rfl)
    · exact nat_case (la := []) (lb := nm29) (lc := ds29) sa sb sc (no _) (hb) (hc) rfl (by kernel_rfl) (by kernel_rfl) (.str 28 11630184294401345606682283003339240975915084228737354846334270988650) (.ostr 2) (.ostr 4) ⟨by decide +kernel, rfl⟩ rfl rfl (by as_aux_lemma => kernel_rfl)

def nm30 : List (Nat × Nat) := [(6, 68669705972028)]
def ds30 : List (Nat × Nat) := [(3, 5646632), (21, 125924534186164816246133852188561726513007718714408)]
theorem nat_30 {b c : ByteArray} (sb : b.size ≤ maxLen) (sc : c.size ≤ maxLen) : Fine #[.string (strOf 29 2977327179366744475310578792928741468592950331792981622238945052352874), .string b, .string c] := by
  have sa : (strOf 29 2977327179366744475310578792928741468592950331792981622238945052352874).size ≤ maxLen := by decide +kernel
  rcases @pick Tab.empty nm30 b with ⟨p, hp, rfl⟩ | hb
  · simp only [nm30, List.mem_cons, List.not_mem_nil, or_false] at hp
    subst hp
    · rcases @pick Tab.empty ds30 c with ⟨p, hp, rfl⟩ | hc
      · simp only [ds30, List.mem_cons, List.not_mem_nil, or_false] at hp
        rcases hp with rfl | rfl
        · exact nat_case (la := []) (lb := []) (lc := []) sa sb sc (no _) (no _) (no _) rfl (by kernel_rfl) (by kernel_rfl) (.str 29 2977327179366744475310578792928741468592950331792981622238945052352874) (.str 6 68669705972028) (.str 3 5646632) ⟨by decide +kernel, rfl⟩ ⟨by decide +kernel, rfl⟩ ⟨by decide +kernel, rfl⟩ (by as_aux_lemma => kernel_rfl)
        · exact nat_case (la := []) (lb := []) (lc := []) sa sb sc (no _) (no _) (no _) rfl (by kernel_rfl) (by kernel_rfl) (.str 29 2977327179366744475310578792928741468592950331792981622238945052352874) (.str 6 68669705972028) (.str 21 125924534186164816246133852188561726513007718714408) ⟨by decide +kernel, rfl⟩ ⟨by decide +kernel, rfl⟩ ⟨by decide +kernel, rfl⟩ (by as_aux_lemma => kernel_rfl)
      · exact nat_case (la := []) (lb := []) (lc := ds30) sa sb sc (no _) (no _) (hc) rfl (by kernel_rfl) (by kernel_rfl) (.str 29 2977327179366744475310578792928741468592950331792981622238945052352874) (.str 6 68669705972028) (.ostr 4) ⟨by decide +kernel, rfl⟩ ⟨by decide +kernel, rfl⟩ rfl (by as_aux_lemma => kernel_rfl)
  · rcases @pick Tab.empty ds30 c with ⟨p, hp, rfl⟩ | hc
    · simp only [ds30, List.mem_cons, List.not_mem_nil, or_false] at hp
      rcases hp with rfl | rfl
      · exact nat_case (la := []) (lb := nm30) (lc := []) sa sb sc (no _) (hb) (no _) rfl (by kernel_rfl) (by kernel_rfl) (.str 29 2977327179366744475310578792928741468592950331792981622238945052352874) (.ostr 2) (.str 3 5646632) ⟨by decide +kernel, rfl⟩ rfl ⟨by decide +kernel, rfl⟩ (by as_aux_lemma => kernel_rfl)
      · exact nat_case (la := []) (lb := nm30) (lc := []) sa sb sc (no _) (hb) (no _) rfl (by kernel_rfl) (by kernel_rfl) (.str 29 2977327179366744475310578792928741468592950331792981622238945052352874) (.ostr 2) (.str 21 125924534186164816246133852188561726513007718714408) ⟨by decide +kernel, rfl⟩ rfl ⟨by decide +kernel, rfl⟩ (by as_aux_lemma => kernel_rfl)
    · exact nat_case (la := []) (lb := nm30) (lc := ds30) sa sb sc (no _) (hb) (hc) rfl (by kernel_rfl) (by kernel_rfl) (.str 29 2977327179366744475310578792928741468592950331792981622238945052352874) (.ostr 2) (.ostr 4) ⟨by decide +kernel, rfl⟩ rfl rfl (by as_aux_lemma => kernel_rfl)

def nm31 : List (Nat × Nat) := [(6, 68669705972028)]
def ds31 : List (Nat × Nat) := [(3, 5646632), (21, 125924534186164816246133852188561726513007718714408)]
theorem nat_31 {b c : ByteArray} (sb : b.size ≤ maxLen) (sc : c.size ≤ maxLen) : Fine #[.string (strOf 38 14060030080378334426808655457799320232265086119729716606675995945190890063755479020322840938), .string b, .string c] := by
  have sa : (strOf 38 14060030080378334426808655457799320232265086119729716606675995945190890063755479020322840938).size ≤ maxLen := by decide +kernel
  rcases @pick Tab.empty nm31 b with ⟨p, hp, rfl⟩ | hb
  · simp only [nm31, List.mem_cons, List.not_mem_nil, or_false] at hp
    subst hp
    · rcases @pick Tab.empty ds31 c with ⟨p, hp, rfl⟩ | hc
      · simp only [ds31, List.mem_cons, List.not_mem_nil, or_false] at hp
        rcases hp with rfl | rfl
        · exact nat_case (la := []) (lb := []) (lc := []) sa sb sc (no _) (no _) (no _) rfl (by kernel_rfl) (by kernel_rfl) (.str 38 14060030080378334426808655457799320232265086119729716606675995945190890063755479020322840938) (.str 6 68669705972028) (.str 3 5646632) ⟨by decide +kernel, rfl⟩ ⟨by decide +kernel, rfl⟩ ⟨by decide +kernel, rfl⟩ (by as_aux_lemma => kernel_rfl)
        · exact nat_case (la := []) (lb := []) (lc := []) sa sb sc (no _) (no _) (no _) rfl (by kernel_rfl) (by kernel_rfl) (.str 38 14060030080378334426808655457799320232265086119729716606675995945190890063755479020322840938) (.str 6 68669705972028) (.str 21 125924534186164816246133852188561726513007718714408) ⟨by decide +kernel, rfl⟩ ⟨by decide +kernel, rfl⟩ ⟨by decide +kernel, rfl⟩ (by as_aux_lemma => kernel_rfl)
      · exact nat_case (la := []) (lb := []) (lc := ds31) sa sb sc (no _) (no _) (hc) rfl (by kernel_rfl) (by kernel_rfl) (.str 38 14060030080378334426808655457799320232265086119729716606675995945190890063755479020322840938) (.str 6 68669705972028) (.ostr 4) ⟨by decide +kernel, rfl⟩ ⟨by decide +kernel, rfl⟩ rfl (by as_aux_lemma => kernel_rfl)
  · rcases @pick Tab.empty ds31 c with ⟨p, hp, rfl⟩ | hc
    · simp only [ds31, List.mem_cons, List.not_mem_nil, or_false] at hp
      rcases hp with rfl | rfl
      · exact nat_case (la := []) (lb := nm31) (lc := []) sa sb sc (no _) (hb) (no _) rfl (by kernel_rfl) (by kernel_rfl) (.str 38 14060030080378334426808655457799320232265086119729716606675995945190890063755479020322840938) (.ostr 2) (.str 3 5646632) ⟨by decide +kernel, rfl⟩ rfl ⟨by decide +kernel, rfl⟩ (by as_aux_lemma => kernel_rfl)
      · exact nat_case (la := []) (lb := nm31) (lc := []) sa sb sc (no _) (hb) (no _) rfl (by kernel_rfl) (by kernel_rfl) (.str 38 14060030080378334426808655457799320232265086119729716606675995945190890063755479020322840938) (.ostr 2) (.str 21 125924534186164816246133852188561726513007718714408) ⟨by decide +kernel, rfl⟩ rfl ⟨by decide +kernel, rfl⟩ (by as_aux_lemma => kernel_rfl)
    · exact nat_case (la := []) (lb := nm31) (lc := ds31) sa sb sc (no _) (hb) (hc) rfl (by kernel_rfl) (by kernel_rfl) (.str 38 14060030080378334426808655457799320232265086119729716606675995945190890063755479020322840938) (.ostr 2) (.ostr 4) ⟨by decide +kernel, rfl⟩ rfl rfl (by as_aux_lemma => kernel_rfl)

def nm32 : List (Nat × Nat) := [(6, 68669705972028)]
def ds32 : List (Nat × Nat) := [(3, 5646632), (21, 125924534186164816246133852188561726513007718714408)]
theorem nat_32 {b c : ByteArray} (sb : b.size ≤ maxLen) (sc : c.size ≤ maxLen) : Fine #[.string (strOf 41 235888161625004678398811307485157800903531559133223452051171428016118026562849321940164899390251370), .string b, .string c] := by
  have sa : (strOf 41 235888161625004678398811307485157800903531559133223452051171428016118026562849321940164899390251370).size ≤ maxLen := by decide +kernel
  rcases @pick Tab.empty nm32 b with ⟨p, hp, rfl⟩ | hb
  · simp only [nm32, List.mem_cons, List.not_mem_nil, or_false] at hp
    subst hp
    · rcases @pick Tab.empty ds32 c with ⟨p, hp, rfl⟩ | hc
      · simp only [ds32, List.mem_cons, List.not_mem_nil, or_false] at hp
        rcases hp with rfl | rfl
        · exact nat_case (la := []) (lb := []) (lc := []) sa sb sc (no _) (no _) (no _) rfl (by kernel_rfl) (by kernel_rfl) (.str 41 235888161625004678398811307485157800903531559133223452051171428016118026562849321940164899390251370) (.str 6 68669705972028) (.str 3 5646632) ⟨by decide +kernel, rfl⟩ ⟨by decide +kernel, rfl⟩ ⟨by decide +kernel, rfl⟩ (by as_aux_lemma => kernel_rfl)
        · exact nat_case (la := []) (lb := []) (lc := []) sa sb sc (no _) (no _) (no _) rfl (by kernel_rfl) (by kernel_rfl) (.str 41 235888161625004678398811307485157800903531559133223452051171428016118026562849321940164899390251370) (.str 6 68669705972028) (.str 21 125924534186164816246133852188561726513007718714408) ⟨by decide +kernel, rfl⟩ ⟨by decide +kernel, rfl⟩ ⟨by decide +kernel, rfl⟩ (by as_aux_lemma => kernel_rfl)
      · exact nat_case (la := []) (lb := []) (lc := ds32) sa sb sc (no _) (no _) (hc) rfl (by kernel_rfl) (by kernel_rfl) (.str 41 235888161625004678398811307485157800903531559133223452051171428016118026562849321940164899390251370) (.str 6 68669705972028) (.ostr 4) ⟨by decide +kernel, rfl⟩ ⟨by decide +kernel, rfl⟩ rfl (by as_aux_lemma => kernel_rfl)
  · rcases @pick Tab.empty ds32 c with ⟨p, hp, rfl⟩ | hc
    · simp only [ds32, List.mem_cons, List.not_mem_nil, or_false] at hp
      rcases hp with rfl | rfl
      · exact nat_case (la := []) (lb := nm32) (lc := []) sa sb sc (no _) (hb) (no _) rfl (by kernel_rfl) (by kernel_rfl) (.str 41 235888161625004678398811307485157800903531559133223452051171428016118026562849321940164899390251370) (.ostr 2) (.str 3 5646632) ⟨by decide +kernel, rfl⟩ rfl ⟨by decide +kernel, rfl⟩ (by as_aux_lemma => kernel_rfl)
      · exact nat_case (la := []) (lb := nm32) (lc := []) sa sb sc (no _) (hb) (no _) rfl (by kernel_rfl) (by kernel_rfl) (.str 41 235888161625004678398811307485157800903531559133223452051171428016118026562849321940164899390251370) (.ostr 2) (.str 21 125924534186164816246133852188561726513007718714408) ⟨by decide +kernel, rfl⟩ rfl ⟨by decide +kernel, rfl⟩ (by as_aux_lemma => kernel_rfl)
    · exact nat_case (la := []) (lb := nm32) (lc := ds32) sa sb sc (no _) (hb) (hc) rfl (by kernel_rfl) (by kernel_rfl) (.str 41 235888161625004678398811307485157800903531559133223452051171428016118026562849321940164899390251370) (.ostr 2) (.ostr 4) ⟨by decide +kernel, rfl⟩ rfl rfl (by as_aux_lemma => kernel_rfl)

end Go.Proofs.Ytmeepibkgbgmhaa
