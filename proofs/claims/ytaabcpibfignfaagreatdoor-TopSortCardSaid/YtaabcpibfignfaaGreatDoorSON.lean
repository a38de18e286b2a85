/-
  The runs of the law TopSort, at each place.
-/
import Derived.Test.YtaabcpibfignfaaGreatDoorSOK
set_option linter.unusedSectionVars false
set_option linter.unusedVariables false
set_option maxRecDepth 1000000
set_option maxHeartbeats 0
namespace Go.Proofs.YtaabcpibfignfaaGreatDoor.so
open Go.X Go.RowKit Go.Proofs.YtaabcpibfignfaaGreatDoor
theorem hd_0 : HdAt 0 := fun h hn hs => by as_aux_lemma => kernel_rfl
theorem ap_0 : ApAt 0 := fun h hn hs => by as_aux_lemma => kernel_rfl
theorem sz_0 : SzAt 0 := @fun _ _ _ _ => by as_aux_lemma => kernel_rfl
theorem up_0 : UpAt 0 := @fun _ _ _ _ => by as_aux_lemma => kernel_rfl
theorem hd_1 : HdAt 1 := fun h hn hs => by as_aux_lemma => kernel_rfl
theorem ap_1 : ApAt 1 := fun h hn hs => by as_aux_lemma => kernel_rfl
theorem sz_1 : SzAt 1 := @fun _ _ _ _ => by as_aux_lemma => kernel_rfl
theorem up_1 : UpAt 1 := @fun _ _ _ _ => by as_aux_lemma => kernel_rfl
theorem hd_2 : HdAt 2 := fun h hn hs => by as_aux_lemma => kernel_rfl
theorem ap_2 : ApAt 2 := fun h hn hs => by as_aux_lemma => kernel_rfl
theorem sz_2 : SzAt 2 := @fun _ _ _ _ => by as_aux_lemma => kernel_rfl
theorem up_2 : UpAt 2 := @fun _ _ _ _ => by as_aux_lemma => kernel_rfl
theorem hd_3 : HdAt 3 := fun h hn hs => by as_aux_lemma => kernel_rfl
theorem ap_3 : ApAt 3 := fun h hn hs => by as_aux_lemma => kernel_rfl
theorem sz_3 : SzAt 3 := @fun _ _ _ _ => by as_aux_lemma => kernel_rfl
theorem up_3 : UpAt 3 := @fun _ _ _ _ => by as_aux_lemma => kernel_rfl
theorem hd_4 : HdAt 4 := fun h hn hs => by as_aux_lemma => kernel_rfl
theorem ap_4 : ApAt 4 := fun h hn hs => by as_aux_lemma => kernel_rfl
theorem sz_4 : SzAt 4 := @fun _ _ _ _ => by as_aux_lemma => kernel_rfl
theorem up_4 : UpAt 4 := @fun _ _ _ _ => by as_aux_lemma => kernel_rfl
theorem hd_5 : HdAt 5 := fun h hn hs => by as_aux_lemma => kernel_rfl
theorem ap_5 : ApAt 5 := fun h hn hs => by as_aux_lemma => kernel_rfl
theorem sz_5 : SzAt 5 := @fun _ _ _ _ => by as_aux_lemma => kernel_rfl
theorem up_5 : UpAt 5 := @fun _ _ _ _ => by as_aux_lemma => kernel_rfl
theorem hd_6 : HdAt 6 := fun h hn hs => by as_aux_lemma => kernel_rfl
theorem ap_6 : ApAt 6 := fun h hn hs => by as_aux_lemma => kernel_rfl
theorem sz_6 : SzAt 6 := @fun _ _ _ _ => by as_aux_lemma => kernel_rfl
theorem up_6 : UpAt 6 := @fun _ _ _ _ => by as_aux_lemma => kernel_rfl
theorem hd_7 : HdAt 7 := fun h hn hs => by as_aux_lemma => kernel_rfl
theorem ap_7 : ApAt 7 := fun h hn hs => by as_aux_lemma => kernel_rfl
theorem sz_7 : SzAt 7 := @fun _ _ _ _ => by as_aux_lemma => kernel_rfl
theorem up_7 : UpAt 7 := @fun _ _ _ _ => by as_aux_lemma => kernel_rfl
theorem hd_8 : HdAt 8 := fun h hn hs => by as_aux_lemma => kernel_rfl
theorem ap_8 : ApAt 8 := fun h hn hs => by as_aux_lemma => kernel_rfl
theorem sz_8 : SzAt 8 := @fun _ _ _ _ => by as_aux_lemma => kernel_rfl
theorem up_8 : UpAt 8 := @fun _ _ _ _ => by as_aux_lemma => kernel_rfl
theorem hd_9 : HdAt 9 := fun h hn hs => by as_aux_lemma => kernel_rfl
theorem ap_9 : ApAt 9 := fun h hn hs => by as_aux_lemma => kernel_rfl
theorem sz_9 : SzAt 9 := @fun _ _ _ _ => by as_aux_lemma => kernel_rfl
theorem up_9 : UpAt 9 := @fun _ _ _ _ => by as_aux_lemma => kernel_rfl
theorem hd_10 : HdAt 10 := fun h hn hs => by as_aux_lemma => kernel_rfl
theorem ap_10 : ApAt 10 := fun h hn hs => by as_aux_lemma => kernel_rfl
theorem sz_10 : SzAt 10 := @fun _ _ _ _ => by as_aux_lemma => kernel_rfl
theorem up_10 : UpAt 10 := @fun _ _ _ _ => by as_aux_lemma => kernel_rfl
theorem hd_11 : HdAt 11 := fun h hn hs => by as_aux_lemma => kernel_rfl
theorem ap_11 : ApAt 11 := fun h hn hs => by as_aux_lemma => kernel_rfl
theorem sz_11 : SzAt 11 := @fun _ _ _ _ => by as_aux_lemma => kernel_rfl
theorem up_11 : UpAt 11 := @fun _ _ _ _ => by as_aux_lemma => kernel_rfl
theorem hd_12 : HdAt 12 := fun h hn hs => by as_aux_lemma => kernel_rfl
theorem ap_12 : ApAt 12 := fun h hn hs => by as_aux_lemma => kernel_rfl
theorem sz_12 : SzAt 12 := @fun _ _ _ _ => by as_aux_lemma => kernel_rfl
theorem up_12 : UpAt 12 := @fun _ _ _ _ => by as_aux_lemma => kernel_rfl
theorem hd_13 : HdAt 13 := fun h hn hs => by as_aux_lemma => kernel_rfl
theorem ap_13 : ApAt 13 := fun h hn hs => by as_aux_lemma => kernel_rfl
theorem sz_13 : SzAt 13 := @fun _ _ _ _ => by as_aux_lemma => kernel_rfl
theorem up_13 : UpAt 13 := @fun _ _ _ _ => by as_aux_lemma => kernel_rfl
theorem hd_14 : HdAt 14 := fun h hn hs => by as_aux_lemma => kernel_rfl
theorem ap_14 : ApAt 14 := fun h hn hs => by as_aux_lemma => kernel_rfl
theorem sz_14 : SzAt 14 := @fun _ _ _ _ => by as_aux_lemma => kernel_rfl
theorem up_14 : UpAt 14 := @fun _ _ _ _ => by as_aux_lemma => kernel_rfl
theorem hd_15 : HdAt 15 := fun h hn hs => by as_aux_lemma => kernel_rfl
theorem ap_15 : ApAt 15 := fun h hn hs => by as_aux_lemma => kernel_rfl
theorem sz_15 : SzAt 15 := @fun _ _ _ _ => by as_aux_lemma => kernel_rfl
theorem up_15 : UpAt 15 := @fun _ _ _ _ => by as_aux_lemma => kernel_rfl
theorem hd_16 : HdAt 16 := fun h hn hs => by as_aux_lemma => kernel_rfl
theorem ap_16 : ApAt 16 := fun h hn hs => by as_aux_lemma => kernel_rfl
theorem sz_16 : SzAt 16 := @fun _ _ _ _ => by as_aux_lemma => kernel_rfl
theorem up_16 : UpAt 16 := @fun _ _ _ _ => by as_aux_lemma => kernel_rfl
theorem hd_17 : HdAt 17 := fun h hn hs => by as_aux_lemma => kernel_rfl
theorem ap_17 : ApAt 17 := fun h hn hs => by as_aux_lemma => kernel_rfl
theorem sz_17 : SzAt 17 := @fun _ _ _ _ => by as_aux_lemma => kernel_rfl
theorem up_17 : UpAt 17 := @fun _ _ _ _ => by as_aux_lemma => kernel_rfl
theorem hd_18 : HdAt 18 := fun h hn hs => by as_aux_lemma => kernel_rfl
theorem ap_18 : ApAt 18 := fun h hn hs => by as_aux_lemma => kernel_rfl
theorem sz_18 : SzAt 18 := @fun _ _ _ _ => by as_aux_lemma => kernel_rfl
theorem up_18 : UpAt 18 := @fun _ _ _ _ => by as_aux_lemma => kernel_rfl
theorem hd_19 : HdAt 19 := fun h hn hs => by as_aux_lemma => kernel_rfl
theorem ap_19 : ApAt 19 := fun h hn hs => by as_aux_lemma => kernel_rfl
theorem sz_19 : SzAt 19 := @fun _ _ _ _ => by as_aux_lemma => kernel_rfl
theorem up_19 : UpAt 19 := @fun _ _ _ _ => by as_aux_lemma => kernel_rfl
theorem hd_20 : HdAt 20 := fun h hn hs => by as_aux_lemma => kernel_rfl
theorem ap_20 : ApAt 20 := fun h hn hs => by as_aux_lemma => kernel_rfl
theorem sz_20 : SzAt 20 := @fun _ _ _ _ => by as_aux_lemma => kernel_rfl
theorem up_20 : UpAt 20 := @fun _ _ _ _ => by as_aux_lemma => kernel_rfl
theorem hd_21 : HdAt 21 := fun h hn hs => by as_aux_lemma => kernel_rfl
theorem ap_21 : ApAt 21 := fun h hn hs => by as_aux_lemma => kernel_rfl
theorem sz_21 : SzAt 21 := @fun _ _ _ _ => by as_aux_lemma => kernel_rfl
theorem up_21 : UpAt 21 := @fun _ _ _ _ => by as_aux_lemma => kernel_rfl
theorem hd_22 : HdAt 22 := fun h hn hs => by as_aux_lemma => kernel_rfl
theorem ap_22 : ApAt 22 := fun h hn hs => by as_aux_lemma => kernel_rfl
theorem sz_22 : SzAt 22 := @fun _ _ _ _ => by as_aux_lemma => kernel_rfl
theorem up_22 : UpAt 22 := @fun _ _ _ _ => by as_aux_lemma => kernel_rfl
theorem hd_23 : HdAt 23 := fun h hn hs => by as_aux_lemma => kernel_rfl
theorem ap_23 : ApAt 23 := fun h hn hs => by as_aux_lemma => kernel_rfl
theorem sz_23 : SzAt 23 := @fun _ _ _ _ => by as_aux_lemma => kernel_rfl
theorem up_23 : UpAt 23 := @fun _ _ _ _ => by as_aux_lemma => kernel_rfl
theorem sw_1_0 : SwAt 1 0 := fun h => by as_aux_lemma => kernel_rfl
theorem sx_1_0 : SxAt 1 0 := fun h => by as_aux_lemma => kernel_rfl
theorem sw_2_0 : SwAt 2 0 := fun h => by as_aux_lemma => kernel_rfl
theorem sx_2_0 : SxAt 2 0 := fun h => by as_aux_lemma => kernel_rfl
theorem sw_2_1 : SwAt 2 1 := fun h => by as_aux_lemma => kernel_rfl
theorem sx_2_1 : SxAt 2 1 := fun h => by as_aux_lemma => kernel_rfl
theorem sw_3_0 : SwAt 3 0 := fun h => by as_aux_lemma => kernel_rfl
theorem sx_3_0 : SxAt 3 0 := fun h => by as_aux_lemma => kernel_rfl
theorem sw_3_1 : SwAt 3 1 := fun h => by as_aux_lemma => kernel_rfl
theorem sx_3_1 : SxAt 3 1 := fun h => by as_aux_lemma => kernel_rfl
theorem sw_3_2 : SwAt 3 2 := fun h => by as_aux_lemma => kernel_rfl
theorem sx_3_2 : SxAt 3 2 := fun h => by as_aux_lemma => kernel_rfl
theorem sw_4_0 : SwAt 4 0 := fun h => by as_aux_lemma => kernel_rfl
theorem sx_4_0 : SxAt 4 0 := fun h => by as_aux_lemma => kernel_rfl
theorem sw_4_1 : SwAt 4 1 := fun h => by as_aux_lemma => kernel_rfl
theorem sx_4_1 : SxAt 4 1 := fun h => by as_aux_lemma => kernel_rfl
theorem sw_4_2 : SwAt 4 2 := fun h => by as_aux_lemma => kernel_rfl
theorem sx_4_2 : SxAt 4 2 := fun h => by as_aux_lemma => kernel_rfl
theorem sw_4_3 : SwAt 4 3 := fun h => by as_aux_lemma => kernel_rfl
theorem sx_4_3 : SxAt 4 3 := fun h => by as_aux_lemma => kernel_rfl
theorem sw_5_0 : SwAt 5 0 := fun h => by as_aux_lemma => kernel_rfl
theorem sx_5_0 : SxAt 5 0 := fun h => by as_aux_lemma => kernel_rfl
theorem sw_5_1 : SwAt 5 1 := fun h => by as_aux_lemma => kernel_rfl
theorem sx_5_1 : SxAt 5 1 := fun h => by as_aux_lemma => kernel_rfl
theorem sw_5_2 : SwAt 5 2 := fun h => by as_aux_lemma => kernel_rfl
theorem sx_5_2 : SxAt 5 2 := fun h => by as_aux_lemma => kernel_rfl
theorem sw_5_3 : SwAt 5 3 := fun h => by as_aux_lemma => kernel_rfl
theorem sx_5_3 : SxAt 5 3 := fun h => by as_aux_lemma => kernel_rfl
theorem sw_5_4 : SwAt 5 4 := fun h => by as_aux_lemma => kernel_rfl
theorem sx_5_4 : SxAt 5 4 := fun h => by as_aux_lemma => kernel_rfl
theorem sw_6_0 : SwAt 6 0 := fun h => by as_aux_lemma => kernel_rfl
theorem sx_6_0 : SxAt 6 0 := fun h => by as_aux_lemma => kernel_rfl
theorem sw_6_1 : SwAt 6 1 := fun h => by as_aux_lemma => kernel_rfl
theorem sx_6_1 : SxAt 6 1 := fun h => by as_aux_lemma => kernel_rfl
theorem sw_6_2 : SwAt 6 2 := fun h => by as_aux_lemma => kernel_rfl
theorem sx_6_2 : SxAt 6 2 := fun h => by as_aux_lemma => kernel_rfl
theorem sw_6_3 : SwAt 6 3 := fun h => by as_aux_lemma => kernel_rfl
theorem sx_6_3 : SxAt 6 3 := fun h => by as_aux_lemma => kernel_rfl
theorem sw_6_4 : SwAt 6 4 := fun h => by as_aux_lemma => kernel_rfl
theorem sx_6_4 : SxAt 6 4 := fun h => by as_aux_lemma => kernel_rfl
theorem sw_6_5 : SwAt 6 5 := fun h => by as_aux_lemma => kernel_rfl
theorem sx_6_5 : SxAt 6 5 := fun h => by as_aux_lemma => kernel_rfl
theorem sw_7_0 : SwAt 7 0 := fun h => by as_aux_lemma => kernel_rfl
theorem sx_7_0 : SxAt 7 0 := fun h => by as_aux_lemma => kernel_rfl
theorem sw_7_1 : SwAt 7 1 := fun h => by as_aux_lemma => kernel_rfl
theorem sx_7_1 : SxAt 7 1 := fun h => by as_aux_lemma => kernel_rfl
theorem sw_7_2 : SwAt 7 2 := fun h => by as_aux_lemma => kernel_rfl
theorem sx_7_2 : SxAt 7 2 := fun h => by as_aux_lemma => kernel_rfl
theorem sw_7_3 : SwAt 7 3 := fun h => by as_aux_lemma => kernel_rfl
theorem sx_7_3 : SxAt 7 3 := fun h => by as_aux_lemma => kernel_rfl
theorem sw_7_4 : SwAt 7 4 := fun h => by as_aux_lemma => kernel_rfl
theorem sx_7_4 : SxAt 7 4 := fun h => by as_aux_lemma => kernel_rfl
theorem sw_7_5 : SwAt 7 5 := fun h => by as_aux_lemma => kernel_rfl
theorem sx_7_5 : SxAt 7 5 := fun h => by as_aux_lemma => kernel_rfl
theorem sw_7_6 : SwAt 7 6 := fun h => by as_aux_lemma => kernel_rfl
theorem sx_7_6 : SxAt 7 6 := fun h => by as_aux_lemma => kernel_rfl
theorem sw_8_0 : SwAt 8 0 := fun h => by as_aux_lemma => kernel_rfl
theorem sx_8_0 : SxAt 8 0 := fun h => by as_aux_lemma => kernel_rfl
theorem sw_8_1 : SwAt 8 1 := fun h => by as_aux_lemma => kernel_rfl
theorem sx_8_1 : SxAt 8 1 := fun h => by as_aux_lemma => kernel_rfl
theorem sw_8_2 : SwAt 8 2 := fun h => by as_aux_lemma => kernel_rfl
theorem sx_8_2 : SxAt 8 2 := fun h => by as_aux_lemma => kernel_rfl
theorem sw_8_3 : SwAt 8 3 := fun h => by as_aux_lemma => kernel_rfl
theorem sx_8_3 : SxAt 8 3 := fun h => by as_aux_lemma => kernel_rfl
theorem sw_8_4 : SwAt 8 4 := fun h => by as_aux_lemma => kernel_rfl
theorem sx_8_4 : SxAt 8 4 := fun h => by as_aux_lemma => kernel_rfl
theorem sw_8_5 : SwAt 8 5 := fun h => by as_aux_lemma => kernel_rfl
theorem sx_8_5 : SxAt 8 5 := fun h => by as_aux_lemma => kernel_rfl
theorem sw_8_6 : SwAt 8 6 := fun h => by as_aux_lemma => kernel_rfl
theorem sx_8_6 : SxAt 8 6 := fun h => by as_aux_lemma => kernel_rfl
theorem sw_8_7 : SwAt 8 7 := fun h => by as_aux_lemma => kernel_rfl
theorem sx_8_7 : SxAt 8 7 := fun h => by as_aux_lemma => kernel_rfl
theorem sw_9_0 : SwAt 9 0 := fun h => by as_aux_lemma => kernel_rfl
theorem sx_9_0 : SxAt 9 0 := fun h => by as_aux_lemma => kernel_rfl
theorem sw_9_1 : SwAt 9 1 := fun h => by as_aux_lemma => kernel_rfl
theorem sx_9_1 : SxAt 9 1 := fun h => by as_aux_lemma => kernel_rfl
theorem sw_9_2 : SwAt 9 2 := fun h => by as_aux_lemma => kernel_rfl
theorem sx_9_2 : SxAt 9 2 := fun h => by as_aux_lemma => kernel_rfl
theorem sw_9_3 : SwAt 9 3 := fun h => by as_aux_lemma => kernel_rfl
theorem sx_9_3 : SxAt 9 3 := fun h => by as_aux_lemma => kernel_rfl
theorem sw_9_4 : SwAt 9 4 := fun h => by as_aux_lemma => kernel_rfl
theorem sx_9_4 : SxAt 9 4 := fun h => by as_aux_lemma => kernel_rfl
theorem sw_9_5 : SwAt 9 5 := fun h => by as_aux_lemma => kernel_rfl
theorem sx_9_5 : SxAt 9 5 := fun h => by as_aux_lemma => kernel_rfl
theorem sw_9_6 : SwAt 9 6 := fun h => by as_aux_lemma => kernel_rfl
theorem sx_9_6 : SxAt 9 6 := fun h => by as_aux_lemma => kernel_rfl
theorem sw_9_7 : SwAt 9 7 := fun h => by as_aux_lemma => kernel_rfl
theorem sx_9_7 : SxAt 9 7 := fun h => by as_aux_lemma => kernel_rfl
theorem sw_9_8 : SwAt 9 8 := fun h => by as_aux_lemma => kernel_rfl
theorem sx_9_8 : SxAt 9 8 := fun h => by as_aux_lemma => kernel_rfl
theorem sw_10_0 : SwAt 10 0 := fun h => by as_aux_lemma => kernel_rfl
theorem sx_10_0 : SxAt 10 0 := fun h => by as_aux_lemma => kernel_rfl
theorem sw_10_1 : SwAt 10 1 := fun h => by as_aux_lemma => kernel_rfl
theorem sx_10_1 : SxAt 10 1 := fun h => by as_aux_lemma => kernel_rfl
theorem sw_10_2 : SwAt 10 2 := fun h => by as_aux_lemma => kernel_rfl
theorem sx_10_2 : SxAt 10 2 := fun h => by as_aux_lemma => kernel_rfl
theorem sw_10_3 : SwAt 10 3 := fun h => by as_aux_lemma => kernel_rfl
theorem sx_10_3 : SxAt 10 3 := fun h => by as_aux_lemma => kernel_rfl
theorem sw_10_4 : SwAt 10 4 := fun h => by as_aux_lemma => kernel_rfl
theorem sx_10_4 : SxAt 10 4 := fun h => by as_aux_lemma => kernel_rfl
theorem sw_10_5 : SwAt 10 5 := fun h => by as_aux_lemma => kernel_rfl
theorem sx_10_5 : SxAt 10 5 := fun h => by as_aux_lemma => kernel_rfl
theorem sw_10_6 : SwAt 10 6 := fun h => by as_aux_lemma => kernel_rfl
theorem sx_10_6 : SxAt 10 6 := fun h => by as_aux_lemma => kernel_rfl
theorem sw_10_7 : SwAt 10 7 := fun h => by as_aux_lemma => kernel_rfl
theorem sx_10_7 : SxAt 10 7 := fun h => by as_aux_lemma => kernel_rfl
theorem sw_10_8 : SwAt 10 8 := fun h => by as_aux_lemma => kernel_rfl
theorem sx_10_8 : SxAt 10 8 := fun h => by as_aux_lemma => kernel_rfl
theorem sw_10_9 : SwAt 10 9 := fun h => by as_aux_lemma => kernel_rfl
theorem sx_10_9 : SxAt 10 9 := fun h => by as_aux_lemma => kernel_rfl
theorem sw_11_0 : SwAt 11 0 := fun h => by as_aux_lemma => kernel_rfl
theorem sx_11_0 : SxAt 11 0 := fun h => by as_aux_lemma => kernel_rfl
theorem sw_11_1 : SwAt 11 1 := fun h => by as_aux_lemma => kernel_rfl
theorem sx_11_1 : SxAt 11 1 := fun h => by as_aux_lemma => kernel_rfl
theorem sw_11_2 : SwAt 11 2 := fun h => by as_aux_lemma => kernel_rfl
theorem sx_11_2 : SxAt 11 2 := fun h => by as_aux_lemma => kernel_rfl
theorem sw_11_3 : SwAt 11 3 := fun h => by as_aux_lemma => kernel_rfl
theorem sx_11_3 : SxAt 11 3 := fun h => by as_aux_lemma => kernel_rfl
theorem sw_11_4 : SwAt 11 4 := fun h => by as_aux_lemma => kernel_rfl
theorem sx_11_4 : SxAt 11 4 := fun h => by as_aux_lemma => kernel_rfl
theorem sw_11_5 : SwAt 11 5 := fun h => by as_aux_lemma => kernel_rfl
theorem sx_11_5 : SxAt 11 5 := fun h => by as_aux_lemma => kernel_rfl
theorem sw_11_6 : SwAt 11 6 := fun h => by as_aux_lemma => kernel_rfl
theorem sx_11_6 : SxAt 11 6 := fun h => by as_aux_lemma => kernel_rfl
theorem sw_11_7 : SwAt 11 7 := fun h => by as_aux_lemma => kernel_rfl
theorem sx_11_7 : SxAt 11 7 := fun h => by as_aux_lemma => kernel_rfl
theorem sw_11_8 : SwAt 11 8 := fun h => by as_aux_lemma => kernel_rfl
theorem sx_11_8 : SxAt 11 8 := fun h => by as_aux_lemma => kernel_rfl
theorem sw_11_9 : SwAt 11 9 := fun h => by as_aux_lemma => kernel_rfl
theorem sx_11_9 : SxAt 11 9 := fun h => by as_aux_lemma => kernel_rfl
theorem sw_11_10 : SwAt 11 10 := fun h => by as_aux_lemma => kernel_rfl
theorem sx_11_10 : SxAt 11 10 := fun h => by as_aux_lemma => kernel_rfl
theorem sw_12_0 : SwAt 12 0 := fun h => by as_aux_lemma => kernel_rfl
theorem sx_12_0 : SxAt 12 0 := fun h => by as_aux_lemma => kernel_rfl
theorem sw_12_1 : SwAt 12 1 := fun h => by as_aux_lemma => kernel_rfl
theorem sx_12_1 : SxAt 12 1 := fun h => by as_aux_lemma => kernel_rfl
theorem sw_12_2 : SwAt 12 2 := fun h => by as_aux_lemma => kernel_rfl
theorem sx_12_2 : SxAt 12 2 := fun h => by as_aux_lemma => kernel_rfl
theorem sw_12_3 : SwAt 12 3 := fun h => by as_aux_lemma => kernel_rfl
theorem sx_12_3 : SxAt 12 3 := fun h => by as_aux_lemma => kernel_rfl
theorem sw_12_4 : SwAt 12 4 := fun h => by as_aux_lemma => kernel_rfl
theorem sx_12_4 : SxAt 12 4 := fun h => by as_aux_lemma => kernel_rfl
theorem sw_12_5 : SwAt 12 5 := fun h => by as_aux_lemma => kernel_rfl
theorem sx_12_5 : SxAt 12 5 := fun h => by as_aux_lemma => kernel_rfl
theorem sw_12_6 : SwAt 12 6 := fun h => by as_aux_lemma => kernel_rfl
theorem sx_12_6 : SxAt 12 6 := fun h => by as_aux_lemma => kernel_rfl
theorem sw_12_7 : SwAt 12 7 := fun h => by as_aux_lemma => kernel_rfl
theorem sx_12_7 : SxAt 12 7 := fun h => by as_aux_lemma => kernel_rfl
theorem sw_12_8 : SwAt 12 8 := fun h => by as_aux_lemma => kernel_rfl
theorem sx_12_8 : SxAt 12 8 := fun h => by as_aux_lemma => kernel_rfl
theorem sw_12_9 : SwAt 12 9 := fun h => by as_aux_lemma => kernel_rfl
theorem sx_12_9 : SxAt 12 9 := fun h => by as_aux_lemma => kernel_rfl
theorem sw_12_10 : SwAt 12 10 := fun h => by as_aux_lemma => kernel_rfl
theorem sx_12_10 : SxAt 12 10 := fun h => by as_aux_lemma => kernel_rfl
theorem sw_12_11 : SwAt 12 11 := fun h => by as_aux_lemma => kernel_rfl
theorem sx_12_11 : SxAt 12 11 := fun h => by as_aux_lemma => kernel_rfl
theorem sw_13_0 : SwAt 13 0 := fun h => by as_aux_lemma => kernel_rfl
theorem sx_13_0 : SxAt 13 0 := fun h => by as_aux_lemma => kernel_rfl
theorem sw_13_1 : SwAt 13 1 := fun h => by as_aux_lemma => kernel_rfl
theorem sx_13_1 : SxAt 13 1 := fun h => by as_aux_lemma => kernel_rfl
theorem sw_13_2 : SwAt 13 2 := fun h => by as_aux_lemma => kernel_rfl
theorem sx_13_2 : SxAt 13 2 := fun h => by as_aux_lemma => kernel_rfl
theorem sw_13_3 : SwAt 13 3 := fun h => by as_aux_lemma => kernel_rfl
theorem sx_13_3 : SxAt 13 3 := fun h => by as_aux_lemma => kernel_rfl
theorem sw_13_4 : SwAt 13 4 := fun h => by as_aux_lemma => kernel_rfl
theorem sx_13_4 : SxAt 13 4 := fun h => by as_aux_lemma => kernel_rfl
theorem sw_13_5 : SwAt 13 5 := fun h => by as_aux_lemma => kernel_rfl
theorem sx_13_5 : SxAt 13 5 := fun h => by as_aux_lemma => kernel_rfl
theorem sw_13_6 : SwAt 13 6 := fun h => by as_aux_lemma => kernel_rfl
theorem sx_13_6 : SxAt 13 6 := fun h => by as_aux_lemma => kernel_rfl
theorem sw_13_7 : SwAt 13 7 := fun h => by as_aux_lemma => kernel_rfl
theorem sx_13_7 : SxAt 13 7 := fun h => by as_aux_lemma => kernel_rfl
theorem sw_13_8 : SwAt 13 8 := fun h => by as_aux_lemma => kernel_rfl
theorem sx_13_8 : SxAt 13 8 := fun h => by as_aux_lemma => kernel_rfl
theorem sw_13_9 : SwAt 13 9 := fun h => by as_aux_lemma => kernel_rfl
theorem sx_13_9 : SxAt 13 9 := fun h => by as_aux_lemma => kernel_rfl
theorem sw_13_10 : SwAt 13 10 := fun h => by as_aux_lemma => kernel_rfl
theorem sx_13_10 : SxAt 13 10 := fun h => by as_aux_lemma => kernel_rfl
theorem sw_13_11 : SwAt 13 11 := fun h => by as_aux_lemma => kernel_rfl
theorem sx_13_11 : SxAt 13 11 := fun h => by as_aux_lemma => kernel_rfl
theorem sw_13_12 : SwAt 13 12 := fun h => by as_aux_lemma => kernel_rfl
theorem sx_13_12 : SxAt 13 12 := fun h => by as_aux_lemma => kernel_rfl
theorem sw_14_0 : SwAt 14 0 := fun h => by as_aux_lemma => kernel_rfl
theorem sx_14_0 : SxAt 14 0 := fun h => by as_aux_lemma => kernel_rfl
theorem sw_14_1 : SwAt 14 1 := fun h => by as_aux_lemma => kernel_rfl
theorem sx_14_1 : SxAt 14 1 := fun h => by as_aux_lemma => kernel_rfl
theorem sw_14_2 : SwAt 14 2 := fun h => by as_aux_lemma => kernel_rfl
theorem sx_14_2 : SxAt 14 2 := fun h => by as_aux_lemma => kernel_rfl
theorem sw_14_3 : SwAt 14 3 := fun h => by as_aux_lemma => kernel_rfl
theorem sx_14_3 : SxAt 14 3 := fun h => by as_aux_lemma => kernel_rfl
theorem sw_14_4 : SwAt 14 4 := fun h => by as_aux_lemma => kernel_rfl
theorem sx_14_4 : SxAt 14 4 := fun h => by as_aux_lemma => kernel_rfl
theorem sw_14_5 : SwAt 14 5 := fun h => by as_aux_lemma => kernel_rfl
theorem sx_14_5 : SxAt 14 5 := fun h => by as_aux_lemma => kernel_rfl
theorem sw_14_6 : SwAt 14 6 := fun h => by as_aux_lemma => kernel_rfl
theorem sx_14_6 : SxAt 14 6 := fun h => by as_aux_lemma => kernel_rfl
theorem sw_14_7 : SwAt 14 7 := fun h => by as_aux_lemma => kernel_rfl
theorem sx_14_7 : SxAt 14 7 := fun h => by as_aux_lemma => kernel_rfl
theorem sw_14_8 : SwAt 14 8 := fun h => by as_aux_lemma => kernel_rfl
theorem sx_14_8 : SxAt 14 8 := fun h => by as_aux_lemma => kernel_rfl
theorem sw_14_9 : SwAt 14 9 := fun h => by as_aux_lemma => kernel_rfl
theorem sx_14_9 : SxAt 14 9 := fun h => by as_aux_lemma => kernel_rfl
theorem sw_14_10 : SwAt 14 10 := fun h => by as_aux_lemma => kernel_rfl
theorem sx_14_10 : SxAt 14 10 := fun h => by as_aux_lemma => kernel_rfl
theorem sw_14_11 : SwAt 14 11 := fun h => by as_aux_lemma => kernel_rfl
theorem sx_14_11 : SxAt 14 11 := fun h => by as_aux_lemma => kernel_rfl
theorem sw_14_12 : SwAt 14 12 := fun h => by as_aux_lemma => kernel_rfl
theorem sx_14_12 : SxAt 14 12 := fun h => by as_aux_lemma => kernel_rfl
theorem sw_14_13 : SwAt 14 13 := fun h => by as_aux_lemma => kernel_rfl
theorem sx_14_13 : SxAt 14 13 := fun h => by as_aux_lemma => kernel_rfl
theorem sw_15_0 : SwAt 15 0 := fun h => by as_aux_lemma => kernel_rfl
theorem sx_15_0 : SxAt 15 0 := fun h => by as_aux_lemma => kernel_rfl
theorem sw_15_1 : SwAt 15 1 := fun h => by as_aux_lemma => kernel_rfl
theorem sx_15_1 : SxAt 15 1 := fun h => by as_aux_lemma => kernel_rfl
theorem sw_15_2 : SwAt 15 2 := fun h => by as_aux_lemma => kernel_rfl
theorem sx_15_2 : SxAt 15 2 := fun h => by as_aux_lemma => kernel_rfl
theorem sw_15_3 : SwAt 15 3 := fun h => by as_aux_lemma => kernel_rfl
theorem sx_15_3 : SxAt 15 3 := fun h => by as_aux_lemma => kernel_rfl
theorem sw_15_4 : SwAt 15 4 := fun h => by as_aux_lemma => kernel_rfl
theorem sx_15_4 : SxAt 15 4 := fun h => by as_aux_lemma => kernel_rfl
theorem sw_15_5 : SwAt 15 5 := fun h => by as_aux_lemma => kernel_rfl
theorem sx_15_5 : SxAt 15 5 := fun h => by as_aux_lemma => kernel_rfl
theorem sw_15_6 : SwAt 15 6 := fun h => by as_aux_lemma => kernel_rfl
theorem sx_15_6 : SxAt 15 6 := fun h => by as_aux_lemma => kernel_rfl
theorem sw_15_7 : SwAt 15 7 := fun h => by as_aux_lemma => kernel_rfl
theorem sx_15_7 : SxAt 15 7 := fun h => by as_aux_lemma => kernel_rfl
theorem sw_15_8 : SwAt 15 8 := fun h => by as_aux_lemma => kernel_rfl
theorem sx_15_8 : SxAt 15 8 := fun h => by as_aux_lemma => kernel_rfl
theorem sw_15_9 : SwAt 15 9 := fun h => by as_aux_lemma => kernel_rfl
theorem sx_15_9 : SxAt 15 9 := fun h => by as_aux_lemma => kernel_rfl
theorem sw_15_10 : SwAt 15 10 := fun h => by as_aux_lemma => kernel_rfl
theorem sx_15_10 : SxAt 15 10 := fun h => by as_aux_lemma => kernel_rfl
theorem sw_15_11 : SwAt 15 11 := fun h => by as_aux_lemma => kernel_rfl
theorem sx_15_11 : SxAt 15 11 := fun h => by as_aux_lemma => kernel_rfl
theorem sw_15_12 : SwAt 15 12 := fun h => by as_aux_lemma => kernel_rfl
theorem sx_15_12 : SxAt 15 12 := fun h => by as_aux_lemma => kernel_rfl
theorem sw_15_13 : SwAt 15 13 := fun h => by as_aux_lemma => kernel_rfl
theorem sx_15_13 : SxAt 15 13 := fun h => by as_aux_lemma => kernel_rfl
theorem sw_15_14 : SwAt 15 14 := fun h => by as_aux_lemma => kernel_rfl
theorem sx_15_14 : SxAt 15 14 := fun h => by as_aux_lemma => kernel_rfl
theorem sw_16_0 : SwAt 16 0 := fun h => by as_aux_lemma => kernel_rfl
theorem sx_16_0 : SxAt 16 0 := fun h => by as_aux_lemma => kernel_rfl
theorem sw_16_1 : SwAt 16 1 := fun h => by as_aux_lemma => kernel_rfl
theorem sx_16_1 : SxAt 16 1 := fun h => by as_aux_lemma => kernel_rfl
theorem sw_16_2 : SwAt 16 2 := fun h => by as_aux_lemma => kernel_rfl
theorem sx_16_2 : SxAt 16 2 := fun h => by as_aux_lemma => kernel_rfl
theorem sw_16_3 : SwAt 16 3 := fun h => by as_aux_lemma => kernel_rfl
theorem sx_16_3 : SxAt 16 3 := fun h => by as_aux_lemma => kernel_rfl
theorem sw_16_4 : SwAt 16 4 := fun h => by as_aux_lemma => kernel_rfl
theorem sx_16_4 : SxAt 16 4 := fun h => by as_aux_lemma => kernel_rfl
theorem sw_16_5 : SwAt 16 5 := fun h => by as_aux_lemma => kernel_rfl
theorem sx_16_5 : SxAt 16 5 := fun h => by as_aux_lemma => kernel_rfl
theorem sw_16_6 : SwAt 16 6 := fun h => by as_aux_lemma => kernel_rfl
theorem sx_16_6 : SxAt 16 6 := fun h => by as_aux_lemma => kernel_rfl
theorem sw_16_7 : SwAt 16 7 := fun h => by as_aux_lemma => kernel_rfl
theorem sx_16_7 : SxAt 16 7 := fun h => by as_aux_lemma => kernel_rfl
theorem sw_16_8 : SwAt 16 8 := fun h => by as_aux_lemma => kernel_rfl
theorem sx_16_8 : SxAt 16 8 := fun h => by as_aux_lemma => kernel_rfl
theorem sw_16_9 : SwAt 16 9 := fun h => by as_aux_lemma => kernel_rfl
theorem sx_16_9 : SxAt 16 9 := fun h => by as_aux_lemma => kernel_rfl
theorem sw_16_10 : SwAt 16 10 := fun h => by as_aux_lemma => kernel_rfl
theorem sx_16_10 : SxAt 16 10 := fun h => by as_aux_lemma => kernel_rfl
theorem sw_16_11 : SwAt 16 11 := fun h => by as_aux_lemma => kernel_rfl
theorem sx_16_11 : SxAt 16 11 := fun h => by as_aux_lemma => kernel_rfl
theorem sw_16_12 : SwAt 16 12 := fun h => by as_aux_lemma => kernel_rfl
theorem sx_16_12 : SxAt 16 12 := fun h => by as_aux_lemma => kernel_rfl
theorem sw_16_13 : SwAt 16 13 := fun h => by as_aux_lemma => kernel_rfl
theorem sx_16_13 : SxAt 16 13 := fun h => by as_aux_lemma => kernel_rfl
theorem sw_16_14 : SwAt 16 14 := fun h => by as_aux_lemma => kernel_rfl
theorem sx_16_14 : SxAt 16 14 := fun h => by as_aux_lemma => kernel_rfl
theorem sw_16_15 : SwAt 16 15 := fun h => by as_aux_lemma => kernel_rfl
theorem sx_16_15 : SxAt 16 15 := fun h => by as_aux_lemma => kernel_rfl
theorem sw_17_0 : SwAt 17 0 := fun h => by as_aux_lemma => kernel_rfl
theorem sx_17_0 : SxAt 17 0 := fun h => by as_aux_lemma => kernel_rfl
theorem sw_17_1 : SwAt 17 1 := fun h => by as_aux_lemma => kernel_rfl
theorem sx_17_1 : SxAt 17 1 := fun h => by as_aux_lemma => kernel_rfl
theorem sw_17_2 : SwAt 17 2 := fun h => by as_aux_lemma => kernel_rfl
theorem sx_17_2 : SxAt 17 2 := fun h => by as_aux_lemma => kernel_rfl
theorem sw_17_3 : SwAt 17 3 := fun h => by as_aux_lemma => kernel_rfl
theorem sx_17_3 : SxAt 17 3 := fun h => by as_aux_lemma => kernel_rfl
theorem sw_17_4 : SwAt 17 4 := fun h => by as_aux_lemma => kernel_rfl
theorem sx_17_4 : SxAt 17 4 := fun h => by as_aux_lemma => kernel_rfl
theorem sw_17_5 : SwAt 17 5 := fun h => by as_aux_lemma => kernel_rfl
theorem sx_17_5 : SxAt 17 5 := fun h => by as_aux_lemma => kernel_rfl
theorem sw_17_6 : SwAt 17 6 := fun h => by as_aux_lemma => kernel_rfl
theorem sx_17_6 : SxAt 17 6 := fun h => by as_aux_lemma => kernel_rfl
theorem sw_17_7 : SwAt 17 7 := fun h => by as_aux_lemma => kernel_rfl
theorem sx_17_7 : SxAt 17 7 := fun h => by as_aux_lemma => kernel_rfl
theorem sw_17_8 : SwAt 17 8 := fun h => by as_aux_lemma => kernel_rfl
theorem sx_17_8 : SxAt 17 8 := fun h => by as_aux_lemma => kernel_rfl
theorem sw_17_9 : SwAt 17 9 := fun h => by as_aux_lemma => kernel_rfl
theorem sx_17_9 : SxAt 17 9 := fun h => by as_aux_lemma => kernel_rfl
theorem sw_17_10 : SwAt 17 10 := fun h => by as_aux_lemma => kernel_rfl
theorem sx_17_10 : SxAt 17 10 := fun h => by as_aux_lemma => kernel_rfl
theorem sw_17_11 : SwAt 17 11 := fun h => by as_aux_lemma => kernel_rfl
theorem sx_17_11 : SxAt 17 11 := fun h => by as_aux_lemma => kernel_rfl
theorem sw_17_12 : SwAt 17 12 := fun h => by as_aux_lemma => kernel_rfl
theorem sx_17_12 : SxAt 17 12 := fun h => by as_aux_lemma => kernel_rfl
theorem sw_17_13 : SwAt 17 13 := fun h => by as_aux_lemma => kernel_rfl
theorem sx_17_13 : SxAt 17 13 := fun h => by as_aux_lemma => kernel_rfl
theorem sw_17_14 : SwAt 17 14 := fun h => by as_aux_lemma => kernel_rfl
theorem sx_17_14 : SxAt 17 14 := fun h => by as_aux_lemma => kernel_rfl
theorem sw_17_15 : SwAt 17 15 := fun h => by as_aux_lemma => kernel_rfl
theorem sx_17_15 : SxAt 17 15 := fun h => by as_aux_lemma => kernel_rfl
theorem sw_17_16 : SwAt 17 16 := fun h => by as_aux_lemma => kernel_rfl
theorem sx_17_16 : SxAt 17 16 := fun h => by as_aux_lemma => kernel_rfl
theorem sw_18_0 : SwAt 18 0 := fun h => by as_aux_lemma => kernel_rfl
theorem sx_18_0 : SxAt 18 0 := fun h => by as_aux_lemma => kernel_rfl
theorem sw_18_1 : SwAt 18 1 := fun h => by as_aux_lemma => kernel_rfl
theorem sx_18_1 : SxAt 18 1 := fun h => by as_aux_lemma => kernel_rfl
theorem sw_18_2 : SwAt 18 2 := fun h => by as_aux_lemma => kernel_rfl
theorem sx_18_2 : SxAt 18 2 := fun h => by as_aux_lemma => kernel_rfl
theorem sw_18_3 : SwAt 18 3 := fun h => by as_aux_lemma => kernel_rfl
theorem sx_18_3 : SxAt 18 3 := fun h => by as_aux_lemma => kernel_rfl
theorem sw_18_4 : SwAt 18 4 := fun h => by as_aux_lemma => kernel_rfl
theorem sx_18_4 : SxAt 18 4 := fun h => by as_aux_lemma => kernel_rfl
theorem sw_18_5 : SwAt 18 5 := fun h => by as_aux_lemma => kernel_rfl
theorem sx_18_5 : SxAt 18 5 := fun h => by as_aux_lemma => kernel_rfl
theorem sw_18_6 : SwAt 18 6 := fun h => by as_aux_lemma => kernel_rfl
theorem sx_18_6 : SxAt 18 6 := fun h => by as_aux_lemma => kernel_rfl
theorem sw_18_7 : SwAt 18 7 := fun h => by as_aux_lemma => kernel_rfl
theorem sx_18_7 : SxAt 18 7 := fun h => by as_aux_lemma => kernel_rfl
theorem sw_18_8 : SwAt 18 8 := fun h => by as_aux_lemma => kernel_rfl
theorem sx_18_8 : SxAt 18 8 := fun h => by as_aux_lemma => kernel_rfl
theorem sw_18_9 : SwAt 18 9 := fun h => by as_aux_lemma => kernel_rfl
theorem sx_18_9 : SxAt 18 9 := fun h => by as_aux_lemma => kernel_rfl
theorem sw_18_10 : SwAt 18 10 := fun h => by as_aux_lemma => kernel_rfl
theorem sx_18_10 : SxAt 18 10 := fun h => by as_aux_lemma => kernel_rfl
theorem sw_18_11 : SwAt 18 11 := fun h => by as_aux_lemma => kernel_rfl
theorem sx_18_11 : SxAt 18 11 := fun h => by as_aux_lemma => kernel_rfl
theorem sw_18_12 : SwAt 18 12 := fun h => by as_aux_lemma => kernel_rfl
theorem sx_18_12 : SxAt 18 12 := fun h => by as_aux_lemma => kernel_rfl
theorem sw_18_13 : SwAt 18 13 := fun h => by as_aux_lemma => kernel_rfl
theorem sx_18_13 : SxAt 18 13 := fun h => by as_aux_lemma => kernel_rfl
theorem sw_18_14 : SwAt 18 14 := fun h => by as_aux_lemma => kernel_rfl
theorem sx_18_14 : SxAt 18 14 := fun h => by as_aux_lemma => kernel_rfl
theorem sw_18_15 : SwAt 18 15 := fun h => by as_aux_lemma => kernel_rfl
theorem sx_18_15 : SxAt 18 15 := fun h => by as_aux_lemma => kernel_rfl
theorem sw_18_16 : SwAt 18 16 := fun h => by as_aux_lemma => kernel_rfl
theorem sx_18_16 : SxAt 18 16 := fun h => by as_aux_lemma => kernel_rfl
theorem sw_18_17 : SwAt 18 17 := fun h => by as_aux_lemma => kernel_rfl
theorem sx_18_17 : SxAt 18 17 := fun h => by as_aux_lemma => kernel_rfl
theorem sw_19_0 : SwAt 19 0 := fun h => by as_aux_lemma => kernel_rfl
theorem sx_19_0 : SxAt 19 0 := fun h => by as_aux_lemma => kernel_rfl
theorem sw_19_1 : SwAt 19 1 := fun h => by as_aux_lemma => kernel_rfl
theorem sx_19_1 : SxAt 19 1 := fun h => by as_aux_lemma => kernel_rfl
theorem sw_19_2 : SwAt 19 2 := fun h => by as_aux_lemma => kernel_rfl
theorem sx_19_2 : SxAt 19 2 := fun h => by as_aux_lemma => kernel_rfl
theorem sw_19_3 : SwAt 19 3 := fun h => by as_aux_lemma => kernel_rfl
theorem sx_19_3 : SxAt 19 3 := fun h => by as_aux_lemma => kernel_rfl
theorem sw_19_4 : SwAt 19 4 := fun h => by as_aux_lemma => kernel_rfl
theorem sx_19_4 : SxAt 19 4 := fun h => by as_aux_lemma => kernel_rfl
theorem sw_19_5 : SwAt 19 5 := fun h => by as_aux_lemma => kernel_rfl
theorem sx_19_5 : SxAt 19 5 := fun h => by as_aux_lemma => kernel_rfl
theorem sw_19_6 : SwAt 19 6 := fun h => by as_aux_lemma => kernel_rfl
theorem sx_19_6 : SxAt 19 6 := fun h => by as_aux_lemma => kernel_rfl
theorem sw_19_7 : SwAt 19 7 := fun h => by as_aux_lemma => kernel_rfl
theorem sx_19_7 : SxAt 19 7 := fun h => by as_aux_lemma => kernel_rfl
theorem sw_19_8 : SwAt 19 8 := fun h => by as_aux_lemma => kernel_rfl
theorem sx_19_8 : SxAt 19 8 := fun h => by as_aux_lemma => kernel_rfl
theorem sw_19_9 : SwAt 19 9 := fun h => by as_aux_lemma => kernel_rfl
theorem sx_19_9 : SxAt 19 9 := fun h => by as_aux_lemma => kernel_rfl
theorem sw_19_10 : SwAt 19 10 := fun h => by as_aux_lemma => kernel_rfl
theorem sx_19_10 : SxAt 19 10 := fun h => by as_aux_lemma => kernel_rfl
theorem sw_19_11 : SwAt 19 11 := fun h => by as_aux_lemma => kernel_rfl
theorem sx_19_11 : SxAt 19 11 := fun h => by as_aux_lemma => kernel_rfl
theorem sw_19_12 : SwAt 19 12 := fun h => by as_aux_lemma => kernel_rfl
theorem sx_19_12 : SxAt 19 12 := fun h => by as_aux_lemma => kernel_rfl
theorem sw_19_13 : SwAt 19 13 := fun h => by as_aux_lemma => kernel_rfl
theorem sx_19_13 : SxAt 19 13 := fun h => by as_aux_lemma => kernel_rfl
theorem sw_19_14 : SwAt 19 14 := fun h => by as_aux_lemma => kernel_rfl
theorem sx_19_14 : SxAt 19 14 := fun h => by as_aux_lemma => kernel_rfl
theorem sw_19_15 : SwAt 19 15 := fun h => by as_aux_lemma => kernel_rfl
theorem sx_19_15 : SxAt 19 15 := fun h => by as_aux_lemma => kernel_rfl
theorem sw_19_16 : SwAt 19 16 := fun h => by as_aux_lemma => kernel_rfl
theorem sx_19_16 : SxAt 19 16 := fun h => by as_aux_lemma => kernel_rfl
theorem sw_19_17 : SwAt 19 17 := fun h => by as_aux_lemma => kernel_rfl
theorem sx_19_17 : SxAt 19 17 := fun h => by as_aux_lemma => kernel_rfl
theorem sw_19_18 : SwAt 19 18 := fun h => by as_aux_lemma => kernel_rfl
theorem sx_19_18 : SxAt 19 18 := fun h => by as_aux_lemma => kernel_rfl
theorem sw_20_0 : SwAt 20 0 := fun h => by as_aux_lemma => kernel_rfl
theorem sx_20_0 : SxAt 20 0 := fun h => by as_aux_lemma => kernel_rfl
theorem sw_20_1 : SwAt 20 1 := fun h => by as_aux_lemma => kernel_rfl
theorem sx_20_1 : SxAt 20 1 := fun h => by as_aux_lemma => kernel_rfl
theorem sw_20_2 : SwAt 20 2 := fun h => by as_aux_lemma => kernel_rfl
theorem sx_20_2 : SxAt 20 2 := fun h => by as_aux_lemma => kernel_rfl
theorem sw_20_3 : SwAt 20 3 := fun h => by as_aux_lemma => kernel_rfl
theorem sx_20_3 : SxAt 20 3 := fun h => by as_aux_lemma => kernel_rfl
theorem sw_20_4 : SwAt 20 4 := fun h => by as_aux_lemma => kernel_rfl
theorem sx_20_4 : SxAt 20 4 := fun h => by as_aux_lemma => kernel_rfl
theorem sw_20_5 : SwAt 20 5 := fun h => by as_aux_lemma => kernel_rfl
theorem sx_20_5 : SxAt 20 5 := fun h => by as_aux_lemma => kernel_rfl
theorem sw_20_6 : SwAt 20 6 := fun h => by as_aux_lemma => kernel_rfl
theorem sx_20_6 : SxAt 20 6 := fun h => by as_aux_lemma => kernel_rfl
theorem sw_20_7 : SwAt 20 7 := fun h => by as_aux_lemma => kernel_rfl
theorem sx_20_7 : SxAt 20 7 := fun h => by as_aux_lemma => kernel_rfl
theorem sw_20_8 : SwAt 20 8 := fun h => by as_aux_lemma => kernel_rfl
theorem sx_20_8 : SxAt 20 8 := fun h => by as_aux_lemma => kernel_rfl
theorem sw_20_9 : SwAt 20 9 := fun h => by as_aux_lemma => kernel_rfl
theorem sx_20_9 : SxAt 20 9 := fun h => by as_aux_lemma => kernel_rfl
theorem sw_20_10 : SwAt 20 10 := fun h => by as_aux_lemma => kernel_rfl
theorem sx_20_10 : SxAt 20 10 := fun h => by as_aux_lemma => kernel_rfl
theorem sw_20_11 : SwAt 20 11 := fun h => by as_aux_lemma => kernel_rfl
theorem sx_20_11 : SxAt 20 11 := fun h => by as_aux_lemma => kernel_rfl
theorem sw_20_12 : SwAt 20 12 := fun h => by as_aux_lemma => kernel_rfl
theorem sx_20_12 : SxAt 20 12 := fun h => by as_aux_lemma => kernel_rfl
theorem sw_20_13 : SwAt 20 13 := fun h => by as_aux_lemma => kernel_rfl
theorem sx_20_13 : SxAt 20 13 := fun h => by as_aux_lemma => kernel_rfl
theorem sw_20_14 : SwAt 20 14 := fun h => by as_aux_lemma => kernel_rfl
theorem sx_20_14 : SxAt 20 14 := fun h => by as_aux_lemma => kernel_rfl
theorem sw_20_15 : SwAt 20 15 := fun h => by as_aux_lemma => kernel_rfl
theorem sx_20_15 : SxAt 20 15 := fun h => by as_aux_lemma => kernel_rfl
theorem sw_20_16 : SwAt 20 16 := fun h => by as_aux_lemma => kernel_rfl
theorem sx_20_16 : SxAt 20 16 := fun h => by as_aux_lemma => kernel_rfl
theorem sw_20_17 : SwAt 20 17 := fun h => by as_aux_lemma => kernel_rfl
theorem sx_20_17 : SxAt 20 17 := fun h => by as_aux_lemma => kernel_rfl
theorem sw_20_18 : SwAt 20 18 := fun h => by as_aux_lemma => kernel_rfl
theorem sx_20_18 : SxAt 20 18 := fun h => by as_aux_lemma => kernel_rfl
theorem sw_20_19 : SwAt 20 19 := fun h => by as_aux_lemma => kernel_rfl
theorem sx_20_19 : SxAt 20 19 := fun h => by as_aux_lemma => kernel_rfl
theorem sw_21_0 : SwAt 21 0 := fun h => by as_aux_lemma => kernel_rfl
theorem sx_21_0 : SxAt 21 0 := fun h => by as_aux_lemma => kernel_rfl
theorem sw_21_1 : SwAt 21 1 := fun h => by as_aux_lemma => kernel_rfl
theorem sx_21_1 : SxAt 21 1 := fun h => by as_aux_lemma => kernel_rfl
theorem sw_21_2 : SwAt 21 2 := fun h => by as_aux_lemma => kernel_rfl
theorem sx_21_2 : SxAt 21 2 := fun h => by as_aux_lemma => kernel_rfl
theorem sw_21_3 : SwAt 21 3 := fun h => by as_aux_lemma => kernel_rfl
theorem sx_21_3 : SxAt 21 3 := fun h => by as_aux_lemma => kernel_rfl
theorem sw_21_4 : SwAt 21 4 := fun h => by as_aux_lemma => kernel_rfl
theorem sx_21_4 : SxAt 21 4 := fun h => by as_aux_lemma => kernel_rfl
theorem sw_21_5 : SwAt 21 5 := fun h => by as_aux_lemma => kernel_rfl
theorem sx_21_5 : SxAt 21 5 := fun h => by as_aux_lemma => kernel_rfl
theorem sw_21_6 : SwAt 21 6 := fun h => by as_aux_lemma => kernel_rfl
theorem sx_21_6 : SxAt 21 6 := fun h => by as_aux_lemma => kernel_rfl
theorem sw_21_7 : SwAt 21 7 := fun h => by as_aux_lemma => kernel_rfl
theorem sx_21_7 : SxAt 21 7 := fun h => by as_aux_lemma => kernel_rfl
theorem sw_21_8 : SwAt 21 8 := fun h => by as_aux_lemma => kernel_rfl
theorem sx_21_8 : SxAt 21 8 := fun h => by as_aux_lemma => kernel_rfl
theorem sw_21_9 : SwAt 21 9 := fun h => by as_aux_lemma => kernel_rfl
theorem sx_21_9 : SxAt 21 9 := fun h => by as_aux_lemma => kernel_rfl
theorem sw_21_10 : SwAt 21 10 := fun h => by as_aux_lemma => kernel_rfl
theorem sx_21_10 : SxAt 21 10 := fun h => by as_aux_lemma => kernel_rfl
theorem sw_21_11 : SwAt 21 11 := fun h => by as_aux_lemma => kernel_rfl
theorem sx_21_11 : SxAt 21 11 := fun h => by as_aux_lemma => kernel_rfl
theorem sw_21_12 : SwAt 21 12 := fun h => by as_aux_lemma => kernel_rfl
theorem sx_21_12 : SxAt 21 12 := fun h => by as_aux_lemma => kernel_rfl
theorem sw_21_13 : SwAt 21 13 := fun h => by as_aux_lemma => kernel_rfl
theorem sx_21_13 : SxAt 21 13 := fun h => by as_aux_lemma => kernel_rfl
theorem sw_21_14 : SwAt 21 14 := fun h => by as_aux_lemma => kernel_rfl
theorem sx_21_14 : SxAt 21 14 := fun h => by as_aux_lemma => kernel_rfl
theorem sw_21_15 : SwAt 21 15 := fun h => by as_aux_lemma => kernel_rfl
theorem sx_21_15 : SxAt 21 15 := fun h => by as_aux_lemma => kernel_rfl
theorem sw_21_16 : SwAt 21 16 := fun h => by as_aux_lemma => kernel_rfl
theorem sx_21_16 : SxAt 21 16 := fun h => by as_aux_lemma => kernel_rfl
theorem sw_21_17 : SwAt 21 17 := fun h => by as_aux_lemma => kernel_rfl
theorem sx_21_17 : SxAt 21 17 := fun h => by as_aux_lemma => kernel_rfl
theorem sw_21_18 : SwAt 21 18 := fun h => by as_aux_lemma => kernel_rfl
theorem sx_21_18 : SxAt 21 18 := fun h => by as_aux_lemma => kernel_rfl
theorem sw_21_19 : SwAt 21 19 := fun h => by as_aux_lemma => kernel_rfl
theorem sx_21_19 : SxAt 21 19 := fun h => by as_aux_lemma => kernel_rfl
theorem sw_21_20 : SwAt 21 20 := fun h => by as_aux_lemma => kernel_rfl
theorem sx_21_20 : SxAt 21 20 := fun h => by as_aux_lemma => kernel_rfl
theorem sw_22_0 : SwAt 22 0 := fun h => by as_aux_lemma => kernel_rfl
theorem sx_22_0 : SxAt 22 0 := fun h => by as_aux_lemma => kernel_rfl
theorem sw_22_1 : SwAt 22 1 := fun h => by as_aux_lemma => kernel_rfl
theorem sx_22_1 : SxAt 22 1 := fun h => by as_aux_lemma => kernel_rfl
theorem sw_22_2 : SwAt 22 2 := fun h => by as_aux_lemma => kernel_rfl
theorem sx_22_2 : SxAt 22 2 := fun h => by as_aux_lemma => kernel_rfl
theorem sw_22_3 : SwAt 22 3 := fun h => by as_aux_lemma => kernel_rfl
theorem sx_22_3 : SxAt 22 3 := fun h => by as_aux_lemma => kernel_rfl
theorem sw_22_4 : SwAt 22 4 := fun h => by as_aux_lemma => kernel_rfl
theorem sx_22_4 : SxAt 22 4 := fun h => by as_aux_lemma => kernel_rfl
theorem sw_22_5 : SwAt 22 5 := fun h => by as_aux_lemma => kernel_rfl
theorem sx_22_5 : SxAt 22 5 := fun h => by as_aux_lemma => kernel_rfl
theorem sw_22_6 : SwAt 22 6 := fun h => by as_aux_lemma => kernel_rfl
theorem sx_22_6 : SxAt 22 6 := fun h => by as_aux_lemma => kernel_rfl
theorem sw_22_7 : SwAt 22 7 := fun h => by as_aux_lemma => kernel_rfl
theorem sx_22_7 : SxAt 22 7 := fun h => by as_aux_lemma => kernel_rfl
theorem sw_22_8 : SwAt 22 8 := fun h => by as_aux_lemma => kernel_rfl
theorem sx_22_8 : SxAt 22 8 := fun h => by as_aux_lemma => kernel_rfl
theorem sw_22_9 : SwAt 22 9 := fun h => by as_aux_lemma => kernel_rfl
theorem sx_22_9 : SxAt 22 9 := fun h => by as_aux_lemma => kernel_rfl
theorem sw_22_10 : SwAt 22 10 := fun h => by as_aux_lemma => kernel_rfl
theorem sx_22_10 : SxAt 22 10 := fun h => by as_aux_lemma => kernel_rfl
theorem sw_22_11 : SwAt 22 11 := fun h => by as_aux_lemma => kernel_rfl
theorem sx_22_11 : SxAt 22 11 := fun h => by as_aux_lemma => kernel_rfl
theorem sw_22_12 : SwAt 22 12 := fun h => by as_aux_lemma => kernel_rfl
theorem sx_22_12 : SxAt 22 12 := fun h => by as_aux_lemma => kernel_rfl
theorem sw_22_13 : SwAt 22 13 := fun h => by as_aux_lemma => kernel_rfl
theorem sx_22_13 : SxAt 22 13 := fun h => by as_aux_lemma => kernel_rfl
theorem sw_22_14 : SwAt 22 14 := fun h => by as_aux_lemma => kernel_rfl
theorem sx_22_14 : SxAt 22 14 := fun h => by as_aux_lemma => kernel_rfl
theorem sw_22_15 : SwAt 22 15 := fun h => by as_aux_lemma => kernel_rfl
theorem sx_22_15 : SxAt 22 15 := fun h => by as_aux_lemma => kernel_rfl
theorem sw_22_16 : SwAt 22 16 := fun h => by as_aux_lemma => kernel_rfl
theorem sx_22_16 : SxAt 22 16 := fun h => by as_aux_lemma => kernel_rfl
theorem sw_22_17 : SwAt 22 17 := fun h => by as_aux_lemma => kernel_rfl
theorem sx_22_17 : SxAt 22 17 := fun h => by as_aux_lemma => kernel_rfl
theorem sw_22_18 : SwAt 22 18 := fun h => by as_aux_lemma => kernel_rfl
theorem sx_22_18 : SxAt 22 18 := fun h => by as_aux_lemma => kernel_rfl
theorem sw_22_19 : SwAt 22 19 := fun h => by as_aux_lemma => kernel_rfl
theorem sx_22_19 : SxAt 22 19 := fun h => by as_aux_lemma => kernel_rfl
theorem sw_22_20 : SwAt 22 20 := fun h => by as_aux_lemma => kernel_rfl
theorem sx_22_20 : SxAt 22 20 := fun h => by as_aux_lemma => kernel_rfl
theorem sw_22_21 : SwAt 22 21 := fun h => by as_aux_lemma => kernel_rfl
theorem sx_22_21 : SxAt 22 21 := fun h => by as_aux_lemma => kernel_rfl
theorem sw_23_0 : SwAt 23 0 := fun h => by as_aux_lemma => kernel_rfl
theorem sx_23_0 : SxAt 23 0 := fun h => by as_aux_lemma => kernel_rfl
theorem sw_23_1 : SwAt 23 1 := fun h => by as_aux_lemma => kernel_rfl
theorem sx_23_1 : SxAt 23 1 := fun h => by as_aux_lemma => kernel_rfl
theorem sw_23_2 : SwAt 23 2 := fun h => by as_aux_lemma => kernel_rfl
theorem sx_23_2 : SxAt 23 2 := fun h => by as_aux_lemma => kernel_rfl
theorem sw_23_3 : SwAt 23 3 := fun h => by as_aux_lemma => kernel_rfl
theorem sx_23_3 : SxAt 23 3 := fun h => by as_aux_lemma => kernel_rfl
theorem sw_23_4 : SwAt 23 4 := fun h => by as_aux_lemma => kernel_rfl
theorem sx_23_4 : SxAt 23 4 := fun h => by as_aux_lemma => kernel_rfl
theorem sw_23_5 : SwAt 23 5 := fun h => by as_aux_lemma => kernel_rfl
theorem sx_23_5 : SxAt 23 5 := fun h => by as_aux_lemma => kernel_rfl
theorem sw_23_6 : SwAt 23 6 := fun h => by as_aux_lemma => kernel_rfl
theorem sx_23_6 : SxAt 23 6 := fun h => by as_aux_lemma => kernel_rfl
theorem sw_23_7 : SwAt 23 7 := fun h => by as_aux_lemma => kernel_rfl
theorem sx_23_7 : SxAt 23 7 := fun h => by as_aux_lemma => kernel_rfl
theorem sw_23_8 : SwAt 23 8 := fun h => by as_aux_lemma => kernel_rfl
theorem sx_23_8 : SxAt 23 8 := fun h => by as_aux_lemma => kernel_rfl
theorem sw_23_9 : SwAt 23 9 := fun h => by as_aux_lemma => kernel_rfl
theorem sx_23_9 : SxAt 23 9 := fun h => by as_aux_lemma => kernel_rfl
theorem sw_23_10 : SwAt 23 10 := fun h => by as_aux_lemma => kernel_rfl
theorem sx_23_10 : SxAt 23 10 := fun h => by as_aux_lemma => kernel_rfl
theorem sw_23_11 : SwAt 23 11 := fun h => by as_aux_lemma => kernel_rfl
theorem sx_23_11 : SxAt 23 11 := fun h => by as_aux_lemma => kernel_rfl
theorem sw_23_12 : SwAt 23 12 := fun h => by as_aux_lemma => kernel_rfl
theorem sx_23_12 : SxAt 23 12 := fun h => by as_aux_lemma => kernel_rfl
theorem sw_23_13 : SwAt 23 13 := fun h => by as_aux_lemma => kernel_rfl
theorem sx_23_13 : SxAt 23 13 := fun h => by as_aux_lemma => kernel_rfl
theorem sw_23_14 : SwAt 23 14 := fun h => by as_aux_lemma => kernel_rfl
theorem sx_23_14 : SxAt 23 14 := fun h => by as_aux_lemma => kernel_rfl
theorem sw_23_15 : SwAt 23 15 := fun h => by as_aux_lemma => kernel_rfl
theorem sx_23_15 : SxAt 23 15 := fun h => by as_aux_lemma => kernel_rfl
theorem sw_23_16 : SwAt 23 16 := fun h => by as_aux_lemma => kernel_rfl
theorem sx_23_16 : SxAt 23 16 := fun h => by as_aux_lemma => kernel_rfl
theorem sw_23_17 : SwAt 23 17 := fun h => by as_aux_lemma => kernel_rfl
theorem sx_23_17 : SxAt 23 17 := fun h => by as_aux_lemma => kernel_rfl
theorem sw_23_18 : SwAt 23 18 := fun h => by as_aux_lemma => kernel_rfl
theorem sx_23_18 : SxAt 23 18 := fun h => by as_aux_lemma => kernel_rfl
theorem sw_23_19 : SwAt 23 19 := fun h => by as_aux_lemma => kernel_rfl
theorem sx_23_19 : SxAt 23 19 := fun h => by as_aux_lemma => kernel_rfl
theorem sw_23_20 : SwAt 23 20 := fun h => by as_aux_lemma => kernel_rfl
theorem sx_23_20 : SxAt 23 20 := fun h => by as_aux_lemma => kernel_rfl
theorem sw_23_21 : SwAt 23 21 := fun h => by as_aux_lemma => kernel_rfl
theorem sx_23_21 : SxAt 23 21 := fun h => by as_aux_lemma => kernel_rfl
theorem sw_23_22 : SwAt 23 22 := fun h => by as_aux_lemma => kernel_rfl
theorem sx_23_22 : SxAt 23 22 := fun h => by as_aux_lemma => kernel_rfl
abbrev nums : List Nat := [0, 1, 2, 3, 4, 5, 6, 7, 8, 9, 10, 11, 12, 13, 14, 15, 16, 17, 18, 19, 20, 21, 22, 23]
abbrev prs : List (Nat × Nat) := [(1, 0), (2, 0), (2, 1), (3, 0), (3, 1), (3, 2), (4, 0), (4, 1), (4, 2), (4, 3), (5, 0), (5, 1), (5, 2), (5, 3), (5, 4), (6, 0), (6, 1), (6, 2), (6, 3), (6, 4), (6, 5), (7, 0), (7, 1), (7, 2), (7, 3), (7, 4), (7, 5), (7, 6), (8, 0), (8, 1), (8, 2), (8, 3), (8, 4), (8, 5), (8, 6), (8, 7), (9, 0), (9, 1), (9, 2), (9, 3), (9, 4), (9, 5), (9, 6), (9, 7), (9, 8), (10, 0), (10, 1), (10, 2), (10, 3), (10, 4), (10, 5), (10, 6), (10, 7), (10, 8), (10, 9), (11, 0), (11, 1), (11, 2), (11, 3), (11, 4), (11, 5), (11, 6), (11, 7), (11, 8), (11, 9), (11, 10), (12, 0), (12, 1), (12, 2), (12, 3), (12, 4), (12, 5), (12, 6), (12, 7), (12, 8), (12, 9), (12, 10), (12, 11), (13, 0), (13, 1), (13, 2), (13, 3), (13, 4), (13, 5), (13, 6), (13, 7), (13, 8), (13, 9), (13, 10), (13, 11), (13, 12), (14, 0), (14, 1), (14, 2), (14, 3), (14, 4), (14, 5), (14, 6), (14, 7), (14, 8), (14, 9), (14, 10), (14, 11), (14, 12), (14, 13), (15, 0), (15, 1), (15, 2), (15, 3), (15, 4), (15, 5), (15, 6), (15, 7), (15, 8), (15, 9), (15, 10), (15, 11), (15, 12), (15, 13), (15, 14), (16, 0), (16, 1), (16, 2), (16, 3), (16, 4), (16, 5), (16, 6), (16, 7), (16, 8), (16, 9), (16, 10), (16, 11), (16, 12), (16, 13), (16, 14), (16, 15), (17, 0), (17, 1), (17, 2), (17, 3), (17, 4), (17, 5), (17, 6), (17, 7), (17, 8), (17, 9), (17, 10), (17, 11), (17, 12), (17, 13), (17, 14), (17, 15), (17, 16), (18, 0), (18, 1), (18, 2), (18, 3), (18, 4), (18, 5), (18, 6), (18, 7), (18, 8), (18, 9), (18, 10), (18, 11), (18, 12), (18, 13), (18, 14), (18, 15), (18, 16), (18, 17), (19, 0), (19, 1), (19, 2), (19, 3), (19, 4), (19, 5), (19, 6), (19, 7), (19, 8), (19, 9), (19, 10), (19, 11), (19, 12), (19, 13), (19, 14), (19, 15), (19, 16), (19, 17), (19, 18), (20, 0), (20, 1), (20, 2), (20, 3), (20, 4), (20, 5), (20, 6), (20, 7), (20, 8), (20, 9), (20, 10), (20, 11), (20, 12), (20, 13), (20, 14), (20, 15), (20, 16), (20, 17), (20, 18), (20, 19), (21, 0), (21, 1), (21, 2), (21, 3), (21, 4), (21, 5), (21, 6), (21, 7), (21, 8), (21, 9), (21, 10), (21, 11), (21, 12), (21, 13), (21, 14), (21, 15), (21, 16), (21, 17), (21, 18), (21, 19), (21, 20), (22, 0), (22, 1), (22, 2), (22, 3), (22, 4), (22, 5), (22, 6), (22, 7), (22, 8), (22, 9), (22, 10), (22, 11), (22, 12), (22, 13), (22, 14), (22, 15), (22, 16), (22, 17), (22, 18), (22, 19), (22, 20), (22, 21), (23, 0), (23, 1), (23, 2), (23, 3), (23, 4), (23, 5), (23, 6), (23, 7), (23, 8), (23, 9), (23, 10), (23, 11), (23, 12), (23, 13), (23, 14), (23, 15), (23, 16), (23, 17), (23, 18), (23, 19), (23, 20), (23, 21), (23, 22)]
theorem nums_all : ∀ i, i < 24 → i ∈ nums := by decide +kernel
theorem prs_all : ∀ i, i < 24 → ∀ k, k < i → (i, k) ∈ prs := by decide +kernel
theorem hd_all : ∀ i ∈ nums, HdAt i := (allCons hd_0 (allCons hd_1 (allCons hd_2 (allCons hd_3 (allCons hd_4 (allCons hd_5 (allCons hd_6 (allCons hd_7 (allCons hd_8 (allCons hd_9 (allCons hd_10 (allCons hd_11 (allCons hd_12 (allCons hd_13 (allCons hd_14 (allCons hd_15 (allCons hd_16 (allCons hd_17 (allCons hd_18 (allCons hd_19 (allCons hd_20 (allCons hd_21 (allCons hd_22 (allCons hd_23 allNil))))))))))))))))))))))))
theorem ap_all : ∀ i ∈ nums, ApAt i := (allCons ap_0 (allCons ap_1 (allCons ap_2 (allCons ap_3 (allCons ap_4 (allCons ap_5 (allCons ap_6 (allCons ap_7 (allCons ap_8 (allCons ap_9 (allCons ap_10 (allCons ap_11 (allCons ap_12 (allCons ap_13 (allCons ap_14 (allCons ap_15 (allCons ap_16 (allCons ap_17 (allCons ap_18 (allCons ap_19 (allCons ap_20 (allCons ap_21 (allCons ap_22 (allCons ap_23 allNil))))))))))))))))))))))))
theorem sz_all : ∀ i ∈ nums, SzAt i := (allCons sz_0 (allCons sz_1 (allCons sz_2 (allCons sz_3 (allCons sz_4 (allCons sz_5 (allCons sz_6 (allCons sz_7 (allCons sz_8 (allCons sz_9 (allCons sz_10 (allCons sz_11 (allCons sz_12 (allCons sz_13 (allCons sz_14 (allCons sz_15 (allCons sz_16 (allCons sz_17 (allCons sz_18 (allCons sz_19 (allCons sz_20 (allCons sz_21 (allCons sz_22 (allCons sz_23 allNil))))))))))))))))))))))))
theorem up_all : ∀ i ∈ nums, UpAt i := (allCons up_0 (allCons up_1 (allCons up_2 (allCons up_3 (allCons up_4 (allCons up_5 (allCons up_6 (allCons up_7 (allCons up_8 (allCons up_9 (allCons up_10 (allCons up_11 (allCons up_12 (allCons up_13 (allCons up_14 (allCons up_15 (allCons up_16 (allCons up_17 (allCons up_18 (allCons up_19 (allCons up_20 (allCons up_21 (allCons up_22 (allCons up_23 allNil))))))))))))))))))))))))
theorem sw_all : ∀ p ∈ prs, SwAt p.1 p.2 := (allCons sw_1_0 (allCons sw_2_0 (allCons sw_2_1 (allCons sw_3_0 (allCons sw_3_1 (allCons sw_3_2 (allCons sw_4_0 (allCons sw_4_1 (allCons sw_4_2 (allCons sw_4_3 (allCons sw_5_0 (allCons sw_5_1 (allCons sw_5_2 (allCons sw_5_3 (allCons sw_5_4 (allCons sw_6_0 (allCons sw_6_1 (allCons sw_6_2 (allCons sw_6_3 (allCons sw_6_4 (allCons sw_6_5 (allCons sw_7_0 (allCons sw_7_1 (allCons sw_7_2 (allCons sw_7_3 (allCons sw_7_4 (allCons sw_7_5 (allCons sw_7_6 (allCons sw_8_0 (allCons sw_8_1 (allCons sw_8_2 (allCons sw_8_3 (allCons sw_8_4 (allCons sw_8_5 (allCons sw_8_6 (allCons sw_8_7 (allCons sw_9_0 (allCons sw_9_1 (allCons sw_9_2 (allCons sw_9_3 (allCons sw_9_4 (allCons sw_9_5 (allCons sw_9_6 (allCons sw_9_7 (allCons sw_9_8 (allCons sw_10_0 (allCons sw_10_1 (allCons sw_10_2 (allCons sw_10_3 (allCons sw_10_4 (allCons sw_10_5 (allCons sw_10_6 (allCons sw_10_7 (allCons sw_10_8 (allCons sw_10_9 (allCons sw_11_0 (allCons sw_11_1 (allCons sw_11_2 (allCons sw_11_3 (allCons sw_11_4 (allCons sw_11_5 (allCons sw_11_6 (allCons sw_11_7 (allCons sw_11_8 (allCons sw_11_9 (allCons sw_11_10 (allCons sw_12_0 (allCons sw_12_1 (allCons sw_12_2 (allCons sw_12_3 (allCons sw_12_4 (allCons sw_12_5 (allCons sw_12_6 (allCons sw_12_7 (allCons sw_12_8 (allCons sw_12_9 (allCons sw_12_10 (allCons sw_12_11 (allCons sw_13_0 (allCons sw_13_1 (allCons sw_13_2 (allCons sw_13_3 (allCons sw_13_4 (allCons sw_13_5 (allCons sw_13_6 (allCons sw_13_7 (allCons sw_13_8 (allCons sw_13_9 (allCons sw_13_10 (allCons sw_13_11 (allCons sw_13_12 (allCons sw_14_0 (allCons sw_14_1 (allCons sw_14_2 (allCons sw_14_3 (allCons sw_14_4 (allCons sw_14_5 (allCons sw_14_6 (allCons sw_14_7 (allCons sw_14_8 (allCons sw_14_9 (allCons sw_14_10 (allCons sw_14_11 (allCons sw_14_12 (allCons sw_14_13 (allCons sw_15_0 (allCons sw_15_1 (allCons sw_15_2 (allCons sw_15_3 (allCons sw_15_4 (allCons sw_15_5 (allCons sw_15_6 (allCons sw_15_7 (allCons sw_15_8 (allCons sw_15_9 (allCons sw_15_10 (allCons sw_15_11 (allCons sw_15_12 (allCons sw_15_13 (allCons sw_15_14 (allCons sw_16_0 (allCons sw_16_1 (allCons sw_16_2 (allCons sw_16_3 (allCons sw_16_4 (allCons sw_16_5 (allCons sw_16_6 (allCons sw_16_7 (allCons sw_16_8 (allCons sw_16_9 (allCons sw_16_10 (allCons sw_16_11 (allCons sw_16_12 (allCons sw_16_13 (allCons sw_16_14 (allCons sw_16_15 (allCons sw_17_0 (allCons sw_17_1 (allCons sw_17_2 (allCons sw_17_3 (allCons sw_17_4 (allCons sw_17_5 (allCons sw_17_6 (allCons sw_17_7 (allCons sw_17_8 (allCons sw_17_9 (allCons sw_17_10 (allCons sw_17_11 (allCons sw_17_12 (allCons sw_17_13 (allCons sw_17_14 (allCons sw_17_15 (allCons sw_17_16 (allCons sw_18_0 (allCons sw_18_1 (allCons sw_18_2 (allCons sw_18_3 (allCons sw_18_4 (allCons sw_18_5 (allCons sw_18_6 (allCons sw_18_7 (allCons sw_18_8 (allCons sw_18_9 (allCons sw_18_10 (allCons sw_18_11 (allCons sw_18_12 (allCons sw_18_13 (allCons sw_18_14 (allCons sw_18_15 (allCons sw_18_16 (allCons sw_18_17 (allCons sw_19_0 (allCons sw_19_1 (allCons sw_19_2 (allCons sw_19_3 (allCons sw_19_4 (allCons sw_19_5 (allCons sw_19_6 (allCons sw_19_7 (allCons sw_19_8 (allCons sw_19_9 (allCons sw_19_10 (allCons sw_19_11 (allCons sw_19_12 (allCons sw_19_13 (allCons sw_19_14 (allCons sw_19_15 (allCons sw_19_16 (allCons sw_19_17 (allCons sw_19_18 (allCons sw_20_0 (allCons sw_20_1 (allCons sw_20_2 (allCons sw_20_3 (allCons sw_20_4 (allCons sw_20_5 (allCons sw_20_6 (allCons sw_20_7 (allCons sw_20_8 (allCons sw_20_9 (allCons sw_20_10 (allCons sw_20_11 (allCons sw_20_12 (allCons sw_20_13 (allCons sw_20_14 (allCons sw_20_15 (allCons sw_20_16 (allCons sw_20_17 (allCons sw_20_18 (allCons sw_20_19 (allCons sw_21_0 (allCons sw_21_1 (allCons sw_21_2 (allCons sw_21_3 (allCons sw_21_4 (allCons sw_21_5 (allCons sw_21_6 (allCons sw_21_7 (allCons sw_21_8 (allCons sw_21_9 (allCons sw_21_10 (allCons sw_21_11 (allCons sw_21_12 (allCons sw_21_13 (allCons sw_21_14 (allCons sw_21_15 (allCons sw_21_16 (allCons sw_21_17 (allCons sw_21_18 (allCons sw_21_19 (allCons sw_21_20 (allCons sw_22_0 (allCons sw_22_1 (allCons sw_22_2 (allCons sw_22_3 (allCons sw_22_4 (allCons sw_22_5 (allCons sw_22_6 (allCons sw_22_7 (allCons sw_22_8 (allCons sw_22_9 (allCons sw_22_10 (allCons sw_22_11 (allCons sw_22_12 (allCons sw_22_13 (allCons sw_22_14 (allCons sw_22_15 (allCons sw_22_16 (allCons sw_22_17 (allCons sw_22_18 (allCons sw_22_19 (allCons sw_22_20 (allCons sw_22_21 (allCons sw_23_0 (allCons sw_23_1 (allCons sw_23_2 (allCons sw_23_3 (allCons sw_23_4 (allCons sw_23_5 (allCons sw_23_6 (allCons sw_23_7 (allCons sw_23_8 (allCons sw_23_9 (allCons sw_23_10 (allCons sw_23_11 (allCons sw_23_12 (allCons sw_23_13 (allCons sw_23_14 (allCons sw_23_15 (allCons sw_23_16 (allCons sw_23_17 (allCons sw_23_18 (allCons sw_23_19 (allCons sw_23_20 (allCons sw_23_21 (allCons sw_23_22 allNil))))))))))))))))))))))))))))))))))))))))))))))))))))))))))))))))))))))))))))))))))))))))))))))))))))))))))))))))))))))))))))))))))))))))))))))))))))))))))))))))))))))))))))))))))))))))))))))))))))))))))))))))))))))))))))))))))))))))))))))))))))))))))))))))))))))))))))))))))))
theorem sx_all : ∀ p ∈ prs, SxAt p.1 p.2 := (allCons sx_1_0 (allCons sx_2_0 (allCons sx_2_1 (allCons sx_3_0 (allCons sx_3_1 (allCons sx_3_2 (allCons sx_4_0 (allCons sx_4_1 (allCons sx_4_2 (allCons sx_4_3 (allCons sx_5_0 (allCons sx_5_1 (allCons sx_5_2 (allCons sx_5_3 (allCons sx_5_4 (allCons sx_6_0 (allCons sx_6_1 (allCons sx_6_2 (allCons sx_6_3 (allCons sx_6_4 (allCons sx_6_5 (allCons sx_7_0 (allCons sx_7_1 (allCons sx_7_2 (allCons sx_7_3 (allCons sx_7_4 (allCons sx_7_5 (allCons sx_7_6 (allCons sx_8_0 (allCons sx_8_1 (allCons sx_8_2 (allCons sx_8_3 (allCons sx_8_4 (allCons sx_8_5 (allCons sx_8_6 (allCons sx_8_7 (allCons sx_9_0 (allCons sx_9_1 (allCons sx_9_2 (allCons sx_9_3 (allCons sx_9_4 (allCons sx_9_5 (allCons sx_9_6 (allCons sx_9_7 (allCons sx_9_8 (allCons sx_10_0 (allCons sx_10_1 (allCons sx_10_2 (allCons sx_10_3 (allCons sx_10_4 (allCons sx_10_5 (allCons sx_10_6 (allCons sx_10_7 (allCons sx_10_8 (allCons sx_10_9 (allCons sx_11_0 (allCons sx_11_1 (allCons sx_11_2 (allCons sx_11_3 (allCons sx_11_4 (allCons sx_11_5 (allCons sx_11_6 (allCons sx_11_7 (allCons sx_11_8 (allCons sx_11_9 (allCons sx_11_10 (allCons sx_12_0 (allCons sx_12_1 (allCons sx_12_2 (allCons sx_12_3 (allCons sx_12_4 (allCons sx_12_5 (allCons sx_12_6 (allCons sx_12_7 (allCons sx_12_8 (allCons sx_12_9 (allCons sx_12_10 (allCons sx_12_11 (allCons sx_13_0 (allCons sx_13_1 (allCons sx_13_2 (allCons sx_13_3 (allCons sx_13_4 (allCons sx_13_5 (allCons sx_13_6 (allCons sx_13_7 (allCons sx_13_8 (allCons sx_13_9 (allCons sx_13_10 (allCons sx_13_11 (allCons sx_13_12 (allCons sx_14_0 (allCons sx_14_1 (allCons sx_14_2 (allCons sx_14_3 (allCons sx_14_4 (allCons sx_14_5 (allCons sx_14_6 (allCons sx_14_7 (allCons sx_14_8 (allCons sx_14_9 (allCons sx_14_10 (allCons sx_14_11 (allCons sx_14_12 (allCons sx_14_13 (allCons sx_15_0 (allCons sx_15_1 (allCons sx_15_2 (allCons sx_15_3 (allCons sx_15_4 (allCons sx_15_5 (allCons sx_15_6 (allCons sx_15_7 (allCons sx_15_8 (allCons sx_15_9 (allCons sx_15_10 (allCons sx_15_11 (allCons sx_15_12 (allCons sx_15_13 (allCons sx_15_14 (allCons sx_16_0 (allCons sx_16_1 (allCons sx_16_2 (allCons sx_16_3 (allCons sx_16_4 (allCons sx_16_5 (allCons sx_16_6 (allCons sx_16_7 (allCons sx_16_8 (allCons sx_16_9 (allCons sx_16_10 (allCons sx_16_11 (allCons sx_16_12 (allCons sx_16_13 (allCons sx_16_14 (allCons sx_16_15 (allCons sx_17_0 (allCons sx_17_1 (allCons sx_17_2 (allCons sx_17_3 (allCons sx_17_4 (allCons sx_17_5 (allCons sx_17_6 (allCons sx_17_7 (allCons sx_17_8 (allCons sx_17_9 (allCons sx_17_10 (allCons sx_17_11 (allCons sx_17_12 (allCons sx_17_13 (allCons sx_17_14 (allCons sx_17_15 (allCons sx_17_16 (allCons sx_18_0 (allCons sx_18_1 (allCons sx_18_2 (allCons sx_18_3 (allCons sx_18_4 (allCons sx_18_5 (allCons sx_18_6 (allCons sx_18_7 (allCons sx_18_8 (allCons sx_18_9 (allCons sx_18_10 (allCons sx_18_11 (allCons sx_18_12 (allCons sx_18_13 (allCons sx_18_14 (allCons sx_18_15 (allCons sx_18_16 (allCons sx_18_17 (allCons sx_19_0 (allCons sx_19_1 (allCons sx_19_2 (allCons sx_19_3 (allCons sx_19_4 (allCons sx_19_5 (allCons sx_19_6 (allCons sx_19_7 (allCons sx_19_8 (allCons sx_19_9 (allCons sx_19_10 (allCons sx_19_11 (allCons sx_19_12 (allCons sx_19_13 (allCons sx_19_14 (allCons sx_19_15 (allCons sx_19_16 (allCons sx_19_17 (allCons sx_19_18 (allCons sx_20_0 (allCons sx_20_1 (allCons sx_20_2 (allCons sx_20_3 (allCons sx_20_4 (allCons sx_20_5 (allCons sx_20_6 (allCons sx_20_7 (allCons sx_20_8 (allCons sx_20_9 (allCons sx_20_10 (allCons sx_20_11 (allCons sx_20_12 (allCons sx_20_13 (allCons sx_20_14 (allCons sx_20_15 (allCons sx_20_16 (allCons sx_20_17 (allCons sx_20_18 (allCons sx_20_19 (allCons sx_21_0 (allCons sx_21_1 (allCons sx_21_2 (allCons sx_21_3 (allCons sx_21_4 (allCons sx_21_5 (allCons sx_21_6 (allCons sx_21_7 (allCons sx_21_8 (allCons sx_21_9 (allCons sx_21_10 (allCons sx_21_11 (allCons sx_21_12 (allCons sx_21_13 (allCons sx_21_14 (allCons sx_21_15 (allCons sx_21_16 (allCons sx_21_17 (allCons sx_21_18 (allCons sx_21_19 (allCons sx_21_20 (allCons sx_22_0 (allCons sx_22_1 (allCons sx_22_2 (allCons sx_22_3 (allCons sx_22_4 (allCons sx_22_5 (allCons sx_22_6 (allCons sx_22_7 (allCons sx_22_8 (allCons sx_22_9 (allCons sx_22_10 (allCons sx_22_11 (allCons sx_22_12 (allCons sx_22_13 (allCons sx_22_14 (allCons sx_22_15 (allCons sx_22_16 (allCons sx_22_17 (allCons sx_22_18 (allCons sx_22_19 (allCons sx_22_20 (allCons sx_22_21 (allCons sx_23_0 (allCons sx_23_1 (allCons sx_23_2 (allCons sx_23_3 (allCons sx_23_4 (allCons sx_23_5 (allCons sx_23_6 (allCons sx_23_7 (allCons sx_23_8 (allCons sx_23_9 (allCons sx_23_10 (allCons sx_23_11 (allCons sx_23_12 (allCons sx_23_13 (allCons sx_23_14 (allCons sx_23_15 (allCons sx_23_16 (allCons sx_23_17 (allCons sx_23_18 (allCons sx_23_19 (allCons sx_23_20 (allCons sx_23_21 (allCons sx_23_22 allNil))))))))))))))))))))))))))))))))))))))))))))))))))))))))))))))))))))))))))))))))))))))))))))))))))))))))))))))))))))))))))))))))))))))))))))))))))))))))))))))))))))))))))))))))))))))))))))))))))))))))))))))))))))))))))))))))))))))))))))))))))))))))))))))))))))))))))))))))))))
end Go.Proofs.YtaabcpibfignfaaGreatDoor.so
