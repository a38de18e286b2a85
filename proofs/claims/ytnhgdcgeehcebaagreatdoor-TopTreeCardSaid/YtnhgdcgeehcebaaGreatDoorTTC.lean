/-
  Returns.
-/
import Derived.Test.YtnhgdcgeehcebaaGreatDoorTTS
import Derived.Test.YtnhgdcgeehcebaaGreatDoorXN3
import Derived.Test.YtnhgdcgeehcebaaGreatDoorTTM
import Derived.Test.YtnhgdcgeehcebaaGreatDoorProg
import Derived.KernelRfl
set_option linter.unusedSectionVars false
set_option linter.unusedVariables false
set_option maxRecDepth 1000000
set_option maxHeartbeats 0
namespace Go.Proofs.YtnhgdcgeehcebaaGreatDoor.tt
open Go.X Go.RowKit Go.Proofs.YtnhgdcgeehcebaaGreatDoor
section
variable {B:Kp} {w0:World} {μ:M} {a:Act} {w:World}
abbrev RCa7 {v u r wd c0 c1:Int} {s d nn p rs:Nat} {W:Nat→BitVec 64} (h3:0≤r) (h4:r+30≤100000) (h5:9≤wd) (h6:wd+11≤2048) (h7:0≤c0) (h8:c0≤200000) (h9:0≤c1) (h10:c1≤200000) (h11:s≤10000) (h12:d≤10000) (hN:nn≤300):VRows (ivCA7 v u r wd c0 c1 s d nn p rs W) (vvCA7 v u r wd c0 c1 s d nn p rs W) (vkCA7 v u r wd c0 c1 s d nn p rs W) where
  vvp:=vpCA7 v u r wd c0 c1 s d nn p rs W
  ib:=[(14,.oi 4,.int .i64 100000,.bool false),(9,.oi 14,.int .i64 0,.bool false),(1,.oi 14,.int .i64 1,.oi 15),(11,.oi 15,.oi 14,.bool true),(14,.oi 15,.int .i64 0,.bool true),(0,.oi 4,.int .i64 1,.oi 16),(0,.oi 6,.int .i64 1,.oi 17),(1,.oi 13,.int .i64 1,.oi 18),(1,.oi 18,.int .i64 0,.oi 18),(11,.oi 18,.oi 13,.bool true),(14,.oi 18,.int .i64 0,.bool true),(12,.oi 18,.oi 13,.bool true),(1,.oi 5,.int .i64 9,.oi 19),(12,.oi 9,.oi 18,.bool true),(14,.oi 9,.int .i64 0,.bool true),(12,.oi 15,.oi 14,.bool true),(9,.oi 15,.int .i64 0,.bool false),(1,.oi 15,.int .i64 1,.oi 12),(11,.oi 12,.oi 15,.bool true),(14,.oi 12,.int .i64 0,.bool true)]
  ibok:=by as_aux_lemma=>letI:=Tab.empty;exact (eH (eE (eS (eL (eH (eA (eA (eS (eS (eL (eH (eK (eS (eK (eH (eK (eE (eS (eL (eH ibNil))))))))))))))))))))
  vl:=[⟨5,15,1,0,[(.ptr 20005 0)]⟩,⟨6,15,7,6,[(.int .i64 1)]⟩,⟨2,18,1,0,[(.oi 3)]⟩,⟨3,18,1,0,[(.bool true)]⟩,⟨7,15,7,4,[(.int .i64 2)]⟩,⟨7,15,7,5,[(.int .i64 3)]⟩,⟨7,15,7,3,[(.oi 9)]⟩,⟨5,12,1,0,[(.ptr 20040 0)]⟩,⟨7,12,7,6,[(.int .i64 1)]⟩,⟨7,12,7,5,[(.int .i64 3)]⟩]
  vlok:=by as_aux_lemma=>exact (lQ 1 (lQ 13 (lQ 5 (lQ 5 (lQ 11 (lQ 12 (lQ 10 (lQ 0 (lQ 6 (lQ 5 allNil))))))))))
  vs:=[⟨4,15,7,2,[(.int .i64 7)],6⟩,⟨6,15,7,6,[(.int .i64 0)],7⟩,⟨7,12,7,6,[(.int .i64 2)],8⟩]
  vsok:=by as_aux_lemma=>exact (sQ 9 (sQ 13 (sQ 6 allNil)))
  va:=[⟨2,9,1,[(.oi 3)],9,20⟩,⟨3,9,1,[(.bool true)],10,20⟩]
  vaok:=by as_aux_lemma=>exact (aQ 3 1 (aQ 3 1 allNil))
theorem goCa7 {v u r wd c0 c1:Int} {s d nn p rs:Nat} {W:Nat→BitVec 64} (h3:0≤r) (h4:r+30≤100000) (h5:9≤wd) (h6:wd+11≤2048) (h7:0≤c0) (h8:c0≤200000) (h9:0≤c1) (h10:c1≤200000) (h11:s≤10000) (h12:d≤10000) (hN:nn≤300) {rv:Nat→Value} (hb:Base B μ 20000) {Q:Exit→Act→World→Prop} {j_:Nat} (s_:SCA7 v u r wd c0 c1 s d nn p rs W rv B w0 μ a w) (hQ:∀ a' w',SMA v (r+1) (wd - 9) (c0+1) c1 s d nn p rs W rv B w0 μ a' w'→Code.rounds Tryz.prog la Q j_ a' w'):Code.rounds Tryz.prog la Q (j_+1) a w :=
  goT hQ s_ (RCa7 h3 h4 h5 h6 h7 h8 h9 h10 h11 h12 hN) hb [(20001,20100),(20002,20101),(20005,20040)] [(.oi 10,8),(.oi 11,9),(.oi 20,11),(.oi 15,12),(.oi 19,4),(.oi 17,5),(.oi 7,6),(.oi 16,3),(.oi 0,0),(.oi 1,1),(.oi 3,2),(.oi 8,7)] (nN (nN (nN (nN (nO (nO (nN (nO (nN (nN (nN (nN ipNil)))))))))))) [(20100,.vec 9,2),(20101,.vec 10,3),(20003,.vec 8,4),(20004,.vec 5,5),(20021,.vec 0,0),(20022,.vec 1,1)] (fun hip=>(pQ hip (pQ hip (pQ hip (pQ hip (pW 8 hip (pN 3 hip vpNil))))))) Hand.none hnT 1
abbrev RCb7 {v u r wd c0 c1:Int} {s d nn p rs:Nat} {W:Nat→BitVec 64} (h3:0≤r) (h4:r+30≤100000) (h5:9≤wd) (h6:wd+11≤2048) (h7:0≤c0) (h8:c0≤200000) (h9:0≤c1) (h10:c1≤200000) (h11:s≤10000) (h12:d≤10000) (hN:nn≤300):VRows (ivCB7 v u r wd c0 c1 s d nn p rs W) (vvCB7 v u r wd c0 c1 s d nn p rs W) (vkCB7 v u r wd c0 c1 s d nn p rs W) where
  vvp:=vpCB7 v u r wd c0 c1 s d nn p rs W
  ib:=[(14,.oi 4,.int .i64 100000,.bool false),(9,.oi 14,.int .i64 0,.bool false),(1,.oi 14,.int .i64 1,.oi 15),(11,.oi 15,.oi 14,.bool true),(14,.oi 15,.int .i64 0,.bool true),(0,.oi 4,.int .i64 1,.oi 16),(0,.oi 6,.int .i64 1,.oi 17),(1,.oi 13,.int .i64 1,.oi 18),(1,.oi 18,.int .i64 0,.oi 18),(11,.oi 18,.oi 13,.bool true),(14,.oi 18,.int .i64 0,.bool true),(12,.oi 18,.oi 13,.bool true),(1,.oi 5,.int .i64 9,.oi 19),(12,.oi 9,.oi 18,.bool true),(14,.oi 9,.int .i64 0,.bool true),(12,.oi 15,.oi 14,.bool true),(9,.oi 15,.int .i64 0,.bool false),(1,.oi 15,.int .i64 1,.oi 12),(11,.oi 12,.oi 15,.bool true),(14,.oi 12,.int .i64 0,.bool true)]
  ibok:=by as_aux_lemma=>letI:=Tab.empty;exact (eH (eE (eS (eL (eH (eA (eA (eS (eS (eL (eH (eK (eS (eK (eH (eK (eE (eS (eL (eH ibNil))))))))))))))))))))
  vl:=[⟨5,15,1,0,[(.ptr 20005 0)]⟩,⟨6,15,7,6,[(.int .i64 1)]⟩,⟨2,18,1,0,[(.oi 3)]⟩,⟨3,18,1,0,[(.bool true)]⟩,⟨7,15,7,4,[(.int .i64 2)]⟩,⟨7,15,7,5,[(.int .i64 3)]⟩,⟨7,15,7,3,[(.oi 9)]⟩,⟨5,12,1,0,[(.ptr 20040 0)]⟩,⟨7,12,7,6,[(.int .i64 1)]⟩,⟨7,12,7,5,[(.int .i64 3)]⟩]
  vlok:=by as_aux_lemma=>exact (lQ 1 (lQ 13 (lQ 5 (lQ 5 (lQ 11 (lQ 12 (lQ 10 (lQ 0 (lQ 6 (lQ 5 allNil))))))))))
  vs:=[⟨4,15,7,2,[(.int .i64 7)],6⟩,⟨6,15,7,6,[(.int .i64 0)],7⟩,⟨7,12,7,6,[(.int .i64 2)],8⟩]
  vsok:=by as_aux_lemma=>exact (sQ 9 (sQ 13 (sQ 6 allNil)))
  va:=[⟨2,9,1,[(.oi 3)],9,20⟩,⟨3,9,1,[(.bool true)],10,20⟩]
  vaok:=by as_aux_lemma=>exact (aQ 3 1 (aQ 3 1 allNil))
theorem goCb7 {v u r wd c0 c1:Int} {s d nn p rs:Nat} {W:Nat→BitVec 64} (h3:0≤r) (h4:r+30≤100000) (h5:9≤wd) (h6:wd+11≤2048) (h7:0≤c0) (h8:c0≤200000) (h9:0≤c1) (h10:c1≤200000) (h11:s≤10000) (h12:d≤10000) (hN:nn≤300) {rv:Nat→Value} (hb:Base B μ 20000) {Q:Exit→Act→World→Prop} {j_:Nat} (s_:SCB7 v u r wd c0 c1 s d nn p rs W rv B w0 μ a w) (hQ:∀ a' w',SMB v (r+1) (wd - 9) (c0+1) c1 s d nn p rs W rv B w0 μ a' w'→Code.rounds Tryz.prog la Q j_ a' w'):Code.rounds Tryz.prog la Q (j_+1) a w :=
  goT hQ s_ (RCb7 h3 h4 h5 h6 h7 h8 h9 h10 h11 h12 hN) hb [(20001,20100),(20002,20101),(20005,20040)] [(.oi 10,8),(.oi 11,9),(.oi 20,11),(.oi 15,12),(.oi 19,4),(.oi 17,5),(.oi 7,6),(.oi 16,3),(.oi 0,0),(.oi 1,1),(.oi 3,2),(.oi 8,7)] (nN (nN (nN (nN (nO (nO (nN (nO (nN (nN (nN (nN ipNil)))))))))))) [(20100,.vec 9,2),(20101,.vec 10,3),(20003,.vec 8,4),(20004,.vec 5,5),(20021,.vec 0,0),(20022,.vec 1,1)] (fun hip=>(pQ hip (pQ hip (pQ hip (pQ hip (pW 8 hip (pN 3 hip vpNil))))))) Hand.none hnT 1
abbrev RCa37 {v u r wd c0 c1:Int} {s d nn p rs:Nat} {W:Nat→BitVec 64} (h3:0≤r) (h4:r+30≤100000) (h5:9≤wd) (h6:wd+11≤2048) (h7:0≤c0) (h8:c0≤200000) (h9:0≤c1) (h10:c1≤200000) (h11:s≤10000) (h12:d≤10000) (hN:nn≤300):VRows (ivCA37 v u r wd c0 c1 s d nn p rs W) (vvCA37 v u r wd c0 c1 s d nn p rs W) (vkCA37 v u r wd c0 c1 s d nn p rs W) where
  vvp:=vpCA37 v u r wd c0 c1 s d nn p rs W
  ib:=[(14,.oi 4,.int .i64 100000,.bool false),(9,.oi 14,.int .i64 0,.bool false),(1,.oi 14,.int .i64 1,.oi 15),(11,.oi 15,.oi 14,.bool true),(14,.oi 15,.int .i64 0,.bool true),(0,.oi 4,.int .i64 1,.oi 16),(0,.oi 6,.int .i64 1,.oi 17),(1,.oi 13,.int .i64 1,.oi 18),(1,.oi 18,.int .i64 0,.oi 18),(11,.oi 18,.oi 13,.bool true),(14,.oi 18,.int .i64 0,.bool true),(12,.oi 18,.oi 13,.bool true),(1,.oi 5,.int .i64 9,.oi 19),(12,.oi 9,.oi 18,.bool true),(14,.oi 9,.int .i64 0,.bool true),(12,.oi 15,.oi 14,.bool true),(9,.oi 15,.int .i64 0,.bool false),(1,.oi 15,.int .i64 1,.oi 12),(11,.oi 12,.oi 15,.bool true),(14,.oi 12,.int .i64 0,.bool true)]
  ibok:=by as_aux_lemma=>letI:=Tab.empty;exact (eH (eE (eS (eL (eH (eA (eA (eS (eS (eL (eH (eK (eS (eK (eH (eK (eE (eS (eL (eH ibNil))))))))))))))))))))
  vl:=[⟨5,15,1,0,[(.ptr 20005 0)]⟩,⟨6,15,7,6,[(.int .i64 1)]⟩,⟨2,18,1,0,[(.oi 3)]⟩,⟨3,18,1,0,[(.bool true)]⟩,⟨7,15,7,4,[(.int .i64 2)]⟩,⟨7,15,7,5,[(.int .i64 3)]⟩,⟨7,15,7,3,[(.oi 9)]⟩,⟨5,12,1,0,[(.ptr 20040 0)]⟩,⟨7,12,7,6,[(.int .i64 1)]⟩,⟨7,12,7,5,[(.int .i64 3)]⟩]
  vlok:=by as_aux_lemma=>exact (lQ 1 (lQ 13 (lQ 5 (lQ 5 (lQ 11 (lQ 12 (lQ 10 (lQ 0 (lQ 6 (lQ 5 allNil))))))))))
  vs:=[⟨4,15,7,2,[(.int .i64 37)],6⟩,⟨6,15,7,6,[(.int .i64 0)],7⟩,⟨7,12,7,6,[(.int .i64 2)],8⟩]
  vsok:=by as_aux_lemma=>exact (sQ 9 (sQ 13 (sQ 6 allNil)))
  va:=[⟨2,9,1,[(.oi 3)],9,20⟩,⟨3,9,1,[(.bool true)],10,20⟩]
  vaok:=by as_aux_lemma=>exact (aQ 3 1 (aQ 3 1 allNil))
theorem goCa37 {v u r wd c0 c1:Int} {s d nn p rs:Nat} {W:Nat→BitVec 64} (h3:0≤r) (h4:r+30≤100000) (h5:9≤wd) (h6:wd+11≤2048) (h7:0≤c0) (h8:c0≤200000) (h9:0≤c1) (h10:c1≤200000) (h11:s≤10000) (h12:d≤10000) (hN:nn≤300) {rv:Nat→Value} (hb:Base B μ 20000) {Q:Exit→Act→World→Prop} {j_:Nat} (s_:SCA37 v u r wd c0 c1 s d nn p rs W rv B w0 μ a w) (hQ:∀ a' w',SMA v (r+1) (wd - 9) (c0+1) c1 s d nn p rs W rv B w0 μ a' w'→Code.rounds Tryz.prog la Q j_ a' w'):Code.rounds Tryz.prog la Q (j_+1) a w :=
  goT hQ s_ (RCa37 h3 h4 h5 h6 h7 h8 h9 h10 h11 h12 hN) hb [(20001,20100),(20002,20101),(20005,20040)] [(.oi 10,8),(.oi 11,9),(.oi 20,11),(.oi 15,12),(.oi 19,4),(.oi 17,5),(.oi 7,6),(.oi 16,3),(.oi 0,0),(.oi 1,1),(.oi 3,2),(.oi 8,7)] (nN (nN (nN (nN (nO (nO (nN (nO (nN (nN (nN (nN ipNil)))))))))))) [(20100,.vec 9,2),(20101,.vec 10,3),(20003,.vec 8,4),(20004,.vec 5,5),(20021,.vec 0,0),(20022,.vec 1,1)] (fun hip=>(pQ hip (pQ hip (pQ hip (pQ hip (pW 8 hip (pN 3 hip vpNil))))))) Hand.none hnT 1
abbrev RCb37 {v u r wd c0 c1:Int} {s d nn p rs:Nat} {W:Nat→BitVec 64} (h3:0≤r) (h4:r+30≤100000) (h5:9≤wd) (h6:wd+11≤2048) (h7:0≤c0) (h8:c0≤200000) (h9:0≤c1) (h10:c1≤200000) (h11:s≤10000) (h12:d≤10000) (hN:nn≤300):VRows (ivCB37 v u r wd c0 c1 s d nn p rs W) (vvCB37 v u r wd c0 c1 s d nn p rs W) (vkCB37 v u r wd c0 c1 s d nn p rs W) where
  vvp:=vpCB37 v u r wd c0 c1 s d nn p rs W
  ib:=[(14,.oi 4,.int .i64 100000,.bool false),(9,.oi 14,.int .i64 0,.bool false),(1,.oi 14,.int .i64 1,.oi 15),(11,.oi 15,.oi 14,.bool true),(14,.oi 15,.int .i64 0,.bool true),(0,.oi 4,.int .i64 1,.oi 16),(0,.oi 6,.int .i64 1,.oi 17),(1,.oi 13,.int .i64 1,.oi 18),(1,.oi 18,.int .i64 0,.oi 18),(11,.oi 18,.oi 13,.bool true),(14,.oi 18,.int .i64 0,.bool true),(12,.oi 18,.oi 13,.bool true),(1,.oi 5,.int .i64 9,.oi 19),(12,.oi 9,.oi 18,.bool true),(14,.oi 9,.int .i64 0,.bool true),(12,.oi 15,.oi 14,.bool true),(9,.oi 15,.int .i64 0,.bool false),(1,.oi 15,.int .i64 1,.oi 12),(11,.oi 12,.oi 15,.bool true),(14,.oi 12,.int .i64 0,.bool true)]
  ibok:=by as_aux_lemma=>letI:=Tab.empty;exact (eH (eE (eS (eL (eH (eA (eA (eS (eS (eL (eH (eK (eS (eK (eH (eK (eE (eS (eL (eH ibNil))))))))))))))))))))
  vl:=[⟨5,15,1,0,[(.ptr 20005 0)]⟩,⟨6,15,7,6,[(.int .i64 1)]⟩,⟨2,18,1,0,[(.oi 3)]⟩,⟨3,18,1,0,[(.bool true)]⟩,⟨7,15,7,4,[(.int .i64 2)]⟩,⟨7,15,7,5,[(.int .i64 3)]⟩,⟨7,15,7,3,[(.oi 9)]⟩,⟨5,12,1,0,[(.ptr 20040 0)]⟩,⟨7,12,7,6,[(.int .i64 1)]⟩,⟨7,12,7,5,[(.int .i64 3)]⟩]
  vlok:=by as_aux_lemma=>exact (lQ 1 (lQ 13 (lQ 5 (lQ 5 (lQ 11 (lQ 12 (lQ 10 (lQ 0 (lQ 6 (lQ 5 allNil))))))))))
  vs:=[⟨4,15,7,2,[(.int .i64 37)],6⟩,⟨6,15,7,6,[(.int .i64 0)],7⟩,⟨7,12,7,6,[(.int .i64 2)],8⟩]
  vsok:=by as_aux_lemma=>exact (sQ 9 (sQ 13 (sQ 6 allNil)))
  va:=[⟨2,9,1,[(.oi 3)],9,20⟩,⟨3,9,1,[(.bool true)],10,20⟩]
  vaok:=by as_aux_lemma=>exact (aQ 3 1 (aQ 3 1 allNil))
theorem goCb37 {v u r wd c0 c1:Int} {s d nn p rs:Nat} {W:Nat→BitVec 64} (h3:0≤r) (h4:r+30≤100000) (h5:9≤wd) (h6:wd+11≤2048) (h7:0≤c0) (h8:c0≤200000) (h9:0≤c1) (h10:c1≤200000) (h11:s≤10000) (h12:d≤10000) (hN:nn≤300) {rv:Nat→Value} (hb:Base B μ 20000) {Q:Exit→Act→World→Prop} {j_:Nat} (s_:SCB37 v u r wd c0 c1 s d nn p rs W rv B w0 μ a w) (hQ:∀ a' w',SMB v (r+1) (wd - 9) (c0+1) c1 s d nn p rs W rv B w0 μ a' w'→Code.rounds Tryz.prog la Q j_ a' w'):Code.rounds Tryz.prog la Q (j_+1) a w :=
  goT hQ s_ (RCb37 h3 h4 h5 h6 h7 h8 h9 h10 h11 h12 hN) hb [(20001,20100),(20002,20101),(20005,20040)] [(.oi 10,8),(.oi 11,9),(.oi 20,11),(.oi 15,12),(.oi 19,4),(.oi 17,5),(.oi 7,6),(.oi 16,3),(.oi 0,0),(.oi 1,1),(.oi 3,2),(.oi 8,7)] (nN (nN (nN (nN (nO (nO (nN (nO (nN (nN (nN (nN ipNil)))))))))))) [(20100,.vec 9,2),(20101,.vec 10,3),(20003,.vec 8,4),(20004,.vec 5,5),(20021,.vec 0,0),(20022,.vec 1,1)] (fun hip=>(pQ hip (pQ hip (pQ hip (pQ hip (pW 8 hip (pN 3 hip vpNil))))))) Hand.none hnT 1
end
end Go.Proofs.YtnhgdcgeehcebaaGreatDoor.tt
