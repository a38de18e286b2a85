/-
  Returns from counts.
-/
import Derived.Test.YtnhgdcgeehcebaaGreatDoorTTU
import Derived.Test.YtnhgdcgeehcebaaGreatDoorXN3
import Derived.Test.YtnhgdcgeehcebaaGreatDoorTTM
import Derived.Test.YtnhgdcgeehcebaaGreatDoorProg
import Derived.KernelRfl
set_option linter.unusedSectionVars false
set_option linter.unusedVariables false
set_option maxRecDepth 1000000
set_option maxHeartbeats 0
namespace Go.Proofs.YtnhgdcgeehcebaaGreatDoor.tt
open Go.X Go.RowKit Go.Proofs.YtnhgdcgeehcebaaGreatDoor
section
variable {B:Kp} {w0:World} {μ:M} {a:Act} {w:World}
abbrev RcA5 {u r wd c0 c1 c2:Int} {s d nn p rs:Nat} {W:Nat→BitVec 64} (h3:0≤r) (h4:r+30≤100000) (h7:0≤c2) (h8:c2≤200000) (h11:s≤10000) (h12:d≤10000) (hN:nn≤300) (h5:8≤wd) (h6:wd+11≤2048):VRows (ivcA5 u r wd c0 c1 c2 s d nn p rs W) (vvcA5 u r wd c0 c1 c2 s d nn p rs W) (vkcA5 u r wd c0 c1 c2 s d nn p rs W) where
  vvp:=vpcA5 u r wd c0 c1 c2 s d nn p rs W
  ib:=[(14,.oi 3,.int .i64 100000,.bool false),(9,.oi 14,.int .i64 0,.bool false),(1,.oi 14,.int .i64 1,.oi 15),(11,.oi 15,.oi 14,.bool true),(14,.oi 15,.int .i64 0,.bool true),(0,.oi 3,.int .i64 1,.oi 16),(0,.oi 7,.int .i64 1,.oi 17),(1,.oi 13,.int .i64 1,.oi 18),(1,.oi 18,.int .i64 0,.oi 18),(11,.oi 18,.oi 13,.bool true),(14,.oi 18,.int .i64 0,.bool true),(12,.oi 18,.oi 13,.bool true),(1,.oi 4,.int .i64 8,.oi 19),(12,.oi 9,.oi 18,.bool true),(14,.oi 9,.int .i64 0,.bool true),(12,.oi 15,.oi 14,.bool true),(9,.oi 15,.int .i64 0,.bool false),(1,.oi 15,.int .i64 1,.oi 12),(11,.oi 12,.oi 15,.bool true),(14,.oi 12,.int .i64 0,.bool true)]
  ibok:=by as_aux_lemma=>letI:=Tab.empty;exact (eH (eE (eS (eL (eH (eA (eA (eS (eS (eL (eH (eK (eS (eK (eH (eK (eE (eS (eL (eH ibNil))))))))))))))))))))
  vl:=[⟨5,15,1,0,[(.ptr 20005 0)]⟩,⟨6,15,7,6,[(.int .i64 1)]⟩,⟨2,18,1,0,[(.oi 2)]⟩,⟨3,18,1,0,[(.bool false)]⟩,⟨7,15,7,4,[(.int .i64 1)]⟩,⟨7,15,7,5,[(.int .i64 3)]⟩,⟨7,15,7,3,[(.oi 9)]⟩,⟨5,12,1,0,[(.ptr 20040 0)]⟩,⟨7,12,7,6,[(.int .i64 0)]⟩,⟨7,12,7,5,[(.int .i64 3)]⟩]
  vlok:=by as_aux_lemma=>exact (lQ 1 (lQ 13 (lQ 2 (lQ 2 (lQ 11 (lQ 12 (lQ 10 (lQ 0 (lQ 6 (lQ 5 allNil))))))))))
  vs:=[⟨4,15,7,2,[(.int .i64 5)],6⟩,⟨6,15,7,6,[(.int .i64 0)],7⟩,⟨7,12,7,6,[(.int .i64 1)],8⟩]
  vsok:=by as_aux_lemma=>exact (sQ 9 (sQ 13 (sQ 6 allNil)))
  va:=[⟨2,9,1,[(.oi 2)],9,18⟩,⟨3,9,1,[(.bool false)],10,18⟩]
  vaok:=by as_aux_lemma=>exact (aQ 1 1 (aQ 1 1 allNil))
theorem gocA5 {u r wd c0 c1 c2:Int} {s d nn p rs:Nat} {W:Nat→BitVec 64} (h3:0≤r) (h4:r+30≤100000) (h7:0≤c2) (h8:c2≤200000) (h11:s≤10000) (h12:d≤10000) (hN:nn≤300) (h5:8≤wd) (h6:wd+11≤2048) {rv:Nat→Value} (hb:Base B μ 20000) {Q:Exit→Act→World→Prop} {j_:Nat} (s_:ScA5 u r wd c0 c1 c2 s d nn p rs W rv B w0 μ a w) (hQ:∀ a' w',ScMA (r+1) (wd - 8) c0 c1 (c2+1) s d nn p rs W rv B w0 μ a' w'→Code.rounds Tryz.prog la Q j_ a' w'):Code.rounds Tryz.prog la Q (j_+1) a w :=
  goT hQ s_ (RcA5 h3 h4 h7 h8 h11 h12 hN h5 h6) hb [(20001,20099),(20002,20100),(20005,20040)] [(.oi 10,8),(.oi 11,9),(.oi 18,11),(.oi 15,12),(.oi 19,3),(.oi 5,4),(.oi 6,5),(.oi 17,6),(.oi 16,2),(.oi 0,0),(.oi 2,1),(.oi 8,7)] (nN (nN (nN (nN (nO (nN (nN (nO (nO (nN (nN (nN ipNil)))))))))))) [(20099,.vec 9,2),(20100,.vec 10,3),(20003,.vec 8,4),(20004,.vec 5,5),(20021,.vec 0,0),(20022,.vec 1,1)] (fun hip=>(pQ hip (pQ hip (pQ hip (pQ hip (pW 8 hip (pN 3 hip vpNil))))))) Hand.none hnT 1
abbrev RcB5 {u r wd c0 c1 c2:Int} {s d nn p qq rs:Nat} {W:Nat→BitVec 64} (h3:0≤r) (h4:r+30≤100000) (h7:0≤c2) (h8:c2≤200000) (h11:s≤10000) (h12:d≤10000) (hN:nn≤300) (h5:8≤wd) (h6:wd+11≤2048):VRows (ivcB5 u r wd c0 c1 c2 s d nn p qq rs W) (vvcB5 u r wd c0 c1 c2 s d nn p qq rs W) (vkcB5 u r wd c0 c1 c2 s d nn p qq rs W) where
  vvp:=vpcB5 u r wd c0 c1 c2 s d nn p qq rs W
  ib:=[(14,.oi 4,.int .i64 100000,.bool false),(9,.oi 15,.int .i64 0,.bool false),(1,.oi 15,.int .i64 1,.oi 16),(11,.oi 16,.oi 15,.bool true),(14,.oi 16,.int .i64 0,.bool true),(0,.oi 4,.int .i64 1,.oi 17),(0,.oi 8,.int .i64 1,.oi 18),(1,.oi 14,.int .i64 1,.oi 19),(1,.oi 19,.int .i64 0,.oi 19),(11,.oi 19,.oi 14,.bool true),(14,.oi 19,.int .i64 0,.bool true),(12,.oi 19,.oi 14,.bool true),(1,.oi 5,.int .i64 8,.oi 20),(12,.oi 10,.oi 19,.bool true),(14,.oi 10,.int .i64 0,.bool true),(12,.oi 16,.oi 15,.bool true),(9,.oi 16,.int .i64 0,.bool false),(1,.oi 16,.int .i64 1,.oi 13),(11,.oi 13,.oi 16,.bool true),(14,.oi 13,.int .i64 0,.bool true)]
  ibok:=by as_aux_lemma=>letI:=Tab.empty;exact (eH (eE (eS (eL (eH (eA (eA (eS (eS (eL (eH (eK (eS (eK (eH (eK (eE (eS (eL (eH ibNil))))))))))))))))))))
  vl:=[⟨5,16,1,0,[(.ptr 20005 0)]⟩,⟨6,16,7,6,[(.int .i64 1)]⟩,⟨2,19,1,0,[(.oi 3)]⟩,⟨3,19,1,0,[(.bool false)]⟩,⟨7,16,7,4,[(.int .i64 1)]⟩,⟨7,16,7,5,[(.int .i64 3)]⟩,⟨7,16,7,3,[(.oi 10)]⟩,⟨5,13,1,0,[(.ptr 20040 0)]⟩,⟨7,13,7,6,[(.int .i64 1)]⟩,⟨7,13,7,5,[(.int .i64 3)]⟩]
  vlok:=by as_aux_lemma=>exact (lQ 1 (lQ 13 (lQ 3 (lQ 3 (lQ 11 (lQ 12 (lQ 10 (lQ 0 (lQ 6 (lQ 5 allNil))))))))))
  vs:=[⟨4,16,7,2,[(.int .i64 5)],6⟩,⟨6,16,7,6,[(.int .i64 0)],7⟩,⟨7,13,7,6,[(.int .i64 2)],8⟩]
  vsok:=by as_aux_lemma=>exact (sQ 9 (sQ 13 (sQ 6 allNil)))
  va:=[⟨2,10,1,[(.oi 3)],9,19⟩,⟨3,10,1,[(.bool false)],10,19⟩]
  vaok:=by as_aux_lemma=>exact (aQ 2 1 (aQ 2 1 allNil))
theorem gocB5 {u r wd c0 c1 c2:Int} {s d nn p qq rs:Nat} {W:Nat→BitVec 64} (h3:0≤r) (h4:r+30≤100000) (h7:0≤c2) (h8:c2≤200000) (h11:s≤10000) (h12:d≤10000) (hN:nn≤300) (h5:8≤wd) (h6:wd+11≤2048) {rv:Nat→Value} (hb:Base B μ 20000) {Q:Exit→Act→World→Prop} {j_:Nat} (s_:ScB5 u r wd c0 c1 c2 s d nn p qq rs W rv B w0 μ a w) (hQ:∀ a' w',ScMB (r+1) (wd - 8) c0 c1 (c2+1) s d nn p qq rs W rv B w0 μ a' w'→Code.rounds Tryz.prog la Q j_ a' w'):Code.rounds Tryz.prog la Q (j_+1) a w :=
  goT hQ s_ (RcB5 h3 h4 h7 h8 h11 h12 hN h5 h6) hb [(20001,20099),(20002,20100),(20005,20040)] [(.oi 11,9),(.oi 12,10),(.oi 19,12),(.oi 16,13),(.oi 20,4),(.oi 6,5),(.oi 7,6),(.oi 18,7),(.oi 17,3),(.oi 0,0),(.oi 1,1),(.oi 3,2),(.oi 9,8)] (nN (nN (nN (nN (nO (nN (nN (nO (nO (nN (nN (nN (nN ipNil))))))))))))) [(20099,.vec 9,2),(20100,.vec 10,3),(20003,.vec 8,4),(20004,.vec 5,5),(20021,.vec 0,0),(20022,.vec 1,1)] (fun hip=>(pQ hip (pQ hip (pQ hip (pQ hip (pW 8 hip (pN 3 hip vpNil))))))) Hand.none hnT 1
abbrev RcA23 {u r wd c0 c1 c2:Int} {s d nn p rs:Nat} {W:Nat→BitVec 64} (h3:0≤r) (h4:r+30≤100000) (h7:0≤c2) (h8:c2≤200000) (h11:s≤10000) (h12:d≤10000) (hN:nn≤300) (h5:8≤wd) (h6:wd+11≤2048):VRows (ivcA23 u r wd c0 c1 c2 s d nn p rs W) (vvcA23 u r wd c0 c1 c2 s d nn p rs W) (vkcA23 u r wd c0 c1 c2 s d nn p rs W) where
  vvp:=vpcA23 u r wd c0 c1 c2 s d nn p rs W
  ib:=[(14,.oi 3,.int .i64 100000,.bool false),(9,.oi 14,.int .i64 0,.bool false),(1,.oi 14,.int .i64 1,.oi 15),(11,.oi 15,.oi 14,.bool true),(14,.oi 15,.int .i64 0,.bool true),(0,.oi 3,.int .i64 1,.oi 16),(0,.oi 7,.int .i64 1,.oi 17),(1,.oi 13,.int .i64 1,.oi 18),(1,.oi 18,.int .i64 0,.oi 18),(11,.oi 18,.oi 13,.bool true),(14,.oi 18,.int .i64 0,.bool true),(12,.oi 18,.oi 13,.bool true),(1,.oi 4,.int .i64 8,.oi 19),(12,.oi 9,.oi 18,.bool true),(14,.oi 9,.int .i64 0,.bool true),(12,.oi 15,.oi 14,.bool true),(9,.oi 15,.int .i64 0,.bool false),(1,.oi 15,.int .i64 1,.oi 12),(11,.oi 12,.oi 15,.bool true),(14,.oi 12,.int .i64 0,.bool true)]
  ibok:=by as_aux_lemma=>letI:=Tab.empty;exact (eH (eE (eS (eL (eH (eA (eA (eS (eS (eL (eH (eK (eS (eK (eH (eK (eE (eS (eL (eH ibNil))))))))))))))))))))
  vl:=[⟨5,15,1,0,[(.ptr 20005 0)]⟩,⟨6,15,7,6,[(.int .i64 1)]⟩,⟨2,18,1,0,[(.oi 2)]⟩,⟨3,18,1,0,[(.bool false)]⟩,⟨7,15,7,4,[(.int .i64 1)]⟩,⟨7,15,7,5,[(.int .i64 3)]⟩,⟨7,15,7,3,[(.oi 9)]⟩,⟨5,12,1,0,[(.ptr 20040 0)]⟩,⟨7,12,7,6,[(.int .i64 0)]⟩,⟨7,12,7,5,[(.int .i64 3)]⟩]
  vlok:=by as_aux_lemma=>exact (lQ 1 (lQ 13 (lQ 2 (lQ 2 (lQ 11 (lQ 12 (lQ 10 (lQ 0 (lQ 6 (lQ 5 allNil))))))))))
  vs:=[⟨4,15,7,2,[(.int .i64 23)],6⟩,⟨6,15,7,6,[(.int .i64 0)],7⟩,⟨7,12,7,6,[(.int .i64 1)],8⟩]
  vsok:=by as_aux_lemma=>exact (sQ 9 (sQ 13 (sQ 6 allNil)))
  va:=[⟨2,9,1,[(.oi 2)],9,18⟩,⟨3,9,1,[(.bool false)],10,18⟩]
  vaok:=by as_aux_lemma=>exact (aQ 1 1 (aQ 1 1 allNil))
theorem gocA23 {u r wd c0 c1 c2:Int} {s d nn p rs:Nat} {W:Nat→BitVec 64} (h3:0≤r) (h4:r+30≤100000) (h7:0≤c2) (h8:c2≤200000) (h11:s≤10000) (h12:d≤10000) (hN:nn≤300) (h5:8≤wd) (h6:wd+11≤2048) {rv:Nat→Value} (hb:Base B μ 20000) {Q:Exit→Act→World→Prop} {j_:Nat} (s_:ScA23 u r wd c0 c1 c2 s d nn p rs W rv B w0 μ a w) (hQ:∀ a' w',ScMA (r+1) (wd - 8) c0 c1 (c2+1) s d nn p rs W rv B w0 μ a' w'→Code.rounds Tryz.prog la Q j_ a' w'):Code.rounds Tryz.prog la Q (j_+1) a w :=
  goT hQ s_ (RcA23 h3 h4 h7 h8 h11 h12 hN h5 h6) hb [(20001,20099),(20002,20100),(20005,20040)] [(.oi 10,8),(.oi 11,9),(.oi 18,11),(.oi 15,12),(.oi 19,3),(.oi 5,4),(.oi 6,5),(.oi 17,6),(.oi 16,2),(.oi 0,0),(.oi 2,1),(.oi 8,7)] (nN (nN (nN (nN (nO (nN (nN (nO (nO (nN (nN (nN ipNil)))))))))))) [(20099,.vec 9,2),(20100,.vec 10,3),(20003,.vec 8,4),(20004,.vec 5,5),(20021,.vec 0,0),(20022,.vec 1,1)] (fun hip=>(pQ hip (pQ hip (pQ hip (pQ hip (pW 8 hip (pN 3 hip vpNil))))))) Hand.none hnT 1
abbrev RcB23 {u r wd c0 c1 c2:Int} {s d nn p qq rs:Nat} {W:Nat→BitVec 64} (h3:0≤r) (h4:r+30≤100000) (h7:0≤c2) (h8:c2≤200000) (h11:s≤10000) (h12:d≤10000) (hN:nn≤300) (h5:8≤wd) (h6:wd+11≤2048):VRows (ivcB23 u r wd c0 c1 c2 s d nn p qq rs W) (vvcB23 u r wd c0 c1 c2 s d nn p qq rs W) (vkcB23 u r wd c0 c1 c2 s d nn p qq rs W) where
  vvp:=vpcB23 u r wd c0 c1 c2 s d nn p qq rs W
  ib:=[(14,.oi 4,.int .i64 100000,.bool false),(9,.oi 15,.int .i64 0,.bool false),(1,.oi 15,.int .i64 1,.oi 16),(11,.oi 16,.oi 15,.bool true),(14,.oi 16,.int .i64 0,.bool true),(0,.oi 4,.int .i64 1,.oi 17),(0,.oi 8,.int .i64 1,.oi 18),(1,.oi 14,.int .i64 1,.oi 19),(1,.oi 19,.int .i64 0,.oi 19),(11,.oi 19,.oi 14,.bool true),(14,.oi 19,.int .i64 0,.bool true),(12,.oi 19,.oi 14,.bool true),(1,.oi 5,.int .i64 8,.oi 20),(12,.oi 10,.oi 19,.bool true),(14,.oi 10,.int .i64 0,.bool true),(12,.oi 16,.oi 15,.bool true),(9,.oi 16,.int .i64 0,.bool false),(1,.oi 16,.int .i64 1,.oi 13),(11,.oi 13,.oi 16,.bool true),(14,.oi 13,.int .i64 0,.bool true)]
  ibok:=by as_aux_lemma=>letI:=Tab.empty;exact (eH (eE (eS (eL (eH (eA (eA (eS (eS (eL (eH (eK (eS (eK (eH (eK (eE (eS (eL (eH ibNil))))))))))))))))))))
  vl:=[⟨5,16,1,0,[(.ptr 20005 0)]⟩,⟨6,16,7,6,[(.int .i64 1)]⟩,⟨2,19,1,0,[(.oi 3)]⟩,⟨3,19,1,0,[(.bool false)]⟩,⟨7,16,7,4,[(.int .i64 1)]⟩,⟨7,16,7,5,[(.int .i64 3)]⟩,⟨7,16,7,3,[(.oi 10)]⟩,⟨5,13,1,0,[(.ptr 20040 0)]⟩,⟨7,13,7,6,[(.int .i64 1)]⟩,⟨7,13,7,5,[(.int .i64 3)]⟩]
  vlok:=by as_aux_lemma=>exact (lQ 1 (lQ 13 (lQ 3 (lQ 3 (lQ 11 (lQ 12 (lQ 10 (lQ 0 (lQ 6 (lQ 5 allNil))))))))))
  vs:=[⟨4,16,7,2,[(.int .i64 23)],6⟩,⟨6,16,7,6,[(.int .i64 0)],7⟩,⟨7,13,7,6,[(.int .i64 2)],8⟩]
  vsok:=by as_aux_lemma=>exact (sQ 9 (sQ 13 (sQ 6 allNil)))
  va:=[⟨2,10,1,[(.oi 3)],9,19⟩,⟨3,10,1,[(.bool false)],10,19⟩]
  vaok:=by as_aux_lemma=>exact (aQ 2 1 (aQ 2 1 allNil))
theorem gocB23 {u r wd c0 c1 c2:Int} {s d nn p qq rs:Nat} {W:Nat→BitVec 64} (h3:0≤r) (h4:r+30≤100000) (h7:0≤c2) (h8:c2≤200000) (h11:s≤10000) (h12:d≤10000) (hN:nn≤300) (h5:8≤wd) (h6:wd+11≤2048) {rv:Nat→Value} (hb:Base B μ 20000) {Q:Exit→Act→World→Prop} {j_:Nat} (s_:ScB23 u r wd c0 c1 c2 s d nn p qq rs W rv B w0 μ a w) (hQ:∀ a' w',ScMB (r+1) (wd - 8) c0 c1 (c2+1) s d nn p qq rs W rv B w0 μ a' w'→Code.rounds Tryz.prog la Q j_ a' w'):Code.rounds Tryz.prog la Q (j_+1) a w :=
  goT hQ s_ (RcB23 h3 h4 h7 h8 h11 h12 hN h5 h6) hb [(20001,20099),(20002,20100),(20005,20040)] [(.oi 11,9),(.oi 12,10),(.oi 19,12),(.oi 16,13),(.oi 20,4),(.oi 6,5),(.oi 7,6),(.oi 18,7),(.oi 17,3),(.oi 0,0),(.oi 1,1),(.oi 3,2),(.oi 9,8)] (nN (nN (nN (nN (nO (nN (nN (nO (nO (nN (nN (nN (nN ipNil))))))))))))) [(20099,.vec 9,2),(20100,.vec 10,3),(20003,.vec 8,4),(20004,.vec 5,5),(20021,.vec 0,0),(20022,.vec 1,1)] (fun hip=>(pQ hip (pQ hip (pQ hip (pQ hip (pW 8 hip (pN 3 hip vpNil))))))) Hand.none hnT 1
end
end Go.Proofs.YtnhgdcgeehcebaaGreatDoor.tt
