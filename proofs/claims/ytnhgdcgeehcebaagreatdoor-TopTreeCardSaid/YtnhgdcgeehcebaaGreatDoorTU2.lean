/-
  The lowest frame, set aside and back; steps between and at the end.
-/
import Derived.Test.YtnhgdcgeehcebaaGreatDoorTU0
import Derived.Test.YtnhgdcgeehcebaaGreatDoorXN3
import Derived.Test.YtnhgdcgeehcebaaGreatDoorTTM
import Derived.Test.YtnhgdcgeehcebaaGreatDoorProg
import Derived.KernelRfl
set_option linter.unusedSectionVars false
set_option linter.unusedVariables false
set_option maxRecDepth 1000000
set_option maxHeartbeats 0
namespace Go.Proofs.YtnhgdcgeehcebaaGreatDoor.tt
open Go.X Go.RowKit Go.Proofs.YtnhgdcgeehcebaaGreatDoor
section
variable {B:Kp} {w0 w w1:World} {μ μ0:M} {a:Act}
open Go.Proofs.YtnhgdcgeehcebaaGreatDoor.bs
def Hid_hideS (v:Int) (rv:Nat→Value) (B:Kp) (w0:World) (μ0:M) (w:World) (rv':Nat→Value) (E:Nat→Prop):Prop :=
  ∃ (μ:M) (lf:X.Loc) (LL:Nat→X.Loc),Ext μ0 μ∧@HR (PS2 v rv) B w0 μ (hOf 20040 bsS2) w∧μ 20006=some lf∧E=(fun j=>j=lf.block)∧rv'=snap w LL∧μ 20001=some (LL 0)∧μ 20002=some (LL 1)∧μ 20003=some (LL 2)∧μ 20004=some (LL 3)
noncomputable abbrev C_hideS:Cv:=⟨20000,20040,ofPairs (rlT [] bsF),[(.int .i64 12,7),(.int .i64 4,8),(.oi 0,10),(.oi 1,11),(.int .i64 15,3),(.int .i64 7,4),(.int .i64 3,5),(.int .i64 12,2),(.oi 2,0),(.int .i64 9,1),(.int .i64 1,6)]⟩
theorem hideS {v:Int} {rv:Nat→Value} (hb:Base B μ0 20000) (s_:SS2 v rv B w0 μ0 a w):∃ rv' E,Hid_hideS v rv B w0 μ0 w rv' E∧SF v 12 15 7 3 (0+1) (0+1) 1 0 (setW (fun _=>0#64) 0 3#64) rv' (B.also E) w μ0 a w:=by
  obtain ⟨μ,hx,f,r_⟩:=s_
  have g:=fun x b h=>@HR.blk (PS2 v rv) B w0 μ (hOf 20040 bsS2) w r_ x b h
  obtain ⟨l0,m0,_⟩:=g 20001 (.vec 0) (by kernel_rfl)
  obtain ⟨l1,m1,_⟩:=g 20002 (.vec 1) (by kernel_rfl)
  obtain ⟨l2,m2,_⟩:=g 20003 (.vec 2) (by kernel_rfl)
  obtain ⟨l3,m3,_⟩:=g 20004 (.vec 3) (by kernel_rfl)
  obtain ⟨lf,mf,_⟩:=g 20006 ke63 (by kernel_rfl)
  let LL:Nat→X.Loc:=fun c=>match c with | 0=>l0 | 1=>l1 | 2=>l2 | _=>l3
  refine ⟨snap w LL,fun j=>j=lf.block,⟨μ,lf,LL,hx,r_,mf,rfl,rfl,m0,m1,m2,m3⟩,?_⟩
  have hip:IpOk (PS2 v rv) (PF v 12 15 7 3 (0+1) (0+1) 1 0 (setW (fun _=>0#64) 0 3#64) (snap w LL)) C_hideS.ip:=(ipCons (ipK (show (IntKind.i64,((8+4*1:Nat):Int))=(IntKind.i64,12) from Prod.ext rfl (show (((8+4*1:Nat):Int):Int)=12 by omega))) (ipCons (ipK (show (IntKind.i64,((3+1:Nat):Int))=(IntKind.i64,4) from Prod.ext rfl (show (((3+1:Nat):Int):Int)=4 by omega))) (nO (nO (ipCons (ipK (show (IntKind.i64,15)=(IntKind.i64,15) from Prod.ext rfl (show (15:Int)=15 by omega))) (ipCons (ipK (show (IntKind.i64,7)=(IntKind.i64,7) from Prod.ext rfl (show (7:Int)=7 by omega))) (ipCons (ipK (show (IntKind.i64,3)=(IntKind.i64,3) from Prod.ext rfl (show (3:Int)=3 by omega))) (ipCons (ipK (show (IntKind.i64,12)=(IntKind.i64,12) from Prod.ext rfl (show (12:Int)=12 by omega))) (nN (ipCons (ipK (show (IntKind.i64,((8+4*0+1:Nat):Int))=(IntKind.i64,9) from Prod.ext rfl (show (((8+4*0+1:Nat):Int):Int)=9 by omega))) (ipCons (ipK (show (IntKind.i64,(((0+1):Nat):Int))=(IntKind.i64,1) from Prod.ext rfl (show ((((0+1):Nat):Int):Int)=1 by omega))) ipNil)))))))))))
  have hvp:Told (PS2 v rv) (PF v 12 15 7 3 (0+1) (0+1) 1 0 (setW (fun _=>0#64) 0 3#64) (snap w LL)) C_hideS μ w [(20001,.vec 0,2),(20002,.vec 1,3),(20003,.vec 2,4),(20004,.vec 3,5),(20021,.cells 12 true [] (T.ofList 0 .leaf y48),0),(20022,.cells 4 true [] (T.ofList 0 .leaf y49),1)]:=(tQ (b:=0) (L:=y18) 0 1 hip m0 rfl rfl (tQ (b:=0) (L:=y8) 1 1 hip m1 rfl rfl (tQ (b:=0) (L:=y14) 2 7 hip m2 rfl rfl (tQ (b:=0) (L:=y4) 3 1 hip m3 rfl rfl (allCons ⟨rfl,fun l hl hb_=>(vpWc (T:=(PS2 v rv)) (T':=(PF v 12 15 7 3 (0+1) (0+1) 1 0 (setW (fun _=>0#64) 0 3#64) (snap w LL))) (C:=C_hideS) (i':=0) (n:=12) (n':=8+4*1) (L:=y48) (L':=y0) (W':=(setW (fun _=>0#64) 0 3#64)) hip rfl rfl (by decide) (by show 8+4*1≤_;decide) (by show 8+4*1≤_;decide) (by decide) (by kernel_rfl) (fun q_ a_ h_=>by
      match q_,h_ with
      | 0,h_=>cases h_;rfl
      | 1,h_=>cases h_;rfl
      | 2,h_=>cases h_;rfl
      | 3,h_=>cases h_;rfl
      | q_+4,h_=>exact absurd (List.getElem?_eq_some_iff.1 h_).1 (by show ¬ (8+(q_+4)<12);omega))).2 _ l w hb_⟩
    (allCons ⟨rfl,fun l hl hb_=>(vpNc (T:=(PS2 v rv)) (T':=(PF v 12 15 7 3 (0+1) (0+1) 1 0 (setW (fun _=>0#64) 0 3#64) (snap w LL))) (C:=C_hideS) (i':=1) (n:=4) (n':=3+1) (L:=y49) (L':=y1) (F':=stT) hip rfl rfl (by decide) (by show 3+1≤_;decide) (by show 3+1≤_;decide) (by decide) (by kernel_rfl) (fun q_ a_ h_=>by
      match q_,h_ with
      | 0,h_=>cases h_;rfl
      | q_+1,h_=>exact absurd (List.getElem?_eq_some_iff.1 h_).1 (by show ¬ (3+(q_+1)<4);omega))).2 _ l w hb_⟩
    allNil))))))
  obtain ⟨q1,q2,q3⟩:=HR.weakAt (C:=C_hideS) (rl:=(rlT [] bsF)) hb (by decide) rfl (by kernel_rfl) hip hvp (fs:=fsR) (bs:=bsF) (E:=fun j=>j=lf.block)
    (aside_of (x:=20006) r_ (by kernel_rfl:_=some ke63) rfl mf (by decide)) (by kernel_rfl) (by kernel_rfl) hx f r_ (fun _=>glNone rfl rfl)
  exact ⟨_,q1,q2,q3⟩
noncomputable abbrev C_unS:Cv:=⟨20000,20041,ofPairs (rlT [] bsGs),[(.oi 0,9),(.oi 1,10),(.oi 2,11),(.oi 3,12),(.oi 4,4),(.oi 5,5),(.oi 6,6),(.oi 7,3),(.oi 8,1),(.oi 9,2),(.oi 10,8)]⟩
theorem unS {v u r1 w1_ b0 b1:Int} {nn1 rs:Nat} {W1:Nat→BitVec 64} {rv rv':Nat→Value} {E:Nat→Prop} (hM:∃ l,μ0 15191=some l) (hb:Base B μ0 20000) (hd:Hid_hideS v rv B w0 μ0 w rv' E)
    (s_:SR37 u r1 w1_ b0 b1 (0+1) (0+1) nn1 rs W1 rv' (B.also E) w μ0 a w1):SGs v u r1 w1_ b0 b1 nn1 rs W1 rv B w0 μ0 a w1:=by
  letI:Tab:=(PR37 u r1 w1_ b0 b1 (0+1) (0+1) nn1 rs W1 rv')
  obtain ⟨μ,lf,LL,hx,r_,mf,hE,hrv,m0,m1,m2,m3⟩:=hd
  obtain ⟨μ1,hx1,f1,r1_⟩:=s_
  have g:=fun x b h=>@HR.blk (PS2 v rv) B w0 μ (hOf 20040 bsS2) w r_ x b h
  obtain ⟨l0,k0,_,_,b0_⟩:=g 20001 (.vec 0) (by kernel_rfl)
  obtain ⟨l1,k1,_,_,b1_⟩:=g 20002 (.vec 1) (by kernel_rfl)
  obtain ⟨l2,k2,_,_,b2_⟩:=g 20003 (.vec 2) (by kernel_rfl)
  obtain ⟨l3,k3,_,_,b3_⟩:=g 20004 (.vec 3) (by kernel_rfl)
  obtain ⟨lf2,kf,nf,_,bf⟩:=g 20006 ke63 (by kernel_rfl)
  rw [m0] at k0;cases k0
  rw [m1] at k1;cases k1
  rw [m2] at k2;cases k2
  rw [m3] at k3;cases k3
  rw [mf] at kf;cases kf
  have q0:=vec_was (b:=0) (c:=0) (LL:=LL) (by decide) rfl rfl b0_
  have q1:=vec_was (b:=0) (c:=1) (LL:=LL) (by decide) rfl rfl b1_
  have q2:=vec_was (b:=0) (c:=2) (LL:=LL) (by decide) rfl rfl b2_
  have q3:=vec_was (b:=0) (c:=3) (LL:=LL) (by decide) rfl rfl b3_
  have hEl:E lf.block:=by rw [hE]
  have hext:Ext μ1 (upm μ1 20040 lf):=Ext.upm _ (@HR.fresh _ _ _ _ _ _ r1_ 20040 (by rw [hOf_next];exact Nat.le_refl _)).2
  have hbf:@brel (PR37 u r1 w1_ b0 b1 (0+1) (0+1) nn1 rs W1 rv') (upm μ1 20040 lf) ke63 lf w1:=brel_cells bf ((@HR.below _ _ _ _ _ _ r1_).block _ (.inr hEl)) (fun i x hi hx_ y hy=>by
    have h1:=cellOf_mem (L:=[(.int .i64 0),(.int .i64 2),(.ptr 15191 0),(.int .i64 2),(.int .i64 1),.nilp]) (by decide) hx_
    simp only [List.mem_cons,List.not_mem_nil,or_false] at h1
    obtain ⟨lm,hlm⟩:=hM
    rcases h1 with rfl | rfl | rfl | rfl | rfl | rfl<;>simp only [vrel] at hy ⊢<;>first | exact hy | (obtain ⟨l5,h6,h7⟩:=hy;rw [hx _ _ hlm] at h6;cases h6;exact ⟨lm,hext _ _ (hx1 _ _ hlm),h7⟩))
  have r2:=HR.addBack r_ (nf rfl) rfl hEl r1_ (by rw [hOf_next];decide) (by rw [hOf_next];exact hbf) (glNone rfl rfl)
  rw [hOf_next] at r2
  have hip:IpOk (PR37 u r1 w1_ b0 b1 (0+1) (0+1) nn1 rs W1 rv') (PGs v u r1 w1_ b0 b1 nn1 rs W1 rv) C_unS.ip:=(nN (nN (nO (nO (nN (nN (nN (nN (nN (nN (nO ipNil)))))))))))
  have hip2:IpOk (PS2 v rv) (PGs v u r1 w1_ b0 b1 nn1 rs W1 rv) [(.oi 2,0),(.int .i64 0,7)]:=(nN (ipCons (ipK (show (IntKind.i64,((0:Nat):Int))=(IntKind.i64,0) from Prod.ext rfl (show (((0:Nat):Int):Int)=0 by omega))) ipNil))
  have hvp:Told (PR37 u r1 w1_ b0 b1 (0+1) (0+1) nn1 rs W1 rv') (PGs v u r1 w1_ b0 b1 nn1 rs W1 rv) C_unS (upm μ1 20040 lf) w1 [(20001,.vec 0,2),(20002,.vec 1,3),(20003,.vec 2,4),(20004,.vec 3,5),(20021,.vec 4,0),(20022,.vec 5,1)]:=(uQ 1 q0 hrv hip hip2 (uQ 1 q1 hrv hip hip2 (uQ 7 q2 hrv hip hip2 (uP q3 mf hrv hip (tW 8 hip (tN 3 hip allNil)) (by kernel_rfl)))))
  obtain ⟨p1,p2,p3⟩:=HR.weakIn (C:=C_unS) (rl:=(rlT [] bsGs)) hb (by decide) rfl (by kernel_rfl) hip hvp (fs:=fsR) (bs:=bsGs) (by kernel_rfl) (by kernel_rfl) (hx1.trans hext) (f1.ext hext) r2 (glNone rfl rfl)
  exact ⟨_,p1,p2,p3⟩
abbrev RGs {xx u r wd c0 c1:Int} {nn rs:Nat} {W:Nat→BitVec 64} (h3:0≤r) (h4:r+30≤100000) (h5:9≤wd) (h6:wd+20≤2048) (h7:0≤c0) (h8:c0≤200000) (h9:0≤c1) (h10:c1≤200000) (hN:nn≤300) (hr:rs≤100000):VRows (ivGs xx u r wd c0 c1 nn rs W) (vvGs xx u r wd c0 c1 nn rs W) (vkGs xx u r wd c0 c1 nn rs W) where
  vvp:=vpGs xx u r wd c0 c1 nn rs W
  ib:=[(14,.oi 3,.int .i64 100000,.bool false),(9,.oi 12,.int .i64 0,.bool false),(1,.oi 12,.int .i64 1,.oi 8),(11,.oi 8,.oi 12,.bool true),(14,.oi 8,.int .i64 0,.bool true),(0,.oi 3,.int .i64 1,.oi 13),(0,.oi 5,.int .i64 1,.oi 14),(1,.oi 11,.int .i64 1,.oi 15),(1,.oi 15,.int .i64 0,.oi 15),(11,.oi 15,.oi 11,.bool true),(14,.oi 15,.int .i64 0,.bool true),(12,.oi 15,.oi 11,.bool true),(1,.oi 4,.int .i64 9,.oi 16),(12,.oi 8,.oi 15,.bool true),(12,.oi 8,.oi 12,.bool true),(9,.oi 8,.int .i64 0,.bool false),(1,.oi 8,.int .i64 1,.oi 7),(11,.oi 7,.oi 8,.bool true),(14,.oi 7,.int .i64 0,.bool true),(14,.oi 13,.int .i64 100000,.bool false),(0,.oi 13,.int .i64 1,.oi 17),(1,.oi 8,.int .i64 0,.oi 8),(1,.int .i64 2048,.oi 16,.oi 18),(13,.int .i64 8,.oi 18,.bool false),(0,.oi 16,.int .i64 8,.oi 19),(0,.oi 8,.int .i64 0,.oi 8),(14,.oi 17,.int .i64 100000,.bool false),(0,.oi 17,.int .i64 1,.oi 20),(11,.oi 8,.int .i64 0,.bool false)]
  ibok:=by as_aux_lemma=>letI:=Tab.empty;exact (eH (eE (eS (eL (eH (eA (eA (eS (eS (eL (eH (eK (eS (eK (eK (eE (eS (eL (eH (eH (eA (eS (eS (eG (eA (eA (eH (eA (eL ibNil)))))))))))))))))))))))))))))
  vl:=[⟨5,8,1,0,[(.ptr 20005 0)]⟩,⟨6,8,7,6,[(.int .i64 1)]⟩,⟨2,15,1,0,[(.oi 2)]⟩,⟨3,15,1,0,[(.bool true)]⟩,⟨7,8,7,4,[(.int .i64 2)]⟩,⟨7,8,7,5,[(.int .i64 3)]⟩,⟨7,8,7,3,[(.oi 8)]⟩,⟨5,7,1,0,[(.ptr 20040 0)]⟩,⟨7,7,7,6,[(.int .i64 0)]⟩,⟨7,7,7,5,[(.int .i64 1)]⟩,⟨11,7,7,6,[(.int .i64 1)]⟩,⟨9,8,1,0,[(.oi 2)]⟩,⟨10,8,1,0,[(.bool true)]⟩,⟨13,8,7,4,[(.int .i64 1)]⟩,⟨13,8,7,3,[(.oi 8)]⟩,⟨16,8,1,0,[(.ptr 20221 0)]⟩,⟨13,8,7,6,[(.int .i64 0)]⟩,⟨13,8,7,5,[(.int .i64 3)]⟩]
  vlok:=by as_aux_lemma=>exact (lQ 1 (lQ 13 (lQ 3 (lQ 3 (lQ 11 (lQ 12 (lQ 10 (lQ 0 (lQ 6 (lQ 5 (lQ 6 (lQ 1 (lQ 1 (lQ 11 (lQ 10 (lQ 1 (lQ 13 (lQ 12 allNil))))))))))))))))))
  vs:=[⟨4,8,7,2,[(.int .i64 37)],6⟩,⟨6,8,7,6,[(.int .i64 0)],7⟩,⟨7,7,7,6,[(.int .i64 1)],8⟩,⟨8,7,7,2,[(.int .i64 4)],11⟩,⟨11,7,7,6,[(.int .i64 0)],12⟩,⟨14,8,1,0,[(.oi 2)],9⟩,⟨15,8,1,0,[(.bool true)],10⟩,⟨13,8,7,2,[(.int .i64 0)],13⟩,⟨13,8,7,6,[(.int .i64 1)],17⟩]
  vsok:=by as_aux_lemma=>exact (sQ 9 (sQ 13 (sQ 6 (sQ 2 (sQ 6 (sQ 1 (sQ 1 (sQ 9 (sQ 13 allNil)))))))))
  va:=[⟨2,8,1,[(.oi 2)],9,12⟩,⟨3,8,1,[(.bool true)],10,12⟩,⟨12,8,7,[(.int .i64 0),(.int .i64 1),(.int .i64 0),(.oi 8),(.int .i64 1),(.int .i64 3),(.int .i64 0)],13,12⟩,⟨9,8,1,[(.int .i64 0)],14,12⟩,⟨10,8,1,[(.bool false)],15,12⟩,⟨5,8,1,[(.ptr 20221 0)],16,12⟩,⟨9,12,1,[(.oi 2)],18,15⟩,⟨10,12,1,[(.bool true)],19,15⟩]
  vaok:=by as_aux_lemma=>exact (aQ 1 1 (aQ 1 1 (aQ 7 7 (aQ 1 1 (aQ 1 1 (aQ 1 1 (aQ 2 1 (aQ 2 1 allNil))))))))
theorem goG {xx u r wd c0 c1:Int} {nn rs:Nat} {W:Nat→BitVec 64} (h3:0≤r) (h4:r+30≤100000) (h5:9≤wd) (h6:wd+20≤2048) (h7:0≤c0) (h8:c0≤200000) (h9:0≤c1) (h10:c1≤200000) (hN:nn≤300) (hr:rs≤100000) {rv:Nat→Value} (hb:Base B μ 20000) {Q:Exit→Act→World→Prop} {j_:Nat} (s_:SGs xx u r wd c0 c1 nn rs W rv B w0 μ a w) (hQ:∀ a' w',SG2 xx r wd c0 c1 nn rs W rv B w0 μ a' w'→Code.rounds Tryz.prog la Q j_ a' w'):Code.rounds Tryz.prog la Q (j_+3) a w :=
  goT hQ s_ (RGs h3 h4 h5 h6 h7 h8 h9 h10 hN hr) hb [(20001,20252),(20002,20253),(20003,20218),(20004,20223),(20005,20221),(20006,20040)] [(.oi 9,0),(.oi 10,1),(.oi 15,2),(.oi 12,3),(.oi 19,4),(.oi 14,5),(.oi 6,6),(.oi 20,7),(.oi 0,8),(.oi 2,9),(.oi 7,10),(.oi 8,11)] (nN (nN (nN (nN (nN (nN (nN (nN (nN (nN (nN (nN ipNil)))))))))))) [(20252,.vec 18,0),(20253,.vec 19,1),(20218,.vec 17,2),(20223,.vec 16,3),(20021,.vec 0,4),(20022,.vec 1,5)] (fun hip=>(vpCons (vpPre (b:=0) (c:=0) (L:=[(.oi 0),(.oi 2),(.oi 2)]) (L':=y17) (i:=18) (i':=0) hip rfl rfl rfl (Nat.add_le_add_left (by decide) _) (by kernel_rfl)) (vpCons (vpPre (b:=0) (c:=1) (L:=y3) (L':=y3) (i:=19) (i':=1) hip rfl rfl rfl (Nat.add_le_add_left (by decide) _) (by kernel_rfl)) (vpCons (vpPre (b:=0) (c:=2) (L:=y50) (L':=y43) (i:=17) (i':=2) hip rfl rfl rfl (Nat.add_le_add_left (by decide) _) (by kernel_rfl)) (vpCons (vpPre (b:=0) (c:=3) (L:=[(.ptr 20040 0),(.ptr 20221 0)]) (L':=y4) (i:=16) (i':=3) hip rfl rfl rfl (Nat.add_le_add_left (by decide) _) (by kernel_rfl)) (pW 8 hip (pN 3 hip vpNil))))))) Hand.none hnT 3
def Hid_hideG (xx r wd c0 c1:Int) (nn rs:Nat) (W:Nat→BitVec 64) (rv:Nat→Value) (B:Kp) (w0:World) (μ0:M) (w:World) (rv':Nat→Value) (E:Nat→Prop):Prop :=
  ∃ (μ:M) (lf:X.Loc) (LL:Nat→X.Loc),Ext μ0 μ∧@HR (PG2 xx r wd c0 c1 nn rs W rv) B w0 μ (hOf 20040 bsG2) w∧μ 20006=some lf∧E=(fun j=>j=lf.block)∧rv'=snap w LL∧μ 20001=some (LL 0)∧μ 20002=some (LL 1)∧μ 20003=some (LL 2)∧μ 20004=some (LL 3)
noncomputable abbrev C_hideG:Cv:=⟨20000,20040,ofPairs (rlT [] bscE),[(.oi 0,7),(.oi 1,8),(.oi 2,10),(.oi 3,11),(.oi 4,2),(.oi 5,3),(.oi 6,4),(.int .i64 1,5),(.oi 7,1),(.oi 9,0),(.oi 11,6)]⟩
theorem hideG {xx r wd c0 c1:Int} {nn rs:Nat} {W:Nat→BitVec 64} (ha:rs=9) {rv:Nat→Value} (hb:Base B μ0 20000) (s_:SG2 xx r wd c0 c1 nn rs W rv B w0 μ0 a w):∃ rv' E,Hid_hideG xx r wd c0 c1 nn rs W rv B w0 μ0 w rv' E∧ScE (r+3) (wd - 1) (c0+1) c1 1 (0+1) (0+1) nn 0 W rv' (B.also E) w μ0 a w:=by
  obtain ⟨μ,hx,f,r_⟩:=s_
  have g:=fun x b h=>@HR.blk (PG2 xx r wd c0 c1 nn rs W rv) B w0 μ (hOf 20040 bsG2) w r_ x b h
  obtain ⟨l0,m0,_⟩:=g 20001 (.vec 0) (by kernel_rfl)
  obtain ⟨l1,m1,_⟩:=g 20002 (.vec 1) (by kernel_rfl)
  obtain ⟨l2,m2,_⟩:=g 20003 (.vec 2) (by kernel_rfl)
  obtain ⟨l3,m3,_⟩:=g 20004 (.vec 3) (by kernel_rfl)
  obtain ⟨lf,mf,_⟩:=g 20006 ke64 (by kernel_rfl)
  let LL:Nat→X.Loc:=fun c=>match c with | 0=>l0 | 1=>l1 | 2=>l2 | _=>l3
  refine ⟨snap w LL,fun j=>j=lf.block,⟨μ,lf,LL,hx,r_,mf,rfl,rfl,m0,m1,m2,m3⟩,?_⟩
  have hip:IpOk (PG2 xx r wd c0 c1 nn rs W rv) (PcE (r+3) (wd - 1) (c0+1) c1 1 (0+1) (0+1) nn 0 W (snap w LL)) C_hideG.ip:=(nN (nN (nO (nO (nO (nO (nN (ipCons (ipK (show (IntKind.i64,1)=(IntKind.i64,1) from Prod.ext rfl (show (1:Int)=1 by omega))) (nO (nO (nO ipNil)))))))))))
  have hvp:Told (PG2 xx r wd c0 c1 nn rs W rv) (PcE (r+3) (wd - 1) (c0+1) c1 1 (0+1) (0+1) nn 0 W (snap w LL)) C_hideG μ w [(20001,.vec 0,2),(20002,.vec 1,3),(20003,.vec 2,4),(20004,.vec 3,5),(20021,.vec 4,0),(20022,.vec 5,1)]:=(tQ (b:=0) (L:=y17) 0 1 hip m0 rfl rfl (tQ (b:=0) (L:=y3) 1 1 hip m1 rfl rfl (tQ (b:=0) (L:=y43) 2 7 hip m2 rfl rfl (tQ (b:=0) (L:=y4) 3 1 hip m3 rfl rfl (tW 8 hip (tN 3 hip allNil))))))
  obtain ⟨q1,q2,q3⟩:=HR.weakAt (C:=C_hideG) (rl:=(rlT [] bscE)) hb (by decide) rfl (by kernel_rfl) hip hvp (fs:=fsR) (bs:=bscE) (E:=fun j=>j=lf.block)
    (aside_of (x:=20006) r_ (by kernel_rfl:_=some ke64) rfl mf (by decide)) (by kernel_rfl) (by kernel_rfl) hx f r_ (fun _=>glNone rfl rfl)
  exact ⟨_,q1,q2,q3⟩
noncomputable abbrev C_unG:Cv:=⟨20000,20041,ofPairs ((20033,20033)::(rlT [] bsCs)),[(.oi 0,10),(.oi 1,11),(.oi 2,12),(.oi 3,13),(.oi 4,4),(.oi 5,5),(.oi 6,6),(.oi 7,7),(.oi 8,3),(.oi 9,1),(.oi 10,2),(.oi 11,9)]⟩
theorem unG {xx r wd c0 c1 u r1 w1_ b0 b1 b2:Int} {nn rs rs1:Nat} {W:Nat→BitVec 64} {rv rv':Nat→Value} {E:Nat→Prop} (hM:∃ l,μ0 15191=some l) (hb:Base B μ0 20000) (hd:Hid_hideG xx r wd c0 c1 nn rs W rv B w0 μ0 w rv' E)
    (s_:ScR23 u r1 w1_ b0 b1 b2 (0+1) (0+1) nn rs1 W rv' (B.also E) w μ0 a w1):SCs xx u r1 w1_ b0 b1 b2 nn rs1 W rv B w0 μ0 a w1:=by
  letI:Tab:=(PcR23 u r1 w1_ b0 b1 b2 (0+1) (0+1) nn rs1 W rv')
  obtain ⟨μ,lf,LL,hx,r_,mf,hE,hrv,m0,m1,m2,m3⟩:=hd
  obtain ⟨μ1,hx1,f1,r1_⟩:=s_
  have g:=fun x b h=>@HR.blk (PG2 xx r wd c0 c1 nn rs W rv) B w0 μ (hOf 20040 bsG2) w r_ x b h
  obtain ⟨l0,k0,_,_,b0_⟩:=g 20001 (.vec 0) (by kernel_rfl)
  obtain ⟨l1,k1,_,_,b1_⟩:=g 20002 (.vec 1) (by kernel_rfl)
  obtain ⟨l2,k2,_,_,b2_⟩:=g 20003 (.vec 2) (by kernel_rfl)
  obtain ⟨l3,k3,_,_,b3_⟩:=g 20004 (.vec 3) (by kernel_rfl)
  obtain ⟨lf2,kf,nf,_,bf⟩:=g 20006 ke64 (by kernel_rfl)
  rw [m0] at k0;cases k0
  rw [m1] at k1;cases k1
  rw [m2] at k2;cases k2
  rw [m3] at k3;cases k3
  rw [mf] at kf;cases kf
  have q0:=vec_was (b:=0) (c:=0) (LL:=LL) (by decide) rfl rfl b0_
  have q1:=vec_was (b:=0) (c:=1) (LL:=LL) (by decide) rfl rfl b1_
  have q2:=vec_was (b:=0) (c:=2) (LL:=LL) (by decide) rfl rfl b2_
  have q3:=vec_was (b:=0) (c:=3) (LL:=LL) (by decide) rfl rfl b3_
  have hEl:E lf.block:=by rw [hE]
  have hext:Ext μ1 (upm μ1 20040 lf):=Ext.upm _ (@HR.fresh _ _ _ _ _ _ r1_ 20040 (by rw [hOf_next];exact Nat.le_refl _)).2
  have hbf:@brel (PcR23 u r1 w1_ b0 b1 b2 (0+1) (0+1) nn rs1 W rv') (upm μ1 20040 lf) ke64 lf w1:=brel_cells bf ((@HR.below _ _ _ _ _ _ r1_).block _ (.inr hEl)) (fun i x hi hx_ y hy=>by
    have h1:=cellOf_mem (L:=[(.int .i64 0),(.int .i64 2),(.ptr 15191 0),(.int .i64 2),(.int .i64 4),.nilp]) (by decide) hx_
    simp only [List.mem_cons,List.not_mem_nil,or_false] at h1
    obtain ⟨lm,hlm⟩:=hM
    rcases h1 with rfl | rfl | rfl | rfl | rfl | rfl<;>simp only [vrel] at hy ⊢<;>first | exact hy | (obtain ⟨l5,h6,h7⟩:=hy;rw [hx _ _ hlm] at h6;cases h6;exact ⟨lm,hext _ _ (hx1 _ _ hlm),h7⟩))
  have r2:=HR.addBack r_ (nf rfl) rfl hEl r1_ (by rw [hOf_next];decide) (by rw [hOf_next];exact hbf) (glNone rfl rfl)
  rw [hOf_next] at r2
  have hip:IpOk (PcR23 u r1 w1_ b0 b1 b2 (0+1) (0+1) nn rs1 W rv') (PCs xx u r1 w1_ b0 b1 b2 nn rs1 W rv) C_unG.ip:=(nN (nN (nO (nO (nN (nN (nN (nN (nN (nN (nN (nO ipNil))))))))))))
  have hip2:IpOk (PG2 xx r wd c0 c1 nn rs W rv) (PCs xx u r1 w1_ b0 b1 b2 nn rs1 W rv) [(.oi 8,0),(.oi 10,8)]:=(nN (nN ipNil))
  have hvp:Told (PcR23 u r1 w1_ b0 b1 b2 (0+1) (0+1) nn rs1 W rv') (PCs xx u r1 w1_ b0 b1 b2 nn rs1 W rv) C_unG (upm μ1 20040 lf) w1 [(20001,.vec 0,2),(20002,.vec 1,3),(20003,.vec 2,4),(20004,.vec 3,5),(20021,.vec 4,0),(20022,.vec 5,1)]:=(uQ 1 q0 hrv hip hip2 (uQ 1 q1 hrv hip hip2 (uQ 7 q2 hrv hip hip2 (uP q3 mf hrv hip (tW 8 hip (tN 3 hip allNil)) (by kernel_rfl)))))
  obtain ⟨p1,p2,p3⟩:=HR.weakIn (C:=C_unG) (rl:=((20033,20033)::(rlT [] bsCs))) hb (by decide) rfl (by kernel_rfl) hip hvp (fs:=fsR) (bs:=bsCs) (by kernel_rfl) (by kernel_rfl) (hx1.trans hext) (f1.ext hext) r2 (glNone rfl rfl)
  exact ⟨_,p1,p2,p3⟩
abbrev RCs {xx u r wd c0 c1 c2:Int} {nn rs:Nat} {W:Nat→BitVec 64} (h3:0≤r) (h4:r+30≤100000) (h5:8≤wd) (h6:wd+20≤2048) (h7:0≤c2) (h8:c2≤200000) (hN:nn≤300) (hr:rs≤100000):VRows (ivCs xx u r wd c0 c1 c2 nn rs W) (vvCs xx u r wd c0 c1 c2 nn rs W) (vkCs xx u r wd c0 c1 c2 nn rs W) where
  vvp:=vpCs xx u r wd c0 c1 c2 nn rs W
  ib:=[(14,.oi 3,.int .i64 100000,.bool false),(9,.oi 13,.int .i64 0,.bool false),(1,.oi 13,.int .i64 1,.oi 9),(11,.oi 9,.oi 13,.bool true),(14,.oi 9,.int .i64 0,.bool true),(0,.oi 3,.int .i64 1,.oi 14),(0,.oi 7,.int .i64 1,.oi 15),(1,.oi 12,.int .i64 1,.oi 13),(1,.oi 13,.int .i64 0,.oi 13),(11,.oi 13,.oi 12,.bool true),(14,.oi 13,.int .i64 0,.bool true),(12,.oi 13,.oi 12,.bool true),(1,.oi 4,.int .i64 8,.oi 16),(12,.oi 9,.oi 13,.bool true),(9,.oi 9,.int .i64 0,.bool false),(1,.oi 9,.int .i64 1,.oi 8),(11,.oi 8,.oi 9,.bool true),(14,.oi 8,.int .i64 0,.bool true)]
  ibok:=by as_aux_lemma=>letI:=Tab.empty;exact (eH (eE (eS (eL (eH (eA (eA (eS (eS (eL (eH (eK (eS (eK (eE (eS (eL (eH ibNil))))))))))))))))))
  vl:=[⟨5,9,1,0,[(.ptr 20005 0)]⟩,⟨6,9,7,6,[(.int .i64 1)]⟩,⟨2,13,1,0,[(.oi 2)]⟩,⟨3,13,1,0,[(.bool false)]⟩,⟨7,9,7,4,[(.int .i64 1)]⟩,⟨7,9,7,5,[(.int .i64 3)]⟩,⟨7,9,7,3,[(.oi 9)]⟩,⟨5,8,1,0,[(.ptr 20040 0)]⟩,⟨7,8,7,6,[(.int .i64 0)]⟩,⟨7,8,7,5,[(.int .i64 1)]⟩]
  vlok:=by as_aux_lemma=>exact (lQ 1 (lQ 13 (lQ 2 (lQ 2 (lQ 11 (lQ 12 (lQ 10 (lQ 0 (lQ 6 (lQ 5 allNil))))))))))
  vs:=[⟨4,9,7,2,[(.int .i64 23)],6⟩,⟨6,9,7,6,[(.int .i64 0)],7⟩,⟨7,8,7,6,[(.int .i64 1)],8⟩]
  vsok:=by as_aux_lemma=>exact (sQ 9 (sQ 13 (sQ 6 allNil)))
  va:=[⟨2,9,1,[(.oi 2)],9,13⟩,⟨3,9,1,[(.bool false)],10,13⟩]
  vaok:=by as_aux_lemma=>exact (aQ 1 1 (aQ 1 1 allNil))
noncomputable abbrev rl_goC:List (Nat×Nat):=[(20000,20000),(20001,20099),(20002,20100),(20003,20003),(20004,20004),(20005,20040),(20021,20021),(20022,20022),(20031,20031),(20032,20032),(20033,20033),(20034,20034),(20035,20035),(20036,20036),(20037,20037)]
noncomputable abbrev bs_goC:BS:=[(7728,7728,kb0),(7729,7729,kb1),(7730,7730,kb2),(10144,10144,kb3),(10983,10983,kb37),(10985,10985,kb6),(10989,10989,kb7),(14329,14329,(.cells 4 false [] (T.ofList 0 .leaf y26))),(14330,14330,kb9),(14332,14332,(.map [((.str 9 1349587270641094438477),(.int .i64 3),0),((.str 13 4700550402495416491276214152781),(.oi 4),1),((.str 12 26665466772310684618039504468),(.oi 5),2),((.str 14 1483882617254647020351433658805837),(.oi 6),3)] 4)),(14333,14333,(.cells 32 false [] (T.ofList 0 .leaf y27))),(14452,14452,(.cells 1 true [] (T.ofList 0 .leaf [(.int .u8 76)]))),(14548,14548,(.cells 1 true [] (T.ofList 0 .leaf [(.int .u8 76)]))),(14622,14622,kb11),(14960,14960,kb13),(15191,15191,kb16),(17446,17446,kb22),(17610,17610,kb23),(20000,20000,kb24),(20001,20099,(.vec 2)),(20002,20100,(.vec 3)),(20003,20003,(.vec 4)),(20004,20004,(.vec 5)),(20005,20040,(.cells 6 false [] (T.ofList 0 .leaf y52))),(20021,20021,(.vec 0)),(20022,20022,(.vec 1)),(20031,20031,kb27),(20032,20032,(.cells 2 false [(.int .i64 0)] .leaf)),(20034,20034,kb29),(20035,20035,kb25),(20036,20036,kb26)]
noncomputable abbrev ip_goC:IP:=[(.oi 10,8),(.oi 11,9),(.oi 13,10),(.oi 9,11),(.oi 16,3),(.oi 5,4),(.oi 6,5),(.oi 15,6),(.oi 14,2),(.oi 0,0),(.oi 2,1),(.oi 8,7)]
theorem bq_goC:hOf 20041 bs_goC=hOf 20041 bsDs:=hOf_congr (by kernel_rfl)
theorem goC {xx u r wd c0 c1 c2:Int} {nn rs:Nat} {W:Nat→BitVec 64} (h3:0≤r) (h4:r+30≤100000) (h5:8≤wd) (h6:wd+20≤2048) (h7:0≤c2) (h8:c2≤200000) (hN:nn≤300) (hr:rs≤100000) {rv:Nat→Value} (hb:Base B μ 20000) {Q:Exit→Act→World→Prop} {j_:Nat} (s_:SCs xx u r wd c0 c1 c2 nn rs W rv B w0 μ a w) (hQ:∀ a' w',SDs xx (r+1) (wd - 8) c0 c1 (c2+1) nn rs W rv B w0 μ a' w'→Code.rounds Tryz.prog la Q j_ a' w'):Code.rounds Tryz.prog la Q (j_+1) a w:=by
  have hip:IpOk ((RCs (xx:=xx) (u:=u) (r:=r) (wd:=wd) (c0:=c0) (c1:=c1) (c2:=c2) (nn:=nn) (rs:=rs) (W:=W) h3 h4 h5 h6 h7 h8 hN hr).rtab rv) (PDs xx (r+1) (wd - 8) c0 c1 (c2+1) nn rs W rv) ip_goC:=(nN (nN (nN (nN (nO (nN (nN (nO (nO (nN (nN (nN ipNil))))))))))))
  have hvp:VpOk ((RCs (xx:=xx) (u:=u) (r:=r) (wd:=wd) (c0:=c0) (c1:=c1) (c2:=c2) (nn:=nn) (rs:=rs) (W:=W) h3 h4 h5 h6 h7 h8 hN hr).rtab rv) (PDs xx (r+1) (wd - 8) c0 c1 (c2+1) nn rs W rv) ⟨20000,20041,ofPairs rl_goC,ip_goC⟩ [(20099,.vec 9,2),(20100,.vec 10,3),(20003,.vec 8,4),(20004,.vec 5,5),(20021,.vec 0,0),(20022,.vec 1,1)]:=(vpCons (vpPre (b:=0) (c:=0) (L:=[(.oi 0),(.oi 2)]) (L':=[(.oi 0),(.oi 1)]) (i:=9) (i':=2) hip rfl rfl rfl (Nat.add_le_add_left (by decide) _) (by kernel_rfl)) (vpCons (vpPre (b:=0) (c:=1) (L:=y7) (L':=y7) (i:=10) (i':=3) hip rfl rfl rfl (Nat.add_le_add_left (by decide) _) (by kernel_rfl)) (vpCons (vpPre (b:=0) (c:=2) (L:=y51) (L':=y19) (i:=8) (i':=4) hip rfl rfl rfl (Nat.add_le_add_left (by decide) _) (by kernel_rfl)) (vpCons (vpPre (b:=0) (c:=3) (L:=y2) (L':=[(.ptr 20005 0)]) (i:=5) (i':=5) hip rfl rfl rfl (Nat.add_le_add_left (by decide) _) (by kernel_rfl)) (pW 8 hip (pN 3 hip vpNil))))))
  exact stepsTo_sound (T:=((RCs (xx:=xx) (u:=u) (r:=r) (wd:=wd) (c0:=c0) (c1:=c1) (c2:=c2) (nn:=nn) (rs:=rs) (W:=W) h3 h4 h5 h6 h7 h8 hN hr).rtab rv)) (T':=(PDs xx (r+1) (wd - 8) c0 c1 (c2+1) nn rs W rv)) (K:=Hand.none) (m:=5000) mixed (@HandOk.none ((RCs (xx:=xx) (u:=u) (r:=r) (wd:=wd) (c0:=c0) (c1:=c1) (c2:=c2) (nn:=nn) (rs:=rs) (W:=W) h3 h4 h5 h6 h7 h8 hN hr).rtab rv) Tryz.prog) (C:=⟨20000,20041,ofPairs rl_goC,ip_goC⟩) (ex := .normal) (rl:=rl_goC) (vp:=[(20099,.vec 9,2),(20100,.vec 10,3),(20003,.vec 8,4),(20004,.vec 5,5),(20021,.vec 0,0),(20022,.vec 1,1)]) (fs:=fsR) (bs:=bs_goC)
    hb (by decide) rfl (by kernel_rfl) hip hvp (glNone rfl rfl) (by as_aux_lemma=>kernel_rfl) (St.same (VRows.rsame _ _ _) s_) (fun a' w' q=>hQ a' w' (by rw [bq_goC] at q;exact q))
end
end Go.Proofs.YtnhgdcgeehcebaaGreatDoor.tt
