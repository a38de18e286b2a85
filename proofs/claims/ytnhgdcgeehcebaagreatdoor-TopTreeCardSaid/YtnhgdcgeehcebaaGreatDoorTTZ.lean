/-
  Frames that are set aside while a count runs, and come back.
-/
import Derived.Test.YtnhgdcgeehcebaaGreatDoorTTU
import Derived.Test.YtnhgdcgeehcebaaGreatDoorXN3
import Derived.Test.YtnhgdcgeehcebaaGreatDoorTTM
import Derived.Test.YtnhgdcgeehcebaaGreatDoorProg
import Derived.KernelRfl
set_option linter.unusedSectionVars false
set_option linter.unusedVariables false
set_option maxRecDepth 1000000
set_option maxHeartbeats 0
namespace Go.Proofs.YtnhgdcgeehcebaaGreatDoor.tt
open Go.X Go.RowKit Go.Proofs.YtnhgdcgeehcebaaGreatDoor
theorem hOf_next2 {N:Nat} {bs:BS}:(hOf N bs).next=N:=by unfold hOf;rw [fT_eq]
section
variable {B:Kp} {w0 w w1:World} {μ0:M} {a:Act}
def Hid_hidcA (r wd c0 c1 c2:Int) (s d nn p:Nat) (W:Nat→BitVec 64) (rv:Nat→Value) (B:Kp) (w0:World) (μ0:M) (w:World) (rv':Nat→Value) (E:Nat→Prop):Prop :=
  ∃ (μ:M) (lf:X.Loc) (LL:Nat→X.Loc),Ext μ0 μ∧@HR (Pc2a r wd c0 c1 c2 s d nn p W rv) B w0 μ (hOf 20040 bsc2a) w∧μ 20006=some lf∧E=(fun j=>j=lf.block)∧rv'=snap w LL∧μ 20001=some (LL 0)∧μ 20002=some (LL 1)∧μ 20003=some (LL 2)∧μ 20004=some (LL 3)
noncomputable abbrev C_hidcA:Cv:=⟨20000,20040,ofPairs (rlT [] bscE),[(.oi 0,7),(.oi 1,8),(.oi 2,10),(.oi 3,11),(.oi 4,2),(.oi 5,3),(.oi 6,4),(.oi 7,5),(.oi 8,1),(.oi 10,0),(.oi 12,6)]⟩
theorem hidcA {r wd c0 c1 c2:Int} {s d nn p:Nat} {W:Nat→BitVec 64} {p2:Nat} (ha:wI (W (4*p+2))=((8+4*p2+1:Nat):Int)) {rv:Nat→Value} (hb:Base B μ0 20000) (s_:Sc2a r wd c0 c1 c2 s d nn p W rv B w0 μ0 a w):∃ rv' E,Hid_hidcA r wd c0 c1 c2 s d nn p W rv B w0 μ0 w rv' E∧ScE (r+5) (wd+8) c0 c1 (c2+5) (s+1) (d+1) nn p2 W rv' (B.also E) w μ0 a w:=by
  obtain ⟨μ,hx,f,r_⟩:=s_
  have g:=fun x b h=>@HR.blk (Pc2a r wd c0 c1 c2 s d nn p W rv) B w0 μ (hOf 20040 bsc2a) w r_ x b h
  obtain ⟨l0,m0,_⟩:=g 20001 (.vec 0) (by kernel_rfl)
  obtain ⟨l1,m1,_⟩:=g 20002 (.vec 1) (by kernel_rfl)
  obtain ⟨l2,m2,_⟩:=g 20003 (.vec 2) (by kernel_rfl)
  obtain ⟨l3,m3,_⟩:=g 20004 (.vec 3) (by kernel_rfl)
  obtain ⟨lf,mf,_⟩:=g 20006 kc53 (by kernel_rfl)
  let LL:Nat→X.Loc:=fun c=>match c with | 0=>l0 | 1=>l1 | 2=>l2 | _=>l3
  refine ⟨snap w LL,fun j=>j=lf.block,⟨μ,lf,LL,hx,r_,mf,rfl,rfl,m0,m1,m2,m3⟩,?_⟩
  have hip:IpOk (Pc2a r wd c0 c1 c2 s d nn p W rv) (PcE (r+5) (wd+8) c0 c1 (c2+5) (s+1) (d+1) nn p2 W (snap w LL)) C_hidcA.ip:=(nN (nN (nO (nO (nO (nN (nN (nO (nO (nO (nO ipNil)))))))))))
  have hvp:Told (Pc2a r wd c0 c1 c2 s d nn p W rv) (PcE (r+5) (wd+8) c0 c1 (c2+5) (s+1) (d+1) nn p2 W (snap w LL)) C_hidcA μ w [(20001,.vec 0,2),(20002,.vec 1,3),(20003,.vec 2,4),(20004,.vec 3,5),(20021,.vec 4,0),(20022,.vec 5,1)]:=(tQ 0 1 hip m0 rfl rfl (tQ 1 1 hip m1 rfl rfl (tQ 2 7 hip m2 rfl rfl (tQ 3 1 hip m3 rfl rfl (tW 8 hip (tN 3 hip allNil))))))
  obtain ⟨q1,q2,q3⟩:=HR.weakAt (C:=C_hidcA) (rl:=(rlT [] bscE)) hb (by decide) rfl (by kernel_rfl) hip hvp (fs:=fsR) (bs:=bscE) (E:=fun j=>j=lf.block)
    (aside_of (x:=20006) r_ (by kernel_rfl:_=some kc53) rfl mf (by decide)) (by kernel_rfl) (by kernel_rfl) hx f r_ (fun _=>glNone rfl rfl)
  exact ⟨_,q1,q2,q3⟩
noncomputable abbrev C_hidcAN:Cv:=⟨20000,20040,ofPairs (rlT [] bscN),[(.oi 0,7),(.oi 1,8),(.oi 2,10),(.oi 3,11),(.oi 4,2),(.oi 5,3),(.oi 6,4),(.oi 7,5),(.oi 8,1),(.oi 10,0),(.oi 12,6)]⟩
theorem hidcAN {r wd c0 c1 c2:Int} {s d nn p:Nat} {W:Nat→BitVec 64} (ha:wI (W (4*p+2))=0) {rv:Nat→Value} (hb:Base B μ0 20000) (s_:Sc2a r wd c0 c1 c2 s d nn p W rv B w0 μ0 a w):∃ rv' E,Hid_hidcA r wd c0 c1 c2 s d nn p W rv B w0 μ0 w rv' E∧ScN 0 (r+5) (wd+8) c0 c1 (c2+5) (s+1) (d+1) nn W rv' (B.also E) w μ0 a w:=by
  obtain ⟨μ,hx,f,r_⟩:=s_
  have g:=fun x b h=>@HR.blk (Pc2a r wd c0 c1 c2 s d nn p W rv) B w0 μ (hOf 20040 bsc2a) w r_ x b h
  obtain ⟨l0,m0,_⟩:=g 20001 (.vec 0) (by kernel_rfl)
  obtain ⟨l1,m1,_⟩:=g 20002 (.vec 1) (by kernel_rfl)
  obtain ⟨l2,m2,_⟩:=g 20003 (.vec 2) (by kernel_rfl)
  obtain ⟨l3,m3,_⟩:=g 20004 (.vec 3) (by kernel_rfl)
  obtain ⟨lf,mf,_⟩:=g 20006 kc53 (by kernel_rfl)
  let LL:Nat→X.Loc:=fun c=>match c with | 0=>l0 | 1=>l1 | 2=>l2 | _=>l3
  refine ⟨snap w LL,fun j=>j=lf.block,⟨μ,lf,LL,hx,r_,mf,rfl,rfl,m0,m1,m2,m3⟩,?_⟩
  have hip:IpOk (Pc2a r wd c0 c1 c2 s d nn p W rv) (PcN 0 (r+5) (wd+8) c0 c1 (c2+5) (s+1) (d+1) nn W (snap w LL)) C_hidcAN.ip:=(nN (nN (nO (nO (nO (nN (nN (nO (nO (nO (nO ipNil)))))))))))
  have hvp:Told (Pc2a r wd c0 c1 c2 s d nn p W rv) (PcN 0 (r+5) (wd+8) c0 c1 (c2+5) (s+1) (d+1) nn W (snap w LL)) C_hidcAN μ w [(20001,.vec 0,2),(20002,.vec 1,3),(20003,.vec 2,4),(20004,.vec 3,5),(20021,.vec 4,0),(20022,.vec 5,1)]:=(tQ 0 1 hip m0 rfl rfl (tQ 1 1 hip m1 rfl rfl (tQ 2 7 hip m2 rfl rfl (tQ 3 1 hip m3 rfl rfl (tW 8 hip (tN 3 hip allNil))))))
  obtain ⟨q1,q2,q3⟩:=HR.weakAt (C:=C_hidcAN) (rl:=(rlT [] bscN)) hb (by decide) rfl (by kernel_rfl) hip hvp (fs:=fsR) (bs:=bscN) (E:=fun j=>j=lf.block)
    (aside_of (x:=20006) r_ (by kernel_rfl:_=some kc53) rfl mf (by decide)) (by kernel_rfl) (by kernel_rfl) hx f r_ (fun _=>glNone rfl rfl)
  exact ⟨_,q1,q2,q3⟩
def Hid_hidcB (r wd c0 c1 c2:Int) (s d nn p rs:Nat) (W:Nat→BitVec 64) (rv:Nat→Value) (B:Kp) (w0:World) (μ0:M) (w:World) (rv':Nat→Value) (E:Nat→Prop):Prop :=
  ∃ (μ:M) (lf:X.Loc) (LL:Nat→X.Loc),Ext μ0 μ∧@HR (Pc2b r wd c0 c1 c2 s d nn p rs W rv) B w0 μ (hOf 20040 bsc2b) w∧μ 20006=some lf∧E=(fun j=>j=lf.block)∧rv'=snap w LL∧μ 20001=some (LL 0)∧μ 20002=some (LL 1)∧μ 20003=some (LL 2)∧μ 20004=some (LL 3)
noncomputable abbrev C_hidcB:Cv:=⟨20000,20040,ofPairs (rlT [] bscE),[(.oi 0,7),(.oi 1,8),(.oi 2,10),(.oi 3,11),(.oi 4,2),(.oi 5,3),(.oi 6,4),(.oi 7,5),(.oi 8,1),(.oi 11,0),(.oi 13,6)]⟩
theorem hidcB {r wd c0 c1 c2:Int} {s d nn p rs:Nat} {W:Nat→BitVec 64} {p2:Nat} (ha:wI (W (4*p+3))=((8+4*p2+1:Nat):Int)) {rv:Nat→Value} (hb:Base B μ0 20000) (s_:Sc2b r wd c0 c1 c2 s d nn p rs W rv B w0 μ0 a w):∃ rv' E,Hid_hidcB r wd c0 c1 c2 s d nn p rs W rv B w0 μ0 w rv' E∧ScE (r+4) (wd+8) c0 c1 (c2+4) (s+2) (d+1) nn p2 W rv' (B.also E) w μ0 a w:=by
  obtain ⟨μ,hx,f,r_⟩:=s_
  have g:=fun x b h=>@HR.blk (Pc2b r wd c0 c1 c2 s d nn p rs W rv) B w0 μ (hOf 20040 bsc2b) w r_ x b h
  obtain ⟨l0,m0,_⟩:=g 20001 (.vec 0) (by kernel_rfl)
  obtain ⟨l1,m1,_⟩:=g 20002 (.vec 1) (by kernel_rfl)
  obtain ⟨l2,m2,_⟩:=g 20003 (.vec 2) (by kernel_rfl)
  obtain ⟨l3,m3,_⟩:=g 20004 (.vec 3) (by kernel_rfl)
  obtain ⟨lf,mf,_⟩:=g 20006 kc54 (by kernel_rfl)
  let LL:Nat→X.Loc:=fun c=>match c with | 0=>l0 | 1=>l1 | 2=>l2 | _=>l3
  refine ⟨snap w LL,fun j=>j=lf.block,⟨μ,lf,LL,hx,r_,mf,rfl,rfl,m0,m1,m2,m3⟩,?_⟩
  have hip:IpOk (Pc2b r wd c0 c1 c2 s d nn p rs W rv) (PcE (r+4) (wd+8) c0 c1 (c2+4) (s+2) (d+1) nn p2 W (snap w LL)) C_hidcB.ip:=(nN (nN (nO (nO (nO (nN (nN (nO (nO (nO (nO ipNil)))))))))))
  have hvp:Told (Pc2b r wd c0 c1 c2 s d nn p rs W rv) (PcE (r+4) (wd+8) c0 c1 (c2+4) (s+2) (d+1) nn p2 W (snap w LL)) C_hidcB μ w [(20001,.vec 0,2),(20002,.vec 1,3),(20003,.vec 2,4),(20004,.vec 3,5),(20021,.vec 4,0),(20022,.vec 5,1)]:=(tQ 0 2 hip m0 rfl rfl (tQ 1 2 hip m1 rfl rfl (tQ 2 7 hip m2 rfl rfl (tQ 3 1 hip m3 rfl rfl (tW 8 hip (tN 3 hip allNil))))))
  obtain ⟨q1,q2,q3⟩:=HR.weakAt (C:=C_hidcB) (rl:=(rlT [] bscE)) hb (by decide) rfl (by kernel_rfl) hip hvp (fs:=fsR) (bs:=bscE) (E:=fun j=>j=lf.block)
    (aside_of (x:=20006) r_ (by kernel_rfl:_=some kc54) rfl mf (by decide)) (by kernel_rfl) (by kernel_rfl) hx f r_ (fun _=>glNone rfl rfl)
  exact ⟨_,q1,q2,q3⟩
noncomputable abbrev C_hidcBN:Cv:=⟨20000,20040,ofPairs (rlT [] bscN),[(.oi 0,7),(.oi 1,8),(.oi 2,10),(.oi 3,11),(.oi 4,2),(.oi 5,3),(.oi 6,4),(.oi 7,5),(.oi 8,1),(.oi 11,0),(.oi 13,6)]⟩
theorem hidcBN {r wd c0 c1 c2:Int} {s d nn p rs:Nat} {W:Nat→BitVec 64} (ha:wI (W (4*p+3))=0) {rv:Nat→Value} (hb:Base B μ0 20000) (s_:Sc2b r wd c0 c1 c2 s d nn p rs W rv B w0 μ0 a w):∃ rv' E,Hid_hidcB r wd c0 c1 c2 s d nn p rs W rv B w0 μ0 w rv' E∧ScN 0 (r+4) (wd+8) c0 c1 (c2+4) (s+2) (d+1) nn W rv' (B.also E) w μ0 a w:=by
  obtain ⟨μ,hx,f,r_⟩:=s_
  have g:=fun x b h=>@HR.blk (Pc2b r wd c0 c1 c2 s d nn p rs W rv) B w0 μ (hOf 20040 bsc2b) w r_ x b h
  obtain ⟨l0,m0,_⟩:=g 20001 (.vec 0) (by kernel_rfl)
  obtain ⟨l1,m1,_⟩:=g 20002 (.vec 1) (by kernel_rfl)
  obtain ⟨l2,m2,_⟩:=g 20003 (.vec 2) (by kernel_rfl)
  obtain ⟨l3,m3,_⟩:=g 20004 (.vec 3) (by kernel_rfl)
  obtain ⟨lf,mf,_⟩:=g 20006 kc54 (by kernel_rfl)
  let LL:Nat→X.Loc:=fun c=>match c with | 0=>l0 | 1=>l1 | 2=>l2 | _=>l3
  refine ⟨snap w LL,fun j=>j=lf.block,⟨μ,lf,LL,hx,r_,mf,rfl,rfl,m0,m1,m2,m3⟩,?_⟩
  have hip:IpOk (Pc2b r wd c0 c1 c2 s d nn p rs W rv) (PcN 0 (r+4) (wd+8) c0 c1 (c2+4) (s+2) (d+1) nn W (snap w LL)) C_hidcBN.ip:=(nN (nN (nO (nO (nO (nN (nN (nO (nO (nO (nO ipNil)))))))))))
  have hvp:Told (Pc2b r wd c0 c1 c2 s d nn p rs W rv) (PcN 0 (r+4) (wd+8) c0 c1 (c2+4) (s+2) (d+1) nn W (snap w LL)) C_hidcBN μ w [(20001,.vec 0,2),(20002,.vec 1,3),(20003,.vec 2,4),(20004,.vec 3,5),(20021,.vec 4,0),(20022,.vec 5,1)]:=(tQ 0 2 hip m0 rfl rfl (tQ 1 2 hip m1 rfl rfl (tQ 2 7 hip m2 rfl rfl (tQ 3 1 hip m3 rfl rfl (tW 8 hip (tN 3 hip allNil))))))
  obtain ⟨q1,q2,q3⟩:=HR.weakAt (C:=C_hidcBN) (rl:=(rlT [] bscN)) hb (by decide) rfl (by kernel_rfl) hip hvp (fs:=fsR) (bs:=bscN) (E:=fun j=>j=lf.block)
    (aside_of (x:=20006) r_ (by kernel_rfl:_=some kc54) rfl mf (by decide)) (by kernel_rfl) (by kernel_rfl) hx f r_ (fun _=>glNone rfl rfl)
  exact ⟨_,q1,q2,q3⟩
noncomputable abbrev C_uncA5:Cv:=⟨20000,20041,ofPairs (rlT [] bscA5),[(.oi 0,10),(.oi 1,11),(.oi 2,13),(.oi 3,14),(.oi 4,4),(.oi 5,5),(.oi 6,6),(.oi 7,7),(.oi 8,3),(.oi 9,1),(.oi 10,2),(.oi 11,9)]⟩
theorem uncA5 {r wd c0 c1 c2 u r1 w1_ b0 b1 b2:Int} {s d nn p rs:Nat} {W:Nat→BitVec 64} {rv rv':Nat→Value} {E:Nat→Prop} (hM:∃ l,μ0 15191=some l) (hb:Base B μ0 20000) (hd:Hid_hidcA r wd c0 c1 c2 s d nn p W rv B w0 μ0 w rv' E)
    (s_:ScR5 u r1 w1_ b0 b1 b2 (s+1) (d+1) nn rs W rv' (B.also E) w μ0 a w1):ScA5 u r1 w1_ b0 b1 b2 s d nn p rs W rv B w0 μ0 a w1:=by
  letI:Tab:=(PcR5 u r1 w1_ b0 b1 b2 (s+1) (d+1) nn rs W rv')
  obtain ⟨μ,lf,LL,hx,r_,mf,hE,hrv,m0,m1,m2,m3⟩:=hd
  obtain ⟨μ1,hx1,f1,r1_⟩:=s_
  have g:=fun x b h=>@HR.blk (Pc2a r wd c0 c1 c2 s d nn p W rv) B w0 μ (hOf 20040 bsc2a) w r_ x b h
  obtain ⟨l0,k0,_,_,b0_⟩:=g 20001 (.vec 0) (by kernel_rfl)
  obtain ⟨l1,k1,_,_,b1_⟩:=g 20002 (.vec 1) (by kernel_rfl)
  obtain ⟨l2,k2,_,_,b2_⟩:=g 20003 (.vec 2) (by kernel_rfl)
  obtain ⟨l3,k3,_,_,b3_⟩:=g 20004 (.vec 3) (by kernel_rfl)
  obtain ⟨lf2,kf,nf,_,bf⟩:=g 20006 kc53 (by kernel_rfl)
  rw [m0] at k0;cases k0
  rw [m1] at k1;cases k1
  rw [m2] at k2;cases k2
  rw [m3] at k3;cases k3
  rw [mf] at kf;cases kf
  have q0:=vec_was (c:=0) (LL:=LL) (by decide) rfl rfl b0_
  have q1:=vec_was (c:=1) (LL:=LL) (by decide) rfl rfl b1_
  have q2:=vec_was (c:=2) (LL:=LL) (by decide) rfl rfl b2_
  have q3:=vec_was (c:=3) (LL:=LL) (by decide) rfl rfl b3_
  have hEl:E lf.block:=by rw [hE]
  have hext:Ext μ1 (upm μ1 20040 lf):=Ext.upm _ (@HR.fresh _ _ _ _ _ _ r1_ 20040 (by rw [hOf_next2];exact Nat.le_refl _)).2
  have hbf:@brel (PcR5 u r1 w1_ b0 b1 b2 (s+1) (d+1) nn rs W rv') (upm μ1 20040 lf) kc53 lf w1:=brel_cells bf ((@HR.below _ _ _ _ _ _ r1_).block _ (.inr hEl)) (fun i x hi hx_ y hy=>by
    have h1:=cellOf_mem (L:=[(.int .i64 0),(.int .i64 2),(.ptr 15191 0),(.int .i64 1),(.int .i64 10),.nilp]) (by decide) hx_
    simp only [List.mem_cons,List.not_mem_nil,or_false] at h1
    obtain ⟨lm,hlm⟩:=hM
    rcases h1 with rfl | rfl | rfl | rfl | rfl | rfl<;>simp only [vrel] at hy ⊢<;>first | exact hy | (obtain ⟨l5,h6,h7⟩:=hy;rw [hx _ _ hlm] at h6;cases h6;exact ⟨lm,hext _ _ (hx1 _ _ hlm),h7⟩))
  have r2:=HR.addBack r_ (nf rfl) rfl hEl r1_ (by rw [hOf_next2];decide) (by rw [hOf_next2];exact hbf) (glNone rfl rfl)
  rw [hOf_next2] at r2
  have hip:IpOk (PcR5 u r1 w1_ b0 b1 b2 (s+1) (d+1) nn rs W rv') (PcA5 u r1 w1_ b0 b1 b2 s d nn p rs W rv) C_uncA5.ip:=(nN (nN (nO (nO (nN (nN (nN (nN (nN (nN (nN (nO ipNil))))))))))))
  have hip2:IpOk (Pc2a r wd c0 c1 c2 s d nn p W rv) (PcA5 u r1 w1_ b0 b1 b2 s d nn p rs W rv) [(.oi 9,0),(.oi 11,8)]:=(nN (nN ipNil))
  have hvp:Told (PcR5 u r1 w1_ b0 b1 b2 (s+1) (d+1) nn rs W rv') (PcA5 u r1 w1_ b0 b1 b2 s d nn p rs W rv) C_uncA5 (upm μ1 20040 lf) w1 [(20001,.vec 0,2),(20002,.vec 1,3),(20003,.vec 2,4),(20004,.vec 3,5),(20021,.vec 4,0),(20022,.vec 5,1)]:=(uQ 1 q0 hrv hip hip2 (uQ 1 q1 hrv hip hip2 (uQ 7 q2 hrv hip hip2 (uP q3 mf hrv hip (tW 8 hip (tN 3 hip allNil)) (by kernel_rfl)))))
  obtain ⟨p1,p2,p3⟩:=HR.weakIn (C:=C_uncA5) (rl:=(rlT [] bscA5)) hb (by decide) rfl (by kernel_rfl) hip hvp (fs:=fsR) (bs:=bscA5) (by kernel_rfl) (by kernel_rfl) (hx1.trans hext) (f1.ext hext) r2 (glNone rfl rfl)
  exact ⟨_,p1,p2,p3⟩
noncomputable abbrev C_uncB5:Cv:=⟨20000,20041,ofPairs (rlT [] bscB5),[(.oi 0,11),(.oi 1,12),(.oi 2,14),(.oi 3,15),(.oi 4,5),(.oi 5,6),(.oi 6,7),(.oi 7,8),(.oi 8,4),(.oi 9,2),(.oi 10,3),(.oi 11,10)]⟩
theorem uncB5 {r wd c0 c1 c2 u r1 w1_ b0 b1 b2:Int} {s d nn p rs rq:Nat} {W:Nat→BitVec 64} {rv rv':Nat→Value} {E:Nat→Prop} (hM:∃ l,μ0 15191=some l) (hb:Base B μ0 20000) (hd:Hid_hidcB r wd c0 c1 c2 s d nn p rs W rv B w0 μ0 w rv' E)
    (s_:ScR5 u r1 w1_ b0 b1 b2 (s+2) (d+1) nn rq W rv' (B.also E) w μ0 a w1):ScB5 u r1 w1_ b0 b1 b2 s d nn p rs rq W rv B w0 μ0 a w1:=by
  letI:Tab:=(PcR5 u r1 w1_ b0 b1 b2 (s+2) (d+1) nn rq W rv')
  obtain ⟨μ,lf,LL,hx,r_,mf,hE,hrv,m0,m1,m2,m3⟩:=hd
  obtain ⟨μ1,hx1,f1,r1_⟩:=s_
  have g:=fun x b h=>@HR.blk (Pc2b r wd c0 c1 c2 s d nn p rs W rv) B w0 μ (hOf 20040 bsc2b) w r_ x b h
  obtain ⟨l0,k0,_,_,b0_⟩:=g 20001 (.vec 0) (by kernel_rfl)
  obtain ⟨l1,k1,_,_,b1_⟩:=g 20002 (.vec 1) (by kernel_rfl)
  obtain ⟨l2,k2,_,_,b2_⟩:=g 20003 (.vec 2) (by kernel_rfl)
  obtain ⟨l3,k3,_,_,b3_⟩:=g 20004 (.vec 3) (by kernel_rfl)
  obtain ⟨lf2,kf,nf,_,bf⟩:=g 20006 kc54 (by kernel_rfl)
  rw [m0] at k0;cases k0
  rw [m1] at k1;cases k1
  rw [m2] at k2;cases k2
  rw [m3] at k3;cases k3
  rw [mf] at kf;cases kf
  have q0:=vec_was (c:=0) (LL:=LL) (by decide) rfl rfl b0_
  have q1:=vec_was (c:=1) (LL:=LL) (by decide) rfl rfl b1_
  have q2:=vec_was (c:=2) (LL:=LL) (by decide) rfl rfl b2_
  have q3:=vec_was (c:=3) (LL:=LL) (by decide) rfl rfl b3_
  have hEl:E lf.block:=by rw [hE]
  have hext:Ext μ1 (upm μ1 20040 lf):=Ext.upm _ (@HR.fresh _ _ _ _ _ _ r1_ 20040 (by rw [hOf_next2];exact Nat.le_refl _)).2
  have hbf:@brel (PcR5 u r1 w1_ b0 b1 b2 (s+2) (d+1) nn rq W rv') (upm μ1 20040 lf) kc54 lf w1:=brel_cells bf ((@HR.below _ _ _ _ _ _ r1_).block _ (.inr hEl)) (fun i x hi hx_ y hy=>by
    have h1:=cellOf_mem (L:=[(.int .i64 0),(.int .i64 2),(.ptr 15191 0),(.int .i64 1),(.int .i64 17),.nilp]) (by decide) hx_
    simp only [List.mem_cons,List.not_mem_nil,or_false] at h1
    obtain ⟨lm,hlm⟩:=hM
    rcases h1 with rfl | rfl | rfl | rfl | rfl | rfl<;>simp only [vrel] at hy ⊢<;>first | exact hy | (obtain ⟨l5,h6,h7⟩:=hy;rw [hx _ _ hlm] at h6;cases h6;exact ⟨lm,hext _ _ (hx1 _ _ hlm),h7⟩))
  have r2:=HR.addBack r_ (nf rfl) rfl hEl r1_ (by rw [hOf_next2];decide) (by rw [hOf_next2];exact hbf) (glNone rfl rfl)
  rw [hOf_next2] at r2
  have hip:IpOk (PcR5 u r1 w1_ b0 b1 b2 (s+2) (d+1) nn rq W rv') (PcB5 u r1 w1_ b0 b1 b2 s d nn p rs rq W rv) C_uncB5.ip:=(nN (nN (nO (nO (nN (nN (nN (nN (nN (nN (nN (nO ipNil))))))))))))
  have hip2:IpOk (Pc2b r wd c0 c1 c2 s d nn p rs W rv) (PcB5 u r1 w1_ b0 b1 b2 s d nn p rs rq W rv) [(.oi 9,0),(.oi 10,1),(.oi 12,9)]:=(nN (nN (nN ipNil)))
  have hvp:Told (PcR5 u r1 w1_ b0 b1 b2 (s+2) (d+1) nn rq W rv') (PcB5 u r1 w1_ b0 b1 b2 s d nn p rs rq W rv) C_uncB5 (upm μ1 20040 lf) w1 [(20001,.vec 0,2),(20002,.vec 1,3),(20003,.vec 2,4),(20004,.vec 3,5),(20021,.vec 4,0),(20022,.vec 5,1)]:=(uQ 2 q0 hrv hip hip2 (uQ 2 q1 hrv hip hip2 (uQ 7 q2 hrv hip hip2 (uP q3 mf hrv hip (tW 8 hip (tN 3 hip allNil)) (by kernel_rfl)))))
  obtain ⟨p1,p2,p3⟩:=HR.weakIn (C:=C_uncB5) (rl:=(rlT [] bscB5)) hb (by decide) rfl (by kernel_rfl) hip hvp (fs:=fsR) (bs:=bscB5) (by kernel_rfl) (by kernel_rfl) (hx1.trans hext) (f1.ext hext) r2 (glNone rfl rfl)
  exact ⟨_,p1,p2,p3⟩
noncomputable abbrev C_uncA23:Cv:=⟨20000,20041,ofPairs (rlT [] bscA23),[(.oi 0,10),(.oi 1,11),(.oi 2,13),(.oi 3,14),(.oi 4,4),(.oi 5,5),(.oi 6,6),(.oi 7,7),(.oi 8,3),(.oi 9,1),(.oi 10,2),(.oi 11,9)]⟩
theorem uncA23 {r wd c0 c1 c2 u r1 w1_ b0 b1 b2:Int} {s d nn p rs:Nat} {W:Nat→BitVec 64} {rv rv':Nat→Value} {E:Nat→Prop} (hM:∃ l,μ0 15191=some l) (hb:Base B μ0 20000) (hd:Hid_hidcA r wd c0 c1 c2 s d nn p W rv B w0 μ0 w rv' E)
    (s_:ScR23 u r1 w1_ b0 b1 b2 (s+1) (d+1) nn rs W rv' (B.also E) w μ0 a w1):ScA23 u r1 w1_ b0 b1 b2 s d nn p rs W rv B w0 μ0 a w1:=by
  letI:Tab:=(PcR23 u r1 w1_ b0 b1 b2 (s+1) (d+1) nn rs W rv')
  obtain ⟨μ,lf,LL,hx,r_,mf,hE,hrv,m0,m1,m2,m3⟩:=hd
  obtain ⟨μ1,hx1,f1,r1_⟩:=s_
  have g:=fun x b h=>@HR.blk (Pc2a r wd c0 c1 c2 s d nn p W rv) B w0 μ (hOf 20040 bsc2a) w r_ x b h
  obtain ⟨l0,k0,_,_,b0_⟩:=g 20001 (.vec 0) (by kernel_rfl)
  obtain ⟨l1,k1,_,_,b1_⟩:=g 20002 (.vec 1) (by kernel_rfl)
  obtain ⟨l2,k2,_,_,b2_⟩:=g 20003 (.vec 2) (by kernel_rfl)
  obtain ⟨l3,k3,_,_,b3_⟩:=g 20004 (.vec 3) (by kernel_rfl)
  obtain ⟨lf2,kf,nf,_,bf⟩:=g 20006 kc53 (by kernel_rfl)
  rw [m0] at k0;cases k0
  rw [m1] at k1;cases k1
  rw [m2] at k2;cases k2
  rw [m3] at k3;cases k3
  rw [mf] at kf;cases kf
  have q0:=vec_was (c:=0) (LL:=LL) (by decide) rfl rfl b0_
  have q1:=vec_was (c:=1) (LL:=LL) (by decide) rfl rfl b1_
  have q2:=vec_was (c:=2) (LL:=LL) (by decide) rfl rfl b2_
  have q3:=vec_was (c:=3) (LL:=LL) (by decide) rfl rfl b3_
  have hEl:E lf.block:=by rw [hE]
  have hext:Ext μ1 (upm μ1 20040 lf):=Ext.upm _ (@HR.fresh _ _ _ _ _ _ r1_ 20040 (by rw [hOf_next2];exact Nat.le_refl _)).2
  have hbf:@brel (PcR23 u r1 w1_ b0 b1 b2 (s+1) (d+1) nn rs W rv') (upm μ1 20040 lf) kc53 lf w1:=brel_cells bf ((@HR.below _ _ _ _ _ _ r1_).block _ (.inr hEl)) (fun i x hi hx_ y hy=>by
    have h1:=cellOf_mem (L:=[(.int .i64 0),(.int .i64 2),(.ptr 15191 0),(.int .i64 1),(.int .i64 10),.nilp]) (by decide) hx_
    simp only [List.mem_cons,List.not_mem_nil,or_false] at h1
    obtain ⟨lm,hlm⟩:=hM
    rcases h1 with rfl | rfl | rfl | rfl | rfl | rfl<;>simp only [vrel] at hy ⊢<;>first | exact hy | (obtain ⟨l5,h6,h7⟩:=hy;rw [hx _ _ hlm] at h6;cases h6;exact ⟨lm,hext _ _ (hx1 _ _ hlm),h7⟩))
  have r2:=HR.addBack r_ (nf rfl) rfl hEl r1_ (by rw [hOf_next2];decide) (by rw [hOf_next2];exact hbf) (glNone rfl rfl)
  rw [hOf_next2] at r2
  have hip:IpOk (PcR23 u r1 w1_ b0 b1 b2 (s+1) (d+1) nn rs W rv') (PcA23 u r1 w1_ b0 b1 b2 s d nn p rs W rv) C_uncA23.ip:=(nN (nN (nO (nO (nN (nN (nN (nN (nN (nN (nN (nO ipNil))))))))))))
  have hip2:IpOk (Pc2a r wd c0 c1 c2 s d nn p W rv) (PcA23 u r1 w1_ b0 b1 b2 s d nn p rs W rv) [(.oi 9,0),(.oi 11,8)]:=(nN (nN ipNil))
  have hvp:Told (PcR23 u r1 w1_ b0 b1 b2 (s+1) (d+1) nn rs W rv') (PcA23 u r1 w1_ b0 b1 b2 s d nn p rs W rv) C_uncA23 (upm μ1 20040 lf) w1 [(20001,.vec 0,2),(20002,.vec 1,3),(20003,.vec 2,4),(20004,.vec 3,5),(20021,.vec 4,0),(20022,.vec 5,1)]:=(uQ 1 q0 hrv hip hip2 (uQ 1 q1 hrv hip hip2 (uQ 7 q2 hrv hip hip2 (uP q3 mf hrv hip (tW 8 hip (tN 3 hip allNil)) (by kernel_rfl)))))
  obtain ⟨p1,p2,p3⟩:=HR.weakIn (C:=C_uncA23) (rl:=(rlT [] bscA23)) hb (by decide) rfl (by kernel_rfl) hip hvp (fs:=fsR) (bs:=bscA23) (by kernel_rfl) (by kernel_rfl) (hx1.trans hext) (f1.ext hext) r2 (glNone rfl rfl)
  exact ⟨_,p1,p2,p3⟩
noncomputable abbrev C_uncB23:Cv:=⟨20000,20041,ofPairs (rlT [] bscB23),[(.oi 0,11),(.oi 1,12),(.oi 2,14),(.oi 3,15),(.oi 4,5),(.oi 5,6),(.oi 6,7),(.oi 7,8),(.oi 8,4),(.oi 9,2),(.oi 10,3),(.oi 11,10)]⟩
theorem uncB23 {r wd c0 c1 c2 u r1 w1_ b0 b1 b2:Int} {s d nn p rs rq:Nat} {W:Nat→BitVec 64} {rv rv':Nat→Value} {E:Nat→Prop} (hM:∃ l,μ0 15191=some l) (hb:Base B μ0 20000) (hd:Hid_hidcB r wd c0 c1 c2 s d nn p rs W rv B w0 μ0 w rv' E)
    (s_:ScR23 u r1 w1_ b0 b1 b2 (s+2) (d+1) nn rq W rv' (B.also E) w μ0 a w1):ScB23 u r1 w1_ b0 b1 b2 s d nn p rs rq W rv B w0 μ0 a w1:=by
  letI:Tab:=(PcR23 u r1 w1_ b0 b1 b2 (s+2) (d+1) nn rq W rv')
  obtain ⟨μ,lf,LL,hx,r_,mf,hE,hrv,m0,m1,m2,m3⟩:=hd
  obtain ⟨μ1,hx1,f1,r1_⟩:=s_
  have g:=fun x b h=>@HR.blk (Pc2b r wd c0 c1 c2 s d nn p rs W rv) B w0 μ (hOf 20040 bsc2b) w r_ x b h
  obtain ⟨l0,k0,_,_,b0_⟩:=g 20001 (.vec 0) (by kernel_rfl)
  obtain ⟨l1,k1,_,_,b1_⟩:=g 20002 (.vec 1) (by kernel_rfl)
  obtain ⟨l2,k2,_,_,b2_⟩:=g 20003 (.vec 2) (by kernel_rfl)
  obtain ⟨l3,k3,_,_,b3_⟩:=g 20004 (.vec 3) (by kernel_rfl)
  obtain ⟨lf2,kf,nf,_,bf⟩:=g 20006 kc54 (by kernel_rfl)
  rw [m0] at k0;cases k0
  rw [m1] at k1;cases k1
  rw [m2] at k2;cases k2
  rw [m3] at k3;cases k3
  rw [mf] at kf;cases kf
  have q0:=vec_was (c:=0) (LL:=LL) (by decide) rfl rfl b0_
  have q1:=vec_was (c:=1) (LL:=LL) (by decide) rfl rfl b1_
  have q2:=vec_was (c:=2) (LL:=LL) (by decide) rfl rfl b2_
  have q3:=vec_was (c:=3) (LL:=LL) (by decide) rfl rfl b3_
  have hEl:E lf.block:=by rw [hE]
  have hext:Ext μ1 (upm μ1 20040 lf):=Ext.upm _ (@HR.fresh _ _ _ _ _ _ r1_ 20040 (by rw [hOf_next2];exact Nat.le_refl _)).2
  have hbf:@brel (PcR23 u r1 w1_ b0 b1 b2 (s+2) (d+1) nn rq W rv') (upm μ1 20040 lf) kc54 lf w1:=brel_cells bf ((@HR.below _ _ _ _ _ _ r1_).block _ (.inr hEl)) (fun i x hi hx_ y hy=>by
    have h1:=cellOf_mem (L:=[(.int .i64 0),(.int .i64 2),(.ptr 15191 0),(.int .i64 1),(.int .i64 17),.nilp]) (by decide) hx_
    simp only [List.mem_cons,List.not_mem_nil,or_false] at h1
    obtain ⟨lm,hlm⟩:=hM
    rcases h1 with rfl | rfl | rfl | rfl | rfl | rfl<;>simp only [vrel] at hy ⊢<;>first | exact hy | (obtain ⟨l5,h6,h7⟩:=hy;rw [hx _ _ hlm] at h6;cases h6;exact ⟨lm,hext _ _ (hx1 _ _ hlm),h7⟩))
  have r2:=HR.addBack r_ (nf rfl) rfl hEl r1_ (by rw [hOf_next2];decide) (by rw [hOf_next2];exact hbf) (glNone rfl rfl)
  rw [hOf_next2] at r2
  have hip:IpOk (PcR23 u r1 w1_ b0 b1 b2 (s+2) (d+1) nn rq W rv') (PcB23 u r1 w1_ b0 b1 b2 s d nn p rs rq W rv) C_uncB23.ip:=(nN (nN (nO (nO (nN (nN (nN (nN (nN (nN (nN (nO ipNil))))))))))))
  have hip2:IpOk (Pc2b r wd c0 c1 c2 s d nn p rs W rv) (PcB23 u r1 w1_ b0 b1 b2 s d nn p rs rq W rv) [(.oi 9,0),(.oi 10,1),(.oi 12,9)]:=(nN (nN (nN ipNil)))
  have hvp:Told (PcR23 u r1 w1_ b0 b1 b2 (s+2) (d+1) nn rq W rv') (PcB23 u r1 w1_ b0 b1 b2 s d nn p rs rq W rv) C_uncB23 (upm μ1 20040 lf) w1 [(20001,.vec 0,2),(20002,.vec 1,3),(20003,.vec 2,4),(20004,.vec 3,5),(20021,.vec 4,0),(20022,.vec 5,1)]:=(uQ 2 q0 hrv hip hip2 (uQ 2 q1 hrv hip hip2 (uQ 7 q2 hrv hip hip2 (uP q3 mf hrv hip (tW 8 hip (tN 3 hip allNil)) (by kernel_rfl)))))
  obtain ⟨p1,p2,p3⟩:=HR.weakIn (C:=C_uncB23) (rl:=(rlT [] bscB23)) hb (by decide) rfl (by kernel_rfl) hip hvp (fs:=fsR) (bs:=bscB23) (by kernel_rfl) (by kernel_rfl) (hx1.trans hext) (f1.ext hext) r2 (glNone rfl rfl)
  exact ⟨_,p1,p2,p3⟩
end
end Go.Proofs.YtnhgdcgeehcebaaGreatDoor.tt
