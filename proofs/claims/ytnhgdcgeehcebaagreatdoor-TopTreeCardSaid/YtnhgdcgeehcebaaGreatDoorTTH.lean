/-
  Frames that are set aside while a call runs, and come back.
-/
import Derived.Test.YtnhgdcgeehcebaaGreatDoorTTS
import Derived.Test.YtnhgdcgeehcebaaGreatDoorXN3
import Derived.Test.YtnhgdcgeehcebaaGreatDoorTTM
import Derived.Test.YtnhgdcgeehcebaaGreatDoorProg
import Derived.KernelRfl
set_option linter.unusedSectionVars false
set_option linter.unusedVariables false
set_option maxRecDepth 1000000
set_option maxHeartbeats 0
namespace Go.Proofs.YtnhgdcgeehcebaaGreatDoor.tt
open Go.X Go.RowKit Go.Proofs.YtnhgdcgeehcebaaGreatDoor
theorem hOf_next {N:Nat} {bs:BS}:(hOf N bs).next=N:=by unfold hOf;rw [fT_eq]
section
variable {B:Kp} {w0 w w1:World} {μ0:M} {a:Act}
def Hid_hideA (v r wd c0 c1:Int) (s d nn p:Nat) (W:Nat→BitVec 64) (rv:Nat→Value) (B:Kp) (w0:World) (μ0:M) (w:World) (rv':Nat→Value) (E:Nat→Prop):Prop :=
  ∃ (μ:M) (lf:X.Loc) (LL:Nat→X.Loc),Ext μ0 μ∧@HR (PE2a v r wd c0 c1 s d nn p W rv) B w0 μ (hOf 20040 bsE2a) w∧μ 20006=some lf∧E=(fun j=>j=lf.block)∧rv'=snap w LL∧μ 20001=some (LL 0)∧μ 20002=some (LL 1)∧μ 20003=some (LL 2)∧μ 20004=some (LL 3)
noncomputable abbrev C_hideA:Cv:=⟨20000,20040,ofPairs (rlT [] bsE),[(.oi 0,6),(.oi 1,7),(.oi 2,9),(.oi 3,10),(.oi 4,2),(.oi 5,3),(.oi 6,4),(.oi 7,1),(.oi 10,0),(.oi 12,5)]⟩
theorem hideA {v r wd c0 c1:Int} {s d nn p:Nat} {W:Nat→BitVec 64} {rv:Nat→Value} (hb:Base B μ0 20000) (s_:SE2a v r wd c0 c1 s d nn p W rv B w0 μ0 a w):∃ rv' E,Hid_hideA v r wd c0 c1 s d nn p W rv B w0 μ0 w rv' E∧SE (v - 1) (r+7) (wd+9) (c0+7) c1 (s+3) (d+1) nn W rv' (B.also E) w μ0 a w:=by
  obtain ⟨μ,hx,f,r_⟩:=s_
  have g:=fun x b h=>@HR.blk (PE2a v r wd c0 c1 s d nn p W rv) B w0 μ (hOf 20040 bsE2a) w r_ x b h
  obtain ⟨l0,m0,_⟩:=g 20001 (.vec 0) (by kernel_rfl)
  obtain ⟨l1,m1,_⟩:=g 20002 (.vec 1) (by kernel_rfl)
  obtain ⟨l2,m2,_⟩:=g 20003 (.vec 2) (by kernel_rfl)
  obtain ⟨l3,m3,_⟩:=g 20004 (.vec 3) (by kernel_rfl)
  obtain ⟨lf,mf,_⟩:=g 20006 kb35 (by kernel_rfl)
  let LL:Nat→X.Loc:=fun c=>match c with | 0=>l0 | 1=>l1 | 2=>l2 | _=>l3
  refine ⟨snap w LL,fun j=>j=lf.block,⟨μ,lf,LL,hx,r_,mf,rfl,rfl,m0,m1,m2,m3⟩,?_⟩
  have hip:IpOk (PE2a v r wd c0 c1 s d nn p W rv) (PE (v - 1) (r+7) (wd+9) (c0+7) c1 (s+3) (d+1) nn W (snap w LL)) C_hideA.ip:=(nN (nN (nO (nO (nO (nO (nN (nO (nO (nO ipNil))))))))))
  have hvp:Told (PE2a v r wd c0 c1 s d nn p W rv) (PE (v - 1) (r+7) (wd+9) (c0+7) c1 (s+3) (d+1) nn W (snap w LL)) C_hideA μ w [(20001,.vec 0,2),(20002,.vec 1,3),(20003,.vec 2,4),(20004,.vec 3,5),(20021,.vec 4,0),(20022,.vec 5,1)]:=(tQ 0 3 hip m0 rfl rfl (tQ 1 3 hip m1 rfl rfl (tQ 2 7 hip m2 rfl rfl (tQ 3 1 hip m3 rfl rfl (tW 8 hip (tN 3 hip allNil))))))
  obtain ⟨q1,q2,q3⟩:=HR.weakAt (C:=C_hideA) (rl:=(rlT [] bsE)) hb (by decide) rfl (by kernel_rfl) hip hvp (fs:=fsR) (bs:=bsE) (E:=fun j=>j=lf.block)
    (aside_of (x:=20006) r_ (by kernel_rfl:_=some kb35) rfl mf (by decide)) (by kernel_rfl) (by kernel_rfl) hx f r_ (fun _=>glNone rfl rfl)
  exact ⟨_,q1,q2,q3⟩
def Hid_hideB (v r wd c0 c1:Int) (s d nn p:Nat) (W:Nat→BitVec 64) (rv:Nat→Value) (B:Kp) (w0:World) (μ0:M) (w:World) (rv':Nat→Value) (E:Nat→Prop):Prop :=
  ∃ (μ:M) (lf:X.Loc) (LL:Nat→X.Loc),Ext μ0 μ∧@HR (PE2b v r wd c0 c1 s d nn p W rv) B w0 μ (hOf 20040 bsE2b) w∧μ 20006=some lf∧E=(fun j=>j=lf.block)∧rv'=snap w LL∧μ 20001=some (LL 0)∧μ 20002=some (LL 1)∧μ 20003=some (LL 2)∧μ 20004=some (LL 3)
noncomputable abbrev C_hideB:Cv:=⟨20000,20040,ofPairs (rlT [] bsE),[(.oi 0,6),(.oi 1,7),(.oi 2,9),(.oi 3,10),(.oi 4,2),(.oi 5,3),(.oi 6,4),(.oi 7,1),(.oi 10,0),(.oi 12,5)]⟩
theorem hideB {v r wd c0 c1:Int} {s d nn p:Nat} {W:Nat→BitVec 64} {rv:Nat→Value} (hb:Base B μ0 20000) (s_:SE2b v r wd c0 c1 s d nn p W rv B w0 μ0 a w):∃ rv' E,Hid_hideB v r wd c0 c1 s d nn p W rv B w0 μ0 w rv' E∧SE (v - 1) (r+7) (wd+9) (c0+7) c1 (s+3) (d+1) nn W rv' (B.also E) w μ0 a w:=by
  obtain ⟨μ,hx,f,r_⟩:=s_
  have g:=fun x b h=>@HR.blk (PE2b v r wd c0 c1 s d nn p W rv) B w0 μ (hOf 20040 bsE2b) w r_ x b h
  obtain ⟨l0,m0,_⟩:=g 20001 (.vec 0) (by kernel_rfl)
  obtain ⟨l1,m1,_⟩:=g 20002 (.vec 1) (by kernel_rfl)
  obtain ⟨l2,m2,_⟩:=g 20003 (.vec 2) (by kernel_rfl)
  obtain ⟨l3,m3,_⟩:=g 20004 (.vec 3) (by kernel_rfl)
  obtain ⟨lf,mf,_⟩:=g 20006 kb36 (by kernel_rfl)
  let LL:Nat→X.Loc:=fun c=>match c with | 0=>l0 | 1=>l1 | 2=>l2 | _=>l3
  refine ⟨snap w LL,fun j=>j=lf.block,⟨μ,lf,LL,hx,r_,mf,rfl,rfl,m0,m1,m2,m3⟩,?_⟩
  have hip:IpOk (PE2b v r wd c0 c1 s d nn p W rv) (PE (v - 1) (r+7) (wd+9) (c0+7) c1 (s+3) (d+1) nn W (snap w LL)) C_hideB.ip:=(nN (nN (nO (nO (nO (nO (nN (nO (nO (nO ipNil))))))))))
  have hvp:Told (PE2b v r wd c0 c1 s d nn p W rv) (PE (v - 1) (r+7) (wd+9) (c0+7) c1 (s+3) (d+1) nn W (snap w LL)) C_hideB μ w [(20001,.vec 0,2),(20002,.vec 1,3),(20003,.vec 2,4),(20004,.vec 3,5),(20021,.vec 4,0),(20022,.vec 5,1)]:=(tQ 0 3 hip m0 rfl rfl (tQ 1 3 hip m1 rfl rfl (tQ 2 7 hip m2 rfl rfl (tQ 3 1 hip m3 rfl rfl (tW 8 hip (tN 3 hip allNil))))))
  obtain ⟨q1,q2,q3⟩:=HR.weakAt (C:=C_hideB) (rl:=(rlT [] bsE)) hb (by decide) rfl (by kernel_rfl) hip hvp (fs:=fsR) (bs:=bsE) (E:=fun j=>j=lf.block)
    (aside_of (x:=20006) r_ (by kernel_rfl:_=some kb36) rfl mf (by decide)) (by kernel_rfl) (by kernel_rfl) hx f r_ (fun _=>glNone rfl rfl)
  exact ⟨_,q1,q2,q3⟩
noncomputable abbrev C_unA7:Cv:=⟨20000,20041,ofPairs (rlT [] bsCA7),[(.oi 0,10),(.oi 1,11),(.oi 2,13),(.oi 3,14),(.oi 4,5),(.oi 5,6),(.oi 6,7),(.oi 7,4),(.oi 8,2),(.oi 9,3),(.oi 10,9)]⟩
theorem unA7 {v r wd c0 c1 u r1 w1_ b0 b1:Int} {s d nn p nn1 rs:Nat} {W W1:Nat→BitVec 64} {rv rv':Nat→Value} {E:Nat→Prop} (hM:∃ l,μ0 15191=some l) (hb:Base B μ0 20000) (hd:Hid_hideA v r wd c0 c1 s d nn p W rv B w0 μ0 w rv' E)
    (s_:SR7 u r1 w1_ b0 b1 (s+3) (d+1) nn1 rs W1 rv' (B.also E) w μ0 a w1):SCA7 v u r1 w1_ b0 b1 s d nn1 p rs W1 rv B w0 μ0 a w1:=by
  letI:Tab:=(PR7 u r1 w1_ b0 b1 (s+3) (d+1) nn1 rs W1 rv')
  obtain ⟨μ,lf,LL,hx,r_,mf,hE,hrv,m0,m1,m2,m3⟩:=hd
  obtain ⟨μ1,hx1,f1,r1_⟩:=s_
  have g:=fun x b h=>@HR.blk (PE2a v r wd c0 c1 s d nn p W rv) B w0 μ (hOf 20040 bsE2a) w r_ x b h
  obtain ⟨l0,k0,_,_,b0_⟩:=g 20001 (.vec 0) (by kernel_rfl)
  obtain ⟨l1,k1,_,_,b1_⟩:=g 20002 (.vec 1) (by kernel_rfl)
  obtain ⟨l2,k2,_,_,b2_⟩:=g 20003 (.vec 2) (by kernel_rfl)
  obtain ⟨l3,k3,_,_,b3_⟩:=g 20004 (.vec 3) (by kernel_rfl)
  obtain ⟨lf2,kf,nf,_,bf⟩:=g 20006 kb35 (by kernel_rfl)
  rw [m0] at k0;cases k0
  rw [m1] at k1;cases k1
  rw [m2] at k2;cases k2
  rw [m3] at k3;cases k3
  rw [mf] at kf;cases kf
  have q0:=vec_was (c:=0) (LL:=LL) (by decide) rfl rfl b0_
  have q1:=vec_was (c:=1) (LL:=LL) (by decide) rfl rfl b1_
  have q2:=vec_was (c:=2) (LL:=LL) (by decide) rfl rfl b2_
  have q3:=vec_was (c:=3) (LL:=LL) (by decide) rfl rfl b3_
  have hEl:E lf.block:=by rw [hE]
  have hext:Ext μ1 (upm μ1 20040 lf):=Ext.upm _ (@HR.fresh _ _ _ _ _ _ r1_ 20040 (by rw [hOf_next];exact Nat.le_refl _)).2
  have hbf:@brel (PR7 u r1 w1_ b0 b1 (s+3) (d+1) nn1 rs W1 rv') (upm μ1 20040 lf) kb35 lf w1:=brel_cells bf ((@HR.below _ _ _ _ _ _ r1_).block _ (.inr hEl)) (fun i x hi hx_ y hy=>by
    have h1:=cellOf_mem (L:=[(.int .i64 0),(.int .i64 2),(.ptr 15191 0),(.int .i64 0),(.int .i64 20),.nilp]) (by decide) hx_
    simp only [List.mem_cons,List.not_mem_nil,or_false] at h1
    obtain ⟨lm,hlm⟩:=hM
    rcases h1 with rfl | rfl | rfl | rfl | rfl | rfl<;>simp only [vrel] at hy ⊢<;>first | exact hy | (obtain ⟨l5,h6,h7⟩:=hy;rw [hx _ _ hlm] at h6;cases h6;exact ⟨lm,hext _ _ (hx1 _ _ hlm),h7⟩))
  have r2:=HR.addBack r_ (nf rfl) rfl hEl r1_ (by rw [hOf_next];decide) (by rw [hOf_next];exact hbf) (glNone rfl rfl)
  rw [hOf_next] at r2
  have hip:IpOk (PR7 u r1 w1_ b0 b1 (s+3) (d+1) nn1 rs W1 rv') (PCA7 v u r1 w1_ b0 b1 s d nn1 p rs W1 rv) C_unA7.ip:=(nN (nN (nO (nO (nN (nN (nN (nN (nN (nN (nO ipNil)))))))))))
  have hip2:IpOk (PE2a v r wd c0 c1 s d nn p W rv) (PCA7 v u r1 w1_ b0 b1 s d nn1 p rs W1 rv) [(.oi 8,0),(.oi 9,1),(.oi 11,8)]:=(nN (nN (nN ipNil)))
  have hvp:Told (PR7 u r1 w1_ b0 b1 (s+3) (d+1) nn1 rs W1 rv') (PCA7 v u r1 w1_ b0 b1 s d nn1 p rs W1 rv) C_unA7 (upm μ1 20040 lf) w1 [(20001,.vec 0,2),(20002,.vec 1,3),(20003,.vec 2,4),(20004,.vec 3,5),(20021,.vec 4,0),(20022,.vec 5,1)]:=(uQ 3 q0 hrv hip hip2 (uQ 3 q1 hrv hip hip2 (uQ 7 q2 hrv hip hip2 (uP q3 mf hrv hip (tW 8 hip (tN 3 hip allNil)) (by kernel_rfl)))))
  obtain ⟨p1,p2,p3⟩:=HR.weakIn (C:=C_unA7) (rl:=(rlT [] bsCA7)) hb (by decide) rfl (by kernel_rfl) hip hvp (fs:=fsR) (bs:=bsCA7) (by kernel_rfl) (by kernel_rfl) (hx1.trans hext) (f1.ext hext) r2 (glNone rfl rfl)
  exact ⟨_,p1,p2,p3⟩
noncomputable abbrev C_unB7:Cv:=⟨20000,20041,ofPairs (rlT [] bsCB7),[(.oi 0,10),(.oi 1,11),(.oi 2,13),(.oi 3,14),(.oi 4,5),(.oi 5,6),(.oi 6,7),(.oi 7,4),(.oi 8,2),(.oi 9,3),(.oi 10,9)]⟩
theorem unB7 {v r wd c0 c1 u r1 w1_ b0 b1:Int} {s d nn p nn1 rs:Nat} {W W1:Nat→BitVec 64} {rv rv':Nat→Value} {E:Nat→Prop} (hM:∃ l,μ0 15191=some l) (hb:Base B μ0 20000) (hd:Hid_hideB v r wd c0 c1 s d nn p W rv B w0 μ0 w rv' E)
    (s_:SR7 u r1 w1_ b0 b1 (s+3) (d+1) nn1 rs W1 rv' (B.also E) w μ0 a w1):SCB7 v u r1 w1_ b0 b1 s d nn1 p rs W1 rv B w0 μ0 a w1:=by
  letI:Tab:=(PR7 u r1 w1_ b0 b1 (s+3) (d+1) nn1 rs W1 rv')
  obtain ⟨μ,lf,LL,hx,r_,mf,hE,hrv,m0,m1,m2,m3⟩:=hd
  obtain ⟨μ1,hx1,f1,r1_⟩:=s_
  have g:=fun x b h=>@HR.blk (PE2b v r wd c0 c1 s d nn p W rv) B w0 μ (hOf 20040 bsE2b) w r_ x b h
  obtain ⟨l0,k0,_,_,b0_⟩:=g 20001 (.vec 0) (by kernel_rfl)
  obtain ⟨l1,k1,_,_,b1_⟩:=g 20002 (.vec 1) (by kernel_rfl)
  obtain ⟨l2,k2,_,_,b2_⟩:=g 20003 (.vec 2) (by kernel_rfl)
  obtain ⟨l3,k3,_,_,b3_⟩:=g 20004 (.vec 3) (by kernel_rfl)
  obtain ⟨lf2,kf,nf,_,bf⟩:=g 20006 kb36 (by kernel_rfl)
  rw [m0] at k0;cases k0
  rw [m1] at k1;cases k1
  rw [m2] at k2;cases k2
  rw [m3] at k3;cases k3
  rw [mf] at kf;cases kf
  have q0:=vec_was (c:=0) (LL:=LL) (by decide) rfl rfl b0_
  have q1:=vec_was (c:=1) (LL:=LL) (by decide) rfl rfl b1_
  have q2:=vec_was (c:=2) (LL:=LL) (by decide) rfl rfl b2_
  have q3:=vec_was (c:=3) (LL:=LL) (by decide) rfl rfl b3_
  have hEl:E lf.block:=by rw [hE]
  have hext:Ext μ1 (upm μ1 20040 lf):=Ext.upm _ (@HR.fresh _ _ _ _ _ _ r1_ 20040 (by rw [hOf_next];exact Nat.le_refl _)).2
  have hbf:@brel (PR7 u r1 w1_ b0 b1 (s+3) (d+1) nn1 rs W1 rv') (upm μ1 20040 lf) kb36 lf w1:=brel_cells bf ((@HR.below _ _ _ _ _ _ r1_).block _ (.inr hEl)) (fun i x hi hx_ y hy=>by
    have h1:=cellOf_mem (L:=[(.int .i64 0),(.int .i64 2),(.ptr 15191 0),(.int .i64 0),(.int .i64 30),.nilp]) (by decide) hx_
    simp only [List.mem_cons,List.not_mem_nil,or_false] at h1
    obtain ⟨lm,hlm⟩:=hM
    rcases h1 with rfl | rfl | rfl | rfl | rfl | rfl<;>simp only [vrel] at hy ⊢<;>first | exact hy | (obtain ⟨l5,h6,h7⟩:=hy;rw [hx _ _ hlm] at h6;cases h6;exact ⟨lm,hext _ _ (hx1 _ _ hlm),h7⟩))
  have r2:=HR.addBack r_ (nf rfl) rfl hEl r1_ (by rw [hOf_next];decide) (by rw [hOf_next];exact hbf) (glNone rfl rfl)
  rw [hOf_next] at r2
  have hip:IpOk (PR7 u r1 w1_ b0 b1 (s+3) (d+1) nn1 rs W1 rv') (PCB7 v u r1 w1_ b0 b1 s d nn1 p rs W1 rv) C_unB7.ip:=(nN (nN (nO (nO (nN (nN (nN (nN (nN (nN (nO ipNil)))))))))))
  have hip2:IpOk (PE2b v r wd c0 c1 s d nn p W rv) (PCB7 v u r1 w1_ b0 b1 s d nn1 p rs W1 rv) [(.oi 8,0),(.oi 9,1),(.oi 11,8)]:=(nN (nN (nN ipNil)))
  have hvp:Told (PR7 u r1 w1_ b0 b1 (s+3) (d+1) nn1 rs W1 rv') (PCB7 v u r1 w1_ b0 b1 s d nn1 p rs W1 rv) C_unB7 (upm μ1 20040 lf) w1 [(20001,.vec 0,2),(20002,.vec 1,3),(20003,.vec 2,4),(20004,.vec 3,5),(20021,.vec 4,0),(20022,.vec 5,1)]:=(uQ 3 q0 hrv hip hip2 (uQ 3 q1 hrv hip hip2 (uQ 7 q2 hrv hip hip2 (uP q3 mf hrv hip (tW 8 hip (tN 3 hip allNil)) (by kernel_rfl)))))
  obtain ⟨p1,p2,p3⟩:=HR.weakIn (C:=C_unB7) (rl:=(rlT [] bsCB7)) hb (by decide) rfl (by kernel_rfl) hip hvp (fs:=fsR) (bs:=bsCB7) (by kernel_rfl) (by kernel_rfl) (hx1.trans hext) (f1.ext hext) r2 (glNone rfl rfl)
  exact ⟨_,p1,p2,p3⟩
noncomputable abbrev C_unA37:Cv:=⟨20000,20041,ofPairs (rlT [] bsCA37),[(.oi 0,10),(.oi 1,11),(.oi 2,13),(.oi 3,14),(.oi 4,5),(.oi 5,6),(.oi 6,7),(.oi 7,4),(.oi 8,2),(.oi 9,3),(.oi 10,9)]⟩
theorem unA37 {v r wd c0 c1 u r1 w1_ b0 b1:Int} {s d nn p nn1 rs:Nat} {W W1:Nat→BitVec 64} {rv rv':Nat→Value} {E:Nat→Prop} (hM:∃ l,μ0 15191=some l) (hb:Base B μ0 20000) (hd:Hid_hideA v r wd c0 c1 s d nn p W rv B w0 μ0 w rv' E)
    (s_:SR37 u r1 w1_ b0 b1 (s+3) (d+1) nn1 rs W1 rv' (B.also E) w μ0 a w1):SCA37 v u r1 w1_ b0 b1 s d nn1 p rs W1 rv B w0 μ0 a w1:=by
  letI:Tab:=(PR37 u r1 w1_ b0 b1 (s+3) (d+1) nn1 rs W1 rv')
  obtain ⟨μ,lf,LL,hx,r_,mf,hE,hrv,m0,m1,m2,m3⟩:=hd
  obtain ⟨μ1,hx1,f1,r1_⟩:=s_
  have g:=fun x b h=>@HR.blk (PE2a v r wd c0 c1 s d nn p W rv) B w0 μ (hOf 20040 bsE2a) w r_ x b h
  obtain ⟨l0,k0,_,_,b0_⟩:=g 20001 (.vec 0) (by kernel_rfl)
  obtain ⟨l1,k1,_,_,b1_⟩:=g 20002 (.vec 1) (by kernel_rfl)
  obtain ⟨l2,k2,_,_,b2_⟩:=g 20003 (.vec 2) (by kernel_rfl)
  obtain ⟨l3,k3,_,_,b3_⟩:=g 20004 (.vec 3) (by kernel_rfl)
  obtain ⟨lf2,kf,nf,_,bf⟩:=g 20006 kb35 (by kernel_rfl)
  rw [m0] at k0;cases k0
  rw [m1] at k1;cases k1
  rw [m2] at k2;cases k2
  rw [m3] at k3;cases k3
  rw [mf] at kf;cases kf
  have q0:=vec_was (c:=0) (LL:=LL) (by decide) rfl rfl b0_
  have q1:=vec_was (c:=1) (LL:=LL) (by decide) rfl rfl b1_
  have q2:=vec_was (c:=2) (LL:=LL) (by decide) rfl rfl b2_
  have q3:=vec_was (c:=3) (LL:=LL) (by decide) rfl rfl b3_
  have hEl:E lf.block:=by rw [hE]
  have hext:Ext μ1 (upm μ1 20040 lf):=Ext.upm _ (@HR.fresh _ _ _ _ _ _ r1_ 20040 (by rw [hOf_next];exact Nat.le_refl _)).2
  have hbf:@brel (PR37 u r1 w1_ b0 b1 (s+3) (d+1) nn1 rs W1 rv') (upm μ1 20040 lf) kb35 lf w1:=brel_cells bf ((@HR.below _ _ _ _ _ _ r1_).block _ (.inr hEl)) (fun i x hi hx_ y hy=>by
    have h1:=cellOf_mem (L:=[(.int .i64 0),(.int .i64 2),(.ptr 15191 0),(.int .i64 0),(.int .i64 20),.nilp]) (by decide) hx_
    simp only [List.mem_cons,List.not_mem_nil,or_false] at h1
    obtain ⟨lm,hlm⟩:=hM
    rcases h1 with rfl | rfl | rfl | rfl | rfl | rfl<;>simp only [vrel] at hy ⊢<;>first | exact hy | (obtain ⟨l5,h6,h7⟩:=hy;rw [hx _ _ hlm] at h6;cases h6;exact ⟨lm,hext _ _ (hx1 _ _ hlm),h7⟩))
  have r2:=HR.addBack r_ (nf rfl) rfl hEl r1_ (by rw [hOf_next];decide) (by rw [hOf_next];exact hbf) (glNone rfl rfl)
  rw [hOf_next] at r2
  have hip:IpOk (PR37 u r1 w1_ b0 b1 (s+3) (d+1) nn1 rs W1 rv') (PCA37 v u r1 w1_ b0 b1 s d nn1 p rs W1 rv) C_unA37.ip:=(nN (nN (nO (nO (nN (nN (nN (nN (nN (nN (nO ipNil)))))))))))
  have hip2:IpOk (PE2a v r wd c0 c1 s d nn p W rv) (PCA37 v u r1 w1_ b0 b1 s d nn1 p rs W1 rv) [(.oi 8,0),(.oi 9,1),(.oi 11,8)]:=(nN (nN (nN ipNil)))
  have hvp:Told (PR37 u r1 w1_ b0 b1 (s+3) (d+1) nn1 rs W1 rv') (PCA37 v u r1 w1_ b0 b1 s d nn1 p rs W1 rv) C_unA37 (upm μ1 20040 lf) w1 [(20001,.vec 0,2),(20002,.vec 1,3),(20003,.vec 2,4),(20004,.vec 3,5),(20021,.vec 4,0),(20022,.vec 5,1)]:=(uQ 3 q0 hrv hip hip2 (uQ 3 q1 hrv hip hip2 (uQ 7 q2 hrv hip hip2 (uP q3 mf hrv hip (tW 8 hip (tN 3 hip allNil)) (by kernel_rfl)))))
  obtain ⟨p1,p2,p3⟩:=HR.weakIn (C:=C_unA37) (rl:=(rlT [] bsCA37)) hb (by decide) rfl (by kernel_rfl) hip hvp (fs:=fsR) (bs:=bsCA37) (by kernel_rfl) (by kernel_rfl) (hx1.trans hext) (f1.ext hext) r2 (glNone rfl rfl)
  exact ⟨_,p1,p2,p3⟩
noncomputable abbrev C_unB37:Cv:=⟨20000,20041,ofPairs (rlT [] bsCB37),[(.oi 0,10),(.oi 1,11),(.oi 2,13),(.oi 3,14),(.oi 4,5),(.oi 5,6),(.oi 6,7),(.oi 7,4),(.oi 8,2),(.oi 9,3),(.oi 10,9)]⟩
theorem unB37 {v r wd c0 c1 u r1 w1_ b0 b1:Int} {s d nn p nn1 rs:Nat} {W W1:Nat→BitVec 64} {rv rv':Nat→Value} {E:Nat→Prop} (hM:∃ l,μ0 15191=some l) (hb:Base B μ0 20000) (hd:Hid_hideB v r wd c0 c1 s d nn p W rv B w0 μ0 w rv' E)
    (s_:SR37 u r1 w1_ b0 b1 (s+3) (d+1) nn1 rs W1 rv' (B.also E) w μ0 a w1):SCB37 v u r1 w1_ b0 b1 s d nn1 p rs W1 rv B w0 μ0 a w1:=by
  letI:Tab:=(PR37 u r1 w1_ b0 b1 (s+3) (d+1) nn1 rs W1 rv')
  obtain ⟨μ,lf,LL,hx,r_,mf,hE,hrv,m0,m1,m2,m3⟩:=hd
  obtain ⟨μ1,hx1,f1,r1_⟩:=s_
  have g:=fun x b h=>@HR.blk (PE2b v r wd c0 c1 s d nn p W rv) B w0 μ (hOf 20040 bsE2b) w r_ x b h
  obtain ⟨l0,k0,_,_,b0_⟩:=g 20001 (.vec 0) (by kernel_rfl)
  obtain ⟨l1,k1,_,_,b1_⟩:=g 20002 (.vec 1) (by kernel_rfl)
  obtain ⟨l2,k2,_,_,b2_⟩:=g 20003 (.vec 2) (by kernel_rfl)
  obtain ⟨l3,k3,_,_,b3_⟩:=g 20004 (.vec 3) (by kernel_rfl)
  obtain ⟨lf2,kf,nf,_,bf⟩:=g 20006 kb36 (by kernel_rfl)
  rw [m0] at k0;cases k0
  rw [m1] at k1;cases k1
  rw [m2] at k2;cases k2
  rw [m3] at k3;cases k3
  rw [mf] at kf;cases kf
  have q0:=vec_was (c:=0) (LL:=LL) (by decide) rfl rfl b0_
  have q1:=vec_was (c:=1) (LL:=LL) (by decide) rfl rfl b1_
  have q2:=vec_was (c:=2) (LL:=LL) (by decide) rfl rfl b2_
  have q3:=vec_was (c:=3) (LL:=LL) (by decide) rfl rfl b3_
  have hEl:E lf.block:=by rw [hE]
  have hext:Ext μ1 (upm μ1 20040 lf):=Ext.upm _ (@HR.fresh _ _ _ _ _ _ r1_ 20040 (by rw [hOf_next];exact Nat.le_refl _)).2
  have hbf:@brel (PR37 u r1 w1_ b0 b1 (s+3) (d+1) nn1 rs W1 rv') (upm μ1 20040 lf) kb36 lf w1:=brel_cells bf ((@HR.below _ _ _ _ _ _ r1_).block _ (.inr hEl)) (fun i x hi hx_ y hy=>by
    have h1:=cellOf_mem (L:=[(.int .i64 0),(.int .i64 2),(.ptr 15191 0),(.int .i64 0),(.int .i64 30),.nilp]) (by decide) hx_
    simp only [List.mem_cons,List.not_mem_nil,or_false] at h1
    obtain ⟨lm,hlm⟩:=hM
    rcases h1 with rfl | rfl | rfl | rfl | rfl | rfl<;>simp only [vrel] at hy ⊢<;>first | exact hy | (obtain ⟨l5,h6,h7⟩:=hy;rw [hx _ _ hlm] at h6;cases h6;exact ⟨lm,hext _ _ (hx1 _ _ hlm),h7⟩))
  have r2:=HR.addBack r_ (nf rfl) rfl hEl r1_ (by rw [hOf_next];decide) (by rw [hOf_next];exact hbf) (glNone rfl rfl)
  rw [hOf_next] at r2
  have hip:IpOk (PR37 u r1 w1_ b0 b1 (s+3) (d+1) nn1 rs W1 rv') (PCB37 v u r1 w1_ b0 b1 s d nn1 p rs W1 rv) C_unB37.ip:=(nN (nN (nO (nO (nN (nN (nN (nN (nN (nN (nO ipNil)))))))))))
  have hip2:IpOk (PE2b v r wd c0 c1 s d nn p W rv) (PCB37 v u r1 w1_ b0 b1 s d nn1 p rs W1 rv) [(.oi 8,0),(.oi 9,1),(.oi 11,8)]:=(nN (nN (nN ipNil)))
  have hvp:Told (PR37 u r1 w1_ b0 b1 (s+3) (d+1) nn1 rs W1 rv') (PCB37 v u r1 w1_ b0 b1 s d nn1 p rs W1 rv) C_unB37 (upm μ1 20040 lf) w1 [(20001,.vec 0,2),(20002,.vec 1,3),(20003,.vec 2,4),(20004,.vec 3,5),(20021,.vec 4,0),(20022,.vec 5,1)]:=(uQ 3 q0 hrv hip hip2 (uQ 3 q1 hrv hip hip2 (uQ 7 q2 hrv hip hip2 (uP q3 mf hrv hip (tW 8 hip (tN 3 hip allNil)) (by kernel_rfl)))))
  obtain ⟨p1,p2,p3⟩:=HR.weakIn (C:=C_unB37) (rl:=(rlT [] bsCB37)) hb (by decide) rfl (by kernel_rfl) hip hvp (fs:=fsR) (bs:=bsCB37) (by kernel_rfl) (by kernel_rfl) (hx1.trans hext) (f1.ext hext) r2 (glNone rfl rfl)
  exact ⟨_,p1,p2,p3⟩
end
end Go.Proofs.YtnhgdcgeehcebaaGreatDoor.tt
