/-
  A tree is counted, whatever is beneath.
-/
import Derived.Test.YtnhgdcgeehcebaaGreatDoorTTZ
import Derived.Test.YtnhgdcgeehcebaaGreatDoorTTV
import Derived.Test.YtnhgdcgeehcebaaGreatDoorTTX
import Derived.Test.YtnhgdcgeehcebaaGreatDoorTTY
import Derived.Test.YtnhgdcgeehcebaaGreatDoorTTR
import Derived.Test.YtnhgdcgeehcebaaGreatDoorXN3
import Derived.Test.YtnhgdcgeehcebaaGreatDoorTTM
import Derived.Test.YtnhgdcgeehcebaaGreatDoorProg
import Derived.KernelRfl
set_option linter.unusedSectionVars false
set_option linter.unusedVariables false
set_option maxRecDepth 1000000
set_option maxHeartbeats 0
namespace Go.Proofs.YtnhgdcgeehcebaaGreatDoor.tt
open Go.X Go.RowKit Go.Proofs.YtnhgdcgeehcebaaGreatDoor
def kC:Nat→Nat
  | 0=>2
  | k+1=>5+kC k+5+kC k+4
theorem kC_bd:∀ k:Nat,k≤8→kC k≤8000:=by decide
def Tr:Nat→Nat→(Nat→BitVec 64)→Prop
  | 0,_,_=>True
  | k+1,p,W=>W (4*p)=3#64∧wI (W (4*p+2))=((ad k (p+1):Nat):Int)∧wI (W (4*p+3))=((ad k (p+1+sz k):Nat):Int)∧Tr k (p+1) W∧Tr k (p+1+sz k) W
theorem Tr.congr:∀ (k p:Nat) {W W':Nat→BitVec 64},(∀ m,4*p≤m→m<4*(p+sz k)→W' m=W m)→Tr k p W→Tr k p W'
  | 0,_,_,_,_,_=>trivial
  | k+1,p,W,W',h,⟨t1,t2,t3,t4,t5⟩=>by
    have e:sz (k+1)=1+sz k+sz k:=rfl
    exact ⟨by rw [h _ (by omega) (by omega)];exact t1,by rw [h _ (by omega) (by omega)];exact t2,by rw [h _ (by omega) (by omega)];exact t3,Tr.congr k _ (fun m h1 h2=>h m (by omega) (by omega)) t4,Tr.congr k _ (fun m h1 h2=>h m (by omega) (by omega)) t5⟩
theorem gW_tr:∀ (k p:Nat) (W:Nat→BitVec 64),p+sz k≤1000→Tr k p (gW k p W)
  | 0,_,_,_=>trivial
  | k + 1,p,W,hp=>by
    have e:sz (k+1)=1+sz k+sz k:=rfl
    have a1:=ad_bd k (p+1) (by omega)
    have a2:=ad_bd k (p+1+sz k) (by omega)
    have t1:=gW_tr k (p+1) (setW W (4*p) 3#64) (by omega)
    have t2:=gW_tr k (p+1+sz k) (setW (gW k (p+1) (setW W (4*p) 3#64)) (4*p+2) (BitVec.ofNat 64 (ad k (p+1)))) (by omega)
    unfold gW
    refine ⟨?_,?_,?_,?_,?_⟩
    · rw [setW_ne (by omega),gW_lo _ _ _ _ (by omega),setW_ne (by omega),gW_lo _ _ _ _ (by omega),setW_eq]
    · rw [setW_ne (by omega),gW_lo _ _ _ _ (by omega),setW_eq,natW (by omega)]
    · rw [setW_eq,natW (by omega)]
    · refine Tr.congr k _ (fun m h1 h2=>?_) t1
      rw [setW_ne (by omega),gW_lo _ _ _ _ (by omega),setW_ne (by omega)]
    · exact Tr.congr k _ (fun m h1 h2=>setW_ne (by omega)) t2
def SI (n:Nat) (r wd c0 c1 c2:Int) (s d nn p:Nat) (W:Nat→BitVec 64) (rv:Nat→Value) (B:Kp) (w0:World) (μ:M) (a:Act) (w:World):Prop :=
  match n with
  | 0=>ScN 0 r wd c0 c1 c2 s d nn W rv B w0 μ a w
  | _+1=>ScE r wd c0 c1 c2 s d nn p W rv B w0 μ a w
def Back2 (n:Nat) (B:Kp) (w0:World) (μ:M) (rv:Nat→Value) (Q:Exit→Act→World→Prop) (j:Nat) (r wd c0 c1 c2:Int) (s d nn:Nat) (W:Nat→BitVec 64):Prop :=
  ∀ (u r' wd' c2':Int) (rs:Nat) (a':Act) (w':World),r'=r+kC n→wd'=wd→c2'=c2+kC n→rs=sz n →
    (match n with | 0=>ScR5 u r' wd' c0 c1 c2' s d nn rs W rv B w0 μ a' w' | _+1=>ScR23 u r' wd' c0 c1 c2' s d nn rs W rv B w0 μ a' w')→Code.rounds Tryz.prog la Q j a' w'
def Cnt (n:Nat):Prop:=∀ {B:Kp} {w0:World} {μ:M} {rv:Nat→Value} {Q:Exit→Act→World→Prop} {j:Nat} {r wd c0 c1 c2:Int} {s d nn p:Nat} {W:Nat→BitVec 64} {a:Act} {w:World} (_:Base B μ 20000) (_:∃ l,μ 15191=some l) (_:n≤8) (_:0≤r) (_:r+kC n+40≤100000) (_:0≤wd) (_:wd+8*n+20≤2048) (_:0≤c2) (_:c2+kC n+40≤200000) (_:s+2*n≤9000) (_:d+n≤9000) (_:p+sz n≤nn) (_:nn≤290) (_:Tr n p W)
    (_:SI n r wd c0 c1 c2 s d nn p W rv B w0 μ a w) (_:Back2 n B w0 μ rv Q j r wd c0 c1 c2 s d nn W),Code.rounds Tryz.prog la Q (j+kC n) a w
theorem cnt0:Cnt 0:=by
  intro B w0 μ rv Q j r wd c0 c1 c2 s d nn p W a w hb hM e1 e2 e3 e4 e5 e6 e7 e8 e9 e10 e11 hT s_ k
  have hk:kC 0=2:=rfl
  rw [hk]
  exact gocN (by omega) (by omega) (by omega) (by omega) (by omega) (by omega) (by omega) (by omega) (by omega) rfl hb s_ (fun a' w' q=>k 0 _ _ _ 0 a' w' (by omega) rfl (by omega) rfl q)
theorem ad_wI {W:Nat→BitVec 64} {q k p:Nat} (h:wI (W q)=((ad k p:Nat):Int)) (hp:p≤1000):0≤wI (W q)∧wI (W q)≤100000:=by
  have:=ad_bd k p hp
  omega
theorem cnt1 (n:Nat) (ih:Cnt n):Cnt (n+1):=by
  intro B w0 μ rv Q j r wd c0 c1 c2 s d nn p W a w hb hM e1 e2 e3 e4 e5 e6 e7 e8 e9 e10 e11 hT s_ k
  obtain ⟨t1,t2,t3,t4,t5⟩:=hT
  have hk:kC (n+1)=5+kC n+5+kC n+4:=rfl
  have hs:sz (n+1)=1+sz n+sz n:=rfl
  have b2:=ad_wI t2 (by omega)
  have b3:=ad_wI t3 (by omega)
  have hT3:wI (W (4*p))=3:=by rw [t1];rfl
  rw [show j+kC (n+1)=(j+4+kC n+5+kC n)+5 by omega]
  refine gocE (by omega) (by omega) (by omega) (by omega) (by omega) (by omega) (by omega) (by omega) (by omega) (by omega) hT3 b2.1 b2.2 hb s_ (fun a1 w1 q1=>?_)
  have fin:∀ (u2 r2 wd2 d2:Int) (rs2:Nat) (a4:Act) (w4:World),r2=r+5+kC n+5+kC n→wd2=wd+8→d2=c2+5+kC n+5+kC n→rs2=sz n→(ScB5 u2 r2 wd2 c0 c1 d2 s d nn p (sz n) rs2 W rv B w0 μ a4 w4∨ScB23 u2 r2 wd2 c0 c1 d2 s d nn p (sz n) rs2 W rv B w0 μ a4 w4)→Code.rounds Tryz.prog la Q (j+4) a4 w4:=by
    intro u2 r2 wd2 d2 rs2 a4 w4 x1 x2 x3 x4 x5
    have kk:∀ a' w',ScR23 ((8+4*p+1:Nat):Int) (r2+1+3) (wd2 - 8) c0 c1 (d2+1+3) s d nn (sz n+rs2+1) W rv B w0 μ a' w'→Code.rounds Tryz.prog la Q j a' w':=fun a' w' q=>k _ _ _ _ _ a' w' (by omega) (by omega) (by omega) (by omega) q
    have kM:∀ a' w',ScMB (r2+1) (wd2 - 8) c0 c1 (d2+1) s d nn p (sz n) rs2 W rv B w0 μ a' w'→Code.rounds Tryz.prog la Q (j+3) a' w':=fun a' w' q=>gocMB (by omega) (by omega) (by omega) (by omega) (by omega) (by omega) (by omega) (by omega) (by omega) (by omega) (by omega) hb q kk
    rcases x5 with x5 | x5
    · exact gocB5 (by omega) (by omega) (by omega) (by omega) (by omega) (by omega) (by omega) (by omega) (by omega) hb x5 kM
    · exact gocB23 (by omega) (by omega) (by omega) (by omega) (by omega) (by omega) (by omega) (by omega) (by omega) hb x5 kM
  have mid:∀ (u1 r1 wd1 b2_:Int) (rs1:Nat) (a3:Act) (w3:World),r1=r+5+kC n→wd1=wd+8→b2_=c2+5+kC n→rs1=sz n→(ScA5 u1 r1 wd1 c0 c1 b2_ s d nn p rs1 W rv B w0 μ a3 w3∨ScA23 u1 r1 wd1 c0 c1 b2_ s d nn p rs1 W rv B w0 μ a3 w3)→Code.rounds Tryz.prog la Q (j+4+kC n+5) a3 w3:=by
    intro u1 r1 wd1 b2_ rs1 a3 w3 x1 x2 x3 x4 x5
    have kk:∀ a' w',Sc2b (r1+1) (wd1 - 8) c0 c1 (b2_+1) s d nn p rs1 W rv B w0 μ a' w'→Code.rounds Tryz.prog la Q (j+4+kC n) a' w':=by
      intro a5 w5 q5
      cases n with
      | zero =>
        obtain ⟨rv2,E2,hid2,s2⟩:=hidcBN t3 hb q5
        have hb2:Base (B.also E2) μ 20000:=⟨hb.names,hb.res⟩
        refine ih (p:=p+1+sz 0) hb2 hM (by omega) (by omega) (by omega) (by omega) (by omega) (by omega) (by omega) (by omega) (by omega) (by omega) (by omega) t5 s2 ?_
        intro u2 r2 wd2 d2 rs2 a6 w6 y1 y2 y3 y4 q6
        exact fin u2 r2 wd2 d2 rs2 a6 w6 (by omega) (by omega) (by omega) (by omega) (.inl (by have h:=uncB5 hM hb hid2 q6;rw [x4] at h;exact h))
      | succ n =>
        obtain ⟨rv2,E2,hid2,s2⟩:=hidcB t3 hb q5
        have hb2:Base (B.also E2) μ 20000:=⟨hb.names,hb.res⟩
        refine ih hb2 hM (by omega) (by omega) (by omega) (by omega) (by omega) (by omega) (by omega) (by omega) (by omega) (by omega) (by omega) t5 s2 ?_
        intro u2 r2 wd2 d2 rs2 a6 w6 y1 y2 y3 y4 q6
        exact fin u2 r2 wd2 d2 rs2 a6 w6 (by omega) (by omega) (by omega) (by omega) (.inr (by have h:=uncB23 hM hb hid2 q6;rw [x4] at h;exact h))
    have kM:∀ a' w',ScMA (r1+1) (wd1 - 8) c0 c1 (b2_+1) s d nn p rs1 W rv B w0 μ a' w'→Code.rounds Tryz.prog la Q (j+4+kC n+4) a' w':=fun a' w' q=>gocMA (by omega) (by omega) (by omega) (by omega) (by omega) (by omega) (by omega) (by omega) (by omega) (by omega) hT3 b3.1 b3.2 (by omega) hb q kk
    rcases x5 with x5 | x5
    · exact gocA5 (by omega) (by omega) (by omega) (by omega) (by omega) (by omega) (by omega) (by omega) (by omega) hb x5 kM
    · exact gocA23 (by omega) (by omega) (by omega) (by omega) (by omega) (by omega) (by omega) (by omega) (by omega) hb x5 kM
  cases n with
  | zero =>
    obtain ⟨rv1,E1,hid1,s1⟩:=hidcAN t2 hb q1
    have hb1:Base (B.also E1) μ 20000:=⟨hb.names,hb.res⟩
    refine ih (p:=p+1) hb1 hM (by omega) (by omega) (by omega) (by omega) (by omega) (by omega) (by omega) (by omega) (by omega) (by omega) (by omega) t4 s1 ?_
    intro u1 r1 wd1 b2_ rs1 a2 w2 y1 y2 y3 y4 q2
    exact mid u1 r1 wd1 b2_ rs1 a2 w2 (by omega) (by omega) (by omega) y4 (.inl (uncA5 hM hb hid1 q2))
  | succ n =>
    obtain ⟨rv1,E1,hid1,s1⟩:=hidcA t2 hb q1
    have hb1:Base (B.also E1) μ 20000:=⟨hb.names,hb.res⟩
    refine ih hb1 hM (by omega) (by omega) (by omega) (by omega) (by omega) (by omega) (by omega) (by omega) (by omega) (by omega) (by omega) t4 s1 ?_
    intro u1 r1 wd1 b2_ rs1 a2 w2 y1 y2 y3 y4 q2
    exact mid u1 r1 wd1 b2_ rs1 a2 w2 (by omega) (by omega) (by omega) y4 (.inr (uncA23 hM hb hid1 q2))
theorem cnts_ok:∀ n:Nat,Cnt n
  | 0=>cnt0
  | n+1=>cnt1 n (cnts_ok n)
end Go.Proofs.YtnhgdcgeehcebaaGreatDoor.tt
