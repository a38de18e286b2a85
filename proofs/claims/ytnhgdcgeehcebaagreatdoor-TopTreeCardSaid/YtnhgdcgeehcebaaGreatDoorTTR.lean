/-
  A tree grows, whatever is beneath.
-/
import Derived.Test.YtnhgdcgeehcebaaGreatDoorTTH
import Derived.Test.YtnhgdcgeehcebaaGreatDoorTTB
import Derived.Test.YtnhgdcgeehcebaaGreatDoorTTA
import Derived.Test.YtnhgdcgeehcebaaGreatDoorTTC
import Derived.Test.YtnhgdcgeehcebaaGreatDoorTTD
import Derived.Test.YtnhgdcgeehcebaaGreatDoorXN3
import Derived.Test.YtnhgdcgeehcebaaGreatDoorTTM
import Derived.Test.YtnhgdcgeehcebaaGreatDoorProg
import Derived.KernelRfl
set_option linter.unusedSectionVars false
set_option linter.unusedVariables false
set_option maxRecDepth 1000000
set_option maxHeartbeats 0
namespace Go.Proofs.YtnhgdcgeehcebaaGreatDoor.tt
open Go.X Go.RowKit Go.Proofs.YtnhgdcgeehcebaaGreatDoor
def sz:Nat→Nat
  | 0=>0
  | k+1=>1+sz k+sz k
def kG:Nat→Nat
  | 0=>4
  | k+1=>16+kG k+8+kG k+3
def cG:Nat→Nat
  | 0=>4
  | k+1=>13+cG k+8+cG k+3
def iG:Nat→Nat
  | 0=>0
  | k+1=>3+iG k+iG k
def ad:Nat→Nat→Nat
  | 0,_=>0
  | _+1,p=>8+4*p+1
def gW:Nat→Nat→(Nat→BitVec 64)→Nat→BitVec 64
  | 0,_,W=>W
  | k+1,p,W=>setW (gW k (p+1+sz k) (setW (gW k (p+1) (setW W (4*p) 3#64)) (4*p+2) (BitVec.ofNat 64 (ad k (p+1))))) (4*p+3) (BitVec.ofNat 64 (ad k (p+1+sz k)))
def Zero (W:Nat→BitVec 64) (q:Nat):Prop:=∀ m,4*q≤m→W m=0#64
theorem gW_lo:∀ (k p:Nat) (W:Nat→BitVec 64) (m:Nat),m<4*p→gW k p W m=W m
  | 0,p,W,m,h=>rfl
  | k+1,p,W,m,h=>by
    unfold gW
    rw [setW_ne (by omega),gW_lo k _ _ m (by omega),setW_ne (by omega),gW_lo k _ _ m (by omega),setW_ne (by omega)]
theorem gW_zero:∀ (k p:Nat) (W:Nat→BitVec 64),Zero W p→Zero (gW k p W) (p+sz k)
  | 0,p,W,h=>h
  | k+1,p,W,h=>by
    have e:sz (k+1)=1+sz k+sz k:=rfl
    unfold gW
    have h1:Zero (setW W (4*p) 3#64) (p+1):=fun m hm=>by rw [setW_ne (by omega)];exact h m (by omega)
    have h2:=gW_zero k (p+1) _ h1
    have h3:Zero (setW (gW k (p+1) (setW W (4*p) 3#64)) (4*p+2) (BitVec.ofNat 64 (ad k (p+1)))) (p+1+sz k):=fun m hm=>by rw [setW_ne (by omega)];exact h2 m hm
    have h4:=gW_zero k (p+1+sz k) _ h3
    intro m hm
    rw [setW_ne (by omega)]
    exact h4 m (by omega)
theorem sz_bd:∀ k:Nat,k≤8→sz k≤255:=by decide
theorem kG_bd:∀ k:Nat,k≤8→kG k≤8000:=by decide
theorem cG_bd:∀ k:Nat,k≤8→cG k≤8000:=by decide
theorem iG_bd:∀ k:Nat,k≤8→iG k≤1000:=by decide
theorem ad_bd (k p:Nat) (h:p≤1000):ad k p≤100000:=by
  cases k with
  | zero=>exact Nat.zero_le _
  | succ k=>show 8+4*p+1≤_;omega
def Back (f:Bool) (n:Nat) (B:Kp) (w0:World) (μ:M) (rv:Nat→Value) (Q:Exit→Act→World→Prop) (j:Nat) (r wd c0 c1:Int) (s d nn:Nat) (W:Nat→BitVec 64):Prop :=
  ∀ (u r' wd' c0' c1':Int) (nn' rs:Nat) (W':Nat→BitVec 64) (a':Act) (w':World),r'=r+kG n→wd'=wd→c0'=c0+cG n→c1'=c1+iG n→nn'=nn+sz n→rs=ad n nn→W'=gW n nn W →
    (match f with | true=>SR37 u r' wd' c0' c1' s d nn' rs W' rv B w0 μ a' w' | false=>SR7 u r' wd' c0' c1' s d nn' rs W' rv B w0 μ a' w')→Code.rounds Tryz.prog la Q j a' w'
def Call (n:Nat):Prop:=∀ {B:Kp} {w0:World} {μ:M} {rv:Nat→Value} {Q:Exit→Act→World→Prop} {j:Nat} {v r wd c0 c1:Int} {s d nn:Nat} {W:Nat→BitVec 64} {a:Act} {w:World} (_:Base B μ 20000) (_:∃ l,μ 15191=some l) (_:v=n) (_:n≤8) (_:0≤r) (_:r+kG n+40≤100000) (_:0≤wd) (_:wd+9*n+20≤2048) (_:0≤c0) (_:c0+cG n+40≤200000) (_:0≤c1) (_:c1+iG n+40≤200000) (_:s+3*n≤9000) (_:d+n≤9000) (_:nn+sz n≤290) (_:Zero W nn)
    (_:SE v r wd c0 c1 s d nn W rv B w0 μ a w) (_:n=0→Back false n B w0 μ rv Q j r wd c0 c1 s d nn W) (_:1≤n→Back true n B w0 μ rv Q j r wd c0 c1 s d nn W),Code.rounds Tryz.prog la Q (j+kG n) a w
theorem call0:Call 0:=by
  intro B w0 μ rv Q j v r wd c0 c1 s d nn W a w hb hM e1 e2 e3 e4 e5 e6 e7 e8 e9 e10 e11 e12 e13 hZ s_ k0 k1
  have hk:kG 0=4:=rfl
  have hc:cG 0=4:=rfl
  have hs:sz 0=0:=rfl
  have hi:iG 0=0:=rfl
  rw [hk]
  exact goA (by omega) (by omega) (by omega) (by omega) (by omega) (by omega) (by omega) (by omega) (by omega) (by omega) (by omega) (by omega) (by omega) hb s_ (fun a' w' q=>k0 rfl v _ _ _ _ nn 0 W a' w' (by omega) rfl (by omega) (by omega) (by omega) rfl rfl q)
theorem fromF {B:Kp} {w0:World} {μ:M} {rv:Nat→Value} {Q:Exit→Act→World→Prop} {j:Nat} {v r wd c0 c1:Int} {s d p:Nat} {W:Nat→BitVec 64} {a:Act} {w:World} (n:Nat) (ih:Call n) (hb:Base B μ 20000) (hM:∃ l,μ 15191=some l) (e1:v=(n+1:Nat)) (e2:n+1≤8) (e3:0≤r) (e4:r+kG (n+1)+31≤100000) (e5:0≤wd) (e6:wd+9*(n+1)+20≤2048) (e7:0≤c0) (e8:c0+cG (n+1)+34≤200000) (e9:0≤c1) (e10:c1+iG (n+1)+37≤200000) (e11:s+3*(n+1)≤9000) (e12:d+(n+1)≤9000) (e13:p+sz (n+1)≤290) (hZ:Zero W (p+1)) (hW:W (4*p)=3#64)
    (s_:SF v r wd c0 c1 s d (p+1) p W rv B w0 μ a w)
    (k1:∀ (r' wd' c0' c1':Int) (nn':Nat) (W':Nat→BitVec 64) (a':Act) (w':World),r'+9=r+kG (n+1)→wd'=wd→c0'+6=c0+cG (n+1)→c1'+3=c1+iG (n+1)→nn'=p+sz (n+1)→W'=setW (gW n (p+1+sz n) (setW (gW n (p+1) W) (4*p+2) (BitVec.ofNat 64 (ad n (p+1))))) (4*p+3) (BitVec.ofNat 64 (ad n (p+1+sz n)))→SR37 v r' wd' c0' c1' s d nn' (8+4*p+1) W' rv B w0 μ a' w'→Code.rounds Tryz.prog la Q j a' w') :
    Code.rounds Tryz.prog la Q (j+3+kG n+8+kG n+7) a w:=by
  have hk:kG (n+1)=16+kG n+8+kG n+3:=rfl
  have hc:cG (n+1)=13+cG n+8+cG n+3:=rfl
  have hi:iG (n+1)=3+iG n+iG n:=rfl
  have hs:sz (n+1)=1+sz n+sz n:=rfl
  have ab1:=ad_bd n (p+1) (by omega)
  have ab2:=ad_bd n (p+1+sz n) (by omega)
  have z2:=gW_zero n (p+1) W hZ
  have l2:gW n (p+1) W (4*p)=3#64:=(gW_lo n (p+1) W (4*p) (by omega)).trans hW
  have z3:Zero (setW (gW n (p+1) W) (4*p+2) (BitVec.ofNat 64 (ad n (p+1)))) (p+1+sz n):=fun m hm=>by rw [setW_ne (by omega)];exact z2 m hm
  have l4:gW n (p+1+sz n) (setW (gW n (p+1) W) (4*p+2) (BitVec.ofNat 64 (ad n (p+1)))) (4*p)=3#64:=by
    rw [gW_lo n _ _ _ (by omega),setW_ne (by omega)];exact l2
  refine goF (by omega) (by omega) (by omega) (by omega) (by omega) (by omega) (by omega) (by omega) (by omega) (by omega) (by omega) (by omega) (by omega) (by omega) hb s_ (fun a1 w1 q1=>?_)
  obtain ⟨rv1,E1,hid1,s1⟩:=hideA hb q1
  have hb1:Base (B.also E1) μ 20000:=⟨hb.names,hb.res⟩
  have fin:∀ (u2 r2 wd2 d0 d1:Int) (nn2 rs2:Nat) (W4:Nat→BitVec 64) (a4:Act) (w4:World),r2=r+7+kG n+8+kG n→wd2=wd+9→d0=c0+7+cG n+8+cG n→d1=c1+iG n+iG n→nn2=p+1+sz n+sz n→rs2=ad n (p+1+sz n)→W4=gW n (p+1+sz n) (setW (gW n (p+1) W) (4*p+2) (BitVec.ofNat 64 (ad n (p+1))))→(SCB7 v u2 r2 wd2 d0 d1 s d nn2 p rs2 W4 rv B w0 μ a4 w4∨SCB37 v u2 r2 wd2 d0 d1 s d nn2 p rs2 W4 rv B w0 μ a4 w4)→Code.rounds Tryz.prog la Q (j+3) a4 w4:=by
    intro u2 r2 wd2 d0 d1 nn2 rs2 W4 a4 w4 x1 x2 x3 x4 x5 x6 x7 x8
    have hT:wI (W4 (4*p))=3:=by rw [x7,l4];rfl
    have hr:rs2≤100000:=by rw [x6];exact ab2
    have kk:∀ a' w',SR37 v (r2+1+2) (wd2 - 9) (d0+1+2) d1 s d nn2 (8+4*p+1) (setW W4 (4*p+3) (BitVec.ofNat 64 rs2)) rv B w0 μ a' w'→Code.rounds Tryz.prog la Q j a' w':=fun a' w' q=>k1 _ _ _ _ _ _ a' w' (by omega) (by omega) (by omega) (by omega) (by omega) (by rw [x7,x6]) q
    have kM:∀ a' w',SMB v (r2+1) (wd2 - 9) (d0+1) d1 s d nn2 p rs2 W4 rv B w0 μ a' w'→Code.rounds Tryz.prog la Q (j+2) a' w':=fun a' w' q=>goMB (by omega) (by omega) (by omega) (by omega) (by omega) (by omega) (by omega) (by omega) (by omega) (by omega) (by omega) (by omega) (by omega) (by omega) hT hr hb q kk
    rcases x8 with x8 | x8
    · exact goCb7 (by omega) (by omega) (by omega) (by omega) (by omega) (by omega) (by omega) (by omega) (by omega) (by omega) (by omega) hb x8 kM
    · exact goCb37 (by omega) (by omega) (by omega) (by omega) (by omega) (by omega) (by omega) (by omega) (by omega) (by omega) (by omega) hb x8 kM
  have mid:∀ (u1 r1 wd1 b0 b1:Int) (nn1 rs1:Nat) (W2:Nat→BitVec 64) (a3:Act) (w3:World),r1=r+7+kG n→wd1=wd+9→b0=c0+7+cG n→b1=c1+iG n→nn1=p+1+sz n→rs1=ad n (p+1)→W2=gW n (p+1) W→(SCA7 v u1 r1 wd1 b0 b1 s d nn1 p rs1 W2 rv B w0 μ a3 w3∨SCA37 v u1 r1 wd1 b0 b1 s d nn1 p rs1 W2 rv B w0 μ a3 w3)→Code.rounds Tryz.prog la Q (j+3+kG n+8) a3 w3:=by
    intro u1 r1 wd1 b0 b1 nn1 rs1 W2 a3 w3 x1 x2 x3 x4 x5 x6 x7 x8
    have hT:wI (W2 (4*p))=3:=by rw [x7,l2];rfl
    have hr:rs1≤100000:=by rw [x6];exact ab1
    have kk:∀ a' w',SE2b v (r1+1) (wd1 - 9) (b0+1) b1 s d nn1 p (setW W2 (4*p+2) (BitVec.ofNat 64 rs1)) rv B w0 μ a' w'→Code.rounds Tryz.prog la Q (j+3+kG n) a' w':=by
      intro a5 w5 q5
      obtain ⟨rv2,E2,hid2,s2⟩:=hideB hb q5
      have hb2:Base (B.also E2) μ 20000:=⟨hb.names,hb.res⟩
      have hZ3:Zero (setW W2 (4*p+2) (BitVec.ofNat 64 rs1)) nn1:=by rw [x7,x6,x5];exact z3
      refine ih hb2 hM (by omega) (by omega) (by omega) (by omega) (by omega) (by omega) (by omega) (by omega) (by omega) (by omega) (by omega) (by omega) (by omega) hZ3 s2 (fun h0=>?_) (fun h0=>?_)
      · intro u2 r2 wd2 d0 d1 nn2 rs2 W4 a6 w6 y1 y2 y3 y4 y5 y6 y7 q6
        exact fin u2 r2 wd2 d0 d1 nn2 rs2 W4 a6 w6 (by omega) (by omega) (by omega) (by omega) (by omega) (by rw [y6,x5]) (by rw [y7,x7,x6,x5]) (.inl (unB7 hM hb hid2 q6))
      · intro u2 r2 wd2 d0 d1 nn2 rs2 W4 a6 w6 y1 y2 y3 y4 y5 y6 y7 q6
        exact fin u2 r2 wd2 d0 d1 nn2 rs2 W4 a6 w6 (by omega) (by omega) (by omega) (by omega) (by omega) (by rw [y6,x5]) (by rw [y7,x7,x6,x5]) (.inr (unB37 hM hb hid2 q6))
    have kM:∀ a' w',SMA v (r1+1) (wd1 - 9) (b0+1) b1 s d nn1 p rs1 W2 rv B w0 μ a' w'→Code.rounds Tryz.prog la Q (j+3+kG n+7) a' w':=fun a' w' q=>goMA (by omega) (by omega) (by omega) (by omega) (by omega) (by omega) (by omega) (by omega) (by omega) (by omega) (by omega) (by omega) (by omega) (by omega) hT hr hb q kk
    rcases x8 with x8 | x8
    · exact goCa7 (by omega) (by omega) (by omega) (by omega) (by omega) (by omega) (by omega) (by omega) (by omega) (by omega) (by omega) hb x8 kM
    · exact goCa37 (by omega) (by omega) (by omega) (by omega) (by omega) (by omega) (by omega) (by omega) (by omega) (by omega) (by omega) hb x8 kM
  refine ih hb1 hM (by omega) (by omega) (by omega) (by omega) (by omega) (by omega) (by omega) (by omega) (by omega) (by omega) (by omega) (by omega) (by omega) hZ s1 (fun h0=>?_) (fun h0=>?_)
  · intro u1 r1 wd1 b0 b1 nn1 rs1 W2 a2 w2 y1 y2 y3 y4 y5 y6 y7 q2
    exact mid u1 r1 wd1 b0 b1 nn1 rs1 W2 a2 w2 (by omega) (by omega) (by omega) (by omega) (by omega) y6 y7 (.inl (unA7 hM hb hid1 q2))
  · intro u1 r1 wd1 b0 b1 nn1 rs1 W2 a2 w2 y1 y2 y3 y4 y5 y6 y7 q2
    exact mid u1 r1 wd1 b0 b1 nn1 rs1 W2 a2 w2 (by omega) (by omega) (by omega) (by omega) (by omega) y6 y7 (.inr (unA37 hM hb hid1 q2))
theorem call1 (n:Nat) (ih:Call n):Call (n+1):=by
  intro B w0 μ rv Q j v r wd c0 c1 s d nn W a w hb hM e1 e2 e3 e4 e5 e6 e7 e8 e9 e10 e11 e12 e13 hZ s_ k0 k1
  have hk:kG (n+1)=16+kG n+8+kG n+3:=rfl
  have hc:cG (n+1)=13+cG n+8+cG n+3:=rfl
  have hi:iG (n+1)=3+iG n+iG n:=rfl
  have hs:sz (n+1)=1+sz n+sz n:=rfl
  rw [show j+kG (n+1)=(j+3+kG n+8+kG n+7)+9 by omega]
  refine goB (by omega) (by omega) (by omega) (by omega) (by omega) (by omega) (by omega) (by omega) (by omega) (by omega) (by omega) (by omega) (by omega) hZ hb s_ (fun a1 w1 q1=>?_)
  refine fromF n ih hb hM e1 e2 (by omega) (by omega) (by omega) (by omega) (by omega) (by omega) (by omega) (by omega) (by omega) (by omega) (by omega) (fun m hm=>by rw [setW_ne (by omega)];exact hZ m (by omega)) setW_eq q1 ?_
  intro r' wd' c0' c1' nn' W' a' w' x1 x2 x3 x4 x5 x6 q
  exact k1 (by omega) v r' wd' c0' c1' nn' _ W' a' w' (by omega) x2 (by omega) (by omega) x5 rfl x6 q
theorem calls_ok:∀ n:Nat,Call n
  | 0=>call0
  | n+1=>call1 n (calls_ok n)
end Go.Proofs.YtnhgdcgeehcebaaGreatDoor.tt
