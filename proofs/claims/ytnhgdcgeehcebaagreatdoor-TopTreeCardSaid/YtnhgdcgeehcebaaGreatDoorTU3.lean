/-
  The whole run of the machine within the law TopTree.
-/
import Derived.Test.YtnhgdcgeehcebaaGreatDoorTU1
import Derived.Test.YtnhgdcgeehcebaaGreatDoorTU2
import Derived.Test.YtnhgdcgeehcebaaGreatDoorXN3
import Derived.Test.YtnhgdcgeehcebaaGreatDoorTTM
import Derived.Test.YtnhgdcgeehcebaaGreatDoorProg
import Derived.KernelRfl
set_option linter.unusedSectionVars false
set_option linter.unusedVariables false
set_option maxRecDepth 1000000
set_option maxHeartbeats 0
namespace Go.Proofs.YtnhgdcgeehcebaaGreatDoor.tt
open Go.X Go.RowKit Go.Proofs.YtnhgdcgeehcebaaGreatDoor
section
variable {B:Kp} {w0:World} {μ:M} {a:Act} {w:World}
theorem runS {rv:Nat→Value} {Q:Exit→Act→World→Prop} {j:Nat} {v:Int} (n:Nat) (hn:n+1≤8) (hb:Base B μ 20000) (hM:∃ l,μ 15191=some l) (hv:v=((n+1:Nat):Int))
    (s_:SB v rv B w0 μ a w)
    (kD:∀ (r' wd' c0' c1' c2':Int) (nn' rs':Nat) (W':Nat→BitVec 64) (a':Act) (w':World),r'=7+kG (n+1)+kC (n+1)→wd'=6→0≤c0'→c0'≤100000→0≤c1'→c1'≤100000→0≤c2'→c2'≤100000→nn'=sz (n+1)→rs'=sz (n+1)→SDs v r' wd' c0' c1' c2' nn' rs' W' rv B w0 μ a' w'→Code.rounds Tryz.prog la Q j a' w') :
    Code.rounds Tryz.prog la Q (j+1+kC (n+1)+3+3+kG n+8+kG n+7+12) a w:=by
  have hk:kG (n+1)=16+kG n+8+kG n+3:=rfl
  have hs:sz (n+1)=1+sz n+sz n:=rfl
  have g1:=kG_bd (n+1) hn
  have g2:=cG_bd (n+1) hn
  have g3:=iG_bd (n+1) hn
  have g4:=sz_bd (n+1) hn
  have g5:=kC_bd (n+1) hn
  refine goS (by omega) (by omega) hb s_ (fun a1 w1 q1=>?_)
  obtain ⟨rv1,E1,hid1,s1⟩:=hideS hb q1
  have hb1:Base (B.also E1) μ 20000:=⟨hb.names,hb.res⟩
  refine fromF (v:=v) (r:=12) (wd:=15) (c0:=7) (c1:=3) (s:=0+1) (d:=0+1) (p:=0) (W:=setW (fun _=>0#64) 0 3#64) n (calls_ok n) hb1 hM hv hn (by omega) (by omega) (by omega) (by omega) (by omega) (by omega) (by omega) (by omega) (by omega) (by omega) (by omega) (fun m hm=>setW_ne (by omega)) rfl s1 ?_
  intro r1 wd1 c0 c1 nn1 W1 a2 w2 x1 x2 x3 x4 x5 x6 q2
  have hT:Tr (n+1) 0 W1:=by rw [x6];exact gW_tr (n+1) 0 (fun _=>0#64) (by omega)
  refine goG (by omega) (by omega) (by omega) (by omega) (by omega) (by omega) (by omega) (by omega) (by omega) (by omega) hb (unS hM hb hid1 q2) (fun a3 w3 q3=>?_)
  obtain ⟨rv2,E2,hid2,s2⟩:=hideG rfl hb q3
  have hb2:Base (B.also E2) μ 20000:=⟨hb.names,hb.res⟩
  refine cnts_ok (n+1) hb2 hM hn (by omega) (by omega) (by omega) (by omega) (by omega) (by omega) (by omega) (by omega) (by omega) (by omega) hT s2 ?_
  intro u r' wd' c2' rs a4 w4 y1 y2 y3 y4 q4
  exact goC (by omega) (by omega) (by omega) (by omega) (by omega) (by omega) (by omega) (by omega) hb (unG hM hb hid2 q4) (fun a5 w5 q5=>kD _ _ _ _ _ _ _ _ a5 w5 (by omega) (by omega) (by omega) (by omega) (by omega) (by omega) (by omega) (by omega) (by omega) y4 q5)
end
end Go.Proofs.YtnhgdcgeehcebaaGreatDoor.tt
