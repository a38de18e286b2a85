/-
  Rows and their proofs, segments, what is set aside and taken back: told shortly.
-/
import Derived.Test.YtnhgdcgeehcebaaGreatDoorXN3
import Derived.Test.YtnhgdcgeehcebaaGreatDoorProg
import Derived.KernelRfl
set_option linter.unusedSectionVars false
set_option linter.unusedVariables false
set_option maxRecDepth 1000000
set_option maxHeartbeats 0
namespace Go.Proofs.YtnhgdcgeehcebaaGreatDoor.tt
open Go.X Go.RowKit Go.Proofs.YtnhgdcgeehcebaaGreatDoor
theorem mixed:Tryz.prog.follows .mixedOrders=true:=by kernel_rfl
theorem vw_none {L:List AV} {k:Nat} {x:AV} {p:Prop} (h:L.length≤k) (e:L[k]? = some x):p:=by rw [List.getElem?_eq_none h] at e;cases e
section
variable {iv:Nat→IntKind×Int} {vv:Nat→Nat→Option AV} {vk:Nat→Nat}
theorem eA {x y z:AV} {l:List BRow} {a b c:Int} (k:∀ r∈l,IbOk iv r) (hx:denI iv x=some (.i64,a):=by exact rfl) (hy:denI iv y=some (.i64,b):=by exact rfl) (hz:denI iv z=some (.i64,c):=by exact rfl) (h:a+b=c:=by first | assumption | omega) (h1 : -9223372036854775808≤c:=by omega) (h2:c≤9223372036854775807:=by omega):∀ q∈(0,x,y,z)::l,IbOk iv q:=by
  letI:=Tab.empty
  exact ibCons (ibAdd hx hy hz h h1 h2) k
theorem eS {x y z:AV} {l:List BRow} {a b c:Int} (k:∀ r∈l,IbOk iv r) (hx:denI iv x=some (.i64,a):=by exact rfl) (hy:denI iv y=some (.i64,b):=by exact rfl) (hz:denI iv z=some (.i64,c):=by exact rfl) (h:a - b=c:=by first | assumption | omega) (h1 : -9223372036854775808≤c:=by omega) (h2:c≤9223372036854775807:=by omega):∀ q∈(1,x,y,z)::l,IbOk iv q:=by
  letI:=Tab.empty
  exact ibCons (ibSub hx hy hz h h1 h2) k
theorem eL {x y:AV} {l:List BRow} {a b:Int} {t:Bool} (k:∀ r∈l,IbOk iv r) (hx:denI iv x=some (.i64,a):=by exact rfl) (hy:denI iv y=some (.i64,b):=by exact rfl) (h:decide (a<b)=t:=by first | exact decide_eq_true (by omega) | exact decide_eq_false (by omega)):∀ q∈(11,x,y,.bool t)::l,IbOk iv q:=ibCons (ibLt hx hy h) k
theorem eK {x y:AV} {l:List BRow} {a b:Int} {t:Bool} (k:∀ r∈l,IbOk iv r) (hx:denI iv x=some (.i64,a):=by exact rfl) (hy:denI iv y=some (.i64,b):=by exact rfl) (h:decide (a≤b)=t:=by first | exact decide_eq_true (by omega) | exact decide_eq_false (by omega)):∀ q∈(12,x,y,.bool t)::l,IbOk iv q:=ibCons (ibLe hx hy h) k
theorem eG {x y:AV} {l:List BRow} {a b:Int} {t:Bool} (k:∀ r∈l,IbOk iv r) (hx:denI iv x=some (.i64,a):=by exact rfl) (hy:denI iv y=some (.i64,b):=by exact rfl) (h:decide (a>b)=t:=by first | exact decide_eq_true (by omega) | exact decide_eq_false (by omega)):∀ q∈(13,x,y,.bool t)::l,IbOk iv q:=ibCons (ibGt hx hy h) k
theorem eH {x y:AV} {l:List BRow} {a b:Int} {t:Bool} (k:∀ r∈l,IbOk iv r) (hx:denI iv x=some (.i64,a):=by exact rfl) (hy:denI iv y=some (.i64,b):=by exact rfl) (h:decide (a≥b)=t:=by first | exact decide_eq_true (by omega) | exact decide_eq_false (by omega)):∀ q∈(14,x,y,.bool t)::l,IbOk iv q:=ibCons (ibGe hx hy h) k
theorem eE {x y:AV} {l:List BRow} {a b:Int} {t:Bool} (k:∀ r∈l,IbOk iv r) (hx:denI iv x=some (.i64,a):=by exact rfl) (hy:denI iv y=some (.i64,b):=by exact rfl) (h:decide (a=b)=t:=by first | exact decide_eq_true (by omega) | exact decide_eq_false (by omega)):∀ q∈(9,x,y,.bool t)::l,IbOk iv q:=ibCons (ibEq hx hy h) k
theorem lQ {i k z f n b c:Nat} {ll L:List AV} {l:List VL} (o:Nat) (t:∀ r∈l,VlOk iv vv r) (hk:iv k=(.i64,(n:Int)):=by exact rfl) (hv:vv i=pv b c L:=by exact rfl) (ho:n*z+f=b+o:=by omega) (hl:ll=(L.drop o).take ll.length:=by exact rfl):∀ r∈(⟨i,k,z,f,ll⟩:VL)::l,VlOk iv vv r:=allCons (vlP (o:=o) hk hv ho hl) t
theorem sQ {i k z f i' n b c:Nat} {ll L L':List AV} {l:List VS} (o:Nat) (t:∀ r∈l,VsOk iv vv vk r) (hk:iv k=(.i64,(n:Int)):=by exact rfl) (hv:vv i=pv b c L:=by exact rfl) (hv':vv i'=pv b c L':=by exact rfl) (h1:vk i=pk b L:=by exact rfl) (h2:vk i'=pk b L':=by exact rfl) (ho:n*z+f=b+o:=by omega) (hL:L'=L.take o++(ll++L.drop (o+ll.length)):=by exact rfl) (hlen:o+ll.length≤L.length:=by decide):∀ r∈(⟨i,k,z,f,ll,i'⟩:VS)::l,VsOk iv vv vk r:=allCons (vsP (o:=o) hk hv hv' h1 h2 ho hL hlen) t
theorem aQ {i j z i' j' n n' b c:Nat} {src L L':List AV} {l:List VA} (o m:Nat) (t:∀ r∈l,VaOk iv vv vk r) (hj:iv j=(.i64,(n:Int)):=by exact rfl) (hj':iv j'=(.i64,(n':Int)):=by exact rfl) (hv:vv i=pv b c L:=by exact rfl) (hv':vv i'=pv b c L':=by exact rfl) (h2:vk i'=pk b L':=by exact rfl) (ho:n*z=b+o:=by omega) (ho':n'*z=b+o+m:=by omega) (hm:src.length=m:=by exact rfl) (hL:L'=L.take o++src:=by exact rfl) (hlen:o≤L.length:=by decide) (hlim:n'<1000000:=by omega):∀ r∈(⟨i,j,z,src,i',j'⟩:VA)::l,VaOk iv vv vk r:=allCons (vaP (o:=o) hj hj' hv hv' h2 ho (by rw [hm];exact ho') hL hlen hlim) t
end
section
variable {T T':Tab}
theorem nN {i j:Nat} {q:IntKind×Int} {l:IP} (k:IpOk T T' l) (h1:T.iv i=q:=by exact rfl) (h2:T'.iv j=q:=by exact rfl):IpOk T T' ((.oi i,j)::l):=ipCons (ipN q h1 h2) k
theorem nO {i j:Nat} {a b:Int} {q:IntKind} {l:IP} (k:IpOk T T' l) (h1:T.iv i=(q,a):=by exact rfl) (h2:T'.iv j=(q,b):=by exact rfl) (e:b=a:=by omega):IpOk T T' ((.oi i,j)::l):=ipCons (ipN (q,a) h1 (by rw [h2,e])) k
variable {C:Cv} {l:VP} {x i i' n n':Nat} {L L':List AV}
theorem pQ {b c:Nat} (hip:IpOk T T' C.ip) (k:VpOk T T' C l) (h1:T.vv i=pv b c L:=by exact rfl) (h2:T'.vv i'=pv b c L':=by exact rfl) (hr:T.rv=T'.rv:=by exact rfl) (hk:T'.vk i'≤T.vk i:=by exact Nat.add_le_add_left (by decide) _) (hl:cvL C L L'=true:=by kernel_rfl):VpOk T T' C ((x,.vec i,i')::l):=vpCons (vpPre hip h1 h2 hr hk hl) k
theorem wQ {W:Nat→BitVec 64} {m:Nat} (hip:IpOk T T' C.ip) (h1:T.vv i=pvw L n W) (h2:T'.vv i'=pvw L' n' W) (g1:T.vk i=n) (g2:T'.vk i'=n') (hn:n'≤n) (e1:L.length=m) (e2:L'.length=m) (hm:m≤n) (hl:cvL C L (L'.take L.length)=true):own (.vec i)=true∧∀ μ l w,@brel T μ (.vec i) l w→@brel T' (ren C.N0 C.rn μ) (.vec i') l w :=
  vpW hip h1 h2 (by rw [g1,g2];exact hn) hn (by rw [e1,e2];exact Nat.le_refl _) (by rw [e2];exact hm) hl (fun q x h=>vw_none (by rw [e1,e2];exact Nat.le_add_right _ _) h) (fun q _=>congrArg W (by rw [e1,e2];omega))
theorem wN {F:Nat→Int} {m:Nat} (hip:IpOk T T' C.ip) (h1:T.vv i=pvn L n F) (h2:T'.vv i'=pvn L' n' F) (g1:T.vk i=n) (g2:T'.vk i'=n') (hn:n'≤n) (e1:L.length=m) (e2:L'.length=m) (hm:m≤n) (hl:cvL C L (L'.take L.length)=true):own (.vec i)=true∧∀ μ l w,@brel T μ (.vec i) l w→@brel T' (ren C.N0 C.rn μ) (.vec i') l w :=
  vpN hip h1 h2 (by rw [g1,g2];exact hn) hn (by rw [e1,e2];exact Nat.le_refl _) (by rw [e2];exact hm) hl (fun q x h=>vw_none (by rw [e1,e2];exact Nat.le_add_right _ _) h) (fun q _=>congrArg F (by rw [e1,e2];omega))
theorem pW {W:Nat→BitVec 64} (m:Nat) (hip:IpOk T T' C.ip) (k:VpOk T T' C l) (h1:T.vv i=pvw L n W:=by exact rfl) (h2:T'.vv i'=pvw L' n' W:=by exact rfl) (g1:T.vk i=n:=by exact rfl) (g2:T'.vk i'=n':=by exact rfl) (hn:n'≤n:=by omega) (e1:L.length=m:=by exact rfl) (e2:L'.length=m:=by exact rfl) (hm:m≤n:=by omega) (hl:cvL C L (L'.take L.length)=true:=by kernel_rfl):VpOk T T' C ((x,.vec i,i')::l):=vpCons (wQ hip h1 h2 g1 g2 hn e1 e2 hm hl) k
theorem pN {F:Nat→Int} (m:Nat) (hip:IpOk T T' C.ip) (k:VpOk T T' C l) (h1:T.vv i=pvn L n F:=by exact rfl) (h2:T'.vv i'=pvn L' n' F:=by exact rfl) (g1:T.vk i=n:=by exact rfl) (g2:T'.vk i'=n':=by exact rfl) (hn:n'≤n:=by omega) (e1:L.length=m:=by exact rfl) (e2:L'.length=m:=by exact rfl) (hm:m≤n:=by omega) (hl:cvL C L (L'.take L.length)=true:=by kernel_rfl):VpOk T T' C ((x,.vec i,i')::l):=vpCons (wN hip h1 h2 g1 g2 hn e1 e2 hm hl) k
abbrev Told (T T':Tab) (C:Cv) (μ:M) (w:World) (l:VP):Prop:=∀ p∈l,own p.2.1=true∧∀ q,μ p.1=some q→@brel T μ p.2.1 q w→@brel T' (ren C.N0 C.rn μ) (.vec p.2.2) q w
variable {μ:M} {w:World}
theorem tW {W:Nat→BitVec 64} (m:Nat) (hip:IpOk T T' C.ip) (k:Told T T' C μ w l) (h1:T.vv i=pvw L n W:=by exact rfl) (h2:T'.vv i'=pvw L' n' W:=by exact rfl) (g1:T.vk i=n:=by exact rfl) (g2:T'.vk i'=n':=by exact rfl) (hn:n'≤n:=by omega) (e1:L.length=m:=by exact rfl) (e2:L'.length=m:=by exact rfl) (hm:m≤n:=by omega) (hl:cvL C L (L'.take L.length)=true:=by kernel_rfl):Told T T' C μ w ((x,.vec i,i')::l):=allCons ⟨rfl,fun q hq hb=>(wQ hip h1 h2 g1 g2 hn e1 e2 hm hl).2 _ q w hb⟩ k
theorem tN {F:Nat→Int} (m:Nat) (hip:IpOk T T' C.ip) (k:Told T T' C μ w l) (h1:T.vv i=pvn L n F:=by exact rfl) (h2:T'.vv i'=pvn L' n' F:=by exact rfl) (g1:T.vk i=n:=by exact rfl) (g2:T'.vk i'=n':=by exact rfl) (hn:n'≤n:=by omega) (e1:L.length=m:=by exact rfl) (e2:L'.length=m:=by exact rfl) (hm:m≤n:=by omega) (hl:cvL C L (L'.take L.length)=true:=by kernel_rfl):Told T T' C μ w ((x,.vec i,i')::l):=allCons ⟨rfl,fun q hq hb=>(wN hip h1 h2 g1 g2 hn e1 e2 hm hl).2 _ q w hb⟩ k
theorem tQ {b b':Nat} {LL:Nat→X.Loc} {l0:X.Loc} (c n:Nat) (hip:IpOk T T' C.ip) (m0:μ x=some l0) (hr:T'.rv=snap w LL) (hl:LL c=l0) (k:Told T T' C μ w l) (hc:c<4:=by decide) (h1:T.vv i=pv b c L:=by exact rfl) (h2:T'.vv i'=pv b' c L':=by exact rfl) (hn:(L.take n).length=n:=by exact rfl) (hb:b'=b+n:=by omega) (one:∀ x∈L.take n,x.one=true:=by decide) (hk:T'.vk i'≤T.vk i:=by exact Nat.le_refl _) (hcv:cvL C (L.drop n) L'=true:=by kernel_rfl):Told T T' C μ w ((x,.vec i,i')::l) :=
  allCons ⟨rfl,fun q hq hb_=>by
    rw [m0] at hq;cases hq
    exact vec_hide (L1:=L.take n) (L2:=L.drop n) (LL:=LL) hip hc (by rw [List.take_append_drop];exact h1) (by rw [hn,← hb];exact h2) one hr hl hk hcv hb_⟩ k
theorem uQ {T0:Tab} {b b1 c:Nat} {LL:Nat→X.Loc} {L0:List AV} {ip2:IP} {μ0:M} {w0:World} (n:Nat) (q:(∀ m,m<b→snap w0 LL (4*m+c)=T0.rv (4*m+c))∧∀ (m:Nat) (x:AV),L0[m]? = some x→@vrel T0 μ0 x (snap w0 LL (4*(b+m)+c))) (hrv:T.rv=snap w0 LL) (hip:IpOk T T' C.ip) (hip2:IpOk T0 T' ip2) (k:Told T T' C μ w l)
    (h1:T.vv i=pv b1 c L:=by exact rfl) (h2:T'.vv i'=pv b c L':=by exact rfl) (hb:b1=b+n:=by omega) (hn:(L'.take n).length=n:=by exact rfl) (e0:T0.rv=T'.rv:=by exact rfl) (hpl:(L'.take n).all plain=true:=by exact rfl) (hc0:cvL ⟨C.N0,C.N,ofPairs [],ip2⟩ L0 (L'.take n)=true:=by kernel_rfl) (hk:T'.vk i'≤T.vk i:=by exact Nat.le_refl _) (hcv:cvL C L (L'.drop n)=true:=by kernel_rfl):Told T T' C μ w ((x,.vec i,i')::l) :=
  allCons ⟨rfl,fun l hl hb_=>vec_unhide (L1':=L'.take n) (L2':=L'.drop n) hip (by rw [← hb];exact h1) (by rw [List.take_append_drop];exact h2) hn (fun m hm=>by rw [hrv,← e0];exact q.1 m hm) (fun m x hx=>by
    rw [hrv]
    obtain ⟨x0,k1,k2⟩:=cvL_get hc0 m x hx
    exact @vrel.plain T' _ _ x _ (List.all_eq_true.1 hpl x (List.mem_of_getElem? hx)) (cvV_sound (T:=T0) (T':=T') (C:=⟨C.N0,C.N,ofPairs [],ip2⟩) hip2 k2 (q.2 m x0 k1))) hk hcv hb_⟩ k
theorem uP {T0:Tab} {b b1 c xa xb oo:Nat} {LL:Nat→X.Loc} {L0 Lr:List AV} {μ0:M} {w0:World} {lf:X.Loc} (q:(∀ m,m<b→snap w0 LL (4*m+c)=T0.rv (4*m+c))∧∀ (m:Nat) (x:AV),L0[m]? = some x→@vrel T0 μ0 x (snap w0 LL (4*(b+m)+c))) (mf:μ0 xa=some lf) (hrv:T.rv=snap w0 LL) (hip:IpOk T T' C.ip) (k:Told T T' C μ w l) (hg:ren C.N0 C.rn μ xb=some lf)
    (h0:L0[0]? = some (.ptr xa oo):=by exact rfl) (h1:T.vv i=pv b1 c L:=by exact rfl) (h2:T'.vv i'=pv b c (.ptr xb oo::Lr):=by exact rfl) (hb:b1=b+1:=by omega) (e0:T0.rv=T'.rv:=by exact rfl) (hk:T'.vk i'≤T.vk i:=by exact Nat.le_refl _) (hcv:cvL C L Lr=true:=by kernel_rfl):Told T T' C μ w ((x,.vec i,i')::l) :=
  allCons ⟨rfl,fun l hl hb_=>vec_unhide (L1':=[.ptr xb oo]) (L2':=Lr) (n:=1) hip (by rw [← hb];exact h1) h2 rfl (fun m hm=>by rw [hrv,← e0];exact q.1 m hm) (fun m x hx=>by
    cases m with
    | succ m=>simp at hx
    | zero =>
      cases hx
      rw [hrv]
      have h5:=q.2 0 (.ptr xa oo) h0
      simp only [vrel] at h5 ⊢
      obtain ⟨l5,h6,h7⟩:=h5
      rw [mf] at h6;cases h6
      exact ⟨lf,hg,h7⟩) hk hcv hb_⟩ k
end
noncomputable def nmB (ps:List (Nat×Nat)) (x:Nat):Nat:=List.rec (motive:=fun _=>Nat) x (fun q _ ih=>Bool.rec ih q.2 (Nat.beq q.1 x)) ps
noncomputable def reB (ps:List (Nat×Nat)) (bs:BS):BS:=List.rec (motive:=fun _=>BS) [] (fun p _ ih=>(p.1,nmB ps p.1,p.2.2)::ih) bs
noncomputable def rlT (ps:List (Nat×Nat)) (bs:BS):List (Nat×Nat):=List.rec (motive:=fun _=>List (Nat×Nat)) [(20037,nmB ps 20037)] (fun p _ ih=>Bool.rec ((p.1,nmB ps p.1)::ih) ih (Nat.blt p.1 20000)) bs
theorem bsOf_reB (ps:List (Nat×Nat)):∀ bs:BS,bsOf (reB ps bs)=bsOf bs
  | []=>rfl
  | p::l=>congrArg (fun z=>(p.1,p.2.2)::z) (bsOf_reB ps l)
theorem hOf_congr {N:Nat} {a b:BS} (h:bsOf a=bsOf b):hOf N a=hOf N b:=by unfold hOf;rw [h]
theorem goT {iv:Nat→IntKind×Int} {vv:Nat→Nat→Option AV} {vk:Nat→Nat} {vvp:∀ i m a,vv i m=some a→vplain a=true} {rv:Nat→Value} {T':Tab} {B:Kp} {w0:World} {μ:M} {a:Act} {w:World} {nt:Nat} {fr:Fr} {h:H} {fs:List (Nat×AV)} {N:Nat} {bsd:BS} {c:Code} {Q:Exit→Act→World→Prop} {j:Nat}
    (hQ:∀ a' w',St T' B w0 μ nt (frOf fs) (hOf N bsd) a' w'→Code.rounds Tryz.prog c Q j a' w') (s:St ((bare iv vv vk vvp).rtab rv) B w0 μ nt fr h a w) (R:VRows iv vv vk) {N0:Nat} (hb:Base B μ N0) (ps:List (Nat×Nat)) (ip:IP) (hip:IpOk (R.rtab rv) T' ip) (vp:VP) (hvp:IpOk (R.rtab rv) T' ip→VpOk (R.rtab rv) T' ⟨N0,N,ofPairs (rlT ps bsd),ip⟩ vp) (K:Hand) (hK:@HandOk (R.rtab rv) Tryz.prog K) (k:Nat)
    (h0:N0≤N:=by decide) (hrk:okRn ⟨N0,N,ofPairs (rlT ps bsd),ip⟩ (rlT ps bsd)=true:=by kernel_rfl) (hgl:@Gl (R.rtab rv) B w0→@Gl T' B w0:=by exact glNone rfl rfl) (st:stepsTo (R.rtab rv) Tryz.prog K 5000 nt k c fr h .normal ⟨N0,N,ofPairs (rlT ps bsd),ip⟩ vp fs (reB ps bsd)=true:=by as_aux_lemma=>kernel_rfl):Code.rounds Tryz.prog c Q (j+k) a w :=
  stepsTo_sound (T:=R.rtab rv) (T':=T') (K:=K) (m:=5000) mixed hK (C:=⟨N0,N,ofPairs (rlT ps bsd),ip⟩) (ex := .normal) (rl:=rlT ps bsd) (vp:=vp) (fs:=fs) (bs:=reB ps bsd) hb h0 rfl hrk hip (hvp hip) hgl st (St.same (VRows.rsame _ _ _) s) (fun a' w' q=>hQ a' w' (by rw [← hOf_congr (bsOf_reB ps bsd)];exact q))
theorem hnT {T:Tab}:@HandOk T Tryz.prog Hand.none:=@HandOk.none T Tryz.prog
end Go.Proofs.YtnhgdcgeehcebaaGreatDoor.tt
