/-
  Beginning and end of the machine within the law TopTree.
-/
import Derived.Test.YtnhgdcgeehcebaaGreatDoorXN3
import Derived.Test.YtnhgdcgeehcebaaGreatDoorTTR
import Derived.Test.YtnhgdcgeehcebaaGreatDoorTTQ
import Derived.Test.YtnhgdcgeehcebaaGreatDoorTTM
import Derived.Test.YtnhgdcgeehcebaaGreatDoorProg
import Derived.KernelRfl
set_option linter.unusedVariables false
set_option linter.unusedSectionVars false
namespace Go.Proofs.YtnhgdcgeehcebaaGreatDoor.bs
open Go.X Go.RowKit
theorem hOf_get {N:Nat} {bs:BS} {x:Nat}:(hOf N bs).get x=(ofPairs (bsOf bs)).get x:=by unfold hOf;rw [fT_eq];rfl
theorem hOf_nx {N:Nat} {bs:BS}:(hOf N bs).next=N:=by unfold hOf;rw [fT_eq]
theorem swap {T:Tab} {B:Kp} {w0 w:World} {μ0:M} {nt:Nat} {fr:Fr} {a:Act} {N:Nat} {bs bs':BS}
    (hk:∀ x b',(hOf N bs').get x=some b'→∃ b,(hOf N bs).get x=some b∧own b=own b'∧∀ μ l w,@brel T μ b l w→@brel T μ b' l w) (s:St T B w0 μ0 nt fr (hOf N bs) a w):St T B w0 μ0 nt fr (hOf N bs') a w:=by
  obtain ⟨μ,hx,f,r⟩:=s
  refine ⟨μ,hx,f,⟨@HR.below T _ _ _ _ _ r,fun x hn=>?_,fun x hr=>?_,fun x b' hb=>?_,fun x y b' c' l k hx' hy hne ho ho2 hl hk'=>?_⟩⟩
  · rw [hOf_nx] at hn
    have h1:=@HR.fresh T _ _ _ _ _ r x (by rw [hOf_nx];exact hn)
    refine ⟨?_,h1.2⟩
    cases hg:(hOf N bs').get x with
    | none=>rfl
    | some b' =>
      obtain ⟨b,e,_⟩:=hk x b' hg
      rw [h1.1] at e;cases e
  · have:=@HR.res T _ _ _ _ _ r x hr
    rw [hOf_nx] at this ⊢;exact this
  · obtain ⟨b,e,o,k⟩:=hk x b' hb
    obtain ⟨l,g1,g2,g3,g4⟩:=@HR.blk T _ _ _ _ _ r x b e
    exact ⟨l,g1,fun ho=>g2 (o.trans ho),fun ho=>g3 (o.trans ho),k μ l w g4⟩
  · obtain ⟨b,e,o,_⟩:=hk x b' hx'
    obtain ⟨c,e2,o2,_⟩:=hk y c' hy
    exact @HR.sep T _ _ _ _ _ r x y b c l k e e2 hne (o.trans ho) (o2.trans ho2) hl hk'
theorem vec_some {T:Tab} {i n:Nat} {L:List AV} (hlen:L.length≤n) (h16:n<16000000) (hk:n≤T.vk i) (hv:∀ m x,L[m]? = some x→T.vv i m=some x) (μ:M) (l:X.Loc) (w:World) (h:@brel T μ (.vec i) l w):@brel T μ (.cells n true [] (X.T.ofList 0 .leaf L)) l w:=by
  obtain ⟨arr,el,fz,g1,g2,g3,g4,g5⟩:=h
  refine ⟨arr,el,fz,g1,g2,g3,Nat.le_trans (Nat.add_le_add_left hk _) g4,fun h=>(by cases h),fun m a hm ha=>?_⟩
  unfold cellOf at ha
  by_cases c:m<L.length
  · rw [X.T.get_ofList _ _ _ _ (by omega),if_pos ⟨Nat.zero_le _,by omega⟩,Nat.sub_zero] at ha
    cases hx:L[m]? with
    | none=>rw [List.getElem?_eq_none_iff] at hx;omega
    | some x =>
      rw [hx] at ha
      have ha:some x=some a:=ha
      rw [← Option.some.inj ha]
      exact g5 m x (hv m x hx)
  · rw [X.T.get_ofList _ _ _ _ (by omega),if_neg (by omega)] at ha
    simp [X.T.get] at ha
theorem vpWc {T T':Tab} {C:Cv} {i' n n':Nat} {q:Bool} {L L':List AV} {W':Nat→BitVec 64} (hip:IpOk T T' C.ip) (hn:n=L.length) (h2:T'.vv i'=pvw L' n' W') (hlen:L.length<16000000) (hk:T'.vk i'≤n) (hn':n'≤n) (hL:L'.length≤n) (hl:cvL C (L.take L'.length) L'=true) (hv:∀ (q:Nat) (a:AV),L[L'.length+q]? = some a→a=AV.int .u64 (wI (W' q))) :
    own (.cells n q [] (X.T.ofList 0 .leaf L))=true∧∀ μ l w,@brel T μ (.cells n q [] (X.T.ofList 0 .leaf L)) l w→@brel T' (ren C.N0 C.rn μ) (.vec i') l w:=by
  refine ⟨rfl,fun μ l w hb_=>?_⟩
  obtain ⟨arr,el,fz,g1,g2,g3,g4,_,g5⟩:=hb_
  refine ⟨arr,el,fz,g1,g2,g3,Nat.le_trans (Nat.add_le_add_left hk _) g4,fun m a ha=>?_⟩
  rw [h2] at ha
  rcases pvw_cases ha with ⟨c2,c3⟩ | ⟨q,rfl,c4,rfl⟩
  · obtain ⟨a0,k1,k2⟩:=cvL_get hl m a c3
    rw [List.getElem?_take,if_pos c2] at k1
    obtain ⟨v,k3,k4⟩:=g5 m a0 (by omega) (by
      unfold cellOf
      rw [X.T.get_ofList _ _ _ _ (by omega),if_pos ⟨Nat.zero_le _,by omega⟩,Nat.sub_zero,k1])
    exact ⟨v,k3,cvV_sound hip k2 k4⟩
  · have hq:L'.length+q<L.length:=by omega
    have hL2:=hv q _ (List.getElem?_eq_getElem hq)
    obtain ⟨v,k3,k4⟩:=g5 (L'.length+q) _ (by omega) (by
      unfold cellOf
      rw [X.T.get_ofList _ _ _ _ (by omega),if_pos ⟨Nat.zero_le _,by omega⟩,Nat.sub_zero,List.getElem?_eq_getElem hq])
    rw [hL2] at k4
    simp only [vrel] at k4
    subst k4
    refine ⟨_,k3,?_⟩
    simp only [vrel]
theorem vpNc {T T':Tab} {C:Cv} {i' n n':Nat} {q:Bool} {L L':List AV} {F':Nat→Int} (hip:IpOk T T' C.ip) (hn:n=L.length) (h2:T'.vv i'=pvn L' n' F') (hlen:L.length<16000000) (hk:T'.vk i'≤n) (hn':n'≤n) (hL:L'.length≤n) (hl:cvL C (L.take L'.length) L'=true) (hv:∀ (q:Nat) (a:AV),L[L'.length+q]? = some a→a=AV.int .i64 (F' q)) :
    own (.cells n q [] (X.T.ofList 0 .leaf L))=true∧∀ μ l w,@brel T μ (.cells n q [] (X.T.ofList 0 .leaf L)) l w→@brel T' (ren C.N0 C.rn μ) (.vec i') l w:=by
  refine ⟨rfl,fun μ l w hb_=>?_⟩
  obtain ⟨arr,el,fz,g1,g2,g3,g4,_,g5⟩:=hb_
  refine ⟨arr,el,fz,g1,g2,g3,Nat.le_trans (Nat.add_le_add_left hk _) g4,fun m a ha=>?_⟩
  rw [h2] at ha
  rcases pvn_cases ha with ⟨c2,c3⟩ | ⟨q,rfl,c4,rfl⟩
  · obtain ⟨a0,k1,k2⟩:=cvL_get hl m a c3
    rw [List.getElem?_take,if_pos c2] at k1
    obtain ⟨v,k3,k4⟩:=g5 m a0 (by omega) (by
      unfold cellOf
      rw [X.T.get_ofList _ _ _ _ (by omega),if_pos ⟨Nat.zero_le _,by omega⟩,Nat.sub_zero,k1])
    exact ⟨v,k3,cvV_sound hip k2 k4⟩
  · have hq:L'.length+q<L.length:=by omega
    have hL2:=hv q _ (List.getElem?_eq_getElem hq)
    obtain ⟨v,k3,k4⟩:=g5 (L'.length+q) _ (by omega) (by
      unfold cellOf
      rw [X.T.get_ofList _ _ _ _ (by omega),if_pos ⟨Nat.zero_le _,by omega⟩,Nat.sub_zero,List.getElem?_eq_getElem hq])
    rw [hL2] at k4
    simp only [vrel] at k4
    subst k4
    refine ⟨_,k3,?_⟩
    simp only [vrel]
theorem cells_set {T:Tab} {n:Nat} {q:Bool} {L1 L2:List AV} {x y:AV} (hl:(L1++x::L2).length<16000000) (hxy:∀ μ v,@vrel T μ x v→@vrel T μ y v) (hn:n=(L1++x::L2).length) (μ:M) (l:X.Loc) (w:World) (h:@brel T μ (.cells n q [] (X.T.ofList 0 .leaf (L1++x::L2))) l w):@brel T μ (.cells n q [] (X.T.ofList 0 .leaf (L1++y::L2))) l w:=by
  obtain ⟨arr,el,fz,g1,g2,g3,g4,g5,g6⟩:=h
  refine ⟨arr,el,fz,g1,g2,g3,g4,g5,fun m a hm ha=>?_⟩
  have hl2:(L1++y::L2).length<16000000:=by simpa using hl
  have hm2:m<(L1++y::L2).length:=by rw [hn] at hm;simpa using hm
  unfold cellOf at ha
  rw [X.T.get_ofList _ _ _ _ (by omega),if_pos ⟨Nat.zero_le _,by omega⟩,Nat.sub_zero] at ha
  have key:∀ b,(L1++x::L2)[m]? = some b→∃ v,arr[l.base+m]? = some v∧@vrel T μ b v:=fun b hb=>g6 m b hm (by
    unfold cellOf
    rw [X.T.get_ofList _ _ _ _ (by omega),if_pos ⟨Nat.zero_le _,by rw [hn] at hm;omega⟩,Nat.sub_zero,hb])
  cases hx:(L1++y::L2)[m]? with
  | none=>rw [List.getElem?_eq_none_iff] at hx;omega
  | some z =>
    rw [hx] at ha
    have ha:some z=some a:=ha
    rw [← Option.some.inj ha]
    by_cases c1:m<L1.length
    · rw [List.getElem?_append_left c1] at hx
      exact key z (by rw [List.getElem?_append_left c1];exact hx)
    · by_cases c2:m=L1.length
      · subst c2
        rw [List.getElem?_append_right (Nat.le_refl _),Nat.sub_self] at hx
        simp at hx
        subst hx
        obtain ⟨v,k1,k2⟩:=key x (by rw [List.getElem?_append_right (Nat.le_refl _),Nat.sub_self];rfl)
        exact ⟨v,k1,hxy _ _ k2⟩
      · obtain ⟨p,rfl⟩:∃ p,m=L1.length+(p+1):=⟨m - L1.length - 1,by omega⟩
        rw [List.getElem?_append_right (by omega),show L1.length+(p+1) - L1.length=p+1 by omega,List.getElem?_cons_succ] at hx
        exact key z (by rw [List.getElem?_append_right (by omega),show L1.length+(p+1) - L1.length=p+1 by omega,List.getElem?_cons_succ];exact hx)
theorem ov_so {T:Tab} {x j n z:Nat} (h:T.iv j=(.i64,(n:Int))) (μ:M) (v:Value) (hv:@vrel T μ (.ov x j z) v):@vrel T μ (.so x 0 n z) v:=by
  simp only [vrel] at hv ⊢
  rw [h] at hv
  obtain ⟨_,l,c,h1,h2,h3,h4⟩:=hv
  simp only [Int.toNat_natCast] at h2 h4
  exact ⟨l,c,h1,h2,h3,h4⟩
end Go.Proofs.YtnhgdcgeehcebaaGreatDoor.bs
set_option linter.unusedSectionVars false
set_option linter.unusedVariables false
set_option maxRecDepth 1000000
set_option maxHeartbeats 0
namespace Go.Proofs.YtnhgdcgeehcebaaGreatDoor.tt
open Go.X Go.RowKit Go.Proofs.YtnhgdcgeehcebaaGreatDoor
noncomputable abbrev ke63:Blk:=(.cells 6 false [] (T.ofList 0 .leaf y185))
noncomputable abbrev ke64:Blk:=(.cells 6 false [] (T.ofList 0 .leaf y186))
noncomputable abbrev fsB:List (Nat×AV):=[(0,.ptr 14333 0),(10,.ptr 17617 0)]
abbrev ivB (v:Int):Nat→IntKind×Int
  | 0=>(.i64,v)
  | 1=>(.i64,((4:Nat):Int))
  | 2=>(.i64,((2:Nat):Int))
  | _=>(.i64,0)
abbrev vvB (v:Int):Nat→Nat→Option AV
  | 0=>pv 0 0 [(.oi 0),(.oi 0),(.int .i64 0),(.int .i64 9)]
  | 1=>pv 0 1 y8
  | 2=>pv 0 2 y14
  | 3=>pv 0 3 [(.ptr 21126 0),(.ptr 21252 0)]
  | _=>fun _=>none
abbrev vkB (v:Int):Nat→Nat
  | 0=>pk 0 [(.oi 0),(.oi 0),(.int .i64 0),(.int .i64 9)]
  | 1=>pk 0 y8
  | 2=>pk 0 y14
  | 3=>pk 0 [(.ptr 21126 0),(.ptr 21252 0)]
  | _=>0
theorem vpB (v:Int):∀ i_ m_ a_,vvB v i_ m_=some a_→vplain a_=true
  | 0,_,_,h=>pv_plainB rfl h
  | 1,_,_,h=>pv_plainB rfl h
  | 2,_,_,h=>pv_plainB rfl h
  | 3,_,_,h=>pv_plainB rfl h
  | _+4,_,_,h=>(by cases h)
abbrev PB (v:Int) (rv:Nat→Value):Tab:=((bare (ivB v) (vvB v) (vkB v) (vpB v)).rtab rv)
noncomputable abbrev bsB:BS:=[(7728,7728,kb0),(7729,7729,kb1),(7730,7730,kb2),(10144,10144,kb3),(10156,10156,kb4),(10982,10982,(.map [((.str 19 2439265639030268300842157990401791553877467498),(.int .i64 0),0),((.str 28 12051447909911140811364177168575840195048631602135540194265359868266),(.int .i64 1),1),((.str 26 183890501555043540957095622503328518117729969598634276033028458),(.int .i64 2),2)] 3)),(10983,10983,(.cells 5 false [] (T.ofList 0 .leaf [(.ptr 7730 0),(.so 14551 0 8 1),(.so 14553 0 3 1),(.so 14550 0 3 3),(.map 10982)]))),(10985,10985,kb6),(10986,10986,(.map [((.str 1 77),(.int .i64 0),0)] 1)),(10987,10987,(.map [] 1)),(10988,10988,(.cells 3 false [] (T.ofList 0 .leaf [(.ptr 7730 0),(.map 10986),(.map 10987)]))),(10989,10989,kb7),(11703,11703,kb8),(14329,14329,(.cells 4 false [] (T.ofList 0 .leaf [(.so 21124 0 1 1),(.so 21125 0 1 1),(.so 21123 0 1 7),(.int .i64 6)]))),(14330,14330,(.map [((.str 1 77),(.ptr 21110 0),0),((.str 16 154706541852025644484233205990057992554),(.ptr 21115 0),1)] 2)),(14331,14331,(.map [((.str 1 77),(.int .i64 0),0)] 1)),(14332,14332,(.map [] 0)),(14333,14333,(.cells 32 false [] (T.ofList 0 .leaf [(.ptr 7730 0),(.ptr 10988 0),(.ptr 10983 0),(.ptr 10985 0),(.ptr 10989 0),(.ptr 14329 0),(.so 21128 0 1 1),(.map 14330),(.map 14331),.nils,(.int .i64 1),(.int .i64 3),(.int .i64 6),(.int .i64 0),.nilp,(.bool true),(.int .i64 100000),(.int .i64 0),(.int .i64 0),(.int .i64 0),(.int .i64 0),(.int .i64 0),(.int .u8 0),(.int .i64 0),(.str 0 0),(.str 0 0),(.bool false),(.int .i64 0),.nils,(.int .i64 0),(.int .i64 0),(.map 14332)]))),(14452,14452,(.cells 1 true [] (T.ofList 0 .leaf [(.int .u8 76)]))),(14548,14548,(.cells 1 true [] (T.ofList 0 .leaf [(.int .u8 76)]))),(14550,14550,(.cells 9 true [] (T.ofList 0 .leaf [(.str 19 2439265639030268300842157990401791553877467498),.nils,(.int .u8 0),(.str 28 12051447909911140811364177168575840195048631602135540194265359868266),(.so 14452 0 1 1),(.int .u8 0),(.str 26 183890501555043540957095622503328518117729969598634276033028458),(.so 14548 0 1 1),(.int .u8 0)]))),(14551,14551,(.cells 8 true [] (T.ofList 0 .leaf y0))),(14553,14553,(.cells 3 true [] (T.ofList 0 .leaf y1))),(14622,14622,kb11),(14624,14624,kb12),(14960,14960,kb13),(14980,14980,kb14),(15106,15106,kb15),(15191,15191,kb16),(15193,15193,kb17),(15940,15940,kb18),(16806,16806,kb19),(16859,16859,kb20),(17403,17403,kb21),(17446,17446,kb22),(17610,17610,kb23),(17617,17617,kb24),(21110,21110,(.cells 2 false [] (T.ofList 0 .leaf [(.int .i64 2),(.sl 21114 0 0 0)]))),(21115,21115,kb26),(21123,21123,(.cells 7 true [] (T.ofList 0 .leaf [(.int .i64 0),(.int .i64 2),(.int .i64 0),(.int .i64 0),(.int .i64 1),(.int .i64 1),(.int .i64 0)]))),(21124,21124,(.cells 1 true [] (T.ofList 0 .leaf [(.oi 0)]))),(21125,21125,(.cells 1 true [] (T.ofList 0 .leaf [(.bool false)]))),(21126,21126,(.cells 6 false [] (T.ofList 0 .leaf [(.int .i64 0),(.int .i64 0),(.ptr 15191 0),(.int .i64 2),(.int .i64 0),.nilp]))),(21128,21128,(.cells 1 true [] (T.ofList 0 .leaf [(.ptr 21126 0)])))]
def SB (v:Int) (rv:Nat→Value) (B:Kp) (w0:World) (μ:M) (a:Act) (w:World):Prop:=St (PB v rv) B w0 μ Tryz.f37.ntmps (frOf fsB) (hOf 21130 bsB) a w
abbrev ivS2 (v:Int):Nat→IntKind×Int
  | 0=>(.i64,((4:Nat):Int))
  | 1=>(.i64,((2:Nat):Int))
  | 2=>(.i64,v)
  | _=>(.i64,0)
abbrev vvS2 (v:Int):Nat→Nat→Option AV
  | 0=>pv 0 0 y18
  | 1=>pv 0 1 y8
  | 2=>pv 0 2 y14
  | 3=>pv 0 3 y4
  | _=>fun _=>none
abbrev vkS2 (v:Int):Nat→Nat
  | 0=>pk 0 y18
  | 1=>pk 0 y8
  | 2=>pk 0 y14
  | 3=>pk 0 y4
  | _=>0
theorem vpS2 (v:Int):∀ i_ m_ a_,vvS2 v i_ m_=some a_→vplain a_=true
  | 0,_,_,h=>pv_plainB rfl h
  | 1,_,_,h=>pv_plainB rfl h
  | 2,_,_,h=>pv_plainB rfl h
  | 3,_,_,h=>pv_plainB rfl h
  | _+4,_,_,h=>(by cases h)
abbrev PS2 (v:Int) (rv:Nat→Value):Tab:=((bare (ivS2 v) (vvS2 v) (vkS2 v) (vpS2 v)).rtab rv)
noncomputable abbrev bsS2:BS:=[(7728,7728,kb0),(7729,7729,kb1),(7730,7730,kb2),(10144,10144,kb3),(10156,10156,kb4),(10982,10982,kb5),(10983,10983,(.cells 5 false [] (T.ofList 0 .leaf [(.ptr 7730 0),(.so 20021 0 12 1),(.so 20022 0 4 1),(.so 20034 0 4 3),(.map 10982)]))),(10985,10985,kb6),(10989,10989,kb7),(11703,11703,kb8),(14329,14329,(.cells 4 false [] (T.ofList 0 .leaf [(.ov 20001 0 1),(.ov 20002 0 1),(.ov 20003 1 7),(.int .i64 15)]))),(14330,14330,kb9),(14331,14331,kb10),(14332,14332,(.map [((.str 9 1349587270641094438477),(.int .i64 2),0),((.str 13 4700550402495416491276214152781),(.int .i64 7),1),((.str 12 26665466772310684618039504468),(.int .i64 3),2)] 3)),(14333,14333,(.cells 32 false [] (T.ofList 0 .leaf [(.ptr 7730 0),(.ptr 10988 0),(.ptr 10983 0),(.ptr 10985 0),(.ptr 10989 0),(.ptr 14329 0),(.ov 20004 1 1),(.map 14330),(.map 14331),.nils,(.int .i64 1),(.int .i64 3),(.int .i64 6),(.int .i64 0),.nilp,(.bool true),(.int .i64 100000),(.int .i64 12),(.int .i64 0),(.int .i64 1),(.int .i64 0),(.int .i64 0),(.int .u8 0),(.int .i64 0),(.str 0 0),(.str 0 0),(.bool false),(.int .i64 0),.nils,(.int .i64 0),(.int .i64 0),(.map 14332)]))),(14452,14452,(.cells 1 true [] (T.ofList 0 .leaf [(.int .u8 76)]))),(14548,14548,(.cells 1 true [] (T.ofList 0 .leaf [(.int .u8 76)]))),(14622,14622,kb11),(14624,14624,kb12),(14960,14960,kb13),(14980,14980,kb14),(15106,15106,kb15),(15191,15191,kb16),(15193,15193,kb17),(15940,15940,kb18),(16806,16806,kb19),(16859,16859,kb20),(17403,17403,kb21),(17446,17446,kb22),(17610,17610,kb23),(20000,20000,kb24),(20001,20001,(.vec 0)),(20002,20002,(.vec 1)),(20003,20003,(.vec 2)),(20004,20004,(.vec 3)),(20005,20005,(.cells 6 false [] (T.ofList 0 .leaf y94))),(20006,20006,ke63),(20021,20021,(.cells 12 true [] (T.ofList 0 .leaf y48))),(20022,20022,(.cells 4 true [] (T.ofList 0 .leaf y49))),(20031,20031,kb27),(20032,20032,(.cells 2 false [(.int .i64 0)] .leaf)),(20033,20033,kb28),(20034,20034,kb29),(20035,20035,kb25),(20036,20036,kb26)]
def SS2 (v:Int) (rv:Nat→Value) (B:Kp) (w0:World) (μ:M) (a:Act) (w:World):Prop:=St (PS2 v rv) B w0 μ Tryz.f37.ntmps (frOf fsR) (hOf 20040 bsS2) a w
abbrev ivGs (xx u r wd c0 c1:Int) (nn rs:Nat) (W:Nat→BitVec 64):Nat→IntKind×Int
  | 0=>(.i64,xx)
  | 1=>(.i64,u)
  | 2=>(.i64,((rs:Nat):Int))
  | 3=>(.i64,r)
  | 4=>(.i64,wd)
  | 5=>(.i64,c0)
  | 6=>(.i64,c1)
  | 7=>(.i64,((0:Nat):Int))
  | 8=>(.i64,((0+1:Nat):Int))
  | 9=>(.i64,((8+4*nn:Nat):Int))
  | 10=>(.i64,((3+nn:Nat):Int))
  | 11=>(.i64,((0+4:Nat):Int))
  | 12=>(.i64,((0+2:Nat):Int))
  | 13=>(.i64,r+1)
  | 14=>(.i64,c0+1)
  | 15=>(.i64,((0+3:Nat):Int))
  | 16=>(.i64,wd - 9)
  | 17=>(.i64,r+2)
  | 18=>(.i64,2057 - wd)
  | 19=>(.i64,wd - 1)
  | 20=>(.i64,r+3)
  | _=>(.i64,0)
abbrev vvGs (xx u r wd c0 c1:Int) (nn rs:Nat) (W:Nat→BitVec 64):Nat→Nat→Option AV
  | 0=>pvw y0 (8+4*nn) W
  | 1=>pvn y1 (3+nn) stT
  | 2=>pv 0 0 [(.oi 0),(.oi 1),(.oi 2),(.oi 2)]
  | 3=>pv 0 1 y8
  | 4=>pv 0 2 y187
  | 5=>pv 0 3 y2
  | 6=>pv 0 2 y188
  | 7=>pv 0 2 y189
  | 8=>pv 0 2 y190
  | 9=>pv 0 0 [(.oi 0),(.oi 2)]
  | 10=>pv 0 1 [(.bool false),(.bool true)]
  | 11=>pv 0 2 y191
  | 12=>pv 0 2 y192
  | 13=>pv 0 2 y193
  | 14=>pv 0 0 [(.oi 0),(.int .i64 0)]
  | 15=>pv 0 1 y7
  | 16=>pv 0 3 [(.ptr 20040 0),(.ptr 20221 0)]
  | 17=>pv 0 2 y50
  | 18=>pv 0 0 [(.oi 0),(.oi 2),(.oi 2)]
  | 19=>pv 0 1 y3
  | _=>fun _=>none
abbrev vkGs (xx u r wd c0 c1:Int) (nn rs:Nat) (W:Nat→BitVec 64):Nat→Nat
  | 0=>8+4*nn
  | 1=>3+nn
  | 2=>pk 0 [(.oi 0),(.oi 1),(.oi 2),(.oi 2)]
  | 3=>pk 0 y8
  | 4=>pk 0 y187
  | 5=>pk 0 y2
  | 6=>pk 0 y188
  | 7=>pk 0 y189
  | 8=>pk 0 y190
  | 9=>pk 0 [(.oi 0),(.oi 2)]
  | 10=>pk 0 [(.bool false),(.bool true)]
  | 11=>pk 0 y191
  | 12=>pk 0 y192
  | 13=>pk 0 y193
  | 14=>pk 0 [(.oi 0),(.int .i64 0)]
  | 15=>pk 0 y7
  | 16=>pk 0 [(.ptr 20040 0),(.ptr 20221 0)]
  | 17=>pk 0 y50
  | 18=>pk 0 [(.oi 0),(.oi 2),(.oi 2)]
  | 19=>pk 0 y3
  | _=>0
theorem vpGs (xx u r wd c0 c1:Int) (nn rs:Nat) (W:Nat→BitVec 64):∀ i_ m_ a_,vvGs xx u r wd c0 c1 nn rs W i_ m_=some a_→vplain a_=true
  | 0,_,_,h=>pvw_plain rfl h
  | 1,_,_,h=>pvn_plain rfl h
  | 2,_,_,h=>pv_plainB rfl h
  | 3,_,_,h=>pv_plainB rfl h
  | 4,_,_,h=>pv_plainB rfl h
  | 5,_,_,h=>pv_plainB rfl h
  | 6,_,_,h=>pv_plainB rfl h
  | 7,_,_,h=>pv_plainB rfl h
  | 8,_,_,h=>pv_plainB rfl h
  | 9,_,_,h=>pv_plainB rfl h
  | 10,_,_,h=>pv_plainB rfl h
  | 11,_,_,h=>pv_plainB rfl h
  | 12,_,_,h=>pv_plainB rfl h
  | 13,_,_,h=>pv_plainB rfl h
  | 14,_,_,h=>pv_plainB rfl h
  | 15,_,_,h=>pv_plainB rfl h
  | 16,_,_,h=>pv_plainB rfl h
  | 17,_,_,h=>pv_plainB rfl h
  | 18,_,_,h=>pv_plainB rfl h
  | 19,_,_,h=>pv_plainB rfl h
  | _+20,_,_,h=>(by cases h)
abbrev PGs (xx u r wd c0 c1:Int) (nn rs:Nat) (W:Nat→BitVec 64) (rv:Nat→Value):Tab:=((bare (ivGs xx u r wd c0 c1 nn rs W) (vvGs xx u r wd c0 c1 nn rs W) (vkGs xx u r wd c0 c1 nn rs W) (vpGs xx u r wd c0 c1 nn rs W)).rtab rv)
noncomputable abbrev bsGs:BS:=[(7728,7728,kb0),(7729,7729,kb1),(7730,7730,kb2),(10144,10144,kb3),(10983,10983,(.cells 5 false [] (T.ofList 0 .leaf y165))),(10985,10985,kb6),(10989,10989,kb7),(14329,14329,kb38),(14330,14330,kb9),(14331,14331,kb10),(14332,14332,kb33),(14333,14333,kb39),(14452,14452,(.cells 1 true [] (T.ofList 0 .leaf [(.int .u8 76)]))),(14548,14548,(.cells 1 true [] (T.ofList 0 .leaf [(.int .u8 76)]))),(14622,14622,kb11),(14960,14960,kb13),(15191,15191,kb16),(15193,15193,kb17),(15940,15940,kb18),(16806,16806,kb19),(16859,16859,kb20),(17403,17403,kb21),(17446,17446,kb22),(17610,17610,kb23),(20000,20000,kb24),(20001,20001,(.vec 2)),(20002,20002,(.vec 3)),(20003,20003,(.vec 4)),(20004,20004,(.vec 5)),(20005,20005,kb45),(20021,20021,(.vec 0)),(20022,20022,(.vec 1)),(20031,20031,kb27),(20032,20032,(.cells 2 false [(.int .i64 0)] .leaf)),(20033,20033,kb28),(20034,20034,kb29),(20035,20035,kb25),(20036,20036,kb26),(20040,20040,ke63)]
def SGs (xx u r wd c0 c1:Int) (nn rs:Nat) (W:Nat→BitVec 64) (rv:Nat→Value) (B:Kp) (w0:World) (μ:M) (a:Act) (w:World):Prop:=St (PGs xx u r wd c0 c1 nn rs W rv) B w0 μ Tryz.f37.ntmps (frOf fsR) (hOf 20041 bsGs) a w
abbrev ivG2 (xx r wd c0 c1:Int) (nn rs:Nat) (W:Nat→BitVec 64):Nat→IntKind×Int
  | 0=>(.i64,((8+4*nn:Nat):Int))
  | 1=>(.i64,((3+nn:Nat):Int))
  | 2=>(.i64,((0+3:Nat):Int))
  | 3=>(.i64,((0+2:Nat):Int))
  | 4=>(.i64,wd - 1)
  | 5=>(.i64,c0+1)
  | 6=>(.i64,c1)
  | 7=>(.i64,r+3)
  | 8=>(.i64,xx)
  | 9=>(.i64,((rs:Nat):Int))
  | 10=>(.i64,((0:Nat):Int))
  | 11=>(.i64,((0+1:Nat):Int))
  | _=>(.i64,0)
abbrev vvG2 (xx r wd c0 c1:Int) (nn rs:Nat) (W:Nat→BitVec 64):Nat→Nat→Option AV
  | 0=>pv 0 0 y17
  | 1=>pv 0 1 y3
  | 2=>pv 0 2 y43
  | 3=>pv 0 3 y4
  | 4=>pvw y0 (8+4*nn) W
  | 5=>pvn y1 (3+nn) stT
  | _=>fun _=>none
abbrev vkG2 (xx r wd c0 c1:Int) (nn rs:Nat) (W:Nat→BitVec 64):Nat→Nat
  | 0=>pk 0 y17
  | 1=>pk 0 y3
  | 2=>pk 0 y43
  | 3=>pk 0 y4
  | 4=>8+4*nn
  | 5=>3+nn
  | _=>0
theorem vpG2 (xx r wd c0 c1:Int) (nn rs:Nat) (W:Nat→BitVec 64):∀ i_ m_ a_,vvG2 xx r wd c0 c1 nn rs W i_ m_=some a_→vplain a_=true
  | 0,_,_,h=>pv_plainB rfl h
  | 1,_,_,h=>pv_plainB rfl h
  | 2,_,_,h=>pv_plainB rfl h
  | 3,_,_,h=>pv_plainB rfl h
  | 4,_,_,h=>pvw_plain rfl h
  | 5,_,_,h=>pvn_plain rfl h
  | _+6,_,_,h=>(by cases h)
abbrev PG2 (xx r wd c0 c1:Int) (nn rs:Nat) (W:Nat→BitVec 64) (rv:Nat→Value):Tab:=((bare (ivG2 xx r wd c0 c1 nn rs W) (vvG2 xx r wd c0 c1 nn rs W) (vkG2 xx r wd c0 c1 nn rs W) (vpG2 xx r wd c0 c1 nn rs W)).rtab rv)
noncomputable abbrev bsG2:BS:=[(7728,7728,kb0),(7729,7729,kb1),(7730,7730,kb2),(10144,10144,kb3),(10983,10983,kb31),(10985,10985,kb6),(10989,10989,kb7),(14329,14329,kb32),(14330,14330,kb9),(14331,14331,kb10),(14332,14332,(.map [((.str 9 1349587270641094438477),(.int .i64 3),0),((.str 13 4700550402495416491276214152781),(.oi 5),1),((.str 12 26665466772310684618039504468),(.oi 6),2),((.str 14 1483882617254647020351433658805837),(.int .i64 1),3)] 4)),(14333,14333,kb34),(14452,14452,(.cells 1 true [] (T.ofList 0 .leaf [(.int .u8 76)]))),(14548,14548,(.cells 1 true [] (T.ofList 0 .leaf [(.int .u8 76)]))),(14622,14622,kb11),(14960,14960,kb13),(15191,15191,kb16),(15193,15193,kb17),(16859,16859,kb20),(17403,17403,kb21),(17446,17446,kb22),(17610,17610,kb23),(20000,20000,kb24),(20001,20001,(.vec 0)),(20002,20002,(.vec 1)),(20003,20003,(.vec 2)),(20004,20004,(.vec 3)),(20005,20005,kc50),(20006,20006,ke64),(20021,20021,(.vec 4)),(20022,20022,(.vec 5)),(20031,20031,kb27),(20032,20032,(.cells 2 false [(.int .i64 0)] .leaf)),(20033,20033,kb28),(20034,20034,kb29),(20035,20035,kb25),(20036,20036,kb26)]
def SG2 (xx r wd c0 c1:Int) (nn rs:Nat) (W:Nat→BitVec 64) (rv:Nat→Value) (B:Kp) (w0:World) (μ:M) (a:Act) (w:World):Prop:=St (PG2 xx r wd c0 c1 nn rs W rv) B w0 μ Tryz.f37.ntmps (frOf fsR) (hOf 20040 bsG2) a w
abbrev ivCs (xx u r wd c0 c1 c2:Int) (nn rs:Nat) (W:Nat→BitVec 64):Nat→IntKind×Int
  | 0=>(.i64,xx)
  | 1=>(.i64,u)
  | 2=>(.i64,((rs:Nat):Int))
  | 3=>(.i64,r)
  | 4=>(.i64,wd)
  | 5=>(.i64,c0)
  | 6=>(.i64,c1)
  | 7=>(.i64,c2)
  | 8=>(.i64,((0:Nat):Int))
  | 9=>(.i64,((0+1:Nat):Int))
  | 10=>(.i64,((8+4*nn:Nat):Int))
  | 11=>(.i64,((3+nn:Nat):Int))
  | 12=>(.i64,((0+3:Nat):Int))
  | 13=>(.i64,((0+2:Nat):Int))
  | 14=>(.i64,r+1)
  | 15=>(.i64,c2+1)
  | 16=>(.i64,wd - 8)
  | _=>(.i64,0)
abbrev vvCs (xx u r wd c0 c1 c2:Int) (nn rs:Nat) (W:Nat→BitVec 64):Nat→Nat→Option AV
  | 0=>pvw y0 (8+4*nn) W
  | 1=>pvn y1 (3+nn) stT
  | 2=>pv 0 0 y13
  | 3=>pv 0 1 y20
  | 4=>pv 0 2 y194
  | 5=>pv 0 3 y2
  | 6=>pv 0 2 y195
  | 7=>pv 0 2 y196
  | 8=>pv 0 2 y51
  | 9=>pv 0 0 [(.oi 0),(.oi 2)]
  | 10=>pv 0 1 y7
  | _=>fun _=>none
abbrev vkCs (xx u r wd c0 c1 c2:Int) (nn rs:Nat) (W:Nat→BitVec 64):Nat→Nat
  | 0=>8+4*nn
  | 1=>3+nn
  | 2=>pk 0 y13
  | 3=>pk 0 y20
  | 4=>pk 0 y194
  | 5=>pk 0 y2
  | 6=>pk 0 y195
  | 7=>pk 0 y196
  | 8=>pk 0 y51
  | 9=>pk 0 [(.oi 0),(.oi 2)]
  | 10=>pk 0 y7
  | _=>0
theorem vpCs (xx u r wd c0 c1 c2:Int) (nn rs:Nat) (W:Nat→BitVec 64):∀ i_ m_ a_,vvCs xx u r wd c0 c1 c2 nn rs W i_ m_=some a_→vplain a_=true
  | 0,_,_,h=>pvw_plain rfl h
  | 1,_,_,h=>pvn_plain rfl h
  | 2,_,_,h=>pv_plainB rfl h
  | 3,_,_,h=>pv_plainB rfl h
  | 4,_,_,h=>pv_plainB rfl h
  | 5,_,_,h=>pv_plainB rfl h
  | 6,_,_,h=>pv_plainB rfl h
  | 7,_,_,h=>pv_plainB rfl h
  | 8,_,_,h=>pv_plainB rfl h
  | 9,_,_,h=>pv_plainB rfl h
  | 10,_,_,h=>pv_plainB rfl h
  | _+11,_,_,h=>(by cases h)
abbrev PCs (xx u r wd c0 c1 c2:Int) (nn rs:Nat) (W:Nat→BitVec 64) (rv:Nat→Value):Tab:=((bare (ivCs xx u r wd c0 c1 c2 nn rs W) (vvCs xx u r wd c0 c1 c2 nn rs W) (vkCs xx u r wd c0 c1 c2 nn rs W) (vpCs xx u r wd c0 c1 c2 nn rs W)).rtab rv)
noncomputable abbrev bsCs:BS:=[(7728,7728,kb0),(7729,7729,kb1),(7730,7730,kb2),(10144,10144,kb3),(10983,10983,kb40),(10985,10985,kb6),(10989,10989,kb7),(14329,14329,(.cells 4 false [] (T.ofList 0 .leaf [(.ov 20001 12 1),(.ov 20002 12 1),(.ov 20003 13 7),(.oi 4)]))),(14330,14330,kb9),(14332,14332,kc51),(14333,14333,(.cells 32 false [] (T.ofList 0 .leaf y166))),(14452,14452,(.cells 1 true [] (T.ofList 0 .leaf [(.int .u8 76)]))),(14548,14548,(.cells 1 true [] (T.ofList 0 .leaf [(.int .u8 76)]))),(14622,14622,kb11),(14960,14960,kb13),(15191,15191,kb16),(16859,16859,kb20),(17403,17403,kb21),(17446,17446,kb22),(17610,17610,kb23),(20000,20000,kb24),(20001,20001,(.vec 2)),(20002,20002,(.vec 3)),(20003,20003,(.vec 4)),(20004,20004,(.vec 5)),(20005,20005,kc58),(20021,20021,(.vec 0)),(20022,20022,(.vec 1)),(20031,20031,kb27),(20032,20032,(.cells 2 false [(.int .i64 0)] .leaf)),(20034,20034,kb29),(20035,20035,kb25),(20036,20036,kb26),(20040,20040,ke64)]
def SCs (xx u r wd c0 c1 c2:Int) (nn rs:Nat) (W:Nat→BitVec 64) (rv:Nat→Value) (B:Kp) (w0:World) (μ:M) (a:Act) (w:World):Prop:=St (PCs xx u r wd c0 c1 c2 nn rs W rv) B w0 μ Tryz.f37.ntmps (frOf fsR) (hOf 20041 bsCs) a w
abbrev ivDs (xx r wd c0 c1 c2:Int) (nn rs:Nat) (W:Nat→BitVec 64):Nat→IntKind×Int
  | 0=>(.i64,xx)
  | 1=>(.i64,((rs:Nat):Int))
  | 2=>(.i64,r)
  | 3=>(.i64,wd)
  | 4=>(.i64,c0)
  | 5=>(.i64,c1)
  | 6=>(.i64,c2)
  | 7=>(.i64,((0:Nat):Int))
  | 8=>(.i64,((8+4*nn:Nat):Int))
  | 9=>(.i64,((3+nn:Nat):Int))
  | 10=>(.i64,((0+2:Nat):Int))
  | 11=>(.i64,((0+1:Nat):Int))
  | 12=>(.i64,r+1)
  | 13=>(.i64,wd - 6)
  | _=>(.i64,0)
abbrev vvDs (xx r wd c0 c1 c2:Int) (nn rs:Nat) (W:Nat→BitVec 64):Nat→Nat→Option AV
  | 0=>pvw y0 (8+4*nn) W
  | 1=>pvn y1 (3+nn) stT
  | 2=>pv 0 0 [(.oi 0),(.oi 1)]
  | 3=>pv 0 1 y7
  | 4=>pv 0 2 y19
  | 5=>pv 0 3 [(.ptr 20005 0)]
  | 6=>pv 0 2 y197
  | 7=>pv 0 2 y198
  | _=>fun _=>none
abbrev vkDs (xx r wd c0 c1 c2:Int) (nn rs:Nat) (W:Nat→BitVec 64):Nat→Nat
  | 0=>8+4*nn
  | 1=>3+nn
  | 2=>pk 0 [(.oi 0),(.oi 1)]
  | 3=>pk 0 y7
  | 4=>pk 0 y19
  | 5=>pk 0 [(.ptr 20005 0)]
  | 6=>pk 0 y197
  | 7=>pk 0 y198
  | _=>0
theorem vpDs (xx r wd c0 c1 c2:Int) (nn rs:Nat) (W:Nat→BitVec 64):∀ i_ m_ a_,vvDs xx r wd c0 c1 c2 nn rs W i_ m_=some a_→vplain a_=true
  | 0,_,_,h=>pvw_plain rfl h
  | 1,_,_,h=>pvn_plain rfl h
  | 2,_,_,h=>pv_plainB rfl h
  | 3,_,_,h=>pv_plainB rfl h
  | 4,_,_,h=>pv_plainB rfl h
  | 5,_,_,h=>pv_plainB rfl h
  | 6,_,_,h=>pv_plainB rfl h
  | 7,_,_,h=>pv_plainB rfl h
  | _+8,_,_,h=>(by cases h)
abbrev PDs (xx r wd c0 c1 c2:Int) (nn rs:Nat) (W:Nat→BitVec 64) (rv:Nat→Value):Tab:=((bare (ivDs xx r wd c0 c1 c2 nn rs W) (vvDs xx r wd c0 c1 c2 nn rs W) (vkDs xx r wd c0 c1 c2 nn rs W) (vpDs xx r wd c0 c1 c2 nn rs W)).rtab rv)
noncomputable abbrev bsDs:BS:=[(7728,7728,kb0),(7729,7729,kb1),(7730,7730,kb2),(10144,10144,kb3),(10983,10983,kb37),(10985,10985,kb6),(10989,10989,kb7),(14329,14329,(.cells 4 false [] (T.ofList 0 .leaf y26))),(14330,14330,kb9),(14332,14332,(.map [((.str 9 1349587270641094438477),(.int .i64 3),0),((.str 13 4700550402495416491276214152781),(.oi 4),1),((.str 12 26665466772310684618039504468),(.oi 5),2),((.str 14 1483882617254647020351433658805837),(.oi 6),3)] 4)),(14333,14333,(.cells 32 false [] (T.ofList 0 .leaf y27))),(14452,14452,(.cells 1 true [] (T.ofList 0 .leaf [(.int .u8 76)]))),(14548,14548,(.cells 1 true [] (T.ofList 0 .leaf [(.int .u8 76)]))),(14622,14622,kb11),(14960,14960,kb13),(15191,15191,kb16),(17446,17446,kb22),(17610,17610,kb23),(20000,20000,kb24),(20001,20001,(.vec 2)),(20002,20002,(.vec 3)),(20003,20003,(.vec 4)),(20004,20004,(.vec 5)),(20005,20005,(.cells 6 false [] (T.ofList 0 .leaf y52))),(20021,20021,(.vec 0)),(20022,20022,(.vec 1)),(20031,20031,kb27),(20032,20032,(.cells 2 false [(.int .i64 0)] .leaf)),(20034,20034,kb29),(20035,20035,kb25),(20036,20036,kb26)]
def SDs (xx r wd c0 c1 c2:Int) (nn rs:Nat) (W:Nat→BitVec 64) (rv:Nat→Value) (B:Kp) (w0:World) (μ:M) (a:Act) (w:World):Prop:=St (PDs xx r wd c0 c1 c2 nn rs W rv) B w0 μ Tryz.f37.ntmps (frOf fsR) (hOf 20041 bsDs) a w
end Go.Proofs.YtnhgdcgeehcebaaGreatDoor.tt
