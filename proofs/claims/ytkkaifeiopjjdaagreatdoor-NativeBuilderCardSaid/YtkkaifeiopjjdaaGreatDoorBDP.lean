/-
  The law NativeBuilder, for whatever the call is handed.
-/
import Derived.Test.YtkkaifeiopjjdaaGreatDoorBDE
import Derived.ChangeSlices
import Derived.ChangeShapes
import Derived.Carry
import Derived.Deep.Slices
import Derived.Test.YtkkaifeiopjjdaaGreatDoorRows
import Derived.LaidSub
import Derived.Lib.LaidTab
set_option linter.unusedVariables false
set_option linter.unusedSimpArgs false
set_option linter.unusedSectionVars false
set_option maxRecDepth 1000000
set_option maxHeartbeats 0
namespace Go.Proofs.YtkkaifeiopjjdaaGreatDoor.bd
open Go.X Go.RowKit Go.Proofs Go.ChangeShapes Go.WideShapes
noncomputable abbrev usA (y:Bool):AV:=Bool.rec (.fo 0 143 1) .nils y
noncomputable abbrev nsA (z:Bool):AV:=Bool.rec (.fo 2 144 1) .nils z
noncomputable def fs0 (y z:Bool):List (Nat×AV):=[(0,usA y),(1,nsA z),(5,.bool true),(6,.ptr 9899 0),(7,.ptr 9902 0),(8,sbS),(9,.int .i64 1),(13,.sl 13320 0 4 4),(14,.nils)]
noncomputable abbrev cv0:Cv:=⟨20000,20010,ofPairs [(20001,13317),(20002,13319)],(.int .i64 6,1)::(.int .i64 2,2)::ipB⟩
noncomputable abbrev vp0:VP:=[(13317,rowOf [.int .u64 0,.int .u64 0,.int .u64 4,.int .u64 1,.int .u64 0,.int .u64 0] true,0),(13319,rowOf [.int .i64 0,.int .i64 3] true,1)]
def KS (y z:Bool):Prop:=∀ p,firstTo (TP p) Tryz.prog KN 5000 Tryz.f4.ntmps 10 aC (T.ofList 0 .leaf [usA y,nsA z]) H.empty cv0 vp0 (fs0 y z) (bsS true 13317 13319 0)=true
theorem ks:∀ y z,KS y z
  | false,false=>fun p=>by as_aux_lemma=>kernel_rfl
  | false,true=>fun p=>by as_aux_lemma=>kernel_rfl
  | true,false=>fun p=>by as_aux_lemma=>kernel_rfl
  | true,true=>fun p=>by as_aux_lemma=>kernel_rfl
noncomputable abbrev cvI0:Cv:=⟨20000,20010,ofPairs [(20001,20001),(20002,20002)],(.int .i64 0,140)::(.oi 1,1)::(.oi 2,2)::ipB⟩
def KI0 (y z:Bool):Prop:=∀ p,runTo (TP p) Tryz.prog Hand.none 3000 Tryz.f4.ntmps aI (frOf (fs0 y z)) (hS true) .normal cvI0 [(20001,.vec 0,0),(20002,.vec 1,1)] (fsS y z true) (bsS true 20001 20002 20003)=true
theorem ki:∀ y z,KI0 y z
  | false,false=>fun p=>by as_aux_lemma=>kernel_rfl
  | false,true=>fun p=>by as_aux_lemma=>kernel_rfl
  | true,false=>fun p=>by as_aux_lemma=>kernel_rfl
  | true,true=>fun p=>by as_aux_lemma=>kernel_rfl
def W0:Nat→BitVec 64:=fun m=>BitVec.ofNat 64 (([0,0,4,1,0,0]:List Nat).getD m 0)
def S0:Nat→Int:=fun m=>([0,3]:List Int).getD m 0
def c0:Co:=⟨6,W0,2,S0,3,1,0,fun _=>0⟩
theorem cr0:Cr c0 where
  s0:=rfl
  sm:=fun m hm=>by
    have hm:m<2:=hm
    match m,hm with
    | 0,_=>show (0:Int)<6;decide
    | 1,_=>show (3:Int)<6;decide
  inc:=fun m k h1 h2=>by
    have h2:k<2:=h2
    have e1:m=0:=by omega
    have e2:k=1:=by omega
    subst e1;subst e2
    show (0:Int)<3;decide
  w0:=rfl
  w2:=rfl
  at_:=⟨rfl,rfl,fun j hj=>by have hj:j<0:=hj;omega⟩
  il:=by show 1<2;decide
  ix:=rfl
  s3:=Nat.le_refl _
  room:=by show 3+wd 0≤6;decide
  hC:=fun _=>by show (0:Int)≤0∧(0:Int)<65536;decide
theorem iv0 (u:Ue):Iv u c0 0 true (81*0) (bT 0) (2+3*0):=⟨cr0,⟨Nat.le_refl _,Nat.le_refl _,Nat.le_refl _⟩,⟨fun _=>rfl,fun _=>rfl⟩,fun h=>by omega⟩
abbrev Ends (w:World) (v v':Value):Prop:=Calls Tryz.prog 4 #[v,v'] w fun e w'=>e = .returned (.bool true)∧Below w.heap.size w w'
def Arg (b o n c:Nat) (y:Bool) (v:Value):Prop:=(y=true∧n=0∧v = .slice none 0 0)∨(y=false∧n≤c∧v = .slice (some ⟨b,o,none⟩) n c)
theorem arg_rel {T:Tab} {b o n c k j:Nat} {y:Bool} {v:Value} (h:Arg b o n c y v) (h1:T.iv k=(.i64,(n:Int))) (h2:T.fb j=(b,o)) (h3:T.fcap j=c):@vrel T (fun _=>none) (Bool.rec (.fo j k 1) .nils y) v:=by
  rcases h with ⟨rfl,rfl,rfl⟩ | ⟨rfl,hc,rfl⟩
  · show @vrel T (fun _=>none) .nils _
    simp only [vrel]
  · show @vrel T (fun _=>none) (.fo j k 1) _
    simp only [vrel]
    rw [h1,h2,h3]
    exact ⟨⟨rfl,Int.natCast_nonneg _⟩,by simpa using hc,by simp⟩
theorem walkS {u:Ue} {w:World} {y z:Bool} {v v':Value} (o:UOk u) (g:Gs u (Kp.below w.heap.size) w) (hv:Arg u.bu u.ou u.lu u.cu y v) (hv':Arg u.bn u.on u.ln u.cn z v'):Ends w v v':=by
  have hy:y=true→u.lu=0:=fun e=>by rcases hv with h | h;exact h.2.1;rw [e] at h;cases h.1
  have hz:z=true→u.ln=0:=fun e=>by rcases hv' with h | h;exact h.2.1;rw [e] at h;cases h.1
  refine yes_calls Tryz.func4 aC_eq w ?_
  have g0:=(g c0 0).1
  have s0:=@St.start (TP (pA1 u c0 0)) [usA y,nsA z] #[v,v'] Tryz.f4.ntmps w g0
    (@vrels_cons (TP (pA1 u c0 0)) _ _ _ _ _ (arg_rel hv rfl rfl rfl) (@vrels_cons (TP (pA1 u c0 0)) _ _ _ _ _ (arg_rel hv' rfl rfl rfl) (by simp [vrels]))) (show 2≤Tryz.f4.ntmps by decide +kernel) (show 2<limit by decide)
  have hb:Base (Kp.below w.heap.size) (fun _=>none) 20000:=baseUp (Base.none _) (Nat.zero_le _)
  refine firstTo_sound (T:=TP (pA1 u c0 0)) (T':=TP (pA1 u c0 0)) (n:=10) mixed (K:=KN) KN_ok (C:=cv0) (rl:=[(20001,13317),(20002,13319)]) (fs:=fs0 y z) (bs:=bsS true 13317 13319 0)
    hb (show 20000≤20010 by decide) rfl (by kernel_rfl) (ipK' (ipK' ip_B (e:=rfl)) (e:=rfl)) (vpRow (n:=6) (K := .u64) (f:=fun m=>wI (W0 m)) (vpRow (n:=2) (K := .i64) (f:=S0) vpNil rfl (by decide) rfl rfl (fun m hm=>by
      match m,hm with
      | 0,_=>exact ⟨_,rfl,rfl⟩
      | 1,_=>exact ⟨_,rfl,rfl⟩)) rfl (by decide) rfl rfl (fun m hm=>by
      match m,hm with
      | 0,_=>exact ⟨_,rfl,rfl⟩
      | 1,_=>exact ⟨_,rfl,rfl⟩
      | 2,_=>exact ⟨_,rfl,rfl⟩
      | 3,_=>exact ⟨_,rfl,rfl⟩
      | 4,_=>exact ⟨_,rfl,rfl⟩
      | 5,_=>exact ⟨_,rfl,rfl⟩)) (fun _=>g0) (ks y z _) s0 fun a1 w1 s1=>?_
  have s1:St (TP (pA1 u c0 0)) (Kp.below w.heap.size) w (fun _=>none) Tryz.f4.ntmps (frOf (fs0 y z)) (hS true) a1 w1:=s1
  rw [a10_eq]
  refine wp_seq (wp_seq (wp_mono (runTo_sound (fs:=fsS y z true) (bs:=bsS true 20001 20002 20003) (T:=TP (pA1 u c0 0)) (T':=TP (pA1 u c0 0)) mixed hNo (C:=cvI0) (ex := .normal) hb (show 20000≤20010 by decide) (rl:=[(20001,20001),(20002,20002)]) rfl (by kernel_rfl) (ipK' (ipE (ipE ip_B)) (e:=rfl)) (vpNum (n:=6) (K := .u64) (e:=fun m=>wI (W0 m)) (e':=fun m=>wI (W0 m)) (vpNum (n:=2) (K := .i64) (e:=S0) (e':=S0) vpNil)) (fun _=>g0) (ki y z _) s1) ?_))
  rintro x a2 w2 ⟨rfl,s2⟩
  show (Code.block 0 (.loop aL)).wp _ _ _ _
  have s2:SA y z u c0 0 true (Kp.below w.heap.size) w (fun _=>none) a2 w2:=s2
  refine wp_block (wp_mono (wp_loop_rounds 9 (loop hy hz hb o g 9 0 c0 true a2 w2 rfl (by decide) (iv0 u) s2)) ?_)
  rintro x a3 w3 ⟨rfl,c,n,v3,s3⟩
  show (restn 11 aC).wp _ _ _ _
  exact endS o v3 s3
structure ElV (w:World) (e:El) (v:Value):Prop where
  v0:e.ek=0→v = .slice (some ⟨e.ba,e.oa,none⟩) e.la e.ca∧e.la≤e.ca
  v1:e.ek=1→v = .slice (some ⟨e.ba,e.oa,none⟩) e.fa e.ca∧e.fa≤e.ca
  v2:e.ek=2→v = .slice none 0 0
  v3:3≤e.ek→∃ b c,v = .slice (some b) 0 c
  cs:∀ m,m<e.la→w.cell? ⟨e.ba,e.oa+m,none⟩=some (.int .u16 (e.A m))
theorem cell_lt {w:World} {a:Addr} {v:Value} (h:w.cell? a=some v):a.block<w.heap.size∧a.spot=none:=by
  unfold World.cell? at h
  split at h
  · rename_i e
    refine ⟨(Array.getElem?_eq_some_iff.1 e).1,?_⟩
    cases hs:a.spot with
    | none=>rfl
    | some x=>rw [hs] at h;simp at h
  all_goals cases h
theorem el_of {w:World} {v:Value} {H:Type} {enc:TypeId×Value→H} {base fuel:Nat} {spare:Nat→Bool} {held:Bool} {x:DataW H×List MemPlace} (h:DataW.trod enc Tryz.prog w base spare held fuel 22 [v]=some x):∃ e,ElOk e∧ElV w e v:=by
  rcases open_ints Tryz.underlying22 Tryz.underlying34 (by kernel_rfl) h with ⟨h0,_⟩ | ⟨a,len,cap,zs,h0,_,hcap,hm,hz,_,hc,hw⟩
  · have h1:v = .slice none 0 0:=by simpa using h0
    exact ⟨⟨2,0,0,fun _=>0,0,0,0⟩,⟨Nat.zero_le _,(fun _=>by show (0:Int)≤0∧(0:Int)<65536;decide),by decide,(fun e=>by cases e),(fun e=>by cases e),fun _=>rfl⟩,⟨(fun e=>by cases e),(fun e=>by cases e),fun _=>h1,(fun e=>by have e:3≤2:=e;omega),(fun m hm=>by have hm:m<0:=hm;omega)⟩⟩
  · have h1:v = .slice (some a) len cap:=by simpa using h0
    subst h1
    have hA:len≤zs.length:=by rw [hz];split<;>omega
    have hr:∀ m,0≤zs.getD m 0∧zs.getD m 0<65536:=fun m=>by
      rw [List.getD_eq_getElem?_getD]
      cases e:zs[m]? with
      | none=>exact ⟨by decide,by decide⟩
      | some z =>
        have hz':=hw z (List.mem_of_getElem? e)
        simp only [Lit.wf,Bool.and_eq_true,decide_eq_true_eq] at hz'
        obtain ⟨q1,q2⟩:=hz'
        have q3:(IntKind.u16.min:Int)=0:=by decide
        have q4:(IntKind.u16.max:Int)=65535:=by decide
        show 0≤z∧z<65536
        omega
    have hl:cap<9223372036854775808:=by unfold maxLen at hm;omega
    rcases Nat.eq_zero_or_pos len with e | e
    · subst e
      exact ⟨⟨3,0,0,fun _=>0,0,0,0⟩,⟨Nat.zero_le _,(fun _=>by show (0:Int)≤0∧(0:Int)<65536;decide),by decide,(fun e=>by cases e),(fun e=>by cases e),fun _=>rfl⟩,⟨(fun e=>by cases e),(fun e=>by cases e),(fun e=>by cases e),fun _=>⟨a,cap,rfl⟩,(fun m hm=>by have hm:m<0:=hm;omega)⟩⟩
    · have hs:a.spot=none:=(cell_lt (hc 0 (by omega))).2
      obtain ⟨b,o,sp⟩:=a
      simp only at hs
      subst hs
      have cells:∀ m,m<len→w.cell? ⟨b,o+m,none⟩=some (.int .u16 (zs.getD m 0)):=fun m hm=>by rw [← WideShapes.add_plain];exact hc m (by omega)
      by_cases h60:len≤60
      · exact ⟨⟨0,len,len,fun m=>zs.getD m 0,b,o,cap⟩,⟨h60,hr,by show 0<4;decide,fun _=>e,(fun e=>by cases e),(fun e=>by have e:2≤0:=e;omega)⟩,⟨fun _=>⟨rfl,hcap⟩,(fun e=>by cases e),(fun e=>by cases e),(fun e=>by have e:3≤0:=e;omega),cells⟩⟩
      · exact ⟨⟨1,60,len,fun m=>zs.getD m 0,b,o,cap⟩,⟨Nat.le_refl _,hr,by show 1<4;decide,(fun e=>by cases e),fun _=>⟨rfl,by show 60<len;omega,by show len<_;omega⟩,(fun e=>by have e:2≤1:=e;omega)⟩,⟨(fun e=>by cases e),fun _=>⟨rfl,hcap⟩,(fun e=>by cases e),(fun e=>by have e:3≤1:=e;omega),fun m hm=>cells m (by have hm:m<60:=hm;omega)⟩⟩
theorem elV_rel {T:Tab} {w:World} {e:El} {v:Value} (h0:T.iv 0=(.i64,(e.la:Int))) (h1:T.iv 147=(.i64,(e.fa:Int))) (h2:T.fb 1=(e.ba,e.oa)) (h3:T.fcap 1=e.ca) (q:ElV w e v):@vrel T (fun _=>none) (elK e.ek) v:=by
  have hk:∃ k,e.ek=k:=⟨_,rfl⟩
  obtain ⟨k,hk⟩:=hk
  rw [hk]
  match k,hk with
  | 0,hk =>
    obtain ⟨g1,g2⟩:=q.v0 hk
    simp only [elK,vrel]
    rw [h0,h2,h3]
    exact ⟨⟨rfl,Int.natCast_nonneg _⟩,by simpa using g2,by simpa using g1⟩
  | 1,hk =>
    obtain ⟨g1,g2⟩:=q.v1 hk
    simp only [elK,vrel]
    rw [h1,h2,h3]
    exact ⟨⟨rfl,Int.natCast_nonneg _⟩,by simpa using g2,by simpa using g1⟩
  | 2,hk=>simp only [elK,vrel];exact q.v2 hk
  | k+3,hk=>simp only [elK,vrel];exact q.v3 (by omega)
theorem gl_pow1 {T:Tab} (hp:T.gv=stx.gvP) {w:World} (ht:stx.PowIs w):∀ g o a,T.gv g o=some a→(Kp.below w.heap.size).kept g∧∃ v,w.cell? ⟨g,o,none⟩=some v∧(@vrel T (fun _=>none) a v∧(T.gv g (o+1)=none→w.cell? ⟨g,o+1,none⟩=none)):=by
  obtain ⟨t,f,hb⟩:=stx.pow_cells ht
  have hlt:1<w.heap.size:=by
    rcases Nat.lt_or_ge 1 w.heap.size with h | h
    · exact h
    · rw [Array.getElem?_eq_none h] at hb;cases hb
  have key:∀ q,w.cell? ⟨1,q,none⟩=((Lib.pow10Tab.map fun z=>Value.int .u64 z).toArray)[q]? := fun q=>by
    unfold World.cell?
    rw [hb]
    rfl
  intro g o a hg
  rw [hp] at hg
  unfold stx.gvP at hg
  cases h1:Nat.beq g 1 with
  | false=>rw [h1] at hg;cases hg
  | true =>
    rw [h1] at hg
    unfold stx.powRow at hg
    cases h2:Nat.blt o 20 with
    | false=>rw [h2] at hg;cases hg
    | true =>
      rw [h2] at hg
      cases hg
      obtain rfl:=Nat.eq_of_beq_eq_true h1
      have ho:o<20:=by rw [Nat.blt_eq] at h2;exact h2
      refine ⟨hlt,.int .u64 ((10 ^ o:Nat):Int),?_,by simp only [vrel],fun e=>?_⟩
      · rw [key]
        simp [Lib.pow10Tab,ho]
      · rw [key]
        rw [hp] at e
        have h3:¬ o+1<20:=fun h=>by rw [stx.gvP_at h] at e;cases e
        rw [Array.getElem?_eq_none]
        simp [Lib.pow10Tab]
        omega
theorem gl1 {p:P} {w:World} (ht:stx.PowIs w) (h0:p.fz=0→p.i<p.lu→∃ v,w.cell? ⟨p.bu,p.ou+p.i,none⟩=some v∧@vrel (TP p) (fun _=>none) (elK p.ek) v) (h1:p.fz≠2→∀ m,m<p.pl→w.cell? ⟨p.ba,p.oa+m,none⟩=some (.int .u16 (p.A m))) (h2:∀ m,m<p.ln→w.cell? ⟨p.bn,p.on+m,none⟩=some (.int .i64 (p.ns m))):@Gl (TP p) (Kp.below w.heap.size) w:=by
  refine ⟨gl_pow1 rfl ht,fun i m a h=>?_⟩
  match i,h with
  | 0,h =>
    have h9:(if p.fz=0∧m=p.i∧p.i<p.lu then some (elK p.ek) else none)=some a:=h
    clear h
    split at h9
    · rename_i e
      cases h9
      obtain ⟨e1,e2,e3⟩:=e
      obtain ⟨v,v1,v2⟩:=h0 e1 e3
      rw [e2]
      exact ⟨(cell_lt v1).1,v,v1,v2⟩
    · cases h9
  | 1,h =>
    have h:(if p.fz=2 then fun _=>none else numV .u16 p.pl p.A:Nat→Option AV) m=some a:=h
    split at h
    · cases h
    · rename_i e
      obtain ⟨hm,rfl⟩:=numV_some h
      have hc:=h1 e m hm
      exact ⟨(cell_lt hc).1,_,hc,by simp only [vrel]⟩
  | 2,h =>
    obtain ⟨hm,rfl⟩:=numV_some (show numV .i64 p.ln p.ns m=some a from h)
    have hc:=h2 m hm
    exact ⟨(cell_lt hc).1,_,hc,by simp only [vrel]⟩
  | i+3,h=>cases h
theorem guOf {u:Ue} {w:World} (ht:stx.PowIs w) (h:∀ j,j<u.lu→∃ v,w.cell? ⟨u.bu,u.ou+j,none⟩=some v∧ElV w (u.us j) v) (hd:∀ j,¬ j<u.lu→(u.us j).la=0) (hn:∀ j,j<u.ln→w.cell? ⟨u.bn,u.on+j,none⟩=some (.int .i64 (u.ns j))):Gs u (Kp.below w.heap.size) w:=by
  intro c i
  have cs:∀ m,m<(u.us i).la→w.cell? ⟨(u.us i).ba,(u.us i).oa+m,none⟩=some (.int .u16 ((u.us i).A m)):=fun m hm=>by
    by_cases hi:i<u.lu
    · obtain ⟨v,_,v2⟩:=h i hi
      exact v2.cs m hm
    · rw [hd i hi] at hm;omega
  refine ⟨gl1 ht (fun _ hi=>?_) (fun _=>cs) hn,gl1 ht (fun e=>?_) (fun _=>cs) hn,gl1 ht (fun e=>?_) (fun e=>?_) hn⟩
  · obtain ⟨v,v1,v2⟩:=h i hi
    exact ⟨v,v1,elV_rel (e:=u.us i) rfl rfl rfl rfl v2⟩
  · have e:(1:Nat)=0:=e;omega
  · have e:(2:Nat)=0:=e;omega
  · exact absurd rfl e
theorem chooseN {P:Nat→El→Prop} {n:Nat} (h:∀ j,j<n→∃ e,ElOk e∧P j e):∃ f:Nat→El,(∀ j,ElOk (f j))∧(∀ j,j<n→P j (f j))∧∀ j,¬ j<n→(f j).la=0:=by
  have d:ElOk ⟨2,0,0,fun _=>0,0,0,0⟩:=⟨Nat.zero_le _,(fun _=>by show (0:Int)≤0∧(0:Int)<65536;decide),by decide,(fun e=>by cases e),(fun e=>by cases e),fun _=>rfl⟩
  refine ⟨fun j=>if hj:j<n then Classical.choose (h j hj) else ⟨2,0,0,fun _=>0,0,0,0⟩,fun j=>?_,fun j hj=>?_,fun j hj=>?_⟩
  · by_cases hj:j<n
    · simp only [dif_pos hj];exact (Classical.choose_spec (h j hj)).1
    · simp only [dif_neg hj];exact d
  · simp only [dif_pos hj];exact (Classical.choose_spec (h j hj)).2
  · simp only [dif_neg hj]
theorem usOf {w:World} {v:Value} {H:Type} {enc:TypeId×Value→H} {base:Nat} {spare:Nat→Bool} {held:Bool} {d:DataW H} {ps:List MemPlace} (hval:Value.okWide Tryz.prog w .any 0 38 v) (h:DataW.Trod enc Tryz.prog w base spare held 38 v d ps):∃ (y:Bool) (b o n c:Nat) (us:Nat→El),Arg b o n c y v∧(∀ j,ElOk (us j))∧(∀ j,j<n→∃ v,w.cell? ⟨b,o+j,none⟩=some v∧ElV w (us j) v)∧∀ j,¬ j<n→(us j).la=0:=by
  obtain ⟨a0,len0,cap0,rfl⟩:=okWide_slice Tryz.underlying38 hval
  obtain ⟨fuel,hf⟩:=h
  rcases Deep.open_slice1 Tryz.underlying38 (by kernel_rfl) hf with ⟨h0,_⟩ | ⟨a,len,cap,m,n,V,D,Pl,h0,_,hcap,hmx,hm,_,hx⟩
  · have h1:Value.slice a0 len0 cap0 = .slice none 0 0:=by simpa [Value.cells] using h0
    have d:ElOk ⟨2,0,0,fun _=>0,0,0,0⟩:=⟨Nat.zero_le _,(fun _=>by show (0:Int)≤0∧(0:Int)<65536;decide),by decide,(fun e=>by cases e),(fun e=>by cases e),fun _=>rfl⟩
    exact ⟨true,0,0,0,0,fun _=>⟨2,0,0,fun _=>0,0,0,0⟩,.inl ⟨rfl,rfl,h1⟩,fun _=>d,fun j hj=>by omega,fun _ _=>rfl⟩
  · have h1:Value.slice a0 len0 cap0 = .slice (some a) len cap:=by simpa [Value.cells] using h0
    rw [h1] at hval ⊢
    have hs:a.spot=none:=by
      simp only [Value.okWide,Tryz.underlying38,Cell.okWide,Cell.ok] at hval
      exact hval.2.2.2.1
    obtain ⟨b,o,sp⟩:=a
    simp only at hs
    subst hs
    have hmm:len≤m:=by rw [hm];split<;>omega
    obtain ⟨us,u1,u2,u3⟩:=chooseN (n:=len) (P:=fun j e=>ElV w e (V j)) fun j hj=>el_of (hx j (by omega)).2
    exact ⟨false,b,o,len,cap,us,.inr ⟨rfl,hcap,rfl⟩,u1,fun j hj=>⟨V j,by rw [← WideShapes.add_plain];exact (hx j (by omega)).1,u2 j hj⟩,u3⟩
theorem nsOf {w:World} {v:Value} {H:Type} {enc:TypeId×Value→H} {base:Nat} {spare:Nat→Bool} {held:Bool} {d:DataW H} {ps:List MemPlace} (hval:Value.okWide Tryz.prog w .any 0 39 v) (h:DataW.Trod enc Tryz.prog w base spare held 39 v d ps):∃ (z:Bool) (b o n c:Nat) (ns:Nat→Int),Arg b o n c z v∧(∀ j,-9223372036854775808≤ns j∧ns j≤9223372036854775807)∧∀ j,j<n→w.cell? ⟨b,o+j,none⟩=some (.int .i64 (ns j)):=by
  obtain ⟨a0,len0,cap0,rfl⟩:=okWide_slice Tryz.underlying39 hval
  obtain ⟨fuel,hf⟩:=h
  rcases open_ints Tryz.underlying39 Tryz.underlying2 (by kernel_rfl) hf with ⟨h0,_⟩ | ⟨a,len,cap,zs,h0,_,hcap,hm,hz,_,hc,hw⟩
  · have h1:Value.slice a0 len0 cap0 = .slice none 0 0:=by simpa [Value.cells] using h0
    exact ⟨true,0,0,0,0,fun _=>0,.inl ⟨rfl,rfl,h1⟩,fun _=>⟨by show (-9223372036854775808:Int)≤0;decide,by show (0:Int)≤9223372036854775807;decide⟩,fun j hj=>by omega⟩
  · have h1:Value.slice a0 len0 cap0 = .slice (some a) len cap:=by simpa [Value.cells] using h0
    rw [h1] at hval ⊢
    have hs:a.spot=none:=by
      simp only [Value.okWide,Tryz.underlying39,Cell.okWide,Cell.ok] at hval
      exact hval.2.2.2.1
    obtain ⟨b,o,sp⟩:=a
    simp only at hs
    subst hs
    have hmm:len≤zs.length:=by rw [hz];split<;>omega
    refine ⟨false,b,o,len,cap,fun m=>zs.getD m 0,.inr ⟨rfl,hcap,rfl⟩,fun m=>?_,fun m hj=>by rw [← WideShapes.add_plain];exact hc m (by omega)⟩
    show -9223372036854775808≤zs.getD m 0∧zs.getD m 0≤9223372036854775807
    rw [List.getD_eq_getElem?_getD]
    cases e:zs[m]? with
    | none=>exact ⟨by decide,by decide⟩
    | some x =>
      have hz':=hw x (List.mem_of_getElem? e)
      simp only [Lit.wf,Bool.and_eq_true,decide_eq_true_eq] at hz'
      exact hz'
def nm:String:=((Rows.nativeBuilderRow.laid.find? fun x=>x.1 == "internal/strconv.uint64pow10").map fun x=>x.1).getD default
theorem laid_eq:(Rows.nativeBuilderRow.laid.filter fun x=>x.1 == nm)=[(nm,Lib.tabData .u64 Lib.pow10Tab)]:=by kernel_rfl
theorem nm_is:nm = "internal/strconv.uint64pow10" := by kernel_rfl
theorem globals1:Tryz.prog.globalNamed nm=some 1:=by kernel_rfl
theorem tabIs {W:World} (h:laidMetH Tryz.prog Rows.nativeBuilderRow.laid W):stx.PowIs W:=by
  have h1:=h.filter fun x=>x.1 == nm
  rw [laid_eq] at h1
  have h2:laidMet Tryz.prog [(nm,Lib.tabData .u64 Lib.pow10Tab)] W:=h1
  show Lib.TabIs Tryz.prog W "internal/strconv.uint64pow10" .u64 Lib.pow10Tab
  rw [← nm_is]
  exact Lib.tabIs_of_head (t:=229) (e:=57) (n:=20) globals1 (by kernel_rfl) (by kernel_rfl) (by kernel_rfl) (by kernel_rfl) (by kernel_rfl) h2
theorem any {w:World} {v v':Value} {H:Type} {enc:TypeId×Value→H} {base:Nat} {spare:Nat→Bool} {held:Bool} {d:DataW H} {ps:List MemPlace} (hval:Value.okWide Tryz.prog w .any 0 38 v) (h:DataW.Trod enc Tryz.prog w base spare held 38 v d ps)
    {base':Nat} {spare':Nat→Bool} {held':Bool} {d':DataW H} {ps':List MemPlace} (hval':Value.okWide Tryz.prog w .any 0 39 v') (h':DataW.Trod enc Tryz.prog w base' spare' held' 39 v' d' ps') (hL:laidMetH Tryz.prog Rows.nativeBuilderRow.laid w):Ends w v v':=by
  obtain ⟨y,b,o,n,c,us,g1,g2,g3,g4⟩:=usOf hval h
  obtain ⟨z,b',o',n',c',ns,k1,k2,k3⟩:=nsOf hval' h'
  exact walkS (u:=⟨n,b,o,c,us,n',b',o',c',ns⟩) ⟨g2,k2⟩ (guOf (tabIs hL) g3 g4 k3) g1 k1
end Go.Proofs.YtkkaifeiopjjdaaGreatDoor.bd
