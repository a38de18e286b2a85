/-
  An abstract machine for the model: what it computes, and that it holds of every run (part 3).
-/
import Derived.Test.YtnhgdcgeehcebaaGreatDoorXN2
set_option linter.unusedSimpArgs false
set_option linter.unusedVariables false
set_option linter.unusedSectionVars false
namespace Go.X
open Go.RowKit
variable [Tab] {P:Program}
theorem SumOk.yes {f:FuncId} {args:List AV} {s:Sum} (o:SumOk P f args s) (hv:s.v = .bool true) {args':Array Value} (ha:vrels (fun _=>none) args args'.toList) (w:World) (hg:Gl (Kp.below w.heap.size) w) :
    Calls P f args' w fun e w'=>e = .returned (.bool true)∧Below w.heap.size w w':=by
  obtain ⟨hs,h1,_,_⟩:=o.run
  refine (h1.closed ha w hg).mono ?_
  rintro e w' ⟨v',μ',rfl,hr,r⟩
  have hr':vrel μ' s.v v':=hr
  rw [hv] at hr'
  simp only [vrel] at hr'
  exact ⟨by rw [hr'],r.below.toBelow⟩
theorem CallOk.yes {f:FuncId} {args:List AV} {q:H} (o:CallOk P f args H.empty (.bool true,q)) {args':Array Value} (ha:vrels (fun _=>none) args args'.toList) (w:World) (hg:Gl (Kp.below w.heap.size) w) :
    Calls P f args' w fun e w'=>e = .returned (.bool true)∧Below w.heap.size w w':=by
  refine (o.closed ha w hg).mono ?_
  rintro e w' ⟨v',μ',rfl,hr,r⟩
  have hr':vrel μ' (.bool true) v':=hr
  simp only [vrel] at hr'
  exact ⟨by rw [hr'],r.below.toBelow⟩
theorem CallOk.of_okTrue {K:Hand} (hm:P.follows .mixedOrders=true) (hK:HandOk P K) {n:Nat} {f:FuncId} {args:List AV} (e:okTrue (call P K n f args H.empty)=true) :
    ∃ q,CallOk P f args H.empty (.bool true,q):=by
  obtain ⟨q,hq⟩:=okTrue_some e
  exact ⟨q,call_sound hm hK hq⟩
abbrev Tab.empty:Tab where
  str:=fun _=>default
  ne:=fun _=>[]
  ok:=fun _ p h=>by simp at h
  gv:=fun _ _=>none
  iv:=fun _=>(.i64,0)
  rv:=fun _ => .nilIface
  ib:=[]
  ibok:=fun _ h=>by simp at h
  ic:=[]
  icok:=fun _ h=>by simp at h
  iu:=[]
  iuok:=fun _ h=>by simp at h
  vv:=fun _ _=>none
  vk:=fun _=>0
  vvp:=fun _ _ a h=>by simp at h
  va:=[]
  vaok:=fun _ h=>by simp at h
  vz:=[]
  vzok:=fun _ h=>by simp at h
  vn:=[]
  vnok:=fun _ h=>by simp at h
  vc:=[]
  vcok:=fun _ h=>by simp at h
  fb:=fun _=>(0,0)
  fcap:=fun _=>0
  fv:=fun _ _=>none
  fl:=[]
  flok:=fun _ h=>by simp at h
  vl:=[]
  vlok:=fun _ h=>by simp at h
  vs:=[]
  vsok:=fun _ h=>by simp at h
class Syms where
  str:Nat→ByteArray
  ne:Nat→List (Nat×Nat)
  ok:∀ i p,p∈ne i→p.2<256 ^ p.1→str i≠strOf p.1 p.2
  iv:Nat→IntKind×Int
  ib:List (Nat×AV×AV×AV)
  ibok:∀ r∈ib,∀ op,bcode op=r.1→∃ k a k' b v',denI iv r.2.1=some (k,a)∧denI iv r.2.2.1=some (k',b)∧intBin op k a k' b=some v'∧outI iv r.2.2.2 v'
  ic:List (IntKind×AV×AV)
  icok:∀ r∈ic,∃ k n,denI iv r.2.1=some (k,n)∧denI iv r.2.2=some (r.1,r.1.wrap n)
  iu:List (Nat×AV×AV)
  iuok:∀ r∈iu,∀ op,ucode op=r.1→∃ k n v',denI iv r.2.1=some (k,n)∧unI op k n=some v'∧outI iv r.2.2 v'
abbrev Syms.tab (S:Syms) (gv:Nat→Nat→Option AV):Tab :=
  { str:=S.str,ne:=S.ne,ok:=S.ok,gv:=gv,iv:=S.iv,rv:=fun _ => .nilIface,ib:=S.ib,ibok:=S.ibok,ic:=S.ic,icok:=S.icok,iu:=S.iu,iuok:=S.iuok,
    vv:=fun _ _=>none,vk:=fun _=>0,vvp:=fun _ _ a h=>by simp at h,va:=[],vaok:=fun _ h=>by simp at h,vz:=[],vzok:=fun _ h=>by simp at h,vn:=[],vnok:=fun _ h=>by simp at h,
    vc:=[],vcok:=fun _ h=>by simp at h,fb:=fun _=>(0,0),fcap:=fun _=>0,fv:=fun _ _=>none,fl:=[],flok:=fun _ h=>by simp at h,vl:=[],vlok:=fun _ h=>by simp at h,vs:=[],vsok:=fun _ h=>by simp at h }
abbrev Syms.empty:Syms:=⟨fun _=>default,fun _=>[],fun _ p h=>by simp at h,fun _=>(.i64,0),[],fun _ h=>by simp at h,[],fun _ h=>by simp at h,[],fun _ h=>by simp at h⟩
theorem pick (l:List (Nat×Nat)) (s:ByteArray):(∃ p∈l,s=strOf p.1 p.2)∨∀ p∈l,s≠strOf p.1 p.2:=by
  rcases Classical.em (∃ p∈l,s=strOf p.1 p.2) with h | h
  · exact .inl h
  · exact .inr fun p hp e=>h ⟨p,hp,e⟩
end Go.X
set_option linter.unusedVariables false
set_option linter.unusedSimpArgs false
set_option linter.unusedSectionVars false
namespace Go.X
open Go.RowKit
noncomputable def ren (N0:Nat) (rn:T Nat) (μ:M):M:=fun x=>if x<N0 then μ x else (rn.get x).bind μ
noncomputable def nm (N0:Nat) (rn:T Nat) (x x':Nat):Bool :=
  Bool.rec (Option.rec false (fun y=>Nat.beq y x) (rn.get x')) (Nat.beq x' x) (Nat.blt x' N0)
theorem nm_sound [Tab] {N0:Nat} {rn:T Nat} {x x':Nat} {μ:M} {l:Loc} (h:nm N0 rn x x'=true) (hl:μ x=some l):ren N0 rn μ x'=some l:=by
  unfold nm at h
  unfold ren
  cases hb:Nat.blt x' N0 with
  | true =>
    rw [hb] at h
    have h:Nat.beq x' x=true:=h
    rw [if_pos (blt_iff.1 hb),nbeq_iff.1 h];exact hl
  | false =>
    rw [hb] at h
    have h:(Option.rec false (fun y=>Nat.beq y x) (rn.get x'):Bool)=true:=h
    rw [if_neg (fun e=>by rw [blt_iff.2 e] at hb;cases hb)]
    cases hg:rn.get x' with
    | none=>rw [hg] at h;simp at h
    | some y =>
      rw [hg] at h
      have h:Nat.beq y x=true:=h
      rw [nbeq_iff.1 h];exact hl
theorem nm_of [Tab] {N0:Nat} {rn:T Nat} {x x':Nat} {μ:M} {l:Loc} (h:nm N0 rn x x'=true) (hl:ren N0 rn μ x'=some l):μ x=some l:=by
  unfold nm at h
  unfold ren at hl
  cases hb:Nat.blt x' N0 with
  | true =>
    rw [hb] at h
    have h:Nat.beq x' x=true:=h
    rw [if_pos (blt_iff.1 hb),nbeq_iff.1 h] at hl;exact hl
  | false =>
    rw [hb] at h
    have h:(Option.rec false (fun y=>Nat.beq y x) (rn.get x'):Bool)=true:=h
    rw [if_neg (fun e=>by rw [blt_iff.2 e] at hb;cases hb)] at hl
    cases hg:rn.get x' with
    | none=>rw [hg] at h;simp at h
    | some y =>
      rw [hg] at h hl
      have h:Nat.beq y x=true:=h
      rw [nbeq_iff.1 h] at hl;exact hl
mutual
noncomputable def sv (N0:Nat) (rn:T Nat):AV→AV→Bool
  | .bool a,.bool b=>a == b
  | .int k a,.int k' b=>Nat.beq (kcode k) (kcode k') && a == b
  | .str n c,.str m d=>strEq n c m d
  | .nilp,.nilp=>true
  | .ptr x o,.ptr y p=>nm N0 rn x y && Nat.beq o p
  | .nils,.nils=>true
  | .sl x o n c,.sl y p m d=>nm N0 rn x y && (Nat.beq o p && (Nat.beq n m && Nat.beq c d))
  | .so x o n c,.so y p m d=>nm N0 rn x y && (Nat.beq o p && (Nat.beq n m && Nat.beq c d))
  | .nilm,.nilm=>true
  | .map x,.map y=>nm N0 rn x y
  | .fn (.func f) a b,.fn (.func g) c d=>Nat.beq f g && (svs N0 rn a c && svs N0 rn b d)
  | .nilf,.nilf=>true
  | .iface t v,.iface u x=>Nat.beq t u && sv N0 rn v x
  | .nili,.nili=>true
  | .agg l,.agg m=>svs N0 rn l m
  | .tup l,.tup m=>svs N0 rn l m
  | .gp x o,.gp y p=>Nat.beq x y && Nat.beq o p
  | .es,.es=>true
  | _,_=>false
noncomputable def svs (N0:Nat) (rn:T Nat):List AV→List AV→Bool
  | [],[]=>true
  | a::l,b::m=>sv N0 rn a b && svs N0 rn l m
  | _,_=>false
end
mutual
theorem sv_sound {T T':Tab} {μ:M} {N0:Nat} {rn:X.T Nat}:∀ (a b:AV) (v:Value),sv N0 rn a b=true→@vrel T μ a v→@vrel T' (ren N0 rn μ) b v
  | .bool _,b,v,hf,h=>by cases b<;>simp [sv] at hf;subst hf;simpa [vrel] using h
  | .int k n,b,v,hf,h=>by
    cases b<;>simp only [sv,Bool.and_eq_true,beq_iff_eq,Bool.false_eq_true] at hf
    rw [kcode_eq hf.1,hf.2] at h
    simpa [vrel] using h
  | .str _ _,b,v,hf,h=>by
    cases b<;>simp only [sv,strEq,Bool.and_eq_true,Bool.false_eq_true] at hf
    rw [Nat.eq_of_beq_eq_true hf.1,Nat.eq_of_beq_eq_true hf.2] at h
    simpa [vrel] using h
  | .nilp,b,v,hf,h=>by cases b<;>simp [sv] at hf;simpa [vrel] using h
  | .ptr x o,b,v,hf,h=>by
    cases b<;>simp only [sv,Bool.and_eq_true,Bool.false_eq_true] at hf
    rw [Nat.eq_of_beq_eq_true hf.2] at h
    simp only [vrel] at h ⊢
    obtain ⟨l,h1,h2⟩:=h
    exact ⟨l,nm_sound hf.1 h1,h2⟩
  | .nils,b,v,hf,h=>by cases b<;>simp [sv] at hf;simpa [vrel] using h
  | .sl x o n c,b,v,hf,h=>by
    cases b<;>simp only [sv,Bool.and_eq_true,Bool.false_eq_true] at hf
    rw [Nat.eq_of_beq_eq_true hf.2.1,Nat.eq_of_beq_eq_true hf.2.2.1,Nat.eq_of_beq_eq_true hf.2.2.2] at h
    simp only [vrel] at h ⊢
    obtain ⟨l,h1,h2⟩:=h
    exact ⟨l,nm_sound hf.1 h1,h2⟩
  | .so x o n z,b,v,hf,h=>by
    cases b<;>simp only [sv,Bool.and_eq_true,Bool.false_eq_true] at hf
    rw [Nat.eq_of_beq_eq_true hf.2.1,Nat.eq_of_beq_eq_true hf.2.2.1,Nat.eq_of_beq_eq_true hf.2.2.2] at h
    simp only [vrel] at h ⊢
    obtain ⟨l,c,h1,h2⟩:=h
    exact ⟨l,c,nm_sound hf.1 h1,h2⟩
  | .nilm,b,v,hf,h=>by cases b<;>simp [sv] at hf;simpa [vrel] using h
  | .map x,b,v,hf,h=>by
    cases b<;>simp only [sv,Bool.false_eq_true] at hf
    simp only [vrel] at h ⊢
    obtain ⟨l,h1,h2⟩:=h
    exact ⟨l,nm_sound hf h1,h2⟩
  | .fn f as bs,b,v,hf,h=>by
    cases b with
    | fn g cs ds =>
      cases f<;>cases g<;>simp only [sv,Bool.and_eq_true,Bool.false_eq_true] at hf
      simp only [vrel] at h ⊢
      obtain ⟨x,y,h1,h2,h3⟩:=h
      rw [Nat.eq_of_beq_eq_true hf.1] at h1
      exact ⟨x,y,h1,svs_sound as cs x hf.2.1 h2,svs_sound bs ds y hf.2.2 h3⟩
    | _=>cases f<;>simp [sv] at hf
  | .nilf,b,v,hf,h=>by cases b<;>simp [sv] at hf;simpa [vrel] using h
  | .iface t x,b,v,hf,h=>by
    cases b<;>simp only [sv,Bool.and_eq_true,Bool.false_eq_true] at hf
    simp only [vrel] at h ⊢
    obtain ⟨y,h1,h2⟩:=h
    rw [Nat.eq_of_beq_eq_true hf.1] at h1
    exact ⟨y,h1,sv_sound x _ y hf.2 h2⟩
  | .nili,b,v,hf,h=>by cases b<;>simp [sv] at hf;simpa [vrel] using h
  | .agg l,b,v,hf,h=>by
    cases b<;>simp only [sv,Bool.false_eq_true] at hf
    simp only [vrel] at h ⊢
    obtain ⟨cs,h1,h2⟩:=h
    exact ⟨cs,h1,svs_sound l _ cs hf h2⟩
  | .tup l,b,v,hf,h=>by
    cases b<;>simp only [sv,Bool.false_eq_true] at hf
    simp only [vrel] at h ⊢
    obtain ⟨cs,h1,h2⟩:=h
    exact ⟨cs,h1,svs_sound l _ cs hf h2⟩
  | .ostr _,b,v,hf,h=>by cases b<;>simp [sv] at hf
  | .rw _,b,v,hf,h=>by cases b<;>simp [sv] at hf
  | .gp _ _,b,v,hf,h=>by
    cases b<;>simp only [sv,Bool.and_eq_true,Bool.false_eq_true] at hf
    rw [Nat.eq_of_beq_eq_true hf.1,Nat.eq_of_beq_eq_true hf.2] at h
    simpa [vrel] using h
  | .oi _,b,v,hf,h=>by cases b<;>simp [sv] at hf
  | .es,b,v,hf,h=>by cases b<;>simp [sv] at hf;simpa [vrel] using h
  | .ov _ _ _,b,v,hf,h=>by cases b<;>simp [sv] at hf
  | .op _ _ _ _,b,v,hf,h=>by cases b<;>simp [sv] at hf
  | .fo _ _ _,b,v,hf,h=>by cases b<;>simp [sv] at hf
  | .fp _ _ _ _,b,v,hf,h=>by cases b<;>simp [sv] at hf
theorem svs_sound {T T':Tab} {μ:M} {N0:Nat} {rn:X.T Nat}:∀ (a b:List AV) (v:List Value),svs N0 rn a b=true→@vrels T μ a v→@vrels T' (ren N0 rn μ) b v
  | [],[],_,_,h=>by simpa [vrels] using h
  | [],_::_,_,hf,_=>by simp [svs] at hf
  | _::_,[],_,hf,_=>by simp [svs] at hf
  | a::l,b::m,_,hf,h=>by
    simp only [svs,Bool.and_eq_true] at hf
    simp only [vrels] at h ⊢
    obtain ⟨v,r,h1,h2,h3⟩:=h
    exact ⟨v,r,h1,sv_sound a b v hf.1 h2,svs_sound l m r hf.2 h3⟩
end
abbrev IP:=List (AV×Nat)
noncomputable def ipHas (a:AV) (i:Nat) (l:IP):Bool :=
  List.rec (motive:=fun _=>Bool) false (fun p _ ih=>Bool.rec ih (Bool.rec ih true (ieq p.1 a)) (Nat.beq p.2 i)) l
theorem ipHas_mem [Tab] {a:AV} {i:Nat}:∀ {l:IP},ipHas a i l=true→(a,i)∈l
  | [],h=>by have h':false=true:=h;cases h'
  | p :: l,h=>by
    have h':(@Bool.rec (fun _=>Bool) (ipHas a i l) (@Bool.rec (fun _=>Bool) (ipHas a i l) true (ieq p.1 a)) (Nat.beq p.2 i))=true:=h
    cases h1:Nat.beq p.2 i with
    | false=>rw [h1] at h';exact List.mem_cons_of_mem _ (ipHas_mem h')
    | true =>
    cases h2:ieq p.1 a with
    | false=>rw [h1,h2] at h';exact List.mem_cons_of_mem _ (ipHas_mem h')
    | true =>
      have:p=(a,i):=by rw [← ieq_eq h2,← nbeq_iff.1 h1]
      rw [← this]
      exact List.mem_cons_self
noncomputable def tpHas (a:AV) (i:Nat) (l:IP):Bool :=
  List.rec (motive:=fun _=>Bool) false (fun p _ ih=>Bool.rec ih (Bool.rec ih true (peq p.1 a)) (Nat.beq p.2 i)) l
theorem tpHas_mem [Tab] {a:AV} {i:Nat}:∀ {l:IP},tpHas a i l=true→(a,i)∈l
  | [],h=>by have h':false=true:=h;cases h'
  | p :: l,h=>by
    have h':(@Bool.rec (fun _=>Bool) (tpHas a i l) (@Bool.rec (fun _=>Bool) (tpHas a i l) true (peq p.1 a)) (Nat.beq p.2 i))=true:=h
    cases h1:Nat.beq p.2 i with
    | false=>rw [h1] at h';exact List.mem_cons_of_mem _ (tpHas_mem h')
    | true =>
    cases h2:peq p.1 a with
    | false=>rw [h1,h2] at h';exact List.mem_cons_of_mem _ (tpHas_mem h')
    | true =>
      have:p=(a,i):=by rw [← peq_eq h2,← nbeq_iff.1 h1]
      rw [← this]
      exact List.mem_cons_self
def isTx:AV→Bool
  | .str _ _=>true
  | .ostr _=>true
  | _=>false
structure Cv where
  N0:Nat
  N:Nat
  rn:T Nat
  ip:IP
noncomputable def foHas (i i':Nat) (l:IP):Bool :=
  List.rec (motive:=fun _=>Bool) false (fun p _ ih=>Bool.rec ih (match p.1 with
    | .fo x _ _=>Bool.rec ih true (Nat.beq x i)
    | _=>ih) (Nat.beq p.2 i')) l
def isNum:AV→Bool
  | .int _ _=>true
  | .oi _=>true
  | _=>false
noncomputable def cvV (C:Cv) (a a':AV):Bool :=
  match a' with
  | .fo i' j z=>match a with
    | .fo i k z'=>Nat.beq z' z && (foHas i i' C.ip && ipHas (.oi k) j C.ip)
    | _=>false
  | .oi i=>isNum a && ipHas a i C.ip
  | .ostr i=>isTx a && tpHas a i C.ip
  | .ov x j z=>match a with
    | .so y o n z'=>nm C.N0 C.rn y x && (Nat.beq o 0 && (Nat.beq z' z && ipHas (.int .i64 (n:Int)) j C.ip))
    | .ov y k z'=>nm C.N0 C.rn y x && (Nat.beq z' z && ipHas (.oi k) j C.ip)
    | _=>false
  | a'=>sv C.N0 C.rn a a'
def IpOk1 (T T':Tab) (p:AV×Nat):Prop :=
  match p.1 with
  | .fo i _ _=>T'.fb p.2=T.fb i∧T'.fcap p.2=T.fcap i
  | .ostr i=>T'.str p.2=T.str i
  | .str n c=>T'.str p.2=strOf n c
  | a=>denI T.iv a=some (T'.iv p.2)
def IpOk (T T':Tab) (ip:IP):Prop:=∀ p∈ip,IpOk1 T T' p
theorem foHas_mem {i i':Nat}:∀ {l:IP},foHas i i' l=true→∃ j z,(AV.fo i j z,i')∈l
  | [],h=>by have h':false=true:=h;cases h'
  | p :: l,h=>by
    have ih:=fun e=>let ⟨j,z,q⟩:=foHas_mem (i:=i) (i':=i') (l:=l) e;(⟨j,z,List.mem_cons_of_mem p q⟩:∃ j z,(AV.fo i j z,i')∈p::l)
    have h':(@Bool.rec (fun _=>Bool) (foHas i i' l) (match p.1 with
      | .fo x _ _=>@Bool.rec (fun _=>Bool) (foHas i i' l) true (Nat.beq x i)
      | _=>foHas i i' l) (Nat.beq p.2 i'))=true:=h
    cases h1:Nat.beq p.2 i' with
    | false=>rw [h1] at h';exact ih h'
    | true =>
      rw [h1] at h'
      have h2:(match p.1 with
        | .fo x _ _=>@Bool.rec (fun _=>Bool) (foHas i i' l) true (Nat.beq x i)
        | _=>foHas i i' l)=true:=h'
      split at h2
      · rename_i x j z hp
        cases h3:Nat.beq x i with
        | false=>rw [h3] at h2;exact ih h2
        | true =>
          refine ⟨j,z,?_⟩
          have:p=(.fo i j z,i'):=by rw [← Nat.eq_of_beq_eq_true h3,← hp,← Nat.eq_of_beq_eq_true h1]
          rw [← this];exact List.mem_cons_self
      · exact ih h2
theorem cvV_sound {T T':Tab} {C:Cv} (hip:IpOk T T' C.ip) {μ:M} {a a':AV} {v:Value} (h:cvV C a a'=true) (hv:@vrel T μ a v):@vrel T' (ren C.N0 C.rn μ) a' v:=by
  unfold cvV at h
  split at h
  · rename_i i' j z
    split at h
    · rename_i i k z'
      simp only [Bool.and_eq_true,nbeq_iff] at h
      obtain ⟨rfl,h1,h2⟩:=h
      obtain ⟨_,_,hm⟩:=foHas_mem h1
      obtain ⟨e1,e2⟩:=(show _∧_ from hip _ hm)
      have hm2:=hip _ (ipHas_mem h2)
      simp only [IpOk1,denI,Option.some.injEq] at hm2
      simp only [vrel] at hv ⊢
      rw [e1,e2,← hm2]
      exact hv
    · simp at h
  · rename_i i
    simp only [Bool.and_eq_true] at h
    have hm:=hip _ (ipHas_mem h.2)
    cases a<;>simp [isNum] at h<;>simp [IpOk1,denI] at hm
    · simp only [vrel] at hv ⊢;rw [hv,← hm]
    · simp only [vrel] at hv ⊢;rw [hv,← hm]
  · rename_i i
    simp only [Bool.and_eq_true] at h
    have hm:=hip _ (@tpHas_mem T _ _ _ h.2)
    cases a<;>simp [isTx] at h<;>simp only [IpOk1] at hm
    · simp only [vrel] at hv ⊢;rw [hv.2,← hm]
    · simp only [vrel] at hv ⊢;rw [hv,← hm]
  · rename_i x j z
    split at h
    · rename_i y o n z'
      simp only [Bool.and_eq_true,nbeq_iff,blt_iff] at h
      obtain ⟨hx,rfl,rfl,h⟩:=h
      have hm:=hip _ (ipHas_mem h)
      simp only [IpOk1,denI,Option.some.injEq] at hm
      simp only [vrel] at hv ⊢
      obtain ⟨l,c,h1,h2,h3,h4⟩:=hv
      refine ⟨by rw [← hm];exact ⟨rfl,Int.natCast_nonneg _⟩,l,c,nm_sound hx h1,?_,by simpa using h3,?_⟩
      · rw [← hm];simpa using h2
      · rw [← hm,h4];simp
    · rename_i y k z'
      simp only [Bool.and_eq_true,nbeq_iff,blt_iff] at h
      obtain ⟨hx,rfl,h⟩:=h
      have hm:=hip _ (ipHas_mem h)
      simp only [IpOk1,denI,Option.some.injEq] at hm
      simp only [vrel] at hv ⊢
      obtain ⟨h0,l,c,h1,h2,h3,h4⟩:=hv
      rw [← hm]
      exact ⟨h0,l,c,nm_sound hx h1,h2,h3,h4⟩
    · simp at h
  · exact sv_sound _ _ _ h hv
noncomputable def cvO (C:Cv) (free:Bool) (v v':Option AV):Bool :=
  match v',v with
  | some a',some a=>cvV C a a'
  | some _,none=>false
  | none,some _=>free
  | none,none=>true
noncomputable def isLeaf {α:Type} (t:T α):Bool:=T.rec (motive:=fun _=>Bool) true (fun _ _ _ _ _=>false) t
noncomputable def cvT (C:Cv) (free:Bool) (t':T AV):T AV→Bool :=
  T.rec (motive:=fun _=>T AV→Bool) (fun t=>free || isLeaf t)
    (fun _ v' _ ihl ihr t=>T.rec (motive:=fun _=>Bool) false (fun l v r _ _=>Bool.rec false (Bool.rec false (ihr r) (ihl l)) (cvO C free v v')) t) t'
theorem cvT_sound [Tab] {C:Cv} {free:Bool}:∀ (t' t:T AV),cvT C free t' t=true→∀ i,(∀ a',t'.get i=some a'→∃ a,t.get i=some a∧cvV C a a'=true)∧(free=false→t'.get i=none→t.get i=none)
  | .leaf,t,h,i=>by
    refine ⟨fun a' e=>by simp at e,fun hf _=>?_⟩
    have h':(free || isLeaf t)=true:=h
    rw [hf] at h'
    cases t with
    | leaf=>rfl
    | node l v r=>simp [isLeaf] at h'
  | .node l' v' r',.leaf,h,i=>by have h':false=true:=h;cases h'
  | .node l' v' r',.node l v r,h,i=>by
    have h':(@Bool.rec (fun _=>Bool) false (@Bool.rec (fun _=>Bool) false (cvT C free r' r) (cvT C free l' l)) (cvO C free v v'))=true:=h
    cases h1:cvO C free v v' with
    | false=>rw [h1] at h';simp at h'
    | true =>
    cases h2:cvT C free l' l with
    | false=>rw [h1,h2] at h';simp at h'
    | true =>
    rw [h1,h2] at h'
    have h3:cvT C free r' r=true:=h'
    rw [T.get_node,T.get_node]
    by_cases c0:i=0
    · rw [if_pos c0,if_pos c0]
      unfold cvO at h1
      refine ⟨fun a' e=>?_,fun hf e=>?_⟩
      · subst e
        cases v with
        | none=>simp at h1
        | some a=>exact ⟨a,rfl,by simpa using h1⟩
      · subst e
        cases v with
        | none=>rfl
        | some a=>simp [hf] at h1
    · rw [if_neg c0,if_neg c0]
      by_cases c1:i % 2=1
      · rw [if_pos c1,if_pos c1];exact cvT_sound l' l h2 _
      · rw [if_neg c1,if_neg c1];exact cvT_sound r' r h3 _
noncomputable def cvE (C:Cv):List (AV×AV×Nat)→List (AV×AV×Nat)→Bool
  | [],[]=>true
  | a::l,b::m=>cvV C a.1 b.1 && (cvV C a.2.1 b.2.1 && (Nat.beq a.2.2 b.2.2 && cvE C l m))
  | _,_=>false
theorem cvE_sound {T T':Tab} {C:Cv} (hip:IpOk T T' C.ip) {μ:M}:∀ {a b:List (AV×AV×Nat)} {es:List MapEntry},cvE C a b=true→@esrel T μ a es→@esrel T' (ren C.N0 C.rn μ) b es
  | [],[],_,_,h=>h
  | [],_::_,_,h,_=>by simp [cvE] at h
  | _::_,[],_,h,_=>by simp [cvE] at h
  | a::l,b::m,es,h,hr=>by
    simp only [cvE,Bool.and_eq_true,nbeq_iff] at h
    simp only [esrel] at hr ⊢
    obtain ⟨e,r,h1,h2,h3,h4,h5⟩:=hr
    exact ⟨e,r,h1,cvV_sound hip h.1 h2,cvV_sound hip h.2.1 h3,by rw [h4,h.2.2.1],cvE_sound hip h.2.2.2 h5⟩
noncomputable def cvB (C:Cv) (b b':Blk):Bool :=
  match b',b with
  | .cells n' p' z' t',.cells n p z t=>Nat.ble n' n && ((p == p') && ((z'.isEmpty || svs C.N0 C.rn z z') && cvT C z'.isEmpty t' t))
  | .map es' c',.map es c=>Nat.beq c c' && cvE C es es'
  | .siter n' c' p',.siter n c p=>Nat.beq n n' && (Nat.beq c c' && Nat.beq p p')
  | _,_=>false
theorem cvB_own {C:Cv} {b b':Blk} (h:cvB C b b'=true):own b=true∧own b'=true:=by
  unfold cvB at h
  split at h<;>first | exact ⟨rfl,rfl⟩ | simp at h
theorem svs_length {N0:Nat} {rn:T Nat}:∀ {a b:List AV},svs N0 rn a b=true→a.length=b.length
  | [],[],_=>rfl
  | [],_::_,h=>by simp [svs] at h
  | _::_,[],h=>by simp [svs] at h
  | a::l,b::m,h=>by
    simp only [svs,Bool.and_eq_true] at h
    simp [svs_length h.2]
theorem svs_get {N0:Nat} {rn:T Nat}:∀ {a b:List AV} {i:Nat} {x':AV},svs N0 rn a b=true→b[i]? = some x'→∃ x,a[i]? = some x∧sv N0 rn x x'=true
  | [],[],i,x',_,h=>by simp at h
  | [],_::_,_,_,h,_=>by simp [svs] at h
  | _::_,[],_,_,h,_=>by simp [svs] at h
  | a::l,b::m,0,x',h,e=>by
    simp only [svs,Bool.and_eq_true] at h
    simp at e;subst e
    exact ⟨a,rfl,h.1⟩
  | a::l,b::m,i+1,x',h,e=>by
    simp only [svs,Bool.and_eq_true] at h
    obtain ⟨x,h1,h2⟩:=svs_get (i:=i) h.2 (by simpa using e)
    exact ⟨x,by simpa using h1,h2⟩
theorem cvB_sound {T T':Tab} {C:Cv} (hip:IpOk T T' C.ip) {μ:M} {b b':Blk} {l:Loc} {w:World} (h:cvB C b b'=true) (hb:@brel T μ b l w):@brel T' (ren C.N0 C.rn μ) b' l w:=by
  unfold cvB at h
  split at h
  · rename_i n' p' z' t' n p z t
    simp only [Bool.and_eq_true,ble_iff,Bool.or_eq_true,beq_iff_eq] at h
    obtain ⟨h1,rfl,h2,h4⟩:=h
    obtain ⟨arr,el,fz,g1,g2,g3,g4,g5,g6⟩:=hb
    refine ⟨arr,el,fz,g1,g2,g3,by omega,g5,fun i a' hi ha'=>?_⟩
    obtain ⟨k1,k2⟩:=cvT_sound t' t h4 i
    unfold cellOf at ha'
    cases ht:t'.get i with
    | some u =>
      rw [ht] at ha'
      simp only [Option.some.injEq] at ha'
      subst ha'
      obtain ⟨a,e1,e2⟩:=k1 u ht
      obtain ⟨v,v1,v2⟩:=g6 i a (by omega) (by unfold cellOf;rw [e1])
      exact ⟨v,v1,cvV_sound hip e2 v2⟩
    | none =>
      rw [ht] at ha'
      have ha2:z'[i % z'.length]? = some a':=ha'
      cases hz:z'.isEmpty with
      | true =>
        have:z'=[]:=by simpa using hz
        subst this;simp at ha2
      | false =>
        rw [hz] at h2 k2
        simp only [Bool.false_eq_true,false_or] at h2
        have ht2:=k2 rfl ht
        obtain ⟨a,e1,e2⟩:=svs_get h2 ha2
        obtain ⟨v,v1,v2⟩:=g6 i a (by omega) (by unfold cellOf;rw [ht2,svs_length h2];exact e1)
        exact ⟨v,v1,sv_sound _ _ _ e2 v2⟩
  · rename_i es' c' es c
    simp only [Bool.and_eq_true,nbeq_iff] at h
    obtain ⟨rfl,h⟩:=h
    obtain ⟨es2,g1,g2⟩:=hb
    exact ⟨es2,g1,cvE_sound hip h g2⟩
  · simp only [Bool.and_eq_true,nbeq_iff] at h
    obtain ⟨rfl,rfl,rfl⟩:=h
    exact hb
  · simp at h
abbrev VP:=List (Nat×Blk×Nat)
def VpOk (T T':Tab) (C:Cv) (vp:VP):Prop:=∀ p∈vp,own p.2.1=true∧∀ μ l w,@brel T μ p.2.1 l w→@brel T' (ren C.N0 C.rn μ) (.vec p.2.2) l w
noncomputable def vpHas (x:Nat) (b:Blk) (i:Nat) (l:VP):Bool :=
  List.rec (motive:=fun _=>Bool) false (fun p _ ih=>Bool.rec ih (Bool.rec ih (Bool.rec ih true (beq? p.2.1 b)) (Nat.beq p.2.2 i)) (Nat.beq p.1 x)) l
theorem vpHas_mem [Tab] {x:Nat} {b:Blk} {i:Nat}:∀ {l:VP},vpHas x b i l=true→(x,b,i)∈l
  | [],h=>by have h':false=true:=h;cases h'
  | p :: l,h=>by
    have h':(@Bool.rec (fun _=>Bool) (vpHas x b i l) (@Bool.rec (fun _=>Bool) (vpHas x b i l) (@Bool.rec (fun _=>Bool) (vpHas x b i l) true (beq? p.2.1 b)) (Nat.beq p.2.2 i)) (Nat.beq p.1 x))=true:=h
    cases h1:Nat.beq p.1 x with
    | false=>rw [h1] at h';exact List.mem_cons_of_mem _ (vpHas_mem h')
    | true =>
    cases h2:Nat.beq p.2.2 i with
    | false=>rw [h1,h2] at h';exact List.mem_cons_of_mem _ (vpHas_mem h')
    | true =>
    cases h3:beq? p.2.1 b with
    | false=>rw [h1,h2,h3] at h';exact List.mem_cons_of_mem _ (vpHas_mem h')
    | true =>
      have:p=(x,b,i):=by rw [← beq_eq h3,← nbeq_iff.1 h1,← nbeq_iff.1 h2]
      rw [← this]
      exact List.mem_cons_self
noncomputable def ofPairs {α:Type} (l:List (Nat×α)):T α:=List.rec (motive:=fun _=>T α) .leaf (fun p _ ih=>ih.put p.1 p.2) l
abbrev BS:=List (Nat×Nat×Blk)
noncomputable def bsOf (bs:BS):List (Nat×Blk):=List.rec (motive:=fun _=>List (Nat×Blk)) [] (fun p _ ih=>(p.1,p.2.2)::ih) bs
noncomputable def hOf (N:Nat) (bs:BS):H:=fT (ofPairs (bsOf bs)) fun t=>⟨N,t⟩
noncomputable def frOf (fs:List (Nat×AV)):Fr:=ofPairs fs
theorem ofPairs_get {α:Type}:∀ {l:List (Nat×α)} {x:Nat} {b:α},(∀ p∈l,p.1<limit)→(ofPairs l).get x=some b→(x,b)∈l
  | [],x,b,_,h=>by simp [ofPairs] at h
  | p :: l,x,b,hl,h=>by
    have h':((ofPairs l).put p.1 p.2).get x=some b:=h
    rw [T.get_put _ _ _ _ (by have:=hl p (by simp);unfold limit at this;omega)] at h'
    split at h'
    · rename_i e
      cases h'
      have:p=(x,p.2):=by rw [e]
      rw [← this];exact List.mem_cons_self
    · exact List.mem_cons_of_mem _ (ofPairs_get (fun q hq=>hl q (by simp [hq])) h')
noncomputable def okBs (C:Cv) (vp:VP) (h:H) (bs:BS):T Nat→Bool :=
  List.rec (motive:=fun _=>T Nat→Bool) (fun _=>true) (fun p _ ih seen=>Bool.rec false (Option.rec (Bool.rec false (fT (seen.put p.2.1 0) fun s=>ih s) (Option.rec false (fun b=>match p.2.2 with
    | .vec i=>vpHas p.2.1 b i vp
    | b'=>cvB C b b') (h.get p.2.1))) (fun _=>false) (seen.get p.2.1)) (Nat.blt p.1 C.N && (Nat.blt p.1 limit && (Nat.blt p.2.1 limit && nm C.N0 C.rn p.2.1 p.1)))) bs
noncomputable def okFs (C:Cv) (fr:Fr) (fs:List (Nat×AV)):Bool :=
  List.rec (motive:=fun _=>Bool) true (fun p _ ih=>Bool.rec false (Bool.rec false ih (Option.rec false (fun a=>cvV C a p.2) (fr.get p.1))) (Nat.blt p.1 limit)) fs
theorem okBs_mem [Tab] {C:Cv} {vp:VP} {h:H}:∀ {bs:BS} {seen:T Nat},okBs C vp h bs seen=true→(∀ p∈bs,seen.get p.2.1=none∧p.1<C.N∧p.1<limit∧nm C.N0 C.rn p.2.1 p.1=true∧∃ b,h.get p.2.1=some b∧(cvB C b p.2.2=true∨∃ i,p.2.2 = .vec i∧(p.2.1,b,i)∈vp)) ∧
    bs.Pairwise fun p q=>p.2.1≠q.2.1
  | [],_,_=>⟨fun p hp=>by simp at hp,List.Pairwise.nil⟩
  | q :: l,seen,e=>by
    have e':(@Bool.rec (fun _=>Bool) false (@Option.rec Nat (fun _=>Bool) (@Bool.rec (fun _=>Bool) false (fT (seen.put q.2.1 0) fun s=>okBs C vp h l s) (@Option.rec Blk (fun _=>Bool) false (fun b=>match q.2.2 with
      | .vec i=>vpHas q.2.1 b i vp
      | b'=>cvB C b b') (h.get q.2.1))) (fun _=>false) (seen.get q.2.1)) (Nat.blt q.1 C.N && (Nat.blt q.1 limit && (Nat.blt q.2.1 limit && nm C.N0 C.rn q.2.1 q.1))))=true:=e
    cases h1:(Nat.blt q.1 C.N && (Nat.blt q.1 limit && (Nat.blt q.2.1 limit && nm C.N0 C.rn q.2.1 q.1))) with
    | false=>rw [h1] at e';simp at e'
    | true =>
    rw [h1] at e'
    simp only [Bool.and_eq_true] at h1
    cases hs:seen.get q.2.1 with
    | some n=>rw [hs] at e';simp at e'
    | none =>
    rw [hs] at e'
    cases hg:h.get q.2.1 with
    | none=>rw [hg] at e';simp at e'
    | some b =>
    rw [hg] at e'
    cases h2:(match q.2.2 with
      | .vec i=>vpHas q.2.1 b i vp
      | b'=>cvB C b b') with
    | false=>simp only [h2] at e';simp at e'
    | true =>
    simp only [h2,fT_eq] at e'
    obtain ⟨k1,k2⟩:=okBs_mem (bs:=l) e'
    have hlim:q.2.1<16000000:=by have:=blt_iff.1 h1.2.2.1;unfold limit at this;omega
    refine ⟨fun p hp=>?_,List.Pairwise.cons (fun p hp=>?_) k2⟩
    · simp only [List.mem_cons] at hp
      rcases hp with rfl | hp
      · refine ⟨hs,blt_iff.1 h1.1,blt_iff.1 h1.2.1,h1.2.2.2,b,hg,?_⟩
        split at h2
        · rename_i i hq
          exact .inr ⟨i,hq,vpHas_mem h2⟩
        · exact .inl h2
      · obtain ⟨g1,g2⟩:=k1 p hp
        refine ⟨?_,g2⟩
        rw [T.get_put _ _ _ _ hlim] at g1
        split at g1
        · simp at g1
        · exact g1
    · have g1:=(k1 p hp).1
      rw [T.get_put _ _ _ _ hlim] at g1
      intro e
      rw [if_pos e.symm] at g1
      simp at g1
theorem okFs_mem [Tab] {C:Cv} {fr:Fr}:∀ {fs:List (Nat×AV)},okFs C fr fs=true→∀ p∈fs,p.1<limit∧∃ a,fr.get p.1=some a∧cvV C a p.2=true
  | [],_,p,hp=>by simp at hp
  | q::l,e,p,hp=>by
    have e':(@Bool.rec (fun _=>Bool) false (@Bool.rec (fun _=>Bool) false (okFs C fr l) (@Option.rec AV (fun _=>Bool) false (fun a=>cvV C a q.2) (fr.get q.1))) (Nat.blt q.1 limit))=true:=e
    cases h1:Nat.blt q.1 limit with
    | false=>rw [h1] at e';simp at e'
    | true =>
    rw [h1] at e'
    cases hg:fr.get q.1 with
    | none=>rw [hg] at e';simp at e'
    | some a =>
    rw [hg] at e'
    cases h2:cvV C a q.2 with
    | false=>simp only [h2] at e';simp at e'
    | true =>
    simp only [h2] at e'
    simp only [List.mem_cons] at hp
    rcases hp with rfl | hp
    · exact ⟨blt_iff.1 h1,a,hg,h2⟩
    · exact okFs_mem e' p hp
variable {P:Program} {B:Kp} {w0:World} {μ0:M} {N0 nt:Nat} {a:Act} {w:World}
def St (T:Tab) (B:Kp) (w0:World) (μ0:M) (nt:Nat) (fr:Fr) (h:H) (a:Act) (w:World):Prop:=∃ μ,Ext μ0 μ∧@FR T μ nt fr a∧@HR T B w0 μ h w
structure Base (B:Kp) (μ0:M) (N0:Nat):Prop where
  names:∀ x l,μ0 x=some l→x<N0
  res:∀ x,B.res x→x<N0
theorem Base.none (n:Nat):Base (Kp.below n) (fun _=>Option.none) 0:=⟨fun x l h=>by simp at h,fun x h=>h.elim⟩
theorem HR.parts [Tab] {μ:M} {h:H} (r:HR B w0 μ h w):(w.os=w0.os∧w.tape=w0.tape∧w.output=w0.output∧w0.heap.size≤w.heap.size∧(∀ k,B.kept k→w.heap[k]? = w0.heap[k]?)∧(∀ k,B.kept k→k<w0.heap.size))∧Gl B w0 ∧
    (∀ x,B.res x→x<h.next∧μ x=none)∧(∀ x b,h.get x=some b→∃ l,μ x=some l∧(own b=true→¬ B.kept l.block)∧(own b=false→B.glob l.block)∧brel μ b l w) ∧
    (∀ x y b c l k,h.get x=some b→h.get y=some c→x≠y→own b=true→own c=true→μ x=some l→μ y=some k→l.block≠k.block) :=
  ⟨⟨r.below.os,r.below.tape,r.below.output,r.below.size,r.below.block,r.below.old⟩,r.below.glb,r.res,r.blk,r.sep⟩
theorem pw_all:∀ {bs:BS},bs.Pairwise (fun p q=>p.2.1≠q.2.1)→∀ p∈bs,∀ q∈bs,p≠q→p.2.1≠q.2.1
  | [],_,p,hp,_,_,_=>by simp at hp
  | r :: l,h,p,hp,q,hq,hne=>by
    cases h with
    | cons h1 h2 =>
      simp only [List.mem_cons] at hp hq
      rcases hp with rfl | hp
      · rcases hq with rfl | hq
        · exact absurd rfl hne
        · exact h1 q hq
      · rcases hq with rfl | hq
        · exact (h1 p hp).symm
        · exact pw_all h2 p hp q hq hne
theorem bsOf_mem:∀ {bs:BS} {q:Nat×Blk},q∈bsOf bs→∃ o,(q.1,o,q.2)∈bs
  | [],q,h=>by simp [bsOf] at h
  | p :: l,q,h=>by
    have h':q∈(p.1,p.2.2)::bsOf l:=h
    simp only [List.mem_cons] at h'
    rcases h' with rfl | h'
    · exact ⟨p.2.1,List.mem_cons_self⟩
    · obtain ⟨o,ho⟩:=bsOf_mem h'
      exact ⟨o,List.mem_cons_of_mem _ ho⟩
noncomputable def okRn (C:Cv) (rl:List (Nat×Nat)):Bool:=List.rec (motive:=fun _=>Bool) true (fun p _ ih=>Bool.rec false ih (Nat.blt p.1 C.N && Nat.blt p.1 limit)) rl
theorem okRn_mem [Tab] {C:Cv}:∀ {rl:List (Nat×Nat)},okRn C rl=true→∀ p∈rl,p.1<C.N∧p.1<limit
  | [],_,p,hp=>by simp at hp
  | q::l,e,p,hp=>by
    have e':(@Bool.rec (fun _=>Bool) false (okRn C l) (Nat.blt q.1 C.N && Nat.blt q.1 limit))=true:=e
    cases h1:(Nat.blt q.1 C.N && Nat.blt q.1 limit) with
    | false=>rw [h1] at e';simp at e'
    | true =>
    rw [h1] at e'
    simp only [Bool.and_eq_true] at h1
    simp only [List.mem_cons] at hp
    rcases hp with rfl | hp
    · exact ⟨blt_iff.1 h1.1,blt_iff.1 h1.2⟩
    · exact okRn_mem e' p hp
theorem St.weak {T T':Tab} {fr:Fr} {h:H} {C:Cv} (hb:Base B μ0 C.N0) (hN:C.N0≤C.N) {rl:List (Nat×Nat)} (hrl:C.rn=ofPairs rl) (hrk:okRn C rl=true) (hip:IpOk T T' C.ip) {vp:VP} (hvp:VpOk T T' C vp) (hgl:@Gl T B w0→@Gl T' B w0) {fs:List (Nat×AV)} {bs:BS}
    (hf:okFs C fr fs=true) (hh:okBs C vp h bs .leaf=true) (s:St T B w0 μ0 nt fr h a w):St T' B w0 μ0 nt (frOf fs) (hOf C.N bs) a w:=by
  obtain ⟨μ,hx,f,r⟩:=s
  obtain ⟨⟨e1,e2,e3,e4,e5,e6⟩,eg,eres,eblk,esep⟩:=@HR.parts B w0 w T μ h r
  obtain ⟨hm,hpw⟩:=okBs_mem hh
  have key:∀ x b',(hOf C.N bs).get x=some b'→∃ o b,(x,o,b')∈bs∧x<C.N∧nm C.N0 C.rn o x=true∧h.get o=some b∧own b=true∧own b'=true∧∀ l,@brel T μ b l w→@brel T' (ren C.N0 C.rn μ) b' l w:=by
    intro x b' hx
    have hx':(ofPairs (bsOf bs)).get x=some b':=by unfold hOf at hx;rw [fT_eq] at hx;exact hx
    have h1:=ofPairs_get (fun p hp=>by obtain ⟨o,ho⟩:=bsOf_mem hp;exact (hm _ ho).2.2.1) hx'
    obtain ⟨o,ho⟩:=bsOf_mem h1
    have ho:(x,o,b')∈bs:=ho
    obtain ⟨_,g1,_,g4,b,g2,g3⟩:=hm _ ho
    refine ⟨o,b,ho,g1,g4,g2,?_⟩
    rcases g3 with g3 | ⟨i,g3,g4⟩
    · have:=cvB_own g3
      exact ⟨this.1,this.2,fun l hl=>cvB_sound hip g3 hl⟩
    · have:=hvp _ g4
      have g3:b' = .vec i:=g3
      subst g3
      exact ⟨this.1,rfl,fun l hl=>this.2 μ l w hl⟩
  refine ⟨ren C.N0 C.rn μ,fun x l hl=>?_,⟨f.1,f.2.1,fun t v ht=>?_⟩,⟨⟨e1,e2,e3,e4,e5,e6,hgl eg⟩,fun x hx'=>?_,fun x hr=>?_,fun x b' hb'=>?_,fun x y b c l k hx' hy hne ho ho2 hl hk=>?_⟩⟩
  · unfold ren;rw [if_pos (hb.names x l hl)];exact hx x l hl
  · have hm:=okFs_mem hf
    have:=ofPairs_get (fun p hp=>(hm p hp).1) ht
    obtain ⟨_,u,g1,g2⟩:=hm _ this
    obtain ⟨v',e1,e2⟩:=f.2.2 t u g1
    exact ⟨v',e1,cvV_sound hip g2 e2⟩
  · have hx2:C.N≤x:=by unfold hOf at hx';rw [fT_eq] at hx';exact hx'
    refine ⟨?_,?_⟩
    · cases hg:(hOf C.N bs).get x with
      | none=>rfl
      | some b=>obtain ⟨_,_,_,h1,_⟩:=key x b hg;omega
    · unfold ren
      rw [if_neg (by omega)]
      cases hg:C.rn.get x with
      | none=>rfl
      | some y =>
        rw [hrl] at hg
        have h1:=okRn_mem hrk
        have h2:=ofPairs_get (fun p hp=>(h1 p hp).2) hg
        have h3:=(h1 _ h2).1
        dsimp only at h3
        omega
  · have:=hb.res x hr
    refine ⟨by unfold hOf;rw [fT_eq];show x<C.N;omega,?_⟩
    unfold ren
    rw [if_pos this]
    exact (eres x hr).2
  · obtain ⟨o,b,_,g1,g0,g2,g3,g4,g5⟩:=key x b' hb'
    obtain ⟨l,k1,k2,_,k4⟩:=eblk o b g2
    exact ⟨l,nm_sound g0 k1,fun _=>k2 g3,fun e=>(by rw [g4] at e;cases e),g5 l k4⟩
  · obtain ⟨o1,b1,m1,_,n1,g2,g3,_⟩:=key x b hx'
    obtain ⟨o2,c1,m2,_,n2,k2,k3,_⟩:=key y c hy
    have hne2:o1≠o2:=by
      intro e
      have:∀ p∈bs,∀ q∈bs,p≠q→p.2.1≠q.2.1:=pw_all hpw
      exact this _ m1 _ m2 (fun e=>hne (by injection e)) e
    exact esep o1 o2 b1 c1 l k g2 k2 hne2 g3 k3 (nm_of n1 hl) (nm_of n2 hk)
theorem St.run {T:Tab} {fr:Fr} {h:H} (hm:P.follows .mixedOrders=true) {K:Hand} (hK:@HandOk T P K) {n:Nat} {c:Code} {l:List (Ex×Fr×H)} (e:(@run? T P K n).run nt c fr h=some l) (s:St T B w0 μ0 nt fr h a w) :
    c.wp P (fun e' a' w'=>∃ q∈l,e'=q.1.to∧St T B w0 μ0 nt q.2.1 q.2.2 a' w') a w:=by
  obtain ⟨μ,hx,f,r⟩:=s
  refine wp_mono ((@run_sound T P K hm hK n).1.run nt c fr h l e B w0 μ a w f r) ?_
  rintro e' a' w' ⟨q,hq,h1,μ',h2,h3,h4⟩
  exact ⟨q,hq,h1,μ',hx.trans h2,h3,h4⟩
noncomputable def runTo (T:Tab) (P:Program) (K:Hand) (n nt:Nat) (c:Code) (fr:Fr) (h:H) (ex:Ex) (C:Cv) (vp:VP) (fs:List (Nat×AV)) (bs:BS):Bool :=
  Option.rec false (fun l=>List.rec (motive:=fun _=>Bool) true (fun q _ ih=>Bool.rec false (Bool.rec false (Bool.rec false ih (okBs C vp q.2.2 bs .leaf)) (okFs C q.2.1 fs)) (exEq q.1 ex)) l) ((@run? T P K n).run nt c fr h)
theorem runTo_sound {T T':Tab} {fr:Fr} {h:H} (hm:P.follows .mixedOrders=true) {K:Hand} (hK:@HandOk T P K) {n:Nat} {c:Code} {C:Cv} (hb:Base B μ0 C.N0) {ex:Ex} (hN:C.N0≤C.N) {rl:List (Nat×Nat)} (hrl:C.rn=ofPairs rl) (hrk:okRn C rl=true) (hip:IpOk T T' C.ip) {vp:VP} (hvp:VpOk T T' C vp)
    (hgl:@Gl T B w0→@Gl T' B w0) {fs:List (Nat×AV)} {bs:BS} (e:runTo T P K n nt c fr h ex C vp fs bs=true) (s:St T B w0 μ0 nt fr h a w) :
    c.wp P (fun e' a' w'=>e'=ex.to∧St T' B w0 μ0 nt (frOf fs) (hOf C.N bs) a' w') a w:=by
  cases hr:(@run? T P K n).run nt c fr h with
  | none=>unfold runTo at e;rw [hr] at e;simp at e
  | some l =>
    unfold runTo at e
    rw [hr] at e
    refine wp_mono (s.run hm hK hr) ?_
    rintro e' a' w' ⟨q,hq,rfl,s'⟩
    have gen:∀ (l:List (Ex×Fr×H)),(List.rec (motive:=fun _=>Bool) true (fun q _ ih=>Bool.rec false (Bool.rec false (Bool.rec false ih (okBs C vp q.2.2 bs .leaf)) (okFs C q.2.1 fs)) (exEq q.1 ex)) l:Bool)=true→∀ q∈l,q.1=ex∧okFs C q.2.1 fs=true∧okBs C vp q.2.2 bs .leaf=true:=by
      intro l
      induction l with
      | nil=>intro _ q hq;simp at hq
      | cons p l ih =>
        intro e q hq
        have e':(@Bool.rec (fun _=>Bool) false (@Bool.rec (fun _=>Bool) false (@Bool.rec (fun _=>Bool) false (List.rec (motive:=fun _=>Bool) true (fun q _ ih=>Bool.rec false (Bool.rec false (Bool.rec false ih (okBs C vp q.2.2 bs .leaf)) (okFs C q.2.1 fs)) (exEq q.1 ex)) l) (okBs C vp p.2.2 bs .leaf)) (okFs C p.2.1 fs)) (exEq p.1 ex))=true:=e
        cases h1:exEq p.1 ex with
        | false=>rw [h1] at e';simp at e'
        | true =>
        cases h2:okFs C p.2.1 fs with
        | false=>rw [h1,h2] at e';simp at e'
        | true =>
        cases h3:okBs C vp p.2.2 bs .leaf with
        | false=>rw [h1,h2,h3] at e';simp at e'
        | true =>
        rw [h1,h2,h3] at e'
        simp only [List.mem_cons] at hq
        rcases hq with rfl | hq
        · exact ⟨exEq_eq h1,h2,h3⟩
        · exact ih e' q hq
    obtain ⟨g1,g2,g3⟩:=gen l e q hq
    exact ⟨by rw [g1],s'.weak hb hN hrl hrk hip hvp hgl g2 g3⟩
noncomputable def runTrue (T:Tab) (P:Program) (K:Hand) (n:Nat) (fn:Func) (c:Code) (fr:Fr) (h:H):Bool :=
  Option.rec false (fun l=>List.rec (motive:=fun _=>Bool) true (fun q _ ih=>Bool.rec false ih (isT (Option.rec none (fun p=>some p.1) (leaves P fn q.1 q.2.1 q.2.2)))) l) ((@run? T P K n).run fn.ntmps c fr h)
def Yes (P:Program) (fn:Func) (B:Kp) (w0:World) (e':Exit) (a':Act) (w':World):Prop :=
  (e' = .normal∨e' = .ret)∧a'.defers=[]∧(w'.os=w0.os∧w'.tape=w0.tape∧w'.output=w0.output∧w0.heap.size≤w'.heap.size∧∀ k,B.kept k→w'.heap[k]? = w0.heap[k]?)∧(results fn a'.tmps).run P w' = .ok (.bool true) w'
theorem isT_eq {o:Option AV} (h:isT o=true):o=some (.bool true):=by
  unfold isT at h
  split at h
  · rfl
  · simp at h
theorem runTrue_sound [T:Tab] {fr:Fr} {h:H} (hm:P.follows .mixedOrders=true) {K:Hand} (hK:HandOk P K) {n:Nat} {fn:Func} {c:Code} (e:runTrue T P K n fn c fr h=true) (s:St T B w0 μ0 fn.ntmps fr h a w) :
    c.wp P (Yes P fn B w0) a w:=by
  cases hr:(run? P K n).run fn.ntmps c fr h with
  | none=>unfold runTrue at e;rw [hr] at e;simp at e
  | some l =>
    unfold runTrue at e
    rw [hr] at e
    refine wp_mono (s.run hm hK hr) ?_
    rintro e' a' w' ⟨q,hq,rfl,μ,_,f,r⟩
    have gen:∀ (l:List (Ex×Fr×H)),(List.rec (motive:=fun _=>Bool) true (fun q _ ih=>Bool.rec false ih (isT (Option.rec none (fun p=>some p.1) (leaves P fn q.1 q.2.1 q.2.2)))) l:Bool)=true→∀ q∈l,∃ h',leaves P fn q.1 q.2.1 q.2.2=some (.bool true,h'):=by
      intro l
      induction l with
      | nil=>intro _ q hq;simp at hq
      | cons p l ih =>
        intro e q hq
        have e':(@Bool.rec (fun _=>Bool) false (List.rec (motive:=fun _=>Bool) true (fun q _ ih=>Bool.rec false ih (isT (Option.rec none (fun p=>some p.1) (leaves P fn q.1 q.2.1 q.2.2)))) l) (isT (Option.rec none (fun p=>some p.1) (leaves P fn p.1 p.2.1 p.2.2))))=true:=e
        cases h1:isT (Option.rec none (fun p=>some p.1) (leaves P fn p.1 p.2.1 p.2.2)) with
        | false=>rw [h1] at e';simp at e'
        | true =>
        rw [h1] at e'
        simp only [List.mem_cons] at hq
        rcases hq with rfl | hq
        · have:=isT_eq h1
          cases hl:leaves P fn q.1 q.2.1 q.2.2 with
          | none=>rw [hl] at this;simp at this
          | some u =>
            rw [hl] at this
            simp only [Option.some.injEq] at this
            exact ⟨u.2,by rw [← this]⟩
        · exact ih e' q hq
    obtain ⟨h',hl⟩:=gen l e q hq
    obtain ⟨⟨e1,e2,e3,e4,e5,_⟩,_⟩:=r.parts
    obtain ⟨ex,fr1,h1⟩:=q
    cases ex with
    | normal =>
      obtain ⟨v,hv,e⟩:=ob_some (show ob _ _=_ from hl)
      cases e
      obtain ⟨v',k1,k2⟩:=results_sound (P:=P) f r hv
      simp only [vrel] at k2
      subst k2
      exact ⟨.inl rfl,f.2.1,⟨e1,e2,e3,e4,e5⟩,k1⟩
    | ret =>
      obtain ⟨v,hv,e⟩:=ob_some (show ob _ _=_ from hl)
      cases e
      obtain ⟨v',k1,k2⟩:=results_sound (P:=P) f r hv
      simp only [vrel] at k2
      subst k2
      exact ⟨.inr rfl,f.2.1,⟨e1,e2,e3,e4,e5⟩,k1⟩
    | exit id=>simp [leaves] at hl
theorem St.start [τ:Tab] {args:List AV} {args':Array Value} {n:Nat} (w:World) (hg:Gl (Kp.below w.heap.size) w) (ha:vrels (fun _=>none) args args'.toList) (hl:args.length≤n) (hlim:args.length<limit) :
    St τ (Kp.below w.heap.size) w (fun _=>none) n (T.ofList 0 .leaf args) H.empty { tmps:=args'++Array.replicate (n - args'.size) undef,defers:=[] } w:=by
  refine ⟨fun _=>none,Ext.refl _,⟨?_,rfl,fun t v ht=>?_⟩,HR.start w hg⟩
  · have hlen:args'.size=args.length:=by rw [← Array.length_toList,vrels_length ha]
    simp;omega
  · have hlen:args'.size=args.length:=by rw [← Array.length_toList,vrels_length ha]
    rw [T.get_ofList _ _ _ _ (by unfold limit at hlim;omega)] at ht
    split at ht
    · rename_i hc
      simp only [Nat.sub_zero] at ht
      obtain ⟨v',g1,g2⟩:=vrels_get ha ht
      refine ⟨v',?_,g2⟩
      rw [Array.getElem?_append_left (by omega),← Array.getElem?_toList]
      exact g1
    · simp at ht
theorem yes_calls {f:FuncId} {fn:Func} {body:Code} {args':Array Value} (hf:P.funcs[f]? = some fn) (hb:fn.body=some body) (w:World)
    (h:body.wp P (Yes P fn (Kp.below w.heap.size) w) { tmps:=args'++Array.replicate (fn.ntmps - args'.size) undef,defers:=[] } w) :
    Calls P f args' w fun e w'=>e = .returned (.bool true)∧Below w.heap.size w w':=by
  refine calls_of_wp hf hb (wp_mono h ?_)
  rintro e' a' w' ⟨he,hd,⟨e1,e2,e3,e4,e5⟩,hr⟩
  rcases he with rfl | rfl
  · exact ⟨hd,.bool true,hr,rfl,⟨e1,e2,e3,e4,e5⟩⟩
  · exact ⟨hd,.bool true,hr,rfl,⟨e1,e2,e3,e4,e5⟩⟩
def firstn:Nat→Code→Code
  | n+1,.seq a b => .seq a (firstn n b)
  | _,_ => .skip
def restn:Nat→Code→Code
  | n+1,.seq _ b=>restn n b
  | _,c=>c
theorem split_sound [Tab] (hm:P.follows .mixedOrders=true) {K:Hand} (hK:HandOk P K) {Q:Exit→Act→World→Prop}:∀ (n m:Nat) (c:Code) (fr:Fr) (h:H) (l:List (Ex×Fr×H)) (μ:M) (a:Act) (w:World),
    (run? P K m).run nt (firstn n c) fr h=some l→FR μ nt fr a→HR B w0 μ h w →
    (∀ q∈l,∀ e' a' w',Post B w0 μ nt q.1 q.2.1 q.2.2 e' a' w'→match q.1 with
      | .normal=>(restn n c).wp P Q a' w'
      | e=>Q e.to a' w')→c.wp P Q a w:=by
  intro n
  induction n with
  | zero =>
    intro m c fr h l μ a w e f r hq
    cases m with
    | zero=>have e':(none:Out)=some l:=e;cases e'
    | succ m =>
      have e':some [(Ex.normal,fr,h)]=some l:=by cases c<;>exact e
      cases e'
      have:=hq _ (List.mem_singleton.2 rfl) .normal a w ⟨rfl,μ,Ext.refl _,f,r⟩
      cases c<;>exact this
  | succ n ih =>
    intro m c fr h l μ a w e f r hq
    cases m with
    | zero=>have e':(none:Out)=some l:=e;cases e'
    | succ m =>
      cases c with
      | seq x y =>
        have e':sSeq x (firstn n y) P (run? P K m) nt fr h=some l:=e
        obtain ⟨l1,hl1,hsub⟩:=obL_some e'
        refine wp_seq (wp_mono ((run_sound hm hK m).1.run nt x fr h l1 hl1 B w0 μ a w f r) ?_)
        rintro e' a' w' ⟨⟨e1,fr1,h1⟩,hmem,rfl,μ1,g1,g2,g3⟩
        obtain ⟨l2,hl2,hs2⟩:=hsub _ hmem
        have hl2:seqD (firstn n y) (run? P K m) nt e1 fr1 h1=some l2:=hl2
        cases e1 with
        | normal =>
          have hl3:(run? P K m).run nt (firstn n y) fr1 h1=some l2:=hl2
          refine ih m y fr1 h1 l2 μ1 a' w' hl3 g2 g3 fun q hq2 e2 a2 w2 p2=>?_
          exact hq q (hs2 q hq2) e2 a2 w2 (p2.up g1)
        | exit id =>
          have hl3:some [(Ex.exit id,fr1,h1)]=some l2:=hl2
          cases hl3
          exact hq _ (hs2 _ (List.mem_singleton.2 rfl)) (.exit id) a' w' ⟨rfl,μ1,g1,g2,g3⟩
        | ret =>
          have hl3:some [(Ex.ret,fr1,h1)]=some l2:=hl2
          cases hl3
          exact hq _ (hs2 _ (List.mem_singleton.2 rfl)) .ret a' w' ⟨rfl,μ1,g1,g2,g3⟩
      | _ =>
        have e':some [(Ex.normal,fr,h)]=some l:=e
        cases e'
        exact hq _ (List.mem_singleton.2 rfl) .normal a w ⟨rfl,μ,Ext.refl _,f,r⟩
noncomputable def okOuts (C:Cv) (vp:VP) (ex:Ex) (fs:List (Nat×AV)) (bs:BS) (l:List (Ex×Fr×H)):Bool :=
  List.rec (motive:=fun _=>Bool) true (fun q _ ih=>Bool.rec false (Bool.rec false (Bool.rec false ih (okBs C vp q.2.2 bs .leaf)) (okFs C q.2.1 fs)) (exEq q.1 ex)) l
theorem okOuts_mem [Tab] {C:Cv} {vp:VP} {ex:Ex} {fs:List (Nat×AV)} {bs:BS}:∀ {l:List (Ex×Fr×H)},okOuts C vp ex fs bs l=true→∀ q∈l,q.1=ex∧okFs C q.2.1 fs=true∧okBs C vp q.2.2 bs .leaf=true
  | [],_,q,hq=>by simp at hq
  | p::l,e,q,hq=>by
    have e':(@Bool.rec (fun _=>Bool) false (@Bool.rec (fun _=>Bool) false (@Bool.rec (fun _=>Bool) false (okOuts C vp ex fs bs l) (okBs C vp p.2.2 bs .leaf)) (okFs C p.2.1 fs)) (exEq p.1 ex))=true:=e
    cases h1:exEq p.1 ex with
    | false=>rw [h1] at e';simp at e'
    | true =>
    cases h2:okFs C p.2.1 fs with
    | false=>rw [h1,h2] at e';simp at e'
    | true =>
    cases h3:okBs C vp p.2.2 bs .leaf with
    | false=>rw [h1,h2,h3] at e';simp at e'
    | true =>
    rw [h1,h2,h3] at e'
    simp only [List.mem_cons] at hq
    rcases hq with rfl | hq
    · exact ⟨exEq_eq h1,h2,h3⟩
    · exact okOuts_mem e' q hq
noncomputable def firstTo (T:Tab) (P:Program) (K:Hand) (m nt n:Nat) (c:Code) (fr:Fr) (h:H) (C:Cv) (vp:VP) (fs:List (Nat×AV)) (bs:BS):Bool :=
  Option.rec false (okOuts C vp .normal fs bs) ((@run? T P K m).run nt (firstn n c) fr h)
theorem firstTo_run [T:Tab] {fr:Fr} {h:H} (hm:P.follows .mixedOrders=true) {K:Hand} (hK:HandOk P K) {m n:Nat} {c:Code} {C:Cv} {vp:VP} {fs:List (Nat×AV)} {bs:BS} (e:firstTo T P K m nt n c fr h C vp fs bs=true) (s:St T B w0 μ0 nt fr h a w) {Q:Exit→Act→World→Prop}
    (hQ:∀ fr' h' a' w',okFs C fr' fs=true→okBs C vp h' bs .leaf=true→St T B w0 μ0 nt fr' h' a' w'→(restn n c).wp P Q a' w'):c.wp P Q a w:=by
  cases hr:(run? P K m).run nt (firstn n c) fr h with
  | none=>unfold firstTo at e;rw [hr] at e;simp at e
  | some l =>
    unfold firstTo at e
    rw [hr] at e
    have e:okOuts C vp .normal fs bs l=true:=e
    obtain ⟨μ,hx,f,r⟩:=s
    refine split_sound hm hK n m c fr h l μ a w hr f r fun q hq e' a' w' p=>?_
    obtain ⟨g1,g2,g3⟩:=okOuts_mem e q hq
    obtain ⟨_,μ',k1,k2,k3⟩:=p
    rw [g1]
    exact hQ q.2.1 q.2.2 a' w' g2 g3 ⟨μ',hx.trans k1,k2,k3⟩
theorem firstTo_sound {T T':Tab} {fr:Fr} {h:H} (hm:P.follows .mixedOrders=true) {K:Hand} (hK:@HandOk T P K) {m n:Nat} {c:Code} {C:Cv} (hb:Base B μ0 C.N0) (hN:C.N0≤C.N) {rl:List (Nat×Nat)} (hrl:C.rn=ofPairs rl) (hrk:okRn C rl=true) (hip:IpOk T T' C.ip) {vp:VP} (hvp:VpOk T T' C vp)
    (hgl:@Gl T B w0→@Gl T' B w0) {fs:List (Nat×AV)} {bs:BS} (e:firstTo T P K m nt n c fr h C vp fs bs=true) (s:St T B w0 μ0 nt fr h a w) {Q:Exit→Act→World→Prop}
    (hQ:∀ a' w',St T' B w0 μ0 nt (frOf fs) (hOf C.N bs) a' w'→(restn n c).wp P Q a' w'):c.wp P Q a w :=
  @firstTo_run P B w0 μ0 nt a w T fr h hm K hK m n c C vp fs bs e s Q (fun fr' h' a' w' hf hh s'=>hQ a' w' (s'.weak hb hN hrl hrk hip hvp hgl hf hh))
theorem rounds_of {c:Code} {Q:Exit→Act→World→Prop} {n:Nat} (h:c.wp P (fun e a' w'=>match e with
    | .normal=>Code.rounds P c Q n a' w'
    | e=>Q e a' w') a w):Code.rounds P c Q (n+1) a w:=by
  show c.wp P (Exit.then (Code.rounds P c Q n) Q) a w
  refine wp_mono h fun e a' w' p=>?_
  cases e<;>exact p
end Go.X
set_option linter.unusedVariables false
set_option linter.unusedSimpArgs false
set_option linter.unusedSectionVars false
namespace Go.X
open Go.RowKit
structure SameTab (T T':Tab):Prop where
  rv:T.rv=T'.rv
  iv:T.iv=T'.iv
  str:T.str=T'.str
  vv:T.vv=T'.vv
  vk:T.vk=T'.vk
  gv:T.gv=T'.gv
  fb:T.fb=T'.fb
  fcap:T.fcap=T'.fcap
  fv:T.fv=T'.fv
mutual
theorem vrel.tab {T T':Tab} (e:SameTab T T') {μ:M}:∀ (a:AV) (v:Value),@vrel T μ a v→@vrel T' μ a v
  | .bool _,_,h=>by simpa [vrel] using h
  | .int _ _,_,h=>by simpa [vrel] using h
  | .str _ _,_,h=>by simpa [vrel] using h
  | .nilp,_,h=>by simpa [vrel] using h
  | .ptr x o,_,h=>by simpa [vrel] using h
  | .nils,_,h=>by simpa [vrel] using h
  | .sl x o n c,_,h=>by simpa [vrel] using h
  | .so x o n z,_,h=>by simpa [vrel] using h
  | .nilm,_,h=>by simpa [vrel] using h
  | .map x,_,h=>by simpa [vrel] using h
  | .fn f a b,_,h=>by
    simp only [vrel] at h ⊢
    obtain ⟨as,bs,h1,h2,h3⟩:=h
    exact ⟨as,bs,h1,vrels.tab e a as h2,vrels.tab e b bs h3⟩
  | .nilf,_,h=>by simpa [vrel] using h
  | .iface t x,_,h=>by simp only [vrel] at h ⊢;obtain ⟨y,h1,h2⟩:=h;exact ⟨y,h1,vrel.tab e x y h2⟩
  | .nili,_,h=>by simpa [vrel] using h
  | .agg l,_,h=>by simp only [vrel] at h ⊢;obtain ⟨cs,h1,h2⟩:=h;exact ⟨cs,h1,vrels.tab e l cs h2⟩
  | .tup l,_,h=>by simp only [vrel] at h ⊢;obtain ⟨cs,h1,h2⟩:=h;exact ⟨cs,h1,vrels.tab e l cs h2⟩
  | .ostr _,_,h=>by simp only [vrel] at h ⊢;rw [← e.str];exact h
  | .rw _,_,h=>by simp only [vrel] at h ⊢;rw [← e.rv];exact h
  | .gp _ _,_,h=>by simpa [vrel] using h
  | .oi _,_,h=>by simp only [vrel] at h ⊢;rw [← e.iv];exact h
  | .es,_,h=>by simpa [vrel] using h
  | .ov _ _ _,_,h=>by simp only [vrel] at h ⊢;rw [← e.iv];exact h
  | .op _ _ _ _,_,h=>by simp only [vrel] at h ⊢;rw [← e.iv];exact h
  | .fo _ _ _,_,h=>by simp only [vrel] at h ⊢;rw [← e.iv,← e.fb,← e.fcap];exact h
  | .fp _ _ _ _,_,h=>by simp only [vrel] at h ⊢;rw [← e.iv,← e.fb];exact h
theorem vrels.tab {T T':Tab} (e:SameTab T T') {μ:M}:∀ (a:List AV) (v:List Value),@vrels T μ a v→@vrels T' μ a v
  | [],_,h=>by simpa [vrels] using h
  | a::l,_,h=>by
    simp only [vrels] at h ⊢
    obtain ⟨v,r,h1,h2,h3⟩:=h
    exact ⟨v,r,h1,vrel.tab e a v h2,vrels.tab e l r h3⟩
end
theorem esrel.tab {T T':Tab} (e:SameTab T T') {μ:M}:∀ {a:List (AV×AV×Nat)} {v:List MapEntry},@esrel T μ a v→@esrel T' μ a v
  | [],_,h=>h
  | a::l,_,h=>by
    simp only [esrel] at h ⊢
    obtain ⟨v,r,h1,h2,h3,h4,h5⟩:=h
    exact ⟨v,r,h1,vrel.tab e _ _ h2,vrel.tab e _ _ h3,h4,esrel.tab e h5⟩
theorem brel.tab {T T':Tab} (e:SameTab T T') {μ:M} {b:Blk} {l:Loc} {w:World} (h:@brel T μ b l w):@brel T' μ b l w:=by
  cases b with
  | cells n p z t=>obtain ⟨arr,el,fz,h1,h2,h3,h4,h5,h6⟩:=h;exact ⟨arr,el,fz,h1,h2,h3,h4,h5,fun i a hi ha=>let ⟨v,g1,g2⟩:=h6 i a hi ha;⟨v,g1,vrel.tab e _ _ g2⟩⟩
  | glob n z t=>obtain ⟨arr,el,fz,h1,h2⟩:=h;exact ⟨arr,el,fz,h1,fun i a hi ha=>let ⟨v,g1,g2⟩:=h2 i a hi ha;⟨v,g1,vrel.tab e _ _ g2⟩⟩
  | map es c=>obtain ⟨es',h1,h2⟩:=h;exact ⟨es',h1,esrel.tab e h2⟩
  | siter n c pos=>exact h
  | miter m since seen st =>
    cases m with
    | none=>exact h
    | some x=>exact h
  | vec i =>
    obtain ⟨arr,el,fz,h1,h2,h3,h4,h5⟩:=h
    exact ⟨arr,el,fz,h1,h2,h3,by rw [← e.vk];exact h4,fun m a ha=>let ⟨v,g1,g2⟩:=h5 m a (by rw [e.vv];exact ha);⟨v,g1,vrel.tab e _ _ g2⟩⟩
variable {P:Program} {B:Kp} {w0:World} {μ0:M} {nt:Nat} {a:Act} {w:World}
theorem Gl.tab {T T':Tab} (e:SameTab T T') (h:@Gl T B w0):@Gl T' B w0:=by
  refine ⟨fun g o a hg=>?_,fun i m a hg=>?_⟩
  · obtain ⟨h1,v,h2,h3,h4⟩:=h.1 g o a (by rw [e.gv];exact hg)
    exact ⟨h1,v,h2,vrel.tab e _ _ h3,fun k=>h4 (by rw [e.gv];exact k)⟩
  · obtain ⟨h1,v,h2,h3⟩:=h.2 i m a (by rw [e.fv];exact hg)
    rw [← e.fb]
    exact ⟨h1,v,h2,vrel.tab e _ _ h3⟩
theorem St.same {T T':Tab} (e:SameTab T T') {fr:Fr} {h:H} (s:St T B w0 μ0 nt fr h a w):St T' B w0 μ0 nt fr h a w:=by
  obtain ⟨μ,hx,f,r⟩:=s
  have hf:=@HR.fresh T B w0 μ h w r
  obtain ⟨⟨e1,e2,e3,e4,e5,e6⟩,eg,eres,eblk,esep⟩:=@HR.parts B w0 w T μ h r
  refine ⟨μ,hx,⟨f.1,f.2.1,fun t v ht=>?_⟩,⟨⟨e1,e2,e3,e4,e5,e6,Gl.tab e eg⟩,hf,eres,fun x b hb=>?_,esep⟩⟩
  · obtain ⟨v',g1,g2⟩:=f.2.2 t v ht
    exact ⟨v',g1,vrel.tab e _ _ g2⟩
  · obtain ⟨l,g1,g2,g3,g4⟩:=eblk x b hb
    exact ⟨l,g1,g2,g3,brel.tab e g4⟩
abbrev ivTab (iv:Nat→IntKind×Int):Tab where
  str:=fun _=>default
  ne:=fun _=>[]
  ok:=fun _ p h=>by simp at h
  gv:=fun _ _=>none
  iv:=iv
  rv:=fun _ => .nilIface
  ib:=[]
  ibok:=fun _ h=>by simp at h
  ic:=[]
  icok:=fun _ h=>by simp at h
  iu:=[]
  iuok:=fun _ h=>by simp at h
  vv:=fun _ _=>none
  vk:=fun _=>0
  vvp:=fun _ _ a h=>by simp at h
  va:=[]
  vaok:=fun _ h=>by simp at h
  vz:=[]
  vzok:=fun _ h=>by simp at h
  vn:=[]
  vnok:=fun _ h=>by simp at h
  vc:=[]
  vcok:=fun _ h=>by simp at h
  fb:=fun _=>(0,0)
  fcap:=fun _=>0
  fv:=fun _ _=>none
  fl:=[]
  flok:=fun _ h=>by simp at h
  vl:=[]
  vlok:=fun _ h=>by simp at h
  vs:=[]
  vsok:=fun _ h=>by simp at h
abbrev BRow:=Nat×AV×AV×AV
def IbOk (iv:Nat→IntKind×Int) (r:BRow):Prop:=∀ op,bcode op=r.1→∃ k a k' b v',denI iv r.2.1=some (k,a)∧denI iv r.2.2.1=some (k',b)∧intBin op k a k' b=some v'∧outI iv r.2.2.2 v'
variable {iv:Nat→IntKind×Int}
theorem ibNil:∀ r∈([]:List BRow),IbOk iv r:=fun r h=>by simp at h
theorem ibCons {r:BRow} {l:List BRow} (h:IbOk iv r) (k:∀ r∈l,IbOk iv r):∀ q∈r::l,IbOk iv q:=fun q hq=>by
  simp only [List.mem_cons] at hq
  rcases hq with rfl | hq
  · exact h
  · exact k q hq
theorem wrapF_is [Tab] (k:IntKind) (n:Int):wrapF k n=k.wrap n:=wrapF_eq k n
theorem wrap64 {n:Int} (h1 : -9223372036854775808≤n) (h2:n≤9223372036854775807):IntKind.i64.wrap n=n:=by
  unfold IntKind.wrap IntKind.bits IntKind.signed
  simp only [Bool.true_and,decide_eq_true_eq]
  split<;>omega
theorem ibAdd [Tab] {x y z:AV} {a b c:Int} (hx:denI iv x=some (.i64,a)) (hy:denI iv y=some (.i64,b)) (hz:denI iv z=some (.i64,c)) (h:a+b=c) (h1 : -9223372036854775808≤c) (h2:c≤9223372036854775807):IbOk iv (0,x,y,z):=by
  intro op hop
  have:op = .add:=by cases op<;>simp [bcode] at hop;rfl
  subst this
  refine ⟨.i64,a,.i64,b,_,hx,hy,rfl,?_⟩
  show denI iv z=some (.i64,wrapF .i64 (Int.add a b))
  rw [wrapF_eq,show Int.add a b=c from h,wrap64 h1 h2];exact hz
theorem ibSub [Tab] {x y z:AV} {a b c:Int} (hx:denI iv x=some (.i64,a)) (hy:denI iv y=some (.i64,b)) (hz:denI iv z=some (.i64,c)) (h:a - b=c) (h1 : -9223372036854775808≤c) (h2:c≤9223372036854775807):IbOk iv (1,x,y,z):=by
  intro op hop
  have:op = .sub:=by cases op<;>simp [bcode] at hop;rfl
  subst this
  refine ⟨.i64,a,.i64,b,_,hx,hy,rfl,?_⟩
  show denI iv z=some (.i64,wrapF .i64 (Int.sub a b))
  rw [wrapF_eq,show Int.sub a b=c from h,wrap64 h1 h2];exact hz
theorem ibMul [Tab] {x y z:AV} {a b c:Int} (hx:denI iv x=some (.i64,a)) (hy:denI iv y=some (.i64,b)) (hz:denI iv z=some (.i64,c)) (h:a*b=c) (h1 : -9223372036854775808≤c) (h2:c≤9223372036854775807):IbOk iv (2,x,y,z):=by
  intro op hop
  have:op = .mul:=by cases op<;>simp [bcode] at hop;rfl
  subst this
  refine ⟨.i64,a,.i64,b,_,hx,hy,rfl,?_⟩
  show denI iv z=some (.i64,wrapF .i64 (Int.mul a b))
  rw [wrapF_eq,show Int.mul a b=c from h,wrap64 h1 h2];exact hz
theorem ibQuo [Tab] {x y z:AV} {a b c:Int} (hx:denI iv x=some (.i64,a)) (hy:denI iv y=some (.i64,b)) (hz:denI iv z=some (.i64,c)) (h0:b≠0) (h:a.tdiv b=c) (h1 : -9223372036854775808≤c) (h2:c≤9223372036854775807):IbOk iv (3,x,y,z):=by
  intro op hop
  have:op = .quo:=by cases op<;>simp [bcode] at hop;rfl
  subst this
  refine ⟨.i64,a,.i64,b,.int .i64 (wrapF .i64 (a.tdiv b)),hx,hy,?_,?_⟩
  · show (if b=0 then none else some (AV.int .i64 (wrapF .i64 (a.tdiv b))))=_
    rw [if_neg h0]
  show denI iv z=some (.i64,wrapF .i64 (a.tdiv b))
  rw [wrapF_eq,h,wrap64 h1 h2];exact hz
theorem ibLt {x y:AV} {a b:Int} {t:Bool} (hx:denI iv x=some (.i64,a)) (hy:denI iv y=some (.i64,b)) (h:decide (a<b)=t):IbOk iv (11,x,y,.bool t):=by
  intro op hop
  have:op = .lss:=by cases op<;>simp [bcode] at hop;rfl
  subst this
  refine ⟨.i64,a,.i64,b,_,hx,hy,rfl,?_⟩
  show AV.bool t = .bool (decide (a<b))
  rw [h]
theorem ibLe {x y:AV} {a b:Int} {t:Bool} (hx:denI iv x=some (.i64,a)) (hy:denI iv y=some (.i64,b)) (h:decide (a≤b)=t):IbOk iv (12,x,y,.bool t):=by
  intro op hop
  have:op = .leq:=by cases op<;>simp [bcode] at hop;rfl
  subst this
  refine ⟨.i64,a,.i64,b,_,hx,hy,rfl,?_⟩
  show AV.bool t = .bool (decide (a≤b))
  rw [h]
theorem ibGt {x y:AV} {a b:Int} {t:Bool} (hx:denI iv x=some (.i64,a)) (hy:denI iv y=some (.i64,b)) (h:decide (a>b)=t):IbOk iv (13,x,y,.bool t):=by
  intro op hop
  have:op = .gtr:=by cases op<;>simp [bcode] at hop;rfl
  subst this
  refine ⟨.i64,a,.i64,b,_,hx,hy,rfl,?_⟩
  show AV.bool t = .bool (decide (a>b))
  rw [h]
theorem ibGe {x y:AV} {a b:Int} {t:Bool} (hx:denI iv x=some (.i64,a)) (hy:denI iv y=some (.i64,b)) (h:decide (a≥b)=t):IbOk iv (14,x,y,.bool t):=by
  intro op hop
  have:op = .geq:=by cases op<;>simp [bcode] at hop;rfl
  subst this
  refine ⟨.i64,a,.i64,b,_,hx,hy,rfl,?_⟩
  show AV.bool t = .bool (decide (a≥b))
  rw [h]
theorem ibEq {x y:AV} {a b:Int} {t:Bool} (hx:denI iv x=some (.i64,a)) (hy:denI iv y=some (.i64,b)) (h:decide (a=b)=t):IbOk iv (9,x,y,.bool t):=by
  intro op hop
  have:op = .eql:=by cases op<;>simp [bcode] at hop;rfl
  subst this
  refine ⟨.i64,a,.i64,b,_,hx,hy,rfl,?_⟩
  show AV.bool t = .bool (a == b)
  rw [← h];congr 1
theorem ibNe {x y:AV} {a b:Int} {t:Bool} (hx:denI iv x=some (.i64,a)) (hy:denI iv y=some (.i64,b)) (h:decide (a=b) = !t):IbOk iv (10,x,y,.bool t):=by
  intro op hop
  have:op = .neq:=by cases op<;>simp [bcode] at hop;rfl
  subst this
  refine ⟨.i64,a,.i64,b,_,hx,hy,rfl,?_⟩
  show AV.bool t = .bool (a != b)
  have:(a == b)=decide (a=b):=rfl
  rw [bne,this,h];simp
theorem ipNil {T T':Tab}:IpOk T T' []:=fun p h=>by simp at h
theorem ipCons {T T':Tab} {p:AV×Nat} {l:IP} (h:IpOk1 T T' p) (k:IpOk T T' l):IpOk T T' (p::l):=fun q hq=>by
  simp only [List.mem_cons] at hq
  rcases hq with rfl | hq
  · exact h
  · exact k q hq
theorem vpNil {T T':Tab} {C:Cv}:VpOk T T' C []:=fun p h=>by simp at h
theorem vpCons {T T':Tab} {C:Cv} {p:Nat×Blk×Nat} {l:VP} (h:own p.2.1=true∧∀ μ l w,@brel T μ p.2.1 l w→@brel T' (ren C.N0 C.rn μ) (.vec p.2.2) l w) (k:VpOk T T' C l):VpOk T T' C (p::l):=fun q hq=>by
  simp only [List.mem_cons] at hq
  rcases hq with rfl | hq
  · exact h
  · exact k q hq
structure VRows (iv:Nat→IntKind×Int) (vv:Nat→Nat→Option AV) (vk:Nat→Nat) where
  vvp:∀ i m a,vv i m=some a→vplain a=true
  ib:List BRow
  ibok:∀ r∈ib,IbOk iv r
  ic:List (IntKind×AV×AV):=[]
  icok:∀ r∈ic,∃ k n,denI iv r.2.1=some (k,n)∧denI iv r.2.2=some (r.1,r.1.wrap n):=by exact fun _ h=>nomatch h
  va:List VA:=[]
  vaok:∀ r∈va,isLen (iv r.j)∧isLen (iv r.j')∧(iv r.j').2.toNat*r.z=(iv r.j).2.toNat*r.z+r.src.length∧(iv r.j').2.toNat<limit∧vk r.i'≤(iv r.j').2.toNat*r.z ∧
    ∀ m a,vv r.i' m=some a→∃ b,(if m<(iv r.j).2.toNat*r.z then vv r.i m else r.src[m - (iv r.j).2.toNat*r.z]?)=some b∧sameAV iv b a:=by exact fun _ h=>nomatch h
  vz:List VZ:=[]
  vzok:∀ r∈vz,isLen (iv r.j)∧isLen (iv r.k)∧isLen (iv r.j')∧(iv r.j').2=(iv r.j).2+(iv r.k).2∧(iv r.j').2.toNat<limit∧vk r.i'≤(iv r.j').2.toNat*r.z ∧
    ∀ m a,vv r.i' m=some a→m<(iv r.j').2.toNat*r.z∧∃ b,(if m<(iv r.j).2.toNat*r.z then vv r.i m else r.zc[(m - (iv r.j).2.toNat*r.z) % r.zc.length]?)=some b∧sameAV iv b a:=by exact fun _ h=>nomatch h
  vn:List VN:=[]
  vnok:∀ r∈vn,isLen (iv r.k)∧0<(iv r.k).2∧iv r.j'=iv r.k∧(iv r.k).2.toNat<limit∧vk r.i'≤(iv r.k).2.toNat*r.z ∧
    ∀ m a,vv r.i' m=some a→m<(iv r.k).2.toNat*r.z∧∃ b,r.zc[m % r.zc.length]? = some b∧sameAV iv b a:=by exact fun _ h=>nomatch h
  vc:List (Nat×Nat):=[]
  vcok:∀ p∈vc,iv p.2=(.i64,(p.1:Int)):=by exact fun _ h=>nomatch h
  vl:List VL:=[]
  vlok:∀ r∈vl,isLen (iv r.k)∧∀ m b,r.l[m]? = some b→∃ a,vv r.i ((iv r.k).2.toNat*r.z+r.f+m)=some a∧sameAV iv a b:=by exact fun _ h=>nomatch h
  vs:List VS:=[]
  vsok:∀ r∈vs,isLen (iv r.k)∧(iv r.k).2.toNat*r.z+r.f+r.l.length≤vk r.i∧vk r.i'≤vk r.i ∧
    ∀ m a,vv r.i' m=some a→∃ b,(if (iv r.k).2.toNat*r.z+r.f≤m∧m<(iv r.k).2.toNat*r.z+r.f+r.l.length then r.l[m - ((iv r.k).2.toNat*r.z+r.f)]? else vv r.i m)=some b∧sameAV iv b a:=by exact fun _ h=>nomatch h
abbrev VRows.tab {iv:Nat→IntKind×Int} {vv:Nat→Nat→Option AV} {vk:Nat→Nat} (R:VRows iv vv vk):Tab where
  str:=fun _=>default
  ne:=fun _=>[]
  ok:=fun _ p h=>by simp at h
  gv:=fun _ _=>none
  iv:=iv
  rv:=fun _ => .nilIface
  ib:=R.ib
  ibok:=R.ibok
  ic:=R.ic
  icok:=R.icok
  iu:=[]
  iuok:=fun _ h=>by simp at h
  vv:=vv
  vk:=vk
  vvp:=R.vvp
  va:=R.va
  vaok:=R.vaok
  vz:=R.vz
  vzok:=R.vzok
  vn:=R.vn
  vnok:=R.vnok
  vc:=R.vc
  vcok:=R.vcok
  fb:=fun _=>(0,0)
  fcap:=fun _=>0
  fv:=fun _ _=>none
  fl:=[]
  flok:=fun _ h=>by simp at h
  vl:=R.vl
  vlok:=R.vlok
  vs:=R.vs
  vsok:=R.vsok
abbrev bare (iv:Nat→IntKind×Int) (vv:Nat→Nat→Option AV) (vk:Nat→Nat) (h:∀ i m a,vv i m=some a→vplain a=true):VRows iv vv vk:={ vvp:=h,ib:=[],ibok:=ibNil }
theorem VRows.same {iv:Nat→IntKind×Int} {vv:Nat→Nat→Option AV} {vk:Nat→Nat} (R R':VRows iv vv vk):SameTab R.tab R'.tab:=⟨rfl,rfl,rfl,rfl,rfl,rfl,rfl,rfl,rfl⟩
abbrev noV:Nat→Nat→Option AV:=fun _ _=>none
abbrev noK:Nat→Nat:=fun _=>0
theorem noVp:∀ i m a,noV i m=some a→vplain a=true:=fun _ _ _ h=>by cases h
theorem glNone {T T':Tab} (h:T'.gv=fun _ _=>none) (h2:T'.fv=fun _ _=>none):@Gl T B w0→@Gl T' B w0:=fun _=>⟨fun g o a hg=>(by rw [h] at hg;cases hg),fun i m a hg=>(by rw [h2] at hg;cases hg)⟩
def isRow:Blk→Bool
  | .cells ..=>true
  | .vec _=>true
  | _=>false
theorem toVec {T T':Tab} {C:Cv} {x i:Nat} {b:Blk} (hb:isRow b=true) (hv:∀ m,T'.vv i m=none) (hk:T'.vk i=0) :
    own (x,b,i).2.1=true∧∀ μ l w,@brel T μ (x,b,i).2.1 l w→@brel T' (ren C.N0 C.rn μ) (.vec (x,b,i).2.2) l w:=by
  cases b with
  | cells n p z t =>
    refine ⟨rfl,fun μ l w h=>?_⟩
    obtain ⟨arr,el,fz,h1,h2,h3,h4,h5,h6⟩:=h
    exact ⟨arr,el,fz,h1,h2,h3,by rw [hk];omega,fun m a ha=>by rw [hv] at ha;cases ha⟩
  | vec j =>
    refine ⟨rfl,fun μ l w h=>?_⟩
    obtain ⟨arr,el,fz,h1,h2,h3,h4,h5⟩:=h
    exact ⟨arr,el,fz,h1,h2,h3,by rw [hk];omega,fun m a ha=>by rw [hv] at ha;cases ha⟩
  | _=>simp [isRow] at hb
section
variable {iv:Nat→IntKind×Int}
abbrev VaOk (iv:Nat→IntKind×Int) (vv:Nat→Nat→Option AV) (vk:Nat→Nat) (r:VA):Prop:=isLen (iv r.j)∧isLen (iv r.j')∧(iv r.j').2.toNat*r.z=(iv r.j).2.toNat*r.z+r.src.length∧(iv r.j').2.toNat<limit∧vk r.i'≤(iv r.j').2.toNat*r.z ∧
    ∀ m a,vv r.i' m=some a→∃ b,(if m<(iv r.j).2.toNat*r.z then vv r.i m else r.src[m - (iv r.j).2.toNat*r.z]?)=some b∧sameAV iv b a
abbrev VzOk (iv:Nat→IntKind×Int) (vv:Nat→Nat→Option AV) (vk:Nat→Nat) (r:VZ):Prop:=isLen (iv r.j)∧isLen (iv r.k)∧isLen (iv r.j')∧(iv r.j').2=(iv r.j).2+(iv r.k).2∧(iv r.j').2.toNat<limit∧vk r.i'≤(iv r.j').2.toNat*r.z ∧
    ∀ m a,vv r.i' m=some a→m<(iv r.j').2.toNat*r.z∧∃ b,(if m<(iv r.j).2.toNat*r.z then vv r.i m else r.zc[(m - (iv r.j).2.toNat*r.z) % r.zc.length]?)=some b∧sameAV iv b a
abbrev VnOk (iv:Nat→IntKind×Int) (vv:Nat→Nat→Option AV) (vk:Nat→Nat) (r:VN):Prop:=isLen (iv r.k)∧0<(iv r.k).2∧iv r.j'=iv r.k∧(iv r.k).2.toNat<limit∧vk r.i'≤(iv r.k).2.toNat*r.z ∧
    ∀ m a,vv r.i' m=some a→m<(iv r.k).2.toNat*r.z∧∃ b,r.zc[m % r.zc.length]? = some b∧sameAV iv b a
theorem allNil {α:Type} {p:α→Prop}:∀ r∈([]:List α),p r:=fun r h=>by simp at h
theorem allCons {α:Type} {p:α→Prop} {x:α} {l:List α} (h:p x) (k:∀ r∈l,p r):∀ r∈x::l,p r:=fun r hr=>by
  simp only [List.mem_cons] at hr
  rcases hr with rfl | hr
  · exact h
  · exact k r hr
theorem va0 {r:VA} {a b:Int} {c:Nat} (ha:iv r.j=(.i64,a)) (hb:iv r.j'=(.i64,b)) (h0:0≤a) (hc:r.src.length=c*r.z) (h:b=a+c) (hl:b<1000000):VaOk iv noV noK r:=by
  refine ⟨by rw [ha];exact ⟨rfl,h0⟩,by rw [hb];exact ⟨rfl,by show 0≤b;omega⟩,?_,?_,Nat.zero_le _,fun m a h=>by cases h⟩
  · rw [ha,hb,hc]
    show b.toNat*r.z=a.toNat*r.z+c*r.z
    rw [← Nat.add_mul]
    congr 1
    omega
  · rw [hb];show b.toNat<limit;unfold limit;omega
theorem vz0 {r:VZ} {a b c:Int} (ha:iv r.j=(.i64,a)) (hc:iv r.k=(.i64,c)) (hb:iv r.j'=(.i64,b)) (h0:0≤a) (h1:0≤c) (h:b=a+c) (hl:b<1000000):VzOk iv noV noK r:=by
  refine ⟨by rw [ha];exact ⟨rfl,h0⟩,by rw [hc];exact ⟨rfl,h1⟩,by rw [hb];exact ⟨rfl,by show 0≤b;omega⟩,?_,?_,Nat.zero_le _,fun m a h=>by cases h⟩
  · rw [ha,hb,hc];exact h
  · rw [hb];show b.toNat<limit;unfold limit;omega
theorem vn0 {r:VN} {c:Int} (hc:iv r.k=(.i64,c)) (hb:iv r.j'=(.i64,c)) (h1:0<c) (hl:c<1000000):VnOk iv noV noK r:=by
  refine ⟨by rw [hc];exact ⟨rfl,by show 0≤c;omega⟩,by rw [hc];exact h1,by rw [hc,hb],?_,Nat.zero_le _,fun m a h=>by cases h⟩
  rw [hc];show c.toNat<limit;unfold limit;omega
end
def intV (A:Nat) (e:Nat→Int):Nat→Option AV:=fun m=>if m<A then some (.int .i64 (e m)) else none
def boolV (A:Nat) (e:Nat→Bool):Nat→Option AV:=fun m=>if m<A then some (.bool (e m)) else none
theorem intV_some {A:Nat} {e:Nat→Int} {m:Nat} {a:AV} (h:intV A e m=some a):m<A∧a = .int .i64 (e m):=by
  unfold intV at h
  split at h
  · cases h;exact ⟨‹_›,rfl⟩
  · cases h
theorem boolV_some {A:Nat} {e:Nat→Bool} {m:Nat} {a:AV} (h:boolV A e m=some a):m<A∧a = .bool (e m):=by
  unfold boolV at h
  split at h
  · cases h;exact ⟨‹_›,rfl⟩
  · cases h
theorem intV_lt {A:Nat} {e:Nat→Int} {m:Nat} (h:m<A):intV A e m=some (.int .i64 (e m)):=by unfold intV;rw [if_pos h]
theorem boolV_lt {A:Nat} {e:Nat→Bool} {m:Nat} (h:m<A):boolV A e m=some (.bool (e m)):=by unfold boolV;rw [if_pos h]
section
variable {iv:Nat→IntKind×Int} {vv:Nat→Nat→Option AV} {vk:Nat→Nat}
theorem sameInt {b:AV} {n:Int} (h:denI iv b=some (.i64,n)):sameAV iv b (.int .i64 n) := .inr ⟨_,h,rfl⟩
theorem sameInt' {b:AV} {n:Int} (h:denI iv b=some (.i64,n)):sameAV iv (.int .i64 n) b := .inr ⟨_,rfl,h⟩
theorem vaI {r:VA} {a b:Nat} {A':Nat} {e e':Nat→Int} (ha:iv r.j=(.i64,(a:Int))) (hb:iv r.j'=(.i64,(b:Int))) (h0:vv r.i=intV (a*r.z) e) (h1:vv r.i'=intV A' e') (hk:vk r.i'=A')
    (hA:A'=a*r.z+r.src.length) (hB:b*r.z=A') (hl:b<1000000) (he:∀ m,m<a*r.z→e' m=e m) (hs:∀ q x,r.src[q]? = some x→denI iv x=some (.i64,e' (a*r.z+q))):VaOk iv vv vk r:=by
  refine ⟨by rw [ha];exact ⟨rfl,Int.natCast_nonneg _⟩,by rw [hb];exact ⟨rfl,Int.natCast_nonneg _⟩,by rw [ha,hb];simpa using hB.trans hA,by rw [hb];simpa [limit] using hl,by rw [hb,hk];simp [hB],?_⟩
  intro m x hx
  rw [h1] at hx
  obtain ⟨hm,rfl⟩:=intV_some hx
  rw [ha]
  simp only [Int.toNat_natCast]
  by_cases c:m<a*r.z
  · exact ⟨.int .i64 (e' m),by rw [if_pos c,h0,intV_lt c,he m c],.inl rfl⟩
  · rw [if_neg c]
    have hq:m - a*r.z<r.src.length:=by omega
    refine ⟨r.src[m - a*r.z],by rw [List.getElem?_eq_getElem hq],sameInt ?_⟩
    have:=hs (m - a*r.z) _ (List.getElem?_eq_getElem hq)
    rw [this]
    congr 3
    omega
theorem vaB {r:VA} {a b:Nat} {A':Nat} {e e':Nat→Bool} (ha:iv r.j=(.i64,(a:Int))) (hb:iv r.j'=(.i64,(b:Int))) (h0:vv r.i=boolV (a*r.z) e) (h1:vv r.i'=boolV A' e') (hk:vk r.i'=A')
    (hA:A'=a*r.z+r.src.length) (hB:b*r.z=A') (hl:b<1000000) (he:∀ m,m<a*r.z→e' m=e m) (hs:∀ (q:Nat) (x:AV),r.src[q]? = some x→x = .bool (e' (a*r.z+q))):VaOk iv vv vk r:=by
  refine ⟨by rw [ha];exact ⟨rfl,Int.natCast_nonneg _⟩,by rw [hb];exact ⟨rfl,Int.natCast_nonneg _⟩,by rw [ha,hb];simpa using hB.trans hA,by rw [hb];simpa [limit] using hl,by rw [hb,hk];simp [hB],?_⟩
  intro m x hx
  rw [h1] at hx
  obtain ⟨hm,rfl⟩:=boolV_some hx
  rw [ha]
  simp only [Int.toNat_natCast]
  by_cases c:m<a*r.z
  · exact ⟨.bool (e' m),by rw [if_pos c,h0,boolV_lt c,he m c],.inl rfl⟩
  · rw [if_neg c]
    have hq:m - a*r.z<r.src.length:=by omega
    refine ⟨r.src[m - a*r.z],by rw [List.getElem?_eq_getElem hq],.inl ?_⟩
    have:=hs (m - a*r.z) _ (List.getElem?_eq_getElem hq)
    rw [this]
    congr 2
    omega
theorem vzI {r:VZ} {a b c:Nat} {e e':Nat→Int} (ha:iv r.j=(.i64,(a:Int))) (hc:iv r.k=(.i64,(c:Int))) (hb:iv r.j'=(.i64,(b:Int))) (h0:vv r.i=intV a e) (h1:vv r.i'=intV b e') (hk:vk r.i'=b) (hz:r.z=1) (hzc:r.zc=[.int .i64 0])
    (hA:b=a+c) (hl:b<1000000) (he:∀ m,m<a→e' m=e m) (hs:∀ m,a≤m→m<b→e' m=0):VzOk iv vv vk r:=by
  refine ⟨by rw [ha];exact ⟨rfl,Int.natCast_nonneg _⟩,by rw [hc];exact ⟨rfl,Int.natCast_nonneg _⟩,by rw [hb];exact ⟨rfl,Int.natCast_nonneg _⟩,by rw [ha,hb,hc,hA];simp,by rw [hb];simpa [limit] using hl,by rw [hb,hk,hz];simp,?_⟩
  intro m x hx
  rw [h1] at hx
  obtain ⟨hm,rfl⟩:=intV_some hx
  rw [ha,hb,hz,hzc]
  simp only [Int.toNat_natCast,Nat.mul_one]
  refine ⟨hm,?_⟩
  by_cases c:m<a
  · exact ⟨.int .i64 (e' m),by rw [if_pos c,h0,intV_lt c,he m c],.inl rfl⟩
  · rw [if_neg c]
    exact ⟨.int .i64 0,by simp [Nat.mod_one],.inl (by rw [hs m (by omega) hm])⟩
theorem vzB {r:VZ} {a b c:Nat} {e e':Nat→Bool} (ha:iv r.j=(.i64,(a:Int))) (hc:iv r.k=(.i64,(c:Int))) (hb:iv r.j'=(.i64,(b:Int))) (h0:vv r.i=boolV a e) (h1:vv r.i'=boolV b e') (hk:vk r.i'=b) (hz:r.z=1) (hzc:r.zc=[.bool false])
    (hA:b=a+c) (hl:b<1000000) (he:∀ m,m<a→e' m=e m) (hs:∀ m,a≤m→m<b→e' m=false):VzOk iv vv vk r:=by
  refine ⟨by rw [ha];exact ⟨rfl,Int.natCast_nonneg _⟩,by rw [hc];exact ⟨rfl,Int.natCast_nonneg _⟩,by rw [hb];exact ⟨rfl,Int.natCast_nonneg _⟩,by rw [ha,hb,hc,hA];simp,by rw [hb];simpa [limit] using hl,by rw [hb,hk,hz];simp,?_⟩
  intro m x hx
  rw [h1] at hx
  obtain ⟨hm,rfl⟩:=boolV_some hx
  rw [ha,hb,hz,hzc]
  simp only [Int.toNat_natCast,Nat.mul_one]
  refine ⟨hm,?_⟩
  by_cases c:m<a
  · exact ⟨.bool (e' m),by rw [if_pos c,h0,boolV_lt c,he m c],.inl rfl⟩
  · rw [if_neg c]
    exact ⟨.bool false,by simp [Nat.mod_one],.inl (by rw [hs m (by omega) hm])⟩
theorem vnI {r:VN} {c:Nat} {e':Nat→Int} (hc:iv r.k=(.i64,(c:Int))) (hb:iv r.j'=(.i64,(c:Int))) (h1:vv r.i'=intV c e') (hk:vk r.i'=c) (hz:r.z=1) (hzc:r.zc=[.int .i64 0]) (h0:0<c) (hl:c<1000000) (hs:∀ m,m<c→e' m=0):VnOk iv vv vk r:=by
  refine ⟨by rw [hc];exact ⟨rfl,Int.natCast_nonneg _⟩,by rw [hc];exact Int.natCast_pos.2 h0,by rw [hc,hb],by rw [hc];simpa [limit] using hl,by rw [hc,hk,hz];simp,?_⟩
  intro m x hx
  rw [h1] at hx
  obtain ⟨hm,rfl⟩:=intV_some hx
  rw [hc,hz,hzc]
  exact ⟨by simpa using hm,.int .i64 0,by simp [Nat.mod_one],.inl (by rw [hs m hm])⟩
theorem vnB {r:VN} {c:Nat} {e':Nat→Bool} (hc:iv r.k=(.i64,(c:Int))) (hb:iv r.j'=(.i64,(c:Int))) (h1:vv r.i'=boolV c e') (hk:vk r.i'=c) (hz:r.z=1) (hzc:r.zc=[.bool false]) (h0:0<c) (hl:c<1000000) (hs:∀ m,m<c→e' m=false):VnOk iv vv vk r:=by
  refine ⟨by rw [hc];exact ⟨rfl,Int.natCast_nonneg _⟩,by rw [hc];exact Int.natCast_pos.2 h0,by rw [hc,hb],by rw [hc];simpa [limit] using hl,by rw [hc,hk,hz];simp,?_⟩
  intro m x hx
  rw [h1] at hx
  obtain ⟨hm,rfl⟩:=boolV_some hx
  rw [hc,hz,hzc]
  exact ⟨by simpa using hm,.bool false,by simp [Nat.mod_one],.inl (by rw [hs m hm])⟩
abbrev VlOk (iv:Nat→IntKind×Int) (vv:Nat→Nat→Option AV) (r:VL):Prop:=isLen (iv r.k)∧∀ m b,r.l[m]? = some b→∃ a,vv r.i ((iv r.k).2.toNat*r.z+r.f+m)=some a∧sameAV iv a b
theorem vlI {r:VL} {k A:Nat} {e:Nat→Int} {b:AV} (hk:iv r.k=(.i64,(k:Int))) (h0:vv r.i=intV A e) (hl:r.l=[b]) (ho:k*r.z+r.f<A) (hb:denI iv b=some (.i64,e (k*r.z+r.f))):VlOk iv vv r:=by
  refine ⟨by rw [hk];exact ⟨rfl,Int.natCast_nonneg _⟩,fun m x hx=>?_⟩
  rw [hl] at hx
  cases m with
  | succ m=>simp at hx
  | zero =>
    simp only [List.getElem?_cons_zero,Option.some.injEq] at hx
    subst hx
    rw [hk,h0]
    simp only [Int.toNat_natCast,Nat.add_zero]
    exact ⟨_,intV_lt ho,sameInt' hb⟩
theorem vlB {r:VL} {k A:Nat} {e:Nat→Bool} {b:Bool} (hk:iv r.k=(.i64,(k:Int))) (h0:vv r.i=boolV A e) (hl:r.l=[.bool b]) (ho:k*r.z+r.f<A) (hb:e (k*r.z+r.f)=b):VlOk iv vv r:=by
  refine ⟨by rw [hk];exact ⟨rfl,Int.natCast_nonneg _⟩,fun m x hx=>?_⟩
  rw [hl] at hx
  cases m with
  | succ m=>simp at hx
  | zero =>
    simp only [List.getElem?_cons_zero,Option.some.injEq] at hx
    subst hx
    rw [hk,h0]
    simp only [Int.toNat_natCast,Nat.add_zero]
    exact ⟨_,boolV_lt ho,.inl (by rw [hb])⟩
abbrev VsOk (iv:Nat→IntKind×Int) (vv:Nat→Nat→Option AV) (vk:Nat→Nat) (r:VS):Prop:=isLen (iv r.k)∧(iv r.k).2.toNat*r.z+r.f+r.l.length≤vk r.i∧vk r.i'≤vk r.i ∧
    ∀ m a,vv r.i' m=some a→∃ b,(if (iv r.k).2.toNat*r.z+r.f≤m∧m<(iv r.k).2.toNat*r.z+r.f+r.l.length then r.l[m - ((iv r.k).2.toNat*r.z+r.f)]? else vv r.i m)=some b∧sameAV iv b a
theorem vsI {r:VS} {k A:Nat} {e e':Nat→Int} {b:AV} (hk:iv r.k=(.i64,(k:Int))) (h0:vv r.i=intV A e) (h1:vv r.i'=intV A e') (hv:vk r.i=A) (hv':vk r.i'=A) (hl:r.l=[b]) (ho:k*r.z+r.f<A) (hb:denI iv b=some (.i64,e' (k*r.z+r.f))) (he:∀ m,m<A→m≠k*r.z+r.f→e' m=e m):VsOk iv vv vk r:=by
  refine ⟨by rw [hk];exact ⟨rfl,Int.natCast_nonneg _⟩,by rw [hk,hv,hl];simpa [Nat.succ_le_iff] using ho,by rw [hv,hv'];exact Nat.le_refl _,fun m x hx=>?_⟩
  rw [h1] at hx
  obtain ⟨hm,rfl⟩:=intV_some hx
  rw [hk,hl,h0]
  simp only [Int.toNat_natCast,List.length_singleton]
  by_cases c:m=k*r.z+r.f
  · subst c
    rw [if_pos (by omega)]
    exact ⟨b,by simp,sameInt hb⟩
  · rw [if_neg (by omega)]
    exact ⟨_,intV_lt hm,.inl (by rw [he m hm c])⟩
theorem vsB {r:VS} {k A:Nat} {e e':Nat→Bool} {b:Bool} (hk:iv r.k=(.i64,(k:Int))) (h0:vv r.i=boolV A e) (h1:vv r.i'=boolV A e') (hv:vk r.i=A) (hv':vk r.i'=A) (hl:r.l=[.bool b]) (ho:k*r.z+r.f<A) (hb:e' (k*r.z+r.f)=b) (he:∀ m,m<A→m≠k*r.z+r.f→e' m=e m):VsOk iv vv vk r:=by
  refine ⟨by rw [hk];exact ⟨rfl,Int.natCast_nonneg _⟩,by rw [hk,hv,hl];simpa [Nat.succ_le_iff] using ho,by rw [hv,hv'];exact Nat.le_refl _,fun m x hx=>?_⟩
  rw [h1] at hx
  obtain ⟨hm,rfl⟩:=boolV_some hx
  rw [hk,hl,h0]
  simp only [Int.toNat_natCast,List.length_singleton]
  by_cases c:m=k*r.z+r.f
  · subst c
    rw [if_pos (by omega)]
    exact ⟨.bool b,by simp,.inl (by rw [hb])⟩
  · rw [if_neg (by omega)]
    exact ⟨_,boolV_lt hm,.inl (by rw [he m hm c])⟩
end
theorem vecSub {T T':Tab} {C:Cv} {x i i':Nat} (hv:∀ m a,T'.vv i' m=some a→T.vv i m=some a∧((∃ n,a = .int .i64 n)∨∃ b,a = .bool b)) (hk:T'.vk i'≤T.vk i) :
    own (x,(.vec i:Blk),i').2.1=true∧∀ μ l w,@brel T μ (x,(.vec i:Blk),i').2.1 l w→@brel T' (ren C.N0 C.rn μ) (.vec (x,(.vec i:Blk),i').2.2) l w:=by
  refine ⟨rfl,fun μ l w h=>?_⟩
  obtain ⟨arr,el,fz,h1,h2,h3,h4,h5⟩:=h
  refine ⟨arr,el,fz,h1,h2,h3,by dsimp only;omega,fun m a ha=>?_⟩
  obtain ⟨g1,g2⟩:=hv m a ha
  obtain ⟨v,v1,v2⟩:=h5 m a g1
  refine ⟨v,v1,?_⟩
  rcases g2 with ⟨n,rfl⟩ | ⟨b,rfl⟩
  · simpa [vrel] using v2
  · simpa [vrel] using v2
theorem intV_sub {A A':Nat} {e:Nat→Int} (h:A'≤A):∀ m a,intV A' e m=some a→intV A e m=some a∧((∃ n,a = .int .i64 n)∨∃ b,a = .bool b):=fun m a ha=>by
  obtain ⟨hm,rfl⟩:=intV_some ha
  exact ⟨intV_lt (by omega),.inl ⟨_,rfl⟩⟩
theorem boolV_sub {A A':Nat} {e:Nat→Bool} (h:A'≤A):∀ m a,boolV A' e m=some a→boolV A e m=some a∧((∃ n,a = .int .i64 n)∨∃ b,a = .bool b):=fun m a ha=>by
  obtain ⟨hm,rfl⟩:=boolV_some ha
  exact ⟨boolV_lt (by omega),.inr ⟨_,rfl⟩⟩
theorem rowVec {T T':Tab} {C:Cv} {x i:Nat} {l:List AV} {opn:Bool} (hlim:l.length<limit) (hv:∀ m a,T'.vv i m=some a→∃ b,l[m]? = some b∧((∃ n,denI T.iv b=some (.i64,n)∧a = .int .i64 n)∨∃ c,b = .bool c∧a = .bool c)) (hk:T'.vk i≤l.length) :
    own (x,rowOf l opn,i).2.1=true∧∀ μ p w,@brel T μ (x,rowOf l opn,i).2.1 p w→@brel T' (ren C.N0 C.rn μ) (.vec (x,rowOf l opn,i).2.2) p w:=by
  refine ⟨rfl,fun μ p w h=>?_⟩
  obtain ⟨arr,el,fz,h1,h2,h3,h4,h5,h6⟩:=h
  refine ⟨arr,el,fz,h1,h2,h3,by dsimp only;omega,fun m a ha=>?_⟩
  obtain ⟨b,g1,g2⟩:=hv m a ha
  have hm:m<l.length:=(List.getElem?_eq_some_iff.1 g1).1
  obtain ⟨v,v1,v2⟩:=h6 m b hm (by rw [@cellOf_row T _ _ hlim];exact g1)
  refine ⟨v,v1,?_⟩
  rcases g2 with ⟨n,g3,rfl⟩ | ⟨c,rfl,rfl⟩
  · cases b<;>simp [denI] at g3
    · obtain ⟨rfl,rfl⟩:=g3;simpa [vrel] using v2
    · simp only [vrel] at v2 ⊢;rw [v2,g3]
  · simpa [vrel] using v2
theorem ibRem [Tab] {iv:Nat→IntKind×Int} {x y z:AV} {a b c:Int} (hx:denI iv x=some (.i64,a)) (hy:denI iv y=some (.i64,b)) (hz:denI iv z=some (.i64,c)) (h0:b≠0) (h:a.tmod b=c):IbOk iv (4,x,y,z):=by
  intro op hop
  have:op = .rem:=by cases op<;>simp [bcode] at hop;rfl
  subst this
  refine ⟨.i64,a,.i64,b,.int .i64 (a.tmod b),hx,hy,?_,?_⟩
  · show (if b=0 then none else some (AV.int .i64 (a.tmod b)))=_
    rw [if_neg h0]
  show denI iv z=some (.i64,a.tmod b)
  rw [h];exact hz
theorem St.yes [τ:Tab] {fn:Func} {fr:Fr} {h h':H} (hl:leaves P fn .ret fr h=some (.bool true,h')) (s:St τ B w0 μ0 fn.ntmps fr h a w):Yes P fn B w0 .ret a w:=by
  obtain ⟨μ,_,f,r⟩:=s
  obtain ⟨⟨e1,e2,e3,e4,e5,_⟩,_⟩:=r.parts
  obtain ⟨v,hv,e⟩:=ob_some (show ob _ _=_ from hl)
  cases e
  obtain ⟨v',k1,k2⟩:=results_sound (P:=P) f r hv
  simp only [vrel] at k2
  subst k2
  exact ⟨.inr rfl,f.2.1,⟨e1,e2,e3,e4,e5⟩,k1⟩
theorem ic64 {iv:Nat→IntKind×Int} {k:IntKind} {x y:AV} {n:Int} (hx:denI iv x=some (k,n)) (hy:denI iv y=some (.i64,n)) (h1 : -9223372036854775808≤n) (h2:n≤9223372036854775807):∃ k' m,denI iv ((IntKind.i64,x,y):IntKind×AV×AV).2.1=some (k',m)∧denI iv ((IntKind.i64,x,y):IntKind×AV×AV).2.2=some (.i64,IntKind.i64.wrap m) :=
  ⟨k,n,hx,by rw [wrap64 h1 h2];exact hy⟩
theorem wrapU64 {n:Int} (h1:0≤n) (h2:n≤18446744073709551615):IntKind.u64.wrap n=n:=by
  unfold IntKind.wrap IntKind.bits IntKind.signed
  simp only [Bool.false_and,Bool.false_eq_true,if_false]
  omega
theorem icU64 {iv:Nat→IntKind×Int} {k:IntKind} {x y:AV} {n:Int} (hx:denI iv x=some (k,n)) (hy:denI iv y=some (.u64,n)) (h1:0≤n) (h2:n≤18446744073709551615):∃ k' m,denI iv ((IntKind.u64,x,y):IntKind×AV×AV).2.1=some (k',m)∧denI iv ((IntKind.u64,x,y):IntKind×AV×AV).2.2=some (.u64,IntKind.u64.wrap m) :=
  ⟨k,n,hx,by rw [wrapU64 h1 h2];exact hy⟩
theorem vs0 {iv:Nat→IntKind×Int} {vk:Nat→Nat} {r:VS} {k:Nat} (hk:iv r.k=(.i64,(k:Int))) (ho:k*r.z+r.f+r.l.length≤vk r.i) (hv:vk r.i'≤vk r.i):VsOk iv noV vk r :=
  ⟨by rw [hk];exact ⟨rfl,Int.natCast_nonneg _⟩,by rw [hk];simpa using ho,hv,fun m a h=>by cases h⟩
theorem va1 {iv:Nat→IntKind×Int} {vk:Nat→Nat} {r:VA} {a b c:Nat} (ha:iv r.j=(.i64,(a:Int))) (hb:iv r.j'=(.i64,(b:Int))) (hc:r.src.length=c*r.z) (h:b=a+c) (hl:b<1000000) (hk:vk r.i'≤b*r.z):VaOk iv noV vk r:=by
  refine ⟨by rw [ha];exact ⟨rfl,Int.natCast_nonneg _⟩,by rw [hb];exact ⟨rfl,Int.natCast_nonneg _⟩,?_,by rw [hb];simpa [limit] using hl,by rw [hb];simpa using hk,fun m a h=>by cases h⟩
  rw [ha,hb,hc]
  simp only [Int.toNat_natCast]
  rw [← Nat.add_mul,h]
theorem vz1 {iv:Nat→IntKind×Int} {vk:Nat→Nat} {r:VZ} {a b c:Nat} (ha:iv r.j=(.i64,(a:Int))) (hc:iv r.k=(.i64,(c:Int))) (hb:iv r.j'=(.i64,(b:Int))) (h:b=a+c) (hl:b<1000000) (hk:vk r.i'≤b*r.z):VzOk iv noV vk r :=
  ⟨by rw [ha];exact ⟨rfl,Int.natCast_nonneg _⟩,by rw [hc];exact ⟨rfl,Int.natCast_nonneg _⟩,by rw [hb];exact ⟨rfl,Int.natCast_nonneg _⟩,by rw [ha,hb,hc,h];simp,by rw [hb];simpa [limit] using hl,by rw [hb];simpa using hk,fun m a h=>by cases h⟩
theorem vn1 {iv:Nat→IntKind×Int} {vk:Nat→Nat} {r:VN} {c:Nat} (hc:iv r.k=(.i64,(c:Int))) (hb:iv r.j'=(.i64,(c:Int))) (h1:0<c) (hl:c<1000000) (hk:vk r.i'≤c*r.z):VnOk iv noV vk r :=
  ⟨by rw [hc];exact ⟨rfl,Int.natCast_nonneg _⟩,by rw [hc];exact Int.natCast_pos.2 h1,by rw [hc,hb],by rw [hc];simpa [limit] using hl,by rw [hc];simpa using hk,fun m a h=>by cases h⟩
end Go.X
set_option linter.unusedVariables false
set_option linter.unusedSimpArgs false
set_option linter.unusedSectionVars false
namespace Go.X
open Go.RowKit
variable {P:Program} {B:Kp} {w0:World} {nt:Nat} {a:Act} {w:World}
def Done [Tab] (P:Program) (fn:Func) (B:Kp) (w0:World) (μ:M) (v:AV) (h':H) (e:Exit) (a:Act) (w:World):Prop :=
  (e = .normal∨e = .ret)∧a.defers=[]∧∃ v' μ',(results fn a.tmps).run P w = .ok v' w∧Ext μ μ'∧vrel μ' v v'∧HR B w0 μ' h' w
theorem St.done [τ:Tab] {fn:Func} {fr:Fr} {h:H} {v:AV} {μ:M} {e:Ex} (he:e = .normal∨e = .ret) (hl:results? P fn fr h=some v) (s:St τ B w0 μ fn.ntmps fr h a w):Done P fn B w0 μ v h e.to a w:=by
  obtain ⟨μ',hx,f,r⟩:=s
  obtain ⟨v',k1,k2⟩:=results_sound (P:=P) f r hl
  refine ⟨?_,f.2.1,v',μ',k1,hx,k2,r⟩
  rcases he with rfl | rfl
  · exact .inl rfl
  · exact .inr rfl
theorem Base.of [Tab] {μ:M} {h:H} (r:HR B w0 μ h w):Base B μ h.next :=
  ⟨fun x l hl=>by
    rcases Nat.lt_or_ge x h.next with h1 | h1
    · exact h1
    · have:=(r.fresh x h1).2
      rw [hl] at this;simp at this,fun x hx=>(r.res x hx).1⟩
theorem callOk_of [τ:Tab] {f:FuncId} {fn:Func} {body:Code} {args:List AV} {h h':H} {v:AV} (hf:P.funcs[f]? = some fn) (hb:fn.body=some body) (hl:args.length≤fn.ntmps) (hlim:args.length<limit)
    (H:∀ B w0 μ a w,Base B μ h.next→St τ B w0 μ fn.ntmps (T.ofList 0 .leaf args) h a w→body.wp P (Done P fn B w0 μ v h') a w):CallOk P f args h (v,h'):=by
  intro B w0 μ w args' r ha
  have hlen:args'.size=args.length:=by rw [← Array.length_toList,vrels_length ha]
  refine calls_of_wp hf hb (wp_mono (H B w0 μ _ w (Base.of r) ⟨μ,Ext.refl _,⟨?_,rfl,fun t v ht=>?_⟩,r⟩) ?_)
  · simp;omega
  · rw [T.get_ofList _ _ _ _ (by unfold limit at hlim;omega)] at ht
    split at ht
    · simp only [Nat.sub_zero] at ht
      obtain ⟨v',g1,g2⟩:=vrels_get ha ht
      refine ⟨v',?_,g2⟩
      rw [Array.getElem?_append_left (by omega),← Array.getElem?_toList]
      exact g1
    · simp at ht
  · rintro e' a' w' ⟨he,hd,v',μ',h1,h2,h3,h4⟩
    rcases he with rfl | rfl
    · exact ⟨hd,v',h1,v',μ',rfl,h2,h3,h4⟩
    · exact ⟨hd,v',h1,v',μ',rfl,h2,h3,h4⟩
noncomputable def heq (h h':H):Bool:=Nat.beq h.next h'.next && h.t.same beq? h'.t
theorem heq_eq [Tab] {h h':H} (e:heq h h'=true):h=h':=by
  unfold heq at e
  simp only [Bool.and_eq_true] at e
  cases h;cases h'
  simp only [nbeq_iff] at e
  rw [e.1,T.same_eq (fun _ _=>beq_eq) _ _ e.2]
noncomputable def handAt (g:FuncId) (xs:List AV) (k:H) (p:AV×H):Hand:=fun f args h =>
  Bool.rec none (Bool.rec none (Bool.rec none (some p) (heq k h)) (veqs xs args)) (Nat.beq g f)
theorem handAt_ok [Tab] {g:FuncId} {xs:List AV} {k:H} {p:AV×H} (hk:CallOk P g xs k p):HandOk P (handAt g xs k p):=by
  intro f args h q e
  have e':(Bool.rec none (Bool.rec none (Bool.rec none (some p) (heq k h)) (veqs xs args)) (Nat.beq g f):Option (AV×H))=some q:=e
  cases h1:Nat.beq g f with
  | false=>rw [h1] at e';cases e'
  | true =>
  cases h2:veqs xs args with
  | false=>rw [h1,h2] at e';cases e'
  | true =>
  cases h3:heq k h with
  | false=>rw [h1,h2,h3] at e';cases e'
  | true =>
    rw [h1,h2,h3] at e'
    cases e'
    rw [← nbeq_iff.1 h1,← veqs_eq h2,← heq_eq h3]
    exact hk
end Go.X
set_option linter.unusedVariables false
set_option linter.unusedSimpArgs false
set_option linter.unusedSectionVars false
namespace Go.X
open Go.RowKit
variable {P:Program}
theorem HR.grow [Tab] {B:Kp} {w0 w w':World} {μ:M} {h:H} (r:HR B w0 μ h w) (hw:Below w.heap.size w w'):HR B w0 μ h w' where
  below:=r.below.below hw
  fresh:=r.fresh
  res:=r.res
  blk x b hx:=by
    obtain ⟨l,h1,h2,h3,h4⟩:=r.blk x b hx
    exact ⟨l,h1,h2,h3,h4.congr (hw.block _ h4.lt)⟩
  sep:=r.sep
theorem callStr_ok [Tab] {f:FuncId} {args:List AV} {vs:List Value} {n c:Nat}
    (hc:c<256 ^ n) (ha:∀ (μ:M) (l:List Value),vrels μ args l→l=vs)
    (hk:∀ (w:World),(∀ g o a,Tab.gv g o=some a→∃ v,w.cell? ⟨g,o,none⟩=some v∧(vrel (fun _=>none) a v∧(Tab.gv g (o+1)=none→w.cell? ⟨g,o+1,none⟩=none)))→Calls P f vs.toArray w fun e w'=>e = .returned (.string (strOf n c))∧Below w.heap.size w w') (h:H) :
    CallOk P f args h (.str n c,h):=by
  intro B w0 μ w args' r hv
  have e:args'=vs.toArray:=by
    cases args' with
    | mk l=>rw [ha μ l hv]
  subst e
  refine (hk w fun g o a hg=>(r.below.glbs hg).2).mono ?_
  rintro e w' ⟨rfl,hb⟩
  exact ⟨_,μ,rfl,Ext.refl _,by simp only [vrel];exact ⟨hc,trivial⟩,r.grow hb⟩
theorem callTxt_ok [Tab] {f:FuncId} {args:List AV} {vs:List Value} {i:Nat}
    (ha:∀ (μ:M) (l:List Value),vrels μ args l→l=vs)
    (hk:∀ (w:World),(∀ g o a,Tab.gv g o=some a→∃ v,w.cell? ⟨g,o,none⟩=some v∧(vrel (fun _=>none) a v∧(Tab.gv g (o+1)=none→w.cell? ⟨g,o+1,none⟩=none)))→Calls P f vs.toArray w fun e w'=>e = .returned (.string (Tab.str i))∧Below w.heap.size w w') (h:H) :
    CallOk P f args h (.ostr i,h):=by
  intro B w0 μ w args' r hv
  have e:args'=vs.toArray:=by
    cases args' with
    | mk l=>rw [ha μ l hv]
  subst e
  refine (hk w fun g o a hg=>(r.below.glbs hg).2).mono ?_
  rintro e w' ⟨rfl,hb⟩
  exact ⟨_,μ,rfl,Ext.refl _,by simp only [vrel],r.grow hb⟩
end Go.X
set_option linter.unusedVariables false
set_option linter.unusedSimpArgs false
set_option linter.unusedSectionVars false
namespace Go.X
open Go.RowKit
variable {P:Program}
theorem CallOk.frame [Tab] {f:FuncId} {args:List AV} {h k h':H} {p:AV×H} (hc:CallOk P f args k p) (hn:k.next=h.next) (hs:∀ x b,k.get x=some b→h.get x=some b)
    (hn':h'.next=p.2.next) (hg:∀ x b,h'.get x=some b→p.2.get x=some b∨(k.get x=none∧h.get x=some b)):CallOk P f args h (p.1,h'):=by
  intro B w0 μ w args' r ha
  let E:Nat→Prop:=fun j=>∃ x b l,h.get x=some b∧k.get x=none∧own b=true∧μ x=some l∧l.block=j
  let B':Kp:=⟨fun j=>B.kept j∨E j,B.glob,fun j hj => .inl (B.sub j hj),B.res⟩
  have r':HR B' w μ k w:=by
    refine ⟨⟨rfl,rfl,rfl,Nat.le_refl _,fun _ _=>rfl,?_,?_⟩,?_,?_,?_,?_⟩
    · rintro j (hb | ⟨x,b,l,h1,_,_,h4,h5⟩)
      · exact Nat.lt_of_lt_of_le (r.below.old j hb) r.below.size
      · obtain ⟨l2,g1,_,_,g4⟩:=r.blk x b h1
        rw [h4] at g1;cases g1
        rw [← h5];exact g4.lt
    · exact ⟨fun g o a hg=>let ⟨h1,v,h2,h3⟩:=r.below.glbs hg;⟨.inl h1,v,h2,h3⟩,fun i m a hg=>let ⟨h1,v,h2,h3⟩:=r.below.frgn hg;⟨.inl h1,v,h2,h3⟩⟩
    · intro x hx
      rw [hn] at hx
      obtain ⟨h1,h2⟩:=r.fresh x hx
      refine ⟨?_,h2⟩
      cases hk:k.get x with
      | none=>rfl
      | some b=>rw [hs x b hk] at h1;cases h1
    · intro x hx;rw [hn];exact r.res x hx
    · intro x b hx
      obtain ⟨l,g1,g2,g3,g4⟩:=r.blk x b (hs x b hx)
      refine ⟨l,g1,fun ho=>?_,g3,g4⟩
      rintro (hb | ⟨y,c,m,h1,h2,h3,h4,h5⟩)
      · exact g2 ho hb
      · have hne:x≠y:=by rintro rfl;rw [hx] at h2;cases h2
        exact r.sep x y b c l m (hs x b hx) h1 hne ho h3 g1 h4 h5.symm
    · intro x y b c l m hx hy
      exact r.sep x y b c l m (hs x b hx) (hs y c hy)
  refine (hc B' w μ w args' r' ha).mono ?_
  rintro e w' ⟨v',μ',rfl,hx,hv,r1⟩
  have keep:∀ x b,h.get x=some b→k.get x=none→∃ l,μ x=some l∧μ' x=some l∧(own b=true→¬ B.kept l.block∧B'.kept l.block)∧(own b=false→B.glob l.block)∧brel μ' b l w':=by
    intro x b h1 h2
    obtain ⟨l,g1,g2,g3,g4⟩:=r.blk x b h1
    refine ⟨l,g1,hx _ _ g1,fun ho=>⟨g2 ho,.inr ⟨x,b,l,h1,h2,ho,g1,rfl⟩⟩,g3,?_⟩
    have hw:w'.heap[l.block]? = w.heap[l.block]? := by
      apply r1.below.block
      cases ho:own b with
      | true=>exact .inr ⟨x,b,l,h1,h2,ho,g1,rfl⟩
      | false=>exact .inl (B.sub _ (g3 ho))
    exact (g4.congr hw).ext hx
  refine ⟨v',μ',rfl,hx,hv,⟨r1.below.os.trans r.below.os,r1.below.tape.trans r.below.tape,r1.below.output.trans r.below.output,Nat.le_trans r.below.size r1.below.size,fun j hj=>(r1.below.block j (.inl hj)).trans (r.below.block j hj),r.below.old,r.below.glb⟩,?_,?_,?_,?_⟩
  · intro x hx'
    have hx2:p.2.next≤x:=by rw [← hn'];exact hx'
    obtain ⟨g1,g2⟩:=r1.fresh x hx2
    refine ⟨?_,g2⟩
    cases hh:H.get h' x with
    | none=>rfl
    | some b =>
      rcases hg x b hh with h1 | ⟨h1,h2⟩
      · rw [g1] at h1;cases h1
      · obtain ⟨l,_,h3,_⟩:=keep x b h2 h1
        rw [g2] at h3;cases h3
  · intro x hr
    have:=r1.res x hr
    exact ⟨by show x<h'.next;rw [hn'];exact this.1,this.2⟩
  · intro x b hb
    rcases hg x b hb with h1 | ⟨h1,h2⟩
    · obtain ⟨l,g1,g2,g3,g4⟩:=r1.blk x b h1
      exact ⟨l,g1,fun ho hk=>g2 ho (.inl hk),g3,g4⟩
    · obtain ⟨l,_,h3,h4,h5,h6⟩:=keep x b h2 h1
      exact ⟨l,h3,fun ho=>(h4 ho).1,h5,h6⟩
  · intro x y b c l m hb hc' hne ho ho' hl hm
    rcases hg x b hb with h1 | ⟨h1,h2⟩
    · rcases hg y c hc' with g1 | ⟨g1,g2⟩
      · exact r1.sep x y b c l m h1 g1 hne ho ho' hl hm
      · obtain ⟨l2,_,h3,h4,_⟩:=keep y c g2 g1
        rw [hm] at h3;cases h3
        obtain ⟨l3,k1,k2,_⟩:=r1.blk x b h1
        rw [hl] at k1;cases k1
        intro e
        exact k2 ho (e▸(h4 ho').2)
    · obtain ⟨l2,h3,h4,h5,_⟩:=keep x b h2 h1
      rw [hl] at h4;cases h4
      rcases hg y c hc' with g1 | ⟨g1,g2⟩
      · obtain ⟨l3,k1,k2,_⟩:=r1.blk y c g1
        rw [hm] at k1;cases k1
        intro e
        exact k2 ho' (e▸(h5 ho).2)
      · obtain ⟨l4,k3,k4,k5,_⟩:=keep y c g2 g1
        rw [hm] at k4;cases k4
        exact r.sep x y b c l m h2 g2 hne ho ho' h3 k3
abbrev BL:=List (Nat×Blk)
noncomputable def hIn (N:Nat) (bs:BL):H:=fT (ofPairs bs) fun t=>⟨N,t⟩
noncomputable def hasAll (h:H) (bs:BL):Bool :=
  List.rec (motive:=fun _=>Bool) true (fun p _ ih=>Bool.rec false ih (Option.rec false (fun b=>beq? p.2 b) (h.get p.1))) bs
noncomputable def dropAll (t:T Blk) (bs:BL):T Blk :=
  List.rec (motive:=fun _=>T Blk→T Blk) (fun t=>t) (fun p _ ih t=>fT (t.erase p.1) ih) bs t
noncomputable def layAll (t:T Blk) (bs:BL):T Blk :=
  List.rec (motive:=fun _=>T Blk→T Blk) (fun t=>t) (fun p _ ih t=>fT (t.put p.1 p.2) ih) bs t
structure In where
  f:FuncId
  xs:List AV
  N:Nat
  bs:BL
  v:AV
  N':Nat
  bs':BL
noncomputable def inHand (c:In):Hand:=fun f args h =>
  Bool.rec none (Bool.rec none (Bool.rec none (Bool.rec none (some (c.v,fT (dropAll h.t c.bs) fun t=>fT (layAll t c.bs') fun t=>⟨c.N',t⟩)) (hasAll h c.bs)) (Nat.beq h.next c.N)) (veqs c.xs args)) (Nat.beq c.f f)
noncomputable def okLim (bs:BL):Bool:=List.rec (motive:=fun _=>Bool) true (fun p _ ih=>Bool.rec false ih (Nat.blt p.1 limit)) bs
structure InOk (P:Program) (c:In) [Tab]:Prop where
  lim:okLim c.bs'=true
  run:∃ h',CallOk P c.f c.xs (hIn c.N c.bs) (c.v,h')∧c.N'=h'.next∧hasAll h' c.bs'=true
theorem hasAll_mem [Tab] {h:H}:∀ {bs:BL},hasAll h bs=true→∀ q∈bs,h.get q.1=some q.2
  | [],_,q,hq=>by simp at hq
  | p :: l,e,q,hq=>by
    have e':(@Bool.rec (fun _=>Bool) false (hasAll h l) (@Option.rec _ (fun _=>Bool) false (fun b=>beq? p.2 b) (h.get p.1)))=true:=e
    cases hp:h.get p.1 with
    | none=>rw [hp] at e';cases e'
    | some b =>
      cases hb:beq? p.2 b with
      | false=>rw [hp] at e';simp only [hb] at e';cases e'
      | true =>
        rw [hp] at e';simp only [hb] at e'
        rcases List.mem_cons.1 hq with rfl | hq
        · rw [hp,beq_eq hb]
        · exact hasAll_mem e' q hq
theorem okLim_mem [Tab]:∀ {bs:BL},okLim bs=true→∀ q∈bs,q.1<limit
  | [],_,q,hq=>by simp at hq
  | p :: l,e,q,hq=>by
    have e':(@Bool.rec (fun _=>Bool) false (okLim l) (Nat.blt p.1 limit))=true:=e
    cases hp:Nat.blt p.1 limit with
    | false=>rw [hp] at e';cases e'
    | true =>
      rw [hp] at e'
      rcases List.mem_cons.1 hq with rfl | hq
      · exact blt_iff.1 hp
      · exact okLim_mem e' q hq
theorem dropAll_get:∀ (bs:BL) (t:T Blk) (x:Nat) (b:Blk),(dropAll t bs).get x=some b→(∀ q∈bs,q.1≠x)∧t.get x=some b
  | [],t,x,b,h=>⟨fun q hq=>by simp at hq,h⟩
  | p :: l,t,x,b,h=>by
    have h':(dropAll (t.erase p.1) l).get x=some b:=by
      have:dropAll t (p::l)=fT (t.erase p.1) fun t=>dropAll t l:=rfl
      rw [this,fT_eq] at h;exact h
    obtain ⟨h1,h2⟩:=dropAll_get l _ x b h'
    rw [T.get_erase] at h2
    by_cases e:x=p.1
    · rw [if_pos e] at h2;cases h2
    · rw [if_neg e] at h2
      refine ⟨fun q hq=>?_,h2⟩
      rcases List.mem_cons.1 hq with rfl | hq
      · exact fun e2=>e e2.symm
      · exact h1 q hq
theorem layAll_get:∀ (bs:BL) (t:T Blk) (x:Nat) (b:Blk),(∀ q∈bs,q.1<limit)→(layAll t bs).get x=some b→(x,b)∈bs∨t.get x=some b
  | [],t,x,b,_,h => .inr h
  | p :: l,t,x,b,hl,h=>by
    have h':(layAll (t.put p.1 p.2) l).get x=some b:=by
      have:layAll t (p::l)=fT (t.put p.1 p.2) fun t=>layAll t l:=rfl
      rw [this,fT_eq] at h;exact h
    rcases layAll_get l _ x b (fun q hq=>hl q (List.mem_cons_of_mem _ hq)) h' with h1 | h1
    · exact .inl (List.mem_cons_of_mem _ h1)
    · rw [T.get_put _ _ _ _ (by have:=hl p List.mem_cons_self;unfold limit at this;omega)] at h1
      by_cases e:x=p.1
      · rw [if_pos e] at h1;cases h1;subst e;exact .inl List.mem_cons_self
      · rw [if_neg e] at h1;exact .inr h1
theorem hIn_get [Tab] {N:Nat} {bs:BL} (hlim:∀ q∈bs,q.1<limit) {x:Nat} {b:Blk} (h:(hIn N bs).get x=some b):(x,b)∈bs:=by
  unfold hIn at h
  rw [fT_eq] at h
  exact ofPairs_get hlim h
theorem hIn_none [Tab] {N:Nat} {bs:BL} (hlim:∀ q∈bs,q.1<limit) {x:Nat} (h:∀ q∈bs,q.1≠x):(hIn N bs).get x=none:=by
  cases hg:(hIn N bs).get x with
  | none=>rfl
  | some b=>exact absurd rfl (h _ (hIn_get hlim hg))
theorem inHand_ok [Tab] {c:In} (o:InOk P c) (hlim:okLim c.bs=true):HandOk P (inHand c):=by
  intro f args h q e
  have e':(Bool.rec none (Bool.rec none (Bool.rec none (Bool.rec none (some (c.v,fT (dropAll h.t c.bs) fun t=>fT (layAll t c.bs') fun t=>⟨c.N',t⟩)) (hasAll h c.bs)) (Nat.beq h.next c.N)) (veqs c.xs args)) (Nat.beq c.f f):Option (AV×H))=some q:=e
  cases h1:Nat.beq c.f f with
  | false=>rw [h1] at e';cases e'
  | true =>
  cases h2:veqs c.xs args with
  | false=>rw [h1,h2] at e';cases e'
  | true =>
  cases h3:Nat.beq h.next c.N with
  | false=>rw [h1,h2,h3] at e';cases e'
  | true =>
  cases h4:hasAll h c.bs with
  | false=>rw [h1,h2,h3,h4] at e';cases e'
  | true =>
    rw [h1,h2,h3,h4] at e'
    rw [fT_eq,fT_eq] at e'
    cases e'
    obtain ⟨hh,g1,g2,g3⟩:=o.run
    rw [← nbeq_iff.1 h1,← veqs_eq h2]
    have hl:=okLim_mem hlim
    have hm:=hasAll_mem h4
    refine CallOk.frame (p:=(c.v,hh)) g1 ?_ ?_ ?_ ?_
    · rw [nbeq_iff.1 h3];unfold hIn;rw [fT_eq]
    · intro x b hx
      exact hm _ (hIn_get hl hx)
    · exact g2
    · intro x b hx
      rcases layAll_get c.bs' _ x b (okLim_mem o.lim) hx with k1 | k1
      · exact .inl (hasAll_mem g3 _ k1)
      · obtain ⟨k2,k3⟩:=dropAll_get c.bs _ x b k1
        exact .inr ⟨hIn_none hl k2,k3⟩
noncomputable def inRun (P:Program) [Tab] (K:Hand) (n:Nat) (c:In):Bool :=
  Option.rec false (fun p=>veq c.v p.1 && (Nat.beq c.N' p.2.next && hasAll p.2 c.bs')) (call P K n c.f c.xs (hIn c.N c.bs))
theorem InOk.of_run [Tab] {K:Hand} (hm:P.follows .mixedOrders=true) (hK:HandOk P K) {n:Nat} {c:In} (hl:okLim c.bs'=true) (e:inRun P K n c=true):InOk P c:=by
  unfold inRun at e
  cases h1:call P K n c.f c.xs (hIn c.N c.bs) with
  | none=>rw [h1] at e;cases e
  | some p =>
    rw [h1] at e
    simp only [Bool.and_eq_true] at e
    obtain ⟨e1,e2,e3⟩:=e
    refine ⟨hl,p.2,?_,nbeq_iff.1 e2,e3⟩
    rw [veq_eq e1]
    exact call_sound hm hK h1
end Go.X
set_option linter.unusedVariables false
set_option linter.unusedSimpArgs false
set_option linter.unusedSectionVars false
namespace Go.X
noncomputable def Hand.at (g:FuncId) (K:Hand):Hand:=fun f args h=>Bool.rec Option.none (K f args h) (Nat.beq g f)
theorem HandOk.at [Tab] {P:Program} {K:Hand} (g:FuncId) (hK:HandOk P K):HandOk P (Hand.at g K):=by
  intro f args h p e
  have e':(Bool.rec Option.none (K f args h) (Nat.beq g f):Option (AV×H))=some p:=e
  cases h1:Nat.beq g f with
  | false=>rw [h1] at e';cases e'
  | true=>rw [h1] at e';exact hK _ _ _ _ e'
noncomputable def Hand.sp (N:Nat) (K L:Hand):Hand:=fun f args h=>Bool.rec (L f args h) (K f args h) (Nat.blt h.next N)
theorem HandOk.sp [Tab] {P:Program} {K L:Hand} (N:Nat) (hK:HandOk P K) (hL:HandOk P L):HandOk P (Hand.sp N K L):=by
  intro f args h p e
  have e':(Bool.rec (L f args h) (K f args h) (Nat.blt h.next N):Option (AV×H))=some p:=e
  cases h1:Nat.blt h.next N with
  | false=>rw [h1] at e';exact hL _ _ _ _ e'
  | true=>rw [h1] at e';exact hK _ _ _ _ e'
end Go.X
set_option linter.unusedVariables false
set_option linter.unusedSimpArgs false
set_option linter.unusedSectionVars false
namespace Go.X
open Go.RowKit
theorem wrap32 {n:Int} (h1 : -2147483648≤n) (h2:n≤2147483647):IntKind.i32.wrap n=n:=by
  have hb:IntKind.i32.bits=32:=rfl
  have hs:IntKind.i32.signed=true:=rfl
  unfold IntKind.wrap
  simp only [hb,hs]
  by_cases h:0≤n
  · have e:n % 2 ^ 32=n:=Int.emod_eq_of_lt h (by omega)
    rw [e]
    simp
    omega
  · have e:n % 2 ^ 32=n+2 ^ 32:=by omega
    rw [e]
    simp
    omega
theorem ic32 {iv:Nat→IntKind×Int} {k:IntKind} {x y:AV} {n:Int} (hx:denI iv x=some (k,n)) (hy:denI iv y=some (.i32,n)) (h1 : -2147483648≤n) (h2:n≤2147483647):∃ k' m,denI iv ((IntKind.i32,x,y):IntKind×AV×AV).2.1=some (k',m)∧denI iv ((IntKind.i32,x,y):IntKind×AV×AV).2.2=some (.i32,IntKind.i32.wrap m) :=
  ⟨k,n,hx,by rw [wrap32 h1 h2];exact hy⟩
abbrev IcOk' (iv:Nat→IntKind×Int) (r:IntKind×AV×AV):Prop:=∃ k n,denI iv r.2.1=some (k,n)∧denI iv r.2.2=some (r.1,r.1.wrap n)
theorem icNil {iv:Nat→IntKind×Int}:∀ r∈([]:List (IntKind×AV×AV)),IcOk' iv r:=fun r h=>by simp at h
theorem icCons {iv:Nat→IntKind×Int} {r:IntKind×AV×AV} {l:List (IntKind×AV×AV)} (h:IcOk' iv r) (k:∀ r∈l,IcOk' iv r):∀ q∈r::l,IcOk' iv q:=fun q hq=>by
  simp only [List.mem_cons] at hq
  rcases hq with rfl | hq
  · exact h
  · exact k q hq
theorem tmod_lo {a:Int} {n:Int} (h:0<n) : -n<a.tmod n:=by
  have:=Int.lt_tmod_of_pos a h;omega
theorem tmod_hi {a:Int} {n:Int} (h:0<n):a.tmod n<n:=Int.tmod_lt_of_pos a h
end Go.X
set_option linter.unusedVariables false
set_option linter.unusedSimpArgs false
set_option linter.unusedSectionVars false
namespace Go.X
variable {iv:Nat→IntKind×Int}
theorem bcode_inj {a b:BinOp} (h:bcode a=bcode b):a=b:=by cases a<;>cases b<;>first | rfl | (simp [bcode] at h)
theorem ibOf {op:BinOp} {x y z:AV} {k k':IntKind} {a b:Int} {v:AV} (hx:denI iv x=some (k,a)) (hy:denI iv y=some (k',b)) (h:intBin op k a k' b=some v) (hz:outI iv z v):IbOk iv (bcode op,x,y,z):=by
  intro o ho
  obtain rfl:=bcode_inj ho
  exact ⟨k,a,k',b,v,hx,hy,h,hz⟩
theorem ibShl {x y z:AV} {k k':IntKind} {a b c:Int} (hx:denI iv x=some (k,a)) (hy:denI iv y=some (k',b)) (hz:denI iv z=some (k,c)) (h0:0≤b) (h:k.wrap (a*2 ^ (min b.toNat k.bits))=c):IbOk iv (15,x,y,z):=by
  refine ibOf (op := .shl) hx hy (v := .int k c) ?_ hz
  show shiftOp .shl k a b=_
  simp only [shiftOp]
  rw [if_neg (by omega),h]
theorem ibShr {x y z:AV} {k k':IntKind} {a b c:Int} (hx:denI iv x=some (k,a)) (hy:denI iv y=some (k',b)) (hz:denI iv z=some (k,c)) (h0:0≤b) (h:a.fdiv (2 ^ (min b.toNat k.bits))=c):IbOk iv (16,x,y,z):=by
  refine ibOf (op := .shr) hx hy (v := .int k c) ?_ hz
  show shiftOp .shr k a b=_
  simp only [shiftOp]
  rw [if_neg (by omega),h]
theorem kc (k:IntKind):Nat.beq (kcode k) (kcode k)=true:=by cases k<;>rfl
theorem ibAnd {x y z:AV} {k:IntKind} {a b c:Int} (hx:denI iv x=some (k,a)) (hy:denI iv y=some (k,b)) (hz:denI iv z=some (k,c)) (h:k.wrap (BitVec.ofInt k.bits a &&& BitVec.ofInt k.bits b).toNat=c):IbOk iv (5,x,y,z):=by
  refine ibOf (op := .and) hx hy (v := .int k c) ?_ hz
  show (Bool.rec (ifb (Nat.beq (kcode k) (kcode k)) (intOp .and k a b)) (shiftOp .and k a b) false:Option AV)=_
  rw [kc,← h];rfl
theorem ibOr {x y z:AV} {k:IntKind} {a b c:Int} (hx:denI iv x=some (k,a)) (hy:denI iv y=some (k,b)) (hz:denI iv z=some (k,c)) (h:k.wrap (BitVec.ofInt k.bits a ||| BitVec.ofInt k.bits b).toNat=c):IbOk iv (6,x,y,z):=by
  refine ibOf (op := .or) hx hy (v := .int k c) ?_ hz
  show (Bool.rec (ifb (Nat.beq (kcode k) (kcode k)) (intOp .or k a b)) (shiftOp .or k a b) false:Option AV)=_
  rw [kc,← h];rfl
theorem ibAndNot {x y z:AV} {k:IntKind} {a b c:Int} (hx:denI iv x=some (k,a)) (hy:denI iv y=some (k,b)) (hz:denI iv z=some (k,c)) (h:k.wrap (BitVec.ofInt k.bits a &&& ~~~BitVec.ofInt k.bits b).toNat=c):IbOk iv (8,x,y,z):=by
  refine ibOf (op := .andNot) hx hy (v := .int k c) ?_ hz
  show (Bool.rec (ifb (Nat.beq (kcode k) (kcode k)) (intOp .andNot k a b)) (shiftOp .andNot k a b) false:Option AV)=_
  rw [kc,← h];rfl
theorem ibEqK {x y:AV} {k:IntKind} {a b:Int} {t:Bool} (hx:denI iv x=some (k,a)) (hy:denI iv y=some (k,b)) (h:decide (a=b)=t):IbOk iv (9,x,y,.bool t):=by
  refine ibOf (op := .eql) hx hy (v := .bool (a == b)) ?_ ?_
  · show (Bool.rec (ifb (Nat.beq (kcode k) (kcode k)) (intOp .eql k a b)) (shiftOp .eql k a b) false:Option AV)=_
    rw [kc];rfl
  · show AV.bool t = .bool (a == b)
    rw [← h];congr 1
theorem ibNeK {x y:AV} {k:IntKind} {a b:Int} {t:Bool} (hx:denI iv x=some (k,a)) (hy:denI iv y=some (k,b)) (h:decide (a=b) = !t):IbOk iv (10,x,y,.bool t):=by
  refine ibOf (op := .neq) hx hy (v := .bool (a != b)) ?_ ?_
  · show (Bool.rec (ifb (Nat.beq (kcode k) (kcode k)) (intOp .neq k a b)) (shiftOp .neq k a b) false:Option AV)=_
    rw [kc];rfl
  · show AV.bool t = .bool (a != b)
    have:(a == b) = !t:=by rw [← h];rfl
    rw [bne,this,Bool.not_not]
abbrev IcOk (iv:Nat→IntKind×Int) (r:IntKind×AV×AV):Prop:=∃ k n,denI iv r.2.1=some (k,n)∧denI iv r.2.2=some (r.1,r.1.wrap n)
theorem icOf {k k':IntKind} {x y:AV} {n c:Int} (hx:denI iv x=some (k',n)) (hy:denI iv y=some (k,c)) (h:k.wrap n=c):IcOk iv (k,x,y):=⟨k',n,hx,by show denI iv y=some (k,k.wrap n);rw [h];exact hy⟩
theorem wrap_mod (k:IntKind) (n:Int):k.wrap n % 2 ^ k.bits=n % 2 ^ k.bits:=by
  unfold IntKind.wrap
  simp only
  split
  · rw [Int.sub_emod,Int.emod_emod,Int.emod_self,Int.sub_zero,Int.emod_emod]
  · rw [Int.emod_emod]
theorem wrap_congr (k:IntKind) {n m:Int} (h:n % 2 ^ k.bits=m % 2 ^ k.bits):k.wrap n=k.wrap m:=by
  unfold IntKind.wrap
  simp only [h]
theorem wrap_wrap {k l:IntKind} (h:k.bits≤l.bits) (n:Int):k.wrap (l.wrap n)=k.wrap n:=by
  refine wrap_congr k ?_
  have hd:(2 ^ k.bits:Int) ∣ 2 ^ l.bits:=⟨2 ^ (l.bits - k.bits),by rw [← Int.pow_add];congr 1;omega⟩
  rw [← Int.emod_emod_of_dvd (l.wrap n) hd,wrap_mod,Int.emod_emod_of_dvd n hd]
theorem wrapU (W:BitVec 64):IntKind.u64.wrap (W.toNat:Int)=(W.toNat:Int):=wrapU64 (by omega) (by have:=W.isLt;omega)
theorem ofIntU (W:BitVec 64):BitVec.ofInt IntKind.u64.bits (W.toNat:Int)=W:=by
  show BitVec.ofInt 64 (W.toNat:Int)=W
  rw [BitVec.ofInt_natCast,BitVec.ofNat_toNat,BitVec.setWidth_eq]
theorem u64OfInt (v:Int):IntKind.u64.wrap v=((BitVec.ofInt 64 v).toNat:Int):=by
  unfold IntKind.wrap IntKind.bits IntKind.signed
  simp only [Bool.false_and]
  rw [BitVec.toNat_ofInt]
  show v % 2 ^ 64=_
  omega
abbrev wI (W:BitVec 64):Int:=(W.toNat:Int)
theorem ibShlW {x y z:AV} {k':IntKind} {W V:BitVec 64} {s:Nat} (hx:denI iv x=some (.u64,wI W)) (hy:denI iv y=some (k',(s:Int))) (hz:denI iv z=some (.u64,wI V)) (hs:s<64) (h:W <<< s=V):IbOk iv (15,x,y,z):=by
  refine ibShl hx hy hz (by omega) ?_
  subst h
  have hm:min (s:Int).toNat IntKind.u64.bits=s:=by show min (s:Int).toNat 64=s;omega
  rw [hm]
  unfold IntKind.wrap IntKind.bits IntKind.signed
  simp only [Bool.false_and]
  show (W.toNat:Int)*2 ^ s % 2 ^ 64=((W <<< s).toNat:Int)
  rw [BitVec.toNat_shiftLeft,Nat.shiftLeft_eq]
  simp
theorem ibShrW {x y z:AV} {k':IntKind} {W V:BitVec 64} {s:Nat} (hx:denI iv x=some (.u64,wI W)) (hy:denI iv y=some (k',(s:Int))) (hz:denI iv z=some (.u64,wI V)) (hs:s<64) (h:W >>> s=V):IbOk iv (16,x,y,z):=by
  refine ibShr hx hy hz (by omega) ?_
  subst h
  have hm:min (s:Int).toNat IntKind.u64.bits=s:=by show min (s:Int).toNat 64=s;omega
  rw [hm,Int.fdiv_eq_ediv_of_nonneg _ (by exact Int.pow_nonneg (by decide))]
  show (W.toNat:Int) / 2 ^ s=((W >>> s).toNat:Int)
  rw [BitVec.toNat_ushiftRight,Nat.shiftRight_eq_div_pow]
  simp
theorem ibAndW {x y z:AV} {W U V:BitVec 64} (hx:denI iv x=some (.u64,wI W)) (hy:denI iv y=some (.u64,wI U)) (hz:denI iv z=some (.u64,wI V)) (h:W &&& U=V):IbOk iv (5,x,y,z):=by
  refine ibAnd hx hy hz ?_
  subst h;rw [ofIntU,ofIntU];exact wrapU _
theorem ibOrW {x y z:AV} {W U V:BitVec 64} (hx:denI iv x=some (.u64,wI W)) (hy:denI iv y=some (.u64,wI U)) (hz:denI iv z=some (.u64,wI V)) (h:W ||| U=V):IbOk iv (6,x,y,z):=by
  refine ibOr hx hy hz ?_
  subst h;rw [ofIntU,ofIntU];exact wrapU _
theorem ibAndNotW {x y z:AV} {W U V:BitVec 64} (hx:denI iv x=some (.u64,wI W)) (hy:denI iv y=some (.u64,wI U)) (hz:denI iv z=some (.u64,wI V)) (h:W &&& ~~~U=V):IbOk iv (8,x,y,z):=by
  refine ibAndNot hx hy hz ?_
  subst h;rw [ofIntU,ofIntU];exact wrapU _
def numV (k:IntKind) (A:Nat) (e:Nat→Int):Nat→Option AV:=fun m=>if m<A then some (.int k (e m)) else none
theorem numV_some {k:IntKind} {A:Nat} {e:Nat→Int} {m:Nat} {a:AV} (h:numV k A e m=some a):m<A∧a = .int k (e m):=by
  unfold numV at h
  split at h
  · cases h;exact ⟨by assumption,rfl⟩
  · cases h
theorem numV_lt {k:IntKind} {A:Nat} {e:Nat→Int} {m:Nat} (h:m<A):numV k A e m=some (.int k (e m)):=by unfold numV;rw [if_pos h]
theorem numV_plain {k:IntKind} {A:Nat} {e:Nat→Int}:∀ m a,numV k A e m=some a→plain a=true:=fun m a h=>by
  obtain ⟨_,rfl⟩:=numV_some h;rfl
theorem numV_sub {k:IntKind} {A A':Nat} {e e':Nat→Int} (h:A'≤A) (he:∀ m,m<A'→e' m=e m):∀ m a,numV k A' e' m=some a→numV k A e m=some a∧∃ n,a = .int k n:=fun m a ha=>by
  obtain ⟨h1,rfl⟩:=numV_some ha
  rw [he m h1]
  exact ⟨numV_lt (by omega),_,rfl⟩
variable {vv:Nat→Nat→Option AV} {vk:Nat→Nat}
theorem vlN {r:VL} {K:IntKind} {k A:Nat} {e:Nat→Int} {b:AV} (hk:iv r.k=(.i64,(k:Int))) (h0:vv r.i=numV K A e) (hl:r.l=[b]) (ho:k*r.z+r.f<A) (hb:denI iv b=some (K,e (k*r.z+r.f))):VlOk iv vv r:=by
  refine ⟨by rw [hk];exact ⟨rfl,by simp⟩,fun m x hx=>?_⟩
  rw [hl] at hx
  have hm:m=0:=by
    have:=(List.getElem?_eq_some_iff.1 hx).1
    simpa using this
  subst hm
  simp at hx
  subst hx
  have e1:(iv r.k).2.toNat=k:=by rw [hk];simp
  rw [e1,h0,Nat.add_zero]
  exact ⟨_,numV_lt ho,.inr ⟨_,rfl,hb⟩⟩
theorem vsN {r:VS} {K:IntKind} {k A:Nat} {e e':Nat→Int} {b:AV} (hk:iv r.k=(.i64,(k:Int))) (h0:vv r.i=numV K A e) (h1:vv r.i'=numV K A e') (hv:vk r.i=A) (hv':vk r.i'=A) (hl:r.l=[b]) (ho:k*r.z+r.f<A) (hb:denI iv b=some (K,e' (k*r.z+r.f))) (he:∀ m,m<A→m≠k*r.z+r.f→e' m=e m):VsOk iv vv vk r:=by
  have e1:(iv r.k).2.toNat=k:=by rw [hk];simp
  refine ⟨by rw [hk];exact ⟨rfl,by simp⟩,by rw [e1,hl,hv];simp;omega,by rw [hv,hv'];exact Nat.le_refl _,fun m x hx=>?_⟩
  rw [h1] at hx
  obtain ⟨hm,rfl⟩:=numV_some hx
  rw [e1,h0,hl]
  by_cases hmo:m=k*r.z+r.f
  · subst hmo
    rw [if_pos ⟨Nat.le_refl _,by simp⟩]
    simp only [Nat.sub_self]
    exact ⟨b,rfl,.inr ⟨_,hb,rfl⟩⟩
  · rw [if_neg (by simp;omega),numV_lt hm]
    exact ⟨_,rfl,.inl (by rw [he m hm hmo])⟩
theorem vnN {r:VN} {K:IntKind} {c:Nat} {e':Nat→Int} (hc:iv r.k=(.i64,(c:Int))) (hb:iv r.j'=(.i64,(c:Int))) (h1:vv r.i'=numV K c e') (hk:vk r.i'=c) (hz:r.z=1) (hzc:r.zc=[.int K 0]) (h0:0<c) (hl:c<1000000) (hs:∀ m,m<c→e' m=0):VnOk iv vv vk r:=by
  refine ⟨by rw [hc];exact ⟨rfl,by simp⟩,by rw [hc];simpa using h0,by rw [hb,hc],by rw [hc];simpa [limit] using hl,by rw [hk,hc,hz];simp,fun m a ha=>?_⟩
  rw [h1] at ha
  obtain ⟨hm,rfl⟩:=numV_some ha
  refine ⟨by rw [hc,hz];simpa using hm,.int K 0,?_,.inl (by rw [hs m hm])⟩
  rw [hzc];simp [Nat.mod_one]
def msk (S s:Nat):BitVec 64:=BitVec.ofNat 64 (2 ^ S - 1) <<< s
def setW (S s:Nat) (W v:BitVec 64):BitVec 64:=(W &&& ~~~msk S s) ||| ((v <<< s) &&& msk S s)
theorem msk_bit (S s i:Nat) (hi:i<64):(msk S s).getLsbD i=(decide (s≤i) && decide (i<s+S)):=by
  unfold msk
  rw [BitVec.getLsbD_shiftLeft,BitVec.getLsbD_ofNat,Nat.testBit_two_pow_sub_one]
  by_cases h1:s≤i
  · have h2:decide (i - s<S)=decide (i<s+S):=by congr 1;simp only [eq_iff_iff];omega
    have h3:i - s<64:=by omega
    simp [hi,h1,h2,h3,show ¬ i<s from by omega]
  · simp [h1,show i<s from by omega]
theorem setW_bit (S s:Nat) (W v:BitVec 64) (i:Nat) (hi:i<64):(setW S s W v).getLsbD i=if s≤i∧i<s+S then v.getLsbD (i - s) else W.getLsbD i:=by
  unfold setW
  rw [BitVec.getLsbD_or,BitVec.getLsbD_and,BitVec.getLsbD_and,BitVec.getLsbD_not,msk_bit S s i hi,BitVec.getLsbD_shiftLeft]
  by_cases h1:s≤i∧i<s+S
  · simp [hi,h1.1,h1.2,show ¬ i<s from by omega]
  · rw [if_neg h1]
    by_cases h2:s≤i
    · have:¬ i<s+S:=fun h=>h1 ⟨h2,h⟩
      simp [hi,this]
    · simp [hi,h2,show i<s from by omega]
def upd (per S:Nat) (c:Nat→BitVec 64) (k:Nat) (v:BitVec 64):Nat→BitVec 64:=fun m=>if m=k / per then setW S (k % per*S) (c m) v else c m
def low (per S:Nat) (c:Nat→BitVec 64) (j:Nat):BitVec S:=(c (j / per) >>> (j % per*S)).setWidth S
theorem place_lt {per S j:Nat} (h:per*S=64):j % per*S+S≤64:=by
  have hp:0<per:=Nat.pos_of_ne_zero (by rintro rfl;simp at h)
  have h1:j % per+1≤per:=Nat.mod_lt _ hp
  have h2:=Nat.mul_le_mul_right S h1
  rw [Nat.add_mul,Nat.one_mul,h] at h2
  exact h2
theorem low_upd {per S:Nat} (h:per*S=64) (c:Nat→BitVec 64) (k j:Nat) (v:BitVec 64):low per S (upd per S c k v) j=if j=k then v.setWidth S else low per S c j:=by
  have hj:=place_lt (j:=j) h
  have hk:=place_lt (j:=k) h
  have key:∀ b,b<S→(low per S (upd per S c k v) j).getLsbD b=(if j=k then v.setWidth S else low per S c j).getLsbD b:=by
    intro b hb
    unfold low upd
    rw [BitVec.getLsbD_setWidth,BitVec.getLsbD_ushiftRight]
    by_cases e:j / per=k / per
    · rw [if_pos e,setW_bit _ _ _ _ _ (by omega)]
      by_cases e2:j=k
      · subst e2
        rw [if_pos (by omega),if_pos rfl,BitVec.getLsbD_setWidth]
        congr 2
        omega
      · have hp:0<per:=Nat.pos_of_ne_zero (by rintro rfl;simp at h)
        have e3:j % per≠k % per:=fun e3=>e2 (by rw [← Nat.div_add_mod j per,← Nat.div_add_mod k per,e,e3])
        have e4:¬ (k % per*S≤j % per*S+b∧j % per*S+b<k % per*S+S):=by
          rcases Nat.lt_or_gt_of_ne e3 with h1 | h1
          · have:=Nat.mul_le_mul_right S (show j % per+1≤k % per from h1)
            rw [Nat.add_mul,Nat.one_mul] at this
            omega
          · have:=Nat.mul_le_mul_right S (show k % per+1≤j % per from h1)
            rw [Nat.add_mul,Nat.one_mul] at this
            omega
        rw [if_neg e4,if_neg e2,BitVec.getLsbD_setWidth,BitVec.getLsbD_ushiftRight]
    · have e2:j≠k:=fun h'=>e (by rw [h'])
      rw [if_neg e,if_neg e2,BitVec.getLsbD_setWidth,BitVec.getLsbD_ushiftRight]
  exact BitVec.eq_of_getLsbD_eq fun i hi=>key i hi
def putsTo (per S:Nat) (f:Nat→BitVec 64):Nat→Nat→BitVec 64
  | 0=>fun _=>0
  | i+1=>upd per S (putsTo per S f i) i (f i)
theorem low_puts {per S:Nat} (h:per*S=64) (f:Nat→BitVec 64):∀ (n j:Nat),j<n→low per S (putsTo per S f n) j=(f j).setWidth S
  | 0,j,hj=>by omega
  | n+1,j,hj=>by
    rw [putsTo,low_upd h]
    split
    · rename_i e;rw [e]
    · exact low_puts h f n j (by omega)
theorem low_mod {per S:Nat} (c:Nat→BitVec 64) (j:Nat):(wI (c (j / per) >>> (j % per*S))) % 2 ^ S=((low per S c j).toNat:Int):=by
  unfold low wI
  rw [BitVec.toNat_setWidth]
  simp
theorem setWidth_mod {S:Nat} (hS:S≤64) (v:Int):(((BitVec.ofInt 64 v).setWidth S).toNat:Int)=v % 2 ^ S:=by
  rw [BitVec.toNat_setWidth,BitVec.toNat_ofInt]
  have hd:((2:Int) ^ S) ∣ 2 ^ 64:=⟨2 ^ (64 - S),by rw [← Int.pow_add];congr 1;omega⟩
  have h0:(0:Int)≤v % (2 ^ 64:Nat):=Int.emod_nonneg _ (by decide)
  have:(((v % (2 ^ 64:Nat)).toNat % 2 ^ S:Nat):Int)=(v % (2 ^ 64:Nat)) % 2 ^ S:=by
    rw [Int.natCast_emod,Int.toNat_of_nonneg h0];simp
  rw [this]
  exact Int.emod_emod_of_dvd v hd
end Go.X
set_option linter.unusedVariables false
set_option linter.unusedSimpArgs false
set_option linter.unusedSectionVars false
namespace Go.X
open Go.RowKit
variable {P:Program}
theorem SameTab.symm {T T':Tab} (e:SameTab T T'):SameTab T' T:=⟨e.rv.symm,e.iv.symm,e.str.symm,e.vv.symm,e.vk.symm,e.gv.symm,e.fb.symm,e.fcap.symm,e.fv.symm⟩
theorem HR.tab {T T':Tab} (e:SameTab T T') {B:Kp} {w0 w:World} {μ:M} {h:H} (r:@HR T B w0 μ h w):@HR T' B w0 μ h w:=by
  have hf:=@HR.fresh T B w0 μ h w r
  obtain ⟨⟨e1,e2,e3,e4,e5,e6⟩,eg,eres,eblk,esep⟩:=@HR.parts B w0 w T μ h r
  refine ⟨⟨e1,e2,e3,e4,e5,e6,Gl.tab e eg⟩,hf,eres,fun x b hb=>?_,esep⟩
  obtain ⟨l,g1,g2,g3,g4⟩:=eblk x b hb
  exact ⟨l,g1,g2,g3,brel.tab e g4⟩
theorem CallOk.tab {T T':Tab} (e:SameTab T T') {f:FuncId} {args:List AV} {h:H} {p:AV×H} (o:@CallOk T P f args h p):@CallOk T' P f args h p:=by
  intro B w0 μ w args' r ha
  refine (o B w0 μ w args' (HR.tab e.symm r) (vrels.tab e.symm _ _ ha)).mono ?_
  rintro e' w' ⟨v',μ',h1,h2,h3,h4⟩
  exact ⟨v',μ',h1,h2,vrel.tab e _ _ h3,HR.tab e h4⟩
theorem InOk.tab {T T':Tab} (e:SameTab T T') {c:In} (o:@InOk P c T):@InOk P c T':=by
  obtain ⟨h',h1,h2,h3⟩:=@InOk.run P c T o
  exact ⟨@InOk.lim P c T o,h',CallOk.tab e h1,h2,h3⟩
theorem SumOk.tab {T T':Tab} (e:SameTab T T') {f:FuncId} {args:List AV} {s:Sum} (o:@SumOk T P f args s):@SumOk T' P f args s:=by
  obtain ⟨hs,h1,h2,h3⟩:=@SumOk.run T P f args s o
  exact ⟨@SumOk.nm T P f args s o,hs,CallOk.tab e h1,h2,h3⟩
end Go.X
set_option linter.unusedVariables false
set_option linter.unusedSimpArgs false
set_option linter.unusedSectionVars false
namespace Go.X
open Go.RowKit
def pv (b c:Nat) (l:List AV):Nat→Option AV:=fun m=>if m<b then some (.rw (4*m+c)) else l[m - b]?
def pk (b:Nat) (l:List AV):Nat:=b+l.length
theorem pv_plain {b c:Nat} {l:List AV} (h:∀ a∈l,vplain a=true):∀ m a,pv b c l m=some a→vplain a=true:=by
  intro m a e
  unfold pv at e
  split at e
  · cases e;rfl
  · exact h a (List.mem_of_getElem? e)
theorem pv_lo {b c:Nat} {l:List AV} {m:Nat} (h:m<b):pv b c l m=some (.rw (4*m+c)):=by unfold pv;rw [if_pos h]
theorem pv_hi {b c:Nat} {l:List AV} (o:Nat):pv b c l (b+o)=l[o]? := by unfold pv;rw [if_neg (by omega)];congr 1;omega
theorem pv_lt {b c:Nat} {l:List AV} {m:Nat} {a:AV} (h:pv b c l m=some a):m<b+l.length:=by
  unfold pv at h
  split at h
  · omega
  · have:=(List.getElem?_eq_some_iff.1 h).1;omega
theorem pv_plainB {b c:Nat} {l:List AV} (h:l.all vplain=true) {m:Nat} {a:AV} (e:pv b c l m=some a):vplain a=true:=pv_plain (fun x hx=>List.all_eq_true.1 h x hx) m a e
variable {iv:Nat→IntKind×Int} {vv:Nat→Nat→Option AV} {vk:Nat→Nat}
abbrev VRows.rtab (R:VRows iv vv vk) (rv:Nat→Value):Tab:={ R.tab with rv:=rv }
theorem VRows.rsame (R R':VRows iv vv vk) (rv:Nat→Value):SameTab (R.rtab rv) (R'.rtab rv):=⟨rfl,rfl,rfl,rfl,rfl,rfl,rfl,rfl,rfl⟩
theorem vlP {r:VL} {k b c o:Nat} {L:List AV} (hk:iv r.k=(.i64,(k:Int))) (hv:vv r.i=pv b c L) (ho:k*r.z+r.f=b+o) (hl:r.l=(L.drop o).take r.l.length):VlOk iv vv r:=by
  refine ⟨by rw [hk];exact ⟨rfl,Int.natCast_nonneg _⟩,fun m x hx=>⟨x,?_,.inl rfl⟩⟩
  have e1:(iv r.k).2.toNat=k:=by rw [hk];simp
  rw [e1,hv,ho,Nat.add_assoc,pv_hi]
  rw [hl,List.getElem?_take] at hx
  split at hx
  · rw [List.getElem?_drop] at hx;exact hx
  · cases hx
theorem vsP {r:VS} {k b c o:Nat} {L L':List AV} (hk:iv r.k=(.i64,(k:Int))) (hv:vv r.i=pv b c L) (hv':vv r.i'=pv b c L') (h1:vk r.i=pk b L) (h2:vk r.i'=pk b L') (ho:k*r.z+r.f=b+o)
    (hL:L'=L.take o++(r.l++L.drop (o+r.l.length))) (hlen:o+r.l.length≤L.length):VsOk iv vv vk r:=by
  have e1:(iv r.k).2.toNat=k:=by rw [hk];simp
  have hl':L'.length=L.length:=by rw [hL];simp;omega
  refine ⟨by rw [hk];exact ⟨rfl,Int.natCast_nonneg _⟩,by rw [e1,h1,ho];unfold pk;omega,by rw [h1,h2];unfold pk;omega,fun m a ha=>⟨a,?_,.inl rfl⟩⟩
  rw [e1,ho]
  rw [hv'] at ha
  by_cases c1:m<b
  · rw [if_neg (by omega),hv,pv_lo c1]
    rw [pv_lo c1] at ha;exact ha
  · obtain ⟨q,rfl⟩:∃ q,m=b+q:=⟨m - b,by omega⟩
    rw [pv_hi,hL] at ha
    by_cases c2:q<o
    · rw [if_neg (by omega),hv,pv_hi]
      rw [List.getElem?_append_left (by simp;omega),List.getElem?_take,if_pos c2] at ha
      exact ha
    · have h3:(L.take o).length=o:=by simp;omega
      rw [List.getElem?_append_right (by omega),h3] at ha
      by_cases c3:q<o+r.l.length
      · rw [if_pos (by omega)]
        rw [List.getElem?_append_left (by omega)] at ha
        rw [← ha];congr 1;omega
      · rw [if_neg (by omega),hv,pv_hi]
        rw [List.getElem?_append_right (by omega),List.getElem?_drop] at ha
        rw [← ha];congr 1;omega
theorem vaP {r:VA} {j j' b c o:Nat} {L L':List AV} (hj:iv r.j=(.i64,(j:Int))) (hj':iv r.j'=(.i64,(j':Int))) (hv:vv r.i=pv b c L) (hv':vv r.i'=pv b c L') (h2:vk r.i'=pk b L') (ho:j*r.z=b+o) (ho':j'*r.z=b+o+r.src.length)
    (hL:L'=L.take o++r.src) (hlen:o≤L.length) (hlim:j'<limit):VaOk iv vv vk r:=by
  have e1:(iv r.j).2.toNat=j:=by rw [hj];simp
  have e2:(iv r.j').2.toNat=j':=by rw [hj'];simp
  have h3:(L.take o).length=o:=by simp;omega
  have hl':L'.length=o+r.src.length:=by rw [hL,List.length_append,h3]
  refine ⟨by rw [hj];exact ⟨rfl,Int.natCast_nonneg _⟩,by rw [hj'];exact ⟨rfl,Int.natCast_nonneg _⟩,by rw [e1,e2,ho,ho'],by rw [e2];exact hlim,by rw [h2,e2,ho'];unfold pk;omega,fun m a ha=>⟨a,?_,.inl rfl⟩⟩
  rw [e1,ho]
  rw [hv'] at ha
  by_cases c1:m<b
  · rw [if_pos (by omega),hv,pv_lo c1]
    rw [pv_lo c1] at ha;exact ha
  · obtain ⟨q,rfl⟩:∃ q,m=b+q:=⟨m - b,by omega⟩
    rw [pv_hi,hL] at ha
    by_cases c2:q<o
    · rw [if_pos (by omega),hv,pv_hi]
      rw [List.getElem?_append_left (by omega),List.getElem?_take,if_pos c2] at ha
      exact ha
    · rw [if_neg (by omega)]
      rw [List.getElem?_append_right (by omega),h3] at ha
      rw [← ha];congr 1;omega
end Go.X
set_option linter.unusedVariables false
set_option linter.unusedSimpArgs false
set_option linter.unusedSectionVars false
namespace Go.X
open Go.RowKit
variable {P:Program} {B:Kp} {w0 w:World} {μ0:M} {nt:Nat} {a:Act}
noncomputable def stepD (ih:Fr→H→Out) (e:Ex) (fr:Fr) (h:H):Out :=
  match e with
  | .normal=>ih fr h
  | e=>some [(e,fr,h)]
noncomputable def stepsR (T:Tab) (P:Program) (K:Hand) (m nt:Nat) (c:Code) (k:Nat):Fr→H→Out :=
  Nat.rec (motive:=fun _=>Fr→H→Out) (fun fr h=>some [(.normal,fr,h)]) (fun _ ih fr h=>obL ((@run? T P K m).run nt c fr h) fun r=>Prod.rec (fun e q=>Prod.rec (fun fr h=>stepD ih e fr h) q) r) k
noncomputable def stepsTo (T:Tab) (P:Program) (K:Hand) (m nt k:Nat) (c:Code) (fr:Fr) (h:H) (ex:Ex) (C:Cv) (vp:VP) (fs:List (Nat×AV)) (bs:BS):Bool :=
  Option.rec false (okOuts C vp ex fs bs) (stepsR T P K m nt c k fr h)
theorem stepsR_sound {T:Tab} (hm:P.follows .mixedOrders=true) {K:Hand} (hK:@HandOk T P K) {m:Nat} {c:Code} {Q:Exit→Act→World→Prop} {j:Nat}:∀ (k:Nat) (fr:Fr) (h:H) (l:List (Ex×Fr×H)) (a:Act) (w:World),
    stepsR T P K m nt c k fr h=some l→St T B w0 μ0 nt fr h a w →
    (∀ q∈l,∀ a' w',St T B w0 μ0 nt q.2.1 q.2.2 a' w'→match q.1 with
      | .normal=>Code.rounds P c Q j a' w'
      | e=>Q e.to a' w')→Code.rounds P c Q (j+k) a w:=by
  intro k
  induction k with
  | zero =>
    intro fr h l a w e s hq
    have e':some [(Ex.normal,fr,h)]=some l:=e
    cases e'
    exact hq _ (List.mem_singleton.2 rfl) a w s
  | succ k ih =>
    intro fr h l a w e s hq
    have e':obL ((@run? T P K m).run nt c fr h) (fun r=>Prod.rec (fun e q=>Prod.rec (fun fr h=>stepD (stepsR T P K m nt c k) e fr h) q) r)=some l:=e
    obtain ⟨l1,hl1,hsub⟩:=obL_some e'
    refine rounds_of (wp_mono (s.run hm hK hl1) ?_)
    rintro e1 a' w' ⟨⟨e2,fr2,h2⟩,hmem,rfl,s'⟩
    obtain ⟨l2,hl2,hs2⟩:=hsub _ hmem
    cases e2 with
    | normal =>
      have hl3:stepsR T P K m nt c k fr2 h2=some l2:=hl2
      exact ih fr2 h2 l2 a' w' hl3 s' fun q hq2=>hq q (hs2 q hq2)
    | exit id =>
      have hl3:some [(Ex.exit id,fr2,h2)]=some l2:=hl2
      cases hl3
      exact hq _ (hs2 _ (List.mem_singleton.2 rfl)) a' w' s'
    | ret =>
      have hl3:some [(Ex.ret,fr2,h2)]=some l2:=hl2
      cases hl3
      exact hq _ (hs2 _ (List.mem_singleton.2 rfl)) a' w' s'
theorem stepsTo_sound {T T':Tab} {fr:Fr} {h:H} (hm:P.follows .mixedOrders=true) {K:Hand} (hK:@HandOk T P K) {m:Nat} {c:Code} {C:Cv} (hb:Base B μ0 C.N0) {ex:Ex} (hN:C.N0≤C.N) {rl:List (Nat×Nat)} (hrl:C.rn=ofPairs rl) (hrk:okRn C rl=true) (hip:IpOk T T' C.ip) {vp:VP} (hvp:VpOk T T' C vp)
    (hgl:@Gl T B w0→@Gl T' B w0) {fs:List (Nat×AV)} {bs:BS} {k j:Nat} {Q:Exit→Act→World→Prop} (e:stepsTo T P K m nt k c fr h ex C vp fs bs=true) (s:St T B w0 μ0 nt fr h a w)
    (hQ:∀ a' w',St T' B w0 μ0 nt (frOf fs) (hOf C.N bs) a' w'→match (generalizing:=false) ex with
      | .normal=>Code.rounds P c Q j a' w'
      | e=>Q e.to a' w'):Code.rounds P c Q (j+k) a w:=by
  cases hr:stepsR T P K m nt c k fr h with
  | none=>unfold stepsTo at e;rw [hr] at e;simp at e
  | some l =>
    unfold stepsTo at e
    rw [hr] at e
    have e:okOuts C vp ex fs bs l=true:=e
    refine stepsR_sound hm hK k fr h l a w hr s fun q hq a' w' s'=>?_
    letI:=T
    obtain ⟨g1,g2,g3⟩:=okOuts_mem e q hq
    have:=hQ a' w' (s'.weak hb hN hrl hrk hip hvp hgl g2 g3)
    rw [g1]
    exact this
theorem ipN {T T':Tab} {i j:Nat} (q:IntKind×Int) (h1:T.iv i=q) (h2:T'.iv j=q):IpOk1 T T' (.oi i,j):=by
  show some (T.iv i)=some (T'.iv j)
  rw [h1,h2]
theorem ipK {T T':Tab} {n:Int} {j:Nat} (h2:T'.iv j=(.i64,n)):IpOk1 T T' (.int .i64 n,j):=by
  show some (IntKind.i64,n)=some (T'.iv j)
  rw [h2]
def lpOf:Code→Code
  | .seq (.block _ (.loop c)) _=>c
  | _ => .skip
def tlOf:Code→Code
  | .seq _ t=>t
  | _ => .skip
end Go.X
set_option linter.unusedVariables false
set_option linter.unusedSimpArgs false
set_option linter.unusedSectionVars false
namespace Go.X
open Go.RowKit
noncomputable def cvL (C:Cv):List AV→List AV→Bool
  | _,[]=>true
  | a::l,a'::l'=>Bool.rec false (cvL C l l') (cvV C a a')
  | [],_::_=>false
theorem cvL_get {C:Cv}:∀ {l l':List AV},cvL C l l'=true→∀ (m:Nat) (a':AV),l'[m]? = some a'→∃ a,l[m]? = some a∧cvV C a a'=true
  | _,[],_,m,a',h=>by simp at h
  | [],_::_,h,_,_,_=>by simp [cvL] at h
  | a :: l,b::l',h,m,a',hm=>by
    have h':(@Bool.rec (fun _=>Bool) false (cvL C l l') (cvV C a b))=true:=h
    cases h1:cvV C a b with
    | false=>rw [h1] at h';cases h'
    | true =>
      rw [h1] at h'
      cases m with
      | zero=>simp at hm;subst hm;exact ⟨a,rfl,h1⟩
      | succ m=>simpa using cvL_get h' m a' (by simpa using hm)
theorem vpPre {T T':Tab} {C:Cv} (hip:IpOk T T' C.ip) {i i' b c:Nat} {L L':List AV} (h1:T.vv i=pv b c L) (h2:T'.vv i'=pv b c L') (hr:T.rv=T'.rv) (hk:T'.vk i'≤T.vk i) (hl:cvL C L L'=true) :
    own (.vec i)=true∧∀ μ l w,@brel T μ (.vec i) l w→@brel T' (ren C.N0 C.rn μ) (.vec i') l w:=by
  refine ⟨rfl,fun μ l w hb=>?_⟩
  obtain ⟨arr,el,fz,g1,g2,g3,g4,g5⟩:=hb
  refine ⟨arr,el,fz,g1,g2,g3,Nat.le_trans (Nat.add_le_add_left hk _) g4,fun m a ha=>?_⟩
  rw [h2] at ha
  rw [h1] at g5
  by_cases c1:m<b
  · rw [pv_lo c1] at ha
    cases ha
    obtain ⟨v,k1,k2⟩:=g5 m _ (pv_lo c1)
    refine ⟨v,k1,?_⟩
    simp only [vrel] at k2 ⊢
    rw [← hr];exact k2
  · obtain ⟨q,rfl⟩:∃ q,m=b+q:=⟨m - b,by omega⟩
    rw [pv_hi] at ha
    obtain ⟨a0,k1,k2⟩:=cvL_get hl q a ha
    obtain ⟨v,k3,k4⟩:=g5 (b+q) a0 (by rw [pv_hi];exact k1)
    exact ⟨v,k3,cvV_sound hip k2 k4⟩
def Kp.also (B:Kp) (E:Nat→Prop):Kp:=⟨fun j=>B.kept j∨E j,B.glob,fun j h => .inl (B.sub j h),B.res⟩
variable {B:Kp} {w0 w:World} {μ μ0:M} {h:H} {nt:Nat} {fr:Fr} {a:Act}
theorem HR.weakAt {T T':Tab} {C:Cv} (hb:Base B μ0 C.N0) (hN:C.N0≤C.N) {rl:List (Nat×Nat)} (hrl:C.rn=ofPairs rl) (hrk:okRn C rl=true) (hip:IpOk T T' C.ip) {vp:VP}
    (hvp:∀ p∈vp,own p.2.1=true∧∀ l,μ p.1=some l→@brel T μ p.2.1 l w→@brel T' (ren C.N0 C.rn μ) (.vec p.2.2) l w) {fs:List (Nat×AV)} {bs:BS} {E:Nat→Prop}
    (hE:∀ j,E j→j<w.heap.size∧∀ p∈bs,∀ b l,h.get p.2.1=some b→own b=true→μ p.2.1=some l→l.block≠j)
    (hf:okFs C fr fs=true) (hh:okBs C vp h bs .leaf=true) (hx:Ext μ0 μ) (f:@FR T μ nt fr a) (r:@HR T B w0 μ h w) (hgl:∀ w0,@Gl T (B.also E) w0→@Gl T' (B.also E) w0) :
    Ext μ0 (ren C.N0 C.rn μ)∧@FR T' (ren C.N0 C.rn μ) nt (frOf fs) a∧@HR T' (B.also E) w (ren C.N0 C.rn μ) (hOf C.N bs) w:=by
  obtain ⟨⟨e1,e2,e3,e4,e5,e6⟩,eg,eres,eblk,esep⟩:=@HR.parts B w0 w T μ h r
  obtain ⟨hm,hpw⟩:=okBs_mem hh
  have key:∀ x b',(hOf C.N bs).get x=some b'→∃ o b,(x,o,b')∈bs∧x<C.N∧nm C.N0 C.rn o x=true∧h.get o=some b∧own b=true∧own b'=true∧∀ l,μ o=some l→@brel T μ b l w→@brel T' (ren C.N0 C.rn μ) b' l w:=by
    intro x b' hx
    have hx':(ofPairs (bsOf bs)).get x=some b':=by unfold hOf at hx;rw [fT_eq] at hx;exact hx
    have h1:=ofPairs_get (fun p hp=>by obtain ⟨o,ho⟩:=bsOf_mem hp;exact (hm _ ho).2.2.1) hx'
    obtain ⟨o,ho⟩:=bsOf_mem h1
    have ho:(x,o,b')∈bs:=ho
    obtain ⟨_,g1,_,g4,b,g2,g3⟩:=hm _ ho
    refine ⟨o,b,ho,g1,g4,g2,?_⟩
    rcases g3 with g3 | ⟨i,g3,g4⟩
    · have:=cvB_own g3
      exact ⟨this.1,this.2,fun l _ hl=>cvB_sound hip g3 hl⟩
    · have:=hvp _ g4
      have g3:b' = .vec i:=g3
      subst g3
      exact ⟨this.1,rfl,fun l hμ hl=>this.2 l hμ hl⟩
  have eg2:@Gl T (B.also E) w:=⟨fun g o a hg=>let ⟨h1,v,h2,h3⟩:=@Keeps.glbs T B w0 w (@HR.below T B w0 μ h w r) g o a hg;⟨.inl h1,v,h2,h3⟩,fun i m a hg=>let ⟨h1,v,h2,h3⟩:=@Keeps.frgn T B w0 w (@HR.below T B w0 μ h w r) i m a hg;⟨.inl h1,v,h2,h3⟩⟩
  refine ⟨fun x l hl=>?_,⟨f.1,f.2.1,fun t v ht=>?_⟩,⟨⟨rfl,rfl,rfl,Nat.le_refl _,fun _ _=>rfl,?_,hgl _ eg2⟩,fun x hx'=>?_,fun x hr=>?_,fun x b' hb'=>?_,fun x y b c l k hx' hy hne ho ho2 hl hk=>?_⟩⟩
  · unfold ren;rw [if_pos (hb.names x l hl)];exact hx x l hl
  · have hm:=okFs_mem hf
    have:=ofPairs_get (fun p hp=>(hm p hp).1) ht
    obtain ⟨_,u,g1,g2⟩:=hm _ this
    obtain ⟨v',e1,e2⟩:=f.2.2 t u g1
    exact ⟨v',e1,cvV_sound hip g2 e2⟩
  · rintro k (hk | hk)
    · exact Nat.lt_of_lt_of_le (e6 k hk) e4
    · exact (hE k hk).1
  · have hx2:C.N≤x:=by unfold hOf at hx';rw [fT_eq] at hx';exact hx'
    refine ⟨?_,?_⟩
    · cases hg:(hOf C.N bs).get x with
      | none=>rfl
      | some b=>obtain ⟨_,_,_,h1,_⟩:=key x b hg;omega
    · unfold ren
      rw [if_neg (by omega)]
      cases hg:C.rn.get x with
      | none=>rfl
      | some y =>
        rw [hrl] at hg
        have h1:=okRn_mem hrk
        have h2:=ofPairs_get (fun p hp=>(h1 p hp).2) hg
        have h3:=(h1 _ h2).1
        dsimp only at h3
        omega
  · have:=hb.res x hr
    refine ⟨by unfold hOf;rw [fT_eq];show x<C.N;omega,?_⟩
    unfold ren
    rw [if_pos this]
    exact (eres x hr).2
  · obtain ⟨o,b,m1,g1,g0,g2,g3,g4,g5⟩:=key x b' hb'
    obtain ⟨l,k1,k2,_,k4⟩:=eblk o b g2
    refine ⟨l,nm_sound g0 k1,fun _=>?_,fun e=>(by rw [g4] at e;cases e),g5 l k1 k4⟩
    rintro (hk | hk)
    · exact k2 g3 hk
    · exact (hE _ hk).2 _ m1 b l g2 g3 k1 rfl
  · obtain ⟨o1,b1,m1,_,n1,g2,g3,_⟩:=key x b hx'
    obtain ⟨o2,c1,m2,_,n2,k2,k3,_⟩:=key y c hy
    have hne2:o1≠o2:=by
      intro e
      have:∀ p∈bs,∀ q∈bs,p≠q→p.2.1≠q.2.1:=pw_all hpw
      exact this _ m1 _ m2 (fun e=>hne (by injection e)) e
    exact esep o1 o2 b1 c1 l k g2 k2 hne2 g3 k3 (nm_of n1 hl) (nm_of n2 hk)
theorem HR.weakIn {T T':Tab} {C:Cv} (hb:Base B μ0 C.N0) (hN:C.N0≤C.N) {rl:List (Nat×Nat)} (hrl:C.rn=ofPairs rl) (hrk:okRn C rl=true) (hip:IpOk T T' C.ip) {vp:VP}
    (hvp:∀ p∈vp,own p.2.1=true∧∀ l,μ p.1=some l→@brel T μ p.2.1 l w→@brel T' (ren C.N0 C.rn μ) (.vec p.2.2) l w) {fs:List (Nat×AV)} {bs:BS}
    (hf:okFs C fr fs=true) (hh:okBs C vp h bs .leaf=true) (hx:Ext μ0 μ) (f:@FR T μ nt fr a) (r:@HR T B w0 μ h w) (hgl:@Gl T B w0→@Gl T' B w0) :
    Ext μ0 (ren C.N0 C.rn μ)∧@FR T' (ren C.N0 C.rn μ) nt (frOf fs) a∧@HR T' B w0 (ren C.N0 C.rn μ) (hOf C.N bs) w:=by
  obtain ⟨⟨e1,e2,e3,e4,e5,e6⟩,eg,eres,eblk,esep⟩:=@HR.parts B w0 w T μ h r
  obtain ⟨hm,hpw⟩:=okBs_mem hh
  have key:∀ x b',(hOf C.N bs).get x=some b'→∃ o b,(x,o,b')∈bs∧x<C.N∧nm C.N0 C.rn o x=true∧h.get o=some b∧own b=true∧own b'=true∧∀ l,μ o=some l→@brel T μ b l w→@brel T' (ren C.N0 C.rn μ) b' l w:=by
    intro x b' hx
    have hx':(ofPairs (bsOf bs)).get x=some b':=by unfold hOf at hx;rw [fT_eq] at hx;exact hx
    have h1:=ofPairs_get (fun p hp=>by obtain ⟨o,ho⟩:=bsOf_mem hp;exact (hm _ ho).2.2.1) hx'
    obtain ⟨o,ho⟩:=bsOf_mem h1
    have ho:(x,o,b')∈bs:=ho
    obtain ⟨_,g1,_,g4,b,g2,g3⟩:=hm _ ho
    refine ⟨o,b,ho,g1,g4,g2,?_⟩
    rcases g3 with g3 | ⟨i,g3,g4⟩
    · have:=cvB_own g3
      exact ⟨this.1,this.2,fun l _ hl=>cvB_sound hip g3 hl⟩
    · have:=hvp _ g4
      have g3:b' = .vec i:=g3
      subst g3
      exact ⟨this.1,rfl,fun l hμ hl=>this.2 l hμ hl⟩
  refine ⟨fun x l hl=>?_,⟨f.1,f.2.1,fun t v ht=>?_⟩,⟨⟨e1,e2,e3,e4,e5,e6,hgl eg⟩,fun x hx'=>?_,fun x hr=>?_,fun x b' hb'=>?_,fun x y b c l k hx' hy hne ho ho2 hl hk=>?_⟩⟩
  · unfold ren;rw [if_pos (hb.names x l hl)];exact hx x l hl
  · have hm:=okFs_mem hf
    have:=ofPairs_get (fun p hp=>(hm p hp).1) ht
    obtain ⟨_,u,g1,g2⟩:=hm _ this
    obtain ⟨v',e1,e2⟩:=f.2.2 t u g1
    exact ⟨v',e1,cvV_sound hip g2 e2⟩
  · have hx2:C.N≤x:=by unfold hOf at hx';rw [fT_eq] at hx';exact hx'
    refine ⟨?_,?_⟩
    · cases hg:(hOf C.N bs).get x with
      | none=>rfl
      | some b=>obtain ⟨_,_,_,h1,_⟩:=key x b hg;omega
    · unfold ren
      rw [if_neg (by omega)]
      cases hg:C.rn.get x with
      | none=>rfl
      | some y =>
        rw [hrl] at hg
        have h1:=okRn_mem hrk
        have h2:=ofPairs_get (fun p hp=>(h1 p hp).2) hg
        have h3:=(h1 _ h2).1
        dsimp only at h3
        omega
  · have:=hb.res x hr
    refine ⟨by unfold hOf;rw [fT_eq];show x<C.N;omega,?_⟩
    unfold ren
    rw [if_pos this]
    exact (eres x hr).2
  · obtain ⟨o,b,m1,g1,g0,g2,g3,g4,g5⟩:=key x b' hb'
    obtain ⟨l,k1,k2,_,k4⟩:=eblk o b g2
    exact ⟨l,nm_sound g0 k1,fun _=>k2 g3,fun e=>(by rw [g4] at e;cases e),g5 l k1 k4⟩
  · obtain ⟨o1,b1,m1,_,n1,g2,g3,_⟩:=key x b hx'
    obtain ⟨o2,c1,m2,_,n2,k2,k3,_⟩:=key y c hy
    have hne2:o1≠o2:=by
      intro e
      have:∀ p∈bs,∀ q∈bs,p≠q→p.2.1≠q.2.1:=pw_all hpw
      exact this _ m1 _ m2 (fun e=>hne (by injection e)) e
    exact esep o1 o2 b1 c1 l k g2 k2 hne2 g3 k3 (nm_of n1 hl) (nm_of n2 hk)
theorem brel_cells {T T':Tab} {μ μ':M} {n:Nat} {p:Bool} {z:List AV} {t:X.T AV} {l:Loc} {w w':World} (hb:@brel T μ (.cells n p z t) l w) (hw:w'.heap[l.block]? = w.heap[l.block]?)
    (hv:∀ i a,i<n→cellOf z t i=some a→∀ v,@vrel T μ a v→@vrel T' μ' a v):@brel T' μ' (.cells n p z t) l w':=by
  obtain ⟨arr,e,fz,h1,h2,h3,h4,h5,h6⟩:=hb
  refine ⟨arr,e,fz,hw.trans h1,h2,h3,h4,h5,fun i a hi ha=>?_⟩
  obtain ⟨v,k1,k2⟩:=h6 i a hi ha
  exact ⟨v,k1,hv i a hi ha v k2⟩
theorem cellOf_mem {L:List AV} (hL:L.length<16000000) {i:Nat} {a:AV} (h:cellOf [] (T.ofList 0 .leaf L) i=some a):a∈L:=by
  unfold cellOf at h
  rw [T.get_ofList _ _ _ _ (by omega)] at h
  split at h
  · rename_i c
    have:i - 0<L.length:=by omega
    rw [List.getElem?_eq_getElem this] at h
    have h':some (L[i - 0])=some a:=h
    cases h'
    exact List.getElem_mem this
  · have h':(([]:List AV)[i % ([]:List AV).length]?)=some a:=h
    simp at h'
theorem aside_of {T:Tab} (r:@HR T B w0 μ h w) {x:Nat} {b:Blk} {l:Loc} (hx:h.get x=some b) (ho:own b=true) (hl:μ x=some l) {bs:BS} (hn:∀ p∈bs,p.2.1≠x) :
    ∀ j,j=l.block→j<w.heap.size∧∀ p∈bs,∀ b l,h.get p.2.1=some b→own b=true→μ p.2.1=some l→l.block≠j:=by
  rintro j rfl
  obtain ⟨⟨e1,e2,e3,e4,e5,e6⟩,eg,eres,eblk,esep⟩:=@HR.parts B w0 w T μ h r
  obtain ⟨l2,g1,g2,g3,g4⟩:=eblk x b hx
  rw [hl] at g1;cases g1
  refine ⟨g4.lt,fun p hp c k hc oc hk=>?_⟩
  exact esep p.2.1 x c b k l hc hx (hn p hp) oc ho hk hl
def cellsIn (w:World) (l:Loc) (m:Nat):Option Value:=match w.heap[l.block]? with
  | some (.cells arr _ _)=>arr[l.base+m]?
  | _=>none
def snap (w:World) (LL:Nat→Loc):Nat→Value:=fun i=>(cellsIn w (LL (i % 4)) (i / 4)).getD .nilIface
theorem snap_at {w:World} {LL:Nat→Loc} {c m:Nat} (hc:c<4):snap w LL (4*m+c)=(cellsIn w (LL c) m).getD .nilIface:=by
  unfold snap
  rw [show (4*m+c) % 4=c by omega,show (4*m+c) / 4=m by omega]
theorem cellsIn_of {w:World} {l:Loc} {arr:Array Value} {el:TypeId} {fz:Nat×Nat} {m:Nat} {v:Value} (h:w.heap[l.block]? = some (.cells arr el fz)) (hv:arr[l.base+m]? = some v):cellsIn w l m=some v:=by
  unfold cellsIn;rw [h];exact hv
theorem vec_hide {T T':Tab} {C:Cv} (hip:IpOk T T' C.ip) {i i' b c:Nat} {L1 L2 L2':List AV} {l:Loc} {LL:Nat→Loc} (hc:c<4) (h1:T.vv i=pv b c (L1++L2)) (h2:T'.vv i'=pv (b+L1.length) c L2')
    (one:∀ x∈L1,x.one=true) (hr:T'.rv=snap w LL) (hl:LL c=l) (hk:T'.vk i'≤T.vk i) (hcv:cvL C L2 L2'=true) (hb:@brel T μ (.vec i) l w):@brel T' (ren C.N0 C.rn μ) (.vec i') l w:=by
  obtain ⟨arr,el,fz,g1,g2,g3,g4,g5⟩:=hb
  refine ⟨arr,el,fz,g1,g2,g3,Nat.le_trans (Nat.add_le_add_left hk _) g4,fun m a ha=>?_⟩
  rw [h2] at ha
  rw [h1] at g5
  by_cases c1:m<b+L1.length
  · rw [pv_lo c1] at ha
    cases ha
    have key:∃ v,arr[l.base+m]? = some v∧oneV v=true:=by
      by_cases c2:m<b
      · obtain ⟨v,k1,k2⟩:=g5 m _ (pv_lo c2)
        simp only [vrel] at k2
        exact ⟨v,k1,k2.2⟩
      · obtain ⟨q,rfl⟩:∃ q,m=b+q:=⟨m - b,by omega⟩
        have hq:q<L1.length:=by omega
        obtain ⟨v,k1,k2⟩:=g5 (b+q) (L1[q]) (by rw [pv_hi,List.getElem?_append_left hq,List.getElem?_eq_getElem hq])
        exact ⟨v,k1,@vrel_one T μ _ v k2 (one _ (List.getElem_mem hq))⟩
    obtain ⟨v,k1,k2⟩:=key
    refine ⟨v,k1,?_⟩
    simp only [vrel]
    refine ⟨?_,k2⟩
    rw [hr,snap_at hc,hl,cellsIn_of g1 k1]
    rfl
  · obtain ⟨q,rfl⟩:∃ q,m=b+L1.length+q:=⟨m - (b+L1.length),by omega⟩
    rw [pv_hi] at ha
    obtain ⟨a0,k1,k2⟩:=cvL_get hcv q a ha
    obtain ⟨v,k3,k4⟩:=g5 (b+L1.length+q) a0 (by rw [Nat.add_assoc,pv_hi,List.getElem?_append_right (by omega)];rw [← k1];congr 1;omega)
    exact ⟨v,k3,cvV_sound hip k2 k4⟩
theorem vec_was {T:Tab} {i b c:Nat} {L:List AV} {l:Loc} {LL:Nat→Loc} (hc:c<4) (h1:T.vv i=pv b c L) (hl:LL c=l) (hb:@brel T μ (.vec i) l w) :
    (∀ m,m<b→snap w LL (4*m+c)=T.rv (4*m+c))∧∀ (m:Nat) (x:AV),L[m]? = some x→@vrel T μ x (snap w LL (4*(b+m)+c)):=by
  obtain ⟨arr,el,fz,g1,g2,g3,g4,g5⟩:=hb
  rw [h1] at g5
  refine ⟨fun m hm=>?_,fun m x hx=>?_⟩
  · obtain ⟨v,k1,k2⟩:=g5 m _ (pv_lo hm)
    simp only [vrel] at k2
    rw [snap_at hc,hl,cellsIn_of g1 k1,← k2.1]
    rfl
  · obtain ⟨v,k1,k2⟩:=g5 (b+m) x (by rw [pv_hi];exact hx)
    rw [snap_at hc,hl,cellsIn_of g1 k1]
    exact k2
theorem vec_unhide {T1 T2:Tab} {C:Cv} (hip:IpOk T1 T2 C.ip) {i1 i2 b c n:Nat} {L2 L1' L2':List AV} {l:Loc} (h1:T1.vv i1=pv (b+n) c L2) (h2:T2.vv i2=pv b c (L1'++L2')) (hn:L1'.length=n)
    (hpre:∀ m,m<b→T1.rv (4*m+c)=T2.rv (4*m+c)) (hm:∀ (m:Nat) (x:AV),L1'[m]? = some x→@vrel T2 (ren C.N0 C.rn μ) x (T1.rv (4*(b+m)+c))) (hk:T2.vk i2≤T1.vk i1) (hcv:cvL C L2 L2'=true) (hb:@brel T1 μ (.vec i1) l w) :
    @brel T2 (ren C.N0 C.rn μ) (.vec i2) l w:=by
  obtain ⟨arr,el,fz,g1,g2,g3,g4,g5⟩:=hb
  refine ⟨arr,el,fz,g1,g2,g3,Nat.le_trans (Nat.add_le_add_left hk _) g4,fun m a ha=>?_⟩
  rw [h2] at ha
  rw [h1] at g5
  by_cases c1:m<b
  · rw [pv_lo c1] at ha
    cases ha
    obtain ⟨v,k1,k2⟩:=g5 m _ (pv_lo (by omega))
    refine ⟨v,k1,?_⟩
    simp only [vrel] at k2 ⊢
    rw [← hpre m c1];exact k2
  · obtain ⟨q,rfl⟩:∃ q,m=b+q:=⟨m - b,by omega⟩
    rw [pv_hi] at ha
    by_cases c2:q<n
    · rw [List.getElem?_append_left (by omega)] at ha
      obtain ⟨v,k1,k2⟩:=g5 (b+q) _ (pv_lo (by omega))
      simp only [vrel] at k2
      exact ⟨v,k1,by rw [k2.1];exact hm q a ha⟩
    · rw [List.getElem?_append_right (by omega)] at ha
      obtain ⟨a0,k1,k2⟩:=cvL_get hcv _ a ha
      obtain ⟨v,k3,k4⟩:=g5 (b+q) a0 (by rw [show b+q=b+n+(q - n) by omega,pv_hi,← hn];exact k1)
      exact ⟨v,k3,cvV_sound hip k2 k4⟩
theorem HR.addBack {T T1:Tab} (r:@HR T B w0 μ h w) {b':Blk} {l:Loc} (hBl:¬ B.kept l.block) (hown:own b'=true) {E:Nat→Prop} (hE:E l.block) {μ1:M} {h1:H} {w1:World}
    (r1:@HR T1 (B.also E) w μ1 h1 w1) (hlim:h1.next<16000000) (hb:@brel T1 (upm μ1 h1.next l) b' l w1) (hgl:@Gl T B w0→@Gl T1 B w0):@HR T1 B w0 (upm μ1 h1.next l) ⟨h1.next+1,h1.t.put h1.next b'⟩ w1:=by
  obtain ⟨⟨e1,e2,e3,e4,e5,e6⟩,eg,eres,eblk,esep⟩:=@HR.parts B w0 w T μ h r
  have hfr:=@HR.fresh T1 _ _ _ _ _ r1
  obtain ⟨⟨d1,d2,d3,d4,d5,d6⟩,dg,dres,dblk,dsep⟩:=@HR.parts (B.also E) w w1 T1 μ1 h1 r1
  have hext:Ext μ1 (upm μ1 h1.next l):=Ext.upm _ (hfr _ (Nat.le_refl _)).2
  have hget:∀ y,(⟨h1.next+1,h1.t.put h1.next b'⟩:H).get y=if y=h1.next then some b' else h1.get y:=fun y=>_root_.Go.X.T.get_put _ _ _ _ hlim
  refine ⟨⟨d1.trans e1,d2.trans e2,d3.trans e3,Nat.le_trans e4 d4,fun k hk=>(d5 k (.inl hk)).trans (e5 k hk),e6,hgl eg⟩,fun x hx=>?_,fun x hr=>?_,fun x b hx=>?_,fun x y b c k m hx hy hne ho ho2 hl hm=>?_⟩
  · have hx:h1.next+1≤x:=hx
    have h2:=hfr x (by omega)
    refine ⟨by rw [hget,if_neg (by omega)];exact h2.1,?_⟩
    unfold upm;rw [if_neg (by omega)];exact h2.2
  · have h2:=dres x hr
    refine ⟨by show x<h1.next+1;omega,?_⟩
    unfold upm;rw [if_neg (by omega)];exact h2.2
  · rw [hget] at hx
    by_cases c1:x=h1.next
    · rw [if_pos c1] at hx;cases hx
      refine ⟨l,by unfold upm;rw [if_pos c1],fun _=>hBl,fun e=>(by rw [hown] at e;cases e),hb⟩
    · rw [if_neg c1] at hx
      obtain ⟨k,g1,g2,g3,g4⟩:=dblk x b hx
      exact ⟨k,hext _ _ g1,fun ho hk=>g2 ho (.inl hk),g3,brel.ext hext g4⟩
  · rw [hget] at hx hy
    have old:∀ z d n,z≠h1.next→h1.get z=some d→own d=true→upm μ1 h1.next l z=some n→n.block≠l.block:=by
      intro z d n hz hd od hn
      unfold upm at hn;rw [if_neg hz] at hn
      obtain ⟨k,g1,g2,_⟩:=dblk z d hd
      rw [hn] at g1;cases g1
      intro e
      exact g2 od (.inr (by rw [e];exact hE))
    by_cases c1:x=h1.next
    · have c2:y≠h1.next:=fun e=>hne (c1.trans e.symm)
      rw [if_neg c2] at hy
      unfold upm at hl;rw [if_pos c1] at hl;cases hl
      exact fun e=>old y c m c2 hy ho2 hm e.symm
    · rw [if_neg c1] at hx
      by_cases c2:y=h1.next
      · unfold upm at hm;rw [if_pos c2] at hm;cases hm
        exact old x b k c1 hx ho hl
      · rw [if_neg c2] at hy
        unfold upm at hl hm;rw [if_neg c1] at hl;rw [if_neg c2] at hm
        exact dsep x y b c k m hx hy hne ho ho2 hl hm
end Go.X
set_option linter.unusedVariables false
set_option linter.unusedSimpArgs false
set_option linter.unusedSectionVars false
namespace Go.X
open Go.RowKit
variable {P:Program} {B:Kp} {w0 w:World} {μ μ0:M} {h:H} {nt:Nat} {fr:Fr} {a:Act}
theorem St.rebase {T:Tab} (hb:Base B μ0 h.next) (s:St T B w0 μ0 nt fr h a w):∃ μ,Ext μ0 μ∧Base B μ h.next∧St T B w0 μ nt fr h a w∧∀ x b,h.get x=some b→∃ l,μ x=some l:=by
  obtain ⟨μ,hx,f,r⟩:=s
  refine ⟨μ,hx,⟨fun x l hl=>?_,hb.res⟩,⟨μ,Ext.refl _,f,r⟩,fun x b hg=>?_⟩
  · by_cases c:x<h.next
    · exact c
    · have:=(@HR.fresh T _ _ _ _ _ r x (by omega)).2
      rw [this] at hl;cases hl
  · obtain ⟨l,g,_⟩:=@HR.blk T _ _ _ _ _ r x b hg
    exact ⟨l,g⟩
theorem Done.ext [Tab] {fn:Func} {v:AV} {h':H} {e:Exit} (hx:Ext μ0 μ) (d:Done P fn B w0 μ v h' e a w):Done P fn B w0 μ0 v h' e a w:=by
  obtain ⟨h1,h2,v',μ',h3,h4,h5,h6⟩:=d
  exact ⟨h1,h2,v',μ',h3,hx.trans h4,h5,h6⟩
theorem vpCells {T T':Tab} {C:Cv} (hip:IpOk T T' C.ip) {i' c n:Nat} {q:Bool} {L L':List AV} (hn:n=L.length) (h2:T'.vv i'=pv 0 c L') (hlen:L.length<16000000) (hk:T'.vk i'≤n) (hl:cvL C L L'=true) :
    own (.cells n q [] (X.T.ofList 0 .leaf L))=true∧∀ μ l w,@brel T μ (.cells n q [] (X.T.ofList 0 .leaf L)) l w→@brel T' (ren C.N0 C.rn μ) (.vec i') l w:=by
  refine ⟨rfl,fun μ l w hb=>?_⟩
  obtain ⟨arr,el,fz,g1,g2,g3,g4,_,g5⟩:=hb
  refine ⟨arr,el,fz,g1,g2,g3,Nat.le_trans (Nat.add_le_add_left hk _) g4,fun m a ha=>?_⟩
  rw [h2] at ha
  have ha':L'[m]? = some a:=by
    have:=pv_hi (b:=0) (c:=c) (l:=L') m
    rw [Nat.zero_add] at this
    rw [this] at ha;exact ha
  obtain ⟨a0,k1,k2⟩:=cvL_get hl m a ha'
  have hm:m<L.length:=(List.getElem?_eq_some_iff.1 k1).1
  obtain ⟨v,k3,k4⟩:=g5 m a0 (by omega) (by
    unfold cellOf
    rw [X.T.get_ofList _ _ _ _ (by omega),if_pos ⟨Nat.zero_le _,by omega⟩,Nat.sub_zero,k1])
  exact ⟨v,k3,cvV_sound hip k2 k4⟩
end Go.X
set_option linter.unusedVariables false
set_option linter.unusedSimpArgs false
set_option linter.unusedSectionVars false
namespace Go.X
open Go.RowKit
def pvg (g:Nat→Option AV) (b:Nat) (l:List AV):Nat→Option AV:=fun m=>if m<b then g m else l[m - b]?
theorem pvg_lo {g:Nat→Option AV} {b:Nat} {l:List AV} {m:Nat} (h:m<b):pvg g b l m=g m:=by unfold pvg;rw [if_pos h]
theorem pvg_hi {g:Nat→Option AV} {b:Nat} {l:List AV} (o:Nat):pvg g b l (b+o)=l[o]? := by unfold pvg;rw [if_neg (by omega)];congr 1;omega
theorem pvg_plainB {g:Nat→Option AV} {b:Nat} {l:List AV} (hg:∀ m a,g m=some a→vplain a=true) (h:l.all vplain=true) {m:Nat} {a:AV} (e:pvg g b l m=some a):vplain a=true:=by
  unfold pvg at e
  split at e
  · exact hg m a e
  · exact List.all_eq_true.1 h a (List.mem_of_getElem? e)
def noG:Nat→Option AV:=fun _=>none
theorem noG_plain:∀ m a,noG m=some a→vplain a=true:=fun m a h=>by cases h
variable {iv:Nat→IntKind×Int} {vv:Nat→Nat→Option AV} {vk:Nat→Nat}
theorem vlG {r:VL} {g:Nat→Option AV} {k b o:Nat} {L:List AV} (hk:iv r.k=(.i64,(k:Int))) (hv:vv r.i=pvg g b L) (ho:k*r.z+r.f=b+o) (hl:r.l=(L.drop o).take r.l.length):VlOk iv vv r:=by
  refine ⟨by rw [hk];exact ⟨rfl,Int.natCast_nonneg _⟩,fun m x hx=>⟨x,?_,.inl rfl⟩⟩
  have e1:(iv r.k).2.toNat=k:=by rw [hk];simp
  rw [e1,hv,ho,Nat.add_assoc,pvg_hi]
  rw [hl,List.getElem?_take] at hx
  split at hx
  · rw [List.getElem?_drop] at hx;exact hx
  · cases hx
theorem vsG {r:VS} {g:Nat→Option AV} {k b o:Nat} {L L':List AV} (hk:iv r.k=(.i64,(k:Int))) (hv:vv r.i=pvg g b L) (hv':vv r.i'=pvg g b L') (h1:vk r.i=pk b L) (h2:vk r.i'=pk b L') (ho:k*r.z+r.f=b+o)
    (hL:L'=L.take o++(r.l++L.drop (o+r.l.length))) (hlen:o+r.l.length≤L.length):VsOk iv vv vk r:=by
  have e1:(iv r.k).2.toNat=k:=by rw [hk];simp
  have hl':L'.length=L.length:=by rw [hL];simp;omega
  refine ⟨by rw [hk];exact ⟨rfl,Int.natCast_nonneg _⟩,by rw [e1,h1,ho];unfold pk;omega,by rw [h1,h2];unfold pk;omega,fun m a ha=>⟨a,?_,.inl rfl⟩⟩
  rw [e1,ho]
  rw [hv'] at ha
  by_cases c1:m<b
  · rw [if_neg (by omega),hv,pvg_lo c1]
    rw [pvg_lo c1] at ha;exact ha
  · obtain ⟨q,rfl⟩:∃ q,m=b+q:=⟨m - b,by omega⟩
    rw [pvg_hi,hL] at ha
    by_cases c2:q<o
    · rw [if_neg (by omega),hv,pvg_hi]
      rw [List.getElem?_append_left (by simp;omega),List.getElem?_take,if_pos c2] at ha
      exact ha
    · have h3:(L.take o).length=o:=by simp;omega
      rw [List.getElem?_append_right (by omega),h3] at ha
      by_cases c3:q<o+r.l.length
      · rw [if_pos (by omega)]
        rw [List.getElem?_append_left (by omega)] at ha
        rw [← ha];congr 1;omega
      · rw [if_neg (by omega),hv,pvg_hi]
        rw [List.getElem?_append_right (by omega),List.getElem?_drop] at ha
        rw [← ha];congr 1;omega
theorem vaG {r:VA} {g:Nat→Option AV} {j j' b o:Nat} {L L':List AV} (hj:iv r.j=(.i64,(j:Int))) (hj':iv r.j'=(.i64,(j':Int))) (hv:vv r.i=pvg g b L) (hv':vv r.i'=pvg g b L') (h2:vk r.i'=pk b L') (ho:j*r.z=b+o) (ho':j'*r.z=b+o+r.src.length)
    (hL:L'=L.take o++r.src) (hlen:o≤L.length) (hlim:j'<limit):VaOk iv vv vk r:=by
  have e1:(iv r.j).2.toNat=j:=by rw [hj];simp
  have e2:(iv r.j').2.toNat=j':=by rw [hj'];simp
  have h3:(L.take o).length=o:=by simp;omega
  have hl':L'.length=o+r.src.length:=by rw [hL,List.length_append,h3]
  refine ⟨by rw [hj];exact ⟨rfl,Int.natCast_nonneg _⟩,by rw [hj'];exact ⟨rfl,Int.natCast_nonneg _⟩,by rw [e1,e2,ho,ho'],by rw [e2];exact hlim,by rw [h2,e2,ho'];unfold pk;omega,fun m a ha=>⟨a,?_,.inl rfl⟩⟩
  rw [e1,ho]
  rw [hv'] at ha
  by_cases c1:m<b
  · rw [if_pos (by omega),hv,pvg_lo c1]
    rw [pvg_lo c1] at ha;exact ha
  · obtain ⟨q,rfl⟩:∃ q,m=b+q:=⟨m - b,by omega⟩
    rw [pvg_hi,hL] at ha
    by_cases c2:q<o
    · rw [if_pos (by omega),hv,pvg_hi]
      rw [List.getElem?_append_left (by omega),List.getElem?_take,if_pos c2] at ha
      exact ha
    · rw [if_neg (by omega)]
      rw [List.getElem?_append_right (by omega),h3] at ha
      rw [← ha];congr 1;omega
theorem vpG0 {T T':Tab} {C:Cv} (hip:IpOk T T' C.ip) {i i' b b':Nat} {g:Nat→Option AV} {L L':List AV} (h1:T.vv i=pvg g b L) (h2:T'.vv i'=pvg g b' L') (hb':b≤b')
    (hg:∀ m a,g m=some a→∃ k n,a = .int k n) (hk:T'.vk i'≤T.vk i)
    (hn:∀ m a,b≤m→m<b'→g m=some a→∃ x,L[m - b]? = some x∧∀ μ v,@vrel T μ x v→@vrel T' μ a v)
    (hl:cvL C (L.drop (b' - b)) L'=true) :
    own (.vec i)=true∧∀ μ l w,@brel T μ (.vec i) l w→@brel T' (ren C.N0 C.rn μ) (.vec i') l w:=by
  refine ⟨rfl,fun μ l w hb=>?_⟩
  obtain ⟨arr,el,fz,g1,g2,g3,g4,g5⟩:=hb
  refine ⟨arr,el,fz,g1,g2,g3,Nat.le_trans (Nat.add_le_add_left hk _) g4,fun m a ha=>?_⟩
  rw [h2] at ha
  rw [h1] at g5
  by_cases c1:m<b'
  · rw [pvg_lo c1] at ha
    obtain ⟨k,n,rfl⟩:=hg m a ha
    by_cases c2:m<b
    · obtain ⟨v,k1,k2⟩:=g5 m _ (by rw [pvg_lo c2];exact ha)
      refine ⟨v,k1,?_⟩
      simp only [vrel] at k2 ⊢
      exact k2
    · obtain ⟨x,hx,hr⟩:=hn m _ (by omega) c1 ha
      obtain ⟨v,k1,k2⟩:=g5 m x (by
        obtain ⟨q,rfl⟩:∃ q,m=b+q:=⟨m - b,by omega⟩
        rw [pvg_hi];rw [show b+q - b=q by omega] at hx;exact hx)
      have:=hr _ _ k2
      simp only [vrel] at this ⊢
      exact ⟨v,k1,this⟩
  · obtain ⟨q,rfl⟩:∃ q,m=b'+q:=⟨m - b',by omega⟩
    rw [pvg_hi] at ha
    obtain ⟨a0,k1,k2⟩:=cvL_get hl q a ha
    rw [List.getElem?_drop] at k1
    obtain ⟨v,k3,k4⟩:=g5 (b'+q) a0 (by
      rw [show b'+q=b+(b' - b+q) by omega,pvg_hi];exact k1)
    exact ⟨v,k3,cvV_sound hip k2 k4⟩
theorem vpG {T T':Tab} {C:Cv} (hip:IpOk T T' C.ip) {i i' b:Nat} (q:Nat) {g:Nat→Option AV} {L L':List AV} (h1:T.vv i=pvg g b L) (h2:T'.vv i'=pvg g (b+q) L')
    (hg:∀ m a,g m=some a→∃ k n,a = .int k n) (hk:T'.vk i'≤T.vk i)
    (hn:∀ m a,m<q→g (b+m)=some a→∃ x,L[m]? = some x∧∀ μ v,@vrel T μ x v→@vrel T' μ a v)
    (hl:cvL C (L.drop q) L'=true) :
    own (.vec i)=true∧∀ μ l w,@brel T μ (.vec i) l w→@brel T' (ren C.N0 C.rn μ) (.vec i') l w :=
  vpG0 hip h1 h2 (Nat.le_add_right _ _) hg hk (fun m a e1 e2 e3=>by
    obtain ⟨p,rfl⟩:∃ p,m=b+p:=⟨m - b,by omega⟩
    rw [show b+p - b=p by omega]
    exact hn p a (by omega) e3) (by rw [show b+q - b=q by omega];exact hl)
theorem noG_int:∀ m a,noG m=some a→∃ k n,a=AV.int k n:=fun m a h=>by cases h
theorem vpCellsG {T T':Tab} {C:Cv} (hip:IpOk T T' C.ip) {i' b' n:Nat} {q:Bool} {g:Nat→Option AV} {L L':List AV} (hn:n=L.length) (h2:T'.vv i'=pvg g b' L') (hlen:L.length<16000000) (hk:T'.vk i'≤n) (hb:b'≤L.length)
    (hg:∀ m a,g m=some a→∃ k n,a = .int k n) (hn':∀ m a,m<b'→g m=some a→∃ x,L[m]? = some x∧∀ μ v,@vrel T μ x v→@vrel T' μ a v) (hl:cvL C (L.drop b') L'=true) :
    own (.cells n q [] (X.T.ofList 0 .leaf L))=true∧∀ μ l w,@brel T μ (.cells n q [] (X.T.ofList 0 .leaf L)) l w→@brel T' (ren C.N0 C.rn μ) (.vec i') l w:=by
  refine ⟨rfl,fun μ l w hb_=>?_⟩
  obtain ⟨arr,el,fz,g1,g2,g3,g4,_,g5⟩:=hb_
  refine ⟨arr,el,fz,g1,g2,g3,Nat.le_trans (Nat.add_le_add_left hk _) g4,fun m a ha=>?_⟩
  rw [h2] at ha
  have cell:∀ m x,L[m]? = some x→∃ v,arr[l.base+m]? = some v∧@vrel T μ x v:=by
    intro m x hx
    have hm:m<L.length:=(List.getElem?_eq_some_iff.1 hx).1
    obtain ⟨v,k3,k4⟩:=g5 m x (by omega) (by
      unfold cellOf
      rw [X.T.get_ofList _ _ _ _ (by omega),if_pos ⟨Nat.zero_le _,by omega⟩,Nat.sub_zero,hx])
    exact ⟨v,k3,k4⟩
  by_cases c1:m<b'
  · rw [pvg_lo c1] at ha
    obtain ⟨k,n,rfl⟩:=hg m a ha
    obtain ⟨x,hx,hr⟩:=hn' m _ c1 ha
    obtain ⟨v,k1,k2⟩:=cell m x hx
    have:=hr _ _ k2
    simp only [vrel] at this ⊢
    exact ⟨v,k1,this⟩
  · obtain ⟨q,rfl⟩:∃ q,m=b'+q:=⟨m - b',by omega⟩
    rw [pvg_hi] at ha
    obtain ⟨a0,k1,k2⟩:=cvL_get hl q a ha
    rw [List.getElem?_drop] at k1
    obtain ⟨v,k3,k4⟩:=cell (b'+q) a0 k1
    exact ⟨v,k3,cvV_sound hip k2 k4⟩
end Go.X
set_option linter.unusedVariables false
set_option linter.unusedSimpArgs false
set_option linter.unusedSectionVars false
namespace Go.X
open Go.RowKit
def pvw (L:List AV) (n:Nat) (W:Nat→BitVec 64):Nat→Option AV:=fun m=>if m<L.length then L[m]? else if m<n then some (.int .u64 (wI (W (m - L.length)))) else none
theorem pvw_lo {L:List AV} {n:Nat} {W:Nat→BitVec 64} {m:Nat} (h:m<L.length):pvw L n W m=L[m]? := by unfold pvw;rw [if_pos h]
theorem pvw_hi {L:List AV} {n:Nat} {W:Nat→BitVec 64} {q:Nat} (h:L.length+q<n):pvw L n W (L.length+q)=some (.int .u64 (wI (W q))):=by
  unfold pvw;rw [if_neg (by omega),if_pos h,show L.length+q - L.length=q by omega]
theorem pvw_cases {L:List AV} {n:Nat} {W:Nat→BitVec 64} {m:Nat} {a:AV} (h:pvw L n W m=some a):(m<L.length∧L[m]? = some a)∨∃ q,m=L.length+q∧m<n∧a = .int .u64 (wI (W q)):=by
  unfold pvw at h
  split at h
  · exact .inl ⟨by assumption,h⟩
  · split at h
    · cases h;exact .inr ⟨m - L.length,by omega,by assumption,rfl⟩
    · cases h
theorem pvw_plain {L:List AV} {n:Nat} {W:Nat→BitVec 64} (h:L.all vplain=true) {m:Nat} {a:AV} (e:pvw L n W m=some a):vplain a=true:=by
  rcases pvw_cases e with ⟨_,e⟩ | ⟨_,_,_,rfl⟩
  · exact List.all_eq_true.1 h a (List.mem_of_getElem? e)
  · rfl
variable {iv:Nat→IntKind×Int} {vv:Nat→Nat→Option AV} {vk:Nat→Nat}
theorem vlW1 {r:VL} {L:List AV} {n:Nat} {W:Nat→BitVec 64} {k:Nat} {x:AV} (hk:iv r.k=(.i64,(k:Int))) (hv:vv r.i=pvw L n W) (hz:r.z=1) (hf:r.f=0) (hl:r.l=[x]) (hx:L[k]? = some x):VlOk iv vv r:=by
  refine ⟨by rw [hk];exact ⟨rfl,by simp⟩,fun m b hb=>?_⟩
  rw [hl] at hb
  have hm:m=0:=by
    have:=(List.getElem?_eq_some_iff.1 hb).1
    simpa using this
  subst hm
  cases hb
  have e1:(iv r.k).2.toNat=k:=by rw [hk];simp
  have hlt:k<L.length:=(List.getElem?_eq_some_iff.1 hx).1
  rw [e1,hz,hf,hv,show k*1+0+0=k by omega,pvw_lo hlt]
  exact ⟨_,hx,.inl rfl⟩
theorem vlW2 {r:VL} {L:List AV} {n:Nat} {W:Nat→BitVec 64} {k q y:Nat} (hk:iv r.k=(.i64,(k:Int))) (hv:vv r.i=pvw L n W) (hz:r.z=1) (hf:r.f=0) (hl:r.l=[.oi y]) (h1:k=L.length+q) (h2:k<n) (hy:iv y=(.u64,wI (W q))):VlOk iv vv r:=by
  refine ⟨by rw [hk];exact ⟨rfl,by simp⟩,fun m b hb=>?_⟩
  rw [hl] at hb
  have hm:m=0:=by
    have:=(List.getElem?_eq_some_iff.1 hb).1
    simpa using this
  subst hm
  cases hb
  have e1:(iv r.k).2.toNat=k:=by rw [hk];simp
  rw [e1,hz,hf,hv,show k*1+0+0=L.length+q by omega,pvw_hi (by omega)]
  exact ⟨_,rfl,.inr ⟨_,rfl,by show some (iv y)=_;rw [hy]⟩⟩
theorem vsW2 {r:VS} {L:List AV} {n:Nat} {W W':Nat→BitVec 64} {k q:Nat} {x:AV} (hk:iv r.k=(.i64,(k:Int))) (hv:vv r.i=pvw L n W) (hv':vv r.i'=pvw L n W') (h3:vk r.i=n) (h4:vk r.i'=n) (hz:r.z=1) (hf:r.f=0) (hl:r.l=[x]) (h1:k=L.length+q) (h2:k<n) (hx:denI iv x=some (.u64,wI (W' q))) (hw:∀ m,m≠q→W' m=W m):VsOk iv vv vk r:=by
  have e1:(iv r.k).2.toNat=k:=by rw [hk];simp
  refine ⟨by rw [hk];exact ⟨rfl,by simp⟩,by rw [e1,hl,h3,hz,hf];simp;omega,by rw [h3,h4];exact Nat.le_refl _,fun m a ha=>?_⟩
  rw [hv'] at ha
  rw [e1,hl,hz,hf,hv]
  by_cases c:m=k
  · subst c
    rcases pvw_cases ha with ⟨c2,_⟩ | ⟨q',e2,_,rfl⟩
    · omega
    · obtain rfl:q'=q:=by omega
      refine ⟨x,?_,.inr ⟨_,hx,rfl⟩⟩
      rw [if_pos (by simp)]
      simp
  · rw [if_neg (by simp;omega)]
    rcases pvw_cases ha with ⟨c2,c3⟩ | ⟨q',rfl,c4,rfl⟩
    · rw [pvw_lo c2];exact ⟨_,c3,.inl rfl⟩
    · rw [pvw_hi c4]
      exact ⟨_,rfl,.inl (by rw [hw q' (by omega)])⟩
theorem vzW {r:VZ} {L:List AV} {a b c:Nat} {W W':Nat→BitVec 64} (ha:iv r.j=(.i64,(a:Int))) (hc:iv r.k=(.i64,(c:Int))) (hb:iv r.j'=(.i64,(b:Int))) (h0:vv r.i=pvw L a W) (h1:vv r.i'=pvw L b W') (hk:vk r.i'=b) (hz:r.z=1) (hzc:r.zc=[.int .u64 0])
    (hA:b=a+c) (hl:b<1000000) (hL:L.length≤a) (he:∀ m,L.length+m<a→W' m=W m) (hs:∀ m,a≤L.length+m→W' m=0):VzOk iv vv vk r:=by
  refine ⟨by rw [ha];exact ⟨rfl,by simp⟩,by rw [hc];exact ⟨rfl,by simp⟩,by rw [hb];exact ⟨rfl,by simp⟩,by rw [ha,hb,hc,hA];simp,by rw [hb];simpa [limit] using hl,by rw [hb,hk,hz];simp,?_⟩
  intro m x hx
  rw [h1] at hx
  rw [ha,hb,hz,hzc]
  simp only [Int.toNat_natCast,Nat.mul_one]
  rcases pvw_cases hx with ⟨c2,c3⟩ | ⟨q,rfl,c4,rfl⟩
  · refine ⟨by omega,x,?_,.inl rfl⟩
    rw [if_pos (by omega),h0,pvw_lo c2];exact c3
  · refine ⟨c4,?_⟩
    by_cases d:L.length+q<a
    · exact ⟨_,by rw [if_pos d,h0,pvw_hi d],.inl (by rw [he q d])⟩
    · rw [if_neg d]
      exact ⟨.int .u64 0,by simp [Nat.mod_one],.inl (by rw [hs q (by omega)];rfl)⟩
theorem vpW {T T':Tab} {C:Cv} (hip:IpOk T T' C.ip) {i i' n n':Nat} {L L':List AV} {W W':Nat→BitVec 64} (h1:T.vv i=pvw L n W) (h2:T'.vv i'=pvw L' n' W') (hk:T'.vk i'≤T.vk i) (hn:n'≤n) (hL:L.length≤L'.length) (hLn:L'.length≤n)
    (hl:cvL C L (L'.take L.length)=true) (hm:∀ q x,L'[L.length+q]? = some x→∀ μ v,v=Value.int .u64 (wI (W q))→@vrel T' μ x v) (hw:∀ q,L'.length+q<n'→W' q=W (L'.length - L.length+q)) :
    own (.vec i)=true∧∀ μ l w,@brel T μ (.vec i) l w→@brel T' (ren C.N0 C.rn μ) (.vec i') l w:=by
  refine ⟨rfl,fun μ l w hb=>?_⟩
  obtain ⟨arr,el,fz,g1,g2,g3,g4,g5⟩:=hb
  refine ⟨arr,el,fz,g1,g2,g3,Nat.le_trans (Nat.add_le_add_left hk _) g4,fun m a ha=>?_⟩
  rw [h2] at ha
  rw [h1] at g5
  rcases pvw_cases ha with ⟨c2,c3⟩ | ⟨q,rfl,c4,rfl⟩
  · by_cases d:m<L.length
    · obtain ⟨a0,k1,k2⟩:=cvL_get hl m a (by rw [List.getElem?_take,if_pos d];exact c3)
      obtain ⟨v,k3,k4⟩:=g5 m a0 (by rw [pvw_lo d];exact k1)
      exact ⟨v,k3,cvV_sound hip k2 k4⟩
    · obtain ⟨q,rfl⟩:∃ q,m=L.length+q:=⟨m - L.length,by omega⟩
      obtain ⟨v,k3,k4⟩:=g5 _ _ (pvw_hi (L:=L) (W:=W) (q:=q) (by omega))
      simp only [vrel] at k4
      exact ⟨v,k3,hm q a c3 _ v k4⟩
  · obtain ⟨v,k3,k4⟩:=g5 _ _ (pvw_hi (L:=L) (W:=W) (q:=L'.length - L.length+q) (by omega))
    rw [show L.length+(L'.length - L.length+q)=L'.length+q by omega] at k3
    refine ⟨v,k3,?_⟩
    simp only [vrel] at k4 ⊢
    rw [hw q c4];exact k4
theorem vpWcells {T T':Tab} {C:Cv} (hip:IpOk T T' C.ip) {i' n:Nat} {q:Bool} {L L':List AV} {W':Nat→BitVec 64} (hn:n=L.length) (h2:T'.vv i'=pvw L' n W') (hlen:L.length<16000000) (hk:T'.vk i'≤n) (hL:L'.length=n) (hl:cvL C L L'=true) :
    own (.cells n q [] (X.T.ofList 0 .leaf L))=true∧∀ μ l w,@brel T μ (.cells n q [] (X.T.ofList 0 .leaf L)) l w→@brel T' (ren C.N0 C.rn μ) (.vec i') l w:=by
  refine ⟨rfl,fun μ l w hb_=>?_⟩
  obtain ⟨arr,el,fz,g1,g2,g3,g4,_,g5⟩:=hb_
  refine ⟨arr,el,fz,g1,g2,g3,Nat.le_trans (Nat.add_le_add_left hk _) g4,fun m a ha=>?_⟩
  rw [h2] at ha
  rcases pvw_cases ha with ⟨c2,c3⟩ | ⟨q,rfl,c4,rfl⟩
  · obtain ⟨a0,k1,k2⟩:=cvL_get hl m a c3
    have hm:m<L.length:=(List.getElem?_eq_some_iff.1 k1).1
    obtain ⟨v,k3,k4⟩:=g5 m a0 (by omega) (by
      unfold cellOf
      rw [X.T.get_ofList _ _ _ _ (by omega),if_pos ⟨Nat.zero_le _,by omega⟩,Nat.sub_zero,k1])
    exact ⟨v,k3,cvV_sound hip k2 k4⟩
  · omega
end Go.X
set_option linter.unusedVariables false
set_option linter.unusedSimpArgs false
set_option linter.unusedSectionVars false
namespace Go.X
open Go.RowKit
def pvn (L:List AV) (n:Nat) (F:Nat→Int):Nat→Option AV:=fun m=>if m<L.length then L[m]? else if m<n then some (.int .i64 (F (m - L.length))) else none
theorem pvn_lo {L:List AV} {n:Nat} {F:Nat→Int} {m:Nat} (h:m<L.length):pvn L n F m=L[m]? := by unfold pvn;rw [if_pos h]
theorem pvn_hi {L:List AV} {n:Nat} {F:Nat→Int} {q:Nat} (h:L.length+q<n):pvn L n F (L.length+q)=some (.int .i64 (F q)):=by
  unfold pvn;rw [if_neg (by omega),if_pos h,show L.length+q - L.length=q by omega]
theorem pvn_cases {L:List AV} {n:Nat} {F:Nat→Int} {m:Nat} {a:AV} (h:pvn L n F m=some a):(m<L.length∧L[m]? = some a)∨∃ q,m=L.length+q∧m<n∧a = .int .i64 (F q):=by
  unfold pvn at h
  split at h
  · exact .inl ⟨by assumption,h⟩
  · split at h
    · cases h;exact .inr ⟨m - L.length,by omega,by assumption,rfl⟩
    · cases h
theorem pvn_plain {L:List AV} {n:Nat} {F:Nat→Int} (h:L.all vplain=true) {m:Nat} {a:AV} (e:pvn L n F m=some a):vplain a=true:=by
  rcases pvn_cases e with ⟨_,e⟩ | ⟨_,_,_,rfl⟩
  · exact List.all_eq_true.1 h a (List.mem_of_getElem? e)
  · rfl
variable {iv:Nat→IntKind×Int} {vv:Nat→Nat→Option AV} {vk:Nat→Nat}
theorem vlN1 {r:VL} {L:List AV} {n:Nat} {F:Nat→Int} {k:Nat} {x:AV} (hk:iv r.k=(.i64,(k:Int))) (hv:vv r.i=pvn L n F) (hz:r.z=1) (hf:r.f=0) (hl:r.l=[x]) (hx:L[k]? = some x):VlOk iv vv r:=by
  refine ⟨by rw [hk];exact ⟨rfl,by simp⟩,fun m b hb=>?_⟩
  rw [hl] at hb
  have hm:m=0:=by
    have:=(List.getElem?_eq_some_iff.1 hb).1
    simpa using this
  subst hm
  cases hb
  have e1:(iv r.k).2.toNat=k:=by rw [hk];simp
  have hlt:k<L.length:=(List.getElem?_eq_some_iff.1 hx).1
  rw [e1,hz,hf,hv,show k*1+0+0=k by omega,pvn_lo hlt]
  exact ⟨_,hx,.inl rfl⟩
theorem vlN2 {r:VL} {L:List AV} {n:Nat} {F:Nat→Int} {k q y:Nat} (hk:iv r.k=(.i64,(k:Int))) (hv:vv r.i=pvn L n F) (hz:r.z=1) (hf:r.f=0) (hl:r.l=[.oi y]) (h1:k=L.length+q) (h2:k<n) (hy:iv y=(.i64,F q)):VlOk iv vv r:=by
  refine ⟨by rw [hk];exact ⟨rfl,by simp⟩,fun m b hb=>?_⟩
  rw [hl] at hb
  have hm:m=0:=by
    have:=(List.getElem?_eq_some_iff.1 hb).1
    simpa using this
  subst hm
  cases hb
  have e1:(iv r.k).2.toNat=k:=by rw [hk];simp
  rw [e1,hz,hf,hv,show k*1+0+0=L.length+q by omega,pvn_hi (by omega)]
  exact ⟨_,rfl,.inr ⟨_,rfl,by show some (iv y)=_;rw [hy]⟩⟩
theorem vaN1 {r:VA} {L:List AV} {n:Nat} {F:Nat→Int} {k:Nat} {x:AV} (hj:iv r.j=(.i64,(n:Int))) (hj':iv r.j'=(.i64,((n+1:Nat):Int))) (hv:vv r.i=pvn L n F) (hv':vv r.i'=pvn L (n+1) F) (hk:vk r.i'≤n+1) (hz:r.z=1) (hl:r.src=[x]) (h1:n=L.length+k) (h2:n+1<1000000) (hx:denI iv x=some (.i64,F k)):VaOk iv vv vk r:=by
  have e1:(iv r.j).2.toNat=n:=by rw [hj];simp
  have e2:(iv r.j').2.toNat=n+1:=by rw [hj'];simp
  refine ⟨by rw [hj];exact ⟨rfl,Int.natCast_nonneg _⟩,by rw [hj'];exact ⟨rfl,Int.natCast_nonneg _⟩,by rw [e1,e2,hz,hl];simp,by rw [e2];simpa [limit] using h2,by rw [e2,hz];omega,fun m a ha=>?_⟩
  rw [e1,hz,hl]
  rw [hv'] at ha
  rcases pvn_cases ha with ⟨c2,c3⟩ | ⟨q,rfl,c4,rfl⟩
  · refine ⟨a,?_,.inl rfl⟩
    rw [if_pos (by omega),hv,pvn_lo c2];exact c3
  · by_cases d:L.length+q<n
    · exact ⟨_,by rw [if_pos (by omega),hv,pvn_hi d],.inl rfl⟩
    · obtain rfl:q=k:=by omega
      refine ⟨x,?_,.inr ⟨_,hx,rfl⟩⟩
      rw [if_neg (by omega),show L.length+q - n*1=0 by omega]
      rfl
theorem vpN {T T':Tab} {C:Cv} (hip:IpOk T T' C.ip) {i i' n n':Nat} {L L':List AV} {F F':Nat→Int} (h1:T.vv i=pvn L n F) (h2:T'.vv i'=pvn L' n' F') (hk:T'.vk i'≤T.vk i) (hn:n'≤n) (hL:L.length≤L'.length) (hLn:L'.length≤n)
    (hl:cvL C L (L'.take L.length)=true) (hm:∀ q x,L'[L.length+q]? = some x→∀ μ v,v=Value.int .i64 (F q)→@vrel T' μ x v) (hw:∀ q,L'.length+q<n'→F' q=F (L'.length - L.length+q)) :
    own (.vec i)=true∧∀ μ l w,@brel T μ (.vec i) l w→@brel T' (ren C.N0 C.rn μ) (.vec i') l w:=by
  refine ⟨rfl,fun μ l w hb=>?_⟩
  obtain ⟨arr,el,fz,g1,g2,g3,g4,g5⟩:=hb
  refine ⟨arr,el,fz,g1,g2,g3,Nat.le_trans (Nat.add_le_add_left hk _) g4,fun m a ha=>?_⟩
  rw [h2] at ha
  rw [h1] at g5
  rcases pvn_cases ha with ⟨c2,c3⟩ | ⟨q,rfl,c4,rfl⟩
  · by_cases d:m<L.length
    · obtain ⟨a0,k1,k2⟩:=cvL_get hl m a (by rw [List.getElem?_take,if_pos d];exact c3)
      obtain ⟨v,k3,k4⟩:=g5 m a0 (by rw [pvn_lo d];exact k1)
      exact ⟨v,k3,cvV_sound hip k2 k4⟩
    · obtain ⟨q,rfl⟩:∃ q,m=L.length+q:=⟨m - L.length,by omega⟩
      obtain ⟨v,k3,k4⟩:=g5 _ _ (pvn_hi (L:=L) (F:=F) (q:=q) (by omega))
      simp only [vrel] at k4
      exact ⟨v,k3,hm q a c3 _ v k4⟩
  · obtain ⟨v,k3,k4⟩:=g5 _ _ (pvn_hi (L:=L) (F:=F) (q:=L'.length - L.length+q) (by omega))
    rw [show L.length+(L'.length - L.length+q)=L'.length+q by omega] at k3
    refine ⟨v,k3,?_⟩
    simp only [vrel] at k4 ⊢
    rw [hw q c4];exact k4
theorem vpNcells {T T':Tab} {C:Cv} (hip:IpOk T T' C.ip) {i' n:Nat} {q:Bool} {L L':List AV} {F':Nat→Int} (hn:n=L.length) (h2:T'.vv i'=pvn L' n F') (hlen:L.length<16000000) (hk:T'.vk i'≤n) (hL:L'.length=n) (hl:cvL C L L'=true) :
    own (.cells n q [] (X.T.ofList 0 .leaf L))=true∧∀ μ l w,@brel T μ (.cells n q [] (X.T.ofList 0 .leaf L)) l w→@brel T' (ren C.N0 C.rn μ) (.vec i') l w:=by
  refine ⟨rfl,fun μ l w hb_=>?_⟩
  obtain ⟨arr,el,fz,g1,g2,g3,g4,_,g5⟩:=hb_
  refine ⟨arr,el,fz,g1,g2,g3,Nat.le_trans (Nat.add_le_add_left hk _) g4,fun m a ha=>?_⟩
  rw [h2] at ha
  rcases pvn_cases ha with ⟨c2,c3⟩ | ⟨q,rfl,c4,rfl⟩
  · obtain ⟨a0,k1,k2⟩:=cvL_get hl m a c3
    have hm:m<L.length:=(List.getElem?_eq_some_iff.1 k1).1
    obtain ⟨v,k3,k4⟩:=g5 m a0 (by omega) (by
      unfold cellOf
      rw [X.T.get_ofList _ _ _ _ (by omega),if_pos ⟨Nat.zero_le _,by omega⟩,Nat.sub_zero,k1])
    exact ⟨v,k3,cvV_sound hip k2 k4⟩
  · omega
theorem vlW3 {r:VL} {L:List AV} {n:Nat} {W:Nat→BitVec 64} {k q:Nat} {c:Int} (hk:iv r.k=(.i64,(k:Int))) (hv:vv r.i=pvw L n W) (hz:r.z=1) (hf:r.f=0) (hl:r.l=[.int .u64 c]) (h1:k=L.length+q) (h2:k<n) (hy:wI (W q)=c):VlOk iv vv r:=by
  refine ⟨by rw [hk];exact ⟨rfl,by simp⟩,fun m b hb=>?_⟩
  rw [hl] at hb
  have hm:m=0:=by
    have:=(List.getElem?_eq_some_iff.1 hb).1
    simpa using this
  subst hm
  cases hb
  have e1:(iv r.k).2.toNat=k:=by rw [hk];simp
  rw [e1,hz,hf,hv,show k*1+0+0=L.length+q by omega,pvw_hi (by omega)]
  exact ⟨_,rfl,.inl (by rw [hy])⟩
theorem pvnHs {T:Tab} {i n:Nat} {L:List AV} {F G:Nat→Int} (hv:T.vv i=pvn L n F) (hL:∀ q x,L[q]? = some x→x=AV.int .i64 (G q)) (hF:∀ q,L.length+q<n→F q=G (L.length+q)) :
    ∀ m,m<n→∃ a,T.vv i m=some a∧∀ μ v,@vrel T μ a v→v = .int .i64 (G m):=by
  intro m hm
  rw [hv]
  by_cases c:m<L.length
  · rw [pvn_lo c]
    have h:=List.getElem?_eq_getElem c
    refine ⟨_,h,fun μ v e=>?_⟩
    rw [hL m _ h] at e
    simp only [vrel] at e
    exact e
  · obtain ⟨q,rfl⟩:∃ q,m=L.length+q:=⟨m - L.length,by omega⟩
    rw [pvn_hi hm]
    exact ⟨_,rfl,fun μ v e=>by simp only [vrel] at e;rw [e,hF q hm]⟩
end Go.X
set_option linter.unusedVariables false
set_option linter.unusedSimpArgs false
set_option linter.unusedSectionVars false
namespace Go.X
open Go.RowKit
structure Fgn where
  fb:Nat→Nat×Nat
  fcap:Nat→Nat
  fv:Nat→Nat→Option AV
abbrev FlOk (iv:Nat→IntKind×Int) (F:Fgn) (r:VL):Prop:=isLen (iv r.k)∧∀ m b,r.l[m]? = some b→∃ a,F.fv r.i ((iv r.k).2.toNat*r.z+r.f+m)=some a∧sameAV iv a b
variable {iv:Nat→IntKind×Int} {vv:Nat→Nat→Option AV} {vk:Nat→Nat}
abbrev VRows.ftab (R:VRows iv vv vk) (F:Fgn) (fl:List VL) (flok:∀ r∈fl,FlOk iv F r):Tab :=
  { R.tab with fb:=F.fb,fcap:=F.fcap,fv:=F.fv,fl:=fl,flok:=flok }
theorem VRows.fsame (R R':VRows iv vv vk) (F:Fgn) (fl fl':List VL) (h:∀ r∈fl,FlOk iv F r) (h':∀ r∈fl',FlOk iv F r):SameTab (R.ftab F fl h) (R'.ftab F fl' h'):=⟨rfl,rfl,rfl,rfl,rfl,rfl,rfl,rfl,rfl⟩
def intF (k:IntKind) (A:Nat) (e:Nat→Int):Nat→Option AV:=numV k A e
theorem flN {F:Fgn} {r:VL} {K:IntKind} {k A:Nat} {e:Nat→Int} (hk:iv r.k=(.i64,(k:Int))) (h0:F.fv r.i=numV K A e) (ho:k*r.z+r.f+r.l.length≤A) (hb:∀ m b,r.l[m]? = some b→denI iv b=some (K,e (k*r.z+r.f+m))):FlOk iv F r:=by
  refine ⟨by rw [hk];exact ⟨rfl,by simp⟩,fun m x hx=>?_⟩
  have hm:=(List.getElem?_eq_some_iff.1 hx).1
  have e1:(iv r.k).2.toNat=k:=by rw [hk];simp
  rw [e1,h0]
  exact ⟨_,numV_lt (by omega),.inr ⟨_,rfl,hb m x hx⟩⟩
theorem glF {T T':Tab} {B:Kp} {w0:World} (h:T'.gv=fun _ _=>none) (h1:T.fb=T'.fb) (h2:T.fv=T'.fv) (h3:∀ i m a,T'.fv i m=some a→∃ k n,a = .int k n):@Gl T B w0→@Gl T' B w0:=fun g =>
  ⟨fun g o a hg=>(by rw [h] at hg;cases hg),fun i m a hg=>(by
    obtain ⟨k,n,rfl⟩:=h3 i m a hg
    obtain ⟨h4,v,h5,h6⟩:=g.2 i m _ (by rw [h2];exact hg)
    rw [← h1]
    exact ⟨h4,v,h5,by simp only [vrel] at h6 ⊢;exact h6⟩)⟩
end Go.X
