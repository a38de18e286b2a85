/-
  The last state of the machine within the law TopTree, told with cells.
-/
import Derived.Test.YtnhgdcgeehcebaaGreatDoorTU0
import Derived.Test.YtnhgdcgeehcebaaGreatDoorXN3
import Derived.Test.YtnhgdcgeehcebaaGreatDoorTTM
import Derived.Test.YtnhgdcgeehcebaaGreatDoorProg
import Derived.KernelRfl
set_option linter.unusedSectionVars false
set_option linter.unusedVariables false
set_option maxRecDepth 1000000
set_option maxHeartbeats 0
namespace Go.Proofs.YtnhgdcgeehcebaaGreatDoor.tt
open Go.X Go.RowKit Go.Proofs.YtnhgdcgeehcebaaGreatDoor
section
variable {B:Kp} {w0 w w1:World} {μ μ0:M} {a:Act}
def stl:Nat→Nat→List AV
  | 0,_=>[]
  | k+1,q => .int .i64 (Int.ofNat (8+4*q))::stl k (q+1)
theorem stl_len:∀ k q,(stl k q).length=k
  | 0,_=>rfl
  | k+1,q=>by simp only [stl,List.length_cons,stl_len k (q+1)]
theorem stl_get:∀ (k q m:Nat) (x:AV),(stl k q)[m]? = some x→x=AV.int .i64 (stT (q+m))
  | 0,q,m,x,h=>by simp [stl] at h
  | k+1,q,0,x,h=>by simp [stl] at h;exact h.symm
  | k+1,q,m+1,x,h=>by
    simp only [stl,List.getElem?_cons_succ] at h
    rw [stl_get k (q+1) m x h,show q+1+m=q+(m+1) by omega]
def st3 (k:Nat):List AV := .int .i64 0 :: .int .i64 2 :: .int .i64 5::stl k 0
theorem st3_len (k:Nat):(st3 k).length=3+k:=by simp only [st3,List.length_cons,stl_len];omega
theorem st3_get {k n m:Nat} {x:AV} (hk:k≤n) (h:(st3 k)[m]? = some x):pvn y1 (3+n) stT m=some x:=by
  match m,h with
  | 0,h=>cases h;rfl
  | 1,h=>cases h;rfl
  | 2,h=>cases h;rfl
  | m + 3,h =>
    have h':(stl k 0)[m]? = some x:=by simpa [st3] using h
    have hl:m<k:=by
      have:=(List.getElem?_eq_some_iff.1 h').1
      rw [stl_len] at this;exact this
    rw [stl_get k 0 m x h',show m+3=(y1:List AV).length+m by show m+3=3+m;omega,pvn_hi (by show 3+m<3+n;omega),Nat.zero_add]
theorem pv0 {c:Nat} {l:List AV} {m:Nat} {x:AV} (h:l[m]? = some x):pv 0 c l m=some x:=by
  have e:=pv_hi (b:=0) (c:=c) (l:=l) m
  rw [Nat.zero_add] at e
  rw [e];exact h
noncomputable abbrev bsDr:BS:=[(7728,7728,kb0),(7729,7729,kb1),(7730,7730,kb2),(10144,10144,kb3),(10985,10985,kb6),(10989,10989,kb7),(14330,14330,kb9),(14332,14332,(.map [((.str 9 1349587270641094438477),(.int .i64 3),0),((.str 13 4700550402495416491276214152781),(.oi 4),1),((.str 12 26665466772310684618039504468),(.oi 5),2),((.str 14 1483882617254647020351433658805837),(.oi 6),3)] 4)),(14452,14452,(.cells 1 true [] (T.ofList 0 .leaf [(.int .u8 76)]))),(14548,14548,(.cells 1 true [] (T.ofList 0 .leaf [(.int .u8 76)]))),(14622,14622,kb11),(14960,14960,kb13),(15191,15191,kb16),(17446,17446,kb22),(17610,17610,kb23),(20000,20000,kb24),(20005,20005,(.cells 6 false [] (T.ofList 0 .leaf y52))),(20031,20031,kb27),(20032,20032,(.cells 2 false [(.int .i64 0)] .leaf)),(20034,20034,kb29),(20035,20035,kb25),(20036,20036,kb26)]
noncomputable abbrev dc10983 (k:Nat):Blk:=(.cells 5 false [] (T.ofList 0 .leaf ([(.ptr 7730 0),(.so 20021 0 (8+4*k) 1)]++(.so 20022 0 (3+k) 1)::[(.so 20034 0 4 3),(.map 10982)])))
noncomputable abbrev dc14329 (k:Nat):Blk:=(.cells 4 false [] (T.ofList 0 .leaf ([(.so 20001 0 2 1),(.so 20002 0 2 1)]++(.so 20003 0 1 7)::[(.oi 3)])))
noncomputable abbrev dc14333 (k:Nat):Blk:=(.cells 32 false [] (T.ofList 0 .leaf (y202++(.so 20004 0 1 1)::y203)))
noncomputable abbrev dc20001 (k:Nat):Blk:=(.cells 2 true [] (T.ofList 0 .leaf [(.oi 0),(.oi 1)]))
noncomputable abbrev dc20002 (k:Nat):Blk:=(.cells 2 true [] (T.ofList 0 .leaf y7))
noncomputable abbrev dc20003 (k:Nat):Blk:=(.cells 7 true [] (T.ofList 0 .leaf ([(.int .i64 0),(.int .i64 2),(.int .i64 4)]++(.int .i64 0)::[(.int .i64 1),(.int .i64 1),(.int .i64 1)])))
noncomputable abbrev dc20004 (k:Nat):Blk:=(.cells 1 true [] (T.ofList 0 .leaf [(.ptr 20005 0)]))
noncomputable abbrev dc20021 (k:Nat):Blk:=(.cells (8+4*k) true [] (T.ofList 0 .leaf y0))
noncomputable abbrev dc20022 (k:Nat):Blk:=(.cells (3+k) true [] (T.ofList 0 .leaf (st3 k)))
noncomputable abbrev bsDc (k:Nat):BS:=(10983,10983,dc10983 k)::(14329,14329,dc14329 k)::(14333,14333,dc14333 k)::(20001,20001,dc20001 k)::(20002,20002,dc20002 k)::(20003,20003,dc20003 k)::(20004,20004,dc20004 k)::(20021,20021,dc20021 k)::(20022,20022,dc20022 k)::bsDr
def SDc (xx r wd c0 c1 c2:Int) (nn rs:Nat) (W:Nat→BitVec 64) (k:Nat) (rv:Nat→Value) (B:Kp) (w0:World) (μ:M) (a:Act) (w:World):Prop:=St (PDs xx r wd c0 c1 c2 nn rs W rv) B w0 μ Tryz.f37.ntmps (frOf fsR) (hOf 20041 (bsDc k)) a w
theorem bsDr_has:hasAll (hOf 20041 bsDs) (bsOf bsDr)=true:=by kernel_rfl
theorem toDc {xx r wd c0 c1 c2:Int} {nn rs:Nat} {W:Nat→BitVec 64} {k:Nat} (hk:nn=k) (hn:k≤1000) {rv:Nat→Value} (s_:SDs xx r wd c0 c1 c2 nn rs W rv B w0 μ0 a w):SDc xx r wd c0 c1 c2 nn rs W k rv B w0 μ0 a w:=by
  refine bs.swap (T:=PDs xx r wd c0 c1 c2 nn rs W rv) (bs:=bsDs) ?_ s_
  intro y b' hy
  rw [bs.hOf_get] at hy
  letI:Tab:=Tab.empty
  have hlim:∀ q∈bsOf bsDr,q.1<limit:=okLim_mem (bs:=bsOf bsDr) (by kernel_rfl)
  have hm:(y,b')∈((10983,dc10983 k)::(14329,dc14329 k)::(14333,dc14333 k)::(20001,dc20001 k)::(20002,dc20002 k)::(20003,dc20003 k)::(20004,dc20004 k)::(20021,dc20021 k)::(20022,dc20022 k)::bsOf bsDr:List (Nat×Blk)):=ofPairs_get (l:=bsOf (bsDc k)) (by
    intro p hp
    rcases List.mem_cons.1 hp with rfl | hp
    · show 10983<limit;decide
    rcases List.mem_cons.1 hp with rfl | hp
    · show 14329<limit;decide
    rcases List.mem_cons.1 hp with rfl | hp
    · show 14333<limit;decide
    rcases List.mem_cons.1 hp with rfl | hp
    · show 20001<limit;decide
    rcases List.mem_cons.1 hp with rfl | hp
    · show 20002<limit;decide
    rcases List.mem_cons.1 hp with rfl | hp
    · show 20003<limit;decide
    rcases List.mem_cons.1 hp with rfl | hp
    · show 20004<limit;decide
    rcases List.mem_cons.1 hp with rfl | hp
    · show 20021<limit;decide
    rcases List.mem_cons.1 hp with rfl | hp
    · show 20022<limit;decide
    exact hlim p hp) hy
  rcases List.mem_cons.1 hm with e | hm
  · cases e
    exact ⟨kb37,by kernel_rfl,rfl,fun μ l w h=>bs.cells_set (T:=PDs xx r wd c0 c1 c2 nn rs W rv) (x:=(.ov 20022 9 1)) (y:=(.so 20022 0 (3+k) 1)) (L1:=[(.ptr 7730 0),(.so 20021 0 (8+4*k) 1)]) (L2:=[(.so 20034 0 4 3),(.map 10982)]) (by show _<_;simp) (fun μ v hv=>bs.ov_so (T:=PDs xx r wd c0 c1 c2 nn rs W rv) (n:=(3+k)) (by show (IntKind.i64,((3+nn:Nat):Int))=(IntKind.i64,(((3+k):Nat):Int));first | rfl | rw [hk]) μ v hv) rfl μ l w (bs.cells_set (T:=PDs xx r wd c0 c1 c2 nn rs W rv) (x:=(.ov 20021 8 1)) (y:=(.so 20021 0 (8+4*k) 1)) (L1:=[(.ptr 7730 0)]) (L2:=[(.ov 20022 9 1),(.so 20034 0 4 3),(.map 10982)]) (by show _<_;simp) (fun μ v hv=>bs.ov_so (T:=PDs xx r wd c0 c1 c2 nn rs W rv) (n:=(8+4*k)) (by show (IntKind.i64,((8+4*nn:Nat):Int))=(IntKind.i64,(((8+4*k):Nat):Int));first | rfl | rw [hk]) μ v hv) rfl μ l w h)⟩
  rcases List.mem_cons.1 hm with e | hm
  · cases e
    exact ⟨(.cells 4 false [] (T.ofList 0 .leaf y26)),by kernel_rfl,rfl,fun μ l w h=>bs.cells_set (T:=PDs xx r wd c0 c1 c2 nn rs W rv) (x:=(.ov 20003 11 7)) (y:=(.so 20003 0 1 7)) (L1:=[(.so 20001 0 2 1),(.so 20002 0 2 1)]) (L2:=[(.oi 3)]) (by show _<_;simp) (fun μ v hv=>bs.ov_so (T:=PDs xx r wd c0 c1 c2 nn rs W rv) (n:=1) (by show (IntKind.i64,((0+1:Nat):Int))=(IntKind.i64,((1:Nat):Int));first | rfl | rw [hk]) μ v hv) rfl μ l w (bs.cells_set (T:=PDs xx r wd c0 c1 c2 nn rs W rv) (x:=(.ov 20002 10 1)) (y:=(.so 20002 0 2 1)) (L1:=[(.so 20001 0 2 1)]) (L2:=[(.ov 20003 11 7),(.oi 3)]) (by show _<_;simp) (fun μ v hv=>bs.ov_so (T:=PDs xx r wd c0 c1 c2 nn rs W rv) (n:=2) (by show (IntKind.i64,((0+2:Nat):Int))=(IntKind.i64,((2:Nat):Int));first | rfl | rw [hk]) μ v hv) rfl μ l w (bs.cells_set (T:=PDs xx r wd c0 c1 c2 nn rs W rv) (x:=(.ov 20001 10 1)) (y:=(.so 20001 0 2 1)) (L1:=[]) (L2:=[(.ov 20002 10 1),(.ov 20003 11 7),(.oi 3)]) (by show _<_;simp) (fun μ v hv=>bs.ov_so (T:=PDs xx r wd c0 c1 c2 nn rs W rv) (n:=2) (by show (IntKind.i64,((0+2:Nat):Int))=(IntKind.i64,((2:Nat):Int));first | rfl | rw [hk]) μ v hv) rfl μ l w h))⟩
  rcases List.mem_cons.1 hm with e | hm
  · cases e
    exact ⟨(.cells 32 false [] (T.ofList 0 .leaf y27)),by kernel_rfl,rfl,fun μ l w h=>bs.cells_set (T:=PDs xx r wd c0 c1 c2 nn rs W rv) (x:=(.ov 20004 11 1)) (y:=(.so 20004 0 1 1)) (L1:=y202) (L2:=y203) (by show _<_;simp) (fun μ v hv=>bs.ov_so (T:=PDs xx r wd c0 c1 c2 nn rs W rv) (n:=1) (by show (IntKind.i64,((0+1:Nat):Int))=(IntKind.i64,((1:Nat):Int));first | rfl | rw [hk]) μ v hv) rfl μ l w h⟩
  rcases List.mem_cons.1 hm with e | hm
  · cases e
    exact ⟨(.vec 2),by kernel_rfl,rfl,fun μ l w h=>bs.vec_some (T:=PDs xx r wd c0 c1 c2 nn rs W rv) (i:=2) (by decide) (by decide) (by show 2≤pk 0 [(.oi 0),(.oi 1)];decide) (fun m x h=>pv0 (c:=0) (l:=[(.oi 0),(.oi 1)]) h) μ l w h⟩
  rcases List.mem_cons.1 hm with e | hm
  · cases e
    exact ⟨(.vec 3),by kernel_rfl,rfl,fun μ l w h=>bs.vec_some (T:=PDs xx r wd c0 c1 c2 nn rs W rv) (i:=3) (by decide) (by decide) (by show 2≤pk 0 y7;decide) (fun m x h=>pv0 (c:=1) (l:=y7) h) μ l w h⟩
  rcases List.mem_cons.1 hm with e | hm
  · cases e
    exact ⟨(.vec 4),by kernel_rfl,rfl,fun μ l w h=>bs.cells_set (T:=PDs xx r wd c0 c1 c2 nn rs W rv) (x:=(.oi 7)) (y := .int .i64 0) (L1:=[(.int .i64 0),(.int .i64 2),(.int .i64 4)]) (L2:=[(.int .i64 1),(.int .i64 1),(.int .i64 1)]) (by decide) (fun μ v hv=>by simp only [vrel] at hv ⊢;exact hv) rfl μ l w (bs.vec_some (T:=PDs xx r wd c0 c1 c2 nn rs W rv) (i:=4) (by decide) (by decide) (by show 7≤pk 0 y19;decide) (fun m x h=>pv0 (c:=2) (l:=y19) h) μ l w h)⟩
  rcases List.mem_cons.1 hm with e | hm
  · cases e
    exact ⟨(.vec 5),by kernel_rfl,rfl,fun μ l w h=>bs.vec_some (T:=PDs xx r wd c0 c1 c2 nn rs W rv) (i:=5) (by decide) (by decide) (by show 1≤pk 0 [(.ptr 20005 0)];decide) (fun m x h=>pv0 (c:=3) (l:=[(.ptr 20005 0)]) h) μ l w h⟩
  rcases List.mem_cons.1 hm with e | hm
  · cases e
    exact ⟨(.vec 0),by kernel_rfl,rfl,fun μ l w h=>bs.vec_some (T:=PDs xx r wd c0 c1 c2 nn rs W rv) (i:=0) (by show 8≤8+4*k;omega) (by omega) (by show 8+4*k≤8+4*nn;omega) (fun m x h=>(pvw_lo (List.getElem?_eq_some_iff.1 h).1).trans h) μ l w h⟩
  rcases List.mem_cons.1 hm with e | hm
  · cases e
    exact ⟨(.vec 1),by kernel_rfl,rfl,fun μ l w h=>bs.vec_some (T:=PDs xx r wd c0 c1 c2 nn rs W rv) (i:=1) (by rw [st3_len];exact Nat.le_refl _) (by omega) (by show 3+k≤3+nn;omega) (fun m x h=>st3_get (by omega) h) μ l w h⟩
  exact ⟨b',hasAll_mem bsDr_has _ hm,rfl,fun μ l w h=>h⟩
end
end Go.Proofs.YtnhgdcgeehcebaaGreatDoor.tt
