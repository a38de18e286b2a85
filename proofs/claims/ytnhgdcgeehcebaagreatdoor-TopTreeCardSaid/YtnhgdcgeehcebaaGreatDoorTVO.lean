/-
  What the law TopTree gives.
-/
import Derived.Test.YtnhgdcgeehcebaaGreatDoorTVC
import Derived.Test.YtnhgdcgeehcebaaGreatDoorTVR1
import Derived.Test.YtnhgdcgeehcebaaGreatDoorTVR2
import Derived.Test.YtnhgdcgeehcebaaGreatDoorTVR3
import Derived.Test.YtnhgdcgeehcebaaGreatDoorTVR4
import Derived.Test.YtnhgdcgeehcebaaGreatDoorTVR5
import Derived.Test.YtnhgdcgeehcebaaGreatDoorTVR6
import Derived.Test.YtnhgdcgeehcebaaGreatDoorTVR7
import Derived.Test.YtnhgdcgeehcebaaGreatDoorTVR8
set_option linter.unusedSectionVars false
set_option linter.unusedVariables false
set_option maxRecDepth 1000000
set_option maxHeartbeats 0
namespace Go.Proofs.YtnhgdcgeehcebaaGreatDoor.tv
open Go.X Go.RowKit Go.Proofs.YtnhgdcgeehcebaaGreatDoor.tq Go.Proofs.YtnhgdcgeehcebaaGreatDoor
abbrev ivU (m x r:Int):Nat→IntKind×Int
  | 0=>(.i64,m)
  | 1=>(.i64,x)
  | 2=>(.i64,r)
  | _=>(.i64,0)
theorem ibUp {m x r:Int} (hx:m.tmod 9=x) (g1:1≤x) (g2:x<9) (e1:r = -x):∀ x_∈([(4,.oi 0,.int .i64 9,.oi 1),(11,.oi 1,.int .i64 0,.bool false)]:List BRow),IbOk (ivU m x r) x_:=by
  letI:=Tab.empty
  exact (ibCons (ibRem (a:=m) (b:=9) (c:=x) rfl rfl rfl (by decide) hx) (ibCons (ibLt (a:=x) (b:=0) rfl rfl (decide_eq_false (by omega))) ibNil))
abbrev RUp {m x r:Int} (hx:m.tmod 9=x) (g1:1≤x) (g2:x<9) (e1:r = -x):VRows (ivU m x r) noV noK where
  vvp:=noVp
  ib:=[(4,.oi 0,.int .i64 9,.oi 1),(11,.oi 1,.int .i64 0,.bool false)]
  ibok:=ibUp hx g1 g2 e1
abbrev TUp {m x r:Int} (hx:m.tmod 9=x) (g1:1≤x) (g2:x<9) (e1:r = -x):Tab:=(RUp hx g1 g2 e1).tab
theorem yesp {m x r:Int} (hx:m.tmod 9=x) (g1:1≤x) (g2:x<9) (e1:r = -x) (q r1:Int) (w:World) (bk:∀ (a:Act) (w':World),St (TTx x q r1) (Kp.below w.heap.size) w (fun _=>none) NL (frOf fsA) (hOf 6868 []) a w'→(restn 4 fullL).wp Tryz.prog (Yes Tryz.prog Tryz.f3 (Kp.below w.heap.size) w) a w'):Calls Tryz.prog 3 #[.int .i64 m] w fun e w'=>e = .returned (.bool true)∧Below w.heap.size w w':=by
  refine yes_calls Tryz.func3 bodyL_eq w ?_
  have s0:=@St.start (TUp hx g1 g2 e1) [.oi 0] #[.int .i64 m] NL w ⟨fun g o a h=>(by cases h),fun i m a h=>(by cases h)⟩ (@vrels_cons (TUp hx g1 g2 e1) _ _ _ _ _ (by simp only [vrel];rfl) (by simp [vrels])) (show 1≤NL by decide +kernel) (show 1<limit by decide)
  refine firstTo_sound (T:=(TUp hx g1 g2 e1)) (T':=TTx x q r1) (K:=K_top0) (m:=5000) (n:=4) tt.mixed (@K_top0_ok (TUp hx g1 g2 e1)) (C:=⟨0,6868,ofPairs [],[(.oi 1,0)]⟩) (rl:=[]) (vp:=[]) (fs:=fsA) (bs:=[])
      (Base.none _) (Nat.zero_le _) rfl (by kernel_rfl) (ipCons (ipN (.i64,x) rfl rfl) ipNil) vpNil (glNone rfl rfl) (by as_aux_lemma=>kernel_rfl) s0 fun a' w' s=>?_
  exact bk a' w' s
theorem ibUn {m x r:Int} (hx:m.tmod 9=r) (g1:1≤x) (g2:x<9) (e1:r = -x):∀ x_∈([(4,.oi 0,.int .i64 9,.oi 2),(11,.oi 2,.int .i64 0,.bool true)]:List BRow),IbOk (ivU m x r) x_:=by
  letI:=Tab.empty
  exact (ibCons (ibRem (a:=m) (b:=9) (c:=r) rfl rfl rfl (by decide) hx) (ibCons (ibLt (a:=r) (b:=0) rfl rfl (decide_eq_true (by omega))) ibNil))
abbrev RUn {m x r:Int} (hx:m.tmod 9=r) (g1:1≤x) (g2:x<9) (e1:r = -x):VRows (ivU m x r) noV noK where
  vvp:=noVp
  ib:=[(4,.oi 0,.int .i64 9,.oi 2),(11,.oi 2,.int .i64 0,.bool true)]
  ibok:=ibUn hx g1 g2 e1
theorem iuT {m x r:Int} (hx:m.tmod 9=r) (g1:1≤x) (g2:x<9) (e1:r = -x):∀ q∈([(0,.oi 2,.oi 1)]:List (Nat×AV×AV)),∀ op,ucode op=q.1→∃ k n_ v,denI (ivU m x r) q.2.1=some (k,n_)∧unI op k n_=some v∧outI (ivU m x r) q.2.2 v:=fun q hq op hop=>by
  simp only [List.mem_cons,List.not_mem_nil,or_false] at hq
  subst hq
  have:op = .neg:=by cases op<;>simp [ucode] at hop;rfl
  subst this
  exact ⟨.i64,r,.int .i64 (IntKind.i64.wrap (0 - r)),rfl,rfl,by rw [wrap64 (by omega) (by omega)];show some (IntKind.i64,x)=some (IntKind.i64,0 - r);congr 2;omega⟩
abbrev TUn {m x r:Int} (hx:m.tmod 9=r) (g1:1≤x) (g2:x<9) (e1:r = -x):Tab:={ (RUn hx g1 g2 e1).tab with
  iu:=[(0,.oi 2,.oi 1)]
  iuok:=iuT hx g1 g2 e1 }
theorem yesn {m x r:Int} (hx:m.tmod 9=r) (g1:1≤x) (g2:x<9) (e1:r = -x) (q r1:Int) (w:World) (bk:∀ (a:Act) (w':World),St (TTx x q r1) (Kp.below w.heap.size) w (fun _=>none) NL (frOf fsA) (hOf 6868 []) a w'→(restn 4 fullL).wp Tryz.prog (Yes Tryz.prog Tryz.f3 (Kp.below w.heap.size) w) a w'):Calls Tryz.prog 3 #[.int .i64 m] w fun e w'=>e = .returned (.bool true)∧Below w.heap.size w w':=by
  refine yes_calls Tryz.func3 bodyL_eq w ?_
  have s0:=@St.start (TUn hx g1 g2 e1) [.oi 0] #[.int .i64 m] NL w ⟨fun g o a h=>(by cases h),fun i m a h=>(by cases h)⟩ (@vrels_cons (TUn hx g1 g2 e1) _ _ _ _ _ (by simp only [vrel];rfl) (by simp [vrels])) (show 1≤NL by decide +kernel) (show 1<limit by decide)
  refine firstTo_sound (T:=(TUn hx g1 g2 e1)) (T':=TTx x q r1) (K:=K_top0) (m:=5000) (n:=4) tt.mixed (@K_top0_ok (TUn hx g1 g2 e1)) (C:=⟨0,6868,ofPairs [],[(.oi 1,0)]⟩) (rl:=[]) (vp:=[]) (fs:=fsA) (bs:=[])
      (Base.none _) (Nat.zero_le _) rfl (by kernel_rfl) (ipCons (ipN (.i64,x) rfl rfl) ipNil) vpNil (glNone rfl rfl) (by as_aux_lemma=>kernel_rfl) s0 fun a' w' s=>?_
  exact bk a' w' s
theorem allp {m:Int} (x:Int) (hx:m.tmod 9=x) (g1:1≤x) (g2:x<9) (w:World):Calls Tryz.prog 3 #[.int .i64 m] w fun e w'=>e = .returned (.bool true)∧Below w.heap.size w w':=by
  have c:x=1∨x=2∨x=3∨x=4∨x=5∨x=6∨x=7∨x=8:=by omega
  rcases c with rfl | rfl | rfl | rfl | rfl | rfl | rfl | rfl
  · exact yesp (r := -1) hx g1 g2 rfl 61 1 w (fun a w' s=>back1 s)
  · exact yesp (r := -2) hx g1 g2 rfl 155 3 w (fun a w' s=>back2 s)
  · exact yesp (r := -3) hx g1 g2 rfl 343 7 w (fun a w' s=>back3 s)
  · exact yesp (r := -4) hx g1 g2 rfl 719 15 w (fun a w' s=>back4 s)
  · exact yesp (r := -5) hx g1 g2 rfl 1471 31 w (fun a w' s=>back5 s)
  · exact yesp (r := -6) hx g1 g2 rfl 2975 63 w (fun a w' s=>back6 s)
  · exact yesp (r := -7) hx g1 g2 rfl 5983 127 w (fun a w' s=>back7 s)
  · exact yesp (r := -8) hx g1 g2 rfl 11999 255 w (fun a w' s=>back8 s)
theorem alln {m:Int} (x:Int) (hx:m.tmod 9 = -x) (g1:1≤x) (g2:x<9) (w:World):Calls Tryz.prog 3 #[.int .i64 m] w fun e w'=>e = .returned (.bool true)∧Below w.heap.size w w':=by
  have c:x=1∨x=2∨x=3∨x=4∨x=5∨x=6∨x=7∨x=8:=by omega
  rcases c with rfl | rfl | rfl | rfl | rfl | rfl | rfl | rfl
  · exact yesn (r := -1) hx g1 g2 rfl 61 1 w (fun a w' s=>back1 s)
  · exact yesn (r := -2) hx g1 g2 rfl 155 3 w (fun a w' s=>back2 s)
  · exact yesn (r := -3) hx g1 g2 rfl 343 7 w (fun a w' s=>back3 s)
  · exact yesn (r := -4) hx g1 g2 rfl 719 15 w (fun a w' s=>back4 s)
  · exact yesn (r := -5) hx g1 g2 rfl 1471 31 w (fun a w' s=>back5 s)
  · exact yesn (r := -6) hx g1 g2 rfl 2975 63 w (fun a w' s=>back6 s)
  · exact yesn (r := -7) hx g1 g2 rfl 5983 127 w (fun a w' s=>back7 s)
  · exact yesn (r := -8) hx g1 g2 rfl 11999 255 w (fun a w' s=>back8 s)
end Go.Proofs.YtnhgdcgeehcebaaGreatDoor.tv
