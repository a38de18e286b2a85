/-
  The law StringsAll: its states.
-/
import Derived.Test.YtifdjfcakkdgeaaGreatDoorSAJ
set_option linter.unusedVariables false
set_option linter.unusedSimpArgs false
set_option linter.unusedSectionVars false
set_option maxRecDepth 1000000
set_option maxHeartbeats 0
namespace Go.Proofs.YtifdjfcakkdgeaaGreatDoor.sa
open Go.X Go.RowKit Go.Proofs
noncomputable def lC : Code := codeOf Tryz.f3
theorem lC_eq : Tryz.f3.body = some lC := by kernel_rfl
noncomputable def lI : Code := hd (hd (restn 7 lC))
noncomputable def lL : Code := lpIn (tl (hd (restn 7 lC)))
theorem l7_eq : restn 7 lC = .seq (.seq lI (.block 0 (.loop lL))) (restn 8 lC) := by kernel_rfl
/-- so many cells -/
noncomputable def upto {α : Type} (f : Nat → α) (m : Nat) : List α := Nat.rec [] (fun k ih => ih ++ [f k]) m
noncomputable def soM (x m : Nat) : AV := Nat.rec .nils (fun k _ => .so x 0 (Nat.succ k) 1) m
noncomputable def adC (m : Nat) : List AV := upto (fun j => .oi (Nat.add 200 j)) m
noncomputable def txC (m : Nat) : List AV := upto (fun j => .rw (Nat.add 300 j)) m
noncomputable def keC (m : Nat) : List (AV × AV × Nat) := upto (fun j => (.ostr j, .int .i64 (Int.ofNat j), j)) m
noncomputable def zOf (m : Nat) : Nat := Nat.rec 0 (fun _ _ => 1) m
noncomputable def hpM (m w s c : Nat) : Blk := Nat.rec hp0 (fun _ _ => hp w 1 s 2 c) m
noncomputable def tbM (m l : Nat) : Blk := .cells 3 false [] (T.ofList 0 .leaf [.ptr 3255 0, soM l m, .map 3256])
noncomputable def maM (m : Nat) : Blk := .map (keC m) m
/-- the law's blocks: words, starts, shapes; what is interned, texts, addresses -/
noncomputable def bsL (m : Nat) (w s c l t a : Nat) : BS := (3254, 3254, mp (zOf m)) :: (3255, 3255, hpM m 20001 20002 20003) :: (3257, 3257, tbM m 20004) :: (3256, 3256, maM m) :: (Nat.rec [] (fun _ _ => [(20001, w, .vec 0), (20002, s, .vec 1), (20003, c, shp), (20004, l, rowOf (adC m) true), (20005, t, rowOf (txC m) true), (20006, a, rowOf (adC m) true)]) m ++ same kb)
noncomputable def hL (m : Nat) : H := hOf 20010 (bsL m 0 0 0 0 0 0)
noncomputable def fsL' (m : Nat) : List (Nat × AV) := [(0, .fo 0 15 1), (1, .oi 30), (5, .bool true), (6, .ptr 3255 0), (7, .ptr 3257 0), (8, soM 20005 m), (9, soM 20006 m), (10, .oi 14)]
/- rows of a round -/
noncomputable def rowsE (m : Nat) : List BRow := Nat.rec [] (fun j ih => (10, .oi (Nat.add 200 j), .oi (Nat.add 200 j), .bool false) :: (10, .oi (Nat.add 200 j), .int .i64 0, .bool true) :: ih) m
noncomputable def rowsR (m : Nat) : List BRow := [(11, .oi 14, .oi 15, .bool true), (14, .oi 14, .int .i64 0, .bool true), (11, .oi 14, .int .i64 15, .bool true), (0, .oi 14, .int .i64 1, .oi 18), (1, .oi 4, .int .i64 1, .oi 1), (11, .oi 1, .oi 3, .bool true), (14, .oi 1, .int .i64 0, .bool true), (10, .oi 4, .oi 4, .bool false)] ++ rowsE m
noncomputable def rowsK (m k : Nat) : List TRow := Nat.rec [] (fun j ih => (4, [.ostr 99, .ostr j], .bool (Nat.beq j k)) :: ih) m
noncomputable def KL (m k : Nat) (s : Bool) : Hand := cutH.or ((sameH m k).or ((encH s).or ((inHand (tuI (zOf m))).or ((inHand (cuI (zOf m) s)).or KB))))
end Go.Proofs.YtifdjfcakkdgeaaGreatDoor.sa
