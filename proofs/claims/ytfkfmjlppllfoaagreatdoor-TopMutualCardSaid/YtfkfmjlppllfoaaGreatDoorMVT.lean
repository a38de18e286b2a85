/-
  The second run of the law TopMutual.
-/
import Derived.Test.YtfkfmjlppllfoaaGreatDoorMNN
import Derived.Test.YtfkfmjlppllfoaaGreatDoorMUT
import Derived.Test.YtfkfmjlppllfoaaGreatDoorXN3
import Derived.Test.YtfkfmjlppllfoaaGreatDoorProg
import Derived.KernelRfl
set_option linter.unusedSectionVars false
set_option linter.unusedVariables false
set_option maxRecDepth 1000000
set_option maxHeartbeats 0
namespace Go.Proofs.YtfkfmjlppllfoaaGreatDoor.mv
open Go.X Go.RowKit Go.Proofs.YtfkfmjlppllfoaaGreatDoor.mu
abbrev ivD (u : Int) (res : Int) (r : Int) (wd : Int) (c0 : Int) (c1 : Int) (s : Nat) (d : Nat) : Nat → IntKind × Int
  | 0 => (.i64, u)
  | 1 => (.i64, res)
  | 2 => (.i64, r)
  | 3 => (.i64, wd)
  | 4 => (.i64, c0)
  | 5 => (.i64, c1)
  | 6 => (.i64, ((0 : Nat) : Int))
  | 7 => (.i64, ((0 + 2 : Nat) : Int))
  | 8 => (.i64, ((0 + 1 : Nat) : Int))
  | 9 => (.i64, r + 1)
  | 10 => (.i64, c1 + 1)
  | 11 => (.i64, wd - 7)
  | _ => (.i64, 0)
abbrev vvD (s d : Nat) : Nat → Nat → Option AV
  | 0 => pv (0) 0 [(oN 0), (oN 1)]
  | 1 => pv (0) 1 [bF, bF]
  | 2 => pv (0) 2 [z0, z1, (iN 9), (oN 6), z1, z2, z1]
  | 3 => pv (0) 3 [(pN 20005)]
  | 4 => pv (0) 2 [z0, z1, (iN 12), (oN 6), z1, z2, z1]
  | 5 => pv (0) 2 [z0, z1, (iN 12), (oN 6), z1, z2, z0]
  | _ => fun _ => none
abbrev vkD (s d : Nat) : Nat → Nat
  | 0 => pk (0) [(oN 0), (oN 1)]
  | 1 => pk (0) [bF, bF]
  | 2 => pk (0) [z0, z1, (iN 9), (oN 6), z1, z2, z1]
  | 3 => pk (0) [(pN 20005)]
  | 4 => pk (0) [z0, z1, (iN 12), (oN 6), z1, z2, z1]
  | 5 => pk (0) [z0, z1, (iN 12), (oN 6), z1, z2, z0]
  | _ => 0
theorem vpD (s d : Nat) : ∀ i m a, vvD s d i m = some a → vplain a = true
  | 0, _, _, h => pv_plainB rfl h
  | 1, _, _, h => pv_plainB rfl h
  | 2, _, _, h => pv_plainB rfl h
  | 3, _, _, h => pv_plainB rfl h
  | 4, _, _, h => pv_plainB rfl h
  | 5, _, _, h => pv_plainB rfl h
  | _ + 6, _, _, h => (by cases h)
abbrev PD (u : Int) (res : Int) (r : Int) (wd : Int) (c0 : Int) (c1 : Int) (s : Nat) (d : Nat) (rv : Nat → Value) : Tab := ((bare (ivD u res r wd c0 c1 s d) (vvD s d) (vkD s d) (vpD s d)).rtab rv)
noncomputable abbrev bsD : BS := [(10429, 10429, kb4), (13769, 13769, (.cells 4 false [] (T.ofList 0 .leaf [(.ov 20001 7 1), (.ov 20002 7 1), (.ov 20003 8 7), (oN 3)]))), (13770, 13770, kb6), (13772, 13772, (.map [(tx32, (oN 4), 0), (tx38, (oN 5), 1)] 2)), (13773, 13773, (.cells 32 false [] (T.ofList 0 .leaf [(pN 7170), (pN 10428), (pN 10423), (pN 10425), (pN 10429), (pN 13769), (.ov 20004 8 1), (.map 13770), (.map 13771), .nils, z1, (iN 3), (iN 6), z0, .nilp, bT, (iN 5000), (oN 2), z0, z1, z0, z0, (uN 0), z0, tx6, tx6, bF, z0, .nils, z0, z0, (.map 13772)]))), (14062, 14062, kb9), (14870, 14870, kb13), (15194, 15194, kb14), (15200, 15200, kb15), (16578, 16578, kb17), (16583, 16583, kb18), (20000, 20000, kb16), (20001, 20001, (.vec 0)), (20002, 20002, (.vec 1)), (20003, 20003, (.vec 2)), (20004, 20004, (.vec 3)), (20005, 20005, kb28)]
def SD (u : Int) (res : Int) (r : Int) (wd : Int) (c0 : Int) (c1 : Int) (s : Nat) (d : Nat) (rv : Nat → Value) (B : Kp) (w0 : World) (μ : M) (a : Act) (w : World) : Prop := St (PD u res r wd c0 c1 s d rv) B w0 μ Tryz.f47.ntmps (frOf fsR) (hOf 20010 bsD) a w
section
variable {B : Kp} {w0 w w1 : World} {μ μ0 : M} {a : Act}
noncomputable abbrev rl_D : List (Nat × Nat) := [(20000, 20000), (20001, 20001), (20002, 20002), (20003, 20003), (20004, 20004), (20005, 20005)]
noncomputable abbrev ip_D : IP := [(.oi 0, 7), (.oi 1, 8), (.oi 2, 3), (.oi 3, 4), (.oi 4, 5), (.oi 5, 2), (.oi 6, 0), (.oi 7, 1), (.oi 8, 6)]
theorem toD {u res r wd c0 c1 : Int} {rv : Nat → Value} (hb : Base B μ0 20000) (s_ : SR112 u res r wd c0 c1 0 0 rv B w0 μ0 a w) : mv.SD u res r wd c0 c1 0 0 rv B w0 μ0 a w := by
  have hip : IpOk (PR112 u res r wd c0 c1 0 0 rv) (mv.PD u res r wd c0 c1 0 0 rv) mv.ip_D := (ipCons (ipN (.i64, ((0 + 2 : Nat) : Int)) rfl rfl) (ipCons (ipN (.i64, ((0 + 1 : Nat) : Int)) rfl rfl) (ipCons (ipN (.i64, wd) rfl rfl) (ipCons (ipN (.i64, c0) rfl rfl) (ipCons (ipN (.i64, c1) rfl rfl) (ipCons (ipN (.i64, r) rfl rfl) (ipCons (ipN (.i64, u) rfl rfl) (ipCons (ipN (.i64, res) rfl rfl) (ipCons (ipN (.i64, ((0 : Nat) : Int)) rfl rfl) ipNil)))))))))
  have hvp : VpOk (PR112 u res r wd c0 c1 0 0 rv) (mv.PD u res r wd c0 c1 0 0 rv) ⟨20000, 20010, ofPairs mv.rl_D, mv.ip_D⟩ [(20001, .vec 0, 0), (20002, .vec 1, 1), (20003, .vec 2, 2), (20004, .vec 3, 3)] := (vpCons (vpPre (b := 0) (c := 0) (L := [(oN 6), (oN 7)]) (L' := [(oN 0), (oN 1)]) (i := 0) (i' := 0) hip rfl rfl rfl (Nat.add_le_add_left (by decide) _) (by kernel_rfl))
    (vpCons (vpPre (b := 0) (c := 1) (L := [bF, bF]) (L' := [bF, bF]) (i := 1) (i' := 1) hip rfl rfl rfl (Nat.add_le_add_left (by decide) _) (by kernel_rfl))
    (vpCons (vpPre (b := 0) (c := 2) (L := [z0, z1, (iN 9), (oN 8), z1, z2, z1]) (L' := [z0, z1, (iN 9), (oN 6), z1, z2, z1]) (i := 2) (i' := 2) hip rfl rfl rfl (Nat.add_le_add_left (by decide) _) (by kernel_rfl))
    (vpCons (vpPre (b := 0) (c := 3) (L := [(pN 20005)]) (L' := [(pN 20005)]) (i := 3) (i' := 3) hip rfl rfl rfl (Nat.add_le_add_left (by decide) _) (by kernel_rfl))
    vpNil))))
  exact St.weak (T := (PR112 u res r wd c0 c1 0 0 rv)) (T' := (mv.PD u res r wd c0 c1 0 0 rv)) (C := ⟨20000, 20010, ofPairs mv.rl_D, mv.ip_D⟩) hb (by decide) (rl := mv.rl_D) rfl (by kernel_rfl) hip hvp (glNone rfl rfl) (fs := fsR) (bs := mv.bsD) (by kernel_rfl) (by kernel_rfl) s_
theorem runS {rv : Nat → Value} {Q : Exit → Act → World → Prop} {j : Nat} {x c0 c1 : Int} {a : Act} {w : World} (n : Nat) (hn : n ≤ 198) (hb : Base B μ 20000) (hM : ∃ l, μ 14062 = some l) (hv : x = n + 1) (g0 : 0 ≤ c0) (g1 : c0 ≤ 90000) (g2 : 0 ≤ c1) (g3 : c1 ≤ 90000)
    (s_ : SE1 x 0 7 c0 c1 0 0 rv B w0 μ a w)
    (kD : ∀ (u res' r' wd' c0' c1' : Int) (a' : Act) (w' : World), res' = rE n true → r' = 10 + 7 * (n : Int) → wd' = 7 → 0 ≤ c0' → c0' ≤ 95000 → 0 ≤ c1' → c1' ≤ 95000 → mv.SD u res' r' wd' c0' c1' 0 0 rv B w0 μ a' w' → Code.rounds Tryz.prog la Q j a' w') :
    Code.rounds Tryz.prog la Q (j + 1 + (3 + 7 * n) + 6) a w := by
  refine goB1 (by omega) (by omega) (by omega) (by omega) (by omega) (by omega) (by omega) (by omega) (by omega) (by omega) (by omega) (by omega) hb s_ (fun a1 w1 q1 => ?_)
  obtain ⟨rv1, E1, hid1, s1⟩ := hide1 hb q1
  have hb1 : Base (B.also E1) μ 20000 := ⟨hb.names, hb.res⟩
  have hr := rE_bd n true
  have g4 := kE_bd n true
  have g5 := kE_bd n false
  refine (calls_ok n (by omega)).1 hb1 hM (by omega) (by omega) (by omega) (by omega) (by omega) (by omega) (by omega) (by omega) (by omega) (by omega) (by omega) s1 ?_ ?_
  · intro u res' r' wd' c0' c1' a2 w2 f1 f2 f3 f4 f5 q2
    refine goC15 (by omega) (by omega) (by omega) (by omega) (by omega) (by omega) (by omega) (by omega) (by omega) (by omega) (by omega) (by omega) hb (unhide15 hM hb hid1 q2) (fun a4 w4 q4 => kD _ _ _ _ _ _ a4 w4 f1 (by omega) (by omega) (by omega) (by omega) (by omega) (by omega) (mv.toD hb q4))
  · intro u res' r' wd' c0' c1' a2 w2 f1 f2 f3 f4 f5 q2
    refine goC112 (by omega) (by omega) (by omega) (by omega) (by omega) (by omega) (by omega) (by omega) (by omega) (by omega) (by omega) (by omega) hb (unhide112 hM hb hid1 q2) (fun a4 w4 q4 => kD _ _ _ _ _ _ a4 w4 f1 (by omega) (by omega) (by omega) (by omega) (by omega) (by omega) (mv.toD hb q4))
end
end Go.Proofs.YtfkfmjlppllfoaaGreatDoor.mv
