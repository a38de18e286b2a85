/-
  The law CollectChain: what is reached is marked: states, rows.
-/
import Derived.Test.YtbabfeloandpdaaGreatDoorCCC
set_option linter.unusedVariables false
set_option linter.unusedSimpArgs false
set_option linter.unusedSectionVars false
set_option maxRecDepth 1000000
set_option maxHeartbeats 0
namespace Go.Proofs.YtbabfeloandpdaaGreatDoor.cc
open Go.X Go.RowKit Go.Proofs
noncomputable def rC : Code := codeOf Tryz.f10
theorem rC_eq : Tryz.f10.body = some rC := by kernel_rfl
noncomputable abbrev ntR : Nat := Tryz.f10.ntmps
noncomputable def r4 : Code := hd (restn 4 rC)
noncomputable def r5 : Code := lpIn (hd (restn 5 rC))
theorem r4_eq : restn 4 rC = .seq r4 (restn 5 rC) := by kernel_rfl
theorem r5_eq : restn 5 rC = .seq (.block 2 (.loop r5)) (restn 6 rC) := by kernel_rfl
noncomputable abbrev fnM : AV := .fn (.func 28) [] [.ptr 30002 0, .ptr 30001 0, .ptr 30004 0]
/-- behind the beginning -/
noncomputable abbrev fsD : List (Nat × AV) := [(1, .sl 20010 0 1 1), (2, .ptr 30001 0), (6, .ptr 30002 0), (7, .ptr 30004 0), (8, fnM)]
noncomputable abbrev fsE : List (Nat × AV) := [(2, .ptr 30001 0), (6, .ptr 30002 0), (7, .ptr 30004 0), (8, fnM)]
noncomputable def root : Blk := .cells 1 false [] (T.ofList 0 .leaf [.oi 32])
noncomputable def cel (v : AV) : Blk := .cells 1 false [] (T.ofList 0 .leaf [v])
/-- the heap alone -/
noncomputable abbrev bsH (a b d e w : Nat) : BS := [(20001, a, .vec w), (20002, b, .vec 11), (20004, d, shp 20005), (20005, e, knd), (3255, 3255, hp 20001 2 20002 0 20004), (3254, 3254, mp)]
noncomputable def preR : BL := (20010, root) :: bsOf (bsH 20001 20002 20004 20005 10)
noncomputable def bsD (a b c d : Nat) : BS := (30001, a, cel (.ptr 3255 0)) :: (30002, b, cel (.map 30003)) :: (30003, c, .omap 4) :: (30004, d, cel .nils) :: (20010, 20010, root) :: bsH 20001 20002 20004 20005 10
/-- what is to be looked at: so many -/
noncomputable def bsE (a b c d e m j : Nat) : BS := (30001, a, cel (.ptr 3255 0)) :: (30002, b, cel (.map 30003)) :: (30003, c, .omap m) :: (30004, d, cel (.so 30005 0 j 1)) :: (30005, e, rowOf [.oi 32] true) :: bsH 20001 20002 20004 20005 10
section
variable {p : Pc} {k : Nat}
noncomputable abbrev rowsC : List BRow := [(1, .oi 32, .int .i64 1, .oi 31), (11, .oi 31, .oi 2, .bool true), (14, .oi 31, .int .i64 0, .bool true), (0, .oi 31, .int .i64 2, .oi 33), (0, .oi 33, .int .i64 0, .oi 33), (11, .oi 33, .oi 2, .bool true), (14, .oi 33, .int .i64 0, .bool true)]
theorem rowsC_ok (h : Ok p) (hc : p.c < p.n) {l : List BRow} (t : ∀ r ∈ l, IbOk (ivP p k) r) : ∀ r ∈ rowsC ++ l, IbOk (ivP p k) r := by
  have h2 := h.n6
  exact rSub (rLt (rGe (rAdd (rAdd (rLt (rGe t))))))
noncomputable abbrev hC : Hand := bs.bsHand 11 0 31 30
theorem hC_ok (h : Ok p) (hc : p.c < p.n) (R : RwP p k) (M : Mw p k) : @HandOk (Tb R M) Tryz.prog hC :=
  bs.bsHand_ok (T := Tb R M) (i := 11) (j := 0) (t := 31) (r := 30) (F := fun m => ((3 * m : Nat) : Int)) (n := p.n) (p := p.c) rfl rfl rfl (hs11 (T := Tb R M) (n := p.n) rfl) hc (by have := h.n6; omega) (fun m k h1 h2 => by omega)
/-- the number at hand is an object's address -/
structure Vok (p : Pc) (d : Nat) : Prop where
  v : p.v = ((3 * d + 1 : Nat) : Int)
  d : d < p.n
noncomputable abbrev hD : Hand := bs.bsHand 11 0 36 39
theorem hD_ok {d : Nat} (h : Ok p) (hv : Vok p d) (R : RwP p k) (M : Mw p k) : @HandOk (Tb R M) Tryz.prog hD :=
  bs.bsHand_ok (T := Tb R M) (i := 11) (j := 0) (t := 36) (r := 39) (F := fun m => ((3 * m : Nat) : Int)) (n := p.n) (p := d) rfl (by show ((IntKind.i64, p.v - 1) : IntKind × Int) = _; rw [hv.v]; congr 1; omega) (by show ((IntKind.i64, p.v / 3) : IntKind × Int) = _; rw [hv.v]; congr 1; omega) (hs11 (T := Tb R M) (n := p.n) rfl) hv.d (by have := h.n6; omega) (fun m k h1 h2 => by omega)
noncomputable abbrev hZ : Hand := bn.bnHand 11 0 (-1)
theorem hZ_ok (h : Ok p) (R : RwP p k) (M : Mw p k) : @HandOk (Tb R M) Tryz.prog hZ :=
  bn.bnHand_ok (T := Tb R M) (i := 11) (j := 0) (t := -1) (F := fun m => ((3 * m : Nat) : Int)) (n := p.n) rfl (hs11 (T := Tb R M) (n := p.n) rfl) (by have := h.n1; omega) (by have := h.n6; omega) (fun m _ => by omega)
theorem wz {m : Nat} (hw : Wok p) (h : m < p.n) : wI (p.W (3 * m)) = 0 := by rw [hw.z m h]; rfl
theorem w64 {v : Int} (h1 : 0 ≤ v) (h2 : v < 9223372036854775808) : IntKind.i64.wrap v = v := wrap64 (by omega) (by omega)
noncomputable abbrev rowsV : List BRow := [(1, .oi 35, .int .i64 1, .oi 36), (11, .oi 36, .oi 2, .bool true), (14, .oi 36, .int .i64 0, .bool true)]
theorem rowsV_ok {d : Nat} (h : Ok p) (hv : Vok p d) {l : List BRow} (t : ∀ r ∈ l, IbOk (ivP p k) r) : ∀ r ∈ rowsV ++ l, IbOk (ivP p k) r := by
  have h1 := hv.v; have h2 := hv.d; have h3 := h.n6
  exact rSub (rLt (rGe t))
theorem icV {d : Nat} (h : Ok p) (hv : Vok p d) : ∀ r ∈ ([(.i64, .oi 34, .oi 35)] : List (IntKind × AV × AV)), IcOk' (ivP p k) r := by
  have h1 := hv.v; have h2 := hv.d; have h3 := h.n6
  exact rConv (K := .i64) (K' := .u64) (n := p.v) (c := p.v) icNil (hx := rfl) (hy := rfl) (h := w64 (by omega) (by omega))
theorem vlC_ (h : Ok p) (hw : Wok p) (hc : p.c < p.n) {l : List VL} (t : ∀ r ∈ l, VlOk (ivP p k) (vvP p k) r) : ∀ r ∈ (⟨10, 31, 1, 0, [.int .u64 0]⟩ : VL) :: l, VlOk (ivP p k) (vvP p k) r :=
  Go.X.lC (i := 10) (j := 31) (q := 3 * p.c) (n := 3 * p.n) (K := .u64) (c := 0) (e := fun m => wI (p.W m)) t (hk := rfl) (hv := rfl) (hy := wz hw hc)
theorem vlD_ {d : Nat} (h : Ok p) (hw : Wok p) (hv : Vok p d) {l : List VL} (t : ∀ r ∈ l, VlOk (ivP p k) (vvP p k) r) : ∀ r ∈ (⟨10, 36, 1, 0, [.int .u64 0]⟩ : VL) :: l, VlOk (ivP p k) (vvP p k) r := by
  have h2 := hv.d
  exact Go.X.lC (i := 10) (j := 36) (q := 3 * d) (n := 3 * p.n) (K := .u64) (c := 0) (e := fun m => wI (p.W m)) t (hk := by show ((IntKind.i64, p.v - 1) : IntKind × Int) = _; rw [hv.v]; congr 1; omega) (hv := rfl) (hy := wz hw hv.d)
theorem vlE_ (h : Ok p) (hc : p.c < p.n) {l : List VL} (t : ∀ r ∈ l, VlOk (ivP p k) (vvP p k) r) : ∀ r ∈ (⟨10, 33, 1, 0, [.oi 34]⟩ : VL) :: l, VlOk (ivP p k) (vvP p k) r :=
  lN (i := 10) (j := 33) (y := 34) (q := 3 * p.c + 2) (n := 3 * p.n) (K := .u64) (e := fun m => wI (p.W m)) t (hk := rfl) (hv := rfl) (hy := rfl)
theorem vlZ_ (h : Ok p) (hc : p.c < p.n) (hz : p.v = 0) {l : List VL} (t : ∀ r ∈ l, VlOk (ivP p k) (vvP p k) r) : ∀ r ∈ (⟨10, 33, 1, 0, [.int .u64 0]⟩ : VL) :: l, VlOk (ivP p k) (vvP p k) r :=
  Go.X.lC (i := 10) (j := 33) (q := 3 * p.c + 2) (n := 3 * p.n) (K := .u64) (c := 0) (e := fun m => wI (p.W m)) t (hk := rfl) (hv := rfl) (hy := hz)
/-- the next one is not marked yet -/
noncomputable abbrev RN (p : Pc) (k d : Nat) (h : Ok p) (hw : Wok p) (hc : p.c < p.n) (hv : Vok p d) : RwP p k where
  vvp := vvPp p k
  ib := rowsC ++ (rowsV ++ [])
  ibok := rowsC_ok h hc (rowsV_ok h hv ibNil)
  ic := [(.i64, .oi 34, .oi 35)]
  icok := icV h hv
  vl := [⟨10, 31, 1, 0, [.int .u64 0]⟩, ⟨10, 36, 1, 0, [.int .u64 0]⟩, ⟨10, 33, 1, 0, [.oi 34]⟩]
  vlok := vlC_ h hw hc (vlD_ h hw hv (vlE_ h hc allNil))
noncomputable abbrev MN (p : Pc) (k : Nat) (h1 : mapL p.v p.ma.1 = none) (h2 : p.ma' = mapU p.ma p.v 1) : Mw p k where
  ml := [(0, .oi 35, .int .i64 0, false)]
  mlok := allCons ⟨p.v, rfl, (fun e => by cases e), fun _ => h1⟩ (fun r h => nomatch h)
  mu := [(0, .oi 35, .int .i64 1, 1)]
  muok := allCons ⟨p.v, 1, rfl, rfl, h2⟩ (fun r h => nomatch h)
/-- there is no next one -/
noncomputable abbrev RZ (p : Pc) (k : Nat) (h : Ok p) (hw : Wok p) (hc : p.c < p.n) (hz : p.v = 0) : RwP p k where
  vvp := vvPp p k
  ib := rowsC ++ []
  ibok := rowsC_ok h hc ibNil
  vl := [⟨10, 31, 1, 0, [.int .u64 0]⟩, ⟨10, 33, 1, 0, [.int .u64 0]⟩]
  vlok := vlC_ h hw hc (vlZ_ h hc hz allNil)
noncomputable abbrev MZ (p : Pc) (k : Nat) (h1 : mapL 0 p.ma.1 = none) : Mw p k where
  ml := [(0, .int .i64 0, .int .i64 0, false)]
  mlok := allCons ⟨0, rfl, (fun e => by cases e), fun _ => h1⟩ (fun r h => nomatch h)
/-- it is marked -/
noncomputable abbrev MY (p : Pc) (k : Nat) (h1 : mapL p.v p.ma.1 = some 1) : Mw p k where
  ml := [(0, .oi 35, .int .i64 1, true)]
  mlok := allCons ⟨p.v, rfl, (fun e => ⟨1, rfl, h1⟩), fun e => by cases e⟩ (fun r h => nomatch h)
end
end Go.Proofs.YtbabfeloandpdaaGreatDoor.cc
