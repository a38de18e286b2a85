/-
  States of the machine within the law TopSort.
-/
import Derived.Test.YtaabcpibfignfaaGreatDoorSONN
import Derived.Test.YtaabcpibfignfaaGreatDoorXN3
import Derived.Test.YtaabcpibfignfaaGreatDoorProg
import Derived.KernelRfl
set_option linter.unusedSectionVars false
set_option linter.unusedVariables false
set_option maxRecDepth 1000000
set_option maxHeartbeats 0
namespace Go.Proofs.YtaabcpibfignfaaGreatDoor.so
open Go.X Go.RowKit Go.Proofs.YtaabcpibfignfaaGreatDoor
theorem hOf_congr {N : Nat} {a b : BS} (h : bsOf a = bsOf b) : hOf N a = hOf N b := by unfold hOf; rw [h]
theorem mixed : Tryz.prog.follows .mixedOrders = true := by kernel_rfl
theorem vw_none {L : List AV} {k : Nat} {x : AV} {p : Prop} (h : L.length ≤ k) (e : L[k]? = some x) : p := by rw [List.getElem?_eq_none h] at e; cases e
theorem wI_ofNat {n : Nat} (h : n < 18446744073709551616) : wI (BitVec.ofNat 64 n) = (n : Int) := by
  show ((BitVec.ofNat 64 n).toNat : Int) = n
  rw [BitVec.toNat_ofNat, Nat.mod_eq_of_lt h]
theorem wI_ofInt (x : Int) : wI (BitVec.ofInt 64 x) = IntKind.u64.wrap x := by
  show ((BitVec.ofInt 64 x).toNat : Int) = _
  rw [BitVec.toNat_ofInt]
  unfold IntKind.wrap IntKind.bits IntKind.signed
  simp only [Bool.false_and, Bool.false_eq_true, if_false]
  omega
/-- the number that the machine reads at a place -/
def rd (W : Nat → BitVec 64) (k : Nat) : Int := IntKind.i32.wrap (wI (W (k / 2) >>> (k % 2 * 32)))
/-- a number cut to 32 bits -/
def wr (x : Int) : Int := IntKind.i32.wrap x
theorem wrap32_eq (n : Int) : IntKind.i32.wrap n = if 2147483648 ≤ n % 4294967296 then n % 4294967296 - 4294967296 else n % 4294967296 := by
  unfold IntKind.wrap IntKind.bits IntKind.signed
  simp only [Bool.true_and, decide_eq_true_eq]
  rfl
theorem wrap64_mod (n : Int) : IntKind.i64.wrap n % 4294967296 = n % 4294967296 := by
  have h := wrap_mod .i64 n
  have e1 : (2 : Int) ^ IntKind.i64.bits = 18446744073709551616 := by decide
  rw [e1] at h
  omega
theorem rd_conv (n : Int) : IntKind.i32.wrap (IntKind.i64.wrap n) = IntKind.i32.wrap n := by rw [wrap32_eq, wrap32_eq, wrap64_mod]
noncomputable def fullR : Code := (Tryz.f34.body).getD .skip
noncomputable def la : Code := lpOf (restn 2 fullR)
noncomputable def tl : Code := tlOf (restn 2 fullR)
noncomputable abbrev fsR : List (Nat × AV) := [(0, .ptr 13937 0), (10, .ptr 20000 0)]
noncomputable abbrev kb0 : Blk := (.map [(tx2, (pN 7530), 0), (tx29, (pN 7678), 1), (tx30, (pN 7787), 2), (tx18, (pN 7898), 3), (tx31, (pN 8012), 4), (tx32, (pN 8125), 5), (tx26, (pN 8222), 6), (tx39, (pN 8316), 7), (tx16, (pN 8407), 8), (tx41, (pN 8497), 9), (tx21, (pN 8603), 10), (tx33, (pN 8706), 11), (tx19, (pN 8821), 12), (tx4, (pN 8919), 13), (tx14, (pN 9012), 14), (tx34, (pN 9117), 15), (tx10, (pN 9216), 16), (tx22, (pN 9328), 17), (tx27, (pN 9424), 18), (tx40, (pN 9525), 19), (tx38, (pN 9627), 20), (tx28, (pN 9737), 21), (tx5, (pN 9748), 22), (tx13, (pN 9859), 23), (tx7, (pN 9951), 24), (tx11, (pN 10058), 25), (tx6, (pN 10079), 26), (tx3, (pN 10136), 27), (tx17, (pN 10276), 28), (tx51, (pN 10288), 29), (tx12, (pN 10376), 30), (tx20, (pN 10476), 31), (tx45, (pN 10576), 32)] 33)
noncomputable abbrev kb1 : Blk := (.cells 3 false [] (T.ofList 0 .leaf [(.map 7332), (.map 7333), (.so 17210 0 1 1)]))
noncomputable abbrev kb2 : Blk := (.map [(tx2, z0, 0), (tx11, z1, 1), (tx13, z2, 2)] 3)
noncomputable abbrev kb3 : Blk := (.cells 7 false [] (T.ofList 0 .leaf [(pN 10587), (pN 10589), (pN 7334), (.so 11307 0 39 3), .nils, bF, bF]))
noncomputable abbrev kb4 : Blk := (.cells 4 false [] (T.ofList 0 .leaf [(.so 20001 0 5 1), (.so 20002 0 5 1), (.so 20006 0 1 7), (iN 17)]))
noncomputable abbrev kb5 : Blk := (.map [(tx67, (pN 20010), 0), (tx5, (pN 20011), 1)] 2)
noncomputable abbrev kb6 : Blk := (.cells 9 true [] (T.ofList 0 .leaf [tx2, .nils, (uN 0), tx11, (.so 14056 0 1 1), (uN 0), tx13, (.so 14152 0 1 1), (uN 0)]))
noncomputable abbrev kb7 : Blk := (.cells 3 true [] (T.ofList 0 .leaf [z0, z2, (iN 5)]))
noncomputable abbrev kb8 : Blk := (.cells 8 false [] (T.ofList 0 .leaf [(iN 52), (.sl 14237 0 11 11), (iN 33), tx67, tx5, .nils, .nils, (.so 17208 0 1 9)]))
noncomputable abbrev kb9 : Blk := (.cells 55 false [z0, tx0, z0, z0, z0] (ofPairs [(5, z1), (6, tx8), (7, z0), (8, z0), (9, z0), (10, (iN 7)), (11, tx0), (12, z0), (13, z1), (14, z0), (15, z1), (16, tx82), (17, z0), (18, z0), (19, z0), (20, z1), (21, tx64), (22, z0), (23, z0), (24, z0), (25, z1), (26, tx77), (27, z0), (28, z0), (29, z0), (30, z1), (31, (.str 4 1701080899)), (32, z0), (33, z0), (34, z0), (35, z1), (36, tx67), (37, z0), (38, z0), (39, z0), (40, (iN 7)), (41, tx0), (42, z0), (43, (iN 7)), (44, z0), (45, z1), (46, tx5), (47, z0), (48, z0), (49, z0), (50, (iN 7)), (51, tx0), (52, z0), (53, (iN 9)), (54, z0)]))
noncomputable abbrev kb10 : Blk := (.cells 123 true [] (T.ofList 0 .leaf [(uN 3), (uN 61), (uN 3), (uN 62), (uN 26), (uN 188), (uN 10), (uN 58), (uN 4), (uN 28), (uN 26), (uN 162), (uN 0), (uN 27), (uN 27), (uN 17), (uN 0), (uN 61), (uN 104), (uN 16), (uN 17), (uN 96), (uN 17), (uN 3), (uN 241), (uN 112), (uN 60), (uN 25), (uN 4), (uN 28), (uN 27), (uN 79), (uN 132), (uN 2), (uN 1), (uN 167), (uN 255), (uN 230), (uN 132), (uN 2), (uN 255), (uN 28), (uN 158), (uN 0), (uN 54), (uN 3), (uN 62), (uN 29), (uN 28), (uN 162), (uN 0), (uN 44), (uN 25), (uN 4), (uN 29), (uN 46), (uN 25), (uN 4), (uN 29), (uN 4), (uN 96), (uN 46), (uN 164), (uN 0), (uN 25), (uN 25), (uN 4), (uN 29), (uN 46), (uN 25), (uN 4), (uN 29), (uN 25), (uN 4), (uN 29), (uN 4), (uN 96), (uN 46), (uN 79), (uN 60), (uN 25), (uN 4), (uN 29), (uN 4), (uN 96), (uN 27), (uN 79), (uN 132), (uN 3), (uN 1), (uN 167), (uN 255), (uN 213), (uN 167), (uN 255), (uN 201), (uN 3), (uN 60), (uN 3), (uN 61), (uN 28), (uN 26), (uN 162), (uN 0), (uN 19), (uN 27), (uN 16), (uN 7), (uN 104), (uN 25), (uN 4), (uN 28), (uN 46), (uN 96), (uN 60), (uN 132), (uN 2), (uN 1), (uN 167), (uN 255), (uN 238), (uN 27), (uN 172)]))
noncomputable abbrev kb11 : Blk := (.cells 32 true [] (T.ofList 0 .leaf [(iN 255), (iN 9), (.so 16990 0 5 3), .nils, (iN 255), (iN 28), (.so 17020 0 5 3), .nils, (iN 255), (iN 8), (.so 17050 0 5 3), .nils, (iN 255), (iN 39), (.so 17080 0 5 3), .nils, (iN 255), (iN 5), (.so 17110 0 5 3), .nils, (iN 255), z2, (.so 17140 0 5 3), .nils, (iN 255), (iN 3), (.so 17170 0 5 3), .nils, (iN 255), (iN 20), (.so 17200 0 5 3), .nils]))
noncomputable abbrev kb12 : Blk := (.cells 9 true [] (T.ofList 0 .leaf [(iN 9), tx82, tx64, bT, (iN 8), (iN 5), (.so 14558 0 123 1), .nils, (.so 17203 0 8 4)]))
noncomputable abbrev kb13 : Blk := (.cells 11 false [] (T.ofList 0 .leaf [z0, z0, (uN 0), z0, tx0, tx0, bF, z0, .nils, z0, z0]))
noncomputable abbrev kb14 : Blk := (.cells 2 false [] (T.ofList 0 .leaf [z2, (.sl 20012 0 0 0)]))
noncomputable abbrev kb15 : Blk := (.cells 2 false [] (T.ofList 0 .leaf [z2, .nils]))
noncomputable abbrev kb16 : Blk := (.cells 5 false [] (T.ofList 0 .leaf [(pN 7334), (.ov 20003 7 1), (.so 20004 0 4 1), (.so 20005 0 4 3), (.map 10586)]))
noncomputable abbrev kb17 : Blk := (.cells 32 false [] (T.ofList 0 .leaf [(pN 7334), (pN 10592), (pN 10587), (pN 10589), (pN 10593), (pN 13933), (.so 20007 0 1 1), (.map 13934), (.map 13935), .nils, z1, (iN 3), (iN 6), z0, .nilp, bT, (iN 100000), (oN 3), z0, z1, z0, z0, (uN 0), z0, tx0, tx0, bF, z0, .nils, z0, z0, (.map 13936)]))
noncomputable abbrev kb18 : Blk := (.cells 7 true [] (ofPairs [(0, z0), (1, z0), (3, z0), (4, (iN 5)), (5, (iN 8)), (6, z0)]))
noncomputable abbrev kb19 : Blk := (.cells 12 true [] (T.ofList 0 .leaf [tx2, .nils, (uN 0), tx11, (.so 14056 0 1 1), (uN 0), tx13, (.so 14152 0 1 1), (uN 0), tx8, .nils, (uN 73)]))
noncomputable abbrev kb20 : Blk := (.cells 4 true [] (T.ofList 0 .leaf [z0, z2, (iN 5), (oN 5)]))
noncomputable abbrev kb21 : Blk := (.cells 5 true [] (T.ofList 0 .leaf [(oN 0), (oN 1), (oN 2), z0, (oN 6)]))
noncomputable abbrev kb22 : Blk := (.cells 5 true [] (T.ofList 0 .leaf [bF, bF, bF, bF, bT]))
noncomputable abbrev kb23 : Blk := (.cells 5 false [] (T.ofList 0 .leaf [(pN 7334), (.ov 20003 8 1), (.so 20004 0 4 1), (.so 20005 0 4 3), (.map 10586)]))
noncomputable abbrev kb24 : Blk := (.cells 32 false [] (T.ofList 0 .leaf [(pN 7334), (pN 10592), (pN 10587), (pN 10589), (pN 10593), (pN 13933), (.so 20007 0 1 1), (.map 13934), (.map 13935), .nils, z1, (iN 3), (iN 6), z0, .nilp, bT, (iN 100000), (oN 4), z0, z1, z0, z0, (uN 0), z0, tx0, tx0, bF, z0, .nils, z0, z0, (.map 13936)]))
noncomputable abbrev kb25 : Blk := (.cells 4 true [] (T.ofList 0 .leaf [z0, z2, (iN 5), (oN 6)]))
noncomputable abbrev kb26 : Blk := (.cells 5 true [] (T.ofList 0 .leaf [(oN 0), (oN 1), (oN 2), (oN 3), (oN 7)]))
abbrev ivB (n : Nat) (s : Nat) : Nat → IntKind × Int
  | 0 => (.i64, ((n : Nat) : Int))
  | 1 => (.i64, ((s : Nat) : Int))
  | _ => (.i64, 0)
abbrev vvB (n : Nat) (s : Nat) : Nat → Nat → Option AV
  | _ => fun _ => none
abbrev vkB (n : Nat) (s : Nat) : Nat → Nat
  | _ => 0
theorem vpB (n : Nat) (s : Nat) : ∀ i_ m_ a_, vvB n s i_ m_ = some a_ → vplain a_ = true
  | _, _, _, h => (by cases h)
abbrev PB (n : Nat) (s : Nat) : Tab := ((bare (ivB n s) (vvB n s) (vkB n s) (vpB n s)).tab)
noncomputable abbrev bsB : BS := [(7332, 7332, (.map [(tx67, (pN 14235), 0)] 1)), (7333, 7333, kb0), (7334, 7334, kb1), (10586, 10586, kb2), (10587, 10587, (.cells 5 false [] (T.ofList 0 .leaf [(pN 7334), (.so 14155 0 8 1), (.so 14157 0 3 1), (.so 14154 0 3 3), (.map 10586)]))), (10593, 10593, kb3), (13933, 13933, kb4), (13934, 13934, kb5), (13936, 13936, (.map [] 0)), (13937, 13937, (.cells 32 false [] (T.ofList 0 .leaf [(pN 7334), (pN 10592), (pN 10587), (pN 10589), (pN 10593), (pN 13933), (.so 20007 0 1 1), (.map 13934), (.map 13935), .nils, z1, (iN 3), (iN 6), z0, .nilp, bT, (iN 100000), z0, z0, z0, z0, z0, (uN 0), z0, tx0, tx0, bF, z0, .nils, z0, z0, (.map 13936)]))), (14154, 14154, kb6), (14155, 14155, (.cells 8 true [] (T.ofList 0 .leaf [(.int .u64 0), (.int .u64 0), (.int .u64 1), (.int .u64 0), (.int .u64 0), (.int .u64 2), (.int .u64 0), (.int .u64 0)]))), (14157, 14157, kb7), (14235, 14235, kb8), (14237, 14237, kb9), (14558, 14558, kb10), (17203, 17203, kb11), (17208, 17208, kb12), (20000, 20000, kb13), (20001, 20001, (.cells 5 true [] (T.ofList 0 .leaf [(oN 0), (oN 1), z0, z0, z0]))), (20002, 20002, (.cells 5 true [] (T.ofList 0 .leaf [bF, bF, bF, bF, bF]))), (20006, 20006, (.cells 7 true [] (T.ofList 0 .leaf [z0, z0, z0, z0, (iN 5), (iN 8), z0]))), (20007, 20007, (.cells 1 true [] (T.ofList 0 .leaf [(pN 20008)]))), (20008, 20008, (.cells 6 false [] (T.ofList 0 .leaf [z0, z0, (pN 14235), z0, z0, .nilp]))), (20010, 20010, kb14), (20011, 20011, kb15)]
def SB (n : Nat) (s : Nat) (B : Kp) (w0 : World) (μ : M) (a : Act) (w : World) : Prop := St (PB n s) B w0 μ Tryz.f34.ntmps (frOf fsR) (hOf 20040 bsB) a w
abbrev ivN (n : Nat) (s : Nat) : Nat → IntKind × Int
  | 0 => (.i64, ((n : Nat) : Int))
  | 1 => (.i64, ((s : Nat) : Int))
  | 2 => (.i64, ((8 : Nat) : Int))
  | 3 => (.i64, ((n * 4 : Nat) : Int))
  | 4 => (.i64, ((n * 4 + 8 : Nat) : Int))
  | 5 => (.i64, ((n * 4 + 7 : Nat) : Int))
  | 6 => (.i64, (((n * 4 + 7) / 8 : Nat) : Int))
  | 7 => (.i64, ((3 + (n * 4 + 7) / 8 : Nat) : Int))
  | 8 => (.i64, ((2040 : Nat) : Int))
  | 9 => (.i64, ((11 + (n * 4 + 7) / 8 : Nat) : Int))
  | 10 => (.i64, ((9 : Nat) : Int))
  | 11 => (.i64, ((10 : Nat) : Int))
  | 12 => (.u64, ((n : Nat) : Int))
  | _ => (.i64, 0)
abbrev vvN (n : Nat) (s : Nat) : Nat → Nat → Option AV
  | 0 => pvw [(.int .u64 0), (.int .u64 0), (.int .u64 1), (.int .u64 0), (.int .u64 0), (.int .u64 2), (.int .u64 0), (.int .u64 0)] (8) (fun _ => 0#64)
  | 1 => pvw [(.int .u64 0), (.int .u64 0), (.int .u64 1), (.int .u64 0), (.int .u64 0), (.int .u64 2), (.int .u64 0), (.int .u64 0)] (11 + (n * 4 + 7) / 8) (fun _ => 0#64)
  | 2 => pvw [(.int .u64 0), (.int .u64 0), (.int .u64 1), (.int .u64 0), (.int .u64 0), (.int .u64 2), (.int .u64 0), (.int .u64 0)] (11 + (n * 4 + 7) / 8) (fun q => if q = 0 then 3#64 else 0#64)
  | 3 => pvw [(.int .u64 0), (.int .u64 0), (.int .u64 1), (.int .u64 0), (.int .u64 0), (.int .u64 2), (.int .u64 0), (.int .u64 0)] (11 + (n * 4 + 7) / 8) (fun q => if q = 2 then BitVec.ofNat 64 n else if q = 0 then 3#64 else 0#64)
  | _ => fun _ => none
abbrev vkN (n : Nat) (s : Nat) : Nat → Nat
  | 0 => 8
  | 1 => 11 + (n * 4 + 7) / 8
  | 2 => 11 + (n * 4 + 7) / 8
  | 3 => 11 + (n * 4 + 7) / 8
  | _ => 0
theorem vpN (n : Nat) (s : Nat) : ∀ i_ m_ a_, vvN n s i_ m_ = some a_ → vplain a_ = true
  | 0, _, _, h => pvw_plain rfl h
  | 1, _, _, h => pvw_plain rfl h
  | 2, _, _, h => pvw_plain rfl h
  | 3, _, _, h => pvw_plain rfl h
  | _ + 4, _, _, h => (by cases h)
abbrev PN (n : Nat) (s : Nat) : Tab := ((bare (ivN n s) (vvN n s) (vkN n s) (vpN n s)).tab)
noncomputable abbrev bsN : BS := [(7332, 7332, (.map [(tx67, (pN 14235), 0)] 1)), (7333, 7333, kb0), (7334, 7334, kb1), (10586, 10586, kb2), (10587, 10587, (.cells 5 false [] (T.ofList 0 .leaf [(pN 7334), (.ov 20003 2 1), (.so 20004 0 3 1), (.so 20005 0 3 3), (.map 10586)]))), (10593, 10593, kb3), (13933, 13933, (.cells 4 false [] (T.ofList 0 .leaf [(.so 20001 0 6 1), (.so 20002 0 6 1), (.so 20006 0 1 7), (iN 17)]))), (13934, 13934, kb5), (13936, 13936, (.map [(tx24, (iN 5), 0)] 1)), (13937, 13937, (.cells 32 false [] (T.ofList 0 .leaf [(pN 7334), (pN 10592), (pN 10587), (pN 10589), (pN 10593), (pN 13933), (.so 20007 0 1 1), (.map 13934), (.map 13935), .nils, z1, (iN 3), (iN 6), z0, .nilp, bT, (iN 100000), (iN 5), z0, z1, z0, z0, (uN 0), z0, tx0, tx0, bF, z0, .nils, z0, z0, (.map 13936)]))), (14235, 14235, kb8), (14237, 14237, kb9), (14558, 14558, kb10), (17203, 17203, kb11), (17208, 17208, kb12), (20000, 20000, kb13), (20001, 20001, (.cells 6 true [] (T.ofList 0 .leaf [(oN 0), (oN 1), z0, z0, z0, (oN 0)]))), (20002, 20002, (.cells 6 true [] (T.ofList 0 .leaf [bF, bF, bF, bF, bF, bF]))), (20003, 20003, (.vec 0)), (20004, 20004, kb7), (20005, 20005, kb6), (20006, 20006, (.cells 7 true [] (ofPairs [(0, z0), (1, z0), (3, z0), (4, (iN 5)), (5, (iN 8)), (6, z1)]))), (20007, 20007, (.cells 1 true [] (T.ofList 0 .leaf [(pN 20008)]))), (20008, 20008, (.cells 6 false [] (T.ofList 0 .leaf [z0, z0, (pN 14235), z0, (iN 5), .nilp]))), (20010, 20010, kb14), (20011, 20011, kb15)]
def SN (n : Nat) (s : Nat) (B : Kp) (w0 : World) (μ : M) (a : Act) (w : World) : Prop := St (PN n s) B w0 μ Tryz.f34.ntmps (frOf fsR) (hOf 20040 bsN) a w
abbrev ivF (n : Nat) (s : Nat) (i : Nat) (r : Nat) (W : Nat → BitVec 64) : Nat → IntKind × Int
  | 0 => (.i64, ((n : Nat) : Int))
  | 1 => (.i64, ((s : Nat) : Int))
  | 2 => (.i64, ((i : Nat) : Int))
  | 3 => (.i64, ((r : Nat) : Int))
  | 4 => (.u64, ((n : Nat) : Int))
  | 5 => (.i64, ((8 : Nat) : Int))
  | 6 => (.i64, ((9 : Nat) : Int))
  | 7 => (.i64, ((11 + (n * 4 + 7) / 8 : Nat) : Int))
  | 8 => (.i64, ((r + 1 : Nat) : Int))
  | 9 => (.i64, ((r + 2 : Nat) : Int))
  | 10 => (.i64, ((r + 3 : Nat) : Int))
  | 11 => (.i64, ((r + 4 : Nat) : Int))
  | 12 => (.i64, ((r + 5 : Nat) : Int))
  | 13 => (.i64, ((r + 6 : Nat) : Int))
  | 14 => (.i32, ((s : Nat) : Int))
  | 15 => (.i64, ((s * 61 : Nat) : Int))
  | 16 => (.i32, ((s * 61 : Nat) : Int))
  | 17 => (.i64, ((r + 7 : Nat) : Int))
  | 18 => (.i64, ((r + 8 : Nat) : Int))
  | 19 => (.i64, ((s * 61 + 17 : Nat) : Int))
  | 20 => (.i32, ((s * 61 + 17 : Nat) : Int))
  | 21 => (.i64, ((r + 9 : Nat) : Int))
  | 22 => (.i64, ((r + 10 : Nat) : Int))
  | 23 => (.i64, (((s * 61 + 17) / 1009 : Nat) : Int))
  | 24 => (.i64, (((s * 61 + 17) % 1009 : Nat) : Int))
  | 25 => (.i32, (((s * 61 + 17) % 1009 : Nat) : Int))
  | 26 => (.i64, ((r + 11 : Nat) : Int))
  | _ => (.i64, 0)
abbrev vvF (n : Nat) (s : Nat) (i : Nat) (r : Nat) (W : Nat → BitVec 64) : Nat → Nat → Option AV
  | 0 => pvw [(.int .u64 0), (.int .u64 0), (.int .u64 1), (.int .u64 0), (.int .u64 0), (.int .u64 2), (.int .u64 0), (.int .u64 0), (.int .u64 3), (.int .u64 0), (oN 4)] (11 + (n * 4 + 7) / 8) (W)
  | _ => fun _ => none
abbrev vkF (n : Nat) (s : Nat) (i : Nat) (r : Nat) (W : Nat → BitVec 64) : Nat → Nat
  | 0 => 11 + (n * 4 + 7) / 8
  | _ => 0
theorem vpF (n : Nat) (s : Nat) (i : Nat) (r : Nat) (W : Nat → BitVec 64) : ∀ i_ m_ a_, vvF n s i r W i_ m_ = some a_ → vplain a_ = true
  | 0, _, _, h => pvw_plain rfl h
  | _ + 1, _, _, h => (by cases h)
abbrev PF (n : Nat) (s : Nat) (i : Nat) (r : Nat) (W : Nat → BitVec 64) : Tab := ((bare (ivF n s i r W) (vvF n s i r W) (vkF n s i r W) (vpF n s i r W)).tab)
noncomputable abbrev bsF : BS := [(10587, 10587, kb16), (10593, 10593, kb3), (13933, 13933, kb4), (13934, 13934, kb5), (13936, 13936, (.map [(tx24, (oN 3), 0)] 1)), (13937, 13937, kb17), (14235, 14235, kb8), (14558, 14558, kb10), (17203, 17203, kb11), (17208, 17208, kb12), (20000, 20000, kb13), (20001, 20001, kb21), (20002, 20002, kb22), (20003, 20003, (.vec 0)), (20004, 20004, kb20), (20005, 20005, kb19), (20006, 20006, kb18), (20007, 20007, (.cells 1 true [] (T.ofList 0 .leaf [(pN 20008)]))), (20008, 20008, (.cells 6 false [] (T.ofList 0 .leaf [z0, z0, (pN 14235), z0, (iN 9), .nilp]))), (20010, 20010, kb14), (20011, 20011, kb15)]
def SF (n : Nat) (s : Nat) (i : Nat) (r : Nat) (W : Nat → BitVec 64) (B : Kp) (w0 : World) (μ : M) (a : Act) (w : World) : Prop := St (PF n s i r W) B w0 μ Tryz.f34.ntmps (frOf fsR) (hOf 20040 bsF) a w
abbrev ivE (n : Nat) (s : Nat) (i : Nat) (r : Nat) (W : Nat → BitVec 64) : Nat → IntKind × Int
  | 0 => (.i64, ((n : Nat) : Int))
  | 1 => (.i64, ((s : Nat) : Int))
  | 2 => (.i64, ((i : Nat) : Int))
  | 3 => (.i64, ((r : Nat) : Int))
  | 4 => (.u64, ((n : Nat) : Int))
  | 5 => (.i64, ((8 : Nat) : Int))
  | 6 => (.i64, ((9 : Nat) : Int))
  | 7 => (.i64, ((11 + (n * 4 + 7) / 8 : Nat) : Int))
  | 8 => (.i64, ((r + 1 : Nat) : Int))
  | 9 => (.i64, ((r + 2 : Nat) : Int))
  | 10 => (.i64, ((r + 3 : Nat) : Int))
  | 11 => (.i64, ((r + 4 : Nat) : Int))
  | 12 => (.i64, ((10 : Nat) : Int))
  | 13 => (.i32, ((s : Nat) : Int))
  | 14 => (.i64, ((11 : Nat) : Int))
  | 15 => (.i64, ((i / 2 : Nat) : Int))
  | 16 => (.i64, ((11 + i / 2 : Nat) : Int))
  | 17 => (.i64, ((i % 2 : Nat) : Int))
  | 18 => (.i64, ((i % 2 * 4 : Nat) : Int))
  | 19 => (.i64, ((i % 2 * 32 : Nat) : Int))
  | 20 => (.u64, wI (msk 32 (i % 2 * 32)))
  | 21 => (.u64, wI (W (i / 2)))
  | 22 => (.u64, wI (W (i / 2) &&& ~~~msk 32 (i % 2 * 32)))
  | 23 => (.u64, wI (BitVec.ofInt 64 (s)))
  | 24 => (.u64, wI ((BitVec.ofInt 64 (s)) <<< (i % 2 * 32)))
  | 25 => (.u64, wI (((BitVec.ofInt 64 (s)) <<< (i % 2 * 32)) &&& msk 32 (i % 2 * 32)))
  | 26 => (.u64, wI (setW 32 (i % 2 * 32) (W (i / 2)) (BitVec.ofInt 64 (s))))
  | 27 => (.i64, ((r + 5 : Nat) : Int))
  | 28 => (.i64, ((i + 1 : Nat) : Int))
  | 29 => (.i32, ((i + 1 : Nat) : Int))
  | 30 => (.i64, ((r + 6 : Nat) : Int))
  | _ => (.i64, 0)
abbrev vvE (n : Nat) (s : Nat) (i : Nat) (r : Nat) (W : Nat → BitVec 64) : Nat → Nat → Option AV
  | 0 => pvw [(.int .u64 0), (.int .u64 0), (.int .u64 1), (.int .u64 0), (.int .u64 0), (.int .u64 2), (.int .u64 0), (.int .u64 0), (.int .u64 3), (.int .u64 0), (oN 4)] (11 + (n * 4 + 7) / 8) (W)
  | 1 => pvw [(.int .u64 0), (.int .u64 0), (.int .u64 1), (.int .u64 0), (.int .u64 0), (.int .u64 2), (.int .u64 0), (.int .u64 0), (.int .u64 3), (.int .u64 0), (oN 4)] (11 + (n * 4 + 7) / 8) (upd 2 32 W i (BitVec.ofInt 64 (s)))
  | _ => fun _ => none
abbrev vkE (n : Nat) (s : Nat) (i : Nat) (r : Nat) (W : Nat → BitVec 64) : Nat → Nat
  | 0 => 11 + (n * 4 + 7) / 8
  | 1 => 11 + (n * 4 + 7) / 8
  | _ => 0
theorem vpE (n : Nat) (s : Nat) (i : Nat) (r : Nat) (W : Nat → BitVec 64) : ∀ i_ m_ a_, vvE n s i r W i_ m_ = some a_ → vplain a_ = true
  | 0, _, _, h => pvw_plain rfl h
  | 1, _, _, h => pvw_plain rfl h
  | _ + 2, _, _, h => (by cases h)
abbrev PE (n : Nat) (s : Nat) (i : Nat) (r : Nat) (W : Nat → BitVec 64) : Tab := ((bare (ivE n s i r W) (vvE n s i r W) (vkE n s i r W) (vpE n s i r W)).tab)
noncomputable abbrev bsE : BS := [(10587, 10587, kb16), (10593, 10593, kb3), (13933, 13933, kb4), (13934, 13934, kb5), (13936, 13936, (.map [(tx24, (oN 3), 0)] 1)), (13937, 13937, kb17), (14235, 14235, kb8), (14558, 14558, kb10), (17203, 17203, kb11), (17208, 17208, kb12), (20000, 20000, kb13), (20001, 20001, kb21), (20002, 20002, kb22), (20003, 20003, (.vec 0)), (20004, 20004, kb20), (20005, 20005, kb19), (20006, 20006, kb18), (20007, 20007, (.cells 1 true [] (T.ofList 0 .leaf [(pN 20008)]))), (20008, 20008, (.cells 6 false [] (T.ofList 0 .leaf [z0, z0, (pN 14235), z0, (iN 27), .nilp]))), (20010, 20010, kb14), (20011, 20011, kb15)]
def SE (n : Nat) (s : Nat) (i : Nat) (r : Nat) (W : Nat → BitVec 64) (B : Kp) (w0 : World) (μ : M) (a : Act) (w : World) : Prop := St (PE n s i r W) B w0 μ Tryz.f34.ntmps (frOf fsR) (hOf 20040 bsE) a w
abbrev ivO (n : Nat) (s : Nat) (i : Nat) (j : Nat) (r : Nat) (W : Nat → BitVec 64) : Nat → IntKind × Int
  | 0 => (.i64, ((n : Nat) : Int))
  | 1 => (.i64, ((s : Nat) : Int))
  | 2 => (.i64, ((i : Nat) : Int))
  | 3 => (.i64, ((j : Nat) : Int))
  | 4 => (.i64, ((r : Nat) : Int))
  | 5 => (.u64, ((n : Nat) : Int))
  | 6 => (.i64, ((8 : Nat) : Int))
  | 7 => (.i64, ((9 : Nat) : Int))
  | 8 => (.i64, ((11 + (n * 4 + 7) / 8 : Nat) : Int))
  | 9 => (.i64, ((r + 1 : Nat) : Int))
  | 10 => (.i64, (i : Int) - 1)
  | 11 => (.i32, (i : Int) - 1)
  | 12 => (.i64, ((r + 2 : Nat) : Int))
  | 13 => (.i64, ((r + 3 : Nat) : Int))
  | 14 => (.i64, ((r + 4 : Nat) : Int))
  | 15 => (.i64, ((r + 5 : Nat) : Int))
  | 16 => (.i64, ((r + 6 : Nat) : Int))
  | 17 => (.i64, ((r + 7 : Nat) : Int))
  | _ => (.i64, 0)
abbrev vvO (n : Nat) (s : Nat) (i : Nat) (j : Nat) (r : Nat) (W : Nat → BitVec 64) : Nat → Nat → Option AV
  | 0 => pvw [(.int .u64 0), (.int .u64 0), (.int .u64 1), (.int .u64 0), (.int .u64 0), (.int .u64 2), (.int .u64 0), (.int .u64 0), (.int .u64 3), (.int .u64 0), (oN 5)] (11 + (n * 4 + 7) / 8) (W)
  | _ => fun _ => none
abbrev vkO (n : Nat) (s : Nat) (i : Nat) (j : Nat) (r : Nat) (W : Nat → BitVec 64) : Nat → Nat
  | 0 => 11 + (n * 4 + 7) / 8
  | _ => 0
theorem vpO (n : Nat) (s : Nat) (i : Nat) (j : Nat) (r : Nat) (W : Nat → BitVec 64) : ∀ i_ m_ a_, vvO n s i j r W i_ m_ = some a_ → vplain a_ = true
  | 0, _, _, h => pvw_plain rfl h
  | _ + 1, _, _, h => (by cases h)
abbrev PO (n : Nat) (s : Nat) (i : Nat) (j : Nat) (r : Nat) (W : Nat → BitVec 64) : Tab := ((bare (ivO n s i j r W) (vvO n s i j r W) (vkO n s i j r W) (vpO n s i j r W)).tab)
noncomputable abbrev bsO : BS := [(10587, 10587, kb23), (10593, 10593, kb3), (13933, 13933, kb4), (13934, 13934, kb5), (13936, 13936, (.map [(tx24, (oN 4), 0)] 1)), (13937, 13937, kb24), (14235, 14235, kb8), (14558, 14558, kb10), (17203, 17203, kb11), (17208, 17208, kb12), (20000, 20000, kb13), (20001, 20001, kb26), (20002, 20002, kb22), (20003, 20003, (.vec 0)), (20004, 20004, kb25), (20005, 20005, kb19), (20006, 20006, kb18), (20007, 20007, (.cells 1 true [] (T.ofList 0 .leaf [(pN 20008)]))), (20008, 20008, (.cells 6 false [] (T.ofList 0 .leaf [z0, z0, (pN 14235), z0, (iN 38), .nilp]))), (20010, 20010, kb14), (20011, 20011, kb15)]
def SO (n : Nat) (s : Nat) (i : Nat) (j : Nat) (r : Nat) (W : Nat → BitVec 64) (B : Kp) (w0 : World) (μ : M) (a : Act) (w : World) : Prop := St (PO n s i j r W) B w0 μ Tryz.f34.ntmps (frOf fsR) (hOf 20040 bsO) a w
abbrev ivI (n : Nat) (s : Nat) (i : Nat) (j : Nat) (r : Nat) (W : Nat → BitVec 64) : Nat → IntKind × Int
  | 0 => (.i64, ((n : Nat) : Int))
  | 1 => (.i64, ((s : Nat) : Int))
  | 2 => (.i64, ((i : Nat) : Int))
  | 3 => (.i64, ((j : Nat) : Int))
  | 4 => (.i64, ((r : Nat) : Int))
  | 5 => (.u64, ((n : Nat) : Int))
  | 6 => (.i64, ((8 : Nat) : Int))
  | 7 => (.i64, ((9 : Nat) : Int))
  | 8 => (.i64, ((11 + (n * 4 + 7) / 8 : Nat) : Int))
  | 9 => (.i64, ((r + 1 : Nat) : Int))
  | 10 => (.i64, ((r + 2 : Nat) : Int))
  | 11 => (.i64, ((r + 3 : Nat) : Int))
  | 12 => (.i64, ((r + 4 : Nat) : Int))
  | 13 => (.i64, ((r + 5 : Nat) : Int))
  | 14 => (.i64, ((r + 6 : Nat) : Int))
  | 15 => (.i64, ((10 : Nat) : Int))
  | 16 => (.i64, ((11 : Nat) : Int))
  | 17 => (.i64, ((j / 2 : Nat) : Int))
  | 18 => (.i64, ((11 + j / 2 : Nat) : Int))
  | 19 => (.i64, ((j % 2 : Nat) : Int))
  | 20 => (.i64, ((j % 2 * 4 : Nat) : Int))
  | 21 => (.i64, ((j % 2 * 32 : Nat) : Int))
  | 22 => (.u64, wI (W (j / 2)))
  | 23 => (.u64, wI (W (j / 2) >>> (j % 2 * 32)))
  | 24 => (.i64, IntKind.i64.wrap (wI (W (j / 2) >>> (j % 2 * 32))))
  | 25 => (.i32, rd W (j))
  | 26 => (.i64, rd W (j))
  | 27 => (.i64, ((r + 7 : Nat) : Int))
  | 28 => (.i64, ((r + 8 : Nat) : Int))
  | 29 => (.i64, ((r + 9 : Nat) : Int))
  | 30 => (.i64, ((r + 10 : Nat) : Int))
  | 31 => (.i32, ((j : Nat) : Int))
  | 32 => (.i64, ((j + 1 : Nat) : Int))
  | 33 => (.i32, ((j + 1 : Nat) : Int))
  | 34 => (.i64, ((r + 11 : Nat) : Int))
  | 35 => (.i64, (((j + 1) / 2 : Nat) : Int))
  | 36 => (.i64, ((11 + (j + 1) / 2 : Nat) : Int))
  | 37 => (.i64, (((j + 1) % 2 : Nat) : Int))
  | 38 => (.i64, (((j + 1) % 2 * 4 : Nat) : Int))
  | 39 => (.i64, (((j + 1) % 2 * 32 : Nat) : Int))
  | 40 => (.u64, wI (W ((j + 1) / 2)))
  | 41 => (.u64, wI (W ((j + 1) / 2) >>> ((j + 1) % 2 * 32)))
  | 42 => (.i64, IntKind.i64.wrap (wI (W ((j + 1) / 2) >>> ((j + 1) % 2 * 32))))
  | 43 => (.i32, rd W ((j + 1)))
  | 44 => (.i64, rd W ((j + 1)))
  | 45 => (.i64, ((r + 12 : Nat) : Int))
  | 46 => (.i64, ((r + 13 : Nat) : Int))
  | 47 => (.i64, ((r + 14 : Nat) : Int))
  | _ => (.i64, 0)
abbrev vvI (n : Nat) (s : Nat) (i : Nat) (j : Nat) (r : Nat) (W : Nat → BitVec 64) : Nat → Nat → Option AV
  | 0 => pvw [(.int .u64 0), (.int .u64 0), (.int .u64 1), (.int .u64 0), (.int .u64 0), (.int .u64 2), (.int .u64 0), (.int .u64 0), (.int .u64 3), (.int .u64 0), (oN 5)] (11 + (n * 4 + 7) / 8) (W)
  | _ => fun _ => none
abbrev vkI (n : Nat) (s : Nat) (i : Nat) (j : Nat) (r : Nat) (W : Nat → BitVec 64) : Nat → Nat
  | 0 => 11 + (n * 4 + 7) / 8
  | _ => 0
theorem vpI (n : Nat) (s : Nat) (i : Nat) (j : Nat) (r : Nat) (W : Nat → BitVec 64) : ∀ i_ m_ a_, vvI n s i j r W i_ m_ = some a_ → vplain a_ = true
  | 0, _, _, h => pvw_plain rfl h
  | _ + 1, _, _, h => (by cases h)
abbrev PI (n : Nat) (s : Nat) (i : Nat) (j : Nat) (r : Nat) (W : Nat → BitVec 64) : Tab := ((bare (ivI n s i j r W) (vvI n s i j r W) (vkI n s i j r W) (vpI n s i j r W)).tab)
noncomputable abbrev bsI : BS := [(10587, 10587, kb23), (10593, 10593, kb3), (13933, 13933, kb4), (13934, 13934, kb5), (13936, 13936, (.map [(tx24, (oN 4), 0)] 1)), (13937, 13937, kb24), (14235, 14235, kb8), (14558, 14558, kb10), (17203, 17203, kb11), (17208, 17208, kb12), (20000, 20000, kb13), (20001, 20001, kb26), (20002, 20002, kb22), (20003, 20003, (.vec 0)), (20004, 20004, kb25), (20005, 20005, kb19), (20006, 20006, kb18), (20007, 20007, (.cells 1 true [] (T.ofList 0 .leaf [(pN 20008)]))), (20008, 20008, (.cells 6 false [] (T.ofList 0 .leaf [z0, z0, (pN 14235), z0, (iN 47), .nilp]))), (20010, 20010, kb14), (20011, 20011, kb15)]
def SI (n : Nat) (s : Nat) (i : Nat) (j : Nat) (r : Nat) (W : Nat → BitVec 64) (B : Kp) (w0 : World) (μ : M) (a : Act) (w : World) : Prop := St (PI n s i j r W) B w0 μ Tryz.f34.ntmps (frOf fsR) (hOf 20040 bsI) a w
abbrev ivX (n : Nat) (s : Nat) (i : Nat) (j : Nat) (r : Nat) (W : Nat → BitVec 64) : Nat → IntKind × Int
  | 0 => (.i64, ((n : Nat) : Int))
  | 1 => (.i64, ((s : Nat) : Int))
  | 2 => (.i64, ((i : Nat) : Int))
  | 3 => (.i64, ((j : Nat) : Int))
  | 4 => (.i64, ((r : Nat) : Int))
  | 5 => (.u64, ((n : Nat) : Int))
  | 6 => (.i64, ((8 : Nat) : Int))
  | 7 => (.i64, ((9 : Nat) : Int))
  | 8 => (.i64, ((11 + (n * 4 + 7) / 8 : Nat) : Int))
  | 9 => (.i64, ((r + 1 : Nat) : Int))
  | 10 => (.i64, ((r + 2 : Nat) : Int))
  | 11 => (.i64, ((r + 3 : Nat) : Int))
  | 12 => (.i64, ((10 : Nat) : Int))
  | 13 => (.i64, ((11 : Nat) : Int))
  | 14 => (.i64, ((j / 2 : Nat) : Int))
  | 15 => (.i64, ((11 + j / 2 : Nat) : Int))
  | 16 => (.i64, ((j % 2 : Nat) : Int))
  | 17 => (.i64, ((j % 2 * 4 : Nat) : Int))
  | 18 => (.i64, ((j % 2 * 32 : Nat) : Int))
  | 19 => (.u64, wI (W (j / 2)))
  | 20 => (.u64, wI (W (j / 2) >>> (j % 2 * 32)))
  | 21 => (.i64, IntKind.i64.wrap (wI (W (j / 2) >>> (j % 2 * 32))))
  | 22 => (.i32, rd W (j))
  | 23 => (.i64, rd W (j))
  | 24 => (.i64, ((r + 4 : Nat) : Int))
  | 25 => (.i64, ((r + 5 : Nat) : Int))
  | 26 => (.i64, ((r + 6 : Nat) : Int))
  | 27 => (.i64, ((r + 7 : Nat) : Int))
  | 28 => (.i64, ((r + 8 : Nat) : Int))
  | 29 => (.i64, ((r + 9 : Nat) : Int))
  | 30 => (.i32, ((j : Nat) : Int))
  | 31 => (.i64, ((j + 1 : Nat) : Int))
  | 32 => (.i32, ((j + 1 : Nat) : Int))
  | 33 => (.i64, ((r + 10 : Nat) : Int))
  | 34 => (.i64, (((j + 1) / 2 : Nat) : Int))
  | 35 => (.i64, ((11 + (j + 1) / 2 : Nat) : Int))
  | 36 => (.i64, (((j + 1) % 2 : Nat) : Int))
  | 37 => (.i64, (((j + 1) % 2 * 4 : Nat) : Int))
  | 38 => (.i64, (((j + 1) % 2 * 32 : Nat) : Int))
  | 39 => (.u64, wI (W ((j + 1) / 2)))
  | 40 => (.u64, wI (W ((j + 1) / 2) >>> ((j + 1) % 2 * 32)))
  | 41 => (.i64, IntKind.i64.wrap (wI (W ((j + 1) / 2) >>> ((j + 1) % 2 * 32))))
  | 42 => (.i32, rd W ((j + 1)))
  | 43 => (.i64, rd W ((j + 1)))
  | 44 => (.i64, ((r + 11 : Nat) : Int))
  | 45 => (.u64, wI (msk 32 (j % 2 * 32)))
  | 46 => (.u64, wI (W (j / 2) &&& ~~~msk 32 (j % 2 * 32)))
  | 47 => (.u64, wI (BitVec.ofInt 64 (rd W (j + 1))))
  | 48 => (.u64, wI ((BitVec.ofInt 64 (rd W (j + 1))) <<< (j % 2 * 32)))
  | 49 => (.u64, wI (((BitVec.ofInt 64 (rd W (j + 1))) <<< (j % 2 * 32)) &&& msk 32 (j % 2 * 32)))
  | 50 => (.u64, wI (setW 32 (j % 2 * 32) (W (j / 2)) (BitVec.ofInt 64 (rd W (j + 1)))))
  | 51 => (.i64, ((r + 12 : Nat) : Int))
  | _ => (.i64, 0)
abbrev vvX (n : Nat) (s : Nat) (i : Nat) (j : Nat) (r : Nat) (W : Nat → BitVec 64) : Nat → Nat → Option AV
  | 0 => pvw [(.int .u64 0), (.int .u64 0), (.int .u64 1), (.int .u64 0), (.int .u64 0), (.int .u64 2), (.int .u64 0), (.int .u64 0), (.int .u64 3), (.int .u64 0), (oN 5)] (11 + (n * 4 + 7) / 8) (W)
  | 1 => pvw [(.int .u64 0), (.int .u64 0), (.int .u64 1), (.int .u64 0), (.int .u64 0), (.int .u64 2), (.int .u64 0), (.int .u64 0), (.int .u64 3), (.int .u64 0), (oN 5)] (11 + (n * 4 + 7) / 8) (upd 2 32 W j (BitVec.ofInt 64 (rd W (j + 1))))
  | _ => fun _ => none
abbrev vkX (n : Nat) (s : Nat) (i : Nat) (j : Nat) (r : Nat) (W : Nat → BitVec 64) : Nat → Nat
  | 0 => 11 + (n * 4 + 7) / 8
  | 1 => 11 + (n * 4 + 7) / 8
  | _ => 0
theorem vpX (n : Nat) (s : Nat) (i : Nat) (j : Nat) (r : Nat) (W : Nat → BitVec 64) : ∀ i_ m_ a_, vvX n s i j r W i_ m_ = some a_ → vplain a_ = true
  | 0, _, _, h => pvw_plain rfl h
  | 1, _, _, h => pvw_plain rfl h
  | _ + 2, _, _, h => (by cases h)
abbrev PX (n : Nat) (s : Nat) (i : Nat) (j : Nat) (r : Nat) (W : Nat → BitVec 64) : Tab := ((bare (ivX n s i j r W) (vvX n s i j r W) (vkX n s i j r W) (vpX n s i j r W)).tab)
noncomputable abbrev bsX : BS := [(10587, 10587, kb23), (10593, 10593, kb3), (13933, 13933, kb4), (13934, 13934, kb5), (13936, 13936, (.map [(tx24, (oN 4), 0)] 1)), (13937, 13937, kb24), (14235, 14235, kb8), (14558, 14558, kb10), (17203, 17203, kb11), (17208, 17208, kb12), (20000, 20000, kb13), (20001, 20001, kb26), (20002, 20002, kb22), (20003, 20003, (.vec 0)), (20004, 20004, kb25), (20005, 20005, kb19), (20006, 20006, kb18), (20007, 20007, (.cells 1 true [] (T.ofList 0 .leaf [(pN 20008)]))), (20008, 20008, (.cells 6 false [] (T.ofList 0 .leaf [z0, z0, (pN 14235), z0, (iN 65), .nilp]))), (20010, 20010, kb14), (20011, 20011, kb15)]
def SX (n : Nat) (s : Nat) (i : Nat) (j : Nat) (r : Nat) (W : Nat → BitVec 64) (B : Kp) (w0 : World) (μ : M) (a : Act) (w : World) : Prop := St (PX n s i j r W) B w0 μ Tryz.f34.ntmps (frOf fsR) (hOf 20040 bsX) a w
abbrev ivZ (n : Nat) (s : Nat) (i : Nat) (j : Nat) (r : Nat) (W : Nat → BitVec 64) : Nat → IntKind × Int
  | 0 => (.i64, ((n : Nat) : Int))
  | 1 => (.i64, ((s : Nat) : Int))
  | 2 => (.i64, ((i : Nat) : Int))
  | 3 => (.i64, ((j : Nat) : Int))
  | 4 => (.i64, ((r : Nat) : Int))
  | 5 => (.u64, ((n : Nat) : Int))
  | 6 => (.i64, ((8 : Nat) : Int))
  | 7 => (.i64, ((9 : Nat) : Int))
  | 8 => (.i64, ((11 + (n * 4 + 7) / 8 : Nat) : Int))
  | 9 => (.i64, ((r + 1 : Nat) : Int))
  | 10 => (.i64, ((r + 2 : Nat) : Int))
  | 11 => (.i64, ((r + 3 : Nat) : Int))
  | 12 => (.i64, ((r + 4 : Nat) : Int))
  | 13 => (.i32, ((j : Nat) : Int))
  | 14 => (.i64, ((j + 1 : Nat) : Int))
  | 15 => (.i32, ((j + 1 : Nat) : Int))
  | 16 => (.i64, ((r + 5 : Nat) : Int))
  | 17 => (.i64, ((r + 6 : Nat) : Int))
  | 18 => (.i64, ((10 : Nat) : Int))
  | 19 => (.i32, ((s : Nat) : Int))
  | 20 => (.i64, ((11 : Nat) : Int))
  | 21 => (.i64, (((j + 1) / 2 : Nat) : Int))
  | 22 => (.i64, ((11 + (j + 1) / 2 : Nat) : Int))
  | 23 => (.i64, (((j + 1) % 2 : Nat) : Int))
  | 24 => (.i64, (((j + 1) % 2 * 4 : Nat) : Int))
  | 25 => (.i64, (((j + 1) % 2 * 32 : Nat) : Int))
  | 26 => (.u64, wI (msk 32 ((j + 1) % 2 * 32)))
  | 27 => (.u64, wI (W ((j + 1) / 2)))
  | 28 => (.u64, wI (W ((j + 1) / 2) &&& ~~~msk 32 ((j + 1) % 2 * 32)))
  | 29 => (.u64, wI (BitVec.ofInt 64 (s)))
  | 30 => (.u64, wI ((BitVec.ofInt 64 (s)) <<< ((j + 1) % 2 * 32)))
  | 31 => (.u64, wI (((BitVec.ofInt 64 (s)) <<< ((j + 1) % 2 * 32)) &&& msk 32 ((j + 1) % 2 * 32)))
  | 32 => (.u64, wI (setW 32 ((j + 1) % 2 * 32) (W ((j + 1) / 2)) (BitVec.ofInt 64 (s))))
  | 33 => (.i64, ((r + 7 : Nat) : Int))
  | 34 => (.i64, ((r + 8 : Nat) : Int))
  | _ => (.i64, 0)
abbrev vvZ (n : Nat) (s : Nat) (i : Nat) (j : Nat) (r : Nat) (W : Nat → BitVec 64) : Nat → Nat → Option AV
  | 0 => pvw [(.int .u64 0), (.int .u64 0), (.int .u64 1), (.int .u64 0), (.int .u64 0), (.int .u64 2), (.int .u64 0), (.int .u64 0), (.int .u64 3), (.int .u64 0), (oN 5)] (11 + (n * 4 + 7) / 8) (W)
  | 1 => pvw [(.int .u64 0), (.int .u64 0), (.int .u64 1), (.int .u64 0), (.int .u64 0), (.int .u64 2), (.int .u64 0), (.int .u64 0), (.int .u64 3), (.int .u64 0), (oN 5)] (11 + (n * 4 + 7) / 8) (upd 2 32 W (j + 1) (BitVec.ofInt 64 (s)))
  | _ => fun _ => none
abbrev vkZ (n : Nat) (s : Nat) (i : Nat) (j : Nat) (r : Nat) (W : Nat → BitVec 64) : Nat → Nat
  | 0 => 11 + (n * 4 + 7) / 8
  | 1 => 11 + (n * 4 + 7) / 8
  | _ => 0
theorem vpZ (n : Nat) (s : Nat) (i : Nat) (j : Nat) (r : Nat) (W : Nat → BitVec 64) : ∀ i_ m_ a_, vvZ n s i j r W i_ m_ = some a_ → vplain a_ = true
  | 0, _, _, h => pvw_plain rfl h
  | 1, _, _, h => pvw_plain rfl h
  | _ + 2, _, _, h => (by cases h)
abbrev PZ (n : Nat) (s : Nat) (i : Nat) (j : Nat) (r : Nat) (W : Nat → BitVec 64) : Tab := ((bare (ivZ n s i j r W) (vvZ n s i j r W) (vkZ n s i j r W) (vpZ n s i j r W)).tab)
noncomputable abbrev bsZ : BS := [(10587, 10587, kb23), (10593, 10593, kb3), (13933, 13933, kb4), (13934, 13934, kb5), (13936, 13936, (.map [(tx24, (oN 4), 0)] 1)), (13937, 13937, kb24), (14235, 14235, kb8), (14558, 14558, kb10), (17203, 17203, kb11), (17208, 17208, kb12), (20000, 20000, kb13), (20001, 20001, kb26), (20002, 20002, kb22), (20003, 20003, (.vec 0)), (20004, 20004, kb25), (20005, 20005, kb19), (20006, 20006, kb18), (20007, 20007, (.cells 1 true [] (T.ofList 0 .leaf [(pN 20008)]))), (20008, 20008, (.cells 6 false [] (T.ofList 0 .leaf [z0, z0, (pN 14235), z0, (iN 80), .nilp]))), (20010, 20010, kb14), (20011, 20011, kb15)]
def SZ (n : Nat) (s : Nat) (i : Nat) (j : Nat) (r : Nat) (W : Nat → BitVec 64) (B : Kp) (w0 : World) (μ : M) (a : Act) (w : World) : Prop := St (PZ n s i j r W) B w0 μ Tryz.f34.ntmps (frOf fsR) (hOf 20040 bsZ) a w
abbrev ivU (n : Nat) (v : Int) (i : Nat) (j : Nat) (r : Nat) (W : Nat → BitVec 64) : Nat → IntKind × Int
  | 0 => (.i64, ((n : Nat) : Int))
  | 1 => (.i64, v)
  | 2 => (.i64, ((i : Nat) : Int))
  | 3 => (.i64, ((j : Nat) : Int))
  | 4 => (.i64, ((r : Nat) : Int))
  | 5 => (.u64, ((n : Nat) : Int))
  | 6 => (.i64, ((8 : Nat) : Int))
  | 7 => (.i64, ((9 : Nat) : Int))
  | 8 => (.i64, ((11 + (n * 4 + 7) / 8 : Nat) : Int))
  | 9 => (.i64, ((r + 1 : Nat) : Int))
  | 10 => (.i64, ((r + 2 : Nat) : Int))
  | 11 => (.i64, ((r + 3 : Nat) : Int))
  | 12 => (.i64, ((r + 4 : Nat) : Int))
  | 13 => (.i64, ((r + 5 : Nat) : Int))
  | 14 => (.i64, ((r + 6 : Nat) : Int))
  | 15 => (.i32, v)
  | 16 => (.i64, v * 7)
  | 17 => (.i32, wr (v * 7))
  | 18 => (.i64, wr (v * 7))
  | 19 => (.i64, ((r + 7 : Nat) : Int))
  | 20 => (.i64, ((r + 8 : Nat) : Int))
  | 21 => (.i64, ((r + 9 : Nat) : Int))
  | 22 => (.i64, ((10 : Nat) : Int))
  | 23 => (.i64, ((11 : Nat) : Int))
  | 24 => (.i64, ((i / 2 : Nat) : Int))
  | 25 => (.i64, ((11 + i / 2 : Nat) : Int))
  | 26 => (.i64, ((i % 2 : Nat) : Int))
  | 27 => (.i64, ((i % 2 * 4 : Nat) : Int))
  | 28 => (.i64, ((i % 2 * 32 : Nat) : Int))
  | 29 => (.u64, wI (W (i / 2)))
  | 30 => (.u64, wI (W (i / 2) >>> (i % 2 * 32)))
  | 31 => (.i64, IntKind.i64.wrap (wI (W (i / 2) >>> (i % 2 * 32))))
  | 32 => (.i32, rd W (i))
  | 33 => (.i64, rd W (i))
  | 34 => (.i64, ((r + 10 : Nat) : Int))
  | 35 => (.i64, wr (v * 7) + rd W (i))
  | 36 => (.i32, wr (wr (v * 7) + rd W (i)))
  | 37 => (.i64, wr (wr (v * 7) + rd W (i)))
  | 38 => (.i64, ((r + 11 : Nat) : Int))
  | 39 => (.i64, ((r + 12 : Nat) : Int))
  | 40 => (.i64, ((i + 1 : Nat) : Int))
  | 41 => (.i32, ((i + 1 : Nat) : Int))
  | 42 => (.i64, ((r + 13 : Nat) : Int))
  | _ => (.i64, 0)
abbrev vvU (n : Nat) (v : Int) (i : Nat) (j : Nat) (r : Nat) (W : Nat → BitVec 64) : Nat → Nat → Option AV
  | 0 => pvw [(.int .u64 0), (.int .u64 0), (.int .u64 1), (.int .u64 0), (.int .u64 0), (.int .u64 2), (.int .u64 0), (.int .u64 0), (.int .u64 3), (.int .u64 0), (oN 5)] (11 + (n * 4 + 7) / 8) (W)
  | _ => fun _ => none
abbrev vkU (n : Nat) (v : Int) (i : Nat) (j : Nat) (r : Nat) (W : Nat → BitVec 64) : Nat → Nat
  | 0 => 11 + (n * 4 + 7) / 8
  | _ => 0
theorem vpU (n : Nat) (v : Int) (i : Nat) (j : Nat) (r : Nat) (W : Nat → BitVec 64) : ∀ i_ m_ a_, vvU n v i j r W i_ m_ = some a_ → vplain a_ = true
  | 0, _, _, h => pvw_plain rfl h
  | _ + 1, _, _, h => (by cases h)
abbrev PU (n : Nat) (v : Int) (i : Nat) (j : Nat) (r : Nat) (W : Nat → BitVec 64) : Tab := ((bare (ivU n v i j r W) (vvU n v i j r W) (vkU n v i j r W) (vpU n v i j r W)).tab)
noncomputable abbrev bsU : BS := [(10587, 10587, kb23), (10593, 10593, kb3), (13933, 13933, kb4), (13934, 13934, kb5), (13936, 13936, (.map [(tx24, (oN 4), 0)] 1)), (13937, 13937, kb24), (14235, 14235, kb8), (14558, 14558, kb10), (17203, 17203, kb11), (17208, 17208, kb12), (20000, 20000, kb13), (20001, 20001, kb26), (20002, 20002, kb22), (20003, 20003, (.vec 0)), (20004, 20004, kb25), (20005, 20005, kb19), (20006, 20006, kb18), (20007, 20007, (.cells 1 true [] (T.ofList 0 .leaf [(pN 20008)]))), (20008, 20008, (.cells 6 false [] (T.ofList 0 .leaf [z0, z0, (pN 14235), z0, (iN 100), .nilp]))), (20010, 20010, kb14), (20011, 20011, kb15)]
def SU (n : Nat) (v : Int) (i : Nat) (j : Nat) (r : Nat) (W : Nat → BitVec 64) (B : Kp) (w0 : World) (μ : M) (a : Act) (w : World) : Prop := St (PU n v i j r W) B w0 μ Tryz.f34.ntmps (frOf fsR) (hOf 20040 bsU) a w
end Go.Proofs.YtaabcpibfignfaaGreatDoor.so
