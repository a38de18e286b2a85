/-
  Numbers as texts: what the law's own writer and the library's give.
-/
import Derived.Test.YtbgkinjicnnkiaaGreatDoorXN3
import Derived.Test.YtbgkinjicnnkiaaGreatDoorHLS
import Derived.Lib.ItoaLen
import Derived.Lib.AppendIntMem
import Derived.KernelRfl
set_option linter.unusedVariables false
set_option linter.unusedSimpArgs false
set_option linter.unusedSectionVars false
set_option maxRecDepth 1000000
namespace Go.Proofs.YtbgkinjicnnkiaaGreatDoor.hl
open Go.X Go.RowKit Go.Proofs
/-- a number's text -/
abbrev itb (n : Int) : ByteArray := ⟨(Lib.itoa n).toArray⟩
theorem itb_size (n : Int) : (itb n).size = (Lib.itoa n).length := by simp [itb, ByteArray.size]
theorem mixed : Tryz.prog.follows .mixedOrders = true := by kernel_rfl
noncomputable def retIs [Tab] (K : Hand) (n : Nat) (f : FuncId) (xs : List AV) (v : AV) : Bool := Option.rec false (fun p => veq v p.1) (call Tryz.prog K n f xs H.empty)
theorem ret_of [Tab] {K : Hand} (hK : HandOk Tryz.prog K) {n : Nat} {f : FuncId} {xs : List AV} {v : AV} (e : retIs K n f xs v = true) : ∃ q, CallOk Tryz.prog f xs H.empty (v, q) := by
  unfold retIs at e
  cases h1 : call Tryz.prog K n f xs H.empty with
  | none => rw [h1] at e; cases e
  | some p =>
    rw [h1] at e
    have e' : veq v p.1 = true := e
    refine ⟨p.2, ?_⟩
    rw [veq_eq e']
    exact call_sound mixed hK h1
theorem txt_of [Tab] {f : FuncId} {xs : List AV} {i : Nat} {q : H} (o : CallOk Tryz.prog f xs H.empty (.ostr i, q)) {args' : Array Value} (ha : vrels (fun _ => none) xs args'.toList) (w : World) (hg : Gl (Kp.below w.heap.size) w) :
    Calls Tryz.prog f args' w fun e w' => e = .returned (.string (Tab.str i)) ∧ Below w.heap.size w w' := by
  refine (o.closed ha w hg).mono ?_
  rintro e w' ⟨v', μ', rfl, hr, r⟩
  have hr' : vrel μ' (.ostr i) v' := hr
  simp only [vrel] at hr'
  exact ⟨by rw [hr'], r.below.toBelow⟩
/-- one number comes in -/
theorem one_is [Tab] {j : Nat} {n : Int} (hj : Tab.iv j = (.i64, n)) (μ : M) (l : List Value) (h : vrels μ [.oi j] l) : l = [.int .i64 n] := by
  obtain ⟨v1, l1, rfl, g1, g2⟩ := h
  simp only [vrel] at g1
  rw [hj] at g1
  have : l1 = [] := g2
  rw [this, g1]
theorem two_is [Tab] {j : Nat} {n : Int} (hj : Tab.iv j = (.i64, n)) (μ : M) (l : List Value) (h : vrels μ [.oi j, .int .i64 10] l) : l = [.int .i64 n, .int .i64 10] := by
  obtain ⟨v1, l1, rfl, g1, v2, l2, rfl, g2, g3⟩ := h
  simp only [vrel] at g1 g2
  rw [hj] at g1
  have : l2 = [] := g3
  rw [this, g1, g2]
abbrev DecIs (n : Int) : Prop := ∀ w : World, Calls Tryz.prog 26 #[.int .i64 n] w fun e w' => e = .returned (.string (itb n)) ∧ Below w.heap.size w w'
theorem decHand [Tab] {j i : Nat} {n : Int} (hj : Tab.iv j = (.i64, n)) (hi : Tab.str i = itb n) (h : DecIs n) : HandOk Tryz.prog (oneHand 26 [.oi j] (.ostr i)) :=
  oneHand_ok fun q => callTxt_ok (vs := [.int .i64 n]) (one_is hj) (fun w _ => by rw [hi]; exact h w) q
/- numbers below ten -/
abbrev ivD (n m r : Int) : Nat → IntKind × Int
  | 0 => (.i64, n)
  | 1 => (.i64, m)
  | 2 => (.i64, r)
  | 3 => (.i64, 48 + r)
  | _ => (.u8, 48 + r)
abbrev strD (n m r : Int) : Nat → ByteArray
  | 0 => itb n
  | 1 => itb m
  | _ => bytesI [48 + r]
theorem u8s {n : Int} (h0 : 0 ≤ n) (h1 : n < 256) : IntKind.u8.wrap n = n := by
  unfold IntKind.wrap IntKind.bits IntKind.signed
  simp only [Bool.false_and]
  exact Int.emod_eq_of_lt h0 h1
theorem one_byte (u : Nat) (h : u < 10) : (⟨⟨[UInt8.ofNat (48 + u)]⟩⟩ : ByteArray) = bytesI [48 + (u : Int)] := by
  unfold bytesI
  simp only [List.map_cons, List.map_nil]
  rw [show ((48 : Int) + (u : Int)).toNat = 48 + u by omega]
section
variable {u : Nat} (h : u < 10)
include h
theorem ibA : ∀ x_ ∈ ([(11, .oi 0, .int .i64 0, .bool false), (11, .oi 0, .int .i64 10, .bool true), (0, .int .i64 48, .oi 0, .oi 3)] : List BRow), IbOk (ivD u 0 u) x_ := by
  letI := Tab.empty
  exact ibCons (ibLt (a := (u : Int)) (b := 0) rfl rfl (decide_eq_false (by omega))) (ibCons (ibLt (a := (u : Int)) (b := 10) rfl rfl (decide_eq_true (by omega))) (ibCons (ibAdd (a := 48) (b := (u : Int)) (c := 48 + (u : Int)) rfl rfl rfl rfl (by omega) (by omega)) ibNil))
theorem icA : ∀ x_ ∈ ([(.u8, .oi 3, .oi 4)] : List (IntKind × AV × AV)), IcOk' (ivD u 0 u) x_ := icCons (icOf (k := .u8) (k' := .i64) (n := 48 + (u : Int)) (c := 48 + (u : Int)) rfl rfl (u8s (by omega) (by omega))) icNil
theorem txA : ∀ x_ ∈ ([(6, [.oi 4], .ostr 0)] : List TRow), TrOk (strD u 0 u) (ivD u 0 u) x_.1 x_.2.1 x_.2.2 := by
  refine txCons (tr6 (ns := [48 + (u : Int)]) rfl ?_ ?_) txNil
  · intro n hn
    obtain rfl : n = 48 + (u : Int) := by simpa using hn
    omega
  · show some (itb u) = _
    rw [← one_byte u h]
    show some (⟨(Lib.itoa (u : Int)).toArray⟩ : ByteArray) = _
    rw [Lib.itoa_nonneg, Lib.decDigits_one h]
abbrev RA : VRows (ivD u 0 u) noV noK where
  vvp := noVp
  ib := [(11, .oi 0, .int .i64 0, .bool false), (11, .oi 0, .int .i64 10, .bool true), (0, .int .i64 48, .oi 0, .oi 3)]
  ibok := ibA h
  ic := [(.u8, .oi 3, .oi 4)]
  icok := icA h
abbrev XA : Txts (ivD u 0 u) where
  str := strD u 0 u
  tr := [(6, [.oi 4], .ostr 0)]
  trok := txA h
abbrev TA : Tab := (RA h).ttab (XA h)
theorem runA : @retIs (TA h) Hand.none 500 26 [.oi 0] (.ostr 0) = true := by as_aux_lemma => kernel_rfl
theorem decA : DecIs (u : Int) := fun w => by
  letI : Tab := TA h
  obtain ⟨q, k⟩ := ret_of (HandOk.none) (runA h)
  exact txt_of k (args' := #[.int .i64 (u : Int)]) (vrels_cons (by simp only [vrel]; rfl) (by simp [vrels])) w ⟨fun g o a h => (by cases h), fun i m a h => (by cases h)⟩
end
/- numbers from ten on -/
section
variable {u : Nat} (h : ¬ u < 10) (hu : (u : Int) ≤ 9223372036854775807)
include h hu
theorem ibB : ∀ x_ ∈ ([(11, .oi 0, .int .i64 0, .bool false), (11, .oi 0, .int .i64 10, .bool false), (3, .oi 0, .int .i64 10, .oi 1), (4, .oi 0, .int .i64 10, .oi 2), (0, .int .i64 48, .oi 2, .oi 3)] : List BRow), IbOk (ivD u ((u / 10 : Nat) : Int) ((u % 10 : Nat) : Int)) x_ := by
  letI := Tab.empty
  exact ibCons (ibLt (a := (u : Int)) (b := 0) rfl rfl (decide_eq_false (by omega))) (ibCons (ibLt (a := (u : Int)) (b := 10) rfl rfl (decide_eq_false (by omega)))
    (ibCons (ibQuo (a := (u : Int)) (b := 10) (c := ((u / 10 : Nat) : Int)) rfl rfl rfl (by decide) rfl (by omega) (by omega))
    (ibCons (ibRem (a := (u : Int)) (b := 10) (c := ((u % 10 : Nat) : Int)) rfl rfl rfl (by decide) rfl)
    (ibCons (ibAdd (a := 48) (b := ((u % 10 : Nat) : Int)) (c := 48 + ((u % 10 : Nat) : Int)) rfl rfl rfl rfl (by omega) (by omega)) ibNil))))
theorem icB : ∀ x_ ∈ ([(.u8, .oi 3, .oi 4)] : List (IntKind × AV × AV)), IcOk' (ivD u ((u / 10 : Nat) : Int) ((u % 10 : Nat) : Int)) x_ := icCons (icOf (k := .u8) (k' := .i64) (n := 48 + ((u % 10 : Nat) : Int)) (c := 48 + ((u % 10 : Nat) : Int)) rfl rfl (u8s (by omega) (by omega))) icNil
theorem txB : ∀ x_ ∈ ([(6, [.oi 4], .ostr 2), (3, [.ostr 1, .ostr 2], .ostr 0)] : List TRow), TrOk (strD u ((u / 10 : Nat) : Int) ((u % 10 : Nat) : Int)) (ivD u ((u / 10 : Nat) : Int) ((u % 10 : Nat) : Int)) x_.1 x_.2.1 x_.2.2 := by
  refine txCons (tr6 (ns := [48 + ((u % 10 : Nat) : Int)]) rfl ?_ rfl) (txCons (tr3 rfl rfl ?_ ?_) txNil)
  · intro n hn
    obtain rfl : n = 48 + ((u % 10 : Nat) : Int) := by simpa using hn
    omega
  · show (itb ((u / 10 : Nat) : Int)).size + (bytesI [48 + ((u % 10 : Nat) : Int)]).size < 1000000
    rw [itb_size, bytesI_size]
    have := Lib.itoa_length_le ((u / 10 : Nat) : Int) (by omega) (by omega)
    show _ + 1 < _
    omega
  · show some (itb u) = some (itb ((u / 10 : Nat) : Int) ++ bytesI [48 + ((u % 10 : Nat) : Int)])
    rw [← one_byte (u % 10) (by omega)]
    congr 1
    apply ByteArray.ext
    apply Array.ext'
    rw [ByteArray.data_append, Array.toList_append]
    show Lib.itoa (u : Int) = Lib.itoa ((u / 10 : Nat) : Int) ++ [UInt8.ofNat (48 + u % 10)]
    rw [Lib.itoa_nonneg (u / 10), Lib.itoa_nonneg u, Lib.decDigits, dif_neg h]
abbrev RB : VRows (ivD u ((u / 10 : Nat) : Int) ((u % 10 : Nat) : Int)) noV noK where
  vvp := noVp
  ib := [(11, .oi 0, .int .i64 0, .bool false), (11, .oi 0, .int .i64 10, .bool false), (3, .oi 0, .int .i64 10, .oi 1), (4, .oi 0, .int .i64 10, .oi 2), (0, .int .i64 48, .oi 2, .oi 3)]
  ibok := ibB h hu
  ic := [(.u8, .oi 3, .oi 4)]
  icok := icB h hu
abbrev XB : Txts (ivD u ((u / 10 : Nat) : Int) ((u % 10 : Nat) : Int)) where
  str := strD u ((u / 10 : Nat) : Int) ((u % 10 : Nat) : Int)
  tr := [(6, [.oi 4], .ostr 2), (3, [.ostr 1, .ostr 2], .ostr 0)]
  trok := txB h hu
abbrev TB : Tab := (RB h hu).ttab (XB h hu)
theorem runB : @retIs (TB h hu) (oneHand 26 [.oi 1] (.ostr 1)) 500 26 [.oi 0] (.ostr 0) = true := by as_aux_lemma => kernel_rfl
theorem decB (ih : DecIs ((u / 10 : Nat) : Int)) : DecIs (u : Int) := fun w => by
  letI : Tab := TB h hu
  obtain ⟨q, k⟩ := ret_of (decHand (n := ((u / 10 : Nat) : Int)) rfl rfl ih) (runB h hu)
  exact txt_of k (args' := #[.int .i64 (u : Int)]) (vrels_cons (by simp only [vrel]; rfl) (by simp [vrels])) w ⟨fun g o a h => (by cases h), fun i m a h => (by cases h)⟩
end
theorem dec_nn : ∀ u : Nat, (u : Int) ≤ 9223372036854775807 → DecIs (u : Int) := by
  intro u
  induction u using Nat.strongRecOn with
  | _ u ih =>
    intro hu
    by_cases h : u < 10
    · exact decA h
    · exact decB h hu (ih (u / 10) (by omega) (by omega))
/- numbers below nothing -/
section
variable {u : Nat} (h : 1 ≤ u) (hu : (u : Int) ≤ 9223372036854775807)
include h hu
theorem ibC : ∀ x_ ∈ ([(11, .oi 0, .int .i64 0, .bool true)] : List BRow), IbOk (ivD (-(u : Int)) u 0) x_ :=
  ibCons (ibLt (a := -(u : Int)) (b := 0) rfl rfl (decide_eq_true (by omega))) ibNil
theorem txC : ∀ x_ ∈ ([(3, [.str 1 45, .ostr 1], .ostr 0)] : List TRow), TrOk (strD (-(u : Int)) u 0) (ivD (-(u : Int)) u 0) x_.1 x_.2.1 x_.2.2 := by
  refine txCons (tr3 (denS_str (by decide)) rfl ?_ ?_) txNil
  · show (strOf 1 45).size + (itb (u : Int)).size < 1000000
    rw [itb_size]
    have := Lib.itoa_length_le (u : Int) (by omega) (by omega)
    show 1 + _ < _
    omega
  · show some (itb (-(u : Int))) = some (strOf 1 45 ++ itb (u : Int))
    congr 1
    apply ByteArray.ext
    apply Array.ext'
    show Lib.itoa (-(u : Int)) = _
    rw [Lib.itoa_neg u h]
    simp [itb, Lib.itoa_nonneg, strOf, Go.X.dec]
abbrev RC_ : VRows (ivD (-(u : Int)) u 0) noV noK where
  vvp := noVp
  ib := [(11, .oi 0, .int .i64 0, .bool true)]
  ibok := ibC h hu
abbrev XC_ : Txts (ivD (-(u : Int)) u 0) where
  str := strD (-(u : Int)) u 0
  tr := [(3, [.str 1 45, .ostr 1], .ostr 0)]
  trok := txC h hu
abbrev iuC : List (Nat × AV × AV) := [(0, .oi 0, .oi 1)]
theorem iuC_ok : ∀ r ∈ iuC, ∀ op, ucode op = r.1 → ∃ k n v', denI (ivD (-(u : Int)) u 0) r.2.1 = some (k, n) ∧ unI op k n = some v' ∧ outI (ivD (-(u : Int)) u 0) r.2.2 v' := by
  intro r hr op ho
  obtain rfl : r = (0, .oi 0, .oi 1) := by simpa using hr
  cases op <;> first | (simp [ucode] at ho; done) | skip
  refine ⟨.i64, -(u : Int), .int .i64 (IntKind.i64.wrap (0 - -(u : Int))), rfl, rfl, ?_⟩
  show some (IntKind.i64, (u : Int)) = some (IntKind.i64, IntKind.i64.wrap (0 - -(u : Int)))
  rw [wrap64 (by omega) (by omega)]
  congr 2
  omega
abbrev TC : Tab := { (RC_ h hu).ttab (XC_ h hu) with iu := iuC, iuok := iuC_ok h hu }
theorem runC : @retIs (TC h hu) (oneHand 26 [.oi 1] (.ostr 1)) 500 26 [.oi 0] (.ostr 0) = true := by as_aux_lemma => kernel_rfl
theorem decC : DecIs (-(u : Int)) := fun w => by
  letI : Tab := TC h hu
  obtain ⟨q, k⟩ := ret_of (decHand (n := (u : Int)) rfl rfl (dec_nn u hu)) (runC h hu)
  exact txt_of k (args' := #[.int .i64 (-(u : Int))]) (vrels_cons (by simp only [vrel]; rfl) (by simp [vrels])) w ⟨fun g o a h => (by cases h), fun i m a h => (by cases h)⟩
end
theorem dec_all (n : Int) (h0 : -9223372036854775807 ≤ n) (h1 : n ≤ 9223372036854775807) : DecIs n := by
  by_cases h : 0 ≤ n
  · obtain ⟨u, rfl⟩ : ∃ u : Nat, n = u := ⟨n.toNat, by omega⟩
    exact dec_nn u h1
  · obtain ⟨u, rfl⟩ : ∃ u : Nat, n = -(u : Int) := ⟨n.natAbs, by omega⟩
    exact decC (by omega) (by omega)
/- the library's writer: its table stands in a package variable -/
noncomputable def powRow (o : Nat) : Option AV := Bool.rec none (some (.int .u64 ((10 ^ o : Nat) : Int))) (Nat.blt o 20)
noncomputable def gvP (g o : Nat) : Option AV := Bool.rec none (powRow o) (Nat.beq g 0)
theorem gvP_at {o : Nat} (h : o < 20) : gvP 0 o = some (.int .u64 ((10 ^ o : Nat) : Int)) := by
  unfold gvP powRow
  rw [show Nat.beq 0 0 = true from rfl, show Nat.blt o 20 = true from by rw [Nat.blt_eq]; exact h]
theorem gvP_end : gvP 0 20 = none := rfl
theorem tab_of [Tab] (hp : Tab.gv = gvP) (w : World) (hg : ∀ g o a, Tab.gv g o = some a → ∃ v, w.cell? ⟨g, o, none⟩ = some v ∧ (vrel (fun _ => none) a v ∧ (Tab.gv g (o + 1) = none → w.cell? ⟨g, o + 1, none⟩ = none))) :
    Lib.TabIs Tryz.prog w "internal/strconv.uint64pow10" .u64 Lib.pow10Tab := by
  have c : ∀ o, o < 20 → w.cell? ⟨0, o, none⟩ = some (.int .u64 ((10 ^ o : Nat) : Int)) := fun o ho => by
    obtain ⟨v, h1, h2, _⟩ := hg 0 o _ (by rw [hp]; exact gvP_at ho)
    simp only [vrel] at h2
    rw [h1, h2]
  have z : w.cell? ⟨0, 20, none⟩ = none := by
    obtain ⟨v, h1, h2, h3⟩ := hg 0 19 _ (by rw [hp]; exact gvP_at (by decide))
    exact h3 (by rw [hp]; exact gvP_end)
  unfold Lib.TabIs World.var?
  rw [show Tryz.prog.globalNamed "internal/strconv.uint64pow10" = some 0 from by kernel_rfl]
  simp only [Option.bind_some]
  cases hh : w.heap[0]? with
  | none =>
    have c0 := c 0 (by decide)
    simp [World.cell?, hh] at c0
  | some ob =>
    cases ob with
    | cells cs t f =>
      have c' : ∀ o, o < 20 → cs[o]? = some (.int .u64 ((10 ^ o : Nat) : Int)) := fun o ho => by
        have := c o ho
        simpa [World.cell?, hh] using this
      have z' : cs.size ≤ 20 := by simpa [World.cell?, hh] using z
      show some cs = some _
      congr 1
      have hs : cs.size = 20 := by
        have h2 : 19 < cs.size := by
          rcases Nat.lt_or_ge 19 cs.size with h | h
          · exact h
          · have := c' 19 (by decide); rw [Array.getElem?_eq_none h] at this; cases this
        omega
      apply Array.ext
      · rw [hs]; simp [Lib.pow10Tab]
      · intro i h1 h2
        have := c' i (by omega)
        rw [Array.getElem?_eq_getElem h1] at this
        simp only [Option.some.injEq] at this
        rw [this]
        simp [Lib.pow10Tab]
    | _ =>
      have c0 := c 0 (by decide)
      simp [World.cell?, hh] at c0
theorem fmtHand [Tab] {j i : Nat} {n : Int} (hp : Tab.gv = gvP) (hj : Tab.iv j = (.i64, n)) (hi : Tab.str i = itb n) (h0 : -9223372036854775808 ≤ n) (h1 : n ≤ 9223372036854775807) : HandOk Tryz.prog (oneHand 290 [.oi j, .int .i64 10] (.ostr i)) :=
  oneHand_ok fun q => callTxt_ok (vs := [.int .i64 n, .int .i64 10]) (two_is hj) (fun w hg => by
    refine (Tryz.strconv_FormatInt_10 n h0 h1 w (tab_of hp w hg)).mono ?_
    rintro e w' ⟨rfl, k, os, rfl⟩
    exact ⟨by rw [hi], Lib.below_grow _ _ (Nat.le_refl _) k os⟩) q
theorem pow_cells {w : World} (ht : Lib.TabIs Tryz.prog w "internal/strconv.uint64pow10" .u64 Lib.pow10Tab) : ∃ t f, w.heap[0]? = some (.cells (Lib.pow10Tab.map fun z => Value.int .u64 z).toArray t f) := by
  unfold Lib.TabIs World.var? at ht
  rw [show Tryz.prog.globalNamed "internal/strconv.uint64pow10" = some 0 from by kernel_rfl] at ht
  simp only [Option.bind_some] at ht
  cases hh : w.heap[0]? with
  | none => rw [hh] at ht; cases ht
  | some ob =>
    rw [hh] at ht
    cases ob with
    | cells cs t f =>
      have e : some cs = some (Lib.pow10Tab.map fun z => Value.int .u64 z).toArray := ht
      exact ⟨t, f, by rw [Option.some.inj e]⟩
    | _ => cases ht
theorem gl_pow {T : Tab} (hp : T.gv = gvP) (hf : T.fv = fun _ _ => none) {w : World} (ht : Lib.TabIs Tryz.prog w "internal/strconv.uint64pow10" .u64 Lib.pow10Tab) : @Gl T (Kp.below w.heap.size) w := by
  obtain ⟨t, f, hb⟩ := pow_cells ht
  have hlt : 0 < w.heap.size := by
    rcases Nat.lt_or_ge 0 w.heap.size with h | h
    · exact h
    · rw [Array.getElem?_eq_none h] at hb; cases hb
  have key : ∀ q, w.cell? ⟨0, q, none⟩ = ((Lib.pow10Tab.map fun z => Value.int .u64 z).toArray)[q]? := fun q => by
    unfold World.cell?
    rw [hb]
    rfl
  refine ⟨fun g o a hg => ?_, fun i m a hg => by rw [hf] at hg; cases hg⟩
  rw [hp] at hg
  unfold gvP at hg
  cases h1 : Nat.beq g 0 with
  | false => rw [h1] at hg; cases hg
  | true =>
    rw [h1] at hg
    unfold powRow at hg
    cases h2 : Nat.blt o 20 with
    | false => rw [h2] at hg; cases hg
    | true =>
      rw [h2] at hg
      cases hg
      obtain rfl := Nat.eq_of_beq_eq_true h1
      have ho : o < 20 := by rw [Nat.blt_eq] at h2; exact h2
      refine ⟨hlt, .int .u64 ((10 ^ o : Nat) : Int), ?_, by simp only [vrel], fun e => ?_⟩
      · rw [key]
        simp [Lib.pow10Tab, ho]
      · rw [key]
        rw [hp] at e
        have h3 : ¬ o + 1 < 20 := fun h => by rw [gvP_at h] at e; cases e
        rw [Array.getElem?_eq_none]
        simp [Lib.pow10Tab]
        omega
end Go.Proofs.YtbgkinjicnnkiaaGreatDoor.hl
