/-
  Each operation of the abstract machine stands for the model's: make, append, copy.
-/
import Derived.Test.YtgdonkfaicdeiaaGreatDoorXOps2
set_option linter.unusedVariables false
set_option linter.unusedSimpArgs false
set_option linter.unusedSectionVars false
namespace Go.X
open Go.RowKit

variable [Tab]
variable {P : Program} {B : Kp} {w0 : World} {μ : M} {h h' : H} {w w' : World}

theorem nat_some {v : AV} {n : Nat} (e : nat? v = some n) : ∃ k, v = .int k (n : Int) := by
  unfold nat? at e
  split at e
  · cases e; exact ⟨_, rfl⟩
  · simp at e

theorem wrap_i64 {n : Nat} (hn : n < 9223372036854775808) : IntKind.i64.wrap (n : Int) = n := by
  unfold IntKind.wrap
  simp [IntKind.bits, IntKind.signed]
  omega

theorem make_sound (r : HR B w0 μ h w) {t : TypeId} {la ca : AV} {lv cv : Value} {p : Blk × Nat × Nat} {x : Nat} (hl : vrel μ la lv) (hc : vrel μ ca cv) (e : makeBlk P t la ca = some p) (hq : At B μ h x p.1 h') :
    OkV P B w0 μ w (Instr.makeSlice t lv cv) (.sl x 0 p.2.1 p.2.2) h' := by
  obtain ⟨el, hel, e⟩ := ob_some e
  obtain ⟨ln, hln, e⟩ := ob_some e
  obtain ⟨cn, hcn, e⟩ := ob_some e
  obtain ⟨s, hs, e⟩ := ob_some e
  obtain ⟨b, hb, e⟩ := ob_some e
  obtain ⟨z, hz, e⟩ := ob_some e
  obtain ⟨hcond, e⟩ := ifb_some e
  cases e
  obtain ⟨k1, rfl⟩ := nat_some hln
  obtain ⟨k2, rfl⟩ := nat_some hcn
  simp only [vrel] at hl hc
  subst hl hc
  simp only [Bool.and_eq_true, nbeq_iff, blt_iff, ble_iff] at hcond
  obtain ⟨h1, h2, h3, h4, h5⟩ := hcond
  obtain ⟨i, zv, hi, hzv, hrel⟩ := zeroOf_some (μ := μ) hz
  have hcells := vrel_cells hrel
  have hd := sliceElem_some hel
  obtain ⟨i1, hi1, rfl⟩ := sizeOf_some hs
  rw [hi] at hi1; cases hi1
  obtain ⟨i1, hi1, rfl⟩ := bytesOf_some hb
  rw [hi] at hi1; cases hi1
  have hzs : zv.cells.size = i.size := by rw [← Array.length_toList, vrels_length hcells]; exact h3
  unfold limit at h2 h5
  have hw1 := wrap_i64 (n := ln) (by omega)
  have hw2 := wrap_i64 (n := cn) (by omega)
  have hbc : i.bytes * cn ≤ 1000000 * 1000000 := Nat.mul_le_mul (by omega) (by omega)
  have hbc' : ¬ ((281474976710656 : Int) < (i.bytes : Int) * (cn : Int)) := by
    have : (i.bytes : Int) * (cn : Int) = ((i.bytes * cn : Nat) : Int) := by simp
    rw [this]; omega
  have hext : Ext μ (upm μ x ⟨w.heap.size, 0, cn * i.size⟩) := Ext.upm _ hq.new
  have key : ∀ arr : Array Value, arr = (Array.range (cn * i.size)).map (fun x => zv.cells[x % zv.cells.size]!) → HR B w0 (upm μ x ⟨w.heap.size, 0, cn * i.size⟩) h' { w with heap := w.heap.push (.cells arr el (0, 0)) } := by
    intro arr harr
    refine r.alloc hq rfl (below_push w _) (Nat.le_refl _) ?_
    refine ⟨arr, el, (0, 0), by simp, by subst harr; simp, fun i _ => by simp, by simp, fun _ => rfl, ?_⟩
    intro j a hj ha
    have hlt : j % z.cells.length < z.cells.length := Nat.mod_lt _ (by omega)
    have ha' : z.cells[j % z.cells.length]? = some a := ha
    obtain ⟨y, hy1, hy2⟩ := vrels_get hcells ha'
    refine ⟨y, ?_, vrel.ext hext _ _ hy2⟩
    subst harr
    rw [Array.getElem?_toList] at hy1
    have : zv.cells[j % i.size]! = y := by rw [getElem!_def, ← h3, hy1]
    simp [hj, hzs, this]
  have hlc : ¬ ((cn : Int) < (ln : Int)) := by omega
  have hn1 : ¬ ((cn : Int) < 0) := by omega
  have hn2 : ¬ ((ln : Int) < 0) := by omega
  by_cases h0 : cn * i.size = 0
  · refine ⟨.slice (some ⟨w.heap.size, 0, none⟩) ln cn, _, _, ?_, hext, ?_, key _ rfl⟩
    · simp [Instr.makeSlice, run_underlying hd, asInt, asIntOf, run_typeInfo hi, hw1, hw2, hbc', hlc, hn1, hn2, sizeOf, newRow, h0, Array.range_zero']
    · simp only [vrel]; exact ⟨⟨w.heap.size, 0, cn * i.size⟩, by simp [upm], rfl⟩
  · refine ⟨.slice (some ⟨w.heap.size, 0, none⟩) ln cn, _, _, ?_, hext, ?_, key _ rfl⟩
    · simp [Instr.makeSlice, run_underlying hd, asInt, asIntOf, run_typeInfo hi, hw1, hw2, hbc', hlc, hn1, hn2, sizeOf, newRow, h0, run_zeroValue hi hzv]
    · simp only [vrel]; exact ⟨⟨w.heap.size, 0, cn * i.size⟩, by simp [upm], rfl⟩

/- what is appended or copied -/
theorem dec_take : ∀ (n m c : Nat), n ≤ m → dec n c = (dec m c).take n
  | 0, _, _, _ => by simp [dec]
  | n + 1, 0, _, h => by omega
  | n + 1, m + 1, c, h => by simp only [dec, List.take_succ_cons]; rw [← dec_take n m _ (by omega)]

theorem byteCells_sound : ∀ (n c : Nat), vrels μ (byteCells n c) ((dec n c).map fun (b : Nat) => Value.int .u8 (b : Int))
  | 0, c => by simp [byteCells, dec, vrels]
  | n + 1, c => by
    simp only [byteCells, dec, List.map_cons]
    exact vrels_cons (by simp [vrel]) (byteCells_sound n _)

theorem bytes_of_str (n m c : Nat) (hnm : n ≤ m) : (((strOf m c).extract 0 n).data.map fun b => Value.int .u8 (b.toNat : Int)).toList = (dec n c).map fun (b : Nat) => Value.int .u8 (b : Int) := by
  have e : ((strOf m c).extract 0 n).data.toList = (dec n c).map UInt8.ofNat := by
    rw [ByteArray.data_extract]
    simp [strOf, dec_take n m c hnm]
  rw [Array.toList_map, e, List.map_map]
  apply List.map_congr_left
  intro b hb
  have := dec_lt n c b hb
  simp only [Function.comp]
  rw [UInt8.toNat_ofNat']
  congr 2
  omega

theorem src_sound (r : HR B w0 μ h w) {z n m : Nat} {v : AV} {x : Value} {src : List AV} (hv : vrel μ v x) (hm : srcLen v = some m) (hnm : n ≤ m) (e : srcCells h z n v = some src) :
    ∃ vs, (∀ W : World, (∀ a, W.cell? a = w.cell? a) → (Builtin.firstCells z n x).run P W = .ok ⟨vs⟩ W) ∧ vrels μ src vs ∧ vs.length = n * z ∧ (∀ W : World, (Builtin.lenOf x).run P W = .ok m W) := by
  cases v <;> simp only [srcLen] at hm <;> simp only [srcCells] at e <;> first | (simp at hm; done) | skip
  case nils =>
    cases hm
    simp only [vrel] at hv; subst hv
    obtain ⟨h0, e⟩ := ifb_some e
    cases e
    have h0 := nbeq_iff.1 h0
    subst h0
    exact ⟨[], fun W _ => by simp [Builtin.firstCells], by simp [vrels], by simp, fun W => by simp [Builtin.lenOf]⟩
  case es =>
    cases hm
    simp only [vrel] at hv
    obtain ⟨b, c, rfl⟩ := hv
    obtain ⟨h0, e⟩ := ifb_some e
    cases e
    have h0 := nbeq_iff.1 h0
    subst h0
    exact ⟨[], fun W _ => by simp [Builtin.firstCells, loadCells]; rfl, by simp [vrels], by simp, fun W => by simp [Builtin.lenOf]⟩
  case sl x o n' c =>
    cases hm
    simp only [vrel] at hv
    obtain ⟨l, hl, rfl⟩ := hv
    obtain ⟨vs, h1, h2, h3⟩ := r.loads hl (n * z) o src e
    exact ⟨vs, fun W hW => by simp only [Builtin.firstCells]; exact cell_loads h2 (fun i hi => by rw [hW]; exact h3 i hi), h1, h2, fun W => by simp [Builtin.lenOf]⟩
  case so x o n' c =>
    cases hm
    simp only [vrel] at hv
    obtain ⟨l, cc, hl, _, _, rfl⟩ := hv
    obtain ⟨vs, h1, h2, h3⟩ := r.loads hl (n * z) o src e
    exact ⟨vs, fun W hW => by simp only [Builtin.firstCells]; exact cell_loads h2 (fun i hi => by rw [hW]; exact h3 i hi), h1, h2, fun W => by simp [Builtin.lenOf]⟩
  case str m' c =>
    cases hm
    simp only [vrel] at hv
    obtain ⟨hc, rfl⟩ := hv
    obtain ⟨hcond, e⟩ := ifb_some e
    cases e
    simp only [Bool.and_eq_true, nbeq_iff, ble_iff] at hcond
    obtain ⟨rfl, hle⟩ := hcond
    refine ⟨_, fun W _ => ?_, byteCells_sound n c, by simp [dec_length], fun W => by simp [Builtin.lenOf, strOf_size]⟩
    simp only [Builtin.firstCells, Sem.run_pure]
    congr 1
    apply Array.ext'
    rw [bytes_of_str n m c hle]

theorem zeroCells_sound {z : AV} {zv : Value} (hz : vrel μ z zv) (h0 : 0 < z.cells.length) (n : Nat) : vrels μ (cyc z.cells 0 (n * z.cells.length)) (Builtin.zeroCells zv.cells n).toList := by
  have hl : zv.cells.size = z.cells.length := by rw [← Array.length_toList, vrels_length (vrel_cells hz)]
  have := cyc_sound (vrel_cells hz) h0 (n * z.cells.length) 0
  unfold Builtin.zeroCells
  rw [hl]
  have e : ((List.range' 0 (n * z.cells.length)).map fun j => zv.cells[j % zv.cells.size]!) = ((Array.range (n * z.cells.length)).map (fun i => zv.cells[i % z.cells.length]!)).toList := by
    simp [List.range_eq_range', hl]
  rw [← e]; exact this

/-- How many are appended, and their cells: a slice's, a string's, or so many zeros. -/
structure Src (P : Program) (w : World) (e xt : TypeId) (z : Value) (size : Nat) (x : Value) (n : Nat) (news : Array Value) : Prop where
  kind : (∃ d, P.underlying xt = some d ∧ isInt d = some false ∧ (Builtin.lenOf x).run P w = .ok n w ∧ (Builtin.firstCells size n x).run P w = .ok news w ∧ (Builtin.firstCells size n x).run P w.drew = .ok news w.drew) ∨
    (∃ k k', P.underlying xt = some (.int k') ∧ x = .int k (n : Int) ∧ news = Builtin.zeroCells z.cells n)
  small : n < 1000000

theorem run_append_room {st xt ty e : TypeId} {i : TypeInfo} {z : Value} {x : Value} {n : Nat} {news : Array Value} {base : Option Addr} {sLen sCap : Nat} (hst : P.underlying st = some (.slice e)) (hi : P.info? e = some i) (hz : i.zero = some z)
    (hs : Src P w e xt z i.size x n news) (hb : i.bytes < 100000) (hsz : 0 < i.size) (hroom : sLen + n ≤ sCap) {w' : World}
    (hstore : match base with | none => w' = w | some a => (storeCells (a.add (sLen * i.size)) news.toList).run P w = .ok () w') :
    (Builtin.append_ #[st, xt] ty #[.slice base sLen sCap, x]).run P w = .ok (.slice base (sLen + n) sCap) w' := by
  have hsm := hs.small
  have hbn : ¬ ((281474976710656 : Int) < (n : Int) * (i.bytes : Int)) := by
    have : n * i.bytes ≤ 1000000 * 100000 := Nat.mul_le_mul (by omega) (by omega)
    have e : (n : Int) * (i.bytes : Int) = ((n * i.bytes : Nat) : Int) := by simp
    rw [e]; omega
  rcases hs.kind with ⟨d, hd, hnint, hl, hc, hc1⟩ | ⟨k, k', hd, rfl, rfl⟩
  · have hm : ((underlying xt).run P w) = .ok d w := run_underlying hd w
    have hd2 : (∃ e', d = .slice e') ∨ d = .string := by cases d <;> simp [isInt] at hnint <;> simp
    cases base with
    | none =>
      subst hstore
      rcases hd2 with ⟨e', rfl⟩ | rfl <;> simp [Builtin.append_, run_underlying hst, sizeOf, run_typeInfo hi, hm, hl, hc, hroom]
    | some a =>
      simp only at hstore
      rcases hd2 with ⟨e', rfl⟩ | rfl <;> simp [Builtin.append_, run_underlying hst, sizeOf, run_typeInfo hi, hm, hl, hc, hroom, hstore]
  · have hw1 := wrap_i64 (n := n) (by omega)
    have hneg : ¬ ((n : Int) < 0) := by omega
    cases base with
    | none =>
      subst hstore
      by_cases h0 : n = 0
      · subst h0
        have hw2 : IntKind.i64.wrap 0 = 0 := by simpa using hw1
        simp only [Nat.add_zero] at hroom ⊢
        simp [Builtin.append_, run_underlying hst, sizeOf, run_typeInfo hi, run_underlying hd, asInt, asIntOf, hw2, hroom, Builtin.zeroCells]
      · have h0' : ¬ (n * i.size = 0) := Nat.mul_ne_zero h0 (by omega)
        simp [Builtin.append_, run_underlying hst, sizeOf, run_typeInfo hi, run_underlying hd, asInt, asIntOf, hw1, hneg, hbn, hroom, h0', run_zeroValue hi hz]
    | some a =>
      simp only at hstore
      by_cases h0 : n = 0
      · subst h0
        have hw2 : IntKind.i64.wrap 0 = 0 := by simpa using hw1
        have he : (Builtin.zeroCells z.cells 0).toList = [] := by simp [Builtin.zeroCells]
        rw [he] at hstore
        simp only [Nat.add_zero] at hroom ⊢
        simp [Builtin.append_, run_underlying hst, sizeOf, run_typeInfo hi, run_underlying hd, asInt, asIntOf, hw2, hroom, Builtin.zeroCells, hstore]
      · have h0' : ¬ (n * i.size = 0) := Nat.mul_ne_zero h0 (by omega)
        simp [Builtin.append_, run_underlying hst, sizeOf, run_typeInfo hi, run_underlying hd, asInt, asIntOf, hw1, hneg, hbn, hroom, h0', run_zeroValue hi hz, hstore]

theorem run_append_new {st xt ty e : TypeId} {i : TypeInfo} {z : Value} {x : Value} {n : Nat} {news olds : Array Value} {base : Option Addr} {sLen sCap : Nat} (hst : P.underlying st = some (.slice e)) (hi : P.info? e = some i) (hz : i.zero = some z)
    (hs : Src P w e xt z i.size x n news) (hb : i.bytes < 100000) (hb0 : 0 < i.bytes) (hsz : 0 < i.size) (hroom : sCap < sLen + n) (hlim : sLen + n < 1000000)
    (ho : (Builtin.firstCells i.size sLen (.slice base sLen sCap)).run P w.drew = .ok olds w.drew) :
    ∃ cap, sLen + n ≤ cap ∧ (Builtin.append_ #[st, xt] ty #[.slice base sLen sCap, x]).run P w =
      .ok (.slice (some ⟨w.heap.size, 0, none⟩) (sLen + n) cap) (w.drew.alloc (.cells (olds ++ news ++ Builtin.zeroCells z.cells (cap - (sLen + n))) e)) := by
  have hsm := hs.small
  refine ⟨(sLen + n) + w.tape w.drawn (.appendCap (sLen + n) sCap e) % (2 ^ 63 - (sLen + n)), by omega, ?_⟩
  have hbn : ¬ ((281474976710656 : Int) < (n : Int) * (i.bytes : Int)) := by
    have : n * i.bytes ≤ 1000000 * 100000 := Nat.mul_le_mul (by omega) (by omega)
    have e : (n : Int) * (i.bytes : Int) = ((n * i.bytes : Nat) : Int) := by simp
    rw [e]; omega
  have hcap : ¬ (281474976710656 < Builtin.nextslicecap (sLen + n) sCap * i.bytes) := by
    have h1 := nextslicecap_le hroom
    have : Builtin.nextslicecap (sLen + n) sCap * i.bytes ≤ 2000000 * 100000 := Nat.mul_le_mul (by omega) (by omega)
    omega
  have hn : ¬ (sLen + n ≤ sCap) := by omega
  have h63 : ¬ (9223372036854775807 < (sLen : Int) + (n : Int)) := by omega
  have hbne : ¬ (i.bytes = 0) := by omega
  rcases hs.kind with ⟨d, hd, hnint, hl, hc, hc1⟩ | ⟨k, k', hd, rfl, rfl⟩
  · have hm : ((underlying xt).run P w) = .ok d w := run_underlying hd w
    have hd2 : (∃ e', d = .slice e') ∨ d = .string := by cases d <;> simp [isInt] at hnint <;> simp
    rcases hd2 with ⟨e', rfl⟩ | rfl <;>
      simp [Builtin.append_, run_underlying hst, sizeOf, run_typeInfo hi, hm, hl, hc1, ho, hn, h63, hcap, hbne, Question.forced, Question.cut, run_zeroValue hi hz, newRow]
  · have hw1 := wrap_i64 (n := n) (by omega)
    have hneg : ¬ ((n : Int) < 0) := by omega
    by_cases h0 : n = 0
    · subst h0
      have hw2 : IntKind.i64.wrap 0 = 0 := by simpa using hw1
      have he : Builtin.zeroCells z.cells 0 = #[] := by simp [Builtin.zeroCells]
      simp only [Nat.add_zero] at hn hcap h63 ⊢
      have h63' : ¬ (9223372036854775807 < (sLen : Int)) := by omega
      simp [Builtin.append_, run_underlying hst, sizeOf, run_typeInfo hi, run_underlying hd, asInt, asIntOf, hw2, he, ho, hn, h63', hcap, hbne, Question.forced, Question.cut, run_zeroValue hi hz, newRow]
    · have h0' : ¬ (n * i.size = 0) := Nat.mul_ne_zero h0 (by omega)
      simp [Builtin.append_, run_underlying hst, sizeOf, run_typeInfo hi, run_underlying hd, asInt, asIntOf, hw1, hneg, hbn, h0', ho, hn, h63, hcap, hbne, Question.forced, Question.cut, run_zeroValue hi hz, newRow]
end Go.X
