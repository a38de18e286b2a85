/-
  The reference's bytes of texts: one that goes on.
-/
import Derived.Test.YtlnkclamdiohnaaGreatDoorFPG
set_option linter.unusedVariables false
set_option linter.unusedSimpArgs false
set_option linter.unusedSectionVars false
set_option maxRecDepth 1000000
set_option maxHeartbeats 0
namespace Go.Proofs.YtlnkclamdiohnaaGreatDoor.fp
open Go.X Go.RowKit Go.Proofs
theorem tup2 [Tab] {x y : AV} {a b : Value} (hx : ∀ (μ : M) v, vrel μ x v → v = a) (hy : ∀ (μ : M) v, vrel μ y v → v = b) (μ : M) (v' : Value) (h : vrel μ (.tup [x, y]) v') : v' = .tuple #[a, b] := by
  simp only [vrel] at h
  obtain ⟨cs, rfl, v1, l1, rfl, g1, v2, l2, rfl, g2, g3⟩ := h
  have : l2 = [] := g3
  rw [this, hx μ v1 g1, hy μ v2 g2]
theorem isNils [Tab] (μ : M) (v : Value) (g : vrel μ .nils v) : v = .slice none 0 0 := by
  simp only [vrel] at g
  exact g
theorem isBool [Tab] {b : Bool} (μ : M) (v : Value) (g : vrel μ (.bool b) v) : v = .bool b := by
  simp only [vrel] at g
  exact g
theorem mk2 [Tab] {x y : AV} {a b : Value} {μ : M} (hx : vrel μ x a) (hy : vrel μ y b) : vrel μ (.tup [x, y]) (.tuple #[a, b]) := by
  simp only [vrel]
  exact ⟨[a, b], rfl, a, [b], rfl, hx, b, [], rfl, hy, rfl⟩
abbrev ivc (s : ByteArray) (k : Nat) : Nat → IntKind × Int
  | 0 => (.i64, (s.size : Int))
  | 1 => (.i64, (k : Int))
  | 2 => (.u8, byt s k)
  | 3 => (.u8, andv .u8 (byt s k) 192)
  | 4 => (.u8, andv .u8 (byt s k) 63)
  | _ => (.u16, IntKind.u16.wrap (andv .u8 (byt s k) 63))
section
variable {s : ByteArray} {k : Nat}
abbrev ca : List BRow := [(14, .oi 1, .oi 0, .bool true)]
abbrev cb : List BRow := [(14, .oi 1, .oi 0, .bool false), (5, .oi 2, .int .u8 192, .oi 3), (10, .oi 3, .int .u8 128, .bool true)]
abbrev cc : List BRow := [(14, .oi 1, .oi 0, .bool false), (5, .oi 2, .int .u8 192, .oi 3), (10, .oi 3, .int .u8 128, .bool false), (5, .oi 2, .int .u8 63, .oi 4)]
abbrev ct : List TRow := [(0, [.ostr 0], .oi 0), (1, [.ostr 0, .oi 1], .oi 2)]
theorem ca_ok (h : ¬ k < s.size) : ∀ r ∈ ca, IbOk (ivc s k) r := ibCons (ibB (op := .geq) rfl rfl (a := (k : Int)) (b := (s.size : Int)) rfl rfl (tB (decide_eq_true (by omega)))) ibNil
theorem cb_ok (h : k < s.size) (hb : (andv .u8 (byt s k) 192 != 128) = true) : ∀ r ∈ cb, IbOk (ivc s k) r := ibCons (ibB (op := .geq) rfl rfl (a := (k : Int)) (b := (s.size : Int)) rfl rfl (tB (decide_eq_false (by omega)))) (ibCons (ibAnd (k := .u8) (a := byt s k) (b := 192) rfl rfl rfl) (ibCons (ibB (op := .neq) rfl rfl (k := .u8) (a := andv .u8 (byt s k) 192) (b := 128) rfl rfl (tB hb)) ibNil))
theorem cc_ok (h : k < s.size) (hb : (andv .u8 (byt s k) 192 != 128) = false) : ∀ r ∈ cc, IbOk (ivc s k) r := ibCons (ibB (op := .geq) rfl rfl (a := (k : Int)) (b := (s.size : Int)) rfl rfl (tB (decide_eq_false (by omega)))) (ibCons (ibAnd (k := .u8) (a := byt s k) (b := 192) rfl rfl rfl) (ibCons (ibB (op := .neq) rfl rfl (k := .u8) (a := andv .u8 (byt s k) 192) (b := 128) rfl rfl (tB hb)) (ibCons (ibAnd (k := .u8) (a := byt s k) (b := 63) rfl rfl rfl) ibNil)))
theorem ct_ok (h : k < s.size) : ∀ r ∈ ct, TrOk (fun _ => s) (ivc s k) r.1 r.2.1 r.2.2 := txCons (trLen rfl) (txCons (trAt (m := k) rfl rfl h) txNil)
theorem ct0_ok : ∀ r ∈ ([(0, [.ostr 0], .oi 0)] : List TRow), TrOk (fun _ => s) (ivc s k) r.1 r.2.1 r.2.2 := txCons (trLen rfl) txNil
theorem cic_ok : ∀ r ∈ ([(.u16, .oi 4, .oi 5)] : List (IntKind × AV × AV)), IcOk' (ivc s k) r := icCons (icV (k' := .u8) (n := andv .u8 (byt s k) 63) rfl rfl) icNil
noncomputable abbrev TcA (s : ByteArray) (k : Nat) (h : ¬ k < s.size) : Tab := RT (ivc s k) (fun _ => s) ca (ca_ok h) [] icNil [(0, [.ostr 0], .oi 0)] ct0_ok [] allNil
noncomputable abbrev TcB (s : ByteArray) (k : Nat) (h : k < s.size) (hb : (andv .u8 (byt s k) 192 != 128) = true) : Tab := RT (ivc s k) (fun _ => s) cb (cb_ok h hb) [] icNil ct (ct_ok h) [] allNil
noncomputable abbrev TcC (s : ByteArray) (k : Nat) (h : k < s.size) (hb : (andv .u8 (byt s k) 192 != 128) = false) : Tab := RT (ivc s k) (fun _ => s) cc (cc_ok h hb) [(.u16, .oi 4, .oi 5)] cic_ok ct (ct_ok h) [] allNil
theorem runcA (h : ¬ k < s.size) : @retIs (TcA s k h) Hand.none 100 44 [.ostr 0, .oi 1] (.tup [.int .u16 0, .bool false]) = true := by as_aux_lemma => kernel_rfl
theorem runcB (h : k < s.size) (hb) : @retIs (TcB s k h hb) Hand.none 100 44 [.ostr 0, .oi 1] (.tup [.int .u16 0, .bool false]) = true := by as_aux_lemma => kernel_rfl
theorem runcC (h : k < s.size) (hb) : @retIs (TcC s k h hb) Hand.none 100 44 [.ostr 0, .oi 1] (.tup [.oi 5, .bool true]) = true := by as_aux_lemma => kernel_rfl
end
theorem cont_ans (s : ByteArray) (k : Nat) : ∃ (a : Int) (b : Bool), Ans 44 #[.string s, .int .i64 k] (.tuple #[.int .u16 a, .bool b]) := by
  by_cases h : k < s.size
  · cases hb : (andv .u8 (byt s k) 192 != 128) with
    | true =>
      refine ⟨0, false, ?_⟩
      letI : Tab := TcB s k h hb
      obtain ⟨q, o⟩ := ret_of (HandOk.none) (runcB h hb)
      exact ans_of o (tup2 (fun μ v g => by simp only [vrel] at g; exact g) (fun μ v g => by simp only [vrel] at g; exact g)) (vrels_cons (by simp only [vrel]; rfl) (vrels_cons (by simp only [vrel]; rfl) (by simp [vrels]))) rfl rfl
    | false =>
      refine ⟨IntKind.u16.wrap (andv .u8 (byt s k) 63), true, ?_⟩
      letI : Tab := TcC s k h hb
      obtain ⟨q, o⟩ := ret_of (HandOk.none) (runcC h hb)
      exact ans_of o (tup2 (fun μ v g => by simp only [vrel] at g; exact g) (fun μ v g => by simp only [vrel] at g; exact g)) (vrels_cons (by simp only [vrel]; rfl) (vrels_cons (by simp only [vrel]; rfl) (by simp [vrels]))) rfl rfl
  · refine ⟨0, false, ?_⟩
    letI : Tab := TcA s k h
    obtain ⟨q, o⟩ := ret_of (HandOk.none) (runcA h)
    exact ans_of o (tup2 (fun μ v g => by simp only [vrel] at g; exact g) (fun μ v g => by simp only [vrel] at g; exact g)) (vrels_cons (by simp only [vrel]; rfl) (vrels_cons (by simp only [vrel]; rfl) (by simp [vrels]))) rfl rfl
end Go.Proofs.YtlnkclamdiohnaaGreatDoor.fp
