/-
  The laws of profile: a row that was made is set aside, and told as a list by name.
-/
import Derived.Test.YtnenjcehicaobaaPFU
import Derived.Test.YtnenjcehicaobaaXN4
set_option linter.unusedVariables false
set_option linter.unusedSimpArgs false
set_option linter.unusedSectionVars false
set_option maxRecDepth 1000000
set_option maxHeartbeats 0
namespace Go.Proofs.Ytnenjcehicaobaa.pf
open Go.X Go.RowKit Go.Proofs
/-- M lists of one row each -/
def gi (M : Nat) (ad : Nat → Nat × Nat) (ro : Nat → Row) : Gi where
  rv := fun e => if e < M then .slice (some ⟨(ad e).1, (ad e).2, none⟩) 1 1 else if 1000000 ≤ e ∧ e - 1000000 < M then .slice (some ⟨(ad (e - 1000000)).1, (ad (e - 1000000)).2, none⟩) 0 0 else .slice none 0 0
  adr := ad
  cap := fun _ => 1
  len := fun e => if e < M then 1 else 0
  row := ro
  nx := fun e => e + 1000000
theorem gi_len {M : Nat} {ad : Nat → Nat × Nat} {ro : Nat → Row} {e : Nat} : 0 < (gi M ad ro).len e ↔ e < M := by
  show 0 < (if e < M then 1 else 0) ↔ _
  split <;> simp [*]
theorem gi_ok {M : Nat} {ad : Nat → Nat × Nat} {ro : Nat → Row} (hM : M ≤ 1000000) : Gok (gi M ad ro) := by
  refine ⟨fun e h => ?_, fun e h => ?_, fun e h => ?_, fun e h => ?_, fun e h => ?_, fun e => ?_⟩
  · have h := gi_len.1 h
    show (if e < M then 1 else 0) ≤ 1
    rw [if_pos h]; exact Nat.le_refl _
  · have h := gi_len.1 h
    show (if e < M then Value.slice (some ⟨(ad e).1, (ad e).2, none⟩) 1 1 else _) = .slice (some ⟨(ad e).1, (ad e).2, none⟩) (if e < M then 1 else 0) 1
    rw [if_pos h, if_pos h]
  · have h := gi_len.1 h
    show (if e + 1000000 < M then _ else if 1000000 ≤ e + 1000000 ∧ e + 1000000 - 1000000 < M then Value.slice (some ⟨(ad (e + 1000000 - 1000000)).1, (ad (e + 1000000 - 1000000)).2, none⟩) 0 0 else _) = .slice (some (if (1 : Nat) = 1 then (⟨(ad e).1, (ad e).2, none⟩ : Addr) else _)) ((if e < M then 1 else 0) - 1) (1 - 1)
    rw [if_neg (by omega), if_pos ⟨by omega, by omega⟩, if_pos rfl, if_pos h, show e + 1000000 - 1000000 = e by omega]
  · have h := gi_len.1 h
    show (if e + 1000000 < M then 1 else 0) = (if e < M then 1 else 0) - 1
    rw [if_neg (by omega), if_pos h]
  · have h : ¬ e < M := fun c => by have := gi_len (ad := ad) (ro := ro).2 c; omega
    show ∃ b c, (if e < M then _ else if 1000000 ≤ e ∧ e - 1000000 < M then _ else _ : Value) = .slice b 0 c
    rw [if_neg h]
    split
    · exact ⟨_, _, rfl⟩
    · exact ⟨_, _, rfl⟩
  · show (if e < M then 1 else 0) < 1000000
    split <;> omega
/- more blocks are kept, from a later world on -/
structure Up (B : Kp) (w0 : World) (B' : Kp) (w1 : World) : Prop where
  k : ∀ j, B.kept j → B'.kept j
  os : w1.os = w0.os
  tape : w1.tape = w0.tape
  out : w1.output = w0.output
  sz : w0.heap.size ≤ w1.heap.size
  bl : ∀ j, B.kept j → w1.heap[j]? = w0.heap[j]?
  old : ∀ j, B.kept j → j < w0.heap.size
  g : B'.glob = B.glob
  r : B'.res = B.res
theorem Up.trans {B B' B'' : Kp} {w0 w1 w2 : World} (u : Up B w0 B' w1) (v : Up B' w1 B'' w2) : Up B w0 B'' w2 :=
  ⟨fun j h => v.k j (u.k j h), v.os.trans u.os, v.tape.trans u.tape, v.out.trans u.out, Nat.le_trans u.sz v.sz, fun j h => (v.bl j (u.k j h)).trans (u.bl j h), u.old, v.g.trans u.g, v.r.trans u.r⟩
theorem Up.base {B B' : Kp} {w0 w1 : World} {μ : M} {n : Nat} (u : Up B w0 B' w1) (h : Base B μ n) : Base B' μ n := ⟨h.names, fun x hx => h.res x (by rw [← u.r]; exact hx)⟩
theorem St.down {T : Tab} {B B' : Kp} {w0 w1 : World} {μ0 : M} {nt : Nat} {fr : Fr} {h : H} {a : Act} {w : World} (u : Up B w0 B' w1) (g : @Gl T B w0) (s : St T B' w1 μ0 nt fr h a w) : St T B w0 μ0 nt fr h a w := by
  obtain ⟨μ, hx, f, r⟩ := s
  have hf := @HR.fresh T B' w1 μ h w r
  obtain ⟨⟨e1, e2, e3, e4, e5, e6⟩, eg, eres, eblk, esep⟩ := @HR.parts B' w1 w T μ h r
  refine ⟨μ, hx, f, ⟨⟨e1.trans u.os, e2.trans u.tape, e3.trans u.out, Nat.le_trans u.sz e4, fun k hk => (e5 k (u.k k hk)).trans (u.bl k hk), u.old, g⟩, hf, fun x hr => eres x (by rw [u.r]; exact hr), fun x b hb => ?_, esep⟩⟩
  obtain ⟨l, k1, k2, k3, k4⟩ := eblk x b hb
  exact ⟨l, k1, fun o c => k2 o (u.k _ c), fun o => (by rw [← u.g]; exact k3 o), k4⟩
theorem St.up {T : Tab} {B : Kp} {w0 : World} {μ0 : M} {nt : Nat} {fr : Fr} {h : H} {a : Act} {w : World} (s : St T B w0 μ0 nt fr h a w) (E : Nat → Prop) : Up B w0 (B.also E) w := by
  obtain ⟨μ, hx, f, r⟩ := s
  obtain ⟨⟨e1, e2, e3, e4, e5, e6⟩, eg, eres, eblk, esep⟩ := @HR.parts B w0 w T μ h r
  exact ⟨fun j h => .inl h, e1, e2, e3, e4, e5, e6, rfl, rfl⟩
theorem St.gl {T : Tab} {B : Kp} {w0 : World} {μ0 : M} {nt : Nat} {fr : Fr} {h : H} {a : Act} {w : World} (s : St T B w0 μ0 nt fr h a w) : @Gl T B w0 := by
  obtain ⟨μ, hx, f, r⟩ := s
  exact (@HR.parts B w0 w T μ h r).2.1
end Go.Proofs.Ytnenjcehicaobaa.pf
