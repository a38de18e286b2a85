/-
  The law NativePrint: its loop, by induction.
-/
import Derived.Test.YtkkaifeiopjjdaaGreatDoorNPM
set_option linter.unusedVariables false
set_option linter.unusedSimpArgs false
set_option linter.unusedSectionVars false
set_option maxRecDepth 1000000
set_option maxHeartbeats 0
namespace Go.Proofs.YtkkaifeiopjjdaaGreatDoor.np
open Go.X Go.RowKit Go.Proofs
/-- an element of the slice of texts -/
structure ElOk (e : El) : Prop where
  a60 : e.la ≤ 60
  hA : ∀ m, 0 ≤ e.A m ∧ e.A m < 65536
  k4 : e.ek < 4
  k0 : e.ek = 0 → 0 < e.la
  k1 : e.ek = 1 → e.la = 60 ∧ 60 < e.fa ∧ e.fa < 9223372036854775808
  k2 : 2 ≤ e.ek → e.la = 0
structure UOk (u : Ue) : Prop where
  l4 : u.lu < 9223372036854775808
  el : ∀ j, ElOk (u.us j)
structure Cr (c : Co) : Prop where
  t0 : 2 ≤ c.tot
  t2 : c.tot ≤ 2048
  cn : c.cnt = c.i + 1
  i2 : c.i ≤ 120
  d2 : c.ld ≤ 4096
  w0 : c.W 0 = 0#64
  s0 : c.S 0 = 0
  sm : ∀ m, m < c.cnt → c.S m < c.tot
  inc : ∀ m k, m < k → k < c.cnt → c.S m < c.S k
  D : ∀ m, 0 ≤ c.D m ∧ c.D m < 256
section
variable {u : Ue} {c : Co}
theorem Cr.ar (r : Cr c) (o : UOk u) : Ar (mkP u c) where
  a60 := (o.el _).a60
  hA := (o.el _).hA
  t0 := r.t0
  t2 := r.t2
  c0 := by show 1 ≤ c.cnt; have := r.cn; omega
  c2 := by show c.cnt ≤ 200; have := r.cn; have := r.i2; omega
  d2 := r.d2
  w0 := r.w0
  s0 := r.s0
  sm := r.sm
  inc := r.inc
theorem bt_b {l : List Int} (h : ∀ b ∈ l, 0 ≤ b ∧ b < 256) (m : Nat) : 0 ≤ bt l m ∧ bt l m < 256 := by
  unfold bt
  rw [List.getD_eq_getElem?_getD]
  cases e : l[m]? with
  | none => exact ⟨by decide, by decide⟩
  | some b => exact h b (List.mem_of_getElem? e)
theorem E_b (o : UOk u) (m : Nat) : 0 ≤ (mkP u c).E m ∧ (mkP u c).E m < 256 :=
  bt_b (outL_b (fun m => ((o.el _).hA m).1) (fun m => ((o.el _).hA m).2) _ _ _ _ (fun b h => by cases h)) m
theorem Cr.nx (r : Cr c) (o : UOk u) {l : Bool} (hi : c.i < 120) (hf : (mkP u c).t1 ≤ 2048) (hd : c.ld + ((mkP u c).lb + bif l then 1 else 0) ≤ 4096) : Cr (np.nx u c l) where
  t0 := by have := t1_gt (mkP u c); have := r.t0; show 2 ≤ (mkP u c).t1; have e : (mkP u c).tot = c.tot := rfl; omega
  t2 := hf
  cn := by show c.cnt + 1 = c.i + 1 + 1; rw [r.cn]
  i2 := hi
  d2 := hd
  w0 := by show (mkP u c).w _ 0 = 0#64; rw [w_lo _ _ (by have := r.t0; show 0 < c.tot; omega)]; exact r.w0
  s0 := S1_0 (r.ar o)
  sm := fun m hm => by
    have h1 := t1_gt (mkP u c)
    have hm : m < c.cnt + 1 := hm
    show (if m < c.cnt then c.S m else (c.tot : Int)) < ((mkP u c).t1 : Int)
    have e : (mkP u c).tot = c.tot := rfl
    split
    · have := r.sm m (by assumption); omega
    · omega
  inc := S1_inc (r.ar o)
  D := fun m => by
    show 0 ≤ cat c.ld c.D _ m ∧ cat c.ld c.D _ m < 256
    unfold cat
    split
    · exact r.D m
    · cases l with
      | false => exact E_b o _
      | true =>
        show 0 ≤ (if _ then (mkP u c).E _ else 10) ∧ (if _ then (mkP u c).E _ else 10) < 256
        split
        · exact E_b o _
        · exact ⟨by decide, by decide⟩
theorem ekOf (o : UOk u) : ∀ k, (mkP u c).ek = k → EkC (mkP u c) k
  | 0, h => (o.el _).k0 h
  | 1, h => (o.el _).k1 h
  | k + 2, h => (o.el _).k2 (by have h : (elAt u c).ek = k + 2 := h; show 2 ≤ (elAt u c).ek; omega)
theorem lb_le (o : UOk u) : (mkP u c).lb ≤ 240 := by
  have h1 := (o.el (c.i % u.lu)).a60
  have h2 := outL_len (elAt u c).A (elAt u c).la ((elAt u c).la + 1) 0 [] (Nat.zero_le _) (Nat.zero_le _)
  have h2 : (mkP u c).lb ≤ 4 * (elAt u c).la := h2
  have h1 : (elAt u c).la ≤ 60 := h1
  omega
structure Inv (c : Co) (z : Nat) (n l : Bool) : Prop where
  cr : Cr c
  z0 : z = 0 → c.tot = 2 ∧ c.ld = 0
  z2 : z < 2
  n : n = true ↔ c.ld = 0
  l : z = 1 → l = true → 0 < c.ld
variable {B : Kp} {w0 : World} {μ : M} {a : Act} {w : World}
/-- what is there when the loop is left -/
def Qd (u : Ue) (B : Kp) (w0 : World) (μ : M) (x : Exit) (a : Act) (w : World) : Prop :=
  (x = .exit 0 ∧ ∃ c n full, Cr c ∧ (n = false → 0 < c.ld) ∧ (n = true → full = false) ∧ SX u c n full B w0 μ a w) ∨ (x = .ret ∧ Yes Tryz.prog Tryz.f5 B w0 .ret a w)
/-- a round -/
def Nxt (u : Ue) (c : Co) (l : Bool) (B : Kp) (w0 : World) (μ : M) (x : Exit) (a : Act) (w : World) : Prop := x = .normal ∧ ∃ n2, (n2 = true ↔ (nx u c l).ld = 0) ∧ SA u (nx u c l) 1 n2 l B w0 μ a w
theorem nx_ld {l n2 : Bool} (h : c.ld + ((mkP u c).lb + bif l then 1 else 0) = 0 ↔ n2 = true) : n2 = true ↔ (nx u c l).ld = 0 := h.symm
theorem wpN {l n2 : Bool} (hn : n2 = true ↔ (nx u c l).ld = 0) (h : aL.wp Tryz.prog (fun x a' w' => x = .normal ∧ SA u (nx u c l) 1 n2 l B w0 μ a' w') a w) : aL.wp Tryz.prog (Nxt u c l B w0 μ) a w :=
  wp_mono h fun x a' w' q => ⟨q.1, n2, hn, q.2⟩
theorem go0nf (hb : Base B μ 20000) (o : UOk u) (r : Cr c) (g : Go (mkP u c)) (hf : (mkP u c).t1 ≤ 2048) (hn : c.ld = 0) (hd : (mkP u c).ld + ((mkP u c).lb + 0) ≤ 4096) (G : @Gl (TP (mkP u (nx u c false))) B w0) (s : SA u c 0 true false B w0 μ a w) : aL.wp Tryz.prog (Nxt u c false B w0 μ) a w := by
  have h := r.ar o
  have k4 : (mkP u c).ek < 4 := (o.el _).k4
  have e1 : (mkP u c).ld = c.ld := rfl
  have hk : ∃ k, (mkP u c).ek = k := ⟨_, rfl⟩
  obtain ⟨k, hk⟩ := hk
  rw [hk] at k4
  have q := ekOf o k hk
  match k, k4, hk, q with
  | 0, _, hk, q => exact wpN (n2 := false) (by have h6 := lbpos h (mkB u c) q; exact ⟨fun e => (by cases e), fun e => by have e : c.ld + ((mkP u c).lb + 0) = 0 := e; omega⟩) (sg0nf0 hb h g hk q hf hn hd G s)
  | 1, _, hk, q => exact wpN (n2 := false) (by have h6 := lbpos h (mkB u c) q; exact ⟨fun e => (by cases e), fun e => by have e : c.ld + ((mkP u c).lb + 0) = 0 := e; omega⟩) (sg0nf1 hb h g hk q hf hn hd G s)
  | 2, _, hk, q => exact wpN (n2 := true) (by have h6 := lb0 (mkB u c) q; exact ⟨fun _ => (by show c.ld + ((mkP u c).lb + 0) = 0; omega), fun _ => rfl⟩) (sg0nf2 hb h g hk q hf hn hd G s)
  | 3, _, hk, q => exact wpN (n2 := true) (by have h6 := lb0 (mkB u c) q; exact ⟨fun _ => (by show c.ld + ((mkP u c).lb + 0) = 0; omega), fun _ => rfl⟩) (sg0nf3 hb h g hk q hf hn hd G s)
  | _ + 4, k4, _, _ => omega
theorem go0nt (hb : Base B μ 20000) (o : UOk u) (r : Cr c) (g : Go (mkP u c)) (hf : (mkP u c).t1 ≤ 2048) (hn : c.ld = 0) (hd : (mkP u c).ld + ((mkP u c).lb + 1) ≤ 4096) (G : @Gl (TP (mkP u (nx u c true))) B w0) (s : SA u c 0 true true B w0 μ a w) : aL.wp Tryz.prog (Nxt u c true B w0 μ) a w := by
  have h := r.ar o
  have k4 : (mkP u c).ek < 4 := (o.el _).k4
  have e1 : (mkP u c).ld = c.ld := rfl
  have hk : ∃ k, (mkP u c).ek = k := ⟨_, rfl⟩
  obtain ⟨k, hk⟩ := hk
  rw [hk] at k4
  have q := ekOf o k hk
  match k, k4, hk, q with
  | 0, _, hk, q => exact wpN (n2 := false) (by have h6 := lbpos h (mkB u c) q; exact ⟨fun e => (by cases e), fun e => by have e : c.ld + ((mkP u c).lb + 1) = 0 := e; omega⟩) (sg0nt0 hb h g hk q hf hn hd G s)
  | 1, _, hk, q => exact wpN (n2 := false) (by have h6 := lbpos h (mkB u c) q; exact ⟨fun e => (by cases e), fun e => by have e : c.ld + ((mkP u c).lb + 1) = 0 := e; omega⟩) (sg0nt1 hb h g hk q hf hn hd G s)
  | 2, _, hk, q => exact wpN (n2 := false) (by have h6 := lb0 (mkB u c) q; exact ⟨fun e => (by cases e), fun e => by have e : c.ld + ((mkP u c).lb + 1) = 0 := e; omega⟩) (sg0nt2 hb h g hk q hf hn hd G s)
  | 3, _, hk, q => exact wpN (n2 := false) (by have h6 := lb0 (mkB u c) q; exact ⟨fun e => (by cases e), fun e => by have e : c.ld + ((mkP u c).lb + 1) = 0 := e; omega⟩) (sg0nt3 hb h g hk q hf hn hd G s)
  | _ + 4, k4, _, _ => omega
theorem go1nf (hb : Base B μ 20000) (o : UOk u) (r : Cr c) (g : Go (mkP u c)) (hf : (mkP u c).t1 ≤ 2048) (hn : c.ld = 0) (hd : (mkP u c).ld + ((mkP u c).lb + 0) ≤ 4096) (G : @Gl (TP (mkP u (nx u c false))) B w0) (s : SA u c 1 true false B w0 μ a w) : aL.wp Tryz.prog (Nxt u c false B w0 μ) a w := by
  have h := r.ar o
  have k4 : (mkP u c).ek < 4 := (o.el _).k4
  have e1 : (mkP u c).ld = c.ld := rfl
  have hk : ∃ k, (mkP u c).ek = k := ⟨_, rfl⟩
  obtain ⟨k, hk⟩ := hk
  rw [hk] at k4
  have q := ekOf o k hk
  match k, k4, hk, q with
  | 0, _, hk, q => exact wpN (n2 := false) (by have h6 := lbpos h (mkB u c) q; exact ⟨fun e => (by cases e), fun e => by have e : c.ld + ((mkP u c).lb + 0) = 0 := e; omega⟩) (sg1nf0 hb h g hk q hf hn hd G s)
  | 1, _, hk, q => exact wpN (n2 := false) (by have h6 := lbpos h (mkB u c) q; exact ⟨fun e => (by cases e), fun e => by have e : c.ld + ((mkP u c).lb + 0) = 0 := e; omega⟩) (sg1nf1 hb h g hk q hf hn hd G s)
  | 2, _, hk, q => exact wpN (n2 := true) (by have h6 := lb0 (mkB u c) q; exact ⟨fun _ => (by show c.ld + ((mkP u c).lb + 0) = 0; omega), fun _ => rfl⟩) (sg1nf2 hb h g hk q hf hn hd G s)
  | 3, _, hk, q => exact wpN (n2 := true) (by have h6 := lb0 (mkB u c) q; exact ⟨fun _ => (by show c.ld + ((mkP u c).lb + 0) = 0; omega), fun _ => rfl⟩) (sg1nf3 hb h g hk q hf hn hd G s)
  | _ + 4, k4, _, _ => omega
theorem go1vf (hb : Base B μ 20000) (o : UOk u) (r : Cr c) (g : Go (mkP u c)) (hf : (mkP u c).t1 ≤ 2048) (h0 : 0 < c.ld) (hd : (mkP u c).ld + ((mkP u c).lb + 0) ≤ 4096) (G : @Gl (TP (mkP u (nx u c false))) B w0) (s : SA u c 1 false false B w0 μ a w) : aL.wp Tryz.prog (Nxt u c false B w0 μ) a w := by
  have h := r.ar o
  have k4 : (mkP u c).ek < 4 := (o.el _).k4
  have e1 : (mkP u c).ld = c.ld := rfl
  have hk : ∃ k, (mkP u c).ek = k := ⟨_, rfl⟩
  obtain ⟨k, hk⟩ := hk
  rw [hk] at k4
  have q := ekOf o k hk
  match k, k4, hk, q with
  | 0, _, hk, q => exact wpN (n2 := false) (by have h6 := lbpos h (mkB u c) q; exact ⟨fun e => (by cases e), fun e => by have e : c.ld + ((mkP u c).lb + 0) = 0 := e; omega⟩) (sg1vf0 hb h g hk q hf hd G s)
  | 1, _, hk, q => exact wpN (n2 := false) (by have h6 := lbpos h (mkB u c) q; exact ⟨fun e => (by cases e), fun e => by have e : c.ld + ((mkP u c).lb + 0) = 0 := e; omega⟩) (sg1vf1 hb h g hk q hf hd G s)
  | 2, _, hk, q => exact wpN (n2 := false) (by have h6 := lb0 (mkB u c) q; exact ⟨fun e => (by cases e), fun e => by have e : c.ld + ((mkP u c).lb + 0) = 0 := e; omega⟩) (sg1vf2 hb h g hk q hf hd G s)
  | 3, _, hk, q => exact wpN (n2 := false) (by have h6 := lb0 (mkB u c) q; exact ⟨fun e => (by cases e), fun e => by have e : c.ld + ((mkP u c).lb + 0) = 0 := e; omega⟩) (sg1vf3 hb h g hk q hf hd G s)
  | _ + 4, k4, _, _ => omega
theorem go1vt (hb : Base B μ 20000) (o : UOk u) (r : Cr c) (g : Go (mkP u c)) (hf : (mkP u c).t1 ≤ 2048) (h0 : 0 < c.ld) (hd : (mkP u c).ld + ((mkP u c).lb + 1) ≤ 4096) (G : @Gl (TP (mkP u (nx u c true))) B w0) (s : SA u c 1 false true B w0 μ a w) : aL.wp Tryz.prog (Nxt u c true B w0 μ) a w := by
  have h := r.ar o
  have k4 : (mkP u c).ek < 4 := (o.el _).k4
  have e1 : (mkP u c).ld = c.ld := rfl
  have hk : ∃ k, (mkP u c).ek = k := ⟨_, rfl⟩
  obtain ⟨k, hk⟩ := hk
  rw [hk] at k4
  have q := ekOf o k hk
  match k, k4, hk, q with
  | 0, _, hk, q => exact wpN (n2 := false) (by have h6 := lbpos h (mkB u c) q; exact ⟨fun e => (by cases e), fun e => by have e : c.ld + ((mkP u c).lb + 1) = 0 := e; omega⟩) (sg1vt0 hb h g hk q hf hd G s)
  | 1, _, hk, q => exact wpN (n2 := false) (by have h6 := lbpos h (mkB u c) q; exact ⟨fun e => (by cases e), fun e => by have e : c.ld + ((mkP u c).lb + 1) = 0 := e; omega⟩) (sg1vt1 hb h g hk q hf hd G s)
  | 2, _, hk, q => exact wpN (n2 := false) (by have h6 := lb0 (mkB u c) q; exact ⟨fun e => (by cases e), fun e => by have e : c.ld + ((mkP u c).lb + 1) = 0 := e; omega⟩) (sg1vt2 hb h g hk q hf hd G s)
  | 3, _, hk, q => exact wpN (n2 := false) (by have h6 := lb0 (mkB u c) q; exact ⟨fun e => (by cases e), fun e => by have e : c.ld + ((mkP u c).lb + 1) = 0 := e; omega⟩) (sg1vt3 hb h g hk q hf hd G s)
  | _ + 4, k4, _, _ => omega
theorem fuf (hb : Base B μ 20000) (o : UOk u) (r : Cr c) (g : Go (mkP u c)) (hf : (mkP u c).t1 ≤ 2048) (hd : 4096 < (mkP u c).ld + ((mkP u c).lb + 0)) (s : SA u c 1 false false B w0 μ a w) : aL.wp Tryz.prog (fun x a' w' => x = .exit 0 ∧ SX u c false true B w0 μ a' w') a w := by
  have h := r.ar o
  have k4 : (mkP u c).ek < 4 := (o.el _).k4
  have e1 : (mkP u c).ld = c.ld := rfl
  have h2 := r.d2
  have hk : ∃ k, (mkP u c).ek = k := ⟨_, rfl⟩
  obtain ⟨k, hk⟩ := hk
  rw [hk] at k4
  have q := ekOf o k hk
  match k, k4, hk, q with
  | 0, _, hk, q => exact sf1vf0 hb h g hk q hf hd s
  | 1, _, hk, q => exact sf1vf1 hb h g hk q hf hd s
  | 2, _, hk, q => have h6 := lb0 (mkB u c) q; omega
  | 3, _, hk, q => have h6 := lb0 (mkB u c) q; omega
  | _ + 4, k4, _, _ => omega
theorem fut (hb : Base B μ 20000) (o : UOk u) (r : Cr c) (g : Go (mkP u c)) (hf : (mkP u c).t1 ≤ 2048) (hd : 4096 < (mkP u c).ld + ((mkP u c).lb + 1)) (s : SA u c 1 false true B w0 μ a w) : aL.wp Tryz.prog (fun x a' w' => x = .exit 0 ∧ SX u c false true B w0 μ a' w') a w := by
  have h := r.ar o
  have k4 : (mkP u c).ek < 4 := (o.el _).k4
  have e1 : (mkP u c).ld = c.ld := rfl
  have h2 := r.d2
  have hk : ∃ k, (mkP u c).ek = k := ⟨_, rfl⟩
  obtain ⟨k, hk⟩ := hk
  rw [hk] at k4
  have q := ekOf o k hk
  match k, k4, hk, q with
  | 0, _, hk, q => exact sf1vt0 hb h g hk q hf hd s
  | 1, _, hk, q => exact sf1vt1 hb h g hk q hf hd s
  | 2, _, hk, q => exact sf1vt2 hb h g hk q hf hd s
  | 3, _, hk, q => exact sf1vt3 hb h g hk q hf hd s
  | _ + 4, k4, _, _ => omega
theorem nonf (hb : Base B μ 20000) (o : UOk u) (r : Cr c) (g : Go (mkP u c)) (hf : 2048 < (mkP u c).t1) (s : SA u c 1 true false B w0 μ a w) : aL.wp Tryz.prog (fun x a' w' => x = .ret ∧ Yes Tryz.prog Tryz.f5 B w0 .ret a' w') a w := by
  have h := r.ar o
  have k4 : (mkP u c).ek < 4 := (o.el _).k4
  have hk : ∃ k, (mkP u c).ek = k := ⟨_, rfl⟩
  obtain ⟨k, hk⟩ := hk
  rw [hk] at k4
  have q := ekOf o k hk
  match k, k4, hk, q with
  | 0, _, hk, q => exact sx1nf0 hb h g hk q hf s
  | 1, _, hk, q => exact sx1nf1 hb h g hk q hf s
  | 2, _, hk, q => exact sx1nf2 hb h g hk q hf s
  | 3, _, hk, q => exact sx1nf3 hb h g hk q hf s
  | _ + 4, k4, _, _ => omega
theorem novf (hb : Base B μ 20000) (o : UOk u) (r : Cr c) (g : Go (mkP u c)) (hf : 2048 < (mkP u c).t1) (s : SA u c 1 false false B w0 μ a w) : aL.wp Tryz.prog (fun x a' w' => x = .ret ∧ Yes Tryz.prog Tryz.f5 B w0 .ret a' w') a w := by
  have h := r.ar o
  have k4 : (mkP u c).ek < 4 := (o.el _).k4
  have hk : ∃ k, (mkP u c).ek = k := ⟨_, rfl⟩
  obtain ⟨k, hk⟩ := hk
  rw [hk] at k4
  have q := ekOf o k hk
  match k, k4, hk, q with
  | 0, _, hk, q => exact sx1vf0 hb h g hk q hf s
  | 1, _, hk, q => exact sx1vf1 hb h g hk q hf s
  | 2, _, hk, q => exact sx1vf2 hb h g hk q hf s
  | 3, _, hk, q => exact sx1vf3 hb h g hk q hf s
  | _ + 4, k4, _, _ => omega
theorem novt (hb : Base B μ 20000) (o : UOk u) (r : Cr c) (g : Go (mkP u c)) (hf : 2048 < (mkP u c).t1) (s : SA u c 1 false true B w0 μ a w) : aL.wp Tryz.prog (fun x a' w' => x = .ret ∧ Yes Tryz.prog Tryz.f5 B w0 .ret a' w') a w := by
  have h := r.ar o
  have k4 : (mkP u c).ek < 4 := (o.el _).k4
  have hk : ∃ k, (mkP u c).ek = k := ⟨_, rfl⟩
  obtain ⟨k, hk⟩ := hk
  rw [hk] at k4
  have q := ekOf o k hk
  match k, k4, hk, q with
  | 0, _, hk, q => exact sx1vt0 hb h g hk q hf s
  | 1, _, hk, q => exact sx1vt1 hb h g hk q hf s
  | 2, _, hk, q => exact sx1vt2 hb h g hk q hf s
  | 3, _, hk, q => exact sx1vt3 hb h g hk q hf s
  | _ + 4, k4, _, _ => omega
theorem wrap0 : IntKind.i64.wrap ((0 : Nat) * 6 : Int) = 0 := by decide
/-- one round, whatever it is -/
theorem round (hb : Base B μ 20000) (o : UOk u) {z : Nat} {n l : Bool} (i : Inv c z n l) (g : Go (mkP u c)) (gu : ∀ c, @Gl (TP (mkP u c)) B w0) (s : SA u c z n l B w0 μ a w) : aL.wp Tryz.prog (fun x a' w' => (Nxt u c l B w0 μ x a' w' ∧ (mkP u c).t1 ≤ 2048 ∧ c.ld + ((mkP u c).lb + bif l then 1 else 0) ≤ 4096) ∨ Qd u B w0 μ x a' w') a w := by
  have r := i.cr
  have e1 : (mkP u c).ld = c.ld := rfl
  have e2 : (mkP u c).t1 = c.tot + wd (elAt u c).la := rfl
  have w1 := wd_le (o.el (c.i % u.lu)).a60
  have w1 : wd (elAt u c).la ≤ 18 := w1
  have l1 := lb_le (u := u) (c := c) o
  have h2 := r.d2
  have fin {l : Bool} (hf : (mkP u c).t1 ≤ 2048) (hd : c.ld + ((mkP u c).lb + bif l then 1 else 0) ≤ 4096) (q : aL.wp Tryz.prog (Nxt u c l B w0 μ) a w) : aL.wp Tryz.prog (fun x a' w' => (Nxt u c l B w0 μ x a' w' ∧ (mkP u c).t1 ≤ 2048 ∧ c.ld + ((mkP u c).lb + bif l then 1 else 0) ≤ 4096) ∨ Qd u B w0 μ x a' w') a w := wp_mono q fun x a' w' p => .inl ⟨p, hf, hd⟩
  by_cases hf : (mkP u c).t1 ≤ 2048
  · by_cases hd : c.ld + ((mkP u c).lb + bif l then 1 else 0) ≤ 4096
    · match z, n, l, i, s with
      | 0, true, false, i, s => exact fin hf hd (go0nf hb o r g hf (i.z0 rfl).2 hd (gu _) s)
      | 0, true, true, i, s => exact fin hf hd (go0nt hb o r g hf (i.z0 rfl).2 hd (gu _) s)
      | 0, false, _, i, s => have h3 := i.n.2 (i.z0 rfl).2; cases h3
      | 1, true, false, i, s => exact fin hf hd (go1nf hb o r g hf (i.n.1 rfl) hd (gu _) s)
      | 1, true, true, i, s => have h3 := i.n.1 rfl; have h4 := i.l rfl rfl; omega
      | 1, false, false, i, s => exact fin hf hd (go1vf hb o r g hf (Nat.pos_of_ne_zero fun e => by have := i.n.2 e; cases this) hd (gu _) s)
      | 1, false, true, i, s => exact fin hf hd (go1vt hb o r g hf (Nat.pos_of_ne_zero fun e => by have := i.n.2 e; cases this) hd (gu _) s)
      | _ + 2, _, _, i, s => have := i.z2; omega
    · have fx {l : Bool} (h0 : n = false) (q : aL.wp Tryz.prog (fun x a' w' => x = .exit 0 ∧ SX u c false true B w0 μ a' w') a w) : aL.wp Tryz.prog (fun x a' w' => (Nxt u c l B w0 μ x a' w' ∧ (mkP u c).t1 ≤ 2048 ∧ c.ld + ((mkP u c).lb + bif l then 1 else 0) ≤ 4096) ∨ Qd u B w0 μ x a' w') a w :=
        wp_mono q fun x a' w' p => .inr (.inl ⟨p.1, c, false, true, r, fun _ => Nat.pos_of_ne_zero fun e => (by have := i.n.2 e; rw [h0] at this; cases this), fun e => (by cases e), p.2⟩)
      match z, n, l, i, s with
      | 0, _, false, i, s => have h3 := (i.z0 rfl).2; have hd : ¬ c.ld + ((mkP u c).lb + 0) ≤ 4096 := hd; omega
      | 0, _, true, i, s => have h3 := (i.z0 rfl).2; have hd : ¬ c.ld + ((mkP u c).lb + 1) ≤ 4096 := hd; omega
      | 1, true, false, i, s => have h3 := i.n.1 rfl; have hd : ¬ c.ld + ((mkP u c).lb + 0) ≤ 4096 := hd; omega
      | 1, true, true, i, s => have h3 := i.n.1 rfl; have hd : ¬ c.ld + ((mkP u c).lb + 1) ≤ 4096 := hd; omega
      | 1, false, false, i, s => exact fx rfl (fuf hb o r g hf (by have hd : ¬ c.ld + ((mkP u c).lb + 0) ≤ 4096 := hd; omega) s)
      | 1, false, true, i, s => exact fx rfl (fut hb o r g hf (by have hd : ¬ c.ld + ((mkP u c).lb + 1) ≤ 4096 := hd; omega) s)
      | _ + 2, _, _, i, s => have := i.z2; omega
  · have fr {l : Bool} (q : aL.wp Tryz.prog (fun x a' w' => x = .ret ∧ Yes Tryz.prog Tryz.f5 B w0 .ret a' w') a w) : aL.wp Tryz.prog (fun x a' w' => (Nxt u c l B w0 μ x a' w' ∧ (mkP u c).t1 ≤ 2048 ∧ c.ld + ((mkP u c).lb + bif l then 1 else 0) ≤ 4096) ∨ Qd u B w0 μ x a' w') a w := wp_mono q fun x a' w' p => .inr (.inr p)
    have hf : 2048 < (mkP u c).t1 := by omega
    match z, n, l, i, s with
    | 0, _, _, i, s => have h3 := (i.z0 rfl).1; omega
    | 1, true, false, i, s => exact fr (nonf hb o r g hf s)
    | 1, true, true, i, s => have h3 := i.n.1 rfl; have h4 := i.l rfl rfl; omega
    | 1, false, false, i, s => exact fr (novf hb o r g hf s)
    | 1, false, true, i, s => exact fr (novt hb o r g hf s)
    | _ + 2, _, _, i, s => have := i.z2; omega
theorem exits (hb : Base B μ 20000) {z : Nat} {n l : Bool} (i : Inv c z n l) (hx : ¬ (c.i : Int) < IntKind.i64.wrap ((u.lu : Int) * 6) ∨ ((c.i : Int) < IntKind.i64.wrap ((u.lu : Int) * 6) ∧ ¬ c.i < 120)) (hz : z = 0 → c.i = 0) (s : SA u c z n l B w0 μ a w) : aL.wp Tryz.prog (Qd u B w0 μ) a w := by
  have r := i.cr
  have fx (q : aL.wp Tryz.prog (fun x a' w' => x = .exit 0 ∧ SX u c n false B w0 μ a' w') a w) : aL.wp Tryz.prog (Qd u B w0 μ) a w :=
    wp_mono q fun x a' w' p => .inl ⟨p.1, c, n, false, r, fun h0 => Nat.pos_of_ne_zero fun e => (by have := i.n.2 e; rw [h0] at this; cases this), fun _ => rfl, p.2⟩
  match z, n, l, i, s with
  | 0, false, _, i, s => have h3 := i.n.2 (i.z0 rfl).2; cases h3
  | 0, true, l, i, s =>
    have h0 := hz rfl
    have hx : ¬ (c.i : Int) < IntKind.i64.wrap ((u.lu : Int) * 6) := by rcases hx with h | h; exact h; omega
    cases l with
    | false => exact fx (sE0nf1 hb hx s)
    | true => exact fx (sE0nt1 hb hx s)
  | 1, true, true, i, s => have h3 := i.n.1 rfl; have h4 := i.l rfl rfl; omega
  | 1, true, false, i, s => exact fx (by rcases hx with h | h; exact sE1nf1 hb h s; exact sE1nf2 hb h.1 h.2 s)
  | 1, false, false, i, s => exact fx (by rcases hx with h | h; exact sE1vf1 hb h s; exact sE1vf2 hb h.1 h.2 s)
  | 1, false, true, i, s => exact fx (by rcases hx with h | h; exact sE1vt1 hb h s; exact sE1vt2 hb h.1 h.2 s)
  | _ + 2, _, _, i, s => have := i.z2; omega
end
theorem loop {u : Ue} {B : Kp} {w0 : World} {μ : M} (hb : Base B μ 20000) (o : UOk u) (gu : ∀ c, @Gl (TP (mkP u c)) B w0) {l : Bool} : ∀ (j : Nat) (c : Co) (z : Nat) (n : Bool) (a : Act) (w : World), 120 - c.i < j → Inv c z n l → (z = 0 → c.i = 0) → SA u c z n l B w0 μ a w → Code.rounds Tryz.prog aL (Qd u B w0 μ) j a w
  | 0, c, z, n, a, w, h, i, hz, s => by omega
  | j + 1, c, z, n, a, w, h, i, hz, s => by
    by_cases h1 : (c.i : Int) < IntKind.i64.wrap ((u.lu : Int) * 6)
    · by_cases h2 : c.i < 120
      · have g : Go (mkP u c) := ⟨h1, h2, Nat.pos_of_ne_zero fun e => by have e : u.lu = 0 := e; rw [e, wrap0] at h1; omega, o.l4⟩
        refine rounds_of (wp_mono (round hb o i g gu s) ?_)
        rintro x a' w' (⟨⟨rfl, n2, hn, s'⟩, hf, hd⟩ | q)
        · exact loop hb o gu j (nx u c l) 1 n2 a' w' (by show 120 - (c.i + 1) < j; omega) ⟨i.cr.nx o h2 hf hd, fun e => (by cases e), by decide, hn, fun _ hl => by subst hl; show 0 < c.ld + ((mkP u c).lb + 1); omega⟩ (fun e => by cases e) s'
        · rcases q with ⟨rfl, q⟩ | ⟨rfl, q⟩
          · exact .inl ⟨rfl, q⟩
          · exact .inr ⟨rfl, q⟩
      · refine rounds_of (wp_mono (exits hb i (.inr ⟨h1, h2⟩) hz s) ?_)
        rintro x a' w' (⟨rfl, q⟩ | ⟨rfl, q⟩)
        · exact .inl ⟨rfl, q⟩
        · exact .inr ⟨rfl, q⟩
    · refine rounds_of (wp_mono (exits hb i (.inl h1) hz s) ?_)
      rintro x a' w' (⟨rfl, q⟩ | ⟨rfl, q⟩)
      · exact .inl ⟨rfl, q⟩
      · exact .inr ⟨rfl, q⟩
end Go.Proofs.YtkkaifeiopjjdaaGreatDoor.np
