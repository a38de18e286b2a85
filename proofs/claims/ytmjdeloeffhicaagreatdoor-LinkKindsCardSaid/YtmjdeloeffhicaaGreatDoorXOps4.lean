/-
  Each operation of the abstract machine stands for the model's: append and copy.
-/
import Derived.Test.YtmjdeloeffhicaaGreatDoorXOps3
set_option linter.unusedVariables false
set_option linter.unusedSimpArgs false
set_option linter.unusedSectionVars false
namespace Go.X
open Go.RowKit

variable [Tab]
variable {P : Program} {B : Kp} {w0 : World} {μ : M} {h h' : H} {w w' : World}

theorem allOne_iff : ∀ {l : List AV}, allOne l = true → ∀ v ∈ l, v.one = true
  | [], _, v, hv => by simp at hv
  | a :: l, e, v, hv => by
    have e' : (@Bool.rec (fun _ => Bool) false (allOne l) a.one) = true := e
    cases h1 : a.one with
    | false => rw [h1] at e'; simp at e'
    | true =>
      rw [h1] at e'
      simp only [List.mem_cons] at hv
      rcases hv with rfl | hv
      · exact h1
      · exact allOne_iff e' v hv

theorem vrels_one_all : ∀ {as : List AV} {vs : List Value}, vrels μ as vs → (∀ a ∈ as, a.one = true) → ∀ v ∈ vs, oneV v = true
  | [], vs, h1, h2, v, hv => by simp only [vrels] at h1; subst h1; simp at hv
  | a :: as, vs, h1, h2, v, hv => by
    simp only [vrels] at h1
    obtain ⟨u, r, rfl, g1, g2⟩ := h1
    simp only [List.mem_cons] at hv
    rcases hv with rfl | hv
    · exact vrel_one g1 (h2 a (by simp))
    · exact vrels_one_all g2 (fun b hb => h2 b (by simp [hb])) v hv

theorem below_drew_alloc (w : World) (o : Obj) : Below w.heap.size w (w.drew.alloc o) :=
  ⟨rfl, rfl, rfl, by show w.heap.size ≤ (w.heap.push o).size; simp, fun k hk => by show (w.heap.push o)[k]? = _; rw [Array.getElem?_push, if_neg (by omega)]⟩

/-- A slice that has grown. -/
theorem grown_sound (r : HR B w0 μ h w) {all : List AV} {olds news zs : Array Value} {e : TypeId} {need z cap : Nat} {p : AV × H} (hall : vrels μ all (olds.toList ++ news.toList)) (hn : need ≤ cap)
    (hsz : (olds ++ news).size = need * z) (hzs : zs.size = (cap - need) * z) (hp : newRow? h all need z = some p) :
    ∃ μ', Ext μ μ' ∧ vrel μ' p.1 (.slice (some ⟨w.heap.size, 0, none⟩) need cap) ∧ HR B w0 μ' p.2 (w.drew.alloc (.cells (olds ++ news ++ zs) e)) := by
  obtain ⟨q, hq, e1⟩ := ob_some hp
  cases e1
  have htot : (olds ++ news ++ zs).size = cap * z := by
    rw [Array.size_append, hsz, hzs, ← Nat.add_mul]
    congr 1; omega
  obtain ⟨hll, hq⟩ := H.row_some hq
  have := r.row (x := q.1) (h' := q.2) (vs := olds.toList ++ news.toList) (arr := olds ++ news ++ zs) (e := e) (fz := (0, 0)) (At.ofAlloc r hq) hll hall (below_drew_alloc w _)
    (by show (w.heap.push (.cells (olds ++ news ++ zs) e (0, 0)))[w.heap.size]? = _; simp) (by simp) (fun i hi => by
      rw [Array.getElem?_append_left (by simpa using hi)]
      rw [← Array.toList_append, Array.getElem?_toList]) (fun i _ => by simp) (fun _ => rfl)
  obtain ⟨h1, h2, h3⟩ := this
  refine ⟨_, h1, ?_, h3⟩
  simp only [vrel]
  exact ⟨_, cap, h2, hn, by simp only [Nat.zero_add]; exact htot.symm, rfl⟩

theorem appendTo_sound (r : HR B w0 μ h w) {st xt ty e : TypeId} {i : TypeInfo} {z : Value} {s : AV} {sv x : Value} {n : Nat} {news : Array Value} {src : List AV} {p : AV × H}
    (hst : P.underlying st = some (.slice e)) (hi : P.info? e = some i) (hz : i.zero = some z) (hzc : z.cells.size = i.size)
    (hs : Src P w e xt z i.size x n news) (hb : i.bytes < 100000) (hb0 : 0 < i.bytes) (hsz : 0 < i.size)
    (hsv : vrel μ s sv) (hnews : vrels μ src news.toList) (hlen : news.size = n * i.size) (ep : appendTo h i.size n src s = some p) :
    OkV P B w0 μ w (Builtin.append_ #[st, xt] ty #[sv, x]) p.1 p.2 := by
  have hzero : ∀ k, (Builtin.zeroCells z.cells k).size = k * i.size := fun k => by rw [size_zeroCells, hzc]
  have hsmall := hs.small
  cases s with
  | nils =>
    simp only [vrel] at hsv; subst hsv
    simp only [appendTo] at ep
    by_cases h0 : n = 0
    · subst h0
      simp only [Nat.beq_refl] at ep
      cases ep
      exact .same r (run_append_room (base := none) hst hi hz hs hb hsz (by simp) rfl) (by simp [vrel])
    · rw [nbeq_false h0] at ep
      obtain ⟨cap, hc, hrun⟩ := run_append_new (ty := ty) (olds := #[]) (base := none) (sLen := 0) (sCap := 0) hst hi hz hs hb hb0 hsz (by omega) (by omega) (by simp [Builtin.firstCells])
      obtain ⟨μ', g1, g2, g3⟩ := grown_sound r (olds := #[]) (zs := Builtin.zeroCells z.cells (cap - (0 + n))) (e := e) (cap := cap) (by simpa using hnews) (by omega) (by simpa using hlen) (by rw [hzero]; simp) ep
      exact ⟨_, _, μ', hrun, g1, by simpa using g2, g3⟩
  | sl y o m c =>
    simp only [vrel] at hsv
    obtain ⟨l, hl, rfl⟩ := hsv
    simp only [appendTo] at ep
    by_cases hroom : m + n ≤ c
    · rw [ble_iff.2 hroom] at ep
      obtain ⟨h1, hst1, ep⟩ := ob_some ep
      cases ep
      obtain ⟨w', k1, k2⟩ := HR.stores (P := P) hl src news.toList (o + m * i.size) 0 h h1 w r hst1 hnews
      refine ⟨_, w', μ, run_append_room (base := some ⟨l.block, l.base + o, none⟩) hst hi hz hs hb hsz hroom ?_, Ext.refl _, ?_, k2⟩
      · simp only [Addr.add_lit]
        rw [Nat.add_assoc]; exact k1
      · simp only [vrel]; exact ⟨l, hl, rfl⟩
    · have hf : Nat.ble (m + n) c = false := by
        cases hh : Nat.ble (m + n) c with
        | false => rfl
        | true => exact absurd (ble_iff.1 hh) hroom
      rw [hf] at ep
      obtain ⟨old, hold, ep⟩ := ob_some ep
      obtain ⟨hlim, ep⟩ := ifb_some ep
      have hlim := blt_iff.1 hlim
      unfold limit at hlim
      obtain ⟨vs, v1, v2, v3⟩ := r.loads hl (m * i.size) o old hold
      have hfirst : (Builtin.firstCells i.size m (.slice (some ⟨l.block, l.base + o, none⟩) m c)).run P w.drew = .ok ⟨vs⟩ w.drew := by
        simp only [Builtin.firstCells]
        exact cell_loads v2 v3
      obtain ⟨cap, hc, hrun⟩ := run_append_new (ty := ty) (olds := ⟨vs⟩) (base := some ⟨l.block, l.base + o, none⟩) (sLen := m) (sCap := c) hst hi hz hs hb hb0 hsz (by omega) (by omega) hfirst
      obtain ⟨μ', g1, g2, g3⟩ := grown_sound r (olds := ⟨vs⟩) (news := news) (zs := Builtin.zeroCells z.cells (cap - (m + n))) (e := e) (cap := cap) (vrels_append v1 hnews) hc (by simp only [Array.size_append, hlen]; show vs.length + _ = _; rw [v2, ← Nat.add_mul]) (by rw [hzero]) ep
      exact ⟨_, _, μ', hrun, g1, g2, g3⟩
  | so y o m z' =>
    simp only [vrel] at hsv
    obtain ⟨l, c, hl, hmc, htot, rfl⟩ := hsv
    simp only [appendTo] at ep
    obtain ⟨hzz, ep2⟩ := ifb_some ep
    clear ep
    obtain rfl : z' = i.size := (nbeq_iff.1 hzz).symm
    by_cases h0 : n = 0
    · subst h0
      simp only [Nat.beq_refl] at ep2
      cases ep2
      refine .same r (run_append_room (base := some ⟨l.block, l.base + o, none⟩) hst hi hz hs hb hsz (by omega) ?_) (by simp only [vrel]; exact ⟨l, c, hl, hmc, htot, rfl⟩)
      have he : news.toList = [] := by
        have : news.size = 0 := by simpa using hlen
        simpa using this
      rw [he]; simp [storeCells]
    · rw [nbeq_false h0] at ep2
      obtain ⟨b, hgb, ep2⟩ := ob_some ep2
      obtain ⟨rm, hrm, ep2⟩ := ob_some ep2
      cases b with
      | cells k opn zz t =>
        cases opn with
        | false => simp [openRoom] at hrm
        | true =>
          simp only [openRoom] at hrm
          cases hrm
          obtain ⟨l', hl', hBl, _, arr, el, fz, g1, g2, g3, g4, g5, g6⟩ := r.blk y _ hgb
          rw [hl] at hl'; cases hl'
          by_cases hroom : o + (m + n) * i.size ≤ k
          · rw [ble_iff.2 hroom] at ep2
            obtain ⟨h1, hst1, ep2⟩ := ob_some ep2
            cases ep2
            have hcap : m + n ≤ c := by
              apply Nat.le_of_mul_le_mul_right (c := i.size) _ hsz
              omega
            obtain ⟨w', k1, k2⟩ := HR.stores (P := P) hl src news.toList (o + m * i.size) 0 h h1 w r hst1 hnews
            refine ⟨_, w', μ, run_append_room (base := some ⟨l.block, l.base + o, none⟩) hst hi hz hs hb hsz hcap ?_, Ext.refl _, ?_, k2⟩
            · simp only [Addr.add_lit]
              rw [Nat.add_assoc]; exact k1
            · simp only [vrel]; exact ⟨l, c, hl, hcap, htot, rfl⟩
          · have hf : Nat.ble (o + (m + n) * i.size) k = false := by
              cases hh : Nat.ble (o + (m + n) * i.size) k with
              | false => rfl
              | true => exact absurd (ble_iff.1 hh) hroom
            rw [hf] at ep2
            obtain ⟨old, hold, ep2⟩ := ob_some ep2
            obtain ⟨hcond, ep2⟩ := ifb_some ep2
            simp only [Bool.and_eq_true, blt_iff] at hcond
            obtain ⟨hlim, hone⟩ := hcond
            unfold limit at hlim
            obtain ⟨vs, v1, v2, v3⟩ := r.loads hl (m * i.size) o old hold
            by_cases hcap : m + n ≤ c
            · -- in place: the block goes on under a new name
              have hmul : (m + n) * i.size ≤ c * i.size := Nat.mul_le_mul_right _ hcap
              have hsum : (m + n) * i.size = m * i.size + n * i.size := Nat.add_mul _ _ _
              have hnl : news.toList.length = n * i.size := by simpa using hlen
              obtain ⟨w', arr', k1, k2, k3, k4, k5⟩ := run_storeCells (P := P) (c := l.block) (e := el) (fz := fz) news.toList (l.base + o + m * i.size) 0 arr w g1 (by rw [hnl]; omega) (fun j hj => g3 j (by omega)) (vrels_one_all hnews (allOne_iff hone))
              obtain ⟨q, hq, e1⟩ := ob_some ep2
              cases e1
              obtain ⟨hll, hq2⟩ := ifb_some hq
              have hll := blt_iff.1 hll
              have hx := (H.alloc_some hq2).1
              have hnx : (h.kill y).next = h.next := rfl
              rw [hnx] at hx
              have hext : Ext μ (upm μ q.1 ⟨l.block, l.base + o, l.total⟩) := Ext.upm _ (by rw [hx]; exact (r.fresh h.next (Nat.le_refl _)).2)
              have hrow : brel (upm μ q.1 ⟨l.block, l.base + o, l.total⟩) (rowOf (old ++ src) true) ⟨l.block, l.base + o, l.total⟩ w' := by
                have hlo := vrels_length v1
                have hls := vrels_length hnews
                refine ⟨arr', el, fz, k3, by show arr'.size = l.total; omega, g3, ?_, fun e => by simp at e, ?_⟩
                · simp only [List.length_append]; omega
                · intro j a hj ha
                  rw [cellOf_row _ _ hll] at ha
                  obtain ⟨v, hv1, hv2⟩ := vrels_get (vrels_append v1 hnews) ha
                  refine ⟨v, ?_, vrel.ext hext _ _ hv2⟩
                  rw [k5, ← hv1]
                  dsimp only
                  simp only [List.length_append] at hj
                  by_cases cj : j < m * i.size
                  · rw [if_neg (by omega), List.getElem?_append_left (by omega), ← v3 j cj]
                    simp [World.cell?, g1]
                  · rw [if_pos (by omega), List.getElem?_append_right (by omega)]
                    congr 1
                    omega
              have hr := r.rename (x := y) (y := q.1) (h' := q.2) (b := rowOf (old ++ src) true) (k := ⟨l.block, l.base + o, l.total⟩) hgb hl rfl hq2 rfl k2 rfl hrow
              refine ⟨_, w', _, run_append_room (base := some ⟨l.block, l.base + o, none⟩) hst hi hz hs hb hsz hcap ?_, hext, ?_, hr⟩
              · simp only [Addr.add_lit]; exact k1
              · simp only [vrel]
                exact ⟨⟨l.block, l.base + o, l.total⟩, c, by simp [upm], hcap, by simpa using htot, by simp⟩
            · have hfirst : (Builtin.firstCells i.size m (.slice (some ⟨l.block, l.base + o, none⟩) m c)).run P w.drew = .ok ⟨vs⟩ w.drew := by
                simp only [Builtin.firstCells]
                exact cell_loads v2 v3
              obtain ⟨cap, hc, hrun⟩ := run_append_new (ty := ty) (olds := ⟨vs⟩) (base := some ⟨l.block, l.base + o, none⟩) (sLen := m) (sCap := c) hst hi hz hs hb hb0 hsz (by omega) (by omega) hfirst
              obtain ⟨μ', g1, g2, g3⟩ := grown_sound (r.kill y) (olds := ⟨vs⟩) (news := news) (zs := Builtin.zeroCells z.cells (cap - (m + n))) (e := e) (cap := cap) (vrels_append v1 hnews) hc (by simp only [Array.size_append, hlen]; show vs.length + _ = _; rw [v2, ← Nat.add_mul]) (by rw [hzero]) ep2
              exact ⟨_, _, μ', hrun, g1, g2, g3⟩
      | glob n z t => simp [openRoom] at hrm
      | map es c => simp [openRoom] at hrm
      | siter n c p => simp [openRoom] at hrm
      | miter m s1 s2 s3 => simp [openRoom] at hrm
  | ostr i => simp [appendTo] at ep
  | gp g o => simp [appendTo] at ep
  | oi i => simp [appendTo] at ep
  | es => simp [appendTo] at ep
  | bool b => simp [appendTo] at ep
  | int k n => simp [appendTo] at ep
  | str n c => simp [appendTo] at ep
  | nilp => simp [appendTo] at ep
  | ptr x o => simp [appendTo] at ep
  | nilm => simp [appendTo] at ep
  | map x => simp [appendTo] at ep
  | fn f a b => simp [appendTo] at ep
  | nilf => simp [appendTo] at ep
  | iface t v => simp [appendTo] at ep
  | nili => simp [appendTo] at ep
  | agg l => simp [appendTo] at ep
  | tup l => simp [appendTo] at ep

theorem drew_cell (w : World) (a : Addr) : w.drew.cell? a = w.cell? a := rfl

theorem append_sound (r : HR B w0 μ h w) {st xt ty : TypeId} {s a : AV} {sv x : Value} {p : AV × H} (hsv : vrel μ s sv) (hx : vrel μ a x) (ep : append? P h st xt s a = some p) :
    OkV P B w0 μ w (Builtin.append_ #[st, xt] ty #[sv, x]) p.1 p.2 := by
  obtain ⟨e, he, ep⟩ := ob_some ep
  obtain ⟨z, hz, ep⟩ := ob_some ep
  obtain ⟨b, hb, ep⟩ := ob_some ep
  obtain ⟨v, hv, ep⟩ := ob_some ep
  obtain ⟨k, hk, ep⟩ := ob_some ep
  obtain ⟨hc, ep⟩ := ifb_some ep
  obtain ⟨n, hn, ep⟩ := ob_some ep
  obtain ⟨hlim, ep⟩ := ifb_some ep
  obtain ⟨src, hsrc, epf⟩ := ob_some ep
  simp only [Bool.and_eq_true, nbeq_iff, blt_iff] at hc
  obtain ⟨c1, c2, c3, c4, c5⟩ := hc
  have hlim := blt_iff.1 hlim
  unfold limit at hlim
  have hst := sliceElem_some he
  obtain ⟨i, zv, hi, hzv, hrel⟩ := zeroOf_some (μ := μ) hv
  obtain ⟨i1, hi1, rfl⟩ := sizeOf_some hz
  rw [hi] at hi1; cases hi1
  obtain ⟨i1, hi1, rfl⟩ := bytesOf_some hb
  rw [hi] at hi1; cases hi1
  have hzc : zv.cells.size = i.size := by rw [← Array.length_toList, vrels_length (vrel_cells hrel)]; exact c5
  obtain ⟨d, hd, hk⟩ := ob_some hk
  cases k with
  | false =>
    obtain ⟨vs, g1, g2, g3, g4⟩ := src_sound (P := P) r hx hn (Nat.le_refl n) hsrc
    refine appendTo_sound (news := ⟨vs⟩) r hst hi hzv hzc ⟨.inl ⟨d, hd, hk, g4 w, g1 w (fun _ => rfl), g1 w.drew (fun _ => rfl)⟩, hlim⟩ c2 c1 c3 hsv g2 (by show vs.length = _; exact g3) epf
  | true =>
    have hd' : ∃ q, d = .int q := by cases d <;> simp [isInt] at hk <;> simp
    obtain ⟨q, rfl⟩ := hd'
    obtain ⟨k2, rfl⟩ := nat_some hn
    simp only [vrel] at hx
    subst hx
    cases hsrc
    have hzs := zeroCells_sound hrel (by omega) n
    rw [c5] at hzs
    exact appendTo_sound (news := Builtin.zeroCells zv.cells n) r hst hi hzv hzc ⟨.inr ⟨k2, q, hd, rfl, rfl⟩, hlim⟩ c2 c1 c3 hsv hzs (by rw [size_zeroCells, hzc]) epf

theorem copy_sound (r : HR B w0 μ h w) {dt ty : TypeId} {ats : Array TypeId} {d s : AV} {dv sv : Value} {p : AV × H} (hat : ats[0]? = some dt) (hd : vrel μ d dv) (hs : vrel μ s sv) (ep : copy? P h dt d s = some p) :
    OkV P B w0 μ w (Builtin.copy_ ats ty #[dv, sv]) p.1 p.2 := by
  obtain ⟨e, he, ep⟩ := ob_some ep
  obtain ⟨z, hz, ep⟩ := ob_some ep
  obtain ⟨m, hm, ep⟩ := ob_some ep
  have hst := sliceElem_some he
  have key : ∀ (x o n : Nat) (l : Loc) (cap : Nat), μ x = some l → (ob (srcCells h z (min m n) s) (copyTo h x o (min m n))) = some p →
      OkV P B w0 μ w (Builtin.copy_ ats ty #[.slice (some ⟨l.block, l.base + o, none⟩) n cap, sv]) p.1 p.2 := by
    intro x o n l cap hl ep
    obtain ⟨src, hsrc, ep⟩ := ob_some ep
    obtain ⟨h1, hst1, ep⟩ := ob_some ep
    cases ep
    obtain ⟨vs, g1, g2, g3, g4⟩ := src_sound (P := P) r hs hm (Nat.min_le_left m n) hsrc
    obtain ⟨w', k1, k2⟩ := HR.stores (P := P) hl src vs o 0 h h1 w r hst1 g2
    refine ⟨.int .i64 (min m n : Nat), w', μ, ?_, Ext.refl _, by simp [vrel], k2⟩
    have hf := g1 w (fun _ => rfl)
    simp [Builtin.copy_, hat, g4 w, run_underlying hst, run_sizeOf hz, hf, k1, goInt]
  cases d with
  | sl x o n c =>
    simp only [vrel] at hd
    obtain ⟨l, hl, rfl⟩ := hd
    exact key x o n l c hl ep
  | so x o n c =>
    simp only [vrel] at hd
    obtain ⟨l, cap, hl, _, _, rfl⟩ := hd
    exact key x o n l cap hl ep
  | _ => simp at ep
end Go.X
