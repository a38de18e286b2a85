/-
  Each operation of the abstract machine stands for the model's: append and copy.
-/
import Derived.Test.YtgdonkfaicdeiaaGreatDoorXOps3
set_option linter.unusedVariables false
set_option linter.unusedSimpArgs false
set_option linter.unusedSectionVars false
namespace Go.X
open Go.RowKit

variable [Tab]
variable {P : Program} {B : Kp} {w0 : World} {μ : M} {h h' : H} {w w' : World}

theorem allOne_iff : ∀ {l : List AV}, allOne l = true → ∀ v ∈ l, v.one = true
  | [], _, v, hv => by simp at hv
  | a :: l, e, v, hv => by
    have e' : (@Bool.rec (fun _ => Bool) false (allOne l) a.one) = true := e
    cases h1 : a.one with
    | false => rw [h1] at e'; simp at e'
    | true =>
      rw [h1] at e'
      simp only [List.mem_cons] at hv
      rcases hv with rfl | hv
      · exact h1
      · exact allOne_iff e' v hv

theorem vrels_one_all : ∀ {as : List AV} {vs : List Value}, vrels μ as vs → (∀ a ∈ as, a.one = true) → ∀ v ∈ vs, oneV v = true
  | [], vs, h1, h2, v, hv => by simp only [vrels] at h1; subst h1; simp at hv
  | a :: as, vs, h1, h2, v, hv => by
    simp only [vrels] at h1
    obtain ⟨u, r, rfl, g1, g2⟩ := h1
    simp only [List.mem_cons] at hv
    rcases hv with rfl | hv
    · exact vrel_one g1 (h2 a (by simp))
    · exact vrels_one_all g2 (fun b hb => h2 b (by simp [hb])) v hv

theorem below_drew_alloc (w : World) (o : Obj) : Below w.heap.size w (w.drew.alloc o) :=
  ⟨rfl, rfl, rfl, by show w.heap.size ≤ (w.heap.push o).size; simp, fun k hk => by show (w.heap.push o)[k]? = _; rw [Array.getElem?_push, if_neg (by omega)]⟩

/-- A slice that has grown. -/
theorem grown_sound (r : HR B w0 μ h w) {all : List AV} {olds news zs : Array Value} {e : TypeId} {need z cap : Nat} {p : AV × H} (hall : vrels μ all (olds.toList ++ news.toList)) (hn : need ≤ cap)
    (hsz : (olds ++ news).size = need * z) (hzs : zs.size = (cap - need) * z) (hp : newRow? h all need z = some p) :
    ∃ μ', Ext μ μ' ∧ vrel μ' p.1 (.slice (some ⟨w.heap.size, 0, none⟩) need cap) ∧ HR B w0 μ' p.2 (w.drew.alloc (.cells (olds ++ news ++ zs) e)) := by
  obtain ⟨q, hq, e1⟩ := ob_some hp
  cases e1
  have htot : (olds ++ news ++ zs).size = cap * z := by
    rw [Array.size_append, hsz, hzs, ← Nat.add_mul]
    congr 1; omega
  obtain ⟨hll, hq⟩ := H.row_some hq
  have := r.row (x := q.1) (h' := q.2) (vs := olds.toList ++ news.toList) (arr := olds ++ news ++ zs) (e := e) (fz := (0, 0)) (At.ofAlloc r hq) hll hall (below_drew_alloc w _)
    (by show (w.heap.push (.cells (olds ++ news ++ zs) e (0, 0)))[w.heap.size]? = _; simp) (by simp) (fun i hi => by
      rw [Array.getElem?_append_left (by simpa using hi)]
      rw [← Array.toList_append, Array.getElem?_toList]) (fun i _ => by simp) (fun _ => rfl)
  obtain ⟨h1, h2, h3⟩ := this
  refine ⟨_, h1, ?_, h3⟩
  simp only [vrel]
  exact ⟨_, cap, h2, hn, by simp only [Nat.zero_add]; exact htot.symm, rfl⟩

theorem appendTo_sound (r : HR B w0 μ h w) {st xt ty e : TypeId} {i : TypeInfo} {z : Value} {s : AV} {sv x : Value} {n : Nat} {news : Array Value} {src : List AV} {p : AV × H}
    (hst : P.underlying st = some (.slice e)) (hi : P.info? e = some i) (hz : i.zero = some z) (hzc : z.cells.size = i.size)
    (hs : Src P w e xt z i.size x n news) (hb : i.bytes < 100000) (hb0 : 0 < i.bytes) (hsz : 0 < i.size)
    (hsv : vrel μ s sv) (hnews : vrels μ src news.toList) (hlen : news.size = n * i.size) (ep : appendTo h i.size n src s = some p) :
    OkV P B w0 μ w (Builtin.append_ #[st, xt] ty #[sv, x]) p.1 p.2 := by
  have hzero : ∀ k, (Builtin.zeroCells z.cells k).size = k * i.size := fun k => by rw [size_zeroCells, hzc]
  have hsmall := hs.small
  cases s with
  | nils =>
    simp only [vrel] at hsv; subst hsv
    simp only [appendTo] at ep
    by_cases h0 : n = 0
    · subst h0
      simp only [Nat.beq_refl] at ep
      cases ep
      exact .same r (run_append_room (base := none) hst hi hz hs hb hsz (by simp) rfl) (by simp [vrel])
    · rw [nbeq_false h0] at ep
      obtain ⟨cap, hc, hrun⟩ := run_append_new (ty := ty) (olds := #[]) (base := none) (sLen := 0) (sCap := 0) hst hi hz hs hb hb0 hsz (by omega) (by omega) (by simp [Builtin.firstCells])
      obtain ⟨μ', g1, g2, g3⟩ := grown_sound r (olds := #[]) (zs := Builtin.zeroCells z.cells (cap - (0 + n))) (e := e) (cap := cap) (by simpa using hnews) (by omega) (by simpa using hlen) (by rw [hzero]; simp) ep
      exact ⟨_, _, μ', hrun, g1, by simpa using g2, g3⟩
  | sl y o m c =>
    simp only [vrel] at hsv
    obtain ⟨l, hl, rfl⟩ := hsv
    simp only [appendTo] at ep
    by_cases hroom : m + n ≤ c
    · rw [ble_iff.2 hroom] at ep
      obtain ⟨h1, hst1, ep⟩ := ob_some ep
      cases ep
      obtain ⟨w', k1, k2⟩ := HR.stores (P := P) hl src news.toList (o + m * i.size) 0 h h1 w r hst1 hnews
      refine ⟨_, w', μ, run_append_room (base := some ⟨l.block, l.base + o, none⟩) hst hi hz hs hb hsz hroom ?_, Ext.refl _, ?_, k2⟩
      · simp only [Addr.add_lit]
        rw [Nat.add_assoc]; exact k1
      · simp only [vrel]; exact ⟨l, hl, rfl⟩
    · have hf : Nat.ble (m + n) c = false := by
        cases hh : Nat.ble (m + n) c with
        | false => rfl
        | true => exact absurd (ble_iff.1 hh) hroom
      rw [hf] at ep
      obtain ⟨old, hold, ep⟩ := ob_some ep
      obtain ⟨hlim, ep⟩ := ifb_some ep
      have hlim := blt_iff.1 hlim
      unfold limit at hlim
      obtain ⟨vs, v1, v2, v3⟩ := r.loads hl (m * i.size) o old hold
      have hfirst : (Builtin.firstCells i.size m (.slice (some ⟨l.block, l.base + o, none⟩) m c)).run P w.drew = .ok ⟨vs⟩ w.drew := by
        simp only [Builtin.firstCells]
        exact cell_loads v2 v3
      obtain ⟨cap, hc, hrun⟩ := run_append_new (ty := ty) (olds := ⟨vs⟩) (base := some ⟨l.block, l.base + o, none⟩) (sLen := m) (sCap := c) hst hi hz hs hb hb0 hsz (by omega) (by omega) hfirst
      obtain ⟨μ', g1, g2, g3⟩ := grown_sound r (olds := ⟨vs⟩) (news := news) (zs := Builtin.zeroCells z.cells (cap - (m + n))) (e := e) (cap := cap) (vrels_append v1 hnews) hc (by simp only [Array.size_append, hlen]; show vs.length + _ = _; rw [v2, ← Nat.add_mul]) (by rw [hzero]) ep
      exact ⟨_, _, μ', hrun, g1, g2, g3⟩
  | so y o m z' =>
    simp only [vrel] at hsv
    obtain ⟨l, c, hl, hmc, htot, rfl⟩ := hsv
    simp only [appendTo] at ep
    obtain ⟨hzz, ep2⟩ := ifb_some ep
    clear ep
    obtain rfl : z' = i.size := (nbeq_iff.1 hzz).symm
    by_cases h0 : n = 0
    · subst h0
      simp only [Nat.beq_refl] at ep2
      cases ep2
      refine .same r (run_append_room (base := some ⟨l.block, l.base + o, none⟩) hst hi hz hs hb hsz (by omega) ?_) (by simp only [vrel]; exact ⟨l, c, hl, hmc, htot, rfl⟩)
      have he : news.toList = [] := by
        have : news.size = 0 := by simpa using hlen
        simpa using this
      rw [he]; simp [storeCells]
    · rw [nbeq_false h0] at ep2
      obtain ⟨b, hgb, ep2⟩ := ob_some ep2
      obtain ⟨rm, hrm, ep2⟩ := ob_some ep2
      cases b with
      | cells k opn zz t =>
        cases opn with
        | false => simp [openRoom] at hrm
        | true =>
          simp only [openRoom] at hrm
          cases hrm
          obtain ⟨l', hl', hBl, _, arr, el, fz, g1, g2, g3, g4, g5, g6⟩ := r.blk y _ hgb
          rw [hl] at hl'; cases hl'
          by_cases hroom : o + (m + n) * i.size ≤ k
          · rw [ble_iff.2 hroom] at ep2
            obtain ⟨h1, hst1, ep2⟩ := ob_some ep2
            cases ep2
            have hcap : m + n ≤ c := by
              apply Nat.le_of_mul_le_mul_right (c := i.size) _ hsz
              omega
            obtain ⟨w', k1, k2⟩ := HR.stores (P := P) hl src news.toList (o + m * i.size) 0 h h1 w r hst1 hnews
            refine ⟨_, w', μ, run_append_room (base := some ⟨l.block, l.base + o, none⟩) hst hi hz hs hb hsz hcap ?_, Ext.refl _, ?_, k2⟩
            · simp only [Addr.add_lit]
              rw [Nat.add_assoc]; exact k1
            · simp only [vrel]; exact ⟨l, c, hl, hcap, htot, rfl⟩
          · have hf : Nat.ble (o + (m + n) * i.size) k = false := by
              cases hh : Nat.ble (o + (m + n) * i.size) k with
              | false => rfl
              | true => exact absurd (ble_iff.1 hh) hroom
            rw [hf] at ep2
            obtain ⟨old, hold, ep2⟩ := ob_some ep2
            obtain ⟨hcond, ep2⟩ := ifb_some ep2
            simp only [Bool.and_eq_true, blt_iff] at hcond
            obtain ⟨hlim, hone⟩ := hcond
            unfold limit at hlim
            obtain ⟨vs, v1, v2, v3⟩ := r.loads hl (m * i.size) o old hold
            by_cases hcap : m + n ≤ c
            · -- in place: the block goes on under a new name
              have hmul : (m + n) * i.size ≤ c * i.size := Nat.mul_le_mul_right _ hcap
              have hsum : (m + n) * i.size = m * i.size + n * i.size := Nat.add_mul _ _ _
              have hnl : news.toList.length = n * i.size := by simpa using hlen
              obtain ⟨w', arr', k1, k2, k3, k4, k5⟩ := run_storeCells (P := P) (c := l.block) (e := el) (fz := fz) news.toList (l.base + o + m * i.size) 0 arr w g1 (by rw [hnl]; omega) (fun j hj => g3 j (by omega)) (vrels_one_all hnews (allOne_iff hone))
              obtain ⟨q, hq, e1⟩ := ob_some ep2
              cases e1
              obtain ⟨hll, hq2⟩ := ifb_some hq
              have hll := blt_iff.1 hll
              have hx := (H.alloc_some hq2).1
              have hnx : (h.kill y).next = h.next := rfl
              rw [hnx] at hx
              have hext : Ext μ (upm μ q.1 ⟨l.block, l.base + o, l.total⟩) := Ext.upm _ (by rw [hx]; exact (r.fresh h.next (Nat.le_refl _)).2)
              have hrow : brel (upm μ q.1 ⟨l.block, l.base + o, l.total⟩) (rowOf (old ++ src) true) ⟨l.block, l.base + o, l.total⟩ w' := by
                have hlo := vrels_length v1
                have hls := vrels_length hnews
                refine ⟨arr', el, fz, k3, by show arr'.size = l.total; omega, g3, ?_, fun e => by simp at e, ?_⟩
                · simp only [List.length_append]; omega
                · intro j a hj ha
                  rw [cellOf_row _ _ hll] at ha
                  obtain ⟨v, hv1, hv2⟩ := vrels_get (vrels_append v1 hnews) ha
                  refine ⟨v, ?_, vrel.ext hext _ _ hv2⟩
                  rw [k5, ← hv1]
                  dsimp only
                  simp only [List.length_append] at hj
                  by_cases cj : j < m * i.size
                  · rw [if_neg (by omega), List.getElem?_append_left (by omega), ← v3 j cj]
                    simp [World.cell?, g1]
                  · rw [if_pos (by omega), List.getElem?_append_right (by omega)]
                    congr 1
                    omega
              have hr := r.rename (x := y) (y := q.1) (h' := q.2) (b := rowOf (old ++ src) true) (k := ⟨l.block, l.base + o, l.total⟩) hgb hl rfl hq2 rfl k2 rfl hrow
              refine ⟨_, w', _, run_append_room (base := some ⟨l.block, l.base + o, none⟩) hst hi hz hs hb hsz hcap ?_, hext, ?_, hr⟩
              · simp only [Addr.add_lit]; exact k1
              · simp only [vrel]
                exact ⟨⟨l.block, l.base + o, l.total⟩, c, by simp [upm], hcap, by simpa using htot, by simp⟩
            · have hfirst : (Builtin.firstCells i.size m (.slice (some ⟨l.block, l.base + o, none⟩) m c)).run P w.drew = .ok ⟨vs⟩ w.drew := by
                simp only [Builtin.firstCells]
                exact cell_loads v2 v3
              obtain ⟨cap, hc, hrun⟩ := run_append_new (ty := ty) (olds := ⟨vs⟩) (base := some ⟨l.block, l.base + o, none⟩) (sLen := m) (sCap := c) hst hi hz hs hb hb0 hsz (by omega) (by omega) hfirst
              obtain ⟨μ', g1, g2, g3⟩ := grown_sound (r.kill y) (olds := ⟨vs⟩) (news := news) (zs := Builtin.zeroCells z.cells (cap - (m + n))) (e := e) (cap := cap) (vrels_append v1 hnews) hc (by simp only [Array.size_append, hlen]; show vs.length + _ = _; rw [v2, ← Nat.add_mul]) (by rw [hzero]) ep2
              exact ⟨_, _, μ', hrun, g1, g2, g3⟩
      | glob n z t => simp [openRoom] at hrm
      | map es c => simp [openRoom] at hrm
      | siter n c p => simp [openRoom] at hrm
      | miter m s1 s2 s3 => simp [openRoom] at hrm
      | vec i => simp [openRoom] at hrm
  | ostr i => simp [appendTo] at ep
  | gp g o => simp [appendTo] at ep
  | oi i => simp [appendTo] at ep
  | es => simp [appendTo] at ep
  | ov x j z => simp [appendTo] at ep
  | op x j z f => simp [appendTo] at ep
  | fo x j z => simp [appendTo] at ep
  | fp x j z f => simp [appendTo] at ep
  | bool b => simp [appendTo] at ep
  | int k n => simp [appendTo] at ep
  | str n c => simp [appendTo] at ep
  | nilp => simp [appendTo] at ep
  | ptr x o => simp [appendTo] at ep
  | nilm => simp [appendTo] at ep
  | map x => simp [appendTo] at ep
  | fn f a b => simp [appendTo] at ep
  | nilf => simp [appendTo] at ep
  | iface t v => simp [appendTo] at ep
  | nili => simp [appendTo] at ep
  | agg l => simp [appendTo] at ep
  | tup l => simp [appendTo] at ep

theorem drew_cell (w : World) (a : Addr) : w.drew.cell? a = w.cell? a := rfl

theorem append0_sound (r : HR B w0 μ h w) {st xt ty : TypeId} {s a : AV} {sv x : Value} {p : AV × H} (hsv : vrel μ s sv) (hx : vrel μ a x) (ep : append0? P h st xt s a = some p) :
    OkV P B w0 μ w (Builtin.append_ #[st, xt] ty #[sv, x]) p.1 p.2 := by
  obtain ⟨e, he, ep⟩ := ob_some ep
  obtain ⟨z, hz, ep⟩ := ob_some ep
  obtain ⟨b, hb, ep⟩ := ob_some ep
  obtain ⟨v, hv, ep⟩ := ob_some ep
  obtain ⟨k, hk, ep⟩ := ob_some ep
  obtain ⟨hc, ep⟩ := ifb_some ep
  obtain ⟨n, hn, ep⟩ := ob_some ep
  obtain ⟨hlim, ep⟩ := ifb_some ep
  obtain ⟨src, hsrc, epf⟩ := ob_some ep
  simp only [Bool.and_eq_true, nbeq_iff, blt_iff] at hc
  obtain ⟨c1, c2, c3, c4, c5⟩ := hc
  have hlim := blt_iff.1 hlim
  unfold limit at hlim
  have hst := sliceElem_some he
  obtain ⟨i, zv, hi, hzv, hrel⟩ := zeroOf_some (μ := μ) hv
  obtain ⟨i1, hi1, rfl⟩ := sizeOf_some hz
  rw [hi] at hi1; cases hi1
  obtain ⟨i1, hi1, rfl⟩ := bytesOf_some hb
  rw [hi] at hi1; cases hi1
  have hzc : zv.cells.size = i.size := by rw [← Array.length_toList, vrels_length (vrel_cells hrel)]; exact c5
  obtain ⟨d, hd, hk⟩ := ob_some hk
  cases k with
  | false =>
    obtain ⟨vs, g1, g2, g3, g4⟩ := src_sound (P := P) r hx hn (Nat.le_refl n) hsrc
    refine appendTo_sound (news := ⟨vs⟩) r hst hi hzv hzc ⟨.inl ⟨d, hd, hk, g4 w, g1 w (fun _ => rfl), g1 w.drew (fun _ => rfl)⟩, hlim⟩ c2 c1 c3 hsv g2 (by show vs.length = _; exact g3) epf
  | true =>
    have hd' : ∃ q, d = .int q := by cases d <;> simp [isInt] at hk <;> simp
    obtain ⟨q, rfl⟩ := hd'
    obtain ⟨k2, rfl⟩ := nat_some hn
    simp only [vrel] at hx
    subst hx
    cases hsrc
    have hzs := zeroCells_sound hrel (by omega) n
    rw [c5] at hzs
    exact appendTo_sound (news := Builtin.zeroCells zv.cells n) r hst hi hzv hzc ⟨.inr ⟨k2, q, hd, rfl, rfl⟩, hlim⟩ c2 c1 c3 hsv hzs (by rw [size_zeroCells, hzc]) epf

theorem copy_sound (r : HR B w0 μ h w) {dt ty : TypeId} {ats : Array TypeId} {d s : AV} {dv sv : Value} {p : AV × H} (hat : ats[0]? = some dt) (hd : vrel μ d dv) (hs : vrel μ s sv) (ep : copy? P h dt d s = some p) :
    OkV P B w0 μ w (Builtin.copy_ ats ty #[dv, sv]) p.1 p.2 := by
  obtain ⟨e, he, ep⟩ := ob_some ep
  obtain ⟨z, hz, ep⟩ := ob_some ep
  obtain ⟨m, hm, ep⟩ := ob_some ep
  have hst := sliceElem_some he
  have key : ∀ (x o n : Nat) (l : Loc) (cap : Nat), μ x = some l → (ob (srcCells h z (min m n) s) (copyTo h x o (min m n))) = some p →
      OkV P B w0 μ w (Builtin.copy_ ats ty #[.slice (some ⟨l.block, l.base + o, none⟩) n cap, sv]) p.1 p.2 := by
    intro x o n l cap hl ep
    obtain ⟨src, hsrc, ep⟩ := ob_some ep
    obtain ⟨h1, hst1, ep⟩ := ob_some ep
    cases ep
    obtain ⟨vs, g1, g2, g3, g4⟩ := src_sound (P := P) r hs hm (Nat.min_le_left m n) hsrc
    obtain ⟨w', k1, k2⟩ := HR.stores (P := P) hl src vs o 0 h h1 w r hst1 g2
    refine ⟨.int .i64 (min m n : Nat), w', μ, ?_, Ext.refl _, by simp [vrel], k2⟩
    have hf := g1 w (fun _ => rfl)
    simp [Builtin.copy_, hat, g4 w, run_underlying hst, run_sizeOf hz, hf, k1, goInt]
  cases d with
  | sl x o n c =>
    simp only [vrel] at hd
    obtain ⟨l, hl, rfl⟩ := hd
    exact key x o n l c hl ep
  | so x o n c =>
    simp only [vrel] at hd
    obtain ⟨l, cap, hl, _, _, rfl⟩ := hd
    exact key x o n l cap hl ep
  | _ => simp at ep

/- vectors by name -/
theorem cyc_get (z : List AV) : ∀ (n s m : Nat), m < n → (cyc z s n)[m]? = some ((z[(s + m) % z.length]?).getD .undef)
  | 0, s, m, h => by omega
  | n + 1, s, 0, h => by simp [cyc]
  | n + 1, s, m + 1, h => by
    simp only [cyc, List.getElem?_cons_succ]
    rw [cyc_get z n (s + 1) m (by omega)]
    congr 4
    omega
theorem cyc_length (z : List AV) : ∀ (n s : Nat), (cyc z s n).length = n
  | 0, _ => rfl
  | n + 1, s => by simp [cyc, cyc_length z n]

theorem allPlain_iff : ∀ {l : List AV}, allPlain l = true → ∀ v ∈ l, plain v = true
  | [], _, v, hv => by simp at hv
  | a :: l, e, v, hv => by
    have e' : (@Bool.rec (fun _ => Bool) false (allPlain l) (plain a)) = true := e
    cases h1 : plain a with
    | false => rw [h1] at e'; simp at e'
    | true =>
      rw [h1] at e'
      simp only [List.mem_cons] at hv
      rcases hv with rfl | hv
      · exact h1
      · exact allPlain_iff e' v hv
theorem plain_one {a : AV} (h : plain a = true) : a.one = true := by cases a <;> simp [plain] at h <;> rfl

theorem vecNew_some {z : Nat} {q : Nat × Nat} {p : AV × H} (e : vecNew h z q = some p) : ∃ x h', h.alloc (.vec q.1) = some (x, h') ∧ p = (.ov x q.2 z, h') := by
  obtain ⟨a, ha, e⟩ := ob_some e
  cases e
  exact ⟨a.1, a.2, ha, rfl⟩

theorem vecRel.less {μ' : M} {base : Nat} {arr : Array Value} {i' : Nat} (hp : ∀ m a, Tab.vv i' m = some a → plain a = true) (h : ∀ (m : Nat) (a : AV), Tab.vv i' m = some a → ∃ v, arr[base + m]? = some v ∧ vrel μ a v) : vecRel μ' (Tab.vv i') base arr :=
  fun i a ha => let ⟨v, h1, h2⟩ := h i a ha; ⟨v, h1, vrel.plain _ _ (hp i a ha) h2⟩

/-- A new vector. -/
theorem vecGrown_sound (r : HR B w0 μ h w) {olds news zs : Array Value} {e : TypeId} {need z cap i' j' : Nat} {p : AV × H} (hn : need ≤ cap)
    (hsz : (olds ++ news).size = need * z) (hzs : zs.size = (cap - need) * z) (hj : isLen (Tab.iv j')) (hj2 : (Tab.iv j').2.toNat = need) (hlen : Tab.vk i' ≤ need * z)
    (hpt : ∀ (m : Nat) (a : AV), Tab.vv i' m = some a → ∃ v, (olds ++ news)[m]? = some v ∧ vrel μ a v) (hp : vecNew h z (i', j') = some p) :
    ∃ μ', Ext μ μ' ∧ vrel μ' p.1 (.slice (some ⟨w.heap.size, 0, none⟩) need cap) ∧ HR B w0 μ' p.2 (w.drew.alloc (.cells (olds ++ news ++ zs) e)) := by
  obtain ⟨x, h1, ha, rfl⟩ := vecNew_some hp
  have htot : (olds ++ news ++ zs).size = cap * z := by
    rw [Array.size_append, hsz, hzs, ← Nat.add_mul]
    congr 1; omega
  have hat := At.ofAlloc r ha
  have hext : Ext μ (upm μ x ⟨w.heap.size, 0, cap * z⟩) := Ext.upm _ hat.new
  refine ⟨_, hext, ?_, r.alloc (l := ⟨w.heap.size, 0, cap * z⟩) hat rfl (below_drew_alloc w _) (Nat.le_refl _) ?_⟩
  · simp only [vrel]
    refine ⟨hj, ⟨w.heap.size, 0, cap * z⟩, cap, by simp [upm], by omega, by simp, ?_⟩
    rw [hj2]
  · refine ⟨olds ++ news ++ zs, e, (0, 0), ?_, htot, fun i _ => by simp, ?_, vecRel.less (μ := μ) (Tab.vvp i') fun m a hm => ?_⟩
    · show (w.heap.push (.cells (olds ++ news ++ zs) e (0, 0)))[w.heap.size]? = _
      simp
    · have hmul : need * z ≤ cap * z := Nat.mul_le_mul_right _ hn
      show 0 + Tab.vk i' ≤ cap * z
      omega
    · obtain ⟨v, hv1, hv2⟩ := hpt m a hm
      refine ⟨v, ?_, hv2⟩
      have hlt : m < (olds ++ news).size := (Array.getElem?_eq_some_iff.1 hv1).1
      show (olds ++ news ++ zs)[0 + m]? = some v
      rw [Nat.zero_add, Array.getElem?_append_left hlt, ← hv1]

theorem appendVec_core (r : HR B w0 μ h w) {st xt ty e : TypeId} {i : TypeInfo} {z x : Value} {y vi m c n i' j' : Nat} {l : Loc} {news : Array Value} {src : List AV} {p : AV × H}
    (hst : P.underlying st = some (.slice e)) (hi : P.info? e = some i) (hz : i.zero = some z) (hzc : z.cells.size = i.size)
    (hs : Src P w e xt z i.size x n news) (hb : i.bytes < 100000) (hb0 : 0 < i.bytes) (hsz : 0 < i.size)
    (hget : h.get y = some (.vec vi)) (hl : μ y = some l) (hmc : m ≤ c) (htot : l.base + c * i.size = l.total)
    (hnews : vrels μ src news.toList) (hone : ∀ a ∈ src, a.one = true) (hlen : news.size = n * i.size) (hlim : m + n < limit)
    (hv : Tab.vk i' ≤ (m + n) * i.size) (hpt : ∀ (q : Nat) (a : AV), Tab.vv i' q = some a → ∃ b, (if q < m * i.size then Tab.vv vi q else src[q - m * i.size]?) = some b ∧ sameAV Tab.iv b a)
    (hj : isLen (Tab.iv j')) (hj2 : (Tab.iv j').2.toNat = m + n) (ep : vecNew (h.kill y) i.size (i', j') = some p) :
    OkV P B w0 μ w (Builtin.append_ #[st, xt] ty #[.slice (some ⟨l.block, l.base, none⟩) m c, x]) p.1 p.2 := by
  unfold limit at hlim
  have hzero : ∀ k, (Builtin.zeroCells z.cells k).size = k * i.size := fun k => by rw [size_zeroCells, hzc]
  obtain ⟨l', hl', hBl, _, arr, el, fz, g1, g2, g3, g4, g5⟩ := r.blk y _ hget
  rw [hl] at hl'; cases hl'
  have hsum : (m + n) * i.size = m * i.size + n * i.size := Nat.add_mul _ _ _
  have hmc2 : m * i.size ≤ c * i.size := Nat.mul_le_mul_right _ hmc
  have hnl : news.toList.length = n * i.size := by simpa using hlen
  by_cases hcap : m + n ≤ c
  · have hmul : (m + n) * i.size ≤ c * i.size := Nat.mul_le_mul_right _ hcap
    obtain ⟨w', arr', k1, k2, k3, k4, k5⟩ := run_storeCells (P := P) (c := l.block) (e := el) (fz := fz) news.toList (l.base + m * i.size) 0 arr w g1 (by rw [hnl]; omega) (fun j hj => g3 j (by omega)) (vrels_one_all hnews hone)
    obtain ⟨x1, h1, ha, rfl⟩ := vecNew_some ep
    have hx := (H.alloc_some ha).1
    have hnx : (h.kill y).next = h.next := rfl
    rw [hnx] at hx
    have hext : Ext μ (upm μ x1 l) := Ext.upm _ (by rw [hx]; exact (r.fresh h.next (Nat.le_refl _)).2)
    have hrow : brel (upm μ x1 l) (.vec i') l w' := by
      refine ⟨arr', el, fz, k3, by omega, g3, by omega, vecRel.less (μ := μ) (Tab.vvp i') fun q a hq => ?_⟩
      obtain ⟨b, h2, hsm⟩ := hpt q a hq
      by_cases c1 : q < m * i.size
      · rw [if_pos c1] at h2
        obtain ⟨v, v1, v2⟩ := g5 q b h2
        refine ⟨v, ?_, hsm.vrel v2⟩
        rw [k5, if_neg (by omega)]; exact v1
      · rw [if_neg c1] at h2
        obtain ⟨v, v1, v2⟩ := vrels_get hnews h2
        have hlt : q - m * i.size < news.toList.length := (List.getElem?_eq_some_iff.1 v1).1
        refine ⟨v, ?_, hsm.vrel v2⟩
        rw [k5, if_pos (by omega), ← v1]
        congr 1
        omega
    have hr := r.rename (x := y) (y := x1) (h' := h1) (b := .vec i') (k := l) hget hl rfl ha rfl k2 rfl hrow
    refine ⟨_, w', _, run_append_room (base := some ⟨l.block, l.base, none⟩) hst hi hz hs hb hsz hcap ?_, hext, ?_, hr⟩
    · simp only [Addr.add_lit]; exact k1
    · simp only [vrel]
      exact ⟨hj, l, c, by simp [upm], by omega, htot, by rw [hj2]⟩
  · let vs : List Value := (arr.toList.drop l.base).take (m * i.size)
    have hvsl : vs.length = m * i.size := by simp [vs]; omega
    have v3 : ∀ q, q < m * i.size → w.cell? ⟨l.block, l.base + 0 + q, none⟩ = vs[q]? := by
      intro q hq
      simp only [vs, World.cell?, g1, List.getElem?_take, if_pos hq, List.getElem?_drop]
      simp
    have hfirst : (Builtin.firstCells i.size m (.slice (some ⟨l.block, l.base, none⟩) m c)).run P w.drew = .ok ⟨vs⟩ w.drew := by
      simp only [Builtin.firstCells]
      exact cell_loads (l := l) (o := 0) hvsl v3
    obtain ⟨cap, hc, hrun⟩ := run_append_new (ty := ty) (olds := ⟨vs⟩) (base := some ⟨l.block, l.base, none⟩) (sLen := m) (sCap := c) hst hi hz hs hb hb0 hsz (by omega) (by omega) hfirst
    obtain ⟨μ', q1, q2, q3⟩ := vecGrown_sound (r.kill y) (olds := ⟨vs⟩) (news := news) (zs := Builtin.zeroCells z.cells (cap - (m + n))) (e := e) (need := m + n) (z := i.size) (cap := cap)
      hc (by simp only [Array.size_append, hlen]; show vs.length + _ = _; omega) (by rw [hzero]) hj hj2 hv (fun q a hq => by
        obtain ⟨b, h2, hsm⟩ := hpt q a hq
        by_cases c1 : q < m * i.size
        · rw [if_pos c1] at h2
          obtain ⟨v, v1, v2⟩ := g5 q b h2
          refine ⟨v, ?_, hsm.vrel v2⟩
          rw [Array.getElem?_append_left (by show q < vs.length; omega)]
          rw [← Array.getElem?_toList]
          show vs[q]? = some v
          rw [← v3 q c1]
          simp [World.cell?, g1, v1]
        · rw [if_neg c1] at h2
          obtain ⟨v, v1, v2⟩ := vrels_get hnews h2
          refine ⟨v, ?_, hsm.vrel v2⟩
          rw [Array.getElem?_append_right (by show vs.length ≤ q; omega), ← v1, Array.getElem?_toList]
          congr 1
          show q - vs.length = _
          omega) ep
    exact ⟨_, _, μ', hrun, q1, q2, q3⟩

theorem findVA_some {i j z : Nat} {src : List AV} {q : Nat × Nat} : ∀ {l : List VA}, findVA i j z src l = some q → ⟨i, j, z, src, q.1, q.2⟩ ∈ l
  | [], e => by have e' : (none : Option (Nat × Nat)) = some q := e; cases e'
  | r :: l, e => by
    have e' : (@Bool.rec (fun _ => Option (Nat × Nat)) (findVA i j z src l) (@Bool.rec (fun _ => Option (Nat × Nat)) (findVA i j z src l) (@Bool.rec (fun _ => Option (Nat × Nat)) (findVA i j z src l) (@Bool.rec (fun _ => Option (Nat × Nat)) (findVA i j z src l) (some (r.i', r.j')) (peqs r.src src)) (Nat.beq r.z z)) (Nat.beq r.j j)) (Nat.beq r.i i)) = some q := e
    have ih := fun e => List.mem_cons_of_mem r (findVA_some (i := i) (j := j) (z := z) (src := src) (q := q) (l := l) e)
    cases h1 : Nat.beq r.i i with
    | false => rw [h1] at e'; exact ih e'
    | true =>
    cases h2 : Nat.beq r.j j with
    | false => rw [h1, h2] at e'; exact ih e'
    | true =>
    cases h3 : Nat.beq r.z z with
    | false => rw [h1, h2, h3] at e'; exact ih e'
    | true =>
    cases h4 : peqs r.src src with
    | false => rw [h1, h2, h3, h4] at e'; exact ih e'
    | true =>
      rw [h1, h2, h3, h4] at e'
      cases e'
      rw [← nbeq_iff.1 h1, ← nbeq_iff.1 h2, ← nbeq_iff.1 h3, ← peqs_eq h4]
      exact List.mem_cons_self
theorem findVZ_some {i j z k : Nat} {zc : List AV} {q : Nat × Nat} : ∀ {l : List VZ}, findVZ i j z k zc l = some q → ⟨i, j, z, k, zc, q.1, q.2⟩ ∈ l
  | [], e => by have e' : (none : Option (Nat × Nat)) = some q := e; cases e'
  | r :: l, e => by
    have e' : (@Bool.rec (fun _ => Option (Nat × Nat)) (findVZ i j z k zc l) (@Bool.rec (fun _ => Option (Nat × Nat)) (findVZ i j z k zc l) (@Bool.rec (fun _ => Option (Nat × Nat)) (findVZ i j z k zc l) (@Bool.rec (fun _ => Option (Nat × Nat)) (findVZ i j z k zc l) (@Bool.rec (fun _ => Option (Nat × Nat)) (findVZ i j z k zc l) (some (r.i', r.j')) (peqs r.zc zc)) (Nat.beq r.k k)) (Nat.beq r.z z)) (Nat.beq r.j j)) (Nat.beq r.i i)) = some q := e
    have ih := fun e => List.mem_cons_of_mem r (findVZ_some (i := i) (j := j) (z := z) (k := k) (zc := zc) (q := q) (l := l) e)
    cases h1 : Nat.beq r.i i with
    | false => rw [h1] at e'; exact ih e'
    | true =>
    cases h2 : Nat.beq r.j j with
    | false => rw [h1, h2] at e'; exact ih e'
    | true =>
    cases h3 : Nat.beq r.z z with
    | false => rw [h1, h2, h3] at e'; exact ih e'
    | true =>
    cases h5 : Nat.beq r.k k with
    | false => rw [h1, h2, h3, h5] at e'; exact ih e'
    | true =>
    cases h4 : peqs r.zc zc with
    | false => rw [h1, h2, h3, h5, h4] at e'; exact ih e'
    | true =>
      rw [h1, h2, h3, h5, h4] at e'
      cases e'
      rw [← nbeq_iff.1 h1, ← nbeq_iff.1 h2, ← nbeq_iff.1 h3, ← nbeq_iff.1 h5, ← peqs_eq h4]
      exact List.mem_cons_self
theorem findVN_some {z k : Nat} {zc : List AV} {q : Nat × Nat} : ∀ {l : List VN}, findVN z k zc l = some q → ⟨z, k, zc, q.1, q.2⟩ ∈ l
  | [], e => by have e' : (none : Option (Nat × Nat)) = some q := e; cases e'
  | r :: l, e => by
    have e' : (@Bool.rec (fun _ => Option (Nat × Nat)) (findVN z k zc l) (@Bool.rec (fun _ => Option (Nat × Nat)) (findVN z k zc l) (@Bool.rec (fun _ => Option (Nat × Nat)) (findVN z k zc l) (some (r.i', r.j')) (peqs r.zc zc)) (Nat.beq r.k k)) (Nat.beq r.z z)) = some q := e
    have ih := fun e => List.mem_cons_of_mem r (findVN_some (z := z) (k := k) (zc := zc) (q := q) (l := l) e)
    cases h3 : Nat.beq r.z z with
    | false => rw [h3] at e'; exact ih e'
    | true =>
    cases h5 : Nat.beq r.k k with
    | false => rw [h3, h5] at e'; exact ih e'
    | true =>
    cases h4 : peqs r.zc zc with
    | false => rw [h3, h5, h4] at e'; exact ih e'
    | true =>
      rw [h3, h5, h4] at e'
      cases e'
      rw [← nbeq_iff.1 h3, ← nbeq_iff.1 h5, ← peqs_eq h4]
      exact List.mem_cons_self
theorem vecIn_some {b : Blk} {i : Nat} (e : vecIn b = some i) : b = .vec i := by
  cases b <;> simp [vecIn] at e
  rw [e]

theorem appendVec_sound (r : HR B w0 μ h w) {st xt ty : TypeId} {y j z : Nat} {a : AV} {sv x : Value} {p : AV × H} (hsv : vrel μ (.ov y j z) sv) (hx : vrel μ a x) (ep : appendVec? P h st xt y j z a = some p) :
    OkV P B w0 μ w (Builtin.append_ #[st, xt] ty #[sv, x]) p.1 p.2 := by
  obtain ⟨e, he, ep1⟩ := ob_some ep
  obtain ⟨s, hz, ep2⟩ := ob_some ep1
  obtain ⟨b, hb, ep3⟩ := ob_some ep2
  obtain ⟨v, hv, ep4⟩ := ob_some ep3
  obtain ⟨k, hk, ep5⟩ := ob_some ep4
  obtain ⟨hc, ep6⟩ := ifb_some ep5
  obtain ⟨bl, hbl, ep7⟩ := ob_some ep6
  obtain ⟨vi, hvi, ep8⟩ := ob_some ep7
  clear ep ep1 ep2 ep3 ep4 ep5 ep6 ep7
  have := vecIn_some hvi
  subst this
  simp only [Bool.and_eq_true, nbeq_iff, blt_iff] at hc
  obtain ⟨rfl, c1, c2, c3, c4, c5⟩ := hc
  have hst := sliceElem_some he
  obtain ⟨i, zv, hi, hzv, hrel⟩ := zeroOf_some (μ := μ) hv
  obtain ⟨i1, hi1, rfl⟩ := sizeOf_some hz
  rw [hi] at hi1; cases hi1
  obtain ⟨i1, hi1, rfl⟩ := bytesOf_some hb
  rw [hi] at hi1; cases hi1
  have hzc : zv.cells.size = i.size := by rw [← Array.length_toList, vrels_length (vrel_cells hrel)]; exact c5
  obtain ⟨d, hd, hk⟩ := ob_some hk
  simp only [vrel] at hsv
  obtain ⟨hj0, l, c, hl, hmc, htot, rfl⟩ := hsv
  cases k with
  | false =>
    obtain ⟨n, hn, ep⟩ := ob_some (show ob (srcLen a) _ = _ from ep8)
    obtain ⟨hlim, ep⟩ := ifb_some ep
    obtain ⟨src, hsrc, ep⟩ := ob_some ep
    obtain ⟨hpl, ep⟩ := ifb_some ep
    obtain ⟨q, hq, ep⟩ := ob_some ep
    simp only [Bool.and_eq_true, nbeq_iff] at hpl
    obtain ⟨hsl, hpl⟩ := hpl
    have hlim := blt_iff.1 hlim
    unfold limit at hlim
    obtain ⟨vs, g1, g2, g3, g4⟩ := src_sound (P := P) r hx hn (Nat.le_refl n) hsrc
    obtain ⟨o1, o2, o4, o5, o6, o7⟩ := Tab.vaok _ (findVA_some hq)
    simp only at o1 o2 o4 o5 o6 o7
    have hnn : (Tab.iv q.2).2.toNat = (Tab.iv j).2.toNat + n := by
      apply Nat.eq_of_mul_eq_mul_right c3
      rw [Nat.add_mul, o4, hsl]; rfl
    refine appendVec_core (m := (Tab.iv j).2.toNat) (n := n) (news := ⟨vs⟩) r hst hi hzv hzc ⟨.inl ⟨d, hd, hk, g4 w, g1 w (fun _ => rfl), g1 w.drew (fun _ => rfl)⟩, hlim⟩ c2 c1 c3 hbl hl hmc htot g2 (fun a ha => plain_one (allPlain_iff hpl a ha)) (by show vs.length = _; exact g3) (by rw [← hnn]; exact o5) (by rw [← hnn]; exact o6) o7 o2 hnn ep
  | true =>
    have hd' : ∃ q, d = .int q := by cases d <;> simp [isInt] at hk <;> simp
    obtain ⟨q, rfl⟩ := hd'
    cases a with
    | oi k =>
      obtain ⟨hpl, ep⟩ := ifb_some (show ifb _ _ = _ from ep8)
      obtain ⟨q', hq, ep⟩ := ob_some ep
      obtain ⟨o1, o2, o3, o4, o5, o7, o8⟩ := Tab.vzok _ (findVZ_some hq)
      simp only at o1 o2 o3 o4 o5 o7 o8
      simp only [vrel] at hx
      subst hx
      have hnn : (Tab.iv q'.2).2.toNat = (Tab.iv j).2.toNat + (Tab.iv k).2.toNat := by rw [o4]; have := o1.2; have := o2.2; omega
      have hzs := zeroCells_sound hrel (by omega) (Tab.iv k).2.toNat
      rw [c5] at hzs
      have hkn : ((Tab.iv k).2.toNat : Int) = (Tab.iv k).2 := Int.toNat_of_nonneg o2.2
      refine appendVec_core (m := (Tab.iv j).2.toNat) (n := (Tab.iv k).2.toNat) (news := Builtin.zeroCells zv.cells (Tab.iv k).2.toNat) r hst hi hzv hzc ⟨.inr ⟨(Tab.iv k).1, q, hd, by rw [hkn], rfl⟩, by rw [hnn] at o5; unfold limit at o5; omega⟩ c2 c1 c3 hbl hl hmc htot hzs ?_ (by rw [size_zeroCells, hzc]) (by rw [← hnn]; exact o5) (by rw [← hnn]; exact o7) ?_ o3 hnn ep
      · intro a ha
        have h1 := hrel
        obtain ⟨m, hm⟩ := List.getElem?_of_mem ha
        have hml : m < (cyc v.cells 0 ((Tab.iv k).2.toNat * i.size)).length := (List.getElem?_eq_some_iff.1 hm).1
        rw [cyc_length] at hml
        rw [cyc_get _ _ _ _ hml] at hm
        have hlt : (0 + m) % v.cells.length < v.cells.length := Nat.mod_lt _ (by omega)
        rw [List.getElem?_eq_getElem hlt] at hm
        simp only [Option.getD_some, Option.some.injEq] at hm
        rw [← hm]
        exact plain_one (allPlain_iff hpl _ (List.getElem_mem hlt))
      · intro m a hm
        obtain ⟨hml, b, h1, hsm⟩ := o8 m a hm
        refine ⟨b, ?_, hsm⟩
        by_cases c1 : m < (Tab.iv j).2.toNat * i.size
        · rw [if_pos c1] at h1 ⊢; exact h1
        · rw [if_neg c1] at h1 ⊢
          have : m - (Tab.iv j).2.toNat * i.size < (Tab.iv k).2.toNat * i.size := by
            have h3 : (Tab.iv q'.2).2.toNat * i.size = (Tab.iv j).2.toNat * i.size + (Tab.iv k).2.toNat * i.size := by rw [hnn, Nat.add_mul]
            omega
          rw [cyc_get _ _ _ _ this, Nat.zero_add, h1]; rfl
    | int ik m =>
      cases m with
      | negSucc m => have ep' : (none : Option (AV × H)) = some p := ep8; cases ep'
      | ofNat n =>
        obtain ⟨hpl, ep⟩ := ifb_some (show ifb _ _ = _ from ep8)
        obtain ⟨q', hq, ep⟩ := ob_some ep
        simp only [Bool.and_eq_true] at hpl
        obtain ⟨hlim, hpl⟩ := hpl
        have hlim := blt_iff.1 hlim
        unfold limit at hlim
        obtain ⟨o1, o2, o4, o5, o6, o7⟩ := Tab.vaok _ (findVA_some hq)
        simp only at o1 o2 o4 o5 o6 o7
        simp only [vrel] at hx
        subst hx
        have hcl : (cyc v.cells 0 (Nat.mul n i.size)).length = n * i.size := cyc_length _ _ _
        have hnn : (Tab.iv q'.2).2.toNat = (Tab.iv j).2.toNat + n := by
          apply Nat.eq_of_mul_eq_mul_right c3
          rw [Nat.add_mul, o4, hcl]
        have hzs := zeroCells_sound hrel (by omega) n
        rw [c5] at hzs
        exact appendVec_core (m := (Tab.iv j).2.toNat) (n := n) (news := Builtin.zeroCells zv.cells n) r hst hi hzv hzc ⟨.inr ⟨ik, q, hd, rfl, rfl⟩, hlim⟩ c2 c1 c3 hbl hl hmc htot hzs (fun a ha => plain_one (allPlain_iff hpl a ha)) (by rw [size_zeroCells, hzc]) (by rw [← hnn]; exact o5) (by rw [← hnn]; exact o6) o7 o2 hnn ep
    | _ => have ep' : (none : Option (AV × H)) = some p := ep8; cases ep'

theorem appendNil_sound (r : HR B w0 μ h w) {st xt ty : TypeId} {k : Nat} {x : Value} {p : AV × H} (hx : vrel μ (.oi k) x) (ep : appendNil? P h st xt k = some p) :
    OkV P B w0 μ w (Builtin.append_ #[st, xt] ty #[.slice none 0 0, x]) p.1 p.2 := by
  obtain ⟨e, he, ep1⟩ := ob_some ep
  obtain ⟨s, hz, ep2⟩ := ob_some ep1
  obtain ⟨b, hb, ep3⟩ := ob_some ep2
  obtain ⟨v, hv, ep4⟩ := ob_some ep3
  obtain ⟨t, hk, ep5⟩ := ob_some ep4
  obtain ⟨hc, ep6⟩ := ifb_some ep5
  obtain ⟨q, hq, ep7⟩ := ob_some ep6
  clear ep ep1 ep2 ep3 ep4 ep5 ep6
  simp only [Bool.and_eq_true, nbeq_iff, blt_iff] at hc
  obtain ⟨rfl, c1, c2, c3, c4, c5⟩ := hc
  have hst := sliceElem_some he
  obtain ⟨i, zv, hi, hzv, hrel⟩ := zeroOf_some (μ := μ) hv
  obtain ⟨i1, hi1, rfl⟩ := sizeOf_some hz
  rw [hi] at hi1; cases hi1
  obtain ⟨i1, hi1, rfl⟩ := bytesOf_some hb
  rw [hi] at hi1; cases hi1
  have hzc : zv.cells.size = i.size := by rw [← Array.length_toList, vrels_length (vrel_cells hrel)]; exact c5
  have hzero : ∀ k, (Builtin.zeroCells zv.cells k).size = k * i.size := fun k => by rw [size_zeroCells, hzc]
  obtain ⟨d, hd, hk⟩ := ob_some hk
  have hd' : ∃ q, d = .int q := by cases d <;> simp [isInt] at hk <;> simp
  obtain ⟨ik, rfl⟩ := hd'
  obtain ⟨o1, o2, o3, o4, o5, o6⟩ := Tab.vnok _ (findVN_some hq)
  simp only at o1 o2 o3 o4 o5 o6
  simp only [vrel] at hx
  subst hx
  have hkn : ((Tab.iv k).2.toNat : Int) = (Tab.iv k).2 := Int.toNat_of_nonneg o1.2
  have hs : Src P w e xt zv i.size (.int (Tab.iv k).1 (Tab.iv k).2) (Tab.iv k).2.toNat (Builtin.zeroCells zv.cells (Tab.iv k).2.toNat) :=
    ⟨.inr ⟨(Tab.iv k).1, ik, hd, by rw [hkn], rfl⟩, by unfold limit at o4; omega⟩
  have hzs := zeroCells_sound hrel (by omega) (Tab.iv k).2.toNat
  rw [c5] at hzs
  unfold limit at o4
  obtain ⟨cap, hcap, hrun⟩ := run_append_new (ty := ty) (olds := #[]) (base := none) (sLen := 0) (sCap := 0) hst hi hzv hs c2 c1 c3 (by omega) (by omega) (by simp [Builtin.firstCells])
  obtain ⟨μ', g1, g2, g3⟩ := vecGrown_sound r (olds := #[]) (news := Builtin.zeroCells zv.cells (Tab.iv k).2.toNat) (zs := Builtin.zeroCells zv.cells (cap - (0 + (Tab.iv k).2.toNat))) (e := e) (need := 0 + (Tab.iv k).2.toNat) (z := i.size) (cap := cap)
    (i' := q.1) (j' := q.2) hcap (by simp [hzero]) (by rw [hzero]) (by rw [o3]; exact o1) (by rw [o3]; simp) (by simpa using o5) (fun m a hm => by
      obtain ⟨hml, b, h1, hsm⟩ := o6 m a hm
      have h2 : (cyc v.cells 0 ((Tab.iv k).2.toNat * i.size))[m]? = some b := by rw [cyc_get _ _ _ _ hml, Nat.zero_add, h1]; rfl
      obtain ⟨u, u1, u2⟩ := vrels_get hzs h2
      exact ⟨u, by rw [← u1]; simp, hsm.vrel u2⟩) ep7
  exact ⟨_, _, μ', hrun, g1, by simpa using g2, g3⟩

/-- A vector that is made. -/
theorem makeVec_sound (r : HR B w0 μ h w) {t : TypeId} {k j : Nat} {lv cv : Value} {p : AV × H} (hl : vrel μ (.oi k) lv) (hc : vrel μ (.oi j) cv) (ep : makeVec? P h t k j = some p) :
    OkV P B w0 μ w (Instr.makeSlice t lv cv) p.1 p.2 := by
  obtain ⟨el, hel, ep1⟩ := ob_some ep
  obtain ⟨s, hs, ep2⟩ := ob_some ep1
  obtain ⟨b, hb, ep3⟩ := ob_some ep2
  obtain ⟨v, hv, ep4⟩ := ob_some ep3
  obtain ⟨hcnd, ep5⟩ := ifb_some ep4
  obtain ⟨q, hq, ep6⟩ := ob_some ep5
  clear ep ep1 ep2 ep3 ep4 ep5
  simp only [Bool.and_eq_true, nbeq_iff, blt_iff] at hcnd
  obtain ⟨rfl, c2, c3, c5⟩ := hcnd
  have hd := sliceElem_some hel
  obtain ⟨i, zv, hi, hzv, hrel⟩ := zeroOf_some (μ := μ) hv
  obtain ⟨i1, hi1, rfl⟩ := sizeOf_some hs
  rw [hi] at hi1; cases hi1
  obtain ⟨i1, hi1, rfl⟩ := bytesOf_some hb
  rw [hi] at hi1; cases hi1
  obtain ⟨o1, o2, o3, o4, o5, o6⟩ := Tab.vnok _ (findVN_some hq)
  simp only at o1 o2 o3 o4 o5 o6
  simp only [vrel] at hl hc
  subst hl hc
  have hkn : ((Tab.iv k).2.toNat : Int) = (Tab.iv k).2 := Int.toNat_of_nonneg o1.2
  generalize hn : (Tab.iv k).2.toNat = n at o4 o5 o6 hkn
  have hzs : zv.cells.size = i.size := by rw [← Array.length_toList, vrels_length (vrel_cells hrel)]; exact c5
  unfold limit at o4
  have hw1 := wrap_i64 (n := n) (by omega)
  have hbc : i.bytes * n ≤ 100000 * 1000000 := Nat.mul_le_mul (by omega) (by omega)
  have hbc' : ¬ ((281474976710656 : Int) < (i.bytes : Int) * (n : Int)) := by
    have : (i.bytes : Int) * (n : Int) = ((i.bytes * n : Nat) : Int) := by simp
    rw [this]; omega
  have hn2 : ¬ ((n : Int) < 0) := by omega
  have h0 : n * i.size ≠ 0 := Nat.mul_ne_zero (by omega) (by omega)
  obtain ⟨x, h1, ha, hp⟩ := vecNew_some ep6
  have hat := At.ofAlloc r ha
  have hext : Ext μ (upm μ x ⟨w.heap.size, 0, n * i.size⟩) := Ext.upm _ hat.new
  subst hp
  refine ⟨.slice (some ⟨w.heap.size, 0, none⟩) n n, _, upm μ x ⟨w.heap.size, 0, n * i.size⟩, ?_, hext, ?_, r.alloc (l := ⟨w.heap.size, 0, n * i.size⟩) hat rfl (below_push w (.cells ((Array.range (n * i.size)).map (fun x => zv.cells[x % zv.cells.size]!)) el (0, 0))) (Nat.le_refl _) ?_⟩
  · rw [← hkn]
    have ho1 := o1.1
    simp [Instr.makeSlice, run_underlying hd, asInt, asIntOf, run_typeInfo hi, hw1, hbc', hn2, sizeOf, newRow, h0, run_zeroValue hi hzv]
  · simp only [vrel]
    refine ⟨by rw [o3]; exact o1, ⟨w.heap.size, 0, n * i.size⟩, n, by simp [upm], by rw [o3, hn]; omega, by simp, ?_⟩
    rw [o3, hn]
  · refine ⟨(Array.range (n * i.size)).map (fun x => zv.cells[x % zv.cells.size]!), el, (0, 0), by show (w.heap.push _)[w.heap.size]? = _; simp, by show ((Array.range (n * i.size)).map _).size = _; simp, fun i _ => by simp, by show 0 + Tab.vk q.1 ≤ n * i.size; omega, vecRel.less (μ := μ) (Tab.vvp q.1) fun m a hm => ?_⟩
    obtain ⟨hml, b, g1, hsm⟩ := o6 m a hm
    obtain ⟨u, u1, u2⟩ := vrels_get (vrel_cells hrel) g1
    refine ⟨u, ?_, hsm.vrel u2⟩
    rw [Array.getElem?_toList, c5] at u1
    have hu : zv.cells[m % zv.cells.size]! = u := by rw [getElem!_def, hzs, u1]
    simp [hml, hu]

theorem append_sound (r : HR B w0 μ h w) {st xt ty : TypeId} {s a : AV} {sv x : Value} {p : AV × H} (hsv : vrel μ s sv) (hx : vrel μ a x) (ep : append? P h st xt s a = some p) :
    OkV P B w0 μ w (Builtin.append_ #[st, xt] ty #[sv, x]) p.1 p.2 := by
  unfold append? at ep
  split at ep
  · exact appendVec_sound r hsv hx ep
  · split at ep
    · simp only [vrel] at hsv; subst hsv
      exact appendNil_sound r hx ep
    · exact append0_sound r hsv hx ep
  · exact append0_sound r hsv hx ep

theorem findVL_some {i k z f n : Nat} {c : List AV} : ∀ {l : List VL}, findVL i k z f n l = some c → ⟨i, k, z, f, c⟩ ∈ l ∧ c.length = n
  | [], e => by have e' : (none : Option (List AV)) = some c := e; cases e'
  | r :: l, e => by
    have e' : (@Bool.rec (fun _ => Option (List AV)) (findVL i k z f n l) (@Bool.rec (fun _ => Option (List AV)) (findVL i k z f n l) (@Bool.rec (fun _ => Option (List AV)) (findVL i k z f n l) (@Bool.rec (fun _ => Option (List AV)) (findVL i k z f n l) (@Bool.rec (fun _ => Option (List AV)) (findVL i k z f n l) (some r.l) (Nat.beq r.l.length n)) (Nat.beq r.f f)) (Nat.beq r.z z)) (Nat.beq r.k k)) (Nat.beq r.i i)) = some c := e
    have ih := fun e => let q := findVL_some (i := i) (k := k) (z := z) (f := f) (n := n) (c := c) (l := l) e; (⟨List.mem_cons_of_mem r q.1, q.2⟩ : (⟨i, k, z, f, c⟩ : VL) ∈ r :: l ∧ c.length = n)
    cases h1 : Nat.beq r.i i with
    | false => rw [h1] at e'; exact ih e'
    | true =>
    cases h2 : Nat.beq r.k k with
    | false => rw [h1, h2] at e'; exact ih e'
    | true =>
    cases h3 : Nat.beq r.z z with
    | false => rw [h1, h2, h3] at e'; exact ih e'
    | true =>
    cases h5 : Nat.beq r.f f with
    | false => rw [h1, h2, h3, h5] at e'; exact ih e'
    | true =>
    cases h4 : Nat.beq r.l.length n with
    | false => rw [h1, h2, h3, h5, h4] at e'; exact ih e'
    | true =>
      rw [h1, h2, h3, h5, h4] at e'
      cases e'
      rw [← nbeq_iff.1 h1, ← nbeq_iff.1 h2, ← nbeq_iff.1 h3, ← nbeq_iff.1 h5]
      exact ⟨List.mem_cons_self, nbeq_iff.1 h4⟩
theorem findVS_some {i k z f i' : Nat} {c : List AV} : ∀ {l : List VS}, findVS i k z f c l = some i' → ⟨i, k, z, f, c, i'⟩ ∈ l
  | [], e => by have e' : (none : Option Nat) = some i' := e; cases e'
  | r :: l, e => by
    have e' : (@Bool.rec (fun _ => Option Nat) (findVS i k z f c l) (@Bool.rec (fun _ => Option Nat) (findVS i k z f c l) (@Bool.rec (fun _ => Option Nat) (findVS i k z f c l) (@Bool.rec (fun _ => Option Nat) (findVS i k z f c l) (@Bool.rec (fun _ => Option Nat) (findVS i k z f c l) (some r.i') (peqs r.l c)) (Nat.beq r.f f)) (Nat.beq r.z z)) (Nat.beq r.k k)) (Nat.beq r.i i)) = some i' := e
    have ih := fun e => List.mem_cons_of_mem r (findVS_some (i := i) (k := k) (z := z) (f := f) (c := c) (i' := i') (l := l) e)
    cases h1 : Nat.beq r.i i with
    | false => rw [h1] at e'; exact ih e'
    | true =>
    cases h2 : Nat.beq r.k k with
    | false => rw [h1, h2] at e'; exact ih e'
    | true =>
    cases h3 : Nat.beq r.z z with
    | false => rw [h1, h2, h3] at e'; exact ih e'
    | true =>
    cases h5 : Nat.beq r.f f with
    | false => rw [h1, h2, h3, h5] at e'; exact ih e'
    | true =>
    cases h4 : peqs r.l c with
    | false => rw [h1, h2, h3, h5, h4] at e'; exact ih e'
    | true =>
      rw [h1, h2, h3, h5, h4] at e'
      cases e'
      rw [← nbeq_iff.1 h1, ← nbeq_iff.1 h2, ← nbeq_iff.1 h3, ← nbeq_iff.1 h5, ← peqs_eq h4]
      exact List.mem_cons_self

theorem vload_sound (r : HR B w0 μ h w) {t : TypeId} {x k z f : Nat} {a : AV} {pv : Value} (hp : vrel μ (.op x k z f) pv) (e : vload? P h t x k z f = some a) :
    OkQ P μ w (Instr.loadAt t pv) a := by
  simp only [vrel] at hp
  obtain ⟨hk0, l, hl, rfl⟩ := hp
  obtain ⟨b, hb, e⟩ := ob_some e
  obtain ⟨i, hi, e⟩ := ob_some e
  obtain ⟨g, hg, e⟩ := ob_some e
  have := vecIn_some hi
  subst this
  obtain ⟨l', hl', _, _, arr, el, fz, g1, g2, g3, g4, g5⟩ := r.blk x _ hb
  rw [hl] at hl'; cases hl'
  have key : ∀ (n : Nat) (c : List AV), findVL i k z f n Tab.vl = some c → ∃ vs, vrels μ c vs ∧ vs.length = n ∧ ∀ q, q < n → w.cell? ⟨l.block, l.base + ((Tab.iv k).2.toNat * z + f) + q, none⟩ = vs[q]? := by
    intro n c hc
    obtain ⟨hm, hlen⟩ := findVL_some hc
    obtain ⟨_, o2⟩ := Tab.vlok _ hm
    simp only at o2
    have gen : ∀ (c : List AV) (off : Nat), (∀ m b, c[m]? = some b → ∃ a, Tab.vv i (off + m) = some a ∧ sameAV Tab.iv a b) → ∃ vs, vrels μ c vs ∧ vs.length = c.length ∧ ∀ q, q < c.length → arr[l.base + off + q]? = vs[q]? := by
      intro c
      induction c with
      | nil => intro off _; exact ⟨[], by simp [vrels], rfl, fun q hq => by simp at hq⟩
      | cons a c ih =>
        intro off ho
        obtain ⟨a0, h0, hsm⟩ := ho 0 a rfl
        obtain ⟨v, v1, v2⟩ := g5 off a0 h0
        obtain ⟨vs, q1, q2, q3⟩ := ih (off + 1) (fun m b hm => by
          obtain ⟨a1, h1, h2⟩ := ho (m + 1) b (by simpa using hm)
          exact ⟨a1, by rw [← h1]; congr 1; omega, h2⟩)
        refine ⟨v :: vs, vrels_cons (hsm.vrel v2) q1, by simp [q2], fun q hq => ?_⟩
        cases q with
        | zero => simpa using v1
        | succ q =>
          rw [List.getElem?_cons_succ, ← q3 q (by simpa using hq)]
          congr 1; omega
    obtain ⟨vs, q1, q2, q3⟩ := gen c _ o2
    exact ⟨vs, q1, by omega, fun q hq => by simp only [World.cell?, g1]; simpa using q3 q (by omega)⟩
  cases g with
  | false =>
    obtain ⟨c, hc, e⟩ := ob_some (show ob _ _ = _ from e)
    obtain ⟨vs, q1, q2, q3⟩ := key 1 c hc
    cases c with
    | nil => simp at e
    | cons a' c =>
      simp only [List.head?_cons, Option.some.injEq] at e
      subst e
      simp only [vrels] at q1
      obtain ⟨v, vs', rfl, q4, _⟩ := q1
      have := q3 0 (by omega)
      simp only [Nat.add_zero, List.getElem?_cons_zero] at this
      exact .same r (v' := v) (by simp [Instr.loadAt, Instr.sureAddr, loadVar, run_isAgg hg, this]) q4
  | true =>
    obtain ⟨n, hn, e⟩ := ob_some (show ob _ _ = _ from e)
    obtain ⟨c, hc, e⟩ := ob_some e
    cases e
    obtain ⟨vs, q1, q2, q3⟩ := key n c hc
    have := cell_loads (P := P) (l := l) (o := (Tab.iv k).2.toNat * z + f) q2 q3
    exact .same r (v' := .agg ⟨vs⟩) (by simp [Instr.loadAt, Instr.sureAddr, loadVar, run_isAgg hg, run_sizeOf hn, this]) (by simp only [vrel]; exact ⟨vs, rfl, q1⟩)

theorem fload_sound (r : HR B w0 μ h w) {t : TypeId} {x k z f : Nat} {a : AV} {pv : Value} (hp : vrel μ (.fp x k z f) pv) (e : fload? P t x k z f = some a) :
    OkQ P μ w (Instr.loadAt t pv) a := by
  simp only [vrel] at hp
  obtain ⟨hk0, rfl⟩ := hp
  obtain ⟨g, hg, e⟩ := ob_some e
  have key : ∀ (n : Nat) (c : List AV), findVL x k z f n Tab.fl = some c → ∃ vs, vrels μ c vs ∧ vs.length = n ∧ ∀ q, q < n → w.cell? ⟨(Tab.fb x).1, (Tab.fb x).2 + ((Tab.iv k).2.toNat * z + f) + q, none⟩ = vs[q]? := by
    intro n c hc
    obtain ⟨hm, hlen⟩ := findVL_some hc
    obtain ⟨_, o2⟩ := Tab.flok _ hm
    simp only at o2
    have gen : ∀ (c : List AV) (off : Nat), (∀ m b, c[m]? = some b → ∃ a, Tab.fv x (off + m) = some a ∧ sameAV Tab.iv a b) → ∃ vs, vrels μ c vs ∧ vs.length = c.length ∧ ∀ q, q < c.length → w.cell? ⟨(Tab.fb x).1, (Tab.fb x).2 + off + q, none⟩ = vs[q]? := by
      intro c
      induction c with
      | nil => intro off _; exact ⟨[], by simp [vrels], rfl, fun q hq => by simp at hq⟩
      | cons a c ih =>
        intro off ho
        obtain ⟨a0, h0, hsm⟩ := ho 0 a rfl
        obtain ⟨_, v, v1, v2⟩ := r.below.frgn h0
        obtain ⟨vs, q1, q2, q3⟩ := ih (off + 1) (fun m b hm => by
          obtain ⟨a1, h1, h2⟩ := ho (m + 1) b (by simpa using hm)
          exact ⟨a1, by rw [← h1]; congr 1; omega, h2⟩)
        refine ⟨v :: vs, vrels_cons (hsm.vrel (vrel_any v2)) q1, by simp [q2], fun q hq => ?_⟩
        cases q with
        | zero => simpa [Nat.add_assoc] using v1
        | succ q =>
          rw [List.getElem?_cons_succ, ← q3 q (by simpa using hq)]
          congr 2; omega
    obtain ⟨vs, q1, q2, q3⟩ := gen c _ o2
    exact ⟨vs, q1, by omega, fun q hq => q3 q (by omega)⟩
  cases g with
  | false =>
    obtain ⟨c, hc, e⟩ := ob_some (show ob _ _ = _ from e)
    obtain ⟨vs, q1, q2, q3⟩ := key 1 c hc
    cases c with
    | nil => simp at e
    | cons a' c =>
      simp only [List.head?_cons, Option.some.injEq] at e
      subst e
      simp only [vrels] at q1
      obtain ⟨v, vs', rfl, q4, _⟩ := q1
      have := q3 0 (by omega)
      simp only [Nat.add_zero, List.getElem?_cons_zero] at this
      exact .same r (v' := v) (by simp [Instr.loadAt, Instr.sureAddr, loadVar, run_isAgg hg, this]) q4
  | true =>
    obtain ⟨n, hn, e⟩ := ob_some (show ob _ _ = _ from e)
    obtain ⟨c, hc, e⟩ := ob_some e
    cases e
    obtain ⟨vs, q1, q2, q3⟩ := key n c hc
    have := cell_loads (P := P) (l := ⟨(Tab.fb x).1, (Tab.fb x).2, 0⟩) (o := (Tab.iv k).2.toNat * z + f) q2 q3
    exact .same r (v' := .agg ⟨vs⟩) (by simp [Instr.loadAt, Instr.sureAddr, loadVar, run_isAgg hg, run_sizeOf hn, this]) (by simp only [vrel]; exact ⟨vs, rfl, q1⟩)

theorem vstore_sound (r : HR B w0 μ h w) {t : TypeId} {x k z f : Nat} {a : AV} {v pv : Value} (hp : vrel μ (.op x k z f) pv) (hv : vrel μ a v) (e : vstore? P h t x k z f a = some h') :
    ∃ w', (Instr.storeAt t pv v).run P w = .ok () w' ∧ HR B w0 μ h' w' := by
  simp only [vrel] at hp
  obtain ⟨hk0, l, hl, rfl⟩ := hp
  obtain ⟨n, hn, e⟩ := ob_some e
  obtain ⟨hlen, e⟩ := ifb_some e
  obtain ⟨b, hb, e⟩ := ob_some e
  obtain ⟨i, hi, e⟩ := ob_some e
  obtain ⟨i', hi', e⟩ := ob_some e
  obtain ⟨hlim, e⟩ := ifb_some e
  cases e
  have := vecIn_some hi
  subst this
  simp only [Bool.and_eq_true, nbeq_iff] at hlen
  obtain ⟨hlen, hpl⟩ := hlen
  have hlim := blt_iff.1 hlim
  unfold limit at hlim
  obtain ⟨l', hl', _, _, arr, el, fz, g1, g2, g3, g4, g5⟩ := r.blk x _ hb
  rw [hl] at hl'; cases hl'
  obtain ⟨_, o2, o3, o4⟩ := Tab.vsok _ (findVS_some hi')
  simp only at o2 o3 o4
  have hcells := vrel_cells hv
  have hvl := vrels_length hcells
  obtain ⟨w', arr', k1, k2, k3, k4, k5⟩ := run_storeCells (P := P) (c := l.block) (e := el) (fz := fz) v.cells.toList (l.base + ((Tab.iv k).2.toNat * z + f)) 0 arr w g1 (by rw [hvl]; omega) (fun j hj => g3 j (by omega)) (vrels_one_all hcells (fun a ha => plain_one (allPlain_iff hpl a ha)))
  refine ⟨w', ?_, r.upd (b := .vec i) hb hl rfl rfl (by omega) k2 ⟨arr', el, fz, k3, by omega, g3, by omega, vecRel.less (μ := μ) (Tab.vvp i') fun m u hm => ?_⟩⟩
  · have hsz : v.cells.size = n := by
      rw [Array.length_toList] at hvl
      rw [hvl]; exact hlen
    simp [Instr.storeAt, Instr.sureAddr, storeVar, run_sizeOf hn, hsz, k1]
  · obtain ⟨u0, h1, hsm⟩ := o4 m u hm
    split at h1
    · rename_i c1
      obtain ⟨y, y1, y2⟩ := vrels_get hcells h1
      refine ⟨y, ?_, hsm.vrel y2⟩
      rw [k5, if_pos (by rw [hvl]; omega), ← y1]
      congr 1; omega
    · rename_i c1
      obtain ⟨y, y1, y2⟩ := g5 m u0 h1
      refine ⟨y, ?_, hsm.vrel y2⟩
      rw [k5, if_neg (by rw [hvl]; omega)]; exact y1
end Go.X
