/-
  An abstract machine for the model: what it computes, and that it holds of every run (part 2).
-/
import Derived.Test.YtnenjcehicaobaaXN1
import Derived.Laws.Concat
import Derived.Laws.BytesString
import Derived.Laws.Externs
import Derived.Lib.Bytealg
set_option linter.unusedVariables false
set_option linter.unusedSimpArgs false
set_option linter.unusedSectionVars false
namespace Go.X
open Go.RowKit
variable [Tab]
variable {P : Program} {B : Kp} {w0 : World} {μ : M} {h h' : H} {w w' : World}
theorem allOne_iff : ∀ {l : List AV}, allOne l = true → ∀ v ∈ l, v.one = true
  | [], _, v, hv => by simp at hv
  | a :: l, e, v, hv => by
    have e' : (@Bool.rec (fun _ => Bool) false (allOne l) a.one) = true := e
    cases h1 : a.one with
    | false => rw [h1] at e'; simp at e'
    | true =>
      rw [h1] at e'
      simp only [List.mem_cons] at hv
      rcases hv with rfl | hv
      · exact h1
      · exact allOne_iff e' v hv
theorem vrels_one_all : ∀ {as : List AV} {vs : List Value}, vrels μ as vs → (∀ a ∈ as, a.one = true) → ∀ v ∈ vs, oneV v = true
  | [], vs, h1, h2, v, hv => by simp only [vrels] at h1; subst h1; simp at hv
  | a :: as, vs, h1, h2, v, hv => by
    simp only [vrels] at h1
    obtain ⟨u, r, rfl, g1, g2⟩ := h1
    simp only [List.mem_cons] at hv
    rcases hv with rfl | hv
    · exact vrel_one g1 (h2 a (by simp))
    · exact vrels_one_all g2 (fun b hb => h2 b (by simp [hb])) v hv
theorem below_drew_alloc (w : World) (o : Obj) : Below w.heap.size w (w.drew.alloc o) :=
  ⟨rfl, rfl, rfl, by show w.heap.size ≤ (w.heap.push o).size; simp, fun k hk => by show (w.heap.push o)[k]? = _; rw [Array.getElem?_push, if_neg (by omega)]⟩
theorem grown_sound (r : HR B w0 μ h w) {all : List AV} {olds news zs : Array Value} {e : TypeId} {need z cap : Nat} {p : AV × H} (hall : vrels μ all (olds.toList ++ news.toList)) (hn : need ≤ cap)
    (hsz : (olds ++ news).size = need * z) (hzs : zs.size = (cap - need) * z) (hp : newRow? h all need z = some p) :
    ∃ μ', Ext μ μ' ∧ vrel μ' p.1 (.slice (some ⟨w.heap.size, 0, none⟩) need cap) ∧ HR B w0 μ' p.2 (w.drew.alloc (.cells (olds ++ news ++ zs) e)) := by
  obtain ⟨q, hq, e1⟩ := ob_some hp
  cases e1
  have htot : (olds ++ news ++ zs).size = cap * z := by
    rw [Array.size_append, hsz, hzs, ← Nat.add_mul]
    congr 1; omega
  obtain ⟨hll, hq⟩ := H.row_some hq
  have := r.row (x := q.1) (h' := q.2) (vs := olds.toList ++ news.toList) (arr := olds ++ news ++ zs) (e := e) (fz := (0, 0)) (At.ofAlloc r hq) hll hall (below_drew_alloc w _)
    (by show (w.heap.push (.cells (olds ++ news ++ zs) e (0, 0)))[w.heap.size]? = _; simp) (by simp) (fun i hi => by
      rw [Array.getElem?_append_left (by simpa using hi)]
      rw [← Array.toList_append, Array.getElem?_toList]) (fun i _ => by simp) (fun _ => rfl)
  obtain ⟨h1, h2, h3⟩ := this
  refine ⟨_, h1, ?_, h3⟩
  simp only [vrel]
  exact ⟨_, cap, h2, hn, by simp only [Nat.zero_add]; exact htot.symm, rfl⟩
theorem appendTo_sound (r : HR B w0 μ h w) {st xt ty e : TypeId} {i : TypeInfo} {z : Value} {s : AV} {sv x : Value} {n : Nat} {news : Array Value} {src : List AV} {p : AV × H}
    (hst : P.underlying st = some (.slice e)) (hi : P.info? e = some i) (hz : i.zero = some z) (hzc : z.cells.size = i.size)
    (hs : Src P w e xt z i.size x n news) (hb : i.bytes < 100000) (hb0 : 0 < i.bytes) (hsz : 0 < i.size)
    (hsv : vrel μ s sv) (hnews : vrels μ src news.toList) (hlen : news.size = n * i.size) (ep : appendTo h i.size n src s = some p) :
    OkV P B w0 μ w (Builtin.append_ #[st, xt] ty #[sv, x]) p.1 p.2 := by
  have hzero : ∀ k, (Builtin.zeroCells z.cells k).size = k * i.size := fun k => by rw [size_zeroCells, hzc]
  have hsmall := hs.small
  cases s with
  | nils =>
    simp only [vrel] at hsv; subst hsv
    simp only [appendTo] at ep
    by_cases h0 : n = 0
    · subst h0
      simp only [Nat.beq_refl] at ep
      cases ep
      exact .same r (run_append_room (base := none) hst hi hz hs hb hsz (by simp) rfl) (by simp [vrel])
    · rw [nbeq_false h0] at ep
      obtain ⟨cap, hc, hrun⟩ := run_append_new (ty := ty) (olds := #[]) (base := none) (sLen := 0) (sCap := 0) hst hi hz hs hb hb0 hsz (by omega) (by omega) (by simp [Builtin.firstCells])
      obtain ⟨μ', g1, g2, g3⟩ := grown_sound r (olds := #[]) (zs := Builtin.zeroCells z.cells (cap - (0 + n))) (e := e) (cap := cap) (by simpa using hnews) (by omega) (by simpa using hlen) (by rw [hzero]; simp) ep
      exact ⟨_, _, μ', hrun, g1, by simpa using g2, g3⟩
  | sl y o m c =>
    simp only [vrel] at hsv
    obtain ⟨l, hl, rfl⟩ := hsv
    simp only [appendTo] at ep
    by_cases hroom : m + n ≤ c
    · rw [ble_iff.2 hroom] at ep
      obtain ⟨h1, hst1, ep⟩ := ob_some ep
      cases ep
      obtain ⟨w', k1, k2⟩ := HR.stores (P := P) hl src news.toList (o + m * i.size) 0 h h1 w r hst1 hnews
      refine ⟨_, w', μ, run_append_room (base := some ⟨l.block, l.base + o, none⟩) hst hi hz hs hb hsz hroom ?_, Ext.refl _, ?_, k2⟩
      · simp only [Addr.add_lit]
        rw [Nat.add_assoc]; exact k1
      · simp only [vrel]; exact ⟨l, hl, rfl⟩
    · have hf : Nat.ble (m + n) c = false := by
        cases hh : Nat.ble (m + n) c with
        | false => rfl
        | true => exact absurd (ble_iff.1 hh) hroom
      rw [hf] at ep
      obtain ⟨old, hold, ep⟩ := ob_some ep
      obtain ⟨hlim, ep⟩ := ifb_some ep
      have hlim := blt_iff.1 hlim
      unfold limit at hlim
      obtain ⟨vs, v1, v2, v3⟩ := r.loads hl (m * i.size) o old hold
      have hfirst : (Builtin.firstCells i.size m (.slice (some ⟨l.block, l.base + o, none⟩) m c)).run P w.drew = .ok ⟨vs⟩ w.drew := by
        simp only [Builtin.firstCells]
        exact cell_loads v2 v3
      obtain ⟨cap, hc, hrun⟩ := run_append_new (ty := ty) (olds := ⟨vs⟩) (base := some ⟨l.block, l.base + o, none⟩) (sLen := m) (sCap := c) hst hi hz hs hb hb0 hsz (by omega) (by omega) hfirst
      obtain ⟨μ', g1, g2, g3⟩ := grown_sound r (olds := ⟨vs⟩) (news := news) (zs := Builtin.zeroCells z.cells (cap - (m + n))) (e := e) (cap := cap) (vrels_append v1 hnews) hc (by simp only [Array.size_append, hlen]; show vs.length + _ = _; rw [v2, ← Nat.add_mul]) (by rw [hzero]) ep
      exact ⟨_, _, μ', hrun, g1, g2, g3⟩
  | so y o m z' =>
    simp only [vrel] at hsv
    obtain ⟨l, c, hl, hmc, htot, rfl⟩ := hsv
    simp only [appendTo] at ep
    obtain ⟨hzz, ep2⟩ := ifb_some ep
    clear ep
    obtain rfl : z' = i.size := (nbeq_iff.1 hzz).symm
    by_cases h0 : n = 0
    · subst h0
      simp only [Nat.beq_refl] at ep2
      cases ep2
      refine .same r (run_append_room (base := some ⟨l.block, l.base + o, none⟩) hst hi hz hs hb hsz (by omega) ?_) (by simp only [vrel]; exact ⟨l, c, hl, hmc, htot, rfl⟩)
      have he : news.toList = [] := by
        have : news.size = 0 := by simpa using hlen
        simpa using this
      rw [he]; simp [storeCells]
    · rw [nbeq_false h0] at ep2
      obtain ⟨b, hgb, ep2⟩ := ob_some ep2
      obtain ⟨rm, hrm, ep2⟩ := ob_some ep2
      cases b with
      | cells k opn zz t =>
        cases opn with
        | false => simp [openRoom] at hrm
        | true =>
          simp only [openRoom] at hrm
          cases hrm
          obtain ⟨l', hl', hBl, _, arr, el, fz, g1, g2, g3, g4, g5, g6⟩ := r.blk y _ hgb
          rw [hl] at hl'; cases hl'
          by_cases hroom : o + (m + n) * i.size ≤ k
          · rw [ble_iff.2 hroom] at ep2
            obtain ⟨h1, hst1, ep2⟩ := ob_some ep2
            cases ep2
            have hcap : m + n ≤ c := by
              apply Nat.le_of_mul_le_mul_right (c := i.size) _ hsz
              omega
            obtain ⟨w', k1, k2⟩ := HR.stores (P := P) hl src news.toList (o + m * i.size) 0 h h1 w r hst1 hnews
            refine ⟨_, w', μ, run_append_room (base := some ⟨l.block, l.base + o, none⟩) hst hi hz hs hb hsz hcap ?_, Ext.refl _, ?_, k2⟩
            · simp only [Addr.add_lit]
              rw [Nat.add_assoc]; exact k1
            · simp only [vrel]; exact ⟨l, c, hl, hcap, htot, rfl⟩
          · have hf : Nat.ble (o + (m + n) * i.size) k = false := by
              cases hh : Nat.ble (o + (m + n) * i.size) k with
              | false => rfl
              | true => exact absurd (ble_iff.1 hh) hroom
            rw [hf] at ep2
            obtain ⟨old, hold, ep2⟩ := ob_some ep2
            obtain ⟨hcond, ep2⟩ := ifb_some ep2
            simp only [Bool.and_eq_true, blt_iff] at hcond
            obtain ⟨hlim, hone⟩ := hcond
            unfold limit at hlim
            obtain ⟨vs, v1, v2, v3⟩ := r.loads hl (m * i.size) o old hold
            by_cases hcap : m + n ≤ c
            ·
              have hmul : (m + n) * i.size ≤ c * i.size := Nat.mul_le_mul_right _ hcap
              have hsum : (m + n) * i.size = m * i.size + n * i.size := Nat.add_mul _ _ _
              have hnl : news.toList.length = n * i.size := by simpa using hlen
              obtain ⟨w', arr', k1, k2, k3, k4, k5⟩ := run_storeCells (P := P) (c := l.block) (e := el) (fz := fz) news.toList (l.base + o + m * i.size) 0 arr w g1 (by rw [hnl]; omega) (fun j hj => g3 j (by omega)) (vrels_one_all hnews (allOne_iff hone))
              obtain ⟨q, hq, e1⟩ := ob_some ep2
              cases e1
              obtain ⟨hll, hq2⟩ := ifb_some hq
              have hll := blt_iff.1 hll
              have hx := (H.alloc_some hq2).1
              have hnx : (h.kill y).next = h.next := rfl
              rw [hnx] at hx
              have hext : Ext μ (upm μ q.1 ⟨l.block, l.base + o, l.total⟩) := Ext.upm _ (by rw [hx]; exact (r.fresh h.next (Nat.le_refl _)).2)
              have hrow : brel (upm μ q.1 ⟨l.block, l.base + o, l.total⟩) (rowOf (old ++ src) true) ⟨l.block, l.base + o, l.total⟩ w' := by
                have hlo := vrels_length v1
                have hls := vrels_length hnews
                refine ⟨arr', el, fz, k3, by show arr'.size = l.total; omega, g3, ?_, fun e => by simp at e, ?_⟩
                · simp only [List.length_append]; omega
                · intro j a hj ha
                  rw [cellOf_row _ _ hll] at ha
                  obtain ⟨v, hv1, hv2⟩ := vrels_get (vrels_append v1 hnews) ha
                  refine ⟨v, ?_, vrel.ext hext _ _ hv2⟩
                  rw [k5, ← hv1]
                  dsimp only
                  simp only [List.length_append] at hj
                  by_cases cj : j < m * i.size
                  · rw [if_neg (by omega), List.getElem?_append_left (by omega), ← v3 j cj]
                    simp [World.cell?, g1]
                  · rw [if_pos (by omega), List.getElem?_append_right (by omega)]
                    congr 1
                    omega
              have hr := r.rename (x := y) (y := q.1) (h' := q.2) (b := rowOf (old ++ src) true) (k := ⟨l.block, l.base + o, l.total⟩) hgb hl rfl hq2 rfl k2 rfl hrow
              refine ⟨_, w', _, run_append_room (base := some ⟨l.block, l.base + o, none⟩) hst hi hz hs hb hsz hcap ?_, hext, ?_, hr⟩
              · simp only [Addr.add_lit]; exact k1
              · simp only [vrel]
                exact ⟨⟨l.block, l.base + o, l.total⟩, c, by simp [upm], hcap, by simpa using htot, by simp⟩
            · have hfirst : (Builtin.firstCells i.size m (.slice (some ⟨l.block, l.base + o, none⟩) m c)).run P w.drew = .ok ⟨vs⟩ w.drew := by
                simp only [Builtin.firstCells]
                exact cell_loads v2 v3
              obtain ⟨cap, hc, hrun⟩ := run_append_new (ty := ty) (olds := ⟨vs⟩) (base := some ⟨l.block, l.base + o, none⟩) (sLen := m) (sCap := c) hst hi hz hs hb hb0 hsz (by omega) (by omega) hfirst
              obtain ⟨μ', g1, g2, g3⟩ := grown_sound (r.kill y) (olds := ⟨vs⟩) (news := news) (zs := Builtin.zeroCells z.cells (cap - (m + n))) (e := e) (cap := cap) (vrels_append v1 hnews) hc (by simp only [Array.size_append, hlen]; show vs.length + _ = _; rw [v2, ← Nat.add_mul]) (by rw [hzero]) ep2
              exact ⟨_, _, μ', hrun, g1, g2, g3⟩
      | glob n z t => simp [openRoom] at hrm
      | map es c => simp [openRoom] at hrm
      | siter n c p => simp [openRoom] at hrm
      | miter m s1 s2 s3 => simp [openRoom] at hrm
      | vec i => simp [openRoom] at hrm
      | omap i => simp [openRoom] at hrm
      | oit x i => simp [openRoom] at hrm
      | oin x i q => simp [openRoom] at hrm
  | ostr i => simp [appendTo] at ep
  | rw i => simp [appendTo] at ep
  | gp g o => simp [appendTo] at ep
  | oi i => simp [appendTo] at ep
  | es => simp [appendTo] at ep
  | ov x j z => simp [appendTo] at ep
  | op x j z f => simp [appendTo] at ep
  | fo x j z => simp [appendTo] at ep
  | fp x j z f => simp [appendTo] at ep
  | ow x a j => simp [appendTo] at ep
  | an => simp [appendTo] at ep
  | bool b => simp [appendTo] at ep
  | int k n => simp [appendTo] at ep
  | str n c => simp [appendTo] at ep
  | nilp => simp [appendTo] at ep
  | ptr x o => simp [appendTo] at ep
  | nilm => simp [appendTo] at ep
  | map x => simp [appendTo] at ep
  | fn f a b => simp [appendTo] at ep
  | nilf => simp [appendTo] at ep
  | iface t v => simp [appendTo] at ep
  | nili => simp [appendTo] at ep
  | agg l => simp [appendTo] at ep
  | tup l => simp [appendTo] at ep
theorem drew_cell (w : World) (a : Addr) : w.drew.cell? a = w.cell? a := rfl
theorem append0_sound (r : HR B w0 μ h w) {st xt ty : TypeId} {s a : AV} {sv x : Value} {p : AV × H} (hsv : vrel μ s sv) (hx : vrel μ a x) (ep : append0? P h st xt s a = some p) :
    OkV P B w0 μ w (Builtin.append_ #[st, xt] ty #[sv, x]) p.1 p.2 := by
  obtain ⟨e, he, ep⟩ := ob_some ep
  obtain ⟨z, hz, ep⟩ := ob_some ep
  obtain ⟨b, hb, ep⟩ := ob_some ep
  obtain ⟨v, hv, ep⟩ := ob_some ep
  obtain ⟨k, hk, ep⟩ := ob_some ep
  obtain ⟨hc, ep⟩ := ifb_some ep
  obtain ⟨n, hn, ep⟩ := ob_some ep
  obtain ⟨hlim, ep⟩ := ifb_some ep
  obtain ⟨src, hsrc, epf⟩ := ob_some ep
  simp only [Bool.and_eq_true, nbeq_iff, blt_iff] at hc
  obtain ⟨c1, c2, c3, c4, c5⟩ := hc
  have hlim := blt_iff.1 hlim
  unfold limit at hlim
  have hst := sliceElem_some he
  obtain ⟨i, zv, hi, hzv, hrel⟩ := zeroOf_some (μ := μ) hv
  obtain ⟨i1, hi1, rfl⟩ := sizeOf_some hz
  rw [hi] at hi1; cases hi1
  obtain ⟨i1, hi1, rfl⟩ := bytesOf_some hb
  rw [hi] at hi1; cases hi1
  have hzc : zv.cells.size = i.size := by rw [← Array.length_toList, vrels_length (vrel_cells hrel)]; exact c5
  obtain ⟨d, hd, hk⟩ := ob_some hk
  cases k with
  | false =>
    obtain ⟨vs, g1, g2, g3, g4⟩ := src_sound (P := P) r hx hn (Nat.le_refl n) hsrc
    refine appendTo_sound (news := ⟨vs⟩) r hst hi hzv hzc ⟨.inl ⟨d, hd, hk, g4 w, g1 w (fun _ => rfl), g1 w.drew (fun _ => rfl)⟩, hlim⟩ c2 c1 c3 hsv g2 (by show vs.length = _; exact g3) epf
  | true =>
    have hd' : ∃ q, d = .int q := by cases d <;> simp [isInt] at hk <;> simp
    obtain ⟨q, rfl⟩ := hd'
    obtain ⟨k2, rfl⟩ := nat_some hn
    simp only [vrel] at hx
    subst hx
    cases hsrc
    have hzs := zeroCells_sound hrel (by omega) n
    rw [c5] at hzs
    exact appendTo_sound (news := Builtin.zeroCells zv.cells n) r hst hi hzv hzc ⟨.inr ⟨k2, q, hd, rfl, rfl⟩, hlim⟩ c2 c1 c3 hsv hzs (by rw [size_zeroCells, hzc]) epf
theorem copy0_sound (r : HR B w0 μ h w) {dt ty : TypeId} {ats : Array TypeId} {d s : AV} {dv sv : Value} {p : AV × H} (hat : ats[0]? = some dt) (hd : vrel μ d dv) (hs : vrel μ s sv) (ep : copy0? P h dt d s = some p) :
    OkV P B w0 μ w (Builtin.copy_ ats ty #[dv, sv]) p.1 p.2 := by
  obtain ⟨e, he, ep⟩ := ob_some ep
  obtain ⟨z, hz, ep⟩ := ob_some ep
  obtain ⟨m, hm, ep⟩ := ob_some ep
  have hst := sliceElem_some he
  have key : ∀ (x o n : Nat) (l : Loc) (cap : Nat), μ x = some l → (ob (srcCells h z (min m n) s) (copyTo h x o (min m n))) = some p →
      OkV P B w0 μ w (Builtin.copy_ ats ty #[.slice (some ⟨l.block, l.base + o, none⟩) n cap, sv]) p.1 p.2 := by
    intro x o n l cap hl ep
    obtain ⟨src, hsrc, ep⟩ := ob_some ep
    obtain ⟨h1, hst1, ep⟩ := ob_some ep
    cases ep
    obtain ⟨vs, g1, g2, g3, g4⟩ := src_sound (P := P) r hs hm (Nat.min_le_left m n) hsrc
    obtain ⟨w', k1, k2⟩ := HR.stores (P := P) hl src vs o 0 h h1 w r hst1 g2
    refine ⟨.int .i64 (min m n : Nat), w', μ, ?_, Ext.refl _, by simp [vrel], k2⟩
    have hf := g1 w (fun _ => rfl)
    simp [Builtin.copy_, hat, g4 w, run_underlying hst, run_sizeOf hz, hf, k1, goInt]
  cases d with
  | sl x o n c =>
    simp only [vrel] at hd
    obtain ⟨l, hl, rfl⟩ := hd
    exact key x o n l c hl ep
  | so x o n c =>
    simp only [vrel] at hd
    obtain ⟨l, cap, hl, _, _, rfl⟩ := hd
    exact key x o n l cap hl ep
  | _ => simp at ep
theorem cyc_get (z : List AV) : ∀ (n s m : Nat), m < n → (cyc z s n)[m]? = some ((z[(s + m) % z.length]?).getD .undef)
  | 0, s, m, h => by omega
  | n + 1, s, 0, h => by simp [cyc]
  | n + 1, s, m + 1, h => by
    simp only [cyc, List.getElem?_cons_succ]
    rw [cyc_get z n (s + 1) m (by omega)]
    congr 4
    omega
theorem cyc_length (z : List AV) : ∀ (n s : Nat), (cyc z s n).length = n
  | 0, _ => rfl
  | n + 1, s => by simp [cyc, cyc_length z n]
theorem allPlain_iff : ∀ {l : List AV}, allPlain l = true → ∀ v ∈ l, vplain v = true
  | [], _, v, hv => by simp at hv
  | a :: l, e, v, hv => by
    have e' : (@Bool.rec (fun _ => Bool) false (allPlain l) (vplain a)) = true := e
    cases h1 : vplain a with
    | false => rw [h1] at e'; simp at e'
    | true =>
      rw [h1] at e'
      simp only [List.mem_cons] at hv
      rcases hv with rfl | hv
      · exact h1
      · exact allPlain_iff e' v hv
theorem plain_one {a : AV} (h : vplain a = true) : a.one = true := by cases a <;> first | rfl | (simp [vplain, plain] at h)
theorem vecNew_some {z : Nat} {q : Nat × Nat} {p : AV × H} (e : vecNew h z q = some p) : ∃ x h', h.alloc (.vec q.1) = some (x, h') ∧ p = (.ov x q.2 z, h') := by
  obtain ⟨a, ha, e⟩ := ob_some e
  cases e
  exact ⟨a.1, a.2, ha, rfl⟩
theorem vecRel.less {μ' : M} (e : Ext μ μ') {base : Nat} {arr : Array Value} {i' : Nat} (h : ∀ (m : Nat) (a : AV), Tab.vv i' m = some a → ∃ v, arr[base + m]? = some v ∧ vrel μ a v) : vecRel μ' (Tab.vv i') base arr :=
  fun i a ha => let ⟨v, h1, h2⟩ := h i a ha; ⟨v, h1, vrel.ext e _ _ h2⟩
theorem vecGrown_sound (r : HR B w0 μ h w) {olds news zs : Array Value} {e : TypeId} {need z cap i' j' : Nat} {p : AV × H} (hn : need ≤ cap)
    (hsz : (olds ++ news).size = need * z) (hzs : zs.size = (cap - need) * z) (hj : isLen (Tab.iv j')) (hj2 : (Tab.iv j').2.toNat = need) (hlen : Tab.vk i' ≤ need * z)
    (hpt : ∀ (m : Nat) (a : AV), Tab.vv i' m = some a → ∃ v, (olds ++ news)[m]? = some v ∧ vrel μ a v) (hp : vecNew h z (i', j') = some p) :
    ∃ μ', Ext μ μ' ∧ vrel μ' p.1 (.slice (some ⟨w.heap.size, 0, none⟩) need cap) ∧ HR B w0 μ' p.2 (w.drew.alloc (.cells (olds ++ news ++ zs) e)) := by
  obtain ⟨x, h1, ha, rfl⟩ := vecNew_some hp
  have htot : (olds ++ news ++ zs).size = cap * z := by
    rw [Array.size_append, hsz, hzs, ← Nat.add_mul]
    congr 1; omega
  have hat := At.ofAlloc r ha
  have hext : Ext μ (upm μ x ⟨w.heap.size, 0, cap * z⟩) := Ext.upm _ hat.new
  refine ⟨_, hext, ?_, r.alloc (l := ⟨w.heap.size, 0, cap * z⟩) hat rfl (below_drew_alloc w _) (Nat.le_refl _) ?_⟩
  · simp only [vrel]
    refine ⟨hj, ⟨w.heap.size, 0, cap * z⟩, cap, by simp [upm], by omega, by simp, ?_⟩
    rw [hj2]
  · refine ⟨olds ++ news ++ zs, e, (0, 0), ?_, htot, fun i _ => by simp, ?_, vecRel.less (μ := μ) hext fun m a hm => ?_⟩
    · show (w.heap.push (.cells (olds ++ news ++ zs) e (0, 0)))[w.heap.size]? = _
      simp
    · have hmul : need * z ≤ cap * z := Nat.mul_le_mul_right _ hn
      show 0 + Tab.vk i' ≤ cap * z
      omega
    · obtain ⟨v, hv1, hv2⟩ := hpt m a hm
      refine ⟨v, ?_, hv2⟩
      have hlt : m < (olds ++ news).size := (Array.getElem?_eq_some_iff.1 hv1).1
      show (olds ++ news ++ zs)[0 + m]? = some v
      rw [Nat.zero_add, Array.getElem?_append_left hlt, ← hv1]
theorem appendVec_core (r : HR B w0 μ h w) {st xt ty e : TypeId} {i : TypeInfo} {z x : Value} {y vi m c n i' j' : Nat} {l : Loc} {news : Array Value} {src : List AV} {p : AV × H}
    (hst : P.underlying st = some (.slice e)) (hi : P.info? e = some i) (hz : i.zero = some z) (hzc : z.cells.size = i.size)
    (hs : Src P w e xt z i.size x n news) (hb : i.bytes < 100000) (hb0 : 0 < i.bytes) (hsz : 0 < i.size)
    (hget : h.get y = some (.vec vi)) (hl : μ y = some l) (hmc : m ≤ c) (htot : l.base + c * i.size = l.total)
    (hnews : vrels μ src news.toList) (hone : ∀ a ∈ src, a.one = true) (hlen : news.size = n * i.size) (hlim : m + n < limit)
    (hv : Tab.vk i' ≤ (m + n) * i.size) (hpt : ∀ (q : Nat) (a : AV), Tab.vv i' q = some a → ∃ b, (if q < m * i.size then Tab.vv vi q else src[q - m * i.size]?) = some b ∧ sameT Tab.str Tab.rv Tab.iv b a)
    (hj : isLen (Tab.iv j')) (hj2 : (Tab.iv j').2.toNat = m + n) (ep : vecNew (h.kill y) i.size (i', j') = some p) :
    OkV P B w0 μ w (Builtin.append_ #[st, xt] ty #[.slice (some ⟨l.block, l.base, none⟩) m c, x]) p.1 p.2 := by
  unfold limit at hlim
  have hzero : ∀ k, (Builtin.zeroCells z.cells k).size = k * i.size := fun k => by rw [size_zeroCells, hzc]
  obtain ⟨l', hl', hBl, _, arr, el, fz, g1, g2, g3, g4, g5⟩ := r.blk y _ hget
  rw [hl] at hl'; cases hl'
  have hsum : (m + n) * i.size = m * i.size + n * i.size := Nat.add_mul _ _ _
  have hmc2 : m * i.size ≤ c * i.size := Nat.mul_le_mul_right _ hmc
  have hnl : news.toList.length = n * i.size := by simpa using hlen
  by_cases hcap : m + n ≤ c
  · have hmul : (m + n) * i.size ≤ c * i.size := Nat.mul_le_mul_right _ hcap
    obtain ⟨w', arr', k1, k2, k3, k4, k5⟩ := run_storeCells (P := P) (c := l.block) (e := el) (fz := fz) news.toList (l.base + m * i.size) 0 arr w g1 (by rw [hnl]; omega) (fun j hj => g3 j (by omega)) (vrels_one_all hnews hone)
    obtain ⟨x1, h1, ha, rfl⟩ := vecNew_some ep
    have hx := (H.alloc_some ha).1
    have hnx : (h.kill y).next = h.next := rfl
    rw [hnx] at hx
    have hext : Ext μ (upm μ x1 l) := Ext.upm _ (by rw [hx]; exact (r.fresh h.next (Nat.le_refl _)).2)
    have hrow : brel (upm μ x1 l) (.vec i') l w' := by
      refine ⟨arr', el, fz, k3, by omega, g3, by omega, vecRel.less (μ := μ) hext fun q a hq => ?_⟩
      obtain ⟨b, h2, hsm⟩ := hpt q a hq
      by_cases c1 : q < m * i.size
      · rw [if_pos c1] at h2
        obtain ⟨v, v1, v2⟩ := g5 q b h2
        refine ⟨v, ?_, hsm.vrel v2⟩
        rw [k5, if_neg (by omega)]; exact v1
      · rw [if_neg c1] at h2
        obtain ⟨v, v1, v2⟩ := vrels_get hnews h2
        have hlt : q - m * i.size < news.toList.length := (List.getElem?_eq_some_iff.1 v1).1
        refine ⟨v, ?_, hsm.vrel v2⟩
        rw [k5, if_pos (by omega), ← v1]
        congr 1
        omega
    have hr := r.rename (x := y) (y := x1) (h' := h1) (b := .vec i') (k := l) hget hl rfl ha rfl k2 rfl hrow
    refine ⟨_, w', _, run_append_room (base := some ⟨l.block, l.base, none⟩) hst hi hz hs hb hsz hcap ?_, hext, ?_, hr⟩
    · simp only [Addr.add_lit]; exact k1
    · simp only [vrel]
      exact ⟨hj, l, c, by simp [upm], by omega, htot, by rw [hj2]⟩
  · let vs : List Value := (arr.toList.drop l.base).take (m * i.size)
    have hvsl : vs.length = m * i.size := by simp [vs]; omega
    have v3 : ∀ q, q < m * i.size → w.cell? ⟨l.block, l.base + 0 + q, none⟩ = vs[q]? := by
      intro q hq
      simp only [vs, World.cell?, g1, List.getElem?_take, if_pos hq, List.getElem?_drop]
      simp
    have hfirst : (Builtin.firstCells i.size m (.slice (some ⟨l.block, l.base, none⟩) m c)).run P w.drew = .ok ⟨vs⟩ w.drew := by
      simp only [Builtin.firstCells]
      exact cell_loads (l := l) (o := 0) hvsl v3
    obtain ⟨cap, hc, hrun⟩ := run_append_new (ty := ty) (olds := ⟨vs⟩) (base := some ⟨l.block, l.base, none⟩) (sLen := m) (sCap := c) hst hi hz hs hb hb0 hsz (by omega) (by omega) hfirst
    obtain ⟨μ', q1, q2, q3⟩ := vecGrown_sound (r.kill y) (olds := ⟨vs⟩) (news := news) (zs := Builtin.zeroCells z.cells (cap - (m + n))) (e := e) (need := m + n) (z := i.size) (cap := cap)
      hc (by simp only [Array.size_append, hlen]; show vs.length + _ = _; omega) (by rw [hzero]) hj hj2 hv (fun q a hq => by
        obtain ⟨b, h2, hsm⟩ := hpt q a hq
        by_cases c1 : q < m * i.size
        · rw [if_pos c1] at h2
          obtain ⟨v, v1, v2⟩ := g5 q b h2
          refine ⟨v, ?_, hsm.vrel v2⟩
          rw [Array.getElem?_append_left (by show q < vs.length; omega)]
          rw [← Array.getElem?_toList]
          show vs[q]? = some v
          rw [← v3 q c1]
          simp [World.cell?, g1, v1]
        · rw [if_neg c1] at h2
          obtain ⟨v, v1, v2⟩ := vrels_get hnews h2
          refine ⟨v, ?_, hsm.vrel v2⟩
          rw [Array.getElem?_append_right (by show vs.length ≤ q; omega), ← v1, Array.getElem?_toList]
          congr 1
          show q - vs.length = _
          omega) ep
    exact ⟨_, _, μ', hrun, q1, q2, q3⟩
theorem findVA_some {i j z : Nat} {src : List AV} {q : Nat × Nat} : ∀ {l : List VA}, findVA i j z src l = some q → ⟨i, j, z, src, q.1, q.2⟩ ∈ l
  | [], e => by have e' : (none : Option (Nat × Nat)) = some q := e; cases e'
  | r :: l, e => by
    have e' : (@Bool.rec (fun _ => Option (Nat × Nat)) (findVA i j z src l) (@Bool.rec (fun _ => Option (Nat × Nat)) (findVA i j z src l) (@Bool.rec (fun _ => Option (Nat × Nat)) (findVA i j z src l) (@Bool.rec (fun _ => Option (Nat × Nat)) (findVA i j z src l) (some (r.i', r.j')) (peqs r.src src)) (Nat.beq r.z z)) (Nat.beq r.j j)) (Nat.beq r.i i)) = some q := e
    have ih := fun e => List.mem_cons_of_mem r (findVA_some (i := i) (j := j) (z := z) (src := src) (q := q) (l := l) e)
    cases h1 : Nat.beq r.i i with
    | false => rw [h1] at e'; exact ih e'
    | true =>
    cases h2 : Nat.beq r.j j with
    | false => rw [h1, h2] at e'; exact ih e'
    | true =>
    cases h3 : Nat.beq r.z z with
    | false => rw [h1, h2, h3] at e'; exact ih e'
    | true =>
    cases h4 : peqs r.src src with
    | false => rw [h1, h2, h3, h4] at e'; exact ih e'
    | true =>
      rw [h1, h2, h3, h4] at e'
      cases e'
      rw [← nbeq_iff.1 h1, ← nbeq_iff.1 h2, ← nbeq_iff.1 h3, ← peqs_eq h4]
      exact List.mem_cons_self
theorem findVZ_some {i j z k : Nat} {zc : List AV} {q : Nat × Nat} : ∀ {l : List VZ}, findVZ i j z k zc l = some q → ⟨i, j, z, k, zc, q.1, q.2⟩ ∈ l
  | [], e => by have e' : (none : Option (Nat × Nat)) = some q := e; cases e'
  | r :: l, e => by
    have e' : (@Bool.rec (fun _ => Option (Nat × Nat)) (findVZ i j z k zc l) (@Bool.rec (fun _ => Option (Nat × Nat)) (findVZ i j z k zc l) (@Bool.rec (fun _ => Option (Nat × Nat)) (findVZ i j z k zc l) (@Bool.rec (fun _ => Option (Nat × Nat)) (findVZ i j z k zc l) (@Bool.rec (fun _ => Option (Nat × Nat)) (findVZ i j z k zc l) (some (r.i', r.j')) (peqs r.zc zc)) (Nat.beq r.k k)) (Nat.beq r.z z)) (Nat.beq r.j j)) (Nat.beq r.i i)) = some q := e
    have ih := fun e => List.mem_cons_of_mem r (findVZ_some (i := i) (j := j) (z := z) (k := k) (zc := zc) (q := q) (l := l) e)
    cases h1 : Nat.beq r.i i with
    | false => rw [h1] at e'; exact ih e'
    | true =>
    cases h2 : Nat.beq r.j j with
    | false => rw [h1, h2] at e'; exact ih e'
    | true =>
    cases h3 : Nat.beq r.z z with
    | false => rw [h1, h2, h3] at e'; exact ih e'
    | true =>
    cases h5 : Nat.beq r.k k with
    | false => rw [h1, h2, h3, h5] at e'; exact ih e'
    | true =>
    cases h4 : peqs r.zc zc with
    | false => rw [h1, h2, h3, h5, h4] at e'; exact ih e'
    | true =>
      rw [h1, h2, h3, h5, h4] at e'
      cases e'
      rw [← nbeq_iff.1 h1, ← nbeq_iff.1 h2, ← nbeq_iff.1 h3, ← nbeq_iff.1 h5, ← peqs_eq h4]
      exact List.mem_cons_self
theorem findVN_some {z k : Nat} {zc : List AV} {q : Nat × Nat} : ∀ {l : List VN}, findVN z k zc l = some q → ⟨z, k, zc, q.1, q.2⟩ ∈ l
  | [], e => by have e' : (none : Option (Nat × Nat)) = some q := e; cases e'
  | r :: l, e => by
    have e' : (@Bool.rec (fun _ => Option (Nat × Nat)) (findVN z k zc l) (@Bool.rec (fun _ => Option (Nat × Nat)) (findVN z k zc l) (@Bool.rec (fun _ => Option (Nat × Nat)) (findVN z k zc l) (some (r.i', r.j')) (peqs r.zc zc)) (Nat.beq r.k k)) (Nat.beq r.z z)) = some q := e
    have ih := fun e => List.mem_cons_of_mem r (findVN_some (z := z) (k := k) (zc := zc) (q := q) (l := l) e)
    cases h3 : Nat.beq r.z z with
    | false => rw [h3] at e'; exact ih e'
    | true =>
    cases h5 : Nat.beq r.k k with
    | false => rw [h3, h5] at e'; exact ih e'
    | true =>
    cases h4 : peqs r.zc zc with
    | false => rw [h3, h5, h4] at e'; exact ih e'
    | true =>
      rw [h3, h5, h4] at e'
      cases e'
      rw [← nbeq_iff.1 h3, ← nbeq_iff.1 h5, ← peqs_eq h4]
      exact List.mem_cons_self
theorem vecIn_some {b : Blk} {i : Nat} (e : vecIn b = some i) : b = .vec i := by
  cases b <;> simp [vecIn] at e
  rw [e]
theorem appendVec_sound (r : HR B w0 μ h w) {st xt ty : TypeId} {y j z : Nat} {a : AV} {sv x : Value} {p : AV × H} (hsv : vrel μ (.ov y j z) sv) (hx : vrel μ a x) (ep : appendVec? P h st xt y j z a = some p) :
    OkV P B w0 μ w (Builtin.append_ #[st, xt] ty #[sv, x]) p.1 p.2 := by
  obtain ⟨e, he, ep1⟩ := ob_some ep
  obtain ⟨s, hz, ep2⟩ := ob_some ep1
  obtain ⟨b, hb, ep3⟩ := ob_some ep2
  obtain ⟨v, hv, ep4⟩ := ob_some ep3
  obtain ⟨k, hk, ep5⟩ := ob_some ep4
  obtain ⟨hc, ep6⟩ := ifb_some ep5
  obtain ⟨bl, hbl, ep7⟩ := ob_some ep6
  obtain ⟨vi, hvi, ep8⟩ := ob_some ep7
  clear ep ep1 ep2 ep3 ep4 ep5 ep6 ep7
  have := vecIn_some hvi
  subst this
  simp only [Bool.and_eq_true, nbeq_iff, blt_iff] at hc
  obtain ⟨rfl, c1, c2, c3, c4, c5⟩ := hc
  have hst := sliceElem_some he
  obtain ⟨i, zv, hi, hzv, hrel⟩ := zeroOf_some (μ := μ) hv
  obtain ⟨i1, hi1, rfl⟩ := sizeOf_some hz
  rw [hi] at hi1; cases hi1
  obtain ⟨i1, hi1, rfl⟩ := bytesOf_some hb
  rw [hi] at hi1; cases hi1
  have hzc : zv.cells.size = i.size := by rw [← Array.length_toList, vrels_length (vrel_cells hrel)]; exact c5
  obtain ⟨d, hd, hk⟩ := ob_some hk
  simp only [vrel] at hsv
  obtain ⟨hj0, l, c, hl, hmc, htot, rfl⟩ := hsv
  cases k with
  | false =>
    obtain ⟨n, hn, ep⟩ := ob_some (show ob (srcLen a) _ = _ from ep8)
    obtain ⟨hlim, ep⟩ := ifb_some ep
    obtain ⟨src, hsrc, ep⟩ := ob_some ep
    obtain ⟨hpl, ep⟩ := ifb_some ep
    obtain ⟨q, hq, ep⟩ := ob_some ep
    simp only [Bool.and_eq_true, nbeq_iff] at hpl
    obtain ⟨hsl, hpl⟩ := hpl
    have hlim := blt_iff.1 hlim
    unfold limit at hlim
    obtain ⟨vs, g1, g2, g3, g4⟩ := src_sound (P := P) r hx hn (Nat.le_refl n) hsrc
    obtain ⟨o1, o2, o4, o5, o6, o7⟩ := Tab.vaok _ (findVA_some hq)
    simp only at o1 o2 o4 o5 o6 o7
    have hnn : (Tab.iv q.2).2.toNat = (Tab.iv j).2.toNat + n := by
      apply Nat.eq_of_mul_eq_mul_right c3
      rw [Nat.add_mul, o4, hsl]; rfl
    refine appendVec_core (m := (Tab.iv j).2.toNat) (n := n) (news := ⟨vs⟩) r hst hi hzv hzc ⟨.inl ⟨d, hd, hk, g4 w, g1 w (fun _ => rfl), g1 w.drew (fun _ => rfl)⟩, hlim⟩ c2 c1 c3 hbl hl hmc htot g2 (fun a ha => plain_one (allPlain_iff hpl a ha)) (by show vs.length = _; exact g3) (by rw [← hnn]; exact o5) (by rw [← hnn]; exact o6) o7 o2 hnn ep
  | true =>
    have hd' : ∃ q, d = .int q := by cases d <;> simp [isInt] at hk <;> simp
    obtain ⟨q, rfl⟩ := hd'
    cases a with
    | oi k =>
      obtain ⟨hpl, ep⟩ := ifb_some (show ifb _ _ = _ from ep8)
      obtain ⟨q', hq, ep⟩ := ob_some ep
      obtain ⟨o1, o2, o3, o4, o5, o7, o8⟩ := Tab.vzok _ (findVZ_some hq)
      simp only at o1 o2 o3 o4 o5 o7 o8
      simp only [vrel] at hx
      subst hx
      have hnn : (Tab.iv q'.2).2.toNat = (Tab.iv j).2.toNat + (Tab.iv k).2.toNat := by rw [o4]; have := o1.2; have := o2.2; omega
      have hzs := zeroCells_sound hrel (by omega) (Tab.iv k).2.toNat
      rw [c5] at hzs
      have hkn : ((Tab.iv k).2.toNat : Int) = (Tab.iv k).2 := Int.toNat_of_nonneg o2.2
      refine appendVec_core (m := (Tab.iv j).2.toNat) (n := (Tab.iv k).2.toNat) (news := Builtin.zeroCells zv.cells (Tab.iv k).2.toNat) r hst hi hzv hzc ⟨.inr ⟨(Tab.iv k).1, q, hd, by rw [hkn], rfl⟩, by rw [hnn] at o5; unfold limit at o5; omega⟩ c2 c1 c3 hbl hl hmc htot hzs ?_ (by rw [size_zeroCells, hzc]) (by rw [← hnn]; exact o5) (by rw [← hnn]; exact o7) ?_ o3 hnn ep
      · intro a ha
        have h1 := hrel
        obtain ⟨m, hm⟩ := List.getElem?_of_mem ha
        have hml : m < (cyc v.cells 0 ((Tab.iv k).2.toNat * i.size)).length := (List.getElem?_eq_some_iff.1 hm).1
        rw [cyc_length] at hml
        rw [cyc_get _ _ _ _ hml] at hm
        have hlt : (0 + m) % v.cells.length < v.cells.length := Nat.mod_lt _ (by omega)
        rw [List.getElem?_eq_getElem hlt] at hm
        simp only [Option.getD_some, Option.some.injEq] at hm
        rw [← hm]
        exact plain_one (allPlain_iff hpl _ (List.getElem_mem hlt))
      · intro m a hm
        obtain ⟨hml, b, h1, hsm⟩ := o8 m a hm
        refine ⟨b, ?_, hsm⟩
        by_cases c1 : m < (Tab.iv j).2.toNat * i.size
        · rw [if_pos c1] at h1 ⊢; exact h1
        · rw [if_neg c1] at h1 ⊢
          have : m - (Tab.iv j).2.toNat * i.size < (Tab.iv k).2.toNat * i.size := by
            have h3 : (Tab.iv q'.2).2.toNat * i.size = (Tab.iv j).2.toNat * i.size + (Tab.iv k).2.toNat * i.size := by rw [hnn, Nat.add_mul]
            omega
          rw [cyc_get _ _ _ _ this, Nat.zero_add, h1]; rfl
    | int ik m =>
      cases m with
      | negSucc m => have ep' : (none : Option (AV × H)) = some p := ep8; cases ep'
      | ofNat n =>
        obtain ⟨hpl, ep⟩ := ifb_some (show ifb _ _ = _ from ep8)
        obtain ⟨q', hq, ep⟩ := ob_some ep
        simp only [Bool.and_eq_true] at hpl
        obtain ⟨hlim, hpl⟩ := hpl
        have hlim := blt_iff.1 hlim
        unfold limit at hlim
        obtain ⟨o1, o2, o4, o5, o6, o7⟩ := Tab.vaok _ (findVA_some hq)
        simp only at o1 o2 o4 o5 o6 o7
        simp only [vrel] at hx
        subst hx
        have hcl : (cyc v.cells 0 (Nat.mul n i.size)).length = n * i.size := cyc_length _ _ _
        have hnn : (Tab.iv q'.2).2.toNat = (Tab.iv j).2.toNat + n := by
          apply Nat.eq_of_mul_eq_mul_right c3
          rw [Nat.add_mul, o4, hcl]
        have hzs := zeroCells_sound hrel (by omega) n
        rw [c5] at hzs
        exact appendVec_core (m := (Tab.iv j).2.toNat) (n := n) (news := Builtin.zeroCells zv.cells n) r hst hi hzv hzc ⟨.inr ⟨ik, q, hd, rfl, rfl⟩, hlim⟩ c2 c1 c3 hbl hl hmc htot hzs (fun a ha => plain_one (allPlain_iff hpl a ha)) (by rw [size_zeroCells, hzc]) (by rw [← hnn]; exact o5) (by rw [← hnn]; exact o6) o7 o2 hnn ep
    | _ => have ep' : (none : Option (AV × H)) = some p := ep8; cases ep'
theorem appendNil_sound (r : HR B w0 μ h w) {st xt ty : TypeId} {k : Nat} {x : Value} {p : AV × H} (hx : vrel μ (.oi k) x) (ep : appendNil? P h st xt k = some p) :
    OkV P B w0 μ w (Builtin.append_ #[st, xt] ty #[.slice none 0 0, x]) p.1 p.2 := by
  obtain ⟨e, he, ep1⟩ := ob_some ep
  obtain ⟨s, hz, ep2⟩ := ob_some ep1
  obtain ⟨b, hb, ep3⟩ := ob_some ep2
  obtain ⟨v, hv, ep4⟩ := ob_some ep3
  obtain ⟨t, hk, ep5⟩ := ob_some ep4
  obtain ⟨hc, ep6⟩ := ifb_some ep5
  obtain ⟨q, hq, ep7⟩ := ob_some ep6
  clear ep ep1 ep2 ep3 ep4 ep5 ep6
  simp only [Bool.and_eq_true, nbeq_iff, blt_iff] at hc
  obtain ⟨rfl, c1, c2, c3, c4, c5⟩ := hc
  have hst := sliceElem_some he
  obtain ⟨i, zv, hi, hzv, hrel⟩ := zeroOf_some (μ := μ) hv
  obtain ⟨i1, hi1, rfl⟩ := sizeOf_some hz
  rw [hi] at hi1; cases hi1
  obtain ⟨i1, hi1, rfl⟩ := bytesOf_some hb
  rw [hi] at hi1; cases hi1
  have hzc : zv.cells.size = i.size := by rw [← Array.length_toList, vrels_length (vrel_cells hrel)]; exact c5
  have hzero : ∀ k, (Builtin.zeroCells zv.cells k).size = k * i.size := fun k => by rw [size_zeroCells, hzc]
  obtain ⟨d, hd, hk⟩ := ob_some hk
  have hd' : ∃ q, d = .int q := by cases d <;> simp [isInt] at hk <;> simp
  obtain ⟨ik, rfl⟩ := hd'
  obtain ⟨o1, o2, o3, o4, o5, o6⟩ := Tab.vnok _ (findVN_some hq)
  simp only at o1 o2 o3 o4 o5 o6
  simp only [vrel] at hx
  subst hx
  have hkn : ((Tab.iv k).2.toNat : Int) = (Tab.iv k).2 := Int.toNat_of_nonneg o1.2
  have hs : Src P w e xt zv i.size (.int (Tab.iv k).1 (Tab.iv k).2) (Tab.iv k).2.toNat (Builtin.zeroCells zv.cells (Tab.iv k).2.toNat) :=
    ⟨.inr ⟨(Tab.iv k).1, ik, hd, by rw [hkn], rfl⟩, by unfold limit at o4; omega⟩
  have hzs := zeroCells_sound hrel (by omega) (Tab.iv k).2.toNat
  rw [c5] at hzs
  unfold limit at o4
  obtain ⟨cap, hcap, hrun⟩ := run_append_new (ty := ty) (olds := #[]) (base := none) (sLen := 0) (sCap := 0) hst hi hzv hs c2 c1 c3 (by omega) (by omega) (by simp [Builtin.firstCells])
  obtain ⟨μ', g1, g2, g3⟩ := vecGrown_sound r (olds := #[]) (news := Builtin.zeroCells zv.cells (Tab.iv k).2.toNat) (zs := Builtin.zeroCells zv.cells (cap - (0 + (Tab.iv k).2.toNat))) (e := e) (need := 0 + (Tab.iv k).2.toNat) (z := i.size) (cap := cap)
    (i' := q.1) (j' := q.2) hcap (by simp [hzero]) (by rw [hzero]) (by rw [o3]; exact o1) (by rw [o3]; simp) (by simpa using o5) (fun m a hm => by
      obtain ⟨hml, b, h1, hsm⟩ := o6 m a hm
      have h2 : (cyc v.cells 0 ((Tab.iv k).2.toNat * i.size))[m]? = some b := by rw [cyc_get _ _ _ _ hml, Nat.zero_add, h1]; rfl
      obtain ⟨u, u1, u2⟩ := vrels_get hzs h2
      exact ⟨u, by rw [← u1]; simp, hsm.vrel u2⟩) ep7
  exact ⟨_, _, μ', hrun, g1, by simpa using g2, g3⟩
theorem makeVec_sound (r : HR B w0 μ h w) {t : TypeId} {k j : Nat} {lv cv : Value} {p : AV × H} (hl : vrel μ (.oi k) lv) (hc : vrel μ (.oi j) cv) (ep : makeVec? P h t k j = some p) :
    OkV P B w0 μ w (Instr.makeSlice t lv cv) p.1 p.2 := by
  obtain ⟨el, hel, ep1⟩ := ob_some ep
  obtain ⟨s, hs, ep2⟩ := ob_some ep1
  obtain ⟨b, hb, ep3⟩ := ob_some ep2
  obtain ⟨v, hv, ep4⟩ := ob_some ep3
  obtain ⟨hcnd, ep5⟩ := ifb_some ep4
  obtain ⟨q, hq, ep6⟩ := ob_some ep5
  clear ep ep1 ep2 ep3 ep4 ep5
  simp only [Bool.and_eq_true, nbeq_iff, blt_iff] at hcnd
  obtain ⟨rfl, c2, c3, c5⟩ := hcnd
  have hd := sliceElem_some hel
  obtain ⟨i, zv, hi, hzv, hrel⟩ := zeroOf_some (μ := μ) hv
  obtain ⟨i1, hi1, rfl⟩ := sizeOf_some hs
  rw [hi] at hi1; cases hi1
  obtain ⟨i1, hi1, rfl⟩ := bytesOf_some hb
  rw [hi] at hi1; cases hi1
  obtain ⟨o1, o2, o3, o4, o5, o6⟩ := Tab.vnok _ (findVN_some hq)
  simp only at o1 o2 o3 o4 o5 o6
  simp only [vrel] at hl hc
  subst hl hc
  have hkn : ((Tab.iv k).2.toNat : Int) = (Tab.iv k).2 := Int.toNat_of_nonneg o1.2
  generalize hn : (Tab.iv k).2.toNat = n at o4 o5 o6 hkn
  have hzs : zv.cells.size = i.size := by rw [← Array.length_toList, vrels_length (vrel_cells hrel)]; exact c5
  unfold limit at o4
  have hw1 := wrap_i64 (n := n) (by omega)
  have hbc : i.bytes * n ≤ 100000 * 1000000 := Nat.mul_le_mul (by omega) (by omega)
  have hbc' : ¬ ((281474976710656 : Int) < (i.bytes : Int) * (n : Int)) := by
    have : (i.bytes : Int) * (n : Int) = ((i.bytes * n : Nat) : Int) := by simp
    rw [this]; omega
  have hn2 : ¬ ((n : Int) < 0) := by omega
  have h0 : n * i.size ≠ 0 := Nat.mul_ne_zero (by omega) (by omega)
  obtain ⟨x, h1, ha, hp⟩ := vecNew_some ep6
  have hat := At.ofAlloc r ha
  have hext : Ext μ (upm μ x ⟨w.heap.size, 0, n * i.size⟩) := Ext.upm _ hat.new
  subst hp
  refine ⟨.slice (some ⟨w.heap.size, 0, none⟩) n n, _, upm μ x ⟨w.heap.size, 0, n * i.size⟩, ?_, hext, ?_, r.alloc (l := ⟨w.heap.size, 0, n * i.size⟩) hat rfl (below_push w (.cells ((Array.range (n * i.size)).map (fun x => zv.cells[x % zv.cells.size]!)) el (0, 0))) (Nat.le_refl _) ?_⟩
  · rw [← hkn]
    have ho1 := o1.1
    simp [Instr.makeSlice, run_underlying hd, asInt, asIntOf, run_typeInfo hi, hw1, hbc', hn2, sizeOf, newRow, h0, run_zeroValue hi hzv]
  · simp only [vrel]
    refine ⟨by rw [o3]; exact o1, ⟨w.heap.size, 0, n * i.size⟩, n, by simp [upm], by rw [o3, hn]; omega, by simp, ?_⟩
    rw [o3, hn]
  · refine ⟨(Array.range (n * i.size)).map (fun x => zv.cells[x % zv.cells.size]!), el, (0, 0), by show (w.heap.push _)[w.heap.size]? = _; simp, by show ((Array.range (n * i.size)).map _).size = _; simp, fun i _ => by simp, by show 0 + Tab.vk q.1 ≤ n * i.size; omega, vecRel.less (μ := μ) (Ext.upm _ (At.ofAlloc r ha).new) fun m a hm => ?_⟩
    obtain ⟨hml, b, g1, hsm⟩ := o6 m a hm
    obtain ⟨u, u1, u2⟩ := vrels_get (vrel_cells hrel) g1
    refine ⟨u, ?_, hsm.vrel u2⟩
    rw [Array.getElem?_toList, c5] at u1
    have hu : zv.cells[m % zv.cells.size]! = u := by rw [getElem!_def, hzs, u1]
    simp [hml, hu]
theorem findVB_some {nl own : Bool} {i j z q k : Nat} {p : Nat × Nat} : ∀ {l : List VB}, findVB nl i j z own q k l = some p → ⟨nl, i, j, z, own, q, k, p.1, p.2⟩ ∈ l
  | [], e => by have e' : (none : Option (Nat × Nat)) = some p := e; cases e'
  | r :: l, e => by
    have e' : (@Bool.rec (fun _ => Option (Nat × Nat)) (findVB nl i j z own q k l) (@Bool.rec (fun _ => Option (Nat × Nat)) (findVB nl i j z own q k l) (@Bool.rec (fun _ => Option (Nat × Nat)) (findVB nl i j z own q k l) (@Bool.rec (fun _ => Option (Nat × Nat)) (findVB nl i j z own q k l) (some (r.i', r.j')) (Nat.beq r.q q && (r.own == own))) (Nat.beq r.k k && Nat.beq r.z z)) (Nat.beq r.j j)) (Nat.beq r.i i && (r.nl == nl))) = some p := e
    have ih := fun e => List.mem_cons_of_mem r (findVB_some (nl := nl) (own := own) (i := i) (j := j) (z := z) (q := q) (k := k) (p := p) (l := l) e)
    cases h1 : (Nat.beq r.i i && (r.nl == nl)) with
    | false => rw [h1] at e'; exact ih e'
    | true =>
    cases h2 : Nat.beq r.j j with
    | false => rw [h1, h2] at e'; exact ih e'
    | true =>
    cases h3 : (Nat.beq r.k k && Nat.beq r.z z) with
    | false => rw [h1, h2, h3] at e'; exact ih e'
    | true =>
    cases h4 : (Nat.beq r.q q && (r.own == own)) with
    | false => rw [h1, h2, h3, h4] at e'; exact ih e'
    | true =>
      rw [h1, h2, h3, h4] at e'
      cases e'
      simp only [Bool.and_eq_true, nbeq_iff, beq_iff_eq] at h1 h2 h3 h4
      obtain ⟨rfl, rfl⟩ := h1
      obtain ⟨rfl, rfl⟩ := h3
      obtain ⟨rfl, rfl⟩ := h4
      rw [← h2]
      exact List.mem_cons_self
theorem srcVB_sound (r : HR B w0 μ h w) {x : AV} {v : Value} {own : Bool} {q k z : Nat} (hv : vrel μ x v) (e : srcVB h x = some (own, q, k, z)) (hk : isLen (Tab.iv k))
    (hf : ∀ m, m < (Tab.iv k).2.toNat * z → ∃ a, (bif own then Tab.vv q else Tab.fv q) m = some a ∧ vplain a = true) :
    ∃ vs : List Value, (∀ W : World, (∀ a, W.cell? a = w.cell? a) → (Builtin.firstCells z (Tab.iv k).2.toNat v).run P W = .ok ⟨vs⟩ W) ∧ vs.length = (Tab.iv k).2.toNat * z ∧ (∀ W : World, (Builtin.lenOf v).run P W = .ok (Tab.iv k).2.toNat W) ∧
      ∀ m, m < (Tab.iv k).2.toNat * z → ∃ a u, (bif own then Tab.vv q else Tab.fv q) m = some a ∧ vs[m]? = some u ∧ vrel μ a u := by
  cases x <;> simp only [srcVB] at e <;> first | (cases e; done) | skip
  case ov y k' z' =>
    obtain ⟨b, hb, e⟩ := ob_some e
    obtain ⟨q', hq, e⟩ := ob_some e
    cases e
    have := vecIn_some hq
    subst this
    simp only [vrel] at hv
    obtain ⟨_, l, c, hl, hmc, htot, rfl⟩ := hv
    obtain ⟨l', hl', _, _, arr, el, fz, g1, g2, g3, g4, g5⟩ := r.blk y _ hb
    rw [hl] at hl'; cases hl'
    simp only [cond_true] at hf ⊢
    let vs : List Value := (arr.toList.drop l.base).take ((Tab.iv k).2.toNat * z)
    have hget : ∀ m, m < (Tab.iv k).2.toNat * z → ∃ a u, Tab.vv q m = some a ∧ arr[l.base + m]? = some u ∧ vrel μ a u := fun m hm => by
      obtain ⟨a, ha, _⟩ := hf m hm
      obtain ⟨u, u1, u2⟩ := g5 m a ha
      exact ⟨a, u, ha, u1, u2⟩
    have hvl : vs.length = (Tab.iv k).2.toNat * z := by
      simp only [vs, List.length_take, List.length_drop, Array.length_toList]
      rcases Nat.eq_zero_or_pos ((Tab.iv k).2.toNat * z) with h0 | h0
      · omega
      · obtain ⟨a, u, _, u1, _⟩ := hget ((Tab.iv k).2.toNat * z - 1) (by omega)
        have := (Array.getElem?_eq_some_iff.1 u1).1
        omega
    have hvs : ∀ m, m < (Tab.iv k).2.toNat * z → vs[m]? = arr[l.base + m]? := fun m hm => by
      simp only [vs, List.getElem?_take, if_pos hm, List.getElem?_drop, Array.getElem?_toList]
    refine ⟨vs, fun W hW => ?_, hvl, fun W => by simp [Builtin.lenOf], fun m hm => ?_⟩
    · simp only [Builtin.firstCells]
      refine cell_loads (l := l) (o := 0) hvl fun i hi => ?_
      rw [hW, hvs i hi]
      simp [World.cell?, g1]
    · obtain ⟨a, u, h1, h2, h3⟩ := hget m hm
      exact ⟨a, u, h1, by rw [hvs m hm]; exact h2, h3⟩
  case fo q' k' z' =>
    cases e
    simp only [vrel] at hv
    obtain ⟨_, hcap, rfl⟩ := hv
    simp only [cond_false] at hf ⊢
    have hget : ∀ m, m < (Tab.iv k).2.toNat * z → ∃ a u, Tab.fv q m = some a ∧ w.cell? ⟨(Tab.fb q).1, (Tab.fb q).2 + m, none⟩ = some u ∧ vrel μ a u := fun m hm => by
      obtain ⟨a, ha, hpl⟩ := hf m hm
      obtain ⟨_, u, u1, u2⟩ := r.below.frgn ha
      exact ⟨a, u, ha, u1, vrel_any u2⟩
    let vs : List Value := (List.range ((Tab.iv k).2.toNat * z)).map fun m => (w.cell? ⟨(Tab.fb q).1, (Tab.fb q).2 + m, none⟩).getD default
    have hvl : vs.length = (Tab.iv k).2.toNat * z := by simp [vs]
    have hvs : ∀ m, m < (Tab.iv k).2.toNat * z → vs[m]? = w.cell? ⟨(Tab.fb q).1, (Tab.fb q).2 + m, none⟩ := fun m hm => by
      obtain ⟨a, u, _, u1, _⟩ := hget m hm
      simp only [vs, List.getElem?_map, List.getElem?_range hm, Option.map_some, u1, Option.getD_some]
    refine ⟨vs, fun W hW => ?_, hvl, fun W => by simp [Builtin.lenOf], fun m hm => ?_⟩
    · simp only [Builtin.firstCells]
      have := cell_loads (P := P) (w := W) (vs := vs) (l := ⟨(Tab.fb q).1, (Tab.fb q).2, 0⟩) (o := 0) (n := (Tab.iv k).2.toNat * z) hvl (fun i hi => by rw [hW, hvs i hi]; rfl)
      exact this
    · obtain ⟨a, u, h1, h2, h3⟩ := hget m hm
      exact ⟨a, u, h1, by rw [hvs m hm]; exact h2, h3⟩
theorem vrels_of_get {μ : M} : ∀ {src : List AV} {vs : List Value}, src.length = vs.length → (∀ (m : Nat) (a : AV) (u : Value), src[m]? = some a → vs[m]? = some u → vrel μ a u) → vrels μ src vs
  | [], [], _, _ => by simp [vrels]
  | a :: src, u :: vs, hl, hp => vrels_cons (hp 0 a u rfl rfl) (vrels_of_get (by simpa using hl) fun m a' u' h1 h2 => hp (m + 1) a' u' (by simpa using h1) (by simpa using h2))
  | [], _ :: _, hl, _ => by simp at hl
  | _ :: _, [], hl, _ => by simp at hl
theorem srcVB_list {own : Bool} {q N : Nat} {vs : List Value} {μ : M} (hl : vs.length = N) (hf : ∀ m, m < N → ∃ a, (bif own then Tab.vv q else Tab.fv q) m = some a ∧ vplain a = true)
    (hp : ∀ m, m < N → ∃ a u, (bif own then Tab.vv q else Tab.fv q) m = some a ∧ vs[m]? = some u ∧ vrel μ a u) :
    ∃ src : List AV, vrels μ src vs ∧ (∀ a ∈ src, vplain a = true) ∧ ∀ m, m < N → src[m]? = (bif own then Tab.vv q else Tab.fv q) m := by
  let f := fun m => ((bif own then Tab.vv q else Tab.fv q) m).getD .nilp
  have hg : ∀ m, m < N → ((List.range N).map f)[m]? = (bif own then Tab.vv q else Tab.fv q) m := fun m hm => by
    obtain ⟨a, ha, _⟩ := hf m hm
    rw [List.getElem?_map, List.getElem?_range hm]
    simp only [Option.map_some, f, ha, Option.getD_some]
  refine ⟨(List.range N).map f, vrels_of_get (by simp [hl]) fun m a u h1 h2 => ?_, fun a ha => ?_, hg⟩
  · have hm : m < N := by rw [← hl]; exact (List.getElem?_eq_some_iff.1 h2).1
    obtain ⟨a', u', g1, g2, g3⟩ := hp m hm
    rw [hg m hm, g1] at h1
    rw [g2] at h2
    cases h1; cases h2
    exact g3
  · obtain ⟨m, hm⟩ := List.getElem?_of_mem ha
    have hlt : m < N := by have := (List.getElem?_eq_some_iff.1 hm).1; simpa using this
    obtain ⟨a', ha', hpl⟩ := hf m hlt
    rw [hg m hlt, ha'] at hm
    cases hm
    exact hpl
theorem appendVB_own (r : HR B w0 μ h w) {st xt ty : TypeId} {y j z vi : Nat} {a : AV} {sv x : Value} {p : AV × H} (hsv : vrel μ (.ov y j z) sv) (hx : vrel μ a x) (hbl : h.get y = some (.vec vi)) (ep : appendVB? P h st xt false vi j z (h.kill y) a = some p) :
    OkV P B w0 μ w (Builtin.append_ #[st, xt] ty #[sv, x]) p.1 p.2 := by
  obtain ⟨e, he, ep1⟩ := ob_some ep
  obtain ⟨s, hz, ep2⟩ := ob_some ep1
  obtain ⟨b, hb, ep3⟩ := ob_some ep2
  obtain ⟨v, hv, ep4⟩ := ob_some ep3
  obtain ⟨k, hk, ep5⟩ := ob_some ep4
  obtain ⟨hc, ep6⟩ := ifb_some ep5
  obtain ⟨⟨own, q, kk, zz⟩, hsrc, ep7⟩ := ob_some ep6
  obtain ⟨hc2, ep8⟩ := ifb_some ep7
  obtain ⟨q', hq, ep9⟩ := ob_some ep8
  clear ep ep1 ep2 ep3 ep4 ep5 ep6 ep7 ep8
  simp only [Bool.and_eq_true, nbeq_iff, blt_iff, Bool.not_eq_true'] at hc hc2
  obtain ⟨rfl, c1, c2, c3, c4, c5⟩ := hc
  obtain ⟨rfl, rfl⟩ := hc2
  have hst := sliceElem_some he
  obtain ⟨i, zv, hi, hzv, hrel⟩ := zeroOf_some (μ := μ) hv
  obtain ⟨i1, hi1, hh⟩ := sizeOf_some hz
  rw [hi] at hi1; cases hi1
  subst hh
  obtain ⟨i1, hi1, rfl⟩ := bytesOf_some hb
  rw [hi] at hi1; cases hi1
  have hzc : zv.cells.size = i.size := by rw [← Array.length_toList, vrels_length (vrel_cells hrel)]; exact c5
  obtain ⟨d, hd, hk⟩ := ob_some hk
  simp only [vrel] at hsv
  obtain ⟨hj0, l, c, hl, hmc, htot, rfl⟩ := hsv
  obtain ⟨o1, o2, o3, o4, o5, o6, o7, o8, o9⟩ := Tab.vbok _ (findVB_some hq)
  simp only [cond_false] at o1 o2 o3 o4 o5 o6 o7 o8 o9
  unfold limit at o6
  obtain ⟨vs, g1, g2, g3, g4⟩ := srcVB_sound (P := P) r hx hsrc o2 o8
  obtain ⟨src, s1, s2, s3⟩ := srcVB_list g2 o8 g4
  refine appendVec_core (m := (Tab.iv j).2.toNat) (n := (Tab.iv kk).2.toNat) (news := ⟨vs⟩) (src := src) r hst hi hzv hzc ⟨.inl ⟨d, hd, hk, g3 w, g1 w (fun _ => rfl), g1 w.drew (fun _ => rfl)⟩, by omega⟩ c2 c1 c3 hbl hl hmc htot s1 (fun a ha => plain_one (s2 a ha)) (by show vs.length = _; exact g2) (by rw [← o5]; unfold limit; exact o6) (by rw [← o5]; exact o7) (fun m a hm => ?_) o4 o5 ep9
  obtain ⟨o10, b, h1, h2⟩ := o9 m a hm
  refine ⟨b, ?_, h2⟩
  by_cases cm : m < (Tab.iv j).2.toNat * i.size
  · rw [if_pos cm] at h1 ⊢; exact h1
  · rw [if_neg cm] at h1 ⊢
    have hlt : m - (Tab.iv j).2.toNat * i.size < (Tab.iv kk).2.toNat * i.size := by
      have h3 : (Tab.iv q'.2).2.toNat * i.size = (Tab.iv j).2.toNat * i.size + (Tab.iv kk).2.toNat * i.size := by rw [o5, Nat.add_mul]
      omega
    rw [s3 _ hlt]; exact h1
theorem appendVB_nil (r : HR B w0 μ h w) {st xt ty : TypeId} {zd : Nat} {a : AV} {x : Value} {base : Option Addr} {p : AV × H} (hx : vrel μ a x) (ho : ∀ z (W : World), (Builtin.firstCells z 0 (.slice base 0 0)).run P W = .ok #[] W) (ep : appendVB? P h st xt true 0 0 zd h a = some p) :
    OkV P B w0 μ w (Builtin.append_ #[st, xt] ty #[.slice base 0 0, x]) p.1 p.2 := by
  obtain ⟨e, he, ep1⟩ := ob_some ep
  obtain ⟨s, hz, ep2⟩ := ob_some ep1
  obtain ⟨b, hb, ep3⟩ := ob_some ep2
  obtain ⟨v, hv, ep4⟩ := ob_some ep3
  obtain ⟨k, hk, ep5⟩ := ob_some ep4
  obtain ⟨hc, ep6⟩ := ifb_some ep5
  obtain ⟨⟨own, q, kk, zz⟩, hsrc, ep7⟩ := ob_some ep6
  obtain ⟨hc2, ep8⟩ := ifb_some ep7
  obtain ⟨q', hq, ep9⟩ := ob_some ep8
  clear ep ep1 ep2 ep3 ep4 ep5 ep6 ep7 ep8
  simp only [Bool.and_eq_true, nbeq_iff, blt_iff, Bool.not_eq_true'] at hc hc2
  obtain ⟨rfl, c1, c2, c3, c4, c5⟩ := hc
  obtain ⟨rfl, rfl⟩ := hc2
  have hst := sliceElem_some he
  obtain ⟨i, zv, hi, hzv, hrel⟩ := zeroOf_some (μ := μ) hv
  obtain ⟨i1, hi1, hh⟩ := sizeOf_some hz
  rw [hi] at hi1; cases hi1
  subst hh
  obtain ⟨i1, hi1, rfl⟩ := bytesOf_some hb
  rw [hi] at hi1; cases hi1
  have hzc : zv.cells.size = i.size := by rw [← Array.length_toList, vrels_length (vrel_cells hrel)]; exact c5
  have hzero : ∀ k, (Builtin.zeroCells zv.cells k).size = k * i.size := fun k => by rw [size_zeroCells, hzc]
  obtain ⟨d, hd, hk⟩ := ob_some hk
  obtain ⟨o1, o2, o3, o4, o5, o6, o7, o8, o9⟩ := Tab.vbok _ (findVB_some hq)
  simp only [cond_true] at o1 o2 o3 o4 o5 o6 o7 o8 o9
  unfold limit at o6
  rw [Nat.zero_add] at o5
  obtain ⟨vs, g1, g2, g3, g4⟩ := srcVB_sound (P := P) r hx hsrc o2 o8
  obtain ⟨src, s1, s2, s3⟩ := srcVB_list g2 o8 g4
  have hs : Src P w e xt zv i.size x (Tab.iv kk).2.toNat ⟨vs⟩ := ⟨.inl ⟨d, hd, hk, g3 w, g1 w (fun _ => rfl), g1 w.drew (fun _ => rfl)⟩, by omega⟩
  obtain ⟨cap, hcap, hrun⟩ := run_append_new (ty := ty) (olds := #[]) (base := base) (sLen := 0) (sCap := 0) hst hi hzv hs c2 c1 c3 (by omega) (by omega) (ho _ _)
  obtain ⟨μ', k1, k2, k3⟩ := vecGrown_sound r (olds := #[]) (news := ⟨vs⟩) (zs := Builtin.zeroCells zv.cells (cap - (0 + (Tab.iv kk).2.toNat))) (e := e) (need := 0 + (Tab.iv kk).2.toNat) (z := i.size) (cap := cap)
    (i' := q'.1) (j' := q'.2) hcap (by rw [Nat.zero_add]; show (#[] ++ (⟨vs⟩ : Array Value)).size = _; rw [Array.size_append]; show 0 + vs.length = _; omega) (by rw [hzero]) o4 (by rw [o5, Nat.zero_add]) (by rw [Nat.zero_add, ← o5]; exact o7) (fun m a hm => by
      obtain ⟨o10, b, h1, h2⟩ := o9 m a hm
      rw [if_neg (by omega)] at h1
      have hlt : m < (Tab.iv kk).2.toNat * i.size := by rw [← o5]; exact o10
      have h3 : src[m]? = some b := by rw [s3 _ hlt]; simpa using h1
      obtain ⟨u, u1, u2⟩ := vrels_get s1 h3
      refine ⟨u, ?_, h2.vrel u2⟩
      rw [Array.getElem?_append_right (by simp)]
      simpa using u1) ep9
  exact ⟨_, _, μ', hrun, k1, by simpa using k2, k3⟩
theorem append_sound (r : HR B w0 μ h w) {st xt ty : TypeId} {s a : AV} {sv x : Value} {p : AV × H} (hsv : vrel μ s sv) (hx : vrel μ a x) (ep : append? P h st xt s a = some p) :
    OkV P B w0 μ w (Builtin.append_ #[st, xt] ty #[sv, x]) p.1 p.2 := by
  unfold append? at ep
  split at ep
  · rename_i y j z
    rcases orE_some ep with ep | ⟨_, ep⟩
    · obtain ⟨bl, hbl, ep1⟩ := ob_some ep
      obtain ⟨vi, hvi, ep2⟩ := ob_some ep1
      have := vecIn_some hvi
      subst this
      exact appendVB_own r hsv hx hbl ep2
    · exact appendVec_sound r hsv hx ep
  · split at ep
    · simp only [vrel] at hsv; subst hsv
      exact appendNil_sound r hx ep
    · rcases orE_some ep with ep | ⟨_, ep⟩
      · obtain ⟨sv', _, ep1⟩ := ob_some ep
        simp only [vrel] at hsv; subst hsv
        exact appendVB_nil r hx (fun z W => by simp [Builtin.firstCells]) ep1
      · exact append0_sound r hsv hx ep
  · rename_i y o n c
    rcases orE_some ep with ep | ⟨_, ep⟩
    · obtain ⟨hnc, ep1⟩ := ifb_some ep
      obtain ⟨sv', _, ep2⟩ := ob_some ep1
      simp only [Bool.and_eq_true, nbeq_iff] at hnc
      obtain ⟨rfl, rfl⟩ := hnc
      simp only [vrel] at hsv
      obtain ⟨l, hl, rfl⟩ := hsv
      exact appendVB_nil r hx (fun z W => by simp [Builtin.firstCells, loadCells]; rfl) ep2
    · exact append0_sound r hsv hx ep
  · exact append0_sound r hsv hx ep
theorem findVS_some {i k z f i' : Nat} {c : List AV} : ∀ {l : List VS}, findVS i k z f c l = some i' → ⟨i, k, z, f, c, i'⟩ ∈ l
  | [], e => by have e' : (none : Option Nat) = some i' := e; cases e'
  | r :: l, e => by
    have e' : (@Bool.rec (fun _ => Option Nat) (findVS i k z f c l) (@Bool.rec (fun _ => Option Nat) (findVS i k z f c l) (@Bool.rec (fun _ => Option Nat) (findVS i k z f c l) (@Bool.rec (fun _ => Option Nat) (findVS i k z f c l) (@Bool.rec (fun _ => Option Nat) (findVS i k z f c l) (some r.i') (peqs r.l c)) (Nat.beq r.f f)) (Nat.beq r.z z)) (Nat.beq r.k k)) (Nat.beq r.i i)) = some i' := e
    have ih := fun e => List.mem_cons_of_mem r (findVS_some (i := i) (k := k) (z := z) (f := f) (c := c) (i' := i') (l := l) e)
    cases h1 : Nat.beq r.i i with
    | false => rw [h1] at e'; exact ih e'
    | true =>
    cases h2 : Nat.beq r.k k with
    | false => rw [h1, h2] at e'; exact ih e'
    | true =>
    cases h3 : Nat.beq r.z z with
    | false => rw [h1, h2, h3] at e'; exact ih e'
    | true =>
    cases h5 : Nat.beq r.f f with
    | false => rw [h1, h2, h3, h5] at e'; exact ih e'
    | true =>
    cases h4 : peqs r.l c with
    | false => rw [h1, h2, h3, h5, h4] at e'; exact ih e'
    | true =>
      rw [h1, h2, h3, h5, h4] at e'
      cases e'
      rw [← nbeq_iff.1 h1, ← nbeq_iff.1 h2, ← nbeq_iff.1 h3, ← nbeq_iff.1 h5, ← peqs_eq h4]
      exact List.mem_cons_self
theorem vload_sound (r : HR B w0 μ h w) {t : TypeId} {x k z f : Nat} {a : AV} {pv : Value} (hp : vrel μ (.op x k z f) pv) (e : vload? P h t x k z f = some a) :
    OkQ P μ w (Instr.loadAt t pv) a := by
  simp only [vrel] at hp
  obtain ⟨hk0, l, hl, rfl⟩ := hp
  obtain ⟨b, hb, e⟩ := ob_some e
  obtain ⟨i, hi, e⟩ := ob_some e
  obtain ⟨g, hg, e⟩ := ob_some e
  have := vecIn_some hi
  subst this
  obtain ⟨l', hl', _, _, arr, el, fz, g1, g2, g3, g4, g5⟩ := r.blk x _ hb
  rw [hl] at hl'; cases hl'
  have key : ∀ (n : Nat) (c : List AV), findVL i k z f n Tab.vl = some c → ∃ vs, vrels μ c vs ∧ vs.length = n ∧ ∀ q, q < n → w.cell? ⟨l.block, l.base + ((Tab.iv k).2.toNat * z + f) + q, none⟩ = vs[q]? := by
    intro n c hc
    obtain ⟨hm, hlen⟩ := findVL_some hc
    obtain ⟨_, o2⟩ := Tab.vlok _ hm
    simp only at o2
    have gen : ∀ (c : List AV) (off : Nat), (∀ m b, c[m]? = some b → ∃ a, Tab.vv i (off + m) = some a ∧ sameT Tab.str Tab.rv Tab.iv a b) → ∃ vs, vrels μ c vs ∧ vs.length = c.length ∧ ∀ q, q < c.length → arr[l.base + off + q]? = vs[q]? := by
      intro c
      induction c with
      | nil => intro off _; exact ⟨[], by simp [vrels], rfl, fun q hq => by simp at hq⟩
      | cons a c ih =>
        intro off ho
        obtain ⟨a0, h0, hsm⟩ := ho 0 a rfl
        obtain ⟨v, v1, v2⟩ := g5 off a0 h0
        obtain ⟨vs, q1, q2, q3⟩ := ih (off + 1) (fun m b hm => by
          obtain ⟨a1, h1, h2⟩ := ho (m + 1) b (by simpa using hm)
          exact ⟨a1, by rw [← h1]; congr 1; omega, h2⟩)
        refine ⟨v :: vs, vrels_cons (hsm.vrel v2) q1, by simp [q2], fun q hq => ?_⟩
        cases q with
        | zero => simpa using v1
        | succ q =>
          rw [List.getElem?_cons_succ, ← q3 q (by simpa using hq)]
          congr 1; omega
    obtain ⟨vs, q1, q2, q3⟩ := gen c _ o2
    exact ⟨vs, q1, by omega, fun q hq => by simp only [World.cell?, g1]; simpa using q3 q (by omega)⟩
  cases g with
  | false =>
    obtain ⟨c, hc, e⟩ := ob_some (show ob _ _ = _ from e)
    obtain ⟨vs, q1, q2, q3⟩ := key 1 c hc
    cases c with
    | nil => simp at e
    | cons a' c =>
      simp only [List.head?_cons, Option.some.injEq] at e
      subst e
      simp only [vrels] at q1
      obtain ⟨v, vs', rfl, q4, _⟩ := q1
      have := q3 0 (by omega)
      simp only [Nat.add_zero, List.getElem?_cons_zero] at this
      exact .same r (v' := v) (by simp [Instr.loadAt, Instr.sureAddr, loadVar, run_isAgg hg, this]) q4
  | true =>
    obtain ⟨n, hn, e⟩ := ob_some (show ob _ _ = _ from e)
    obtain ⟨c, hc, e⟩ := ob_some e
    cases e
    obtain ⟨vs, q1, q2, q3⟩ := key n c hc
    have := cell_loads (P := P) (l := l) (o := (Tab.iv k).2.toNat * z + f) q2 q3
    exact .same r (v' := .agg ⟨vs⟩) (by simp [Instr.loadAt, Instr.sureAddr, loadVar, run_isAgg hg, run_sizeOf hn, this]) (by simp only [vrel]; exact ⟨vs, rfl, q1⟩)
theorem fload_sound (r : HR B w0 μ h w) {t : TypeId} {x k z f : Nat} {a : AV} {pv : Value} (hp : vrel μ (.fp x k z f) pv) (e : fload? P t x k z f = some a) :
    OkQ P μ w (Instr.loadAt t pv) a := by
  simp only [vrel] at hp
  obtain ⟨hk0, rfl⟩ := hp
  obtain ⟨g, hg, e⟩ := ob_some e
  have key : ∀ (n : Nat) (c : List AV), findVL x k z f n Tab.fl = some c → ∃ vs, vrels μ c vs ∧ vs.length = n ∧ ∀ q, q < n → w.cell? ⟨(Tab.fb x).1, (Tab.fb x).2 + ((Tab.iv k).2.toNat * z + f) + q, none⟩ = vs[q]? := by
    intro n c hc
    obtain ⟨hm, hlen⟩ := findVL_some hc
    obtain ⟨_, o2⟩ := Tab.flok _ hm
    simp only at o2
    have gen : ∀ (c : List AV) (off : Nat), (∀ m b, c[m]? = some b → ∃ a, Tab.fv x (off + m) = some a ∧ sameT Tab.str Tab.rv Tab.iv a b) → ∃ vs, vrels μ c vs ∧ vs.length = c.length ∧ ∀ q, q < c.length → w.cell? ⟨(Tab.fb x).1, (Tab.fb x).2 + off + q, none⟩ = vs[q]? := by
      intro c
      induction c with
      | nil => intro off _; exact ⟨[], by simp [vrels], rfl, fun q hq => by simp at hq⟩
      | cons a c ih =>
        intro off ho
        obtain ⟨a0, h0, hsm⟩ := ho 0 a rfl
        obtain ⟨_, v, v1, v2⟩ := r.below.frgn h0
        obtain ⟨vs, q1, q2, q3⟩ := ih (off + 1) (fun m b hm => by
          obtain ⟨a1, h1, h2⟩ := ho (m + 1) b (by simpa using hm)
          exact ⟨a1, by rw [← h1]; congr 1; omega, h2⟩)
        refine ⟨v :: vs, vrels_cons (hsm.vrel (vrel_any v2)) q1, by simp [q2], fun q hq => ?_⟩
        cases q with
        | zero => simpa [Nat.add_assoc] using v1
        | succ q =>
          rw [List.getElem?_cons_succ, ← q3 q (by simpa using hq)]
          congr 2; omega
    obtain ⟨vs, q1, q2, q3⟩ := gen c _ o2
    exact ⟨vs, q1, by omega, fun q hq => q3 q (by omega)⟩
  cases g with
  | false =>
    obtain ⟨c, hc, e⟩ := ob_some (show ob _ _ = _ from e)
    obtain ⟨vs, q1, q2, q3⟩ := key 1 c hc
    cases c with
    | nil => simp at e
    | cons a' c =>
      simp only [List.head?_cons, Option.some.injEq] at e
      subst e
      simp only [vrels] at q1
      obtain ⟨v, vs', rfl, q4, _⟩ := q1
      have := q3 0 (by omega)
      simp only [Nat.add_zero, List.getElem?_cons_zero] at this
      exact .same r (v' := v) (by simp [Instr.loadAt, Instr.sureAddr, loadVar, run_isAgg hg, this]) q4
  | true =>
    obtain ⟨n, hn, e⟩ := ob_some (show ob _ _ = _ from e)
    obtain ⟨c, hc, e⟩ := ob_some e
    cases e
    obtain ⟨vs, q1, q2, q3⟩ := key n c hc
    have := cell_loads (P := P) (l := ⟨(Tab.fb x).1, (Tab.fb x).2, 0⟩) (o := (Tab.iv k).2.toNat * z + f) q2 q3
    exact .same r (v' := .agg ⟨vs⟩) (by simp [Instr.loadAt, Instr.sureAddr, loadVar, run_isAgg hg, run_sizeOf hn, this]) (by simp only [vrel]; exact ⟨vs, rfl, q1⟩)
theorem vstore_sound (r : HR B w0 μ h w) {t : TypeId} {x k z f : Nat} {a : AV} {v pv : Value} (hp : vrel μ (.op x k z f) pv) (hv : vrel μ a v) (e : vstore? P h t x k z f a = some h') :
    ∃ w', (Instr.storeAt t pv v).run P w = .ok () w' ∧ HR B w0 μ h' w' := by
  simp only [vrel] at hp
  obtain ⟨hk0, l, hl, rfl⟩ := hp
  obtain ⟨n, hn, e⟩ := ob_some e
  obtain ⟨hlen, e⟩ := ifb_some e
  obtain ⟨b, hb, e⟩ := ob_some e
  obtain ⟨i, hi, e⟩ := ob_some e
  obtain ⟨i', hi', e⟩ := ob_some e
  obtain ⟨hlim, e⟩ := ifb_some e
  cases e
  have := vecIn_some hi
  subst this
  simp only [Bool.and_eq_true, nbeq_iff] at hlen
  obtain ⟨hlen, hpl⟩ := hlen
  have hlim := blt_iff.1 hlim
  unfold limit at hlim
  obtain ⟨l', hl', _, _, arr, el, fz, g1, g2, g3, g4, g5⟩ := r.blk x _ hb
  rw [hl] at hl'; cases hl'
  obtain ⟨_, o2, o3, o4⟩ := Tab.vsok _ (findVS_some hi')
  simp only at o2 o3 o4
  have hcells := vrel_cells hv
  have hvl := vrels_length hcells
  obtain ⟨w', arr', k1, k2, k3, k4, k5⟩ := run_storeCells (P := P) (c := l.block) (e := el) (fz := fz) v.cells.toList (l.base + ((Tab.iv k).2.toNat * z + f)) 0 arr w g1 (by rw [hvl]; omega) (fun j hj => g3 j (by omega)) (vrels_one_all hcells (fun a ha => plain_one (allPlain_iff hpl a ha)))
  refine ⟨w', ?_, r.upd (b := .vec i) hb hl rfl rfl (by omega) k2 ⟨arr', el, fz, k3, by omega, g3, by omega, vecRel.less (μ := μ) (Ext.refl _) fun m u hm => ?_⟩⟩
  · have hsz : v.cells.size = n := by
      rw [Array.length_toList] at hvl
      rw [hvl]; exact hlen
    simp [Instr.storeAt, Instr.sureAddr, storeVar, run_sizeOf hn, hsz, k1]
  · obtain ⟨u0, h1, hsm⟩ := o4 m u hm
    split at h1
    · rename_i c1
      obtain ⟨y, y1, y2⟩ := vrels_get hcells h1
      refine ⟨y, ?_, hsm.vrel y2⟩
      rw [k5, if_pos (by rw [hvl]; omega), ← y1]
      congr 1; omega
    · rename_i c1
      obtain ⟨y, y1, y2⟩ := g5 m u0 h1
      refine ⟨y, ?_, hsm.vrel y2⟩
      rw [k5, if_neg (by rw [hvl]; omega)]; exact y1
theorem findCP_some {i a j b k i' : Nat} {n : AV} : ∀ {l : List CP}, findCP i a j b k l = some (n, i') → ⟨i, a, j, b, k, i', n⟩ ∈ l
  | [], e => by have e' : (none : Option (AV × Nat)) = some (n, i') := e; cases e'
  | r :: l, e => by
    have e' : (@Bool.rec (fun _ => Option (AV × Nat)) (findCP i a j b k l) (@Bool.rec (fun _ => Option (AV × Nat)) (findCP i a j b k l) (@Bool.rec (fun _ => Option (AV × Nat)) (findCP i a j b k l) (@Bool.rec (fun _ => Option (AV × Nat)) (findCP i a j b k l) (@Bool.rec (fun _ => Option (AV × Nat)) (findCP i a j b k l) (some (r.n, r.i')) (Nat.beq r.k k)) (Nat.beq r.b b)) (Nat.beq r.j j)) (Nat.beq r.a a)) (Nat.beq r.i i)) = some (n, i') := e
    have ih := fun e => List.mem_cons_of_mem r (findCP_some (i := i) (a := a) (j := j) (b := b) (k := k) (i' := i') (n := n) (l := l) e)
    cases h1 : Nat.beq r.i i with
    | false => rw [h1] at e'; exact ih e'
    | true =>
    cases h2 : Nat.beq r.a a with
    | false => rw [h1, h2] at e'; exact ih e'
    | true =>
    cases h3 : Nat.beq r.j j with
    | false => rw [h1, h2, h3] at e'; exact ih e'
    | true =>
    cases h4 : Nat.beq r.b b with
    | false => rw [h1, h2, h3, h4] at e'; exact ih e'
    | true =>
    cases h5 : Nat.beq r.k k with
    | false => rw [h1, h2, h3, h4, h5] at e'; exact ih e'
    | true =>
      rw [h1, h2, h3, h4, h5] at e'
      cases e'
      rw [← nbeq_iff.1 h1, ← nbeq_iff.1 h2, ← nbeq_iff.1 h3, ← nbeq_iff.1 h4, ← nbeq_iff.1 h5]
      exact List.mem_cons_self
theorem findCL_some {i a j i' : Nat} {z : List AV} : ∀ {l : List CL}, findCL i a j z l = some i' → ∃ y, ⟨i, a, j, y, i'⟩ ∈ l ∧ z = [y]
  | [], e => by have e' : (none : Option Nat) = some i' := e; cases e'
  | r :: l, e => by
    have e' : (@Bool.rec (fun _ => Option Nat) (findCL i a j z l) (@Bool.rec (fun _ => Option Nat) (findCL i a j z l) (@Bool.rec (fun _ => Option Nat) (findCL i a j z l) (@Bool.rec (fun _ => Option Nat) (findCL i a j z l) (some r.i') (peqs [r.z] z)) (Nat.beq r.j j)) (Nat.beq r.a a)) (Nat.beq r.i i)) = some i' := e
    have ih := fun e => let ⟨y, q, p⟩ := findCL_some (i := i) (a := a) (j := j) (i' := i') (z := z) (l := l) e; (⟨y, List.mem_cons_of_mem r q, p⟩ : ∃ y, (⟨i, a, j, y, i'⟩ : CL) ∈ r :: l ∧ z = [y])
    cases h1 : Nat.beq r.i i with
    | false => rw [h1] at e'; exact ih e'
    | true =>
    cases h2 : Nat.beq r.a a with
    | false => rw [h1, h2] at e'; exact ih e'
    | true =>
    cases h3 : Nat.beq r.j j with
    | false => rw [h1, h2, h3] at e'; exact ih e'
    | true =>
    cases h4 : peqs [r.z] z with
    | false => rw [h1, h2, h3, h4] at e'; exact ih e'
    | true =>
      rw [h1, h2, h3, h4] at e'
      cases e'
      refine ⟨r.z, ?_, (peqs_eq h4).symm⟩
      rw [← nbeq_iff.1 h1, ← nbeq_iff.1 h2, ← nbeq_iff.1 h3]
      exact List.mem_cons_self
theorem vpart_sound (r : HR B w0 μ h w) {x o i i' : Nat} {l : Loc} {vs : List Value} (hb : h.get x = some (.vec i)) (hl : μ x = some l) (hlim : x < limit) (hk : o + vs.length ≤ Tab.vk i) (hk' : Tab.vk i' ≤ Tab.vk i) (ho : ∀ v ∈ vs, oneV v = true)
    (hp : ∀ (arr : Array Value), vecRel μ (Tab.vv i) l.base arr → ∀ m x, Tab.vv i' m = some x → ∃ v, (if o ≤ m ∧ m < o + vs.length then vs[m - o]? else arr[l.base + m]?) = some v ∧ vrel μ x v) :
    ∃ w', (storeCells ⟨l.block, l.base + o, none⟩ vs).run P w = .ok () w' ∧ HR B w0 μ (h.put x (.vec i')) w' := by
  obtain ⟨l', hl', _, _, arr, el, fz, g1, g2, g3, g4, g5⟩ := r.blk x _ hb
  rw [hl] at hl'; cases hl'
  unfold limit at hlim
  obtain ⟨w', arr', k1, k2, k3, k4, k5⟩ := run_storeCells (P := P) (c := l.block) (e := el) (fz := fz) vs (l.base + o) 0 arr w g1 (by omega) (fun j hj => g3 j (by omega)) ho
  refine ⟨w', k1, r.upd (b := .vec i) hb hl rfl rfl (by omega) k2 ⟨arr', el, fz, k3, by omega, g3, by omega, fun m u hm => ?_⟩⟩
  obtain ⟨v, v1, v2⟩ := hp arr g5 m u hm
  refine ⟨v, ?_, v2⟩
  rw [k5]
  by_cases c : o ≤ m ∧ m < o + vs.length
  · rw [if_pos c] at v1
    rw [if_pos (by omega), ← v1]
    congr 1; omega
  · rw [if_neg c] at v1
    rw [if_neg (by omega)]; exact v1
theorem copyV_sound (r : HR B w0 μ h w) {dt ty : TypeId} {ats : Array TypeId} {d s : AV} {dv sv : Value} {p : AV × H} (hat : ats[0]? = some dt) (hd : vrel μ d dv) (hs : vrel μ s sv) (ep : copyV P h dt d s = some p) :
    OkV P B w0 μ w (Builtin.copy_ ats ty #[dv, sv]) p.1 p.2 := by
  unfold copyV at ep
  split at ep
  · rename_i x a j y b k
    obtain ⟨e, he, ep⟩ := ob_some ep
    obtain ⟨z, hz, ep⟩ := ob_some ep
    obtain ⟨hc, ep1⟩ := ifb_some ep
    clear ep
    simp only [Bool.and_eq_true, nbeq_iff, blt_iff] at hc
    obtain ⟨rfl, rfl, hlim⟩ := hc
    obtain ⟨bl, hb, ep2⟩ := ob_some ep1
    obtain ⟨i, hi, ep3⟩ := ob_some ep2
    obtain ⟨⟨n, i'⟩, hf, ep4⟩ := ob_some ep3
    cases ep4
    have := vecIn_some hi
    subst this
    have hst := sliceElem_some he
    simp only [vrel] at hd hs
    obtain ⟨a0, j0, jp, l, c, hl, hac, rfl⟩ := hd
    obtain ⟨b0, k0, kp, l2, c2, hl2, hbc, rfl⟩ := hs
    rw [hl] at hl2; cases hl2
    obtain ⟨l', hl', _, _, arr, el, fz, g1, g2, g3, g4, g5⟩ := r.blk x _ hb
    rw [hl] at hl'; cases hl'
    obtain ⟨o1, o2, o3, o4, o5⟩ := Tab.cpok _ (findCP_some hf)
    simp only at o1 o2 o3 o4 o5
    generalize hN : min (Tab.iv k).2.toNat (Tab.iv j).2.toNat = N at o1 o2 o4 o5
    let vs : List Value := (arr.toList.drop (l.base + (Tab.iv b).2.toNat)).take N
    have hget : ∀ m, m < N → ∃ x u, Tab.vv i ((Tab.iv b).2.toNat + m) = some x ∧ arr[l.base + (Tab.iv b).2.toNat + m]? = some u ∧ vrel μ x u ∧ x.one = true := fun m hm => by
      obtain ⟨x, hx⟩ := o4 m hm
      obtain ⟨u, u1, u2⟩ := g5 _ _ hx
      exact ⟨x, u, hx, by rw [Nat.add_assoc]; exact u1, u2, plain_one (Tab.vvp _ _ _ hx)⟩
    have hvl : vs.length = N := by
      simp only [vs, List.length_take, List.length_drop, Array.length_toList]
      rcases Nat.eq_zero_or_pos N with h0 | h0
      · omega
      · obtain ⟨_, u, _, u1, _⟩ := hget (N - 1) (by omega)
        have := (Array.getElem?_eq_some_iff.1 u1).1
        omega
    have hvs : ∀ m, m < N → vs[m]? = arr[l.base + (Tab.iv b).2.toNat + m]? := fun m hm => by
      simp only [vs, List.getElem?_take, if_pos hm, List.getElem?_drop, Array.getElem?_toList]
    have hfc : (Builtin.firstCells 1 N (.slice (some ⟨l.block, l.base + (Tab.iv b).2.toNat, none⟩) (Tab.iv k).2.toNat (c2 - (Tab.iv b).2.toNat))).run P w = .ok ⟨vs⟩ w := by
      simp only [Builtin.firstCells]
      refine cell_loads (n := N * 1) (by omega) fun m hm => ?_
      rw [hvs m (by omega)]
      simp [World.cell?, g1]
    obtain ⟨w', k1, k2⟩ := vpart_sound (P := P) (vs := vs) (o := (Tab.iv a).2.toNat) (i' := i') r hb hl hlim (by omega) o3 (fun v hv => by
        obtain ⟨m, hm⟩ := List.getElem?_of_mem hv
        have hmn : m < N := by rw [← hvl]; exact (List.getElem?_eq_some_iff.1 hm).1
        obtain ⟨x, u, x1, x2, x3, x4⟩ := hget m hmn
        rw [hvs m hmn, x2] at hm
        cases hm
        exact vrel_one x3 x4) (fun arr2 g5' m u hu => by
        obtain ⟨y, y1, y2⟩ := o5 m u hu
        rw [hvl]
        split at y1
        · rename_i c1
          obtain ⟨x, v, x1, x2, x3, _⟩ := hget (m - (Tab.iv a).2.toNat) (by omega)
          rw [x1] at y1; cases y1
          refine ⟨v, ?_, y2.vrel x3⟩
          rw [if_pos c1, hvs _ (by omega)]; exact x2
        · rename_i c1
          obtain ⟨v, v1, v2⟩ := g5' m y y1
          refine ⟨v, ?_, y2.vrel v2⟩
          rw [if_neg c1]; exact v1)
    refine ⟨.int .i64 ((N : Nat) : Int), w', μ, ?_, Ext.refl _, den_mk o1, k2⟩
    have hmin : Nat.min (Tab.iv k).2.toNat (Tab.iv j).2.toNat = N := hN
    simp [Builtin.copy_, hat, Builtin.lenOf, run_underlying hst, run_sizeOf hz, hN, hmin, hfc, k1, goInt]
  · cases ep
theorem copy_sound (r : HR B w0 μ h w) {dt ty : TypeId} {ats : Array TypeId} {d s : AV} {dv sv : Value} {p : AV × H} (hat : ats[0]? = some dt) (hd : vrel μ d dv) (hs : vrel μ s sv) (ep : copy? P h dt d s = some p) :
    OkV P B w0 μ w (Builtin.copy_ ats ty #[dv, sv]) p.1 p.2 := by
  unfold copy? at ep
  cases ho : copyV P h dt d s with
  | some q => rw [ho] at ep; cases ep; exact copyV_sound r hat hd hs ho
  | none => rw [ho] at ep; exact copy0_sound r hat hd hs ep
end Go.X
set_option linter.unusedVariables false
set_option linter.unusedSimpArgs false
set_option linter.unusedSectionVars false
namespace Go.X
open Go.RowKit
variable [Tab]
variable {P : Program} {B : Kp} {w0 : World} {μ : M} {h h' : H} {w w' : World}
theorem kcode_inj {k k' : IntKind} (e : Nat.beq (kcode k) (kcode k') = true) : k = k' := by
  have := nbeq_iff.1 e
  cases k <;> cases k' <;> simp [kcode] at this <;> rfl
theorem wrapF_eq (k : IntKind) (n : Int) : wrapF k n = k.wrap n := by
  cases n with
  | ofNat m =>
    show @Bool.rec (fun _ => Int) (k.wrap (Int.ofNat m)) (Int.ofNat m) (Nat.ble m (kmax k)) = _
    cases hb : Nat.ble m (kmax k) with
    | false => rfl
    | true =>
      have hm := ble_iff.1 hb
      show (m : Int) = k.wrap (m : Int)
      unfold IntKind.wrap
      cases k <;> simp [kmax] at hm <;> simp [IntKind.bits, IntKind.signed] <;> omega
  | negSucc m => rfl
theorem intOp_sound {op : BinOp} {t : TypeId} {k : IntKind} {a b : Int} {v : AV} (hs : isShift op = false) (e : intOp op k a b = some v) :
    ∃ v', (binOp op t (.int k a) (.int k b)).run P w = .ok v' w ∧ vrel μ v v' := by
  cases op <;> simp only [intOp] at e <;> first
    | (simp [isShift] at hs; done)
    | (simp at e; done)
    | (cases e; refine ⟨_, by simp [binOp, Op.intArith, Op.intBits, Op.intCmp]; rfl, ?_⟩; simp only [vrel, wrapF_eq]; rfl)
    | (cases e; refine ⟨_, by simp [binOp, Op.intArith, Op.intBits, Op.intCmp]; rfl, ?_⟩; simp [vrel, wrapF_eq])
    | (split at e
       · simp at e
       · rename_i hb
         cases e
         refine ⟨_, by simp [binOp, Op.intDiv, hb]; rfl, ?_⟩
         simp [vrel, wrapF_eq])
theorem shiftOp_sound {op : BinOp} {t : TypeId} {k k' : IntKind} {a b : Int} {v : AV} (e : shiftOp op k a b = some v) :
    ∃ v', (binOp op t (.int k a) (.int k' b)).run P w = .ok v' w ∧ vrel μ v v' := by
  cases op <;> simp only [shiftOp] at e <;> first
    | (simp at e; done)
    | (split at e
       · simp at e
       · rename_i hb
         cases e
         refine ⟨_, by simp only [binOp, Op.shift]; rw [if_neg hb]; rfl, ?_⟩
         simp [vrel])
theorem eqGuard_int {op : BinOp} {t : TypeId} {x y : Operand} {k : IntKind} {n : Int} {v : Value} : eqGuard op t x y (.int k n) v = pure () := by cases op <;> rfl
theorem intBin_sound {op : BinOp} {t : TypeId} {x y : Operand} {k k' : IntKind} {a b : Int} {v : AV} (e : intBin op k a k' b = some v) :
    ∃ v', (do eqGuard op t x y (.int k a) (.int k' b); binOp op t (.int k a) (.int k' b) : Sem Value).run P w = .ok v' w ∧ vrel μ v v' := by
  rw [eqGuard_int]
  simp only [Sem.run_bind, Sem.run_pure, Result.andThen_ok]
  unfold intBin at e
  cases hs : isShift op with
  | true => rw [hs] at e; exact shiftOp_sound e
  | false =>
    rw [hs] at e
    obtain ⟨hk, e2⟩ := ifb_some e
    obtain rfl := kcode_inj hk
    exact intOp_sound hs e2
theorem bytesLt_sound : ∀ (a b : List Nat), (∀ x ∈ a, x < 256) → (∀ x ∈ b, x < 256) → bytesLt a b = Op.bytesLess (a.map UInt8.ofNat) (b.map UInt8.ofNat)
  | [], [], _, _ => rfl
  | _ :: _, [], _, _ => rfl
  | [], _ :: _, _, _ => rfl
  | x :: a, y :: b, ha, hb => by
    have hx := ha x (by simp)
    have hy := hb y (by simp)
    have ih := bytesLt_sound a b (fun z hz => ha z (by simp [hz])) (fun z hz => hb z (by simp [hz]))
    simp only [bytesLt, Op.bytesLess, List.map_cons, ih]
    have e1 : Nat.blt x y = decide (UInt8.ofNat x < UInt8.ofNat y) := by
      rw [Bool.eq_iff_iff, blt_iff, decide_eq_true_iff, UInt8.lt_iff_toNat_lt]
      simp only [UInt8.toNat_ofNat']
      omega
    have e2 : Nat.beq x y = (UInt8.ofNat x == UInt8.ofNat y) := by
      rw [Bool.eq_iff_iff, nbeq_iff, beq_iff_eq]
      constructor
      · intro h; rw [h]
      · intro h
        have := congrArg UInt8.toNat h
        simp only [UInt8.toNat_ofNat'] at this
        omega
    rw [e1, e2]
theorem bytes_loop (bs : ByteArray) : ∀ (k i : Nat) (r : List UInt8), bs.size - i = k → ByteArray.toList.loop bs i r = r.reverse ++ bs.data.toList.drop i
  | 0, i, r, hk => by
    rw [ByteArray.toList.loop, if_neg (by omega)]
    rw [List.drop_eq_nil_of_le (by rw [Array.length_toList]; show bs.size ≤ i; omega)]
    simp
  | k + 1, i, r, hk => by
    rw [ByteArray.toList.loop, if_pos (by omega), bytes_loop bs k (i + 1) _ (by omega)]
    have hi : i < bs.data.toList.length := by rw [Array.length_toList]; show i < bs.size; omega
    rw [List.drop_eq_getElem_cons hi]
    have hi' : i < bs.data.size := by simpa using hi
    have : bs.get! i = bs.data.toList[i] := by
      rw [Array.getElem_toList]
      show bs.data[i]! = _
      rw [getElem!_pos bs.data i hi']
    rw [this]
    simp
theorem bytes_toList (bs : ByteArray) : bs.toList = bs.data.toList := by
  have := bytes_loop bs _ 0 [] rfl
  simpa [ByteArray.toList] using this
theorem strOf_toList (n c : Nat) : (strOf n c).toList = (dec n c).map UInt8.ofNat := by
  rw [bytes_toList]
  rfl
theorem dec_append : ∀ (n m c d : Nat), c < 256 ^ n → dec (n + m) (c + d * 256 ^ n) = dec n c ++ dec m d
  | 0, m, c, d, h => by
    rw [Nat.pow_zero] at h
    have : c = 0 := by omega
    subst this
    simp [dec]
  | n + 1, m, c, d, h => by
    rw [Nat.pow_succ] at h
    have e1 : n + 1 + m = (n + m) + 1 := by omega
    have e2 : d * 256 ^ (n + 1) = 256 * (d * 256 ^ n) := by rw [Nat.pow_succ, ← Nat.mul_assoc, Nat.mul_comm]
    rw [e1]
    simp only [dec, List.cons_append]
    rw [e2]
    have e3 : (c + 256 * (d * 256 ^ n)) % 256 = c % 256 := by omega
    have e4 : (c + 256 * (d * 256 ^ n)) / 256 = c / 256 + d * 256 ^ n := by omega
    rw [e3, e4, dec_append n m (c / 256) d (by omega)]
theorem strOf_append (n m c d : Nat) (h : c < 256 ^ n) : strOf n c ++ strOf m d = strOf (n + m) (c + d * 256 ^ n) := by
  unfold strOf
  rw [dec_append n m c d h, List.map_append]
  exact ByteArray.mk_append_mk _ _
theorem strOp_sound {op : BinOp} {t : TypeId} {n c m d : Nat} {v : AV} (hc : c < 256 ^ n) (hd : d < 256 ^ m) (e : strOp op n c m d = some v) :
    ∃ v', (binOp op t (.string (strOf n c)) (.string (strOf m d))).run P w = .ok v' w ∧ vrel μ v v' := by
  have hlt : Op.bytesLess (strOf n c).toList (strOf m d).toList = bytesLt (dec n c) (dec m d) := by
    rw [strOf_toList, strOf_toList, bytesLt_sound _ _ (dec_lt _ _) (dec_lt _ _)]
  have heq : ((strOf n c).toList == (strOf m d).toList) = strEq n c m d := by
    rw [Bool.eq_iff_iff, beq_iff_eq, strEq_iff hc hd]
    constructor
    · intro h
      rw [bytes_toList, bytes_toList] at h
      have : (strOf n c).data = (strOf m d).data := Array.toList_inj.1 h
      cases h1 : strOf n c; cases h2 : strOf m d
      rw [h1, h2] at this
      simpa using this
    · intro h; rw [h]
  cases op <;> simp only [strOp] at e <;> first
    | (simp at e; done)
    | (cases e
       refine ⟨_, by simp only [binOp, Op.stringOp, hlt, heq]; rfl, ?_⟩
       simp [vrel])
    | (split at e
       · rename_i hl
         cases e
         unfold limit at hl
         refine ⟨.string (strOf n c ++ strOf m d), ?_, ?_⟩
         · simp only [binOp, Op.stringOp]
           rw [if_neg (by rw [strOf_size, strOf_size, IntKind.max_i64]; omega)]
           rfl
         · simp only [vrel]
           refine ⟨?_, by rw [strOf_append n m c d hc]⟩
           rw [Nat.pow_add]
           have h1 : d * 256 ^ n ≤ (256 ^ m - 1) * 256 ^ n := Nat.mul_le_mul_right _ (by omega)
           have h2 : (256 ^ m - 1) * 256 ^ n + 256 ^ n = 256 ^ n * 256 ^ m := by
             rw [Nat.sub_mul, Nat.one_mul, Nat.mul_comm (256 ^ m)]
             have : 256 ^ n ≤ 256 ^ n * 256 ^ m := Nat.le_mul_of_pos_right _ (by omega)
             omega
           omega
       · simp at e)
theorem eqGuard_str {op : BinOp} {t : TypeId} {x y : Operand} {s : ByteArray} {v : Value} : eqGuard op t x y (.string s) v = pure () := by cases op <;> rfl
end Go.X
set_option linter.unusedVariables false
set_option linter.unusedSimpArgs false
set_option linter.unusedSectionVars false
namespace Go.X
open Go.RowKit
variable [Tab]
variable {P : Program} {B : Kp} {w0 : World} {μ : M} {h h' : H} {w w' : World}
theorem plain_some {x : Nat} (e : plainBlk h x = true) : ∃ n z t, h.get x = some (.cells n false z t) ∧ 0 < n := by
  unfold plainBlk at e
  cases hb : h.get x with
  | none => rw [hb] at e; simp at e
  | some b =>
    rw [hb] at e
    cases b with
    | cells n p z t =>
      cases p with
      | true => simp [plainIn] at e
      | false => exact ⟨n, z, t, rfl, by simp only [plainIn, Bool.and_eq_true] at e; exact blt_iff.1 e.1⟩
    | glob n z t => simp [plainIn] at e
    | map es c => simp [plainIn] at e
    | siter n c p => simp [plainIn] at e
    | miter m s1 s2 s3 => simp [plainIn] at e
    | vec i => simp [plainIn] at e
    | omap i => simp [plainIn] at e
    | oit x i => simp [plainIn] at e
    | oin x i q => simp [plainIn] at e
theorem sameAddr_sound (r : HR B w0 μ h w) {x y o p : Nat} {l k : Loc} (hl : μ x = some l) (hk : μ y = some k) (hne : x ≠ y) (hx : plainBlk h x = true) (hy : plainBlk h y = true) :
    (sameAddr ⟨l.block, l.base + o, none⟩ ⟨k.block, k.base + p, none⟩).run P w = .ok false w := by
  obtain ⟨n, z, t, hgx, hn⟩ := plain_some hx
  obtain ⟨n', z', t', hgy, hn'⟩ := plain_some hy
  have hb : l.block ≠ k.block := r.sep x y _ _ l k hgx hgy hne rfl rfl hl hk
  obtain ⟨l', hl', _, _, arr, e, fz, g1, g2, g3, g4, g5, _⟩ := r.blk x _ hgx
  rw [hl] at hl'; cases hl'
  obtain ⟨k', hk', _, _, arr', e', fz', g1', g2', g3', g4', g5', _⟩ := r.blk y _ hgy
  rw [hk] at hk'; cases hk'
  have f1 := g5 rfl
  have f2 := g5' rfl
  subst f1 f2
  have hbf : (l.block == k.block) = false := by simpa using hb
  have s1 : w.shape? l.block = some (e, arr.size) := by simp [World.shape?, g1]
  have s2 : w.shape? k.block = some (e', arr'.size) := by simp [World.shape?, g1']
  have z1 : ∀ q, w.frozen? ⟨l.block, q, none⟩ = false := fun q => by simp [World.frozen?, g1]
  have z2 : ∀ q, w.frozen? ⟨k.block, q, none⟩ = false := fun q => by simp [World.frozen?, g1']
  simp [sameAddr, hbf, hb, z1, z2, noView, viewAt, s1, s2, mayBeOne, stringish]
set_option maxHeartbeats 1600000 in
theorem atomEq_sound (r : HR B w0 μ h w) {t : TypeId} {d : TypeDesc} {x y : AV} {xv yv : Value} {b : Bool} (hd : P.underlying t = some d) (hx : vrel μ x xv) (hy : vrel μ y yv) (e : atomEq P h d x y = some b) (dep : Nat) :
    (Op.equalIn (dep + 1) t xv yv).run P w = .ok b w := by
  unfold atomEq at e
  split at e
  case h_5 _ el x o y p =>
    obtain ⟨n, hn, e2⟩ := ob_some e
    clear e
    obtain ⟨i, hi, rfl⟩ := sizeOf_some hn
    simp only [vrel] at hx hy
    obtain ⟨l, hl, rfl⟩ := hx
    obtain ⟨k, hk, rfl⟩ := hy
    split at e2
    · simp at e2
    · rename_i hz
      split at e2
      · rename_i hxy
        subst hxy
        cases e2
        rw [hl] at hk; cases hk
        simp [Op.equalIn, run_underlying hd, sizeOf, run_typeInfo hi, hz, sameAddr]
        rw [Bool.eq_iff_iff]
        simp
      · rename_i hxy
        split at e2
        · rename_i hp
          cases e2
          simp only [Bool.and_eq_true] at hp
          have := sameAddr_sound (P := P) (o := o) (p := p) r hl hk hxy hp.1 hp.2
          simp [Op.equalIn, run_underlying hd, sizeOf, run_typeInfo hi, hz, this]
        · simp at e2
  all_goals first
    | (simp at e; done)
    | skip
  all_goals
    cases e
    simp only [vrel] at hx hy
  all_goals (try obtain ⟨_, _, rfl⟩ := hx)
  all_goals (try obtain ⟨_, _, rfl⟩ := hy)
  all_goals (try obtain ⟨_, _, _, _, _, _, rfl⟩ := hx)
  all_goals (try obtain ⟨_, _, _, _, _, _, rfl⟩ := hy)
  all_goals (try obtain ⟨_, _, _, rfl⟩ := hx)
  all_goals (try obtain ⟨_, _, _, rfl⟩ := hy)
  all_goals (try obtain ⟨_, rfl⟩ := hx)
  all_goals (try obtain ⟨_, rfl⟩ := hy)
  all_goals (try obtain ⟨_, _, _, _, _, rfl⟩ := hx)
  all_goals (try obtain ⟨_, _, _, _, _, rfl⟩ := hy)
  all_goals (try obtain ⟨_, _, rfl, _⟩ := hx)
  all_goals (try obtain ⟨_, _, rfl, _⟩ := hy)
  all_goals (try obtain ⟨_, rfl, _⟩ := hx)
  all_goals (try obtain ⟨_, rfl, _⟩ := hy)
  all_goals (try subst hx)
  all_goals (try subst hy)
  all_goals simp [Op.equalIn, run_underlying hd]
theorem eqGuard_sound {op : BinOp} {t : TypeId} {xo yo : Operand} {x y : AV} {xv yv : Value} {d : TypeDesc} {b : Bool} (hx : vrel μ x xv) (hy : vrel μ y yv) (e : atomEq P h d x y = some b) : eqGuard op t xo yo xv yv = pure () := by
  unfold atomEq at e
  split at e
  all_goals first
    | (simp at e; done)
    | skip
  all_goals simp only [vrel] at hx hy
  all_goals (try obtain ⟨_, _, rfl⟩ := hx)
  all_goals (try obtain ⟨_, _, rfl⟩ := hy)
  all_goals (try obtain ⟨_, _, _, _, _, _, rfl⟩ := hx)
  all_goals (try obtain ⟨_, _, _, _, _, _, rfl⟩ := hy)
  all_goals (try obtain ⟨_, _, _, rfl⟩ := hx)
  all_goals (try obtain ⟨_, _, _, rfl⟩ := hy)
  all_goals (try obtain ⟨_, rfl⟩ := hx)
  all_goals (try obtain ⟨_, rfl⟩ := hy)
  all_goals (try obtain ⟨_, _, _, _, _, rfl⟩ := hx)
  all_goals (try obtain ⟨_, _, _, _, _, rfl⟩ := hy)
  all_goals (try obtain ⟨_, _, rfl, _⟩ := hx)
  all_goals (try obtain ⟨_, _, rfl, _⟩ := hy)
  all_goals (try obtain ⟨_, rfl, _⟩ := hx)
  all_goals (try obtain ⟨_, rfl, _⟩ := hy)
  all_goals (try subst hx)
  all_goals (try subst hy)
  all_goals (cases op <;> rfl)
theorem binOp_eql_atom {t : TypeId} {x y : AV} {xv yv : Value} {d : TypeDesc} {b : Bool} (hx : vrel μ x xv) (hy : vrel μ y yv) (e : atomEq P h d x y = some b) :
    binOp .eql t xv yv = (do pure (.bool (← Op.equal t xv yv))) ∧ binOp .neq t xv yv = (do pure (.bool (!(← Op.equal t xv yv)))) := by
  unfold atomEq at e
  split at e
  all_goals first
    | (simp at e; done)
    | skip
  all_goals simp only [vrel] at hx hy
  all_goals (try obtain ⟨_, _, rfl⟩ := hx)
  all_goals (try obtain ⟨_, _, rfl⟩ := hy)
  all_goals (try obtain ⟨_, _, _, _, _, _, rfl⟩ := hx)
  all_goals (try obtain ⟨_, _, _, _, _, _, rfl⟩ := hy)
  all_goals (try obtain ⟨_, _, _, rfl⟩ := hx)
  all_goals (try obtain ⟨_, _, _, rfl⟩ := hy)
  all_goals (try obtain ⟨_, rfl⟩ := hx)
  all_goals (try obtain ⟨_, rfl⟩ := hy)
  all_goals (try obtain ⟨_, _, _, _, _, rfl⟩ := hx)
  all_goals (try obtain ⟨_, _, _, _, _, rfl⟩ := hy)
  all_goals (try obtain ⟨_, _, rfl, _⟩ := hx)
  all_goals (try obtain ⟨_, _, rfl, _⟩ := hy)
  all_goals (try obtain ⟨_, rfl, _⟩ := hx)
  all_goals (try obtain ⟨_, rfl, _⟩ := hy)
  all_goals (try subst hx)
  all_goals (try subst hy)
  all_goals exact ⟨rfl, rfl⟩
theorem eqOp_sound (r : HR B w0 μ h w) {op : BinOp} {t : TypeId} {xo yo : Operand} {x y v : AV} {xv yv : Value} (hx : vrel μ x xv) (hy : vrel μ y yv) (e : eqOp P h op t x y = some v) :
    ∃ v', (do eqGuard op t xo yo xv yv; binOp op t xv yv : Sem Value).run P w = .ok v' w ∧ vrel μ v v' := by
  cases op <;> simp only [eqOp] at e <;> first | (simp at e; done) | skip
  all_goals
    obtain ⟨d, hd, e⟩ := ob_some e
    obtain ⟨b, hb, e⟩ := ob_some e
    cases e
    have h1 := atomEq_sound r hd hx hy hb 9999
    have h2 := binOp_eql_atom (t := t) hx hy hb
    rw [eqGuard_sound hx hy hb]
    simp only [Sem.run_bind, Sem.run_pure, Result.andThen_ok, h2.1, h2.2, Op.equal, Op.maxDepth, h1]
    exact ⟨_, rfl, by simp [vrel]⟩
theorem niliEq_sound {op : BinOp} {t : TypeId} {xo yo : Operand} {v : AV} (e : niliEq op P t (isConst xo || isConst yo) = some v) :
    ∃ v', (do eqGuard op t xo yo .nilIface .nilIface; binOp op t .nilIface .nilIface : Sem Value).run P w = .ok v' w ∧ vrel μ v v' := by
  have hg : (isConst xo || isConst yo) = true → eqGuard op t xo yo .nilIface .nilIface = pure () := by
    intro hc
    cases xo <;> cases yo <;> simp [isConst] at hc <;> cases op <;> rfl
  cases op <;> simp only [niliEq] at e <;> first | (simp at e; done) | skip
  all_goals
    obtain ⟨d, hd, e⟩ := ob_some e
    cases d <;> simp only at e <;> first | (simp at e; done) | skip
    obtain ⟨hc, e⟩ := ifb_some e
    cases e
    rw [hg hc]
    have h0 : ∀ dep, (Op.equalIn (dep + 1) t .nilIface .nilIface).run P w = .ok true w := fun dep => by simp [Op.equalIn, run_underlying hd]
    have h1 := h0 9999
    have h2 : binOp .eql t .nilIface .nilIface = (do pure (.bool (← Op.equal t .nilIface .nilIface))) ∧ binOp .neq t .nilIface .nilIface = (do pure (.bool (!(← Op.equal t .nilIface .nilIface)))) := ⟨rfl, rfl⟩
    simp only [Sem.run_bind, Sem.run_pure, Result.andThen_ok, h2.1, h2.2, Op.equal, Op.maxDepth, h1]
    exact ⟨_, rfl, by simp [vrel]⟩
theorem isNe_mem {n c : Nat} : ∀ {l : List (Nat × Nat)}, isNe n c l = true → (n, c) ∈ l
  | [], e => by simp [isNe] at e
  | p :: l, e => by
    have e' : (Bool.rec (isNe n c l) (Bool.rec (isNe n c l) true (Nat.beq p.2 c)) (Nat.beq p.1 n) : Bool) = true := e
    cases h1 : Nat.beq p.1 n with
    | false => rw [h1] at e'; exact List.mem_cons_of_mem _ (isNe_mem e')
    | true =>
      rw [h1] at e'
      cases h2 : Nat.beq p.2 c with
      | false => rw [h2] at e'; exact List.mem_cons_of_mem _ (isNe_mem e')
      | true =>
        have : p = (n, c) := by rw [← nbeq_iff.1 h1, ← nbeq_iff.1 h2]
        rw [this]; simp
theorem bytes_ne {a b : ByteArray} (h : a ≠ b) : (a.toList == b.toList) = false := by
  rw [Bool.eq_false_iff]
  intro e
  rw [beq_iff_eq, bytes_toList, bytes_toList] at e
  have : a.data = b.data := Array.toList_inj.1 e
  apply h
  cases a; cases b
  simpa using this
theorem ostrOp_sound {op : BinOp} {t : TypeId} {i n c : Nat} {v : AV} {a b : ByteArray} (hc : c < 256 ^ n) (hab : (a = Tab.str i ∧ b = strOf n c) ∨ (b = Tab.str i ∧ a = strOf n c)) (e : ostrOp op i n c = some v) :
    ∃ v', (binOp op t (.string a) (.string b)).run P w = .ok v' w ∧ vrel μ v v' := by
  have hne : isNe n c (Tab.ne i) = true → a ≠ b := by
    intro h
    have := Tab.ok i (n, c) (isNe_mem h) hc
    rcases hab with ⟨rfl, rfl⟩ | ⟨rfl, rfl⟩
    · exact this
    · exact fun e => this e.symm
  cases op <;> simp only [ostrOp] at e <;> first
    | (simp at e; done)
    | (obtain ⟨h1, e⟩ := ifb_some e
       cases e
       refine ⟨_, by simp only [binOp, Op.stringOp, bytes_ne (hne h1)]; rfl, ?_⟩
       simp [vrel])
theorem bytes_beqL (a b : ByteArray) : (a.toList == b.toList) = true ↔ a = b := by
  constructor
  · intro h
    by_cases hab : a = b
    · exact hab
    · rw [bytes_ne hab] at h; cases h
  · intro h; rw [h, beq_iff_eq]
theorem tEq4 {x y : AV} {e : Bool} {xv yv : Value} (hx : vrel μ x xv) (hy : vrel μ y yv) (h : ob (findT 4 [x, y] Tab.tr) boolOf = some e) : ∃ a b, xv = .string a ∧ yv = .string b ∧ (e = true ↔ a = b) := by
  obtain ⟨v, hv, h⟩ := ob_some h
  obtain ⟨a, b, e', h1, h2, h3, h4⟩ := findT_ok hv
  rw [boolOf_some h] at h3
  cases h3
  exact ⟨a, b, denS_rel h1 hx, denS_rel h2 hy, h4⟩
theorem tEq_sound {x y : AV} {e : Bool} {xv yv : Value} (hx : vrel μ x xv) (hy : vrel μ y yv) (h : tEq x y = some e) : ∃ a b, xv = .string a ∧ yv = .string b ∧ (e = true ↔ a = b) := by
  unfold tEq at h
  split at h
  · rename_i i n c
    cases hn : isNe n c (Tab.ne i) with
    | false => rw [hn] at h; exact tEq4 hx hy h
    | true =>
      rw [hn] at h
      cases h
      simp only [vrel] at hx hy
      obtain ⟨hc, rfl⟩ := hy
      exact ⟨_, _, hx, rfl, by simpa using Tab.ok i (n, c) (isNe_mem hn) hc⟩
  · rename_i n c i
    cases hn : isNe n c (Tab.ne i) with
    | false => rw [hn] at h; exact tEq4 hx hy h
    | true =>
      rw [hn] at h
      cases h
      simp only [vrel] at hx hy
      obtain ⟨hc, rfl⟩ := hx
      exact ⟨_, _, rfl, hy, by simpa using fun h => Tab.ok i (n, c) (isNe_mem hn) hc h.symm⟩
  · exact tEq4 hx hy h
  · cases h
theorem tbin_sound {op : BinOp} {t : TypeId} {x y v : AV} {xv yv : Value} (hx : vrel μ x xv) (hy : vrel μ y yv) (e : tbin op x y = some v) :
    ∃ a b v', xv = .string a ∧ yv = .string b ∧ (binOp op t (.string a) (.string b)).run P w = .ok v' w ∧ vrel μ v v' := by
  cases op <;> simp only [tbin] at e <;> first | (simp at e; done) | skip
  · obtain ⟨a, b, h1, h2, h3, h4⟩ := findT_ok e
    refine ⟨a, b, .string (a ++ b), denS_rel h1 hx, denS_rel h2 hy, ?_, denS_mk h4⟩
    simp only [binOp, Op.stringOp]
    rw [if_neg (by rw [IntKind.max_i64]; omega)]
    rfl
  case lss =>
    obtain ⟨a, b, h1, h2, rfl⟩ := findT_ok e
    exact ⟨a, b, _, denS_rel h1 hx, denS_rel h2 hy, by simp only [binOp, Op.stringOp]; rfl, by simp [vrel]⟩
  all_goals
    obtain ⟨c, hc, e⟩ := ob_some e
    cases e
    obtain ⟨a, b, h1, h2, h3⟩ := tEq_sound hx hy hc
    have hcc : (a.toList == b.toList) = c := by
      rw [Bool.eq_iff_iff, bytes_beqL, h3]
    exact ⟨a, b, _, h1, h2, by simp only [binOp, Op.stringOp, hcc]; rfl, by simp [vrel]⟩
theorem bytes_beq (a b : ByteArray) : ((a == b) = true) ↔ a = b := by
  cases a with
  | mk a =>
  cases b with
  | mk b =>
    have h : ((⟨a⟩ : ByteArray) == ⟨b⟩) = (a == b) := rfl
    rw [h, beq_iff_eq, ByteArray.mk.injEq]
theorem ieq_eq {x y : AV} (h : ieq x y = true) : x = y := by
  unfold ieq at h
  split at h
  · simp only [Bool.and_eq_true, beq_iff_eq] at h
    have h1 := nbeq_iff.1 h.1
    rename_i k _ k' _
    have : k = k' := by cases k <;> cases k' <;> first | rfl | (simp [kcode] at h1)
    rw [this, h.2]
  · rw [nbeq_iff.1 h]
  · simp at h
theorem findB_mem {n : Nat} {x y v : AV} : ∀ {l : List (Nat × AV × AV × AV)}, findB n x y l = some v → (n, x, y, v) ∈ l
  | [], e => by have e' : (none : Option AV) = some v := e; simp at e'
  | r :: l, e => by
    have e' : (Bool.rec (findB n x y l) (Bool.rec (findB n x y l) (Bool.rec (findB n x y l) (some r.2.2.2) (ieq r.2.2.1 y)) (ieq r.2.1 x)) (Nat.beq r.1 n) : Option AV) = some v := e
    have tail : findB n x y l = some v → (n, x, y, v) ∈ r :: l := fun h => List.mem_cons_of_mem _ (findB_mem h)
    cases h1 : Nat.beq r.1 n with
    | false => rw [h1] at e'; exact tail e'
    | true =>
      rw [h1] at e'
      cases h2 : ieq r.2.1 x with
      | false => rw [h2] at e'; exact tail e'
      | true =>
        rw [h2] at e'
        cases h3 : ieq r.2.2.1 y with
        | false => rw [h3] at e'; exact tail e'
        | true =>
          rw [h3] at e'
          have e2 : some r.2.2.2 = some v := e'
          cases e2
          rw [← nbeq_iff.1 h1, ← ieq_eq h2, ← ieq_eq h3]; simp
theorem cellInt {t : TypeId} {k0 : IntKind} {a b : AV} {av bv : Value} {e : Bool} (hd : P.underlying t = some (.int k0)) (ha : vrel μ a av) (hb : vrel μ b bv) (h : ob (findB 9 a b Tab.ib) boolOf = some e) (dep : Nat) (w : World) :
    (Op.equalIn (dep + 1) t av bv).run P w = .ok e w ∧ isAgg? P t = some false := by
  obtain ⟨v, hv, h⟩ := ob_some h
  obtain ⟨k, x, k', y, v', h1, h2, h3, h4⟩ := Tab.ibok _ (findB_mem hv) .eql rfl
  rw [den_rel h1 ha, den_rel h2 hb]
  have h3 : ifb (Nat.beq (kcode k) (kcode k')) (some (AV.bool (x == y))) = some v' := h3
  obtain ⟨hk, h3⟩ := ifb_some h3
  cases h3
  rw [boolOf_some h] at h4
  have h4 : AV.bool e = .bool (x == y) := h4
  cases h4
  have : k = k' := by have := Nat.eq_of_beq_eq_true hk; revert this; cases k <;> cases k' <;> simp [kcode]
  subst this
  exact ⟨by simp [Op.equalIn, run_underlying hd], by unfold isAgg?; rw [hd]; rfl⟩
theorem cellStr {t : TypeId} {a b : ByteArray} {e : Bool} (hd : P.underlying t = some .string) (h : e = true ↔ a = b) (dep : Nat) (w : World) :
    (Op.equalIn (dep + 1) t (.string a) (.string b)).run P w = .ok e w ∧ isAgg? P t = some false := by
  refine ⟨?_, by unfold isAgg?; rw [hd]; rfl⟩
  simp only [Op.equalIn, Sem.run_bind, run_underlying hd, Result.andThen_ok, Sem.run_pure]
  congr 1
  rw [Bool.eq_iff_iff, h, bytes_beq]
theorem cellEq_sound {t : TypeId} {d : TypeDesc} {a b : AV} {av bv : Value} {e : Bool} (hd : P.underlying t = some d) (ha : vrel μ a av) (hb : vrel μ b bv) (h : cellEq d a b = some e) (dep : Nat) (w : World) :
    (Op.equalIn (dep + 1) t av bv).run P w = .ok e w ∧ isAgg? P t = some false := by
  unfold cellEq at h
  split at h
  · cases h
    simp only [vrel] at ha hb
    subst ha hb
    exact ⟨by simp [Op.equalIn, run_underlying hd], by unfold isAgg?; rw [hd]; rfl⟩
  · obtain ⟨hk, h⟩ := ifb_some h
    cases h
    simp only [vrel] at ha hb
    subst ha hb
    rename_i k x k' y
    have : k = k' := by have := Nat.eq_of_beq_eq_true hk; revert this; cases k <;> cases k' <;> simp [kcode]
    subst this
    exact ⟨by simp [Op.equalIn, run_underlying hd], by unfold isAgg?; rw [hd]; rfl⟩
  · cases h
    simp only [vrel] at ha hb
    obtain ⟨hc, rfl⟩ := ha
    obtain ⟨hc', rfl⟩ := hb
    refine ⟨?_, by unfold isAgg?; rw [hd]; rfl⟩
    simp only [Op.equalIn, Sem.run_bind, run_underlying hd, Result.andThen_ok, Sem.run_pure]
    congr 1
    rw [Bool.eq_iff_iff, strEq_iff hc hc', bytes_beq]
  · rename_i k0 i j
    cases hij : Nat.beq i j with
    | false => rw [hij] at h; exact cellInt hd ha hb h dep w
    | true =>
      rw [hij] at h
      cases h
      have := nbeq_iff.1 hij
      subst this
      simp only [vrel] at ha hb
      subst ha hb
      exact ⟨by simp [Op.equalIn, run_underlying hd], by unfold isAgg?; rw [hd]; rfl⟩
  · exact cellInt hd ha hb h dep w
  · exact cellInt hd ha hb h dep w
  · rename_i i j
    cases hij : Nat.beq i j with
    | false =>
      rw [hij] at h
      obtain ⟨x, y, rfl, rfl, h3⟩ := tEq_sound ha hb h
      exact cellStr hd h3 dep w
    | true =>
      rw [hij] at h
      cases h
      have := nbeq_iff.1 hij
      subst this
      simp only [vrel] at ha hb
      subst ha hb
      exact cellStr hd (by simp) dep w
  · obtain ⟨x, y, rfl, rfl, h3⟩ := tEq_sound ha hb h
    exact cellStr hd h3 dep w
  · obtain ⟨x, y, rfl, rfl, h3⟩ := tEq_sound ha hb h
    exact cellStr hd h3 dep w
  · cases h
theorem part_atom {t : TypeId} {cs : List Value} {o : Nat} {v : Value} (ha : isAgg? P t = some false) (hv : cs[o]? = some v) (w : World) : (part t ⟨cs⟩ o).run P w = .ok v w := by
  have : (⟨cs⟩ : Array Value)[o]? = some v := by simpa using hv
  simp [part, run_isAgg ha, this]
theorem fieldsEq_sound {xs ys : List AV} {xv yv : List Value} (hx : vrels μ xs xv) (hy : vrels μ ys yv) (dep : Nat) (w : World) : ∀ {fs : List Field} {e : Bool}, fieldsEq P xs ys fs = some e →
    Sem.run P (forIn fs ((none : Option Bool), ()) fun f __s =>
            if f.name = "_" then pure (ForInStep.yield (none, ()))
            else do
              let __do_lift ← part f.type ⟨xv⟩ f.offset
              let __do_lift_1 ← part f.type ⟨yv⟩ f.offset
              let __do_lift ← Op.equalIn (dep + 1) f.type __do_lift __do_lift_1
              if __do_lift = false then pure (ForInStep.done (some false, ())) else pure (ForInStep.yield (none, ()))) w = .ok (if e then (none, ()) else (some false, ())) w
  | [], e, h => by
    have h' : some true = some e := h
    cases h'
    simp
  | f :: fs, e, h => by
    obtain ⟨hn, h⟩ := ifb_some h
    have h : ob (P.underlying f.type) (fun d => ob xs[f.offset]? fun a => ob ys[f.offset]? fun b => ob (cellEq d a b) fun e => Bool.rec (some false) (fieldsEq P xs ys fs) e) = some e := h
    obtain ⟨d, hd, h⟩ := ob_some h
    obtain ⟨a, ha, h⟩ := ob_some h
    obtain ⟨b, hb, h⟩ := ob_some h
    obtain ⟨c, hc, h⟩ := ob_some h
    obtain ⟨av, ha1, ha2⟩ := vrels_get hx ha
    obtain ⟨bv, hb1, hb2⟩ := vrels_get hy hb
    obtain ⟨k1, k2⟩ := cellEq_sound hd ha2 hb2 hc dep w
    have hn' : ¬ f.name = "_" := by simpa using hn
    simp only [List.forIn_cons, if_neg hn', Sem.run_bind, part_atom k2 ha1, part_atom k2 hb1, Result.andThen_ok, k1]
    cases c with
    | false =>
      have h : some false = some e := h
      cases h
      simp
    | true =>
      have h : fieldsEq P xs ys fs = some e := h
      have ih := fieldsEq_sound hx hy dep w h
      simp
      simpa using ih
theorem aggEq_sound {op : BinOp} {t : TypeId} {xo yo : Operand} {xs ys : List AV} {v : AV} {xv yv : List Value} (hx : vrels μ xs xv) (hy : vrels μ ys yv) (e : aggEq P op t xs ys = some v) (w : World) :
    ∃ v', (do eqGuard op t xo yo (.agg ⟨xv⟩) (.agg ⟨yv⟩); binOp op t (.agg ⟨xv⟩) (.agg ⟨yv⟩) : Sem Value).run P w = .ok v' w ∧ vrel μ v v' := by
  cases op <;> simp only [aggEq] at e <;> first | (simp at e; done) | skip
  all_goals
    obtain ⟨d, hd, e⟩ := ob_some e
    cases d <;> simp only at e <;> first | (simp at e; done) | skip
    rename_i fs
    obtain ⟨hg, e⟩ := ifb_some e
    obtain ⟨b, hb, e⟩ := ob_some e
    cases e
    simp only [Bool.and_eq_true, Bool.not_eq_true'] at hg
    have hq0 : ∀ dep, (Op.equalIn (dep + 1 + 1) t (.agg ⟨xv⟩) (.agg ⟨yv⟩)).run P w = .ok b w := fun dep => by
      have hl := fieldsEq_sound hx hy dep w hb
      rw [Op.equalIn]
      simp only [Sem.run_bind, run_underlying hd, Result.andThen_ok]
      simp [hg.1]
      rw [← Array.forIn_toList, hl]
      cases b <;> simp
    have hq : (Op.equal t (.agg ⟨xv⟩) (.agg ⟨yv⟩)).run P w = .ok b w := hq0 9998
    first
      | (refine ⟨.bool b, ?_, by simp [vrel]⟩
         simp [eqGuard, hg.2, binOp, hq]
         done)
      | (refine ⟨.bool (!b), ?_, by simp [vrel]⟩
         simp [eqGuard, hg.2, binOp, hq]
         done)
theorem findC_mem {k : IntKind} {x v : AV} : ∀ {l : List (IntKind × AV × AV)}, findC k x l = some v → (k, x, v) ∈ l
  | [], e => by have e' : (none : Option AV) = some v := e; simp at e'
  | r :: l, e => by
    have e' : (Bool.rec (findC k x l) (Bool.rec (findC k x l) (some r.2.2) (ieq r.2.1 x)) (Nat.beq (kcode r.1) (kcode k)) : Option AV) = some v := e
    have tail : findC k x l = some v → (k, x, v) ∈ r :: l := fun h => List.mem_cons_of_mem _ (findC_mem h)
    cases h1 : Nat.beq (kcode r.1) (kcode k) with
    | false => rw [h1] at e'; exact tail e'
    | true =>
      rw [h1] at e'
      cases h2 : ieq r.2.1 x with
      | false => rw [h2] at e'; exact tail e'
      | true =>
        rw [h2] at e'
        have e2 : some r.2.2 = some v := e'
        cases e2
        have h3 := nbeq_iff.1 h1
        have : r.1 = k := by cases hr : r.1 <;> cases k <;> first | rfl | (rw [hr] at h3; simp [kcode] at h3)
        rw [← this, ← ieq_eq h2]; simp
theorem findU_mem {n : Nat} {x v : AV} : ∀ {l : List (Nat × AV × AV)}, findU n x l = some v → (n, x, v) ∈ l
  | [], e => by have e' : (none : Option AV) = some v := e; simp at e'
  | r :: l, e => by
    have e' : (Bool.rec (findU n x l) (Bool.rec (findU n x l) (some r.2.2) (ieq r.2.1 x)) (Nat.beq r.1 n) : Option AV) = some v := e
    have tail : findU n x l = some v → (n, x, v) ∈ r :: l := fun h => List.mem_cons_of_mem _ (findU_mem h)
    cases h1 : Nat.beq r.1 n with
    | false => rw [h1] at e'; exact tail e'
    | true =>
      rw [h1] at e'
      cases h2 : ieq r.2.1 x with
      | false => rw [h2] at e'; exact tail e'
      | true =>
        rw [h2] at e'
        have e2 : some r.2.2 = some v := e'
        cases e2
        rw [← nbeq_iff.1 h1, ← ieq_eq h2]; simp
theorem out_mk {v c : AV} {u : Value} (h : outI Tab.iv v c) (hu : vrel μ c u) : vrel μ v u := by
  unfold outI at h
  split at h
  · rw [h]; exact hu
  · simp only [vrel] at hu; rw [hu]; exact den_mk h
  · exact h.elim
theorem findB_sound {op : BinOp} {t : TypeId} {xo yo : Operand} {x y v : AV} {xv yv : Value} (hx : vrel μ x xv) (hy : vrel μ y yv) (e : findB (bcode op) x y Tab.ib = some v) :
    ∃ v', (do eqGuard op t xo yo xv yv; binOp op t xv yv : Sem Value).run P w = .ok v' w ∧ vrel μ v v' := by
  obtain ⟨k, a, k', b, c, h1, h2, h3, h4⟩ := Tab.ibok _ (findB_mem e) op rfl
  rw [den_rel h1 hx, den_rel h2 hy]
  obtain ⟨v', g1, g2⟩ := intBin_sound (P := P) (w := w) (μ := μ) (t := t) (x := xo) (y := yo) h3
  exact ⟨v', g1, out_mk h4 g2⟩
theorem bin_sound (r : HR B w0 μ h w) {op : BinOp} {t : TypeId} {xo yo : Operand} {x y v : AV} {xv yv : Value} (hx : vrel μ x xv) (hy : vrel μ y yv) (e : bin? P h op t (isConst xo || isConst yo) x y = some v) :
    OkQ P μ w (do eqGuard op t xo yo xv yv; binOp op t xv yv) v := by
  have : ∃ v', (do eqGuard op t xo yo xv yv; binOp op t xv yv : Sem Value).run P w = .ok v' w ∧ vrel μ v v' := by
    unfold bin? at e
    split at e
    · simp only [vrel] at hx hy
      subst hx hy
      exact intBin_sound e
    · simp only [vrel] at hx hy
      obtain ⟨hc, rfl⟩ := hx
      obtain ⟨hd, rfl⟩ := hy
      rw [eqGuard_str]
      simp only [Sem.run_bind, Sem.run_pure, Result.andThen_ok]
      exact strOp_sound hc hd e
    · rcases orE_some e with e | ⟨_, e⟩
      · simp only [vrel] at hx hy
        subst hx
        obtain ⟨hd, rfl⟩ := hy
        rw [eqGuard_str]
        simp only [Sem.run_bind, Sem.run_pure, Result.andThen_ok]
        exact ostrOp_sound hd (.inl ⟨rfl, rfl⟩) e
      · obtain ⟨a, b, v', rfl, rfl, h1, h2⟩ := tbin_sound (P := P) (w := w) (t := t) hx hy e
        rw [eqGuard_str]
        simp only [Sem.run_bind, Sem.run_pure, Result.andThen_ok]
        exact ⟨v', h1, h2⟩
    · rcases orE_some e with e | ⟨_, e⟩
      · simp only [vrel] at hx hy
        subst hy
        obtain ⟨hd, rfl⟩ := hx
        rw [eqGuard_str]
        simp only [Sem.run_bind, Sem.run_pure, Result.andThen_ok]
        exact ostrOp_sound hd (.inr ⟨rfl, rfl⟩) e
      · obtain ⟨a, b, v', rfl, rfl, h1, h2⟩ := tbin_sound (P := P) (w := w) (t := t) hx hy e
        rw [eqGuard_str]
        simp only [Sem.run_bind, Sem.run_pure, Result.andThen_ok]
        exact ⟨v', h1, h2⟩
    · obtain ⟨a, b, v', rfl, rfl, h1, h2⟩ := tbin_sound (P := P) (w := w) (t := t) hx hy e
      rw [eqGuard_str]
      simp only [Sem.run_bind, Sem.run_pure, Result.andThen_ok]
      exact ⟨v', h1, h2⟩
    · simp only [vrel] at hx hy
      subst hx hy
      exact niliEq_sound e
    · simp only [vrel] at hx hy
      obtain ⟨xs', rfl, hx⟩ := hx
      obtain ⟨ys', rfl, hy⟩ := hy
      exact aggEq_sound hx hy e w
    · exact findB_sound hx hy e
    · exact findB_sound hx hy e
    · exact eqOp_sound r hx hy e
  obtain ⟨v', h1, h2⟩ := this
  exact .same r h1 h2
theorem un_sound (r : HR B w0 μ h w) {op : UnOp} {x v : AV} {xv : Value} (hx : vrel μ x xv) (e : un? op x = some v) : OkQ P μ w (Op.unary op xv) v := by
  unfold un? at e
  split at e
  · obtain ⟨k, n, c, h1, h2, h3⟩ := Tab.iuok _ (findU_mem e) op rfl
    rw [den_rel h1 hx]
    cases op <;> simp only [unI] at h2 <;> first | (simp at h2; done) | skip
    all_goals
      cases h2
      refine .same r (v' := _) (by simp only [Op.unary, Op.intArith, Op.intBits]; rfl) (out_mk h3 (by simp [vrel]))
  all_goals first | (simp at e; done) | skip
  all_goals
    cases e
    simp only [vrel] at hx
    subst hx
    refine .same r (v' := _) (by simp only [Op.unary, Op.intArith, Op.intBits]; rfl) (by simp [vrel])
end Go.X
set_option linter.unusedVariables false
set_option linter.unusedSimpArgs false
set_option linter.unusedSectionVars false
namespace Go.X
open Go.RowKit
variable [Tab]
variable {P : Program} {B : Kp} {w0 : World} {μ : M} {h h' : H} {w w' : World}
theorem u8_some {e : TypeId} (hu : u8? P e = true) : P.underlying e = some (.int .u8) := by
  unfold u8? at hu
  cases hd : P.underlying e with
  | none => rw [hd] at hu; simp at hu
  | some d =>
    rw [hd] at hu
    cases d <;> simp [isU8] at hu
    rename_i k
    cases k <;> simp [isU8] at hu
    rfl
theorem cellBytes_sound : ∀ {l : List AV} {vs : List Value} {c : Nat}, cellBytes l = some c → vrels μ l vs → ∃ ns : List Nat, vs = ns.map (fun (n : Nat) => Value.int .u8 (n : Int)) ∧ ns.length = l.length ∧ ns = dec l.length c ∧ c < 256 ^ l.length
  | [], vs, c, e, hv => by
    simp only [vrels] at hv; subst hv
    have e' : some 0 = some c := e
    cases e'
    exact ⟨[], rfl, rfl, rfl, by simp⟩
  | a :: l, vs, c, e, hv => by
    simp only [vrels] at hv
    obtain ⟨v, r, rfl, h1, h2⟩ := hv
    have e' : ob (cellByte a) (fun n => ob (cellBytes l) fun r => some (n + 256 * r)) = some c := e
    obtain ⟨n, hn, e'⟩ := ob_some e'
    obtain ⟨c', hc', e'⟩ := ob_some e'
    cases e'
    obtain ⟨ns, g1, g2, g3, g4⟩ := cellBytes_sound hc' h2
    have ha : a = .int .u8 (n : Int) ∧ n < 256 := by
      unfold cellByte at hn
      split at hn
      · obtain ⟨k1, k2⟩ := ifb_some hn
        cases k2
        exact ⟨rfl, blt_iff.1 k1⟩
      · simp at hn
    obtain ⟨rfl, hlt⟩ := ha
    simp only [vrel] at h1
    subst h1
    refine ⟨n :: ns, by simp [g1], by simp [g2], ?_, ?_⟩
    · simp only [List.length_cons, dec]
      have e1 : (n + 256 * c') % 256 = n := by omega
      have e2 : (n + 256 * c') / 256 = c' := by omega
      rw [e1, e2, ← g3]
    · simp only [List.length_cons, Nat.pow_succ]; omega
theorem foldl_push : ∀ (ns : List Nat) (s : ByteArray), ((ns.map fun (n : Nat) => (n : Int)).foldl (fun r n => r.push (UInt8.ofNat n.toNat)) s) = ⟨⟨s.data.toList ++ ns.map UInt8.ofNat⟩⟩
  | [], s => by simp
  | n :: ns, s => by
    simp only [List.map_cons, List.foldl_cons]
    rw [foldl_push ns]
    simp [ByteArray.push]
theorem bytesString_sound (r : HR B w0 μ h w) {v : AV} {x : Value} {p : Nat × Nat} (hv : vrel μ v x) (e : bytesOfSlice h v = some p) :
    (Conv.bytesToString x).run P w = .ok (.string (strOf p.1 p.2)) w ∧ p.2 < 256 ^ p.1 := by
  have key : ∀ (y o n : Nat) (l : Loc) (cap : Nat), μ y = some l → (ob (h.loads y o n) fun l => ob (cellBytes l) fun c => some (n, c)) = some p →
      (Conv.bytesToString (.slice (some ⟨l.block, l.base + o, none⟩) n cap)).run P w = .ok (.string (strOf p.1 p.2)) w ∧ p.2 < 256 ^ p.1 := by
    intro y o n l cap hl e
    obtain ⟨as, has, e⟩ := ob_some e
    obtain ⟨c, hc, e⟩ := ob_some e
    cases e
    obtain ⟨vs, h1, h2, h3⟩ := r.loads hl n o as has
    obtain ⟨ns, g1, g2, g3, g4⟩ := cellBytes_sound hc h1
    have hlen : as.length = n := by rw [← vrels_length h1]; exact h2
    rw [hlen] at g3 g4
    have hcells := cell_loads (P := P) h2 h3
    refine ⟨?_, g4⟩
    rw [run_bytesToString w ⟨l.block, l.base + o, none⟩ n cap (ns.map fun (n : Nat) => (n : Int)) (by rw [hcells, g1]; simp)]
    rw [foldl_push]
    simp [strOf, g3]
  cases v with
  | nils =>
    simp only [vrel] at hv; subst hv
    simp only [bytesOfSlice] at e; cases e
    exact ⟨by simp [Conv.bytesToString, strOf, dec]; rfl, by simp⟩
  | sl y o n c =>
    simp only [vrel] at hv
    obtain ⟨l, hl, rfl⟩ := hv
    exact key y o n l c hl e
  | so y o n z =>
    simp only [vrel] at hv
    obtain ⟨l, cap, hl, _, _, rfl⟩ := hv
    exact key y o n l cap hl e
  | _ => simp [bytesOfSlice] at e
theorem rowT_sound (r : HR B w0 μ h w) {v u : AV} {x : Value} (hv : vrel μ v x) (e : (ob (rowCells h v) fun l => findT 6 l Tab.tr) = some u) :
    ∃ b n c s, x = .slice b n c ∧ (Conv.bytesToString x).run P w = .ok (.string s) w ∧ vrel μ u (.string s) := by
  obtain ⟨as, has, e⟩ := ob_some e
  obtain ⟨ns, h1, h2⟩ := findT_ok e
  have key : ∀ (y o n : Nat) (l : Loc) (cap : Nat), μ y = some l → h.loads y o n = some as →
      (Conv.bytesToString (.slice (some ⟨l.block, l.base + o, none⟩) n cap)).run P w = .ok (.string ⟨⟨ns⟩⟩) w := by
    intro y o n l cap hl e
    obtain ⟨vs, g1, g2, g3⟩ := r.loads hl n o as e
    have hcells := cell_loads (P := P) g2 g3
    have hvs : vs = (ns.map fun b => (b.toNat : Int)).map (Value.int .u8) := by
      have := dens_fun h1 g1
      rw [this]; simp
    rw [run_bytesToString w ⟨l.block, l.base + o, none⟩ n cap (ns.map fun b => (b.toNat : Int)) (by rw [hcells, hvs])]
    have hf := foldl_push (ns.map UInt8.toNat) ByteArray.empty
    simp only [List.map_map] at hf
    have e1 : ((fun (n : Nat) => (n : Int)) ∘ UInt8.toNat) = fun (b : UInt8) => (b.toNat : Int) := rfl
    have e2 : (UInt8.ofNat ∘ UInt8.toNat) = id := by funext b; simp
    rw [e1, e2] at hf
    rw [hf]
    simp
  cases v with
  | sl y o n c =>
    simp only [vrel] at hv
    obtain ⟨l, hl, rfl⟩ := hv
    exact ⟨_, _, _, _, rfl, key y o n l c hl has, denS_mk h2⟩
  | so y o n z =>
    simp only [vrel] at hv
    obtain ⟨l, cap, hl, _, _, rfl⟩ := hv
    exact ⟨_, _, _, _, rfl, key y o n l cap hl has, denS_mk h2⟩
  | _ => simp [rowCells] at has
theorem findVT_some {i j t : Nat} : ∀ {l : List (Nat × Nat × Nat)}, findVT i j l = some t → (i, j, t) ∈ l
  | [], e => by have e' : (none : Option Nat) = some t := e; cases e'
  | r :: l, e => by
    have e' : (@Bool.rec (fun _ => Option Nat) (findVT i j l) (@Bool.rec (fun _ => Option Nat) (findVT i j l) (some r.2.2) (Nat.beq r.2.1 j)) (Nat.beq r.1 i)) = some t := e
    cases h1 : Nat.beq r.1 i with
    | false => rw [h1] at e'; exact List.mem_cons_of_mem _ (findVT_some e')
    | true =>
    cases h2 : Nat.beq r.2.1 j with
    | false => rw [h1, h2] at e'; exact List.mem_cons_of_mem _ (findVT_some e')
    | true =>
      rw [h1, h2] at e'
      cases e'
      rw [← nbeq_iff.1 h1, ← nbeq_iff.1 h2]
      exact List.mem_cons_self
theorem vecT_sound (r : HR B w0 μ h w) {v u : AV} {x : Value} (hv : vrel μ v x) (e : vecT h v = some u) :
    ∃ b n c s, x = .slice b n c ∧ (Conv.bytesToString x).run P w = .ok (.string s) w ∧ vrel μ u (.string s) := by
  cases v <;> simp only [vecT] at e <;> first | (cases e; done) | skip
  case ov y j z =>
    obtain ⟨hz, e⟩ := ifb_some e
    obtain ⟨bl, hbl, e⟩ := ob_some e
    obtain ⟨i, hi, e⟩ := ob_some e
    obtain ⟨t, ht, e⟩ := ob_some e
    cases e
    have hz := nbeq_iff.1 hz
    subst hz
    have hb : bl = .vec i := by cases bl <;> simp [vecOf] at hi; rw [hi]
    subst hb
    obtain ⟨o1, o2, o3⟩ := Tab.vtok _ (findVT_some ht)
    simp only at o1 o2 o3
    simp only [vrel] at hv
    obtain ⟨_, l, c, hl, hmc, htot, rfl⟩ := hv
    obtain ⟨l', hl', _, _, arr, el, fz, g1, g2, g3, g4, g5⟩ := r.blk y _ hbl
    rw [hl] at hl'; cases hl'
    generalize hn : (Tab.iv j).2.toNat = n at o2 hmc ⊢
    have hcells : (loadCells ⟨l.block, l.base, none⟩ n).run P w = .ok ⟨((Tab.str t).data.toList.map fun b => (b.toNat : Int)).map (Value.int .u8)⟩ w := by
      refine cell_loads (l := l) (o := 0) (by simp only [List.length_map]; exact o2) fun k hk => ?_
      rw [← o2] at hk
      have hx : (Tab.str t).data.toList[k]? = some (Tab.str t).data.toList[k] := List.getElem?_eq_getElem hk
      obtain ⟨v, v1, v2⟩ := g5 k _ (o3 k _ hx)
      simp only [vrel] at v2
      subst v2
      rw [List.getElem?_map, List.getElem?_map, hx]
      show w.cell? ⟨l.block, l.base + 0 + k, none⟩ = _
      simp only [World.cell?, g1, Nat.add_zero, v1]
      rfl
    refine ⟨_, _, _, Tab.str t, rfl, ?_, by simp only [vrel]⟩
    rw [run_bytesToString w ⟨l.block, l.base, none⟩ n c ((Tab.str t).data.toList.map fun b => (b.toNat : Int)) hcells]
    have hf := foldl_push ((Tab.str t).data.toList.map UInt8.toNat) ByteArray.empty
    simp only [List.map_map] at hf
    have e1 : ((fun (n : Nat) => (n : Int)) ∘ UInt8.toNat) = fun (b : UInt8) => (b.toNat : Int) := rfl
    have e2 : (UInt8.ofNat ∘ UInt8.toNat) = id := by funext b; simp
    rw [e1, e2] at hf
    rw [hf]
    simp
theorem bytesT_sound (r : HR B w0 μ h w) {v u : AV} {x : Value} (hv : vrel μ v x) (e : bytesT h v = some u) :
    ∃ b n c s, x = .slice b n c ∧ (Conv.bytesToString x).run P w = .ok (.string s) w ∧ vrel μ u (.string s) := by
  unfold bytesT at e
  cases h1 : (ob (rowCells h v) fun l => findT 6 l Tab.tr) with
  | some q => rw [h1] at e; cases e; exact rowT_sound r hv h1
  | none => rw [h1] at e; exact vecT_sound r hv e
theorem freeze_end (w : World) (c : Nat) (arr : Array Value) (e : TypeId) (hw : w.heap[c]? = some (.cells arr e (0, 0))) :
    (w.freeze ⟨c, arr.size, none⟩ 1).heap[c]? = some (.cells arr e (arr.size, arr.size + 1)) ∧ ∀ k, k ≠ c → (w.freeze ⟨c, arr.size, none⟩ 1).heap[k]? = w.heap[k]? := by
  constructor
  · simp [World.freeze, Array.getElem?_modify, hw]
  · intro k hk
    show (w.heap.modify c _)[k]? = _
    rw [Array.getElem?_modify, if_neg (fun e => hk e.symm)]
theorem marked_sound (r : HR B w0 μ h w) {x o n c : Nat} {e e' : TypeId} {src dst : TypeId} {xv : Value} {b b' : Blk} {s : TypeDesc} (hse : asSlice s = some e') (hs : P.underlying src = some s) (hd : P.underlying dst = some (.slice e)) (hu : P.underlying e = some (.int .u8)) (hsd : src = dst)
    (hx : vrel μ (.sl x o n c) xv) (hlim : x < limit) (hb : h.get x = some b) (hm : marked b = some b') : OkV P B w0 μ w (convert src dst xv) (.sl x o n c) (h.put x b') := by
  have hx' := hx
  simp only [vrel] at hx
  obtain ⟨l, hl, rfl⟩ := hx
  cases b <;> simp only [marked] at hm <;> first | (simp at hm; done) | skip
  rename_i m p z t
  cases p <;> simp only at hm <;> first | (simp at hm; done) | skip
  cases hm
  obtain ⟨l', hl', _, _, hr⟩ := r.blk x _ hb
  rw [hl] at hl'; cases hl'
  obtain ⟨arr, el, fz, g1, g2, g3, g4, g5, g6⟩ := hr
  have hfz := g5 rfl
  subst hfz
  obtain ⟨f1, f2⟩ := freeze_end w l.block arr el g1
  have hs' : s = .slice e' := by cases s <;> simp [asSlice] at hse; rw [hse]
  subst hs'
  refine ⟨.slice (some ⟨l.block, l.base + o, none⟩) n c, w.freeze ⟨l.block, arr.size, none⟩ 1, μ, ?_, Ext.refl _, hx', ?_⟩
  · have hshape : w.shape? l.block = some (el, arr.size) := by simp [World.shape?, g1]
    have hbeq : (src == dst) = true := by rw [hsd]; exact beq_self_eq_true _
    simp only [convert, Sem.run_bind, run_underlying hs, run_underlying hd, Result.andThen_ok, run_underlying hu, hbeq, markStringish, run_shape, Sem.run_pure]
    change ((Sem.run P (match World.shape? w l.block with | some (_, n) => freeze { block := l.block, off := n } 1 | _ => pure ()) w).andThen fun _ w' => Result.ok (Value.slice (some { block := l.block, off := l.base + o }) n c) w') = _
    rw [hshape]
    rfl
  · refine r.upd hb hl rfl rfl (by unfold limit at hlim; omega) ⟨by simp only [World.freeze]; rfl, by simp only [World.freeze]; rfl, by simp only [World.freeze]; rfl, by simp [World.freeze], f2⟩ ?_
    exact ⟨arr, el, _, f1, g2, fun i hi => by simp; omega, g4, fun e => by simp at e, g6⟩
theorem conv_sound (r : HR B w0 μ h w) {src dst : TypeId} {a : AV} {x : Value} {p : AV × H} (hx : vrel μ a x) (e : conv? P src dst h a = some p) :
    OkV P B w0 μ w (convert src dst x) p.1 p.2 := by
  obtain ⟨s, hs, e⟩ := ob_some e
  obtain ⟨d, hd, e⟩ := ob_some e
  cases d <;> simp only at e <;> first | (simp at e; done) | skip
  case int k =>
    unfold convInt at e
    split at e
    · cases e
      simp only [vrel] at hx; subst hx
      refine .same r (by simp [convert, run_underlying hs, run_underlying hd, Conv.intToInt]; rfl) (by simp [vrel, wrapF_eq])
    · obtain ⟨v, hv, e⟩ := ob_some e
      cases e
      obtain ⟨k', n, h1, h2⟩ := Tab.icok _ (findC_mem hv)
      rw [den_rel h1 hx]
      exact .same r (by simp [convert, run_underlying hs, run_underlying hd, Conv.intToInt]) (den_mk h2)
    · simp at e
  case string =>
    unfold convStr at e
    split at e
    · cases e
      simp only [vrel] at hx
      obtain ⟨hc, rfl⟩ := hx
      exact .same r (by simp [convert, run_underlying hs, run_underlying hd]; rfl) (by simp only [vrel]; exact ⟨hc, trivial⟩)
    · cases e
      simp only [vrel] at hx; subst hx
      refine .same r (v' := .string (Utf8.encode _)) (by simp [convert, run_underlying hs, run_underlying hd, Conv.intToString]; rfl) ?_
      exact vrel_string _
    · rename_i e' hns hni
      obtain ⟨hu, e⟩ := ifb_some e
      obtain ⟨q', hq', e⟩ := ob_some e
      cases e
      have hu := u8_some hu
      rcases orE_some hq' with hq' | ⟨_, hq'⟩
      case inr =>
        obtain ⟨b, n, c, s', rfl, g1, g2⟩ := bytesT_sound (P := P) r hx hq'
        exact .same r (v' := .string s') (by simp [convert, run_underlying hs, run_underlying hd, run_underlying hu, g1]) g2
      obtain ⟨q, hq, hq'⟩ := ob_some hq'
      cases hq'
      obtain ⟨h1, h2⟩ := bytesString_sound (P := P) r hx hq
      have hsl : ∃ b n c, x = .slice b n c := by
        cases a <;> simp [bytesOfSlice] at hq <;> simp only [vrel] at hx
        · exact ⟨_, _, _, hx⟩
        · obtain ⟨_, _, rfl⟩ := hx; exact ⟨_, _, _, rfl⟩
        · obtain ⟨_, _, _, _, _, rfl⟩ := hx; exact ⟨_, _, _, rfl⟩
      obtain ⟨b, n, c, rfl⟩ := hsl
      refine .same r (v' := .string (strOf q.1 q.2)) (by simp [convert, run_underlying hs, run_underlying hd, run_underlying hu, h1]) ?_
      simp only [vrel]; exact ⟨h2, trivial⟩
    · cases e
      simp only [vrel] at hx; subst hx
      exact .same r (v' := .string (Tab.str _)) (by simp [convert, run_underlying hs, run_underlying hd]; rfl) (by simp only [vrel])
    · simp at e
  case slice el =>
    cases a with
    | sl y off n c =>
      simp only [convBytes] at e
      obtain ⟨hsd, e⟩ := ifb_some e
      obtain ⟨e', hse, e⟩ := ob_some e
      obtain ⟨hcond, e⟩ := ifb_some e
      obtain ⟨b, hb, e⟩ := ob_some e
      obtain ⟨b', hm, e⟩ := ob_some e
      cases e
      simp only [Bool.and_eq_true] at hcond
      exact marked_sound r hse hs hd (u8_some hcond.1) (nbeq_iff.1 hsd) hx (blt_iff.1 hcond.2) hb hm
    | str n c =>
      simp only [convBytes] at e
      obtain ⟨hcond, e⟩ := ifb_some e
      obtain ⟨q, hq, e⟩ := ob_some e
      cases e
      simp only [Bool.and_eq_true] at hcond
      have hu := u8_some hcond.1
      simp only [vrel] at hx
      obtain ⟨hc, rfl⟩ := hx
      let cap := n + w.tape w.drawn (.appendCap n 0 el) % (2 ^ 63 - n)
      let arr : Array Value := ((strOf n c).data.map fun b => Value.int .u8 (b.toNat : Int)) ++ Array.replicate (cap - n) (.int .u8 0)
      have hbytes : ((strOf n c).data.map fun b => Value.int .u8 (b.toNat : Int)).toList = (dec n c).map fun (b : Nat) => Value.int .u8 (b : Int) := by
        have := bytes_of_str n n c (Nat.le_refl _)
        have hex := ByteArray.extract_zero_size (b := strOf n c)
        rw [strOf_size] at hex
        rwa [hex] at this
      have hsz : arr.size = cap := by
        have h1 : (strOf n c).data.size = n := strOf_size n c
        simp only [arr, Array.size_append, Array.size_map, h1, Array.size_replicate]
        simp only [cap]; omega
      have hlen : (((strOf n c).data.map fun b => Value.int .u8 (b.toNat : Int)).toList).length = n := by rw [hbytes]; simp [dec_length]
      let w1 : World := w.drew.alloc (.cells arr el (0, 0))
      have hw1 : w1.heap[w.heap.size]? = some (.cells arr el (0, 0)) := by show (w.heap.push _)[w.heap.size]? = _; simp
      obtain ⟨f1, f2⟩ := freeze_end w1 w.heap.size arr el hw1
      have hshape : w1.shape? w.heap.size = some (el, arr.size) := by simp [World.shape?, hw1]
      have hbel : Below w.heap.size w (w1.freeze ⟨w.heap.size, arr.size, none⟩ 1) := by
        have hb1 := below_drew_alloc w (.cells arr el (0, 0))
        exact hb1.trans ⟨by simp only [World.freeze]; rfl, by simp only [World.freeze]; rfl, by simp only [World.freeze]; rfl, by simp [World.freeze, w1], fun k hk => f2 k (by omega)⟩
      obtain ⟨hll, hq⟩ := H.row_some hq
      have := r.row (x := q.1) (h' := q.2) (vs := (dec n c).map fun (b : Nat) => Value.int .u8 (b : Int)) (arr := arr) (e := el) (fz := (arr.size, arr.size + 1)) (At.ofAlloc r hq) hll (byteCells_sound n c) hbel f1 (by simp [dec_length]; rw [hsz]; simp only [cap]; omega)
        (fun i hi => by
          simp only [arr]
          rw [Array.getElem?_append_left (by rw [← Array.length_toList, hlen]; simpa [dec_length] using hi), ← Array.getElem?_toList, hbytes]) (fun i hi => by simp; omega) (fun e => by simp at e)
      obtain ⟨k1, k2, k3⟩ := this
      refine ⟨.slice (some ⟨w.heap.size, 0, none⟩) n cap, _, _, ?_, k1, ?_, k3⟩
      · simp only [convert, Sem.run_bind, run_underlying hs, run_underlying hd, Result.andThen_ok, run_underlying hu, Conv.stringToBytes, run_choose, Question.forced, strOf_size, Question.cut]
        simp only [Bool.false_eq_true, if_false, Result.andThen_ok, newRow, Sem.run_bind, run_newObj, Sem.run_pure, markStringish, run_shape]
        change (Sem.run P (match World.shape? w1 w.heap.size with | some (_, n) => freeze { block := w.heap.size, off := n } 1 | _ => pure ()) w1).andThen (fun _ w' => Result.ok (Value.slice (some { block := w.heap.size, off := 0 }) n cap) w') = _
        rw [hshape]
        rfl
      · simp only [vrel]
        exact ⟨_, cap, k2, by simp only [cap]; omega, by simp [hsz], rfl⟩
    | ostr j =>
      simp only [convBytes] at e
      obtain ⟨u, hu7, e⟩ := ob_some e
      obtain ⟨as, hag, e⟩ := ob_some e
      obtain ⟨hcond, e⟩ := ifb_some e
      obtain ⟨q, hq, e⟩ := ob_some e
      cases e
      simp only [Bool.and_eq_true] at hcond
      have hu := u8_some hcond.1
      obtain ⟨bb, r', k1, k2, k3⟩ := findT_ok hu7
      rw [aggOf_some hag] at k2
      cases k2
      have hx := denS_rel k1 hx
      subst hx
      have hsize : as.length = bb.size := by have := congrArg List.length k3; simpa using this
      let n := bb.size
      let cap := n + w.tape w.drawn (.appendCap n 0 el) % (2 ^ 63 - n)
      let arr : Array Value := (bb.data.map fun b => Value.int .u8 (b.toNat : Int)) ++ Array.replicate (cap - n) (.int .u8 0)
      have hbytes : (bb.data.map fun b => Value.int .u8 (b.toNat : Int)).toList = bb.data.toList.map fun b => Value.int .u8 (b.toNat : Int) := by simp
      have hsz : arr.size = cap := by
        have h1 : bb.data.size = n := rfl
        simp only [arr, Array.size_append, Array.size_map, h1, Array.size_replicate]
        simp only [cap]; omega
      have hlen : ((bb.data.map fun b => Value.int .u8 (b.toNat : Int)).toList).length = n := by rw [hbytes]; simp; rfl
      let w1 : World := w.drew.alloc (.cells arr el (0, 0))
      have hw1 : w1.heap[w.heap.size]? = some (.cells arr el (0, 0)) := by show (w.heap.push _)[w.heap.size]? = _; simp
      obtain ⟨f1, f2⟩ := freeze_end w1 w.heap.size arr el hw1
      have hshape : w1.shape? w.heap.size = some (el, arr.size) := by simp [World.shape?, hw1]
      have hbel : Below w.heap.size w (w1.freeze ⟨w.heap.size, arr.size, none⟩ 1) := by
        have hb1 := below_drew_alloc w (.cells arr el (0, 0))
        exact hb1.trans ⟨by simp only [World.freeze]; rfl, by simp only [World.freeze]; rfl, by simp only [World.freeze]; rfl, by simp [World.freeze, w1], fun k hk => f2 k (by omega)⟩
      obtain ⟨hll, hq⟩ := H.row_some hq
      have hvl : (bb.data.toList.map fun b => Value.int .u8 (b.toNat : Int)).length = n := by simp; rfl
      have := r.row (x := q.1) (h' := q.2) (vs := bb.data.toList.map fun b => Value.int .u8 (b.toNat : Int)) (arr := arr) (e := el) (fz := (arr.size, arr.size + 1)) (At.ofAlloc r hq) hll (dens_rels k3) hbel f1 (by rw [hvl, hsz]; simp only [cap]; omega)
        (fun i hi => by
          simp only [arr]
          rw [Array.getElem?_append_left (by rw [← Array.length_toList, hlen]; rw [hvl] at hi; exact hi), ← Array.getElem?_toList, hbytes]) (fun i hi => by simp; omega) (fun e => by simp at e)
      obtain ⟨k1, k2, k3⟩ := this
      refine ⟨.slice (some ⟨w.heap.size, 0, none⟩) n cap, _, _, ?_, k1, ?_, k3⟩
      · simp only [convert, Sem.run_bind, run_underlying hs, run_underlying hd, Result.andThen_ok, run_underlying hu, Conv.stringToBytes, run_choose, Question.forced, Question.cut]
        simp only [Bool.false_eq_true, if_false, Result.andThen_ok, newRow, Sem.run_bind, run_newObj, Sem.run_pure, markStringish, run_shape]
        change (Sem.run P (match World.shape? w1 w.heap.size with | some (_, n) => freeze { block := w.heap.size, off := n } 1 | _ => pure ()) w1).andThen (fun _ w' => Result.ok (Value.slice (some { block := w.heap.size, off := 0 }) n cap) w') = _
        rw [hshape]
        rfl
      · simp only [vrel]
        exact ⟨_, cap, k2, by rw [hsize]; simp only [cap]; omega, by simp [hsz], by rw [hsize]⟩
    | _ => simp [convBytes] at e
def orel (μ : M) : Option AV → Option Value → Prop
  | none, none => True
  | some a, some v => vrel μ a v
  | _, _ => False
theorem bounds_sound {isSl : Bool} {len cap l r m : Nat} {lo hi mx : Option AV} {lov hiv mxv : Option Value} (h1 : orel μ lo lov) (h2 : orel μ hi hiv) (h3 : orel μ mx mxv)
    (e1 : bound? 0 lo = some l) (e2 : bound? len hi = some r) (e3 : bound? cap mx = some m) (hc : (mx.isNone || hi.isSome) = true) (hs : sub3 l r m cap = true) :
    (Instr.sliceBounds isSl len cap lov hiv mxv).run P w = .ok (l, r, m) w := by
  unfold sub3 at hs
  simp only [Bool.and_eq_true, ble_iff] at hs
  obtain ⟨s1, s2, s3⟩ := hs
  have key : ∀ {d n y : Nat} {a : AV} {v : Value} (code : BoundsCode), vrel μ a v → bound? d (some a) = some n → n ≤ y → (Instr.sliceBound v y code).run P w = .ok n w := by
    intro d n y a v code hv e hy
    simp only [bound?] at e
    obtain ⟨k, rfl⟩ := nat_some e
    simp only [vrel] at hv
    subst hv
    simp [Instr.sliceBound, asIntOf]
    intro hh
    omega
  cases mx with
  | none =>
    cases mxv with
    | some v => exact h3.elim
    | none =>
      simp only [bound?] at e3; cases e3
      cases hi with
      | none =>
        cases hiv with
        | some v => exact h2.elim
        | none =>
          simp only [bound?] at e2; cases e2
          cases lo with
          | none =>
            cases lov with
            | some v => exact h1.elim
            | none => simp only [bound?] at e1; cases e1; simp [Instr.sliceBounds]
          | some a =>
            cases lov with
            | none => exact h1.elim
            | some v => simp [Instr.sliceBounds, key _ h1 e1 s1]
      | some b =>
        cases hiv with
        | none => exact h2.elim
        | some u =>
          cases lo with
          | none =>
            cases lov with
            | some v => exact h1.elim
            | none => simp only [bound?] at e1; cases e1; simp [Instr.sliceBounds, key _ h2 e2 s2]
          | some a =>
            cases lov with
            | none => exact h1.elim
            | some v => simp [Instr.sliceBounds, key _ h1 e1 s1, key _ h2 e2 s2]
  | some c =>
    cases mxv with
    | none => exact h3.elim
    | some x =>
      cases hi with
      | none => simp at hc
      | some b =>
        cases hiv with
        | none => exact h2.elim
        | some u =>
          cases lo with
          | none =>
            cases lov with
            | some v => exact h1.elim
            | none => simp only [bound?] at e1; cases e1; simp [Instr.sliceBounds, key _ h3 e3 s3, key _ h2 e2 s2]
          | some a =>
            cases lov with
            | none => exact h1.elim
            | some v => simp [Instr.sliceBounds, key _ h3 e3 s3, key _ h1 e1 s1, key _ h2 e2 s2]
theorem dec_div : ∀ (l n c : Nat), dec n (c / 256 ^ l) = (dec (l + n) c).drop l
  | 0, n, c => by simp
  | l + 1, n, c => by
    have e : l + 1 + n = (l + n) + 1 := by omega
    rw [e]
    simp only [dec, List.drop_succ_cons]
    rw [← dec_div l n (c / 256), Nat.div_div_eq_div_mul, Nat.pow_succ, Nat.mul_comm]
theorem dec_mod : ∀ (n k c : Nat), n ≤ k → dec n (c % 256 ^ k) = dec n c
  | 0, k, c, _ => rfl
  | n + 1, 0, c, h => by omega
  | n + 1, k + 1, c, h => by
    simp only [dec]
    have e1 : c % 256 ^ (k + 1) % 256 = c % 256 := Nat.mod_mod_of_dvd _ (by rw [Nat.pow_succ]; exact Nat.dvd_mul_left _ _)
    have e2 : c % 256 ^ (k + 1) / 256 = c / 256 % 256 ^ k := by
      rw [Nat.pow_succ, Nat.mul_comm, Nat.mod_mul_right_div_self]
    rw [e1, e2, dec_mod n k (c / 256) (by omega)]
theorem str_extract {l r n c : Nat} (h1 : l ≤ r) (h2 : r ≤ n) : (strOf n c).extract l r = strOf (r - l) (c / 256 ^ l % 256 ^ (r - l)) := by
  have e : dec (r - l) (c / 256 ^ l % 256 ^ (r - l)) = ((dec n c).take r).drop l := by
    rw [dec_mod _ _ _ (Nat.le_refl _), dec_div l (r - l) c, ← dec_take r n c h2]
    congr 2; omega
  have : ((strOf n c).extract l r).data.toList = (strOf (r - l) (c / 256 ^ l % 256 ^ (r - l))).data.toList := by
    rw [ByteArray.data_extract]
    simp only [strOf, e]
    simp [List.map_drop, List.map_take, List.drop_take]
  have h3 := Array.toList_inj.1 this
  cases hx : (strOf n c).extract l r; cases hy : strOf (r - l) (c / 256 ^ l % 256 ^ (r - l))
  rw [hx, hy] at h3
  simpa using h3
theorem boundsT_sound {len l r : Nat} {lo hi : Option AV} {a b : AV} {lov hiv : Option Value} (h1 : orel μ lo lov) (h2 : orel μ hi hiv)
    (e1 : bnd? lo = some a) (e2 : bnd? hi = some b) (g1 : bndS Tab.iv 0 a l) (g2 : bndS Tab.iv len b r) (s1 : l ≤ r) (s2 : r ≤ len) :
    (Instr.sliceBounds false len len lov hiv none).run P w = .ok (l, r, len) w := by
  have key : ∀ {d n y : Nat} {o : Option AV} {a : AV} {ov : Option Value} (code : BoundsCode), orel μ o ov → bnd? o = some a → bndS Tab.iv d a n → n ≤ y → (ov = none ∧ n = d) ∨ ∃ v, ov = some v ∧ (Instr.sliceBound v y code).run P w = .ok n w := by
    intro d n y o a ov code ho e hb hy
    unfold bnd? at e
    split at e
    · cases e
      cases ov with
      | some v => exact ho.elim
      | none => exact .inl ⟨rfl, hb⟩
    all_goals first | (simp at e; done) | skip
    all_goals
      cases e
      cases ov with
      | none => exact ho.elim
      | some v =>
        obtain ⟨k, hk⟩ := hb
        have := den_rel (μ := μ) hk ho
        subst this
        refine .inr ⟨_, rfl, ?_⟩
        simp [Instr.sliceBound, asIntOf]
        intro hh
        omega
  rcases key .sliceAlen h2 e2 g2 s2 with ⟨rfl, rfl⟩ | ⟨u, rfl, k2⟩
  · rcases key .sliceB h1 e1 g1 s1 with ⟨rfl, rfl⟩ | ⟨v, rfl, k1⟩
    · simp [Instr.sliceBounds]
    · simp [Instr.sliceBounds, k1]
  · rcases key .sliceB h1 e1 g1 s1 with ⟨rfl, rfl⟩ | ⟨v, rfl, k1⟩
    · simp [Instr.sliceBounds, k2]
    · simp [Instr.sliceBounds, k1, k2]
end Go.X
set_option linter.unusedVariables false
set_option linter.unusedSimpArgs false
set_option linter.unusedSectionVars false
namespace Go.X
open Go.RowKit
variable [Tab]
variable {P : Program} {B : Kp} {w0 : World} {μ : M} {h h' : H} {w w' : World}
theorem sliceRow_sound {isSl : Bool} {z x o n c : Nat} {lo hi mx : Option AV} {lov hiv mxv : Option Value} {a : AV} {l : Loc} (hl : μ x = some l) (h1 : orel μ lo lov) (h2 : orel μ hi hiv) (h3 : orel μ mx mxv) (e : sliceRow z x o n c lo hi mx = some a) :
    ∃ p q m, (Instr.sliceBounds isSl n c lov hiv mxv).run P w = .ok (p, q, m) w ∧ vrel μ a (.slice (some (if m = p then (⟨l.block, l.base + o, none⟩ : Addr) else (⟨l.block, l.base + o, none⟩ : Addr).add (p * z))) (q - p) (m - p)) := by
  obtain ⟨p, hp, e⟩ := ob_some e
  obtain ⟨q, hq, e⟩ := ob_some e
  obtain ⟨m, hm, e⟩ := ob_some e
  obtain ⟨hc, e⟩ := ifb_some e
  simp only [Bool.and_eq_true] at hc
  cases e
  refine ⟨p, q, m, bounds_sound h1 h2 h3 hp hq hm hc.1 hc.2, ?_⟩
  simp only [vrel]
  refine ⟨l, hl, ?_⟩
  by_cases c1 : m = p
  · simp [c1]
  · simp [c1, Addr.add_lit, Nat.add_assoc]
theorem sliceOpen_sound {z x o n c : Nat} {lo hi mx : Option AV} {lov hiv mxv : Option Value} {a : AV} {l : Loc} (hl : μ x = some l) (hnc : n ≤ c) (htot : l.base + o + c * z = l.total)
    (h1 : orel μ lo lov) (h2 : orel μ hi hiv) (h3 : orel μ mx mxv) (e : sliceOpen z x o n lo hi mx = some a) :
    ∃ p q m, (Instr.sliceBounds true n c lov hiv mxv).run P w = .ok (p, q, m) w ∧ vrel μ a (.slice (some (if m = p then (⟨l.block, l.base + o, none⟩ : Addr) else (⟨l.block, l.base + o, none⟩ : Addr).add (p * z))) (q - p) (m - p)) := by
  obtain ⟨p, hp, e⟩ := ob_some e
  obtain ⟨q, hq, e⟩ := ob_some e
  cases mx with
  | none =>
    obtain ⟨hc, e⟩ := ifb_some e
    simp only [Bool.and_eq_true, ble_iff] at hc
    obtain ⟨c1, c2⟩ := hc
    cases c3 : (Nat.beq p 0 || Nat.blt p n) with
    | false =>
     rw [c3] at e
     have e' : some AV.es = some a := e
     cases e'
     simp only [Bool.or_eq_false_iff] at c3
     have c4 : ¬ p < n := fun hh => by rw [blt_iff.2 hh] at c3; simp at c3
     refine ⟨p, q, c, bounds_sound h1 h2 h3 hp hq rfl (by simp) (by simp only [sub3, Bool.and_eq_true, ble_iff]; omega), ?_⟩
     simp only [vrel]
     have : q - p = 0 := by omega
     rw [this]
     exact ⟨_, _, rfl⟩
    | true =>
    rw [c3] at e
    simp only [Bool.or_eq_true, blt_iff, nbeq_iff] at c3
    cases e
    refine ⟨p, q, c, bounds_sound h1 h2 h3 hp hq rfl (by simp) (by simp only [sub3, Bool.and_eq_true, ble_iff]; omega), ?_⟩
    simp only [vrel]
    have hmul : p * z + (c - p) * z = c * z := by rw [← Nat.add_mul]; congr 1; omega
    refine ⟨l, c - p, hl, by omega, by omega, ?_⟩
    by_cases c4 : c = p
    · have : p = 0 := by omega
      subst this
      simp [c4]
    · simp [c4, Addr.add_lit, Nat.add_assoc]
  | some v =>
    obtain ⟨m, hm, e⟩ := ob_some e
    obtain ⟨hc, e⟩ := ifb_some e
    simp only [Bool.and_eq_true] at hc
    cases e
    have hs := hc.2
    unfold sub3 at hs
    simp only [Bool.and_eq_true, ble_iff] at hs
    refine ⟨p, q, m, bounds_sound h1 h2 h3 hp hq hm (by simp [hc.1]) (by simp only [sub3, Bool.and_eq_true, ble_iff]; omega), ?_⟩
    simp only [vrel]
    refine ⟨l, hl, ?_⟩
    by_cases c1 : m = p
    · simp [c1]
    · simp [c1, Addr.add_lit, Nat.add_assoc]
theorem ltOk_sound {k j : Nat} (e : ltOk k j = true) : isLen (Tab.iv k) ∧ (Tab.iv j).1 = .i64 ∧ (Tab.iv k).2 < (Tab.iv j).2 := by
  unfold ltOk at e
  simp only [Bool.and_eq_true] at e
  have isT_some : ∀ {o : Option AV}, isT o = true → o = some (.bool true) := by
    intro o h
    unfold isT at h
    split at h
    · rfl
    · simp at h
  obtain ⟨k1, a, k2, b, v', h1, h2, h3, h4⟩ := Tab.ibok _ (findB_mem (isT_some e.1)) .lss rfl
  obtain ⟨k3, a3, k4, b3, v3, g1, g2, g3, g4⟩ := Tab.ibok _ (findB_mem (isT_some e.2)) .geq rfl
  simp only [denI, Option.some.injEq] at h1 h2 g1 g2
  simp only [Prod.mk.injEq] at g2
  obtain ⟨rfl, rfl⟩ := g2
  have e1 : intBin .lss k1 a k2 b = ifb (Nat.beq (kcode k1) (kcode k2)) (some (.bool (decide (a < b)))) := rfl
  rw [e1] at h3
  obtain ⟨h5, h3⟩ := ifb_some h3
  cases h3
  have e2 : intBin .geq k3 a3 .i64 0 = ifb (Nat.beq (kcode k3) (kcode .i64)) (some (.bool (decide (a3 ≥ 0)))) := rfl
  rw [e2] at g3
  obtain ⟨g5, g3⟩ := ifb_some g3
  cases g3
  simp only [outI, AV.bool.injEq] at h4 g4
  have h4 := of_decide_eq_true h4.symm
  have g4 := of_decide_eq_true g4.symm
  have q1 : k3 = .i64 := by have := nbeq_iff.1 g5; revert this; cases k3 <;> simp [kcode]
  have q2 : k1 = k2 := by have := nbeq_iff.1 h5; revert this; cases k1 <;> cases k2 <;> simp [kcode]
  subst q1
  rw [h1] at g1
  simp only [Prod.mk.injEq] at g1
  obtain ⟨rfl, rfl⟩ := g1
  subst q2
  rw [h1, h2]
  exact ⟨⟨rfl, g4⟩, rfl, h4⟩
theorem leOk_sound {k j : Nat} (e : leOk k j = true) : isLen (Tab.iv k) ∧ (Tab.iv j).1 = .i64 ∧ (Tab.iv k).2 ≤ (Tab.iv j).2 := by
  unfold leOk at e
  simp only [Bool.and_eq_true] at e
  have isT_some : ∀ {o : Option AV}, isT o = true → o = some (.bool true) := by
    intro o h
    unfold isT at h
    split at h
    · rfl
    · simp at h
  obtain ⟨k1, a, k2, b, v', h1, h2, h3, h4⟩ := Tab.ibok _ (findB_mem (isT_some e.1)) .leq rfl
  obtain ⟨k3, a3, k4, b3, v3, g1, g2, g3, g4⟩ := Tab.ibok _ (findB_mem (isT_some e.2)) .geq rfl
  simp only [denI, Option.some.injEq] at h1 h2 g1 g2
  simp only [Prod.mk.injEq] at g2
  obtain ⟨rfl, rfl⟩ := g2
  have e1 : intBin .leq k1 a k2 b = ifb (Nat.beq (kcode k1) (kcode k2)) (some (.bool (decide (a ≤ b)))) := rfl
  rw [e1] at h3
  obtain ⟨h5, h3⟩ := ifb_some h3
  cases h3
  have e2 : intBin .geq k3 a3 .i64 0 = ifb (Nat.beq (kcode k3) (kcode .i64)) (some (.bool (decide (a3 ≥ 0)))) := rfl
  rw [e2] at g3
  obtain ⟨g5, g3⟩ := ifb_some g3
  cases g3
  simp only [outI, AV.bool.injEq] at h4 g4
  have h4 := of_decide_eq_true h4.symm
  have g4 := of_decide_eq_true g4.symm
  have q1 : k3 = .i64 := by have := nbeq_iff.1 g5; revert this; cases k3 <;> simp [kcode]
  have q2 : k1 = k2 := by have := nbeq_iff.1 h5; revert this; cases k1 <;> cases k2 <;> simp [kcode]
  subst q1
  rw [h1] at g1
  simp only [Prod.mk.injEq] at g1
  obtain ⟨rfl, rfl⟩ := g1
  subst q2
  rw [h1, h2]
  exact ⟨⟨rfl, g4⟩, rfl, h4⟩
theorem sliceT_sound (r : HR B w0 μ h w) {t : TypeId} {x v : AV} {xv : Value} {lo hi mx : Option AV} {lov hiv mxv : Option Value} (hd : P.underlying t = some .string) (hx : vrel μ x xv) (h1 : orel μ lo lov) (h2 : orel μ hi hiv) (h3 : orel μ mx mxv) (e : sliceT x lo hi mx = some v) :
    OkQ P μ w (Instr.sliceAt t xv lov hiv mxv) v := by
  obtain ⟨a, ha, e⟩ := ob_some e
  obtain ⟨c, hc, e⟩ := ob_some e
  obtain ⟨hm, e⟩ := ifb_some e
  cases mx with
  | some _ => simp at hm
  | none =>
    cases mxv with
    | some _ => exact h3.elim
    | none =>
      obtain ⟨b, l, q, g1, g2, g3, g4, g5, g6⟩ := findT_ok e
      have := denS_rel g1 hx
      subst this
      have hb := boundsT_sound (P := P) (w := w) h1 h2 ha hc g2 g3 g4 g5
      refine .same r (v' := .string (b.extract l q)) ?_ (denS_mk g6)
      simp only [Instr.sliceAt, Sem.run_bind, run_underlying hd, Result.andThen_ok, Instr.slice]
      simp [hb]
theorem findVO_mem {b a k : Nat} : ∀ {l : List (Nat × Nat × Nat)}, findVO b a l = some k → (b, a, k) ∈ l
  | [], e => by have e' : (none : Option Nat) = some k := e; cases e'
  | r :: l, e => by
    have e' : (@Bool.rec (fun _ => Option Nat) (findVO b a l) (@Bool.rec (fun _ => Option Nat) (findVO b a l) (some r.2.2) (Nat.beq r.2.1 a)) (Nat.beq r.1 b)) = some k := e
    cases h1 : Nat.beq r.1 b with
    | false => rw [h1] at e'; exact List.mem_cons_of_mem _ (findVO_mem e')
    | true =>
    cases h2 : Nat.beq r.2.1 a with
    | false => rw [h1, h2] at e'; exact List.mem_cons_of_mem _ (findVO_mem e')
    | true =>
      rw [h1, h2] at e'
      cases e'
      rw [← nbeq_iff.1 h1, ← nbeq_iff.1 h2]
      exact List.mem_cons_self
theorem nmOf_sound {x : AV} {k : Nat} {v : Value} (e : nmOf x = some k) (hk : 0 ≤ (Tab.iv k).2) (hv : vrel μ x v) : ∃ kk, v = .int kk ((Tab.iv k).2.toNat : Int) := by
  unfold nmOf at e
  split at e
  · cases e
    simp only [vrel] at hv
    exact ⟨_, by rw [hv, Int.toNat_of_nonneg hk]⟩
  · rename_i ik n
    have hv2 := Tab.vcok _ (findVC_mem e)
    simp only at hv2
    simp only [vrel] at hv
    exact ⟨ik, by rw [hv, hv2]; rfl⟩
  · cases e
theorem sliceOff_sound (r : HR B w0 μ h w) {t el : TypeId} {y j c : Nat} {l : Loc} {v : AV} {lo hi mx : Option AV} {lov hiv mxv : Option Value} (hd : P.underlying t = some (.slice el)) (hz : sizeOf? P el = some 1) (hj0 : isLen (Tab.iv j)) (hl : μ y = some l) (hnc : (Tab.iv j).2.toNat ≤ c)
    (h1 : orel μ lo lov) (h2 : orel μ hi hiv) (h3 : orel μ mx mxv) (hmx : mx.isNone = true) (e : sliceOff y j lo hi = some v) :
    OkQ P μ w (Instr.sliceAt t (.slice (some ⟨l.block, l.base, none⟩) (Tab.iv j).2.toNat c) lov hiv mxv) v := by
  cases mx with
  | some m => simp at hmx
  | none =>
  cases mxv with
  | some m => exact h3.elim
  | none =>
  unfold sliceOff at e
  split at e
  · cases e
  rename_i x
  have e0 := ob_some e
  clear e
  obtain ⟨a, ha, e⟩ := e0
  cases lov with
  | none => exact h1.elim
  | some v1 =>
  have h1 : vrel μ x v1 := h1
  have run : ∀ (p q : Nat) (kk : IntKind) (hi' : Option AV), v1 = .int kk (p : Int) → orel μ hi' hiv → bound? (Tab.iv j).2.toNat hi' = some q → p ≤ q → q ≤ (Tab.iv j).2.toNat →
      (Instr.sliceAt t (.slice (some ⟨l.block, l.base, none⟩) (Tab.iv j).2.toNat c) (some v1) hiv none).run P w = .ok (.slice (some (if c = p then (⟨l.block, l.base, none⟩ : Addr) else (⟨l.block, l.base, none⟩ : Addr).add (p * 1))) (q - p) (c - p)) w := by
    intro p q kk hi' hv1 hh hb h4 h5
    subst hv1
    have hb2 := bounds_sound (P := P) (w := w) (μ := μ) (isSl := true) (len := (Tab.iv j).2.toNat) (cap := c) (l := p) (r := q) (m := c) (lo := some (.int kk (p : Int))) (lov := some (.int kk (p : Int))) (mx := none) (mxv := none) (by show vrel μ _ _; simp only [vrel]) hh trivial (by simp [bound?, nat?]) hb rfl (by simp) (by simp only [sub3, Bool.and_eq_true, ble_iff]; omega)
    simp only [Instr.sliceAt, Sem.run_bind, run_underlying hd, Result.andThen_ok, Instr.slice, hb2, run_sizeOf hz]
    by_cases c1 : c = p <;> simp [c1]
  have ow : ∀ b k q, findVO b a Tab.vo = some k → (q = (Tab.iv b).2.toNat) → q ≤ (Tab.iv j).2.toNat → (∃ hi', orel μ hi' hiv ∧ bound? (Tab.iv j).2.toNat hi' = some q) → OkQ P μ w (Instr.sliceAt t (.slice (some ⟨l.block, l.base, none⟩) (Tab.iv j).2.toNat c) (some v1) hiv none) (.ow y a k) := by
    intro b k q hf hq hqj hh
    obtain ⟨hi', hh1, hh2⟩ := hh
    obtain ⟨o1, o2, o3, o4⟩ := Tab.vook _ (findVO_mem hf)
    simp only at o1 o2 o3 o4
    obtain ⟨kk, hv1⟩ := nmOf_sound ha o1.2 h1
    have a0 := o1.2
    have hlt : (Tab.iv a).2.toNat + (Tab.iv k).2.toNat = q := by have := o2.2; omega
    refine .same r (run _ q kk hi' hv1 hh1 hh2 (by omega) hqj) ?_
    simp only [vrel]
    refine ⟨o1, o2, o3, l, c, hl, by omega, ?_⟩
    have hcp : ¬ c = (Tab.iv a).2.toNat := by have := o2.2; omega
    rw [if_neg hcp, Addr.add_lit]
    congr 1
    · simp
    · omega
  split at e
  · have hb : bound? (Tab.iv j).2.toNat none = some (Tab.iv j).2.toNat := rfl
    rcases orE_some e with e | ⟨_, e⟩
    · obtain ⟨k, hk, e⟩ := ob_some e
      cases e
      exact ow j k _ hk rfl (Nat.le_refl _) ⟨none, h2, hb⟩
    · obtain ⟨hab, e⟩ := ifb_some e
      cases e
      have hab := nbeq_iff.1 hab
      subst hab
      obtain ⟨kk, hv1⟩ := nmOf_sound ha hj0.2 h1
      refine .same r (run _ _ kk none hv1 h2 hb (Nat.le_refl _) (Nat.le_refl _)) ?_
      simp only [vrel, Nat.sub_self]
      exact ⟨_, _, rfl⟩
  · rename_i xh
    obtain ⟨b, hbn, e⟩ := ob_some e
    obtain ⟨hle, e⟩ := ifb_some e
    obtain ⟨k, hk, e⟩ := ob_some e
    cases e
    cases hiv with
    | none => exact h2.elim
    | some v2 =>
    have h2 : vrel μ xh v2 := h2
    have hb0 : 0 ≤ (Tab.iv b).2 ∧ (Tab.iv b).2.toNat ≤ (Tab.iv j).2.toNat := by
      simp only [Bool.or_eq_true, nbeq_iff] at hle
      rcases hle with rfl | hle
      · exact ⟨hj0.2, Nat.le_refl _⟩
      · obtain ⟨q1, _, q2⟩ := leOk_sound hle
        exact ⟨q1.2, by have := q1.2; omega⟩
    obtain ⟨kk, hv2⟩ := nmOf_sound hbn hb0.1 h2
    subst hv2
    exact ow b k _ hk rfl hb0.2 ⟨some (.int kk ((Tab.iv b).2.toNat : Int)), by show vrel μ _ _; simp only [vrel], by simp [bound?, nat?]⟩
theorem findRF_mem {i : Nat} {q : Nat × Nat × Nat} : ∀ {l : List (Nat × Nat × Nat × Nat)}, findRF i l = some q → (i, q) ∈ l
  | [], e => by simp [findRF] at e
  | r :: l, e => by
    have e' : (@Bool.rec (fun _ => Option (Nat × Nat × Nat)) (findRF i l) (some r.2) (Nat.beq r.1 i)) = some q := e
    cases h1 : Nat.beq r.1 i with
    | false => rw [h1] at e'; exact List.mem_cons_of_mem _ (findRF_mem e')
    | true =>
      rw [h1] at e'
      have e2 : some r.2 = some q := e'
      cases e2
      rw [← nbeq_iff.1 h1]; exact List.mem_cons_self
theorem findRS_mem {i n z k : Nat} : ∀ {l : List (Nat × Nat × Nat × Nat)}, findRS i n z l = some k → (i, n, z, k) ∈ l
  | [], e => by simp [findRS] at e
  | r :: l, e => by
    have e' : (@Bool.rec (fun _ => Option Nat) (findRS i n z l) (@Bool.rec (fun _ => Option Nat) (findRS i n z l) (@Bool.rec (fun _ => Option Nat) (findRS i n z l) (some r.2.2.2) (Nat.beq r.2.2.1 z)) (Nat.beq r.2.1 n)) (Nat.beq r.1 i)) = some k := e
    cases h1 : Nat.beq r.1 i with
    | false => rw [h1] at e'; exact List.mem_cons_of_mem _ (findRS_mem e')
    | true =>
    cases h2 : Nat.beq r.2.1 n with
    | false => rw [h1, h2] at e'; exact List.mem_cons_of_mem _ (findRS_mem e')
    | true =>
    cases h3 : Nat.beq r.2.2.1 z with
    | false => rw [h1, h2, h3] at e'; exact List.mem_cons_of_mem _ (findRS_mem e')
    | true =>
      rw [h1, h2, h3] at e'
      have e2 : some r.2.2.2 = some k := e'
      cases e2
      rw [← nbeq_iff.1 h1, ← nbeq_iff.1 h2, ← nbeq_iff.1 h3]; exact List.mem_cons_self
theorem slice_sound (r : HR B w0 μ h w) {t : TypeId} {x v : AV} {xv : Value} {lo hi mx : Option AV} {lov hiv mxv : Option Value} (hx : vrel μ x xv) (h1 : orel μ lo lov) (h2 : orel μ hi hiv) (h3 : orel μ mx mxv) (e : slice? P t x lo hi mx = some v) :
    OkQ P μ w (Instr.sliceAt t xv lov hiv mxv) v := by
  obtain ⟨d, hd, e⟩ := ob_some (show ob _ _ = _ from e)
  rename_i e0
  clear e0
  split at e
  · rename_i n c
    rcases orE_some e with e | ⟨_, e⟩
    case inr => exact sliceT_sound r hd hx h1 h2 h3 e
    simp only [vrel] at hx
    obtain ⟨hc, rfl⟩ := hx
    obtain ⟨l, hl, e⟩ := ob_some e
    obtain ⟨q, hq, e⟩ := ob_some e
    obtain ⟨hcond, e⟩ := ifb_some e
    simp only [Bool.and_eq_true, ble_iff] at hcond
    cases e
    cases mx with
    | some _ => simp at hcond
    | none =>
      cases mxv with
      | some _ => exact h3.elim
      | none =>
        have hb := bounds_sound (P := P) (w := w) (isSl := false) (cap := n) h1 h2 (mx := none) (mxv := none) trivial hl hq (m := n) rfl (by simp) (by simp only [sub3, Bool.and_eq_true, ble_iff]; omega)
        refine .same r (v' := .string ((strOf n c).extract l q)) ?_ ?_
        · simp only [Instr.sliceAt, Sem.run_bind, run_underlying hd, Result.andThen_ok, Instr.slice, strOf_size]
          simp [hb]
        · simp only [vrel]
          refine ⟨Nat.mod_lt _ (Nat.pos_of_ne_zero (by simp)), by rw [str_extract hcond.2.1 hcond.2.2]⟩
  · rename_i el _
    unfold sliceSl at e
    split at e
    · simp only [vrel] at hx; subst hx
      obtain ⟨l, hl, e⟩ := ob_some e
      obtain ⟨q, hq, e⟩ := ob_some e
      obtain ⟨m, hm, e⟩ := ob_some e
      obtain ⟨z, hz, e⟩ := ob_some e
      obtain ⟨hcond, e⟩ := ifb_some e
      simp only [Bool.and_eq_true] at hcond
      cases e
      have hb := bounds_sound (P := P) (w := w) (isSl := true) (cap := 0) h1 h2 h3 hl hq hm hcond.1 hcond.2
      have hs := hcond.2
      unfold sub3 at hs
      simp only [Bool.and_eq_true, ble_iff] at hs
      have e1 : l = 0 := by omega
      have e2 : q = 0 := by omega
      have e3 : m = 0 := by omega
      subst e1 e2 e3
      refine .same r (v' := .slice none 0 0) ?_ (by simp [vrel])
      simp only [Instr.sliceAt, Sem.run_bind, run_underlying hd, Result.andThen_ok, Instr.slice, hb, run_sizeOf hz]
      simp
    · simp only [vrel] at hx
      obtain ⟨l, hl, rfl⟩ := hx
      obtain ⟨z, hz, e⟩ := ob_some e
      obtain ⟨p, q, m, g1, g2⟩ := sliceRow_sound (P := P) (w := w) (isSl := true) hl h1 h2 h3 e
      refine .same r ?_ g2
      simp only [Instr.sliceAt, Sem.run_bind, run_underlying hd, Result.andThen_ok, Instr.slice, g1, run_sizeOf hz]
      by_cases c1 : m = p <;> simp [c1]
    · simp only [vrel] at hx
      obtain ⟨l, c, hl, hnc, htot, rfl⟩ := hx
      obtain ⟨z, hz, e⟩ := ob_some e
      obtain ⟨hzz, e⟩ := ifb_some e
      have hzz := nbeq_iff.1 hzz
      rw [← hzz] at htot
      obtain ⟨p, q, m, g1, g2⟩ := sliceOpen_sound (P := P) (w := w) hl hnc htot h1 h2 h3 e
      refine .same r ?_ g2
      simp only [Instr.sliceAt, Sem.run_bind, run_underlying hd, Result.andThen_ok, Instr.slice, g1, run_sizeOf hz]
      by_cases c1 : m = p <;> simp [c1]
    · rename_i y j z'
      simp only [vrel] at hx
      obtain ⟨hj0, l, c, hl, hnc, htot, rfl⟩ := hx
      obtain ⟨z, hz, e1⟩ := ob_some e
      obtain ⟨hzz, e2⟩ := ifb_some e1
      clear e e1
      simp only [Bool.and_eq_true, nbeq_iff] at hzz
      obtain ⟨rfl, hmx⟩ := hzz
      have e0 := orE_some e2
      clear e2
      rcases e0 with e2 | ⟨_, e2⟩
      case inr =>
        obtain ⟨h1z, e2⟩ := ifb_some e2
        have h1z := nbeq_iff.1 h1z
        subst h1z
        exact sliceOff_sound r hd hz hj0 hl hnc h1 h2 h3 hmx e2
      have key : ∀ k, leOk k j = true → (∀ v, hiv = some v → ∃ kk, v = .int kk ((Tab.iv k).2.toNat : Int)) → hiv.isSome = true → hi.isSome = true → lo = none → OkQ P μ w (Instr.sliceAt t (.slice (some ⟨l.block, l.base, none⟩) (Tab.iv j).2.toNat c) lov hiv mxv) (.ov y k z) := by
        intro k hle hhv hsome hsome2 hlo
        obtain ⟨hk0, _, hkj⟩ := leOk_sound hle
        cases mx with
        | some m => simp at hmx
        | none =>
        subst hlo
        obtain ⟨hv0, rfl⟩ := Option.isSome_iff_exists.1 hsome
        obtain ⟨kk, rfl⟩ := hhv hv0 rfl
        have hle2 : (Tab.iv k).2.toNat ≤ (Tab.iv j).2.toNat := by have := hk0.2; omega
        have h2' : orel μ (some (.int kk ((Tab.iv k).2.toNat : Int))) (some (.int kk ((Tab.iv k).2.toNat : Int))) := by
          show vrel μ (.int kk ((Tab.iv k).2.toNat : Int)) (.int kk ((Tab.iv k).2.toNat : Int))
          simp only [vrel]
        obtain ⟨p, q, m, g1, g2⟩ := sliceOpen_sound (P := P) (w := w) (o := 0) (z := z) hl hnc (by simpa using htot) h1 h2' h3 (a := .so y (0 + 0 * z) ((Tab.iv k).2.toNat - 0) z) (by simp [sliceOpen, bound?, nat?, ifb, ble_iff.2 hle2, ble_iff.2 (Nat.zero_le (Tab.iv k).2.toNat)])
        refine .same r (v' := .slice (some (if m = p then (⟨l.block, l.base + 0, none⟩ : Addr) else (⟨l.block, l.base + 0, none⟩ : Addr).add (p * z))) (q - p) (m - p)) ?_ ?_
        · simp only [Instr.sliceAt, Sem.run_bind, run_underlying hd, Result.andThen_ok, Instr.slice, g1, run_sizeOf hz]
          by_cases c1 : m = p <;> simp [c1]
        · simp only [vrel] at g2 ⊢
          obtain ⟨l2, c2, b1, b2, b3, b4⟩ := g2
          rw [hl] at b1; cases b1
          refine ⟨hk0, l, c2, hl, by simpa using b2, by simpa using b3, ?_⟩
          rw [b4]; simp
      unfold sliceVec at e2
      split at e2
      · rename_i k
        obtain ⟨hle, e⟩ := ifb_some e2
        clear e2
        cases e
        have hk0 := (leOk_sound hle).1
        have hkn : ((Tab.iv k).2.toNat : Int) = (Tab.iv k).2 := Int.toNat_of_nonneg hk0.2
        cases hiv with
        | none => exact h2.elim
        | some v =>
          have h2 : vrel μ (.oi k) v := h2
          simp only [vrel] at h2
          exact key k hle (fun v' e => by cases e; exact ⟨_, by rw [h2, hkn]⟩) rfl rfl rfl
      · rename_i ik m
        obtain ⟨k, hk, e⟩ := ob_some e2
        obtain ⟨hle, e⟩ := ifb_some e
        clear e2
        cases e
        have hv := Tab.vcok _ (findVC_mem hk)
        simp only at hv
        cases hiv with
        | none => exact h2.elim
        | some v =>
          have h2 : vrel μ (.int ik (.ofNat m)) v := h2
          simp only [vrel] at h2
          exact key k hle (fun v' e => by cases e; exact ⟨ik, by rw [h2, hv]; rfl⟩) rfl rfl rfl
      · simp at e2
    · rename_i y j z'
      simp only [vrel] at hx
      obtain ⟨hj0, hnc, rfl⟩ := hx
      obtain ⟨z, hz, e1⟩ := ob_some e
      obtain ⟨hzz, e2⟩ := ifb_some e1
      clear e e1
      simp only [Bool.and_eq_true, nbeq_iff] at hzz
      obtain ⟨rfl, hmx⟩ := hzz
      have key : ∀ k, leOk k j = true → (∀ v, hiv = some v → ∃ kk, v = .int kk ((Tab.iv k).2.toNat : Int)) → hiv.isSome = true → lo = none → OkQ P μ w (Instr.sliceAt t (.slice (some ⟨(Tab.fb y).1, (Tab.fb y).2, none⟩) (Tab.iv j).2.toNat (Tab.fcap y)) lov hiv mxv) (.fo y k z) := by
        intro k hle hhv hsome hlo
        obtain ⟨hk0, _, hkj⟩ := leOk_sound hle
        cases mx with
        | some m => simp at hmx
        | none =>
        subst hlo
        obtain ⟨hv0, rfl⟩ := Option.isSome_iff_exists.1 hsome
        obtain ⟨kk, rfl⟩ := hhv hv0 rfl
        have hle2 : (Tab.iv k).2.toNat ≤ (Tab.iv j).2.toNat := by have := hk0.2; omega
        have h2' : orel μ (some (.int kk ((Tab.iv k).2.toNat : Int))) (some (.int kk ((Tab.iv k).2.toNat : Int))) := by
          show vrel μ (.int kk ((Tab.iv k).2.toNat : Int)) (.int kk ((Tab.iv k).2.toNat : Int))
          simp only [vrel]
        have hb := bounds_sound (P := P) (w := w) (isSl := true) (len := (Tab.iv j).2.toNat) (cap := Tab.fcap y) (l := 0) (r := (Tab.iv k).2.toNat) (m := Tab.fcap y) h1 h2' h3 rfl rfl rfl rfl (by simp only [sub3, Bool.and_eq_true, ble_iff]; omega)
        refine .same r (v' := .slice (some ⟨(Tab.fb y).1, (Tab.fb y).2, none⟩) (Tab.iv k).2.toNat (Tab.fcap y)) ?_ ?_
        · simp only [Instr.sliceAt, Sem.run_bind, run_underlying hd, Result.andThen_ok, Instr.slice, hb, run_sizeOf hz]
          by_cases c1 : Tab.fcap y = 0 <;> simp [c1, Addr.add_lit]
        · simp only [vrel]
          exact ⟨hk0, by omega, trivial⟩
      unfold sliceFor at e2
      split at e2
      · rename_i k
        obtain ⟨hle, e⟩ := ifb_some e2
        clear e2
        cases e
        have hk0 := (leOk_sound hle).1
        have hkn : ((Tab.iv k).2.toNat : Int) = (Tab.iv k).2 := Int.toNat_of_nonneg hk0.2
        cases hiv with
        | none => exact h2.elim
        | some v =>
          have h2 : vrel μ (.oi k) v := h2
          simp only [vrel] at h2
          exact key k hle (fun v' e => by cases e; exact ⟨_, by rw [h2, hkn]⟩) rfl rfl
      · rename_i ik m
        obtain ⟨k, hk, e⟩ := ob_some e2
        obtain ⟨hle, e⟩ := ifb_some e
        clear e2
        cases e
        have hv := Tab.vcok _ (findVC_mem hk)
        simp only at hv
        cases hiv with
        | none => exact h2.elim
        | some v =>
          have h2 : vrel μ (.int ik (.ofNat m)) v := h2
          simp only [vrel] at h2
          exact key k hle (fun v' e => by cases e; exact ⟨ik, by rw [h2, hv]; rfl⟩) rfl rfl
      · simp at e2
    · rename_i y
      obtain ⟨z, hz, e1⟩ := ob_some e
      obtain ⟨hmx, e2⟩ := ifb_some e1
      clear e e1
      unfold sliceHid at e2
      split at e2
      · rename_i ik m
        obtain ⟨k, hk, e⟩ := ob_some e2
        clear e2
        cases e
        obtain ⟨A, n, c, g1, g2, g3, g4⟩ := Tab.rsok _ (findRS_mem hk)
        simp only at g1 g2 g3 g4
        simp only [vrel] at hx
        obtain ⟨rfl, _⟩ := hx
        rw [g1]
        cases mx with
        | some m => simp at hmx
        | none =>
        have hb := bounds_sound (P := P) (w := w) (isSl := true) (len := n) (cap := c) (l := m) (r := n) (m := c) h1 h2 h3 rfl rfl rfl rfl (by simp only [sub3, Bool.and_eq_true, ble_iff]; omega)
        refine .same r (v' := .slice (some (if c = m then A else A.add (m * z))) (n - m) (c - m)) ?_ ?_
        · simp only [Instr.sliceAt, Sem.run_bind, run_underlying hd, Result.andThen_ok, Instr.slice, hb, run_sizeOf hz]
          by_cases c1 : c = m <;> simp [c1]
        · simp only [vrel]
          exact ⟨g4.symm, rfl⟩
      · simp at e2
    · simp at e
  · rename_i arr _
    obtain ⟨d', hd', e⟩ := ob_some e
    obtain ⟨q, hq, e⟩ := ob_some e
    cases d' <;> simp [asArray] at hq
    subst hq
    unfold sliceArr at e
    split at e
    · simp only [vrel] at hx
      obtain ⟨l, hl, rfl⟩ := hx
      obtain ⟨z, hz, e⟩ := ob_some e
      obtain ⟨p, q, m, g1, g2⟩ := sliceRow_sound (P := P) (w := w) (isSl := false) hl h1 h2 h3 e
      refine .same r ?_ g2
      simp only [Instr.sliceAt, Sem.run_bind, run_underlying hd, Result.andThen_ok, Instr.slice, asAddr, Sem.run_pure, run_underlying hd', g1, run_sizeOf hz]
    · simp at e
  · unfold sliceArr at e
    split at e
    · simp only [vrel] at hx
      obtain ⟨l, hl, rfl⟩ := hx
      obtain ⟨z, hz, e⟩ := ob_some e
      obtain ⟨p, q, m, g1, g2⟩ := sliceRow_sound (P := P) (w := w) (isSl := false) hl h1 h2 h3 e
      refine .same r ?_ g2
      simp only [Instr.sliceAt, Sem.run_bind, run_underlying hd, Result.andThen_ok, Instr.sureAddr, Sem.run_pure, g1, run_sizeOf hz]
    · simp at e
  · exact sliceT_sound r hd hx h1 h2 h3 e
  · simp at e
theorem idx_sound {el : TypeId} {x o n k : Nat} {v : AV} (e : idx P el x o n k = some v) : ∃ z, k < n ∧ sizeOf? P el = some z ∧ v = .ptr x (o + k * z) := by
  obtain ⟨h1, e⟩ := ifb_some e
  obtain ⟨z, hz, e⟩ := ob_some e
  cases e
  exact ⟨z, blt_iff.1 h1, hz, rfl⟩
theorem indexAddr0_sound (r : HR B w0 μ h w) {t : TypeId} {x i v : AV} {xv iv : Value} (hx : vrel μ x xv) (hi : vrel μ i iv) (e : (ob (nat? i) fun k => ob (P.underlying t) (indexAddrD P k x)) = some v) :
    OkQ P μ w (Instr.indexAt t xv iv) v := by
  obtain ⟨k, hk, e1⟩ := ob_some e
  clear e
  obtain ⟨d, hd, e⟩ := ob_some e1
  clear e1
  obtain ⟨kk, rfl⟩ := nat_some hk
  simp only [vrel] at hi
  subst hi
  have key : ∀ (el : TypeId) (y o n : Nat) (l : Loc) (base : Value), μ y = some l → (d = .array n el ∧ base = .pointer (some ⟨l.block, l.base + o, none⟩)) ∨ (∃ c, d = .slice el ∧ base = .slice (some ⟨l.block, l.base + o, none⟩) n c) → idx P el y o n k = some v → OkQ P μ w (Instr.indexAt t base (.int kk (k : Int))) v := by
    intro el y o n l base hl hd2 e
    obtain ⟨z, hlt, hz, rfl⟩ := idx_sound e
    refine .same r (v' := .pointer (some ((⟨l.block, l.base + o, none⟩ : Addr).add (k * z)))) ?_ (by simp only [vrel]; exact ⟨l, hl, by simp [Addr.add_lit, Nat.add_assoc]⟩)
    rcases hd2 with ⟨rfl, rfl⟩ | ⟨c, rfl, rfl⟩
    · simp [Instr.indexAt, asIntOf, run_underlying hd, Instr.sureAddr, run_sizeOf hz, hlt]
    · simp [Instr.indexAt, asIntOf, run_underlying hd, run_sizeOf hz, hlt]
  cases d with
  | array n el =>
    cases x with
    | ptr y o =>
      simp only [vrel] at hx
      obtain ⟨l, hl, rfl⟩ := hx
      exact key el y o n l _ hl (.inl ⟨rfl, rfl⟩) e
    | gp g o =>
      simp only [vrel] at hx
      subst hx
      simp only [indexAddrD] at e
      obtain ⟨hlt, e⟩ := ifb_some e
      obtain ⟨z, hz, e⟩ := ob_some e
      cases e
      have hlt := blt_iff.1 hlt
      exact .same r (v' := .pointer (some ((⟨g, o, none⟩ : Addr).add (k * z)))) (by simp [Instr.indexAt, asIntOf, run_underlying hd, Instr.sureAddr, run_sizeOf hz, hlt]) (by simp only [vrel]; simp [Addr.add_lit])
    | _ => simp [indexAddrD] at e
  | slice el =>
    cases x with
    | sl y o n c =>
      simp only [vrel] at hx
      obtain ⟨l, hl, rfl⟩ := hx
      exact key el y o n l _ hl (.inr ⟨c, rfl, rfl⟩) e
    | so y o n c =>
      simp only [vrel] at hx
      obtain ⟨l, cc, hl, _, _, rfl⟩ := hx
      exact key el y o n l _ hl (.inr ⟨cc, rfl, rfl⟩) e
    | _ => simp [indexAddrD] at e
  | _ => simp [indexAddrD] at e
theorem indexFor_sound (r : HR B w0 μ h w) {t : TypeId} {y j z : Nat} {i v : AV} {xv iv : Value} (hx : vrel μ (.fo y j z) xv) (hi : vrel μ i iv) (e : ob (P.underlying t) (indexFor P y j z i) = some v) :
    OkQ P μ w (Instr.indexAt t xv iv) v := by
  obtain ⟨d, hd, e1⟩ := ob_some e
  obtain ⟨el, hel, e2⟩ := ob_some e1
  obtain ⟨s, hs, e3⟩ := ob_some e2
  obtain ⟨hzz, e4⟩ := ifb_some e3
  clear e e1 e2 e3
  have hzz := nbeq_iff.1 hzz
  subst hzz
  have key : ∀ k, ltOk k j = true → (∃ kk, iv = .int kk ((Tab.iv k).2.toNat : Int)) → OkQ P μ w (Instr.indexAt t xv iv) (.fp y k s 0) := by
    intro k hlt hiv
    obtain ⟨kk, rfl⟩ := hiv
    obtain ⟨hk0, _, hkj⟩ := ltOk_sound hlt
    simp only [vrel] at hx
    obtain ⟨hj0, hnc, rfl⟩ := hx
    have hdd : d = .slice el := by cases d <;> simp [asSlice] at hel; rw [hel]
    subst hdd
    have hlt2 : (Tab.iv k).2.toNat < (Tab.iv j).2.toNat := by have := hk0.2; omega
    have run : ∀ (A : Addr) (nk nj cp : Nat), nk < nj → (Instr.indexAt t (.slice (some A) nj cp) (.int kk (nk : Int))).run P w = .ok (.pointer (some (A.add (nk * s)))) w := by
      intro A nk nj cp hh
      simp [Instr.indexAt, asIntOf, run_underlying hd, run_sizeOf hs, hh]
    refine .same r (run _ _ _ _ hlt2) ?_
    simp only [vrel]
    exact ⟨hk0, by simp [Addr.add_lit]⟩
  split at e4
  · rename_i k
    obtain ⟨hlt, e⟩ := ifb_some e4
    clear e4
    cases e
    have hk0 := (ltOk_sound hlt).1
    simp only [vrel] at hi
    exact key k hlt ⟨_, by rw [hi, Int.toNat_of_nonneg hk0.2]⟩
  · rename_i ik m
    obtain ⟨k, hk, e⟩ := ob_some e4
    obtain ⟨hlt, e⟩ := ifb_some e
    clear e4
    cases e
    have hv := Tab.vcok _ (findVC_mem hk)
    simp only at hv
    simp only [vrel] at hi
    exact key k hlt ⟨ik, by rw [hi, hv]; rfl⟩
  · simp at e4
theorem indexAddr_sound (r : HR B w0 μ h w) {t : TypeId} {x i v : AV} {xv iv : Value} (hx : vrel μ x xv) (hi : vrel μ i iv) (e : indexAddr? P t x i = some v) :
    OkQ P μ w (Instr.indexAt t xv iv) v := by
  unfold indexAddr? at e
  split at e
  · rename_i y j z
    obtain ⟨d, hd, e1⟩ := ob_some e
    obtain ⟨el, hel, e2⟩ := ob_some e1
    obtain ⟨s, hs, e3⟩ := ob_some e2
    obtain ⟨hzz, e4⟩ := ifb_some e3
    clear e e1 e2 e3
    have hzz := nbeq_iff.1 hzz
    subst hzz
    have key : ∀ k, ltOk k j = true → (∃ kk, iv = .int kk ((Tab.iv k).2.toNat : Int)) → OkQ P μ w (Instr.indexAt t xv iv) (.op y k s 0) := by
      intro k hlt hiv
      obtain ⟨kk, rfl⟩ := hiv
      obtain ⟨hk0, _, hkj⟩ := ltOk_sound hlt
      simp only [vrel] at hx
      obtain ⟨hj0, l, c, hl, hnc, htot, rfl⟩ := hx
      have hdd : d = .slice el := by cases d <;> simp [asSlice] at hel; rw [hel]
      subst hdd
      have hlt2 : (Tab.iv k).2.toNat < (Tab.iv j).2.toNat := by have := hk0.2; omega
      obtain ⟨v', q1, q2⟩ := indexAddr0_sound (P := P) (w := w) r (t := t) (x := .so y 0 (Tab.iv j).2.toNat s) (i := .int kk ((Tab.iv k).2.toNat : Int)) (xv := .slice (some ⟨l.block, l.base, none⟩) (Tab.iv j).2.toNat c) (iv := .int kk ((Tab.iv k).2.toNat : Int))
        (v := .ptr y (0 + (Tab.iv k).2.toNat * s)) (by simp only [vrel]; exact ⟨l, c, hl, hnc, by simpa using htot, rfl⟩) (by simp only [vrel])
        (by simp [nat?, hd, indexAddrD, idx, hs, ifb, blt_iff.2 hlt2])
      refine ⟨v', q1, ?_⟩
      simp only [vrel] at q2 ⊢
      obtain ⟨l2, b1, b2⟩ := q2
      rw [hl] at b1; cases b1
      exact ⟨hk0, l, hl, by rw [b2]; simp⟩
    split at e4
    · rename_i k
      obtain ⟨hlt, e⟩ := ifb_some e4
      clear e4
      cases e
      have hk0 := (ltOk_sound hlt).1
      simp only [vrel] at hi
      exact key k hlt ⟨_, by rw [hi, Int.toNat_of_nonneg hk0.2]⟩
    · rename_i ik m
      obtain ⟨k, hk, e⟩ := ob_some e4
      obtain ⟨hlt, e⟩ := ifb_some e
      clear e4
      cases e
      have hv := Tab.vcok _ (findVC_mem hk)
      simp only at hv
      simp only [vrel] at hi
      exact key k hlt ⟨ik, by rw [hi, hv]; rfl⟩
    · simp at e4
  · exact indexFor_sound r hx hi e
  · rename_i y
    obtain ⟨⟨f, j, z⟩, hf, e⟩ := ob_some e
    obtain ⟨g1, g2, g3⟩ := Tab.rfok _ (findRF_mem hf)
    simp only [vrel] at hx
    obtain ⟨rfl, _⟩ := hx
    exact indexFor_sound r (by simp only [vrel]; exact ⟨g1, g2, g3⟩) hi e
  · exact indexAddr0_sound r hx hi e
theorem part_sound {t : TypeId} {cs : List AV} {vs : List Value} {off : Nat} {v : AV} (hv : vrels μ cs vs) (e : part? P t cs off = some v) :
    ∃ v', (part t ⟨vs⟩ off).run P w = .ok v' w ∧ vrel μ v v' := by
  obtain ⟨b, hb, e⟩ := ob_some e
  cases b with
  | false =>
    obtain ⟨y, h1, h2⟩ := vrels_get hv e
    exact ⟨y, by simp [part, run_isAgg hb, h1], h2⟩
  | true =>
    obtain ⟨n, hn, e⟩ := ob_some e
    cases e
    refine ⟨_, by simp only [part, Sem.run_bind, run_isAgg hb, Result.andThen_ok, if_true, run_sizeOf hn]; rfl, ?_⟩
    simp only [vrel]
    refine ⟨(vs.drop off).take n, ?_, vrels_take n (vrels_drop off hv)⟩
    congr 1
    apply Array.ext'
    simp [List.drop_take]
theorem index0_sound (r : HR B w0 μ h w) {t : TypeId} {x i v : AV} {xv iv : Value} (hx : vrel μ x xv) (hi : vrel μ i iv) (e : index0? P t x i = some v) :
    OkQ P μ w (Instr.index t xv iv) v := by
  obtain ⟨k, hk, e1⟩ := ob_some e
  clear e
  obtain ⟨d, hd, e⟩ := ob_some e1
  clear e1
  obtain ⟨kk, rfl⟩ := nat_some hk
  simp only [vrel] at hi
  subst hi
  unfold indexD at e
  split at e
  · simp only [vrel] at hx
    obtain ⟨vs, rfl, hv⟩ := hx
    obtain ⟨hlt, e⟩ := ifb_some e
    have hlt := blt_iff.1 hlt
    obtain ⟨z, hz, e⟩ := ob_some e
    obtain ⟨v', h1, h2⟩ := part_sound (P := P) (w := w) hv e
    refine .same r (v' := v') ?_ h2
    simp [Instr.index, asIntOf, run_underlying hd, run_sizeOf hz, h1]
    intro hh
    omega
  · simp only [vrel] at hx
    obtain ⟨hc, rfl⟩ := hx
    rename_i n c
    obtain ⟨hlt, e⟩ := ifb_some e
    have hlt := blt_iff.1 hlt
    cases e
    have hget : (strOf n c)[k]? = some (UInt8.ofNat (c / 256 ^ k % 256)) := by
      have hs : k < (strOf n c).size := by rw [strOf_size]; exact hlt
      rw [getElem?_pos (strOf n c) k hs]
      congr 1
      show (strOf n c).data[k] = _
      have h2 : (strOf n c).data.toList[k]? = some (UInt8.ofNat (c / 256 ^ k % 256)) := by
        simp only [strOf, List.getElem?_map]
        have e1 : (dec n c)[k]? = (dec (n - k) (c / 256 ^ k))[0]? := by
          rw [dec_div k (n - k) c, List.getElem?_drop]
          congr 2; omega
        rw [e1]
        cases hnk : n - k with
        | zero => omega
        | succ q => simp [dec]
      rw [Array.getElem?_toList] at h2
      rw [Array.getElem?_eq_getElem (by exact hs)] at h2
      simpa using h2
    refine .same r (v' := .int .u8 ((c / 256 ^ k % 256 : Nat) : Int)) ?_ (by simp [vrel])
    simp [Instr.index, asIntOf, run_underlying hd, hget]
  · simp at e
theorem isStr_some {d : TypeDesc} (e : isStr d = true) : d = .string := by
  cases d <;> simp [isStr] at e
  rfl
theorem indexT_sound (r : HR B w0 μ h w) {t : TypeId} {x i v : AV} {xv iv : Value} (hx : vrel μ x xv) (hi : vrel μ i iv) (e : indexT P t x i = some v) :
    OkQ P μ w (Instr.index t xv iv) v := by
  obtain ⟨d, hd, e⟩ := ob_some e
  obtain ⟨hs, e⟩ := ifb_some e
  obtain rfl := isStr_some hs
  obtain ⟨b, k, m, y, g1, g2, g3, g4⟩ := findT_ok e
  have := denS_rel g1 hx
  subst this
  have := den_rel g2 hi
  subst this
  refine .same r (v' := .int .u8 (y.toNat : Int)) ?_ (den_mk g4)
  simp [Instr.index, asIntOf, run_underlying hd, g3]
theorem index_sound (r : HR B w0 μ h w) {t : TypeId} {x i v : AV} {xv iv : Value} (hx : vrel μ x xv) (hi : vrel μ i iv) (e : index? P t x i = some v) :
    OkQ P μ w (Instr.index t xv iv) v := by
  unfold index? at e
  split at e
  · exact indexT_sound r hx hi e
  · exact indexT_sound r hx hi e
  · exact index0_sound r hx hi e
theorem fieldOf_some {t : TypeId} {i : Nat} {f : Field} (e : fieldOf P t i = some f) : ∃ fs, P.underlying t = some (.struct fs) ∧ fs[i]? = some f := by
  obtain ⟨d, hd, e⟩ := ob_some e
  obtain ⟨fs, hfs, e⟩ := ob_some e
  cases d <;> simp [asStruct] at hfs
  subst hfs
  exact ⟨_, hd, e⟩
theorem field_sound (r : HR B w0 μ h w) {t : TypeId} {i : Nat} {x v : AV} {xv : Value} (hx : vrel μ x xv) (e : field? P t x i = some v) :
    OkQ P μ w (Instr.field t xv i) v := by
  cases x with
  | agg cs =>
    simp only [vrel] at hx
    obtain ⟨vs, rfl, hv⟩ := hx
    obtain ⟨f, hf, e⟩ := ob_some e
    obtain ⟨fs, h1, h2⟩ := fieldOf_some hf
    obtain ⟨v', h3, h4⟩ := part_sound (P := P) (w := w) hv e
    exact .same r (v' := v') (by simp [Instr.field, run_underlying h1, h2, asAgg, h3]) h4
  | _ => simp [field?] at e
theorem fieldAddr_sound (r : HR B w0 μ h w) {t : TypeId} {i : Nat} {x v : AV} {xv : Value} (hx : vrel μ x xv) (e : fieldAddr? P t x i = some v) :
    OkQ P μ w (Instr.fieldAt t xv i) v := by
  cases x with
  | ptr y o =>
    simp only [vrel] at hx
    obtain ⟨l, hl, rfl⟩ := hx
    obtain ⟨k, hk, e⟩ := ob_some e
    cases e
    obtain ⟨f, hf, hk⟩ := ob_some hk
    obtain ⟨n, hn, hk⟩ := ob_some hk
    obtain ⟨hpos, hk⟩ := ifb_some hk
    cases hk
    have hpos := blt_iff.1 hpos
    obtain ⟨fs, h1, h2⟩ := fieldOf_some hf
    refine .same r (v' := .pointer (some ⟨l.block, l.base + o + f.offset, none⟩)) ?_ (by simp only [vrel]; exact ⟨l, hl, by simp [Nat.add_assoc]⟩)
    have h0 : n ≠ 0 := by omega
    simp [Instr.fieldAt, run_underlying h1, h2, Instr.sureAddr, fieldPlace, run_sizeOf hn, h0, Addr.add_lit]
  | gp y o =>
    simp only [vrel] at hx
    subst hx
    obtain ⟨k, hk, e⟩ := ob_some e
    cases e
    obtain ⟨f, hf, hk⟩ := ob_some hk
    obtain ⟨n, hn, hk⟩ := ob_some hk
    obtain ⟨hpos, hk⟩ := ifb_some hk
    cases hk
    have hpos := blt_iff.1 hpos
    obtain ⟨fs, h1, h2⟩ := fieldOf_some hf
    refine .same r (v' := .pointer (some ⟨y, o + f.offset, none⟩)) ?_ (by simp only [vrel]; rfl)
    have h0 : n ≠ 0 := by omega
    simp [Instr.fieldAt, run_underlying h1, h2, Instr.sureAddr, fieldPlace, run_sizeOf hn, h0, Addr.add_lit]
  | fp y j z o =>
    simp only [vrel] at hx
    obtain ⟨hj0, rfl⟩ := hx
    obtain ⟨k, hk, e⟩ := ob_some e
    cases e
    obtain ⟨f, hf, hk⟩ := ob_some hk
    obtain ⟨n, hn, hk⟩ := ob_some hk
    obtain ⟨hpos, hk⟩ := ifb_some hk
    cases hk
    have hpos := blt_iff.1 hpos
    obtain ⟨fs, h1, h2⟩ := fieldOf_some hf
    refine .same r (v' := .pointer (some ⟨(Tab.fb y).1, (Tab.fb y).2 + ((Tab.iv j).2.toNat * z + o) + f.offset, none⟩)) ?_ (by simp only [vrel]; exact ⟨hj0, by simp [Nat.add_assoc]⟩)
    have h0 : n ≠ 0 := by omega
    simp [Instr.fieldAt, run_underlying h1, h2, Instr.sureAddr, fieldPlace, run_sizeOf hn, h0, Addr.add_lit]
  | op y j z o =>
    simp only [vrel] at hx
    obtain ⟨hj0, l, hl, rfl⟩ := hx
    obtain ⟨k, hk, e⟩ := ob_some e
    cases e
    obtain ⟨f, hf, hk⟩ := ob_some hk
    obtain ⟨n, hn, hk⟩ := ob_some hk
    obtain ⟨hpos, hk⟩ := ifb_some hk
    cases hk
    have hpos := blt_iff.1 hpos
    obtain ⟨fs, h1, h2⟩ := fieldOf_some hf
    refine .same r (v' := .pointer (some ⟨l.block, l.base + ((Tab.iv j).2.toNat * z + o) + f.offset, none⟩)) ?_ (by simp only [vrel]; exact ⟨hj0, l, hl, by simp [Nat.add_assoc]⟩)
    have h0 : n ≠ 0 := by omega
    simp [Instr.fieldAt, run_underlying h1, h2, Instr.sureAddr, fieldPlace, run_sizeOf hn, h0, Addr.add_lit]
  | _ => simp [fieldAddr?] at e
end Go.X
set_option linter.unusedVariables false
set_option linter.unusedSimpArgs false
set_option linter.unusedSectionVars false
namespace Go.X
open Go.RowKit
variable [Tab]
variable {P : Program} {B : Kp} {w0 : World} {μ : M} {h h' : H} {w w' : World}
theorem run_getObj_map {r : Nat} {es : Array MapEntry} {c : Nat} (hw : w.heap[r]? = some (.map es c)) : (getObj r).run P w = .ok (.map es c) w := by
  simp [getObj, Sem.run, hw]
theorem run_getObj_siter {r : Nat} {s : ByteArray} {c : Nat} (hw : w.heap[r]? = some (.stringIter s c)) : (getObj r).run P w = .ok (.stringIter s c) w := by
  simp [getObj, Sem.run, hw]
theorem run_getObj_miter {r : Nat} {m : Option Nat} {a : Nat} {s : Array Nat} {c : Nat} (hw : w.heap[r]? = some (.mapIter m a s c)) : (getObj r).run P w = .ok (.mapIter m a s c) w := by
  simp [getObj, Sem.run, hw]
theorem run_setObj_map {r : Nat} {es : Array MapEntry} {c : Nat} (o : Obj) (hw : w.heap[r]? = some (.map es c)) : (setObj r o).run P w = .ok () { w with heap := w.heap.setIfInBounds r o } := by
  simp [setObj, Sem.run, hw]
theorem run_setObj_siter {r : Nat} {s : ByteArray} {c : Nat} (o : Obj) (hw : w.heap[r]? = some (.stringIter s c)) : (setObj r o).run P w = .ok () { w with heap := w.heap.setIfInBounds r o } := by
  simp [setObj, Sem.run, hw]
theorem run_setObj_miter {r : Nat} {m : Option Nat} {a : Nat} {s : Array Nat} {c : Nat} (o : Obj) (hw : w.heap[r]? = some (.mapIter m a s c)) : (setObj r o).run P w = .ok () { w with heap := w.heap.setIfInBounds r o } := by
  simp [setObj, Sem.run, hw]
theorem upd_setObj (w : World) (r : Nat) (o : Obj) : Upd r w { w with heap := w.heap.setIfInBounds r o } :=
  ⟨rfl, rfl, rfl, by simp, fun k hk => by
    show (w.heap.setIfInBounds r o)[k]? = _
    rw [Array.getElem?_setIfInBounds, if_neg (fun e => hk e.symm)]⟩
theorem get_setObj {w : World} {r : Nat} {o o' : Obj} (hw : w.heap[r]? = some o') : ({ w with heap := w.heap.setIfInBounds r o } : World).heap[r]? = some o := by
  show (w.heap.setIfInBounds r o)[r]? = _
  have := (Array.getElem?_eq_some_iff.1 hw).1
  rw [Array.getElem?_setIfInBounds, if_pos rfl, if_pos this]
theorem esrel_length : ∀ {es : List (AV × AV × Nat)} {es' : List MapEntry}, esrel μ es es' → es'.length = es.length
  | [], es', e => by simp only [esrel] at e; subst e; rfl
  | a :: l, es', e => by
    simp only [esrel] at e
    obtain ⟨x, r, rfl, _, _, _, h5⟩ := e
    simp [esrel_length h5]
theorem clear_sound (r : HR B w0 μ h w) {t ty : TypeId} {ats : Array TypeId} {args : Array Value} {x : AV} {xv : Value} {p : AV × H} (hat : ats[0]? = some t) (har : args[0]? = some xv) (hx : vrel μ x xv) (e : clear? P h t x = some p) :
    OkV P B w0 μ w (Builtin.clear_ ats ty args) p.1 p.2 := by
  obtain ⟨d, hd, e⟩ := ob_some e
  have hu : vrel μ AV.undef (.tuple #[]) := by simp only [AV.undef, vrel]; exact ⟨[], rfl, by simp [vrels]⟩
  have key : ∀ (y o n c : Nat) (l : Loc) (h1 : H), μ y = some l → clearRow P h t y o n = some h1 → args[0]? = some (.slice (some ⟨l.block, l.base + o, none⟩) n c) → OkV P B w0 μ w (Builtin.clear_ ats ty args) .undef h1 := by
    intro y o n c l h1 hl ec har
    unfold clearRow at ec
    cases n with
    | zero =>
      have ec' : some h = some h1 := ec
      cases ec'
      exact .same r (v' := .tuple #[]) (by simp [Builtin.clear_, hat, har, run_underlying hd]) hu
    | succ k =>
      have hb : Nat.beq (k + 1) 0 = false := rfl
      rw [hb] at ec
      obtain ⟨el, hel, ec⟩ := ob_some ec
      obtain ⟨z, hz, ec⟩ := ob_some ec
      obtain ⟨hpos, ec⟩ := ifb_some ec
      have hst := sliceElem_some hel
      rw [hd] at hst
      cases hst
      obtain ⟨i, hi, hz⟩ := ob_some hz
      obtain ⟨zv, hzv, hz⟩ := ob_some hz
      have hzr : vrel μ z zv := ofValue_sound hz
      have hcs := zeroCells_sound hzr (blt_iff.1 hpos) (k + 1)
      obtain ⟨w', k1, k2⟩ := HR.stores (P := P) hl _ _ o 0 h h1 w r ec hcs
      refine ⟨.tuple #[], w', μ, ?_, Ext.refl _, hu, k2⟩
      simp [Builtin.clear_, hat, har, run_underlying hd, run_zeroValue hi hzv, k1]
  cases x with
  | nils =>
    cases e
    simp only [vrel] at hx; subst hx
    exact .same r (v' := .tuple #[]) (by simp [Builtin.clear_, hat, har, run_underlying hd]) hu
  | nilm =>
    cases e
    simp only [vrel] at hx; subst hx
    exact .same r (v' := .tuple #[]) (by simp [Builtin.clear_, hat, har, run_underlying hd]) hu
  | es =>
    cases e
    simp only [vrel] at hx; obtain ⟨b, c, rfl⟩ := hx
    exact .same r (v' := .tuple #[]) (by simp [Builtin.clear_, hat, har, run_underlying hd]) hu
  | sl y o n c =>
    obtain ⟨h1, hc, e⟩ := ob_some e
    cases e
    simp only [vrel] at hx; obtain ⟨l, hl, rfl⟩ := hx
    exact key y o n c l h1 hl hc har
  | so y o n c =>
    obtain ⟨h1, hc, e⟩ := ob_some e
    cases e
    simp only [vrel] at hx; obtain ⟨l, cc, hl, _, _, rfl⟩ := hx
    exact key y o n cc l h1 hl hc har
  | ow y a j =>
    obtain ⟨el, hel, e⟩ := ob_some e
    obtain ⟨z, hz, e⟩ := ob_some e
    obtain ⟨bl, hb, e⟩ := ob_some e
    obtain ⟨i, hi, e⟩ := ob_some e
    obtain ⟨i', hf, e⟩ := ob_some e
    obtain ⟨hlim, e⟩ := ifb_some e
    cases e
    have := vecIn_some hi
    subst this
    have hst := sliceElem_some hel
    rw [hd] at hst
    cases hst
    obtain ⟨zc, hm, hzc⟩ := findCL_some hf
    obtain ⟨o1, o2, o3⟩ := Tab.clok _ hm
    simp only at o1 o2 o3
    simp only [vrel] at hx
    obtain ⟨a0, j0, jp, l, c, hl, hac, rfl⟩ := hx
    obtain ⟨ii, hii, hz⟩ := ob_some hz
    obtain ⟨zv, hzv, hz⟩ := ob_some hz
    have hzr : vrel μ z zv := ofValue_sound hz
    have hcs := zeroCells_sound hzr (by rw [hzc]; simp) (Tab.iv j).2.toNat
    have hlen : (Builtin.zeroCells zv.cells (Tab.iv j).2.toNat).toList.length = (Tab.iv j).2.toNat := by rw [vrels_length hcs, cyc_length, hzc]; simp
    simp only [Bool.and_eq_true, blt_iff] at hlim
    obtain ⟨hlim, hpl⟩ := hlim
    rw [hzc] at hcs hpl
    have hcy : ∀ m, m < (Tab.iv j).2.toNat → (cyc [zc] 0 ((Tab.iv j).2.toNat * [zc].length))[m]? = some zc := fun m hm => by
      rw [cyc_get _ _ _ _ (by simpa using hm)]
      simp [Nat.mod_one]
    have hone : ∀ q ∈ cyc [zc] 0 ((Tab.iv j).2.toNat * [zc].length), q.one = true := fun q hq => by
      obtain ⟨m, hm⟩ := List.getElem?_of_mem hq
      have hmn := (List.getElem?_eq_some_iff.1 hm).1
      rw [cyc_length] at hmn
      rw [hcy m (by simpa using hmn)] at hm
      cases hm
      exact plain_one (allPlain_iff hpl _ (by simp))
    obtain ⟨w', k1, k2⟩ := vpart_sound (P := P) (vs := (Builtin.zeroCells zv.cells (Tab.iv j).2.toNat).toList) (o := (Tab.iv a).2.toNat) (i' := i') r hb hl hlim (by omega) o2 (vrels_one_all hcs hone) (fun arr g5 m u hu => by
      obtain ⟨y, y1, y2⟩ := o3 m u hu
      rw [hlen]
      split at y1
      · rename_i c1
        cases y1
        obtain ⟨v, v1, v2⟩ := vrels_get hcs (hcy (m - (Tab.iv a).2.toNat) (by omega))
        exact ⟨v, by rw [if_pos c1]; exact v1, y2.vrel v2⟩
      · rename_i c1
        obtain ⟨v, v1, v2⟩ := g5 m y y1
        exact ⟨v, by rw [if_neg c1]; exact v1, y2.vrel v2⟩)
    have hjp : (Tab.iv j).2.toNat ≠ 0 := by have := j0.2; omega
    refine ⟨.tuple #[], w', μ, ?_, Ext.refl _, hu, k2⟩
    cases hjn : (Tab.iv j).2.toNat with
    | zero => exact absurd hjn hjp
    | succ n =>
      rw [hjn] at k1
      simp [Builtin.clear_, hat, har, hjn, run_underlying hd, run_zeroValue hii hzv, k1]
  | _ => simp at e
theorem findRL_mem {i : Nat} {v : AV} : ∀ {l : List (Nat × AV)}, findRL i l = some v → (i, v) ∈ l
  | [], e => by have e' : (none : Option AV) = some v := e; cases e'
  | r :: l, e => by
    have e' : (@Bool.rec (fun _ => Option AV) (findRL i l) (some r.2) (Nat.beq r.1 i)) = some v := e
    cases h1 : Nat.beq r.1 i with
    | false => rw [h1] at e'; exact List.mem_cons_of_mem _ (findRL_mem e')
    | true =>
      rw [h1] at e'
      cases e'
      rw [← nbeq_iff.1 h1]
      exact List.mem_cons_self
theorem len_sound (r : HR B w0 μ h w) {t ty : TypeId} {ats : Array TypeId} {args : Array Value} {x v : AV} {xv : Value} (hat : ats[0]? = some t) (har : args[0]? = some xv) (hx : vrel μ x xv) (e : len? P h t x = some v) :
    OkQ P μ w (Builtin.len_ ats ty args) v := by
  obtain ⟨d, hd, e⟩ := ob_some e
  unfold lenD at e
  split at e
  all_goals first | (simp at e; done) | skip
  case h_7 =>
    obtain ⟨b, hb, e⟩ := ob_some e
    obtain ⟨l, hl, _, _, hr⟩ := r.blk _ b hb
    cases b with
    | map es c =>
      simp only [mapLen] at e
      cases e
      simp only [vrel] at hx
      obtain ⟨l', hl', rfl⟩ := hx
      rw [hl] at hl'; cases hl'
      obtain ⟨es', h1, h2⟩ := hr
      refine .same r (v' := .int .i64 (es'.length : Int)) ?_ (by simp [vrel, esrel_length h2])
      simp [Builtin.len_, hat, har, run_underlying hd, run_getObj_map h1, goInt]
    | omap i =>
      simp only [vrel] at hx
      obtain ⟨l', hl', rfl⟩ := hx
      rw [hl] at hl'; cases hl'
      simp only [brel] at hr
      have hn := Tab.meok _ (findRL_mem e)
      refine .same r (v' := .int .i64 (((Tab.mm i).1.length : Nat) : Int)) ?_ (den_mk hn)
      simp [Builtin.len_, hat, har, run_underlying hd, run_getObj_map hr, goInt]
    | _ => simp [mapLen] at e
  all_goals (try cases e)
  case h_2 => exact .same r (v' := .int .i64 _) (by simp [Builtin.len_, hat, har, run_underlying hd, goInt]; rfl) (by simp [vrel])
  case h_9 _ _ j _ =>
    simp only [vrel] at hx
    obtain ⟨hj0, l, c, _, _, _, rfl⟩ := hx
    refine .same r (v' := .int .i64 ((Tab.iv j).2.toNat : Int)) (by simp [Builtin.len_, hat, har, run_underlying hd, goInt]) ?_
    simp only [vrel]
    rw [hj0.1, Int.toNat_of_nonneg hj0.2]
  case h_10 _ _ j _ =>
    simp only [vrel] at hx
    obtain ⟨hj0, _, rfl⟩ := hx
    refine .same r (v' := .int .i64 ((Tab.iv j).2.toNat : Int)) (by simp [Builtin.len_, hat, har, run_underlying hd, goInt]) ?_
    simp only [vrel]
    rw [hj0.1, Int.toNat_of_nonneg hj0.2]
  case h_11 =>
    obtain ⟨b, g1, g2⟩ := findT_ok e
    have := denS_rel g1 hx
    subst this
    exact .same r (v' := .int .i64 (b.size : Int)) (by simp [Builtin.len_, hat, har, run_underlying hd, goInt]) (den_mk g2)
  case h_12 =>
    obtain ⟨b, n, c, g1, g2⟩ := Tab.rlok _ (findRL_mem e)
    simp only [vrel] at hx
    obtain ⟨rfl, _⟩ := hx
    rw [g1] at har
    exact .same r (v' := .int .i64 (n : Int)) (by simp [Builtin.len_, hat, har, run_underlying hd, goInt]) (den_mk g2)
  all_goals simp only [vrel] at hx
  all_goals (try obtain ⟨_, _, rfl⟩ := hx)
  all_goals (try obtain ⟨_, _, _, _, _, rfl⟩ := hx)
  all_goals (try obtain ⟨_, rfl⟩ := hx)
  all_goals (try subst hx)
  all_goals exact .same r (v' := .int .i64 _) (by simp [Builtin.len_, hat, har, run_underlying hd, goInt, strOf_size]; try rfl) (by simp [vrel])
theorem cap_sound (r : HR B w0 μ h w) {t ty : TypeId} {ats : Array TypeId} {args : Array Value} {x v : AV} {xv : Value} (hat : ats[0]? = some t) (har : args[0]? = some xv) (hx : vrel μ x xv) (e : cap? P t x = some v) :
    OkQ P μ w (Builtin.cap_ ats ty args) v := by
  obtain ⟨d, hd, e⟩ := ob_some e
  unfold capD at e
  split at e
  all_goals first | (simp at e; done) | skip
  all_goals
    cases e
    simp only [vrel] at hx
  all_goals (try obtain ⟨_, _, rfl⟩ := hx)
  all_goals (try subst hx)
  all_goals exact .same r (v' := .int .i64 _) (by simp [Builtin.cap_, hat, har, run_underlying hd, goInt]; try rfl) (by simp [vrel])
theorem min_named {μ : M} {a b c : AV} {av bv : Value} (ha : vrel μ a av) (hb : vrel μ b bv) (e : mmB a b (findB 11 b a Tab.ib) = some c) : ∃ k x k' y, av = .int k x ∧ bv = .int k' y ∧ vrel μ c (.int k (if y < x then y else x)) := by
  cases hf : findB 11 b a Tab.ib with
  | none => rw [hf] at e; cases e
  | some t =>
    rw [hf] at e
    obtain ⟨k', y, k, x, q, h1, h2, h3, h4⟩ := Tab.ibok _ (findB_mem hf) .lss rfl
    have e1 := den_rel h1 hb
    have e2 := den_rel h2 ha
    subst e1 e2
    have h3' : ifb (Nat.beq (kcode k') (kcode k)) (some (.bool (decide (y < x)))) = some q := h3
    have hk : k' = k := by
      cases hq : Nat.beq (kcode k') (kcode k) with
      | false => rw [hq] at h3'; cases h3'
      | true => have h8 := nbeq_iff.1 hq; cases k' <;> cases k <;> first | rfl | (simp [kcode] at h8)
    subst hk
    have hq : Nat.beq (kcode k') (kcode k') = true := by cases k' <;> rfl
    rw [hq] at h3'
    have h5 : q = .bool (decide (y < x)) := (Option.some.inj h3').symm
    cases t with
    | bool c0 =>
      rw [h5] at h4
      have h6 : c0 = decide (y < x) := by simpa [outI] using h4
      have e' : some (Bool.rec a b c0 : AV) = some c := e
      refine ⟨k', x, k', y, rfl, rfl, ?_⟩
      cases c0 with
      | true =>
        have h7 : y < x := by simpa using h6
        rw [if_pos h7, ← Option.some.inj e']
        exact den_mk h1
      | false =>
        have h7 : ¬ (y < x) := by simpa using h6
        rw [if_neg h7, ← Option.some.inj e']
        exact den_mk h2
    | _ => cases e
theorem max_named {μ : M} {a b c : AV} {av bv : Value} (ha : vrel μ a av) (hb : vrel μ b bv) (e : mmB a b (findB 13 b a Tab.ib) = some c) : ∃ k x k' y, av = .int k x ∧ bv = .int k' y ∧ vrel μ c (.int k (if y > x then y else x)) := by
  cases hf : findB 13 b a Tab.ib with
  | none => rw [hf] at e; cases e
  | some t =>
    rw [hf] at e
    obtain ⟨k', y, k, x, q, h1, h2, h3, h4⟩ := Tab.ibok _ (findB_mem hf) .gtr rfl
    have e1 := den_rel h1 hb
    have e2 := den_rel h2 ha
    subst e1 e2
    have h3' : ifb (Nat.beq (kcode k') (kcode k)) (some (.bool (decide (y > x)))) = some q := h3
    have hk : k' = k := by
      cases hq : Nat.beq (kcode k') (kcode k) with
      | false => rw [hq] at h3'; cases h3'
      | true => have h8 := nbeq_iff.1 hq; cases k' <;> cases k <;> first | rfl | (simp [kcode] at h8)
    subst hk
    have hq : Nat.beq (kcode k') (kcode k') = true := by cases k' <;> rfl
    rw [hq] at h3'
    have h5 : q = .bool (decide (y > x)) := (Option.some.inj h3').symm
    cases t with
    | bool c0 =>
      rw [h5] at h4
      have h6 : c0 = decide (y > x) := by simpa [outI] using h4
      have e' : some (Bool.rec a b c0 : AV) = some c := e
      refine ⟨k', x, k', y, rfl, rfl, ?_⟩
      cases c0 with
      | true =>
        have h7 : y > x := by simpa using h6
        rw [if_pos h7, ← Option.some.inj e']
        exact den_mk h1
      | false =>
        have h7 : ¬ (y > x) := by simpa using h6
        rw [if_neg h7, ← Option.some.inj e']
        exact den_mk h2
    | _ => cases e
theorem min_sound (r : HR B w0 μ h w) : ∀ {l : List AV} {vs : List Value} {a v : AV} {av : Value}, vrel μ a av → vrels μ l vs → fold2 min2? l a = some v → ∃ v', (vs.foldlM Builtin.min2 av).run P w = .ok v' w ∧ vrel μ v v'
  | [], vs, a, v, av, ha, hl, e => by
    simp only [vrels] at hl; subst hl
    simp only [fold2] at e; cases e
    exact ⟨av, by simp, ha⟩
  | x :: l, vs, a, v, av, ha, hl, e => by
    simp only [vrels] at hl
    obtain ⟨xv, r', rfl, hx, hl⟩ := hl
    obtain ⟨b, hb, e⟩ := ob_some e
    unfold min2? at hb
    split at hb
    · cases hb
      simp only [vrel] at ha hx
      subst ha hx
      obtain ⟨v', h1, h2⟩ := min_sound r (a := .int _ _) (av := .int _ _) (by simp only [vrel]; rfl) hl e
      exact ⟨v', by simp only [List.foldlM_cons, Builtin.min2, Sem.run_bind, Sem.run_pure, Result.andThen_ok]; exact h1, h2⟩
    · obtain ⟨k, x_, k', y_, rfl, rfl, hc⟩ := min_named ha hx hb
      obtain ⟨v', h1, h2⟩ := min_sound r hc hl e
      exact ⟨v', by simp only [List.foldlM_cons, Builtin.min2, Sem.run_bind, Sem.run_pure, Result.andThen_ok]; exact h1, h2⟩
theorem max_sound (r : HR B w0 μ h w) : ∀ {l : List AV} {vs : List Value} {a v : AV} {av : Value}, vrel μ a av → vrels μ l vs → fold2 max2? l a = some v → ∃ v', (vs.foldlM Builtin.max2 av).run P w = .ok v' w ∧ vrel μ v v'
  | [], vs, a, v, av, ha, hl, e => by
    simp only [vrels] at hl; subst hl
    simp only [fold2] at e; cases e
    exact ⟨av, by simp, ha⟩
  | x :: l, vs, a, v, av, ha, hl, e => by
    simp only [vrels] at hl
    obtain ⟨xv, r', rfl, hx, hl⟩ := hl
    obtain ⟨b, hb, e⟩ := ob_some e
    unfold max2? at hb
    split at hb
    · cases hb
      simp only [vrel] at ha hx
      subst ha hx
      obtain ⟨v', h1, h2⟩ := max_sound r (a := .int _ _) (av := .int _ _) (by simp only [vrel]; rfl) hl e
      exact ⟨v', by simp only [List.foldlM_cons, Builtin.max2, Sem.run_bind, Sem.run_pure, Result.andThen_ok]; exact h1, h2⟩
    · obtain ⟨k, x_, k', y_, rfl, rfl, hc⟩ := max_named ha hx hb
      obtain ⟨v', h1, h2⟩ := max_sound r hc hl e
      exact ⟨v', by simp only [List.foldlM_cons, Builtin.max2, Sem.run_bind, Sem.run_pure, Result.andThen_ok]; exact h1, h2⟩
theorem plain_of {d : TypeDesc} {k : AV} {kv : Value} (hp : plainKey d k = true) (hk : vrel μ k kv) : (∃ q q' n, d = .int q ∧ kv = .int q' n) ∨ (∃ s, d = .string ∧ kv = .string s) ∨ (∃ b, d = .bool ∧ k = .bool b ∧ kv = .bool b) := by
  unfold plainKey at hp
  split at hp
  · simp only [vrel] at hk; exact .inl ⟨_, _, _, rfl, hk⟩
  · simp only [vrel] at hk; exact .inl ⟨_, _, _, rfl, hk⟩
  · simp only [vrel] at hk; exact .inr (.inl ⟨_, rfl, hk.2⟩)
  · simp only [vrel] at hk; exact .inr (.inr ⟨_, rfl, rfl, hk⟩)
  · simp only [vrel] at hk; exact .inr (.inl ⟨_, rfl, hk⟩)
  · simp at hp
theorem checkKey_sound {emp : Bool} {t : TypeId} {d : TypeDesc} {k : AV} {kv : Value} (hd : P.underlying t = some d) (hp : plainKey d k = true) (hk : vrel μ k kv) (n : Nat) : (Instr.checkKey emp (n + 1) t kv).run P w = .ok () w := by
  rcases plain_of hp hk with ⟨q, q', m, rfl, rfl⟩ | ⟨s, rfl, rfl⟩ | ⟨b, rfl, rfl, rfl⟩ <;> simp [Instr.checkKey, run_underlying hd]
theorem ba_beq (a b : ByteArray) : (a == b) = true ↔ a = b := by
  cases a with
  | mk x =>
    cases b with
    | mk y =>
      show (x == y) = true ↔ _
      simp
theorem tKey {x y : AV} {e : Bool} {xv yv : Value} (hx : vrel μ x xv) (hy : vrel μ y yv) (h : tEq x y = some e) : Instr.sameNow .string xv yv = some e ∧ (e = true → xv = yv) := by
  obtain ⟨a, b, rfl, rfl, h⟩ := tEq_sound hx hy h
  have : (a == b) = e := by rw [Bool.eq_iff_iff, ba_beq, h]
  exact ⟨by simp [Instr.sameNow, this], fun k => by rw [h.1 k]⟩
theorem iKey {q : IntKind} {x y : AV} {e : Bool} {xv yv : Value} (hx : vrel μ x xv) (hy : vrel μ y yv) (h : iEq x y = some e) : Instr.sameNow (.int q) xv yv = some e ∧ (e = true → xv = yv) := by
  unfold iEq at h
  cases hb : findB 9 x y Tab.ib with
  | none => rw [hb] at h; cases h
  | some v =>
    rw [hb] at h
    have hv : v = .bool e := by cases v <;> simp [bOf] at h; rw [h]
    subst hv
    obtain ⟨k, a, k', b, v', h1, h2, h3, h4⟩ := Tab.ibok _ (findB_mem hb) .eql rfl
    have h5 : v' = .bool e := by cases v' <;> simp [outI, denI] at h4; rw [h4]
    subst h5
    have h6 : (Bool.rec (ifb (Nat.beq (kcode k) (kcode k')) (intOp .eql k a b)) (shiftOp .eql k a b) false : Option AV) = some (.bool e) := h3
    obtain ⟨h7, h8⟩ := ifb_some h6
    obtain rfl := kcode_inj h7
    have h9 : some (AV.bool (a == b)) = some (.bool e) := h8
    cases h9
    have hx' : xv = .int k a := by
      cases x <;> simp [denI] at h1
      · obtain ⟨rfl, rfl⟩ := h1; simpa only [vrel] using hx
      · simp only [vrel] at hx; rw [hx, h1]
    have hy' : yv = .int k b := by
      cases y <;> simp [denI] at h2
      · obtain ⟨rfl, rfl⟩ := h2; simpa only [vrel] using hy
      · simp only [vrel] at hy; rw [hy, h2]
    subst hx' hy'
    exact ⟨by simp [Instr.sameNow], fun hh => by simp at hh; rw [hh]⟩
theorem keyEq_sound {d : TypeDesc} {k k' : AV} {kv kv' : Value} {b : Bool} (e : keyEq d k k' = some b) (hk : vrel μ k kv) (hk' : vrel μ k' kv') : Instr.sameNow d kv kv' = some b ∧ (b = true → kv = kv') := by
  unfold keyEq at e
  split at e
  · obtain ⟨h1, e⟩ := ifb_some e
    cases e
    obtain rfl := kcode_inj h1
    simp only [vrel] at hk hk'
    subst hk hk'
    exact ⟨by simp [Instr.sameNow], fun hh => by simp at hh; rw [hh]⟩
  · cases e
    simp only [vrel] at hk hk'
    obtain ⟨hc, rfl⟩ := hk
    obtain ⟨hd, rfl⟩ := hk'
    rename_i n c m q
    have heq : (strOf n c == strOf m q) = strEq n c m q := by
      rw [Bool.eq_iff_iff, ba_beq, strEq_iff hc hd]
    exact ⟨by simp [Instr.sameNow, heq], fun hh => by rw [(strEq_iff hc hd).1 hh]⟩
  · cases e
    simp only [vrel] at hk hk'
    subst hk hk'
    exact ⟨by simp [Instr.sameNow], fun hh => by simp at hh; rw [hh]⟩
  all_goals first | (simp at e; done) | skip
  · rename_i i j
    cases hij : Nat.beq i j with
    | false => rw [hij] at e; exact tKey hk hk' e
    | true =>
      rw [hij] at e
      cases e
      have := nbeq_iff.1 hij
      subst this
      simp only [vrel] at hk hk'
      subst hk hk'
      exact ⟨by simp [Instr.sameNow, (ba_beq _ _).2 rfl], fun _ => rfl⟩
  · exact tKey hk hk' e
  · exact tKey hk hk' e
  · exact iKey hk hk' e
  · exact iKey hk hk' e
  · exact iKey hk hk' e
theorem findKey_sound {d : TypeDesc} {k : AV} {kv : Value} (hk : vrel μ k kv) : ∀ {es : List (AV × AV × Nat)} {es' : List MapEntry} {i : Nat} {res : Option (Nat × AV × Nat)}, esrel μ es es' → findKey? d k es i = some res →
    match res with
    | none => Instr.findNow d kv es' i = some none
    | some (j, v, b) => ∃ e', Instr.findNow d kv es' i = some (some (j, e'.val)) ∧ vrel μ v e'.val ∧ i ≤ j ∧ es'[j - i]? = some e' ∧ e'.born = b ∧ e'.key = kv
  | [], es', i, res, he, e => by
    simp only [esrel] at he; subst he
    simp only [findKey?] at e; cases e
    simp [Instr.findNow]
  | a :: es, es', i, res, he, e => by
    simp only [esrel] at he
    obtain ⟨x, r, rfl, h1, h2, h3, h4⟩ := he
    simp only [findKey?] at e
    obtain ⟨b, hb, e⟩ := ob_some e
    obtain ⟨g1, g2⟩ := keyEq_sound hb hk h1
    cases b with
    | true =>
      cases e
      exact ⟨x, by simp [Instr.findNow, g1], h2, Nat.le_refl _, by simp, h3, (g2 rfl).symm⟩
    | false =>
      have ih := findKey_sound hk (i := i + 1) h4 e
      cases res with
      | none => simp only at ih ⊢; simp [Instr.findNow, g1, ih]
      | some q =>
        obtain ⟨j, v, bb⟩ := q
        simp only at ih ⊢
        obtain ⟨e', k1, k2, k3, k4, k5, k6⟩ := ih
        refine ⟨e', by simp [Instr.findNow, g1, k1], k2, by omega, ?_, k5, k6⟩
        rw [show j - i = (j - (i + 1)) + 1 by omega, List.getElem?_cons_succ]; exact k4
theorem asMap_some {d : TypeDesc} {ke : TypeId × TypeId} (e : asMap d = some ke) : d = .map ke.1 ke.2 := by
  cases d <;> simp [asMap] at e
  subst e; rfl
theorem mapIn_some {b : Blk} {p : List (AV × AV × Nat) × Nat} (e : mapIn b = some p) : b = .map p.1 p.2 := by
  cases b <;> simp [mapIn] at e
  subst e; rfl
theorem mapOf_sound (r : HR B w0 μ h w) {x : AV} {xv : Value} {es : List (AV × AV × Nat)} (hx : vrel μ x xv) (e : mapOf h x = some es) :
    ∃ es' : Array MapEntry, esrel μ es es'.toList ∧ (xv = .map none ∧ es' = #[] ∨ ∃ b c, xv = .map (some b) ∧ w.heap[b]? = some (.map es' c)) := by
  unfold mapOf at e
  split at e
  · cases e
    simp only [vrel] at hx
    exact ⟨#[], by simp [esrel], .inl ⟨hx, rfl⟩⟩
  · obtain ⟨b, hb, e⟩ := ob_some e
    obtain ⟨p, hp, e⟩ := ob_some e
    cases e
    obtain rfl := mapIn_some hp
    obtain ⟨l, hl, _, _, es', h1, h2⟩ := r.blk _ _ hb
    simp only [vrel] at hx
    obtain ⟨l', hl', rfl⟩ := hx
    rw [hl] at hl'; cases hl'
    exact ⟨⟨es'⟩, h2, .inr ⟨_, _, rfl, h1⟩⟩
  · simp at e
def kdOk (d : TypeDesc) (k : MK) : Prop := match k with
  | .n _ => ∃ q, d = .int q
  | .s _ => d = .string
theorem keyEq_lit {d : TypeDesc} {k k' : MK} (hd : kdOk d k) (ht : k'.txt = k.txt) : keyEq d k.av k'.av = some (decide (k = k')) := by
  cases k with
  | n i =>
    cases k' with
    | s b => cases ht
    | n j =>
      obtain ⟨q, rfl⟩ := hd
      show ifb (Nat.beq (kcode .i64) (kcode .i64)) (some (i == j)) = _
      show some (i == j) = _
      congr 1
      rw [Bool.eq_iff_iff, beq_iff_eq, decide_eq_true_iff]
      exact ⟨fun h => by rw [h], fun h => MK.n.inj h⟩
  | s b =>
    cases k' with
    | n i => cases ht
    | s c =>
      have hd : d = .string := hd
      subst hd
      show some (strEq b.size (enc b.data.toList) c.size (enc c.data.toList)) = _
      congr 1
      rw [Bool.eq_iff_iff, decide_eq_true_iff]
      unfold strEq
      rw [Bool.and_eq_true, nbeq_iff, nbeq_iff]
      refine ⟨fun h => ?_, fun h => by cases h; exact ⟨rfl, rfl⟩⟩
      have h1 := strOf_enc b.data.toList
      have h2 := strOf_enc c.data.toList
      have e1 : b.data.toList.length = b.size := rfl
      have e2 : c.data.toList.length = c.size := rfl
      rw [e1, h.1, h.2, ← e2, h2] at h1
      have h3 : c.data.toList = b.data.toList := by
        have := congrArg (fun x : ByteArray => x.data.toList) h1
        simpa using this
      have h4 : b.data = c.data := Array.ext' h3.symm
      congr 1
      cases b; cases c
      simp only at h4
      rw [h4]
theorem findKey_lit (q : TypeDesc) (k : MK) (hq : kdOk q k) : ∀ (l : List (MK × Int × Nat)) (ht : ∀ e ∈ l, e.1.txt = k.txt) (i : Nat), (findKey? q k.av (lit l) i = some none ∧ mapL k l = none) ∨
    ∃ j v b, findKey? q k.av (lit l) i = some (some (j + i, .int .i64 v, b)) ∧ mapL k l = some v ∧ ∀ v', ((l.map ent).modify j fun e => { e with key := k.val, val := .int .i64 v' }) = (mapS k v' l).map ent
  | [], _, i => .inl ⟨rfl, rfl⟩
  | e :: l, ht, i => by
    have hk : keyEq q k.av e.1.av = some (decide (k = e.1)) := keyEq_lit hq (ht e List.mem_cons_self)
    have hu : findKey? q k.av (lit (e :: l)) i = ob (keyEq q k.av e.1.av) fun b => Bool.rec (findKey? q k.av (lit l) (i + 1)) (some (some (i, .int .i64 e.2.1, e.2.2))) b := rfl
    rw [hu, hk]
    by_cases c : k = e.1
    · rw [decide_eq_true c]
      refine .inr ⟨0, e.2.1, e.2.2, by rw [Nat.zero_add]; rfl, by simp [mapL, c], fun v' => ?_⟩
      simp [mapS, c, ent]
    · rw [decide_eq_false c]
      rcases findKey_lit q k hq l (fun e h => ht e (List.mem_cons_of_mem _ h)) (i + 1) with ⟨h1, h2⟩ | ⟨j, v, b, h1, h2, h3⟩
      · exact .inl ⟨h1, by simp [mapL, c, h2]⟩
      · refine .inr ⟨j + 1, v, b, ?_, by simp [mapL, c, h2], fun v' => ?_⟩
        · have : j + 1 + i = j + (i + 1) := by omega
          rw [this]; exact h1
        · simp [mapS, c, h3 v']
theorem omapIn_some {b : Blk} {i : Nat} (e : omapIn b = some i) : b = .omap i := by
  cases b <;> simp [omapIn] at e
  subst e; rfl
theorem findML_mem {i : Nat} {k v : AV} {b : Bool} : ∀ {l : List (Nat × AV × AV × Bool)}, findML i k l = some (v, b) → ∃ k', (i, k', v, b) ∈ l ∧ keq k' k = true
  | [], e => by simp [findML] at e
  | r :: l, e => by
    have e' : (@Bool.rec (fun _ => Option (AV × Bool)) (findML i k l) (@Bool.rec (fun _ => Option (AV × Bool)) (findML i k l) (some r.2.2) (keq r.2.1 k)) (Nat.beq r.1 i)) = some (v, b) := e
    cases h1 : Nat.beq r.1 i with
    | false => rw [h1] at e'; obtain ⟨k', g1, g2⟩ := findML_mem e'; exact ⟨k', List.mem_cons_of_mem _ g1, g2⟩
    | true =>
    cases h2 : keq r.2.1 k with
    | false => rw [h1, h2] at e'; obtain ⟨k', g1, g2⟩ := findML_mem e'; exact ⟨k', List.mem_cons_of_mem _ g1, g2⟩
    | true =>
      rw [h1, h2] at e'
      have e2 : some r.2.2 = some (v, b) := e'
      refine ⟨r.2.1, ?_, h2⟩
      have : r = (i, r.2.1, v, b) := by rw [← nbeq_iff.1 h1, ← Option.some.inj e2]
      rw [← this]; exact List.mem_cons_self
theorem findMU_mem {i j : Nat} {k v : AV} : ∀ {l : List (Nat × AV × AV × Nat)}, findMU i k v l = some j → ∃ k' v', (i, k', v', j) ∈ l ∧ keq k' k = true ∧ ieq v' v = true
  | [], e => by simp [findMU] at e
  | r :: l, e => by
    have e' : (@Bool.rec (fun _ => Option Nat) (findMU i k v l) (@Bool.rec (fun _ => Option Nat) (findMU i k v l) (@Bool.rec (fun _ => Option Nat) (findMU i k v l) (some r.2.2.2) (ieq r.2.2.1 v)) (keq r.2.1 k)) (Nat.beq r.1 i)) = some j := e
    have ih := fun e => let ⟨k', v', q, p⟩ := findMU_mem (i := i) (j := j) (k := k) (v := v) (l := l) e; (⟨k', v', List.mem_cons_of_mem r q, p⟩ : ∃ k' v', (i, k', v', j) ∈ r :: l ∧ keq k' k = true ∧ ieq v' v = true)
    cases h1 : Nat.beq r.1 i with
    | false => rw [h1] at e'; exact ih e'
    | true =>
    cases h2 : keq r.2.1 k with
    | false => rw [h1, h2] at e'; exact ih e'
    | true =>
    cases h3 : ieq r.2.2.1 v with
    | false => rw [h1, h2, h3] at e'; exact ih e'
    | true =>
      rw [h1, h2, h3] at e'
      have e2 : some r.2.2.2 = some j := e'
      cases e2
      refine ⟨r.2.1, r.2.2.1, ?_, h2, h3⟩
      rw [← nbeq_iff.1 h1]; exact List.mem_cons_self
theorem findMR_mem {i j : Nat} : ∀ {l : List (Nat × Nat)}, findMR i l = some j → (i, j) ∈ l
  | [], e => by simp [findMR] at e
  | r :: l, e => by
    have e' : (@Bool.rec (fun _ => Option Nat) (findMR i l) (some r.2) (Nat.beq r.1 i)) = some j := e
    cases h1 : Nat.beq r.1 i with
    | false => rw [h1] at e'; exact List.mem_cons_of_mem _ (findMR_mem e')
    | true =>
      rw [h1] at e'
      have e2 : some r.2 = some j := e'
      cases e2
      rw [← nbeq_iff.1 h1]; exact List.mem_cons_self
theorem den_ieq {a b : AV} {v : Value} {n : Int} (e : ieq a b = true) (hd : denI Tab.iv a = some (.i64, n)) (hv : vrel μ b v) : v = .int .i64 n := by
  cases a <;> cases b <;> simp [ieq] at e
  · simp only [denI, Option.some.injEq, Prod.mk.injEq] at hd
    simp only [vrel] at hv
    obtain ⟨e1, rfl⟩ := e
    rw [hv, ← kcode_inj (nbeq_iff.2 e1), hd.1, hd.2]
  · simp only [denI, Option.some.injEq] at hd
    simp only [vrel] at hv
    subst e
    rw [hv, hd]
theorem den_keq {a b : AV} {v : Value} {k : MK} (e : keq a b = true) (hd : denK Tab.str Tab.iv a k) (hv : vrel μ b v) : v = k.val := by
  cases k with
  | n i =>
    have hd : denI Tab.iv a = some (.i64, i) := hd
    have e : ieq a b = true := by
      cases a <;> first | (simp [denI] at hd; done) | (cases b <;> exact e)
    exact den_ieq e hd hv
  | s t =>
    have hd : denS Tab.str a = some t := hd
    cases a with
    | ostr i =>
      cases b with
      | ostr j =>
        have e : Nat.beq i j = true := e
        have := nbeq_iff.1 e
        subst this
        simp only [vrel] at hv
        simp only [denS, Option.some.injEq] at hd
        rw [hv, hd]; rfl
      | _ => simp [keq, ieq] at e
    | str n c =>
      cases b with
      | str m d =>
        have e : strEq n c m d = true := e
        unfold strEq at e
        rw [Bool.and_eq_true, nbeq_iff, nbeq_iff] at e
        obtain ⟨rfl, rfl⟩ := e
        simp only [vrel] at hv
        simp only [denS] at hd
        split at hd
        · cases hd; rw [hv.2]; rfl
        · cases hd
      | _ => simp [keq, ieq] at e
    | _ => simp [denS] at hd
theorem kd_of {d : TypeDesc} {a b : AV} {k : MK} (hp : plainKey d b = true) (hi : isIntD d = true) (e : keq a b = true) (hd : denK Tab.str Tab.iv a k) : kdOk d k := by
  cases k with
  | n i =>
    have hd : denI Tab.iv a = some (.i64, i) := hd
    cases a with
    | int q n =>
      cases b with
      | int q' m => cases d <;> simp [plainKey] at hp; exact ⟨_, rfl⟩
      | _ => simp [keq, ieq] at e
    | oi n =>
      cases b with
      | oi m => cases d <;> simp [plainKey] at hp; exact ⟨_, rfl⟩
      | _ => simp [keq, ieq] at e
    | _ => simp [denI] at hd
  | s t =>
    have hd : denS Tab.str a = some t := hd
    cases a with
    | ostr i =>
      cases b with
      | ostr j => cases d <;> simp [plainKey] at hp; rfl
      | _ => simp [keq, ieq] at e
    | str n c =>
      cases b with
      | str m d' => cases d <;> simp [plainKey] at hp; rfl
      | _ => simp [keq, ieq] at e
    | _ => simp [denS] at hd
theorem lookO_sound (r : HR B w0 μ h w) {t : TypeId} {x i v : AV} {xv iv : Value} {ok : Bool} (hx : vrel μ x xv) (hi : vrel μ i iv) (e : lookO P h t x i ok = some v) :
    OkQ P μ w (Instr.lookup t xv iv ok) v := by
  unfold lookO at e
  split at e
  · rename_i y
    obtain ⟨d, hd, e⟩ := ob_some e
    obtain ⟨ke, hke, e⟩ := ob_some e
    obtain ⟨kd, hkd, e⟩ := ob_some e
    obtain ⟨hp, e⟩ := ifb_some e
    simp only [Bool.and_eq_true] at hp
    obtain ⟨hp, hq⟩ := hp
    obtain ⟨b, hb, e⟩ := ob_some e
    obtain ⟨m, hm, e⟩ := ob_some e
    obtain ⟨⟨v1, b1⟩, hf, e⟩ := ob_some e
    obtain rfl := asMap_some hke
    obtain rfl := omapIn_some hm
    obtain ⟨l, hl, _, _, g1⟩ := r.blk _ _ hb
    simp only [vrel] at hx
    obtain ⟨l', hl', rfl⟩ := hx
    rw [hl] at hl'; cases hl'
    simp only [brel] at g1
    obtain ⟨k', k1, k2⟩ := findML_mem hf
    obtain ⟨k, k3, kt, k4, k5⟩ := Tab.mlok _ k1
    have hiv := den_keq k2 k3 hi
    have hkq := kd_of hp hq k2 k3
    have hck : ∀ emp, (Instr.checkKey emp 10000 ke.1 iv).run P w = .ok () w := fun emp => checkKey_sound hkd hp hi 9999
    have hs := fun res => findKey_sound (μ := μ) (d := kd) (k := k.av) (kv := iv) (by rw [hiv]; exact MK.rel k) (es := lit (Tab.mm m).1) (es' := (Tab.mm m).1.map ent) (i := 0) (res := res) esrel_lit
    rcases findKey_lit kd k hkq (Tab.mm m).1 kt 0 with ⟨f1, f2⟩ | ⟨j, v2, bb, f1, f2, f3⟩
    · have hf1 := hs _ f1
      simp only at hf1
      cases b1 with
      | true => obtain ⟨n, _, n2⟩ := k4 rfl; rw [f2] at n2; cases n2
      | false =>
        obtain ⟨z, hz, e⟩ := ob_some e
        obtain ⟨hz0, e⟩ := ifb_some e
        cases e
        obtain ⟨ii, zv, hii, hzv, hrel⟩ := zeroOf_some (μ := μ) hz
        refine .same r (v' := if ok then .tuple #[zv, .bool false] else zv) ?_ ?_
        · simp only [Instr.lookup, Sem.run_bind, run_underlying hd, Result.andThen_ok]
          simp [run_getObj_map g1, hck, Instr.findKey, run_underlying hkd, hf1, run_zeroValue hii hzv]
        · cases ok
          · simpa [lookRes] using hrel
          · simp only [lookRes, if_true, vrel]; exact ⟨_, rfl, vrels_cons hrel (vrels_one (by simp [vrel]))⟩
    · have hf1 := hs _ f1
      simp only at hf1
      obtain ⟨e', n1, n2, _⟩ := hf1
      cases b1 with
      | false => rw [k5 rfl] at f2; cases f2
      | true =>
        cases e
        obtain ⟨n, n3, n4⟩ := k4 rfl
        rw [f2] at n4; cases n4
        have hvv : vrel μ v1 e'.val := by
          simp only [vrel] at n2
          rw [n2]
          exact den_mk n3
        refine .same r (v' := if ok then .tuple #[e'.val, .bool true] else e'.val) ?_ ?_
        · simp only [Instr.lookup, Sem.run_bind, run_underlying hd, Result.andThen_ok]
          simp [run_getObj_map g1, hck, Instr.findKey, run_underlying hkd, n1]
        · cases ok
          · simpa [lookRes] using hvv
          · simp only [lookRes, if_true, vrel]; exact ⟨_, rfl, vrels_cons hvv (vrels_one (by simp [vrel]))⟩
  · simp at e
theorem lookup0_sound (r : HR B w0 μ h w) {t : TypeId} {x i v : AV} {xv iv : Value} {ok : Bool} (hx : vrel μ x xv) (hi : vrel μ i iv) (e : lookup0? P h t x i ok = some v) :
    OkQ P μ w (Instr.lookup t xv iv ok) v := by
  obtain ⟨d, hd, e⟩ := ob_some e
  obtain ⟨ke, hke, e⟩ := ob_some e
  obtain ⟨kd, hkd, e⟩ := ob_some e
  obtain ⟨hp, e⟩ := ifb_some e
  obtain ⟨es, hes, e⟩ := ob_some e
  obtain ⟨res, hres, e⟩ := ob_some e
  obtain ⟨q, hq, e⟩ := ob_some e
  cases e
  obtain rfl := asMap_some hke
  obtain ⟨es', g1, g2⟩ := mapOf_sound r hx hes
  have hf := findKey_sound hi g1 hres
  have hck : ∀ emp, (Instr.checkKey emp 10000 ke.1 iv).run P w = .ok () w := fun emp => checkKey_sound hkd hp hi 9999
  cases res with
  | none =>
    obtain ⟨z, hz, hq⟩ := ob_some hq
    cases hq
    obtain ⟨ii, zv, hii, hzv, hrel⟩ := zeroOf_some (μ := μ) hz
    simp only at hf
    refine .same r (v' := if ok then .tuple #[zv, .bool false] else zv) ?_ ?_
    · simp only [Instr.lookup, Sem.run_bind, run_underlying hd, Result.andThen_ok]
      rcases g2 with ⟨rfl, rfl⟩ | ⟨b, c, rfl, hb⟩
      · simp [hck, Instr.findKey, run_underlying hkd, hf, run_zeroValue hii hzv]
      · simp [run_getObj_map hb, hck, Instr.findKey, run_underlying hkd, hf, run_zeroValue hii hzv]
    · cases ok
      · simpa using hrel
      · simp only [if_true, vrel]; exact ⟨_, rfl, vrels_cons hrel (vrels_one (by simp [vrel]))⟩
  | some p =>
    obtain ⟨j, v, b⟩ := p
    cases hq
    simp only at hf
    obtain ⟨e', k1, k2, _⟩ := hf
    refine .same r (v' := if ok then .tuple #[e'.val, .bool true] else e'.val) ?_ ?_
    · simp only [Instr.lookup, Sem.run_bind, run_underlying hd, Result.andThen_ok]
      rcases g2 with ⟨rfl, rfl⟩ | ⟨b, c, rfl, hb⟩
      · simp [Instr.findNow] at k1
      · simp [run_getObj_map hb, hck, Instr.findKey, run_underlying hkd, k1]
    · cases ok
      · simpa using k2
      · simp only [if_true, vrel]; exact ⟨_, rfl, vrels_cons k2 (vrels_one (by simp [vrel]))⟩
theorem lookup_sound (r : HR B w0 μ h w) {t : TypeId} {x i v : AV} {xv iv : Value} {ok : Bool} (hx : vrel μ x xv) (hi : vrel μ i iv) (e : lookup? P h t x i ok = some v) :
    OkQ P μ w (Instr.lookup t xv iv ok) v := by
  unfold lookup? at e
  cases ho : lookO P h t x i ok with
  | some p => rw [ho] at e; cases e; exact lookO_sound r hx hi ho
  | none => rw [ho] at e; exact lookup0_sound r hx hi e
end Go.X
set_option linter.unusedVariables false
set_option linter.unusedSimpArgs false
set_option linter.unusedSectionVars false
namespace Go.X
open Go.RowKit
variable [Tab]
variable {P : Program} {B : Kp} {w0 : World} {μ : M} {h h' : H} {w w' : World}
theorem esrel_append {k v : AV} {kv vv : Value} {c : Nat} (hk : vrel μ k kv) (hv : vrel μ v vv) : ∀ {es : List (AV × AV × Nat)} {es' : List MapEntry}, esrel μ es es' → esrel μ (es ++ [(k, v, c)]) (es' ++ [{ key := kv, val := vv, born := c }])
  | [], es', e => by
    simp only [esrel] at e; subst e
    simp only [List.nil_append, esrel]
    exact ⟨_, _, rfl, hk, hv, rfl, rfl⟩
  | a :: l, es', e => by
    simp only [esrel] at e
    obtain ⟨x, r, rfl, h1, h2, h3, h4⟩ := e
    simp only [List.cons_append, esrel]
    exact ⟨x, _, rfl, h1, h2, h3, esrel_append hk hv h4⟩
theorem esrel_modify {k v : AV} {kv vv : Value} (hk : vrel μ k kv) (hv : vrel μ v vv) : ∀ {es : List (AV × AV × Nat)} {es' : List MapEntry} (i : Nat), esrel μ es es' → esrel μ (mapSet es i k v) (es'.modify i fun e => { e with key := kv, val := vv })
  | [], es', i, e => by
    simp only [esrel] at e; subst e
    simp [mapSet, esrel]
  | a :: l, es', 0, e => by
    simp only [esrel] at e
    obtain ⟨x, r, rfl, h1, h2, h3, h4⟩ := e
    simp only [mapSet, List.modify_zero_cons, esrel]
    exact ⟨_, _, rfl, hk, hv, h3, h4⟩
  | a :: l, es', i + 1, e => by
    simp only [esrel] at e
    obtain ⟨x, r, rfl, h1, h2, h3, h4⟩ := e
    simp only [mapSet, List.modify_succ_cons, esrel]
    exact ⟨x, _, rfl, h1, h2, h3, esrel_modify hk hv i h4⟩
theorem esrel_erase : ∀ {es : List (AV × AV × Nat)} {es' : List MapEntry} (i : Nat), esrel μ es es' → esrel μ (es.eraseIdx i) (es'.eraseIdx i)
  | [], es', i, e => by
    simp only [esrel] at e; subst e
    simp [esrel]
  | a :: l, es', 0, e => by
    simp only [esrel] at e
    obtain ⟨x, r, rfl, h1, h2, h3, h4⟩ := e
    simpa using h4
  | a :: l, es', i + 1, e => by
    simp only [esrel] at e
    obtain ⟨x, r, rfl, h1, h2, h3, h4⟩ := e
    simp only [List.eraseIdx_cons_succ, esrel]
    exact ⟨x, _, rfl, h1, h2, h3, esrel_erase i h4⟩
theorem HR.putMap (r : HR B w0 μ h w) {x : Nat} {es es2 : List (AV × AV × Nat)} {c c2 : Nat} {l : Loc} {es' : Array MapEntry} (hx : h.get x = some (.map es c)) (hl : μ x = some l) (hlim : x < limit) (hw : w.heap[l.block]? = some (.map es' c)) {es2' : Array MapEntry} (he : esrel μ es2 es2'.toList) :
    HR B w0 μ (h.put x (.map es2 c2)) { w with heap := w.heap.setIfInBounds l.block (.map es2' c2) } :=
  r.upd hx hl rfl rfl (by unfold limit at hlim; omega) (upd_setObj w _ _) ⟨es2'.toList, get_setObj hw, he⟩
structure MapAt (P : Program) (μ : M) (h : H) (w : World) (t : TypeId) (m k : AV) (mv kv : Value) (x : Nat) (es : List (AV × AV × Nat)) (clock : Nat) (kt e : TypeId) (kd : TypeDesc) (l : Loc) (es' : Array MapEntry) : Prop where
  type : P.underlying t = some (.map kt e)
  key : P.underlying kt = some kd
  plain : plainKey kd k = true
  map : m = .map x
  val : mv = .map (some l.block)
  got : h.get x = some (.map es clock)
  loc : μ x = some l
  lim : x < limit
  obj : w.heap[l.block]? = some (.map es' clock)
  rel : esrel μ es es'.toList
theorem mapAt_sound (r : HR B w0 μ h w) {t : TypeId} {m k : AV} {mv kv : Value} {f : Nat → List (AV × AV × Nat) → Nat → TypeId → Option (Nat × AV × Nat) → Option (AV × H)} {p : AV × H} (hm : vrel μ m mv) (e : mapAt P h t m k f = some p) :
    ∃ x es clock kt e' kd l es' res, MapAt P μ h w t m k mv kv x es clock kt e' kd l es' ∧ findKey? kd k es 0 = some res ∧ f x es clock e' res = some p := by
  unfold mapAt at e
  split at e
  · rename_i x
    obtain ⟨d, hd, e⟩ := ob_some e
    obtain ⟨ke, hke, e⟩ := ob_some e
    obtain ⟨kd, hkd, e⟩ := ob_some e
    obtain ⟨hp, e⟩ := ifb_some e
    simp only [Bool.and_eq_true, blt_iff] at hp
    obtain ⟨b, hb, e⟩ := ob_some e
    obtain ⟨q, hq, e⟩ := ob_some e
    obtain ⟨res, hres, ef⟩ := ob_some e
    obtain rfl := asMap_some hke
    obtain rfl := mapIn_some hq
    obtain ⟨l, hl, _, _, es', h1, h2⟩ := r.blk _ _ hb
    simp only [vrel] at hm
    obtain ⟨l', hl', rfl⟩ := hm
    rw [hl] at hl'; cases hl'
    exact ⟨x, q.1, q.2, ke.1, ke.2, kd, l, ⟨es'⟩, res, ⟨hd, hkd, hp.1, rfl, rfl, hb, hl, hp.2, h1, h2⟩, hres, ef⟩
  · simp at e
theorem sameBits_self {d : TypeDesc} {k : AV} {kv : Value} (hp : plainKey d k = true) (hk : vrel μ k kv) (n : Nat) : Instr.sameBits n kv kv = true := by
  rcases plain_of hp hk with ⟨q, q', m, rfl, rfl⟩ | ⟨s, rfl, rfl⟩ | ⟨b, rfl, rfl, rfl⟩
  · simp [Instr.sameBits]
  · cases n <;> simp [Instr.sameBits, ba_beq]
  · simp [Instr.sameBits]
theorem updO_sound (r : HR B w0 μ h w) {t : TypeId} {m k v : AV} {mv kv vv : Value} {p : AV × H} (hm : vrel μ m mv) (hk : vrel μ k kv) (hv : vrel μ v vv) (e : updO P h t m k v = some p) :
    p.1 = .undef ∧ ∃ w', (Instr.mapUpdate t mv kv vv).run P w = .ok () w' ∧ HR B w0 μ p.2 w' := by
  unfold updO at e
  split at e
  · rename_i x
    obtain ⟨d, hd, e⟩ := ob_some e
    obtain ⟨ke, hke, e⟩ := ob_some e
    obtain ⟨kd, hkd, e⟩ := ob_some e
    obtain ⟨hp, e⟩ := ifb_some e
    simp only [Bool.and_eq_true, blt_iff] at hp
    obtain ⟨hp, hq, hlim⟩ := hp
    obtain ⟨b, hb, e⟩ := ob_some e
    obtain ⟨i, hi, e⟩ := ob_some e
    obtain ⟨i', hf, e⟩ := ob_some e
    cases e
    obtain rfl := asMap_some hke
    obtain rfl := omapIn_some hi
    obtain ⟨l, hl, _, _, g1⟩ := r.blk _ _ hb
    simp only [vrel] at hm
    obtain ⟨l', hl', rfl⟩ := hm
    rw [hl] at hl'; cases hl'
    simp only [brel] at g1
    obtain ⟨k', v', k1, k2, k3⟩ := findMU_mem hf
    obtain ⟨n, u, k4, kt, k5, k6⟩ := Tab.muok _ k1
    have hkv := den_keq k2 k4 hk
    have hkq := kd_of hp hq k2 k4
    have hvv := den_ieq k3 k5 hv
    have hck : (Instr.checkKey false 10000 ke.1 kv).run P w = .ok () w := checkKey_sound hkd hp hk 9999
    have hs := fun res => findKey_sound (μ := μ) (d := kd) (k := n.av) (kv := kv) (by rw [hkv]; exact MK.rel n) (es := lit (Tab.mm i).1) (es' := (Tab.mm i).1.map ent) (i := 0) (res := res) esrel_lit
    refine ⟨rfl, ?_⟩
    rcases findKey_lit kd n hkq (Tab.mm i).1 kt 0 with ⟨f1, f2⟩ | ⟨j, v2, bb, f1, f2, f3⟩
    · have hf1 := hs _ f1
      simp only at hf1
      refine ⟨{ w with heap := w.heap.setIfInBounds l.block (.map ((⟨(Tab.mm i).1.map ent⟩ : Array MapEntry).push { key := kv, val := vv, born := (Tab.mm i).2 }) ((Tab.mm i).2 + 1)) }, ?_, r.upd hb hl rfl rfl (by unfold limit at hlim; omega) (upd_setObj w _ _) ?_⟩
      · simp [Instr.mapUpdate, run_underlying hd, run_getObj_map g1, hck, Instr.findKey, run_underlying hkd, hf1, run_setObj_map _ g1]
      · simp only [brel]
        rw [get_setObj g1, k6]
        simp only [mapU, f2, hkv, hvv]
        simp [ent]
    · have hf1 := hs _ f1
      simp only at hf1
      obtain ⟨e0, k7, k8, _, k9, k10, k11⟩ := hf1
      simp only [Nat.add_zero, Nat.sub_zero] at k7 k9
      obtain ⟨A, hA⟩ : ∃ A : Array MapEntry, A = ⟨(Tab.mm i).1.map ent⟩ := ⟨_, rfl⟩
      have hAl : A.toList = (Tab.mm i).1.map ent := by rw [hA]
      rw [← hA] at g1
      rw [← hAl] at k7 k9 f3
      have hg : A[j]? = some e0 := by rw [← Array.getElem?_toList]; exact k9
      refine ⟨{ w with heap := w.heap.setIfInBounds l.block (.map (A.modify j fun e => { e with key := kv, val := vv }) (Tab.mm i).2) }, ?_, r.upd hb hl rfl rfl (by unfold limit at hlim; omega) (upd_setObj w _ _) ?_⟩
      · have hstay : (Instr.keyThatStays kv kv).run P w = .ok kv w := by simp [Instr.keyThatStays, sameBits_self hp hk]
        simp [Instr.mapUpdate, run_underlying hd, run_getObj_map g1, hck, Instr.findKey, run_underlying hkd, k7, hg, k11, hstay, run_setObj_map _ g1]
      · simp only [brel]
        rw [get_setObj g1, k6]
        simp only [mapU, f2]
        congr 2
        apply Array.ext'
        rw [Array.toList_modify, hkv, hvv]
        exact f3 u
  · simp at e
theorem mapUpdate0_sound (r : HR B w0 μ h w) {t : TypeId} {m k v : AV} {mv kv vv : Value} {p : AV × H} (hm : vrel μ m mv) (hk : vrel μ k kv) (hv : vrel μ v vv) (e : mapUpdate0? P h t m k v = some p) :
    p.1 = .undef ∧ ∃ w', (Instr.mapUpdate t mv kv vv).run P w = .ok () w' ∧ HR B w0 μ p.2 w' := by
  obtain ⟨x, es, clock, kt, e', kd, l, es', res, A, hres, e⟩ := mapAt_sound (kv := kv) r hm e
  have hval := A.val
  subst hval
  have hf := findKey_sound hk A.rel hres
  have hck : (Instr.checkKey false 10000 kt kv).run P w = .ok () w := checkKey_sound A.key A.plain hk 9999
  cases res with
  | none =>
    cases e
    refine ⟨rfl, _, ?_, r.putMap A.got A.loc A.lim A.obj (es2' := es'.push { key := kv, val := vv, born := clock }) (by rw [Array.toList_push]; exact esrel_append hk hv A.rel)⟩
    simp only at hf
    simp [Instr.mapUpdate, run_underlying A.type, run_getObj_map A.obj, hck, Instr.findKey, run_underlying A.key, hf, run_setObj_map _ A.obj]
  | some q =>
    obtain ⟨j, v0, b⟩ := q
    cases e
    simp only at hf
    obtain ⟨e0, k1, k2, _, k4, k5, k6⟩ := hf
    simp only [Nat.sub_zero] at k4
    have hg : es'[j]? = some e0 := by rw [← Array.getElem?_toList]; exact k4
    refine ⟨rfl, _, ?_, r.putMap A.got A.loc A.lim A.obj (es2' := es'.modify j fun e => { e with key := kv, val := vv }) (by rw [Array.toList_modify]; exact esrel_modify hk hv j A.rel)⟩
    have hstay : (Instr.keyThatStays kv kv).run P w = .ok kv w := by simp [Instr.keyThatStays, sameBits_self A.plain hk]
    simp [Instr.mapUpdate, run_underlying A.type, run_getObj_map A.obj, hck, Instr.findKey, run_underlying A.key, k1, hg, k6, hstay, run_setObj_map _ A.obj]
theorem mapUpdate_sound (r : HR B w0 μ h w) {t : TypeId} {m k v : AV} {mv kv vv : Value} {p : AV × H} (hm : vrel μ m mv) (hk : vrel μ k kv) (hv : vrel μ v vv) (e : mapUpdate? P h t m k v = some p) :
    p.1 = .undef ∧ ∃ w', (Instr.mapUpdate t mv kv vv).run P w = .ok () w' ∧ HR B w0 μ p.2 w' := by
  unfold mapUpdate? at e
  cases ho : updO P h t m k v with
  | some q => rw [ho] at e; cases e; exact updO_sound r hm hk hv ho
  | none => rw [ho] at e; exact mapUpdate0_sound r hm hk hv e
theorem mapEntry_sound (r : HR B w0 μ h w) {t : TypeId} {m k : AV} {mv kv : Value} {p : AV × H} (hm : vrel μ m mv) (hk : vrel μ k kv) (e : mapEntry? P h t m k = some p) :
    OkV P B w0 μ w (Instr.mapEntry t mv kv) p.1 p.2 := by
  obtain ⟨x, es, clock, kt, e', kd, l, es', res, A, hres, e⟩ := mapAt_sound (kv := kv) r hm e
  have hval := A.val
  subst hval
  have hf := findKey_sound hk A.rel hres
  have hck : (Instr.checkKey false 10000 kt kv).run P w = .ok () w := checkKey_sound A.key A.plain hk 9999
  cases res with
  | none =>
    obtain ⟨z, hz, e⟩ := ob_some e
    cases e
    obtain ⟨ii, zv, hii, hzv, hrel⟩ := zeroOf_some (μ := μ) hz
    refine ⟨.tuple #[zv, .int .i64 clock], _, μ, ?_, Ext.refl _, ?_, r.putMap A.got A.loc A.lim A.obj (es2' := es'.push { key := kv, val := zv, born := clock }) (by rw [Array.toList_push]; exact esrel_append hk hrel A.rel)⟩
    · simp only at hf
      simp [Instr.mapEntry, run_underlying A.type, run_getObj_map A.obj, hck, Instr.findKey, run_underlying A.key, hf, run_setObj_map _ A.obj, run_zeroValue hii hzv, goInt]
    · simp only [vrel]; exact ⟨_, rfl, vrels_cons hrel (vrels_one (by simp [vrel]))⟩
  | some q =>
    obtain ⟨j, v0, b⟩ := q
    cases e
    simp only at hf
    obtain ⟨e0, k1, k2, _, k4, k5, k6⟩ := hf
    simp only [Nat.sub_zero] at k4
    have hg : es'[j]? = some e0 := by rw [← Array.getElem?_toList]; exact k4
    have hmod : (es'.modify j fun e => { e with key := kv }) = es'.modify j fun e => { e with key := kv, val := e0.val } := by
      apply Array.ext_getElem?
      intro i
      rw [Array.getElem?_modify, Array.getElem?_modify]
      by_cases hij : j = i
      · subst hij
        rw [hg]; simp
      · rw [if_neg hij, if_neg hij]
    refine ⟨.tuple #[e0.val, .int .i64 b], _, μ, ?_, Ext.refl _, ?_, r.putMap A.got A.loc A.lim A.obj (es2' := es'.modify j fun e => { e with key := kv, val := e0.val }) (by rw [Array.toList_modify]; exact esrel_modify hk k2 j A.rel)⟩
    · have hstay : (Instr.keyThatStays kv kv).run P w = .ok kv w := by simp [Instr.keyThatStays, sameBits_self A.plain hk]
      rw [← hmod]
      simp [Instr.mapEntry, run_underlying A.type, run_getObj_map A.obj, hck, Instr.findKey, run_underlying A.key, k1, hg, k6, k5, hstay, run_setObj_map _ A.obj, goInt]
    · simp only [vrel]; exact ⟨_, rfl, vrels_cons k2 (vrels_one (by simp [vrel]))⟩
theorem delete_sound (r : HR B w0 μ h w) {t ty : TypeId} {ats : Array TypeId} {args : Array Value} {m k : AV} {mv kv : Value} {p : AV × H} (hat : ats[0]? = some t) (ha0 : args[0]? = some mv) (ha1 : args[1]? = some kv) (hm : vrel μ m mv) (hk : vrel μ k kv) (e : delete? P h t m k = some p) :
    OkV P B w0 μ w (Builtin.delete_ ats ty args) p.1 p.2 := by
  obtain ⟨x, es, clock, kt, e', kd, l, es', res, A, hres, e⟩ := mapAt_sound (kv := kv) r hm e
  have hval := A.val
  subst hval
  have hf := findKey_sound hk A.rel hres
  have hck : ∀ emp, (Instr.checkKey emp 10000 kt kv).run P w = .ok () w := fun emp => checkKey_sound A.key A.plain hk 9999
  cases res with
  | none =>
    cases e
    refine ⟨.tuple #[], _, μ, ?_, Ext.refl _, by simp only [AV.undef, vrel]; exact ⟨[], rfl, by simp [vrels]⟩, r.putMap A.got A.loc A.lim A.obj (es2' := es') A.rel⟩
    simp only at hf
    simp [Builtin.delete_, hat, ha0, ha1, run_underlying A.type, run_getObj_map A.obj, hck, Instr.findKey, run_underlying A.key, hf, run_setObj_map _ A.obj]
  | some q =>
    obtain ⟨j, v0, b⟩ := q
    cases e
    simp only at hf
    obtain ⟨e0, k1, k2, _, k4, k5, k6⟩ := hf
    simp only [Nat.sub_zero] at k4
    refine ⟨.tuple #[], _, μ, ?_, Ext.refl _, by simp only [AV.undef, vrel]; exact ⟨[], rfl, by simp [vrels]⟩, r.putMap A.got A.loc A.lim A.obj (es2' := es'.eraseIdxIfInBounds j) ?_⟩
    · simp [Builtin.delete_, hat, ha0, ha1, run_underlying A.type, run_getObj_map A.obj, hck, Instr.findKey, run_underlying A.key, k1, run_setObj_map _ A.obj]
    · have : (es'.eraseIdxIfInBounds j).toList = es'.toList.eraseIdx j := by simp
      rw [this]; exact esrel_erase j A.rel
theorem entrySet_sound {n : Int} {x : AV} {xv : Value} (hx : vrel μ x xv) : ∀ {es es2 : List (AV × AV × Nat)} {es' : List MapEntry}, esrel μ es es' → entrySet n x es = some es2 →
    ∃ i, es'.findIdx? (fun e => (e.born : Int) == n) = some i ∧ esrel μ es2 (es'.modify i fun e => { e with val := xv })
  | [], es2, es', he, e => by simp [entrySet] at e
  | (k, v, b) :: es, es2, es', he, e => by
    simp only [esrel] at he
    obtain ⟨y, r, rfl, h1, h2, h3, h4⟩ := he
    simp only [entrySet] at e
    split at e
    · rename_i hb
      cases e
      refine ⟨0, ?_, ?_⟩
      · rw [List.findIdx?_cons]; simp [h3, hb]
      · simp only [List.modify_zero_cons, esrel]
        exact ⟨_, _, rfl, h1, hx, h3, h4⟩
    · rename_i hb
      obtain ⟨r2, hr2, e⟩ := ob_some e
      cases e
      obtain ⟨i, g1, g2⟩ := entrySet_sound hx h4 hr2
      refine ⟨i + 1, ?_, ?_⟩
      · rw [List.findIdx?_cons, g1]; simp [h3, hb]
      · simp only [List.modify_succ_cons, esrel]
        exact ⟨_, _, rfl, h1, h2, h3, g2⟩
theorem entryStore_sound (r : HR B w0 μ h w) {t : TypeId} {m s v : AV} {mv sv vv : Value} {p : AV × H} (hm : vrel μ m mv) (hs : vrel μ s sv) (hv : vrel μ v vv) (e : entryStore? h m s v = some p) :
    p.1 = .undef ∧ ∃ w', (Instr.entryStore t mv sv vv).run P w = .ok () w' ∧ HR B w0 μ p.2 w' := by
  unfold entryStore? at e
  split at e
  · obtain ⟨b, hb, e⟩ := ob_some e
    obtain ⟨q, hq, e⟩ := ob_some e
    obtain ⟨es2, hes, e⟩ := ob_some e
    obtain ⟨hlim, e⟩ := ifb_some e
    cases e
    obtain rfl := mapIn_some hq
    obtain ⟨l, hl, _, _, es', h1, h2⟩ := r.blk _ _ hb
    simp only [vrel] at hm hs
    subst hs
    obtain ⟨l', hl', rfl⟩ := hm
    rw [hl] at hl'; cases hl'
    obtain ⟨i, g1, g2⟩ := entrySet_sound hv h2 hes
    refine ⟨rfl, _, ?_, r.putMap hb hl (blt_iff.1 hlim) h1 (es2' := (⟨es'⟩ : Array MapEntry).modify i fun e => { e with val := vv }) (by rw [Array.toList_modify]; exact g2)⟩
    simp [Instr.entryStore, run_getObj_map h1, asInt, asIntOf, run_setObj_map _ h1]
    simp [g1, run_setObj_map _ h1]
  · simp at e
theorem range_sound (r : HR B w0 μ h w) {t : TypeId} {x : AV} {xv : Value} {p : AV × H} (hx : vrel μ x xv) (e : range? P h t x = some p) :
    OkV P B w0 μ w (Instr.range t xv) p.1 p.2 := by
  obtain ⟨d, hd, e⟩ := ob_some e
  have key : ∀ (b : Blk) (o : Obj) (q : Nat × H), own b = true → (∀ l : Loc, l.block = w.heap.size → l.base = 0 → ∀ μ', Ext μ μ' → brel μ' b l { w with heap := w.heap.push o }) → h.alloc b = some q →
      ∃ μ', Ext μ μ' ∧ vrel μ' (.ptr q.1 0) (.pointer (some ⟨w.heap.size, 0, none⟩)) ∧ HR B w0 μ' q.2 { w with heap := w.heap.push o } := by
    intro b o q ho hb hq
    have hx := (H.alloc_some hq).1
    have hext : Ext μ (upm μ q.1 ⟨w.heap.size, 0, 0⟩) := Ext.upm _ (by rw [hx]; exact (r.fresh h.next (Nat.le_refl _)).2)
    refine ⟨_, hext, ?_, r.alloc (At.ofAlloc r hq) ho (below_push w o) (Nat.le_refl _) (hb _ rfl rfl _ hext)⟩
    simp only [vrel]
    exact ⟨⟨w.heap.size, 0, 0⟩, by simp [upm], rfl⟩
  cases d with
  | string =>
    cases x with
    | str n c =>
      simp only [rangeD] at e
      obtain ⟨q, hq, e2⟩ := ob_some e
      cases e2
      simp only [vrel] at hx
      obtain ⟨hc, rfl⟩ := hx
      obtain ⟨μ', g1, g2, g3⟩ := key (.siter n c 0) (.stringIter (strOf n c) 0) q rfl (fun l hl hb μ' _ => ⟨hb, hc, by rw [hl]; simp⟩) hq
      exact ⟨_, _, μ', by simp [Instr.range, run_underlying hd], g1, g2, g3⟩
    | _ => simp [rangeD] at e
  | map kt et =>
    cases x with
    | nilm =>
      simp only [rangeD] at e
      obtain ⟨q, hq, e2⟩ := ob_some e
      cases e2
      simp only [vrel] at hx
      subst hx
      obtain ⟨μ', g1, g2, g3⟩ := key (.miter none 0 [] 0) (.mapIter none 0 #[] 0) q rfl (fun l hl hb μ' _ => ⟨hb, by rw [hl]; simp⟩) hq
      exact ⟨_, _, μ', by simp [Instr.range, run_underlying hd], g1, g2, g3⟩
    | map m =>
      simp only [rangeD] at e
      obtain ⟨b, hb, e2⟩ := ob_some e
      cases ho : (ob (omapIn b) fun i => ob (findMR i Tab.mr) fun q => ob (h.alloc (.oit m q)) fun p => some ((AV.ptr p.1 0, p.2) : AV × H)) with
      | some p2 =>
        rw [ho] at e2; cases e2
        obtain ⟨i, hi, ho⟩ := ob_some ho
        obtain ⟨j, hj, ho⟩ := ob_some ho
        obtain ⟨q, hq, ho⟩ := ob_some ho
        cases ho
        obtain rfl := omapIn_some hi
        obtain ⟨k, hk, _, _, h1⟩ := r.blk _ _ hb
        simp only [vrel] at hx
        obtain ⟨k', hk', rfl⟩ := hx
        rw [hk] at hk'; cases hk'
        simp only [brel] at h1
        have hsv := Tab.mrok _ (findMR_mem hj)
        obtain ⟨μ', g1, g2, g3⟩ := key (.oit m j) (.mapIter (some k.block) (Tab.mm i).2 #[] (Tab.mm i).2) q rfl (fun l hl hb μ' he => ⟨hb, k, he _ _ hk, by rw [hl, hsv]; simp⟩) hq
        exact ⟨_, _, μ', by simp [Instr.range, run_underlying hd, run_getObj_map h1], g1, g2, g3⟩
      | none =>
      rw [ho] at e2
      obtain ⟨mq, hmq, e3⟩ := ob_some e2
      obtain ⟨q, hq, e4⟩ := ob_some e3
      cases e4
      obtain rfl := mapIn_some hmq
      obtain ⟨k, hk, _, _, es', h1, h2⟩ := r.blk _ _ hb
      simp only [vrel] at hx
      obtain ⟨k', hk', rfl⟩ := hx
      rw [hk] at hk'; cases hk'
      obtain ⟨μ', g1, g2, g3⟩ := key (.miter (some m) mq.2 [] mq.2) (.mapIter (some k.block) mq.2 #[] mq.2) q rfl (fun l hl hb μ' he => ⟨hb, k, he _ _ hk, by rw [hl]; simp⟩) hq
      exact ⟨_, _, μ', by simp [Instr.range, run_underlying hd, run_getObj_map h1], g1, g2, g3⟩
    | _ => simp [rangeD] at e
  | _ => simp [rangeD] at e
theorem str_at {n c pos : Nat} (hp : pos < n) : (strOf n c).get! pos = UInt8.ofNat (c / 256 ^ pos % 256) := by
  have hs : pos < (strOf n c).size := by rw [strOf_size]; exact hp
  have h2 : (strOf n c).data.toList[pos]? = some (UInt8.ofNat (c / 256 ^ pos % 256)) := by
    simp only [strOf, List.getElem?_map]
    have e1 : (dec n c)[pos]? = (dec (n - pos) (c / 256 ^ pos))[0]? := by
      rw [dec_div pos (n - pos) c, List.getElem?_drop]
      congr 2; omega
    rw [e1]
    cases hnk : n - pos with
    | zero => omega
    | succ q => simp [dec]
  rw [Array.getElem?_toList] at h2
  show (strOf n c).data[pos]! = _
  rw [getElem!_def, h2]
theorem esrel_filter (p : Nat → Bool) : ∀ {es : List (AV × AV × Nat)} {es' : List MapEntry}, esrel μ es es' → esrel μ (es.filter fun e => p e.2.2) (es'.filter fun e => p e.born)
  | [], es', e => by simp only [esrel] at e; subst e; simp [esrel]
  | a :: l, es', e => by
    simp only [esrel] at e
    obtain ⟨x, r, rfl, h1, h2, h3, h4⟩ := e
    have ih := esrel_filter p h4
    simp only [List.filter_cons, h3]
    cases p a.2.2 with
    | false => simpa using ih
    | true => simp only [if_true, esrel]; exact ⟨x, _, rfl, h1, h2, h3, ih⟩
theorem esrel_all (p : Nat → Bool) : ∀ {es : List (AV × AV × Nat)} {es' : List MapEntry}, esrel μ es es' → (es'.all fun e => p e.born) = (es.all fun e => p e.2.2)
  | [], es', e => by simp only [esrel] at e; subst e; simp
  | a :: l, es', e => by
    simp only [esrel] at e
    obtain ⟨x, r, rfl, h1, h2, h3, h4⟩ := e
    simp only [List.all_cons, h3, esrel_all p h4]
theorem choose_next (w : World) (n : Nat) (hn : 0 < n) : ∃ j d, j < n ∧ (choose (.mapNext n)).run P w = .ok j { w with drawn := d } := by
  rw [run_choose]
  by_cases h : n ≤ 1
  · exact ⟨0, w.drawn, hn, by simp [Question.forced, h]⟩
  · exact ⟨w.tape w.drawn (.mapNext n) % n, w.drawn + 1, Nat.mod_lt _ hn, by simp [Question.forced, h, Question.cut]⟩
def OkL (P : Program) (B : Kp) (w0 : World) (μ : M) (w : World) (s : Sem Value) (l : List (AV × H)) : Prop := ∃ p ∈ l, OkV P B w0 μ w s p.1 p.2
theorem esrel_get {es : List (AV × AV × Nat)} {es' : List MapEntry} (e : esrel μ es es') : ∀ {i : Nat} {x : MapEntry}, es'[i]? = some x → ∃ a, es[i]? = some a ∧ vrel μ a.1 x.key ∧ vrel μ a.2.1 x.val ∧ x.born = a.2.2 := by
  induction es generalizing es' with
  | nil => intro i x hx; simp only [esrel] at e; subst e; simp at hx
  | cons a l ih =>
    intro i x hx
    simp only [esrel] at e
    obtain ⟨y, r, rfl, h1, h2, h3, h4⟩ := e
    cases i with
    | zero => simp only [List.getElem?_cons_zero, Option.some.injEq] at hx; subst hx; exact ⟨a, rfl, h1, h2, h3⟩
    | succ i => simp only [List.getElem?_cons_succ] at hx ⊢; exact ih h4 hx
theorem next0_sound (r : HR B w0 μ h w) {ty : TypeId} {it : AV} {iv : Value} {isString : Bool} {p : List (AV × H)} (hx : vrel μ it iv) (e : next0? h it isString = some p) :
    OkL P B w0 μ w (Instr.next iv isString ty) p := by
  unfold next0? at e
  split at e
  · rename_i x
    obtain ⟨b, hb, e⟩ := ob_some e
    obtain ⟨l, hl, _, _, hr⟩ := r.blk _ b hb
    simp only [vrel] at hx
    obtain ⟨l', hl', rfl⟩ := hx
    rw [hl] at hl'; cases hl'
    cases b with
    | siter n c pos =>
      cases isString with
      | false => simp [nextD] at e
      | true =>
        simp only [nextD] at e
        obtain ⟨p1, e0, he1⟩ := ob_some e
        cases he1
        clear e
        have e := e0
        clear e0
        refine ⟨p1, by simp [one1], ?_⟩
        obtain ⟨hb0, hc, h1⟩ := hr
        unfold nextStr at e
        by_cases hpos : pos < n
        · rw [if_pos hpos] at e
          obtain ⟨hcond, e2⟩ := ifb_some e
          simp only [Bool.and_eq_true, blt_iff] at hcond
          cases e2
          have hb1 : ((strOf n c).get! pos).toNat = c / 256 ^ pos % 256 := by
            rw [str_at hpos, UInt8.toNat_ofNat']
            omega
          have hdec : Utf8.decode (strOf n c) pos = (c / 256 ^ pos % 256, 1) := by
            unfold Utf8.decode
            simp only [Nat.add_zero, hb1]
            rw [if_pos hcond.1]
          refine ⟨.tuple #[.bool true, .int .i64 pos, .int .i32 ((c / 256 ^ pos % 256 : Nat) : Int)], _, μ, ?_, Ext.refl _, ?_, r.upd (b' := .siter n c (pos + 1)) hb hl rfl rfl (by have := hcond.2; unfold limit at this; omega) (upd_setObj w l.block (.stringIter (strOf n c) (pos + 1))) ⟨hb0, hc, get_setObj h1⟩⟩
          · simp only [hb0, Nat.zero_add]
            simp [Instr.next, run_getObj_siter h1, strOf_size, hpos, hdec, run_setObj_siter _ h1, goInt]
          · simp only [vrel]; exact ⟨_, rfl, vrels_cons (by simp [vrel]) (vrels_cons (by simp [vrel]) (vrels_one (by simp [vrel])))⟩
        · rw [if_neg hpos] at e
          cases e
          refine .same r (v' := .tuple #[.bool false]) ?_ (by simp only [vrel]; exact ⟨_, rfl, vrels_one (by simp [vrel])⟩)
          simp only [hb0, Nat.zero_add]
          simp [Instr.next, run_getObj_siter h1, strOf_size, hpos]
    | miter mm since seen last =>
      cases isString with
      | true => simp [nextD] at e
      | false =>
        cases mm with
        | none =>
          simp only [nextD] at e
          cases e
          obtain ⟨hb0, h1⟩ := hr
          refine ⟨_, List.mem_singleton.2 rfl, .same r (v' := .tuple #[.bool false]) ?_ (by simp only [vrel]; exact ⟨_, rfl, vrels_one (by simp [vrel])⟩)⟩
          simp only [hb0, Nat.zero_add]
          simp [Instr.next, run_getObj_miter h1]
        | some m =>
          simp only [nextD] at e
          obtain ⟨hb0, k, hk, h1⟩ := hr
          obtain ⟨b2, hb2, e2⟩ := ob_some e
          obtain ⟨q, hq, e3⟩ := ob_some e2
          obtain rfl := mapIn_some hq
          obtain ⟨k', hk', _, _, es', g1, g2⟩ := r.blk _ _ hb2
          rw [hk] at hk'; cases hk'
          unfold nextMap at e3
          split at e3
          · simp at e3
          · rename_i hgone
            have hall : (es'.all fun e => decide (last ≤ e.born)) = (q.1.all fun e => decide (last ≤ e.2.2)) := esrel_all (fun n => decide (last ≤ n)) g2
            have hemp : es'.isEmpty = q.1.isEmpty := by
              have := esrel_length g2
              cases es' <;> cases hq1 : q.1 <;> simp_all
            have hgone' : ¬ ((!(⟨seen⟩ : Array Nat).isEmpty && !(⟨es'⟩ : Array MapEntry).isEmpty && (⟨es'⟩ : Array MapEntry).all (fun e => decide (e.born ≥ last))) = true) := by
              intro hh
              apply hgone
              simp only [List.isEmpty_toArray, List.all_toArray] at hh
              simp only [ge_iff_le, hemp, hall] at hh
              exact hh
            have hleft := esrel_filter (fun n => !seen.contains n) g2
            have hfil : (⟨es'⟩ : Array MapEntry).filter (fun e => !(⟨seen⟩ : Array Nat).contains e.born) = ⟨es'.filter fun e => !seen.contains e.born⟩ := by
              apply Array.ext'
              simp
            generalize hf : (q.1.filter fun e => !seen.contains e.2.2) = left at e3 hleft
            generalize hf' : (es'.filter fun e => !seen.contains e.born) = left' at hleft hfil
            cases left with
            | nil =>
              simp only [esrel] at hleft
              subst hleft
              cases e3
              refine ⟨_, List.mem_singleton.2 rfl, .same r (v' := .tuple #[.bool false]) ?_ (by simp only [vrel]; exact ⟨_, rfl, vrels_one (by simp [vrel])⟩)⟩
              simp only [hb0, Nat.zero_add]
              simp only [Instr.next, Sem.run_bind, run_getObj_miter h1, Result.andThen_ok, run_getObj_map g1]
              rw [if_neg hgone']
              simp only [hfil, Sem.run_pure, Result.andThen_ok]
              simp [Question.forced]
            | cons a rest =>
              simp only at e3
              obtain ⟨hcond, e4⟩ := ifb_some e3
              simp only [Bool.and_eq_true] at hcond
              obtain ⟨hold, hlim⟩ := hcond
              have hlim := blt_iff.1 hlim
              have hlen : left'.length = (a :: rest).length := esrel_length hleft
              have hold' : ∀ y ∈ left', y.born < since := by
                intro y hy
                obtain ⟨i, hi⟩ := List.getElem?_of_mem hy
                obtain ⟨c, hc, _, _, hbn⟩ := esrel_get hleft hi
                have := List.all_eq_true.1 hold c (List.mem_of_getElem? hc)
                rw [hbn]; exact blt_iff.1 this
              have hne : left' ≠ [] := by intro hh; rw [hh] at hlen; simp at hlen
              obtain ⟨i, d, hi, hch⟩ := choose_next (P := P) w left'.length (by rw [hlen]; simp)
              obtain ⟨x0, hx0⟩ : ∃ x0, left'[i]? = some x0 := ⟨left'[i], by simp [hi]⟩
              obtain ⟨c, hc, k1, k2, k3⟩ := esrel_get hleft hx0
              cases e4
              refine ⟨_, List.mem_map.2 ⟨c, List.mem_of_getElem? hc, rfl⟩, ?_⟩
              have h1' : ({ w with drawn := d } : World).heap[l.block]? = some (.mapIter (some k.block) since ⟨seen⟩ last) := h1
              refine ⟨.tuple #[.bool true, x0.key, x0.val], _, μ, ?_, Ext.refl _, by simp only [vrel]; exact ⟨_, rfl, vrels_cons (by simp [vrel]) (vrels_cons k1 (vrels_one k2))⟩, (r.drawn d).upd (b' := .miter (some m) since (seen ++ [c.2.2]) q.2) hb hl rfl rfl (by unfold limit at hlim; omega) (upd_setObj { w with drawn := d } l.block (.mapIter (some k.block) since ((⟨seen⟩ : Array Nat).push x0.born) q.2)) ⟨hb0, k, hk, ?_⟩⟩
              · simp only [hb0, Nat.zero_add]
                simp only [Instr.next, Sem.run_bind, run_getObj_miter h1, Result.andThen_ok, run_getObj_map g1]
                rw [if_neg hgone']
                have hfo : (⟨left'⟩ : Array MapEntry).filter (fun e => decide (e.born < since)) = ⟨left'⟩ := by
                  apply Array.ext'
                  simp only [List.filter_toArray, Array.toList]
                  exact List.filter_eq_self.2 fun y hy => by simpa using hold' y hy
                have hfn : (⟨left'⟩ : Array MapEntry).filter (fun e => decide (e.born ≥ since)) = #[] := by
                  apply Array.ext'
                  simp only [List.filter_toArray, Array.toList]
                  exact List.filter_eq_nil_iff.2 fun y hy => by have := hold' y hy; simp; omega
                have hie : (⟨left'⟩ : Array MapEntry).isEmpty = false := by
                  cases left' with
                  | nil => exact absurd rfl hne
                  | cons y l => rfl
                simp only [hfil, Sem.run_pure, Result.andThen_ok, hfo, hfn, hie, Bool.false_eq_true, if_false, Array.append_empty, Array.empty_append]
                have hsz : ((⟨left'⟩ : Array MapEntry).map some).size = left'.length := by simp
                rw [Sem.run_bind, hsz, hch]
                have hgi : ((⟨left'⟩ : Array MapEntry).map some)[i]? = some (some x0) := by simp [hx0]
                simp only [Result.andThen_ok, hgi, Sem.run_bind, run_setObj_miter _ h1', Sem.run_pure]
              · rw [get_setObj h1', k3]
                simp
    | _ => simp [nextD] at e
  · simp at e
theorem oitIn_some {b : Blk} {p : Nat × Nat} (e : oitIn b = some p) : b = .oit p.1 p.2 := by
  cases b <;> simp [oitIn] at e
  subst e; rfl
theorem findMX_mem {i q : Nat} {t : Bool} : ∀ {l : List (Nat × Nat × Bool)}, findMX i q l = some t → (i, q, t) ∈ l
  | [], e => by simp [findMX] at e
  | r :: l, e => by
    have e' : (@Bool.rec (fun _ => Option Bool) (findMX i q l) (@Bool.rec (fun _ => Option Bool) (findMX i q l) (some r.2.2) (Nat.beq r.2.1 q)) (Nat.beq r.1 i)) = some t := e
    cases h1 : Nat.beq r.1 i with
    | false => rw [h1] at e'; exact List.mem_cons_of_mem _ (findMX_mem e')
    | true =>
    cases h2 : Nat.beq r.2.1 q with
    | false => rw [h1, h2] at e'; exact List.mem_cons_of_mem _ (findMX_mem e')
    | true =>
      rw [h1, h2] at e'
      have e2 : some r.2.2 = some t := e'
      cases e2
      rw [← nbeq_iff.1 h1, ← nbeq_iff.1 h2]; exact List.mem_cons_self
theorem findMN_mem {i q : Nat} {k v : AV} : ∀ {l : List (Nat × Nat × AV × AV)}, findMN i q l = some (k, v) → (i, q, k, v) ∈ l
  | [], e => by simp [findMN] at e
  | r :: l, e => by
    have e' : (@Bool.rec (fun _ => Option (AV × AV)) (findMN i q l) (@Bool.rec (fun _ => Option (AV × AV)) (findMN i q l) (some r.2.2) (Nat.beq r.2.1 q)) (Nat.beq r.1 i)) = some (k, v) := e
    cases h1 : Nat.beq r.1 i with
    | false => rw [h1] at e'; exact List.mem_cons_of_mem _ (findMN_mem e')
    | true =>
    cases h2 : Nat.beq r.2.1 q with
    | false => rw [h1, h2] at e'; exact List.mem_cons_of_mem _ (findMN_mem e')
    | true =>
      rw [h1, h2] at e'
      have e2 : some r.2.2 = some (k, v) := e'
      have : r = (i, q, k, v) := by rw [← nbeq_iff.1 h1, ← nbeq_iff.1 h2, ← Option.some.inj e2]
      rw [← this]; exact List.mem_cons_self
theorem lit_mem {l : List (MK × Int × Nat)} {c : AV × AV × Nat} (h : c ∈ lit l) : ∃ e ∈ l, c = (e.1.av, .int .i64 e.2.1, e.2.2) := by
  simp only [lit, List.mem_map] at h
  obtain ⟨e, h1, h2⟩ := h
  exact ⟨e, h1, h2.symm⟩
theorem esrel_lit_eq {l : List (MK × Int × Nat)} {es : List MapEntry} (h : esrel μ (lit l) es) : es = l.map ent := by
  induction l generalizing es with
  | nil => simpa [lit, esrel] using h
  | cons e l ih =>
    obtain ⟨x, r, rfl, h1, h2, h3, h4⟩ := h
    have h1 := MK.rel_eq h1
    simp only [vrel] at h2
    rw [ih h4]
    simp only [List.map_cons, List.cons.injEq, and_true]
    cases x
    simp_all [ent]
theorem HR.lits (r : HR B w0 μ h w) {x m i q : Nat} (hx : h.get x = some (.oit m q)) (hm : h.get m = some (.omap i)) (hx0 : x < limit) (hm0 : m < limit) :
    HR B w0 μ ((h.put m (.map (lit (Tab.mm i).1) (Tab.mm i).2)).put x (.miter (some m) (Tab.sv q).1 (Tab.sv q).2.1 (Tab.sv q).2.2)) w := by
  unfold limit at hx0 hm0
  refine HR.blks (h := h) rfl (fun y b hy => ?_) r
  rw [H.get_put _ _ _ _ (by omega)] at hy
  split at hy
  · rename_i c; subst c; cases hy
    exact ⟨_, hx, rfl, fun l _ h => h⟩
  · rw [H.get_put _ _ _ _ (by omega)] at hy
    split at hy
    · rename_i c; subst c; cases hy
      exact ⟨_, hm, rfl, fun l _ h => ⟨_, h, esrel_lit⟩⟩
    · exact ⟨b, hy, rfl, fun l _ h => h⟩
theorem nextO_sound (r : HR B w0 μ h w) {ty : TypeId} {it : AV} {iv : Value} {isString : Bool} {p : List (AV × H)} (hx : vrel μ it iv) (e : nextO h it isString = some p) :
    OkL P B w0 μ w (Instr.next iv isString ty) p := by
  unfold nextO at e
  split at e
  · rename_i x
    obtain ⟨b, hb, e1⟩ := ob_some e
    clear e
    obtain ⟨⟨m, q⟩, hq, e2⟩ := ob_some e1
    clear e1
    obtain ⟨b2, hb2, e3⟩ := ob_some e2
    clear e2
    obtain ⟨i, hi, e4⟩ := ob_some e3
    clear e3
    obtain ⟨t, ht, e5⟩ := ob_some e4
    clear e4
    obtain ⟨hlim, e6⟩ := ifb_some e5
    clear e5
    simp only [Bool.and_eq_true, blt_iff] at hlim
    obtain ⟨hx0, hm0⟩ := hlim
    have := oitIn_some hq
    subst this
    have := omapIn_some hi
    subst this
    simp only at hb2 hm0
    obtain ⟨o1, o2, o3⟩ := Tab.mxok _ (findMX_mem ht)
    simp only at o1 o2 o3
    have rl := r.lits hb hb2 hx0 hm0
    have hne : m ≠ x := by intro c; subst c; rw [hb] at hb2; cases hb2
    generalize hh : ((h.put m (.map (lit (Tab.mm i).1) (Tab.mm i).2)).put x (.miter (some m) (Tab.sv q).1 (Tab.sv q).2.1 (Tab.sv q).2.2)) = h' at rl
    have hx16 : x < 16000000 := by unfold limit at hx0; omega
    have hm16 : m < 16000000 := by unfold limit at hm0; omega
    have gx : h'.get x = some (.miter (some m) (Tab.sv q).1 (Tab.sv q).2.1 (Tab.sv q).2.2) := by rw [← hh, H.get_put _ _ _ _ hx16, if_pos rfl]
    have gm : h'.get m = some (.map (lit (Tab.mm i).1) (Tab.mm i).2) := by rw [← hh, H.get_put _ _ _ _ hx16, if_neg hne, H.get_put _ _ _ _ hm16, if_pos rfl]
    have go : ∀ y, y ≠ x → y ≠ m → h'.get y = h.get y := fun y h1 h2 => by rw [← hh, H.get_put _ _ _ _ hx16, if_neg h1, H.get_put _ _ _ _ hm16, if_neg h2]
    have gn : h'.next = h.next := by rw [← hh]; rfl
    have hbl := r.blk m _ hb2
    obtain ⟨lm, hlm, _, _, hbm⟩ := hbl
    have en : next0? h' (.ptr x 0) false = nextMap h' x m (Tab.sv q).1 (Tab.sv q).2.1 (Tab.sv q).2.2 (lit (Tab.mm i).1) (Tab.mm i).2 := by
      show ob (h'.get x) (nextD h' x false) = _
      rw [gx]
      show ob (h'.get m) _ = _
      rw [gm]
      rfl
    have hgone : ¬ ((!(Tab.sv q).2.1.isEmpty && !(lit (Tab.mm i).1).isEmpty && (lit (Tab.mm i).1).all (fun e => decide ((Tab.sv q).2.2 ≤ e.2.2))) = true) := by
      intro c
      simp only [Bool.and_eq_true] at c
      cases hl : (Tab.mm i).1 with
      | nil => rw [hl] at c; simp [lit] at c
      | cons e l =>
        have h2 := (o1 e (by rw [hl]; simp)).2
        have h3 := List.all_eq_true.1 c.2 (e.1.av, .int .i64 e.2.1, e.2.2) (by rw [hl]; simp [lit])
        simp only [decide_eq_true_eq] at h3
        omega
    have hmem : ∀ c, c ∈ (lit (Tab.mm i).1).filter (fun e => !(Tab.sv q).2.1.contains e.2.2) → ∃ e ∈ (Tab.mm i).1, c = (e.1.av, .int .i64 e.2.1, e.2.2) ∧ e.2.2 ∉ (Tab.sv q).2.1 := fun c hc => by
      simp only [List.mem_filter] at hc
      obtain ⟨e, h1, h2⟩ := lit_mem hc.1
      refine ⟨e, h1, h2, ?_⟩
      have := hc.2
      rw [h2] at this
      simpa using this
    cases t with
    | false =>
      cases e6
      have hf : (lit (Tab.mm i).1).filter (fun e => !(Tab.sv q).2.1.contains e.2.2) = [] := by
        rw [List.eq_nil_iff_forall_not_mem]
        intro c hc
        obtain ⟨e, h1, _, h3⟩ := hmem c hc
        exact h3 (o3 rfl e h1)
      have er : next0? h' (.ptr x 0) false = some [(.tup [.bool false], h')] := by
        rw [en]; unfold nextMap; rw [if_neg hgone, hf]
      obtain ⟨p, hp, v', w', μ', k1, k2, k3, k4⟩ := next0_sound (P := P) (ty := ty) rl hx er
      simp only [List.mem_singleton] at hp
      subst hp
      refine ⟨_, List.mem_singleton.2 rfl, v', w', μ', k1, k2, k3, HR.blks (h := h') gn (fun y b hy => ?_) k4⟩
      by_cases c : y = x
      · subst c
        rw [hb] at hy; cases hy
        exact ⟨_, gx, rfl, fun l _ h => h⟩
      by_cases c2 : y = m
      · subst c2
        rw [hb2] at hy; cases hy
        refine ⟨_, gm, rfl, fun l _ h => ?_⟩
        simp only [brel] at h ⊢
        obtain ⟨es', h1, h2⟩ := h
        rw [← esrel_lit_eq h2]; exact h1
      exact ⟨b, by rw [go y c c2]; exact hy, rfl, fun l _ h => h⟩
    | true =>
      cases e6
      obtain ⟨e0, m1, m2⟩ := o2 rfl
      have hne2 : (lit (Tab.mm i).1).filter (fun e => !(Tab.sv q).2.1.contains e.2.2) ≠ [] := by
        intro c
        have : (e0.1.av, .int .i64 e0.2.1, e0.2.2) ∈ (lit (Tab.mm i).1).filter (fun e => !(Tab.sv q).2.1.contains e.2.2) := by
          simp only [List.mem_filter]
          refine ⟨by simp only [lit, List.mem_map]; exact ⟨e0, m1, rfl⟩, by simpa using m2⟩
        rw [c] at this; cases this
      obtain ⟨a, L, hL⟩ := List.exists_cons_of_ne_nil hne2
      have er : next0? h' (.ptr x 0) false = some ((a :: L).map fun e => (.tup [.bool true, e.1, e.2.1], h'.put x (.miter (some m) (Tab.sv q).1 ((Tab.sv q).2.1 ++ [e.2.2]) (Tab.mm i).2))) := by
        rw [en]; unfold nextMap; rw [if_neg hgone, hL]
        have hall : (a :: L).all (fun e => Nat.blt e.2.2 (Tab.sv q).1) = true := by
          rw [List.all_eq_true]
          intro c hc
          rw [← hL] at hc
          obtain ⟨e, h1, h2, _⟩ := hmem c hc
          rw [h2]
          exact blt_iff.2 (o1 e h1).1
        show ifb _ _ = _
        rw [hall, blt_iff.2 hx0]
        rfl
      obtain ⟨p, hp, v', w', μ', k1, k2, k3, k4⟩ := next0_sound (P := P) (ty := ty) rl hx er
      rw [← hL, List.mem_map] at hp
      obtain ⟨c, hc, rfl⟩ := hp
      obtain ⟨e, c1, rfl, c2⟩ := hmem c hc
      refine ⟨_, List.mem_singleton.2 rfl, v', w', μ', k1, k2, ?_, HR.blks (h := h'.put x (.miter (some m) (Tab.sv q).1 ((Tab.sv q).2.1 ++ [e.2.2]) (Tab.mm i).2)) (show h'.next = h.next from gn) (fun y b hy => ?_) k4⟩
      · simp only [vrel, vrels] at k3 ⊢
        obtain ⟨cs, rfl, u1, r1, rfl, h1, u2, r2, rfl, h2, u3, r3, rfl, h3, rfl⟩ := k3
        exact ⟨_, rfl, u1, _, rfl, h1, u2, _, rfl, by rw [MK.rel_eq h2]; cases e.1 <;> rfl, u3, _, rfl, by rw [h3]; rfl, rfl⟩
      · simp only at hy ⊢
        rw [H.get_put _ _ _ _ hx16] at hy
        by_cases d : y = x
        · subst d
          rw [if_pos rfl] at hy
          cases hy
          refine ⟨_, (H.get_put _ _ _ _ hx16).trans (if_pos rfl), rfl, fun l _ h => ?_⟩
          simp only [brel] at h ⊢
          obtain ⟨h0, k, h1, h2⟩ := h
          exact ⟨h0, k, e, h1, c1, c2, h2⟩
        · rw [if_neg d] at hy
          by_cases d2 : y = m
          · subst d2
            rw [hb2] at hy; cases hy
            refine ⟨_, ((H.get_put _ _ _ _ hx16).trans (if_neg d)).trans gm, rfl, fun l _ h => ?_⟩
            simp only [brel] at h ⊢
            obtain ⟨es', h1, h2⟩ := h
            rw [← esrel_lit_eq h2]; exact h1
          exact ⟨b, by rw [H.get_put _ _ _ _ hx16, if_neg d, go y d d2]; exact hy, rfl, fun l _ h => h⟩
  · cases e
theorem next_sound (r : HR B w0 μ h w) {ty : TypeId} {it : AV} {iv : Value} {isString : Bool} {p : List (AV × H)} (hx : vrel μ it iv) (e : next? h it isString = some p) :
    OkL P B w0 μ w (Instr.next iv isString ty) p := by
  unfold next? at e
  cases ho : nextO h it isString with
  | some q => rw [ho] at e; cases e; exact nextO_sound r hx ho
  | none => rw [ho] at e; exact next0_sound r hx e
theorem findBorn_sound {n : Nat} : ∀ {es : List (AV × AV × Nat)} {es' : List MapEntry} {v : AV}, esrel μ es es' → findBorn n es = some v → ∃ x, es'.find? (fun e => e.born == n) = some x ∧ vrel μ v (.tuple #[x.key, x.val])
  | [], es', v, _, e => by have e' : (none : Option AV) = some v := e; simp at e'
  | a :: l, es', v, h, e => by
    simp only [esrel] at h
    obtain ⟨x, r, rfl, h1, h2, h3, h4⟩ := h
    have e' : (Bool.rec (findBorn n l) (some (.tup [a.1, a.2.1])) (Nat.beq a.2.2 n) : Option AV) = some v := e
    cases hb : Nat.beq a.2.2 n with
    | true =>
      rw [hb] at e'
      have e2 : some (AV.tup [a.1, a.2.1]) = some v := e'
      cases e2
      refine ⟨x, by rw [List.find?_cons, h3, nbeq_iff.1 hb]; simp, ?_⟩
      simp only [vrel]
      exact ⟨_, rfl, vrels_cons h1 (vrels_one h2)⟩
    | false =>
      rw [hb] at e'
      obtain ⟨y, g1, g2⟩ := findBorn_sound h4 e'
      refine ⟨y, ?_, g2⟩
      rw [List.find?_cons, h3]
      have : (a.2.2 == n) = false := by
        rw [beq_eq_false_iff_ne]
        intro hh
        rw [nbeq_iff.2 hh] at hb; simp at hb
      rw [this]; exact g1
theorem denK_mk {x : AV} {k : MK} (h : denK Tab.str Tab.iv x k) : vrel μ x k.val := by
  cases k with
  | n i => exact den_mk h
  | s b =>
    have h : denS Tab.str x = some b := h
    cases x with
    | ostr i => simp only [denS, Option.some.injEq] at h; simp only [vrel, MK.val]; rw [h]
    | str n c =>
      simp only [denS] at h
      split at h
      · rename_i hc; cases h; exact ⟨hc, rfl⟩
      · cases h
    | _ => simp [denS] at h
theorem entry_sound (r : HR B w0 μ h w) {it v : AV} {iv : Value} (hx : vrel μ it iv) (e : entry? h it = some v) : OkQ P μ w (Instr.entry iv) v := by
  unfold entry? at e
  split at e
  · rename_i x
    obtain ⟨b, hb, e⟩ := ob_some e
    obtain ⟨l, hl, _, _, hr⟩ := r.blk _ b hb
    simp only [vrel] at hx
    obtain ⟨l', hl', rfl⟩ := hx
    rw [hl] at hl'; cases hl'
    cases b with
    | miter mm since seen st =>
     cases mm with
     | none => simp [entryD] at e
     | some m =>
      simp only [entryD] at e
      obtain ⟨n, hn, e1⟩ := ob_some e
      obtain ⟨b2, hb2, e2⟩ := ob_some e1
      obtain ⟨q, hq, e3⟩ := ob_some e2
      obtain ⟨hst, e4⟩ := ifb_some e3
      clear e e1 e2 e3
      obtain rfl := mapIn_some hq
      obtain ⟨hb0, k, hk, h1⟩ := hr
      obtain ⟨k', hk', _, _, es', g1, g2⟩ := r.blk _ _ hb2
      rw [hk] at hk'; cases hk'
      obtain ⟨y, f1, f2⟩ := findBorn_sound g2 e4
      refine .same r (v' := .tuple #[y.key, y.val]) ?_ f2
      have hbk : (⟨seen⟩ : Array Nat).back? = some n := by simp [hn]
      have hfd : (⟨es'⟩ : Array MapEntry).find? (fun e => e.born == n) = some y := by simpa using f1
      simp only [hb0, Nat.zero_add]
      simp only [Instr.entry, Sem.run_bind, run_getObj_miter h1, Result.andThen_ok, hbk, run_getObj_map g1, nbeq_iff.1 hst, bne_self_eq_false, Bool.false_eq_true, if_false, hfd, Sem.run_pure]
    | oit m q =>
      simp only [entryD] at e
      obtain ⟨b2, hb2, e1⟩ := ob_some e
      obtain ⟨i, hi, e2⟩ := ob_some e1
      obtain ⟨⟨ka, va⟩, hm, e3⟩ := ob_some e2
      cases e3
      obtain rfl := omapIn_some hi
      obtain ⟨n, k0, v0, n1, n2, n3, n4, n5⟩ := Tab.mnok _ (findMN_mem hm)
      simp only at n1 n2 n3 n4 n5
      obtain ⟨hb0, k, hk, h1⟩ := hr
      obtain ⟨k', hk', _, _, g1⟩ := r.blk _ _ hb2
      rw [hk] at hk'; cases hk'
      simp only [brel] at g1
      refine .same r (v' := .tuple #[k0.val, .int .i64 v0]) ?_ (by simp only [vrel]; exact ⟨_, rfl, vrels_cons (denK_mk n4) (vrels_one (den_mk n5))⟩)
      have hbk : (⟨(Tab.sv q).2.1⟩ : Array Nat).back? = some n := by simpa using n1
      have hfd : (⟨(Tab.mm i).1.map ent⟩ : Array MapEntry).find? (fun e => e.born == n) = some (ent (k0, v0, n)) := by
        have h2 : ((Tab.mm i).1.map ent).find? (fun e => e.born == n) = some (ent (k0, v0, n)) := by
          rw [List.find?_map]
          have : ((fun e : MapEntry => e.born == n) ∘ ent) = fun e => Nat.beq e.2.2 n := by
            funext e
            show (e.2.2 == n) = Nat.beq e.2.2 n
            rw [Bool.eq_iff_iff, beq_iff_eq, nbeq_iff]
          rw [this, n3]; rfl
        simpa using h2
      simp only [hb0, Nat.zero_add]
      simp only [Instr.entry, Sem.run_bind, run_getObj_miter h1, Result.andThen_ok, hbk, run_getObj_map g1, n2, bne_self_eq_false, Bool.false_eq_true, if_false, hfd, Sem.run_pure]
      rfl
    | _ => simp [entryD] at e
  · simp at e
theorem typeAssert_sound (r : HR B w0 μ h w) {t a : TypeId} {x v : AV} {xv : Value} {ok : Bool} (hx : vrel μ x xv) (e : typeAssert? P x a ok = some v) :
    OkQ P μ w (Instr.typeAssert xv t a ok) v := by
  obtain ⟨d, hd, e1⟩ := ob_some e
  clear e
  obtain ⟨hni, e⟩ := ifb_some e1
  clear e1
  cases x with
  | iface u y =>
    simp only [vrel] at hx
    obtain ⟨yv, rfl, hy⟩ := hx
    simp only [assertD] at e
    by_cases hta : u = a
    · subst hta
      rw [Nat.beq_refl] at e
      cases e
      refine .same r (v' := if ok then .tuple #[yv, .bool true] else yv) ?_ ?_
      · cases d <;> first | (simp [isIface] at hni; done) | (cases ok <;> simp [Instr.typeAssert, run_underlying hd])
      · cases ok
        · simpa using hy
        · simp only [if_true, vrel]; exact ⟨_, rfl, vrels_cons hy (vrels_one (by simp [vrel]))⟩
    · rw [nbeq_false hta] at e
      obtain ⟨hok, e2⟩ := ifb_some e
      subst hok
      obtain ⟨z, hz, e3⟩ := ob_some e2
      cases e3
      obtain ⟨ii, zv, hii, hzv, hrel⟩ := zeroOf_some (μ := μ) hz
      refine .same r (v' := .tuple #[zv, .bool false]) ?_ (by simp only [vrel]; exact ⟨_, rfl, vrels_cons hrel (vrels_one (by simp [vrel]))⟩)
      cases d <;> first | (simp [isIface] at hni; done) | simp [Instr.typeAssert, run_underlying hd, hta, run_zeroValue hii hzv]
  | nili =>
    simp only [vrel] at hx
    subst hx
    simp only [assertD] at e
    obtain ⟨hok, e2⟩ := ifb_some e
    subst hok
    obtain ⟨z, hz, e3⟩ := ob_some e2
    cases e3
    obtain ⟨ii, zv, hii, hzv, hrel⟩ := zeroOf_some (μ := μ) hz
    refine .same r (v' := .tuple #[zv, .bool false]) ?_ (by simp only [vrel]; exact ⟨_, rfl, vrels_cons hrel (vrels_one (by simp [vrel]))⟩)
    cases d <;> first | (simp [isIface] at hni; done) | simp [Instr.typeAssert, run_underlying hd, run_zeroValue hii hzv]
  | _ => simp [assertD] at e
end Go.X
set_option linter.unusedVariables false
set_option linter.unusedSimpArgs false
set_option linter.unusedSectionVars false
namespace Go.X
open Go.RowKit
variable [Tab]
variable {P : Program} {B : Kp} {w0 : World} {μ : M} {h h' : H} {w w' : World} {ρ : Operand → Value} {fr : Fr}
def OkR (P : Program) (B : Kp) (w0 : World) (μ : M) (h : H) (w : World) (s : Sem Next) : Res → Prop
  | .val v h' => ∃ nx v' w' μ', s.run P w = .ok nx w' ∧ (nx = .value v' ∨ (nx = .skip ∧ v' = undef)) ∧ Ext μ μ' ∧ vrel μ' v v' ∧ HR B w0 μ' h' w'
  | .call f args => ∃ args' : Array Value, s.run P w = .ok (.enter f args') w ∧ vrels μ args args'.toList
  | .pick l => ∃ p ∈ l, ∃ v' w' μ', s.run P w = .ok (.value v') w' ∧ Ext μ μ' ∧ vrel μ' p.1 v' ∧ HR B w0 μ' p.2 w'
theorem OkV.toR {s : Sem Value} {v : AV} (hv : OkV P B w0 μ w s v h') : OkR P B w0 μ h w (do pure (.value (← s))) (.val v h') := by
  obtain ⟨v', w', μ', h1, h2, h3, h4⟩ := hv
  exact ⟨_, v', w', μ', by simp [h1], .inl rfl, h2, h3, h4⟩
theorem OkQ.toR {s : Sem Value} {v : AV} (r : HR B w0 μ h w) (hv : OkQ P μ w s v) : OkR P B w0 μ h w (do pure (.value (← s))) (.val v h) := (hv.toV r).toR
theorem rv_some {x : Option AV} {res : Res} (e : rv h x = some res) : ∃ v, x = some v ∧ res = .val v h := by
  obtain ⟨v, hv, e⟩ := ob_some e
  cases e
  exact ⟨v, hv, rfl⟩
theorem rvh_some {x : Option (AV × H)} {res : Res} (e : rvh x = some res) : ∃ p, x = some p ∧ res = .val p.1 p.2 := by
  obtain ⟨v, hv, e⟩ := ob_some e
  cases e
  exact ⟨v, hv, rfl⟩
def Ev (μ : M) (fr : Fr) (ρ : Operand → Value) (xs : List Operand) : Prop := ∀ x ∈ xs, ∀ v, ev x fr = some v → vrel μ v (ρ x)
theorem Ev.one {xs : List Operand} (he : Ev μ fr ρ xs) {x : Operand} {v : AV} (hx : x ∈ xs) (e : ev x fr = some v) : vrel μ v (ρ x) := he x hx v e
theorem Ev.sub {xs ys : List Operand} (he : Ev μ fr ρ xs) (hs : ∀ y ∈ ys, y ∈ xs) : Ev μ fr ρ ys := fun x hx v e => he x (hs x hx) v e
theorem evs_nil (fr : Fr) : evs fr [] = some [] := rfl
theorem evs_cons (fr : Fr) (x : Operand) (l : List Operand) : evs fr (x :: l) = ob (ev x fr) fun a => ob (evs fr l) fun r => some (a :: r) := rfl
theorem evs_sound : ∀ {l : List Operand} {as : List AV}, Ev μ fr ρ l → evs fr l = some as → vrels μ as (l.map ρ)
  | [], as, he, e => by rw [evs_nil] at e; cases e; simp [vrels]
  | x :: l, as, he, e => by
    rw [evs_cons] at e
    obtain ⟨a, ha, e⟩ := ob_some e
    obtain ⟨r, hr, e⟩ := ob_some e
    cases e
    simp only [List.map_cons]
    exact vrels_cons (he.one (by simp) ha) (evs_sound (he.sub (by simp +contextual)) hr)
theorem evParts_sound : ∀ {l : List (Nat × Operand)} {as : List (Nat × AV)}, Ev μ fr ρ (l.map (·.2)) → evParts fr l = some as → prels μ as (l.map fun p => (p.1, ρ p.2))
  | [], as, he, e => by simp only [evParts] at e; cases e; simp [prels]
  | (i, x) :: l, as, he, e => by
    simp only [evParts] at e
    obtain ⟨a, ha, e⟩ := ob_some e
    obtain ⟨r, hr, e⟩ := ob_some e
    cases e
    simp only [List.map_cons, prels]
    exact ⟨_, _, rfl, he.one (by simp) ha, evParts_sound (he.sub (by simp +contextual)) hr⟩
theorem opt_sound {x : Option Operand} {o : Option AV} (he : Ev μ fr ρ x.toList) (e : opt? fr x = some o) : orel μ o (x.map ρ) := by
  cases x with
  | none => simp only [opt?] at e; cases e; trivial
  | some y =>
    simp only [opt?] at e
    obtain ⟨v, hv, e⟩ := ob_some e
    cases e
    exact he.one (by simp) hv
theorem idxB_eq (k : Nat) (hk : k < 256) : ∀ (l : List Nat) (i : Nat), (∀ b ∈ l, b < 256) → idxB k l i = if Lib.indexByte (l.map UInt8.ofNat) (UInt8.ofNat k) == -1 then -1 else Lib.indexByte (l.map UInt8.ofNat) (UInt8.ofNat k) + i
  | [], i, _ => by simp [idxB, Lib.indexByte]
  | b :: l, i, h => by
    have hb := h b (by simp)
    have ih := idxB_eq k hk l (i + 1) (fun x hx => h x (by simp [hx]))
    have hbk : (UInt8.ofNat b == UInt8.ofNat k) = Nat.beq b k := by
      rw [Bool.eq_iff_iff, beq_iff_eq, nbeq_iff]
      constructor
      · intro e
        have := congrArg UInt8.toNat e
        simp only [UInt8.toNat_ofNat'] at this
        rw [Nat.mod_eq_of_lt (by omega), Nat.mod_eq_of_lt (by omega)] at this
        exact this
      · intro e; rw [e]
    have hge := Lib.indexByte_ge (l.map UInt8.ofNat) (UInt8.ofNat k)
    show (Bool.rec (idxB k l (Nat.succ i)) (Int.ofNat i) (Nat.beq b k) : Int) = _
    simp only [List.map_cons, Lib.indexByte]
    rw [hbk]
    cases hc : Nat.beq b k with
    | true => simp
    | false =>
      show idxB k l (i + 1) = _
      rw [ih]
      by_cases hm : Lib.indexByte (l.map UInt8.ofNat) (UInt8.ofNat k) = -1
      · simp [hm]
      · simp only [beq_iff_eq, hm, if_false, Bool.false_eq_true]
        rw [if_neg (by omega)]
        omega
theorem cntB_eq (k : Nat) (hk : k < 256) : ∀ (l : List Nat), (∀ b ∈ l, b < 256) → cntB k l = Lib.countByte (l.map UInt8.ofNat) (UInt8.ofNat k)
  | [], _ => by simp [cntB, Lib.countByte]
  | b :: l, h => by
    have hb := h b (by simp)
    have ih := cntB_eq k hk l (fun x hx => h x (by simp [hx]))
    have hbk : (UInt8.ofNat b == UInt8.ofNat k) = Nat.beq b k := by
      rw [Bool.eq_iff_iff, beq_iff_eq, nbeq_iff]
      constructor
      · intro e
        have := congrArg UInt8.toNat e
        simp only [UInt8.toNat_ofNat'] at this
        rw [Nat.mod_eq_of_lt (by omega), Nat.mod_eq_of_lt (by omega)] at this
        exact this
      · intro e; rw [e]
    show (Bool.rec (cntB k l) (Nat.succ (cntB k l)) (Nat.beq b k) : Nat) = _
    unfold Lib.countByte at ih ⊢
    rw [List.map_cons, List.count_cons, hbk, ih]
    cases Nat.beq b k <;> simp
theorem ext_indexByte {fn : Func} (hn : fn.name = nmIndex) (ho : fn.origin = "") : Extern.findNext fn = none ∧ Extern.find fn = some Extern.BytealgIndexByte.indexByte := by
  constructor
  · unfold Extern.findNext; rw [hn, ho]; rfl
  · unfold Extern.find; rw [hn, ho]; rfl
theorem ext_count {fn : Func} (hn : fn.name = nmCount) (ho : fn.origin = "") : Extern.findNext fn = none ∧ Extern.find fn = some Extern.BytealgCount.count := by
  constructor
  · unfold Extern.findNext; rw [hn, ho]; rfl
  · unfold Extern.find; rw [hn, ho]; rfl
theorem extOf_sound {f : FuncId} {fn : Func} {args : List AV} {args' : Array Value} {v : AV} (hf : P.funcs[f]? = some fn) (hname : (fn.name == "runtime.NumGoroutine") = false) (hb : fn.body = none) (e : extOf fn args = some v) (ha : vrels μ args args'.toList) :
    ∃ v', (callFunc f args').run P w = .ok (.value v') w ∧ vrel μ v v' := by
  unfold extOf at e
  split at e
  · rename_i n c k
    obtain ⟨hk, e⟩ := ifb_some e
    obtain ⟨ho, e⟩ := ifb_some e
    have hk := blt_iff.1 hk
    have ho : fn.origin = "" := by simpa using ho
    simp only [vrels, vrel] at ha
    obtain ⟨sv, _, hargs, ⟨hc, rfl⟩, kv, _, rfl, rfl, rfl⟩ := ha
    have h1 : args' = #[.string (strOf n c), .int .u8 (Int.ofNat k)] := by apply Array.ext'; simpa using hargs
    subst h1
    have hd : ∀ b ∈ dec n c, b < 256 := dec_lt n c
    have hs : (strOf n c).data.toList = (dec n c).map UInt8.ofNat := by simp [strOf]
    have hkk : (Int.ofNat k).toNat.toUInt8 = UInt8.ofNat k := by simp
    cases h1 : fn.name == nmIndex with
    | true =>
      rw [h1] at e
      have e2 : some (AV.int .i64 (idxB k (dec n c) 0)) = some v := e
      cases e2
      obtain ⟨g1, g2⟩ := ext_indexByte (fn := fn) (by simpa using h1) ho
      refine ⟨_, by rw [run_callFunc_extern hf hname (by simp [hb]) g1 g2, Lib.run_indexByteString]; rfl, ?_⟩
      simp only [vrel]
      rw [idxB_eq k hk _ _ hd, hs, hkk]
      congr 1
      split
      · rename_i h2; simpa using h2
      · simp
    | false =>
      rw [h1] at e
      obtain ⟨h2, e⟩ := ifb_some e
      cases e
      obtain ⟨g1, g2⟩ := ext_count (fn := fn) (by simpa using h2) ho
      refine ⟨_, by rw [run_callFunc_extern hf hname (by simp [hb]) g1 g2, Lib.run_countString]; rfl, ?_⟩
      simp only [vrel]
      rw [cntB_eq k hk _ hd, hs, hkk]
  · simp at e
theorem callFn_sound (r : HR B w0 μ h w) {f : FuncId} {args : List AV} {args' : Array Value} {res : Res} (e : callFn? P h f args = some res) (ha : vrels μ args args'.toList) : OkR P B w0 μ h w (callFunc f args') res := by
  obtain ⟨fn, hfn, e⟩ := ob_some e
  obtain ⟨hc, e⟩ := ifb_some e
  cases hb : fn.body with
  | some c =>
    rw [hb] at e
    have e2 : some (Res.call f args) = some res := e
    cases e2
    simp only [bne_iff_ne, ne_eq] at hc
    refine ⟨args', ?_, ha⟩
    simp only [callFunc, Sem.run_bind, run_program, Result.andThen_ok, hfn]
    rw [if_neg (by simpa using hc), if_neg (by simp [hb])]
    rfl
  | none =>
    rw [hb] at e
    have e2 : rv h (extOf fn args) = some res := e
    obtain ⟨v, hv, rfl⟩ := rv_some e2
    have hname : (fn.name == "runtime.NumGoroutine") = false := by simpa using hc
    obtain ⟨v', g1, g2⟩ := extOf_sound (w := w) hfn hname hb hv ha
    exact ⟨_, v', w, μ, g1, .inl rfl, Ext.refl _, g2, r⟩
theorem builtin_sound (r : HR B w0 μ h w) {b : Builtin} {ats : Array TypeId} {ty : TypeId} {consts : Array Bool} {args : List AV} {args' : Array Value} {res : Res} (ha : vrels μ args args'.toList) (e : builtin? P h b ats.toList args = some res) :
    OkR P B w0 μ h w (builtin b ats ty consts args') res := by
  unfold builtin? at e
  split at e
  · rename_i s x st xt hats
    obtain ⟨p, hp, rfl⟩ := rvh_some e
    simp only [vrels] at ha
    obtain ⟨sv, _, hargs, hs, xv, _, rfl, hx, rfl⟩ := ha
    have h1 : args' = #[sv, xv] := by apply Array.ext'; simpa using hargs
    have h2 : ats = #[st, xt] := by apply Array.ext'; simpa using hats
    subst h1 h2
    exact (append_sound r hs hx hp).toR
  · rename_i d s dt rest hats
    obtain ⟨p, hp, rfl⟩ := rvh_some e
    simp only [vrels] at ha
    obtain ⟨sv, _, hargs, hs, xv, _, rfl, hx, rfl⟩ := ha
    have h1 : args' = #[sv, xv] := by apply Array.ext'; simpa using hargs
    subst h1
    exact OkV.toR (s := Builtin.copy_ ats ty #[sv, xv]) (copy_sound r (dt := dt) (by rw [← Array.getElem?_toList, hats]; rfl) hs hx hp)
  · rename_i x t rest hats
    obtain ⟨v, hv, rfl⟩ := rv_some e
    simp only [vrels] at ha
    obtain ⟨xv, _, hargs, hx, rfl⟩ := ha
    refine OkQ.toR r (len_sound r (t := t) ?_ ?_ hx hv)
    · rw [← Array.getElem?_toList, hats]; rfl
    · rw [← Array.getElem?_toList, hargs]; rfl
  · rename_i x t rest hats
    obtain ⟨v, hv, rfl⟩ := rv_some e
    simp only [vrels] at ha
    obtain ⟨xv, _, hargs, hx, rfl⟩ := ha
    refine OkQ.toR r (cap_sound r (t := t) ?_ ?_ hx hv)
    · rw [← Array.getElem?_toList, hats]; rfl
    · rw [← Array.getElem?_toList, hargs]; rfl
  · obtain ⟨v, hv, rfl⟩ := rv_some e
    simp only [vrels] at ha
    obtain ⟨av, rest, hargs, hx, hrest⟩ := ha
    obtain ⟨v', h1, h2⟩ := min_sound (P := P) r hx hrest hv
    exact OkV.toR (s := Builtin.min_ ats ty args') (.same r (by simp only [Builtin.min_, hargs]; exact h1) h2)
  · obtain ⟨v, hv, rfl⟩ := rv_some e
    simp only [vrels] at ha
    obtain ⟨av, rest, hargs, hx, hrest⟩ := ha
    obtain ⟨v', h1, h2⟩ := max_sound (P := P) r hx hrest hv
    exact OkV.toR (s := Builtin.max_ ats ty args') (.same r (by simp only [Builtin.max_, hargs]; exact h1) h2)
  · rename_i m k t rest hats
    obtain ⟨p, hp, rfl⟩ := rvh_some e
    simp only [vrels] at ha
    obtain ⟨mv, _, hargs, hm, kv, _, rfl, hk, rfl⟩ := ha
    refine OkV.toR (s := Builtin.delete_ ats ty args') (delete_sound r (t := t) ?_ ?_ ?_ hm hk hp)
    · rw [← Array.getElem?_toList, hats]; rfl
    · rw [← Array.getElem?_toList, hargs]; rfl
    · rw [← Array.getElem?_toList, hargs]; rfl
  · rename_i x t rest hats
    obtain ⟨p, hp, rfl⟩ := rvh_some e
    simp only [vrels] at ha
    obtain ⟨xv, _, hargs, hx, rfl⟩ := ha
    refine OkV.toR (s := Builtin.clear_ ats ty args') (clear_sound r (t := t) ?_ ?_ hx hp)
    · rw [← Array.getElem?_toList, hats]; rfl
    · rw [← Array.getElem?_toList, hargs]; rfl
  · simp at e
theorem methodOf_sound {t : TypeId} {name : String} {f : FuncId} {v : Value} {W : World} (e : methodOf P t name = some f) : ∀ n, (method (n + 1) t v name).run P W = .ok (f, v) W := by
  intro n
  obtain ⟨i, hi, e⟩ := ob_some e
  obtain ⟨m, hm, e⟩ := ob_some e
  obtain ⟨q, hq, e⟩ := ob_some e
  obtain ⟨d, hd, e⟩ := ob_some e
  obtain ⟨hp, e⟩ := ifb_some e
  have hpath : m.path = #[] := by simpa using hp
  obtain ⟨g, p⟩ := q
  simp only at e
  cases d <;> cases p <;> simp at e <;> subst e <;> simp [method, run_typeInfo hi, hm, hpath, follow, hq, receiverAt, run_underlying hd, Place.get]
theorem methodPtr_sound (r : HR B w0 μ h w) {t : TypeId} {name : String} {q : FuncId × TypeId} {x o : Nat} {a : AV} {v : Value} (hv : vrel μ (.ptr x o) v) (e : methodPtr P t name = some q) (el : loadVar? P h q.2 x o = some a) : ∀ n, ∃ u, (method (n + 1) t v name).run P w = .ok (q.1, u) w ∧ vrel μ a u := by
  intro n
  obtain ⟨i, hi, e⟩ := ob_some e
  obtain ⟨m, hm, e⟩ := ob_some e
  obtain ⟨⟨g, b⟩, hq, e⟩ := ob_some e
  obtain ⟨d, hd, e⟩ := ob_some e
  obtain ⟨hp, e⟩ := ifb_some e
  simp only [Bool.and_eq_true, Bool.not_eq_true'] at hp
  obtain ⟨hp, rfl⟩ := hp
  have hpath : m.path = #[] := by simpa using hp
  simp only [vrel] at hv
  obtain ⟨l, hl, rfl⟩ := hv
  cases d <;> simp at e
  subst e
  obtain ⟨u, h1, h2⟩ := loadVar_sound r hl el
  have hwr : ∀ (tys : Array TypeId) (ty : TypeId) (A : Addr) (s m : ByteArray), (Builtin.ssaWrapNilChk_ tys ty #[.pointer (some A), .string s, .string m]).run P w = .ok (.pointer (some A)) w := fun _ _ _ _ _ => rfl
  refine ⟨u, ?_, h2⟩
  simp [method, run_typeInfo hi, hm, hpath, follow, hq, receiverAt, run_underlying hd, Place.get, hwr, strVal, asAddr, h1]
theorem oCall_sound (r : HR B w0 μ h w) {c : Call} {ty : TypeId} {res : Res} (he : Ev μ fr ρ c.operands.toList) (e : oCall c P fr h = some res) :
    OkR P B w0 μ h w (do let d ← resolve ρ c ty; invoke d.target d.args) res := by
  obtain ⟨args, hargs, e1⟩ := ob_some e
  clear e
  have hav : vrels μ args (c.args.map ρ).toList := by
    rw [Array.toList_map]
    exact evs_sound (he.sub (fun y hy => by unfold Call.operands; simp at hy ⊢; exact .inr hy)) hargs
  cases hcal : c.callee with
  | builtin b =>
    rw [hcal] at e1
    have := builtin_sound (ty := ty) (consts := c.args.map fun | .const _ => true | _ => false) r hav e1
    have heq : (do let d ← resolve ρ c ty; invoke d.target d.args : Sem Next) = builtin b c.argTypes ty (c.args.map fun | .const _ => true | _ => false) (c.args.map ρ) := by
      simp only [resolve, hcal]; rfl
    rw [heq]; exact this
  | value f =>
    rw [hcal] at e1
    simp only at e1
    obtain ⟨fv, hf, e2⟩ := ob_some e1
    have hfv := he.one (x := f) (by unfold Call.operands; rw [hcal]; simp) hf
    cases fv with
    | fn g first cap =>
      cases g with
      | func g =>
        simp only [callVal] at e2
        simp only [vrel] at hfv
        obtain ⟨as, bs, hρ, h1, h2⟩ := hfv
        have := callFn_sound r (args' := (⟨as⟩ ++ c.args.map ρ) ++ ⟨bs⟩) e2 (by simp only [Array.toList_append]; exact vrels_append (vrels_append h1 hav) h2)
        have heq : (do let d ← resolve ρ c ty; invoke d.target d.args : Sem Next) = callFunc g ((⟨as⟩ ++ c.args.map ρ) ++ ⟨bs⟩) := by
          simp only [resolve, hcal, hρ, Deferred.ofValue]; rfl
        rw [heq]; exact this
      | _ => simp [callVal] at e2
    | _ => simp [callVal] at e2
  | invoke rc name =>
    rw [hcal] at e1
    simp only at e1
    obtain ⟨rvv, hf, e2⟩ := ob_some e1
    have hfv := he.one (x := rc) (by unfold Call.operands; rw [hcal]; simp) hf
    cases rvv with
    | iface t v =>
      simp only [callMeth] at e2
      simp only [vrel] at hfv
      obtain ⟨vv0, hρ, h10⟩ := hfv
      have hex0 : ∃ f vv, ∃ a : AV, (method (P.types.size + Made.depth) t vv0 name).run P w = .ok (f, vv) w ∧ vrel μ a vv ∧ callFn? P h f (a :: args) = some res := by
        have hd : P.types.size + Made.depth = (P.types.size + Made.depth - 1) + 1 := by unfold Made.depth; omega
        rcases orE_some e2 with e2 | ⟨_, e2⟩
        · obtain ⟨f, hm, e3⟩ := ob_some e2
          exact ⟨f, vv0, v, by rw [hd]; exact methodOf_sound hm _, h10, e3⟩
        · unfold callMethP at e2
          split at e2
          · rename_i x o
            obtain ⟨q, hm, e3⟩ := ob_some e2
            obtain ⟨a, ha, e4⟩ := ob_some e3
            obtain ⟨u, u1, u2⟩ := methodPtr_sound r h10 hm ha (P.types.size + Made.depth - 1)
            exact ⟨q.1, u, a, by rw [hd]; exact u1, u2, e4⟩
          · cases e2
      obtain ⟨f, vv, av, hmeth, h1, e3⟩ := hex0
      have := callFn_sound r (args' := #[vv] ++ c.args.map ρ) e3 (by simp only [Array.toList_append]; exact vrels_cons h1 hav)
      have heq : (do let d ← resolve ρ c ty; invoke d.target d.args : Sem Next).run P w = (callFunc f (#[vv] ++ c.args.map ρ)).run P w := by
        have hex : (#[ρ rc] ++ c.args.map ρ).extract 1 (#[ρ rc] ++ c.args.map ρ).size = c.args.map ρ := by
          apply Array.ext'; simp; exact List.take_of_length_le (by simp)
        simp only [resolve, hcal, Sem.run_bind, Sem.run_pure, Result.andThen_ok, invoke]
        have h0 : (#[ρ rc] ++ c.args.map ρ)[0]? = some (ρ rc) := by rw [← Array.getElem?_toList]; simp
        rw [h0, hex, hρ]
        simp only [callMethod, Sem.run_bind, run_program, Result.andThen_ok, hmeth]
      unfold OkR at this ⊢
      cases res <;> simp only [heq] <;> exact this
    | _ => simp [callMeth] at e2
end Go.X
