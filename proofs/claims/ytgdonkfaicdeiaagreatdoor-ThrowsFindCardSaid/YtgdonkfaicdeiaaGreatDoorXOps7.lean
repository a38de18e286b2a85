/-
  Each operation of the abstract machine stands for the model's: conversions, slices, indexes, fields, lengths.
-/
import Derived.Test.YtgdonkfaicdeiaaGreatDoorXOps6
set_option linter.unusedVariables false
set_option linter.unusedSimpArgs false
set_option linter.unusedSectionVars false
namespace Go.X
open Go.RowKit

variable [Tab]
variable {P : Program} {B : Kp} {w0 : World} {μ : M} {h h' : H} {w w' : World}

/- conversions -/
theorem u8_some {e : TypeId} (hu : u8? P e = true) : P.underlying e = some (.int .u8) := by
  unfold u8? at hu
  cases hd : P.underlying e with
  | none => rw [hd] at hu; simp at hu
  | some d =>
    rw [hd] at hu
    cases d <;> simp [isU8] at hu
    rename_i k
    cases k <;> simp [isU8] at hu
    rfl

theorem cellBytes_sound : ∀ {l : List AV} {vs : List Value} {c : Nat}, cellBytes l = some c → vrels μ l vs → ∃ ns : List Nat, vs = ns.map (fun (n : Nat) => Value.int .u8 (n : Int)) ∧ ns.length = l.length ∧ ns = dec l.length c ∧ c < 256 ^ l.length
  | [], vs, c, e, hv => by
    simp only [vrels] at hv; subst hv
    have e' : some 0 = some c := e
    cases e'
    exact ⟨[], rfl, rfl, rfl, by simp⟩
  | a :: l, vs, c, e, hv => by
    simp only [vrels] at hv
    obtain ⟨v, r, rfl, h1, h2⟩ := hv
    have e' : ob (cellByte a) (fun n => ob (cellBytes l) fun r => some (n + 256 * r)) = some c := e
    obtain ⟨n, hn, e'⟩ := ob_some e'
    obtain ⟨c', hc', e'⟩ := ob_some e'
    cases e'
    obtain ⟨ns, g1, g2, g3, g4⟩ := cellBytes_sound hc' h2
    have ha : a = .int .u8 (n : Int) ∧ n < 256 := by
      unfold cellByte at hn
      split at hn
      · obtain ⟨k1, k2⟩ := ifb_some hn
        cases k2
        exact ⟨rfl, blt_iff.1 k1⟩
      · simp at hn
    obtain ⟨rfl, hlt⟩ := ha
    simp only [vrel] at h1
    subst h1
    refine ⟨n :: ns, by simp [g1], by simp [g2], ?_, ?_⟩
    · simp only [List.length_cons, dec]
      have e1 : (n + 256 * c') % 256 = n := by omega
      have e2 : (n + 256 * c') / 256 = c' := by omega
      rw [e1, e2, ← g3]
    · simp only [List.length_cons, Nat.pow_succ]; omega

theorem foldl_push : ∀ (ns : List Nat) (s : ByteArray), ((ns.map fun (n : Nat) => (n : Int)).foldl (fun r n => r.push (UInt8.ofNat n.toNat)) s) = ⟨⟨s.data.toList ++ ns.map UInt8.ofNat⟩⟩
  | [], s => by simp
  | n :: ns, s => by
    simp only [List.map_cons, List.foldl_cons]
    rw [foldl_push ns]
    simp [ByteArray.push]

theorem bytesString_sound (r : HR B w0 μ h w) {v : AV} {x : Value} {p : Nat × Nat} (hv : vrel μ v x) (e : bytesOfSlice h v = some p) :
    (Conv.bytesToString x).run P w = .ok (.string (strOf p.1 p.2)) w ∧ p.2 < 256 ^ p.1 := by
  have key : ∀ (y o n : Nat) (l : Loc) (cap : Nat), μ y = some l → (ob (h.loads y o n) fun l => ob (cellBytes l) fun c => some (n, c)) = some p →
      (Conv.bytesToString (.slice (some ⟨l.block, l.base + o, none⟩) n cap)).run P w = .ok (.string (strOf p.1 p.2)) w ∧ p.2 < 256 ^ p.1 := by
    intro y o n l cap hl e
    obtain ⟨as, has, e⟩ := ob_some e
    obtain ⟨c, hc, e⟩ := ob_some e
    cases e
    obtain ⟨vs, h1, h2, h3⟩ := r.loads hl n o as has
    obtain ⟨ns, g1, g2, g3, g4⟩ := cellBytes_sound hc h1
    have hlen : as.length = n := by rw [← vrels_length h1]; exact h2
    rw [hlen] at g3 g4
    have hcells := cell_loads (P := P) h2 h3
    refine ⟨?_, g4⟩
    rw [run_bytesToString w ⟨l.block, l.base + o, none⟩ n cap (ns.map fun (n : Nat) => (n : Int)) (by rw [hcells, g1]; simp)]
    rw [foldl_push]
    simp [strOf, g3]
  cases v with
  | nils =>
    simp only [vrel] at hv; subst hv
    simp only [bytesOfSlice] at e; cases e
    exact ⟨by simp [Conv.bytesToString, strOf, dec]; rfl, by simp⟩
  | sl y o n c =>
    simp only [vrel] at hv
    obtain ⟨l, hl, rfl⟩ := hv
    exact key y o n l c hl e
  | so y o n z =>
    simp only [vrel] at hv
    obtain ⟨l, cap, hl, _, _, rfl⟩ := hv
    exact key y o n l cap hl e
  | _ => simp [bytesOfSlice] at e

theorem freeze_end (w : World) (c : Nat) (arr : Array Value) (e : TypeId) (hw : w.heap[c]? = some (.cells arr e (0, 0))) :
    (w.freeze ⟨c, arr.size, none⟩ 1).heap[c]? = some (.cells arr e (arr.size, arr.size + 1)) ∧ ∀ k, k ≠ c → (w.freeze ⟨c, arr.size, none⟩ 1).heap[k]? = w.heap[k]? := by
  constructor
  · simp [World.freeze, Array.getElem?_modify, hw]
  · intro k hk
    show (w.heap.modify c _)[k]? = _
    rw [Array.getElem?_modify, if_neg (fun e => hk e.symm)]

theorem marked_sound (r : HR B w0 μ h w) {x o n c : Nat} {e e' : TypeId} {src dst : TypeId} {xv : Value} {b b' : Blk} {s : TypeDesc} (hse : asSlice s = some e') (hs : P.underlying src = some s) (hd : P.underlying dst = some (.slice e)) (hu : P.underlying e = some (.int .u8)) (hsd : src = dst)
    (hx : vrel μ (.sl x o n c) xv) (hlim : x < limit) (hb : h.get x = some b) (hm : marked b = some b') : OkV P B w0 μ w (convert src dst xv) (.sl x o n c) (h.put x b') := by
  have hx' := hx
  simp only [vrel] at hx
  obtain ⟨l, hl, rfl⟩ := hx
  cases b <;> simp only [marked] at hm <;> first | (simp at hm; done) | skip
  rename_i m p z t
  cases p <;> simp only at hm <;> first | (simp at hm; done) | skip
  cases hm
  obtain ⟨l', hl', _, _, hr⟩ := r.blk x _ hb
  rw [hl] at hl'; cases hl'
  obtain ⟨arr, el, fz, g1, g2, g3, g4, g5, g6⟩ := hr
  have hfz := g5 rfl
  subst hfz
  obtain ⟨f1, f2⟩ := freeze_end w l.block arr el g1
  have hs' : s = .slice e' := by cases s <;> simp [asSlice] at hse; rw [hse]
  subst hs'
  refine ⟨.slice (some ⟨l.block, l.base + o, none⟩) n c, w.freeze ⟨l.block, arr.size, none⟩ 1, μ, ?_, Ext.refl _, hx', ?_⟩
  · have hshape : w.shape? l.block = some (el, arr.size) := by simp [World.shape?, g1]
    have hbeq : (src == dst) = true := by rw [hsd]; exact beq_self_eq_true _
    simp only [convert, Sem.run_bind, run_underlying hs, run_underlying hd, Result.andThen_ok, run_underlying hu, hbeq, markStringish, run_shape, Sem.run_pure]
    change ((Sem.run P (match World.shape? w l.block with | some (_, n) => freeze { block := l.block, off := n } 1 | _ => pure ()) w).andThen fun _ w' => Result.ok (Value.slice (some { block := l.block, off := l.base + o }) n c) w') = _
    rw [hshape]
    rfl
  · refine r.upd hb hl rfl rfl (by unfold limit at hlim; omega) ⟨by simp only [World.freeze]; rfl, by simp only [World.freeze]; rfl, by simp only [World.freeze]; rfl, by simp [World.freeze], f2⟩ ?_
    exact ⟨arr, el, _, f1, g2, fun i hi => by simp; omega, g4, fun e => by simp at e, g6⟩

theorem conv_sound (r : HR B w0 μ h w) {src dst : TypeId} {a : AV} {x : Value} {p : AV × H} (hx : vrel μ a x) (e : conv? P src dst h a = some p) :
    OkV P B w0 μ w (convert src dst x) p.1 p.2 := by
  obtain ⟨s, hs, e⟩ := ob_some e
  obtain ⟨d, hd, e⟩ := ob_some e
  cases d <;> simp only at e <;> first | (simp at e; done) | skip
  case int k =>
    unfold convInt at e
    split at e
    · cases e
      simp only [vrel] at hx; subst hx
      refine .same r (by simp [convert, run_underlying hs, run_underlying hd, Conv.intToInt]; rfl) (by simp [vrel, wrapF_eq])
    · obtain ⟨v, hv, e⟩ := ob_some e
      cases e
      obtain ⟨k', n, h1, h2⟩ := Tab.icok _ (findC_mem hv)
      rw [den_rel h1 hx]
      exact .same r (by simp [convert, run_underlying hs, run_underlying hd, Conv.intToInt]) (den_mk h2)
    · simp at e
  case string =>
    unfold convStr at e
    split at e
    · cases e
      simp only [vrel] at hx
      obtain ⟨hc, rfl⟩ := hx
      exact .same r (by simp [convert, run_underlying hs, run_underlying hd]; rfl) (by simp only [vrel]; exact ⟨hc, trivial⟩)
    · cases e
      simp only [vrel] at hx; subst hx
      refine .same r (v' := .string (Utf8.encode _)) (by simp [convert, run_underlying hs, run_underlying hd, Conv.intToString]; rfl) ?_
      exact vrel_string _
    · rename_i e' hns hni
      obtain ⟨hu, e⟩ := ifb_some e
      obtain ⟨q, hq, e⟩ := ob_some e
      cases e
      have hu := u8_some hu
      obtain ⟨h1, h2⟩ := bytesString_sound (P := P) r hx hq
      have hsl : ∃ b n c, x = .slice b n c := by
        cases a <;> simp [bytesOfSlice] at hq <;> simp only [vrel] at hx
        · exact ⟨_, _, _, hx⟩
        · obtain ⟨_, _, rfl⟩ := hx; exact ⟨_, _, _, rfl⟩
        · obtain ⟨_, _, _, _, _, rfl⟩ := hx; exact ⟨_, _, _, rfl⟩
      obtain ⟨b, n, c, rfl⟩ := hsl
      refine .same r (v' := .string (strOf q.1 q.2)) (by simp [convert, run_underlying hs, run_underlying hd, run_underlying hu, h1]) ?_
      simp only [vrel]; exact ⟨h2, trivial⟩
    · simp at e
  case slice el =>
    cases a with
    | sl y off n c =>
      simp only [convBytes] at e
      obtain ⟨hsd, e⟩ := ifb_some e
      obtain ⟨e', hse, e⟩ := ob_some e
      obtain ⟨hcond, e⟩ := ifb_some e
      obtain ⟨b, hb, e⟩ := ob_some e
      obtain ⟨b', hm, e⟩ := ob_some e
      cases e
      simp only [Bool.and_eq_true] at hcond
      exact marked_sound r hse hs hd (u8_some hcond.1) (nbeq_iff.1 hsd) hx (blt_iff.1 hcond.2) hb hm
    | str n c =>
      simp only [convBytes] at e
      obtain ⟨hcond, e⟩ := ifb_some e
      obtain ⟨q, hq, e⟩ := ob_some e
      cases e
      simp only [Bool.and_eq_true] at hcond
      have hu := u8_some hcond.1
      simp only [vrel] at hx
      obtain ⟨hc, rfl⟩ := hx
      let cap := n + w.tape w.drawn (.appendCap n 0 el) % (2 ^ 63 - n)
      let arr : Array Value := ((strOf n c).data.map fun b => Value.int .u8 (b.toNat : Int)) ++ Array.replicate (cap - n) (.int .u8 0)
      have hbytes : ((strOf n c).data.map fun b => Value.int .u8 (b.toNat : Int)).toList = (dec n c).map fun (b : Nat) => Value.int .u8 (b : Int) := by
        have := bytes_of_str n n c (Nat.le_refl _)
        have hex := ByteArray.extract_zero_size (b := strOf n c)
        rw [strOf_size] at hex
        rwa [hex] at this
      have hsz : arr.size = cap := by
        have h1 : (strOf n c).data.size = n := strOf_size n c
        simp only [arr, Array.size_append, Array.size_map, h1, Array.size_replicate]
        simp only [cap]; omega
      have hlen : (((strOf n c).data.map fun b => Value.int .u8 (b.toNat : Int)).toList).length = n := by rw [hbytes]; simp [dec_length]
      let w1 : World := w.drew.alloc (.cells arr el (0, 0))
      have hw1 : w1.heap[w.heap.size]? = some (.cells arr el (0, 0)) := by show (w.heap.push _)[w.heap.size]? = _; simp
      obtain ⟨f1, f2⟩ := freeze_end w1 w.heap.size arr el hw1
      have hshape : w1.shape? w.heap.size = some (el, arr.size) := by simp [World.shape?, hw1]
      have hbel : Below w.heap.size w (w1.freeze ⟨w.heap.size, arr.size, none⟩ 1) := by
        have hb1 := below_drew_alloc w (.cells arr el (0, 0))
        exact hb1.trans ⟨by simp only [World.freeze]; rfl, by simp only [World.freeze]; rfl, by simp only [World.freeze]; rfl, by simp [World.freeze, w1], fun k hk => f2 k (by omega)⟩
      obtain ⟨hll, hq⟩ := H.row_some hq
      have := r.row (x := q.1) (h' := q.2) (vs := (dec n c).map fun (b : Nat) => Value.int .u8 (b : Int)) (arr := arr) (e := el) (fz := (arr.size, arr.size + 1)) (At.ofAlloc r hq) hll (byteCells_sound n c) hbel f1 (by simp [dec_length]; rw [hsz]; simp only [cap]; omega)
        (fun i hi => by
          simp only [arr]
          rw [Array.getElem?_append_left (by rw [← Array.length_toList, hlen]; simpa [dec_length] using hi), ← Array.getElem?_toList, hbytes]) (fun i hi => by simp; omega) (fun e => by simp at e)
      obtain ⟨k1, k2, k3⟩ := this
      refine ⟨.slice (some ⟨w.heap.size, 0, none⟩) n cap, _, _, ?_, k1, ?_, k3⟩
      · simp only [convert, Sem.run_bind, run_underlying hs, run_underlying hd, Result.andThen_ok, run_underlying hu, Conv.stringToBytes, run_choose, Question.forced, strOf_size, Question.cut]
        simp only [Bool.false_eq_true, if_false, Result.andThen_ok, newRow, Sem.run_bind, run_newObj, Sem.run_pure, markStringish, run_shape]
        change (Sem.run P (match World.shape? w1 w.heap.size with | some (_, n) => freeze { block := w.heap.size, off := n } 1 | _ => pure ()) w1).andThen (fun _ w' => Result.ok (Value.slice (some { block := w.heap.size, off := 0 }) n cap) w') = _
        rw [hshape]
        rfl
      · simp only [vrel]
        exact ⟨_, cap, k2, by simp only [cap]; omega, by simp [hsz], rfl⟩
    | _ => simp [convBytes] at e

/- slices -/
def orel (μ : M) : Option AV → Option Value → Prop
  | none, none => True
  | some a, some v => vrel μ a v
  | _, _ => False

theorem bounds_sound {isSl : Bool} {len cap l r m : Nat} {lo hi mx : Option AV} {lov hiv mxv : Option Value} (h1 : orel μ lo lov) (h2 : orel μ hi hiv) (h3 : orel μ mx mxv)
    (e1 : bound? 0 lo = some l) (e2 : bound? len hi = some r) (e3 : bound? cap mx = some m) (hc : (mx.isNone || hi.isSome) = true) (hs : sub3 l r m cap = true) :
    (Instr.sliceBounds isSl len cap lov hiv mxv).run P w = .ok (l, r, m) w := by
  unfold sub3 at hs
  simp only [Bool.and_eq_true, ble_iff] at hs
  obtain ⟨s1, s2, s3⟩ := hs
  have key : ∀ {d n y : Nat} {a : AV} {v : Value} (code : BoundsCode), vrel μ a v → bound? d (some a) = some n → n ≤ y → (Instr.sliceBound v y code).run P w = .ok n w := by
    intro d n y a v code hv e hy
    simp only [bound?] at e
    obtain ⟨k, rfl⟩ := nat_some e
    simp only [vrel] at hv
    subst hv
    simp [Instr.sliceBound, asIntOf]
    intro hh
    omega
  cases mx with
  | none =>
    cases mxv with
    | some v => exact h3.elim
    | none =>
      simp only [bound?] at e3; cases e3
      cases hi with
      | none =>
        cases hiv with
        | some v => exact h2.elim
        | none =>
          simp only [bound?] at e2; cases e2
          cases lo with
          | none =>
            cases lov with
            | some v => exact h1.elim
            | none => simp only [bound?] at e1; cases e1; simp [Instr.sliceBounds]
          | some a =>
            cases lov with
            | none => exact h1.elim
            | some v => simp [Instr.sliceBounds, key _ h1 e1 s1]
      | some b =>
        cases hiv with
        | none => exact h2.elim
        | some u =>
          cases lo with
          | none =>
            cases lov with
            | some v => exact h1.elim
            | none => simp only [bound?] at e1; cases e1; simp [Instr.sliceBounds, key _ h2 e2 s2]
          | some a =>
            cases lov with
            | none => exact h1.elim
            | some v => simp [Instr.sliceBounds, key _ h1 e1 s1, key _ h2 e2 s2]
  | some c =>
    cases mxv with
    | none => exact h3.elim
    | some x =>
      cases hi with
      | none => simp at hc
      | some b =>
        cases hiv with
        | none => exact h2.elim
        | some u =>
          cases lo with
          | none =>
            cases lov with
            | some v => exact h1.elim
            | none => simp only [bound?] at e1; cases e1; simp [Instr.sliceBounds, key _ h3 e3 s3, key _ h2 e2 s2]
          | some a =>
            cases lov with
            | none => exact h1.elim
            | some v => simp [Instr.sliceBounds, key _ h3 e3 s3, key _ h1 e1 s1, key _ h2 e2 s2]

theorem dec_div : ∀ (l n c : Nat), dec n (c / 256 ^ l) = (dec (l + n) c).drop l
  | 0, n, c => by simp
  | l + 1, n, c => by
    have e : l + 1 + n = (l + n) + 1 := by omega
    rw [e]
    simp only [dec, List.drop_succ_cons]
    rw [← dec_div l n (c / 256), Nat.div_div_eq_div_mul, Nat.pow_succ, Nat.mul_comm]
theorem dec_mod : ∀ (n k c : Nat), n ≤ k → dec n (c % 256 ^ k) = dec n c
  | 0, k, c, _ => rfl
  | n + 1, 0, c, h => by omega
  | n + 1, k + 1, c, h => by
    simp only [dec]
    have e1 : c % 256 ^ (k + 1) % 256 = c % 256 := Nat.mod_mod_of_dvd _ (by rw [Nat.pow_succ]; exact Nat.dvd_mul_left _ _)
    have e2 : c % 256 ^ (k + 1) / 256 = c / 256 % 256 ^ k := by
      rw [Nat.pow_succ, Nat.mul_comm, Nat.mod_mul_right_div_self]
    rw [e1, e2, dec_mod n k (c / 256) (by omega)]

theorem str_extract {l r n c : Nat} (h1 : l ≤ r) (h2 : r ≤ n) : (strOf n c).extract l r = strOf (r - l) (c / 256 ^ l % 256 ^ (r - l)) := by
  have e : dec (r - l) (c / 256 ^ l % 256 ^ (r - l)) = ((dec n c).take r).drop l := by
    rw [dec_mod _ _ _ (Nat.le_refl _), dec_div l (r - l) c, ← dec_take r n c h2]
    congr 2; omega
  have : ((strOf n c).extract l r).data.toList = (strOf (r - l) (c / 256 ^ l % 256 ^ (r - l))).data.toList := by
    rw [ByteArray.data_extract]
    simp only [strOf, e]
    simp [List.map_drop, List.map_take, List.drop_take]
  have h3 := Array.toList_inj.1 this
  cases hx : (strOf n c).extract l r; cases hy : strOf (r - l) (c / 256 ^ l % 256 ^ (r - l))
  rw [hx, hy] at h3
  simpa using h3
end Go.X
