/-
  An abstract machine for the model: what it computes, and that it holds of every run (part 4).
-/
import Derived.Test.YtbjgdfijonkomaaGreatDoorXN3
set_option linter.unusedVariables false
set_option linter.unusedSimpArgs false
set_option linter.unusedSectionVars false
namespace Go.X
open Go.RowKit
def pvn (L : List AV) (n : Nat) (F : Nat → Int) : Nat → Option AV := fun m => if m < L.length then L[m]? else if m < n then some (.int .i64 (F (m - L.length))) else none
theorem pvn_lo {L : List AV} {n : Nat} {F : Nat → Int} {m : Nat} (h : m < L.length) : pvn L n F m = L[m]? := by unfold pvn; rw [if_pos h]
theorem pvn_hi {L : List AV} {n : Nat} {F : Nat → Int} {q : Nat} (h : L.length + q < n) : pvn L n F (L.length + q) = some (.int .i64 (F q)) := by
  unfold pvn; rw [if_neg (by omega), if_pos h, show L.length + q - L.length = q by omega]
theorem pvn_cases {L : List AV} {n : Nat} {F : Nat → Int} {m : Nat} {a : AV} (h : pvn L n F m = some a) : (m < L.length ∧ L[m]? = some a) ∨ ∃ q, m = L.length + q ∧ m < n ∧ a = .int .i64 (F q) := by
  unfold pvn at h
  split at h
  · exact .inl ⟨by assumption, h⟩
  · split at h
    · cases h; exact .inr ⟨m - L.length, by omega, by assumption, rfl⟩
    · cases h
theorem pvn_plain {L : List AV} {n : Nat} {F : Nat → Int} (h : L.all vplain = true) {m : Nat} {a : AV} (e : pvn L n F m = some a) : vplain a = true := by
  rcases pvn_cases e with ⟨_, e⟩ | ⟨_, _, _, rfl⟩
  · exact List.all_eq_true.1 h a (List.mem_of_getElem? e)
  · rfl
variable {iv : Nat → IntKind × Int} {vv : Nat → Nat → Option AV} {vk : Nat → Nat}
theorem vlN1 {r : VL} {L : List AV} {n : Nat} {F : Nat → Int} {k : Nat} {x : AV} (hk : iv r.k = (.i64, (k : Int))) (hv : vv r.i = pvn L n F) (hz : r.z = 1) (hf : r.f = 0) (hl : r.l = [x]) (hx : L[k]? = some x) : VlOk iv vv r := by
  refine ⟨by rw [hk]; exact ⟨rfl, by simp⟩, fun m b hb => ?_⟩
  rw [hl] at hb
  have hm : m = 0 := by
    have := (List.getElem?_eq_some_iff.1 hb).1
    simpa using this
  subst hm
  cases hb
  have e1 : (iv r.k).2.toNat = k := by rw [hk]; simp
  have hlt : k < L.length := (List.getElem?_eq_some_iff.1 hx).1
  rw [e1, hz, hf, hv, show k * 1 + 0 + 0 = k by omega, pvn_lo hlt]
  exact ⟨_, hx, .inl rfl⟩
theorem vlN2 {r : VL} {L : List AV} {n : Nat} {F : Nat → Int} {k q y : Nat} (hk : iv r.k = (.i64, (k : Int))) (hv : vv r.i = pvn L n F) (hz : r.z = 1) (hf : r.f = 0) (hl : r.l = [.oi y]) (h1 : k = L.length + q) (h2 : k < n) (hy : iv y = (.i64, F q)) : VlOk iv vv r := by
  refine ⟨by rw [hk]; exact ⟨rfl, by simp⟩, fun m b hb => ?_⟩
  rw [hl] at hb
  have hm : m = 0 := by
    have := (List.getElem?_eq_some_iff.1 hb).1
    simpa using this
  subst hm
  cases hb
  have e1 : (iv r.k).2.toNat = k := by rw [hk]; simp
  rw [e1, hz, hf, hv, show k * 1 + 0 + 0 = L.length + q by omega, pvn_hi (by omega)]
  exact ⟨_, rfl, .inr ⟨_, rfl, by show some (iv y) = _; rw [hy]⟩⟩
theorem vaN1 {r : VA} {L : List AV} {n : Nat} {F : Nat → Int} {k : Nat} {x : AV} (hj : iv r.j = (.i64, (n : Int))) (hj' : iv r.j' = (.i64, ((n + 1 : Nat) : Int))) (hv : vv r.i = pvn L n F) (hv' : vv r.i' = pvn L (n + 1) F) (hk : vk r.i' ≤ n + 1) (hz : r.z = 1) (hl : r.src = [x]) (h1 : n = L.length + k) (h2 : n + 1 < 1000000) (hx : denI iv x = some (.i64, F k)) : VaOk iv vv vk r := by
  have e1 : (iv r.j).2.toNat = n := by rw [hj]; simp
  have e2 : (iv r.j').2.toNat = n + 1 := by rw [hj']; simp
  refine ⟨by rw [hj]; exact ⟨rfl, Int.natCast_nonneg _⟩, by rw [hj']; exact ⟨rfl, Int.natCast_nonneg _⟩, by rw [e1, e2, hz, hl]; simp, by rw [e2]; simpa [limit] using h2, by rw [e2, hz]; omega, fun m a ha => ?_⟩
  rw [e1, hz, hl]
  rw [hv'] at ha
  rcases pvn_cases ha with ⟨c2, c3⟩ | ⟨q, rfl, c4, rfl⟩
  · refine ⟨a, ?_, .inl rfl⟩
    rw [if_pos (by omega), hv, pvn_lo c2]; exact c3
  · by_cases d : L.length + q < n
    · exact ⟨_, by rw [if_pos (by omega), hv, pvn_hi d], .inl rfl⟩
    · obtain rfl : q = k := by omega
      refine ⟨x, ?_, .inr ⟨_, hx, rfl⟩⟩
      rw [if_neg (by omega), show L.length + q - n * 1 = 0 by omega]
      rfl
theorem vpN {T T' : Tab} {C : Cv} (hip : IpOk T T' C.ip) {i i' n n' : Nat} {L L' : List AV} {F F' : Nat → Int} (h1 : T.vv i = pvn L n F) (h2 : T'.vv i' = pvn L' n' F') (hk : T'.vk i' ≤ T.vk i) (hn : n' ≤ n) (hL : L.length ≤ L'.length) (hLn : L'.length ≤ n)
    (hl : cvL C L (L'.take L.length) = true) (hm : ∀ q x, L'[L.length + q]? = some x → ∀ μ v, v = Value.int .i64 (F q) → @vrel T' μ x v) (hw : ∀ q, L'.length + q < n' → F' q = F (L'.length - L.length + q)) :
    own (.vec i) = true ∧ ∀ μ l w, @brel T μ (.vec i) l w → @brel T' (ren C.N0 C.rn μ) (.vec i') l w := by
  refine ⟨rfl, fun μ l w hb => ?_⟩
  obtain ⟨arr, el, fz, g1, g2, g3, g4, g5⟩ := hb
  refine ⟨arr, el, fz, g1, g2, g3, Nat.le_trans (Nat.add_le_add_left hk _) g4, fun m a ha => ?_⟩
  rw [h2] at ha
  rw [h1] at g5
  rcases pvn_cases ha with ⟨c2, c3⟩ | ⟨q, rfl, c4, rfl⟩
  · by_cases d : m < L.length
    · obtain ⟨a0, k1, k2⟩ := cvL_get hl m a (by rw [List.getElem?_take, if_pos d]; exact c3)
      obtain ⟨v, k3, k4⟩ := g5 m a0 (by rw [pvn_lo d]; exact k1)
      exact ⟨v, k3, cvV_sound hip k2 k4⟩
    · obtain ⟨q, rfl⟩ : ∃ q, m = L.length + q := ⟨m - L.length, by omega⟩
      obtain ⟨v, k3, k4⟩ := g5 _ _ (pvn_hi (L := L) (F := F) (q := q) (by omega))
      simp only [vrel] at k4
      exact ⟨v, k3, hm q a c3 _ v k4⟩
  · obtain ⟨v, k3, k4⟩ := g5 _ _ (pvn_hi (L := L) (F := F) (q := L'.length - L.length + q) (by omega))
    rw [show L.length + (L'.length - L.length + q) = L'.length + q by omega] at k3
    refine ⟨v, k3, ?_⟩
    simp only [vrel] at k4 ⊢
    rw [hw q c4]; exact k4
theorem vpNcells {T T' : Tab} {C : Cv} (hip : IpOk T T' C.ip) {i' n : Nat} {q : Bool} {L L' : List AV} {F' : Nat → Int} (hn : n = L.length) (h2 : T'.vv i' = pvn L' n F') (hlen : L.length < 16000000) (hk : T'.vk i' ≤ n) (hL : L'.length = n) (hl : cvL C L L' = true) :
    own (.cells n q [] (X.T.ofList 0 .leaf L)) = true ∧ ∀ μ l w, @brel T μ (.cells n q [] (X.T.ofList 0 .leaf L)) l w → @brel T' (ren C.N0 C.rn μ) (.vec i') l w := by
  refine ⟨rfl, fun μ l w hb_ => ?_⟩
  obtain ⟨arr, el, fz, g1, g2, g3, g4, _, g5⟩ := hb_
  refine ⟨arr, el, fz, g1, g2, g3, Nat.le_trans (Nat.add_le_add_left hk _) g4, fun m a ha => ?_⟩
  rw [h2] at ha
  rcases pvn_cases ha with ⟨c2, c3⟩ | ⟨q, rfl, c4, rfl⟩
  · obtain ⟨a0, k1, k2⟩ := cvL_get hl m a c3
    have hm : m < L.length := (List.getElem?_eq_some_iff.1 k1).1
    obtain ⟨v, k3, k4⟩ := g5 m a0 (by omega) (by
      unfold cellOf
      rw [X.T.get_ofList _ _ _ _ (by omega), if_pos ⟨Nat.zero_le _, by omega⟩, Nat.sub_zero, k1])
    exact ⟨v, k3, cvV_sound hip k2 k4⟩
  · omega
theorem vlW3 {r : VL} {L : List AV} {n : Nat} {W : Nat → BitVec 64} {k q : Nat} {c : Int} (hk : iv r.k = (.i64, (k : Int))) (hv : vv r.i = pvw L n W) (hz : r.z = 1) (hf : r.f = 0) (hl : r.l = [.int .u64 c]) (h1 : k = L.length + q) (h2 : k < n) (hy : wI (W q) = c) : VlOk iv vv r := by
  refine ⟨by rw [hk]; exact ⟨rfl, by simp⟩, fun m b hb => ?_⟩
  rw [hl] at hb
  have hm : m = 0 := by
    have := (List.getElem?_eq_some_iff.1 hb).1
    simpa using this
  subst hm
  cases hb
  have e1 : (iv r.k).2.toNat = k := by rw [hk]; simp
  rw [e1, hz, hf, hv, show k * 1 + 0 + 0 = L.length + q by omega, pvw_hi (by omega)]
  exact ⟨_, rfl, .inl (by rw [hy])⟩
theorem pvnHs {T : Tab} {i n : Nat} {L : List AV} {F G : Nat → Int} (hv : T.vv i = pvn L n F) (hL : ∀ q x, L[q]? = some x → x = AV.int .i64 (G q)) (hF : ∀ q, L.length + q < n → F q = G (L.length + q)) :
    ∀ m, m < n → ∃ a, T.vv i m = some a ∧ ∀ μ v, @vrel T μ a v → v = .int .i64 (G m) := by
  intro m hm
  rw [hv]
  by_cases c : m < L.length
  · rw [pvn_lo c]
    have h := List.getElem?_eq_getElem c
    refine ⟨_, h, fun μ v e => ?_⟩
    rw [hL m _ h] at e
    simp only [vrel] at e
    exact e
  · obtain ⟨q, rfl⟩ : ∃ q, m = L.length + q := ⟨m - L.length, by omega⟩
    rw [pvn_hi hm]
    exact ⟨_, rfl, fun μ v e => by simp only [vrel] at e; rw [e, hF q hm]⟩
end Go.X
set_option linter.unusedVariables false
set_option linter.unusedSimpArgs false
set_option linter.unusedSectionVars false
namespace Go.X
open Go.RowKit
structure Txts (iv : Nat → IntKind × Int) where
  str : Nat → ByteArray
  ne : Nat → List (Nat × Nat) := fun _ => []
  ok : ∀ i p, p ∈ ne i → p.2 < 256 ^ p.1 → str i ≠ strOf p.1 p.2 := by exact fun _ _ h => nomatch h
  tr : List (Nat × List AV × AV) := []
  trok : ∀ r ∈ tr, TrOk str iv r.1 r.2.1 r.2.2 := by exact fun _ h => nomatch h
variable {iv : Nat → IntKind × Int} {vv : Nat → Nat → Option AV} {vk : Nat → Nat}
abbrev VRows.ttab (R : VRows iv vv vk) (X : Txts iv) : Tab := { R.tab with str := X.str, ne := X.ne, ok := X.ok, tr := X.tr, trok := X.trok }
variable {str : Nat → ByteArray}
abbrev TRow := Nat × List AV × AV
theorem txNil : ∀ r ∈ ([] : List TRow), TrOk str iv r.1 r.2.1 r.2.2 := fun r h => by simp at h
theorem txCons {r : TRow} {l : List TRow} (h : TrOk str iv r.1 r.2.1 r.2.2) (k : ∀ r ∈ l, TrOk str iv r.1 r.2.1 r.2.2) : ∀ q ∈ r :: l, TrOk str iv q.1 q.2.1 q.2.2 := fun q hq => by
  simp only [List.mem_cons] at hq
  rcases hq with rfl | hq
  · exact h
  · exact k q hq
theorem denS_str {n c : Nat} (h : c < 256 ^ n) : denS str (.str n c) = some (strOf n c) := by simp only [denS]; rw [if_pos h]
def bytesI (l : List Int) : ByteArray := ⟨⟨l.map fun n => UInt8.ofNat n.toNat⟩⟩
theorem tr6 {l : List AV} {ns : List Int} {v : AV} (h : l.map (denI iv) = ns.map fun n => some (.u8, n)) (hb : ∀ n ∈ ns, 0 ≤ n ∧ n < 256) (hv : denS str v = some (bytesI ns)) : TrOk str iv 6 l v := by
  refine ⟨ns.map fun (n : Int) => UInt8.ofNat n.toNat, ?_, hv⟩
  rw [h, List.map_map]
  apply List.map_congr_left
  intro n hn
  obtain ⟨h0, h1⟩ := hb n hn
  simp only [Function.comp, UInt8.toNat_ofNat']
  congr 2
  omega
theorem tr3 {s t v : AV} {a b : ByteArray} (ha : denS str s = some a) (hb : denS str t = some b) (hs : a.size + b.size < 1000000) (hv : denS str v = some (a ++ b)) : TrOk str iv 3 [s, t] v := ⟨a, b, ha, hb, hs, hv⟩
theorem tr4 {s t : AV} {a b : ByteArray} {e : Bool} (ha : denS str s = some a) (hb : denS str t = some b) (h : e = true ↔ a = b) : TrOk str iv 4 [s, t] (.bool e) := ⟨a, b, e, ha, hb, rfl, h⟩
theorem bytesI_inj {l m : List Int} (hl : ∀ n ∈ l, 0 ≤ n ∧ n < 256) (hm : ∀ n ∈ m, 0 ≤ n ∧ n < 256) (h : bytesI l = bytesI m) : l = m := by
  have h : (l.map fun n => UInt8.ofNat n.toNat) = m.map fun n => UInt8.ofNat n.toNat := by
    have := congrArg (fun b : ByteArray => b.data.toList) h
    simpa [bytesI] using this
  have g : ∀ {l : List Int}, (∀ n ∈ l, 0 ≤ n ∧ n < 256) → (l.map fun n => UInt8.ofNat n.toNat).map (fun b => (b.toNat : Int)) = l := by
    intro l hl
    rw [List.map_map]
    conv => rhs; rw [← List.map_id l]
    apply List.map_congr_left
    intro n hn
    obtain ⟨h0, h1⟩ := hl n hn
    simp only [Function.comp, UInt8.toNat_ofNat', id]
    omega
  rw [← g hl, ← g hm, h]
theorem bytesI_append (l m : List Int) : bytesI l ++ bytesI m = bytesI (l ++ m) := by
  apply ByteArray.ext
  apply Array.ext'
  simp [bytesI]
theorem bytesI_size (l : List Int) : (bytesI l).size = l.length := by simp [bytesI, ByteArray.size]
theorem strOf_bytesI (n c : Nat) : strOf n c = bytesI ((dec n c).map fun (k : Nat) => (k : Int)) := by
  unfold strOf bytesI
  rw [List.map_map]
  congr 2
end Go.X
set_option linter.unusedVariables false
set_option linter.unusedSimpArgs false
set_option linter.unusedSectionVars false
namespace Go.X
open Go.RowKit
variable {P : Program} {B : Kp} {w0 w : World} {μ μ0 : M}
noncomputable def sameN (iv : Nat → IntKind × Int) (a b : AV) : Bool :=
  match denI iv a, denI iv b with
  | some p, some q => Nat.beq (kcode p.1) (kcode q.1) && (p.2 == q.2)
  | _, _ => false
noncomputable def sameV (iv : Nat → IntKind × Int) (a b : AV) : Bool := Bool.rec (sameN iv a b) true (veq a b)
noncomputable def sameVs (iv : Nat → IntKind × Int) : List AV → List AV → Bool
  | [], [] => true
  | a :: l, b :: m => sameV iv a b && sameVs iv l m
  | _, _ => false
noncomputable def sameB (iv : Nat → IntKind × Int) (a b : Blk) : Bool :=
  match a, b with
  | .cells n p z t, .cells n' p' z' t' => Nat.beq n n' && ((p == p') && (veqs z z' && t.same (sameV iv) t'))
  | a, b => beq? a b
noncomputable def sameBs (iv : Nat → IntKind × Int) : BL → BL → Bool
  | [], [] => true
  | a :: l, b :: m => Nat.beq a.1 b.1 && (sameB iv a.2 b.2 && sameBs iv l m)
  | _, _ => false
theorem sameN_eq [Tab] {iv : Nat → IntKind × Int} {a b : AV} (h : sameN iv a b = true) : ∃ p, denI iv a = some p ∧ denI iv b = some p := by
  unfold sameN at h
  split at h
  · rename_i p q h1 h2
    simp only [Bool.and_eq_true, beq_iff_eq] at h
    have hk := kcode_inj h.1
    refine ⟨p, h1, ?_⟩
    rw [h2]
    congr 1
    exact Prod.ext hk.symm h.2.symm
  · cases h
theorem sameV_symm [Tab] {iv : Nat → IntKind × Int} {a b : AV} (h : sameV iv a b = true) : a = b ∨ ∃ p, denI iv a = some p ∧ denI iv b = some p := by
  unfold sameV at h
  cases hv : veq a b with
  | true => exact .inl (veq_eq hv)
  | false => rw [hv] at h; exact .inr (sameN_eq h)
theorem sameV_rel [Tab] {a b : AV} {v : Value} (h : sameV Tab.iv a b = true) : vrel μ a v ↔ vrel μ b v := by
  rcases sameV_symm h with rfl | ⟨⟨k, n⟩, h1, h2⟩
  · exact Iff.rfl
  · exact ⟨fun hv => by rw [den_rel h1 hv]; exact den_mk h2, fun hv => by rw [den_rel h2 hv]; exact den_mk h1⟩
theorem sameVs_rel [Tab] : ∀ {l m : List AV} {vs : List Value}, sameVs Tab.iv l m = true → (vrels μ l vs ↔ vrels μ m vs)
  | [], [], vs, _ => Iff.rfl
  | [], _ :: _, vs, h => by simp [sameVs] at h
  | _ :: _, [], vs, h => by simp [sameVs] at h
  | a :: l, b :: m, vs, h => by
    simp only [sameVs, Bool.and_eq_true] at h
    simp only [vrels]
    constructor
    · rintro ⟨v, r, e, h1, h2⟩
      exact ⟨v, r, e, (sameV_rel h.1).1 h1, (sameVs_rel h.2).1 h2⟩
    · rintro ⟨v, r, e, h1, h2⟩
      exact ⟨v, r, e, (sameV_rel h.1).2 h1, (sameVs_rel h.2).2 h2⟩
theorem T.same_get {α : Type} {eq : α → α → Bool} : ∀ (a b : T α), a.same eq b = true → ∀ i, (∀ y, b.get i = some y → ∃ x, a.get i = some x ∧ eq x y = true) ∧ (∀ x, a.get i = some x → ∃ y, b.get i = some y ∧ eq x y = true)
  | .leaf, .leaf, _, i => ⟨fun y h => by simp at h, fun y h => by simp at h⟩
  | .leaf, .node _ _ _, h, i => by have h' : false = true := h; cases h'
  | .node l v r, .leaf, h, i => by have h' : false = true := h; cases h'
  | .node l v r, .node l' v' r', h, i => by
    have h' : (eqO eq v v' && (l.same eq l' && r.same eq r')) = true := h
    simp only [Bool.and_eq_true] at h'
    rw [T.get_node, T.get_node]
    by_cases c0 : i = 0
    · rw [if_pos c0, if_pos c0]
      cases v with
      | none =>
        cases v' with
        | none => exact ⟨fun y h => by simp at h, fun y h => by simp at h⟩
        | some u => have h2 : false = true := h'.1; cases h2
      | some u =>
        cases v' with
        | none => have h2 : false = true := h'.1; cases h2
        | some u' =>
          have h2 : eq u u' = true := h'.1
          exact ⟨fun y e => by cases e; exact ⟨u, rfl, h2⟩, fun y e => by cases e; exact ⟨u', rfl, h2⟩⟩
    · rw [if_neg c0, if_neg c0]
      by_cases c1 : i % 2 = 1
      · rw [if_pos c1, if_pos c1]; exact T.same_get l l' h'.2.1 _
      · rw [if_neg c1, if_neg c1]; exact T.same_get r r' h'.2.2 _
theorem sameB_own [Tab] {iv : Nat → IntKind × Int} {a b : Blk} (h : sameB iv a b = true) : own a = own b := by
  unfold sameB at h
  split at h
  · rfl
  · rw [beq_eq h]
theorem cellsSame [Tab] {n : Nat} {p : Bool} {z : List AV} {t t' : T AV} {l : Loc} (h : ∀ i, ∀ y, t'.get i = some y → ∃ x, t.get i = some x ∧ ∀ v, vrel μ x v → vrel μ y v) (h2 : ∀ i, t'.get i = none → t.get i = none) (hb : brel μ (.cells n p z t) l w) : brel μ (.cells n p z t') l w := by
  obtain ⟨arr, el, fz, g1, g2, g3, g4, g5, g6⟩ := hb
  refine ⟨arr, el, fz, g1, g2, g3, g4, g5, fun i a hi ha => ?_⟩
  unfold cellOf at ha
  cases ht : t'.get i with
  | some y =>
    rw [ht] at ha
    simp only [Option.some.injEq] at ha
    subst ha
    obtain ⟨x, hx, hv⟩ := h i y ht
    obtain ⟨v, v1, v2⟩ := g6 i x hi (by unfold cellOf; rw [hx])
    exact ⟨v, v1, hv v v2⟩
  | none =>
    rw [ht] at ha
    exact g6 i a hi (by unfold cellOf; rw [h2 i ht]; exact ha)
theorem sameB_rel [Tab] {a b : Blk} {l : Loc} (h : sameB Tab.iv a b = true) : brel μ a l w ↔ brel μ b l w := by
  unfold sameB at h
  split at h
  · rename_i n p z t n' p' z' t'
    simp only [Bool.and_eq_true, nbeq_iff, beq_iff_eq] at h
    obtain ⟨rfl, rfl, hz, ht⟩ := h
    have := veqs_eq hz
    subst this
    have g := T.same_get _ _ ht
    constructor
    · refine cellsSame (fun i y hy => ?_) (fun i hn => ?_)
      · obtain ⟨x, h1, h2⟩ := (g i).1 y hy
        exact ⟨x, h1, fun v hv => (sameV_rel h2).1 hv⟩
      · cases hx : t.get i with
        | none => rfl
        | some x => obtain ⟨y, h1, _⟩ := (g i).2 x hx; rw [hn] at h1; cases h1
    · refine cellsSame (fun i y hy => ?_) (fun i hn => ?_)
      · obtain ⟨x, h1, h2⟩ := (g i).2 y hy
        exact ⟨x, h1, fun v hv => (sameV_rel h2).2 hv⟩
      · cases hx : t'.get i with
        | none => rfl
        | some x => obtain ⟨y, h1, _⟩ := (g i).1 x hx; rw [hn] at h1; cases h1
  · rw [beq_eq h]
def SB [Tab] (a b : Blk) : Prop := a = b ∨ sameB Tab.iv a b = true
theorem SB.own [Tab] {a b : Blk} (h : SB a b) : X.own a = X.own b := by
  rcases h with rfl | h
  · rfl
  · exact sameB_own h
theorem SB.rel [Tab] {a b : Blk} {l : Loc} (h : SB a b) : brel μ a l w ↔ brel μ b l w := by
  rcases h with rfl | h
  · exact Iff.rfl
  · exact sameB_rel h
def SameH [Tab] (h k : H) : Prop := h.next ≤ k.next ∧ ∀ x, (∀ b, k.get x = some b → ∃ a, h.get x = some a ∧ SB a b) ∧ (∀ a, h.get x = some a → ∃ b, k.get x = some b)
theorem HR.sameH [Tab] {h k : H} (s : SameH h k) (r : HR B w0 μ h w) : HR B w0 μ k w where
  below := r.below
  fresh := fun x hx => by
    obtain ⟨h1, h2⟩ := r.fresh x (Nat.le_trans s.1 hx)
    refine ⟨?_, h2⟩
    cases hk : k.get x with
    | none => rfl
    | some b => obtain ⟨a, ha, _⟩ := (s.2 x).1 b hk; rw [h1] at ha; cases ha
  res := fun x hx => ⟨Nat.lt_of_lt_of_le (r.res x hx).1 s.1, (r.res x hx).2⟩
  blk := fun x b hb => by
    obtain ⟨a, ha, hs⟩ := (s.2 x).1 b hb
    obtain ⟨l, h1, h2, h3, h4⟩ := r.blk x a ha
    rw [SB.own hs] at h2 h3
    exact ⟨l, h1, h2, h3, (SB.rel hs).1 h4⟩
  sep := fun x y b c l k' hb hc hne ho ho' hl hk => by
    obtain ⟨a, ha, hs⟩ := (s.2 x).1 b hb
    obtain ⟨a', ha', hs'⟩ := (s.2 y).1 c hc
    exact r.sep x y a a' l k' ha ha' hne (by rw [SB.own hs]; exact ho) (by rw [SB.own hs']; exact ho') hl hk
theorem HR.sameH' [Tab] {h k : H} (e : h.next = k.next) (s : SameH h k) (r : HR B w0 μ k w) : HR B w0 μ h w where
  below := r.below
  fresh := fun x hx => by
    obtain ⟨h1, h2⟩ := r.fresh x (by rw [← e]; exact hx)
    refine ⟨?_, h2⟩
    cases hk : h.get x with
    | none => rfl
    | some b => obtain ⟨a, ha⟩ := (s.2 x).2 b hk; rw [h1] at ha; cases ha
  res := fun x hx => by rw [e]; exact r.res x hx
  blk := fun x a ha => by
    obtain ⟨b, hb⟩ := (s.2 x).2 a ha
    obtain ⟨a', ha', hs⟩ := (s.2 x).1 b hb
    rw [ha] at ha'; cases ha'
    obtain ⟨l, h1, h2, h3, h4⟩ := r.blk x b hb
    rw [← SB.own hs] at h2 h3
    exact ⟨l, h1, h2, h3, (SB.rel hs).2 h4⟩
  sep := fun x y a c l k' ha hc hne ho ho' hl hk => by
    obtain ⟨b, hb⟩ := (s.2 x).2 a ha
    obtain ⟨a', ha', hs⟩ := (s.2 x).1 b hb
    rw [ha] at ha'; cases ha'
    obtain ⟨d, hd⟩ := (s.2 y).2 c hc
    obtain ⟨c', hc', hs'⟩ := (s.2 y).1 d hd
    rw [hc] at hc'; cases hc'
    exact r.sep x y b d l k' hb hd hne (by rw [← SB.own hs]; exact ho) (by rw [← SB.own hs']; exact ho') hl hk
theorem CallOk.same [Tab] {f : FuncId} {xs ys : List AV} {h k h' k' : H} {v u : AV} (hx : sameVs Tab.iv xs ys = true) (hv : sameV Tab.iv v u = true) (hn : h.next = k.next) (hh : SameH h k) (hk : SameH h' k') (o : CallOk P f xs h (v, h')) : CallOk P f ys k (u, k') := by
  intro B w0 μ w args' r ha
  refine (o B w0 μ w args' (HR.sameH' hn hh r) ((sameVs_rel hx).2 ha)).mono ?_
  rintro e' w' ⟨v', μ', h1, h2, h3, h4⟩
  exact ⟨v', μ', h1, h2, (sameV_rel hv).1 h3, HR.sameH hk h4⟩
theorem sameBs_get [Tab] {iv : Nat → IntKind × Int} : ∀ {l m : BL}, sameBs iv l m = true → ∀ x, (∀ b, (x, b) ∈ m → ∃ a, (x, a) ∈ l ∧ sameB iv a b = true) ∧ (∀ a, (x, a) ∈ l → ∃ b, (x, b) ∈ m)
  | [], [], _, x => ⟨fun b h => by simp at h, fun b h => by simp at h⟩
  | [], _ :: _, h, _ => by simp [sameBs] at h
  | _ :: _, [], h, _ => by simp [sameBs] at h
  | p :: l, q :: m, h, x => by
    simp only [sameBs, Bool.and_eq_true] at h
    obtain ⟨h1, h2, h3⟩ := h
    have h1 := nbeq_iff.1 h1
    obtain ⟨i1, i2⟩ := sameBs_get h3 x
    constructor
    · intro b hb
      simp only [List.mem_cons] at hb
      rcases hb with hb | hb
      · cases hb
        exact ⟨p.2, by have : x = p.1 := h1.symm; subst this; simp, h2⟩
      · obtain ⟨a, g1, g2⟩ := i1 b hb
        exact ⟨a, List.mem_cons_of_mem _ g1, g2⟩
    · intro a ha
      simp only [List.mem_cons] at ha
      rcases ha with ha | ha
      · cases ha
        exact ⟨q.2, by have : x = q.1 := h1; subst this; simp⟩
      · obtain ⟨b, g1⟩ := i2 a ha
        exact ⟨b, List.mem_cons_of_mem _ g1⟩
noncomputable def once : List Nat → Bool
  | [] => true
  | x :: l => !(l.contains x) && once l
theorem once_eq {bs : BL} (h : once (bs.map (·.1)) = true) {x : Nat} {a b : Blk} (ha : (x, a) ∈ bs) (hb : (x, b) ∈ bs) : a = b := by
  induction bs with
  | nil => simp at ha
  | cons p l ih =>
    simp only [List.map_cons, once, Bool.and_eq_true, Bool.not_eq_true', List.contains_eq_mem, decide_eq_false_iff_not] at h
    simp only [List.mem_cons] at ha hb
    rcases ha with ha | ha <;> rcases hb with hb | hb
    · rw [← ha] at hb; cases hb; rfl
    · subst ha; exact absurd (List.mem_map.2 ⟨_, hb, rfl⟩) h.1
    · subst hb; exact absurd (List.mem_map.2 ⟨_, ha, rfl⟩) h.1
    · exact ih h.2 ha hb
theorem hIn_mem [Tab] {N : Nat} {bs : BL} (hlim : okLim bs = true) (ho : once (bs.map (·.1)) = true) {x : Nat} {b : Blk} (hb : (x, b) ∈ bs) : (hIn N bs).get x = some b := by
  cases h : (hIn N bs).get x with
  | some c => rw [once_eq ho (hIn_get (okLim_mem hlim) h) hb]
  | none =>
    exfalso
    have key : ∀ (l : BL), (∀ p ∈ l, p.1 < limit) → (x, b) ∈ l → (ofPairs l).get x ≠ none := by
      intro l
      induction l with
      | nil => intro _ h; simp at h
      | cons p l ih =>
        intro hl hm e
        have e' : (T.put (ofPairs l) p.1 p.2).get x = none := e
        have hp := hl p (by simp)
        rw [T.get_put _ _ _ _ (by unfold limit at hp; omega)] at e'
        split at e'
        · cases e'
        · rename_i hne
          simp only [List.mem_cons] at hm
          rcases hm with hm | hm
          · subst hm; exact hne rfl
          · exact ih (fun q hq => hl q (by simp [hq])) hm e'
    refine key bs (okLim_mem hlim) hb ?_
    unfold hIn at h
    rw [fT_eq] at h
    exact h
theorem sameH_hIn [Tab] {N : Nat} {bs cs : BL} (h : sameBs Tab.iv bs cs = true) (hb : okLim bs = true) (hc : okLim cs = true) (ob : once (bs.map (·.1)) = true) (oc : once (cs.map (·.1)) = true) : SameH (hIn N bs) (hIn N cs) := by
  refine ⟨by unfold hIn; rw [fT_eq, fT_eq]; exact Nat.le_refl _, fun x => ⟨fun b hx => ?_, fun a hx => ?_⟩⟩
  · have hm := hIn_get (okLim_mem hc) hx
    obtain ⟨a, g1, g2⟩ := (sameBs_get h x).1 b hm
    exact ⟨a, hIn_mem hb ob g1, .inr g2⟩
  · have hm := hIn_get (okLim_mem hb) hx
    obtain ⟨b, g1⟩ := (sameBs_get h x).2 a hm
    exact ⟨b, hIn_mem hc oc g1⟩
theorem layAll_none : ∀ {bs : BL} {t : T Blk} {x : Nat}, (∀ q ∈ bs, q.1 < limit) → (layAll t bs).get x = none → t.get x = none ∧ ∀ q ∈ bs, q.1 ≠ x
  | [], t, x, _, h => ⟨h, fun q hq => by simp at hq⟩
  | p :: l, t, x, hl, h => by
    have h' : (layAll (t.put p.1 p.2) l).get x = none := by
      have : layAll t (p :: l) = fT (t.put p.1 p.2) fun t => layAll t l := rfl
      rw [this, fT_eq] at h; exact h
    obtain ⟨h1, h2⟩ := layAll_none (fun q hq => hl q (List.mem_cons_of_mem _ hq)) h'
    rw [T.get_put _ _ _ _ (by have := hl p List.mem_cons_self; unfold limit at this; omega)] at h1
    by_cases e : x = p.1
    · rw [if_pos e] at h1; cases h1
    · rw [if_neg e] at h1
      refine ⟨h1, fun q hq => ?_⟩
      simp only [List.mem_cons] at hq
      rcases hq with rfl | hq
      · exact fun h => e h.symm
      · exact h2 q hq
theorem layAll_at : ∀ {bs : BL} {t : T Blk} {x : Nat} {b : Blk}, (∀ q ∈ bs, q.1 < limit) → once (bs.map (·.1)) = true → (x, b) ∈ bs → (layAll t bs).get x = some b
  | [], t, x, b, _, _, h => by simp at h
  | p :: l, t, x, b, hl, ho, h => by
    have e0 : layAll t (p :: l) = layAll (t.put p.1 p.2) l := by
      have : layAll t (p :: l) = fT (t.put p.1 p.2) fun t => layAll t l := rfl
      rw [this, fT_eq]
    rw [e0]
    have ho' := ho
    simp only [List.map_cons, once, Bool.and_eq_true, Bool.not_eq_true', List.contains_eq_mem, decide_eq_false_iff_not] at ho'
    have hl' : ∀ q ∈ l, q.1 < limit := fun q hq => hl q (List.mem_cons_of_mem _ hq)
    simp only [List.mem_cons] at h
    rcases h with h | h
    · cases hg : (layAll (t.put p.1 p.2) l).get x with
      | some c =>
        rcases layAll_get l _ x c hl' hg with hm | hm
        · rw [once_eq ho (List.mem_cons_of_mem _ hm) (by rw [h]; simp)]
        · rw [T.get_put _ _ _ _ (by have := hl p List.mem_cons_self; unfold limit at this; omega), ← h, if_pos rfl] at hm
          exact hm.symm
      | none =>
        obtain ⟨h1, _⟩ := layAll_none hl' hg
        rw [T.get_put _ _ _ _ (by have := hl p List.mem_cons_self; unfold limit at this; omega), ← h, if_pos rfl] at h1
        cases h1
    · exact layAll_at hl' ho'.2 h
theorem beq_pair {h : H} : ∀ {bs : BL}, (∀ q ∈ bs, h.get q.1 = some q.2) → (∀ q ∈ bs, beq? q.2 q.2 = true) → hasAll h bs = true
  | [], _, _ => rfl
  | p :: l, hh, hb => by
    show (@Bool.rec (fun _ => Bool) false (hasAll h l) (@Option.rec _ (fun _ => Bool) false (fun b => beq? p.2 b) (h.get p.1))) = true
    rw [hh p (by simp)]
    show (@Bool.rec (fun _ => Bool) false (hasAll h l) (beq? p.2 p.2)) = true
    rw [hb p (by simp)]
    exact beq_pair (fun q hq => hh q (by simp [hq])) (fun q hq => hb q (by simp [hq]))
noncomputable def selfBs (bs : BL) : Bool := bs.all fun p => beq? p.2 p.2
theorem InOk.same [Tab] {c d : In} (hf : c.f = d.f) (hN : c.N = d.N) (hN' : c.N' ≤ d.N') (hx : sameVs Tab.iv c.xs d.xs = true) (hv : sameV Tab.iv c.v d.v = true) (hb : sameBs Tab.iv c.bs d.bs = true) (hb' : sameBs Tab.iv c.bs' d.bs' = true)
    (l1 : okLim c.bs = true) (l2 : okLim d.bs = true) (l3 : okLim d.bs' = true) (l5 : selfBs d.bs' = true) (o1 : once (c.bs.map (·.1)) = true) (o2 : once (d.bs.map (·.1)) = true) (o3 : once (c.bs'.map (·.1)) = true) (o4 : once (d.bs'.map (·.1)) = true) (o : InOk P c) : InOk P d := by
  obtain ⟨h', k1, k2, k3⟩ := o.run
  have l4 := o.lim
  have hmem : ∀ q ∈ d.bs', (⟨d.N', layAll h'.t d.bs'⟩ : H).get q.1 = some q.2 := fun q hq => layAll_at (okLim_mem l3) o4 hq
  have hsame : SameH h' ⟨d.N', layAll h'.t d.bs'⟩ := by
    refine ⟨by rw [← k2]; exact hN', fun x => ⟨fun b hb2 => ?_, fun a ha => ?_⟩⟩
    · rcases layAll_get d.bs' h'.t x b (okLim_mem l3) hb2 with hm | hm
      · obtain ⟨a, g1, g2⟩ := (sameBs_get hb' x).1 b hm
        exact ⟨a, hasAll_mem k3 _ g1, .inr g2⟩
      · exact ⟨b, hm, .inl rfl⟩
    · cases hg : (⟨d.N', layAll h'.t d.bs'⟩ : H).get x with
      | some b => exact ⟨b, rfl⟩
      | none => obtain ⟨h1, _⟩ := layAll_none (okLim_mem l3) hg; rw [show h'.t.get x = some a from ha] at h1; cases h1
  refine ⟨l3, ⟨d.N', layAll h'.t d.bs'⟩, ?_, rfl, ?_⟩
  · rw [← hf]
    exact CallOk.same hx hv (by rw [hN]; unfold hIn; rw [fT_eq, fT_eq]) (by rw [← hN]; exact sameH_hIn hb l1 l2 o1 o2) hsame k1
  · exact beq_pair hmem (by simpa [selfBs] using l5)
theorem St.sameH {τ : Tab} {nt : Nat} {fr fr' : Fr} {h k : H} {a : Act} (hf : fr.same (sameV τ.iv) fr' = true) (hh : @SameH τ h k) (s : St τ B w0 μ0 nt fr h a w) : St τ B w0 μ0 nt fr' k a w := by
  obtain ⟨μ, hx, f, r⟩ := s
  refine ⟨μ, hx, ⟨f.1, f.2.1, fun t v ht => ?_⟩, @HR.sameH B w0 w μ τ h k hh r⟩
  obtain ⟨x, h1, h2⟩ := (T.same_get _ _ hf t).1 v ht
  obtain ⟨v', g1, g2⟩ := f.2.2 t x h1
  exact ⟨v', g1, (@sameV_rel μ τ x v v' h2).1 g2⟩
theorem sameH_hOf [Tab] {N : Nat} {bs cs : BS} (h : sameBs Tab.iv (bsOf bs) (bsOf cs) = true) (hb : okLim (bsOf bs) = true) (hc : okLim (bsOf cs) = true) (ob : once ((bsOf bs).map (·.1)) = true) (oc : once ((bsOf cs).map (·.1)) = true) : SameH (hOf N bs) (hOf N cs) := sameH_hIn h hb hc ob oc
end Go.X
set_option linter.unusedVariables false
set_option linter.unusedSimpArgs false
namespace Go.X
theorem in64 (k : IntKind) (h : k.bits ≤ 32) (n : Int) : IntKind.i64.wrap (k.wrap n) = k.wrap n := by
  refine wrap64 ?_ ?_
  all_goals
    cases k <;> simp [IntKind.bits] at h <;> (unfold IntKind.wrap IntKind.bits IntKind.signed; simp only [Bool.true_and, Bool.false_and, decide_eq_true_eq]; try split) <;> first | omega | (simp; omega)
theorem readK {k : IntKind} (h : k.bits ≤ 32) {x v : Int} (e : x % 2 ^ k.bits = (k.wrap v) % 2 ^ k.bits) : k.wrap (IntKind.i64.wrap x) = k.wrap v := by
  rw [wrap_wrap (show k.bits ≤ IntKind.i64.bits by show _ ≤ 64; omega)]
  exact wrap_congr k (by rw [e, wrap_mod])
theorem readJ {x v : Int} (h1 : -9223372036854775808 ≤ v) (h2 : v ≤ 9223372036854775807) (e : x % 2 ^ 64 = v % 2 ^ 64) : IntKind.i64.wrap x = v := by
  rw [wrap_congr .i64 (n := x) (m := v) e, wrap64 h1 h2]
theorem and1 (n : Int) : IntKind.i64.wrap ((BitVec.ofInt IntKind.i64.bits n &&& BitVec.ofInt IntKind.i64.bits 1).toNat : Int) = n % 2 := by
  have h : (BitVec.ofInt 64 n &&& BitVec.ofInt 64 1).toNat = (n % 2).toNat := by
    rw [BitVec.toNat_and, BitVec.toNat_ofInt, show (BitVec.ofInt 64 1).toNat = 1 from rfl, Nat.and_one_is_mod]
    omega
  show IntKind.i64.wrap ((BitVec.ofInt 64 n &&& BitVec.ofInt 64 1).toNat : Int) = n % 2
  rw [h, wrap64 (by omega) (by omega)]
  omega
theorem readZ {x v : Int} (e : x % 2 ^ 8 = (v % 2) % 2 ^ 8) : (IntKind.i64.wrap x) % 2 = v % 2 := by
  have h := wrap_mod .i64 x
  have h2 : (IntKind.i64.wrap x) % 2 ^ 64 = x % 2 ^ 64 := h
  omega
theorem lowIs {per S : Nat} (h : per * S = 64) (f : Nat → BitVec 64) {n k j : Nat} {v : Int} (hj : j < n) : wI (upd per S (putsTo per S f n) k (BitVec.ofInt 64 v) (j / per) >>> (j % per * S)) % 2 ^ S = if j = k then v % 2 ^ S else (((f j).setWidth S).toNat : Int) := by
  have hS : S ≤ 64 := by
    have hp : 0 < per := Nat.pos_of_ne_zero (by rintro rfl; simp at h)
    have := Nat.mul_le_mul_right S hp
    omega
  rw [low_mod, low_upd h]
  split
  · exact setWidth_mod hS v
  · rw [low_puts h f n j hj]
theorem vecSubN {T T' : Tab} {C : Cv} {x i i' : Nat} (hv : ∀ m a, T'.vv i' m = some a → T.vv i m = some a ∧ ∃ k n, a = .int k n) (hk : T'.vk i' ≤ T.vk i) :
    own (x, (.vec i : Blk), i').2.1 = true ∧ ∀ μ l w, @brel T μ (x, (.vec i : Blk), i').2.1 l w → @brel T' (ren C.N0 C.rn μ) (.vec (x, (.vec i : Blk), i').2.2) l w := by
  refine ⟨rfl, fun μ l w h => ?_⟩
  obtain ⟨arr, el, fz, h1, h2, h3, h4, h5⟩ := h
  refine ⟨arr, el, fz, h1, h2, h3, by dsimp only; omega, fun m a ha => ?_⟩
  obtain ⟨g1, n, k, rfl⟩ := hv m a ha
  obtain ⟨v, v1, v2⟩ := h5 m _ g1
  refine ⟨v, v1, ?_⟩
  simpa [vrel] using v2
theorem ipO {T T' : Tab} {i j : Nat} (q : IntKind × Int) (h1 : T.iv i = q) (h2 : T'.iv j = q) : IpOk1 T T' (.oi i, j) := by
  show some (T.iv i) = some (T'.iv j)
  rw [h1, h2]
theorem ipC {T T' : Tab} {n : Int} {j : Nat} (h2 : T'.iv j = (.i64, n)) : IpOk1 T T' (.int .i64 n, j) := by
  show some (IntKind.i64, n) = some (T'.iv j)
  rw [h2]
theorem leK {a b c : Nat} (h1 : a = c) (h2 : b = c) : a ≤ b := by rw [h1, h2]; exact Nat.le_refl _
theorem numSame (k : IntKind) (A : Nat) (e : Nat → Int) : ∀ m a, numV k A e m = some a → numV k A e m = some a ∧ ∃ k n, a = .int k n := fun m a ha => ⟨ha, k, e m, (numV_some ha).2⟩
theorem numSub {k : IntKind} {A : Nat} {e e' : Nat → Int} (he : ∀ m, m < A → e' m = e m) : ∀ m a, numV k A e' m = some a → numV k A e m = some a ∧ ∃ k n, a = .int k n := fun m a ha => by
  obtain ⟨h1, rfl⟩ := numV_some ha
  rw [he m h1]
  exact ⟨numV_lt h1, _, _, rfl⟩
end Go.X
