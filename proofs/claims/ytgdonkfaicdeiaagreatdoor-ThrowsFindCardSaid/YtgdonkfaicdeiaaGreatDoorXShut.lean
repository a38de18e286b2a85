/-
  From a summary to a call's contract; texts that are one of some constants, or none of them.
-/
import Derived.Test.YtgdonkfaicdeiaaGreatDoorXSum
set_option linter.unusedSimpArgs false
set_option linter.unusedVariables false
set_option linter.unusedSectionVars false
namespace Go.X
open Go.RowKit
variable [Tab] {P : Program}

/-- a summary that answers true: what the call of the model gives -/
theorem SumOk.yes {f : FuncId} {args : List AV} {s : Sum} (o : SumOk P f args s) (hv : s.v = .bool true) {args' : Array Value} (ha : vrels (fun _ => none) args args'.toList) (w : World) (hg : Gl (Kp.below w.heap.size) w) :
    Calls P f args' w fun e w' => e = .returned (.bool true) ∧ Below w.heap.size w w' := by
  obtain ⟨hs, h1, _, _⟩ := o.run
  refine (h1.closed ha w hg).mono ?_
  rintro e w' ⟨v', μ', rfl, hr, r⟩
  have hr' : vrel μ' s.v v' := hr
  rw [hv] at hr'
  simp only [vrel] at hr'
  exact ⟨by rw [hr'], r.below.toBelow⟩

theorem CallOk.yes {f : FuncId} {args : List AV} {q : H} (o : CallOk P f args H.empty (.bool true, q)) {args' : Array Value} (ha : vrels (fun _ => none) args args'.toList) (w : World) (hg : Gl (Kp.below w.heap.size) w) :
    Calls P f args' w fun e w' => e = .returned (.bool true) ∧ Below w.heap.size w w' := by
  refine (o.closed ha w hg).mono ?_
  rintro e w' ⟨v', μ', rfl, hr, r⟩
  have hr' : vrel μ' (.bool true) v' := hr
  simp only [vrel] at hr'
  exact ⟨by rw [hr'], r.below.toBelow⟩

theorem CallOk.of_okTrue {K : Hand} (hm : P.follows .mixedOrders = true) (hK : HandOk P K) {n : Nat} {f : FuncId} {args : List AV} (e : okTrue (call P K n f args H.empty) = true) :
    ∃ q, CallOk P f args H.empty (.bool true, q) := by
  obtain ⟨q, hq⟩ := okTrue_some e
  exact ⟨q, call_sound hm hK hq⟩

/-- a table without texts -/
abbrev Tab.empty : Tab where
  str := fun _ => default
  ne := fun _ => []
  ok := fun _ p h => by simp at h
  gv := fun _ _ => none
  iv := fun _ => (.i64, 0)
  ib := []
  ibok := fun _ h => by simp at h
  ic := []
  icok := fun _ h => by simp at h
  iu := []
  iuok := fun _ h => by simp at h
  vv := fun _ _ => none
  vk := fun _ => 0
  vvp := fun _ _ a h => by simp at h
  va := []
  vaok := fun _ h => by simp at h
  vz := []
  vzok := fun _ h => by simp at h
  vn := []
  vnok := fun _ h => by simp at h
  vc := []
  vcok := fun _ h => by simp at h
  fb := fun _ => (0, 0)
  fcap := fun _ => 0
  fv := fun _ _ => none
  fl := []
  flok := fun _ h => by simp at h
  vl := []
  vlok := fun _ h => by simp at h
  vs := []
  vsok := fun _ h => by simp at h

/-- all that is known beside package variables -/
class Syms where
  str : Nat → ByteArray
  ne : Nat → List (Nat × Nat)
  ok : ∀ i p, p ∈ ne i → p.2 < 256 ^ p.1 → str i ≠ strOf p.1 p.2
  iv : Nat → IntKind × Int
  ib : List (Nat × AV × AV × AV)
  ibok : ∀ r ∈ ib, ∀ op, bcode op = r.1 → ∃ k a k' b v', denI iv r.2.1 = some (k, a) ∧ denI iv r.2.2.1 = some (k', b) ∧ intBin op k a k' b = some v' ∧ outI iv r.2.2.2 v'
  ic : List (IntKind × AV × AV)
  icok : ∀ r ∈ ic, ∃ k n, denI iv r.2.1 = some (k, n) ∧ denI iv r.2.2 = some (r.1, r.1.wrap n)
  iu : List (Nat × AV × AV)
  iuok : ∀ r ∈ iu, ∀ op, ucode op = r.1 → ∃ k n v', denI iv r.2.1 = some (k, n) ∧ unI op k n = some v' ∧ outI iv r.2.2 v'
abbrev Syms.tab (S : Syms) (gv : Nat → Nat → Option AV) : Tab :=
  { str := S.str, ne := S.ne, ok := S.ok, gv := gv, iv := S.iv, ib := S.ib, ibok := S.ibok, ic := S.ic, icok := S.icok, iu := S.iu, iuok := S.iuok,
    vv := fun _ _ => none, vk := fun _ => 0, vvp := fun _ _ a h => by simp at h, va := [], vaok := fun _ h => by simp at h, vz := [], vzok := fun _ h => by simp at h, vn := [], vnok := fun _ h => by simp at h,
    vc := [], vcok := fun _ h => by simp at h, fb := fun _ => (0, 0), fcap := fun _ => 0, fv := fun _ _ => none, fl := [], flok := fun _ h => by simp at h, vl := [], vlok := fun _ h => by simp at h, vs := [], vsok := fun _ h => by simp at h }
abbrev Syms.empty : Syms := ⟨fun _ => default, fun _ => [], fun _ p h => by simp at h, fun _ => (.i64, 0), [], fun _ h => by simp at h, [], fun _ h => by simp at h, [], fun _ h => by simp at h⟩

/-- a text is one of some constants, or differs from each -/
theorem pick (l : List (Nat × Nat)) (s : ByteArray) : (∃ p ∈ l, s = strOf p.1 p.2) ∨ ∀ p ∈ l, s ≠ strOf p.1 p.2 := by
  rcases Classical.em (∃ p ∈ l, s = strOf p.1 p.2) with h | h
  · exact .inl h
  · exact .inr fun p hp e => h ⟨p, hp, e⟩
end Go.X
