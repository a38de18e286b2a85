/-
  The machine is sound.
-/
import Derived.Test.YtgdonkfaicdeiaaGreatDoorXPlan2
import Derived.LoopN
set_option linter.unusedVariables false
set_option linter.unusedSimpArgs false
set_option linter.unusedSectionVars false
namespace Go.X
open Go.RowKit

variable [Tab]
variable {P : Program} {B : Kp} {w0 : World} {μ μ' : M} {h h' : H} {w w' : World} {nt : Nat} {a : Act} {fr fr' : Fr}

theorem Post.up {e : Ex} {e' : Exit} (hx : Ext μ μ') (p : Post B w0 μ' nt e fr' h' e' a w) : Post B w0 μ nt e fr' h' e' a w :=
  let ⟨h1, μ2, h2, h3⟩ := p; ⟨h1, μ2, hx.trans h2, h3⟩
theorem PostL.up {l : List (Ex × Fr × H)} {e' : Exit} (hx : Ext μ μ') (p : PostL B w0 μ' nt l e' a w) : PostL B w0 μ nt l e' a w :=
  let ⟨q, hq, p⟩ := p; ⟨q, hq, p.up hx⟩
theorem PostL.sub {l m : List (Ex × Fr × H)} {e' : Exit} (hs : ∀ q ∈ l, q ∈ m) (p : PostL B w0 μ nt l e' a w) : PostL B w0 μ nt m e' a w :=
  let ⟨q, hq, p⟩ := p; ⟨q, hs q hq, p⟩
theorem Post.under {q p : Ex × Fr × H} {e' : Exit} (u : Under q p) (h : Post B w0 μ nt p.1 p.2.1 p.2.2 e' a w) : Post B w0 μ nt q.1 q.2.1 q.2.2 e' a w := by
  obtain ⟨h1, μ', h2, h3, h4⟩ := h
  exact ⟨by rw [u.1]; exact h1, μ', h2, h3.less u.2.1, h4.less u.2.2⟩
theorem PostL.merged {l m : List (Ex × Fr × H)} {e' : Exit} (hm : mergeO l = some m) (p : PostL B w0 μ nt l e' a w) : PostL B w0 μ nt m e' a w := by
  obtain ⟨q, hq, p⟩ := p
  obtain ⟨q', hq', u⟩ := mergeO_some hm q hq
  exact ⟨q', hq', p.under u⟩

theorem draw_sound {rec : Rec} (hm : P.follows .mixedOrders = true) (hrec : RecOk P rec) {id : Nat} {ops : Array Oper} {l : List (Ex × Fr × H)} (hs : sDraw ops P rec nt fr h = some l) (f : FR μ nt fr a) (r : HR B w0 μ h w) :
    (Code.region id ops true).wp P (PostL B w0 μ nt l) a w := by
  obtain ⟨q, hq, hs⟩ := ob_some hs
  obtain ⟨hd, hs⟩ := ifb_some hs
  cases hs
  obtain ⟨F, v, kd, cnt, β, τ, k, anc, E, p, f0, fn, b0, hx⟩ := plan_of hq hd
  refine wp_region_any hm (draw_start (B := B) (w0 := w0) hrec p (fun i x b hi hk hr => ?_) (by rw [f0]; exact f) ?_ ?_)
  · have h1 := hx i x b hi hk
    have h2 := (r.res x hr).1
    omega
  · rw [b0]
    refine ((r.drawn (w.drawn + 1)).weaken (h' := ⟨h.next + countAlloc ops.toList, h.t⟩) (Nat.le_add_right _ _) (fun x hxx => ?_) (fun y b hy => hy))
    rcases hxx with hxx | ⟨m, b, h1, h2⟩
    · have := r.res x hxx
      exact ⟨Nat.lt_of_lt_of_le this.1 (Nat.le_add_right _ _), this.2⟩
    · have h3 := hx m x b h1 h2
      exact ⟨h3.2, (r.fresh x h3.1).2⟩
  · intro μ' a' w' g1 g2 g3
    rw [fn] at g2
    exact ⟨_, List.mem_singleton.2 rfl, rfl, μ', g1, g2, g3⟩

def LoopOk (P : Program) (n : Nat) (rec : Rec) : Prop := ∀ nt b fr h l, rec.run nt (.loop b) fr h = some l → ∀ B w0 μ a w Q, FR μ nt fr a → HR B w0 μ h w → (∀ e' a' w', PostL B w0 μ nt l e' a' w' → Q e' a' w') → Code.rounds P b Q n a w

/-- One round of a loop, and what comes behind it. -/
theorem round_sound {rec : Rec} {n : Nat} (hrec : RecOk P rec) (hloop : LoopOk P n rec) {c : Code} {l : List (Ex × Fr × H)} {Q : Exit → Act → World → Prop} (hs : sLoop c P rec nt fr h = some l) (f : FR μ nt fr a) (r : HR B w0 μ h w)
    (hQ : ∀ e' a' w', PostL B w0 μ nt l e' a' w' → Q e' a' w') : c.wp P (Exit.then (Code.rounds P c Q n) Q) a w := by
  have key : ∀ {m : List (Ex × Fr × H)}, obL (rec.run nt c fr h) (fun r => Prod.rec (fun e q => Prod.rec (fun fr h => seqD (.loop c) rec nt e fr h) q) r) = some m →
      (∀ e' a' w', PostL B w0 μ nt m e' a' w' → Q e' a' w') → c.wp P (Exit.then (Code.rounds P c Q n) Q) a w := by
    intro m hm hQ
    obtain ⟨l1, hl1, hsub⟩ := obL_some hm
    refine wp_mono (hrec.run nt c fr h l1 hl1 B w0 μ a w f r) ?_
    rintro e' a' w' ⟨⟨e1, fr1, h1⟩, hmem, rfl, μ1, g1, g2, g3⟩
    obtain ⟨l2, hl2, hs2⟩ := hsub _ hmem
    have hl2 : seqD (.loop c) rec nt e1 fr1 h1 = some l2 := hl2
    cases e1 with
    | normal =>
      have hl3 : rec.run nt (.loop c) fr1 h1 = some l2 := hl2
      exact hloop nt c fr1 h1 l2 hl3 B w0 μ1 a' w' _ g2 g3 (fun _ _ _ p => hQ _ _ _ ((p.sub hs2).up g1))
    | exit id =>
      have hl3 : some [(Ex.exit id, fr1, h1)] = some l2 := hl2
      cases hl3
      exact hQ _ _ _ ⟨_, hs2 _ (List.mem_singleton.2 rfl), rfl, μ1, g1, g2, g3⟩
    | ret =>
      have hl3 : some [(Ex.ret, fr1, h1)] = some l2 := hl2
      cases hl3
      exact hQ _ _ _ ⟨_, hs2 _ (List.mem_singleton.2 rfl), rfl, μ1, g1, g2, g3⟩
  unfold sLoop at hs
  cases hp : picks c with
  | false =>
    rw [hp] at hs
    exact key hs hQ
  | true =>
    rw [hp] at hs
    obtain ⟨m, hm, hs⟩ := ob_some hs
    exact key hm (fun e' a' w' p => hQ e' a' w' (p.merged hs))

theorem step_sound {rec : Rec} {n : Nat} (hm : P.follows .mixedOrders = true) (hrec : RecOk P rec) (hloop : LoopOk P n rec) {c : Code} {l : List (Ex × Fr × H)} (hs : step? c P rec nt fr h = some l) (f : FR μ nt fr a) (r : HR B w0 μ h w) :
    c.wp P (PostL B w0 μ nt l) a w := by
  cases c with
  | skip =>
    have hs' : some [(Ex.normal, fr, h)] = some l := hs
    cases hs'
    exact wp_skip ⟨_, List.mem_singleton.2 rfl, rfl, μ, Ext.refl _, f, r⟩
  | label lb =>
    have hs' : some [(Ex.normal, fr, h)] = some l := hs
    cases hs'
    exact wp_label ⟨_, List.mem_singleton.2 rfl, rfl, μ, Ext.refl _, f, r⟩
  | region id ops d =>
    cases d with
    | false =>
      have hs' : sRegion ops P rec nt fr h = some l := hs
      obtain ⟨ps, hp, hsub⟩ := obL_some hs'
      refine wp_region ?_
      have := opers_sound (Q := PostL B w0 μ nt l) hrec ops.toList 0 fr h ps μ a w rfl hp f r (fun q hq μ' a' w' g1 g2 g3 => by
        obtain ⟨l1, hl1, h1⟩ := hsub q hq
        have hl1 : some [(Ex.normal, q.1, q.2)] = some l1 := hl1
        cases hl1
        exact ⟨_, h1 _ (List.mem_singleton.2 rfl), rfl, μ', g1, g2, g3⟩)
      rw [Array.length_toList, ← List.range_eq_range'] at this
      exact this
    | true =>
      have hs' : sDraw ops P rec nt fr h = some l := hs
      exact draw_sound hm hrec hs' f r
  | seq x y =>
    have hs' : sSeq x y P rec nt fr h = some l := hs
    obtain ⟨l1, hl1, hsub⟩ := obL_some hs'
    refine wp_seq (wp_mono (hrec.run nt x fr h l1 hl1 B w0 μ a w f r) ?_)
    rintro e' a' w' ⟨⟨e1, fr1, h1⟩, hmem, rfl, μ1, g1, g2, g3⟩
    obtain ⟨l2, hl2, hs2⟩ := hsub _ hmem
    have hl2 : seqD y rec nt e1 fr1 h1 = some l2 := hl2
    cases e1 with
    | normal =>
      have hl3 : rec.run nt y fr1 h1 = some l2 := hl2
      exact wp_mono (hrec.run nt y fr1 h1 l2 hl3 B w0 μ1 a' w' g2 g3) (fun _ _ _ p => (p.sub hs2).up g1)
    | exit id =>
      have hl3 : some [(Ex.exit id, fr1, h1)] = some l2 := hl2
      cases hl3
      exact ⟨_, hs2 _ (List.mem_singleton.2 rfl), rfl, μ1, g1, g2, g3⟩
    | ret =>
      have hl3 : some [(Ex.ret, fr1, h1)] = some l2 := hl2
      cases hl3
      exact ⟨_, hs2 _ (List.mem_singleton.2 rfl), rfl, μ1, g1, g2, g3⟩
  | cond x c1 c2 =>
    have hs' : sCond x c1 c2 P rec nt fr h = some l := hs
    obtain ⟨v, hv, hs'⟩ := ob_some hs'
    cases v with
    | bool t =>
      have hev := f.ev [x] x (by simp) (.bool t) hv
      simp only [vrel] at hev
      have hs2 : rec.run nt (Bool.rec c2 c1 t) fr h = some l := hs'
      refine wp_cond hev ?_
      cases t with
      | true => exact hrec.run nt c1 fr h l hs2 B w0 μ a w f r
      | false => exact hrec.run nt c2 fr h l hs2 B w0 μ a w f r
    | _ => simp [condD] at hs'
  | block id c =>
    have hs' : sBlock id c P rec nt fr h = some l := hs
    obtain ⟨l1, hl1, hsub⟩ := obL_some hs'
    refine wp_block (wp_mono (hrec.run nt c fr h l1 hl1 B w0 μ a w f r) ?_)
    rintro e' a' w' ⟨⟨e1, fr1, h1⟩, hmem, rfl, μ1, g1, g2, g3⟩
    obtain ⟨l2, hl2, hs2⟩ := hsub _ hmem
    have hl2 : blockD id e1 fr1 h1 = some l2 := hl2
    cases e1 with
    | normal =>
      have hl3 : some [(Ex.normal, fr1, h1)] = some l2 := hl2
      cases hl3
      exact ⟨_, hs2 _ (List.mem_singleton.2 rfl), rfl, μ1, g1, g2, g3⟩
    | exit j =>
      have hl3 : (Bool.rec (some [(Ex.exit j, fr1, h1)]) (some [(Ex.normal, fr1, h1)]) (Nat.beq j id) : Out) = some l2 := hl2
      simp only [Ex.to, Exit.inBlock]
      cases hb : Nat.beq j id with
      | true =>
        rw [hb] at hl3
        have := nbeq_iff.1 hb
        have hl4 : some [(Ex.normal, fr1, h1)] = some l2 := hl3
        cases hl4
        rw [if_pos this]
        exact ⟨_, hs2 _ (List.mem_singleton.2 rfl), rfl, μ1, g1, g2, g3⟩
      | false =>
        rw [hb] at hl3
        have : ¬ j = id := fun e => by rw [nbeq_iff.2 e] at hb; simp at hb
        have hl4 : some [(Ex.exit j, fr1, h1)] = some l2 := hl3
        cases hl4
        rw [if_neg this]
        exact ⟨_, hs2 _ (List.mem_singleton.2 rfl), rfl, μ1, g1, g2, g3⟩
    | ret =>
      have hl3 : some [(Ex.ret, fr1, h1)] = some l2 := hl2
      cases hl3
      exact ⟨_, hs2 _ (List.mem_singleton.2 rfl), rfl, μ1, g1, g2, g3⟩
  | loop c =>
    have hs' : sLoop c P rec nt fr h = some l := hs
    refine wp_loop_rounds (n + 1) ?_
    exact round_sound hrec hloop hs' f r (fun _ _ _ p => p)
  | exit id =>
    have hs' : some [(Ex.exit id, fr, h)] = some l := hs
    cases hs'
    exact wp_exit ⟨_, List.mem_singleton.2 rfl, rfl, μ, Ext.refl _, f, r⟩
  | ret =>
    have hs' : some [(Ex.ret, fr, h)] = some l := hs
    cases hs'
    exact wp_ret ⟨_, List.mem_singleton.2 rfl, rfl, μ, Ext.refl _, f, r⟩
  | _ => have hs' : (none : Out) = some l := hs; cases hs'

def HandOk (P : Program) (K : Hand) : Prop := ∀ f args h p, K f args h = some p → CallOk P f args h p

theorem HandOk.none : HandOk P Hand.none := fun f args h p e => by have e' : (Option.none : Option (AV × H)) = some p := e; cases e'

theorem run_sound {K : Hand} (hm : P.follows .mixedOrders = true) (hK : HandOk P K) : ∀ n, RecOk P (run? P K n) ∧ LoopOk P n (run? P K n)
  | 0 => by
    refine ⟨⟨fun nt c fr h l hs => ?_, fun f args h p hs => ?_⟩, fun nt c fr h l hs => ?_⟩
    · have hs' : (none : Out) = some l := hs
      cases hs'
    · have hs' : (none : Option (AV × H)) = some p := hs
      cases hs'
    · have hs' : (none : Out) = some l := hs
      cases hs'
  | n + 1 => by
    obtain ⟨h1, h2⟩ := run_sound hm hK n
    refine ⟨⟨fun nt c fr h l hs B w0 μ a w f r => ?_, fun f args h p hs => ?_⟩, fun nt c fr h l hs B w0 μ a w Q f r hQ => ?_⟩
    · have hs' : step? c P (run? P K n) nt fr h = some l := hs
      exact step_sound hm h1 h2 hs' f r
    · have hs' : (Option.rec (enter? P (run? P K n).run f args h) (fun r => some r) (K f args h) : Option (AV × H)) = some p := hs
      cases hk : K f args h with
      | none =>
        rw [hk] at hs'
        exact fun B w0 μ w args' r ha => enter_sound h1.run r ha hs'
      | some q =>
        rw [hk] at hs'
        cases hs'
        exact hK f args h p hk
    · have hs' : sLoop c P (run? P K n) nt fr h = some l := hs
      exact round_sound h1 h2 hs' f r hQ

theorem call_sound {K : Hand} (hm : P.follows .mixedOrders = true) (hK : HandOk P K) {n : Nat} {f : FuncId} {args : List AV} {p : AV × H} (e : call P K n f args h = some p) : CallOk P f args h p :=
  fun _ _ _ _ _ r ha => enter_sound (run_sound hm hK n).1.run r ha e

/-- A call from nothing: what it gives, and that all old memory is kept. -/
theorem CallOk.closed {f : FuncId} {args : List AV} {args' : Array Value} {p : AV × H} (c : CallOk P f args H.empty p) (ha : vrels (fun _ => none) args args'.toList) (w : World) (hg : Gl (Kp.below w.heap.size) w) :
    Calls P f args' w fun e w' => ∃ v' μ', e = .returned v' ∧ vrel μ' p.1 v' ∧ HR (Kp.below w.heap.size) w μ' p.2 w' :=
  (c _ _ _ w args' (HR.start w hg) ha).mono fun _ _ ⟨v', μ', h1, _, h2, h3⟩ => ⟨v', μ', h1, h2, h3⟩
end Go.X
