/-
  The law NativeBuilder: what is there by name, tables.
-/
import Derived.Test.YtkkaifeiopjjdaaGreatDoorBDA
import Derived.Test.YtkkaifeiopjjdaaGreatDoorBNE
import Derived.Test.YtkkaifeiopjjdaaGreatDoorBRT0
import Derived.Test.YtkkaifeiopjjdaaGreatDoorXN3
set_option linter.unusedVariables false
set_option linter.unusedSimpArgs false
set_option linter.unusedSectionVars false
set_option maxRecDepth 1000000
set_option maxHeartbeats 0
namespace Go.Proofs.YtkkaifeiopjjdaaGreatDoor.bd
open Go.X Go.RowKit Go.Proofs
noncomputable abbrev b6644 : Nat × Blk := (6644, (.map [] 0))
noncomputable abbrev b6645 : Nat × Blk := (6645, (.map [((.str 19 2439265639030268300842157990401791553877467498), (.ptr 6842 0), 0), ((.str 29 3085170664936786167588614718972924591866388410301586339335837578584426), (.ptr 6990 0), 1), ((.str 29 2977327179366744475310567174670984700336777289692309623825572795146602), (.ptr 7099 0), 2), ((.str 40 921438131347674524995356669863897659779420152864154109574888483886346161678995665599280333611370), (.ptr 7210 0), 3), ((.str 29 2977327179366744475310578792928741468592950331792981622238945052352874), (.ptr 7324 0), 4), ((.str 28 11630184294401345606682283003339240975915084228737354846334270988650), (.ptr 7437 0), 5), ((.str 31 202189744697330995387852485397630371027294446829100397077902765524415570282), (.ptr 7534 0), 6), ((.str 26 183890501555036136351903328603364899342229922045770665733546346), (.ptr 7628 0), 7), ((.str 15 594182256714433171583859471190221162), (.ptr 7719 0), 8), ((.str 19 2462787319999361794871408518597065734545105258), (.ptr 7809 0), 9), ((.str 37 56911353679811531822920492603033782110087255578636309514658723732473720363105297718731114), (.ptr 7915 0), 10), ((.str 28 12051447909910759173808661238977857107111767888823090726697178653034), (.ptr 8018 0), 11), ((.str 38 14060030080378334426808655457799320232265086119729716606675995945190890063755479020322840938), (.ptr 8133 0), 12), ((.str 38 14569306542030247732875768419210667608278730874565438596096215620376147580735894642209743210), (.ptr 8231 0), 13), ((.str 35 838043098472257520366253329360822735706660890049674080341799799296269125818196058474), (.ptr 8324 0), 14), ((.str 28 12051447909910278778317482300033197087305720853520054876288643916138), (.ptr 8429 0), 15), ((.str 22 42815343838886881203639546329033052610660173325164906), (.ptr 8528 0), 16), ((.str 36 214539033208897925213755128370838752992305990670598911423725060199978812837976799076714), (.ptr 8640 0), 17), ((.str 30 789803690223817235625993454897404583541813632134065715887439951296881002), (.ptr 8736 0), 18), ((.str 26 183890501555012814945400634590948384637649511452497603397575018), (.ptr 8837 0), 19), ((.str 27 47075968398083285027902446257440240237115773113246055769402925418), (.ptr 8939 0), 20), ((.str 30 762195757917886585679527096405151622096281774544538073876077408773628266), (.ptr 9049 0), 21), ((.str 16 154706541852025644484233205990057992554), (.ptr 9060 0), 22), ((.str 26 183890501555043540957095622503328518117729969598634276033028458), (.ptr 9171 0), 23), ((.str 26 177462528906270532328520934635542489792491443287338843928682858), (.ptr 9263 0), 24), ((.str 28 12051447909911140811364177168575840195048631602135540194265359868266), (.ptr 9370 0), 25), ((.str 16 137483774941304901841256615957136564586), (.ptr 9391 0), 26), ((.str 23 10956966084090815260342509131105871416374185281426186602), (.ptr 9448 0), 27), ((.str 41 235888161625004678398811307485157800903531559133223452051171428016118026562849321940164899390251370), (.ptr 9588 0), 28), ((.str 16 145412635431568811361768410208787652970), (.ptr 9600 0), 29), ((.str 19 2261816869159440624969593107871851903301607786), (.ptr 9688 0), 30), ((.str 38 14569306542031293471471962209605688152784288289213751582725315083544705153644676387098222954), (.ptr 9788 0), 31), ((.str 21 167247436870678459232146883126634948762985622298986), (.ptr 9888 0), 32)] 33))
noncomputable abbrev b6646 : Nat × Blk := (6646, (.cells 3 false [] (T.ofList 0 .leaf [(.map 6644), (.map 6645), .nils])))
noncomputable abbrev b9391 : Nat × Blk := (9391, (.cells 8 false [] (T.ofList 0 .leaf [(.int .i64 52), .nils, (.int .i64 49), (.str 16 137483774941304901841256615957136564586), (.str 16 154706541852025644484233205990057992554), .nils, .nils, (.so 9432 0 10 9)])))
noncomputable abbrev b9448 : Nat × Blk := (9448, (.cells 8 false [] (T.ofList 0 .leaf [(.int .i64 52), .nils, (.int .i64 49), (.str 23 10956966084090815260342509131105871416374185281426186602), (.str 16 154706541852025644484233205990057992554), .nils, .nils, (.so 9481 0 8 9)])))
noncomputable abbrev b10616 : Nat × Blk := (10616, (.cells 117 true [] (T.ofList 0 .leaf [(.str 0 0), (.int .i64 0), .nilf, (.str 16 154706541852025644484233205990057992554), (.int .i64 1), (.fn (.func 62) [] []), (.str 16 154706541852025644484233205990057992554), (.int .i64 2), (.fn (.func 63) [] []), (.str 16 154706541852025644484233205990057992554), (.int .i64 1), (.fn (.func 64) [] []), (.str 16 137483774941304901841256615957136564586), (.int .i64 1), (.fn (.func 68) [] []), (.str 16 137483774941304901841256615957136564586), (.int .i64 2), (.fn (.func 69) [] []), (.str 16 137483774941304901841256615957136564586), (.int .i64 2), (.fn (.func 70) [] []), (.str 16 137483774941304901841256615957136564586), (.int .i64 2), (.fn (.func 71) [] []), (.str 16 137483774941304901841256615957136564586), (.int .i64 1), (.fn (.func 72) [] []), (.str 16 137483774941304901841256615957136564586), (.int .i64 1), (.fn (.func 73) [] []), (.str 0 0), (.int .i64 1), (.fn (.func 74) [] [(.ptr 11110 0)]), (.str 0 0), (.int .i64 1), (.fn (.func 74) [] [(.ptr 11183 0)]), (.str 0 0), (.int .i64 1), (.fn (.func 74) [] [(.ptr 11257 0)]), (.str 0 0), (.int .i64 1), (.fn (.func 74) [] [(.ptr 11332 0)]), (.str 23 10956966084090815260342509131105871416374185281426186602), (.int .i64 1), (.fn (.func 77) [] []), (.str 23 10956966084090815260342509131105871416374185281426186602), (.int .i64 2), (.fn (.func 78) [] [(.ptr 11444 0)]), (.str 23 10956966084090815260342509131105871416374185281426186602), (.int .i64 2), (.fn (.func 78) [] [(.ptr 11576 0)]), (.str 23 10956966084090815260342509131105871416374185281426186602), (.int .i64 2), (.fn (.func 78) [] [(.ptr 11674 0)]), (.str 23 10956966084090815260342509131105871416374185281426186602), (.int .i64 2), (.fn (.func 78) [] [(.ptr 11773 0)]), (.str 23 10956966084090815260342509131105871416374185281426186602), (.int .i64 2), (.fn (.func 78) [] [(.ptr 11873 0)]), (.str 23 10956966084090815260342509131105871416374185281426186602), (.int .i64 1), (.fn (.func 82) [] []), (.str 23 10956966084090815260342509131105871416374185281426186602), (.int .i64 1), (.fn (.func 83) [] []), (.str 0 0), (.int .i64 5), (.fn (.func 67) [] []), (.str 19 2439265639030268300842157990401791553877467498), (.int .i64 2), (.fn (.func 84) [] [(.ptr 12105 0), (.ptr 12103 0)]), (.str 19 2439265639030268300842157990401791553877467498), (.int .i64 2), (.fn (.func 84) [] [(.ptr 12211 0), (.ptr 12103 0)]), (.str 19 2439265639030268300842157990401791553877467498), (.int .i64 2), (.fn (.func 84) [] [(.ptr 12283 0), (.ptr 12103 0)]), (.str 19 2439265639030268300842157990401791553877467498), (.int .i64 2), (.fn (.func 84) [] [(.ptr 12356 0), (.ptr 12103 0)]), (.str 19 2439265639030268300842157990401791553877467498), (.int .i64 2), (.fn (.func 84) [] [(.ptr 12430 0), (.ptr 12103 0)]), (.str 19 2439265639030268300842157990401791553877467498), (.int .i64 2), (.fn (.func 84) [] [(.ptr 12505 0), (.ptr 12103 0)]), (.str 19 2439265639030268300842157990401791553877467498), (.int .i64 2), (.fn (.func 84) [] [(.ptr 12618 0), (.ptr 12616 0)]), (.str 19 2439265639030268300842157990401791553877467498), (.int .i64 2), (.fn (.func 84) [] [(.ptr 12730 0), (.ptr 12616 0)]), (.str 19 2439265639030268300842157990401791553877467498), (.int .i64 2), (.fn (.func 84) [] [(.ptr 12808 0), (.ptr 12616 0)]), (.str 19 2439265639030268300842157990401791553877467498), (.int .i64 2), (.fn (.func 84) [] [(.ptr 12887 0), (.ptr 12616 0)]), (.str 19 2439265639030268300842157990401791553877467498), (.int .i64 2), (.fn (.func 84) [] [(.ptr 12967 0), (.ptr 12616 0)]), (.str 19 2439265639030268300842157990401791553877467498), (.int .i64 2), (.fn (.func 84) [] [(.ptr 13048 0), (.ptr 12616 0)]), (.str 19 2439265639030268300842157990401791553877467498), (.int .i64 1), (.fn (.func 86) [] []), (.str 19 2261816869159440624969593107871851903301607786), (.int .i64 1), (.fn (.func 62) [] []), (.str 19 2261816869159440624969593107871851903301607786), (.int .i64 2), (.fn (.func 65) [] []), (.str 19 2261816869159440624969593107871851903301607786), (.int .i64 1), (.fn (.func 66) [] [])])))
noncomputable abbrev b11444 : Nat × Blk := (11444, (.cells 1 false [] (T.ofList 0 .leaf [(.str 18 5174820716358828607022171764334454026365516)])))
noncomputable abbrev b11576 : Nat × Blk := (11576, (.cells 1 false [] (T.ofList 0 .leaf [(.str 1 73)])))
noncomputable abbrev b11674 : Nat × Blk := (11674, (.cells 1 false [] (T.ofList 0 .leaf [(.str 1 74)])))
noncomputable abbrev b11773 : Nat × Blk := (11773, (.cells 1 false [] (T.ofList 0 .leaf [(.str 1 67)])))
noncomputable abbrev b11873 : Nat × Blk := (11873, (.cells 1 false [] (T.ofList 0 .leaf [(.str 1 90)])))
noncomputable abbrev b13250 : Nat × Blk := (13250, (.cells 1 false [] (T.ofList 0 .leaf [(.int .u8 76)])))
noncomputable abbrev b13320 : Nat × Blk := (13320, (.cells 4 false [] (T.ofList 0 .leaf [(.str 28 6260485019439425252614312435813236600861718953314767591699208816936), (.str 28 6260485019439425252614312435813236600861718953314767591699208817192), (.str 28 6260485019439425252614312435813236600861718953314767591699208815400), (.str 28 6260485019439425252614312435813236600861718953314767591699208821288)])))
noncomputable abbrev kb : BL := [b6644, b6645, b6646, b9391, b9448, b10616, b11444, b11576, b11674, b11773, b11873, b13250, b13320]
noncomputable abbrev shp : Blk := (.cells 6 true [] (T.ofList 0 .leaf [(.str 23 10956966084090815260342509131105871416374185281426186602), (.sl 13250 0 1 1), (.int .u8 0), (.str 16 137483774941304901841256615957136564586), .nils, (.int .u8 67)]))
noncomputable abbrev mp : Blk := (.map [((.str 23 10956966084090815260342509131105871416374185281426186602), (.int .i64 0), 0), ((.str 16 137483774941304901841256615957136564586), (.int .i64 1), 1)] 2)
noncomputable def hp (w j s c : Nat) : Blk := .cells 5 false [] (T.ofList 0 .leaf [.ptr 6646 0, .ov w j 1, .ov s c 1, .so 13316 0 2 3, .map 9898])
noncomputable def wld : Blk := (.cells 7 false [] (T.ofList 0 .leaf [(.ptr 9899 0), (.ptr 9901 0), (.ptr 6646 0), (.so 10616 0 39 3), .nils, (.bool false), (.bool false)]))
noncomputable def same : BL → BS := List.rec [] fun p _ ih => (p.1, p.1, p.2) :: ih
noncomputable abbrev KN : Hand := br.KN
theorem KN_ok {T : Tab} : @HandOk T Tryz.prog KN := @br.KN_ok T
theorem hNo {T : Tab} : @HandOk T Tryz.prog Hand.none := @HandOk.none T Tryz.prog
theorem catR {α : Type} {a b : List α} {P : α → Prop} (h1 : ∀ r ∈ a, P r) (h2 : ∀ r ∈ b, P r) : ∀ r ∈ a ++ b, P r := fun r hr => (List.mem_append.1 hr).elim (h1 r) (h2 r)
theorem wrapU64 {n : Int} (h0 : 0 ≤ n) (h1 : n < 65536) : IntKind.u64.wrap n = n := by
  unfold IntKind.wrap IntKind.bits IntKind.signed
  simp only [Bool.false_and]
  exact Int.emod_eq_of_lt h0 (by omega)
/-- known numbers behind a vector -/
theorem aK {iv : Nat → IntKind × Int} {vv : Nat → Nat → Option AV} {vk : Nat → Nat} {i j i' j' n c : Nat} {K : IntKind} {l : List VA} {e e' : Nat → Int} (t : ∀ r ∈ l, VaOk iv vv vk r) (hj : iv j = (.i64, (n : Int))) (hj' : iv j' = (.i64, ((n + c : Nat) : Int))) (hv : vv i = numV K n e) (hv' : vv i' = numV K (n + c) e') (h2 : vk i' = n + c) (hl : n + c < 1000000) (h1 : ∀ m, m < n → e' m = e m) (h0 : ∀ m, m < c → e' (n + m) = 0) : ∀ r ∈ (⟨i, j, 1, List.replicate c (.int K 0), i', j'⟩ : VA) :: l, VaOk iv vv vk r := by
  refine allCons ⟨by rw [hj]; exact ⟨rfl, Int.natCast_nonneg _⟩, by rw [hj']; exact ⟨rfl, Int.natCast_nonneg _⟩, by rw [hj, hj']; simp only [Int.toNat_natCast, List.length_replicate]; omega, by rw [hj']; show ((n + c : Nat) : Int).toNat < 1000000; rw [Int.toNat_natCast]; exact hl, by rw [hj', h2]; simp only [Int.toNat_natCast]; omega, fun m a ha => ?_⟩ t
  rw [hv'] at ha
  obtain ⟨hm, rfl⟩ := numV_some ha
  show ∃ b, (if m < (iv j).2.toNat * 1 then vv i m else (List.replicate c (AV.int K 0))[m - (iv j).2.toNat * 1]?) = some b ∧ sameAV iv b (.int K (e' m))
  rw [hj]
  simp only [Int.toNat_natCast, Nat.mul_one]
  by_cases d : m < n
  · exact ⟨.int K (e m), by rw [if_pos d, hv]; unfold numV; rw [if_pos d], .inl (by rw [h1 m d])⟩
  · refine ⟨.int K 0, by rw [if_neg d, List.getElem?_replicate, if_pos (by omega)], .inl ?_⟩
    have := h0 (m - n) (by omega)
    rw [show n + (m - n) = m by omega] at this
    rw [this]
def upIn (c : In) (m : Nat) : In := ⟨c.f, c.xs, c.N, c.bs, c.v, m, c.bs'⟩
/-- a contract's next number may be told greater -/
theorem upOk [Tab] {P : Go.Program} {c : In} (m : Nat) (h : c.N' ≤ m) (o : InOk P c) : InOk P (upIn c m) := by
  obtain ⟨h', k1, k2, k3⟩ := o.run
  have hs : SameH h' ⟨m, h'.t⟩ := ⟨by rw [← k2]; exact h, fun x => ⟨fun b hb => ⟨b, hb, .inl rfl⟩, fun a ha => ⟨a, ha⟩⟩⟩
  refine ⟨o.lim, ⟨m, h'.t⟩, ?_, rfl, k3⟩
  intro B w0 μ w args' r ha
  refine (k1 B w0 μ w args' r ha).mono ?_
  rintro e' w' ⟨v', μ', h1, h2, h3, h4⟩
  exact ⟨v', μ', h1, h2, h3, HR.sameH hs h4⟩
theorem St.evB {τ : Tab} {B : Kp} {w0 : World} {μ0 : M} {nt : Nat} {fr : Fr} {h : H} {a : Act} {w : World} {t : Nat} {b : Bool} (s : St τ B w0 μ0 nt fr h a w) (e : ev (.tmp t) fr = some (.bool b)) : a.eval (.tmp t) = .bool b := by
  obtain ⟨μ, hx, f, r⟩ := s
  have := ev_known (fun t v _ ht => f.2.2 t v ht) e
  simpa only [vrel] using this
theorem ipG {T T' : Tab} {i j z q : Nat} {l : IP} (k : IpOk T T' l) (h1 : T'.fb q = T.fb i := by exact rfl) (h2 : T'.fcap q = T.fcap i := by exact rfl) : IpOk T T' ((.fo i j z, q) :: l) := ipCons ⟨h1, h2⟩ k
theorem hIn_next {N : Nat} {bs : BL} : (hIn N bs).next = N := by unfold hIn; rw [fT_eq]
theorem baseUp {B : Kp} {μ : M} {n m : Nat} (h : Base B μ n) (hn : n ≤ m) : Base B μ m := ⟨fun x l e => Nat.lt_of_lt_of_le (h.names x l e) hn, fun x e => Nat.lt_of_lt_of_le (h.res x e) hn⟩
theorem hOf_next' {N : Nat} {bs : BS} : (hOf N bs).next = N := by unfold hOf; rw [fT_eq]
theorem vpNum {T T' : Tab} {C : Cv} {l : VP} {x i i' n : Nat} {K : IntKind} {e e' : Nat → Int} (k : VpOk T T' C l) (h1 : T.vv i = numV K n e := by exact rfl) (h2 : T'.vv i' = numV K n e' := by exact rfl) (h3 : T.vk i = n := by exact rfl) (h4 : T'.vk i' = n := by exact rfl) (he : ∀ m, m < n → e' m = e m := by first | assumption | exact fun _ _ => rfl) : VpOk T T' C ((x, .vec i, i') :: l) :=
  vpCons (vecSubN (fun m a h => by
    rw [h2] at h
    rw [h1]
    exact numSub he m a h) (by rw [h3, h4]; exact Nat.le_refl _)) k
theorem vpRow {T T' : Tab} {C : Cv} {l : VP} {x i n : Nat} {K : IntKind} {r : List AV} {f : Nat → Int} (k : VpOk T T' C l) (hr : r.length = n) (hl : n < 1000000) (h2 : T'.vv i = numV K n f) (h4 : T'.vk i = n) (h : ∀ m, m < n → ∃ v, r[m]? = some v ∧ denI T.iv v = some (K, f m)) : VpOk T T' C ((x, rowOf r true, i) :: l) := by
  refine vpCons ⟨rfl, fun μ p w hh => ?_⟩ k
  obtain ⟨arr, el, fz, g1, g2, g3, g4, g5, g6⟩ := hh
  refine ⟨arr, el, fz, g1, g2, g3, by dsimp only; rw [h4]; omega, fun m a ha => ?_⟩
  dsimp only at ha
  rw [h2] at ha
  obtain ⟨hm, rfl⟩ := numV_some ha
  obtain ⟨b, b1, b2⟩ := h m hm
  obtain ⟨v, v1, v2⟩ := g6 m b (by omega) (by rw [@cellOf_row T _ _ (by rw [hr]; exact hl)]; exact b1)
  refine ⟨v, v1, ?_⟩
  cases b <;> simp [denI] at b2
  · obtain ⟨rfl, rfl⟩ := b2; simpa [vrel] using v2
  · simp only [vrel] at v2 ⊢; rw [v2, b2]
theorem St.gl {τ : Tab} {B : Kp} {w0 : World} {μ0 : M} {nt : Nat} {fr : Fr} {h : H} {a : Act} {w : World} (s : St τ B w0 μ0 nt fr h a w) : @Gl τ B w0 := by
  obtain ⟨μ, hx, f, r⟩ := s
  exact r.below.glb
/-- what an element of the slice of texts is: a slice (of at most 60 chars, of more), nil, an empty slice -/
def elK : Nat → AV
  | 0 => .fo 1 0 1
  | 1 => .fo 1 147 1
  | 2 => .nils
  | _ => .es
/-- a piece is appended to the builder's text; x: the text that is made -/
structure P where
  x : Tx
  sb : Nat
  ix : Nat
  lt : Nat
  C : Nat → Int
  sa : Nat
  ia : Nat
  pl : Nat
  A : Nat → Int
  i : Nat
  lu : Nat
  ln : Nat
  ek : Nat
  fa : Nat
  fz : Nat
  bu : Nat
  ou : Nat
  cu : Nat
  ba : Nat
  oa : Nat
  ca : Nat
  bn : Nat
  on : Nat
  cn : Nat
  ns : Nat → Int
  m : Int
def P.W2 (p : P) : Nat → BitVec 64 := fun m => if m = 2 then BitVec.ofNat 64 (p.x.tot + 1) else p.x.w p.x.la m
abbrev ivP (p : P) (k : Nat) : Nat → IntKind × Int
  | 0 => (.i64, (p.x.la : Int))
  | 1 => (.i64, (p.x.tot : Int))
  | 2 => (.i64, (p.x.cnt : Int))
  | 3 => (.i64, (p.x.t1 : Int))
  | 4 => (.i64, ((p.x.tot + 1 : Nat) : Int))
  | 5 => (.i64, ((wd p.x.la : Nat) : Int))
  | 6 => (.i64, ((2048 - p.x.tot : Nat) : Int))
  | 7 => (.i64, ((p.x.cnt + 1 : Nat) : Int))
  | 8 => (.i64, ((p.x.la * 2 : Nat) : Int))
  | 9 => (.i64, ((p.x.la * 2 + 8 : Nat) : Int))
  | 10 => (.i64, ((p.x.la * 2 + 7 : Nat) : Int))
  | 11 => (.i64, (((p.x.la * 2 + 7) / 8 : Nat) : Int))
  | 12 => (.i64, ((p.x.tot + 2 : Nat) : Int))
  | 13 => (.u64, (p.x.la : Int))
  | 40 => (.i64, (k : Int))
  | 41 => (.i64, ((k + 1 : Nat) : Int))
  | 44 => (.i64, ((k / 4 : Nat) : Int))
  | 46 => (.i64, ((p.x.tot + 3 : Nat) : Int))
  | 47 => (.i64, ((p.x.tot + 3 + k / 4 : Nat) : Int))
  | 48 => (.i64, ((k % 4 : Nat) : Int))
  | 49 => (.i64, ((k % 4 * 2 : Nat) : Int))
  | 50 => (.i64, ((k % 4 * 2 * 8 : Nat) : Int))
  | 51 => (.u64, wI (p.x.w p.x.la (p.x.tot + 3 + k / 4)))
  | 52 => (.u64, wI (p.x.w p.x.la (p.x.tot + 3 + k / 4) >>> (k % 4 * 2 * 8)))
  | 53 => (.u16, p.x.A k)
  | 55 => (.u64, wI (p.x.w k (p.x.tot + 3 + k / 4)))
  | 56 => (.u64, wI (msk 16 (k % 4 * 2 * 8)))
  | 57 => (.u64, wI (p.x.w k (p.x.tot + 3 + k / 4) &&& ~~~msk 16 (k % 4 * 2 * 8)))
  | 59 => (.i64, p.x.A k)
  | 60 => (.u64, wI (fV p.x.A k))
  | 61 => (.u64, wI (fV p.x.A k <<< (k % 4 * 2 * 8)))
  | 62 => (.u64, wI ((fV p.x.A k <<< (k % 4 * 2 * 8)) &&& msk 16 (k % 4 * 2 * 8)))
  | 63 => (.u64, wI ((p.x.w k (p.x.tot + 3 + k / 4) &&& ~~~msk 16 (k % 4 * 2 * 8)) ||| ((fV p.x.A k <<< (k % 4 * 2 * 8)) &&& msk 16 (k % 4 * 2 * 8))))
  | 80 => (.i64, (p.sb : Int))
  | 81 => (.i64, ((p.sb + 1 : Nat) : Int))
  | 82 => (.i64, ((p.sb + 2 : Nat) : Int))
  | 83 => (.i64, (p.ix : Int))
  | 84 => (.i64, (p.lt : Int))
  | 85 => (.u64, (p.lt : Int))
  | 86 => (.i64, ((p.sb + 3 : Nat) : Int))
  | 87 => (.i64, ((p.sb + 3 + k / 4 : Nat) : Int))
  | 88 => (.u64, wI (p.x.W (p.sb + 3 + k / 4)))
  | 89 => (.u64, wI (p.x.W (p.sb + 3 + k / 4) >>> (k % 4 * 2 * 8)))
  | 90 => (.u16, p.C k)
  | 96 => (.i64, ((2 : Nat) : Int))
  | 97 => (.i64, ((0 : Nat) : Int))
  | 98 => (.u64, ((p.sb + 1 : Nat) : Int))
  | 99 => (.u64, ((p.x.tot + 1 : Nat) : Int))
  | 100 => (.i64, (p.pl : Int))
  | 102 => (.u16, p.A 0)
  | 120 => (.i64, (p.sa : Int))
  | 121 => (.i64, ((p.sa + 1 : Nat) : Int))
  | 122 => (.i64, ((p.sa + 2 : Nat) : Int))
  | 123 => (.i64, (p.ia : Int))
  | 125 => (.u64, (p.pl : Int))
  | 126 => (.i64, ((p.sa + 3 : Nat) : Int))
  | 127 => (.i64, ((p.sa + 3 + k / 4 : Nat) : Int))
  | 128 => (.u64, wI (p.x.W (p.sa + 3 + k / 4)))
  | 129 => (.u64, wI (p.x.W (p.sa + 3 + k / 4) >>> (k % 4 * 2 * 8)))
  | 130 => (.u16, p.A k)
  | 140 => (.i64, (p.i : Int))
  | 141 => (.i64, ((p.i + 1 : Nat) : Int))
  | 143 => (.i64, (p.lu : Int))
  | 144 => (.i64, (p.ln : Int))
  | 145 => (.i64, p.ns p.i)
  | 146 => (.i64, p.m)
  | 147 => (.i64, (p.fa : Int))
  | 149 => (.i32, p.m)
  | _ => (.i64, 0)
abbrev vvP (p : P) (k : Nat) : Nat → Nat → Option AV
  | 0 => numV .u64 p.x.tot (fun m => wI (p.x.W m))
  | 1 => numV .i64 p.x.cnt p.x.S
  | 3 => numV .u64 p.x.t1 (fun m => wI (p.x.w p.x.la m))
  | 4 => numV .i64 (p.x.cnt + 1) p.x.S1
  | 5 => numV .u16 p.x.la p.x.A
  | 10 => numV .u64 p.x.t1 (fun m => wI (p.x.w k m))
  | 11 => numV .u64 p.x.t1 (fun m => wI (p.x.w (k + 1) m))
  | 12 => numV .u16 p.x.la (upTo p.x.A k)
  | 13 => numV .u16 p.x.la (upTo p.x.A (k + 1))
  | 20 => numV .u16 p.x.la (fun _ => 0)
  | 26 => numV .u64 p.x.t1 (fun m => wI (p.x.WZ m))
  | 27 => numV .u64 p.x.t1 (fun m => wI (p.x.WY m))
  | 28 => numV .u64 p.x.t1 (fun m => wI (p.x.w 0 m))
  | 50 => numV .u16 p.lt p.C
  | 52 => numV .u16 p.lt (upTo p.C k)
  | 53 => numV .u16 p.lt (upTo p.C (k + 1))
  | 54 => numV .u16 p.lt (fun _ => 0)
  | 60 => numV .u16 p.pl p.A
  | 62 => numV .u16 p.pl (upTo p.A k)
  | 63 => numV .u16 p.pl (upTo p.A (k + 1))
  | 64 => numV .u16 p.pl (fun _ => 0)
  | 70 => numV .u64 p.x.t1 (fun m => wI (p.W2 m))
  | _ => fun _ => none
abbrev vkP (p : P) (k : Nat) : Nat → Nat
  | 0 => p.x.tot
  | 1 => p.x.cnt
  | 3 => p.x.t1
  | 4 => p.x.cnt + 1
  | 5 => p.x.la
  | 10 => p.x.t1
  | 11 => p.x.t1
  | 12 => p.x.la
  | 13 => p.x.la
  | 20 => p.x.la
  | 26 => p.x.t1
  | 27 => p.x.t1
  | 28 => p.x.t1
  | 50 => p.lt
  | 52 => p.lt
  | 53 => p.lt
  | 54 => p.lt
  | 60 => p.pl
  | 62 => p.pl
  | 63 => p.pl
  | 64 => p.pl
  | 70 => p.x.t1
  | _ => 0
theorem vvPp (p : P) (k : Nat) : ∀ i m a, vvP p k i m = some a → vplain a = true := fun i m a h => by
  unfold vvP at h
  split at h <;> first | exact numP h | cases h
/-- what is foreign: the slice of texts (0), of which one is looked at, that one (1), the slice of numbers (2) -/
abbrev fgP (p : P) : Fgn where
  fb := fun i => match i with | 0 => (p.bu, p.ou) | 1 => (p.ba, p.oa) | _ => (p.bn, p.on)
  fcap := fun i => match i with | 0 => p.cu | 1 => p.ca | _ => p.cn
  fv := fun i => match i with | 0 => fun m => if p.fz = 0 ∧ m = p.i ∧ p.i < p.lu then some (elK p.ek) else none | 1 => if p.fz = 2 then fun _ => none else numV .u16 p.pl p.A | 2 => numV .i64 p.ln p.ns | _ => fun _ => none
abbrev txP (p : P) (k : Nat) : Txts (ivP p k) where
  str := fun _ => .empty
abbrev R0 (p : P) (k : Nat) : Rw (ivP p k) (vvP p k) (vkP p k) (fgP p) (txP p k) where
  vvp := vvPp p k
/-- a table in which the powers of ten are known -/
noncomputable abbrev Pt {iv : Nat → IntKind × Int} {vv : Nat → Nat → Option AV} {vk : Nat → Nat} {F : Fgn} {X : Txts iv} (R : Rw iv vv vk F X) : Tab := { R.T with gv := stx.gvP }
theorem Pt.same {iv : Nat → IntKind × Int} {vv : Nat → Nat → Option AV} {vk : Nat → Nat} {F : Fgn} {X : Txts iv} (R R' : Rw iv vv vk F X) : SameTab (Pt R) (Pt R') := ⟨rfl, rfl, rfl, rfl, rfl, rfl, rfl, rfl, rfl⟩
noncomputable abbrev T0 (p : P) (k : Nat) : Tab := Pt (R0 p k)
noncomputable abbrev TP (p : P) : Tab := T0 p 0
/-- tables of one p that differ in names alone -/
theorem glL {p : P} {T T' : Tab} {B : Kp} {w0 : World} (h1 : T.fb = (fgP p).fb := by exact rfl) (h2 : T.fv = (fgP p).fv := by exact rfl) (h3 : T'.fb = (fgP p).fb := by exact rfl) (h4 : T'.fv = (fgP p).fv := by exact rfl) (h5 : T.gv = T'.gv := by exact rfl) (h6 : T.iv 0 = T'.iv 0 := by exact rfl) (h7 : T.iv 147 = T'.iv 147 := by exact rfl) (h8 : T.fcap = T'.fcap := by exact rfl) (h9 : T'.gv = stx.gvP := by exact rfl) : @Gl T B w0 → @Gl T' B w0 := by
  intro g
  refine ⟨fun g' o a h => ?_, fun i m a h => ?_⟩
  · obtain ⟨q1, v, q2, q3, q4⟩ := g.1 g' o a (by rw [h5]; exact h)
    refine ⟨q1, v, q2, ?_, fun e => q4 (by rw [h5]; exact e)⟩
    rw [h9] at h
    unfold stx.gvP at h
    cases e1 : Nat.beq g' 1 with
    | false => rw [e1] at h; cases h
    | true =>
      rw [e1] at h
      unfold stx.powRow at h
      cases e2 : Nat.blt o 20 with
      | false => rw [e2] at h; cases h
      | true =>
        rw [e2] at h
        cases h
        simpa only [vrel] using q3
  rw [h4] at h
  obtain ⟨k1, v, k2, k3⟩ := g.2 i m a (by rw [h2]; exact h)
  have e : T'.fb = T.fb := h3.trans h1.symm
  refine ⟨by rw [e]; exact k1, v, by rw [e]; exact k2, ?_⟩
  match i, h with
  | 0, h =>
    have h : (if p.fz = 0 ∧ m = p.i ∧ p.i < p.lu then some (elK p.ek) else none) = some a := h
    split at h
    · cases h
      match p.ek, k3 with
      | 0, h => simp only [elK, vrel] at h ⊢; rw [← h6, e, ← h8]; exact h
      | 1, h => simp only [elK, vrel] at h ⊢; rw [← h7, e, ← h8]; exact h
      | 2, h => simpa only [elK, vrel] using h
      | _ + 3, h => simpa only [elK, vrel] using h
    · cases h
  | 1, h =>
    have h : (if p.fz = 2 then fun _ => none else numV .u16 p.pl p.A : Nat → Option AV) m = some a := h
    split at h
    · cases h
    · obtain ⟨_, rfl⟩ := numV_some h; simpa only [vrel] using k3
  | 2, h => obtain ⟨_, rfl⟩ := numV_some h; simpa only [vrel] using k3
  | i + 3, h => cases h
end Go.Proofs.YtkkaifeiopjjdaaGreatDoor.bd
