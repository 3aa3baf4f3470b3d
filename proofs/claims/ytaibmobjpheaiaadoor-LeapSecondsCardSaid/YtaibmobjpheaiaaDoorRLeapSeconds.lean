/- Around each leap of a good table labels go on as they must: 59, 60, 00 where a second is more, 57, 58, 00 where one is missing, whose label has no count; for all tables of up to 256 entries. -/
import Derived.Test.YtaibmobjpheaiaaDoorRows
import Derived.Test.YtaibmobjpheaiaaDoorQx24
import Derived.Test.YtaibmobjpheaiaaDoorVLeapSeconds
import Derived.Test.YtaibmobjpheaiaaDoorG
import Derived.WalkKit
import Derived.ProofKit
import Derived.OpenShut
import Derived.ShutString
import Derived.ChangeOld
import Derived.Below
import Derived.SizedLaws
import Derived.Carry
import Derived.LaidMore
import Derived.ChangeSame
import Derived.ChangeVars
import Derived.JoinedOf
import Derived.LaidLaws
import Derived.Stop.Joined
import Derived.SevenTiedAt
import Derived.Test.YtaibmobjpheaiaaDoorCards
import Derived.Test.YtaibmobjpheaiaaDoorTie
set_option linter.unusedVariables false
set_option linter.unusedSimpArgs false
namespace Go.Proofs.YtaibmobjpheaiaaDoor.leapSeconds
open Go.ChangeShapes Go.WideShapes Go.ChangeAt Go.RowKit Go.Proofs.YtaibmobjpheaiaaDoor.Q Go.Proofs.YtaibmobjpheaiaaDoorW.PrintWords Go.Proofs.YtaibmobjpheaiaaDoorW.PrintLast Go.Proofs.YtaibmobjpheaiaaDoorW.PrintMore
theorem own : ownKnob Tryd.prog.godebug = none := by kernel_rfl
theorem laidOut : laidOutB Tryd.prog = true := by kernel_rfl
def laidM := Rows.leapSecondsRow.laid
theorem gMonths : Tryd.prog.globalNamed "clepsydra/civil.months" = some 0 := by kernel_rfl
theorem tMonths : (Tryd.prog.globals[0]?).map (·.type) = some 65 := by kernel_rfl
theorem door_met (os : Os) (args : Array Value) : laidMetH Tryd.prog laidM ((World.doorLaid Tryd.prog 400 os).forCall (fun _ _ => 0) ⟨#[], args, []⟩).memory :=
  laidMetH_of_parts3 (fuel := 8) (laidMet_of_run' 8 (by kernel_rfl) (by kernel_rfl)) (by kernel_rfl) (by kernel_rfl)
theorem of_laid {W : World} (h : laidMetH Tryd.prog laidM W) : GM W := by
  rw [MakeChecks.laidMetH_plain _ _ _ (by kernel_rfl)] at h
  obtain ⟨ps, ⟨g0, t0, cs0, f0, p0, q0, hg0, ht0, hv0, hd0, _, _⟩, _, _⟩ := h
  obtain rfl := Option.some.inj (gMonths.symm.trans hg0)
  obtain rfl := Option.some.inj (tMonths.symm.trans ht0)
  obtain ⟨xs, m1, rfl, hx1, hlen, hn3, hel⟩ := DataW.trod_array Tryd.underlying65 hd0
  have c3 : Tryd.prog.cellsOf 3 = 1 := by kernel_rfl
  simp only [Prod.mk.injEq, DataW.agg.injEq, Rows.laid_clepsydra_civil_months] at hx1
  match xs, hn3, hx1, hel with
  | [x0, x1, x2, x3, x4, x5, x6, x7, x8, x9, x10, x11, x12], _, hx1, hel =>
    simp only [List.map_cons, List.map_nil, List.cons.injEq] at hx1
    obtain ⟨⟨y0, y1, y2, y3, y4, y5, y6, y7, y8, y9, y10, y11, y12, _⟩, _⟩ := hx1
    have z0 : cs0[0]? = some (.int .i64 0) := by
      have hz := hel 0 (by decide)
      obtain ⟨k, e1, e2, _⟩ := DataW.trod_int Tryd.underlying3 (show DataW.trod _ Tryd.prog W 0 _ false m1 3 _ = some x0 from hz)
      have hk : k = 0 := by rw [e2] at y0; simpa using y0.symm
      subst hk
      rw [c3] at e1
      have e3 := congrArg List.head? e1
      simpa [List.head?_take, List.head?_drop, List.head?_eq_getElem?] using e3
    have z1 : cs0[1]? = some (.int .i64 31) := by
      have hz := hel 1 (by decide)
      obtain ⟨k, e1, e2, _⟩ := DataW.trod_int Tryd.underlying3 (show DataW.trod _ Tryd.prog W 0 _ false m1 3 _ = some x1 from hz)
      have hk : k = 31 := by rw [e2] at y1; simpa using y1.symm
      subst hk
      rw [c3] at e1
      have e3 := congrArg List.head? e1
      simpa [List.head?_take, List.head?_drop, List.head?_eq_getElem?] using e3
    have z2 : cs0[2]? = some (.int .i64 59) := by
      have hz := hel 2 (by decide)
      obtain ⟨k, e1, e2, _⟩ := DataW.trod_int Tryd.underlying3 (show DataW.trod _ Tryd.prog W 0 _ false m1 3 _ = some x2 from hz)
      have hk : k = 59 := by rw [e2] at y2; simpa using y2.symm
      subst hk
      rw [c3] at e1
      have e3 := congrArg List.head? e1
      simpa [List.head?_take, List.head?_drop, List.head?_eq_getElem?] using e3
    have z3 : cs0[3]? = some (.int .i64 90) := by
      have hz := hel 3 (by decide)
      obtain ⟨k, e1, e2, _⟩ := DataW.trod_int Tryd.underlying3 (show DataW.trod _ Tryd.prog W 0 _ false m1 3 _ = some x3 from hz)
      have hk : k = 90 := by rw [e2] at y3; simpa using y3.symm
      subst hk
      rw [c3] at e1
      have e3 := congrArg List.head? e1
      simpa [List.head?_take, List.head?_drop, List.head?_eq_getElem?] using e3
    have z4 : cs0[4]? = some (.int .i64 120) := by
      have hz := hel 4 (by decide)
      obtain ⟨k, e1, e2, _⟩ := DataW.trod_int Tryd.underlying3 (show DataW.trod _ Tryd.prog W 0 _ false m1 3 _ = some x4 from hz)
      have hk : k = 120 := by rw [e2] at y4; simpa using y4.symm
      subst hk
      rw [c3] at e1
      have e3 := congrArg List.head? e1
      simpa [List.head?_take, List.head?_drop, List.head?_eq_getElem?] using e3
    have z5 : cs0[5]? = some (.int .i64 151) := by
      have hz := hel 5 (by decide)
      obtain ⟨k, e1, e2, _⟩ := DataW.trod_int Tryd.underlying3 (show DataW.trod _ Tryd.prog W 0 _ false m1 3 _ = some x5 from hz)
      have hk : k = 151 := by rw [e2] at y5; simpa using y5.symm
      subst hk
      rw [c3] at e1
      have e3 := congrArg List.head? e1
      simpa [List.head?_take, List.head?_drop, List.head?_eq_getElem?] using e3
    have z6 : cs0[6]? = some (.int .i64 181) := by
      have hz := hel 6 (by decide)
      obtain ⟨k, e1, e2, _⟩ := DataW.trod_int Tryd.underlying3 (show DataW.trod _ Tryd.prog W 0 _ false m1 3 _ = some x6 from hz)
      have hk : k = 181 := by rw [e2] at y6; simpa using y6.symm
      subst hk
      rw [c3] at e1
      have e3 := congrArg List.head? e1
      simpa [List.head?_take, List.head?_drop, List.head?_eq_getElem?] using e3
    have z7 : cs0[7]? = some (.int .i64 212) := by
      have hz := hel 7 (by decide)
      obtain ⟨k, e1, e2, _⟩ := DataW.trod_int Tryd.underlying3 (show DataW.trod _ Tryd.prog W 0 _ false m1 3 _ = some x7 from hz)
      have hk : k = 212 := by rw [e2] at y7; simpa using y7.symm
      subst hk
      rw [c3] at e1
      have e3 := congrArg List.head? e1
      simpa [List.head?_take, List.head?_drop, List.head?_eq_getElem?] using e3
    have z8 : cs0[8]? = some (.int .i64 243) := by
      have hz := hel 8 (by decide)
      obtain ⟨k, e1, e2, _⟩ := DataW.trod_int Tryd.underlying3 (show DataW.trod _ Tryd.prog W 0 _ false m1 3 _ = some x8 from hz)
      have hk : k = 243 := by rw [e2] at y8; simpa using y8.symm
      subst hk
      rw [c3] at e1
      have e3 := congrArg List.head? e1
      simpa [List.head?_take, List.head?_drop, List.head?_eq_getElem?] using e3
    have z9 : cs0[9]? = some (.int .i64 273) := by
      have hz := hel 9 (by decide)
      obtain ⟨k, e1, e2, _⟩ := DataW.trod_int Tryd.underlying3 (show DataW.trod _ Tryd.prog W 0 _ false m1 3 _ = some x9 from hz)
      have hk : k = 273 := by rw [e2] at y9; simpa using y9.symm
      subst hk
      rw [c3] at e1
      have e3 := congrArg List.head? e1
      simpa [List.head?_take, List.head?_drop, List.head?_eq_getElem?] using e3
    have z10 : cs0[10]? = some (.int .i64 304) := by
      have hz := hel 10 (by decide)
      obtain ⟨k, e1, e2, _⟩ := DataW.trod_int Tryd.underlying3 (show DataW.trod _ Tryd.prog W 0 _ false m1 3 _ = some x10 from hz)
      have hk : k = 304 := by rw [e2] at y10; simpa using y10.symm
      subst hk
      rw [c3] at e1
      have e3 := congrArg List.head? e1
      simpa [List.head?_take, List.head?_drop, List.head?_eq_getElem?] using e3
    have z11 : cs0[11]? = some (.int .i64 334) := by
      have hz := hel 11 (by decide)
      obtain ⟨k, e1, e2, _⟩ := DataW.trod_int Tryd.underlying3 (show DataW.trod _ Tryd.prog W 0 _ false m1 3 _ = some x11 from hz)
      have hk : k = 334 := by rw [e2] at y11; simpa using y11.symm
      subst hk
      rw [c3] at e1
      have e3 := congrArg List.head? e1
      simpa [List.head?_take, List.head?_drop, List.head?_eq_getElem?] using e3
    have z12 : cs0[12]? = some (.int .i64 365) := by
      have hz := hel 12 (by decide)
      obtain ⟨k, e1, e2, _⟩ := DataW.trod_int Tryd.underlying3 (show DataW.trod _ Tryd.prog W 0 _ false m1 3 _ = some x12 from hz)
      have hk : k = 365 := by rw [e2] at y12; simpa using y12.symm
      subst hk
      rw [c3] at e1
      have e3 := congrArg List.head? e1
      simpa [List.head?_take, List.head?_drop, List.head?_eq_getElem?] using e3
    intro i hi
    rw [World.var?_cell hg0 hv0 i]
    have hi' : i = 0 ∨ i = 1 ∨ i = 2 ∨ i = 3 ∨ i = 4 ∨ i = 5 ∨ i = 6 ∨ i = 7 ∨ i = 8 ∨ i = 9 ∨ i = 10 ∨ i = 11 ∨ i = 12 := by omega
    rcases hi' with rfl | rfl | rfl | rfl | rfl | rfl | rfl | rfl | rfl | rfl | rfl | rfl | rfl
    · exact z0
    · exact z1
    · exact z2
    · exact z3
    · exact z4
    · exact z5
    · exact z6
    · exact z7
    · exact z8
    · exact z9
    · exact z10
    · exact z11
    · exact z12
theorem walk (w : World) (hM : GM w) (A0 : Option Addr) (c0 : Nat) (l0 : List S40) (hr0 : Kd.C k40 w A0 l0.length l0) (hc0 : l0.length ≤ c0) (a1 : Int) (b0 : l0.length * 16 ≤ 140737488351232) (b1 : (∀ x ∈ l0, (Lit.int .i64 x.f0).wf = true ∧ (Lit.int .i64 x.f1).wf = true)) (b2 : (Lit.int .i64 a1).wf = true) :
    Calls Tryd.prog 7 #[.slice A0 l0.length c0, .int .i64 a1] w fun e w' => e = .returned (.bool true) ∧ Below w.heap.size w w' := by
  obtain ⟨k, h⟩ := VLeapSeconds.LeapSeconds l0 a1 b0 b1 b2
  refine (clepsydralaw18_LeapSeconds.calls k A0 c0 l0 a1 true w hM hr0 hc0 ⟨rfl⟩ h).mono ?_
  rintro e w' ⟨rfl, hd⟩
  exact ⟨rfl, hd⟩
theorem list0 {H : Type} {enc : TypeId × Value → H} {W : World} {base : Nat} {spare : Nat → Bool} {held : Bool} {a : Option Addr} {len cap : Nat} {d : DataW H} {p : List MemPlace} (h : DataW.Trod enc Tryd.prog W base spare held 22 (.slice a len cap) d p) :
    ∃ l : List S40, l.length = len ∧ len ≤ cap ∧ (∀ x ∈ l, (Lit.int .i64 x.f0).wf = true ∧ (Lit.int .i64 x.f1).wf = true) ∧ Kd.C k40 W a l.length l := by
  obtain ⟨fuel, hf⟩ := h
  rcases Go.Deep.open_slice Tryd.underlying22 hf with ⟨hcs, _⟩ | ⟨x, len', cap', m, n, D, Pl, hcs, _, hl, hm, hmm, _, hi⟩
  · simp [Value.cells] at hcs
    obtain ⟨rfl, rfl, rfl⟩ := hcs
    exact ⟨[], rfl, Nat.le_refl _, by simp, rfl, by simp, fun h0 => absurd h0 (by simp)⟩
  · simp [Value.cells] at hcs
    obtain ⟨rfl, rfl, rfl⟩ := hcs
    have hlm : len ≤ m := by rw [hmm]; split <;> omega
    have key : ∀ i, ∃ s : S40, i < m → ((Lit.int .i64 s.f0).wf = true ∧ (Lit.int .i64 s.f1).wf = true) ∧ W.cells? base (x.add (i * 2)) 2 = some [.int .i64 s.f0, .int .i64 s.f1] := by
      intro i
      by_cases him : i < m
      · obtain ⟨cs', hc, ht⟩ := hi i him
        rw [G.cells40] at hc
        obtain ⟨a0, a1, ec, w0, w1⟩ := G.trod_T40 ht (World.cells?_some hc).2.1
        subst ec
        exact ⟨⟨a0, a1⟩, fun _ => ⟨⟨w0, w1⟩, hc⟩⟩
      · exact ⟨z40, fun h_ => absurd h_ him⟩
    let f : Nat → S40 := fun i => Classical.choose (key i)
    have hf : ∀ i, i < m → _ := fun i => Classical.choose_spec (key i)
    refine ⟨(List.range len).map f, by simp, hl, ?_, ?_⟩
    · intro y hy
      obtain ⟨i, hi', rfl⟩ := List.mem_map.1 hy
      exact (hf i (by have := List.mem_range.1 hi'; omega)).1
    · refine ⟨rfl, by simp; unfold maxLen at hm; omega, fun _ => ⟨x, rfl, fun j p hp => ?_⟩⟩
      have hj : j < len := by have := (List.getElem?_eq_some_iff.1 hp).1; simpa using this
      have hp' : p = f j := by have := (List.getElem?_eq_some_iff.1 hp).2; simpa using this.symm
      subst hp'
      have h2 := (hf j (by omega)).2
      refine ⟨[.int .i64 (f j).f0, .int .i64 (f j).f1], rfl, k40_mk W (f j), fun q u hu => ?_⟩
      have h3 := (World.cells?_some h2).2.2 q (by have := (List.getElem?_eq_some_iff.1 hu).1; simpa using this)
      rw [Go.Deep.add_add] at h3
      show W.cell? (x.add (j * 2 + q)) = some u
      rw [h3]
      exact hu
set_option maxRecDepth 100000 in
theorem lifted (os : Os) (started : os.Started) (H : Type) (enc : TypeId × Value → H) :
    ReturnsInHanded {} Tryd.checked os 7 .any (fun w args => (Rows.leapSecondsSpec.pre enc Tryd.prog Tryd.f7 [] false w args ∧ laidMetH Tryd.prog laidM w) ∧ sizedMet enc Tryd.prog Tryd.f7 (OpenSpec.ofChange Rows.leapSecondsSpec) false w args)
      (Rows.leapSecondsSpec.post enc Tryd.prog Tryd.f7 false true false false) := by
  refine returnsInHanded_of_change_and (C := Tryd.checked) (X := fun w _ => laidMetH Tryd.prog laidM w) (fun _ _ _ hh h => h.of_heap hh) own started (by kernel_rfl) Tryd.func7
    (ChangeSpec.witness_shaped (enc := enc) (C := Tryd.checked) (os := os) (X := fun w _ => laidMetH Tryd.prog laidM w) false (World.doorLaid Tryd.prog 400 os) #[.slice none 0 0, .int .i64 0] 8 rfl (World.shaped_of_RefB (by kernel_rfl) (by kernel_rfl)) (by kernel_rfl) (by kernel_rfl) (by kernel_rfl) (door_met os _)) ?_
  intro W base args ds gs before hval0 hW _ hsz0 hL _
  have hsz : (DataW.weightsEach Tryd.prog (Tryd.f7.params.toList ++ Rows.leapSecondsSpec.plain.varTypes Tryd.prog) (ds ++ gs)).all (· ≤ reachBytes) = true := hsz0
  have hval : ∀ (j : Nat) t v, Tryd.f7.params[j]? = some t → args[j]? = some v → Value.okWide Tryd.prog W .any base t v := hval0
  have hW' := hW
  obtain ⟨p, q, hA0, hV, rfl, hfz, hnd⟩ := hW
  have hA : DataW.TrodAll enc Tryd.prog W 0 (fun _ => true) true Tryd.f7.params.toList args.toList ds p := hA0
  rw [Tryd.params7] at hA hval hsz
  obtain ⟨v0, vs0, d0, ds0, p0, q0, hargs, rfl, rfl, h0, r0⟩ := trodAll_cons hA
  obtain ⟨v1, vs1, d1, ds1, p1, q1, rfl, rfl, rfl, h1, r1⟩ := trodAll_cons r0
  obtain ⟨rfl, rfl, rfl⟩ := trodAll_nil r1
  obtain rfl : args = #[v0, v1] := by cases args; simp_all
  obtain ⟨rfl, rfl⟩ := trodVars_none hV
  obtain ⟨A0, len0, c0, rfl⟩ := okWide_slice Tryd.underlying22 (hval 0 22 v0 rfl rfl)
  obtain ⟨l0, hl0, hc0, wl0, hr0⟩ := list0 h0
  subst hl0
  have y0 : l0.length * 16 ≤ 140737488351232 := by
    obtain ⟨fuel, hf⟩ := h0
    rcases Go.Deep.open_slice Tryd.underlying22 hf with ⟨hcs, _⟩ | ⟨x, len', cap', m, n, D, Pl, hcs, _, hl, hm, hmm, hx, hi⟩
    · simp [Value.cells] at hcs
      omega
    · simp [Value.cells] at hcs
      obtain ⟨_, hlen, _⟩ := hcs
      obtain ⟨hx, _⟩ := Prod.mk.inj hx
      subst hx
      have z := sized_slice hsz (j := 0) (t := 22) rfl rfl Tryd.underlying22
      have hb : Tryd.prog.bytesOf 40 = 16 := by kernel_rfl
      rw [hb] at z
      simp only [List.length_map, List.length_range] at z
      have hlm : len' ≤ m := by rw [hmm]; split <;> omega
      have z2 : (len' + (m - len')) * 16 ≤ 140737488351232 := z
      omega
  have lt0 : ∀ x ∈ p0, x.block < W.heap.size := by obtain ⟨m, hm⟩ := h0; exact DataW.trod_lt m _ _ _ hm
  obtain ⟨a1, e1, _, _, w1⟩ := open_int Tryd.underlying3 (hval 1 3 v1 rfl rfl) h1
  subst e1
  have lt1 : ∀ x ∈ p1, x.block < W.heap.size := by obtain ⟨m, hm⟩ := h1; exact DataW.trod_lt m _ _ _ hm
  clear hA0 hval0 hsz0 hsz
  refine (walk W (of_laid hL) A0 c0 l0 hr0 hc0 a1 y0 wl0 w1).mono fun e W' ⟨he, bel⟩ => ?_
  subst he
  exact ⟨_, rfl, _, _, _, [], _, [], hW', trodAll_mk1 (shut_bool Tryd.underlying4 _), (trodAll_cons_mk (Below.trod laidOut (by kernel_rfl) (of_decide_eq_true (by kernel_rfl)) h0 bel lt0) (trodAll_cons_mk (Below.trod laidOut (by kernel_rfl) (of_decide_eq_true (by kernel_rfl)) h1 bel lt1) trodAll_mk0)), rfl, bel.frame _, fun h => by cases h⟩
theorem over : Rows.leapSecondsRow.holds Tryd.pinned (OpenSpec.ofChange Rows.leapSecondsSpec) :=
  OpenClaim.holds_of_wide 7 Tryd.f7 rfl rfl rfl rfl rfl rfl rfl ⟨rfl, rfl, rfl, rfl, rfl⟩ rfl rfl rfl rfl rfl (by kernel_rfl) Tryd.func7 (by kernel_rfl)
    (of_decide_eq_true (by kernel_rfl)) (by unfold Func.isWrapper; first | (rw [if_pos (by decide +kernel)]; kernel_rfl) | (rw [if_neg (by decide +kernel)]; exact ⟨rfl, rfl⟩))
    (fun os started H enc _ => lifted os started H enc)
theorem proved : Rows.LeapSecondsSaid := over
theorem card : Rows.LeapSecondsCardSaid :=
  Claim7.holds_tied_plain_at .later [] [.data] true (true, "b1fef26947b85616d421b3f8bef89c86ed534b70c92782854733bc24114b3115") false
    over (fun _ h => by cases h) (by kernel_rfl) (fun _ h => by cases h) leapSeconds_row_tie rfl ⟨rfl, rfl⟩ (by kernel_rfl) rfl
    (fun f fn hf hfn => by
      obtain rfl : f = 7 := Option.some.inj ((show Tryd.prog.funcNamed "clepsydra/clepsydralaw18.LeapSeconds" = some 7 by kernel_rfl).symm.trans hf) |>.symm
      obtain rfl : fn = Tryd.f7 := (Option.some.inj (Tryd.func7.symm.trans hfn)).symm
      exact ⟨by kernel_rfl, fun j t ht => by
        rw [Tryd.params7] at ht
        have hm : t ∈ [22, 3] := by simpa using Array.mem_of_getElem? ht
        have hall : ([22, 3].all fun u => !Tryd.prog.wantsStandIn u) = true := by kernel_rfl
        exact (show Tryd.prog.wantsStandIn t = false by simpa using List.all_eq_true.1 hall t hm)⟩)
    (by kernel_rfl)
#print axioms proved
end Go.Proofs.YtaibmobjpheaiaaDoor.leapSeconds
namespace Go.Proofs.YtaibmobjpheaiaaDoor
/-- The row, under a short name, for the claim. -/
theorem leapSeconds_holds : Rows.LeapSecondsCardSaid := leapSeconds.card
end Go.Proofs.YtaibmobjpheaiaaDoor
