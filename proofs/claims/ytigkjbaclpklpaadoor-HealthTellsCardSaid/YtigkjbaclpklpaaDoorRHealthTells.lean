/- Health, Now, Interval, UTC and Pulse answer what the reference answers, for all states with tables of up to 256 entries, and on a nil clock. -/
import Derived.Test.YtigkjbaclpklpaaDoorRows
import Derived.Test.YtigkjbaclpklpaaDoorQx31
import Derived.Test.YtigkjbaclpklpaaDoorVHealthTells
import Derived.Test.YtigkjbaclpklpaaDoorG
import Derived.WalkKit
import Derived.ProofKit
import Derived.OpenShut
import Derived.ShutString
import Derived.ChangeOld
import Derived.Below
import Derived.SizedLaws
import Derived.Carry
import Derived.LaidMore
import Derived.ChangeSame
import Derived.ChangeVars
import Derived.JoinedOf
import Derived.LaidLaws
import Derived.Stop.Joined
import Derived.SevenTiedAt
import Derived.Test.YtigkjbaclpklpaaDoorCards
import Derived.Test.YtigkjbaclpklpaaDoorTie
set_option linter.unusedVariables false
set_option linter.unusedSimpArgs false
namespace Go.Proofs.YtigkjbaclpklpaaDoor.healthTells
open Go.ChangeShapes Go.WideShapes Go.ChangeAt Go.RowKit Go.Proofs.YtigkjbaclpklpaaDoor.Q Go.Proofs.YtigkjbaclpklpaaDoorW.PrintWords Go.Proofs.YtigkjbaclpklpaaDoorW.PrintLast Go.Proofs.YtigkjbaclpklpaaDoorW.PrintMore
theorem own : ownKnob Tryd.prog.godebug = none := by kernel_rfl
theorem laidOut : laidOutB Tryd.prog = true := by kernel_rfl
def laidM := Rows.healthTellsRow.laid
theorem gMonths : Tryd.prog.globalNamed "clepsydra/civil.months" = some 0 := by kernel_rfl
theorem tMonths : (Tryd.prog.globals[0]?).map (·.type) = some 102 := by kernel_rfl
theorem door_met (os : Os) (args : Array Value) : laidMetH Tryd.prog laidM ((World.doorLaid Tryd.prog 400 os).forCall (fun _ _ => 0) ⟨#[], args, []⟩).memory :=
  laidMetH_of_parts3 (fuel := 8) (laidMet_of_run' 8 (by kernel_rfl) (by kernel_rfl)) (by kernel_rfl) (by kernel_rfl)
theorem of_laid {W : World} (h : laidMetH Tryd.prog laidM W) : GM W := by
  rw [MakeChecks.laidMetH_plain _ _ _ (by kernel_rfl)] at h
  obtain ⟨ps, ⟨g0, t0, cs0, f0, p0, q0, hg0, ht0, hv0, hd0, _, _⟩, _, _⟩ := h
  obtain rfl := Option.some.inj (gMonths.symm.trans hg0)
  obtain rfl := Option.some.inj (tMonths.symm.trans ht0)
  obtain ⟨xs, m1, rfl, hx1, hlen, hn3, hel⟩ := DataW.trod_array Tryd.underlying102 hd0
  have c3 : Tryd.prog.cellsOf 3 = 1 := by kernel_rfl
  simp only [Prod.mk.injEq, DataW.agg.injEq, Rows.laid_clepsydra_civil_months] at hx1
  match xs, hn3, hx1, hel with
  | [x0, x1, x2, x3, x4, x5, x6, x7, x8, x9, x10, x11, x12], _, hx1, hel =>
    simp only [List.map_cons, List.map_nil, List.cons.injEq] at hx1
    obtain ⟨⟨y0, y1, y2, y3, y4, y5, y6, y7, y8, y9, y10, y11, y12, _⟩, _⟩ := hx1
    have z0 : cs0[0]? = some (.int .i64 0) := by
      have hz := hel 0 (by decide)
      obtain ⟨k, e1, e2, _⟩ := DataW.trod_int Tryd.underlying3 (show DataW.trod _ Tryd.prog W 0 _ false m1 3 _ = some x0 from hz)
      have hk : k = 0 := by rw [e2] at y0; simpa using y0.symm
      subst hk
      simp only [c3] at e1
      have e3 := congrArg List.head? e1
      simpa [List.head?_take, List.head?_drop, List.head?_eq_getElem?] using e3
    have z1 : cs0[1]? = some (.int .i64 31) := by
      have hz := hel 1 (by decide)
      obtain ⟨k, e1, e2, _⟩ := DataW.trod_int Tryd.underlying3 (show DataW.trod _ Tryd.prog W 0 _ false m1 3 _ = some x1 from hz)
      have hk : k = 31 := by rw [e2] at y1; simpa using y1.symm
      subst hk
      simp only [c3] at e1
      have e3 := congrArg List.head? e1
      simpa [List.head?_take, List.head?_drop, List.head?_eq_getElem?] using e3
    have z2 : cs0[2]? = some (.int .i64 59) := by
      have hz := hel 2 (by decide)
      obtain ⟨k, e1, e2, _⟩ := DataW.trod_int Tryd.underlying3 (show DataW.trod _ Tryd.prog W 0 _ false m1 3 _ = some x2 from hz)
      have hk : k = 59 := by rw [e2] at y2; simpa using y2.symm
      subst hk
      simp only [c3] at e1
      have e3 := congrArg List.head? e1
      simpa [List.head?_take, List.head?_drop, List.head?_eq_getElem?] using e3
    have z3 : cs0[3]? = some (.int .i64 90) := by
      have hz := hel 3 (by decide)
      obtain ⟨k, e1, e2, _⟩ := DataW.trod_int Tryd.underlying3 (show DataW.trod _ Tryd.prog W 0 _ false m1 3 _ = some x3 from hz)
      have hk : k = 90 := by rw [e2] at y3; simpa using y3.symm
      subst hk
      simp only [c3] at e1
      have e3 := congrArg List.head? e1
      simpa [List.head?_take, List.head?_drop, List.head?_eq_getElem?] using e3
    have z4 : cs0[4]? = some (.int .i64 120) := by
      have hz := hel 4 (by decide)
      obtain ⟨k, e1, e2, _⟩ := DataW.trod_int Tryd.underlying3 (show DataW.trod _ Tryd.prog W 0 _ false m1 3 _ = some x4 from hz)
      have hk : k = 120 := by rw [e2] at y4; simpa using y4.symm
      subst hk
      simp only [c3] at e1
      have e3 := congrArg List.head? e1
      simpa [List.head?_take, List.head?_drop, List.head?_eq_getElem?] using e3
    have z5 : cs0[5]? = some (.int .i64 151) := by
      have hz := hel 5 (by decide)
      obtain ⟨k, e1, e2, _⟩ := DataW.trod_int Tryd.underlying3 (show DataW.trod _ Tryd.prog W 0 _ false m1 3 _ = some x5 from hz)
      have hk : k = 151 := by rw [e2] at y5; simpa using y5.symm
      subst hk
      simp only [c3] at e1
      have e3 := congrArg List.head? e1
      simpa [List.head?_take, List.head?_drop, List.head?_eq_getElem?] using e3
    have z6 : cs0[6]? = some (.int .i64 181) := by
      have hz := hel 6 (by decide)
      obtain ⟨k, e1, e2, _⟩ := DataW.trod_int Tryd.underlying3 (show DataW.trod _ Tryd.prog W 0 _ false m1 3 _ = some x6 from hz)
      have hk : k = 181 := by rw [e2] at y6; simpa using y6.symm
      subst hk
      simp only [c3] at e1
      have e3 := congrArg List.head? e1
      simpa [List.head?_take, List.head?_drop, List.head?_eq_getElem?] using e3
    have z7 : cs0[7]? = some (.int .i64 212) := by
      have hz := hel 7 (by decide)
      obtain ⟨k, e1, e2, _⟩ := DataW.trod_int Tryd.underlying3 (show DataW.trod _ Tryd.prog W 0 _ false m1 3 _ = some x7 from hz)
      have hk : k = 212 := by rw [e2] at y7; simpa using y7.symm
      subst hk
      simp only [c3] at e1
      have e3 := congrArg List.head? e1
      simpa [List.head?_take, List.head?_drop, List.head?_eq_getElem?] using e3
    have z8 : cs0[8]? = some (.int .i64 243) := by
      have hz := hel 8 (by decide)
      obtain ⟨k, e1, e2, _⟩ := DataW.trod_int Tryd.underlying3 (show DataW.trod _ Tryd.prog W 0 _ false m1 3 _ = some x8 from hz)
      have hk : k = 243 := by rw [e2] at y8; simpa using y8.symm
      subst hk
      simp only [c3] at e1
      have e3 := congrArg List.head? e1
      simpa [List.head?_take, List.head?_drop, List.head?_eq_getElem?] using e3
    have z9 : cs0[9]? = some (.int .i64 273) := by
      have hz := hel 9 (by decide)
      obtain ⟨k, e1, e2, _⟩ := DataW.trod_int Tryd.underlying3 (show DataW.trod _ Tryd.prog W 0 _ false m1 3 _ = some x9 from hz)
      have hk : k = 273 := by rw [e2] at y9; simpa using y9.symm
      subst hk
      simp only [c3] at e1
      have e3 := congrArg List.head? e1
      simpa [List.head?_take, List.head?_drop, List.head?_eq_getElem?] using e3
    have z10 : cs0[10]? = some (.int .i64 304) := by
      have hz := hel 10 (by decide)
      obtain ⟨k, e1, e2, _⟩ := DataW.trod_int Tryd.underlying3 (show DataW.trod _ Tryd.prog W 0 _ false m1 3 _ = some x10 from hz)
      have hk : k = 304 := by rw [e2] at y10; simpa using y10.symm
      subst hk
      simp only [c3] at e1
      have e3 := congrArg List.head? e1
      simpa [List.head?_take, List.head?_drop, List.head?_eq_getElem?] using e3
    have z11 : cs0[11]? = some (.int .i64 334) := by
      have hz := hel 11 (by decide)
      obtain ⟨k, e1, e2, _⟩ := DataW.trod_int Tryd.underlying3 (show DataW.trod _ Tryd.prog W 0 _ false m1 3 _ = some x11 from hz)
      have hk : k = 334 := by rw [e2] at y11; simpa using y11.symm
      subst hk
      simp only [c3] at e1
      have e3 := congrArg List.head? e1
      simpa [List.head?_take, List.head?_drop, List.head?_eq_getElem?] using e3
    have z12 : cs0[12]? = some (.int .i64 365) := by
      have hz := hel 12 (by decide)
      obtain ⟨k, e1, e2, _⟩ := DataW.trod_int Tryd.underlying3 (show DataW.trod _ Tryd.prog W 0 _ false m1 3 _ = some x12 from hz)
      have hk : k = 365 := by rw [e2] at y12; simpa using y12.symm
      subst hk
      simp only [c3] at e1
      have e3 := congrArg List.head? e1
      simpa [List.head?_take, List.head?_drop, List.head?_eq_getElem?] using e3
    intro i hi
    rw [World.var?_cell hg0 hv0 i]
    have hi' : i = 0 ∨ i = 1 ∨ i = 2 ∨ i = 3 ∨ i = 4 ∨ i = 5 ∨ i = 6 ∨ i = 7 ∨ i = 8 ∨ i = 9 ∨ i = 10 ∨ i = 11 ∨ i = 12 := by omega
    rcases hi' with rfl | rfl | rfl | rfl | rfl | rfl | rfl | rfl | rfl | rfl | rfl | rfl | rfl
    · exact z0
    · exact z1
    · exact z2
    · exact z3
    · exact z4
    · exact z5
    · exact z6
    · exact z7
    · exact z8
    · exact z9
    · exact z10
    · exact z11
    · exact z12
theorem walk (w : World) (hM : GM w) (a0_0 : Int) (a0_1 : Int) (a0_2 : Int) (a0_3 : Int) (a0_4 : Int) (a0_5 : Int) (a0_6 : Int) (a0_7 : Int) (a0_8 : Int) (a0_9 : Int) (a0_10 : Int) (a0_11 : Int) (a1_0 : Int) (a1_1 : Int) (a1_2 : Int) (a1_3 : Bool) (a1_4 : Int) (a1_5 : Int) (a1_6 : Bool) (A1_7 : Option Addr) (c1_7 : Nat) (l1_7 : List S82) (hr1_7 : Kd.C k82 w A1_7 l1_7.length l1_7) (hc1_7 : l1_7.length ≤ c1_7) (a1_8 : Int) (a1_9 : Int) (a1_10 : Int) (b0 : (Lit.int .i64 a0_0).wf = true) (b1 : (Lit.int .i64 a0_1).wf = true) (b2 : (Lit.int .i64 a0_2).wf = true) (b3 : (Lit.int .i64 a0_3).wf = true) (b4 : (Lit.int .i64 a0_4).wf = true) (b5 : (Lit.int .i64 a0_5).wf = true) (b6 : (Lit.int .i64 a0_6).wf = true) (b7 : (Lit.int .i64 a0_7).wf = true) (b8 : (Lit.int .i64 a0_8).wf = true) (b9 : (Lit.int .i64 a0_9).wf = true) (b10 : (Lit.int .i64 a0_10).wf = true) (b11 : (Lit.int .i64 a0_11).wf = true) (b12 : (Lit.int .i64 a1_0).wf = true) (b13 : (Lit.int .i64 a1_1).wf = true) (b14 : (Lit.int .i64 a1_2).wf = true) (b15 : (Lit.int .i64 a1_4).wf = true) (b16 : (Lit.int .i64 a1_5).wf = true) (b17 : (∀ x ∈ l1_7, (Lit.int .i64 x.f0).wf = true ∧ (Lit.int .i64 x.f1).wf = true)) (b18 : (Lit.int .i64 a1_8).wf = true) (b19 : (Lit.int .i64 a1_9).wf = true) (b20 : (Lit.int .i64 a1_10).wf = true) :
    Calls Tryd.prog 3 #[.agg #[.int .i64 a0_0, .int .i64 a0_1, .int .i64 a0_2, .int .i64 a0_3, .int .i64 a0_4, .int .i64 a0_5, .int .i64 a0_6, .int .i64 a0_7, .int .i64 a0_8, .int .i64 a0_9, .int .i64 a0_10, .int .i64 a0_11], .agg #[.int .i64 a1_0, .int .i64 a1_1, .int .i64 a1_2, .bool a1_3, .int .i64 a1_4, .int .i64 a1_5, .bool a1_6, .slice A1_7 l1_7.length c1_7, .int .i64 a1_8, .int .i64 a1_9, .int .i64 a1_10]] w fun e w' => e = .returned (.bool true) ∧ Below w.heap.size w w' := by
  obtain ⟨k, h⟩ := VHealthTells.HealthTells a0_0 a0_1 a0_2 a0_3 a0_4 a0_5 a0_6 a0_7 a0_8 a0_9 a0_10 a0_11 a1_0 a1_1 a1_2 a1_3 a1_4 a1_5 a1_6 l1_7 a1_8 a1_9 a1_10 b0 b1 b2 b3 b4 b5 b6 b7 b8 b9 b10 b11 b12 b13 b14 b15 b16 b17 b18 b19 b20
  refine (clepsydralaw21_HealthTells.calls k a0_0 a0_1 a0_2 a0_3 a0_4 a0_5 a0_6 a0_7 a0_8 a0_9 a0_10 a0_11 a1_0 a1_1 a1_2 a1_3 a1_4 a1_5 a1_6 A1_7 c1_7 l1_7 a1_8 a1_9 a1_10 true w hM hr1_7 hc1_7 ⟨rfl⟩ h).mono ?_
  rintro e w' ⟨rfl, hd⟩
  exact ⟨rfl, hd⟩
theorem list1_7 {H : Type} {enc : TypeId × Value → H} {W : World} {base : Nat} {spare : Nat → Bool} {held : Bool} {a : Option Addr} {len cap : Nat} {d : DataW H} {p : List MemPlace} (h : DataW.Trod enc Tryd.prog W base spare held 26 (.slice a len cap) d p) :
    ∃ l : List S82, l.length = len ∧ len ≤ cap ∧ (∀ x ∈ l, (Lit.int .i64 x.f0).wf = true ∧ (Lit.int .i64 x.f1).wf = true) ∧ Kd.C k82 W a l.length l := by
  obtain ⟨fuel, hf⟩ := h
  rcases Go.Deep.open_slice Tryd.underlying26 hf with ⟨hcs, _⟩ | ⟨x, len', cap', m, n, D, Pl, hcs, _, hl, hm, hmm, _, hi⟩
  · simp [Value.cells] at hcs
    obtain ⟨rfl, rfl, rfl⟩ := hcs
    exact ⟨[], rfl, Nat.le_refl _, by simp, rfl, by simp, fun h0 => absurd h0 (by simp)⟩
  · simp [Value.cells] at hcs
    obtain ⟨rfl, rfl, rfl⟩ := hcs
    have hlm : len ≤ m := by rw [hmm]; split <;> omega
    have key : ∀ i, ∃ s : S82, i < m → ((Lit.int .i64 s.f0).wf = true ∧ (Lit.int .i64 s.f1).wf = true) ∧ W.cells? base (x.add (i * 2)) 2 = some [.int .i64 s.f0, .int .i64 s.f1] := by
      intro i
      by_cases him : i < m
      · obtain ⟨cs', hc, ht⟩ := hi i him
        rw [G.cells82] at hc
        obtain ⟨a0, a1, ec, w0, w1⟩ := G.trod_T82 ht (World.cells?_some hc).2.1
        subst ec
        exact ⟨⟨a0, a1⟩, fun _ => ⟨⟨w0, w1⟩, hc⟩⟩
      · exact ⟨z82, fun h_ => absurd h_ him⟩
    let f : Nat → S82 := fun i => Classical.choose (key i)
    have hf : ∀ i, i < m → _ := fun i => Classical.choose_spec (key i)
    refine ⟨(List.range len).map f, by simp, hl, ?_, ?_⟩
    · intro y hy
      obtain ⟨i, hi', rfl⟩ := List.mem_map.1 hy
      exact (hf i (by have := List.mem_range.1 hi'; omega)).1
    · refine ⟨rfl, by simp; unfold maxLen at hm; omega, fun _ => ⟨x, rfl, fun j p hp => ?_⟩⟩
      have hj : j < len := by have := (List.getElem?_eq_some_iff.1 hp).1; simpa using this
      have hp' : p = f j := by have := (List.getElem?_eq_some_iff.1 hp).2; simpa using this.symm
      subst hp'
      have h2 := (hf j (by omega)).2
      refine ⟨[.int .i64 (f j).f0, .int .i64 (f j).f1], rfl, k82_mk W (f j), fun q u hu => ?_⟩
      have h3 := (World.cells?_some h2).2.2 q (by have := (List.getElem?_eq_some_iff.1 hu).1; simpa using this)
      rw [Go.Deep.add_add] at h3
      show W.cell? (x.add (j * 2 + q)) = some u
      rw [h3]
      exact hu
set_option maxRecDepth 100000 in
theorem lifted (os : Os) (started : os.Started) (H : Type) (enc : TypeId × Value → H) :
    ReturnsInHanded {} Tryd.checked os 3 .any (fun w args => (Rows.healthTellsSpec.pre enc Tryd.prog Tryd.f3 [] false w args ∧ laidMetH Tryd.prog laidM w) ∧ sizedMet enc Tryd.prog Tryd.f3 (OpenSpec.ofChange Rows.healthTellsSpec) false w args)
      (Rows.healthTellsSpec.post enc Tryd.prog Tryd.f3 false true false false) := by
  refine returnsInHanded_of_change_and (C := Tryd.checked) (X := fun w _ => laidMetH Tryd.prog laidM w) (fun _ _ _ hh h => h.of_heap hh) own started (by kernel_rfl) Tryd.func3
    (ChangeSpec.witness_shaped (enc := enc) (C := Tryd.checked) (os := os) (X := fun w _ => laidMetH Tryd.prog laidM w) false (World.doorLaid Tryd.prog 400 os) #[.agg #[.int .i64 0, .int .i64 0, .int .i64 0, .int .i64 0, .int .i64 0, .int .i64 0, .int .i64 0, .int .i64 0, .int .i64 0, .int .i64 0, .int .i64 0, .int .i64 0], .agg #[.int .i64 0, .int .i64 0, .int .i64 0, .bool false, .int .i64 0, .int .i64 0, .bool false, .slice none 0 0, .int .i64 0, .int .i64 0, .int .i64 0]] 8 rfl (World.shaped_of_RefB (by kernel_rfl) (by kernel_rfl)) (by kernel_rfl) (by kernel_rfl) (by kernel_rfl) (door_met os _)) ?_
  intro W base args ds gs before hval0 hW _ _ hL _
  have hval : ∀ (j : Nat) t v, Tryd.f3.params[j]? = some t → args[j]? = some v → Value.okWide Tryd.prog W .any base t v := hval0
  have hW' := hW
  obtain ⟨p, q, hA0, hV, rfl, hfz, hnd⟩ := hW
  have hA : DataW.TrodAll enc Tryd.prog W 0 (fun _ => true) true Tryd.f3.params.toList args.toList ds p := hA0
  rw [Tryd.params3] at hA hval
  obtain ⟨v0, vs0, d0, ds0, p0, q0, hargs, rfl, rfl, h0, r0⟩ := trodAll_cons hA
  obtain ⟨v1, vs1, d1, ds1, p1, q1, rfl, rfl, rfl, h1, r1⟩ := trodAll_cons r0
  obtain ⟨rfl, rfl, rfl⟩ := trodAll_nil r1
  obtain rfl : args = #[v0, v1] := by cases args; simp_all
  obtain ⟨rfl, rfl⟩ := trodVars_none hV
  obtain ⟨a0_0, a0_1, a0_2, a0_3, a0_4, a0_5, a0_6, a0_7, a0_8, a0_9, a0_10, a0_11, e0, wa0_0, wa0_1, wa0_2, wa0_3, wa0_4, wa0_5, wa0_6, wa0_7, wa0_8, wa0_9, wa0_10, wa0_11⟩ := G.open_T23 (hval 0 23 v0 rfl rfl) h0
  subst e0
  have lt0 : ∀ x ∈ p0, x.block < W.heap.size := by obtain ⟨m, hm⟩ := h0; exact DataW.trod_lt m _ _ _ hm
  obtain ⟨a1_0, a1_1, a1_2, a1_3, a1_4, a1_5, a1_6, A1_7, n1_7, c1_7, a1_8, a1_9, a1_10, e1, wa1_0, wa1_1, wa1_2, wa1_4, wa1_5, wa1_8, wa1_9, wa1_10, ⟨m1_7, y1_7, s1_7⟩⟩ := G.open_T30 (hval 1 30 v1 rfl rfl) h1
  subst e1
  obtain ⟨l1_7, hl1_7, hc1_7, wl1_7, hr1_7⟩ := list1_7 (d := y1_7.1) (p := y1_7.2) (show DataW.Trod enc Tryd.prog W 0 (fun _ => true) true 26 (.slice A1_7 n1_7 c1_7) y1_7.1 y1_7.2 from ⟨m1_7, s1_7⟩)
  subst hl1_7
  have lt1 : ∀ x ∈ p1, x.block < W.heap.size := by obtain ⟨m, hm⟩ := h1; exact DataW.trod_lt m _ _ _ hm
  clear hA0 hval0
  refine (walk W (of_laid hL) a0_0 a0_1 a0_2 a0_3 a0_4 a0_5 a0_6 a0_7 a0_8 a0_9 a0_10 a0_11 a1_0 a1_1 a1_2 a1_3 a1_4 a1_5 a1_6 A1_7 c1_7 l1_7 hr1_7 hc1_7 a1_8 a1_9 a1_10 wa0_0 wa0_1 wa0_2 wa0_3 wa0_4 wa0_5 wa0_6 wa0_7 wa0_8 wa0_9 wa0_10 wa0_11 wa1_0 wa1_1 wa1_2 wa1_4 wa1_5 wl1_7 wa1_8 wa1_9 wa1_10).mono fun e W' ⟨he, bel⟩ => ?_
  subst he
  exact ⟨_, rfl, _, _, _, [], _, [], hW', trodAll_mk1 (shut_bool Tryd.underlying4 _), (trodAll_cons_mk (Below.trod laidOut (by kernel_rfl) (of_decide_eq_true (by kernel_rfl)) h0 bel lt0) (trodAll_cons_mk (Below.trod laidOut (by kernel_rfl) (of_decide_eq_true (by kernel_rfl)) h1 bel lt1) trodAll_mk0)), rfl, bel.frame _, fun h => by cases h⟩
theorem over : Rows.healthTellsRow.holds Tryd.pinned (OpenSpec.ofChange Rows.healthTellsSpec) :=
  OpenClaim.holds_of_wide 3 Tryd.f3 rfl rfl rfl rfl rfl rfl rfl ⟨rfl, rfl, rfl, rfl, rfl⟩ rfl rfl rfl rfl rfl (by kernel_rfl) Tryd.func3 (by kernel_rfl)
    (of_decide_eq_true (by kernel_rfl)) (by unfold Func.isWrapper; first | (rw [if_pos (by decide +kernel)]; kernel_rfl) | (rw [if_neg (by decide +kernel)]; exact ⟨rfl, rfl⟩))
    (fun os started H enc _ => lifted os started H enc)
theorem proved : Rows.HealthTellsSaid := over
theorem card : Rows.HealthTellsCardSaid :=
  Claim7.holds_tied_plain_at .later [] [.data] true (true, "2dc3795816bad816032bc7cbd0e4a9f9106882919c664871ec8b548489702978") false
    over (fun _ h => by cases h) (by kernel_rfl) (fun _ h => by cases h) healthTells_row_tie rfl ⟨rfl, rfl⟩ (by kernel_rfl) rfl
    (fun f fn hf hfn => by
      obtain rfl : f = 3 := Option.some.inj ((show Tryd.prog.funcNamed "clepsydra/clepsydralaw21.HealthTells" = some 3 by kernel_rfl).symm.trans hf) |>.symm
      obtain rfl : fn = Tryd.f3 := (Option.some.inj (Tryd.func3.symm.trans hfn)).symm
      exact ⟨by kernel_rfl, fun j t ht => by
        rw [Tryd.params3] at ht
        have hm : t ∈ [23, 30] := by simpa using Array.mem_of_getElem? ht
        have hall : ([23, 30].all fun u => !Tryd.prog.wantsStandIn u) = true := by kernel_rfl
        exact (show Tryd.prog.wantsStandIn t = false by simpa using List.all_eq_true.1 hall t hm)⟩)
    (by kernel_rfl)
#print axioms proved
end Go.Proofs.YtigkjbaclpklpaaDoor.healthTells
namespace Go.Proofs.YtigkjbaclpklpaaDoor
/-- The row, under a short name, for the claim. -/
theorem healthTells_holds : Rows.HealthTellsCardSaid := healthTells.card
end Go.Proofs.YtigkjbaclpklpaaDoor
