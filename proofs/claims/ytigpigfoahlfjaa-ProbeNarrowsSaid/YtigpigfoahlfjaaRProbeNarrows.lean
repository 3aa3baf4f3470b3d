/- The best of some trips isn't wider than what any of them tells, and one more trip never makes it wider; for all lists of up to 256 trips. -/
import Derived.Test.YtigpigfoahlfjaaRows
import Derived.Test.YtigpigfoahlfjaaQx9
import Derived.Test.YtigpigfoahlfjaaVProbeNarrows
import Derived.Test.YtigpigfoahlfjaaG
import Derived.WalkKit
import Derived.ProofKit
import Derived.OpenShut
import Derived.ShutString
import Derived.ChangeOld
import Derived.Below
import Derived.SizedLaws
import Derived.Carry
set_option linter.unusedVariables false
set_option linter.unusedSimpArgs false
namespace Go.Proofs.Ytigpigfoahlfjaa.probeNarrows
open Go.ChangeShapes Go.WideShapes Go.ChangeAt Go.RowKit Go.Proofs.Ytigpigfoahlfjaa.Q Go.Proofs.YtigpigfoahlfjaaW.PrintWords Go.Proofs.YtigpigfoahlfjaaW.PrintLast Go.Proofs.YtigpigfoahlfjaaW.PrintMore
theorem own : ownKnob Try.prog.godebug = none := by kernel_rfl
theorem laidOut : laidOutB Try.prog = true := by kernel_rfl
theorem walk (w : World) (a0_0 : Int) (a0_1 : Int) (a0_2 : Int) (a0_3 : Int) (a0_4 : Int) (a0_5 : Int) (a0_6 : Int) (a0_7 : Int) (a0_8 : Int) (a0_9 : Int) (a0_10 : Int) (a0_11 : Int) (A1 : Option Addr) (c1 : Nat) (l1 : List S57) (hr1 : Kd.C k57 w A1 l1.length l1) (hc1 : l1.length ≤ c1) (a2_0 : Int) (a2_1 : Int) (a2_2 : Int) (a2_3 : Int) (b0 : (Lit.int .i64 a0_0).wf = true) (b1 : (Lit.int .i64 a0_1).wf = true) (b2 : (Lit.int .i64 a0_2).wf = true) (b3 : (Lit.int .i64 a0_3).wf = true) (b4 : (Lit.int .i64 a0_4).wf = true) (b5 : (Lit.int .i64 a0_5).wf = true) (b6 : (Lit.int .i64 a0_6).wf = true) (b7 : (Lit.int .i64 a0_7).wf = true) (b8 : (Lit.int .i64 a0_8).wf = true) (b9 : (Lit.int .i64 a0_9).wf = true) (b10 : (Lit.int .i64 a0_10).wf = true) (b11 : (Lit.int .i64 a0_11).wf = true) (b12 : l1.length * 32 ≤ 140737488351232) (b13 : (∀ x ∈ l1, (Lit.int .i64 x.f0).wf = true ∧ (Lit.int .i64 x.f1).wf = true ∧ (Lit.int .i64 x.f2).wf = true ∧ (Lit.int .i64 x.f3).wf = true)) (b14 : (Lit.int .i64 a2_0).wf = true) (b15 : (Lit.int .i64 a2_1).wf = true) (b16 : (Lit.int .i64 a2_2).wf = true) (b17 : (Lit.int .i64 a2_3).wf = true) :
    Calls Try.prog 14 #[.agg #[.int .i64 a0_0, .int .i64 a0_1, .int .i64 a0_2, .int .i64 a0_3, .int .i64 a0_4, .int .i64 a0_5, .int .i64 a0_6, .int .i64 a0_7, .int .i64 a0_8, .int .i64 a0_9, .int .i64 a0_10, .int .i64 a0_11], .slice A1 l1.length c1, .agg #[.int .i64 a2_0, .int .i64 a2_1, .int .i64 a2_2, .int .i64 a2_3]] w fun e w' => e = .returned (.bool true) ∧ Below w.heap.size w w' := by
  obtain ⟨k, h⟩ := VProbeNarrows.ProbeNarrows a0_0 a0_1 a0_2 a0_3 a0_4 a0_5 a0_6 a0_7 a0_8 a0_9 a0_10 a0_11 l1 a2_0 a2_1 a2_2 a2_3 b0 b1 b2 b3 b4 b5 b6 b7 b8 b9 b10 b11 b12 b13 b14 b15 b16 b17
  refine (clepsydralaw10_ProbeNarrows.calls k a0_0 a0_1 a0_2 a0_3 a0_4 a0_5 a0_6 a0_7 a0_8 a0_9 a0_10 a0_11 A1 c1 l1 a2_0 a2_1 a2_2 a2_3 true w hr1 hc1 ⟨rfl⟩ h).mono ?_
  rintro e w' ⟨rfl, hd⟩
  exact ⟨rfl, hd⟩
theorem list1 {H : Type} {enc : TypeId × Value → H} {W : World} {base : Nat} {spare : Nat → Bool} {held : Bool} {a : Option Addr} {len cap : Nat} {d : DataW H} {p : List MemPlace} (h : DataW.Trod enc Try.prog W base spare held 62 (.slice a len cap) d p) :
    ∃ l : List S57, l.length = len ∧ len ≤ cap ∧ (∀ x ∈ l, (Lit.int .i64 x.f0).wf = true ∧ (Lit.int .i64 x.f1).wf = true ∧ (Lit.int .i64 x.f2).wf = true ∧ (Lit.int .i64 x.f3).wf = true) ∧ Kd.C k57 W a l.length l := by
  obtain ⟨fuel, hf⟩ := h
  rcases Go.Deep.open_slice Try.underlying62 hf with ⟨hcs, _⟩ | ⟨x, len', cap', m, n, D, Pl, hcs, _, hl, hm, hmm, _, hi⟩
  · simp [Value.cells] at hcs
    obtain ⟨rfl, rfl, rfl⟩ := hcs
    exact ⟨[], rfl, Nat.le_refl _, by simp, rfl, by simp, fun h0 => absurd h0 (by simp)⟩
  · simp [Value.cells] at hcs
    obtain ⟨rfl, rfl, rfl⟩ := hcs
    have hlm : len ≤ m := by rw [hmm]; split <;> omega
    have key : ∀ i, ∃ s : S57, i < m → ((Lit.int .i64 s.f0).wf = true ∧ (Lit.int .i64 s.f1).wf = true ∧ (Lit.int .i64 s.f2).wf = true ∧ (Lit.int .i64 s.f3).wf = true) ∧ W.cells? base (x.add (i * 4)) 4 = some [.int .i64 s.f0, .int .i64 s.f1, .int .i64 s.f2, .int .i64 s.f3] := by
      intro i
      by_cases him : i < m
      · obtain ⟨cs', hc, ht⟩ := hi i him
        rw [G.cells57] at hc
        obtain ⟨a0, a1, a2, a3, ec, w0, w1, w2, w3⟩ := G.trod_T57 ht (World.cells?_some hc).2.1
        subst ec
        exact ⟨⟨a0, a1, a2, a3⟩, fun _ => ⟨⟨w0, w1, w2, w3⟩, hc⟩⟩
      · exact ⟨z57, fun h_ => absurd h_ him⟩
    let f : Nat → S57 := fun i => Classical.choose (key i)
    have hf : ∀ i, i < m → _ := fun i => Classical.choose_spec (key i)
    refine ⟨(List.range len).map f, by simp, hl, ?_, ?_⟩
    · intro y hy
      obtain ⟨i, hi', rfl⟩ := List.mem_map.1 hy
      exact (hf i (by have := List.mem_range.1 hi'; omega)).1
    · refine ⟨rfl, by simp; unfold maxLen at hm; omega, fun _ => ⟨x, rfl, fun j p hp => ?_⟩⟩
      have hj : j < len := by have := (List.getElem?_eq_some_iff.1 hp).1; simpa using this
      have hp' : p = f j := by have := (List.getElem?_eq_some_iff.1 hp).2; simpa using this.symm
      subst hp'
      have h2 := (hf j (by omega)).2
      refine ⟨[.int .i64 (f j).f0, .int .i64 (f j).f1, .int .i64 (f j).f2, .int .i64 (f j).f3], rfl, k57_mk W (f j), fun q u hu => ?_⟩
      have h3 := (World.cells?_some h2).2.2 q (by have := (List.getElem?_eq_some_iff.1 hu).1; simpa using this)
      rw [Go.Deep.add_add] at h3
      show W.cell? (x.add (j * 4 + q)) = some u
      rw [h3]
      exact hu
set_option maxRecDepth 100000 in
theorem lifted (os : Os) (started : os.Started) (H : Type) (enc : TypeId × Value → H) :
    ReturnsInHanded {} Try.checked os 14 .any (Rows.probeNarrowsSpec.pre6 enc Try.prog Try.f14 Rows.probeNarrowsRow.domain false) (Rows.probeNarrowsSpec.post enc Try.prog Try.f14 false true false false) := by
  refine returnsInHanded_of_change_sized (C := Try.checked) own started (by kernel_rfl) Try.func14
    (ChangeSpec.witness6 (enc := enc) (C := Try.checked) false ⟨#[], #[.agg #[.int .i64 0, .int .i64 0, .int .i64 0, .int .i64 0, .int .i64 0, .int .i64 0, .int .i64 0, .int .i64 0, .int .i64 0, .int .i64 0, .int .i64 0, .int .i64 0], .slice none 0 0, .agg #[.int .i64 0, .int .i64 0, .int .i64 0, .int .i64 0]], []⟩ 8 (by kernel_rfl) (by kernel_rfl) (by kernel_rfl) (by kernel_rfl)) ?_
  intro W base args ds gs before hval0 hW hcnd hsz0 _
  have hsz : (DataW.weightsEach Try.prog (Try.f14.params.toList ++ Rows.probeNarrowsSpec.plain.varTypes Try.prog) (ds ++ gs)).all (· ≤ reachBytes) = true := hsz0
  have hval : ∀ (j : Nat) t v, Try.f14.params[j]? = some t → args[j]? = some v → Value.okWide Try.prog W .any base t v := hval0
  have hW' := hW
  obtain ⟨p, q, hA0, hV, rfl, hfz, hnd⟩ := hW
  have hA : DataW.TrodAll enc Try.prog W 0 (fun _ => true) true Try.f14.params.toList args.toList ds p := hA0
  rw [Try.params14] at hA hval hsz
  obtain ⟨v0, vs0, d0, ds0, p0, q0, hargs, rfl, rfl, h0, r0⟩ := trodAll_cons hA
  obtain ⟨v1, vs1, d1, ds1, p1, q1, rfl, rfl, rfl, h1, r1⟩ := trodAll_cons r0
  obtain ⟨v2, vs2, d2, ds2, p2, q2, rfl, rfl, rfl, h2, r2⟩ := trodAll_cons r1
  obtain ⟨rfl, rfl, rfl⟩ := trodAll_nil r2
  obtain rfl : args = #[v0, v1, v2] := by cases args; simp_all
  obtain ⟨rfl, rfl⟩ := trodVars_none hV
  obtain ⟨a0_0, a0_1, a0_2, a0_3, a0_4, a0_5, a0_6, a0_7, a0_8, a0_9, a0_10, a0_11, e0, wa0_0, wa0_1, wa0_2, wa0_3, wa0_4, wa0_5, wa0_6, wa0_7, wa0_8, wa0_9, wa0_10, wa0_11⟩ := G.open_T23 (hval 0 23 v0 rfl rfl) h0
  subst e0
  have lt0 : ∀ x ∈ p0, x.block < W.heap.size := by obtain ⟨m, hm⟩ := h0; exact DataW.trod_lt m _ _ _ hm
  obtain ⟨A1, len1, c1, rfl⟩ := okWide_slice Try.underlying62 (hval 1 62 v1 rfl rfl)
  obtain ⟨l1, hl1, hc1, wl1, hr1⟩ := list1 h1
  subst hl1
  have y1 : l1.length * 32 ≤ 140737488351232 := by
    obtain ⟨fuel, hf⟩ := h1
    rcases Go.Deep.open_slice Try.underlying62 hf with ⟨hcs, _⟩ | ⟨x, len', cap', m, n, D, Pl, hcs, _, hl, hm, hmm, hx, hi⟩
    · simp [Value.cells] at hcs
      omega
    · simp [Value.cells] at hcs
      obtain ⟨_, hlen, _⟩ := hcs
      obtain ⟨hx, _⟩ := Prod.mk.inj hx
      subst hx
      have z := sized_slice hsz (j := 1) (t := 62) rfl rfl Try.underlying62
      have hb : Try.prog.bytesOf 57 = 32 := by kernel_rfl
      rw [hb] at z
      simp only [List.length_map, List.length_range] at z
      have hlm : len' ≤ m := by rw [hmm]; split <;> omega
      have z2 : (len' + (m - len')) * 32 ≤ 140737488351232 := z
      omega
  have lt1 : ∀ x ∈ p1, x.block < W.heap.size := by obtain ⟨m, hm⟩ := h1; exact DataW.trod_lt m _ _ _ hm
  obtain ⟨a2_0, a2_1, a2_2, a2_3, e2, wa2_0, wa2_1, wa2_2, wa2_3⟩ := G.open_T57 (hval 2 57 v2 rfl rfl) h2
  subst e2
  have lt2 : ∀ x ∈ p2, x.block < W.heap.size := by obtain ⟨m, hm⟩ := h2; exact DataW.trod_lt m _ _ _ hm
  clear hA0 hval0 hsz0 hsz
  refine (walk W a0_0 a0_1 a0_2 a0_3 a0_4 a0_5 a0_6 a0_7 a0_8 a0_9 a0_10 a0_11 A1 c1 l1 hr1 hc1 a2_0 a2_1 a2_2 a2_3 wa0_0 wa0_1 wa0_2 wa0_3 wa0_4 wa0_5 wa0_6 wa0_7 wa0_8 wa0_9 wa0_10 wa0_11 y1 wl1 wa2_0 wa2_1 wa2_2 wa2_3).mono fun e W' ⟨he, bel⟩ => ?_
  subst he
  exact ⟨_, rfl, _, _, _, [], _, [], hW', trodAll_mk1 (shut_bool Try.underlying4 _), (trodAll_cons_mk (Below.trod laidOut (by kernel_rfl) (of_decide_eq_true (by kernel_rfl)) h0 bel lt0) (trodAll_cons_mk (Below.trod laidOut (by kernel_rfl) (of_decide_eq_true (by kernel_rfl)) h1 bel lt1) (trodAll_cons_mk (Below.trod laidOut (by kernel_rfl) (of_decide_eq_true (by kernel_rfl)) h2 bel lt2) trodAll_mk0))), rfl, bel.frame _, fun h => by cases h⟩
theorem over : Rows.probeNarrowsRow.holds Try.pinned (OpenSpec.ofChange Rows.probeNarrowsSpec) :=
  OpenClaim.holds_of_wide 14 Try.f14 rfl rfl rfl rfl rfl rfl rfl ⟨rfl, rfl, rfl, rfl, rfl⟩ rfl rfl rfl rfl rfl (by kernel_rfl) Try.func14 (by kernel_rfl)
    (of_decide_eq_true (by kernel_rfl)) (by unfold Func.isWrapper; first | (rw [if_pos (by decide +kernel)]; kernel_rfl) | (rw [if_neg (by decide +kernel)]; exact ⟨rfl, rfl⟩))
    (fun os started H enc _ => lifted os started H enc)
theorem proved : Rows.ProbeNarrowsSaid := over
#print axioms proved
end Go.Proofs.Ytigpigfoahlfjaa.probeNarrows
namespace Go.Proofs.Ytigpigfoahlfjaa
/-- The row, under a short name, for the claim. -/
theorem probeNarrows_holds : Rows.ProbeNarrowsSaid := probeNarrows.proved
end Go.Proofs.Ytigpigfoahlfjaa
