/- Along any chain of things that happen at a node one behind the other, and of messages that are sent and heard, stamps rise; for up to 40 things at 8 nodes, and times below 2^60. -/
import Derived.Test.YtigpigfoahlfjaaRows
import Derived.Test.YtigpigfoahlfjaaQx7
import Derived.Test.YtigpigfoahlfjaaVHlcAhead
import Derived.Test.YtigpigfoahlfjaaG
import Derived.WalkKit
import Derived.ProofKit
import Derived.OpenShut
import Derived.ShutString
import Derived.ChangeOld
import Derived.Below
import Derived.SizedLaws
import Derived.Carry
set_option linter.unusedVariables false
set_option linter.unusedSimpArgs false
namespace Go.Proofs.Ytigpigfoahlfjaa.hlcAhead
open Go.ChangeShapes Go.WideShapes Go.ChangeAt Go.RowKit Go.Proofs.Ytigpigfoahlfjaa.Q Go.Proofs.YtigpigfoahlfjaaW.PrintWords Go.Proofs.YtigpigfoahlfjaaW.PrintLast Go.Proofs.YtigpigfoahlfjaaW.PrintMore
theorem own : ownKnob Try.prog.godebug = none := by kernel_rfl
theorem laidOut : laidOutB Try.prog = true := by kernel_rfl
theorem walk (w : World) (A0 : Option Addr) (c0 : Nat) (l0 : List S51) (hr0 : Kd.C k51 w A0 l0.length l0) (hc0 : l0.length ≤ c0) (a1 : Int) (b0 : l0.length * 24 ≤ 140737488351232) (b1 : (∀ x ∈ l0, (Lit.int .i64 x.f0).wf = true ∧ (Lit.int .i64 x.f1).wf = true ∧ (Lit.int .i64 x.f2).wf = true)) (b2 : (Lit.int .i64 a1).wf = true) :
    Calls Try.prog 9 #[.slice A0 l0.length c0, .int .i64 a1] w fun e w' => e = .returned (.bool true) ∧ Below w.heap.size w w' := by
  obtain ⟨k, h⟩ := VHlcAhead.HlcAhead l0 a1 b0 b1 b2
  refine (clepsydralaw20_HlcAhead.calls k A0 c0 l0 a1 true w hr0 hc0 ⟨rfl⟩ h).mono ?_
  rintro e w' ⟨rfl, hd⟩
  exact ⟨rfl, hd⟩
theorem list0 {H : Type} {enc : TypeId × Value → H} {W : World} {base : Nat} {spare : Nat → Bool} {held : Bool} {a : Option Addr} {len cap : Nat} {d : DataW H} {p : List MemPlace} (h : DataW.Trod enc Try.prog W base spare held 44 (.slice a len cap) d p) :
    ∃ l : List S51, l.length = len ∧ len ≤ cap ∧ (∀ x ∈ l, (Lit.int .i64 x.f0).wf = true ∧ (Lit.int .i64 x.f1).wf = true ∧ (Lit.int .i64 x.f2).wf = true) ∧ Kd.C k51 W a l.length l := by
  obtain ⟨fuel, hf⟩ := h
  rcases Go.Deep.open_slice Try.underlying44 hf with ⟨hcs, _⟩ | ⟨x, len', cap', m, n, D, Pl, hcs, _, hl, hm, hmm, _, hi⟩
  · simp [Value.cells] at hcs
    obtain ⟨rfl, rfl, rfl⟩ := hcs
    exact ⟨[], rfl, Nat.le_refl _, by simp, rfl, by simp, fun h0 => absurd h0 (by simp)⟩
  · simp [Value.cells] at hcs
    obtain ⟨rfl, rfl, rfl⟩ := hcs
    have hlm : len ≤ m := by rw [hmm]; split <;> omega
    have key : ∀ i, ∃ s : S51, i < m → ((Lit.int .i64 s.f0).wf = true ∧ (Lit.int .i64 s.f1).wf = true ∧ (Lit.int .i64 s.f2).wf = true) ∧ W.cells? base (x.add (i * 3)) 3 = some [.int .i64 s.f0, .int .i64 s.f1, .int .i64 s.f2] := by
      intro i
      by_cases him : i < m
      · obtain ⟨cs', hc, ht⟩ := hi i him
        rw [G.cells51] at hc
        obtain ⟨a0, a1, a2, ec, w0, w1, w2⟩ := G.trod_T51 ht (World.cells?_some hc).2.1
        subst ec
        exact ⟨⟨a0, a1, a2⟩, fun _ => ⟨⟨w0, w1, w2⟩, hc⟩⟩
      · exact ⟨z51, fun h_ => absurd h_ him⟩
    let f : Nat → S51 := fun i => Classical.choose (key i)
    have hf : ∀ i, i < m → _ := fun i => Classical.choose_spec (key i)
    refine ⟨(List.range len).map f, by simp, hl, ?_, ?_⟩
    · intro y hy
      obtain ⟨i, hi', rfl⟩ := List.mem_map.1 hy
      exact (hf i (by have := List.mem_range.1 hi'; omega)).1
    · refine ⟨rfl, by simp; unfold maxLen at hm; omega, fun _ => ⟨x, rfl, fun j p hp => ?_⟩⟩
      have hj : j < len := by have := (List.getElem?_eq_some_iff.1 hp).1; simpa using this
      have hp' : p = f j := by have := (List.getElem?_eq_some_iff.1 hp).2; simpa using this.symm
      subst hp'
      have h2 := (hf j (by omega)).2
      refine ⟨[.int .i64 (f j).f0, .int .i64 (f j).f1, .int .i64 (f j).f2], rfl, k51_mk W (f j), fun q u hu => ?_⟩
      have h3 := (World.cells?_some h2).2.2 q (by have := (List.getElem?_eq_some_iff.1 hu).1; simpa using this)
      rw [Go.Deep.add_add] at h3
      show W.cell? (x.add (j * 3 + q)) = some u
      rw [h3]
      exact hu
set_option maxRecDepth 100000 in
theorem lifted (os : Os) (started : os.Started) (H : Type) (enc : TypeId × Value → H) :
    ReturnsInHanded {} Try.checked os 9 .any (Rows.hlcAheadSpec.pre6 enc Try.prog Try.f9 Rows.hlcAheadRow.domain false) (Rows.hlcAheadSpec.post enc Try.prog Try.f9 false true false false) := by
  refine returnsInHanded_of_change_sized (C := Try.checked) own started (by kernel_rfl) Try.func9
    (ChangeSpec.witness6 (enc := enc) (C := Try.checked) false ⟨#[], #[.slice none 0 0, .int .i64 0], []⟩ 8 (by kernel_rfl) (by kernel_rfl) (by kernel_rfl) (by kernel_rfl)) ?_
  intro W base args ds gs before hval0 hW hcnd hsz0 _
  have hsz : (DataW.weightsEach Try.prog (Try.f9.params.toList ++ Rows.hlcAheadSpec.plain.varTypes Try.prog) (ds ++ gs)).all (· ≤ reachBytes) = true := hsz0
  have hval : ∀ (j : Nat) t v, Try.f9.params[j]? = some t → args[j]? = some v → Value.okWide Try.prog W .any base t v := hval0
  have hW' := hW
  obtain ⟨p, q, hA0, hV, rfl, hfz, hnd⟩ := hW
  have hA : DataW.TrodAll enc Try.prog W 0 (fun _ => true) true Try.f9.params.toList args.toList ds p := hA0
  rw [Try.params9] at hA hval hsz
  obtain ⟨v0, vs0, d0, ds0, p0, q0, hargs, rfl, rfl, h0, r0⟩ := trodAll_cons hA
  obtain ⟨v1, vs1, d1, ds1, p1, q1, rfl, rfl, rfl, h1, r1⟩ := trodAll_cons r0
  obtain ⟨rfl, rfl, rfl⟩ := trodAll_nil r1
  obtain rfl : args = #[v0, v1] := by cases args; simp_all
  obtain ⟨rfl, rfl⟩ := trodVars_none hV
  obtain ⟨A0, len0, c0, rfl⟩ := okWide_slice Try.underlying44 (hval 0 44 v0 rfl rfl)
  obtain ⟨l0, hl0, hc0, wl0, hr0⟩ := list0 h0
  subst hl0
  have y0 : l0.length * 24 ≤ 140737488351232 := by
    obtain ⟨fuel, hf⟩ := h0
    rcases Go.Deep.open_slice Try.underlying44 hf with ⟨hcs, _⟩ | ⟨x, len', cap', m, n, D, Pl, hcs, _, hl, hm, hmm, hx, hi⟩
    · simp [Value.cells] at hcs
      omega
    · simp [Value.cells] at hcs
      obtain ⟨_, hlen, _⟩ := hcs
      obtain ⟨hx, _⟩ := Prod.mk.inj hx
      subst hx
      have z := sized_slice hsz (j := 0) (t := 44) rfl rfl Try.underlying44
      have hb : Try.prog.bytesOf 51 = 24 := by kernel_rfl
      rw [hb] at z
      simp only [List.length_map, List.length_range] at z
      have hlm : len' ≤ m := by rw [hmm]; split <;> omega
      have z2 : (len' + (m - len')) * 24 ≤ 140737488351232 := z
      omega
  have lt0 : ∀ x ∈ p0, x.block < W.heap.size := by obtain ⟨m, hm⟩ := h0; exact DataW.trod_lt m _ _ _ hm
  obtain ⟨a1, e1, _, _, w1⟩ := open_int Try.underlying3 (hval 1 3 v1 rfl rfl) h1
  subst e1
  have lt1 : ∀ x ∈ p1, x.block < W.heap.size := by obtain ⟨m, hm⟩ := h1; exact DataW.trod_lt m _ _ _ hm
  clear hA0 hval0 hsz0 hsz
  refine (walk W A0 c0 l0 hr0 hc0 a1 y0 wl0 w1).mono fun e W' ⟨he, bel⟩ => ?_
  subst he
  exact ⟨_, rfl, _, _, _, [], _, [], hW', trodAll_mk1 (shut_bool Try.underlying4 _), (trodAll_cons_mk (Below.trod laidOut (by kernel_rfl) (of_decide_eq_true (by kernel_rfl)) h0 bel lt0) (trodAll_cons_mk (Below.trod laidOut (by kernel_rfl) (of_decide_eq_true (by kernel_rfl)) h1 bel lt1) trodAll_mk0)), rfl, bel.frame _, fun h => by cases h⟩
theorem over : Rows.hlcAheadRow.holds Try.pinned (OpenSpec.ofChange Rows.hlcAheadSpec) :=
  OpenClaim.holds_of_wide 9 Try.f9 rfl rfl rfl rfl rfl rfl rfl ⟨rfl, rfl, rfl, rfl, rfl⟩ rfl rfl rfl rfl rfl (by kernel_rfl) Try.func9 (by kernel_rfl)
    (of_decide_eq_true (by kernel_rfl)) (by unfold Func.isWrapper; first | (rw [if_pos (by decide +kernel)]; kernel_rfl) | (rw [if_neg (by decide +kernel)]; exact ⟨rfl, rfl⟩))
    (fun os started H enc _ => lifted os started H enc)
theorem proved : Rows.HlcAheadSaid := over
#print axioms proved
end Go.Proofs.Ytigpigfoahlfjaa.hlcAhead
namespace Go.Proofs.Ytigpigfoahlfjaa
/-- The row, under a short name, for the claim. -/
theorem hlcAhead_holds : Rows.HlcAheadSaid := hlcAhead.proved
end Go.Proofs.Ytigpigfoahlfjaa
