/- The calls of these Go functions answer what the Lean functions beside them answer; written by a program (wip/pr2.py, out of the print of the loaded program); under no condition but those that stand in the theorems. -/
import Derived.Test.YtopaldkmgaflmaaQx0
import Derived.Test.YtopaldkmgaflmaaQx1
import Derived.Test.YtopaldkmgaflmaaQx15
import Derived.Test.YtopaldkmgaflmaaQx19
import Derived.Test.YtopaldkmgaflmaaQx20
namespace Go.Proofs.Ytopaldkmgaflmaa.Q
open Go.RowKit Go.Proofs.YtopaldkmgaflmaaW.PrintWords Go.Proofs.YtopaldkmgaflmaaW.PrintLast Go.Proofs.YtopaldkmgaflmaaW.PrintMore
attribute [local go_sem] max2_int min2_int max_two min_two max_three min_three max_four min_four   -- for this text's walks alone
set_option linter.unusedVariables false
set_option linter.unusedSimpArgs false

attribute [local go_sem high] eqA38
/-! ### clepsydralaw03_SpanMeets: function 10 -/
def clepsydralaw03_SpanMeets.f (k : Nat) (l0 : List (S38)) : Option (Bool) := (clepsydralaw03_alive.f k).bind fun t240 => (if t240 = true then (if (l0.length : Int) > 1024 then (some true) else ((span_Meet.f k l0).bind fun bt241 => ((clepsydraref03_Meet.f k l0).bind fun bt243 => (if (bt241.1 == bt243.1 && (bt241.2 == bt243.2)) = true then ((span_Hull.f k l0).bind fun bt245 => ((clepsydraref03_Hull.f k l0).bind fun bt247 => (some (bt245.1 == bt247.1 && (bt245.2 == bt247.2))))) else (some false))))) else (some false))
theorem clepsydralaw03_SpanMeets.mono : ∀ a0 k, LeO (clepsydralaw03_SpanMeets.f k a0) (clepsydralaw03_SpanMeets.f (k + 1) a0) := by
  intro a0 k
  unfold clepsydralaw03_SpanMeets.f
  repeat' first
      | (with_reducible exact clepsydralaw03_alive.mono _)
      | (with_reducible exact clepsydraref03_Hull.mono _ _)
      | (with_reducible exact clepsydraref03_Meet.mono _ _)
      | (with_reducible exact span_Hull.mono _ _)
      | (with_reducible exact span_Meet.mono _ _)
      | (with_reducible exact LeO.refl _)
      | (with_reducible exact LeO.none _)
      | (with_reducible refine LeO.ite ?_ ?_)
      | (with_reducible refine LeO.bind ?_ (fun _ => ?_))
      | exact clepsydralaw03_alive.mono _
      | exact clepsydraref03_Hull.mono _ _
      | exact clepsydraref03_Meet.mono _ _
      | exact span_Hull.mono _ _
      | exact span_Meet.mono _ _
      | exact LeO.none _
      | refine LeO.ite ?_ ?_
      | refine LeO.bind ?_ (fun _ => ?_)
set_option maxHeartbeats 8000000 in
set_option maxRecDepth 100000 in
theorem clepsydralaw03_SpanMeets.calls (k : Nat) (A0 : Option Addr) (c0 : Nat) (l0 : List (S38)) (r : Bool) (w : World) (hr0 : Kd.C k38 w A0 l0.length l0) (hc0 : l0.length ≤ c0) (hT : Aside0 (r = true)) (h : clepsydralaw03_SpanMeets.f k l0 = some r) :
    Calls Try.prog 10 #[.slice A0 l0.length c0] w fun e w' => e = .returned (.bool r) ∧ Below w.heap.size w w' := by
  have HR0 := Aside0.mk hr0
  have HC0 := Aside0.mk hc0
  clear hr0 hc0
  have HB := Aside0.mk (Below.refl w.heap.size w)
  have H : ((clepsydralaw03_alive.f k).bind fun t240 => (if t240 = true then (if (l0.length : Int) > 1024 then (some true) else ((span_Meet.f k l0).bind fun bt241 => ((clepsydraref03_Meet.f k l0).bind fun bt243 => (if (bt241.1 == bt243.1 && (bt241.2 == bt243.2)) = true then ((span_Hull.f k l0).bind fun bt245 => ((clepsydraref03_Hull.f k l0).bind fun bt247 => (some (bt245.1 == bt247.1 && (bt245.2 == bt247.2))))) else (some false))))) else (some false))) = some r := h
  clear h
  replace H := Option.bind_eq_some_iff.mp H
  obtain ⟨t240, A20, H⟩ := H
  replace H : (if t240 = true then (if (l0.length : Int) > 1024 then (some true) else ((span_Meet.f k l0).bind fun bt241 => ((clepsydraref03_Meet.f k l0).bind fun bt243 => (if (bt241.1 == bt243.1 && (bt241.2 == bt243.2)) = true then ((span_Hull.f k l0).bind fun bt245 => ((clepsydraref03_Hull.f k l0).bind fun bt247 => (some (bt245.1 == bt247.1 && (bt245.2 == bt247.2))))) else (some false))))) else (some false)) = some r := H
  have A2 := Aside0.mk A20
  clear A20
  by_cases c3 : t240 = true
  · subst c3
    have H1 : (if (l0.length : Int) > 1024 then (some true) else ((span_Meet.f k l0).bind fun bt241 => ((clepsydraref03_Meet.f k l0).bind fun bt243 => (if (bt241.1 == bt243.1 && (bt241.2 == bt243.2)) = true then ((span_Hull.f k l0).bind fun bt245 => ((clepsydraref03_Hull.f k l0).bind fun bt247 => (some (bt245.1 == bt247.1 && (bt245.2 == bt247.2))))) else (some false))))) = some r := by rw [if_pos rfl] at H; exact H
    clear H
    have H := H1
    clear H1
    by_cases c4 : (l0.length : Int) > 1024
    · rw [if_pos c4] at H
      have c4b0 : decide (1024 < (l0.length : Int)) = true := decide_eq_true c4
      have c4b1 : decide (1024 < l0.length) = true := decide_eq_true (by omega)
      clear c4
      obtain rfl := Option.some.inj H
      go_enter Try.func10, Try.ntmps10
      go_wp2_with (first | ((with_reducible refine gate_callee (f := 31) rfl ?_); refine goesL_ (some 3) rfl rfl Try.func31 (by kernel_rfl) rfl #[] rfl (by (try simp only [List.map_toArray, List.map_cons, List.map_nil]); first | done | rfl | (simp only [List.length_drop, List.length_take]; rfl)) ?_; (with_reducible refine (clepsydralaw03_alive.calls k  true _ A2.out).mono ?_); rintro e w5 ⟨rfl, hb⟩; refine ⟨_, rfl, ?_⟩; have n0_ := Aside0.mk (below_step (by repeat (first | (with_reducible first | exact HB.out | apply below_alloc | apply pw_below_drewN | apply below_drew1) | exact HB.out)) hb); clear HB; have HB := n0_; clear n0_; (try clear hb); (try clear hb2); (try clear hk); (try clear hi)))
      go_ret
      exact ⟨by first | rfl | (simp [errW_none, errW_some] <;> rfl) | (simp [*, errW_none, errW_some] <;> rfl), by repeat (first | (with_reducible first | exact HB.out | apply below_alloc | apply pw_below_drewN | apply below_drew1) | exact HB.out)⟩
    · rw [if_neg c4] at H
      have c4b0 : decide (1024 < (l0.length : Int)) = false := decide_eq_false c4
      have c4b1 : decide (1024 < l0.length) = false := decide_eq_false (by omega)
      clear c4
      replace H := Option.bind_eq_some_iff.mp H
      obtain ⟨⟨t241, t242⟩, A60, H⟩ := H
      replace H : ((clepsydraref03_Meet.f k l0).bind fun bt243 => (if (t241 == bt243.1 && (t242 == bt243.2)) = true then ((span_Hull.f k l0).bind fun bt245 => ((clepsydraref03_Hull.f k l0).bind fun bt247 => (some (bt245.1 == bt247.1 && (bt245.2 == bt247.2))))) else (some false))) = some r := H
      have A6 := Aside0.mk A60
      clear A60
      replace H := Option.bind_eq_some_iff.mp H
      obtain ⟨⟨t243, t244⟩, A70, H⟩ := H
      replace H : (if (t241 == t243 && (t242 == t244)) = true then ((span_Hull.f k l0).bind fun bt245 => ((clepsydraref03_Hull.f k l0).bind fun bt247 => (some (bt245.1 == bt247.1 && (bt245.2 == bt247.2))))) else (some false)) = some r := H
      have A7 := Aside0.mk A70
      clear A70
      by_cases c8 : (t241 == t243 && (t242 == t244)) = true
      · rw [if_pos c8] at H
        have c8b0 : (t241 == t243 && (t242 == t244)) = true := c8
        (try (have c8b1 : decide (t241 = t243 && (t242 == t244)) = true := by simpa using c8))
        (try (have c8b2 : (t241 == t243 && (t242 == t244)) = true := by simpa using c8))
        clear c8
        replace H := Option.bind_eq_some_iff.mp H
        obtain ⟨⟨t245, t246⟩, A90, H⟩ := H
        replace H : ((clepsydraref03_Hull.f k l0).bind fun bt247 => (some (t245 == bt247.1 && (t246 == bt247.2)))) = some r := H
        have A9 := Aside0.mk A90
        clear A90
        replace H := Option.bind_eq_some_iff.mp H
        obtain ⟨⟨t247, t248⟩, A100, H⟩ := H
        replace H : (some (t245 == t247 && (t246 == t248))) = some r := H
        have A10 := Aside0.mk A100
        clear A100
        obtain rfl := Option.some.inj H
        go_enter Try.func10, Try.ntmps10
        go_wp2_with (first | ((with_reducible refine gate_callee (f := 31) rfl ?_); refine goesL_ (some 3) rfl rfl Try.func31 (by kernel_rfl) rfl #[] rfl (by (try simp only [List.map_toArray, List.map_cons, List.map_nil]); first | done | rfl | (simp only [List.length_drop, List.length_take]; rfl)) ?_; (with_reducible refine (clepsydralaw03_alive.calls k  true _ A2.out).mono ?_); rintro e w11 ⟨rfl, hb⟩; refine ⟨_, rfl, ?_⟩; have n0_ := Aside0.mk (below_step (by repeat (first | (with_reducible first | exact HB.out | apply below_alloc | apply pw_below_drewN | apply below_drew1) | exact HB.out)) hb); clear HB; have HB := n0_; clear n0_; (try clear hb); (try clear hb2); (try clear hk); (try clear hi)) | (go_at_call 36; (with_reducible refine (span_Meet.calls k _ _ l0 t241 t242 _ ?side1 ?side2 A6.out).mono ?_); (case side1 => repeat (first | exact (Kd.C_below HR0.out HB.out) | (with_reducible refine Kd.C_alloc ?_ _) | (with_reducible refine Kd.C_drewN ?_ _) | (with_reducible refine Kd.C_drew ?_))); (case side2 => exact HC0.out); rintro e w12 ⟨rfl, hb⟩; have n0_ := Aside0.mk (below_step (by repeat (first | (with_reducible first | exact HB.out | apply below_alloc | apply pw_below_drewN | apply below_drew1) | exact HB.out)) hb); clear HB; have HB := n0_; clear n0_; (try clear hb); (try clear hb2); (try clear hk); (try clear hi)) | (go_at_call 37; (with_reducible refine (clepsydraref03_Meet.calls k _ _ l0 t243 t244 _ ?side1 ?side2 A7.out).mono ?_); (case side1 => repeat (first | exact (Kd.C_below HR0.out HB.out) | (with_reducible refine Kd.C_alloc ?_ _) | (with_reducible refine Kd.C_drewN ?_ _) | (with_reducible refine Kd.C_drew ?_))); (case side2 => exact HC0.out); rintro e w13 ⟨rfl, hb⟩; have n0_ := Aside0.mk (below_step (by repeat (first | (with_reducible first | exact HB.out | apply below_alloc | apply pw_below_drewN | apply below_drew1) | exact HB.out)) hb); clear HB; have HB := n0_; clear n0_; (try clear hb); (try clear hb2); (try clear hk); (try clear hi)) | (go_at_call 38; (with_reducible refine (span_Hull.calls k _ _ l0 t245 t246 _ ?side1 ?side2 A9.out).mono ?_); (case side1 => repeat (first | exact (Kd.C_below HR0.out HB.out) | (with_reducible refine Kd.C_alloc ?_ _) | (with_reducible refine Kd.C_drewN ?_ _) | (with_reducible refine Kd.C_drew ?_))); (case side2 => exact HC0.out); rintro e w14 ⟨rfl, hb⟩; have n0_ := Aside0.mk (below_step (by repeat (first | (with_reducible first | exact HB.out | apply below_alloc | apply pw_below_drewN | apply below_drew1) | exact HB.out)) hb); clear HB; have HB := n0_; clear n0_; (try clear hb); (try clear hb2); (try clear hk); (try clear hi)) | (go_at_call 39; (with_reducible refine (clepsydraref03_Hull.calls k _ _ l0 t247 t248 _ ?side1 ?side2 A10.out).mono ?_); (case side1 => repeat (first | exact (Kd.C_below HR0.out HB.out) | (with_reducible refine Kd.C_alloc ?_ _) | (with_reducible refine Kd.C_drewN ?_ _) | (with_reducible refine Kd.C_drew ?_))); (case side2 => exact HC0.out); rintro e w15 ⟨rfl, hb⟩; have n0_ := Aside0.mk (below_step (by repeat (first | (with_reducible first | exact HB.out | apply below_alloc | apply pw_below_drewN | apply below_drew1) | exact HB.out)) hb); clear HB; have HB := n0_; clear n0_; (try clear hb); (try clear hb2); (try clear hk); (try clear hi)))
        go_ret
        exact ⟨by first | rfl | (simp [errW_none, errW_some] <;> rfl) | (simp [*, errW_none, errW_some] <;> rfl), by repeat (first | (with_reducible first | exact HB.out | apply below_alloc | apply pw_below_drewN | apply below_drew1) | exact HB.out)⟩
      · rw [if_neg c8] at H
        have c8b0 : (t241 == t243 && (t242 == t244)) = false := by simpa using c8
        (try (have c8b1 : decide (t241 = t243 && (t242 == t244)) = false := by simpa using c8))
        (try (have c8b2 : (t241 == t243 && (t242 == t244)) = false := by simpa using c8))
        (try (have c8b3 : ¬ (t241 = t243 && (t242 == t244)) := by simpa using c8))
        clear c8
        exact absurd ((Option.some.inj H).trans hT.out) (by decide)
  · replace c3 := Bool.eq_false_iff.mpr c3
    subst c3
    have H1 : (some false) = some r := by rw [if_neg (show ¬ (false = true) by decide)] at H; exact H
    clear H
    have H := H1
    clear H1
    exact absurd ((Option.some.inj H).trans hT.out) (by decide)

end Go.Proofs.Ytopaldkmgaflmaa.Q
