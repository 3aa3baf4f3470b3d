/- The calls of these Go functions answer what the Lean functions beside them answer; written by a program (wip/pr2.py, out of the print of the loaded program); under no condition but those that stand in the theorems. -/
import Derived.Test.YtopnmlambbimpaaQx0
import Derived.Test.YtopnmlambbimpaaQx2
import Derived.Test.YtopnmlambbimpaaQx4
import Derived.Test.YtopnmlambbimpaaQx5
import Derived.Test.YtopnmlambbimpaaQx6
import Derived.Test.YtopnmlambbimpaaQx10
namespace Go.Proofs.Ytopnmlambbimpaa.Q
open Go.RowKit Go.Proofs.YtopnmlambbimpaaW.PrintWords Go.Proofs.YtopnmlambbimpaaW.PrintLast Go.Proofs.YtopnmlambbimpaaW.PrintMore
attribute [local go_sem] max2_int min2_int max_two min_two max_three min_three max_four min_four   -- for this text's walks alone
set_option linter.unusedVariables false
set_option linter.unusedSimpArgs false

/-! ### clepsydralaw04_alive: function 19 -/
def clepsydralaw04_alive.f (k : Nat)  : Option (Bool) := (clepsydralaw04_some.f).bind fun bt178 => ((limit_Check.f k bt178.1 bt178.2.1 bt178.2.2.1 bt178.2.2.2.1 bt178.2.2.2.2.1 bt178.2.2.2.2.2.1 bt178.2.2.2.2.2.2.1 bt178.2.2.2.2.2.2.2.1 bt178.2.2.2.2.2.2.2.2.1 bt178.2.2.2.2.2.2.2.2.2.1 bt178.2.2.2.2.2.2.2.2.2.2.1 bt178.2.2.2.2.2.2.2.2.2.2.2).bind fun t190 => (if t190 = 0 then ((clepsydralaw04_some.f).bind fun bt191 => ((limit_Hop.f k bt191.1 bt191.2.1 bt191.2.2.1 bt191.2.2.2.1 bt191.2.2.2.2.1 bt191.2.2.2.2.2.1 bt191.2.2.2.2.2.2.1 bt191.2.2.2.2.2.2.2.1 bt191.2.2.2.2.2.2.2.2.1 bt191.2.2.2.2.2.2.2.2.2.1 bt191.2.2.2.2.2.2.2.2.2.2.1 bt191.2.2.2.2.2.2.2.2.2.2.2).bind fun t203 => (if t203 = 12 then ((clepsydralaw04_some.f).bind fun bt204 => ((limit_Gate.f k bt204.1 bt204.2.1 bt204.2.2.1 bt204.2.2.2.1 bt204.2.2.2.2.1 bt204.2.2.2.2.2.1 bt204.2.2.2.2.2.2.1 bt204.2.2.2.2.2.2.2.1 bt204.2.2.2.2.2.2.2.2.1 bt204.2.2.2.2.2.2.2.2.2.1 bt204.2.2.2.2.2.2.2.2.2.2.1 bt204.2.2.2.2.2.2.2.2.2.2.2).bind fun t216 => (if t216 = 224 then ((clepsydralaw04_some.f).bind fun bt217 => ((limit_Width.f k bt217.1 bt217.2.1 bt217.2.2.1 bt217.2.2.2.1 bt217.2.2.2.2.1 bt217.2.2.2.2.2.1 bt217.2.2.2.2.2.2.1 bt217.2.2.2.2.2.2.2.1 bt217.2.2.2.2.2.2.2.2.1 bt217.2.2.2.2.2.2.2.2.2.1 bt217.2.2.2.2.2.2.2.2.2.2.1 bt217.2.2.2.2.2.2.2.2.2.2.2 0 2).bind fun t229 => (if t229 = 260 then ((clepsydralaw04_some.f).bind fun bt230 => ((limit_Settle.f k bt230.1 bt230.2.1 bt230.2.2.1 bt230.2.2.2.1 bt230.2.2.2.2.1 bt230.2.2.2.2.2.1 bt230.2.2.2.2.2.2.1 bt230.2.2.2.2.2.2.2.1 bt230.2.2.2.2.2.2.2.2.1 bt230.2.2.2.2.2.2.2.2.2.1 bt230.2.2.2.2.2.2.2.2.2.2.1 bt230.2.2.2.2.2.2.2.2.2.2.2).bind fun t242 => (some (t242 == 53)))) else (some false)))) else (some false)))) else (some false)))) else (some false)))
theorem clepsydralaw04_alive.mono : ∀ k, LeO (clepsydralaw04_alive.f k ) (clepsydralaw04_alive.f (k + 1) ) := by
 intro  k
 unfold clepsydralaw04_alive.f
 repeat' first
   | (with_reducible exact limit_Check.mono _ _ _ _ _ _ _ _ _ _ _ _ _)
   | (with_reducible exact limit_Gate.mono _ _ _ _ _ _ _ _ _ _ _ _ _)
   | (with_reducible exact limit_Hop.mono _ _ _ _ _ _ _ _ _ _ _ _ _)
   | (with_reducible exact limit_Settle.mono _ _ _ _ _ _ _ _ _ _ _ _ _)
   | (with_reducible exact limit_Width.mono _ _ _ _ _ _ _ _ _ _ _ _ _ _ _)
   | (with_reducible exact LeO.refl _)
   | (with_reducible exact LeO.none _)
   | (with_reducible refine LeO.ite ?_ ?_)
   | (with_reducible refine LeO.bind ?_ (fun _ => ?_))
   | exact limit_Check.mono _ _ _ _ _ _ _ _ _ _ _ _ _
   | exact limit_Gate.mono _ _ _ _ _ _ _ _ _ _ _ _ _
   | exact limit_Hop.mono _ _ _ _ _ _ _ _ _ _ _ _ _
   | exact limit_Settle.mono _ _ _ _ _ _ _ _ _ _ _ _ _
   | exact limit_Width.mono _ _ _ _ _ _ _ _ _ _ _ _ _ _ _
   | exact LeO.none _
   | refine LeO.ite ?_ ?_
   | refine LeO.bind ?_ (fun _ => ?_)
set_option maxHeartbeats 8000000 in
set_option maxRecDepth 100000 in
theorem clepsydralaw04_alive.calls (k : Nat)  (r : Bool) (w : World) (h : clepsydralaw04_alive.f k  = some r) :
  Calls Try.prog 19 #[] w fun e w' => e = .returned (.bool r) ∧ Below w.heap.size w w' := by
 have HB := Aside0.mk (Below.refl w.heap.size w)
 have H : ((clepsydralaw04_some.f).bind fun bt178 => ((limit_Check.f k bt178.1 bt178.2.1 bt178.2.2.1 bt178.2.2.2.1 bt178.2.2.2.2.1 bt178.2.2.2.2.2.1 bt178.2.2.2.2.2.2.1 bt178.2.2.2.2.2.2.2.1 bt178.2.2.2.2.2.2.2.2.1 bt178.2.2.2.2.2.2.2.2.2.1 bt178.2.2.2.2.2.2.2.2.2.2.1 bt178.2.2.2.2.2.2.2.2.2.2.2).bind fun t190 => (if t190 = 0 then ((clepsydralaw04_some.f).bind fun bt191 => ((limit_Hop.f k bt191.1 bt191.2.1 bt191.2.2.1 bt191.2.2.2.1 bt191.2.2.2.2.1 bt191.2.2.2.2.2.1 bt191.2.2.2.2.2.2.1 bt191.2.2.2.2.2.2.2.1 bt191.2.2.2.2.2.2.2.2.1 bt191.2.2.2.2.2.2.2.2.2.1 bt191.2.2.2.2.2.2.2.2.2.2.1 bt191.2.2.2.2.2.2.2.2.2.2.2).bind fun t203 => (if t203 = 12 then ((clepsydralaw04_some.f).bind fun bt204 => ((limit_Gate.f k bt204.1 bt204.2.1 bt204.2.2.1 bt204.2.2.2.1 bt204.2.2.2.2.1 bt204.2.2.2.2.2.1 bt204.2.2.2.2.2.2.1 bt204.2.2.2.2.2.2.2.1 bt204.2.2.2.2.2.2.2.2.1 bt204.2.2.2.2.2.2.2.2.2.1 bt204.2.2.2.2.2.2.2.2.2.2.1 bt204.2.2.2.2.2.2.2.2.2.2.2).bind fun t216 => (if t216 = 224 then ((clepsydralaw04_some.f).bind fun bt217 => ((limit_Width.f k bt217.1 bt217.2.1 bt217.2.2.1 bt217.2.2.2.1 bt217.2.2.2.2.1 bt217.2.2.2.2.2.1 bt217.2.2.2.2.2.2.1 bt217.2.2.2.2.2.2.2.1 bt217.2.2.2.2.2.2.2.2.1 bt217.2.2.2.2.2.2.2.2.2.1 bt217.2.2.2.2.2.2.2.2.2.2.1 bt217.2.2.2.2.2.2.2.2.2.2.2 0 2).bind fun t229 => (if t229 = 260 then ((clepsydralaw04_some.f).bind fun bt230 => ((limit_Settle.f k bt230.1 bt230.2.1 bt230.2.2.1 bt230.2.2.2.1 bt230.2.2.2.2.1 bt230.2.2.2.2.2.1 bt230.2.2.2.2.2.2.1 bt230.2.2.2.2.2.2.2.1 bt230.2.2.2.2.2.2.2.2.1 bt230.2.2.2.2.2.2.2.2.2.1 bt230.2.2.2.2.2.2.2.2.2.2.1 bt230.2.2.2.2.2.2.2.2.2.2.2).bind fun t242 => (some (t242 == 53)))) else (some false)))) else (some false)))) else (some false)))) else (some false)))) = some r := h
 clear h
 replace H := Option.bind_eq_some_iff.mp H
 obtain ⟨⟨t178, t179, t180, t181, t182, t183, t184, t185, t186, t187, t188, t189⟩, A10, H⟩ := H
 replace H : ((limit_Check.f k t178 t179 t180 t181 t182 t183 t184 t185 t186 t187 t188 t189).bind fun t190 => (if t190 = 0 then ((clepsydralaw04_some.f).bind fun bt191 => ((limit_Hop.f k bt191.1 bt191.2.1 bt191.2.2.1 bt191.2.2.2.1 bt191.2.2.2.2.1 bt191.2.2.2.2.2.1 bt191.2.2.2.2.2.2.1 bt191.2.2.2.2.2.2.2.1 bt191.2.2.2.2.2.2.2.2.1 bt191.2.2.2.2.2.2.2.2.2.1 bt191.2.2.2.2.2.2.2.2.2.2.1 bt191.2.2.2.2.2.2.2.2.2.2.2).bind fun t203 => (if t203 = 12 then ((clepsydralaw04_some.f).bind fun bt204 => ((limit_Gate.f k bt204.1 bt204.2.1 bt204.2.2.1 bt204.2.2.2.1 bt204.2.2.2.2.1 bt204.2.2.2.2.2.1 bt204.2.2.2.2.2.2.1 bt204.2.2.2.2.2.2.2.1 bt204.2.2.2.2.2.2.2.2.1 bt204.2.2.2.2.2.2.2.2.2.1 bt204.2.2.2.2.2.2.2.2.2.2.1 bt204.2.2.2.2.2.2.2.2.2.2.2).bind fun t216 => (if t216 = 224 then ((clepsydralaw04_some.f).bind fun bt217 => ((limit_Width.f k bt217.1 bt217.2.1 bt217.2.2.1 bt217.2.2.2.1 bt217.2.2.2.2.1 bt217.2.2.2.2.2.1 bt217.2.2.2.2.2.2.1 bt217.2.2.2.2.2.2.2.1 bt217.2.2.2.2.2.2.2.2.1 bt217.2.2.2.2.2.2.2.2.2.1 bt217.2.2.2.2.2.2.2.2.2.2.1 bt217.2.2.2.2.2.2.2.2.2.2.2 0 2).bind fun t229 => (if t229 = 260 then ((clepsydralaw04_some.f).bind fun bt230 => ((limit_Settle.f k bt230.1 bt230.2.1 bt230.2.2.1 bt230.2.2.2.1 bt230.2.2.2.2.1 bt230.2.2.2.2.2.1 bt230.2.2.2.2.2.2.1 bt230.2.2.2.2.2.2.2.1 bt230.2.2.2.2.2.2.2.2.1 bt230.2.2.2.2.2.2.2.2.2.1 bt230.2.2.2.2.2.2.2.2.2.2.1 bt230.2.2.2.2.2.2.2.2.2.2.2).bind fun t242 => (some (t242 == 53)))) else (some false)))) else (some false)))) else (some false)))) else (some false))) = some r := H
 have A1 := Aside0.mk A10
 clear A10
 replace H := Option.bind_eq_some_iff.mp H
 obtain ⟨t190, A20, H⟩ := H
 replace H : (if t190 = 0 then ((clepsydralaw04_some.f).bind fun bt191 => ((limit_Hop.f k bt191.1 bt191.2.1 bt191.2.2.1 bt191.2.2.2.1 bt191.2.2.2.2.1 bt191.2.2.2.2.2.1 bt191.2.2.2.2.2.2.1 bt191.2.2.2.2.2.2.2.1 bt191.2.2.2.2.2.2.2.2.1 bt191.2.2.2.2.2.2.2.2.2.1 bt191.2.2.2.2.2.2.2.2.2.2.1 bt191.2.2.2.2.2.2.2.2.2.2.2).bind fun t203 => (if t203 = 12 then ((clepsydralaw04_some.f).bind fun bt204 => ((limit_Gate.f k bt204.1 bt204.2.1 bt204.2.2.1 bt204.2.2.2.1 bt204.2.2.2.2.1 bt204.2.2.2.2.2.1 bt204.2.2.2.2.2.2.1 bt204.2.2.2.2.2.2.2.1 bt204.2.2.2.2.2.2.2.2.1 bt204.2.2.2.2.2.2.2.2.2.1 bt204.2.2.2.2.2.2.2.2.2.2.1 bt204.2.2.2.2.2.2.2.2.2.2.2).bind fun t216 => (if t216 = 224 then ((clepsydralaw04_some.f).bind fun bt217 => ((limit_Width.f k bt217.1 bt217.2.1 bt217.2.2.1 bt217.2.2.2.1 bt217.2.2.2.2.1 bt217.2.2.2.2.2.1 bt217.2.2.2.2.2.2.1 bt217.2.2.2.2.2.2.2.1 bt217.2.2.2.2.2.2.2.2.1 bt217.2.2.2.2.2.2.2.2.2.1 bt217.2.2.2.2.2.2.2.2.2.2.1 bt217.2.2.2.2.2.2.2.2.2.2.2 0 2).bind fun t229 => (if t229 = 260 then ((clepsydralaw04_some.f).bind fun bt230 => ((limit_Settle.f k bt230.1 bt230.2.1 bt230.2.2.1 bt230.2.2.2.1 bt230.2.2.2.2.1 bt230.2.2.2.2.2.1 bt230.2.2.2.2.2.2.1 bt230.2.2.2.2.2.2.2.1 bt230.2.2.2.2.2.2.2.2.1 bt230.2.2.2.2.2.2.2.2.2.1 bt230.2.2.2.2.2.2.2.2.2.2.1 bt230.2.2.2.2.2.2.2.2.2.2.2).bind fun t242 => (some (t242 == 53)))) else (some false)))) else (some false)))) else (some false)))) else (some false)) = some r := H
 have A2 := Aside0.mk A20
 clear A20
 by_cases c3 : t190 = 0
 ·rw [if_pos c3] at H
  have c3b0 : (t190 == 0) = true := beq_iff_eq.mpr c3
  have c3b1 : (t190 != 0) = false := bne_eq_false_iff_eq.mpr c3
  clear c3
  replace H := Option.bind_eq_some_iff.mp H
  obtain ⟨⟨t191, t192, t193, t194, t195, t196, t197, t198, t199, t200, t201, t202⟩, A40, H⟩ := H
  replace H : ((limit_Hop.f k t191 t192 t193 t194 t195 t196 t197 t198 t199 t200 t201 t202).bind fun t203 => (if t203 = 12 then ((clepsydralaw04_some.f).bind fun bt204 => ((limit_Gate.f k bt204.1 bt204.2.1 bt204.2.2.1 bt204.2.2.2.1 bt204.2.2.2.2.1 bt204.2.2.2.2.2.1 bt204.2.2.2.2.2.2.1 bt204.2.2.2.2.2.2.2.1 bt204.2.2.2.2.2.2.2.2.1 bt204.2.2.2.2.2.2.2.2.2.1 bt204.2.2.2.2.2.2.2.2.2.2.1 bt204.2.2.2.2.2.2.2.2.2.2.2).bind fun t216 => (if t216 = 224 then ((clepsydralaw04_some.f).bind fun bt217 => ((limit_Width.f k bt217.1 bt217.2.1 bt217.2.2.1 bt217.2.2.2.1 bt217.2.2.2.2.1 bt217.2.2.2.2.2.1 bt217.2.2.2.2.2.2.1 bt217.2.2.2.2.2.2.2.1 bt217.2.2.2.2.2.2.2.2.1 bt217.2.2.2.2.2.2.2.2.2.1 bt217.2.2.2.2.2.2.2.2.2.2.1 bt217.2.2.2.2.2.2.2.2.2.2.2 0 2).bind fun t229 => (if t229 = 260 then ((clepsydralaw04_some.f).bind fun bt230 => ((limit_Settle.f k bt230.1 bt230.2.1 bt230.2.2.1 bt230.2.2.2.1 bt230.2.2.2.2.1 bt230.2.2.2.2.2.1 bt230.2.2.2.2.2.2.1 bt230.2.2.2.2.2.2.2.1 bt230.2.2.2.2.2.2.2.2.1 bt230.2.2.2.2.2.2.2.2.2.1 bt230.2.2.2.2.2.2.2.2.2.2.1 bt230.2.2.2.2.2.2.2.2.2.2.2).bind fun t242 => (some (t242 == 53)))) else (some false)))) else (some false)))) else (some false))) = some r := H
  have A4 := Aside0.mk A40
  clear A40
  have e_ := Option.some.inj (A1.out.symm.trans A4.out)
  simp only [Prod.mk.injEq] at e_
  obtain ⟨rfl, rfl, rfl, rfl, rfl, rfl, rfl, rfl, rfl, rfl, rfl, rfl⟩ := e_
  replace H := Option.bind_eq_some_iff.mp H
  obtain ⟨t203, A50, H⟩ := H
  replace H : (if t203 = 12 then ((clepsydralaw04_some.f).bind fun bt204 => ((limit_Gate.f k bt204.1 bt204.2.1 bt204.2.2.1 bt204.2.2.2.1 bt204.2.2.2.2.1 bt204.2.2.2.2.2.1 bt204.2.2.2.2.2.2.1 bt204.2.2.2.2.2.2.2.1 bt204.2.2.2.2.2.2.2.2.1 bt204.2.2.2.2.2.2.2.2.2.1 bt204.2.2.2.2.2.2.2.2.2.2.1 bt204.2.2.2.2.2.2.2.2.2.2.2).bind fun t216 => (if t216 = 224 then ((clepsydralaw04_some.f).bind fun bt217 => ((limit_Width.f k bt217.1 bt217.2.1 bt217.2.2.1 bt217.2.2.2.1 bt217.2.2.2.2.1 bt217.2.2.2.2.2.1 bt217.2.2.2.2.2.2.1 bt217.2.2.2.2.2.2.2.1 bt217.2.2.2.2.2.2.2.2.1 bt217.2.2.2.2.2.2.2.2.2.1 bt217.2.2.2.2.2.2.2.2.2.2.1 bt217.2.2.2.2.2.2.2.2.2.2.2 0 2).bind fun t229 => (if t229 = 260 then ((clepsydralaw04_some.f).bind fun bt230 => ((limit_Settle.f k bt230.1 bt230.2.1 bt230.2.2.1 bt230.2.2.2.1 bt230.2.2.2.2.1 bt230.2.2.2.2.2.1 bt230.2.2.2.2.2.2.1 bt230.2.2.2.2.2.2.2.1 bt230.2.2.2.2.2.2.2.2.1 bt230.2.2.2.2.2.2.2.2.2.1 bt230.2.2.2.2.2.2.2.2.2.2.1 bt230.2.2.2.2.2.2.2.2.2.2.2).bind fun t242 => (some (t242 == 53)))) else (some false)))) else (some false)))) else (some false)) = some r := H
  have A5 := Aside0.mk A50
  clear A50
  by_cases c6 : t203 = 12
  ·rw [if_pos c6] at H
   have c6b0 : (t203 == 12) = true := beq_iff_eq.mpr c6
   have c6b1 : (t203 != 12) = false := bne_eq_false_iff_eq.mpr c6
   clear c6
   replace H := Option.bind_eq_some_iff.mp H
   obtain ⟨⟨t204, t205, t206, t207, t208, t209, t210, t211, t212, t213, t214, t215⟩, A70, H⟩ := H
   replace H : ((limit_Gate.f k t204 t205 t206 t207 t208 t209 t210 t211 t212 t213 t214 t215).bind fun t216 => (if t216 = 224 then ((clepsydralaw04_some.f).bind fun bt217 => ((limit_Width.f k bt217.1 bt217.2.1 bt217.2.2.1 bt217.2.2.2.1 bt217.2.2.2.2.1 bt217.2.2.2.2.2.1 bt217.2.2.2.2.2.2.1 bt217.2.2.2.2.2.2.2.1 bt217.2.2.2.2.2.2.2.2.1 bt217.2.2.2.2.2.2.2.2.2.1 bt217.2.2.2.2.2.2.2.2.2.2.1 bt217.2.2.2.2.2.2.2.2.2.2.2 0 2).bind fun t229 => (if t229 = 260 then ((clepsydralaw04_some.f).bind fun bt230 => ((limit_Settle.f k bt230.1 bt230.2.1 bt230.2.2.1 bt230.2.2.2.1 bt230.2.2.2.2.1 bt230.2.2.2.2.2.1 bt230.2.2.2.2.2.2.1 bt230.2.2.2.2.2.2.2.1 bt230.2.2.2.2.2.2.2.2.1 bt230.2.2.2.2.2.2.2.2.2.1 bt230.2.2.2.2.2.2.2.2.2.2.1 bt230.2.2.2.2.2.2.2.2.2.2.2).bind fun t242 => (some (t242 == 53)))) else (some false)))) else (some false))) = some r := H
   have A7 := Aside0.mk A70
   clear A70
   have e_ := Option.some.inj (A1.out.symm.trans A7.out)
   simp only [Prod.mk.injEq] at e_
   obtain ⟨rfl, rfl, rfl, rfl, rfl, rfl, rfl, rfl, rfl, rfl, rfl, rfl⟩ := e_
   replace H := Option.bind_eq_some_iff.mp H
   obtain ⟨t216, A80, H⟩ := H
   replace H : (if t216 = 224 then ((clepsydralaw04_some.f).bind fun bt217 => ((limit_Width.f k bt217.1 bt217.2.1 bt217.2.2.1 bt217.2.2.2.1 bt217.2.2.2.2.1 bt217.2.2.2.2.2.1 bt217.2.2.2.2.2.2.1 bt217.2.2.2.2.2.2.2.1 bt217.2.2.2.2.2.2.2.2.1 bt217.2.2.2.2.2.2.2.2.2.1 bt217.2.2.2.2.2.2.2.2.2.2.1 bt217.2.2.2.2.2.2.2.2.2.2.2 0 2).bind fun t229 => (if t229 = 260 then ((clepsydralaw04_some.f).bind fun bt230 => ((limit_Settle.f k bt230.1 bt230.2.1 bt230.2.2.1 bt230.2.2.2.1 bt230.2.2.2.2.1 bt230.2.2.2.2.2.1 bt230.2.2.2.2.2.2.1 bt230.2.2.2.2.2.2.2.1 bt230.2.2.2.2.2.2.2.2.1 bt230.2.2.2.2.2.2.2.2.2.1 bt230.2.2.2.2.2.2.2.2.2.2.1 bt230.2.2.2.2.2.2.2.2.2.2.2).bind fun t242 => (some (t242 == 53)))) else (some false)))) else (some false)) = some r := H
   have A8 := Aside0.mk A80
   clear A80
   by_cases c9 : t216 = 224
   ·rw [if_pos c9] at H
    have c9b0 : (t216 == 224) = true := beq_iff_eq.mpr c9
    have c9b1 : (t216 != 224) = false := bne_eq_false_iff_eq.mpr c9
    clear c9
    replace H := Option.bind_eq_some_iff.mp H
    obtain ⟨⟨t217, t218, t219, t220, t221, t222, t223, t224, t225, t226, t227, t228⟩, A100, H⟩ := H
    replace H : ((limit_Width.f k t217 t218 t219 t220 t221 t222 t223 t224 t225 t226 t227 t228 0 2).bind fun t229 => (if t229 = 260 then ((clepsydralaw04_some.f).bind fun bt230 => ((limit_Settle.f k bt230.1 bt230.2.1 bt230.2.2.1 bt230.2.2.2.1 bt230.2.2.2.2.1 bt230.2.2.2.2.2.1 bt230.2.2.2.2.2.2.1 bt230.2.2.2.2.2.2.2.1 bt230.2.2.2.2.2.2.2.2.1 bt230.2.2.2.2.2.2.2.2.2.1 bt230.2.2.2.2.2.2.2.2.2.2.1 bt230.2.2.2.2.2.2.2.2.2.2.2).bind fun t242 => (some (t242 == 53)))) else (some false))) = some r := H
    have A10 := Aside0.mk A100
    clear A100
    have e_ := Option.some.inj (A1.out.symm.trans A10.out)
    simp only [Prod.mk.injEq] at e_
    obtain ⟨rfl, rfl, rfl, rfl, rfl, rfl, rfl, rfl, rfl, rfl, rfl, rfl⟩ := e_
    replace H := Option.bind_eq_some_iff.mp H
    obtain ⟨t229, A110, H⟩ := H
    replace H : (if t229 = 260 then ((clepsydralaw04_some.f).bind fun bt230 => ((limit_Settle.f k bt230.1 bt230.2.1 bt230.2.2.1 bt230.2.2.2.1 bt230.2.2.2.2.1 bt230.2.2.2.2.2.1 bt230.2.2.2.2.2.2.1 bt230.2.2.2.2.2.2.2.1 bt230.2.2.2.2.2.2.2.2.1 bt230.2.2.2.2.2.2.2.2.2.1 bt230.2.2.2.2.2.2.2.2.2.2.1 bt230.2.2.2.2.2.2.2.2.2.2.2).bind fun t242 => (some (t242 == 53)))) else (some false)) = some r := H
    have A11 := Aside0.mk A110
    clear A110
    by_cases c12 : t229 = 260
    ·rw [if_pos c12] at H
     have c12b0 : (t229 == 260) = true := beq_iff_eq.mpr c12
     have c12b1 : (t229 != 260) = false := bne_eq_false_iff_eq.mpr c12
     clear c12
     replace H := Option.bind_eq_some_iff.mp H
     obtain ⟨⟨t230, t231, t232, t233, t234, t235, t236, t237, t238, t239, t240, t241⟩, A130, H⟩ := H
     replace H : ((limit_Settle.f k t230 t231 t232 t233 t234 t235 t236 t237 t238 t239 t240 t241).bind fun t242 => (some (t242 == 53))) = some r := H
     have A13 := Aside0.mk A130
     clear A130
     have e_ := Option.some.inj (A1.out.symm.trans A13.out)
     simp only [Prod.mk.injEq] at e_
     obtain ⟨rfl, rfl, rfl, rfl, rfl, rfl, rfl, rfl, rfl, rfl, rfl, rfl⟩ := e_
     replace H := Option.bind_eq_some_iff.mp H
     obtain ⟨t242, A140, H⟩ := H
     replace H : (some (t242 == 53)) = some r := H
     have A14 := Aside0.mk A140
     clear A140
     obtain rfl := Option.some.inj H
     go_enter Try.func19, Try.ntmps19
     go_wp2_with (first | ((with_reducible refine gate_callee (f := 39) rfl ?_); refine goesL_ (some 1) rfl rfl Try.func39 (by kernel_rfl) rfl #[] rfl (by (try simp only [List.map_toArray, List.map_cons, List.map_nil]); first | done | rfl | (simp only [List.length_drop, List.length_take]; rfl)) ?_; (with_reducible refine (clepsydralaw04_some.calls  t178 t179 t180 t181 t182 t183 t184 t185 t186 t187 t188 t189 _ A1.out).mono ?_); rintro e w15 ⟨rfl, hb⟩; refine ⟨_, rfl, ?_⟩; have n0_ := Aside0.mk (below_step (by repeat (first | (with_reducible first | exact HB.out | apply below_alloc | apply pw_below_drewN | apply below_drew1) | exact HB.out)) hb); clear HB; have HB := n0_; clear n0_; (try clear hb); (try clear hb2); (try clear hk); (try clear hi)) | ((with_reducible refine gate_callee (f := 18) rfl ?_); refine goesL_ (some 2) rfl rfl Try.func18 (by kernel_rfl) rfl #[.agg #[.int .i64 t178, .int .i64 t179, .int .i64 t180, .int .i64 t181, .int .i64 t182, .int .i64 t183, .int .i64 t184, .int .i64 t185, .int .i64 t186, .int .i64 t187, .int .i64 t188, .int .i64 t189]] rfl (by (try simp only [List.map_toArray, List.map_cons, List.map_nil]); first | done | rfl | (simp only [List.length_drop, List.length_take]; rfl)) ?_; (with_reducible refine (limit_Check.calls k t178 t179 t180 t181 t182 t183 t184 t185 t186 t187 t188 t189 t190 _ A2.out).mono ?_); rintro e w16 ⟨rfl, hb⟩; refine ⟨_, rfl, ?_⟩; have n0_ := Aside0.mk (below_step (by repeat (first | (with_reducible first | exact HB.out | apply below_alloc | apply pw_below_drewN | apply below_drew1) | exact HB.out)) hb); clear HB; have HB := n0_; clear n0_; (try clear hb); (try clear hb2); (try clear hk); (try clear hi)) | (go_at_call 39; (with_reducible refine (clepsydralaw04_some.calls  t178 t179 t180 t181 t182 t183 t184 t185 t186 t187 t188 t189 _ A4.out).mono ?_); rintro e w17 ⟨rfl, hb⟩; have n0_ := Aside0.mk (below_step (by repeat (first | (with_reducible first | exact HB.out | apply below_alloc | apply pw_below_drewN | apply below_drew1) | exact HB.out)) hb); clear HB; have HB := n0_; clear n0_; (try clear hb); (try clear hb2); (try clear hk); (try clear hi)) | (go_at_call 20; (with_reducible refine (limit_Hop.calls k t178 t179 t180 t181 t182 t183 t184 t185 t186 t187 t188 t189 t203 _ A5.out).mono ?_); rintro e w18 ⟨rfl, hb⟩; have n0_ := Aside0.mk (below_step (by repeat (first | (with_reducible first | exact HB.out | apply below_alloc | apply pw_below_drewN | apply below_drew1) | exact HB.out)) hb); clear HB; have HB := n0_; clear n0_; (try clear hb); (try clear hb2); (try clear hk); (try clear hi)) | (go_at_call 39; (with_reducible refine (clepsydralaw04_some.calls  t178 t179 t180 t181 t182 t183 t184 t185 t186 t187 t188 t189 _ A7.out).mono ?_); rintro e w19 ⟨rfl, hb⟩; have n0_ := Aside0.mk (below_step (by repeat (first | (with_reducible first | exact HB.out | apply below_alloc | apply pw_below_drewN | apply below_drew1) | exact HB.out)) hb); clear HB; have HB := n0_; clear n0_; (try clear hb); (try clear hb2); (try clear hk); (try clear hi)) | (go_at_call 21; (with_reducible refine (limit_Gate.calls k t178 t179 t180 t181 t182 t183 t184 t185 t186 t187 t188 t189 t216 _ A8.out).mono ?_); rintro e w20 ⟨rfl, hb⟩; have n0_ := Aside0.mk (below_step (by repeat (first | (with_reducible first | exact HB.out | apply below_alloc | apply pw_below_drewN | apply below_drew1) | exact HB.out)) hb); clear HB; have HB := n0_; clear n0_; (try clear hb); (try clear hb2); (try clear hk); (try clear hi)) | (go_at_call 39; (with_reducible refine (clepsydralaw04_some.calls  t178 t179 t180 t181 t182 t183 t184 t185 t186 t187 t188 t189 _ A10.out).mono ?_); rintro e w21 ⟨rfl, hb⟩; have n0_ := Aside0.mk (below_step (by repeat (first | (with_reducible first | exact HB.out | apply below_alloc | apply pw_below_drewN | apply below_drew1) | exact HB.out)) hb); clear HB; have HB := n0_; clear n0_; (try clear hb); (try clear hb2); (try clear hk); (try clear hi)) | (go_at_call 22; (with_reducible refine (limit_Width.calls k t178 t179 t180 t181 t182 t183 t184 t185 t186 t187 t188 t189 0 2 t229 _ A11.out).mono ?_); rintro e w22 ⟨rfl, hb⟩; have n0_ := Aside0.mk (below_step (by repeat (first | (with_reducible first | exact HB.out | apply below_alloc | apply pw_below_drewN | apply below_drew1) | exact HB.out)) hb); clear HB; have HB := n0_; clear n0_; (try clear hb); (try clear hb2); (try clear hk); (try clear hi)) | (go_at_call 39; (with_reducible refine (clepsydralaw04_some.calls  t178 t179 t180 t181 t182 t183 t184 t185 t186 t187 t188 t189 _ A13.out).mono ?_); rintro e w23 ⟨rfl, hb⟩; have n0_ := Aside0.mk (below_step (by repeat (first | (with_reducible first | exact HB.out | apply below_alloc | apply pw_below_drewN | apply below_drew1) | exact HB.out)) hb); clear HB; have HB := n0_; clear n0_; (try clear hb); (try clear hb2); (try clear hk); (try clear hi)) | (go_at_call 24; (with_reducible refine (limit_Settle.calls k t178 t179 t180 t181 t182 t183 t184 t185 t186 t187 t188 t189 t242 _ A14.out).mono ?_); rintro e w24 ⟨rfl, hb⟩; have n0_ := Aside0.mk (below_step (by repeat (first | (with_reducible first | exact HB.out | apply below_alloc | apply pw_below_drewN | apply below_drew1) | exact HB.out)) hb); clear HB; have HB := n0_; clear n0_; (try clear hb); (try clear hb2); (try clear hk); (try clear hi)))
     go_ret
     exact ⟨by first | rfl | (simp [errW_none, errW_some] <;> rfl) | (simp [*, errW_none, errW_some] <;> rfl), by repeat (first | (with_reducible first | exact HB.out | apply below_alloc | apply pw_below_drewN | apply below_drew1) | exact HB.out)⟩
    ·rw [if_neg c12] at H
     have c12b0 : (t229 == 260) = false := beq_eq_false_iff_ne.mpr c12
     have c12b1 : (t229 != 260) = true := bne_iff_ne.mpr c12
     obtain rfl := Option.some.inj H
     go_enter Try.func19, Try.ntmps19
     go_wp2_with (first | ((with_reducible refine gate_callee (f := 39) rfl ?_); refine goesL_ (some 1) rfl rfl Try.func39 (by kernel_rfl) rfl #[] rfl (by (try simp only [List.map_toArray, List.map_cons, List.map_nil]); first | done | rfl | (simp only [List.length_drop, List.length_take]; rfl)) ?_; (with_reducible refine (clepsydralaw04_some.calls  t178 t179 t180 t181 t182 t183 t184 t185 t186 t187 t188 t189 _ A1.out).mono ?_); rintro e w25 ⟨rfl, hb⟩; refine ⟨_, rfl, ?_⟩; have n0_ := Aside0.mk (below_step (by repeat (first | (with_reducible first | exact HB.out | apply below_alloc | apply pw_below_drewN | apply below_drew1) | exact HB.out)) hb); clear HB; have HB := n0_; clear n0_; (try clear hb); (try clear hb2); (try clear hk); (try clear hi)) | ((with_reducible refine gate_callee (f := 18) rfl ?_); refine goesL_ (some 2) rfl rfl Try.func18 (by kernel_rfl) rfl #[.agg #[.int .i64 t178, .int .i64 t179, .int .i64 t180, .int .i64 t181, .int .i64 t182, .int .i64 t183, .int .i64 t184, .int .i64 t185, .int .i64 t186, .int .i64 t187, .int .i64 t188, .int .i64 t189]] rfl (by (try simp only [List.map_toArray, List.map_cons, List.map_nil]); first | done | rfl | (simp only [List.length_drop, List.length_take]; rfl)) ?_; (with_reducible refine (limit_Check.calls k t178 t179 t180 t181 t182 t183 t184 t185 t186 t187 t188 t189 t190 _ A2.out).mono ?_); rintro e w26 ⟨rfl, hb⟩; refine ⟨_, rfl, ?_⟩; have n0_ := Aside0.mk (below_step (by repeat (first | (with_reducible first | exact HB.out | apply below_alloc | apply pw_below_drewN | apply below_drew1) | exact HB.out)) hb); clear HB; have HB := n0_; clear n0_; (try clear hb); (try clear hb2); (try clear hk); (try clear hi)) | (go_at_call 39; (with_reducible refine (clepsydralaw04_some.calls  t178 t179 t180 t181 t182 t183 t184 t185 t186 t187 t188 t189 _ A4.out).mono ?_); rintro e w27 ⟨rfl, hb⟩; have n0_ := Aside0.mk (below_step (by repeat (first | (with_reducible first | exact HB.out | apply below_alloc | apply pw_below_drewN | apply below_drew1) | exact HB.out)) hb); clear HB; have HB := n0_; clear n0_; (try clear hb); (try clear hb2); (try clear hk); (try clear hi)) | (go_at_call 20; (with_reducible refine (limit_Hop.calls k t178 t179 t180 t181 t182 t183 t184 t185 t186 t187 t188 t189 t203 _ A5.out).mono ?_); rintro e w28 ⟨rfl, hb⟩; have n0_ := Aside0.mk (below_step (by repeat (first | (with_reducible first | exact HB.out | apply below_alloc | apply pw_below_drewN | apply below_drew1) | exact HB.out)) hb); clear HB; have HB := n0_; clear n0_; (try clear hb); (try clear hb2); (try clear hk); (try clear hi)) | (go_at_call 39; (with_reducible refine (clepsydralaw04_some.calls  t178 t179 t180 t181 t182 t183 t184 t185 t186 t187 t188 t189 _ A7.out).mono ?_); rintro e w29 ⟨rfl, hb⟩; have n0_ := Aside0.mk (below_step (by repeat (first | (with_reducible first | exact HB.out | apply below_alloc | apply pw_below_drewN | apply below_drew1) | exact HB.out)) hb); clear HB; have HB := n0_; clear n0_; (try clear hb); (try clear hb2); (try clear hk); (try clear hi)) | (go_at_call 21; (with_reducible refine (limit_Gate.calls k t178 t179 t180 t181 t182 t183 t184 t185 t186 t187 t188 t189 t216 _ A8.out).mono ?_); rintro e w30 ⟨rfl, hb⟩; have n0_ := Aside0.mk (below_step (by repeat (first | (with_reducible first | exact HB.out | apply below_alloc | apply pw_below_drewN | apply below_drew1) | exact HB.out)) hb); clear HB; have HB := n0_; clear n0_; (try clear hb); (try clear hb2); (try clear hk); (try clear hi)) | (go_at_call 39; (with_reducible refine (clepsydralaw04_some.calls  t178 t179 t180 t181 t182 t183 t184 t185 t186 t187 t188 t189 _ A10.out).mono ?_); rintro e w31 ⟨rfl, hb⟩; have n0_ := Aside0.mk (below_step (by repeat (first | (with_reducible first | exact HB.out | apply below_alloc | apply pw_below_drewN | apply below_drew1) | exact HB.out)) hb); clear HB; have HB := n0_; clear n0_; (try clear hb); (try clear hb2); (try clear hk); (try clear hi)) | (go_at_call 22; (with_reducible refine (limit_Width.calls k t178 t179 t180 t181 t182 t183 t184 t185 t186 t187 t188 t189 0 2 t229 _ A11.out).mono ?_); rintro e w32 ⟨rfl, hb⟩; have n0_ := Aside0.mk (below_step (by repeat (first | (with_reducible first | exact HB.out | apply below_alloc | apply pw_below_drewN | apply below_drew1) | exact HB.out)) hb); clear HB; have HB := n0_; clear n0_; (try clear hb); (try clear hb2); (try clear hk); (try clear hi)))
     go_ret
     exact ⟨by first | rfl | (simp [errW_none, errW_some] <;> rfl) | (simp [*, errW_none, errW_some] <;> rfl), by repeat (first | (with_reducible first | exact HB.out | apply below_alloc | apply pw_below_drewN | apply below_drew1) | exact HB.out)⟩
   ·rw [if_neg c9] at H
    have c9b0 : (t216 == 224) = false := beq_eq_false_iff_ne.mpr c9
    have c9b1 : (t216 != 224) = true := bne_iff_ne.mpr c9
    obtain rfl := Option.some.inj H
    go_enter Try.func19, Try.ntmps19
    go_wp2_with (first | ((with_reducible refine gate_callee (f := 39) rfl ?_); refine goesL_ (some 1) rfl rfl Try.func39 (by kernel_rfl) rfl #[] rfl (by (try simp only [List.map_toArray, List.map_cons, List.map_nil]); first | done | rfl | (simp only [List.length_drop, List.length_take]; rfl)) ?_; (with_reducible refine (clepsydralaw04_some.calls  t178 t179 t180 t181 t182 t183 t184 t185 t186 t187 t188 t189 _ A1.out).mono ?_); rintro e w33 ⟨rfl, hb⟩; refine ⟨_, rfl, ?_⟩; have n0_ := Aside0.mk (below_step (by repeat (first | (with_reducible first | exact HB.out | apply below_alloc | apply pw_below_drewN | apply below_drew1) | exact HB.out)) hb); clear HB; have HB := n0_; clear n0_; (try clear hb); (try clear hb2); (try clear hk); (try clear hi)) | ((with_reducible refine gate_callee (f := 18) rfl ?_); refine goesL_ (some 2) rfl rfl Try.func18 (by kernel_rfl) rfl #[.agg #[.int .i64 t178, .int .i64 t179, .int .i64 t180, .int .i64 t181, .int .i64 t182, .int .i64 t183, .int .i64 t184, .int .i64 t185, .int .i64 t186, .int .i64 t187, .int .i64 t188, .int .i64 t189]] rfl (by (try simp only [List.map_toArray, List.map_cons, List.map_nil]); first | done | rfl | (simp only [List.length_drop, List.length_take]; rfl)) ?_; (with_reducible refine (limit_Check.calls k t178 t179 t180 t181 t182 t183 t184 t185 t186 t187 t188 t189 t190 _ A2.out).mono ?_); rintro e w34 ⟨rfl, hb⟩; refine ⟨_, rfl, ?_⟩; have n0_ := Aside0.mk (below_step (by repeat (first | (with_reducible first | exact HB.out | apply below_alloc | apply pw_below_drewN | apply below_drew1) | exact HB.out)) hb); clear HB; have HB := n0_; clear n0_; (try clear hb); (try clear hb2); (try clear hk); (try clear hi)) | (go_at_call 39; (with_reducible refine (clepsydralaw04_some.calls  t178 t179 t180 t181 t182 t183 t184 t185 t186 t187 t188 t189 _ A4.out).mono ?_); rintro e w35 ⟨rfl, hb⟩; have n0_ := Aside0.mk (below_step (by repeat (first | (with_reducible first | exact HB.out | apply below_alloc | apply pw_below_drewN | apply below_drew1) | exact HB.out)) hb); clear HB; have HB := n0_; clear n0_; (try clear hb); (try clear hb2); (try clear hk); (try clear hi)) | (go_at_call 20; (with_reducible refine (limit_Hop.calls k t178 t179 t180 t181 t182 t183 t184 t185 t186 t187 t188 t189 t203 _ A5.out).mono ?_); rintro e w36 ⟨rfl, hb⟩; have n0_ := Aside0.mk (below_step (by repeat (first | (with_reducible first | exact HB.out | apply below_alloc | apply pw_below_drewN | apply below_drew1) | exact HB.out)) hb); clear HB; have HB := n0_; clear n0_; (try clear hb); (try clear hb2); (try clear hk); (try clear hi)) | (go_at_call 39; (with_reducible refine (clepsydralaw04_some.calls  t178 t179 t180 t181 t182 t183 t184 t185 t186 t187 t188 t189 _ A7.out).mono ?_); rintro e w37 ⟨rfl, hb⟩; have n0_ := Aside0.mk (below_step (by repeat (first | (with_reducible first | exact HB.out | apply below_alloc | apply pw_below_drewN | apply below_drew1) | exact HB.out)) hb); clear HB; have HB := n0_; clear n0_; (try clear hb); (try clear hb2); (try clear hk); (try clear hi)) | (go_at_call 21; (with_reducible refine (limit_Gate.calls k t178 t179 t180 t181 t182 t183 t184 t185 t186 t187 t188 t189 t216 _ A8.out).mono ?_); rintro e w38 ⟨rfl, hb⟩; have n0_ := Aside0.mk (below_step (by repeat (first | (with_reducible first | exact HB.out | apply below_alloc | apply pw_below_drewN | apply below_drew1) | exact HB.out)) hb); clear HB; have HB := n0_; clear n0_; (try clear hb); (try clear hb2); (try clear hk); (try clear hi)))
    go_ret
    exact ⟨by first | rfl | (simp [errW_none, errW_some] <;> rfl) | (simp [*, errW_none, errW_some] <;> rfl), by repeat (first | (with_reducible first | exact HB.out | apply below_alloc | apply pw_below_drewN | apply below_drew1) | exact HB.out)⟩
  ·rw [if_neg c6] at H
   have c6b0 : (t203 == 12) = false := beq_eq_false_iff_ne.mpr c6
   have c6b1 : (t203 != 12) = true := bne_iff_ne.mpr c6
   obtain rfl := Option.some.inj H
   go_enter Try.func19, Try.ntmps19
   go_wp2_with (first | ((with_reducible refine gate_callee (f := 39) rfl ?_); refine goesL_ (some 1) rfl rfl Try.func39 (by kernel_rfl) rfl #[] rfl (by (try simp only [List.map_toArray, List.map_cons, List.map_nil]); first | done | rfl | (simp only [List.length_drop, List.length_take]; rfl)) ?_; (with_reducible refine (clepsydralaw04_some.calls  t178 t179 t180 t181 t182 t183 t184 t185 t186 t187 t188 t189 _ A1.out).mono ?_); rintro e w39 ⟨rfl, hb⟩; refine ⟨_, rfl, ?_⟩; have n0_ := Aside0.mk (below_step (by repeat (first | (with_reducible first | exact HB.out | apply below_alloc | apply pw_below_drewN | apply below_drew1) | exact HB.out)) hb); clear HB; have HB := n0_; clear n0_; (try clear hb); (try clear hb2); (try clear hk); (try clear hi)) | ((with_reducible refine gate_callee (f := 18) rfl ?_); refine goesL_ (some 2) rfl rfl Try.func18 (by kernel_rfl) rfl #[.agg #[.int .i64 t178, .int .i64 t179, .int .i64 t180, .int .i64 t181, .int .i64 t182, .int .i64 t183, .int .i64 t184, .int .i64 t185, .int .i64 t186, .int .i64 t187, .int .i64 t188, .int .i64 t189]] rfl (by (try simp only [List.map_toArray, List.map_cons, List.map_nil]); first | done | rfl | (simp only [List.length_drop, List.length_take]; rfl)) ?_; (with_reducible refine (limit_Check.calls k t178 t179 t180 t181 t182 t183 t184 t185 t186 t187 t188 t189 t190 _ A2.out).mono ?_); rintro e w40 ⟨rfl, hb⟩; refine ⟨_, rfl, ?_⟩; have n0_ := Aside0.mk (below_step (by repeat (first | (with_reducible first | exact HB.out | apply below_alloc | apply pw_below_drewN | apply below_drew1) | exact HB.out)) hb); clear HB; have HB := n0_; clear n0_; (try clear hb); (try clear hb2); (try clear hk); (try clear hi)) | (go_at_call 39; (with_reducible refine (clepsydralaw04_some.calls  t178 t179 t180 t181 t182 t183 t184 t185 t186 t187 t188 t189 _ A4.out).mono ?_); rintro e w41 ⟨rfl, hb⟩; have n0_ := Aside0.mk (below_step (by repeat (first | (with_reducible first | exact HB.out | apply below_alloc | apply pw_below_drewN | apply below_drew1) | exact HB.out)) hb); clear HB; have HB := n0_; clear n0_; (try clear hb); (try clear hb2); (try clear hk); (try clear hi)) | (go_at_call 20; (with_reducible refine (limit_Hop.calls k t178 t179 t180 t181 t182 t183 t184 t185 t186 t187 t188 t189 t203 _ A5.out).mono ?_); rintro e w42 ⟨rfl, hb⟩; have n0_ := Aside0.mk (below_step (by repeat (first | (with_reducible first | exact HB.out | apply below_alloc | apply pw_below_drewN | apply below_drew1) | exact HB.out)) hb); clear HB; have HB := n0_; clear n0_; (try clear hb); (try clear hb2); (try clear hk); (try clear hi)))
   go_ret
   exact ⟨by first | rfl | (simp [errW_none, errW_some] <;> rfl) | (simp [*, errW_none, errW_some] <;> rfl), by repeat (first | (with_reducible first | exact HB.out | apply below_alloc | apply pw_below_drewN | apply below_drew1) | exact HB.out)⟩
 ·rw [if_neg c3] at H
  have c3b0 : (t190 == 0) = false := beq_eq_false_iff_ne.mpr c3
  have c3b1 : (t190 != 0) = true := bne_iff_ne.mpr c3
  obtain rfl := Option.some.inj H
  go_enter Try.func19, Try.ntmps19
  go_wp2_with (first | ((with_reducible refine gate_callee (f := 39) rfl ?_); refine goesL_ (some 1) rfl rfl Try.func39 (by kernel_rfl) rfl #[] rfl (by (try simp only [List.map_toArray, List.map_cons, List.map_nil]); first | done | rfl | (simp only [List.length_drop, List.length_take]; rfl)) ?_; (with_reducible refine (clepsydralaw04_some.calls  t178 t179 t180 t181 t182 t183 t184 t185 t186 t187 t188 t189 _ A1.out).mono ?_); rintro e w43 ⟨rfl, hb⟩; refine ⟨_, rfl, ?_⟩; have n0_ := Aside0.mk (below_step (by repeat (first | (with_reducible first | exact HB.out | apply below_alloc | apply pw_below_drewN | apply below_drew1) | exact HB.out)) hb); clear HB; have HB := n0_; clear n0_; (try clear hb); (try clear hb2); (try clear hk); (try clear hi)) | ((with_reducible refine gate_callee (f := 18) rfl ?_); refine goesL_ (some 2) rfl rfl Try.func18 (by kernel_rfl) rfl #[.agg #[.int .i64 t178, .int .i64 t179, .int .i64 t180, .int .i64 t181, .int .i64 t182, .int .i64 t183, .int .i64 t184, .int .i64 t185, .int .i64 t186, .int .i64 t187, .int .i64 t188, .int .i64 t189]] rfl (by (try simp only [List.map_toArray, List.map_cons, List.map_nil]); first | done | rfl | (simp only [List.length_drop, List.length_take]; rfl)) ?_; (with_reducible refine (limit_Check.calls k t178 t179 t180 t181 t182 t183 t184 t185 t186 t187 t188 t189 t190 _ A2.out).mono ?_); rintro e w44 ⟨rfl, hb⟩; refine ⟨_, rfl, ?_⟩; have n0_ := Aside0.mk (below_step (by repeat (first | (with_reducible first | exact HB.out | apply below_alloc | apply pw_below_drewN | apply below_drew1) | exact HB.out)) hb); clear HB; have HB := n0_; clear n0_; (try clear hb); (try clear hb2); (try clear hk); (try clear hi)))
  go_ret
  exact ⟨by first | rfl | (simp [errW_none, errW_some] <;> rfl) | (simp [*, errW_none, errW_some] <;> rfl), by repeat (first | (with_reducible first | exact HB.out | apply below_alloc | apply pw_below_drewN | apply below_drew1) | exact HB.out)⟩

/-! ### clepsydraref01_Clip: function 14 -/
def clepsydraref01_Clip.f (a0 : Int) : Option (Int) := if a0 > 2305843009213693952 then (some 2305843009213693952) else (if a0 < (-2305843009213693952) then (some (-2305843009213693952)) else (some a0))
set_option maxHeartbeats 8000000 in
set_option maxRecDepth 100000 in
theorem clepsydraref01_Clip.calls (a0 : Int) (r : Int) (w : World) (h : clepsydraref01_Clip.f a0 = some r) :
    Calls Try.prog 14 #[.int .i64 a0] w fun e w' => e = .returned (.int .i64 r) ∧ Drawn0 w w' := by
  have H : (if a0 > 2305843009213693952 then (some 2305843009213693952) else (if a0 < (-2305843009213693952) then (some (-2305843009213693952)) else (some a0))) = some r := h
  clear h
  by_cases c2 : a0 > 2305843009213693952
  · rw [if_pos c2] at H
    have c2b0 : decide (2305843009213693952 < a0) = true := decide_eq_true c2
    clear c2
    obtain rfl := Option.some.inj H
    go_enter Try.func14, Try.ntmps14
    go_wp2
    go_ret
    exact ⟨by first | rfl | (simp; done) | (simp [*]; done) | (simp [Int.tdiv_eq_ediv_of_nonneg]; done) | (simp [Go.RowKit.wrap64]; done) | (simp [*, Go.RowKit.wrap64]; done), by repeat (first | exact Drawn0.refl _ | apply Drawn0.step)⟩
  · rw [if_neg c2] at H
    have c2b0 : decide (2305843009213693952 < a0) = false := decide_eq_false c2
    clear c2
    by_cases c3 : a0 < (-2305843009213693952)
    · rw [if_pos c3] at H
      have c3b0 : decide (a0 < (-2305843009213693952)) = true := decide_eq_true c3
      clear c3
      obtain rfl := Option.some.inj H
      go_enter Try.func14, Try.ntmps14
      go_wp2
      go_ret
      exact ⟨by first | rfl | (simp; done) | (simp [*]; done) | (simp [Int.tdiv_eq_ediv_of_nonneg]; done) | (simp [Go.RowKit.wrap64]; done) | (simp [*, Go.RowKit.wrap64]; done), by repeat (first | exact Drawn0.refl _ | apply Drawn0.step)⟩
    · rw [if_neg c3] at H
      have c3b0 : decide (a0 < (-2305843009213693952)) = false := decide_eq_false c3
      clear c3
      obtain rfl := Option.some.inj H
      go_enter Try.func14, Try.ntmps14
      go_wp2
      go_ret
      exact ⟨by first | rfl | (simp; done) | (simp [*]; done) | (simp [Int.tdiv_eq_ediv_of_nonneg]; done) | (simp [Go.RowKit.wrap64]; done) | (simp [*, Go.RowKit.wrap64]; done), by repeat (first | exact Drawn0.refl _ | apply Drawn0.step)⟩

/-! ### clepsydraref01_Add: function 31 -/
def clepsydraref01_Add.l0 : Nat → Int → List Int → Int → Int → Option (Int)
  | 0, _, _, _, _ => none
  | k + 1, x3, x6, x7, x8 => if x8 < x7 then (if 0 ≤ x8 then (if x8 < (x6.length : Int) then ((clepsydraref01_Clip.f (rd x6 x8)).bind fun t244 => ((clepsydraref01_Clip.f (wrap64 (x3 + t244))).bind fun t245 => (clepsydraref01_Add.l0 k t245 x6 x7 (wrap64 (x8 + 1))))) else (none)) else (none)) else (some x3)
def clepsydraref01_Add.f (k : Nat) (l0 : List Int) : Option (Int) := clepsydraref01_Add.l0 k 0 l0 (l0.length : Int) 0
theorem clepsydraref01_Add.mono_l : ∀ k, (∀ y0 y1 y2 y3, LeO (clepsydraref01_Add.l0 k y0 y1 y2 y3) (clepsydraref01_Add.l0 (k + 1) y0 y1 y2 y3))
  | 0 => fun _ _ _ _ r h => by simp [clepsydraref01_Add.l0] at h
  | k + 1 => by
    have ih0 := clepsydraref01_Add.mono_l k
    · intro y0 y1 y2 y3
      unfold clepsydraref01_Add.l0
      repeat' first
      | (with_reducible exact ih0 _ _ _ _)
      | (with_reducible exact LeO.refl _)
      | (with_reducible exact LeO.none _)
      | (with_reducible refine LeO.ite ?_ ?_)
      | (with_reducible refine LeO.bind ?_ (fun _ => ?_))
      | exact ih0 _ _ _ _
      | exact LeO.none _
      | refine LeO.ite ?_ ?_
      | refine LeO.bind ?_ (fun _ => ?_)
theorem clepsydraref01_Add.mono : ∀ a0 k, LeO (clepsydraref01_Add.f k a0) (clepsydraref01_Add.f (k + 1) a0) := by
  intro a0 k
  have ih0 := clepsydraref01_Add.mono_l k
  unfold clepsydraref01_Add.f
  repeat' first
      | (with_reducible exact ih0 _ _ _ _)
      | (with_reducible exact LeO.refl _)
      | (with_reducible exact LeO.none _)
      | (with_reducible refine LeO.ite ?_ ?_)
      | (with_reducible refine LeO.bind ?_ (fun _ => ?_))
      | exact ih0 _ _ _ _
      | exact LeO.none _
      | refine LeO.ite ?_ ?_
      | refine LeO.bind ?_ (fun _ => ?_)
set_option maxHeartbeats 8000000 in
set_option maxRecDepth 100000 in
theorem clepsydraref01_Add.calls (k : Nat) (A0 : Option Addr) (c0 : Nat) (l0 : List Int) (r : Int) (w : World) (hr0 : Kd.C (Kd.int .i64) w A0 l0.length l0) (hc0 : l0.length ≤ c0) (h : clepsydraref01_Add.f k l0 = some r) :
    Calls Try.prog 31 #[.slice A0 l0.length c0] w fun e w' => e = .returned (.int .i64 r) ∧ Drawn0 w w' := by
  have HR0 := Aside0.mk hr0
  have HC0 := Aside0.mk hc0
  clear hr0 hc0
  have H : (clepsydraref01_Add.l0 k 0 l0 (l0.length : Int) 0) = some r := h
  clear h
  have H' := Aside0.mk H
  clear H
  go_enter Try.func31, Try.ntmps31
  go_wp2
  go_loopg [3, 8] k (fun kq v3 v8 w' => ∃ (x3_1 : Int) (x8_1 : Int), v3 = .int .i64 x3_1 ∧ v8 = .int .i64 x8_1 ∧ Aside0 (clepsydraref01_Add.l0 kq x3_1 l0 (l0.length : Int) x8_1 = some r) ∧ Aside0 (kq ≤ k) ∧ Drawn0 w w')
  case atStart => exact ⟨(0), (0), (by first | rfl | (simp; done) | (simp [*]; done) | (simp [Int.tdiv_eq_ediv_of_nonneg]; done) | (simp [Go.RowKit.wrap64]; done) | (simp [*, Go.RowKit.wrap64]; done)), (by first | rfl | (simp; done) | (simp [*]; done) | (simp [Int.tdiv_eq_ediv_of_nonneg]; done) | (simp [Go.RowKit.wrap64]; done) | (simp [*, Go.RowKit.wrap64]; done)), H', ⟨Nat.le_refl _⟩, by repeat (first | exact Drawn0.refl _ | apply Drawn0.step)⟩
  case round =>
    clear H'
    obtain ⟨x3_1, x8_1, rfl, rfl, HA, HK1, ⟨m1, rfl⟩⟩ := hrel
    cases gk with
    | zero => exact absurd HA.out (by simp [clepsydraref01_Add.l0])
    | succ k1 =>
      have H := HA.out
      clear HA
      simp only [clepsydraref01_Add.l0] at H
      by_cases c2 : x8_1 < (l0.length : Int)
      · rw [if_pos c2] at H
        have c2b0 : decide (x8_1 < (l0.length : Int)) = true := decide_eq_true c2
        clear c2
        by_cases c3 : 0 ≤ x8_1
        · rw [if_pos c3] at H
          have c3b0 : decide (0 ≤ x8_1) = true := decide_eq_true c3
          clear c3
          by_cases c4 : x8_1 < (l0.length : Int)
          · rw [if_pos c4] at H
            have c4b0 : decide (x8_1 < (l0.length : Int)) = true := decide_eq_true c4
            clear c4
            replace H := Option.bind_eq_some_iff.mp H
            obtain ⟨t244, A50, H⟩ := H
            replace H : ((clepsydraref01_Clip.f (wrap64 (x3_1 + t244))).bind fun t245 => (clepsydraref01_Add.l0 k1 t245 l0 (l0.length : Int) (wrap64 (x8_1 + 1)))) = some r := H
            have A5 := Aside0.mk A50
            clear A50
            replace H := Option.bind_eq_some_iff.mp H
            obtain ⟨t245, A60, H⟩ := H
            replace H : (clepsydraref01_Add.l0 k1 t245 l0 (l0.length : Int) (wrap64 (x8_1 + 1))) = some r := H
            have A6 := Aside0.mk A60
            clear A60
            have H' := Aside0.mk H
            clear H
            have p243 : 0 ≤ (x8_1 : Int) := of_decide_eq_true (by first | (with_reducible assumption) | assumption)
            have q243 : x8_1 < (l0.length : Int) := of_decide_eq_true (by first | (with_reducible assumption) | assumption)
            obtain ⟨ad243, e243, hx243_0⟩ := Kd.at_int HR0.out x8_1 p243 q243
            cases e243
            replace p243 := eq_true p243
            replace q243 := eq_true q243
            go_wp2_with (first | ((with_reducible refine gate_callee (f := 14) rfl ?_); refine goesL_ (some 14) rfl rfl Try.func14 (by kernel_rfl) rfl #[.int .i64 (rd l0 x8_1)] rfl (by (try simp only [List.map_toArray, List.map_cons, List.map_nil]); first | done | rfl | (simp only [List.length_drop, List.length_take]; rfl)) ?_; (with_reducible refine (clepsydraref01_Clip.calls (rd l0 x8_1) t244 _ A5.out).mono ?_); rintro e w' ⟨rfl, ⟨nd, rfl⟩⟩; refine ⟨_, rfl, ?_⟩) | ((with_reducible refine gate_callee (f := 14) rfl ?_); refine goesL_ (some 16) rfl rfl Try.func14 (by kernel_rfl) rfl #[.int .i64 (wrap64 (x3_1 + t244))] rfl (by (try simp only [List.map_toArray, List.map_cons, List.map_nil]); first | done | rfl | (simp only [List.length_drop, List.length_take]; rfl)) ?_; (with_reducible refine (clepsydraref01_Clip.calls (wrap64 (x3_1 + t244)) t245 _ A6.out).mono ?_); rintro e w' ⟨rfl, ⟨nd, rfl⟩⟩; refine ⟨_, rfl, ?_⟩))
            go_roundg k1
            case measure => have := HK1.out; omega
            case rel => exact ⟨(t245), (wrap64 (x8_1 + 1)), (by first | rfl | (simp; done) | (simp [*]; done) | (simp [Int.tdiv_eq_ediv_of_nonneg]; done) | (simp [Go.RowKit.wrap64]; done) | (simp [*, Go.RowKit.wrap64]; done)), (by first | rfl | (simp; done) | (simp [*]; done) | (simp [Int.tdiv_eq_ediv_of_nonneg]; done) | (simp [Go.RowKit.wrap64]; done) | (simp [*, Go.RowKit.wrap64]; done)), H', ⟨by have := HK1.out; omega⟩, by repeat (first | exact Drawn0.refl _ | apply Drawn0.step)⟩
          · rw [if_neg c4] at H
            exact absurd H (by simp)
        · rw [if_neg c3] at H
          exact absurd H (by simp)
      · rw [if_neg c2] at H
        have c2b0 : decide (x8_1 < (l0.length : Int)) = false := decide_eq_false c2
        clear c2
        obtain rfl := Option.some.inj H
        go_wp2
        go_ret
        exact ⟨by first | rfl | (simp; done) | (simp [*]; done) | (simp [Int.tdiv_eq_ediv_of_nonneg]; done) | (simp [Go.RowKit.wrap64]; done) | (simp [*, Go.RowKit.wrap64]; done), by repeat (first | exact Drawn0.refl _ | apply Drawn0.step)⟩

/-! ### clepsydraref04_add: function 42 -/
def clepsydraref04_add.f (k : Nat) (a0 : Int) (a1 : Int) : Option (Int) := (clepsydraref01_Add.f k (([a0, a1] : List Int))).bind fun t249 => (some t249)
theorem clepsydraref04_add.mono : ∀ a0 a1 k, LeO (clepsydraref04_add.f k a0 a1) (clepsydraref04_add.f (k + 1) a0 a1) := by
  intro a0 a1 k
  unfold clepsydraref04_add.f
  repeat' first
      | (with_reducible exact clepsydraref01_Add.mono _ _)
      | (with_reducible exact LeO.refl _)
      | (with_reducible exact LeO.none _)
      | (with_reducible refine LeO.ite ?_ ?_)
      | (with_reducible refine LeO.bind ?_ (fun _ => ?_))
      | exact clepsydraref01_Add.mono _ _
      | exact LeO.none _
      | refine LeO.ite ?_ ?_
      | refine LeO.bind ?_ (fun _ => ?_)
set_option maxHeartbeats 8000000 in
set_option maxRecDepth 100000 in
theorem clepsydraref04_add.calls (k : Nat) (a0 : Int) (a1 : Int) (r : Int) (w : World) (h : clepsydraref04_add.f k a0 a1 = some r) :
    Calls Try.prog 42 #[.int .i64 a0, .int .i64 a1] w fun e w' => e = .returned (.int .i64 r) ∧ Below w.heap.size w w' := by
  have HB := Aside0.mk (Below.refl w.heap.size w)
  have H : ((clepsydraref01_Add.f k (([a0, a1] : List Int))).bind fun t249 => (some t249)) = some r := h
  clear h
  obtain ⟨y246, hy246⟩ : ∃ y_ : List Int, y_ = (([a0, a1] : List Int)) := ⟨_, rfl⟩
  replace H : ((clepsydraref01_Add.f k y246).bind fun t249 => (some t249)) = some r := by first | (rw [hy246]; with_reducible exact H) | (have H2_ := (Option.bind_some _ _).symm.trans H; rw [hy246]; with_reducible exact H2_) | (have H2_ := (Option.bind_some _ _).symm.trans H; with_reducible exact H2_) | with_reducible exact H | (rw [hy246]; exact H) | exact H
  have Ny246 := Aside0.mk hy246
  clear hy246
  replace H := Option.bind_eq_some_iff.mp H
  obtain ⟨t249, A30, H⟩ := H
  replace H : (some t249) = some r := H
  have A3 := Aside0.mk A30
  clear A30
  obtain rfl := Option.some.inj H
  go_enter Try.func42, Try.ntmps42
  go_wp2_with (first | ((with_reducible refine gate_dst (N := 7) rfl ?_); refine Kd.R_lit (Kd.int .i64) _ 3 ?hg (N := 7) ?hd (xs := ([a0, a1] : List Int)) (inner := [.int .i64 a0, .int .i64 a1]) (ok := fun _ => True) (okp := fun _ => True) ?hr ?hp (fun _ hk => hk) trivial (Below.refl _ _) (Nat.le_refl _) (by simp) ?_; (case hd => rfl); (case hg => rfl); (case hr => first | (go_simp; done) | (go_simp; rfl)); (case hp => exact (Reps.one (show Kd.M (Kd.int .i64) _ _ _ a0 [.int .i64 a0] from rfl) (Reps.one (show Kd.M (Kd.int .i64) _ _ _ a1 [.int .i64 a1] from rfl) (Reps.none _ _)))); intro v247 w4 ho5 hb hg_ hnew_; clear hg_ hnew_; (first | rw [← Ny246.out] at ho5 | (simp only [Int.reduceToNat] at ho5; rw [← Ny246.out] at ho5)); have n0_ := Aside0.mk (Kd.R_lower ho5 (below_size (by repeat (first | (with_reducible first | exact HB.out | apply below_alloc | apply pw_below_drewN | apply below_drew1) | exact HB.out)))); have n1_ := Aside0.mk (below_step (by repeat (first | (with_reducible first | exact HB.out | apply below_alloc | apply pw_below_drewN | apply below_drew1) | exact HB.out)) hb); clear HB; have HO248 := n0_; have HB := n1_; clear n0_ n1_; clear hb ho5; obtain ⟨Ao6, co6, eo6⟩ := Kd.R_slice HO248.out; subst eo6) | ((with_reducible refine gate_callee (f := 31) rfl ?_); refine goesL_ (some 8) rfl rfl Try.func31 (by kernel_rfl) rfl #[.slice Ao6 y246.length co6] rfl (by (try simp only [List.map_toArray, List.map_cons, List.map_nil]); first | done | rfl | (simp only [List.length_drop, List.length_take]; rfl)) ?_; (with_reducible refine (clepsydraref01_Add.calls k _ _ y246 t249 _ ?side1 ?side2 A3.out).mono ?_); (case side1 => repeat (first | exact (Kd.R_reads' HO248.out).2.2 | (with_reducible refine Kd.C_alloc ?_ _) | (with_reducible refine Kd.C_drewN ?_ _) | (with_reducible refine Kd.C_drew ?_))); (case side2 => exact (Kd.R_reads' HO248.out).2.1); rintro e w' ⟨rfl, ⟨nd, rfl⟩⟩; refine ⟨_, rfl, ?_⟩))
  go_ret
  exact ⟨by first | rfl | (simp [errW_none, errW_some] <;> rfl) | (simp [*, errW_none, errW_some] <;> rfl), by repeat (first | (with_reducible first | exact HB.out | apply below_alloc | apply pw_below_drewN | apply below_drew1) | exact HB.out)⟩

end Go.Proofs.Ytopnmlambbimpaa.Q
