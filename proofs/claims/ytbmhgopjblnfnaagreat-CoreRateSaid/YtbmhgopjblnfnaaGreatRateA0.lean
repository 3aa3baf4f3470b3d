/- The walks, the protocol's law: part 0. -/
import Derived.OrdersHeld
import Derived.Deep.RegionHeld3
import Derived.Laws.BitsLemmas
import Derived.RowKit
import Derived.WalkKit
import Derived.Deep.LoopGhost
import Derived.KernelRfl
import Derived.Below
import Derived.Laws.AppendOwn
import Derived.MapKept
import Derived.Maps.RangeRun
import Derived.Lib.AppendStr
import Derived.Lib.UnsafeStr
import Derived.Laws.Concat
import Derived.Laws.BytesString
import Derived.Lib.Builder
import Derived.Laws.Externs
import Derived.Test.YtbmhgopjblnfnaaGreatProg
import Derived.RangeFuncBox
import Derived.RangeFuncLeaves
import Derived.Shelf.Abstract
import Derived.OwnWalkIn
import Derived.TacticsInMore
import Derived.LoopNIn
import Derived.LoopIn
import Derived.Maps.AppendAt
import Derived.Shelf.Sort.Plain
import Derived.Shelf.Slices.In.SortNone
import Derived.Shelf.Strings.Builder1
import Derived.Shelf.Strconv.Itoa0
import Derived.Shelf.Strconv.Itoa1
import Derived.Laws.IdiomCopy
import Derived.Laws.IdiomStrings
import Derived.Defers
import Derived.Recover
import Derived.Laws.Bits64
import Derived.Laws.StructEq
import Derived.OpenShut
import Derived.ShutString
import Derived.Lib.SmallJoins
import Derived.ProofKit
import Derived.ChangeOld
import Derived.SizedLaws
import Derived.HandedShaped
import Derived.Carry
set_option linter.unusedVariables false
set_option linter.unusedSimpArgs false
set_option maxHeartbeats 4000000
set_option maxRecDepth 100000
namespace Go.Proofs.YtbmhgopjblnfnaaGreatW.PrintLast
section
variable {P : Program} {ops : Array Oper} {Q : Exit → Act → World → Prop} {md : Region.Mode} {S : World → Prop} {ds : List Nat}
def Region.reachB (md : Region.Mode) (ops : Array Oper) (i : Nat) : Nat → Nat → Bool
 | 0, _ => false
 | fuel + 1, d => match ops[d]? with
  | some o => o.after.any fun e => Region.binds md e && (e.on == i || Region.reachB md ops i fuel e.on)
  | none => false
def Region.closedB (md : Region.Mode) (ops : Array Oper) (listed : Array Bool) : Bool :=
 (List.range ops.size).all fun j => !listed.getD j false || match ops[j]? with
  | some o => o.after.all fun e => !Region.binds md e || listed.getD e.on false
  | none => true
def Region.lastB (md : Region.Mode) (ops : Array Oper) (listed : Array Bool) (ds : List Nat) (i : Nat) : Bool :=
 ds.all fun d => listed.getD d true || Region.reachB md ops i ops.size d
def ListedClosed (md : Region.Mode) (ops : Array Oper) (listed : Array Bool) : Prop :=
 ∀ j oj, ops[j]? = some oj → listed.getD j false = true → ∀ e ∈ oj.after, Region.binds md e = true → listed.getD e.on false = true
theorem Region.closedB_spec {listed : Array Bool} (h : Region.closedB md ops listed = true) : ListedClosed md ops listed := by
 intro j oj hj hl e he hb
 have hlt : j < ops.size := (Array.getElem?_eq_some_iff.1 hj).1
 have h1 := List.all_eq_true.1 h j (List.mem_range.2 hlt)
 simp only [hl, hj, Bool.not_true, Bool.false_or] at h1
 have h2 := Array.all_eq_true_iff_forall_mem.1 h1 e he
 simpa [hb] using h2
theorem ListedClosed.set {listed : Array Bool} {i : Nat} (h : ListedClosed md ops listed) (hi : i ∈ Region.ready md ops listed) : ListedClosed md ops (listed.setIfInBounds i true) := by
 obtain ⟨_, oi, hoi, hall⟩ := mem_ready.1 hi
 intro j oj hj hl e he hb
 by_cases hij : i = j
 ·subst hij
  have : oj = oi := Option.some.inj (hj.symm.trans hoi)
  subst this
  exact getD_set_true (hall e he hb)
 ·rw [getD_set_ne false hij] at hl
  exact getD_set_true (h j oj hj hl e he hb)
theorem Region.reach_listed {listed : Array Bool} {i : Nat} (hc : ListedClosed md ops listed) : ∀ (fuel d : Nat), Region.reachB md ops i fuel d = true → listed.getD d false = true → listed.getD i false = true
 | 0, _, h, _ => by simp [Region.reachB] at h
 | fuel + 1, d, h, hl => by
  unfold Region.reachB at h
  cases ho : ops[d]? with
  | none => rw [ho] at h; simp at h
  | some o =>
   rw [ho] at h
   obtain ⟨e, he, h1⟩ := Array.any_eq_true'.1 h
   simp only [Bool.and_eq_true, Bool.or_eq_true, beq_iff_eq] at h1
   have hle := hc d o ho hl e he h1.1
   rcases h1.2 with h2 | h2
   ·rw [← h2]; exact hle
   ·exact Region.reach_listed hc fuel e.on h2 hle
theorem Region.reach_not_ready {listed : Array Bool} {i d fuel : Nat} (hc : ListedClosed md ops listed) (hr : Region.reachB md ops i fuel d = true) (hun : listed.getD i true = false) : d ∉ Region.ready md ops listed := by
 intro hd
 obtain ⟨_, o, ho, hall⟩ := mem_ready.1 hd
 have hi : listed.getD i false = true := by
  cases fuel with
  | zero => simp [Region.reachB] at hr
  | succ n =>
   unfold Region.reachB at hr
   rw [ho] at hr
   obtain ⟨e, he, h1⟩ := Array.any_eq_true'.1 hr
   simp only [Bool.and_eq_true, Bool.or_eq_true, beq_iff_eq] at h1
   have hle := hall e he h1.1
   rcases h1.2 with h2 | h2
   ·rw [← h2]; exact hle
   ·exact Region.reach_listed hc n e.on h2 hle
 rcases Nat.lt_or_ge i listed.size with h' | h'
 ·simp [h'] at hun hi
  rw [hun] at hi
  cases hi
 ·simp [Array.getElem?_eq_none h'] at hun
def wpAnyLast (P : Program) (md : Region.Mode) (ops : Array Oper) (Q : Exit → Act → World → Prop) (S : World → Prop) (ds : List Nat) : Nat → Array Bool → Act → World → Prop
 | 0, listed, a, w => Region.ready md ops listed = [] ∧ Q .normal a w
 | fuel + 1, listed, a, w =>
  (Region.ready md ops listed = [] → Q .normal a w) ∧
  ∀ i ∈ Region.ready md ops listed, wpOp P ops Q i (fun a' w' => (i ∉ ds → S w → S w') ∧ wpAnyLast P md ops Q S ds fuel (listed.setIfInBounds i true) a' w') a w
theorem wpAny_of_last : ∀ (fuel : Nat) (listed : Array Bool) (a : Act) (w : World), wpAnyLast P md ops Q S ds fuel listed a w → wpAny P md ops Q fuel listed a w
 | 0, _, _, _, h => h
 | fuel + 1, _, _, _, h => ⟨h.1, fun i hi => wpOp_mono (fun a' w' h' => wpAny_of_last fuel _ a' w' h'.2) (h.2 i hi)⟩
theorem wpAnyLast_first {i : Nat} {oi : Oper} {v : Value} (hi : ops[i]? = some oi) (hsel : ∀ (j : Nat) (o : Oper) cs b, ops[j]? = some o → o.op ≠ .select cs b)
  (hQ : ∀ c a w, Q (.panic c) (a.put oi.dst v) w → Q (.panic c) a w) (n : Nat) :
  ∀ (fuel : Nat) (listed : Array Bool) (a : Act) (w : World),
   (∀ j oj, ops[j]? = some oj → j ≠ i → listed.getD j true = false → (∀ e ∈ oj.after, Region.binds md e = true → e.on ≠ i) → oi.apart ops oj = true) →
   ListedClosed md ops listed → (∀ d ∈ ds, listed.getD d true = false → Region.reachB md ops i n d = true) →
   i ∈ Region.ready md ops listed → YieldsIf P ops S oi v a → S w →
   wpAnyLast P md ops Q S ds fuel (listed.setIfInBounds i true) (a.put oi.dst v) w → wpAnyLast P md ops Q S ds (fuel + 1) listed a w := by
 intro fuel
 induction fuel with
 | zero =>
  intro listed a w _ _ _ hr hy hS H
  refine ⟨fun h => (by rw [h] at hr; cases hr), fun j hj => ?_⟩
  by_cases hji : j = i
  ·subst hji; exact hy.wpOp hi hS ⟨fun _ h => h, H⟩
  ·have := ready_mono hj hji
   rw [H.1] at this
   cases this
 | succ fuel ih =>
  intro listed a w hfree hc hd hr hy hS H
  refine ⟨fun h => (by rw [h] at hr; cases hr), fun j hj => ?_⟩
  by_cases hji : j = i
  ·subst hji; exact hy.wpOp hi hS ⟨fun _ h => h, H⟩
  ·have h1 := H.2 j (ready_mono hj hji)
   obtain ⟨hjun, oj, hoj, hall⟩ := mem_ready.1 hj
   have hiun := (mem_ready.1 hr).1
   have hnot : ∀ e ∈ oj.after, Region.binds md e = true → e.on ≠ i := fun e he hb heq => by
    have h1 := hall e he hb
    rw [heq] at h1
    rcases Nat.lt_or_ge i listed.size with h' | h'
    ·simp [h'] at hiun h1; rw [hiun] at h1; cases h1
    ·simp [Array.getElem?_eq_none h'] at h1
   have hjd : j ∉ ds := fun hm => Region.reach_not_ready hc (hd j hm hjun) hiun hj
   have h2 := wpOp_putIf hoj (hfree j oj hoj hji hjun hnot) (fun cs b => hsel i oi cs b hi) (fun cs b => hsel j oj cs b hoj) hQ hy h1
   have hfree' : ∀ k ok, ops[k]? = some ok → k ≠ i → (listed.setIfInBounds j true).getD k true = false →
     (∀ e ∈ ok.after, Region.binds md e = true → e.on ≠ i) → oi.apart ops ok = true := fun k ok hk hki hun hno => by
    refine hfree k ok hk hki ?_ hno
    by_cases hjk : j = k
    ·subst hjk; exact hjun
    ·rw [getD_set_ne true hjk] at hun; exact hun
   have hd' : ∀ d ∈ ds, (listed.setIfInBounds j true).getD d true = false → Region.reachB md ops i n d = true := fun d hm hun => by
    refine hd d hm ?_
    by_cases hjk : j = d
    ·subst hjk; exact hjun
    ·rw [getD_set_ne true hjk] at hun; exact hun
   refine wpOp_mono (fun a' w' h3 => ⟨h3.2.1, ih (listed.setIfInBounds j true) a' w' hfree' (hc.set hj) hd' (ready_mono hr (Ne.symm hji)) h3.1 (h3.2.1 hjd hS) ?_⟩) h2
   rw [Array.setIfInBounds_comm _ _ hji]
   exact h3.2.2
theorem wpAnyLast_any {i : Nat} {oi : Oper} {v : Value} (hi : ops[i]? = some oi) (hsel : ∀ (j : Nat) (o : Oper) cs b, ops[j]? = some o → o.op ≠ .select cs b)
  (hQ : ∀ c a w, Q (.panic c) (a.put oi.dst v) w → Q (.panic c) a w) :
  ∀ (fuel : Nat) (listed : Array Bool) (a : Act) (w : World),
   (∀ j oj, ops[j]? = some oj → j ≠ i → listed.getD j true = false → (∀ e ∈ oj.after, Region.binds md e = true → e.on ≠ i) → oi.apart ops oj = true) →
   i ∈ Region.ready md ops listed → Yields P ops oi v a →
   wpAnyLast P md ops Q S ds fuel (listed.setIfInBounds i true) (a.put oi.dst v) w → wpAnyLast P md ops Q S ds (fuel + 1) listed a w := by
 intro fuel
 induction fuel with
 | zero =>
  intro listed a w _ hr hy H
  refine ⟨fun h => (by rw [h] at hr; cases hr), fun j hj => ?_⟩
  by_cases hji : j = i
  ·subst hji; exact (hy.yieldsIf (S := fun _ => True)).wpOp hi trivial ⟨fun _ h => h, H⟩
  ·have := ready_mono hj hji
   rw [H.1] at this
   cases this
 | succ fuel ih =>
  intro listed a w hfree hr hy H
  refine ⟨fun h => (by rw [h] at hr; cases hr), fun j hj => ?_⟩
  by_cases hji : j = i
  ·subst hji; exact (hy.yieldsIf (S := fun _ => True)).wpOp hi trivial ⟨fun _ h => h, H⟩
  ·have h1 := H.2 j (ready_mono hj hji)
   obtain ⟨hjun, oj, hoj, hall⟩ := mem_ready.1 hj
   have hiun := (mem_ready.1 hr).1
   have hnot : ∀ e ∈ oj.after, Region.binds md e = true → e.on ≠ i := fun e he hb heq => by
    have h1 := hall e he hb
    rw [heq] at h1
    rcases Nat.lt_or_ge i listed.size with h' | h'
    ·simp [h'] at hiun h1; rw [hiun] at h1; cases h1
    ·simp [Array.getElem?_eq_none h'] at h1
   have h2 := wpOp_put hoj (hfree j oj hoj hji hjun hnot) (fun cs b => hsel i oi cs b hi) (fun cs b => hsel j oj cs b hoj) hQ hy h1
   have hfree' : ∀ k ok, ops[k]? = some ok → k ≠ i → (listed.setIfInBounds j true).getD k true = false →
     (∀ e ∈ ok.after, Region.binds md e = true → e.on ≠ i) → oi.apart ops ok = true := fun k ok hk hki hun hno => by
    refine hfree k ok hk hki ?_ hno
    by_cases hjk : j = k
    ·subst hjk; exact hjun
    ·rw [getD_set_ne true hjk] at hun; exact hun
   refine wpOp_mono (fun a' w' h3 => ⟨h3.2.1, ih (listed.setIfInBounds j true) a' w' hfree' (ready_mono hr (Ne.symm hji)) h3.1 ?_⟩) h2
   rw [Array.setIfInBounds_comm _ _ hji]
   exact h3.2.2
theorem wpAnyLast_take {i : Nat} {oi : Oper} {v : Value} {fuel : Nat} {listed : Array Bool} {a : Act} {w : World} (hi : ops[i]? = some oi)
  (hs : Region.noSelect ops = true) (hf : Region.free md ops listed i = true) (hr : (Region.ready md ops listed).contains i = true)
  (hc : Region.closedB md ops listed = true) (hl : Region.lastB md ops listed ds i = true)
  (hQ : ∀ c a w, Q (.panic c) (a.put oi.dst v) w → Q (.panic c) a w) (hy : YieldsIf P ops S oi v a) (hS : S w)
  (h : wpAnyLast P md ops Q S ds fuel (listed.setIfInBounds i true) (a.put oi.dst v) w) : wpAnyLast P md ops Q S ds (fuel + 1) listed a w :=
 wpAnyLast_first hi (Region.noSelect_spec hs) hQ ops.size fuel listed a w (Region.free_spec hi hf) (Region.closedB_spec hc)
  (fun d hm hun => by have := List.all_eq_true.1 hl d hm; rw [hun] at this; simpa using this) (by simpa using hr) hy hS h
theorem wpAnyLast_all {rs : List Nat} {fuel : Nat} {listed : Array Bool} {a : Act} {w : World} (hr : Region.ready md ops listed = rs) (hne : rs ≠ [])
  (h : ∀ i ∈ rs, wpOp P ops Q i (fun a' w' => (i ∉ ds → S w → S w') ∧ wpAnyLast P md ops Q S ds fuel (listed.setIfInBounds i true) a' w') a w) : wpAnyLast P md ops Q S ds (fuel + 1) listed a w :=
 ⟨fun h0 => absurd (hr ▸ h0) hne, hr ▸ h⟩
theorem wpAnyLast_done {listed : Array Bool} {a : Act} {w : World} (hr : Region.ready md ops listed = []) (h : Q .normal a w) :
  ∀ fuel, wpAnyLast P md ops Q S ds fuel listed a w
 | 0 => ⟨hr, h⟩
 | _ + 1 => ⟨fun _ => h, by rw [hr]; simp⟩
theorem wp_region_last {id : Nat} {a : Act} {w : World} (hm : P.follows .mixedOrders = true)
  (h : wpAnyLast P .any ops Q S ds ops.size (Array.replicate ops.size false) a { w with drawn := w.drawn + 1 }) : (Code.region id ops true).wp P Q a w :=
 wp_region_any hm (wpAny_of_last _ _ _ _ h)
end
section
variable {P : Program} {ops : Array Oper} {Q : Exit → Act → World → Prop} {md : Region.Mode} {S : World → Prop} {ds : List Nat}
def AllReadyL (P : Program) (md : Region.Mode) (ops : Array Oper) (Q : Exit → Act → World → Prop) (S : World → Prop) (ds : List Nat) (fuel : Nat) (listed : Array Bool) (a : Act) (w : World) (rs : List Nat) : Prop :=
 ∀ i ∈ rs, wpOp P ops Q i (fun a' w' => (i ∉ ds → S w → S w') ∧ wpAnyLast P md ops Q S ds fuel (listed.setIfInBounds i true) a' w') a w
theorem AllReadyL.nil {fuel : Nat} {listed : Array Bool} {a : Act} {w : World} : AllReadyL P md ops Q S ds fuel listed a w [] := fun _ h => by cases h
theorem AllReadyL.cons {fuel : Nat} {listed : Array Bool} {a : Act} {w : World} {i : Nat} {o : Oper} {rs : List Nat} (ho : ops[i]? = some o) (hd : i ∉ ds)
  (h : ∀ K' : Act → World → Prop, Shut (∀ a w, S w → (S w → wpAnyLast P md ops Q S ds fuel (listed.setIfInBounds i true) a w) → K' a w) → if Region.wanted o (yielded ops a.tmps) = true then Oper.wp P o a w K' Q else K' (a.put o.dst undef) w)
  (hs : AllReadyL P md ops Q S ds fuel listed a w rs) : AllReadyL P md ops Q S ds fuel listed a w (i :: rs) := fun j hj => by
 rcases List.mem_cons.1 hj with rfl | hj
 ·exact wpOp_step ho (fun K' hK => h K' (fun a w hS hW => hK a w ⟨fun _ _ => hS, hW hS⟩))
 ·exact hs j hj
theorem AllReadyL.cons_last {fuel : Nat} {listed : Array Bool} {a : Act} {w : World} {i : Nat} {o : Oper} {rs : List Nat} (ho : ops[i]? = some o) (hd : i ∈ ds)
  (h : ∀ K' : Act → World → Prop, Shut (∀ a w, wpAnyLast P md ops Q S ds fuel (listed.setIfInBounds i true) a w → K' a w) → if Region.wanted o (yielded ops a.tmps) = true then Oper.wp P o a w K' Q else K' (a.put o.dst undef) w)
  (hs : AllReadyL P md ops Q S ds fuel listed a w rs) : AllReadyL P md ops Q S ds fuel listed a w (i :: rs) := fun j hj => by
 rcases List.mem_cons.1 hj with rfl | hj
 ·exact wpOp_step ho (fun K' hK => h K' (fun a w hW => hK a w ⟨fun hn => absurd hd hn, hW⟩))
 ·exact hs j hj
theorem wpAnyLast_ready {rs : List Nat} {fuel : Nat} {listed : Array Bool} {a : Act} {w : World} (hr : Region.ready md ops listed = rs) (hne : rs ≠ [])
  (h : AllReadyL P md ops Q S ds fuel listed a w rs) : wpAnyLast P md ops Q S ds (fuel + 1) listed a w := wpAnyLast_all hr hne h
theorem start_ {id n : Nat} {a : Act} {w : World} (l : Array Bool) (hm : P.follows .mixedOrders = true) (hn : ops.size = n) (hl : Array.replicate n false = l) (hS : S w.drew)
  (h : S w.drew → wpAnyLast P .any ops Q S ds n l a w.drew) : (Code.region id ops true).wp P Q a w := by
 subst hn
 subst hl
 exact wp_region_last hm (h hS)
def takeB (md : Region.Mode) (ops : Array Oper) (ds : List Nat) (l l' : Array Bool) (i : Nat) : Bool :=
 Region.noSelect ops && Region.free md ops l i && (Region.ready md ops l).contains i && Region.closedB md ops l && Region.lastB md ops l ds i && (l.setIfInBounds i true == l')
theorem take_ {i : Nat} {N : Option Tmp} {oi : Oper} {v : Value} {fuel : Nat} {l : Array Bool} {a : Act} {w : World} (l' : Array Bool) (hi : ops[i]? = some oi) (hN : oi.dst = N) (hc : takeB md ops ds l l' i = true)
  (hQ : ∀ c a w, Q (.panic c) (a.put oi.dst v) w → Q (.panic c) a w) (hy : YieldsIf P ops S oi v a) (hS : S w) {a' : Act} (ha : a.put N v = a')
  (h : wpAnyLast P md ops Q S ds fuel l' a' w) : wpAnyLast P md ops Q S ds (fuel + 1) l a w := by
 subst ha
 subst hN
 simp only [takeB, Bool.and_eq_true, beq_iff_eq] at hc
 obtain ⟨⟨⟨⟨⟨h1, h2⟩, h3⟩, h4⟩, h5⟩, h6⟩ := hc
 subst h6
 exact wpAnyLast_take hi h1 h2 h3 h4 h5 hQ hy hS h
def anyB (md : Region.Mode) (ops : Array Oper) (l l' : Array Bool) (i : Nat) : Bool :=
 Region.noSelect ops && Region.free md ops l i && (Region.ready md ops l).contains i && (l.setIfInBounds i true == l')
theorem pure_ {i : Nat} {N : Option Tmp} {oi : Oper} {v : Value} {fuel : Nat} {l : Array Bool} {a : Act} {w : World} (l' : Array Bool) (hi : ops[i]? = some oi) (hN : oi.dst = N) (hc : anyB md ops l l' i = true)
  (hQ : ∀ c a w, Q (.panic c) (a.put oi.dst v) w → Q (.panic c) a w) (hy : Yields P ops oi v a) {a' : Act} (ha : a.put N v = a')
  (h : wpAnyLast P md ops Q S ds fuel l' a' w) : wpAnyLast P md ops Q S ds (fuel + 1) l a w := by
 subst ha
 subst hN
 simp only [anyB, Bool.and_eq_true, beq_iff_eq] at hc
 obtain ⟨⟨⟨h1, h2⟩, h3⟩, h6⟩ := hc
 subst h6
 exact wpAnyLast_any hi (Region.noSelect_spec h1) hQ fuel l a w (Region.free_spec hi h2) (by simpa using h3) hy h
def readyB (md : Region.Mode) (ops : Array Oper) (l l' : Array Bool) (i : Nat) : Bool := (Region.ready md ops l == [i]) && (l.setIfInBounds i true == l')
theorem one_ {i : Nat} {N : Option Tmp} {oi : Oper} {fuel : Nat} {l : Array Bool} {a : Act} {w : World} (l' : Array Bool) (hi : ops[i]? = some oi) (hN : oi.dst = N) (hc : readyB md ops l l' i = true) (hd : i ∉ ds)
  (h : ∀ K : Act → World → Prop, Shut (∀ a' w', S w' → (S w' → wpAnyLast P md ops Q S ds fuel l' a' w') → K a' w') → if Region.wanted oi (yielded ops a.tmps) = true then Oper.wp P oi a w K Q else K (a.put N undef) w) :
  wpAnyLast P md ops Q S ds (fuel + 1) l a w := by
 subst hN
 simp only [readyB, Bool.and_eq_true, beq_iff_eq] at hc
 obtain ⟨h1, h2⟩ := hc
 subst h2
 exact wpAnyLast_ready h1 (by simp) (AllReadyL.cons hi hd (fun K hK => h K hK) AllReadyL.nil)
theorem last_ {i : Nat} {N : Option Tmp} {oi : Oper} {fuel : Nat} {l : Array Bool} {a : Act} {w : World} (l' : Array Bool) (hi : ops[i]? = some oi) (hN : oi.dst = N) (hc : readyB md ops l l' i = true) (hd : i ∈ ds)
  (h : ∀ K : Act → World → Prop, Shut (∀ a' w', wpAnyLast P md ops Q S ds fuel l' a' w' → K a' w') → if Region.wanted oi (yielded ops a.tmps) = true then Oper.wp P oi a w K Q else K (a.put N undef) w) :
  wpAnyLast P md ops Q S ds (fuel + 1) l a w := by
 subst hN
 simp only [readyB, Bool.and_eq_true, beq_iff_eq] at hc
 obtain ⟨h1, h2⟩ := hc
 subst h2
 exact wpAnyLast_ready h1 (by simp) (AllReadyL.cons_last hi hd (fun K hK => h K hK) AllReadyL.nil)
theorem done_ {l : Array Bool} {a : Act} {w : World} {n : Nat} (hr : (Region.ready md ops l == []) = true) (h : Q .normal a w) : wpAnyLast P md ops Q S ds n l a w := wpAnyLast_done (by simpa using hr) h n
theorem two_ {i j : Nat} {Ni Nj : Option Tmp} {oi oj : Oper} {fuel : Nat} {l : Array Bool} {a : Act} {w : World} (li lj : Array Bool) (hi : ops[i]? = some oi) (hj : ops[j]? = some oj) (hNi : oi.dst = Ni) (hNj : oj.dst = Nj)
  (hc : (Region.ready md ops l == [i, j] && l.setIfInBounds i true == li && l.setIfInBounds j true == lj) = true) (hdi : i ∉ ds) (hdj : j ∉ ds)
  (h1 : ∀ K : Act → World → Prop, Shut (∀ a' w', S w' → (S w' → wpAnyLast P md ops Q S ds fuel li a' w') → K a' w') → if Region.wanted oi (yielded ops a.tmps) = true then Oper.wp P oi a w K Q else K (a.put Ni undef) w)
  (h2 : ∀ K : Act → World → Prop, Shut (∀ a' w', S w' → (S w' → wpAnyLast P md ops Q S ds fuel lj a' w') → K a' w') → if Region.wanted oj (yielded ops a.tmps) = true then Oper.wp P oj a w K Q else K (a.put Nj undef) w) :
  wpAnyLast P md ops Q S ds (fuel + 1) l a w := by
 subst hNi
 subst hNj
 simp only [Bool.and_eq_true, beq_iff_eq] at hc
 obtain ⟨⟨h3, h4⟩, h5⟩ := hc
 subst h4
 subst h5
 exact wpAnyLast_ready h3 (by simp) (AllReadyL.cons hi hdi (fun K hK => h1 K hK) (AllReadyL.cons hj hdj (fun K hK => h2 K hK) AllReadyL.nil))
theorem enters_ {f : FuncId} {fn : Func} (hf : P.funcs[f]? = some fn) (hname : (fn.name == "runtime.NumGoroutine") = false) (hb : fn.body.isSome = true) (args : Array Value) (w : World) : (callFunc f args).run P w = .ok (.enter f args) w := by
 have h1 : fn.name ≠ "runtime.NumGoroutine" := by simpa using hname
 obtain ⟨c, hc⟩ := Option.isSome_iff_exists.1 hb
 simp [callFunc, hf, h1, hc]
end
end Go.Proofs.YtbmhgopjblnfnaaGreatW.PrintLast
namespace Go.Proofs.YtbmhgopjblnfnaaGreat.S
open Go Go.RowKit Go.Proofs.YtbmhgopjblnfnaaGreatW.PrintLast Tryz
structure Ent where
 own : List Nat
 H : World → Prop
 loc : ∀ w w' : World, (∀ k ∈ own, w'.heap[k]? = w.heap[k]?) → H w → H w'
 lt : ∀ w, H w → ∀ k ∈ own, k < w.heap.size
theorem lt_of_some {w : World} {g : Nat} {o : Obj} (h : w.heap[g]? = some o) : g < w.heap.size := by
 rcases Nat.lt_or_ge g w.heap.size with q | q
 ·exact q
 ·rw [Array.getElem?_eq_none q] at h; cases h
def blk (g : Nat) (cs : List Value) (t : TypeId) : Ent where
 own := [g]
 H w := w.heap[g]? = some (.cells cs.toArray t (0, 0))
 loc w w' h hw := (h g (by simp)).trans hw
 lt w hw k hk := by simp at hk; subst hk; exact lt_of_some hw
def ro (g : Nat) (cs : List Value) (t : TypeId) : Ent where
 own := [g]
 H w := ∃ z, w.heap[g]? = some (.cells cs.toArray t z)
 loc w w' h hw := hw.imp fun _ hz => (h g (by simp)).trans hz
 lt w hw k hk := by simp at hk; subst hk; exact lt_of_some hw.choose_spec
def ids (L : List Ent) : List Nat := L.flatMap Ent.own
theorem ids_cons (e : Ent) (L : List Ent) : ids (e :: L) = e.own ++ ids L := rfl
theorem ids_append (L M : List Ent) : ids (L ++ M) = ids L ++ ids M := by simp [ids]
theorem mem_ids {L : List Ent} {k : Nat} : k ∈ ids L ↔ ∃ e ∈ L, k ∈ e.own := by simp [ids]
theorem ids_perm {L M : List Ent} (h : L.Perm M) : (ids L).Perm (ids M) := h.flatMap_right _
structure Fr (w w' : World) (F : List Nat) : Prop where
 os : w'.os = w.os
 tape : w'.tape = w.tape
 output : w'.output = w.output
 size : w.heap.size ≤ w'.heap.size
 block : ∀ k, k < w.heap.size → k ∉ F → w'.heap[k]? = w.heap[k]?
theorem Fr.refl (w : World) (F : List Nat) : Fr w w F := ⟨rfl, rfl, rfl, Nat.le_refl _, fun _ _ _ => rfl⟩
theorem Fr.trans {a b c : World} {F G : List Nat} (h : Fr a b F) (k : Fr b c G) (hg : ∀ x ∈ G, x ∈ F ∨ a.heap.size ≤ x) : Fr a c F :=
 ⟨k.os.trans h.os, k.tape.trans h.tape, k.output.trans h.output, Nat.le_trans h.size k.size, fun x hx hn => (k.block x (Nat.lt_of_lt_of_le hx h.size) (fun hm => (hg x hm).elim hn (fun q => absurd hx (Nat.not_lt.2 q)))).trans (h.block x hx hn)⟩
theorem Fr.mono {w w' : World} {F G : List Nat} (h : Fr w w' F) (hs : ∀ x ∈ F, x ∈ G) : Fr w w' G := ⟨h.os, h.tape, h.output, h.size, fun k hk hn => h.block k hk fun q => hn (hs k q)⟩
theorem Fr.below {w w' : World} (h : Fr w w' []) : Below w.heap.size w w' := ⟨h.os, h.tape, h.output, h.size, fun k hk => h.block k hk (by simp)⟩
theorem Fr.of_below {w w' : World} (h : Below w.heap.size w w') (F : List Nat) : Fr w w' F := ⟨h.os, h.tape, h.output, h.size, fun k hk _ => h.block k hk⟩
structure St (w0 : World) (F : List Nat) (w : World) (L R : List Ent) : Prop where
 fr : Fr w0 w F
 l : ∀ e ∈ L, e.H w
 r : ∀ e ∈ R, e.H w
 nd : (ids L).Nodup
 lr : ∀ k ∈ ids L, k ∉ ids R
 own : ∀ k ∈ ids L, k ∈ F ∨ w0.heap.size ≤ k
theorem St.perm {w0 w : World} {F : List Nat} {L M R : List Ent} (h : St w0 F w L R) (p : L.Perm M) : St w0 F w M R :=
 ⟨h.fr, fun e he => h.l e (p.mem_iff.2 he), h.r, (ids_perm p).nodup_iff.1 h.nd, fun k hk => h.lr k ((ids_perm p).mem_iff.2 hk), fun k hk => h.own k ((ids_perm p).mem_iff.2 hk)⟩
theorem St.idlt {w0 w : World} {F : List Nat} {L R : List Ent} (h : St w0 F w L R) : ∀ k ∈ ids L, k < w.heap.size := fun k hk => by
 obtain ⟨e, he, hke⟩ := mem_ids.1 hk
 exact e.lt w (h.l e he) k hke
theorem St.idltR {w0 w : World} {F : List Nat} {L R : List Ent} (h : St w0 F w L R) : ∀ k ∈ ids R, k < w.heap.size := fun k hk => by
 obtain ⟨e, he, hke⟩ := mem_ids.1 hk
 exact e.lt w (h.r e he) k hke
theorem St.step {w0 w w' : World} {F : List Nat} {Lf Lr R Ln : List Ent} (h : St w0 F w (Lf ++ Lr) R) (hf : Fr w w' (ids Lf)) (hl : ∀ e ∈ Ln, e.H w') (nd : (ids Ln).Nodup) (own : ∀ k ∈ ids Ln, k ∈ ids Lf ∨ w.heap.size ≤ k) : St w0 F w' (Ln ++ Lr) R := by
 have hnd := h.nd
 rw [ids_append] at hnd
 have hdis : ∀ k ∈ ids Lf, k ∉ ids Lr := fun k h1 h2 => (List.nodup_append.1 hnd).2.2 k h1 k h2 rfl
 have hlt := h.idlt
 have keep : ∀ e ∈ Lr, e.H w' := fun e he => e.loc w w' (fun k hk => hf.block k (e.lt w (h.l e (List.mem_append_right _ he)) k hk) fun q => hdis k q (mem_ids.2 ⟨e, he, hk⟩)) (h.l e (List.mem_append_right _ he))
 have own' : ∀ k ∈ ids (Ln ++ Lr), k ∈ F ∨ w0.heap.size ≤ k := fun k hk => by
  rw [ids_append] at hk
  rcases List.mem_append.1 hk with q | q
  ·rcases own k q with z | z
   ·exact h.own k (by rw [ids_append]; exact List.mem_append_left _ z)
   ·exact .inr (Nat.le_trans h.fr.size z)
  ·exact h.own k (by rw [ids_append]; exact List.mem_append_right _ q)
 refine ⟨h.fr.trans hf fun x hx => h.own x (by rw [ids_append]; exact List.mem_append_left _ hx), ?_, ?_, ?_, ?_, own'⟩
 ·intro e he
  rcases List.mem_append.1 he with q | q
  ·exact hl e q
  ·exact keep e q
 ·intro e he
  exact e.loc w w' (fun k hk => hf.block k (e.lt w (h.r e he) k hk) fun q => h.lr k (by rw [ids_append]; exact List.mem_append_left _ q) (mem_ids.2 ⟨e, he, hk⟩)) (h.r e he)
 ·rw [ids_append]
  refine List.nodup_append.2 ⟨nd, (List.nodup_append.1 hnd).2.1, fun a ha b hb hab => ?_⟩
  subst hab
  rcases own a ha with z | z
  ·exact hdis a z hb
  ·exact absurd (hlt a (by rw [ids_append]; exact List.mem_append_right _ hb)) (Nat.not_lt.2 z)
 ·intro k hk hR
  rw [ids_append] at hk
  rcases List.mem_append.1 hk with q | q
  ·rcases own k q with z | z
   ·exact h.lr k (by rw [ids_append]; exact List.mem_append_left _ z) hR
   ·exact absurd (h.idltR k hR) (Nat.not_lt.2 z)
  ·exact h.lr k (by rw [ids_append]; exact List.mem_append_right _ q) hR
theorem St.drew {w0 w : World} {F : List Nat} {L R : List Ent} (h : St w0 F w L R) : St w0 F w.drew L R :=
 ⟨⟨h.fr.os, h.fr.tape, h.fr.output, h.fr.size, h.fr.block⟩, fun e he => e.loc w w.drew (fun _ _ => rfl) (h.l e he), fun e he => e.loc w w.drew (fun _ _ => rfl) (h.r e he), h.nd, h.lr, h.own⟩
theorem Fr.alloc (w : World) (o : Obj) : Fr w (w.alloc o) [] := Fr.of_below (Below.refl _ _ |>.alloc (Nat.le_refl _) o) _
theorem St.alloc {w0 w : World} {F : List Nat} {L R : List Ent} (h : St w0 F w L R) (cs : List Value) (t : TypeId) : St w0 F (w.alloc (.cells cs.toArray t (0, 0))) (blk w.heap.size cs t :: L) R := by
 refine St.step (Lf := []) (Lr := L) (Ln := [blk w.heap.size cs t]) h (Fr.alloc w _) ?_ ?_ ?_
 ·intro e he
  simp at he
  subst he
  exact heap_alloc_new w _
 ·simp [ids, blk]
 ·intro k hk
  simp [ids, blk] at hk
  exact .inr (by omega)
theorem St.toR {w0 w : World} {F : List Nat} {e : Ent} {L R : List Ent} (h : St w0 F w (e :: L) R) : St w0 F w L (e :: R) := by
 have hnd := h.nd
 rw [ids_cons] at hnd
 have hdis := (List.nodup_append.1 hnd).2.2
 refine ⟨h.fr, fun e' he => h.l e' (List.mem_cons_of_mem _ he), ?_, (List.nodup_append.1 hnd).2.1, ?_, fun k hk => h.own k (by rw [ids_cons]; exact List.mem_append_right _ hk)⟩
 ·intro e' he
  rcases List.mem_cons.1 he with rfl | q
  ·exact h.l _ List.mem_cons_self
  ·exact h.r _ q
 ·intro k hk hR
  rw [ids_cons] at hR
  rcases List.mem_append.1 hR with q | q
  ·exact hdis k q k hk rfl
  ·exact h.lr k (by rw [ids_cons]; exact List.mem_append_right _ hk) q
theorem St.drop {w0 w : World} {F : List Nat} {e : Ent} {L R : List Ent} (h : St w0 F w (e :: L) R) : St w0 F w L R :=
 ⟨h.fr, fun e' he => h.l e' (List.mem_cons_of_mem _ he), h.r, (List.nodup_append.1 (by have := h.nd; rw [ids_cons] at this; exact this)).2.1, fun k hk => h.lr k (by rw [ids_cons]; exact List.mem_append_right _ hk), fun k hk => h.own k (by rw [ids_cons]; exact List.mem_append_right _ hk)⟩
theorem setCell_fr (w : World) (g j : Nat) (v : Value) : Fr w (w.setCell ⟨g, j, none⟩ v) [g] :=
 ⟨rfl, rfl, rfl, by simp [World.setCell], fun k _ hn => Below.heap_setCell w _ v k (by simpa using hn)⟩
theorem setCell_blk {w : World} {g j : Nat} {cs : List Value} {t : TypeId} (h : w.heap[g]? = some (.cells cs.toArray t (0, 0))) (v : Value) : (w.setCell ⟨g, j, none⟩ v).heap[g]? = some (.cells (cs.set j v).toArray t (0, 0)) := by
 simp [World.setCell, Array.getElem?_modify, h]
theorem perm_front {α : Type _} {L : List α} {i : Nat} {e : α} (h : L[i]? = some e) : L.Perm (e :: L.eraseIdx i) := by
 induction L generalizing i with
 | nil => simp at h
 | cons x L ih =>
  cases i with
  | zero => simp at h; subst h; simp
  | succ i => simp at h; exact ((ih h).cons x).trans (.swap e x _)
theorem perm_set {α : Type _} {L : List α} {i : Nat} {e : α} (h : L[i]? = some e) (e' : α) : (e' :: L.eraseIdx i).Perm (L.set i e') := by
 induction L generalizing i with
 | nil => simp at h
 | cons x L ih =>
  cases i with
  | zero => simp
  | succ i => simp at h; simp; exact (List.Perm.swap x e' _).trans ((ih h).cons x)
theorem St.turn {w0 w w' : World} {F : List Nat} {L R : List Ent} {i : Nat} {e e' : Ent} (h : St w0 F w L R) (hi : L[i]? = some e) (hf : Fr w w' e.own) (he : e'.H w') (hn : e'.own.Nodup) (ho : ∀ k ∈ e'.own, k ∈ e.own ∨ w.heap.size ≤ k) : St w0 F w' (L.set i e') R := by
 have h1 := h.perm (perm_front hi)
 have h2 := St.step (Lf := [e]) (Lr := L.eraseIdx i) (Ln := [e']) h1 (by simpa [ids] using hf) (by intro x hx; simp at hx; subst hx; exact he) (by simpa [ids] using hn) (by simpa [ids] using ho)
 exact h2.perm (perm_set hi e')
theorem St.store {w0 w : World} {F : List Nat} {L R : List Ent} {i g j : Nat} {cs : List Value} {t : TypeId} (h : St w0 F w L R) (hi : L[i]? = some (blk g cs t)) (v : Value) : St w0 F (w.setCell ⟨g, j, none⟩ v) (L.set i (blk g (cs.set j v) t)) R :=
 h.turn hi (setCell_fr w g j v) (setCell_blk (h.l _ (List.mem_of_getElem? hi)) v) (by simp [blk]) (fun k hk => .inl (by simpa [blk] using hk))
structure Ctx where
 n : Nat
 ds : List Deferred
 w0 : World
 F : List Nat
abbrev Sl := List (Nat × Value)
def lk : Sl → Nat → Option Value
 | [], _ => none
 | (k, v) :: m, t => bif k.beq t then some v else lk m t
def Slots (m : Sl) (a : Act) : Prop := ∀ t v, lk m t = some v → a.tmps[t]? = some v
structure Ok (c : Ctx) (m : Sl) (L R : List Ent) (a : Act) (w : World) : Prop where
 n : a.tmps.size = c.n
 ds : a.defers = c.ds
 m : Slots m a
 st : St c.w0 c.F w L R
def G (c : Ctx) (m : Sl) (L R : List Ent) (X : Act → World → Prop) : Prop := ∀ a w, Ok c m L R a w → X a w
def ev (m : Sl) : Operand → Option Value
 | .tmp t => lk m t
 | .const v => some v
 | .global g => some (.pointer (some ⟨g, 0, none⟩))
 | .func f => some (.func (.func f) #[] #[])
theorem Slots.ev {m : Sl} {a : Act} (h : Slots m a) {x : Operand} {v : Value} (hx : ev m x = some v) : a.eval x = v := by
 cases x with
 | tmp t => simp [Act.eval, h t v hx]
 | const u => exact Option.some.inj hx
 | global g => exact Option.some.inj hx
 | func f => exact Option.some.inj hx
theorem lk_cons (k : Nat) (v : Value) (m : Sl) (t : Nat) : lk ((k, v) :: m) t = if k = t then some v else lk m t := by
 show (bif k.beq t then some v else lk m t) = _
 cases h : k.beq t
 ·rw [if_neg (Nat.ne_of_beq_eq_false h)]; rfl
 ·rw [if_pos (Nat.eq_of_beq_eq_true h)]; rfl
theorem Slots.put {m : Sl} {a : Act} (h : Slots m a) {N : Nat} (v : Value) (hN : N < a.tmps.size) : Slots ((N, v) :: m) (a.put (some N) v) := by
 intro t u hu
 rw [lk_cons] at hu
 show (a.tmps.setIfInBounds N v)[t]? = some u
 by_cases q : N = t
 ·subst q; rw [if_pos rfl] at hu; cases hu; simp [hN]
 ·rw [if_neg q] at hu; rw [Array.getElem?_setIfInBounds_ne q]; exact h t u hu
theorem Ok.put {c : Ctx} {m : Sl} {L R : List Ent} {a : Act} {w : World} (h : Ok c m L R a w) {N : Nat} (v : Value) (hN : N < c.n) : Ok c ((N, v) :: m) L R (a.put (some N) v) w :=
 ⟨by show (a.tmps.setIfInBounds N v).size = c.n; simp [h.n], h.ds, h.m.put v (by rw [h.n]; exact hN), h.st⟩
theorem Ok.put_none {c : Ctx} {m : Sl} {L R : List Ent} {a : Act} {w : World} (h : Ok c m L R a w) (v : Value) : Ok c m L R (a.put none v) w := h
theorem Ok.world {c : Ctx} {m : Sl} {L R L' R' : List Ent} {a : Act} {w w' : World} (h : Ok c m L R a w) (hs : St c.w0 c.F w' L' R') : Ok c m L' R' a w' := ⟨h.n, h.ds, h.m, hs⟩
theorem blt {a b : Nat} (h : a.blt b = true) : a < b := Nat.lt_of_lt_of_le (Nat.lt_succ_self a) (Nat.le_of_ble_eq_true h)
def keep : List Nat → Sl → Sl
 | [], _ => []
 | t :: ts, m => match lk m t with
  | some v => (t, v) :: keep ts m
  | none => keep ts m
theorem lk_keep (ts : List Nat) (m : Sl) : ∀ t v, lk (keep ts m) t = some v → lk m t = some v := by
 induction ts with
 | nil => intro t v h; cases h
 | cons x ts ih =>
  intro t v h
  unfold keep at h
  split at h
  ·next u hu =>
   rw [lk_cons] at h
   by_cases q : x = t
   ·subst q; rw [if_pos rfl] at h; rw [hu]; exact h
   ·rw [if_neg q] at h; exact ih t v h
  ·exact ih t v h
theorem G.toR {c : Ctx} {m : Sl} {e : Ent} {L R : List Ent} {X : Act → World → Prop} (g : G c m L (e :: R) X) : G c m (e :: L) R X := fun a w ok => g a w (ok.world ok.st.toR)
theorem G.drop {c : Ctx} {m : Sl} {e : Ent} {L R : List Ent} {X : Act → World → Prop} (g : G c m L R X) : G c m (e :: L) R X := fun a w ok => g a w (ok.world ok.st.drop)
theorem G.perm {c : Ctx} {m : Sl} {L M R : List Ent} {X : Act → World → Prop} (p : L.Perm M) (g : G c m M R X) : G c m L R X := fun a w ok => g a w (ok.world (ok.st.perm p))
section
variable {P : Program} {Q : Exit → Act → World → Prop} {c : Ctx} {m : Sl} {L R : List Ent}
theorem G.Z {x y : Code} (h : ∀ K : Act → World → Prop, (∀ m' L' R', G c m' L' R' (y.wp P Q) → G c m' L' R' K) → G c m L R (x.wp P (Exit.then K Q))) : G c m L R ((Code.seq x y).wp P Q) :=
 fun a w ok => wp_seq_k fun K hK => h K (fun _ _ _ g a w ok => hK a w (g a w ok)) a w ok
theorem G.skip (h : G c m L R (Q .normal)) : G c m L R (Code.skip.wp P Q) := fun a w ok => wp_skip (h a w ok)
theorem G.exit {id : Nat} (h : G c m L R (Q (.exit id))) : G c m L R ((Code.exit id).wp P Q) := fun a w ok => wp_exit (h a w ok)
theorem G.ret (h : G c m L R (Q .ret)) : G c m L R (Code.ret.wp P Q) := fun a w ok => wp_ret (h a w ok)
theorem G.block {id : Nat} {x : Code} (h : G c m L R (x.wp P (Exit.inBlock id Q))) : G c m L R ((Code.block id x).wp P Q) := fun a w ok => wp_block (h a w ok)
theorem G.cond {x : Operand} {y z : Code} {b : Bool} (hx : ev m x = some (.bool b)) (ht : b = true → G c m L R (y.wp P Q)) (hf : b = false → G c m L R (z.wp P Q)) : G c m L R ((Code.cond x y z).wp P Q) :=
 fun a w ok => wp_cond_split (ok.m.ev hx) (fun h => ht h a w ok) (fun h => hf h a w ok)
theorem G.yes {x : Operand} {y z : Code} (hx : ev m x = some (.bool true)) (h : G c m L R (y.wp P Q)) : G c m L R ((Code.cond x y z).wp P Q) := fun a w ok => wp_cond_true (ok.m.ev hx) (h a w ok)
theorem G.no {x : Operand} {y z : Code} (hx : ev m x = some (.bool false)) (h : G c m L R (z.wp P Q)) : G c m L R ((Code.cond x y z).wp P Q) := fun a w ok => wp_cond_false (ok.m.ev hx) (h a w ok)
def At {ι : Type} (c : Ctx) (M : ι → Sl) (LL RR : ι → List Ent) (a : Act) (w : World) : Prop := ∃ j, Ok c (M j) (LL j) (RR j) a w
theorem G.at {ι : Type} {M : ι → Sl} {LL RR : ι → List Ent} (j : ι) {ts : List Nat} {m' : Sl} (hm : S.keep ts m = m') (em : m' = M j) (hL : L = LL j) (hR : R = RR j) : G c m L R (At c M LL RR) := by
 intro a w ok
 subst hL hR
 exact ⟨j, ok.n, ok.ds, fun t v h => ok.m t v (lk_keep ts m t v (by rw [hm, em]; exact h)), ok.st⟩
theorem G.as {ι : Type} {M : ι → Sl} {LL RR : ι → List Ent} (j : ι) (hm : S.keep ((M j).map Prod.fst) m = M j := by rfl) (hL : L = LL j := by rfl) (hR : R = RR j := by rfl) : G c m L R (At c M LL RR) := G.at j rfl hm hL hR
theorem G.meet {ι : Type} {x y : Code} (M : ι → Sl) (LL RR : ι → List Ent) (h1 : ∀ K : Act → World → Prop, (∀ m' L' R', G c m' L' R' (At c M LL RR) → G c m' L' R' K) → G c m L R (x.wp P (Exit.then K Q))) (h2 : ∀ j, G c (M j) (LL j) (RR j) (y.wp P Q)) : G c m L R ((Code.seq x y).wp P Q) :=
 fun a w ok => wp_seq_k fun K hK => h1 K (fun _ _ _ g a w ok => hK a w (let ⟨j, q⟩ := g a w ok; h2 j a w q)) a w ok
def Less {ι : Type} (c : Ctx) (μ : ι → Nat) (n : Nat) (M : ι → Sl) (LL RR : ι → List Ent) (a : Act) (w : World) : Prop := ∃ j, μ j < n ∧ Ok c (M j) (LL j) (RR j) a w
theorem G.less {ι : Type} {μ : ι → Nat} {n : Nat} {M : ι → Sl} {LL RR : ι → List Ent} (j : ι) {ts : List Nat} {m' : Sl} (hlt : μ j < n) (hm : S.keep ts m = m') (em : m' = M j) (hL : L = LL j) (hR : R = RR j) : G c m L R (Less c μ n M LL RR) := by
 intro a w ok
 subst hL hR
 exact ⟨j, hlt, ok.n, ok.ds, fun t v h => ok.m t v (lk_keep ts m t v (by rw [hm, em]; exact h)), ok.st⟩
theorem G.ls {ι : Type} {μ : ι → Nat} {n : Nat} {M : ι → Sl} {LL RR : ι → List Ent} (j : ι) (hlt : μ j < n := by (dsimp only; omega)) (hm : S.keep ((M j).map Prod.fst) m = M j := by rfl) (hL : L = LL j := by rfl) (hR : R = RR j := by rfl) : G c m L R (Less c μ n M LL RR) := G.less j hlt rfl hm hL hR
theorem G.loop {ι : Type} {x : Code} (μ : ι → Nat) (M : ι → Sl) (LL RR : ι → List Ent) (h0 : G c m L R (At c M LL RR)) (hr : ∀ j, ∀ K : Act → World → Prop, (∀ m' L' R', G c m' L' R' (Less c μ (μ j) M LL RR) → G c m' L' R' K) → G c (M j) (LL j) (RR j) (x.wp P (Exit.then K Q))) : G c m L R ((Code.loop x).wp P Q) := by
 intro a w ok
 obtain ⟨j0, hj0⟩ := h0 a w ok
 refine wp_loop_ghost (fun n a w => ∃ j, μ j = n ∧ Ok c (M j) (LL j) (RR j) a w) (μ j0) ⟨j0, rfl, hj0⟩ ?_
 rintro n a w ⟨j, rfl, hj⟩
 refine hr j _ (fun m' L' R' g a' w' ok' => ?_) a w hj
 obtain ⟨k, hk, q⟩ := g a' w' ok'
 exact ⟨μ k, hk, k, rfl, q⟩
theorem G.lpR {ι : Type} {x : Code} (μ : ι → Nat) (M : ι → Sl) (LL : ι → List Ent) (h0 : G c m L R (At c M LL fun _ => R)) (hr : ∀ j, ∀ K : Act → World → Prop, (∀ m' L' R', G c m' L' R' (Less c μ (μ j) M LL fun _ => R) → G c m' L' R' K) → G c (M j) (LL j) R (x.wp P (Exit.then K Q))) : G c m L R ((Code.loop x).wp P Q) := G.loop μ M LL (fun _ => R) h0 hr
def wants (ops : Array Oper) (m : Sl) (o : Oper) : Option Bool :=
 match o.guard with
 | none => some true
 | some (j, b) => match ((ops[j]?).bind (·.dst)).bind (lk m) with
  | some (.bool x) => some (x == b)
  | some (.tuple _) => some false
  | _ => none
theorem wants_spec {ops : Array Oper} {m : Sl} {o : Oper} {a : Act} (h : Slots m a) {b : Bool} (hw : wants ops m o = some b) : Region.wanted o (yielded ops a.tmps) = b := by
 unfold wants at hw
 unfold Region.wanted
 cases hg : o.guard with
 | none => rw [hg] at hw; exact Option.some.inj hw
 | some jb =>
  obtain ⟨j, b'⟩ := jb
  rw [hg] at hw
  dsimp only at hw ⊢
  cases ho : ops[j]? with
  | none => rw [ho] at hw; simp at hw
  | some oj =>
   cases hd : oj.dst with
   | none => rw [ho] at hw; simp [hd] at hw
   | some d =>
    rw [ho] at hw
    simp only [Option.bind_some, hd] at hw
    cases hl : lk m d with
    | none => rw [hl] at hw; cases hw
    | some v =>
     rw [hl] at hw
     cases v with
     | bool x =>
      have hx := h d _ hl
      have hb := Option.some.inj hw
      subst hb
      simp [yielded, ho, hd, hx]
     | tuple xs =>
      have hx := h d _ hl
      have hb := Option.some.inj hw
      subst hb
      simp [yielded, ho, hd, hx]
     | _ => cases hw
theorem G.region {id : Nat} {l : List Oper} (h : G c m L R (wpList P l.toArray Q l)) : G c m L R ((Code.region id l.toArray false).wp P Q) := fun a w ok => wp_region_lit (h a w ok)
theorem G.nil {ops : Array Oper} (h : G c m L R (Q .normal)) : G c m L R (wpList P ops Q []) := h
theorem G.sr {id : Nat} {l : List Oper} {y : Code} (h : ∀ K : Act → World → Prop, (∀ m' L' R', G c m' L' R' (y.wp P Q) → G c m' L' R' K) → G c m L R (wpList P l.toArray (Exit.then K Q) l)) : G c m L R ((Code.seq (Code.region id l.toArray false) y).wp P Q) := G.Z fun K hK => G.region (h K hK)
theorem G.nk {ops : Array Oper} {X : Act → World → Prop} (hK : ∀ m' L' R', G c m' L' R' X → G c m' L' R' (Q .normal)) (h : G c m L R X) : G c m L R (wpList P ops Q []) := hK _ _ _ h
theorem G.sk {X : Act → World → Prop} (hK : ∀ m' L' R', G c m' L' R' X → G c m' L' R' (Q .normal)) (h : G c m L R X) : G c m L R (Code.skip.wp P Q) := G.skip (hK _ _ _ h)
def Hd (L R : List Ent) (w : World) : Prop := (∀ e ∈ L, e.H w) ∧ ∀ e ∈ R, e.H w
def Evl (P : Program) (m : Sl) (L R : List Ent) (o : Oper) (v : Value) : Prop := ∀ a w, Slots m a → Hd L R w → (execOp a.eval o).run P w = .ok (.value v) w
theorem Ok.hd {a : Act} {w : World} (h : Ok c m L R a w) : Hd L R w := ⟨h.st.l, h.st.r⟩
variable {ops : Array Oper} {rest : List Oper} {o : Oper} {v : Value}
theorem G.V (N : Nat) (he : Evl P m L R o v) (h : G c ((N, v) :: m) L R (wpList P ops Q rest)) (hd : o.dst = some N := by rfl) (hN : N.blt c.n = true := by rfl) (hw : wants ops m o = some true := by rfl) : G c m L R (wpList P ops Q (o :: rest)) := fun a w ok => wpList_step fun K hK => by
 rw [wants_spec ok.m hw, if_pos rfl]
 unfold Oper.wp
 rw [he a w ok.m ok.hd, Oper.upon_value, hd]
 exact hK _ _ (h _ _ (ok.put v (blt hN)))
theorem G.off (N : Nat) (h : G c ((N, undef) :: m) L R (wpList P ops Q rest)) (hd : o.dst = some N := by rfl) (hN : N.blt c.n = true := by rfl) (hw : wants ops m o = some false := by rfl) : G c m L R (wpList P ops Q (o :: rest)) := fun a w ok => wpList_step fun K hK => by
 rw [wants_spec ok.m hw, if_neg (by decide), hd]
 exact hK _ _ (h _ _ (ok.put undef (blt hN)))
theorem G.O (N : Nat) (h : G c ((N, undef) :: m) L R (wpList P ops Q rest)) (hd0 : o.dst = some N := by rfl) (hN0 : N.blt c.n = true := by rfl) (hw0 : wants ops m o = some false := by rfl) : G c m L R (wpList P ops Q (o :: rest)) := G.off N h hd0 hN0 hw0
theorem G.O2 (N N2 : Nat) {o2 : Oper} (h : G c ((N2, undef) :: ((N, undef) :: m)) L R (wpList P ops Q rest)) (hd0 : o.dst = some N := by rfl) (hN0 : N.blt c.n = true := by rfl) (hw0 : wants ops m o = some false := by rfl) (hd1 : o2.dst = some N2 := by rfl) (hN1 : N2.blt c.n = true := by rfl) (hw1 : wants ops ((N, undef) :: m) o2 = some false := by rfl) : G c m L R (wpList P ops Q (o :: o2 :: rest)) := G.off N (G.off N2 h hd1 hN1 hw1) hd0 hN0 hw0
theorem G.O3 (N N2 N3 : Nat) {o2 o3 : Oper} (h : G c ((N3, undef) :: ((N2, undef) :: ((N, undef) :: m))) L R (wpList P ops Q rest)) (hd0 : o.dst = some N := by rfl) (hN0 : N.blt c.n = true := by rfl) (hw0 : wants ops m o = some false := by rfl) (hd1 : o2.dst = some N2 := by rfl) (hN1 : N2.blt c.n = true := by rfl) (hw1 : wants ops ((N, undef) :: m) o2 = some false := by rfl) (hd2 : o3.dst = some N3 := by rfl) (hN2 : N3.blt c.n = true := by rfl) (hw2 : wants ops ((N2, undef) :: ((N, undef) :: m)) o3 = some false := by rfl) : G c m L R (wpList P ops Q (o :: o2 :: o3 :: rest)) := G.off N (G.off N2 (G.off N3 h hd2 hN2 hw2) hd1 hN1 hw1) hd0 hN0 hw0
theorem G.O4 (N N2 N3 N4 : Nat) {o2 o3 o4 : Oper} (h : G c ((N4, undef) :: ((N3, undef) :: ((N2, undef) :: ((N, undef) :: m)))) L R (wpList P ops Q rest)) (hd0 : o.dst = some N := by rfl) (hN0 : N.blt c.n = true := by rfl) (hw0 : wants ops m o = some false := by rfl) (hd1 : o2.dst = some N2 := by rfl) (hN1 : N2.blt c.n = true := by rfl) (hw1 : wants ops ((N, undef) :: m) o2 = some false := by rfl) (hd2 : o3.dst = some N3 := by rfl) (hN2 : N3.blt c.n = true := by rfl) (hw2 : wants ops ((N2, undef) :: ((N, undef) :: m)) o3 = some false := by rfl) (hd3 : o4.dst = some N4 := by rfl) (hN3 : N4.blt c.n = true := by rfl) (hw3 : wants ops ((N3, undef) :: ((N2, undef) :: ((N, undef) :: m))) o4 = some false := by rfl) : G c m L R (wpList P ops Q (o :: o2 :: o3 :: o4 :: rest)) := G.off N (G.off N2 (G.off N3 (G.off N4 h hd3 hN3 hw3) hd2 hN2 hw2) hd1 hN1 hw1) hd0 hN0 hw0
def Mks (P : Program) (m : Sl) (L R : List Ent) (o : Oper) (cs : List Value) (t : TypeId) : Prop := ∀ a w, Slots m a → Hd L R w → (execOp a.eval o).run P w = .ok (.value (.pointer (some ⟨w.heap.size, 0, none⟩))) (w.alloc (.cells cs.toArray t (0, 0)))
theorem G.mk (N : Nat) {cs : List Value} {t : TypeId} (he : Mks P m L R o cs t) (h : ∀ g : Nat, G c ((N, .pointer (some ⟨g, 0, none⟩)) :: m) (blk g cs t :: L) R (wpList P ops Q rest)) (hd : o.dst = some N := by rfl) (hN : N.blt c.n = true := by rfl) (hw : wants ops m o = some true := by rfl) : G c m L R (wpList P ops Q (o :: rest)) := fun a w ok => wpList_step fun K hK => by
 rw [wants_spec ok.m hw, if_pos rfl]
 unfold Oper.wp
 rw [he a w ok.m ok.hd, Oper.upon_value, hd]
 exact hK _ _ (h w.heap.size _ _ ((ok.put _ (blt hN)).world (ok.st.alloc cs t)))
def Rws (P : Program) (m : Sl) (L R : List Ent) (o : Oper) (cs : List Value) (t : TypeId) (z : Nat) : Prop := ∀ a w, Slots m a → Hd L R w → (execOp a.eval o).run P w = .ok (.value (.slice (some ⟨w.heap.size, 0, none⟩) z z)) (w.alloc (.cells cs.toArray t (0, 0)))
theorem G.row (N : Nat) {cs : List Value} {t : TypeId} {z : Nat} (he : Rws P m L R o cs t z) (h : ∀ g : Nat, G c ((N, .slice (some ⟨g, 0, none⟩) z z) :: m) (blk g cs t :: L) R (wpList P ops Q rest)) (hd : o.dst = some N := by rfl) (hN : N.blt c.n = true := by rfl) (hw : wants ops m o = some true := by rfl) : G c m L R (wpList P ops Q (o :: rest)) := fun a w ok => wpList_step fun K hK => by
 rw [wants_spec ok.m hw, if_pos rfl]
 unfold Oper.wp
 rw [he a w ok.m ok.hd, Oper.upon_value, hd]
 exact hK _ _ (h w.heap.size _ _ ((ok.put _ (blt hN)).world (ok.st.alloc cs t)))
def Sts (P : Program) (m : Sl) (L R : List Ent) (o : Oper) (g j : Nat) (vs : List Value) : Prop := ∀ a w, Slots m a → Hd L R w → (execOp a.eval o).run P w = .ok .skip ((vs.zipIdx j).foldl (fun w x => w.setCell ⟨g, x.2, none⟩ x.1) w)
def sets (cs : List Value) (j : Nat) (vs : List Value) : List Value := (vs.zipIdx j).foldl (fun cs x => cs.set x.2 x.1) cs
theorem St.stores {w0 : World} {F : List Nat} {g : Nat} {t : TypeId} (vs : List Value) : ∀ (j : Nat) (w : World) (L : List Ent) (i : Nat) (cs : List Value), St w0 F w L R → L[i]? = some (blk g cs t) → St w0 F ((vs.zipIdx j).foldl (fun w x => w.setCell ⟨g, x.2, none⟩ x.1) w) (L.set i (blk g (sets cs j vs) t)) R := by
 induction vs with
 | nil =>
  intro j w L i cs h hi
  have : L.set i (blk g (sets cs j []) t) = L := by
   apply List.ext_getElem?
   intro k
   by_cases q : i = k
   ·subst q
    have hlt : i < L.length := by
     rcases Nat.lt_or_ge i L.length with z | z
     ·exact z
     ·rw [List.getElem?_eq_none z] at hi; cases hi
    rw [List.getElem?_set_self hlt, hi]; rfl
   ·rw [List.getElem?_set_ne q]
  rw [this]; exact h
 | cons v vs ih =>
  intro j w L i cs h hi
  have hlt : i < L.length := by
   rcases Nat.lt_or_ge i L.length with z | z
   ·exact z
   ·rw [List.getElem?_eq_none z] at hi; cases hi
  have h1 := h.store (j := j) hi v
  have h2 := ih (j + 1) _ _ i (cs.set j v) h1 (List.getElem?_set_self hlt)
  rw [List.set_set] at h2
  simpa [sets, List.zipIdx_cons] using h2
theorem G.sto (i : Nat) {g j : Nat} {cs vs : List Value} {t : TypeId} (he : Sts P m L R o g j vs) (hi : L[i]? = some (blk g cs t)) (h : G c m (L.set i (blk g (sets cs j vs) t)) R (wpList P ops Q rest)) (hd : o.dst = none := by rfl) (hw : wants ops m o = some true := by rfl) : G c m L R (wpList P ops Q (o :: rest)) := fun a w ok => wpList_step fun K hK => by
 rw [wants_spec ok.m hw, if_pos rfl]
 unfold Oper.wp
 rw [he a w ok.m ok.hd, Oper.upon_skip, hd]
 exact hK _ _ (h _ _ (ok.put_none undef |>.world (ok.st.stores vs j w L i cs hi)))
theorem G.sn (i : Nat) {g j : Nat} {cs vs : List Value} {t : TypeId} {L' : List Ent} (he : Sts P m L R o g j vs) (hi : L[i]? = some (blk g cs t)) (h : G c m L' R (wpList P ops Q rest)) (hL : L.set i (blk g (sets cs j vs) t) = L' := by first | (dsimp only [List.set, sets, Value.cells, List.zipIdx, List.foldl]; rfl) | dsimp only [List.set, sets, Value.cells, List.zipIdx, List.foldl]) (hd : o.dst = none := by rfl) (hw : wants ops m o = some true := by rfl) : G c m L R (wpList P ops Q (o :: rest)) := G.sto i he hi (hL ▸ h) hd hw
end
def tsz (P : Program) (t : TypeId) : Option (Bool × Nat) := (P.underlying t).bind fun d => (P.info? t).map fun i => ((match d with | .struct _ | .array _ _ => true | _ => false), i.size)
def tfield (P : Program) (t : TypeId) (f : Nat) : Option Nat := match P.underlying t with
 | some (.struct fs) => (fs[f]?).bind fun x => (P.info? x.type).bind fun i => if i.size = 0 then none else some x.offset
 | _ => none
def tzero (P : Program) (t : TypeId) : Option (List Value) := (P.info? t).bind fun i => i.zero.map (·.cells.toList)
def tslice (P : Program) (t : TypeId) : Option (TypeId × Nat) := match P.underlying t with
 | some (.slice e) => (P.info? e).map fun i => (e, i.size)
 | _ => none
def tarray (P : Program) (t : TypeId) : Option (Nat × Nat) := match P.underlying t with
 | some (.array n e) => (P.info? e).map fun i => (n, i.size)
 | _ => none
theorem tsz_spec {P : Program} {t : TypeId} {b : Bool} {n : Nat} (h : tsz P t = some (b, n)) : ∃ d i, P.underlying t = some d ∧ P.info? t = some i ∧ (match d with | .struct _ | .array _ _ => true | _ => false) = b ∧ i.size = n := by
 unfold tsz at h
 obtain ⟨d, hd, h⟩ := Option.bind_eq_some_iff.1 h
 obtain ⟨i, hi, h⟩ := Option.map_eq_some_iff.1 h
 simp only [Prod.mk.injEq] at h
 exact ⟨d, i, hd, hi, h.1, h.2⟩
theorem run_isAgg {P : Program} {t : TypeId} {b : Bool} {n : Nat} (h : tsz P t = some (b, n)) (w : World) : (isAgg t).run P w = .ok b w := by
 obtain ⟨d, i, hd, hi, hb, hn⟩ := tsz_spec h
 unfold isAgg
 subst hb
 cases d <;> simp [underlying, hd, go_sem]
theorem run_sizeOf {P : Program} {t : TypeId} {b : Bool} {n : Nat} (h : tsz P t = some (b, n)) (w : World) : (sizeOf t).run P w = .ok n w := by
 obtain ⟨d, i, hd, hi, hb, hn⟩ := tsz_spec h
 simp [sizeOf, typeInfo, hi, hn, go_sem]
theorem run_bind_ok {α β : Type} {P : Program} {x : Sem α} {f : α → Sem β} {a : α} {w w' : World} (h : x.run P w = .ok a w') : (x >>= f).run P w = (f a).run P w' := by
 simp [Sem.run_bind, h, Result.andThen]
theorem run_load {P : Program} {a : Addr} {v : Value} {w : World} (h : w.cell? a = some v) : (load a).run P w = .ok v w := by
 simp [load, Sem.run, h]
theorem run_loadCellsFrom {P : Program} {w : World} (a : Addr) : ∀ (n i : Nat) (acc : Array Value) (vs : List Value), vs.length = n → (∀ j v, vs[j]? = some v → w.cell? (a.add (i + j)) = some v) → (loadCellsFrom a i n acc).run P w = .ok (acc ++ vs.toArray) w := by
 intro n
 induction n with
 | zero => intro i acc vs hl _; obtain rfl : vs = [] := List.length_eq_zero_iff.1 hl; simp [loadCellsFrom]
 | succ n ih =>
  intro i acc vs hl hv
  cases vs with
  | nil => simp at hl
  | cons v vs =>
   unfold loadCellsFrom
   rw [run_bind_ok (run_load (by simpa using hv 0 v rfl))]
   rw [ih (i + 1) (acc.push v) vs (by simpa using hl) (fun j u hu => by have := hv (j + 1) u hu; rwa [show i + 1 + j = i + (j + 1) from by omega])]
   simp
theorem run_loadCells {P : Program} {w : World} (a : Addr) {n : Nat} (vs : List Value) (hl : vs.length = n) (hv : ∀ j v, vs[j]? = some v → w.cell? (a.add j) = some v) : (loadCells a n).run P w = .ok vs.toArray w := by
 unfold loadCells
 rw [run_loadCellsFrom a n 0 #[] vs hl (fun j v h => by rw [Nat.zero_add]; exact hv j v h)]
 simp
theorem add_at (g j k : Nat) : (⟨g, j, none⟩ : Addr).add k = ⟨g, j + k, none⟩ := by unfold Addr.add; split <;> simp_all
def Cel (e : Ent) (g : Nat) (cs : List Value) : Prop := ∀ w, e.H w → ∀ (j : Nat) v, cs[j]? = some v → w.cell? ⟨g, j, none⟩ = some v
theorem Cel.blk (g : Nat) (cs : List Value) (t : TypeId) : Cel (blk g cs t) g cs := fun w h j v hv => by
 have h : w.heap[g]? = some (.cells cs.toArray t (0, 0)) := h
 simp [World.cell?, h, hv]
theorem Cel.ro (g : Nat) (cs : List Value) (t : TypeId) : Cel (ro g cs t) g cs := fun w h j v hv => by
 obtain ⟨z, h⟩ := h
 simp [World.cell?, h, hv]
def row (a : Option Addr) (c : Nat) (e : TypeId) (sz n : Nat) (xs : List Value) : Ent where
 own := match a with
  | some p => [p.block]
  | none => []
 H w := w.ownsRow 0 e sz (.slice a n c) n xs
 loc w w' h hw := by
  refine ⟨hw.1, hw.2.imp id ?_⟩
  rintro ⟨g, cap, cur, he, hb, hg, rest⟩
  cases he
  exact ⟨g, c, cur, rfl, hb, (h g (by simp)).trans hg, rest⟩
 lt w hw k hk := by
  rcases hw.2 with ⟨he, _⟩ | ⟨g, cap, cur, he, hb, hg, _⟩
  ·cases he; simp at hk
  ·cases he; simp at hk; subst hk; exact lt_of_some hg
theorem Cel.row (g c : Nat) (t : TypeId) (sz n : Nat) (xs : List Value) : Cel (row (some ⟨g, 0, none⟩) c t sz n xs) g xs := fun w h j v hv => by
 have := World.ownsRow.cells h (g := g) rfl j v hv
 rwa [add_at, Nat.zero_add] at this
section
variable {P : Program} {m : Sl} {L R : List Ent} {o : Oper}
def movOf : Op → Option Operand
 | .move x | .assign x => some x
 | _ => none
theorem Evl.mv {x : Operand} {v : Value} (hop : movOf o.op = some x := by rfl) (hx : ev m x = some v := by rfl) : Evl P m L R o v := fun a w hs _ => by
 have he := hs.ev hx
 generalize a.eval = ρ at he
 unfold execOp
 cases h : o.op <;> simp [h, movOf] at hop <;> subst hop <;> simp [he, go_sem]
section
variable {Q : Exit → Act → World → Prop} {c : Ctx} {ops : Array Oper}
theorem G.M (N : Nat) {o : Oper} {rest : List Oper} {x1 : Operand} {v1 : Value} (h : G c ((N, v1) :: m) L R (wpList P ops Q rest)) (ho0 : movOf o.op = some x1 := by rfl) (hx0 : ev m x1 = some v1 := by rfl) (hd0 : o.dst = some N := by rfl) (hN0 : N.blt c.n = true := by rfl) (hw0 : wants ops m o = some true := by rfl) : G c m L R (wpList P ops Q (o :: rest)) := G.V N (.mv ho0 hx0) h hd0 hN0 hw0
theorem G.M2 (N N2 : Nat) {o o2 : Oper} {rest : List Oper} {x1 x2 : Operand} {v1 v2 : Value} (h : G c ((N2, v2) :: ((N, v1) :: m)) L R (wpList P ops Q rest)) (ho0 : movOf o.op = some x1 := by rfl) (hx0 : ev m x1 = some v1 := by rfl) (hd0 : o.dst = some N := by rfl) (hN0 : N.blt c.n = true := by rfl) (hw0 : wants ops m o = some true := by rfl) (ho1 : movOf o2.op = some x2 := by rfl) (hx1 : ev ((N, v1) :: m) x2 = some v2 := by rfl) (hd1 : o2.dst = some N2 := by rfl) (hN1 : N2.blt c.n = true := by rfl) (hw1 : wants ops ((N, v1) :: m) o2 = some true := by rfl) : G c m L R (wpList P ops Q (o :: o2 :: rest)) := G.V N (.mv ho0 hx0) (G.V N2 (.mv ho1 hx1) h hd1 hN1 hw1) hd0 hN0 hw0
theorem G.M3 (N N2 N3 : Nat) {o o2 o3 : Oper} {rest : List Oper} {x1 x2 x3 : Operand} {v1 v2 v3 : Value} (h : G c ((N3, v3) :: ((N2, v2) :: ((N, v1) :: m))) L R (wpList P ops Q rest)) (ho0 : movOf o.op = some x1 := by rfl) (hx0 : ev m x1 = some v1 := by rfl) (hd0 : o.dst = some N := by rfl) (hN0 : N.blt c.n = true := by rfl) (hw0 : wants ops m o = some true := by rfl) (ho1 : movOf o2.op = some x2 := by rfl) (hx1 : ev ((N, v1) :: m) x2 = some v2 := by rfl) (hd1 : o2.dst = some N2 := by rfl) (hN1 : N2.blt c.n = true := by rfl) (hw1 : wants ops ((N, v1) :: m) o2 = some true := by rfl) (ho2 : movOf o3.op = some x3 := by rfl) (hx2 : ev ((N2, v2) :: ((N, v1) :: m)) x3 = some v3 := by rfl) (hd2 : o3.dst = some N3 := by rfl) (hN2 : N3.blt c.n = true := by rfl) (hw2 : wants ops ((N2, v2) :: ((N, v1) :: m)) o3 = some true := by rfl) : G c m L R (wpList P ops Q (o :: o2 :: o3 :: rest)) := G.V N (.mv ho0 hx0) (G.V N2 (.mv ho1 hx1) (G.V N3 (.mv ho2 hx2) h hd2 hN2 hw2) hd1 hN1 hw1) hd0 hN0 hw0
theorem G.M4 (N N2 N3 N4 : Nat) {o o2 o3 o4 : Oper} {rest : List Oper} {x1 x2 x3 x4 : Operand} {v1 v2 v3 v4 : Value} (h : G c ((N4, v4) :: ((N3, v3) :: ((N2, v2) :: ((N, v1) :: m)))) L R (wpList P ops Q rest)) (ho0 : movOf o.op = some x1 := by rfl) (hx0 : ev m x1 = some v1 := by rfl) (hd0 : o.dst = some N := by rfl) (hN0 : N.blt c.n = true := by rfl) (hw0 : wants ops m o = some true := by rfl) (ho1 : movOf o2.op = some x2 := by rfl) (hx1 : ev ((N, v1) :: m) x2 = some v2 := by rfl) (hd1 : o2.dst = some N2 := by rfl) (hN1 : N2.blt c.n = true := by rfl) (hw1 : wants ops ((N, v1) :: m) o2 = some true := by rfl) (ho2 : movOf o3.op = some x3 := by rfl) (hx2 : ev ((N2, v2) :: ((N, v1) :: m)) x3 = some v3 := by rfl) (hd2 : o3.dst = some N3 := by rfl) (hN2 : N3.blt c.n = true := by rfl) (hw2 : wants ops ((N2, v2) :: ((N, v1) :: m)) o3 = some true := by rfl) (ho3 : movOf o4.op = some x4 := by rfl) (hx3 : ev ((N3, v3) :: ((N2, v2) :: ((N, v1) :: m))) x4 = some v4 := by rfl) (hd3 : o4.dst = some N4 := by rfl) (hN3 : N4.blt c.n = true := by rfl) (hw3 : wants ops ((N3, v3) :: ((N2, v2) :: ((N, v1) :: m))) o4 = some true := by rfl) : G c m L R (wpList P ops Q (o :: o2 :: o3 :: o4 :: rest)) := G.V N (.mv ho0 hx0) (G.V N2 (.mv ho1 hx1) (G.V N3 (.mv ho2 hx2) (G.V N4 (.mv ho3 hx3) h hd3 hN3 hw3) hd2 hN2 hw2) hd1 hN1 hw1) hd0 hN0 hw0
end
theorem Evl.fa {d : Nat} {T : TypeId} {f : Nat} (hT : tfield P T f = some d) (off' : Nat) {x : Operand} {g off : Nat} (hop : o.op = .fieldAddr T x f := by rfl) (hx : ev m x = some (.pointer (some ⟨g, off, none⟩)) := by rfl) (ho : off + d = off' := by rfl) : Evl P m L R o (.pointer (some ⟨g, off', none⟩)) := fun a w hs _ => by
 have he := hs.ev hx
 generalize a.eval = ρ at he
 subst ho
 unfold tfield at hT
 split at hT
 ·next fs hu =>
  obtain ⟨fl, hfl, hT⟩ := Option.bind_eq_some_iff.1 hT
  obtain ⟨i, hi, hT⟩ := Option.bind_eq_some_iff.1 hT
  split at hT
  ·cases hT
  ·next hz =>
   obtain rfl := Option.some.inj hT
   simp [execOp, hop, he, Instr.fieldAt, underlying, hu, hfl, Instr.sureAddr, fieldPlace, sizeOf, typeInfo, hi, hz, add_at, go_sem]
 ·cases hT
theorem Evl.nc {x : Operand} {p : Addr} (hop : o.op = .nilCheck x := by rfl) (hx : ev m x = some (.pointer (some p)) := by rfl) : Evl P m L R o (.pointer (some p)) := fun a w hs _ => by
 have he := hs.ev hx
 generalize a.eval = ρ at he
 simp [execOp, hop, he, go_sem]
theorem Evl.ld {T : TypeId} (hT : tsz P T = some (false, 1)) (i : Nat) {x : Operand} {g j : Nat} {cs : List Value} {v : Value} {e : Ent} (hop : o.op = .load T x := by rfl) (hx : ev m x = some (.pointer (some ⟨g, j, none⟩)) := by rfl) (hi : (L ++ R)[i]? = some e := by rfl) (hc : Cel e g cs := by first | exact Cel.blk _ _ _ | exact Cel.ro _ _ _ | exact Cel.row _ _ _ _ _ _) (hv : cs[j]? = some v := by rfl) : Evl P m L R o v := fun a w hs hd => by
 have hH : e.H w := by
  rcases List.mem_append.1 (List.mem_of_getElem? hi) with q | q
  ·exact hd.1 e q
  ·exact hd.2 e q
 have hl := hc w hH j v hv
 have he := hs.ev hx
 generalize a.eval = ρ at he
 simp [execOp, hop, he, Instr.loadAt, Instr.sureAddr, loadVar, run_isAgg hT, hl, Sem.run_bind, Result.andThen, go_sem]
theorem Evl.lda {T : TypeId} {n : Nat} (hT : tsz P T = some (true, n)) (i : Nat) {x : Operand} {g j : Nat} {cs vs : List Value} {e : Ent} (hop : o.op = .load T x := by rfl) (hx : ev m x = some (.pointer (some ⟨g, j, none⟩)) := by rfl) (hi : (L ++ R)[i]? = some e := by rfl) (hc : Cel e g cs := by first | exact Cel.blk _ _ _ | exact Cel.ro _ _ _ | exact Cel.row _ _ _ _ _ _) (hv : (cs.drop j).take n = vs := by rfl) (hn : vs.length = n := by rfl) : Evl P m L R o (.agg vs.toArray) := fun a w hs hd => by
 have hH : e.H w := by
  rcases List.mem_append.1 (List.mem_of_getElem? hi) with q | q
  ·exact hd.1 e q
  ·exact hd.2 e q
 have hl : (loadCells ⟨g, j, none⟩ n).run P w = .ok vs.toArray w := run_loadCells _ vs hn fun k v hk => by
  rw [add_at]
  refine hc w hH _ _ ?_
  subst hv
  rw [List.getElem?_take] at hk
  split at hk
  ·rw [List.getElem?_drop] at hk; exact hk
  ·cases hk
 unfold loadCells at hl
 have he := hs.ev hx
 generalize a.eval = ρ at he
 simp [execOp, hop, he, Instr.loadAt, Instr.sureAddr, loadVar, run_isAgg hT, run_sizeOf hT, hl, Sem.run_bind, Result.andThen, go_sem]
theorem run_storeCells {P : Program} (g : Nat) (vs : List Value) (ho : ∀ v ∈ vs, v.oneCell' = true) : ∀ (j i : Nat) (w : World) (cs : List Value) (t : TypeId), w.heap[g]? = some (.cells cs.toArray t (0, 0)) → j + i + vs.length ≤ cs.length → (storeCells ⟨g, j, none⟩ vs i).run P w = .ok () ((vs.zipIdx (j + i)).foldl (fun w x => w.setCell ⟨g, x.2, none⟩ x.1) w) := by
 induction vs with
 | nil => intro j i w cs t _ _; simp [storeCells, go_sem]
 | cons v vs ih =>
  intro j i w cs t h hl
  have h1 : w.cell? ⟨g, j + i, none⟩ = some (cs[j + i]'(by simp at hl; omega)) := by simp [World.cell?, h]
  have h2 : w.frozen? ⟨g, j + i, none⟩ = false := by simp [World.frozen?, h]
  have hv := ho v List.mem_cons_self
  have hst : (store ((⟨g, j, none⟩ : Addr).add i) v).run P w = .ok () (w.setCell ⟨g, j + i, none⟩ v) := by
   rw [add_at]
   unfold store
   cases v <;> simp [Value.oneCell'] at hv <;> simp [Sem.run, h1, h2]
  unfold storeCells
  rw [run_bind_ok hst, ih (fun u hu => ho u (List.mem_cons_of_mem _ hu)) j (i + 1) _ (cs.set (j + i) v) t (setCell_blk h v) (by simp at hl ⊢; omega)]
  simp [List.zipIdx_cons, Nat.add_assoc]
theorem Sts.st {T : TypeId} {b : Bool} {n : Nat} (hT : tsz P T = some (b, n)) (i : Nat) {x y : Operand} {g j : Nat} {cs vs : List Value} {v : Value} {t : TypeId} (hop : o.op = .store T x y := by rfl) (hx : ev m x = some (.pointer (some ⟨g, j, none⟩)) := by rfl) (hy : ev m y = some v := by rfl) (hi : L[i]? = some (blk g cs t) := by rfl) (hv : v.cells.toList = vs := by rfl) (hn : vs.length = n := by rfl) (ho : vs.all Value.oneCell' = true := by rfl) (hl : j + n ≤ cs.length := by first | decide | exact Nat.le_of_ble_eq_true rfl) : Sts P m L R o g j vs := fun a w hs hd => by
 have hH : w.heap[g]? = some (.cells cs.toArray t (0, 0)) := hd.1 _ (List.mem_of_getElem? hi)
 have he := hs.ev hx
 have hf := hs.ev hy
 generalize a.eval = ρ at he hf
 have hsz : v.cells.size = n := by rw [← Array.length_toList, hv, hn]
 have hrun := run_storeCells (P := P) g vs (fun v h => List.all_eq_true.1 ho v h) j 0 w cs t hH (by omega)
 subst hv
 have h2 : (storeVar T ⟨g, j, none⟩ v).run P w = .ok () ((v.cells.toList.zipIdx j).foldl (fun w x => w.setCell ⟨g, x.2, none⟩ x.1) w) := by
  unfold storeVar
  rw [run_bind_ok (run_sizeOf hT w), if_neg (by simp [hsz])]
  exact hrun
 unfold execOp
 simp only [hop, he, hf]
 change ((storeVar T ⟨g, j, none⟩ v >>= fun _ => (pure .skip : Sem Next)) : Sem Next).run P w = _
 rw [run_bind_ok h2]
 rfl
theorem tzero_run {t : TypeId} {zs : List Value} (h : tzero P t = some zs) (w : World) : ∃ z : Value, z.cells.toList = zs ∧ (zeroValue t).run P w = .ok z w := by
 unfold tzero at h
 obtain ⟨i, hi, h⟩ := Option.bind_eq_some_iff.1 h
 obtain ⟨z, hz, h⟩ := Option.map_eq_some_iff.1 h
 exact ⟨z, h, by simp [zeroValue, typeInfo, hi, hz, go_sem]⟩
theorem Mks.al {T : TypeId} {zs : List Value} (hT : tzero P T = some zs) (hop : o.op = .alloc T := by rfl) : Mks P m L R o zs T := fun a w _ _ => by
 obtain ⟨z, hz, hrun⟩ := tzero_run hT w
 subst hz
 have h2 : (Instr.alloc T true (.tuple #[])).run P w = .ok (.pointer (some ⟨w.heap.size, 0, none⟩)) (w.alloc (.cells z.cells T (0, 0))) := by
  unfold Instr.alloc
  rw [run_bind_ok hrun]
  rfl
 unfold execOp
 simp only [hop]
 rw [run_bind_ok h2]
 rfl
theorem Mks.bx {T : TypeId} {x : Operand} {v : Value} {vs : List Value} (hop : o.op = .box T x := by rfl) (hx : ev m x = some v := by rfl) (hv : v.cells.toList = vs := by rfl) : Mks P m L R o vs T := fun a w hs _ => by
 have he := hs.ev hx
 generalize a.eval = ρ at he
 subst hv
 unfold execOp
 simp only [hop, he]
 rfl
def binI (op : BinOp) (k : IntKind) (a b : Int) : Option Value := match op with
 | .add => some (.int k (k.wrap (a + b)))
 | .sub => some (.int k (k.wrap (a - b)))
 | .mul => some (.int k (k.wrap (a * b)))
 | .quo => if b = 0 then none else some (.int k (k.wrap (a.tdiv b)))
 | .rem => if b = 0 then none else some (.int k (a.tmod b))
 | .and => some (.int k (k.wrap (BitVec.ofInt k.bits a &&& BitVec.ofInt k.bits b).toNat))
 | .or => some (.int k (k.wrap (BitVec.ofInt k.bits a ||| BitVec.ofInt k.bits b).toNat))
 | .xor => some (.int k (k.wrap (BitVec.ofInt k.bits a ^^^ BitVec.ofInt k.bits b).toNat))
 | .eql => some (.bool (a == b))
 | .neq => some (.bool (a != b))
 | .lss => some (.bool (decide (a < b)))
 | .leq => some (.bool (decide (a ≤ b)))
 | .gtr => some (.bool (decide (a > b)))
 | .geq => some (.bool (decide (a ≥ b)))
 | _ => none
theorem run_binI {op : BinOp} {k : IntKind} {a b : Int} {v : Value} (h : binI op k a b = some v) (T : TypeId) (w : World) : (binOp op T (.int k a) (.int k b)).run P w = .ok v w := by
 unfold binI at h
 cases op <;> simp only [Option.some.injEq, reduceCtorEq] at h <;> (try (split at h <;> simp only [Option.some.injEq, reduceCtorEq] at h)) <;> (try subst h) <;> simp_all [binOp, Op.intArith, Op.intDiv, Op.intBits, Op.intCmp, go_sem]
theorem Evl.bin {op : BinOp} {T U : TypeId} {x y : Operand} {k : IntKind} {a b : Int} {v : Value} (hop : o.op = .binOp op T x y U := by rfl) (hx : ev m x = some (.int k a) := by rfl) (hy : ev m y = some (.int k b) := by rfl) (hv : binI op k a b = some v := by rfl) : Evl P m L R o v := fun ac w hs _ => by
 have he := hs.ev hx
 have hf := hs.ev hy
 generalize ac.eval = ρ at he hf
 have h0 : (eqGuard op T x y (.int k a) (.int k b)).run P w = .ok () w := by unfold eqGuard; cases op <;> rfl
 unfold execOp
 simp only [hop, he, hf]
 have h2 : ((eqGuard op T x y (.int k a) (.int k b) >>= fun _ => binOp op T (.int k a) (.int k b)) : Sem Value).run P w = .ok v w := by
  rw [run_bind_ok h0]; exact run_binI hv T w
 change ((eqGuard op T x y (.int k a) (.int k b) >>= fun _ => binOp op T (.int k a) (.int k b)) >>= fun u => (pure (.value u) : Sem Next)).run P w = _
 rw [run_bind_ok h2]
 rfl
theorem Evl.not {T : TypeId} {x : Operand} {b : Bool} (hop : o.op = .unOp .not T x := by rfl) (hx : ev m x = some (.bool b) := by rfl) : Evl P m L R o (.bool !b) := fun a w hs _ => by
 have he := hs.ev hx
 generalize a.eval = ρ at he
 unfold execOp
 simp only [hop, he]
 rfl
theorem Evl.neg {T : TypeId} {x : Operand} {k : IntKind} {b : Int} (hop : o.op = .unOp .neg T x := by rfl) (hx : ev m x = some (.int k b) := by rfl) : Evl P m L R o (.int k (k.wrap (0 - b))) := fun a w hs _ => by
 have he := hs.ev hx
 generalize a.eval = ρ at he
 unfold execOp
 simp only [hop, he]
 rfl
theorem Evl.pick {x y z : Operand} {b : Bool} {u v : Value} (hop : o.op = .pick x y z := by rfl) (hx : ev m x = some (.bool b) := by rfl) (hy : ev m y = some u := by rfl) (hz : ev m z = some v := by rfl) : Evl P m L R o (if b = true then u else v) := fun a w hs _ => by
 have he := hs.ev hx
 have hf := hs.ev hy
 have hg := hs.ev hz
 generalize a.eval = ρ at he hf hg
 unfold execOp
 simp only [hop, he, hf, hg]
 cases b <;> rfl
theorem Evl.ext {x : Operand} {i : Nat} {vs : Array Value} {v : Value} (hop : o.op = .extract x i := by rfl) (hx : ev m x = some (.tuple vs) := by rfl) (hv : vs[i]? = some v := by rfl) : Evl P m L R o v := fun a w hs _ => by
 have he := hs.ev hx
 generalize a.eval = ρ at he
 unfold execOp
 simp only [hop, he]
 simp [Instr.extract, hv, go_sem]
theorem Evl.cast {u v : Value} (h : Evl P m L R o u) (e : u = v) : Evl P m L R o v := e ▸ h
theorem Evl.ia {T : TypeId} {len sz : Nat} (hT : tarray P T = some (len, sz)) (n : Nat) (hn : n < len) {x y : Operand} {g off : Nat} {k : IntKind} {i : Int} (hop : o.op = .indexAddr T x y := by rfl) (hx : ev m x = some (.pointer (some ⟨g, off, none⟩)) := by rfl) (hy : ev m y = some (.int k i) := by rfl) (hi : i = (n : Int) := by rfl) : Evl P m L R o (.pointer (some ⟨g, off + n * sz, none⟩)) := fun a w hs _ => by
 have he := hs.ev hx
 have hf := hs.ev hy
 generalize a.eval = ρ at he hf
 subst hi
 unfold tarray at hT
 split at hT
 ·next nn e hu =>
  obtain ⟨inf, hin, hT⟩ := Option.map_eq_some_iff.1 hT
  simp only [Prod.mk.injEq] at hT
  obtain ⟨rfl, rfl⟩ := hT
  have h1 : (0 : Int) ≤ (n : Int) ∧ (n : Int) < (nn : Int) := by omega
  simp [execOp, hop, he, hf, Instr.indexAt, asIntOf, underlying, hu, Instr.sureAddr, h1, sizeOf, typeInfo, hin, hn, add_at, go_sem]
 ·cases hT
theorem Evl.is {T e : TypeId} {sz : Nat} (hT : tslice P T = some (e, sz)) (n : Nat) {x y : Operand} {g off len cap : Nat} {k : IntKind} {i : Int} (hn : n < len) (hop : o.op = .indexAddr T x y := by rfl) (hx : ev m x = some (.slice (some ⟨g, off, none⟩) len cap) := by rfl) (hy : ev m y = some (.int k i) := by rfl) (hi : i = (n : Int) := by rfl) : Evl P m L R o (.pointer (some ⟨g, off + n * sz, none⟩)) := fun a w hs _ => by
 have he := hs.ev hx
 have hf := hs.ev hy
 generalize a.eval = ρ at he hf
 subst hi
 unfold tslice at hT
 split at hT
 ·next e' hu =>
  obtain ⟨inf, hin, hT⟩ := Option.map_eq_some_iff.1 hT
  simp only [Prod.mk.injEq] at hT
  obtain ⟨rfl, rfl⟩ := hT
  have h1 : (0 : Int) ≤ (n : Int) ∧ (n : Int) < (len : Int) := by omega
  simp [execOp, hop, he, hf, Instr.indexAt, asIntOf, underlying, hu, Instr.sureAddr, h1, sizeOf, typeInfo, hin, hn, add_at, go_sem]
 ·cases hT
theorem bt {p : Prop} [Decidable p] (h : p) : Value.bool (decide p) = .bool true := by rw [decide_eq_true h]
theorem bf {p : Prop} [Decidable p] (h : ¬ p) : Value.bool (decide p) = .bool false := by rw [decide_eq_false h]
theorem et {a b : Int} (h : a = b) : Value.bool (a == b) = .bool true := by rw [beq_iff_eq.2 h]
theorem ef {a b : Int} (h : a ≠ b) : Value.bool (a == b) = .bool false := by rw [beq_eq_false_iff_ne.2 h]
theorem nt {a b : Int} (h : a ≠ b) : Value.bool (a != b) = .bool true := by rw [bne_iff_ne.2 h]
theorem nf {a b : Int} (h : a = b) : Value.bool (a != b) = .bool false := by subst h; simp
theorem wi {x : Int} (h1 : -9223372036854775808 ≤ x) (h2 : x ≤ 9223372036854775807) : Value.int .i64 (IntKind.i64.wrap x) = .int .i64 x := by
 have : IntKind.i64.wrap x = x := by simp [IntKind.wrap, IntKind.bits, IntKind.signed]; omega
 rw [this]
theorem Evl.bw {op : BinOp} {T U : TypeId} {x y : Operand} {a b z : Int} (hop : o.op = .binOp op T x y U := by rfl) (hx : ev m x = some (.int .i64 a) := by rfl) (hy : ev m y = some (.int .i64 b) := by rfl) (hv : binI op .i64 a b = some (.int .i64 (IntKind.i64.wrap z)) := by rfl) (h1 : -9223372036854775808 ≤ z := by omega) (h2 : z ≤ 9223372036854775807 := by omega) : Evl P m L R o (.int .i64 z) := .cast (.bin hop hx hy hv) (wi h1 h2)
def tplaces (P : Program) (t : TypeId) : Option (List (Nat × Nat)) := match P.underlying t with
 | some (.struct fs) => fs.toList.mapM fun f => (P.info? f.type).map fun i => (f.offset, i.size)
 | _ => none
def evp (m : Sl) : List (Nat × Operand) → Option (List (Nat × Value))
 | [] => some []
 | (i, x) :: xs => match ev m x, evp m xs with
  | some v, some vs => some ((i, v) :: vs)
  | _, _ => none
theorem Slots.evp {m : Sl} {a : Act} (h : Slots m a) : ∀ {xs : List (Nat × Operand)} {vs : List (Nat × Value)}, S.evp m xs = some vs → xs.map (fun p => (p.1, a.eval p.2)) = vs
 | [], vs, he => by simp [S.evp] at he; subst he; rfl
 | (i, x) :: xs, vs, he => by
  unfold S.evp at he
  split at he
  ·next v us h1 h2 =>
   obtain rfl := Option.some.inj he
   rw [List.map_cons, h.ev h1, Slots.evp h h2]
  ·cases he
theorem run_mapM_places {P : Program} (w : World) : ∀ (fs : List Field) (ps : List (Nat × Nat)), fs.mapM (fun f => (P.info? f.type).map fun i => (f.offset, i.size)) = some ps → (fs.mapM fun f => (do pure (f.offset, ← sizeOf f.type) : Sem (Nat × Nat))).run P w = .ok ps w
 | [], ps, h => by simp at h; subst h; rfl
 | f :: fs, ps, h => by
  rw [List.mapM_cons] at h
  obtain ⟨p, hp, h⟩ := Option.bind_eq_some_iff.1 h
  obtain ⟨qs, hq, h⟩ := Option.bind_eq_some_iff.1 h
  obtain rfl := Option.some.inj h
  obtain ⟨i, hi, rfl⟩ := Option.map_eq_some_iff.1 hp
  have h1 : (do pure (f.offset, ← sizeOf f.type) : Sem (Nat × Nat)).run P w = .ok (f.offset, i.size) w := by simp [sizeOf, typeInfo, hi, go_sem]
  rw [List.mapM_cons, run_bind_ok h1, run_bind_ok (run_mapM_places w fs qs hq)]
  rfl
theorem Evl.build {T : TypeId} {zs : List Value} {ps : List (Nat × Nat)} (hz : tzero P T = some zs) (hp : tplaces P T = some ps) {parts : Array (Nat × Operand)} {vs : List (Nat × Value)} {cs : Array Value} (hop : o.op = .build T parts := by rfl) (hv : evp m parts.toList = some vs := by rfl) (hf : Instr.fill (fun i => ps[i]?) zs.toArray vs = some cs := by rfl) : Evl P m L R o (.agg cs) := fun a w hs _ => by
 have he := hs.evp hv
 generalize a.eval = ρ at he
 obtain ⟨z, hz1, hz2⟩ := tzero_run hz w
 unfold tplaces at hp
 split at hp
 ·next fs hu =>
  have hm : (fs.mapM fun f => (do pure (f.offset, ← sizeOf f.type) : Sem (Nat × Nat))).run P w = .ok ps.toArray w := by
   rw [Array.mapM_eq_mapM_toList]
   have := run_mapM_places (P := P) w fs.toList ps hp
   exact (run_bind_ok (f := fun x : List (Nat × Nat) => (Sem.pure x.toArray : Sem (Array (Nat × Nat)))) this).trans rfl
  have hparts : (parts.map fun (i, x) => (i, ρ x)).toList = vs := by simpa using he
  have hf' : Instr.fill (fun i => ps.toArray[i]?) z.cells vs = some cs := by rw [← hf, ← hz1]; simp
  have hun : (underlying T).run P w = .ok (.struct fs) w := by simp [underlying, hu, go_sem]
  have hb : (Instr.build T (parts.map fun (i, x) => (i, ρ x))).run P w = .ok (.agg cs) w := by
   unfold Instr.build
   rw [run_bind_ok hz2, run_bind_ok hun]
   dsimp only
   rw [run_bind_ok hm, hparts, hf']
   rfl
  unfold execOp
  simp only [hop]
  rw [run_bind_ok hb]
  rfl
 ·cases hp
def tptr (P : Program) (t : TypeId) : Bool := match P.underlying t with
 | some (.pointer _) => true
 | _ => false
theorem Evl.isnil {T U : TypeId} (hT : tptr P T = true) {x y : Operand} {p : Option Addr} (hop : o.op = .binOp .eql T x y U := by rfl) (hx : ev m x = some (.pointer p) := by rfl) (hy : ev m y = some (.pointer none) := by rfl) : Evl P m L R o (.bool p.isNone) := fun a w hs _ => by
 have he := hs.ev hx
 have hf := hs.ev hy
 generalize a.eval = ρ at he hf
 unfold tptr at hT
 split at hT
 ·next e hu =>
  have hun : (underlying T).run P w = .ok (.pointer e) w := by simp [underlying, hu, go_sem]
  have h1 : (Op.equal T (.pointer p) (.pointer none)).run P w = .ok p.isNone w := by
   show (Op.equalIn (9999 + 1) T (.pointer p) (.pointer none)).run P w = _
   unfold Op.equalIn
   rw [run_bind_ok hun]
   cases p <;> rfl
  have h2 : (binOp .eql T (.pointer p) (.pointer none)).run P w = .ok (.bool p.isNone) w := by
   show ((Op.equal T (.pointer p) (.pointer none)) >>= fun b => (pure (.bool b) : Sem Value)).run P w = _
   rw [run_bind_ok h1]; rfl
  have h0 : (eqGuard .eql T x y (.pointer p) (.pointer none)).run P w = .ok () w := by cases p <;> rfl
  have h3 : ((eqGuard .eql T x y (.pointer p) (.pointer none) >>= fun _ => binOp .eql T (.pointer p) (.pointer none)) : Sem Value).run P w = .ok (.bool p.isNone) w := by
   rw [run_bind_ok h0]; exact h2
  unfold execOp
  simp only [hop, he, hf]
  change ((eqGuard .eql T x y (.pointer p) (.pointer none) >>= fun _ => binOp .eql T (.pointer p) (.pointer none)) >>= fun u => (pure (.value u) : Sem Next)).run P w = _
  rw [run_bind_ok h3]
  rfl
 ·cases hT
def tstr (P : Program) (t : TypeId) : Bool := match P.underlying t with
 | some .string => true
 | _ => false
theorem run_builtin {P : Program} {b : Builtin} {az : Array Operand} {ts : Array TypeId} {a : Act} {o : Oper} {v : Value} {w : World} (hop : o.op = .call { callee := .builtin b, args := az, argTypes := ts }) (h : (builtin b ts o.type (az.map fun | .const _ => true | _ => false) (az.map a.eval)).run P w = .ok (.value v) w) : (execOp a.eval o).run P w = .ok (.value v) w := by
 unfold execOp
 simp only [hop]
 exact h
theorem Evl.lens {t : TypeId} (hT : tstr P t = true) {x : Operand} {s : ByteArray} {ts : Array TypeId} (hop : o.op = .call { callee := .builtin .len, args := #[x], argTypes := ts } := by rfl) (hts : ts[0]? = some t := by rfl) (hx : ev m x = some (.string s) := by rfl) : Evl P m L R o (.int .i64 (s.size : Int)) := fun a w hs _ => by
 have he := hs.ev hx
 unfold tstr at hT
 split at hT
 ·next hu =>
  have hun : (underlying t).run P w = .ok .string w := by simp [underlying, hu, go_sem]
  refine run_builtin hop ?_
  have h1 : (Builtin.len_ ts o.type #[.string s]).run P w = .ok (.int .i64 (s.size : Int)) w := by
   unfold Builtin.len_
   simp only [hts]
   show ((underlying t) >>= _).run P w = _
   rw [run_bind_ok hun]; rfl
  show ((Builtin.len_ ts o.type (#[x].map a.eval)) >>= fun v => (pure (.value v) : Sem Next)).run P w = _
  rw [show #[x].map a.eval = #[.string s] from by simp [he], run_bind_ok h1]; rfl
 ·cases hT
theorem Evl.lenl {t e : TypeId} {sz : Nat} (hT : tslice P t = some (e, sz)) {x : Operand} {ad : Option Addr} {n k : Nat} {ts : Array TypeId} (hop : o.op = .call { callee := .builtin .len, args := #[x], argTypes := ts } := by rfl) (hts : ts[0]? = some t := by rfl) (hx : ev m x = some (.slice ad n k) := by rfl) : Evl P m L R o (.int .i64 (n : Int)) := fun a w hs _ => by
 have he := hs.ev hx
 unfold tslice at hT
 split at hT
 ·next e' hu =>
  have hun : (underlying t).run P w = .ok (.slice e') w := by simp [underlying, hu, go_sem]
  refine run_builtin hop ?_
  have h1 : (Builtin.len_ ts o.type #[.slice ad n k]).run P w = .ok (.int .i64 (n : Int)) w := by
   unfold Builtin.len_
   simp only [hts]
   show ((underlying t) >>= _).run P w = _
   rw [run_bind_ok hun]; rfl
  show ((Builtin.len_ ts o.type (#[x].map a.eval)) >>= fun v => (pure (.value v) : Sem Next)).run P w = _
  rw [show #[x].map a.eval = #[.slice ad n k] from by simp [he], run_bind_ok h1]; rfl
 ·cases hT
theorem range_self (zs : List Value) : (List.range zs.length).map (fun i => zs.toArray[i]!) = zs := by
 apply List.ext_getElem
 ·simp
 ·intro i h1 h2
  simp at h1
  simp [h1]
theorem zero_row (zs : List Value) (h : 0 < zs.length) (len : Nat) : (Array.range (len * zs.length)).map (zs.toArray[· % zs.toArray.size]!) = (List.replicate len zs).flatten.toArray := by
 have key : ∀ len : Nat, (List.range (len * zs.length)).map (fun i => zs.toArray[i % zs.toArray.size]!) = (List.replicate len zs).flatten := by
  intro len
  induction len with
  | zero => simp
  | succ n ih =>
   rw [Nat.succ_mul, List.range_add, List.map_append, ih, List.replicate_succ', List.flatten_append, List.map_map]
   congr 1
   simp only [List.flatten_cons, List.flatten_nil, List.append_nil]
   have : (List.range zs.length).map ((fun i => zs.toArray[i % zs.toArray.size]!) ∘ (n * zs.length + ·)) = (List.range zs.length).map (fun i => zs.toArray[i]!) := by
    apply List.map_congr_left
    intro i hi
    have hi' : i < zs.length := by simpa using hi
    simp only [Function.comp, List.size_toArray]
    rw [Nat.mul_comm, Nat.mul_add_mod, Nat.mod_eq_of_lt hi']
   rw [this]; exact range_self zs
 apply Array.ext'
 rw [Array.toList_map, Array.toList_range]
 exact key len
theorem Rws.sl {T e : TypeId} {sz len : Nat} (hT : tslice P T = some (e, sz)) {zs : List Value} (hz : tzero P e = some zs) {parts : Array (Nat × Operand)} {vs : List (Nat × Value)} (cs : List Value) (hop : o.op = .buildSlice T len parts := by rfl) (hlen : (len * sz).blt 16777217 = true ∧ (len * sz == 0) = false ∧ zs.length = sz := by exact ⟨rfl, rfl, rfl⟩) (hv : evp m parts.toList = some vs := by rfl) (hf : Instr.fill (fun i => some (i * sz, sz)) (List.replicate len zs).flatten.toArray vs = some cs.toArray := by rfl) : Rws P m L R o cs e len := fun a w hs _ => by
  have he := hs.evp hv
  generalize a.eval = ρ at he
  obtain ⟨z, hz1, hz2⟩ := tzero_run hz w
  unfold tslice at hT
  split at hT
  · next e' hu =>
    obtain ⟨inf, hin, hT⟩ := Option.map_eq_some_iff.1 hT
    simp only [Prod.mk.injEq] at hT
    obtain ⟨rfl, rfl⟩ := hT
    have hun : (underlying T).run P w = .ok (.slice e') w := by simp [underlying, hu, go_sem]
    have hsz : (sizeOf e').run P w = .ok inf.size w := by simp [sizeOf, typeInfo, hin, go_sem]
    have hparts : (parts.map fun (i, x) => (i, ρ x)).toList = vs := by simpa using he
    have h1 : ¬ (len * inf.size > 2 ^ 24) := by have := blt hlen.1; omega
    have h2 : ¬ (len * inf.size = 0) := by have := hlen.2.1; simpa using this
    have h3 := hlen.2.2
    have hz4 : (Array.range (len * inf.size)).map (zs.toArray[· % zs.toArray.size]!) = (List.replicate len zs).flatten.toArray := by
      rw [← h3]; exact zero_row zs (by rcases Nat.eq_zero_or_pos zs.length with q | q; · rw [← h3, q] at h2; simp at h2
                                       · exact q) len
    have hzc : z.cells = zs.toArray := by rw [← hz1]
    have hb : (Instr.buildSlice T len (parts.map fun (i, x) => (i, ρ x))).run P w = .ok (.slice (some ⟨w.heap.size, 0, none⟩) len len) (w.alloc (.cells cs.toArray e' (0, 0))) := by
      unfold Instr.buildSlice
      rw [run_bind_ok hun]
      dsimp only
      rw [run_bind_ok hsz, if_neg h1]
      rw [if_neg h2, run_bind_ok hz2]
      rw [run_bind_ok (show (pure z.cells : Sem (Array Value)).run P w = .ok z.cells w from rfl)]
      rw [hzc, hz4, hparts, hf]
      rfl
    unfold execOp
    simp only [hop]
    rw [run_bind_ok hb]
    rfl
  · cases hT
theorem Evl.quo {T U : TypeId} {x y : Operand} {k : IntKind} {a b r : Int} (hb : b ≠ 0) (hr : k.wrap (a.tdiv b) = r) (hop : o.op = .binOp .quo T x y U := by rfl) (hx : ev m x = some (.int k a) := by rfl) (hy : ev m y = some (.int k b) := by rfl) : Evl P m L R o (.int k r) :=
 Evl.bin hop hx hy (by subst hr; show (if b = 0 then none else some (Value.int k (k.wrap (a.tdiv b)))) = _; rw [if_neg hb])
theorem Evl.rem {T U : TypeId} {x y : Operand} {k : IntKind} {a b r : Int} (hb : b ≠ 0) (hr : a.tmod b = r) (hop : o.op = .binOp .rem T x y U := by rfl) (hx : ev m x = some (.int k a) := by rfl) (hy : ev m y = some (.int k b) := by rfl) : Evl P m L R o (.int k r) :=
 Evl.bin hop hx hy (by subst hr; show (if b = 0 then none else some (Value.int k (a.tmod b))) = _; rw [if_neg hb])
theorem wr {x : Int} (h1 : -9223372036854775808 ≤ x) (h2 : x ≤ 9223372036854775807) : IntKind.i64.wrap x = x := by simp [IntKind.wrap, IntKind.bits, IntKind.signed]; omega
def tbool (P : Program) (t : TypeId) : Bool := match P.underlying t with
 | some .bool => true
 | _ => false
def tint (P : Program) (t : TypeId) : Bool := match P.underlying t with
 | some (.int _) => true
 | _ => false
theorem run_equal_bool {T : TypeId} (hT : tbool P T = true) (a b : Bool) (w : World) : (Op.equal T (.bool a) (.bool b)).run P w = .ok (a == b) w := by
 unfold tbool at hT
 split at hT
 ·next hu =>
  have hun : (underlying T).run P w = .ok .bool w := by simp [underlying, hu, go_sem]
  show (Op.equalIn (9999 + 1) T (.bool a) (.bool b)).run P w = _
  unfold Op.equalIn
  rw [run_bind_ok hun]
  rfl
 ·cases hT
theorem Evl.bne {T U : TypeId} (hT : tbool P T = true) {x y : Operand} {a b : Bool} (hop : o.op = .binOp .neq T x y U := by rfl) (hx : ev m x = some (.bool a) := by rfl) (hy : ev m y = some (.bool b) := by rfl) : Evl P m L R o (.bool !(a == b)) := fun ac w hs _ => by
 have he := hs.ev hx
 have hf := hs.ev hy
 generalize ac.eval = ρ at he hf
 have h2 : (binOp .neq T (.bool a) (.bool b)).run P w = .ok (.bool !(a == b)) w := by
  show ((Op.equal T (.bool a) (.bool b)) >>= fun b => (pure (.bool !b) : Sem Value)).run P w = _
  rw [run_bind_ok (run_equal_bool hT a b w)]; rfl
 have h0 : (eqGuard .neq T x y (.bool a) (.bool b)).run P w = .ok () w := rfl
 have h3 : ((eqGuard .neq T x y (.bool a) (.bool b) >>= fun _ => binOp .neq T (.bool a) (.bool b)) : Sem Value).run P w = .ok (.bool !(a == b)) w := by
  rw [run_bind_ok h0]; exact h2
 unfold execOp
 simp only [hop, he, hf]
 change ((eqGuard .neq T x y (.bool a) (.bool b) >>= fun _ => binOp .neq T (.bool a) (.bool b)) >>= fun u => (pure (.value u) : Sem Next)).run P w = _
 rw [run_bind_ok h3]
 rfl
def mx (a b : Int) : Int := if a < b then b else a
def mn (a b : Int) : Int := if b < a then b else a
theorem Evl.max2 {t : TypeId} (hT : tint P t = true) {x y : Operand} {a b : Int} {ts : Array TypeId} (hop : o.op = .call { callee := .builtin .max, args := #[x, y], argTypes := ts } := by rfl) (hx : ev m x = some (.int .i64 a) := by rfl) (hy : ev m y = some (.int .i64 b) := by rfl) : Evl P m L R o (.int .i64 (mx a b)) := fun ac w hs _ => by
 have he := hs.ev hx
 have hf := hs.ev hy
 refine run_builtin hop ?_
 show ((Builtin.max_ ts o.type (#[x, y].map ac.eval)) >>= fun v => (pure (.value v) : Sem Next)).run P w = _
 rw [show #[x, y].map ac.eval = #[.int .i64 a, .int .i64 b] from by simp [he, hf]]
 rfl
theorem Evl.min2 {t : TypeId} (hT : tint P t = true) {x y : Operand} {a b : Int} {ts : Array TypeId} (hop : o.op = .call { callee := .builtin .min, args := #[x, y], argTypes := ts } := by rfl) (hx : ev m x = some (.int .i64 a) := by rfl) (hy : ev m y = some (.int .i64 b) := by rfl) : Evl P m L R o (.int .i64 (mn a b)) := fun ac w hs _ => by
 have he := hs.ev hx
 have hf := hs.ev hy
 refine run_builtin hop ?_
 show ((Builtin.min_ ts o.type (#[x, y].map ac.eval)) >>= fun v => (pure (.value v) : Sem Next)).run P w = _
 rw [show #[x, y].map ac.eval = #[.int .i64 a, .int .i64 b] from by simp [he, hf]]
 rfl
theorem wu {x : Int} (h1 : 0 ≤ x) (h2 : x < 18446744073709551616) : IntKind.u64.wrap x = x := by simp [IntKind.wrap, IntKind.bits, IntKind.signed]; omega
theorem and32 {x : Int} (h0 : 0 ≤ x) (h1 : x < 18446744073709551616) : binI .and .u64 x 4294967295 = some (.int .u64 (x % 4294967296)) := by
 show some (Value.int .u64 (IntKind.u64.wrap (BitVec.ofInt 64 x &&& BitVec.ofInt 64 4294967295).toNat)) = _
 have e1 : (BitVec.ofInt 64 x).toNat = x.toNat := by rw [BitVec.toNat_ofInt]; congr 1; omega
 have e2 : (BitVec.ofInt 64 4294967295).toNat = 2 ^ 32 - 1 := by decide
 rw [BitVec.toNat_and, e1, e2, Nat.and_two_pow_sub_one_eq_mod, wu (by omega) (by omega)]
 congr 2; omega
theorem Evl.shr {T U : TypeId} {x y : Operand} {k ky : IntKind} {a r : Int} {n : Nat} (hn : n ≤ k.bits) (hr : a.fdiv (2 ^ n) = r) (hop : o.op = .binOp .shr T x y U := by rfl) (hx : ev m x = some (.int k a) := by rfl) (hy : ev m y = some (.int ky (n : Int)) := by rfl) : Evl P m L R o (.int k r) := fun ac w hs _ => by
 have he := hs.ev hx
 have hf := hs.ev hy
 generalize ac.eval = ρ at he hf
 have h2 : (binOp .shr T (.int k a) (.int ky (n : Int))).run P w = .ok (.int k r) w := by
  show (Op.shift .shr k a ky (n : Int)).run P w = _
  unfold Op.shift
  rw [if_neg (by omega)]
  have : min (n : Int).toNat k.bits = n := by simp; omega
  simp only [this, hr]
  rfl
 have h0 : (eqGuard .shr T x y (.int k a) (.int ky (n : Int))).run P w = .ok () w := rfl
 have h3 : ((eqGuard .shr T x y (.int k a) (.int ky (n : Int)) >>= fun _ => binOp .shr T (.int k a) (.int ky (n : Int))) : Sem Value).run P w = .ok (.int k r) w := by
  rw [run_bind_ok h0]; exact h2
 unfold execOp
 simp only [hop, he, hf]
 change ((eqGuard .shr T x y (.int k a) (.int ky (n : Int)) >>= fun _ => binOp .shr T (.int k a) (.int ky (n : Int))) >>= fun u => (pure (.value u) : Sem Next)).run P w = _
 rw [run_bind_ok h3]
 rfl
def tkind (P : Program) (t : TypeId) : Option IntKind := match P.underlying t with
 | some (.int k) => some k
 | _ => none
theorem Evl.cvi {S T : TypeId} {k k' : IntKind} {a r : Int} (hS : tkind P S = some k') (hT : tkind P T = some k) (hr : k.wrap a = r) {x : Operand} (hop : o.op = .convert S T x := by rfl) (hx : ev m x = some (.int k' a) := by rfl) : Evl P m L R o (.int k r) := fun ac w hs _ => by
 have he := hs.ev hx
 generalize ac.eval = ρ at he
 unfold tkind at hS hT
 split at hS
 ·next k1 hu =>
  split at hT
  ·next k2 hv =>
   obtain rfl := Option.some.inj hT
   have h1 : (underlying S).run P w = .ok (.int k1) w := by simp [underlying, hu, go_sem]
   have h2 : (underlying T).run P w = .ok (.int k2) w := by simp [underlying, hv, go_sem]
   have hb : (convert S T (.int k' a)).run P w = .ok (.int k2 r) w := by
    unfold convert
    rw [run_bind_ok h1, run_bind_ok h2]
    subst hr
    rfl
   unfold execOp
   simp only [hop, he]
   rw [run_bind_ok hb]
   rfl
  ·cases hT
 ·cases hS
end
def Left (w : World) (F : List Nat) (post : Value → List Ent → Prop) (e : Ending) (w' : World) : Prop := ∃ v Ln, e = .returned v ∧ post v Ln ∧ Fr w w' F ∧ (∀ x ∈ Ln, x.H w') ∧ (ids Ln).Nodup ∧ ∀ k ∈ ids Ln, k ∈ F ∨ w.heap.size ≤ k
def Spec (P : Program) (f : FuncId) (args : List Value) (Lf Rf : List Ent) (post : Value → List Ent → Prop) : Prop := ∀ w, (∀ e ∈ Lf, e.H w) → (∀ e ∈ Rf, e.H w) → (ids Lf).Nodup → (∀ k ∈ ids Lf, k ∉ ids Rf) → Calls P f args.toArray w (Left w (ids Lf) post)
theorem Spec.mono {P : Program} {f : FuncId} {args : List Value} {Lf Rf : List Ent} {post post' : Value → List Ent → Prop} (h : Spec P f args Lf Rf post) (hp : ∀ v Ln, post v Ln → post' v Ln) : Spec P f args Lf Rf post' := fun w h1 h2 h3 h4 => (h w h1 h2 h3 h4).mono fun _ _ ⟨v, Ln, he, p, q⟩ => ⟨v, Ln, he, hp v Ln p, q⟩
def Is (P : Program) (f : FuncId) : Prop := ∃ fn, P.funcs[f]? = some fn ∧ (fn.name == "runtime.NumGoroutine") = false ∧ fn.body.isSome = true
def evs (m : Sl) : List Operand → Option (List Value)
 | [] => some []
 | x :: xs => match ev m x, evs m xs with
  | some v, some vs => some (v :: vs)
  | _, _ => none
theorem Slots.evs {m : Sl} {a : Act} (h : Slots m a) : ∀ {xs : List Operand} {vs : List Value}, S.evs m xs = some vs → xs.map a.eval = vs
 | [], vs, he => by simp [S.evs] at he; subst he; rfl
 | x :: xs, vs, he => by
  unfold S.evs at he
  split at he
  ·next v us h1 h2 =>
   obtain rfl := Option.some.inj he
   rw [List.map_cons, h.ev h1, Slots.evs h h2]
  ·cases he
def pick : List Nat → List Ent → Option (List Ent × List Ent)
 | [], L => some ([], L)
 | i :: is, L => match L[i]? with
  | none => none
  | some e => match pick is (L.eraseIdx i) with
   | none => none
   | some (a, b) => some (e :: a, b)
theorem pick_perm : ∀ {is : List Nat} {L A B : List Ent}, pick is L = some (A, B) → L.Perm (A ++ B)
 | [], L, A, B, h => by simp [pick] at h; obtain ⟨rfl, rfl⟩ := h; exact .refl _
 | i :: is, L, A, B, h => by
  unfold pick at h
  split at h
  ·cases h
  ·next e he =>
   split at h
   ·cases h
   ·next a b hab =>
    simp at h
    obtain ⟨rfl, rfl⟩ := h
    exact (perm_front he).trans ((pick_perm hab).cons e)
section
variable {P : Program} {Q : Exit → Act → World → Prop} {c : Ctx} {m : Sl} {L R : List Ent} {ops : Array Oper} {rest : List Oper} {o : Oper}
theorem St.called {w0 w w' : World} {F : List Nat} {Lf Lr : List Ent} {post : Value → List Ent → Prop} {e : Ending} (h : St w0 F w L R) (p : L.Perm (Lf ++ Lr)) (q : Left w (ids Lf) post e w') : ∃ v Ln, e = .returned v ∧ post v Ln ∧ St w0 F w' (Ln ++ Lr) R := by
 obtain ⟨v, Ln, he, hp, hf, hl, hn, ho⟩ := q
 exact ⟨v, Ln, he, hp, St.step (h.perm p) hf hl hn ho⟩
theorem run_enter {f : FuncId} {az : Array Operand} {ts : Array TypeId} {args : List Value} {a : Act} (hf : Is P f) (hop : o.op = .call { callee := .value (.func f), args := az, argTypes := ts }) (hargs : az.toList.map a.eval = args) (w : World) : (execOp a.eval o).run P w = .ok (.enter f args.toArray) w := by
 obtain ⟨fn, h1, h2, h3⟩ := hf
 have he := enters_ h1 h2 h3 args.toArray w
 have ha : az.map a.eval = args.toArray := by rw [← hargs]; apply Array.ext'; simp
 unfold execOp
 simp [hop, resolve, Deferred.ofValue, invoke, Act.eval, ha, he]
theorem St.spec {w0 w : World} {F : List Nat} {f : FuncId} {args : List Value} {Lf Lr Rf : List Ent} {post : Value → List Ent → Prop} (sp : Spec P f args Lf Rf post) (h : St w0 F w L R) (p : L.Perm (Lf ++ Lr)) (hR : ∀ e ∈ Rf, e ∈ R ∨ e ∈ Lr) : Calls P f args.toArray w (Left w (ids Lf) post) := by
 have h' := h.perm p
 have nd := h'.nd
 rw [ids_append] at nd
 refine sp w (fun e he => h'.l e (List.mem_append_left _ he)) (fun e he => ?_) (List.nodup_append.1 nd).1 (fun k hk hr => ?_)
 ·rcases hR e he with q | q
  ·exact h'.r e q
  ·exact h'.l e (List.mem_append_right _ q)
 ·obtain ⟨e, he, hke⟩ := mem_ids.1 hr
  rcases hR e he with q | q
  ·exact h'.lr k (by rw [ids_append]; exact List.mem_append_left _ hk) (mem_ids.2 ⟨e, q, hke⟩)
  ·exact (List.nodup_append.1 nd).2.2 k hk k (mem_ids.2 ⟨e, q, hke⟩) rfl
def sub (R : List Ent) : List Nat → Option (List Ent)
 | [] => some []
 | i :: is => match R[i]?, sub R is with
  | some e, some es => some (e :: es)
  | _, _ => none
theorem sub_mem : ∀ {is : List Nat} {R A : List Ent}, sub R is = some A → ∀ e ∈ A, e ∈ R
 | [], R, A, h => by simp [sub] at h; subst h; simp
 | i :: is, R, A, h => by
  unfold sub at h
  split at h
  ·next e es h1 h2 =>
   obtain rfl := Option.some.inj h
   intro x hx
   rcases List.mem_cons.1 hx with rfl | q
   ·exact List.mem_of_getElem? h1
   ·exact sub_mem h2 x q
  ·cases h
theorem G.C (N : Nat) (is rs : List Nat) {f : FuncId} {az : Array Operand} {ts : Array TypeId} {args : List Value} {Lf Lr Rf : List Ent} {post : Value → List Ent → Prop} (hf : Is P f) (sp : Spec P f args Lf Rf post) (h : ∀ v Ln, post v Ln → G c ((N, v) :: m) (Ln ++ Lr) R (wpList P ops Q rest)) (hop : o.op = .call { callee := .value (.func f), args := az, argTypes := ts } := by rfl) (hargs : evs m az.toList = some args := by rfl) (hp : pick is L = some (Lf, Lr) := by rfl) (hR : sub (R ++ Lr) rs = some Rf := by rfl) (hd : o.dst = some N := by rfl) (hN : N.blt c.n = true := by rfl) (hw : wants ops m o = some true := by rfl) : G c m L R (wpList P ops Q (o :: rest)) := fun a w ok => wpList_step fun K hK => by
 rw [wants_spec ok.m hw, if_pos rfl]
 unfold Oper.wp
 rw [run_enter hf hop (ok.m.evs hargs) w, Oper.upon_enter]
 have hc := St.spec sp ok.st (pick_perm hp) (fun e he => List.mem_append.1 (sub_mem hR e he))
 refine hc.mono fun e w' q => ?_
 obtain ⟨v, Ln, rfl, hpost, st⟩ := St.called ok.st (pick_perm hp) q
 dsimp only
 rw [hd]
 exact hK _ _ (h v Ln hpost _ _ ((ok.put v (blt hN)).world st))
theorem G.cp (N : Nat) (is rs : List Nat) {f : FuncId} {az : Array Operand} {ts : Array TypeId} {args : List Value} {Lf Lr Rf : List Ent} {u : Value} (hf : Is P f) (sp : Spec P f args Lf Rf (fun v Ln => v = u ∧ Ln = [])) (h : G c ((N, u) :: m) Lr R (wpList P ops Q rest)) (hop : o.op = .call { callee := .value (.func f), args := az, argTypes := ts } := by rfl) (hargs : evs m az.toList = some args := by rfl) (hp : pick is L = some (Lf, Lr) := by rfl) (hR : sub (R ++ Lr) rs = some Rf := by rfl) (hd : o.dst = some N := by rfl) (hN : N.blt c.n = true := by rfl) (hw : wants ops m o = some true := by rfl) : G c m L R (wpList P ops Q (o :: rest)) := G.C N is rs hf sp (by rintro _ _ ⟨rfl, rfl⟩; exact h) hop hargs hp hR hd hN hw
def begin_ : Nat → List Value → Sl
 | _, [] => []
 | k, v :: vs => (k, v) :: begin_ (k + 1) vs
theorem lk_begin (vs : List Value) : ∀ k t v, lk (begin_ k vs) t = some v → k ≤ t ∧ vs[t - k]? = some v := by
 induction vs with
 | nil => intro k t v h; cases h
 | cons u vs ih =>
  intro k t v h
  rw [begin_, lk_cons] at h
  by_cases q : k = t
  ·subst q; rw [if_pos rfl] at h; simpa using h
  ·rw [if_neg q] at h
   obtain ⟨h1, h2⟩ := ih (k + 1) t v h
   refine ⟨by omega, ?_⟩
   rw [show t - k = (t - (k + 1)) + 1 from by omega]; simpa using h2
theorem Spec.enter {f : FuncId} {fn : Func} {x : Code} {n : Nat} {args : List Value} {Lf Rf : List Ent} {post : Value → List Ent → Prop} (hf : P.funcs[f]? = some fn) (hn : fn.ntmps = n) (hb : fn.body = some x) (hl : args.length.ble n = true)
  (h : ∀ w0, G ⟨n, [], w0, ids Lf⟩ (begin_ 0 args) Lf Rf (x.wp P (bodyPost P fn (Left w0 (ids Lf) post)))) : Spec P f args Lf Rf post := by
 intro w h1 h2 h3 h4
 refine calls_of_wp hf hb (h w _ w ⟨?_, rfl, ?_, ⟨Fr.refl w _, h1, h2, h3, h4, fun k hk => .inl hk⟩⟩)
 ·have := Nat.le_of_ble_eq_true hl; simp [hn]; omega
 ·intro t v ht
  obtain ⟨_, q⟩ := lk_begin args 0 t v ht
  rw [Nat.sub_zero] at q
  have hlt : t < args.length := by
   rcases Nat.lt_or_ge t args.length with z | z
   ·exact z
   ·rw [List.getElem?_eq_none z] at q; cases q
  show (args.toArray ++ _)[t]? = some v
  rw [Array.getElem?_append_left (by simpa using hlt)]
  simpa using q
def Res (P : Program) (m : Sl) (L R : List Ent) (fn : Func) (v : Value) : Prop := ∀ a w, Slots m a → Hd L R w → (results fn a.tmps).run P w = .ok v w
theorem St.only {w0 w : World} {F : List Nat} {A B : List Ent} (h : St w0 F w (A ++ B) R) : St w0 F w A R := by
 have nd := h.nd
 rw [ids_append] at nd
 exact ⟨h.fr, fun e he => h.l e (List.mem_append_left _ he), h.r, (List.nodup_append.1 nd).1, fun k hk => h.lr k (by rw [ids_append]; exact List.mem_append_left _ hk), fun k hk => h.own k (by rw [ids_append]; exact List.mem_append_left _ hk)⟩
theorem G.only {X : Act → World → Prop} (is : List Nat) {A B : List Ent} (g : G c m A R X) (hp : pick is L = some (A, B) := by rfl) : G c m L R X := fun a w ok => g a w (ok.world (ok.st.perm (pick_perm hp)).only)
theorem G.F {fn : Func} {v : Value} {post : Value → List Ent → Prop} (is : List Nat) {A B : List Ent} (hr : Res P m L R fn v) (hp : post v A) (hi : pick is L = some (A, B) := by rfl) (hc : c.ds = [] := by rfl) : G c m L R (bodyPost P fn (Left c.w0 c.F post) .ret) := fun a w ok =>
 have st := (ok.st.perm (pick_perm hi)).only
 ⟨ok.ds.trans hc, v, hr a w ok.m ok.hd, v, A, rfl, hp, st.fr, st.l, st.nd, st.own⟩
theorem Res.nil {fn : Func} (h : fn.results = #[]) : Res P m L R fn (.tuple #[]) := fun a w _ _ => by simp [results, h, go_sem]
theorem Res.one {fn : Func} {t : Nat} {v : Value} (h : fn.results = #[.tmp t]) (hv : lk m t = some v := by rfl) : Res P m L R fn v := fun a w hs _ => by simp [results, h, go_sem, hs t v hv]
theorem Res.two {fn : Func} {t u : Nat} {v z : Value} (h : fn.results = #[.tmp t, .tmp u]) (hv : lk m t = some v := by rfl) (hz : lk m u = some z := by rfl) : Res P m L R fn (.tuple #[v, z]) := fun a w hs _ => by simp [results, h, go_sem, hs t v hv, hs u z hz]
theorem Res.cell {fn : Func} {p T n g : Nat} {cs vs : List Value} {e : Ent} (h : fn.results = #[.cell p T]) (hT : tsz P T = some (true, n)) (i : Nat) (hp : lk m p = some (.pointer (some ⟨g, 0, none⟩)) := by rfl) (hi : (L ++ R)[i]? = some e := by rfl) (hc : Cel e g cs := by first | exact Cel.blk _ _ _ | exact Cel.ro _ _ _) (hv : (cs.drop 0).take n = vs := by rfl) (hn : vs.length = n := by rfl) : Res P m L R fn (.agg vs.toArray) := fun a w hs hd => by
 have hH : e.H w := by
  rcases List.mem_append.1 (List.mem_of_getElem? hi) with q | q
  ·exact hd.1 e q
  ·exact hd.2 e q
 have hl : (loadCells ⟨g, 0, none⟩ n).run P w = .ok vs.toArray w := run_loadCells _ vs hn fun k v hk => by
  rw [add_at, hc w hH]
  subst hv
  rw [List.getElem?_take] at hk
  split at hk
  ·rw [List.getElem?_drop] at hk; exact hk
  ·cases hk
 unfold loadCells at hl
 have hq := hs p _ hp
 simp [results, h, asAddr, hq, run_isAgg hT, run_sizeOf hT, hl, Sem.run_bind, Result.andThen, go_sem]
theorem Res.cell1 {fn : Func} {p T n g u : Nat} {cs vs : List Value} {e : Ent} {z : Value} (h : fn.results = #[.cell p T, .tmp u]) (hT : tsz P T = some (true, n)) (i : Nat) (hp : lk m p = some (.pointer (some ⟨g, 0, none⟩)) := by rfl) (hz : lk m u = some z := by rfl) (hi : (L ++ R)[i]? = some e := by rfl) (hc : Cel e g cs := by first | exact Cel.blk _ _ _ | exact Cel.ro _ _ _) (hv : (cs.drop 0).take n = vs := by rfl) (hn : vs.length = n := by rfl) : Res P m L R fn (.tuple #[.agg vs.toArray, z]) := fun a w hs hd => by
 have hH : e.H w := by
  rcases List.mem_append.1 (List.mem_of_getElem? hi) with q | q
  ·exact hd.1 e q
  ·exact hd.2 e q
 have hl : (loadCells ⟨g, 0, none⟩ n).run P w = .ok vs.toArray w := run_loadCells _ vs hn fun k v hk => by
  rw [add_at, hc w hH]
  subst hv
  rw [List.getElem?_take] at hk
  split at hk
  ·rw [List.getElem?_drop] at hk; exact hk
  ·cases hk
 unfold loadCells at hl
 have hq := hs p _ hp
 have hy := hs u z hz
 simp [results, h, asAddr, hq, hy, run_isAgg hT, run_sizeOf hT, hl, Sem.run_bind, Result.andThen, go_sem]
end
theorem Spec.en {P : Program} {f : FuncId} {fn : Func} {x : Code} {n : Nat} {args : List Value} {Lf Rf : List Ent} {post : Value → List Ent → Prop} (hf : P.funcs[f]? = some fn) (hn : fn.ntmps = n) (h : ∀ w0, G ⟨n, [], w0, ids Lf⟩ (begin_ 0 args) Lf Rf (x.wp P (bodyPost P fn (Left w0 (ids Lf) post)))) (hb : fn.body = some x := by rfl) (hl : args.length.ble n = true := by rfl) : Spec P f args Lf Rf post := Spec.enter hf hn hb hl h
def bs (n m : Nat) : Array Bool := ((List.range n).map fun i => m.testBit i).toArray
def opAt (ops : Array Oper) (i : Nat) : Oper := (ops[i]?).getD default
theorem opAt_spec {ops : Array Oper} {i : Nat} (h : i.blt ops.size = true) : ops[i]? = some (opAt ops i) := by
 have := blt h
 unfold opAt
 rw [Array.getElem?_eq_getElem this]; rfl
section
variable {P : Program} {Q : Exit → Act → World → Prop} {c : Ctx} {m : Sl} {L R : List Ent} {ops : Array Oper} {Ls Rs : List Ent} {ds : List Nat} {n k0 fuel : Nat}
theorem Hd.sub {w : World} {ls rs : List Nat} (h1 : sub L ls = some Ls) (h2 : sub R rs = some Rs) (h : Hd L R w) : Hd Ls Rs w := ⟨fun e he => h.1 e (sub_mem h1 e he), fun e he => h.2 e (sub_mem h2 e he)⟩
abbrev D (P : Program) (ops : Array Oper) (Q : Exit → Act → World → Prop) (Ls Rs : List Ent) (ds : List Nat) (fuel n k : Nat) : Act → World → Prop := wpAnyLast P .any ops Q (Hd Ls Rs) ds fuel (bs n k)
theorem G.draw (n : Nat) (ls rs ds : List Nat) {id : Nat} (h : G c m L R (D P ops Q Ls Rs ds n n 0)) (hm : P.follows .mixedOrders = true := by kernel_rfl) (h1 : sub L ls = some Ls := by rfl) (h2 : sub R rs = some Rs := by rfl) (hn : ops.size = n := by rfl) (hl : Array.replicate n false = bs n 0 := by kernel_rfl) : G c m L R ((Code.region id ops true).wp P Q) := fun a w ok =>
 start_ (bs n 0) hm hn hl (Hd.sub h1 h2 (ok.world ok.st.drew).hd) fun _ => h a w.drew (ok.world ok.st.drew)
theorem wants_yes {o : Oper} {a : Act} (h : Slots m a) (hw : wants ops m o = some true) : Region.wanted o (yielded ops a.tmps) = true := wants_spec h hw
theorem D.V (i N k : Nat) {v : Value} (he : Evl P m [] [] (opAt ops i) v) (h : G c ((N, v) :: m) L R (D P ops Q Ls Rs ds fuel n k)) (hi : i.blt ops.size = true := by rfl) (hd : (opAt ops i).dst = some N := by rfl) (hN : N.blt c.n = true := by rfl) (hw : wants ops m (opAt ops i) = some true := by rfl) (hc : anyB .any ops (bs n k0) (bs n k) i = true := by kernel_rfl) (hQ : ∀ c a w, Q (.panic c) (a.put (opAt ops i).dst v) w → Q (.panic c) a w := by exact fun _ _ _ h => h) : G c m L R (D P ops Q Ls Rs ds (fuel + 1) n k0) := fun a w ok =>
 pure_ (bs n k) (opAt_spec hi) hd hc hQ (.inl ⟨wants_yes ok.m hw, fun w' => he a w' ok.m ⟨by simp, by simp⟩⟩) rfl (h _ _ (ok.put v (blt hN)))
theorem D.off (i N k : Nat) (h : G c ((N, undef) :: m) L R (D P ops Q Ls Rs ds fuel n k)) (hi : i.blt ops.size = true := by rfl) (hd : (opAt ops i).dst = some N := by rfl) (hN : N.blt c.n = true := by rfl) (hw : wants ops m (opAt ops i) = some false := by rfl) (hc : anyB .any ops (bs n k0) (bs n k) i = true := by kernel_rfl) (hQ : ∀ c a w, Q (.panic c) (a.put (opAt ops i).dst undef) w → Q (.panic c) a w := by exact fun _ _ _ h => h) : G c m L R (D P ops Q Ls Rs ds (fuel + 1) n k0) := fun a w ok =>
 pure_ (bs n k) (opAt_spec hi) hd hc hQ (.inr ⟨wants_spec ok.m hw, rfl⟩) rfl (h _ _ (ok.put undef (blt hN)))
theorem D.T (i N k : Nat) {v : Value} (he : Evl P m Ls Rs (opAt ops i) v) (ls rs : List Nat) (h : G c ((N, v) :: m) L R (D P ops Q Ls Rs ds fuel n k)) (h1 : sub L ls = some Ls := by rfl) (h2 : sub R rs = some Rs := by rfl) (hi : i.blt ops.size = true := by rfl) (hd : (opAt ops i).dst = some N := by rfl) (hN : N.blt c.n = true := by rfl) (hw : wants ops m (opAt ops i) = some true := by rfl) (hc : takeB .any ops ds (bs n k0) (bs n k) i = true := by kernel_rfl) (hQ : ∀ c a w, Q (.panic c) (a.put (opAt ops i).dst v) w → Q (.panic c) a w := by exact fun _ _ _ h => h) : G c m L R (D P ops Q Ls Rs ds (fuel + 1) n k0) := fun a w ok =>
 take_ (bs n k) (opAt_spec hi) hd hc hQ (.inl ⟨wants_yes ok.m hw, fun w' hw' => he a w' ok.m hw'⟩) (Hd.sub h1 h2 ok.hd) rfl (h _ _ (ok.put v (blt hN)))
theorem D.done (h : G c m L R (Q .normal)) (hr : (Region.ready .any ops (bs n k0) == []) = true := by kernel_rfl) : G c m L R (D P ops Q Ls Rs ds fuel n k0) := fun a w ok => done_ hr (h a w ok)
theorem D.one (i N k : Nat) {v : Value} (he : Evl P m L R (opAt ops i) v) (ls rs : List Nat) (h : G c ((N, v) :: m) L R (D P ops Q Ls Rs ds fuel n k)) (h1 : sub L ls = some Ls := by rfl) (h2 : sub R rs = some Rs := by rfl) (hi : i.blt ops.size = true := by rfl) (hd : (opAt ops i).dst = some N := by rfl) (hN : N.blt c.n = true := by rfl) (hw : wants ops m (opAt ops i) = some true := by rfl) (hc : readyB .any ops (bs n k0) (bs n k) i = true := by kernel_rfl) (hn : i ∉ ds := by decide) : G c m L R (D P ops Q Ls Rs ds (fuel + 1) n k0) := fun a w ok =>
 one_ (bs n k) (opAt_spec hi) hd hc hn fun K hK => by
  rw [if_pos (wants_yes ok.m hw)]
  unfold Oper.wp
  rw [he a w ok.m ok.hd, Oper.upon_value, hd]
  have ok' := ok.put v (blt hN)
  exact hK.out _ _ (Hd.sub h1 h2 ok'.hd) fun _ => h _ _ ok'
theorem D.mk (i N k : Nat) {cs : List Value} {t : TypeId} (he : Mks P m L R (opAt ops i) cs t) (ls rs : List Nat) (h : ∀ g : Nat, G c ((N, .pointer (some ⟨g, 0, none⟩)) :: m) (blk g cs t :: L) R (D P ops Q Ls Rs ds fuel n k)) (h1 : sub L ls = some Ls := by rfl) (h2 : sub R rs = some Rs := by rfl) (hi : i.blt ops.size = true := by rfl) (hd : (opAt ops i).dst = some N := by rfl) (hN : N.blt c.n = true := by rfl) (hw : wants ops m (opAt ops i) = some true := by rfl) (hc : readyB .any ops (bs n k0) (bs n k) i = true := by kernel_rfl) (hn : i ∉ ds := by decide) : G c m L R (D P ops Q Ls Rs ds (fuel + 1) n k0) := fun a w ok =>
 one_ (bs n k) (opAt_spec hi) hd hc hn fun K hK => by
  rw [if_pos (wants_yes ok.m hw)]
  unfold Oper.wp
  rw [he a w ok.m ok.hd, Oper.upon_value, hd]
  have st := ok.st.alloc cs t
  have ok' := (ok.put (.pointer (some ⟨w.heap.size, 0, none⟩)) (blt hN)).world st
  exact hK.out _ _ (Hd.sub h1 h2 ⟨fun e he => st.l e (List.mem_cons_of_mem _ he), st.r⟩) fun _ => h _ _ _ ok'
theorem D.sto (i k p : Nat) {g j : Nat} {cs vs : List Value} {t : TypeId} (he : Sts P m L R (opAt ops i) g j vs) (ls rs : List Nat) (hp : L[p]? = some (blk g cs t)) (h : G c m (L.set p (blk g (sets cs j vs) t)) R (D P ops Q Ls Rs ds fuel n k)) (h1 : sub (L.set p (blk g (sets cs j vs) t)) ls = some Ls := by rfl) (h2 : sub R rs = some Rs := by rfl) (hi : i.blt ops.size = true := by rfl) (hd : (opAt ops i).dst = none := by rfl) (hw : wants ops m (opAt ops i) = some true := by rfl) (hc : readyB .any ops (bs n k0) (bs n k) i = true := by kernel_rfl) (hn : i ∉ ds := by decide) : G c m L R (D P ops Q Ls Rs ds (fuel + 1) n k0) := fun a w ok =>
 one_ (bs n k) (opAt_spec hi) hd hc hn fun K hK => by
  rw [if_pos (wants_yes ok.m hw)]
  unfold Oper.wp
  rw [he a w ok.m ok.hd, Oper.upon_skip, hd]
  have ok' := (ok.put_none undef).world (ok.st.stores vs j w L p cs hp)
  exact hK.out _ _ (Hd.sub h1 h2 ok'.hd) fun _ => h _ _ ok'
theorem D.last (i k p : Nat) {g j : Nat} {cs vs : List Value} {t : TypeId} (he : Sts P m L R (opAt ops i) g j vs) (hp : L[p]? = some (blk g cs t)) (h : G c m (L.set p (blk g (sets cs j vs) t)) R (D P ops Q Ls Rs ds fuel n k)) (hi : i.blt ops.size = true := by rfl) (hd : (opAt ops i).dst = none := by rfl) (hw : wants ops m (opAt ops i) = some true := by rfl) (hc : readyB .any ops (bs n k0) (bs n k) i = true := by kernel_rfl) (hn : i ∈ ds := by decide) : G c m L R (D P ops Q Ls Rs ds (fuel + 1) n k0) := fun a w ok =>
 last_ (bs n k) (opAt_spec hi) hd hc hn fun K hK => by
  rw [if_pos (wants_yes ok.m hw)]
  unfold Oper.wp
  rw [he a w ok.m ok.hd, Oper.upon_skip, hd]
  exact hK.out _ _ (h _ _ ((ok.put_none undef).world (ok.st.stores vs j w L p cs hp)))
theorem D.C (i N k : Nat) (is qs ls rs : List Nat) {f : FuncId} {az : Array Operand} {ts : Array TypeId} {args : List Value} {Lf Lr Rf : List Ent} {post : Value → List Ent → Prop} (hf : Is P f) (sp : Spec P f args Lf Rf post) (h : ∀ v Ln, post v Ln → G c ((N, v) :: m) (Ln ++ Lr) R (D P ops Q Ls Rs ds fuel n k)) (hop : (opAt ops i).op = .call { callee := .value (.func f), args := az, argTypes := ts } := by rfl) (hargs : evs m az.toList = some args := by rfl) (hp : pick is L = some (Lf, Lr) := by rfl) (hR : sub (R ++ Lr) qs = some Rf := by rfl) (h1 : sub Lr ls = some Ls := by rfl) (h2 : sub R rs = some Rs := by rfl) (hi : i.blt ops.size = true := by rfl) (hd : (opAt ops i).dst = some N := by rfl) (hN : N.blt c.n = true := by rfl) (hw : wants ops m (opAt ops i) = some true := by rfl) (hc : readyB .any ops (bs n k0) (bs n k) i = true := by kernel_rfl) (hn : i ∉ ds := by decide) : G c m L R (D P ops Q Ls Rs ds (fuel + 1) n k0) := fun a w ok =>
 one_ (bs n k) (opAt_spec hi) hd hc hn fun K hK => by
  rw [if_pos (wants_yes ok.m hw)]
  unfold Oper.wp
  rw [run_enter hf hop (ok.m.evs hargs) w, Oper.upon_enter]
  refine (St.spec sp ok.st (pick_perm hp) (fun e he => List.mem_append.1 (sub_mem hR e he))).mono fun e w' q => ?_
  obtain ⟨v, Ln, rfl, hpost, st⟩ := St.called ok.st (pick_perm hp) q
  dsimp only
  rw [hd]
  have ok' := (ok.put v (blt hN)).world st
  exact hK.out _ _ (Hd.sub h1 h2 ⟨fun e he => st.l e (List.mem_append_right _ he), st.r⟩) fun _ => h v Ln hpost _ _ ok'
def Evt (P : Program) (ops : Array Oper) (Q : Exit → Act → World → Prop) (Ls Rs : List Ent) (ds : List Nat) (fuel n k i : Nat) (a : Act) (w : World) : Prop := ∀ K : Act → World → Prop, Shut (∀ a' w', Hd Ls Rs w' → (Hd Ls Rs w' → wpAnyLast P .any ops Q (Hd Ls Rs) ds fuel (bs n k) a' w') → K a' w') → if Region.wanted (opAt ops i) (yielded ops a.tmps) = true then Oper.wp P (opAt ops i) a w K Q else K (a.put (opAt ops i).dst undef) w
theorem D.two (i j ki kj : Nat) (h1 : G c m L R (Evt P ops Q Ls Rs ds fuel n ki i)) (h2 : G c m L R (Evt P ops Q Ls Rs ds fuel n kj j)) (hc : (Region.ready .any ops (bs n k0) == [i, j] && (bs n k0).setIfInBounds i true == bs n ki && (bs n k0).setIfInBounds j true == bs n kj) = true := by kernel_rfl) (hi : i.blt ops.size = true := by rfl) (hj : j.blt ops.size = true := by rfl) (hdi : i ∉ ds := by decide) (hdj : j ∉ ds := by decide) : G c m L R (D P ops Q Ls Rs ds (fuel + 1) n k0) := fun a w ok =>
 two_ (bs n ki) (bs n kj) (opAt_spec hi) (opAt_spec hj) rfl rfl hc hdi hdj (h1 a w ok) (h2 a w ok)
theorem E.mk (i N : Nat) {k : Nat} {cs : List Value} {t : TypeId} (he : Mks P m L R (opAt ops i) cs t) (ls rs : List Nat) (h : ∀ g : Nat, G c ((N, .pointer (some ⟨g, 0, none⟩)) :: m) (blk g cs t :: L) R (D P ops Q Ls Rs ds fuel n k)) (h1 : sub L ls = some Ls := by rfl) (h2 : sub R rs = some Rs := by rfl) (hd : (opAt ops i).dst = some N := by rfl) (hN : N.blt c.n = true := by rfl) (hw : wants ops m (opAt ops i) = some true := by rfl) : G c m L R (Evt P ops Q Ls Rs ds fuel n k i) := fun a w ok K hK => by
 rw [if_pos (wants_yes ok.m hw)]
 unfold Oper.wp
 rw [he a w ok.m ok.hd, Oper.upon_value, hd]
 have st := ok.st.alloc cs t
 have ok' := (ok.put (.pointer (some ⟨w.heap.size, 0, none⟩)) (blt hN)).world st
 exact hK.out _ _ (Hd.sub h1 h2 ⟨fun e he => st.l e (List.mem_cons_of_mem _ he), st.r⟩) fun _ => h _ _ _ ok'
theorem E.row (i N : Nat) {k : Nat} {cs : List Value} {t : TypeId} {z : Nat} (he : Rws P m L R (opAt ops i) cs t z) (ls rs : List Nat) (h : ∀ g : Nat, G c ((N, .slice (some ⟨g, 0, none⟩) z z) :: m) (blk g cs t :: L) R (D P ops Q Ls Rs ds fuel n k)) (h1 : sub L ls = some Ls := by rfl) (h2 : sub R rs = some Rs := by rfl) (hd : (opAt ops i).dst = some N := by rfl) (hN : N.blt c.n = true := by rfl) (hw : wants ops m (opAt ops i) = some true := by rfl) : G c m L R (Evt P ops Q Ls Rs ds fuel n k i) := fun a w ok K hK => by
 rw [if_pos (wants_yes ok.m hw)]
 unfold Oper.wp
 rw [he a w ok.m ok.hd, Oper.upon_value, hd]
 have st := ok.st.alloc cs t
 have ok' := (ok.put (.slice (some ⟨w.heap.size, 0, none⟩) z z) (blt hN)).world st
 exact hK.out _ _ (Hd.sub h1 h2 ⟨fun e he => st.l e (List.mem_cons_of_mem _ he), st.r⟩) fun _ => h _ _ _ ok'
theorem E.call (i N : Nat) {k : Nat} (is qs ls rs : List Nat) {f : FuncId} {az : Array Operand} {ts : Array TypeId} {args : List Value} {Lf Lr Rf : List Ent} {post : Value → List Ent → Prop} (hf : Is P f) (sp : Spec P f args Lf Rf post) (h : ∀ v Ln, post v Ln → G c ((N, v) :: m) (Ln ++ Lr) R (D P ops Q Ls Rs ds fuel n k)) (hop : (opAt ops i).op = .call { callee := .value (.func f), args := az, argTypes := ts } := by rfl) (hargs : evs m az.toList = some args := by rfl) (hp : pick is L = some (Lf, Lr) := by rfl) (hR : sub (R ++ Lr) qs = some Rf := by rfl) (h1 : sub Lr ls = some Ls := by rfl) (h2 : sub R rs = some Rs := by rfl) (hd : (opAt ops i).dst = some N := by rfl) (hN : N.blt c.n = true := by rfl) (hw : wants ops m (opAt ops i) = some true := by rfl) : G c m L R (Evt P ops Q Ls Rs ds fuel n k i) := fun a w ok K hK => by
 rw [if_pos (wants_yes ok.m hw)]
 unfold Oper.wp
 rw [run_enter hf hop (ok.m.evs hargs) w, Oper.upon_enter]
 refine (St.spec sp ok.st (pick_perm hp) (fun e he => List.mem_append.1 (sub_mem hR e he))).mono fun e w' q => ?_
 obtain ⟨v, Ln, rfl, hpost, st⟩ := St.called ok.st (pick_perm hp) q
 dsimp only
 rw [hd]
 have ok' := (ok.put v (blt hN)).world st
 exact hK.out _ _ (Hd.sub h1 h2 ⟨fun e he => st.l e (List.mem_append_right _ he), st.r⟩) fun _ => h v Ln hpost _ _ ok'
theorem D.ev (i k : Nat) (h : G c m L R (Evt P ops Q Ls Rs ds fuel n k i)) (hc : readyB .any ops (bs n k0) (bs n k) i = true := by kernel_rfl) (hi : i.blt ops.size = true := by rfl) (hn : i ∉ ds := by decide) : G c m L R (D P ops Q Ls Rs ds (fuel + 1) n k0) := fun a w ok =>
 one_ (bs n k) (opAt_spec hi) rfl hc hn (h a w ok)
theorem D.join {ι : Type} (M : ι → Sl) (LL RR : ι → List Ent) (f k : Nat) (h1 : (∀ m' L' R', G c m' L' R' (At c M LL RR) → G c m' L' R' (D P ops Q Ls Rs ds f n k)) → G c m L R (D P ops Q Ls Rs ds fuel n k0)) (h2 : ∀ j, G c (M j) (LL j) (RR j) (D P ops Q Ls Rs ds f n k)) : G c m L R (D P ops Q Ls Rs ds fuel n k0) :=
 h1 fun _ _ _ g a w ok => let ⟨j, q⟩ := g a w ok; h2 j a w q
end
section
variable {P : Program} {m : Sl} {L R : List Ent} {o : Oper}
theorem Evl.slo {T e : TypeId} {sz : Nat} (hT : tslice P T = some (e, sz)) (n : Nat) {x y : Operand} {g off len cap : Nat} {k : IntKind} {i : Int} (hn : n ≤ len) (hc : n < cap) (hop : o.op = .slice T x (some y) none none := by rfl) (hx : ev m x = some (.slice (some ⟨g, off, none⟩) len cap) := by rfl) (hy : ev m y = some (.int k i) := by rfl) (hi : i = (n : Int) := by rfl) : Evl P m L R o (.slice (some ⟨g, off + n * sz, none⟩) (len - n) (cap - n)) := fun a w hs _ => by
 have he := hs.ev hx
 have hf := hs.ev hy
 generalize a.eval = ρ at he hf
 subst hi
 unfold tslice at hT
 split at hT
 ·next e' hu =>
  obtain ⟨inf, hin, hT⟩ := Option.map_eq_some_iff.1 hT
  simp only [Prod.mk.injEq] at hT
  obtain ⟨rfl, rfl⟩ := hT
  have h1 : (0 : Int) ≤ (n : Int) ∧ (n : Int) ≤ (len : Int) := by omega
  have h2 : cap ≠ n := by omega
  simp [execOp, hop, he, hf, Instr.sliceAt, Instr.slice, Instr.sliceBounds, Instr.sliceBound, asIntOf, underlying, hu, h1, h2, hn, sizeOf, typeInfo, hin, add_at, go_sem]
 ·cases hT
theorem Evl.shi {T e : TypeId} {sz : Nat} (hT : tslice P T = some (e, sz)) (n : Nat) {x y : Operand} {g off len cap : Nat} {k : IntKind} {i : Int} (hn : n ≤ cap) (hop : o.op = .slice T x none (some y) none := by rfl) (hx : ev m x = some (.slice (some ⟨g, off, none⟩) len cap) := by rfl) (hy : ev m y = some (.int k i) := by rfl) (hi : i = (n : Int) := by rfl) : Evl P m L R o (.slice (some ⟨g, off, none⟩) n cap) := fun a w hs _ => by
 have he := hs.ev hx
 have hf := hs.ev hy
 generalize a.eval = ρ at he hf
 subst hi
 unfold tslice at hT
 split at hT
 ·next e' hu =>
  obtain ⟨inf, hin, hT⟩ := Option.map_eq_some_iff.1 hT
  simp only [Prod.mk.injEq] at hT
  obtain ⟨rfl, rfl⟩ := hT
  have h1 : (0 : Int) ≤ (n : Int) ∧ (n : Int) ≤ (cap : Int) := by omega
  simp [execOp, hop, he, hf, Instr.sliceAt, Instr.slice, Instr.sliceBounds, Instr.sliceBound, asIntOf, underlying, hu, h1, hn, sizeOf, typeInfo, hin, add_at, go_sem]
 ·cases hT
end
def tbytes (P : Program) (t : TypeId) : Option (Nat × Nat) := (P.info? t).map fun i => (i.size, i.bytes)
theorem append_own {P : Program} {w : World} {t ty e : TypeId} {sz by_ n c m k : Nat} {zs xs news : List Value} {a : Option Addr} {b : Addr} (ht : tslice P t = some (e, sz)) (hz : tzero P e = some zs) (hzl : zs.length = sz) (h0 : 0 < sz) (hb : tbytes P e = some (sz, by_)) (hr : (row a c e sz n xs).H w) (hl : news.length = m * sz) (hnews : ∀ j u, news[j]? = some u → w.cell? (b.add j) = some u) (h1 : ∀ u ∈ news, u.oneCell' = true) (h63 : n + m ≤ maxLen) (hby : (n + m) * by_ ≤ 140737488355328) :
  ∃ a' c' w', (Builtin.append_ #[t, t] ty #[.slice a n c, .slice (some b) m k]).run P w = .ok (.slice a' (n + m) c') w' ∧ (row a' c' e sz (n + m) (xs ++ news)).H w' ∧ Fr w w' (row a c e sz n xs).own ∧ (∀ x ∈ (row a' c' e sz (n + m) (xs ++ news)).own, x ∈ (row a c e sz n xs).own ∨ w.heap.size ≤ x) := by
 unfold tslice at ht
 split at ht
 ·next e' hu =>
  obtain ⟨i, hi, ht⟩ := Option.map_eq_some_iff.1 ht
  simp only [Prod.mk.injEq] at ht
  obtain ⟨rfl, hsz⟩ := ht
  unfold tzero at hz
  rw [hi] at hz
  obtain ⟨z, hz1, hz2⟩ := Option.map_eq_some_iff.1 (show i.zero.map (·.cells.toList) = some zs from hz)
  unfold tbytes at hb
  rw [hi] at hb
  simp only [Option.map_some, Option.some.injEq, Prod.mk.injEq] at hb
  have hzs : z.cells.size = sz := by rw [← hzl, ← hz2]; simp
  have hr' : w.ownsRow 0 e' sz (.slice a n c) n xs := hr
  have hm : (0 : Nat) ≤ w.heap.size := Nat.zero_le _
  obtain ⟨v', w', hrun, hown, hg, hnil⟩ := run_append_own (P := P) w 0 t ty e' i z sz by_ hu hi hz1 hsz hb.2 hzs h0 (.slice a n c) n xs hr' b m k news hl hnews h1 h63 hby hm
  have hfr : Fr w w' (row a c e' sz n xs).own := ⟨hg.os, hg.tape, hg.output, hg.size, fun q hq hn => hg.block q hq (by cases a with
   | none => simp [Value.ownBlock]
   | some p => simp [Value.ownBlock]; intro e; subst e; exact hn (by simp [row]))⟩
  have hm2 : n + m ≤ 9223372036854775807 := by simp only [maxLen] at h63; omega
  have key : ∀ q, v'.ownBlock = some q → q ∈ (row a c e' sz n xs).own ∨ w.heap.size ≤ q := by
   intro q hq
   rcases hr'.2 with ⟨he, hn0⟩ | ⟨g, cap, cur, he, _, hgb, hnc, hcm, hcs, htk⟩
   ·cases he
    by_cases hm0 : m = 0
    ·rw [hnil.2 ⟨rfl, hm0⟩] at hq; simp [Value.ownBlock] at hq
    ·subst hsz
     have hr2 := run_append_nil (P := P) w t ty e' i z hu hi hz1 b m k news hl hnews (by omega) (by omega) (by rw [hb.2]; simp only [Nat.zero_add] at hby; omega)
     have := hrun.symm.trans hr2
     cases this
     simp [Value.ownBlock] at hq
     exact .inr (by omega)
   ·cases he
    by_cases hroom : n + m ≤ c
    ·subst hsz
     have hr2 := run_append_room (P := P) w t ty e' i hu hi g n c cur hgb b m k news hl hnews h1 hroom (by rw [hl, hcs, ← Nat.add_mul]; exact Nat.mul_le_mul_right _ hroom)
     have := hrun.symm.trans hr2
     cases this
     simp [Value.ownBlock] at hq
     exact .inl (by simp [row, hq])
    ·subst hsz
     have hr2 := run_append_grow (P := P) w t ty e' i z hu hi hz1 ⟨g, 0, none⟩ n c xs hr'.1 (hr'.cells (g := g) rfl) b m k news hl hnews (by omega) (by omega) (by
      have := nextslicecap_le (need := n + m) (old := c) (by omega)
      rw [hb.2]
      exact Nat.le_trans (Nat.mul_le_mul_right _ this) (by rw [Nat.mul_assoc]; omega))
     have := hrun.symm.trans hr2
     cases this
     simp [Value.ownBlock] at hq
     exact .inr (by omega)
  rcases hown.2 with ⟨he, hn0⟩ | ⟨g, cap, cur, he, _, rest⟩
  ·subst he
   refine ⟨none, 0, w', by rw [hrun]; simp [hn0], by rw [hn0] at hown ⊢; exact hown, hfr, by simp [row]⟩
  ·subst he
   refine ⟨some ⟨g, 0, none⟩, cap, w', hrun, hown, hfr, fun x hx => key x ?_⟩
   simp [row] at hx
   simp [Value.ownBlock, hx]
 ·cases ht
def Chs (P : Program) (m : Sl) (L R : List Ent) (o : Oper) (i : Nat) (post : Value → Ent → Prop) : Prop := ∃ e, L[i]? = some e ∧ ∀ a w, Slots m a → Hd L R w → ∃ v e' w', (execOp a.eval o).run P w = .ok (.value v) w' ∧ post v e' ∧ e'.H w' ∧ Fr w w' e.own ∧ e'.own.Nodup ∧ ∀ k ∈ e'.own, k ∈ e.own ∨ w.heap.size ≤ k
section
variable {P : Program} {Q : Exit → Act → World → Prop} {c : Ctx} {m : Sl} {L R : List Ent} {ops : Array Oper} {o : Oper} {rest : List Oper} {Ls Rs : List Ent} {ds : List Nat} {fuel n k0 : Nat}
theorem G.chg (N i : Nat) {post : Value → Ent → Prop} (he : Chs P m L R o i post) (h : ∀ v e', post v e' → G c ((N, v) :: m) (L.set i e') R (wpList P ops Q rest)) (hd : o.dst = some N := by rfl) (hN : N.blt c.n = true := by rfl) (hw : wants ops m o = some true := by rfl) : G c m L R (wpList P ops Q (o :: rest)) := fun a w ok => wpList_step fun K hK => by
 rw [wants_spec ok.m hw, if_pos rfl]
 obtain ⟨e, hi, q⟩ := he
 obtain ⟨v, e', w', hrun, hp, hH, hf, hn, ho⟩ := q a w ok.m ok.hd
 unfold Oper.wp
 rw [hrun, Oper.upon_value, hd]
 exact hK _ _ (h v e' hp _ _ ((ok.put v (blt hN)).world (ok.st.turn hi hf hH hn ho)))
theorem D.chg (i N k p : Nat) {post : Value → Ent → Prop} (he : Chs P m L R (opAt ops i) p post) (ls rs : List Nat) (h : ∀ v e', post v e' → G c ((N, v) :: m) (L.set p e') R (D P ops Q Ls Rs ds fuel n k)) (h1 : ∀ e', sub (L.set p e') ls = some Ls := by intro _; rfl) (h2 : sub R rs = some Rs := by rfl) (hi : i.blt ops.size = true := by rfl) (hd : (opAt ops i).dst = some N := by rfl) (hN : N.blt c.n = true := by rfl) (hw : wants ops m (opAt ops i) = some true := by rfl) (hc : readyB .any ops (bs n k0) (bs n k) i = true := by kernel_rfl) (hn : i ∉ ds := by decide) : G c m L R (D P ops Q Ls Rs ds (fuel + 1) n k0) := fun a w ok =>
 one_ (bs n k) (opAt_spec hi) hd hc hn fun K hK => by
  rw [if_pos (wants_yes ok.m hw)]
  obtain ⟨e, hi, q⟩ := he
  obtain ⟨v, e', w', hrun, hp, hH, hf, hn, ho⟩ := q a w ok.m ok.hd
  unfold Oper.wp
  rw [hrun, Oper.upon_value, hd]
  have ok' := (ok.put v (blt hN)).world (ok.st.turn hi hf hH hn ho)
  exact hK.out _ _ (Hd.sub (h1 e') h2 ok'.hd) fun _ => h v e' hp _ _ ok'
theorem E.chg (i N p : Nat) {k : Nat} {post : Value → Ent → Prop} (he : Chs P m L R (opAt ops i) p post) (ls rs : List Nat) (h : ∀ v e', post v e' → G c ((N, v) :: m) (L.set p e') R (D P ops Q Ls Rs ds fuel n k)) (h1 : ∀ e', sub (L.set p e') ls = some Ls := by intro _; rfl) (h2 : sub R rs = some Rs := by rfl) (hd : (opAt ops i).dst = some N := by rfl) (hN : N.blt c.n = true := by rfl) (hw : wants ops m (opAt ops i) = some true := by rfl) : G c m L R (Evt P ops Q Ls Rs ds fuel n k i) := fun a w ok K hK => by
 rw [if_pos (wants_yes ok.m hw)]
 obtain ⟨e, hi, q⟩ := he
 obtain ⟨v, e', w', hrun, hp, hH, hf, hn, ho⟩ := q a w ok.m ok.hd
 unfold Oper.wp
 rw [hrun, Oper.upon_value, hd]
 have ok' := (ok.put v (blt hN)).world (ok.st.turn hi hf hH hn ho)
 exact hK.out _ _ (Hd.sub (h1 e') h2 ok'.hd) fun _ => h v e' hp _ _ ok'
theorem Chs.app {t e : TypeId} {sz by_ n c m' k n' : Nat} {zs xs news : List Value} {a : Option Addr} {x y : Operand} {g : Nat} {s : Ent} (ht : tslice P t = some (e, sz)) (hz : tzero P e = some zs) (hb : tbytes P e = some (sz, by_)) (i j : Nat) (hs63 : n + m' ≤ 1048576) (hop : o.op = .call { callee := .builtin .append, args := #[x, y], argTypes := #[t, t] } := by rfl) (hx : ev m x = some (.slice a n c) := by rfl) (hy : ev m y = some (.slice (some ⟨g, 0, none⟩) m' k) := by rfl) (hi : L[i]? = some (row a c e sz n xs) := by rfl) (hj : (L ++ R)[j]? = some s := by rfl) (hs : Cel s g news := by first | exact Cel.blk _ _ _ | exact Cel.row _ _ _ _ _ _ | exact Cel.ro _ _ _) (hl : news.length = m' * sz := by rfl) (h1 : news.all Value.oneCell' = true := by rfl) (hzl : zs.length = sz := by rfl) (h0 : 0 < sz := by decide) (hby : by_ ≤ 134217728 := by decide) (hnn : n + m' = n' := by rfl) :
  Chs P m L R o i (fun v e' => ∃ a' c', v = .slice a' n' c' ∧ e' = row a' c' e sz n' (xs ++ news)) := ⟨_, hi, fun ac w hs' hd => by
 subst hnn
 have he := hs'.ev hx
 have hf := hs'.ev hy
 have hH : s.H w := by
  rcases List.mem_append.1 (List.mem_of_getElem? hj) with q | q
  ·exact hd.1 s q
  ·exact hd.2 s q
 obtain ⟨a', c', w', hrun, r1, r2, r3⟩ := append_own (ty := o.type) ht hz hzl h0 hb (hd.1 _ (List.mem_of_getElem? hi)) (b := ⟨g, 0, none⟩) (k := k) hl (fun j u hu => by rw [add_at, Nat.zero_add]; exact hs w hH j u hu) (fun u hu => List.all_eq_true.1 h1 u hu) (by simp only [maxLen]; omega) (Nat.le_trans (Nat.mul_le_mul hs63 hby) (by decide))
 refine ⟨_, _, w', ?_, ⟨a', c', rfl, rfl⟩, r1, r2, by cases a' <;> simp [row], r3⟩
 generalize ac.eval = ρ at he hf
 unfold execOp
 simp only [hop, resolve, invoke, builtin, Sem.run_bind, Sem.run_pure, Result.andThen_ok, List.map_toArray, List.map_cons, List.map_nil, he, hf, hrun]⟩
end
section
variable {c : Ctx} {m : Sl} {L R : List Ent} {X : Act → World → Prop}
theorem G.fact {p : Prop} (i : Nat) {e : Ent} (hp : ∀ w, e.H w → p) (h : p → G c m L R X) (hi : (L ++ R)[i]? = some e := by rfl) : G c m L R X := fun a w ok => by
 have hH : e.H w := by
  rcases List.mem_append.1 (List.mem_of_getElem? hi) with q | q
  ·exact ok.st.l e q
  ·exact ok.st.r e q
 exact h (hp w hH) a w ok
theorem G.alter {ι : Type} (p : Nat) {e : Ent} (E : ι → Ent) (hp : ∀ w, e.H w → ∃ j, (E j).H w) (ho : ∀ j, (E j).own = e.own) (h : ∀ j, G c m (L.set p (E j)) R X) (hi : L[p]? = some e := by rfl) : G c m L R X := fun a w ok => by
 obtain ⟨j, hj⟩ := hp w (ok.st.l e (List.mem_of_getElem? hi))
 have hnd := ok.st.perm (perm_front hi)
 have nd : e.own.Nodup := (List.nodup_append.1 (by have := hnd.nd; rw [ids_cons] at this; exact this)).1
 exact h j a w (ok.world (ok.st.turn hi (Fr.refl w _) hj (by rw [ho]; exact nd) (fun k hk => .inl (by rw [← ho j]; exact hk))))
theorem G.newRow (t : TypeId) (sz : Nat) (h : G c m (S.row none 0 t sz 0 [] :: L) R X) : G c m L R X := fun a w ok => h a w (ok.world (St.step (Lf := []) (Lr := L) (Ln := [S.row none 0 t sz 0 []]) ok.st (Fr.refl w _) (by intro e he; simp at he; subst he; exact World.ownsRow_nil w 0 t sz) (by simp [ids]; exact List.nodup_nil) (by intro k hk; simp [ids] at hk; exact absurd hk List.not_mem_nil)))
end
theorem row.base {w : World} {a : Option Addr} {c : Nat} {e : TypeId} {sz n : Nat} {xs : List Value} (hn : 0 < n) (h : (row a c e sz n xs).H w) : ∃ g, a = some ⟨g, 0, none⟩ := by
 rcases h.2 with ⟨_, h0⟩ | ⟨g, cap, cur, he, _⟩
 ·omega
 ·cases he; exact ⟨g, rfl⟩
theorem row.len {w : World} {a : Option Addr} {c : Nat} {e : TypeId} {sz n : Nat} {xs : List Value} (h : (row a c e sz n xs).H w) : xs.length = n * sz ∧ n ≤ c ∧ c ≤ maxLen := by
 refine ⟨h.1, ?_⟩
 rcases h.2 with ⟨he, h0⟩ | ⟨g, cap, cur, he, _, _, h1, h2, _⟩
 ·cases he; simp [h0]
 ·cases he; exact ⟨h1, h2⟩
theorem row.open {w : World} {g c : Nat} {e : TypeId} {sz n : Nat} {xs : List Value} (h : (row (some ⟨g, 0, none⟩) c e sz n xs).H w) : ∃ r : List Value, (blk g (xs ++ r) e).H w := by
 rcases h.2 with ⟨he, h0⟩ | ⟨g', cap, cur, he, _, hg, _, _, _, ht⟩
 ·cases he
 ·cases he
  refine ⟨cur.toList.drop (n * sz), ?_⟩
  show w.heap[g]? = _
  rw [hg, ← ht, List.take_append_drop]
theorem row.of_blk {w : World} {g : Nat} {e : TypeId} {sz n : Nat} {xs : List Value} (hl : xs.length = n * sz) (hm : n ≤ maxLen) (h : (blk g xs e).H w) : (row (some ⟨g, 0, none⟩) n e sz n xs).H w :=
 ⟨hl, .inr ⟨g, n, xs.toArray, rfl, Nat.zero_le _, h, Nat.le_refl _, hm, by simp [hl], by simp [← hl]⟩⟩
theorem G.base {c : Ctx} {m : Sl} {L R : List Ent} {X : Act → World → Prop} (i : Nat) {a : Option Addr} {cap : Nat} {e : TypeId} {sz n : Nat} {xs : List Value} (hn : 0 < n) (h : ∀ g, a = some ⟨g, 0, none⟩ → G c m L R X) (hi : (L ++ R)[i]? = some (S.row a cap e sz n xs) := by rfl) : G c m L R X := G.fact i (fun w q => S.row.base hn q) (fun ⟨g, hg⟩ => h g hg) hi
theorem G.asRow {c : Ctx} {m : Sl} {L R : List Ent} {X : Act → World → Prop} (p n sz : Nat) {g : Nat} {cs : List Value} {t : TypeId} (hl : cs.length = n * sz) (hm : n ≤ maxLen) (h : G c m (L.set p (S.row (some ⟨g, 0, none⟩) n t sz n cs)) R X) (hi : L[p]? = some (blk g cs t) := by rfl) : G c m L R X := G.alter (ι := Unit) p (fun _ => S.row (some ⟨g, 0, none⟩) n t sz n cs) (fun w q => ⟨(), S.row.of_blk hl hm q⟩) (fun _ => rfl) (fun _ => h) hi
theorem G.open {c : Ctx} {m : Sl} {L R : List Ent} {X : Act → World → Prop} (p : Nat) {g cap : Nat} {t : TypeId} {sz n : Nat} {xs : List Value} (h : ∀ r : List Value, G c m (L.set p (blk g (xs ++ r) t)) R X) (hi : L[p]? = some (S.row (some ⟨g, 0, none⟩) cap t sz n xs) := by rfl) : G c m L R X := G.alter (ι := List Value) p (fun r => blk g (xs ++ r) t) (fun w q => S.row.open q) (fun _ => rfl) h hi
def Evx (P : Program) (m : Sl) (L R : List Ent) (o : Oper) (post : Value → Prop) : Prop := ∀ a w, Slots m a → Hd L R w → ∃ v, post v ∧ (execOp a.eval o).run P w = .ok (.value v) w
section
variable {P : Program} {Q : Exit → Act → World → Prop} {c : Ctx} {m : Sl} {L R : List Ent} {ops : Array Oper} {o : Oper} {rest : List Oper}
theorem G.valx (N : Nat) {post : Value → Prop} (he : Evx P m L R o post) (h : ∀ v, post v → G c ((N, v) :: m) L R (wpList P ops Q rest)) (hd : o.dst = some N := by rfl) (hN : N.blt c.n = true := by rfl) (hw : wants ops m o = some true := by rfl) : G c m L R (wpList P ops Q (o :: rest)) := fun a w ok => wpList_step fun K hK => by
 rw [wants_spec ok.m hw, if_pos rfl]
 obtain ⟨v, hp, hrun⟩ := he a w ok.m ok.hd
 unfold Oper.wp
 rw [hrun, Oper.upon_value, hd]
 exact hK _ _ (h v hp _ _ (ok.put v (blt hN)))
theorem Evx.sidx {T : TypeId} (hT : tstr P T = true) {x y : Operand} {s : ByteArray} {k : IntKind} {i : Int} (n z : Nat) (hn : n < z) (hs : s.size = z) (hop : o.op = .index T x y := by rfl) (hx : ev m x = some (.string s) := by rfl) (hy : ev m y = some (.int k i) := by rfl) (hi : i = (n : Int) := by rfl) : Evx P m L R o (fun v => ∃ b : Int, 0 ≤ b ∧ b < 256 ∧ v = .int .u8 b) := fun a w hs' _ => by
 have he := hs'.ev hx
 have hf := hs'.ev hy
 generalize a.eval = ρ at he hf
 subst hi
 have hb : s[n]? = some (s[n]'(by omega)) := by rw [getElem?_pos]
 refine ⟨_, ⟨((s[n]'(by omega)).toNat : Int), by omega, by have := (s[n]'(by omega)).toNat_lt; omega, rfl⟩, ?_⟩
 unfold tstr at hT
 split at hT
 ·next hu => simp [execOp, hop, he, hf, Instr.index, asIntOf, underlying, hu, hb, go_sem]
 ·cases hT
end
theorem G.fin0 {P : Program} {c : Ctx} {m : Sl} {L R : List Ent} {fn : Func} {v : Value} {post : Value → List Ent → Prop} (is : List Nat) {A B : List Ent} (hr : Res P m L R fn v) (hp : post v A) (hi : pick is L = some (A, B) := by rfl) (hc : c.ds = [] := by rfl) : G c m L R (bodyPost P fn (Left c.w0 c.F post) .normal) := G.F is hr hp hi hc
theorem G.eqL {c : Ctx} {m : Sl} {L R : List Ent} {X : Act → World → Prop} (L' : List Ent) (e : L = L') (h : G c m L' R X) : G c m L R X := e ▸ h
theorem G.eqb {c : Ctx} {m : Sl} {L R : List Ent} {X : Act → World → Prop} (i : Nat) {g : Nat} {t : TypeId} {cs : List Value} (cs' : List Value) (e : cs = cs') (h : G c m (L.set i (blk g cs' t)) R X) (hi : L[i]? = some (blk g cs t) := by rfl) : G c m L R X := by
 subst e
 have : L.set i (blk g cs t) = L := by
  obtain ⟨h1, h2⟩ := List.getElem?_eq_some_iff.1 hi
  rw [← h2, List.set_getElem_self]
 rwa [this] at h
theorem Evl.mf {P : Program} {m : Sl} {L R : List Ent} {o : Oper} {fn : Fn} {xs : Array Operand} {vs : List Value} (hop : o.op = .makeFunc fn #[] xs := by rfl) (hv : evs m xs.toList = some vs := by rfl) : Evl P m L R o (.func fn #[] vs.toArray) := fun a w hs _ => by
 have he := hs.evs hv
 generalize a.eval = ρ at he
 have he' : xs.map ρ = vs.toArray := by rw [← he, ← Array.toList_map, Array.toArray_toList]
 simp [execOp, hop, Instr.makeFunc, he', go_sem]
section
variable {P : Program} {Q : Exit → Act → World → Prop} {c : Ctx} {m : Sl} {L R : List Ent} {ops : Array Oper} {o : Oper} {rest : List Oper} {Ls Rs : List Ent} {ds : List Nat} {fuel n k0 : Nat}
theorem run_enterv {P : Program} {o : Oper} {f : FuncId} {x : Operand} {az : Array Operand} {ts : Array TypeId} {args caps : List Value} {a : Act} (hf : Is P f) (hop : o.op = .call { callee := .value x, args := az, argTypes := ts }) (hx : a.eval x = .func (.func f) #[] caps.toArray) (hargs : az.toList.map a.eval = args) (w : World) : (execOp a.eval o).run P w = .ok (.enter f (args ++ caps).toArray) w := by
 obtain ⟨fn, h1, h2, h3⟩ := hf
 have he := enters_ h1 h2 h3 (args ++ caps).toArray w
 have ha : az.map a.eval = args.toArray := by rw [← hargs]; apply Array.ext'; simp
 generalize a.eval = ρ at hx ha
 unfold execOp
 simp [hop, resolve, Deferred.ofValue, invoke, hx, ha]
 simpa using he
theorem G.callv (N : Nat) (is rs : List Nat) {f : FuncId} {az : Array Operand} {ts : Array TypeId} {args caps all : List Value} {x : Operand} {Lf Lr Rf : List Ent} {post : Value → List Ent → Prop} (hf : Is P f) (sp : Spec P f all Lf Rf post) (h : ∀ v Ln, post v Ln → G c ((N, v) :: m) (Ln ++ Lr) R (wpList P ops Q rest)) (hop : o.op = .call { callee := .value x, args := az, argTypes := ts } := by rfl) (hx : S.ev m x = some (.func (.func f) #[] caps.toArray) := by rfl) (hargs : evs m az.toList = some args := by rfl) (hall : args ++ caps = all := by rfl) (hp : pick is L = some (Lf, Lr) := by rfl) (hR : sub (R ++ Lr) rs = some Rf := by rfl) (hd : o.dst = some N := by rfl) (hN : N.blt c.n = true := by rfl) (hw : wants ops m o = some true := by rfl) : G c m L R (wpList P ops Q (o :: rest)) := fun a w ok => wpList_step fun K hK => by
 rw [wants_spec ok.m hw, if_pos rfl]
 unfold Oper.wp
 rw [run_enterv hf hop (ok.m.ev hx) (ok.m.evs hargs) w, hall, Oper.upon_enter]
 have hc := St.spec sp ok.st (pick_perm hp) (fun e he => List.mem_append.1 (sub_mem hR e he))
 refine hc.mono fun e w' q => ?_
 obtain ⟨v, Ln, rfl, hpost, st⟩ := St.called ok.st (pick_perm hp) q
 dsimp only
 rw [hd]
 exact hK _ _ (h v Ln hpost _ _ ((ok.put v (blt hN)).world st))
theorem D.callv (i N k : Nat) (is qs ls rs : List Nat) {f : FuncId} {az : Array Operand} {ts : Array TypeId} {args caps all : List Value} {x : Operand} {Lf Lr Rf : List Ent} {post : Value → List Ent → Prop} (hf : Is P f) (sp : Spec P f all Lf Rf post) (h : ∀ v Ln, post v Ln → G c ((N, v) :: m) (Ln ++ Lr) R (D P ops Q Ls Rs ds fuel n k)) (hop : (opAt ops i).op = .call { callee := .value x, args := az, argTypes := ts } := by rfl) (hx : S.ev m x = some (.func (.func f) #[] caps.toArray) := by rfl) (hargs : evs m az.toList = some args := by rfl) (hall : args ++ caps = all := by rfl) (hp : pick is L = some (Lf, Lr) := by rfl) (hR : sub (R ++ Lr) qs = some Rf := by rfl) (h1 : sub Lr ls = some Ls := by rfl) (h2 : sub R rs = some Rs := by rfl) (hi : i.blt ops.size = true := by rfl) (hd : (opAt ops i).dst = some N := by rfl) (hN : N.blt c.n = true := by rfl) (hw : wants ops m (opAt ops i) = some true := by rfl) (hc : readyB .any ops (bs n k0) (bs n k) i = true := by kernel_rfl) (hn : i ∉ ds := by decide) : G c m L R (D P ops Q Ls Rs ds (fuel + 1) n k0) := fun a w ok =>
 one_ (bs n k) (opAt_spec hi) hd hc hn fun K hK => by
  rw [if_pos (wants_yes ok.m hw)]
  unfold Oper.wp
  rw [run_enterv hf hop (ok.m.ev hx) (ok.m.evs hargs) w, hall, Oper.upon_enter]
  refine (St.spec sp ok.st (pick_perm hp) (fun e he => List.mem_append.1 (sub_mem hR e he))).mono fun e w' q => ?_
  obtain ⟨v, Ln, rfl, hpost, st⟩ := St.called ok.st (pick_perm hp) q
  dsimp only
  rw [hd]
  have ok' := (ok.put v (blt hN)).world st
  exact hK.out _ _ (Hd.sub h1 h2 ⟨fun e he => st.l e (List.mem_append_right _ he), st.r⟩) fun _ => h v Ln hpost _ _ ok'
end
end Go.Proofs.YtbmhgopjblnfnaaGreat.S
namespace Go.Proofs.YtbmhgopjblnfnaaGreat.S
open Go Go.RowKit Go.Proofs.YtbmhgopjblnfnaaGreatW.PrintLast Go.ChangeMaps Go.MapKept Tryz
def obE (r : Nat) (o : Obj) : Ent where
 own := [r]
 H w := w.heap[r]? = some o
 loc w w' h hw := (h r (by simp)).trans hw
 lt w hw k hk := by simp at hk; subst hk; exact lt_of_some hw
def mapE (r : Nat) (es : List MapEntry) (clock : Nat) : Ent := obE r (.map es.toArray clock)
def mitE (g r clock : Nat) (seen : Array Nat) : Ent := obE g (.mapIter (some r) clock seen clock)
section
variable {P : Program} {Q : Exit → Act → World → Prop} {c : Ctx} {m : Sl} {L R : List Ent} {ops : Array Oper} {o : Oper} {rest : List Oper} {Ls Rs : List Ent} {ds : List Nat} {fuel n k0 : Nat}
def Mke (P : Program) (m : Sl) (L R : List Ent) (o : Oper) (val : Nat → Value) (ob : Obj) : Prop := ∀ a w, Slots m a → Hd L R w → (execOp a.eval o).run P w = .ok (.value (val w.heap.size)) (w.alloc ob)
theorem St.allocE {w0 w : World} {F : List Nat} (h : St w0 F w L R) (ob : Obj) (e : Ent) (ho : e.own = [w.heap.size]) (hH : ∀ w' : World, w'.heap[w.heap.size]? = some ob → e.H w') : St w0 F (w.alloc ob) (e :: L) R := by
 refine St.step (Lf := []) (Lr := L) (Ln := [e]) h (Fr.alloc w _) ?_ ?_ ?_
 ·intro e' he
  simp at he
  subst he
  exact hH _ (heap_alloc_new w _)
 ·simp [ids, ho]
 ·intro k hk
  simp [ids, ho] at hk
  exact .inr (by omega)
theorem G.mke (N : Nat) {val : Nat → Value} {ob : Obj} (he : Mke P m L R o val ob) (h : ∀ g : Nat, G c ((N, val g) :: m) (obE g ob :: L) R (wpList P ops Q rest)) (hd : o.dst = some N := by rfl) (hN : N.blt c.n = true := by rfl) (hw : wants ops m o = some true := by rfl) : G c m L R (wpList P ops Q (o :: rest)) := fun a w ok => wpList_step fun K hK => by
 rw [wants_spec ok.m hw, if_pos rfl]
 unfold Oper.wp
 rw [he a w ok.m ok.hd, Oper.upon_value, hd]
 exact hK _ _ (h w.heap.size _ _ ((ok.put _ (blt hN)).world (ok.st.allocE ob (obE w.heap.size ob) rfl fun _ q => q)))
def Chk (P : Program) (m : Sl) (L R : List Ent) (o : Oper) (i : Nat) (e' : Ent) : Prop := ∃ e, L[i]? = some e ∧ ∀ a w, Slots m a → Hd L R w → ∃ w', ((execOp a.eval o).run P w = .ok .skip w' ∨ ∃ v, (execOp a.eval o).run P w = .ok (.value v) w') ∧ e'.H w' ∧ Fr w w' e.own ∧ e'.own.Nodup ∧ ∀ k ∈ e'.own, k ∈ e.own ∨ w.heap.size ≤ k
theorem G.chk (i : Nat) {e' : Ent} (he : Chk P m L R o i e') (h : G c m (L.set i e') R (wpList P ops Q rest)) (hd : o.dst = none := by rfl) (hw : wants ops m o = some true := by rfl) : G c m L R (wpList P ops Q (o :: rest)) := fun a w ok => wpList_step fun K hK => by
 rw [wants_spec ok.m hw, if_pos rfl]
 obtain ⟨e, hi, q⟩ := he
 obtain ⟨w', hrun, hH, hf, hn, ho⟩ := q a w ok.m ok.hd
 unfold Oper.wp
 rcases hrun with hrun | ⟨v, hrun⟩
 ·rw [hrun, Oper.upon_skip, hd]
  exact hK _ _ (h _ _ ((ok.put_none undef).world (ok.st.turn hi hf hH hn ho)))
 ·rw [hrun, Oper.upon_value, hd]
  exact hK _ _ (h _ _ ((ok.put_none v).world (ok.st.turn hi hf hH hn ho)))
theorem D.chk (i k p : Nat) {e' : Ent} (he : Chk P m L R (opAt ops i) p e') (ls rs : List Nat) (h : G c m (L.set p e') R (D P ops Q Ls Rs ds fuel n k)) (h1 : sub (L.set p e') ls = some Ls := by rfl) (h2 : sub R rs = some Rs := by rfl) (hi : i.blt ops.size = true := by rfl) (hd : (opAt ops i).dst = none := by rfl) (hw : wants ops m (opAt ops i) = some true := by rfl) (hc : readyB .any ops (bs n k0) (bs n k) i = true := by kernel_rfl) (hn : i ∉ ds := by decide) : G c m L R (D P ops Q Ls Rs ds (fuel + 1) n k0) := fun a w ok =>
 one_ (bs n k) (opAt_spec hi) hd hc hn fun K hK => by
  rw [if_pos (wants_yes ok.m hw)]
  obtain ⟨e, hi, q⟩ := he
  obtain ⟨w', hrun, hH, hf, hn, ho⟩ := q a w ok.m ok.hd
  unfold Oper.wp
  rcases hrun with hrun | ⟨v, hrun⟩
  ·rw [hrun, Oper.upon_skip, hd]
   have ok' := (ok.put_none undef).world (ok.st.turn hi hf hH hn ho)
   exact hK.out _ _ (Hd.sub h1 h2 ok'.hd) fun _ => h _ _ ok'
  ·rw [hrun, Oper.upon_value, hd]
   have ok' := (ok.put_none v).world (ok.st.turn hi hf hH hn ho)
   exact hK.out _ _ (Hd.sub h1 h2 ok'.hd) fun _ => h _ _ ok'
def tmap (P : Program) (t : TypeId) : Option (TypeId × TypeId × TypeDesc × Value) := match P.underlying t with
 | some (.map k e) => (P.underlying k).bind fun d => (P.info? e).bind fun i => i.zero.map fun z => (k, e, d, z)
 | _ => none
theorem tmap_spec {t k e : TypeId} {d : TypeDesc} {z : Value} (h : tmap P t = some (k, e, d, z)) : P.underlying t = some (.map k e) ∧ P.underlying k = some d ∧ ∀ w, (zeroValue e).run P w = .ok z w := by
 unfold tmap at h
 split at h
 ·next k' e' hu =>
  obtain ⟨d', hd, h⟩ := Option.bind_eq_some_iff.1 h
  obtain ⟨i, hi, h⟩ := Option.bind_eq_some_iff.1 h
  obtain ⟨z', hz, h⟩ := Option.map_eq_some_iff.1 h
  simp only [Prod.mk.injEq] at h
  obtain ⟨rfl, rfl, rfl, rfl⟩ := h
  exact ⟨hu, hd, fun w => by simp [zeroValue, typeInfo, hi, hz, go_sem]⟩
 ·cases h
theorem Mke.map {t : TypeId} (hop : o.op = .makeMap t none := by rfl) : Mke P m L R o (fun g => .map (some g)) (.map #[] 0) := fun a w _ _ => by
 unfold execOp
 simp only [hop]
 have h : (Instr.makeMap t none).run P w = .ok (.map (some w.heap.size)) (w.alloc (.map #[] 0)) := by simp [Instr.makeMap, Result.andThen]
 change ((Instr.makeMap t none) >>= fun v => (pure (.value v) : Sem Next)).run P w = _
 rw [run_bind_ok h]; rfl
def Found (es : List MapEntry) (key : Value) (res : Option (Nat × MapEntry)) : Prop := (res = none ∧ ∀ x ∈ es, x.key ≠ key) ∨ ∃ j e, res = some (j, e) ∧ es[j]? = some e ∧ e.key = key
theorem found_spec {d : TypeDesc} {key : Value} (hk : IsKey d key) {es : List MapEntry} (hks : ∀ x ∈ es, IsKey d x.key) : ∃ res, Found es key res ∧ Instr.findNow d key es 0 = some (res.map fun x => (x.1, x.2.val)) := by
 rcases findNow_spec hk es 0 hks with ⟨h1, h2⟩ | ⟨j, e, h1, h2, h3⟩
 ·exact ⟨none, .inl ⟨rfl, h2⟩, h1⟩
 ·exact ⟨some (j, e), .inr ⟨j, e, rfl, h2, h3⟩, by rw [h1]; simp⟩
theorem run_look {t k e : TypeId} {d : TypeDesc} {z : Value} (hT : tmap P t = some (k, e, d, z)) {r clock : Nat} {es : List MapEntry} {key : Value} (hk : IsKey d key) {w : World} (hb : (mapE r es clock).H w) {res : Option (Nat × MapEntry)} (hf : Instr.findNow d key es 0 = some (res.map fun x => (x.1, x.2.val))) (b : Bool) : (Instr.lookup t (.map (some r)) key b).run P w = .ok (if b = true then .tuple #[(res.map fun x => x.2.val).getD z, .bool res.isSome] else (res.map fun x => x.2.val).getD z) w := by
 obtain ⟨hu, hd, hz⟩ := tmap_spec hT
 have hb : w.heap[r]? = some (.map es.toArray clock) := hb
 unfold Instr.lookup
 rw [run_bind_ok (run_underlying hu w)]
 dsimp only
 rw [run_bind_ok (Go.MapKept.run_getObj_map hb)]
 dsimp only
 rw [run_bind_ok (show (pure es.toArray : Sem (Array MapEntry)).run P w = .ok es.toArray w from rfl)]
 rw [run_bind_ok (run_checkKey hd hk _ _), run_bind_ok (run_findKey hd (by simpa using hf))]
 cases res with
 | none =>
  dsimp only [Option.map_none]
  rw [run_bind_ok (hz w), run_bind_ok (show (pure (z, false) : Sem (Value × Bool)).run P w = .ok (z, false) w from rfl)]
  rfl
 | some x =>
  dsimp only [Option.map_some]
  rw [run_bind_ok (show (pure (x.2.val, true) : Sem (Value × Bool)).run P w = .ok (x.2.val, true) w from rfl)]
  rfl
theorem Evx.look {t k e : TypeId} {d : TypeDesc} {z : Value} (hT : tmap P t = some (k, e, d, z)) {x y : Operand} {b : Bool} {r clock : Nat} {es : List MapEntry} {key : Value} (hk : IsKey d key) (hks : ∀ x ∈ es, IsKey d x.key) (i : Nat) (hop : o.op = .lookup t x y b := by rfl) (hx : ev m x = some (.map (some r)) := by rfl) (hy : ev m y = some key := by rfl) (hi : (L ++ R)[i]? = some (mapE r es clock) := by rfl) : Evx P m L R o (fun v => ∃ res, Found es key res ∧ v = if b = true then .tuple #[(res.map fun x => x.2.val).getD z, .bool res.isSome] else (res.map fun x => x.2.val).getD z) := fun a w hs hd => by
 have he := hs.ev hx
 have hf := hs.ev hy
 generalize a.eval = ρ at he hf
 have hH : (mapE r es clock).H w := by
  rcases List.mem_append.1 (List.mem_of_getElem? hi) with q | q
  ·exact hd.1 _ q
  ·exact hd.2 _ q
 obtain ⟨res, h1, h2⟩ := found_spec hk hks
 refine ⟨_, ⟨res, h1, rfl⟩, ?_⟩
 unfold execOp
 simp only [hop, he, hf]
 change ((Instr.lookup t (.map (some r)) key b) >>= fun v => (pure (.value v) : Sem Next)).run P w = _
 rw [run_bind_ok (run_look hT hk hH h2 b)]; rfl
theorem Evl.lenm {t k e : TypeId} {d : TypeDesc} {z : Value} (hT : tmap P t = some (k, e, d, z)) {x : Operand} {r clock : Nat} {es : List MapEntry} {ts : Array TypeId} (i : Nat) (hop : o.op = .call { callee := .builtin .len, args := #[x], argTypes := ts } := by rfl) (hts : ts[0]? = some t := by rfl) (hx : ev m x = some (.map (some r)) := by rfl) (hi : (L ++ R)[i]? = some (mapE r es clock) := by rfl) : Evl P m L R o (.int .i64 (es.length : Int)) := fun a w hs hd => by
 have he := hs.ev hx
 have hH : (mapE r es clock).H w := by
  rcases List.mem_append.1 (List.mem_of_getElem? hi) with q | q
  ·exact hd.1 _ q
  ·exact hd.2 _ q
 have hb : w.heap[r]? = some (.map es.toArray clock) := hH
 obtain ⟨hu, _, _⟩ := tmap_spec hT
 refine run_builtin hop ?_
 have h1 : (Builtin.len_ ts o.type #[.map (some r)]).run P w = .ok (.int .i64 (es.length : Int)) w := by
  simp [Builtin.len_, hts, run_underlying hu, Go.MapKept.run_getObj_map hb, goInt, Result.andThen]
 show ((Builtin.len_ ts o.type (#[x].map a.eval)) >>= fun v => (pure (.value v) : Sem Next)).run P w = _
 rw [show #[x].map a.eval = #[.map (some r)] from by simp [he], run_bind_ok h1]; rfl
def mapPut (es : List MapEntry) (clock : Nat) (key val : Value) : Option (Nat × MapEntry) → List MapEntry × Nat
 | some (j, _) => (es.modify j fun e => { e with key := key, val := val }, clock)
 | none => (es ++ [{ key := key, val := val, born := clock }], clock + 1)
theorem set_fr {w : World} {r : Nat} {ob : Obj} (h : w.heap[r]? = some ob) (ob' : Obj) : Fr w { w with heap := w.heap.setIfInBounds r ob' } [r] ∧ ({ w with heap := w.heap.setIfInBounds r ob' } : World).heap[r]? = some ob' := by
 have hh := heap_set (o' := ob') h
 exact ⟨⟨rfl, rfl, rfl, by simp, fun k _ hn => hh.2 k (by simpa using hn)⟩, hh.1⟩
theorem run_put {t k e : TypeId} {d : TypeDesc} {z : Value} (hT : tmap P t = some (k, e, d, z)) {r clock : Nat} {es : List MapEntry} {key val : Value} (hk : IsKey d key) {w : World} (hb : (mapE r es clock).H w) {res : Option (Nat × MapEntry)} (h0 : Found es key res) (hf : Instr.findNow d key es 0 = some (res.map fun x => (x.1, x.2.val))) : (Instr.mapUpdate t (.map (some r)) key val).run P w = .ok () { w with heap := w.heap.setIfInBounds r (.map (mapPut es clock key val res).1.toArray (mapPut es clock key val res).2) } := by
 obtain ⟨hu, hd, hz⟩ := tmap_spec hT
 have hb : w.heap[r]? = some (.map es.toArray clock) := hb
 unfold Instr.mapUpdate
 rw [run_bind_ok (run_underlying hu w)]
 dsimp only
 rw [run_bind_ok (Go.MapKept.run_getObj_map hb)]
 dsimp only
 rw [run_bind_ok (run_checkKey hd hk _ _), run_bind_ok (run_findKey hd (by simpa using hf))]
 rcases h0 with ⟨rfl, _⟩ | ⟨j, e', rfl, h2, h3⟩
 ·dsimp only [Option.map_none, mapPut]
  rw [Go.MapKept.run_setObj_map _ hb]
  simp
 ·dsimp only [Option.map_some, mapPut]
  have e1 : ((es.toArray[j]?).map (·.key)).getD key = key := by simp [h2, h3]
  rw [e1, run_bind_ok (run_keyThatStays hk)]
  rw [Go.MapKept.run_setObj_map _ hb]
  simp
theorem Chk.put {t k e : TypeId} {d : TypeDesc} {z : Value} (hT : tmap P t = some (k, e, d, z)) (i : Nat) {x y u : Operand} {r clock : Nat} {es : List MapEntry} {key val : Value} {res : Option (Nat × MapEntry)} (hk : IsKey d key) (hks : ∀ x ∈ es, IsKey d x.key) (h0 : Found es key res) (huq : ∀ res', Found es key res' → res' = res) (hop : o.op = .mapUpdate t x y u := by rfl) (hx : ev m x = some (.map (some r)) := by rfl) (hy : ev m y = some key := by rfl) (hu : ev m u = some val := by rfl) (hi : L[i]? = some (mapE r es clock) := by rfl) : Chk P m L R o i (mapE r (mapPut es clock key val res).1 (mapPut es clock key val res).2) := ⟨_, hi, fun a w hs hd => by
 have he := hs.ev hx
 have hf := hs.ev hy
 have hg := hs.ev hu
 generalize a.eval = ρ at he hf hg
 have hH := hd.1 _ (List.mem_of_getElem? hi)
 obtain ⟨res', h1, h2⟩ := found_spec hk hks
 obtain rfl := huq res' h1
 have hr := run_put (val := val) hT hk hH h1 h2
 have hb : w.heap[r]? = some (.map es.toArray clock) := hH
 have hs2 := set_fr hb (.map (mapPut es clock key val res').1.toArray (mapPut es clock key val res').2)
 refine ⟨_, .inl ?_, hs2.2, hs2.1, by simp [mapE, obE], fun k hk => .inl hk⟩
 unfold execOp
 simp only [hop, he, hf, hg]
 change ((Instr.mapUpdate t (.map (some r)) key val) >>= fun _ => (pure .skip : Sem Next)).run P w = _
 rw [run_bind_ok hr]; rfl⟩
theorem run_del {t k e : TypeId} {d : TypeDesc} {z : Value} (hT : tmap P t = some (k, e, d, z)) {r clock : Nat} {es : List MapEntry} {key : Value} (hk : IsKey d key) {w : World} (hb : (mapE r es clock).H w) {res : Option (Nat × MapEntry)} (hf : Instr.findNow d key es 0 = some (res.map fun x => (x.1, x.2.val))) (ty t2 : TypeId) : (Builtin.delete_ #[t, t2] ty #[.map (some r), key]).run P w = .ok (.tuple #[]) { w with heap := w.heap.setIfInBounds r (.map ((res.map fun x => es.eraseIdx x.1).getD es).toArray clock) } := by
 obtain ⟨hu, hd, hz⟩ := tmap_spec hT
 have hb : w.heap[r]? = some (.map es.toArray clock) := hb
 cases res with
 | none => simp [Builtin.delete_, run_underlying hu, Go.MapKept.run_getObj_map hb, run_checkKey hd hk, run_findKey hd hf, Go.MapKept.run_setObj_map _ hb, Result.andThen]
 | some x =>
  have : (es.toArray.eraseIdxIfInBounds x.1) = (es.eraseIdx x.1).toArray := by
   apply Array.ext'
   rw [Array.toList_eraseIdxIfInBounds]
  simp [Builtin.delete_, run_underlying hu, Go.MapKept.run_getObj_map hb, run_checkKey hd hk, run_findKey hd hf, Go.MapKept.run_setObj_map _ hb, Result.andThen, this]
theorem Chk.del {t k e : TypeId} {d : TypeDesc} {z : Value} (hT : tmap P t = some (k, e, d, z)) (i : Nat) {x y : Operand} {t2 : TypeId} {r clock : Nat} {es : List MapEntry} {key : Value} {res : Option (Nat × MapEntry)} (hk : IsKey d key) (hks : ∀ x ∈ es, IsKey d x.key) (h0 : Found es key res) (huq : ∀ res', Found es key res' → res' = res) (hop : o.op = .call { callee := .builtin .delete, args := #[x, y], argTypes := #[t, t2] } := by rfl) (hx : ev m x = some (.map (some r)) := by rfl) (hy : ev m y = some key := by rfl) (hi : L[i]? = some (mapE r es clock) := by rfl) : Chk P m L R o i (mapE r ((res.map fun x => es.eraseIdx x.1).getD es) clock) := ⟨_, hi, fun a w hs hd => by
 have he := hs.ev hx
 have hf := hs.ev hy
 have hH := hd.1 _ (List.mem_of_getElem? hi)
 obtain ⟨res', h1, h2⟩ := found_spec hk hks
 obtain rfl := huq res' h1
 have hr := run_del hT hk hH h2 o.type t2
 have hb : w.heap[r]? = some (.map es.toArray clock) := hH
 have hs2 := set_fr hb (.map ((res'.map fun x => es.eraseIdx x.1).getD es).toArray clock)
 refine ⟨_, .inr ⟨.tuple #[], ?_⟩, hs2.2, hs2.1, by simp [mapE, obE], fun k hk => .inl hk⟩
 unfold execOp
 simp only [hop]
 change ((Builtin.delete_ #[t, t2] o.type (#[x, y].map a.eval)) >>= fun v => (pure (.value v) : Sem Next)).run P w = _
 rw [show #[x, y].map a.eval = #[.map (some r), key] from by simp [he, hf], run_bind_ok hr]; rfl⟩
theorem Mke.rng {t k e : TypeId} {d : TypeDesc} {z : Value} (hT : tmap P t = some (k, e, d, z)) {x : Operand} {r clock : Nat} {es : List MapEntry} (i : Nat) (hop : o.op = .range t x := by rfl) (hx : ev m x = some (.map (some r)) := by rfl) (hi : (L ++ R)[i]? = some (mapE r es clock) := by rfl) : Mke P m L R o (fun g => .pointer (some ⟨g, 0, none⟩)) (.mapIter (some r) clock #[] clock) := fun a w hs hd => by
 have he := hs.ev hx
 generalize a.eval = ρ at he
 have hH : (mapE r es clock).H w := by
  rcases List.mem_append.1 (List.mem_of_getElem? hi) with q | q
  ·exact hd.1 _ q
  ·exact hd.2 _ q
 have hb : w.heap[r]? = some (.map es.toArray clock) := hH
 obtain ⟨hu, _, _⟩ := tmap_spec hT
 have h : (Instr.range t (.map (some r))).run P w = .ok (.pointer (some ⟨w.heap.size, 0, none⟩)) (w.alloc (.mapIter (some r) clock #[] clock)) := by
  simp [Instr.range, run_underlying hu, Go.MapKept.run_getObj_map hb, Result.andThen]
 unfold execOp
 simp only [hop, he]
 change ((Instr.range t (.map (some r))) >>= fun v => (pure (.value v) : Sem Next)).run P w = _
 rw [run_bind_ok h]; rfl
theorem Chs.next {x : Operand} {g r clock : Nat} {seen : Array Nat} {es : List MapEntry} (i j : Nat) (hold : ∀ x ∈ es, x.born < clock) (hop : o.op = .next x false := by rfl) (hx : ev m x = some (.pointer (some ⟨g, 0, none⟩)) := by rfl) (hi : L[i]? = some (mitE g r clock seen) := by rfl) (hj : (L ++ R)[j]? = some (mapE r es clock) := by rfl) : Chs P m L R o i (fun v e' => (v = .tuple #[.bool false] ∧ (∀ x ∈ es, x.born ∈ seen) ∧ e' = mitE g r clock seen) ∨ ∃ e ∈ es, e.born ∉ seen ∧ v = .tuple #[.bool true, e.key, e.val] ∧ e' = mitE g r clock (seen.push e.born)) := ⟨_, hi, fun a w hs hd => by
 have he := hs.ev hx
 generalize a.eval = ρ at he
 have hg : w.heap[g]? = some (.mapIter (some r) clock seen clock) := hd.1 _ (List.mem_of_getElem? hi)
 have hb : w.heap[r]? = some (.map es.toArray clock) := by
  rcases List.mem_append.1 (List.mem_of_getElem? hj) with q | q
  ·exact hd.1 _ q
  ·exact hd.2 _ q
 rcases run_next_at (P := P) w o.type g r clock clock seen es.toArray clock hg hb (by simpa using hold) (Nat.le_refl _) with ⟨h0, hrun⟩ | ⟨e, hem, w1, hw1, hrun⟩
 ·refine ⟨_, mitE g r clock seen, w, ?_, .inl ⟨rfl, ?_, rfl⟩, hg, Fr.refl _ _, by simp [mitE, obE], fun k hk => .inl hk⟩
  ·unfold execOp
   simp only [hop, he]
   change ((Instr.next (.pointer (some ⟨g, 0, none⟩)) false o.type) >>= fun v => (pure (.value v) : Sem Next)).run P w = _
   rw [run_bind_ok hrun]; rfl
  ·intro x hx
   unfold leftOf at h0
   have h0 := Array.eq_empty_of_size_eq_zero h0
   rw [Array.filter_eq_empty_iff] at h0
   have := h0 x (by simpa using hx)
   simpa using this
 ·have hne : g ≠ r := fun q => by subst q; rw [hg] at hb; cases hb
  have hh : w1.heap = w.heap := by rcases hw1 with rfl | rfl <;> rfl
  have hg1 : w1.heap[g]? = some (.mapIter (some r) clock seen clock) := by rw [hh]; exact hg
  have hs2 := set_fr hg1 (.mapIter (some r) clock (seen.push e.born) clock)
  unfold leftOf at hem
  simp only [Array.toList_filter, List.mem_filter] at hem
  refine ⟨_, mitE g r clock (seen.push e.born), _, ?_, .inr ⟨e, hem.1, by simpa using hem.2, rfl, rfl⟩, hs2.2, ?_, by simp [mitE, obE], fun k hk => .inl hk⟩
  ·unfold execOp
   simp only [hop, he]
   change ((Instr.next (.pointer (some ⟨g, 0, none⟩)) false o.type) >>= fun v => (pure (.value v) : Sem Next)).run P w = _
   rw [run_bind_ok hrun]; rfl
  ·have h1 := hs2.1
   refine ⟨?_, ?_, ?_, ?_, ?_⟩
   ·rcases hw1 with rfl | rfl <;> rfl
   ·rcases hw1 with rfl | rfl <;> rfl
   ·rcases hw1 with rfl | rfl <;> rfl
   ·rw [← hh]; exact h1.size
   ·intro k hk hn; rw [← hh] at hk ⊢; exact h1.block k hk hn⟩
theorem Evl.entry {x : Operand} {g r clock : Nat} {seen : Array Nat} {es : List MapEntry} {e : MapEntry} (i j : Nat) (hem : e ∈ es) (hn : (es.map (·.born)).Nodup) (hop : o.op = .entry x := by rfl) (hx : ev m x = some (.pointer (some ⟨g, 0, none⟩)) := by rfl) (hi : (L ++ R)[i]? = some (mitE g r clock (seen.push e.born)) := by rfl) (hj : (L ++ R)[j]? = some (mapE r es clock) := by rfl) : Evl P m L R o (.tuple #[e.key, e.val]) := fun a w hs hd => by
 have he := hs.ev hx
 generalize a.eval = ρ at he
 have hg : w.heap[g]? = some (.mapIter (some r) clock (seen.push e.born) clock) := by
  rcases List.mem_append.1 (List.mem_of_getElem? hi) with q | q
  ·exact hd.1 _ q
  ·exact hd.2 _ q
 have hb : w.heap[r]? = some (.map es.toArray clock) := by
  rcases List.mem_append.1 (List.mem_of_getElem? hj) with q | q
  ·exact hd.1 _ q
  ·exact hd.2 _ q
 have hrun := run_entry_at (P := P) w g r clock seen es.toArray clock e hg hb (by simpa using hem) (by simpa using hn)
 unfold execOp
 simp only [hop, he]
 change ((Instr.entry (.pointer (some ⟨g, 0, none⟩))) >>= fun v => (pure (.value v) : Sem Next)).run P w = _
 rw [run_bind_ok hrun]; rfl
end
end Go.Proofs.YtbmhgopjblnfnaaGreat.S
namespace Go.Proofs.YtbmhgopjblnfnaaGreat.S
open Go Go.RowKit Go.Proofs.YtbmhgopjblnfnaaGreatW.PrintLast Tryz
def andV (k : IntKind) (a b : Int) : Int := k.wrap (BitVec.ofInt k.bits a &&& BitVec.ofInt k.bits b).toNat
def iorV (k : IntKind) (a b : Int) : Int := k.wrap (BitVec.ofInt k.bits a ||| BitVec.ofInt k.bits b).toNat
def xorV (k : IntKind) (a b : Int) : Int := k.wrap (BitVec.ofInt k.bits a ^^^ BitVec.ofInt k.bits b).toNat
def shlV (k : IntKind) (a : Int) (n : Nat) : Int := k.wrap (a * 2 ^ (min n k.bits))
def shrV (k : IntKind) (a : Int) (n : Nat) : Int := a.fdiv (2 ^ (min n k.bits))
section
variable {P : Program} {m : Sl} {L R : List Ent} {o : Oper}
theorem Evl.sh {op : BinOp} {T U : TypeId} {x y : Operand} {k ky : IntKind} {a r i : Int} (n : Nat) (ho : (op = .shl ∧ r = shlV k a n) ∨ (op = .shr ∧ r = shrV k a n)) (hop : o.op = .binOp op T x y U := by rfl) (hx : ev m x = some (.int k a) := by rfl) (hy : ev m y = some (.int ky i) := by rfl) (hi : i = (n : Int) := by rfl) : Evl P m L R o (.int k r) := fun ac w hs _ => by
 have he := hs.ev hx
 have hf := hs.ev hy
 generalize ac.eval = ρ at he hf
 subst hi
 have h2 : (binOp op T (.int k a) (.int ky (n : Int))).run P w = .ok (.int k r) w := by
  rcases ho with ⟨rfl, rfl⟩ | ⟨rfl, rfl⟩
  ·show (Op.shift .shl k a ky (n : Int)).run P w = _
   unfold Op.shift
   rw [if_neg (by omega)]
   simp only [Int.toNat_natCast]; rfl
  ·show (Op.shift .shr k a ky (n : Int)).run P w = _
   unfold Op.shift
   rw [if_neg (by omega)]
   simp only [Int.toNat_natCast]; rfl
 have h0 : (eqGuard op T x y (.int k a) (.int ky (n : Int))).run P w = .ok () w := by rcases ho with ⟨rfl, _⟩ | ⟨rfl, _⟩ <;> rfl
 have h3 : ((eqGuard op T x y (.int k a) (.int ky (n : Int)) >>= fun _ => binOp op T (.int k a) (.int ky (n : Int))) : Sem Value).run P w = .ok (.int k r) w := by
  rw [run_bind_ok h0]; exact h2
 unfold execOp
 simp only [hop, he, hf]
 change ((eqGuard op T x y (.int k a) (.int ky (n : Int)) >>= fun _ => binOp op T (.int k a) (.int ky (n : Int))) >>= fun u => (pure (.value u) : Sem Next)).run P w = _
 rw [run_bind_ok h3]
 rfl
theorem Evl.sidx {T : TypeId} (hT : tstr P T = true) {x y : Operand} {s : ByteArray} {k : IntKind} {i r : Int} (n : Nat) {b : UInt8} (hs : s[n]? = some b) (hr : (b.toNat : Int) = r := by rfl) (hop : o.op = .index T x y := by rfl) (hx : ev m x = some (.string s) := by rfl) (hy : ev m y = some (.int k i) := by rfl) (hi : i = (n : Int) := by rfl) : Evl P m L R o (.int .u8 r) := fun a w hs' _ => by
 have he := hs'.ev hx
 have hf := hs'.ev hy
 generalize a.eval = ρ at he hf
 subst hi hr
 unfold tstr at hT
 split at hT
 ·next hu => simp [execOp, hop, he, hf, Instr.index, asIntOf, underlying, hu, hs, go_sem]
 ·cases hT
end
end Go.Proofs.YtbmhgopjblnfnaaGreat.S
namespace Go.Proofs.YtbmhgopjblnfnaaGreat.S
open Go Go.RowKit Go.Lib Go.Proofs.YtbmhgopjblnfnaaGreatW.PrintLast Tryz
theorem Spec.same {P : Program} {f : FuncId} {args : List Value} {v : Value} (h : ∀ w, Calls P f args.toArray w fun e w' => e = .returned v ∧ w' = w) : Spec P f args [] [] (fun u Ln => u = v ∧ Ln = []) := fun w _ _ _ _ => (h w).mono fun e w' ⟨he, hb⟩ => ⟨v, [], he, ⟨rfl, rfl⟩, hb ▸ Fr.refl w _, by simp, by simp [ids], by simp [ids]⟩
section
variable {P : Program} {m : Sl} {L R : List Ent} {o : Oper}
theorem Evl.cat {T U : TypeId} (hT : tstr P T = true) {x y : Operand} {s s' : ByteArray} (h : s.size + s'.size ≤ 4611686018427387904) (hop : o.op = .binOp .add T x y U := by rfl) (hx : ev m x = some (.string s) := by rfl) (hy : ev m y = some (.string s') := by rfl) : Evl P m L R o (.string (s ++ s')) := fun a w hs _ => by
 have he := hs.ev hx
 have hf := hs.ev hy
 generalize a.eval = ρ at he hf
 have h1 : (binOp .add T (.string s) (.string s')).run P w = .ok (.string (s ++ s')) w := by
  show (Op.stringOp .add s s').run P w = _
  exact run_string_add_sum w s s' (by omega)
 have h0 : (eqGuard .add T x y (.string s) (.string s')).run P w = .ok () w := rfl
 have h3 : ((eqGuard .add T x y (.string s) (.string s') >>= fun _ => binOp .add T (.string s) (.string s')) : Sem Value).run P w = .ok (.string (s ++ s')) w := by
  rw [run_bind_ok h0]; exact h1
 unfold execOp
 simp only [hop, he, hf]
 change ((eqGuard .add T x y (.string s) (.string s') >>= fun _ => binOp .add T (.string s) (.string s')) >>= fun u => (pure (.value u) : Sem Next)).run P w = _
 rw [run_bind_ok h3]; rfl
theorem seq_bytes (a b : ByteArray) : (a.toList == b.toList) = decide (a = b) := by
 by_cases h : a = b
 ·subst h; simp
 ·rw [decide_eq_false h]
  simp only [beq_eq_false_iff_ne, ne_eq]
  intro e
  exact h (by
   have e1 : a.data.toList = b.data.toList := by
    rw [ByteArray.toList_eq, ByteArray.toList_eq] at e
    exact e
   cases a; cases b; simp at e1; rw [e1])
theorem Evl.seq {T U : TypeId} (hT : tstr P T = true) {x y : Operand} {s s' : ByteArray} (hop : o.op = .binOp .eql T x y U := by rfl) (hx : ev m x = some (.string s) := by rfl) (hy : ev m y = some (.string s') := by rfl) : Evl P m L R o (.bool (decide (s = s'))) := fun a w hs _ => by
 have he := hs.ev hx
 have hf := hs.ev hy
 generalize a.eval = ρ at he hf
 have h1 : (binOp .eql T (.string s) (.string s')).run P w = .ok (.bool (decide (s = s'))) w := by
  rw [← seq_bytes]
  rfl
 have h0 : (eqGuard .eql T x y (.string s) (.string s')).run P w = .ok () w := rfl
 have h3 : ((eqGuard .eql T x y (.string s) (.string s') >>= fun _ => binOp .eql T (.string s) (.string s')) : Sem Value).run P w = .ok (.bool (decide (s = s'))) w := by
  rw [run_bind_ok h0]; exact h1
 unfold execOp
 simp only [hop, he, hf]
 change ((eqGuard .eql T x y (.string s) (.string s') >>= fun _ => binOp .eql T (.string s) (.string s')) >>= fun u => (pure (.value u) : Sem Next)).run P w = _
 rw [run_bind_ok h3]; rfl
end
theorem apps_own {P : Program} {w : World} {t u ty e : TypeId} {i : TypeInfo} {n c : Nat} {xs : List Value} {a : Option Addr} (ht : P.underlying t = some (.slice e)) (hu : P.underlying u = some .string) (hi : P.info? e = some i) (hz : i.zero = some (.int .u8 0)) (hsz : i.size = 1) (hby : i.bytes = 1) (hr : (row a c e 1 n xs).H w) (s : ByteArray) (hs : n + s.size ≤ 70368744177664) :
  ∃ a' c' w', (Builtin.append_ #[t, u] ty #[.slice a n c, .string s]).run P w = .ok (.slice a' (n + s.size) c') w' ∧ (row a' c' e 1 (n + s.size) (xs ++ strCells s)).H w' ∧ Fr w w' (row a c e 1 n xs).own ∧ (∀ x ∈ (row a' c' e 1 (n + s.size) (xs ++ strCells s)).own, x ∈ (row a c e 1 n xs).own ∨ w.heap.size ≤ x) := by
 have hr' : w.ownsRow 0 e 1 (.slice a n c) n xs := hr
 have hm : (0 : Nat) ≤ w.heap.size := Nat.zero_le _
 obtain ⟨v', w', hrun, hown, hg, hnil⟩ := run_append_own_string (P := P) (w := w) 0 t u ty e i ht hu hi hz hsz hby (.slice a n c) n xs hr' s (by simp only [maxLen]; omega) (by omega) hm
 have hfr : Fr w w' (row a c e 1 n xs).own := ⟨hg.os, hg.tape, hg.output, hg.size, fun q hq hn => hg.block q hq (by cases a with
  | none => simp [Value.ownBlock]
  | some p => simp [Value.ownBlock]; intro e; subst e; exact hn (by simp [row]))⟩
 have key : ∀ q, v'.ownBlock = some q → q ∈ (row a c e 1 n xs).own ∨ w.heap.size ≤ q := by
  intro q hq
  rcases hr'.2 with ⟨he, hn0⟩ | ⟨g, cap, cur, he, _, hgb, hnc, hcm, hcs, htk⟩
  ·cases he
   by_cases hm0 : s.size = 0
   ·rw [hnil.2 ⟨rfl, hm0⟩] at hq; simp [Value.ownBlock] at hq
   ·have hr2 := run_append_nil_string (P := P) w t u ty e i (.int .u8 0) ht hu hi hz s (by omega) (by omega) (by rw [hby]; omega)
    have := hrun.symm.trans hr2
    cases this
    simp [Value.ownBlock] at hq
    exact .inr (by omega)
  ·cases he
   by_cases hroom : n + s.size ≤ c
   ·have hr2 := run_append_room_string (P := P) (w := w) t u ty e i ht hu hi hsz g n c cur hgb s hroom (by rw [hcs]; omega)
    have := hrun.symm.trans hr2
    cases this
    simp [Value.ownBlock] at hq
    exact .inl (by simp [row, hq])
   ·have hr2 := run_append_grow_string (P := P) (w := w) t u ty e i (.int .u8 0) ht hu hi hz ⟨g, 0, none⟩ n c xs (by rw [hsz]; exact hr'.1) (hr'.cells (g := g) rfl) s (by omega) (by omega) (by rw [hby]; exact growslice_fits (by omega) (by omega))
    have := hrun.symm.trans hr2
    cases this
    simp [Value.ownBlock] at hq
    exact .inr (by omega)
 rcases hown.2 with ⟨he, hn0⟩ | ⟨g, cap, cur, he, _, rest⟩
 ·subst he
  refine ⟨none, 0, w', ?_, ?_, hfr, by simp [row]⟩
  ·rw [hrun, hn0]
  ·rw [hn0] at hown ⊢; exact hown
 ·subst he
  refine ⟨some ⟨g, 0, none⟩, cap, w', hrun, hown, hfr, ?_⟩
  intro x hx
  simp [row] at hx
  subst hx
  exact key _ rfl
def tbyte (P : Program) (t u : TypeId) : Bool := match P.underlying t, P.underlying u, P.underlying 5, P.info? 5 with
 | some (.slice 5), some .string, some (.int .u8), some i => (match i.zero with | some (.int .u8 0) => true | _ => false) && i.size == 1 && i.bytes == 1
 | _, _, _, _ => false
section
variable {P : Program} {m : Sl} {L R : List Ent} {o : Oper}
theorem Chs.apps {t u : TypeId} {n c : Nat} {xs : List Value} {a : Option Addr} {x y : Operand} {s : ByteArray} (hT : tbyte P t u = true) (i : Nat) (hs63 : n + s.size ≤ 70368744177664) (hop : o.op = .call { callee := .builtin .append, args := #[x, y], argTypes := #[t, u] } := by rfl) (hx : ev m x = some (.slice a n c) := by rfl) (hy : ev m y = some (.string s) := by rfl) (hi : L[i]? = some (row a c 5 1 n xs) := by rfl) :
  Chs P m L R o i (fun v e' => ∃ a' c', v = .slice a' (n + s.size) c' ∧ e' = row a' c' 5 1 (n + s.size) (xs ++ strCells s)) := ⟨_, hi, fun ac w hs' hd => by
 have he := hs'.ev hx
 have hf := hs'.ev hy
 unfold tbyte at hT
 split at hT
 ·next i' h1 h2 h3 h4 =>
  simp only [Bool.and_eq_true, beq_iff_eq] at hT
  obtain ⟨⟨hz, hsz⟩, hby⟩ := hT
  have hz' : i'.zero = some (.int .u8 0) := by
   split at hz
   ·assumption
   ·cases hz
  obtain ⟨a', c', w', hrun, r1, r2, r3⟩ := apps_own (ty := o.type) h1 h2 h4 hz' hsz hby (hd.1 _ (List.mem_of_getElem? hi)) s hs63
  refine ⟨_, _, w', ?_, ⟨a', c', rfl, rfl⟩, r1, r2, by cases a' <;> simp [row], r3⟩
  generalize ac.eval = ρ at he hf
  unfold execOp
  simp only [hop, resolve, invoke, builtin, Sem.run_bind, Sem.run_pure, Result.andThen_ok, List.map_toArray, List.map_cons, List.map_nil, he, hf, hrun]
 ·cases hT⟩
def strOf (l : List Int) : ByteArray := l.foldl (fun r n => r.push (UInt8.ofNat n.toNat)) ByteArray.empty
def u8s (l : List Int) : List Value := l.map (Value.int .u8)
theorem Evl.b2s {S T : TypeId} (hT : tbyte P S T = true) (i : Nat) {x : Operand} {g off n c : Nat} {cs : List Value} {l : List Int} {e : Ent} (hv : (cs.drop off).take n = u8s l) (hn : l.length = n) (hop : o.op = .convert S T x := by rfl) (hx : ev m x = some (.slice (some ⟨g, off, none⟩) n c) := by rfl) (hi : (L ++ R)[i]? = some e := by rfl) (hc : Cel e g cs := by first | exact Cel.blk _ _ _ | exact Cel.ro _ _ _ | exact Cel.row _ _ _ _ _ _) : Evl P m L R o (.string (strOf l)) := fun a w hs hd => by
 have hH : e.H w := by
  rcases List.mem_append.1 (List.mem_of_getElem? hi) with q | q
  ·exact hd.1 e q
  ·exact hd.2 e q
 have he := hs.ev hx
 generalize a.eval = ρ at he
 have hl : (loadCells ⟨g, off, none⟩ n).run P w = .ok (u8s l).toArray w := run_loadCells _ (u8s l) (by simp [u8s, hn]) fun k v hk => by
  rw [add_at]
  refine hc w hH _ _ ?_
  rw [← hv, List.getElem?_take] at hk
  split at hk
  ·rw [List.getElem?_drop] at hk; exact hk
  ·cases hk
 unfold tbyte at hT
 split at hT
 ·next i' h1 h2 h3 h4 =>
  have h5 : (convert S T (.slice (some ⟨g, off, none⟩) n c)).run P w = .ok (.string (strOf l)) w := by
   rw [run_convert_bytes_string w S T 5 _ _ _ h1 h3 h2]
   exact run_bytesToString w _ n c l hl
  unfold execOp
  simp only [hop, he]
  change ((convert S T (.slice (some ⟨g, off, none⟩) n c)) >>= fun v => (pure (.value v) : Sem Next)).run P w = _
  rw [run_bind_ok h5]; rfl
 ·cases hT
theorem Evl.sla {T : TypeId} {N sz : Nat} (hT : tarray P T = some (N, sz)) (lo hi : Nat) {x y z : Operand} {ky kz : IntKind} {iy iz : Int} {g off off' : Nat} (h1 : lo ≤ hi) (h2 : hi ≤ N) (h3 : lo < N) (hoff : off + lo * sz = off') (e1 : iy = (lo : Int)) (e2 : iz = (hi : Int)) (hop : o.op = .slice T x (some y) (some z) none := by rfl) (hx : ev m x = some (.pointer (some ⟨g, off, none⟩)) := by rfl) (hy : ev m y = some (.int ky iy) := by rfl) (hz : ev m z = some (.int kz iz) := by rfl) : Evl P m L R o (.slice (some ⟨g, off', none⟩) (hi - lo) (N - lo)) := fun a w hs _ => by
 have he := hs.ev hx
 have hf := hs.ev hy
 have hg := hs.ev hz
 subst hoff e1 e2
 generalize a.eval = ρ at he hf hg
 unfold tarray at hT
 split at hT
 ·next n' e' hu2 =>
  obtain ⟨inf, hin, hT⟩ := Option.map_eq_some_iff.1 hT
  simp only [Prod.mk.injEq] at hT
  obtain ⟨rfl, rfl⟩ := hT
  have c1 : (0 : Int) ≤ (lo : Int) ∧ (lo : Int) ≤ (hi : Int) := by omega
  have c2 : (0 : Int) ≤ (hi : Int) ∧ (hi : Int) ≤ (n' : Int) := by omega
  have c3 : n' ≠ lo := by omega
  simp [execOp, hop, he, hf, hg, Instr.sliceAt, Instr.sureAddr, Instr.sliceBounds, Instr.sliceBound, asIntOf, underlying, hu2, c1, c2, h1, h2, c3, sizeOf, typeInfo, hin, add_at, asAddr, go_sem]
 ·cases hT
theorem Evl.slb {T : TypeId} {N sz : Nat} (hT : tarray P T = some (N, sz)) (hi : Nat) {x z : Operand} {kz : IntKind} {iz : Int} {g off : Nat} (h2 : hi ≤ N) (h3 : 0 < N) (e2 : iz = (hi : Int)) (hop : o.op = .slice T x none (some z) none := by rfl) (hx : ev m x = some (.pointer (some ⟨g, off, none⟩)) := by rfl) (hz : ev m z = some (.int kz iz) := by rfl) : Evl P m L R o (.slice (some ⟨g, off, none⟩) hi N) := fun a w hs _ => by
 have he := hs.ev hx
 have hg := hs.ev hz
 subst e2
 generalize a.eval = ρ at he hg
 unfold tarray at hT
 split at hT
 ·next n' e' hu2 =>
  obtain ⟨inf, hin, hT⟩ := Option.map_eq_some_iff.1 hT
  simp only [Prod.mk.injEq] at hT
  obtain ⟨rfl, rfl⟩ := hT
  have c2 : (0 : Int) ≤ (hi : Int) ∧ (hi : Int) ≤ (n' : Int) := by omega
  have c3 : n' ≠ 0 := by omega
  simp [execOp, hop, he, hg, Instr.sliceAt, Instr.sureAddr, Instr.sliceBounds, Instr.sliceBound, asIntOf, underlying, hu2, c2, h2, c3, sizeOf, typeInfo, hin, add_at, asAddr, go_sem]
 ·cases hT
end
def tup (P : Program) (s d e : TypeId) : Bool := match P.underlying s, P.underlying d, P.info? e with
 | some (.pointer t), some .unsafePointer, some j => t == e && (j.size == 2 && liesAt P P.depth e (2 / P.cellsOf e) 0 e 1)
 | _, _, _ => false
section
variable {P : Program} {m : Sl} {L R : List Ent} {o : Oper}
theorem blk_shape {w : World} {g : Nat} {a b : Value} {e : TypeId} (h : (blk g [a, b] e).H w) : w.shape? g = some (e, 2) := by
 have h : w.heap[g]? = some (.cells [a, b].toArray e (0, 0)) := h
 simp [World.shape?, h]
theorem tup_spec {s d e : TypeId} (hT : tup P s d e = true) : ∃ j, P.underlying s = some (.pointer e) ∧ P.underlying d = some .unsafePointer ∧ P.info? e = some j ∧ j.size = 2 ∧ liesAt P P.depth e (2 / P.cellsOf e) 0 e 1 = true := by
 unfold tup at hT
 split at hT
 ·next t j h1 h2 h3 =>
  simp only [Bool.and_eq_true, beq_iff_eq] at hT
  obtain ⟨rfl, h4, h5⟩ := hT
  exact ⟨j, h1, h2, h3, h4, h5⟩
 ·cases hT
theorem Evl.tou {s d e : TypeId} (hT : tup P s d e = true) (i : Nat) {x : Operand} {g : Nat} {u v : Value} (hop : o.op = .convert s d x := by rfl) (hx : ev m x = some (.pointer (some ⟨g, 0, none⟩)) := by rfl) (hi : (L ++ R)[i]? = some (blk g [u, v] e) := by rfl) : Evl P m L R o (.pointer (some ⟨g, 0, none⟩)) := fun a w hs hd => by
 have he := hs.ev hx
 generalize a.eval = ρ at he
 have hH : (blk g [u, v] e).H w := by
  rcases List.mem_append.1 (List.mem_of_getElem? hi) with q | q
  ·exact hd.1 _ q
  ·exact hd.2 _ q
 obtain ⟨j, h1, h2, h3, h4, h5⟩ := tup_spec hT
 have hr := run_to_unsafe (P := P) w ⟨g, 0, none⟩ h1 h2 h3 (by omega) (blk_shape hH) (show (0 : Nat) < 2 by decide)
 unfold execOp
 simp only [hop, he]
 change ((convert s d (.pointer (some ⟨g, 0, none⟩))) >>= fun v => (pure (.value v) : Sem Next)).run P w = _
 rw [run_bind_ok hr]; rfl
theorem Evl.fru {s d e : TypeId} (hT : tup P s d e = true) (i : Nat) {x : Operand} {g : Nat} {u v : Value} (hop : o.op = .convert d s x := by rfl) (hx : ev m x = some (.pointer (some ⟨g, 0, none⟩)) := by rfl) (hi : (L ++ R)[i]? = some (blk g [u, v] e) := by rfl) : Evl P m L R o (.pointer (some ⟨g, 0, none⟩)) := fun a w hs hd => by
 have he := hs.ev hx
 generalize a.eval = ρ at he
 have hH : (blk g [u, v] e).H w := by
  rcases List.mem_append.1 (List.mem_of_getElem? hi) with q | q
  ·exact hd.1 _ q
  ·exact hd.2 _ q
 obtain ⟨j, h1, h2, h3, h4, h5⟩ := tup_spec hT
 have hr := run_from_unsafe (P := P) w ⟨g, 0, none⟩ h2 h1 h3 (blk_shape hH) h5
 unfold execOp
 simp only [hop, he]
 change ((convert d s (.pointer (some ⟨g, 0, none⟩))) >>= fun v => (pure (.value v) : Sem Next)).run P w = _
 rw [run_bind_ok hr]; rfl
theorem Evl.ext1 {f : FuncId} {fn : Func} {e : Array Value → Sem Value} (hf : P.funcs[f]? = some fn) (hn : (fn.name == "runtime.NumGoroutine") = false) (hb : fn.body.isNone = true) (hx' : Extern.findNext fn = none) (he : Extern.find fn = some e) {x : Operand} {ts : Array TypeId} {v u : Value} (hr : ∀ w, (e #[v]).run P w = .ok u w) (hop : o.op = .call { callee := .value (.func f), args := #[x], argTypes := ts } := by rfl) (hx : ev m x = some v := by rfl) : Evl P m L R o u := fun a w hs _ => by
 have hv := hs.ev hx
 have hc := run_callFunc_extern hf hn hb hx' he #[v] w
 rw [hr w] at hc
 have hfn : a.eval (.func f) = .func (.func f) #[] #[] := rfl
 generalize a.eval = ρ at hv hfn
 unfold execOp
 simp [hop, resolve, Deferred.ofValue, invoke, hfn, hv, hc, Result.andThen]
theorem Evl.pne {T U e : TypeId} (hT : (match P.underlying T, P.info? e with | some (.pointer t), some _ => t == e | _, _ => false) = true) {x y : Operand} {p : Addr} (hop : o.op = .binOp .neq T x y U := by rfl) (hx : ev m x = some (.pointer (some p)) := by rfl) (hy : ev m y = some (.pointer (some p)) := by rfl) : Evl P m L R o (.bool false) := fun a w hs _ => by
 have he := hs.ev hx
 have hf := hs.ev hy
 generalize a.eval = ρ at he hf
 split at hT
 ·next t j h1 h2 =>
  simp only [beq_iff_eq] at hT
  subst hT
  have hr := run_neq_ptr_same (P := P) w p h1 h2
  have h0 : (eqGuard .neq T x y (.pointer (some p)) (.pointer (some p))).run P w = .ok () w := rfl
  have h3 : ((eqGuard .neq T x y (.pointer (some p)) (.pointer (some p)) >>= fun _ => binOp .neq T (.pointer (some p)) (.pointer (some p))) : Sem Value).run P w = .ok (.bool false) w := by
   rw [run_bind_ok h0]; exact hr
  unfold execOp
  simp only [hop, he, hf]
  change ((eqGuard .neq T x y (.pointer (some p)) (.pointer (some p)) >>= fun _ => binOp .neq T (.pointer (some p)) (.pointer (some p))) >>= fun u => (pure (.value u) : Sem Next)).run P w = _
  rw [run_bind_ok h3]; rfl
 ·cases hT
theorem Evl.usd {x : Operand} {p : Option Addr} {n c : Nat} {ts : Array TypeId} (hc : p.isSome = true → c ≠ 0) (hop : o.op = .call { callee := .builtin .unsafeSliceData, args := #[x], argTypes := ts } := by rfl) (hx : ev m x = some (.slice p n c) := by rfl) : Evl P m L R o (.pointer p) := fun a w hs _ => by
 have he := hs.ev hx
 refine run_builtin hop ?_
 show ((Builtin.unsafeSliceData_ ts o.type (#[x].map a.eval)) >>= fun v => (pure (.value v) : Sem Next)).run P w = _
 rw [show #[x].map a.eval = #[.slice p n c] from by simp [he]]
 cases p with
 | none => rw [run_bind_ok (run_unsafeSliceData_nil (P := P) w ts o.type n c)]; rfl
 | some q => rw [run_bind_ok (run_unsafeSliceData_row (P := P) w ts o.type q n c (hc rfl))]; rfl
def dead (g : Nat) : Ent where
 own := [g]
 H w := g < w.heap.size ∧ ∃ cs t z, w.heap[g]? = some (.cells cs t z)
 loc w w' h hw := by
  obtain ⟨_, cs, t, z, hg⟩ := hw
  have := (h g (by simp)).trans hg
  exact ⟨lt_of_some this, cs, t, z, this⟩
 lt w hw k hk := by simp at hk; subst hk; exact hw.1
theorem freeze_at {w : World} {g n : Nat} {cs : Array Value} {t : TypeId} (h : w.heap[g]? = some (.cells cs t (0, 0))) : (dead g).H (w.freeze ⟨g, 0, none⟩ n) ∧ Fr w (w.freeze ⟨g, 0, none⟩ n) [g] := by
 have hlt := lt_of_some h
 unfold World.freeze
 split
 ·exact ⟨⟨hlt, cs, t, (0, 0), h⟩, Fr.refl _ _⟩
 ·refine ⟨⟨by simpa using hlt, ?_⟩, ⟨rfl, rfl, rfl, by simp, fun k hk hn => ?_⟩⟩
  ·simp only [Array.getElem?_modify, if_true, h, Option.map_some]
   exact ⟨_, _, _, rfl⟩
  ·rw [Array.getElem?_modify, if_neg (by simpa using fun q : g = k => hn (by simp [q]))]
theorem Evl.us0 {x y : Operand} {p : Option Addr} {pt it : TypeId} (hop : o.op = .call { callee := .builtin .unsafeString, args := #[x, y], argTypes := #[pt, it] } := by rfl) (hx : ev m x = some (.pointer p) := by rfl) (hy : ev m y = some (.int .i64 0) := by rfl) : Evl P m L R o (.string ByteArray.empty) := fun a w hs _ => by
 have he := hs.ev hx
 have hf := hs.ev hy
 have hr := run_unsafeString_none (P := P) w pt it o.type p
 generalize a.eval = ρ at he hf
 unfold execOp
 simp only [hop, resolve, invoke, builtin, Sem.run_bind, Sem.run_pure, Result.andThen_ok, List.map_toArray, List.map_cons, List.map_nil, he, hf, hr]
def bp (u : Bool) (b : Nat) : Option Addr := if u = true then some ⟨b, 0, none⟩ else none
def tone (P : Program) (t : TypeId) : Bool := match P.underlying t with
 | some (.pointer 5) => P.cellsOf 5 == 1
 | _ => false
theorem Chs.ust {x y : Operand} {g n c : Nat} {l : List UInt8} {pt it : TypeId} (hT : tone P pt = true) (i : Nat) (h0 : l ≠ []) (hl : l.length = n) (hn : n ≤ 1000000000) (hop : o.op = .call { callee := .builtin .unsafeString, args := #[x, y], argTypes := #[pt, it] } := by rfl) (hx : ev m x = some (.pointer (some ⟨g, 0, none⟩)) := by rfl) (hy : ev m y = some (.int .i64 (n : Int)) := by rfl) (hi : L[i]? = some (row (some ⟨g, 0, none⟩) c 5 1 n (byteCells l)) := by rfl) : Chs P m L R o i (fun v e' => v = .string ⟨l.toArray⟩ ∧ e' = dead g) := ⟨_, hi, fun ac w hs' hd => by
 have he := hs'.ev hx
 have hf := hs'.ev hy
 have hH := hd.1 _ (List.mem_of_getElem? hi)
 rcases hH.2 with ⟨he', _⟩ | ⟨g', cap, cur, he', _, hg, h1, h2, h3, ht⟩
 ·cases he'
 ·cases he'
  unfold tone at hT
  split at hT
  ·next hu =>
   have hc1 : P.cellsOf 5 = 1 := by simpa using hT
   subst hl
   have hsh : w.shape? g = some (5, cur.size) := by simp [World.shape?, hg]
   have hcell : ∀ j x, l[j]? = some x → w.cell? ((⟨g, 0, none⟩ : Addr).add j) = some (.int .u8 x.toNat) := by
    intro j x hj
    have := World.ownsRow.cells (w := w) hH (g := g) rfl j (.int .u8 x.toNat) (by simp [byteCells, hj])
    exact this
   have hr := run_unsafeString_row (P := P) (w := w) pt it o.type 5 hu hc1 g cur.size hsh l h0 (by rw [h3]; omega) (by omega) hcell
   have hz := freeze_at (n := l.length) hg
   refine ⟨_, _, _, ?_, ⟨rfl, rfl⟩, hz.1, hz.2, by simp [dead], fun k hk => .inl (by simpa [dead, row] using hk)⟩
   generalize ac.eval = ρ at he hf
   unfold execOp
   simp only [hop, resolve, invoke, builtin, Sem.run_bind, Sem.run_pure, Result.andThen_ok, List.map_toArray, List.map_cons, List.map_nil, he, hf, hr]
  ·cases hT⟩
end
end Go.Proofs.YtbmhgopjblnfnaaGreat.S
namespace Go.Proofs.YtbmhgopjblnfnaaGreat.S
open Go Go.Proofs Go.RowKit Go.Proofs.YtbmhgopjblnfnaaGreatW.PrintLast Tryz
theorem a148 : tarray prog 148 = some (64, 2) := by kernel_rfl
theorem a151 : tarray prog 151 = some (48, 130) := by kernel_rfl
theorem b4 : tbool prog 4 = true := by kernel_rfl
theorem e16 : Is prog 16 := ⟨_, func16, by kernel_rfl, rfl⟩
theorem e17 : Is prog 17 := ⟨_, func17, by kernel_rfl, rfl⟩
theorem e28 : Is prog 28 := ⟨_, func28, by kernel_rfl, rfl⟩
theorem e29 : Is prog 29 := ⟨_, func29, by kernel_rfl, rfl⟩
theorem e30 : Is prog 30 := ⟨_, func30, by kernel_rfl, rfl⟩
theorem e32 : Is prog 32 := ⟨_, func32, by kernel_rfl, rfl⟩
theorem e33 : Is prog 33 := ⟨_, func33, by kernel_rfl, rfl⟩
theorem e41 : Is prog 41 := ⟨_, func41, by kernel_rfl, rfl⟩
theorem e47 : Is prog 47 := ⟨_, func47, by kernel_rfl, rfl⟩
theorem e48 : Is prog 48 := ⟨_, func48, by kernel_rfl, rfl⟩
theorem e49 : Is prog 49 := ⟨_, func49, by kernel_rfl, rfl⟩
theorem e50 : Is prog 50 := ⟨_, func50, by kernel_rfl, rfl⟩
theorem e62 : Is prog 62 := ⟨_, func62, by kernel_rfl, rfl⟩
theorem e63 : Is prog 63 := ⟨_, func63, by kernel_rfl, rfl⟩
theorem e65 : Is prog 65 := ⟨_, func65, by kernel_rfl, rfl⟩
theorem e70 : Is prog 70 := ⟨_, func70, by kernel_rfl, rfl⟩
theorem e71 : Is prog 71 := ⟨_, func71, by kernel_rfl, rfl⟩
theorem e79 : Is prog 79 := ⟨_, func79, by kernel_rfl, rfl⟩
theorem e87 : Is prog 87 := ⟨_, func87, by kernel_rfl, rfl⟩
theorem e126 : Is prog 126 := ⟨_, func126, by kernel_rfl, rfl⟩
theorem f23_0 : tfield prog 23 0 = some 0 := by kernel_rfl
theorem f23_1 : tfield prog 23 1 = some 1 := by kernel_rfl
theorem f23_2 : tfield prog 23 2 = some 2 := by kernel_rfl
theorem f23_3 : tfield prog 23 3 = some 3 := by kernel_rfl
theorem f23_4 : tfield prog 23 4 = some 4 := by kernel_rfl
theorem f23_5 : tfield prog 23 5 = some 5 := by kernel_rfl
theorem f23_6 : tfield prog 23 6 = some 6 := by kernel_rfl
theorem f23_7 : tfield prog 23 7 = some 7 := by kernel_rfl
theorem f23_8 : tfield prog 23 8 = some 8 := by kernel_rfl
theorem f23_9 : tfield prog 23 9 = some 9 := by kernel_rfl
theorem f23_10 : tfield prog 23 10 = some 10 := by kernel_rfl
theorem f23_11 : tfield prog 23 11 = some 11 := by kernel_rfl
theorem f49_0 : tfield prog 49 0 = some 0 := by kernel_rfl
theorem f49_1 : tfield prog 49 1 = some 1 := by kernel_rfl
theorem f150_0 : tfield prog 150 0 = some 0 := by kernel_rfl
theorem f150_1 : tfield prog 150 1 = some 128 := by kernel_rfl
theorem f150_2 : tfield prog 150 2 = some 129 := by kernel_rfl
theorem f153_0 : tfield prog 153 0 = some 0 := by kernel_rfl
theorem i3 : tint prog 3 = true := by kernel_rfl
theorem k3 : tkind prog 3 = some .i64 := by kernel_rfl
theorem k143 : tkind prog 143 = some .u64 := by kernel_rfl
theorem p49 : tplaces prog 49 = some [(0, 1), (1, 1)] := by kernel_rfl
theorem p132 : tplaces prog 132 = some [(0, 1), (1, 1)] := by kernel_rfl
theorem q79 : tptr prog 79 = true := by kernel_rfl
theorem q158 : tptr prog 158 = true := by kernel_rfl
theorem r9 : tstr prog 9 = true := by kernel_rfl
theorem s24 : tslice prog 24 = some (3, 1) := by kernel_rfl
theorem t3 : tsz prog 3 = some (false, 1) := by kernel_rfl
theorem t23 : tsz prog 23 = some (true, 12) := by kernel_rfl
theorem t49 : tsz prog 49 = some (true, 2) := by kernel_rfl
theorem t132 : tsz prog 132 = some (true, 2) := by kernel_rfl
theorem z3 : tzero prog 3 = some [.int .i64 0] := by kernel_rfl
theorem z49 : tzero prog 49 = some [.int .i64 0, .int .i64 0] := by kernel_rfl
theorem z132 : tzero prog 132 = some [.string ByteArray.empty, .int .i64 0] := by kernel_rfl
def clp (x : Int) : Int := if x < -2305843009213693952 then -2305843009213693952 else if 2305843009213693952 < x then 2305843009213693952 else x
theorem clp_b (x : Int) : -2305843009213693952 ≤ clp x ∧ clp x ≤ 2305843009213693952 := by unfold clp; split <;> (try split) <;> omega
theorem clp_id {x : Int} (h1 : -2305843009213693952 ≤ x) (h2 : x ≤ 2305843009213693952) : clp x = x := by unfold clp; rw [if_neg (by omega), if_neg (by omega)]
def bnd (x lo hi : Int) : Int := if x < lo ∨ hi < lo then lo else if hi < x then hi else x
theorem bnd_clp (x : Int) : bnd x (-2305843009213693952) 2305843009213693952 = clp x := by unfold bnd clp; by_cases h : x < -2305843009213693952 <;> simp [h]
def addL (l : List Int) : Int := l.foldl (fun n x => clp (n + clp x)) 0
def sbC (a b : Int) : Int := clp (clp a - clp b)
def absC (a : Int) : Int := if a < 0 then -clp a else clp a
def ints (l : List Int) : List Value := l.map fun x => .int .i64 x
theorem ints_at {l : List Int} {i : Nat} (h : i < l.length) : (ints l)[i]? = some (.int .i64 (l.getD i 0)) := by simp [ints, h]
theorem addL_b (l : List Int) : -2305843009213693952 ≤ addL l ∧ addL l ≤ 2305843009213693952 := by
 rcases List.eq_nil_or_concat l with rfl | ⟨l, x, rfl⟩
 ·decide
 ·unfold addL; rw [List.concat_eq_append, List.foldl_append]; exact clp_b _
theorem addL_take {l : List Int} {k : Nat} (h : k < l.length) : addL (l.take (k + 1)) = clp (addL (l.take k) + clp (l.getD k 0)) := by
 have : l.take (k + 1) = l.take k ++ [l.getD k 0] := by rw [List.take_succ_eq_append_getElem h]; simp [h]
 rw [this]; unfold addL; rw [List.foldl_append]; rfl
theorem s_Bound (x lo hi : Int) : Spec prog 62 [.int .i64 x, .int .i64 lo, .int .i64 hi] [] [] (fun v Ln => v = .int .i64 (bnd x lo hi) ∧ Ln = []) := by
 refine Spec.en func62 ntmps62 fun w0 => ?_
 refine G.sr fun _ K1 => ?_
 refine G.M 6 ?_
 refine G.nk K1 ?_
 refine G.Z fun _ K2 => ?_
 refine G.block ?_
 refine G.Z fun _ K3 => ?_
 by_cases h1 : x < lo
 refine G.region ?_
 refine G.M2 8 9 ?_
 refine G.V 10 (.cast .bin (bt h1)) ?_
 refine G.M 11 ?_
 refine G.O3 12 13 14 ?_
 refine G.V 15 .pick ?_
 refine G.M 7 ?_
 refine G.nk K3 ?_
 refine G.yes rfl ?_
 refine G.sr fun _ K4 => ?_
 refine G.M2 16 6 ?_
 refine G.nk K4 ?_
 exact G.ret (G.F [] (.one Tryz.results62) ⟨by unfold bnd; simp [*], rfl⟩)
 by_cases h2 : hi < lo
 refine G.region ?_
 refine G.M2 8 9 ?_
 refine G.V 10 (.cast .bin (bf h1)) ?_
 refine G.M3 11 12 13 ?_
 refine G.V 14 (.cast .bin (bt h2)) ?_
 refine G.V 15 .pick ?_
 refine G.M 7 ?_
 refine G.nk K3 ?_
 refine G.yes rfl ?_
 refine G.sr fun _ K5 => ?_
 refine G.M2 16 6 ?_
 refine G.nk K5 ?_
 exact G.ret (G.F [] (.one Tryz.results62) ⟨by unfold bnd; simp [*], rfl⟩)
 refine G.region ?_
 refine G.M2 8 9 ?_
 refine G.V 10 (.cast .bin (bf h1)) ?_
 refine G.M3 11 12 13 ?_
 refine G.V 14 (.cast .bin (bf h2)) ?_
 refine G.V 15 .pick ?_
 refine G.M 7 ?_
 refine G.nk K3 ?_
 refine G.no rfl ?_
 refine G.Z fun _ K6 => ?_
 by_cases h3 : x > hi
 refine G.region ?_
 refine G.M2 18 19 ?_
 refine G.V 20 (.cast .bin (bt h3)) ?_
 refine G.M 17 ?_
 refine G.nk K6 ?_
 refine G.yes rfl ?_
 refine G.sr fun _ K7 => ?_
 refine G.M2 21 6 ?_
 refine G.nk K7 ?_
 exact G.ret (G.F [] (.one Tryz.results62) ⟨by unfold bnd; simp [*], rfl⟩)
 refine G.region ?_
 refine G.M2 18 19 ?_
 refine G.V 20 (.cast .bin (bf h3)) ?_
 refine G.M 17 ?_
 refine G.nk K6 ?_
 refine G.no rfl ?_
 refine G.sk K2 ?_
 refine G.sr fun _ K8 => ?_
 refine G.M2 22 6 ?_
 refine G.nk K8 ?_
 exact G.ret (G.F [] (.one Tryz.results62) ⟨by unfold bnd; simp [*], rfl⟩)
theorem s_Clip (x : Int) : Spec prog 48 [.int .i64 x] [] [] (fun v Ln => v = .int .i64 (clp x) ∧ Ln = []) := by
 refine Spec.en func48 ntmps48 fun w0 => ?_
 refine G.sr fun _ K1 => ?_
 refine G.M 2 ?_
 refine G.nk K1 ?_
 refine G.sr fun _ K2 => ?_
 refine G.M 3 ?_
 refine G.cp 4 [] []  e62 (s_Bound x (-2305843009213693952) 2305843009213693952) ?_
 refine G.M 2 ?_
 refine G.nk K2 ?_
 exact G.ret (G.F [] (.one Tryz.results48) ⟨by rw [bnd_clp], rfl⟩)
theorem s_Sub (a b : Int) : Spec prog 33 [.int .i64 a, .int .i64 b] [] [] (fun v Ln => v = .int .i64 (sbC a b) ∧ Ln = []) := by
 have hb0 := clp_b a
 have hb1 := clp_b b
 refine Spec.en func33 ntmps33 fun w0 => ?_
 refine G.sr fun _ K1 => ?_
 refine G.M 4 ?_
 refine G.nk K1 ?_
 refine G.sr fun _ K2 => ?_
 refine G.M 5 ?_
 refine G.cp 6 [] []  e48 (s_Clip a) ?_
 refine G.M 7 ?_
 refine G.cp 8 [] []  e48 (s_Clip b) ?_
 refine G.V 9 .bw ?_
 refine G.cp 10 [] []  e48 (s_Clip ((clp a) - (clp b))) ?_
 refine G.M 4 ?_
 refine G.nk K2 ?_
 exact G.ret (G.F [] (.one Tryz.results33) ⟨rfl, rfl⟩)
theorem s_Neg (a : Int) : Spec prog 50 [.int .i64 a] [] [] (fun v Ln => v = .int .i64 (-clp a) ∧ Ln = []) := by
 have hb0 := clp_b a
 refine Spec.en func50 ntmps50 fun w0 => ?_
 refine G.sr fun _ K1 => ?_
 refine G.M 2 ?_
 refine G.nk K1 ?_
 refine G.sr fun _ K2 => ?_
 refine G.M 3 ?_
 refine G.cp 4 [] []  e48 (s_Clip a) ?_
 refine G.V 5 (.cast .neg (wi (by omega) (by omega))) ?_
 refine G.M 2 ?_
 refine G.nk K2 ?_
 exact G.ret (G.F [] (.one Tryz.results50) ⟨by rw [Int.zero_sub], rfl⟩)
theorem s_Abs (a : Int) : Spec prog 47 [.int .i64 a] [] [] (fun v Ln => v = .int .i64 (absC a) ∧ Ln = []) := by
 refine Spec.en func47 ntmps47 fun w0 => ?_
 refine G.sr fun _ K1 => ?_
 refine G.M 2 ?_
 refine G.nk K1 ?_
 refine G.Z fun _ K2 => ?_
 refine G.sr fun _ K3 => ?_
 refine G.M 3 ?_
 refine G.V 4 .bin ?_
 refine G.nk K3 ?_
 refine G.cond rfl (fun hc4 => ?_) (fun hc4 => ?_)
 refine G.sr fun _ K4 => ?_
 refine G.M 5 ?_
 refine G.cp 6 [] []  e50 (s_Neg a) ?_
 refine G.M 2 ?_
 refine G.nk K4 ?_
 exact G.ret (G.F [] (.one Tryz.results47) ⟨by unfold absC; first | rw [if_pos (of_decide_eq_true hc4)] | rw [if_neg (of_decide_eq_false hc4)], rfl⟩)
 refine G.sk K2 ?_
 refine G.sr fun _ K5 => ?_
 refine G.M 7 ?_
 refine G.cp 8 [] []  e48 (s_Clip a) ?_
 refine G.M 2 ?_
 refine G.nk K5 ?_
 exact G.ret (G.F [] (.one Tryz.results47) ⟨by unfold absC; first | rw [if_pos (of_decide_eq_true hc4)] | rw [if_neg (of_decide_eq_false hc4)], rfl⟩)
theorem s_Add (b c : Nat) (l : List Int) (hc : l.length ≤ c) (hm : l.length < 4611686018427387904) : Spec prog 29 [.slice (some ⟨b, 0, none⟩) l.length c] [] [ro b (ints l) 3] (fun v Ln => v = .int .i64 (addL l) ∧ Ln = []) := by
 refine Spec.en func29 ntmps29 fun w0 => ?_
 refine G.sr fun _ K1 => ?_
 refine G.M 2 ?_
 refine G.nk K1 ?_
 refine G.sr fun _ K2 => ?_
 refine G.M 3 ?_
 refine G.nk K2 ?_
 refine G.Z fun _ K3 => ?_
 refine G.sr fun _ K4 => ?_
 refine G.M 6 ?_
 refine G.V 7 (.lenl s24) ?_
 refine G.M 8 ?_
 refine G.nk K4 ?_
 refine G.block ?_
 refine G.lpR (ι := {k : Nat // k ≤ l.length}) (fun ⟨k, hj⟩ => l.length - k) (fun ⟨k, hj⟩ => [(3, .int .i64 (addL (l.take k))), (6, .slice (some ⟨b, 0, none⟩) l.length c), (7, .int .i64 (l.length : Int)), (8, .int .i64 (k : Int))]) (fun ⟨k, hj⟩ => []) ?_ ?_
 exact G.at ⟨0, Nat.zero_le _⟩ (ts := [3, 6, 7, 8]) rfl rfl rfl rfl
 rintro ⟨k, hj⟩ _ K5
 try dsimp only at K5 ⊢
 refine G.sr fun _ K6 => ?_
 refine G.V 9 .bin ?_
 refine G.nk K6 ?_
 refine G.Z fun _ K7 => ?_
 refine G.cond rfl (fun hc9 => ?_) (fun hc9 => ?_)
 have hk : k < l.length := by simpa using hc9
 refine G.sk K7 ?_
 refine G.Z fun _ K8 => ?_
 refine G.block ?_
 refine G.sr fun _ K9 => ?_
 refine G.V 10 (.is s24 k hk) ?_
 refine G.V 11 (.ld t3 0 (hv := by rw [Nat.zero_add, Nat.mul_one]; exact ints_at hk)) ?_
 refine G.M 5 ?_
 refine G.nk K9 ?_
 refine G.region ?_
 refine G.M2 12 13 ?_
 refine G.cp 14 [] []  e48 (s_Clip (l.getD k 0)) ?_
 refine G.V 15 (.cast .bin (wi (by have := addL_b (l.take k); have := clp_b (l.getD k 0); omega) (by have := addL_b (l.take k); have := clp_b (l.getD k 0); omega))) ?_
 refine G.cp 16 [] []  e48 (s_Clip (addL (l.take k) + clp (l.getD k 0))) ?_
 refine G.M 3 ?_
 refine G.nk K8 ?_
 refine G.region ?_
 refine G.V 17 .bw ?_
 refine G.M 8 ?_
 refine G.nk K5 ?_
 exact G.less ⟨k + 1, hk⟩ (ts := [3, 6, 7, 8]) (by dsimp only; omega) rfl (by simp only [addL_take hk]; rfl) rfl rfl
 have hk : k = l.length := by have := of_decide_eq_false hc9; omega
 refine G.exit ?_
 refine K3 _ _ _ ?_
 refine G.sr fun _ K10 => ?_
 refine G.M2 18 2 ?_
 refine G.nk K10 ?_
 exact G.ret (G.F [] (.one Tryz.results29) ⟨by subst hk; rw [List.take_length], rfl⟩)
def mulC (a b : Int) : Int := (if (a < 0) ≠ (b < 0) then -1 else 1) * (if absC a = 0 ∨ absC b ≤ 2305843009213693952 / absC a then absC a * absC b else 2305843009213693952)
theorem absC_b (x : Int) : 0 ≤ absC x ∧ absC x ≤ 2305843009213693952 := by have := clp_b x; unfold absC; unfold clp at *; split <;> omega
def maxL (l : List Int) : Int := l.foldl (fun n x => if n < clp x then clp x else n) (-2305843009213693952)
theorem quo_eq {a : Int} (h1 : 0 < a) (h2 : a ≤ 2305843009213693952) : IntKind.i64.wrap (Int.tdiv 2305843009213693952 a) = 2305843009213693952 / a := by
 rw [Int.tdiv_eq_ediv_of_nonneg (by omega)]
 have := Int.ediv_nonneg (show (0 : Int) ≤ 2305843009213693952 by omega) (show 0 ≤ a by omega)
 have := Int.ediv_le_self (b := a) (show (0 : Int) ≤ 2305843009213693952 by omega)
 exact wr (by omega) (by omega)
theorem mul_ok {a b : Int} (h1 : 0 < a) (h0 : 0 ≤ b) (h : b ≤ 2305843009213693952 / a) : 0 ≤ a * b ∧ a * b ≤ 2305843009213693952 := by
 have h2 := Int.mul_le_mul_of_nonneg_left h (show 0 ≤ a by omega)
 have h3 := Int.mul_ediv_self_le (x := 2305843009213693952) (k := a) (by omega)
 exact ⟨Int.mul_nonneg (by omega) h0, by omega⟩
def mulP (a b : Int) : Int := if absC a = 0 ∨ absC b ≤ 2305843009213693952 / absC a then absC a * absC b else 2305843009213693952
theorem mul_t {a b p : Int} (h : (!(decide (a < 0) == decide (b < 0))) = true) (hp : mulP a b = p) : Value.int .i64 (0 - p) = .int .i64 (mulC a b) := by
 have hn : (a < 0) ≠ (b < 0) := by intro e; simp only [e] at h; simp at h
 unfold mulC
 rw [if_pos hn]
 unfold mulP at hp
 rw [hp]; congr 1; omega
theorem mul_f {a b p : Int} (h : (!(decide (a < 0) == decide (b < 0))) = false) (hp : mulP a b = p) : Value.int .i64 p = .int .i64 (mulC a b) := by
 have hn : ¬ ((a < 0) ≠ (b < 0)) := by intro e; apply e; simpa using h
 unfold mulC
 rw [if_neg hn]
 unfold mulP at hp
 rw [hp]; congr 1; omega
theorem s_Mul (a b : Int) : Spec prog 28 [.int .i64 a, .int .i64 b] [] [] (fun v Ln => v = .int .i64 (mulC a b) ∧ Ln = []) := by
 have hb0 := absC_b a
 have hb1 := absC_b b
 refine Spec.en func28 ntmps28 fun w0 => ?_
 refine G.sr fun _ K1 => ?_
 refine G.M 4 ?_
 refine G.nk K1 ?_
 refine G.sr fun _ K2 => ?_
 refine G.M 8 ?_
 refine G.cp 9 [] []  e47 (s_Abs a) ?_
 refine G.M 10 ?_
 refine G.cp 11 [] []  e47 (s_Abs b) ?_
 refine G.M2 5 6 ?_
 refine G.nk K2 ?_
 refine G.sr fun _ K3 => ?_
 refine G.M 7 ?_
 refine G.nk K3 ?_
 refine G.Z fun _ K4 => ?_
 refine G.Z fun _ K5 => ?_
 by_cases h0 : absC a = 0
 have hm : absC a * absC b = 0 := by rw [h0]; omega
 refine G.region ?_
 refine G.M 12 ?_
 refine G.V 13 (.cast .bin (et h0)) ?_
 refine G.M 14 ?_
 refine G.O4 15 16 17 18 ?_
 refine G.V 19 .pick ?_
 refine G.nk K5 ?_
 refine G.yes rfl ?_
 refine G.region ?_
 refine G.M2 20 21 ?_
 refine G.V 22 (.cast .bin (wi (by rw [h0]; omega) (by rw [h0]; omega))) ?_
 refine G.M 7 ?_
 refine G.nk K4 ?_
 refine G.Z fun _ K6 => ?_
 refine G.sr fun _ K7 => ?_
 refine G.M 23 ?_
 refine G.V 24 .bin ?_
 refine G.M 25 ?_
 refine G.V 26 .bin ?_
 refine G.V 27 (.bne b4) ?_
 refine G.nk K7 ?_
 refine G.cond rfl (fun hc27 => ?_) (fun hc27 => ?_)
 refine G.sr fun _ K8 => ?_
 refine G.M 28 ?_
 refine G.V 29 (.cast .neg (wi (by omega) (by omega))) ?_
 refine G.M 4 ?_
 refine G.nk K8 ?_
 exact G.ret (G.F [] (.one Tryz.results28) ⟨by first | exact mul_t hc27 (by unfold mulP; rw [if_pos (Or.inl h0)]) | exact mul_t hc27 (by unfold mulP; rw [if_pos (Or.inr h1)]) | exact mul_t hc27 (by unfold mulP; rw [if_neg (not_or.2 ⟨h0, h1⟩)]) | exact mul_f hc27 (by unfold mulP; rw [if_pos (Or.inl h0)]) | exact mul_f hc27 (by unfold mulP; rw [if_pos (Or.inr h1)]) | exact mul_f hc27 (by unfold mulP; rw [if_neg (not_or.2 ⟨h0, h1⟩)]), rfl⟩)
 refine G.sk K6 ?_
 refine G.sr fun _ K9 => ?_
 refine G.M2 30 4 ?_
 refine G.nk K9 ?_
 exact G.ret (G.F [] (.one Tryz.results28) ⟨by first | exact mul_t hc27 (by unfold mulP; rw [if_pos (Or.inl h0)]) | exact mul_t hc27 (by unfold mulP; rw [if_pos (Or.inr h1)]) | exact mul_t hc27 (by unfold mulP; rw [if_neg (not_or.2 ⟨h0, h1⟩)]) | exact mul_f hc27 (by unfold mulP; rw [if_pos (Or.inl h0)]) | exact mul_f hc27 (by unfold mulP; rw [if_pos (Or.inr h1)]) | exact mul_f hc27 (by unfold mulP; rw [if_neg (not_or.2 ⟨h0, h1⟩)]), rfl⟩)
 by_cases h1 : absC b ≤ (2305843009213693952 / absC a)
 have hm := mul_ok (show 0 < absC a by omega) hb1.1 h1
 refine G.region ?_
 refine G.M 12 ?_
 refine G.V 13 (.cast .bin (ef h0)) ?_
 refine G.M3 14 15 16 ?_
 refine G.V 17 (.quo h0 (quo_eq (by omega) (by omega))) ?_
 refine G.V 18 (.cast .bin (bt h1)) ?_
 refine G.V 19 .pick ?_
 refine G.nk K5 ?_
 refine G.yes rfl ?_
 refine G.region ?_
 refine G.M2 20 21 ?_
 refine G.V 22 (.cast .bin (wi (by omega) (by omega))) ?_
 refine G.M 7 ?_
 refine G.nk K4 ?_
 refine G.Z fun _ K10 => ?_
 refine G.sr fun _ K11 => ?_
 refine G.M 23 ?_
 refine G.V 24 .bin ?_
 refine G.M 25 ?_
 refine G.V 26 .bin ?_
 refine G.V 27 (.bne b4) ?_
 refine G.nk K11 ?_
 refine G.cond rfl (fun hc27 => ?_) (fun hc27 => ?_)
 refine G.sr fun _ K12 => ?_
 refine G.M 28 ?_
 refine G.V 29 (.cast .neg (wi (by omega) (by omega))) ?_
 refine G.M 4 ?_
 refine G.nk K12 ?_
 exact G.ret (G.F [] (.one Tryz.results28) ⟨by first | exact mul_t hc27 (by unfold mulP; rw [if_pos (Or.inl h0)]) | exact mul_t hc27 (by unfold mulP; rw [if_pos (Or.inr h1)]) | exact mul_t hc27 (by unfold mulP; rw [if_neg (not_or.2 ⟨h0, h1⟩)]) | exact mul_f hc27 (by unfold mulP; rw [if_pos (Or.inl h0)]) | exact mul_f hc27 (by unfold mulP; rw [if_pos (Or.inr h1)]) | exact mul_f hc27 (by unfold mulP; rw [if_neg (not_or.2 ⟨h0, h1⟩)]), rfl⟩)
 refine G.sk K10 ?_
 refine G.sr fun _ K13 => ?_
 refine G.M2 30 4 ?_
 refine G.nk K13 ?_
 exact G.ret (G.F [] (.one Tryz.results28) ⟨by first | exact mul_t hc27 (by unfold mulP; rw [if_pos (Or.inl h0)]) | exact mul_t hc27 (by unfold mulP; rw [if_pos (Or.inr h1)]) | exact mul_t hc27 (by unfold mulP; rw [if_neg (not_or.2 ⟨h0, h1⟩)]) | exact mul_f hc27 (by unfold mulP; rw [if_pos (Or.inl h0)]) | exact mul_f hc27 (by unfold mulP; rw [if_pos (Or.inr h1)]) | exact mul_f hc27 (by unfold mulP; rw [if_neg (not_or.2 ⟨h0, h1⟩)]), rfl⟩)
 refine G.region ?_
 refine G.M 12 ?_
 refine G.V 13 (.cast .bin (ef h0)) ?_
 refine G.M3 14 15 16 ?_
 refine G.V 17 (.quo h0 (quo_eq (by omega) (by omega))) ?_
 refine G.V 18 (.cast .bin (bf h1)) ?_
 refine G.V 19 .pick ?_
 refine G.nk K5 ?_
 refine G.no rfl ?_
 refine G.sk K4 ?_
 refine G.Z fun _ K14 => ?_
 refine G.sr fun _ K15 => ?_
 refine G.M 23 ?_
 refine G.V 24 .bin ?_
 refine G.M 25 ?_
 refine G.V 26 .bin ?_
 refine G.V 27 (.bne b4) ?_
 refine G.nk K15 ?_
 refine G.cond rfl (fun hc27 => ?_) (fun hc27 => ?_)
 refine G.sr fun _ K16 => ?_
 refine G.M 28 ?_
 refine G.V 29 (.cast .neg (wi (by omega) (by omega))) ?_
 refine G.M 4 ?_
 refine G.nk K16 ?_
 exact G.ret (G.F [] (.one Tryz.results28) ⟨by first | exact mul_t hc27 (by unfold mulP; rw [if_pos (Or.inl h0)]) | exact mul_t hc27 (by unfold mulP; rw [if_pos (Or.inr h1)]) | exact mul_t hc27 (by unfold mulP; rw [if_neg (not_or.2 ⟨h0, h1⟩)]) | exact mul_f hc27 (by unfold mulP; rw [if_pos (Or.inl h0)]) | exact mul_f hc27 (by unfold mulP; rw [if_pos (Or.inr h1)]) | exact mul_f hc27 (by unfold mulP; rw [if_neg (not_or.2 ⟨h0, h1⟩)]), rfl⟩)
 refine G.sk K14 ?_
 refine G.sr fun _ K17 => ?_
 refine G.M2 30 4 ?_
 refine G.nk K17 ?_
 exact G.ret (G.F [] (.one Tryz.results28) ⟨by first | exact mul_t hc27 (by unfold mulP; rw [if_pos (Or.inl h0)]) | exact mul_t hc27 (by unfold mulP; rw [if_pos (Or.inr h1)]) | exact mul_t hc27 (by unfold mulP; rw [if_neg (not_or.2 ⟨h0, h1⟩)]) | exact mul_f hc27 (by unfold mulP; rw [if_pos (Or.inl h0)]) | exact mul_f hc27 (by unfold mulP; rw [if_pos (Or.inr h1)]) | exact mul_f hc27 (by unfold mulP; rw [if_neg (not_or.2 ⟨h0, h1⟩)]), rfl⟩)
theorem maxL_take {l : List Int} {k : Nat} (h : k < l.length) : maxL (l.take (k + 1)) = mx (maxL (l.take k)) (clp (l.getD k 0)) := by
 have : l.take (k + 1) = l.take k ++ [l.getD k 0] := by rw [List.take_succ_eq_append_getElem h]; simp [h]
 rw [this]; unfold maxL mx; rw [List.foldl_append]; rfl
theorem s_Max (b c : Nat) (l : List Int) (hc : l.length ≤ c) (hm : l.length < 4611686018427387904) : Spec prog 140 [.slice (some ⟨b, 0, none⟩) l.length c] [] [ro b (ints l) 3] (fun v Ln => v = .int .i64 (maxL l) ∧ Ln = []) := by
 refine Spec.en func140 ntmps140 fun w0 => ?_
 refine G.sr fun _ K1 => ?_
 refine G.M 2 ?_
 refine G.nk K1 ?_
 refine G.sr fun _ K2 => ?_
 refine G.M 3 ?_
 refine G.nk K2 ?_
 refine G.Z fun _ K3 => ?_
 refine G.sr fun _ K4 => ?_
 refine G.M 6 ?_
 refine G.V 7 (.lenl s24) ?_
 refine G.M 8 ?_
 refine G.nk K4 ?_
 refine G.block ?_
 refine G.lpR (ι := {k : Nat // k ≤ l.length}) (fun ⟨k, hj⟩ => l.length - k) (fun ⟨k, hj⟩ => [(3, .int .i64 (maxL (l.take k))), (6, .slice (some ⟨b, 0, none⟩) l.length c), (7, .int .i64 (l.length : Int)), (8, .int .i64 (k : Int))]) (fun ⟨k, hj⟩ => []) ?_ ?_
 exact G.at ⟨0, Nat.zero_le _⟩ (ts := [3, 6, 7, 8]) rfl rfl rfl rfl
 rintro ⟨k, hj⟩ _ K5
 try dsimp only at K5 ⊢
 refine G.sr fun _ K6 => ?_
 refine G.V 9 .bin ?_
 refine G.nk K6 ?_
 refine G.Z fun _ K7 => ?_
 refine G.cond rfl (fun hc9 => ?_) (fun hc9 => ?_)
 have hk : k < l.length := by simpa using hc9
 refine G.sk K7 ?_
 refine G.Z fun _ K8 => ?_
 refine G.block ?_
 refine G.sr fun _ K9 => ?_
 refine G.V 10 (.is s24 k hk) ?_
 refine G.V 11 (.ld t3 0 (hv := by rw [Nat.zero_add, Nat.mul_one]; exact ints_at hk)) ?_
 refine G.M 5 ?_
 refine G.nk K9 ?_
 refine G.region ?_
 refine G.M2 12 13 ?_
 refine G.cp 14 [] []  e48 (s_Clip (l.getD k 0)) ?_
 refine G.V 15 (.max2 i3) ?_
 refine G.M 3 ?_
 refine G.nk K8 ?_
 refine G.region ?_
 refine G.V 16 .bw ?_
 refine G.M 8 ?_
 refine G.nk K5 ?_
 exact G.less ⟨k + 1, hk⟩ (ts := [3, 6, 7, 8]) (by dsimp only; omega) rfl (by simp only [maxL_take hk]; rfl) rfl rfl
 have hk : k = l.length := by have := of_decide_eq_false hc9; omega
 refine G.exit ?_
 refine K3 _ _ _ ?_
 refine G.sr fun _ K10 => ?_
 refine G.M2 17 2 ?_
 refine G.nk K10 ?_
 exact G.ret (G.F [] (.one Tryz.results140) ⟨by subst hk; rw [List.take_length], rfl⟩)
structure Par where
 (n f d beat rho delay jitter eps mu hold pulse second : Int)
abbrev pC (p : Par) (l : List Value) : List Value := .int .i64 p.n :: .int .i64 p.f :: .int .i64 p.d :: .int .i64 p.beat :: .int .i64 p.rho :: .int .i64 p.delay :: .int .i64 p.jitter :: .int .i64 p.eps :: .int .i64 p.mu :: .int .i64 p.hold :: .int .i64 p.pulse :: .int .i64 p.second :: l
def hopV (p : Par) : Int := addL [p.jitter, mulC 2 p.rho]
def gateV (p : Par) : Int := mulC 2 (addL [mulC 2 p.eps, hopV p])
def widthV (p : Par) (held hops : Int) : Int := addL [gateV p, mulC (mulC 2 p.rho) held, mulC (addL [hops, 1]) (hopV p)]
theorem s_Add' (b n : Nat) (l : List Int) (hn : l.length = n) (hm : n < 4611686018427387904) : Spec prog 29 [.slice (some ⟨b, 0, none⟩) n n] [] [blk b (ints l) 3] (fun v Ln => v = .int .i64 (addL l) ∧ Ln = []) := by
 subst hn
 exact fun w h1 h2 h3 h4 => s_Add b l.length l (Nat.le_refl _) hm w h1 (fun e he => by simp at he; subst he; exact ⟨_, h2 _ List.mem_cons_self⟩) h3 (by simp [ids])
theorem l_Hop (p : Par) : Spec prog 30 [.agg #[.int .i64 p.n, .int .i64 p.f, .int .i64 p.d, .int .i64 p.beat, .int .i64 p.rho, .int .i64 p.delay, .int .i64 p.jitter, .int .i64 p.eps, .int .i64 p.mu, .int .i64 p.hold, .int .i64 p.pulse, .int .i64 p.second]] [] [] (fun v Ln => v = .int .i64 (hopV p) ∧ Ln = []) := by
 refine Spec.en func30 ntmps30 fun w0 => ?_
 refine G.sr fun _ K1 => ?_
 refine G.mk 1 .bx fun g1 => ?_
 refine G.M 2 ?_
 refine G.nk K1 ?_
 refine G.Z fun _ K2 => ?_
 refine G.draw 8 [0] [] [] ?_
 refine D.V 0 3 1 (.fa f23_6 6) ?_
 refine D.V 2 5 5 (.fa f23_4 4) ?_
 refine D.T 1 4 7 (.ld t3 0) [0] [] ?_
 refine D.T 3 6 15 (.ld t3 0) [0] [] ?_
 refine D.C 4 7 31 [] [] [0] []  e28 (s_Mul 2 p.rho) ?_
 rintro _ _ ⟨rfl, rfl⟩
 refine D.ev 5 63 ?_
 refine E.row 5 8 (.sl s24 z3 [.int .i64 p.jitter, .int .i64 (mulC 2 p.rho)]) [0] []  fun g8 => ?_
 refine D.C 6 9 127 [] [0] [1] []  e29 (s_Add' g8 2 [p.jitter, (mulC 2 p.rho)] rfl (by decide)) ?_
 rintro _ _ ⟨rfl, rfl⟩
 refine D.V 7 2 255 .mv ?_
 refine D.done ?_
 refine K2 _ _ _ ?_
 exact G.ret (G.F [] (.one Tryz.results30) ⟨rfl, rfl⟩)
theorem l_Gate (p : Par) : Spec prog 16 [.agg #[.int .i64 p.n, .int .i64 p.f, .int .i64 p.d, .int .i64 p.beat, .int .i64 p.rho, .int .i64 p.delay, .int .i64 p.jitter, .int .i64 p.eps, .int .i64 p.mu, .int .i64 p.hold, .int .i64 p.pulse, .int .i64 p.second]] [] [] (fun v Ln => v = .int .i64 (gateV p) ∧ Ln = []) := by
 refine Spec.en func16 ntmps16 fun w0 => ?_
 refine G.sr fun _ K1 => ?_
 refine G.mk 1 .bx fun g1 => ?_
 refine G.M 2 ?_
 refine G.nk K1 ?_
 refine G.Z fun _ K2 => ?_
 refine G.draw 9 [0] [] [] ?_
 refine D.V 0 3 1 (.fa f23_7 7) ?_
 refine D.T 1 4 3 (.ld t3 0) [0] [] ?_
 refine D.T 3 6 11 (.lda t23 0) [0] [] ?_
 refine D.C 2 5 15 [] [] [0] []  e28 (s_Mul 2 p.eps) ?_
 rintro _ _ ⟨rfl, rfl⟩
 refine D.C 4 7 31 [] [] [0] []  e30 (l_Hop p ) ?_
 rintro _ _ ⟨rfl, rfl⟩
 refine D.ev 5 63 ?_
 refine E.row 5 8 (.sl s24 z3 [.int .i64 (mulC 2 p.eps), .int .i64 (hopV p)]) [0] []  fun g8 => ?_
 refine D.C 6 9 127 [] [0] [1] []  e29 (s_Add' g8 2 [(mulC 2 p.eps), (hopV p)] rfl (by decide)) ?_
 rintro _ _ ⟨rfl, rfl⟩
 refine D.C 7 10 255 [] [] [1] []  e28 (s_Mul 2 (addL [(mulC 2 p.eps), (hopV p)])) ?_
 rintro _ _ ⟨rfl, rfl⟩
 refine D.V 8 2 511 .mv ?_
 refine D.done ?_
 refine K2 _ _ _ ?_
 exact G.ret (G.F [] (.one Tryz.results16) ⟨rfl, rfl⟩)
theorem l_Width (p : Par) (held hops : Int) : Spec prog 17 [.agg #[.int .i64 p.n, .int .i64 p.f, .int .i64 p.d, .int .i64 p.beat, .int .i64 p.rho, .int .i64 p.delay, .int .i64 p.jitter, .int .i64 p.eps, .int .i64 p.mu, .int .i64 p.hold, .int .i64 p.pulse, .int .i64 p.second], .int .i64 held, .int .i64 hops] [] [] (fun v Ln => v = .int .i64 (widthV p held hops) ∧ Ln = []) := by
 refine Spec.en func17 ntmps17 fun w0 => ?_
 refine G.sr fun _ K1 => ?_
 refine G.mk 3 .bx fun g3 => ?_
 refine G.M 6 ?_
 refine G.nk K1 ?_
 refine G.Z fun _ K2 => ?_
 refine G.draw 16 [0] [] [] ?_
 refine D.V 2 9 4 (.fa f23_4 4) ?_
 refine D.V 5 12 36 .mv ?_
 refine D.V 7 14 164 .mv ?_
 refine D.T 0 7 165 (.lda t23 0) [0] [] ?_
 refine D.T 3 10 173 (.ld t3 0) [0] [] ?_
 refine D.T 10 17 1197 (.lda t23 0) [0] [] ?_
 refine D.join (ι := Nat) (fun g15 => [(0, .agg #[.int .i64 p.n, .int .i64 p.f, .int .i64 p.d, .int .i64 p.beat, .int .i64 p.rho, .int .i64 p.delay, .int .i64 p.jitter, .int .i64 p.eps, .int .i64 p.mu, .int .i64 p.hold, .int .i64 p.pulse, .int .i64 p.second]), (6, .int .i64 0), (8, .int .i64 (gateV p)), (13, .int .i64 (mulC (mulC 2 p.rho) held)), (15, .slice (some ⟨g15, 0, none⟩) 2 2), (17, .agg #[.int .i64 p.n, .int .i64 p.f, .int .i64 p.d, .int .i64 p.beat, .int .i64 p.rho, .int .i64 p.delay, .int .i64 p.jitter, .int .i64 p.eps, .int .i64 p.mu, .int .i64 p.hold, .int .i64 p.pulse, .int .i64 p.second])]) (fun g15 => [blk g15 [.int .i64 hops, .int .i64 1] 3, blk g3 (pC p []) 23]) (fun g15 => []) 6 1535 (fun hJ3 => ?_) ?_
 refine D.two 1 8 1199 1453 ?_ ?_
 refine E.call 1 8 [] [] [0] []  e16 (l_Gate p ) ?_
 rintro _ _ ⟨rfl, rfl⟩
 refine D.two 4 8 1215 1455 ?_ ?_
 refine E.call 4 11 [] [] [0] []  e28 (s_Mul 2 p.rho) ?_
 rintro _ _ ⟨rfl, rfl⟩
 refine D.two 6 8 1279 1471 ?_ ?_
 refine E.call 6 13 [] [] [0] []  e28 (s_Mul (mulC 2 p.rho) held) ?_
 rintro _ _ ⟨rfl, rfl⟩
 refine D.ev 8 1535 ?_
 refine E.row 8 15 (.sl s24 z3 [.int .i64 hops, .int .i64 1]) [0] []  fun g15 => ?_
 refine hJ3 _ _ _ ?_
 exact G.at g15 (ts := [0, 6, 8, 13, 15, 17]) rfl rfl rfl rfl
 refine E.row 8 15 (.sl s24 z3 [.int .i64 hops, .int .i64 1]) [0] []  fun g15 => ?_
 refine D.C 6 13 1535 [] [] [1] []  e28 (s_Mul (mulC 2 p.rho) held) ?_
 rintro _ _ ⟨rfl, rfl⟩
 refine hJ3 _ _ _ ?_
 exact G.at g15 (ts := [0, 6, 8, 13, 15, 17]) rfl rfl rfl rfl
 refine E.row 8 15 (.sl s24 z3 [.int .i64 hops, .int .i64 1]) [0] []  fun g15 => ?_
 refine D.C 4 11 1471 [] [] [1] []  e28 (s_Mul 2 p.rho) ?_
 rintro _ _ ⟨rfl, rfl⟩
 refine D.C 6 13 1535 [] [] [1] []  e28 (s_Mul (mulC 2 p.rho) held) ?_
 rintro _ _ ⟨rfl, rfl⟩
 refine hJ3 _ _ _ ?_
 exact G.at g15 (ts := [0, 6, 8, 13, 15, 17]) rfl rfl rfl rfl
 refine E.row 8 15 (.sl s24 z3 [.int .i64 hops, .int .i64 1]) [0] []  fun g15 => ?_
 refine D.C 1 8 1455 [] [] [1] []  e16 (l_Gate p ) ?_
 rintro _ _ ⟨rfl, rfl⟩
 refine D.C 4 11 1471 [] [] [1] []  e28 (s_Mul 2 p.rho) ?_
 rintro _ _ ⟨rfl, rfl⟩
 refine D.C 6 13 1535 [] [] [1] []  e28 (s_Mul (mulC 2 p.rho) held) ?_
 rintro _ _ ⟨rfl, rfl⟩
 refine hJ3 _ _ _ ?_
 exact G.at g15 (ts := [0, 6, 8, 13, 15, 17]) rfl rfl rfl rfl
 rintro g15
 try dsimp only
 refine D.C 9 16 2047 [] [0] [1] []  e29 (s_Add' g15 2 [hops, 1] rfl (by decide)) ?_
 rintro _ _ ⟨rfl, rfl⟩
 refine D.C 11 18 4095 [] [] [1] []  e30 (l_Hop p ) ?_
 rintro _ _ ⟨rfl, rfl⟩
 refine D.C 12 19 8191 [] [] [1] []  e28 (s_Mul (addL [hops, 1]) (hopV p)) ?_
 rintro _ _ ⟨rfl, rfl⟩
 refine D.ev 13 16383 ?_
 refine E.row 13 20 (.sl s24 z3 [.int .i64 (gateV p), .int .i64 (mulC (mulC 2 p.rho) held), .int .i64 (mulC (addL [hops, 1]) (hopV p))]) [1] []  fun g20 => ?_
 refine D.C 14 21 32767 [] [0] [2] []  e29 (s_Add' g20 3 [(gateV p), (mulC (mulC 2 p.rho) held), (mulC (addL [hops, 1]) (hopV p))] rfl (by decide)) ?_
 rintro _ _ ⟨rfl, rfl⟩
 refine D.V 15 6 65535 .mv ?_
 refine D.done ?_
 refine K2 _ _ _ ?_
 exact G.ret (G.F [] (.one Tryz.results17) ⟨rfl, rfl⟩)
def inB (x lo hi : Int) : Bool := decide (lo ≤ x) && decide (x ≤ hi)
def nodesB (p : Par) : Bool := inB p.n 1 16 && (inB p.f 0 ((p.n - 1) / 3) && inB p.d 0 16)
def waysB (p : Par) : Bool := inB p.beat 1 1099511627776 && (inB p.rho 0 (p.beat / 8) && (inB p.delay 0 (p.beat / 2) && inB p.jitter 0 p.delay))
def okB (p : Par) : Bool := nodesB p && (waysB p && (inB p.eps 0 1099511627776 && (inB p.mu (p.rho + 1) (p.beat / 4) && (inB p.hold (p.d + 2) 1048576 && (inB p.pulse 1 1099511627776 && inB p.second 1 1099511627776)))))
theorem inB_t {x lo hi : Int} (h : inB x lo hi = true) : lo ≤ x ∧ x ≤ hi := by unfold inB at h; simpa using h
theorem wq {a b : Int} (h1 : 0 ≤ a) (h2 : a ≤ 4611686018427387904) (h3 : 0 < b) : IntKind.i64.wrap (a.tdiv b) = a / b := by
 rw [Int.tdiv_eq_ediv_of_nonneg h1]
 have := Int.ediv_nonneg h1 (show 0 ≤ b by omega)
 have := Int.ediv_le_self (b := b) h1
 exact wr (by omega) (by omega)
theorem l_in (x lo hi : Int) : Spec prog 41 [.int .i64 x, .int .i64 lo, .int .i64 hi] [] [] (fun v Ln => v = .bool (inB x lo hi) ∧ Ln = []) := by
 refine Spec.en func41 ntmps41 fun w0 => ?_
 refine G.sr fun _ K1 => ?_
 refine G.M 6 ?_
 refine G.nk K1 ?_
 refine G.sr fun _ K2 => ?_
 refine G.M2 7 8 ?_
 refine G.V 9 .bin ?_
 refine G.M 10 ?_
 cases hg3 : (decide (lo ≤ x) : Bool)
 refine G.O3 11 12 13 ?_
 refine G.V 14 .pick ?_
 refine G.M 6 ?_
 refine G.nk K2 ?_
 exact G.ret (G.F [] (.one Tryz.results41) ⟨by unfold inB; simp only [*, Bool.true_and, Bool.false_and]; rfl, rfl⟩)
 refine G.M2 11 12 ?_
 refine G.V 13 .bin ?_
 refine G.V 14 .pick ?_
 refine G.M 6 ?_
 refine G.nk K2 ?_
 exact G.ret (G.F [] (.one Tryz.results41) ⟨by unfold inB; simp only [*, Bool.true_and, Bool.false_and]; rfl, rfl⟩)
theorem nodes_t {p : Par} (h : nodesB p = true) : (1 ≤ p.n ∧ p.n ≤ 16) ∧ (0 ≤ p.f ∧ p.f ≤ (p.n - 1) / 3) ∧ (0 ≤ p.d ∧ p.d ≤ 16) := by unfold nodesB at h; simp only [Bool.and_eq_true] at h; exact ⟨inB_t h.1, inB_t h.2.1, inB_t h.2.2⟩
theorem ways_t {p : Par} (h : waysB p = true) : (1 ≤ p.beat ∧ p.beat ≤ 1099511627776) ∧ (0 ≤ p.rho ∧ p.rho ≤ p.beat / 8) ∧ (0 ≤ p.delay ∧ p.delay ≤ p.beat / 2) ∧ (0 ≤ p.jitter ∧ p.jitter ≤ p.delay) := by unfold waysB at h; simp only [Bool.and_eq_true] at h; exact ⟨inB_t h.1, inB_t h.2.1, inB_t h.2.2.1, inB_t h.2.2.2⟩
theorem l_Check (p : Par) : Spec prog 23 [.agg #[.int .i64 p.n, .int .i64 p.f, .int .i64 p.d, .int .i64 p.beat, .int .i64 p.rho, .int .i64 p.delay, .int .i64 p.jitter, .int .i64 p.eps, .int .i64 p.mu, .int .i64 p.hold, .int .i64 p.pulse, .int .i64 p.second]] [] [] (fun v Ln => v = .int .i64 (if okB p = true then 0 else 1) ∧ Ln = []) := by
 refine Spec.en func23 ntmps23 fun w0 => ?_
 refine G.sr fun _ K1 => ?_
 refine G.mk 1 .bx fun g1 => ?_
 refine G.M 2 ?_
 refine G.nk K1 ?_
 refine G.meet (ι := Nat) (fun g1 => [(1, .pointer (some ⟨g1, 0, none⟩)), (3, .bool (nodesB p))]) (fun g1 => [blk g1 (pC p []) 23]) (fun g1 => []) (fun _ K3 => ?_) ?_
 refine G.region ?_
 refine G.V 5 (.fa f23_0 0) ?_
 refine G.V 6 (.ld t3 0) ?_
 refine G.cp 7 [] []  e41 (l_in p.n 1 16) ?_
 refine G.M 8 ?_
 cases hg4 : (inB p.n 1 16 : Bool)
 refine G.O4 9 10 11 12 ?_
 refine G.O3 13 14 15 ?_
 refine G.V 16 .pick ?_
 refine G.M 17 ?_
 refine G.O3 18 19 20 ?_
 refine G.V 21 .pick ?_
 refine G.M 3 ?_
 refine G.nk K3 ?_
 exact G.at g1 (ts := [1, 3]) rfl (by unfold nodesB; simp only [*, Bool.true_and, Bool.false_and, Bool.and_true, Bool.and_false, Bool.not_true, Bool.not_false]; rfl) rfl rfl
 refine G.V 9 (.fa f23_1 1) ?_
 refine G.V 10 (.ld t3 0) ?_
 refine G.V 11 (.fa f23_0 0) ?_
 refine G.V 12 (.ld t3 0) ?_
 refine G.V 13 (.cast .bin (wi (by have := inB_t ‹inB p.n 1 16 = true›; omega) (by have := inB_t ‹inB p.n 1 16 = true›; omega))) ?_
 refine G.V 14 (.quo (a := p.n - 1) (b := 3) (by decide) (wq (by have := inB_t ‹inB p.n 1 16 = true›; omega) (by have := inB_t ‹inB p.n 1 16 = true›; omega) (by decide))) ?_
 refine G.cp 15 [] []  e41 (l_in p.f 0 ((p.n - 1) / 3)) ?_
 refine G.V 16 .pick ?_
 refine G.M 17 ?_
 cases hg5 : (inB p.f 0 ((p.n - 1) / 3) : Bool)
 refine G.O3 18 19 20 ?_
 refine G.V 21 .pick ?_
 refine G.M 3 ?_
 refine G.nk K3 ?_
 exact G.at g1 (ts := [1, 3]) rfl (by unfold nodesB; simp only [*, Bool.true_and, Bool.false_and, Bool.and_true, Bool.and_false, Bool.not_true, Bool.not_false]; rfl) rfl rfl
 refine G.V 18 (.fa f23_2 2) ?_
 refine G.V 19 (.ld t3 0) ?_
 refine G.cp 20 [] []  e41 (l_in p.d 0 16) ?_
 refine G.V 21 .pick ?_
 refine G.M 3 ?_
 refine G.nk K3 ?_
 exact G.at g1 (ts := [1, 3]) rfl (by unfold nodesB; simp only [*, Bool.true_and, Bool.false_and, Bool.and_true, Bool.and_false, Bool.not_true, Bool.not_false]; rfl) rfl rfl
 rintro g1
 try dsimp only
 refine G.meet (ι := Nat) (fun g1 => [(1, .pointer (some ⟨g1, 0, none⟩)), (3, .bool (nodesB p)), (4, .bool (waysB p))]) (fun g1 => [blk g1 (pC p []) 23]) (fun g1 => []) (fun _ K7 => ?_) ?_
 refine G.region ?_
 refine G.V 22 (.fa f23_3 3) ?_
 refine G.V 23 (.ld t3 0) ?_
 refine G.cp 24 [] []  e41 (l_in p.beat 1 1099511627776) ?_
 refine G.M 25 ?_
 cases hg8 : (inB p.beat 1 1099511627776 : Bool)
 refine G.O4 26 27 28 29 ?_
 refine G.O2 30 31 ?_
 refine G.V 32 .pick ?_
 refine G.M 33 ?_
 refine G.O4 34 35 36 37 ?_
 refine G.O2 38 39 ?_
 refine G.V 40 .pick ?_
 refine G.M 41 ?_
 refine G.O4 42 43 44 45 ?_
 refine G.O 46 ?_
 refine G.V 47 .pick ?_
 refine G.M 4 ?_
 refine G.nk K7 ?_
 exact G.at g1 (ts := [1, 3, 4]) rfl (by unfold waysB; simp only [*, Bool.true_and, Bool.false_and, Bool.and_true, Bool.and_false, Bool.not_true, Bool.not_false]; rfl) rfl rfl
 refine G.V 26 (.fa f23_4 4) ?_
 refine G.V 27 (.ld t3 0) ?_
 refine G.V 28 (.fa f23_3 3) ?_
 refine G.V 29 (.ld t3 0) ?_
 refine G.V 30 (.quo (a := p.beat) (b := 8) (by decide) (wq (by have := inB_t ‹inB p.beat 1 1099511627776 = true›; omega) (by have := inB_t ‹inB p.beat 1 1099511627776 = true›; omega) (by decide))) ?_
 refine G.cp 31 [] []  e41 (l_in p.rho 0 (p.beat / 8)) ?_
 refine G.V 32 .pick ?_
 refine G.M 33 ?_
 cases hg9 : (inB p.rho 0 (p.beat / 8) : Bool)
 refine G.O4 34 35 36 37 ?_
 refine G.O2 38 39 ?_
 refine G.V 40 .pick ?_
 refine G.M 41 ?_
 refine G.O4 42 43 44 45 ?_
 refine G.O 46 ?_
 refine G.V 47 .pick ?_
 refine G.M 4 ?_
 refine G.nk K7 ?_
 exact G.at g1 (ts := [1, 3, 4]) rfl (by unfold waysB; simp only [*, Bool.true_and, Bool.false_and, Bool.and_true, Bool.and_false, Bool.not_true, Bool.not_false]; rfl) rfl rfl
 refine G.V 34 (.fa f23_5 5) ?_
 refine G.V 35 (.ld t3 0) ?_
 refine G.V 36 (.fa f23_3 3) ?_
 refine G.V 37 (.ld t3 0) ?_
 refine G.V 38 (.quo (a := p.beat) (b := 2) (by decide) (wq (by have := inB_t ‹inB p.beat 1 1099511627776 = true›; omega) (by have := inB_t ‹inB p.beat 1 1099511627776 = true›; omega) (by decide))) ?_
 refine G.cp 39 [] []  e41 (l_in p.delay 0 (p.beat / 2)) ?_
 refine G.V 40 .pick ?_
 refine G.M 41 ?_
 cases hg10 : (inB p.delay 0 (p.beat / 2) : Bool)
 refine G.O4 42 43 44 45 ?_
 refine G.O 46 ?_
 refine G.V 47 .pick ?_
 refine G.M 4 ?_
 refine G.nk K7 ?_
 exact G.at g1 (ts := [1, 3, 4]) rfl (by unfold waysB; simp only [*, Bool.true_and, Bool.false_and, Bool.and_true, Bool.and_false, Bool.not_true, Bool.not_false]; rfl) rfl rfl
 refine G.V 42 (.fa f23_6 6) ?_
 refine G.V 43 (.ld t3 0) ?_
 refine G.V 44 (.fa f23_5 5) ?_
 refine G.V 45 (.ld t3 0) ?_
 refine G.cp 46 [] []  e41 (l_in p.jitter 0 p.delay) ?_
 refine G.V 47 .pick ?_
 refine G.M 4 ?_
 refine G.nk K7 ?_
 exact G.at g1 (ts := [1, 3, 4]) rfl (by unfold waysB; simp only [*, Bool.true_and, Bool.false_and, Bool.and_true, Bool.and_false, Bool.not_true, Bool.not_false]; rfl) rfl rfl
 rintro g1
 try dsimp only
 cases hn : (nodesB p : Bool)
 cases hw : (waysB p : Bool)
 refine G.Z fun _ K11 => ?_
 refine G.sr fun _ K12 => ?_
 refine G.M 48 ?_
 refine G.V 49 .not ?_
 refine G.M 50 ?_
 refine G.O2 51 52 ?_
 refine G.V 53 .pick ?_
 refine G.M 54 ?_
 refine G.O4 55 56 57 58 ?_
 refine G.V 59 .pick ?_
 refine G.M 60 ?_
 refine G.O4 61 62 63 64 ?_
 refine G.O4 65 66 67 68 ?_
 refine G.O2 69 70 ?_
 refine G.V 71 .pick ?_
 refine G.M 72 ?_
 refine G.O4 73 74 75 76 ?_
 refine G.O3 77 78 79 ?_
 refine G.V 80 .pick ?_
 refine G.M 81 ?_
 refine G.O4 82 83 84 85 ?_
 refine G.V 86 .pick ?_
 refine G.M 87 ?_
 refine G.O4 88 89 90 91 ?_
 refine G.V 92 .pick ?_
 refine G.nk K12 ?_
 refine G.yes rfl ?_
 refine G.sr fun _ K13 => ?_
 refine G.M 2 ?_
 refine G.nk K13 ?_
 exact G.ret (G.F [] (.one Tryz.results23) ⟨by unfold okB; simp only [*, Bool.true_and, Bool.false_and, Bool.and_true, Bool.and_false, Bool.not_true, Bool.not_false]; rfl, rfl⟩)
 refine G.Z fun _ K14 => ?_
 refine G.sr fun _ K15 => ?_
 refine G.M 48 ?_
 refine G.V 49 .not ?_
 refine G.M 50 ?_
 refine G.O2 51 52 ?_
 refine G.V 53 .pick ?_
 refine G.M 54 ?_
 refine G.O4 55 56 57 58 ?_
 refine G.V 59 .pick ?_
 refine G.M 60 ?_
 refine G.O4 61 62 63 64 ?_
 refine G.O4 65 66 67 68 ?_
 refine G.O2 69 70 ?_
 refine G.V 71 .pick ?_
 refine G.M 72 ?_
 refine G.O4 73 74 75 76 ?_
 refine G.O3 77 78 79 ?_
 refine G.V 80 .pick ?_
 refine G.M 81 ?_
 refine G.O4 82 83 84 85 ?_
 refine G.V 86 .pick ?_
 refine G.M 87 ?_
 refine G.O4 88 89 90 91 ?_
 refine G.V 92 .pick ?_
 refine G.nk K15 ?_
 refine G.yes rfl ?_
 refine G.sr fun _ K16 => ?_
 refine G.M 2 ?_
 refine G.nk K16 ?_
 exact G.ret (G.F [] (.one Tryz.results23) ⟨by unfold okB; simp only [*, Bool.true_and, Bool.false_and, Bool.and_true, Bool.and_false, Bool.not_true, Bool.not_false]; rfl, rfl⟩)
 cases hw : (waysB p : Bool)
 refine G.Z fun _ K17 => ?_
 refine G.sr fun _ K18 => ?_
 refine G.M 48 ?_
 refine G.V 49 .not ?_
 refine G.M2 50 51 ?_
 refine G.V 52 .not ?_
 refine G.V 53 .pick ?_
 refine G.M 54 ?_
 refine G.O4 55 56 57 58 ?_
 refine G.V 59 .pick ?_
 refine G.M 60 ?_
 refine G.O4 61 62 63 64 ?_
 refine G.O4 65 66 67 68 ?_
 refine G.O2 69 70 ?_
 refine G.V 71 .pick ?_
 refine G.M 72 ?_
 refine G.O4 73 74 75 76 ?_
 refine G.O3 77 78 79 ?_
 refine G.V 80 .pick ?_
 refine G.M 81 ?_
 refine G.O4 82 83 84 85 ?_
 refine G.V 86 .pick ?_
 refine G.M 87 ?_
 refine G.O4 88 89 90 91 ?_
 refine G.V 92 .pick ?_
 refine G.nk K18 ?_
 refine G.yes rfl ?_
 refine G.sr fun _ K19 => ?_
 refine G.M 2 ?_
 refine G.nk K19 ?_
 exact G.ret (G.F [] (.one Tryz.results23) ⟨by unfold okB; simp only [*, Bool.true_and, Bool.false_and, Bool.and_true, Bool.and_false, Bool.not_true, Bool.not_false]; rfl, rfl⟩)
 refine G.Z fun _ K20 => ?_
 refine G.sr fun _ K21 => ?_
 refine G.M 48 ?_
 refine G.V 49 .not ?_
 refine G.M2 50 51 ?_
 refine G.V 52 .not ?_
 refine G.V 53 .pick ?_
 refine G.M 54 ?_
 refine G.V 55 (.fa f23_7 7) ?_
 refine G.V 56 (.ld t3 0) ?_
 refine G.cp 57 [] []  e41 (l_in p.eps 0 1099511627776) ?_
 refine G.V 58 .not ?_
 refine G.V 59 .pick ?_
 refine G.M 60 ?_
 cases hg22 : (inB p.eps 0 1099511627776 : Bool)
 refine G.O4 61 62 63 64 ?_
 refine G.O4 65 66 67 68 ?_
 refine G.O2 69 70 ?_
 refine G.V 71 .pick ?_
 refine G.M 72 ?_
 refine G.O4 73 74 75 76 ?_
 refine G.O3 77 78 79 ?_
 refine G.V 80 .pick ?_
 refine G.M 81 ?_
 refine G.O4 82 83 84 85 ?_
 refine G.V 86 .pick ?_
 refine G.M 87 ?_
 refine G.O4 88 89 90 91 ?_
 refine G.V 92 .pick ?_
 refine G.nk K21 ?_
 refine G.yes rfl ?_
 refine G.sr fun _ K23 => ?_
 refine G.M 2 ?_
 refine G.nk K23 ?_
 exact G.ret (G.F [] (.one Tryz.results23) ⟨by unfold okB; simp only [*, Bool.true_and, Bool.false_and, Bool.and_true, Bool.and_false, Bool.not_true, Bool.not_false]; rfl, rfl⟩)
 refine G.V 61 (.fa f23_8 8) ?_
 refine G.V 62 (.ld t3 0) ?_
 refine G.V 63 (.fa f23_4 4) ?_
 refine G.V 64 (.ld t3 0) ?_
 refine G.V 65 (.cast .bin (wi (by have := ways_t hw; omega) (by have := ways_t hw; omega))) ?_
 refine G.V 66 (.fa f23_3 3) ?_
 refine G.V 67 (.ld t3 0) ?_
 refine G.V 68 (.quo (a := p.beat) (b := 4) (by decide) (wq (by have := ways_t hw; omega) (by have := ways_t hw; omega) (by decide))) ?_
 refine G.cp 69 [] []  e41 (l_in p.mu (p.rho + 1) (p.beat / 4)) ?_
 refine G.V 70 .not ?_
 refine G.V 71 .pick ?_
 refine G.M 72 ?_
 cases hg24 : (inB p.mu (p.rho + 1) (p.beat / 4) : Bool)
 refine G.O4 73 74 75 76 ?_
 refine G.O3 77 78 79 ?_
 refine G.V 80 .pick ?_
 refine G.M 81 ?_
 refine G.O4 82 83 84 85 ?_
 refine G.V 86 .pick ?_
 refine G.M 87 ?_
 refine G.O4 88 89 90 91 ?_
 refine G.V 92 .pick ?_
 refine G.nk K21 ?_
 refine G.yes rfl ?_
 refine G.sr fun _ K25 => ?_
 refine G.M 2 ?_
 refine G.nk K25 ?_
 exact G.ret (G.F [] (.one Tryz.results23) ⟨by unfold okB; simp only [*, Bool.true_and, Bool.false_and, Bool.and_true, Bool.and_false, Bool.not_true, Bool.not_false]; rfl, rfl⟩)
 refine G.V 73 (.fa f23_9 9) ?_
 refine G.V 74 (.ld t3 0) ?_
 refine G.V 75 (.fa f23_2 2) ?_
 refine G.V 76 (.ld t3 0) ?_
 refine G.V 77 (.cast .bin (wi (by have := nodes_t hn; omega) (by have := nodes_t hn; omega))) ?_
 refine G.cp 78 [] []  e41 (l_in p.hold (p.d + 2) 1048576) ?_
 refine G.V 79 .not ?_
 refine G.V 80 .pick ?_
 refine G.M 81 ?_
 cases hg26 : (inB p.hold (p.d + 2) 1048576 : Bool)
 refine G.O4 82 83 84 85 ?_
 refine G.V 86 .pick ?_
 refine G.M 87 ?_
 refine G.O4 88 89 90 91 ?_
 refine G.V 92 .pick ?_
 refine G.nk K21 ?_
 refine G.yes rfl ?_
 refine G.sr fun _ K27 => ?_
 refine G.M 2 ?_
 refine G.nk K27 ?_
 exact G.ret (G.F [] (.one Tryz.results23) ⟨by unfold okB; simp only [*, Bool.true_and, Bool.false_and, Bool.and_true, Bool.and_false, Bool.not_true, Bool.not_false]; rfl, rfl⟩)
 refine G.V 82 (.fa f23_10 10) ?_
 refine G.V 83 (.ld t3 0) ?_
 refine G.cp 84 [] []  e41 (l_in p.pulse 1 1099511627776) ?_
 refine G.V 85 .not ?_
 refine G.V 86 .pick ?_
 refine G.M 87 ?_
 cases hg28 : (inB p.pulse 1 1099511627776 : Bool)
 refine G.O4 88 89 90 91 ?_
 refine G.V 92 .pick ?_
 refine G.nk K21 ?_
 refine G.yes rfl ?_
 refine G.sr fun _ K29 => ?_
 refine G.M 2 ?_
 refine G.nk K29 ?_
 exact G.ret (G.F [] (.one Tryz.results23) ⟨by unfold okB; simp only [*, Bool.true_and, Bool.false_and, Bool.and_true, Bool.and_false, Bool.not_true, Bool.not_false]; rfl, rfl⟩)
 refine G.V 88 (.fa f23_11 11) ?_
 refine G.V 89 (.ld t3 0) ?_
 refine G.cp 90 [] []  e41 (l_in p.second 1 1099511627776) ?_
 refine G.V 91 .not ?_
 refine G.V 92 .pick ?_
 refine G.nk K21 ?_
 cases hg30 : (inB p.second 1 1099511627776 : Bool)
 refine G.yes rfl ?_
 refine G.sr fun _ K31 => ?_
 refine G.M 2 ?_
 refine G.nk K31 ?_
 exact G.ret (G.F [] (.one Tryz.results23) ⟨by unfold okB; simp only [*, Bool.true_and, Bool.false_and, Bool.and_true, Bool.and_false, Bool.not_true, Bool.not_false]; rfl, rfl⟩)
 refine G.no rfl ?_
 refine G.sk K20 ?_
 refine G.sr fun _ K32 => ?_
 refine G.M 2 ?_
 refine G.nk K32 ?_
 exact G.ret (G.F [] (.one Tryz.results23) ⟨by unfold okB; simp only [*, Bool.true_and, Bool.false_and, Bool.and_true, Bool.and_false, Bool.not_true, Bool.not_false]; rfl, rfl⟩)
theorem shr32 {x r : Int} (h : x / 4294967296 = r) : x.fdiv (2 ^ 32) = r := by rw [show (2 : Int) ^ 32 = 4294967296 from rfl, Int.fdiv_eq_ediv_of_nonneg _ (by omega)]; exact h
theorem b_Mul64 (x : Int) (h0 : 0 ≤ x) (h1 : x < 4611686018427387904) : Spec prog 63 [.int .u64 x, .int .u64 1] [] [] (fun v Ln => v = .tuple #[.int .u64 0, .int .u64 x] ∧ Ln = []) := by
 refine Spec.en func63 ntmps63 fun w0 => ?_
 refine G.sr fun _ K1 => ?_
 refine G.M2 4 5 ?_
 refine G.nk K1 ?_
 refine G.sr fun _ K2 => ?_
 refine G.M 14 ?_
 refine G.V 15 (.bin (hv := and32 (by omega) (by omega))) ?_
 refine G.M 6 ?_
 refine G.nk K2 ?_
 refine G.sr fun _ K3 => ?_
 refine G.M 16 ?_
 refine G.V 17 (.shr (k := .u64) (a := x) (n := 32) (r := x / 4294967296) (by decide) (shr32 (by omega))) ?_
 refine G.M 7 ?_
 refine G.nk K3 ?_
 refine G.sr fun _ K4 => ?_
 refine G.M 18 ?_
 refine G.V 19 (.bin (hv := rfl)) ?_
 refine G.M 8 ?_
 refine G.nk K4 ?_
 refine G.sr fun _ K5 => ?_
 refine G.M 20 ?_
 refine G.V 21 (.shr (k := .u64) (a := 1) (n := 32) (r := 0) (by decide) (shr32 (by omega))) ?_
 refine G.M 9 ?_
 refine G.nk K5 ?_
 refine G.sr fun _ K6 => ?_
 refine G.M2 22 23 ?_
 refine G.V 24 (.cast .bin (show Value.int .u64 (IntKind.u64.wrap (x % 4294967296 * 1)) = .int .u64 (x % 4294967296) from by rw [show x % 4294967296 * 1 = x % 4294967296 from by omega, wu (by omega) (by omega)])) ?_
 refine G.M 10 ?_
 refine G.nk K6 ?_
 refine G.sr fun _ K7 => ?_
 refine G.M2 25 26 ?_
 refine G.V 27 (.cast .bin (show Value.int .u64 (IntKind.u64.wrap (x / 4294967296 * 1)) = .int .u64 (x / 4294967296) from by rw [show x / 4294967296 * 1 = x / 4294967296 from by omega, wu (by omega) (by omega)])) ?_
 refine G.M 28 ?_
 refine G.V 29 (.shr (k := .u64) (a := x % 4294967296) (n := 32) (r := 0) (by decide) (shr32 (by omega))) ?_
 refine G.V 30 (.cast .bin (show Value.int .u64 (IntKind.u64.wrap (x / 4294967296 + 0)) = .int .u64 (x / 4294967296) from by rw [show x / 4294967296 + 0 = x / 4294967296 from by omega, wu (by omega) (by omega)])) ?_
 refine G.M 11 ?_
 refine G.nk K7 ?_
 refine G.sr fun _ K8 => ?_
 refine G.M 31 ?_
 refine G.V 32 (.cast (.bin (hv := and32 (by omega) (by omega))) (show Value.int .u64 (x / 4294967296 % 4294967296) = .int .u64 (x / 4294967296) from by rw [show x / 4294967296 % 4294967296 = x / 4294967296 from by omega])) ?_
 refine G.M 12 ?_
 refine G.nk K8 ?_
 refine G.sr fun _ K9 => ?_
 refine G.M 33 ?_
 refine G.V 34 (.shr (k := .u64) (a := x / 4294967296) (n := 32) (r := 0) (by decide) (shr32 (by omega))) ?_
 refine G.M 13 ?_
 refine G.nk K9 ?_
 refine G.sr fun _ K10 => ?_
 refine G.M3 35 36 37 ?_
 refine G.V 38 (.cast .bin (show Value.int .u64 (IntKind.u64.wrap (x % 4294967296 * 0)) = .int .u64 (0) from by rw [show x % 4294967296 * 0 = 0 from by omega, wu (by omega) (by omega)])) ?_
 refine G.V 39 (.cast .bin (show Value.int .u64 (IntKind.u64.wrap (x / 4294967296 + 0)) = .int .u64 (x / 4294967296) from by rw [show x / 4294967296 + 0 = x / 4294967296 from by omega, wu (by omega) (by omega)])) ?_
 refine G.M 12 ?_
 refine G.nk K10 ?_
 refine G.sr fun _ K11 => ?_
 refine G.M2 40 41 ?_
 refine G.V 42 (.cast .bin (show Value.int .u64 (IntKind.u64.wrap (x / 4294967296 * 0)) = .int .u64 (0) from by rw [show x / 4294967296 * 0 = 0 from by omega, wu (by omega) (by omega)])) ?_
 refine G.M 43 ?_
 refine G.V 44 (.cast .bin (show Value.int .u64 (IntKind.u64.wrap (0 + 0)) = .int .u64 0 from rfl)) ?_
 refine G.M 45 ?_
 refine G.V 46 (.shr (k := .u64) (a := x / 4294967296) (n := 32) (r := 0) (by decide) (shr32 (by omega))) ?_
 refine G.V 47 (.cast .bin (show Value.int .u64 (IntKind.u64.wrap (0 + 0)) = .int .u64 0 from rfl)) ?_
 refine G.M 4 ?_
 refine G.nk K11 ?_
 refine G.sr fun _ K12 => ?_
 refine G.M2 48 49 ?_
 refine G.V 50 (.cast .bin (show Value.int .u64 (IntKind.u64.wrap (x * 1)) = .int .u64 (x) from by rw [show x * 1 = x from by omega, wu (by omega) (by omega)])) ?_
 refine G.M 5 ?_
 refine G.nk K12 ?_
 exact G.ret (G.F [] (.two Tryz.results63) ⟨rfl, rfl⟩)
theorem b_Div64 (x y : Int) (h0 : 0 ≤ x) (h1 : x < 18446744073709551616) (h2 : 0 < y) (h3 : y < 18446744073709551616) : Spec prog 65 [.int .u64 0, .int .u64 x, .int .u64 y] [] [] (fun v Ln => v = .tuple #[.int .u64 (x / y), .int .u64 (x % y)] ∧ Ln = []) := by
 refine Spec.en func65 ntmps65 fun w0 => ?_
 refine G.sr fun _ K1 => ?_
 refine G.M2 6 7 ?_
 refine G.nk K1 ?_
 refine G.Z fun _ K2 => ?_
 refine G.sr fun _ K3 => ?_
 refine G.M 19 ?_
 refine G.V 20 (.cast .bin (ef (by omega))) ?_
 refine G.nk K3 ?_
 refine G.no rfl ?_
 refine G.sk K2 ?_
 refine G.Z fun _ K4 => ?_
 refine G.sr fun _ K5 => ?_
 refine G.M2 22 23 ?_
 refine G.V 24 (.cast .bin (bf (by omega))) ?_
 refine G.nk K5 ?_
 refine G.no rfl ?_
 refine G.sk K4 ?_
 refine G.Z fun _ K6 => ?_
 refine G.sr fun _ K7 => ?_
 refine G.M 26 ?_
 refine G.V 27 (.cast .bin (et rfl)) ?_
 refine G.nk K7 ?_
 refine G.yes rfl ?_
 refine G.Z fun _ K8 => ?_
 refine G.draw 8 [] [] [] ?_
 refine D.V 0 28 1 .mv ?_
 refine D.V 1 29 3 .mv ?_
 refine D.V 2 30 7 (.quo (a := x) (b := y) (r := x / y) (by omega) (by rw [Int.tdiv_eq_ediv_of_nonneg h0]; have := Int.ediv_nonneg h0 (show 0 ≤ y by omega); have := Int.ediv_le_self (b := y) h0; exact wu (by omega) (by omega))) ?_
 refine D.V 3 31 15 .mv ?_
 refine D.V 4 32 31 .mv ?_
 refine D.V 5 33 63 (.rem (a := x) (b := y) (r := x % y) (by omega) (by rw [Int.tmod_eq_emod_of_nonneg h0])) ?_
 refine D.V 6 6 127 .mv ?_
 refine D.V 7 7 255 .mv ?_
 refine D.done ?_
 refine K8 _ _ _ ?_
 exact G.ret (G.F [] (.two Tryz.results65) ⟨rfl, rfl⟩)
def ceilV (a c : Int) : Int := if a % c > 0 then a / c + 1 else a / c
theorem Spec.to {f : FuncId} {args : List Value} {L R : List Ent} {u v : Value} (h : Spec prog f args L R (fun x Ln => x = u ∧ Ln = [])) (e : u = v) : Spec prog f args L R (fun x Ln => x = v ∧ Ln = []) := e ▸ h
theorem absC_neg {a : Int} (h0 : 0 < a) (h1 : a ≤ 2305843009213693952) : absC (-a) = a := by unfold absC; rw [if_pos (by omega), clp_id (by omega) (by omega)]; omega
theorem absC_pos {a : Int} (h0 : 0 ≤ a) (h1 : a ≤ 2305843009213693952) : absC a = a := by unfold absC; rw [if_neg (by omega), clp_id (by omega) (by omega)]
theorem div_b {a c : Int} (h0 : 0 ≤ a) (h2 : 1 ≤ c) : 0 ≤ a / c ∧ a / c ≤ a := ⟨Int.ediv_nonneg h0 (by omega), Int.ediv_le_self _ h0⟩
theorem div_up {a c : Int} (h0 : 0 ≤ a) (h2 : 1 ≤ c) (h : a % c > 0) : a / c + 1 ≤ a := by
 have h3 := Int.emod_lt_of_pos a (show 0 < c by omega)
 have h4 := Int.mul_ediv_add_emod a c
 have h5 := Int.mul_le_mul_of_nonneg_right (show (2 : Int) ≤ c by omega) (div_b h0 h2).1
 have h6 := (div_b h0 h2).1
 omega
theorem mod_b {a c : Int} (h2 : 1 ≤ c) : 0 ≤ a % c ∧ a % c < c := ⟨Int.emod_nonneg _ (by omega), Int.emod_lt_of_pos _ (by omega)⟩
theorem w_MulDiv1 (a c : Int) (h0 : 0 < a) (h1 : a ≤ 2305843009213693952) (h2 : 1 ≤ c) (h3 : c ≤ 2305843009213693952) : Spec prog 49 [.int .i64 (-a), .int .i64 1, .int .i64 c] [] [] (fun v Ln => v = .int .i64 (0 - ceilV a c) ∧ Ln = []) := by
 have hd := div_b (a := a) (c := c) (by omega) (by omega)
 have hm := mod_b (a := a) (c := c) (by omega)
 refine Spec.en func49 ntmps49 fun w0 => ?_
 refine G.sr fun _ K1 => ?_
 refine G.M 6 ?_
 refine G.nk K1 ?_
 refine G.sr fun _ K2 => ?_
 refine G.M 15 ?_
 refine G.cp 16 [] []  e47 ((s_Abs (-a)).to (congrArg (Value.int .i64) (absC_neg h0 h1))) ?_
 refine G.M 17 ?_
 refine G.cp 18 [] []  e47 ((s_Abs 1).to (congrArg (Value.int .i64) (absC_pos (by decide) (by decide)))) ?_
 refine G.M 19 ?_
 refine G.cp 20 [] []  e48 ((s_Clip c).to (congrArg (Value.int .i64) (clp_id (by omega) (by omega)))) ?_
 refine G.V 21 (.cast (.max2 i3) (show Value.int .i64 (mx c 1) = .int .i64 c from by unfold mx; rw [if_neg (by omega)])) ?_
 refine G.M3 7 8 9 ?_
 refine G.nk K2 ?_
 refine G.sr fun _ K3 => ?_
 refine G.M 23 ?_
 refine G.V 24 (.cvi (a := a) k3 k143 (wu (by omega) (by omega))) ?_
 refine G.M 25 ?_
 refine G.V 26 (.cvi (a := 1) k3 k143 (wu (by omega) (by omega))) ?_
 refine G.cp 27 [] []  e63 (b_Mul64 a (by omega) (by omega)) ?_
 refine G.M 22 ?_
 refine G.V 28 .ext ?_
 refine G.V 29 .ext ?_
 refine G.M2 10 11 ?_
 refine G.nk K3 ?_
 refine G.sr fun _ K4 => ?_
 refine G.M 30 ?_
 refine G.V 31 (.cast .bin (bt (by omega))) ?_
 refine G.M 32 ?_
 refine G.V 33 (.cast .bin (bf (by decide))) ?_
 refine G.V 34 (.bne b4) ?_
 refine G.M2 35 36 ?_
 refine G.V 37 (.cast .bin (nt (by omega))) ?_
 refine G.V 38 .pick ?_
 refine G.M2 39 40 ?_
 refine G.V 41 (.cast .bin (nt (by decide))) ?_
 refine G.V 42 .pick ?_
 refine G.M 12 ?_
 refine G.nk K4 ?_
 refine G.Z fun _ K5 => ?_
 refine G.sr fun _ K6 => ?_
 refine G.M2 43 44 ?_
 refine G.V 45 (.cvi (a := c) k3 k143 (wu (by omega) (by omega))) ?_
 refine G.V 46 (.cast .bin (bf (by omega))) ?_
 refine G.nk K6 ?_
 refine G.no rfl ?_
 refine G.sk K5 ?_
 refine G.sr fun _ K7 => ?_
 refine G.M3 50 51 52 ?_
 refine G.V 53 (.cvi (a := c) k3 k143 (wu (by omega) (by omega))) ?_
 refine G.cp 54 [] []  e65 (b_Div64 a c (by omega) (by omega) (by omega) (by omega)) ?_
 refine G.M 49 ?_
 refine G.V 55 .ext ?_
 refine G.V 56 .ext ?_
 refine G.M2 13 14 ?_
 refine G.nk K7 ?_
 refine G.Z fun _ K8 => ?_
 refine G.Z fun _ K9 => ?_
 by_cases hr : a % c > 0
 have hq := div_up (by omega) (by omega) hr
 refine G.region ?_
 refine G.M3 57 58 59 ?_
 refine G.V 60 (.cast .bin (bt hr)) ?_
 refine G.V 61 .pick ?_
 refine G.M2 62 63 ?_
 refine G.V 64 (.cast .bin (bt (by omega))) ?_
 refine G.V 65 .pick ?_
 refine G.nk K9 ?_
 refine G.yes rfl ?_
 refine G.region ?_
 refine G.M 66 ?_
 refine G.V 67 (.cast .bin (show Value.int .u64 (IntKind.u64.wrap (a / c + 1)) = .int .u64 (a / c + 1) from by rw [wu (by omega) (by omega)])) ?_
 refine G.M 13 ?_
 refine G.nk K8 ?_
 refine G.Z fun _ K10 => ?_
 refine G.sr fun _ K11 => ?_
 refine G.M 68 ?_
 refine G.V 69 (.cast .bin (bf (by omega))) ?_
 refine G.nk K11 ?_
 refine G.no rfl ?_
 refine G.sk K10 ?_
 refine G.Z fun _ K12 => ?_
 refine G.sr fun _ K13 => ?_
 refine G.M 72 ?_
 refine G.nk K13 ?_
 refine G.yes rfl ?_
 refine G.sr fun _ K14 => ?_
 refine G.M 73 ?_
 refine G.V 74 (.cvi (a := a / c + 1) k143 k3 (wr (by omega) (by omega))) ?_
 refine G.V 75 (.cast .neg (wi (by omega) (by omega))) ?_
 refine G.M 6 ?_
 refine G.nk K14 ?_
 exact G.ret (G.F [] (.one Tryz.results49) ⟨by unfold ceilV; first | rw [if_pos hr] | rw [if_neg hr], rfl⟩)
 refine G.region ?_
 refine G.M3 57 58 59 ?_
 refine G.V 60 (.cast .bin (bf hr)) ?_
 refine G.V 61 .pick ?_
 refine G.M 62 ?_
 refine G.O2 63 64 ?_
 refine G.V 65 .pick ?_
 refine G.nk K9 ?_
 refine G.no rfl ?_
 refine G.sk K8 ?_
 refine G.Z fun _ K15 => ?_
 refine G.sr fun _ K16 => ?_
 refine G.M 68 ?_
 refine G.V 69 (.cast .bin (bf (by omega))) ?_
 refine G.nk K16 ?_
 refine G.no rfl ?_
 refine G.sk K15 ?_
 refine G.Z fun _ K17 => ?_
 refine G.sr fun _ K18 => ?_
 refine G.M 72 ?_
 refine G.nk K18 ?_
 refine G.yes rfl ?_
 refine G.sr fun _ K19 => ?_
 refine G.M 73 ?_
 refine G.V 74 (.cvi (a := (a / c)) k143 k3 (wr (by omega) (by omega))) ?_
 refine G.V 75 (.cast .neg (wi (by omega) (by omega))) ?_
 refine G.M 6 ?_
 refine G.nk K19 ?_
 exact G.ret (G.F [] (.one Tryz.results49) ⟨by unfold ceilV; first | rw [if_pos hr] | rw [if_neg hr], rfl⟩)
theorem ceil_b {a c : Int} (h0 : 0 ≤ a) (h2 : 1 ≤ c) : 0 ≤ ceilV a c ∧ ceilV a c ≤ a := by
 have := div_b h0 h2
 unfold ceilV
 split
 ·next h => have := div_up h0 h2 h; omega
 ·omega
def settleV (p : Par) : Int := addL [mulC 2 p.d, 6, ceilV (mulC 3 (widthV p p.hold p.d)) (sbC p.mu p.rho)]
theorem w_MulDiv0 (c : Int) (h2 : 1 ≤ c) (h3 : c ≤ 2305843009213693952) : Spec prog 49 [.int .i64 0, .int .i64 1, .int .i64 c] [] [] (fun v Ln => v = .int .i64 0 ∧ Ln = []) := by
 have hd := div_b (a := 0) (c := c) (by omega) (by omega)
 have hm := mod_b (a := 0) (c := c) (by omega)
 refine Spec.en func49 ntmps49 fun w0 => ?_
 refine G.sr fun _ K1 => ?_
 refine G.M 6 ?_
 refine G.nk K1 ?_
 refine G.sr fun _ K2 => ?_
 refine G.M 15 ?_
 refine G.cp 16 [] []  e47 ((s_Abs 0).to (congrArg (Value.int .i64) (show absC 0 = 0 from by decide))) ?_
 refine G.M 17 ?_
 refine G.cp 18 [] []  e47 ((s_Abs 1).to (congrArg (Value.int .i64) (absC_pos (by decide) (by decide)))) ?_
 refine G.M 19 ?_
 refine G.cp 20 [] []  e48 ((s_Clip c).to (congrArg (Value.int .i64) (clp_id (by omega) (by omega)))) ?_
 refine G.V 21 (.cast (.max2 i3) (show Value.int .i64 (mx c 1) = .int .i64 c from by unfold mx; rw [if_neg (by omega)])) ?_
 refine G.M3 7 8 9 ?_
 refine G.nk K2 ?_
 refine G.sr fun _ K3 => ?_
 refine G.M 23 ?_
 refine G.V 24 (.cvi (a := 0) k3 k143 (wu (by omega) (by omega))) ?_
 refine G.M 25 ?_
 refine G.V 26 (.cvi (a := 1) k3 k143 (wu (by omega) (by omega))) ?_
 refine G.cp 27 [] []  e63 (b_Mul64 0 (by omega) (by omega)) ?_
 refine G.M 22 ?_
 refine G.V 28 .ext ?_
 refine G.V 29 .ext ?_
 refine G.M2 10 11 ?_
 refine G.nk K3 ?_
 refine G.sr fun _ K4 => ?_
 refine G.M 30 ?_
 refine G.V 31 (.cast .bin (bf (by omega))) ?_
 refine G.M 32 ?_
 refine G.V 33 (.cast .bin (bf (by decide))) ?_
 refine G.V 34 (.bne b4) ?_
 refine G.M 35 ?_
 refine G.O2 36 37 ?_
 refine G.V 38 .pick ?_
 refine G.M 39 ?_
 refine G.O2 40 41 ?_
 refine G.V 42 .pick ?_
 refine G.M 12 ?_
 refine G.nk K4 ?_
 refine G.Z fun _ K5 => ?_
 refine G.sr fun _ K6 => ?_
 refine G.M2 43 44 ?_
 refine G.V 45 (.cvi (a := c) k3 k143 (wu (by omega) (by omega))) ?_
 refine G.V 46 (.cast .bin (bf (by omega))) ?_
 refine G.nk K6 ?_
 refine G.no rfl ?_
 refine G.sk K5 ?_
 refine G.sr fun _ K7 => ?_
 refine G.M3 50 51 52 ?_
 refine G.V 53 (.cvi (a := c) k3 k143 (wu (by omega) (by omega))) ?_
 refine G.cp 54 [] []  e65 (b_Div64 0 c (by omega) (by omega) (by omega) (by omega)) ?_
 refine G.M 49 ?_
 refine G.V 55 .ext ?_
 refine G.V 56 .ext ?_
 refine G.M2 13 14 ?_
 refine G.nk K7 ?_
 refine G.Z fun _ K8 => ?_
 refine G.sr fun _ K9 => ?_
 refine G.M2 57 58 ?_
 refine G.O2 59 60 ?_
 refine G.V 61 .pick ?_
 refine G.M 62 ?_
 refine G.O2 63 64 ?_
 refine G.V 65 .pick ?_
 refine G.nk K9 ?_
 refine G.no rfl ?_
 refine G.sk K8 ?_
 refine G.Z fun _ K10 => ?_
 refine G.sr fun _ K11 => ?_
 refine G.M 68 ?_
 refine G.V 69 (.cast .bin (bf (by omega))) ?_
 refine G.nk K11 ?_
 refine G.no rfl ?_
 refine G.sk K10 ?_
 refine G.Z fun _ K12 => ?_
 refine G.sr fun _ K13 => ?_
 refine G.M 72 ?_
 refine G.nk K13 ?_
 refine G.no rfl ?_
 refine G.sk K12 ?_
 refine G.sr fun _ K14 => ?_
 refine G.M 76 ?_
 refine G.V 77 (.cvi (a := (0 / c)) k143 k3 (wr (by omega) (by omega))) ?_
 refine G.M 6 ?_
 refine G.nk K14 ?_
 exact G.ret (G.F [] (.one Tryz.results49) ⟨by rw [Int.zero_ediv], rfl⟩)
theorem w_MulUp1 (a c : Int) (h0 : 0 < a) (h1 : a ≤ 2305843009213693952) (h2 : 1 ≤ c) (h3 : c ≤ 2305843009213693952) : Spec prog 32 [.int .i64 a, .int .i64 1, .int .i64 c] [] [] (fun v Ln => v = .int .i64 (ceilV a c) ∧ Ln = []) := by
 have hb := ceil_b (a := a) (c := c) (by omega) h2
 refine Spec.en func32 ntmps32 fun w0 => ?_
 refine G.sr fun _ K1 => ?_
 refine G.M 6 ?_
 refine G.nk K1 ?_
 refine G.sr fun _ K2 => ?_
 refine G.M 7 ?_
 refine G.cp 8 [] []  e50 ((s_Neg a).to (show Value.int .i64 (-clp a) = .int .i64 (-a) from by rw [clp_id (by omega) (by omega)])) ?_
 refine G.M2 9 10 ?_
 refine G.cp 11 [] []  e49 (w_MulDiv1 a c h0 h1 h2 h3) ?_
 refine G.V 12 (.cast (.cast .neg (wi (by omega) (by omega))) (show Value.int .i64 (0 - (0 - ceilV a c)) = .int .i64 (ceilV a c) from by congr 1; omega)) ?_
 refine G.M 6 ?_
 refine G.nk K2 ?_
 exact G.ret (G.F [] (.one Tryz.results32) ⟨rfl, rfl⟩)
theorem w_MulUp0 (c : Int) (h2 : 1 ≤ c) (h3 : c ≤ 2305843009213693952) : Spec prog 32 [.int .i64 0, .int .i64 1, .int .i64 c] [] [] (fun v Ln => v = .int .i64 0 ∧ Ln = []) := by
 refine Spec.en func32 ntmps32 fun w0 => ?_
 refine G.sr fun _ K1 => ?_
 refine G.M 6 ?_
 refine G.nk K1 ?_
 refine G.sr fun _ K2 => ?_
 refine G.M 7 ?_
 refine G.cp 8 [] []  e50 ((s_Neg 0).to (show Value.int .i64 (-clp 0) = .int .i64 0 from by rw [clp_id (by omega) (by omega)]; rfl)) ?_
 refine G.M2 9 10 ?_
 refine G.cp 11 [] []  e49 (w_MulDiv0 c h2 h3) ?_
 refine G.V 12 (.cast .neg (show Value.int .i64 (IntKind.i64.wrap (0 - 0)) = .int .i64 0 from rfl)) ?_
 refine G.M 6 ?_
 refine G.nk K2 ?_
 exact G.ret (G.F [] (.one Tryz.results32) ⟨rfl, rfl⟩)
theorem w_MulUp (a c : Int) (h0 : 0 ≤ a) (h1 : a ≤ 2305843009213693952) (h2 : 1 ≤ c) (h3 : c ≤ 2305843009213693952) : Spec prog 32 [.int .i64 a, .int .i64 1, .int .i64 c] [] [] (fun v Ln => v = .int .i64 (ceilV a c) ∧ Ln = []) := by
 rcases Int.lt_or_eq_of_le h0 with h | h
 ·exact w_MulUp1 a c h h1 h2 h3
 ·subst h
  have e : ceilV 0 c = 0 := by have := ceil_b (a := 0) (c := c) (by omega) h2; omega
  rw [e]; exact w_MulUp0 c h2 h3
theorem l_Settle (p : Par) (h0 : 0 ≤ mulC 3 (widthV p p.hold p.d)) (h1 : mulC 3 (widthV p p.hold p.d) ≤ 2305843009213693952) (h2 : 1 ≤ sbC p.mu p.rho) (h3 : sbC p.mu p.rho ≤ 2305843009213693952) : Spec prog 20 [.agg #[.int .i64 p.n, .int .i64 p.f, .int .i64 p.d, .int .i64 p.beat, .int .i64 p.rho, .int .i64 p.delay, .int .i64 p.jitter, .int .i64 p.eps, .int .i64 p.mu, .int .i64 p.hold, .int .i64 p.pulse, .int .i64 p.second]] [] [] (fun v Ln => v = .int .i64 (settleV p) ∧ Ln = []) := by
 refine Spec.en func20 ntmps20 fun w0 => ?_
 refine G.sr fun _ K1 => ?_
 refine G.mk 1 .bx fun g1 => ?_
 refine G.M 2 ?_
 refine G.nk K1 ?_
 refine G.sr fun _ K2 => ?_
 refine G.V 4 (.lda t23 0) ?_
 refine G.V 5 (.fa f23_9 9) ?_
 refine G.V 6 (.ld t3 0) ?_
 refine G.V 7 (.fa f23_2 2) ?_
 refine G.V 8 (.ld t3 0) ?_
 refine G.cp 9 [] []  e17 (l_Width p p.hold p.d) ?_
 refine G.cp 10 [] []  e28 (s_Mul 3 (widthV p p.hold p.d)) ?_
 refine G.M 3 ?_
 refine G.nk K2 ?_
 refine G.Z fun _ K3 => ?_
 refine G.draw 13 [0] [] [] ?_
 refine D.V 0 11 1 (.fa f23_2 2) ?_
 refine D.V 3 14 9 .mv ?_
 refine D.V 4 15 25 (.fa f23_8 8) ?_
 refine D.V 6 17 89 (.fa f23_4 4) ?_
 refine D.T 1 12 91 (.ld t3 0) [0] [] ?_
 refine D.T 5 16 123 (.ld t3 0) [0] [] ?_
 refine D.T 7 18 251 (.ld t3 0) [0] [] ?_
 refine D.C 2 13 255 [] [] [0] []  e28 (s_Mul 2 p.d) ?_
 rintro _ _ ⟨rfl, rfl⟩
 refine D.C 8 19 511 [] [] [0] []  e33 (s_Sub p.mu p.rho) ?_
 rintro _ _ ⟨rfl, rfl⟩
 refine D.C 9 20 1023 [] [] [0] []  e32 (w_MulUp _ _ h0 h1 h2 h3) ?_
 rintro _ _ ⟨rfl, rfl⟩
 refine D.ev 10 2047 ?_
 refine E.row 10 21 (.sl s24 z3 [.int .i64 (mulC 2 p.d), .int .i64 6, .int .i64 (ceilV (mulC 3 (widthV p p.hold p.d)) (sbC p.mu p.rho))]) [0] []  fun g21 => ?_
 refine D.C 11 22 4095 [] [0] [1] []  e29 (s_Add' g21 3 [(mulC 2 p.d), 6, (ceilV (mulC 3 (widthV p p.hold p.d)) (sbC p.mu p.rho))] rfl (by decide)) ?_
 rintro _ _ ⟨rfl, rfl⟩
 refine D.V 12 2 8191 .mv ?_
 refine D.done ?_
 refine K3 _ _ _ ?_
 exact G.ret (G.F [] (.one Tryz.results20) ⟨rfl, rfl⟩)
theorem sp_Of (lo hi : Int) : Spec prog 81 [.int .i64 lo, .int .i64 hi] [] [] (fun v Ln => v = .agg #[.int .i64 (clp lo), .int .i64 (clp hi)] ∧ Ln = []) := by
 refine Spec.en func81 ntmps81 fun w0 => ?_
 refine G.sr fun _ K1 => ?_
 refine G.mk 4 (.al z49) fun g4 => ?_
 refine G.nk K1 ?_
 refine G.sr fun _ K2 => ?_
 refine G.M 5 ?_
 refine G.cp 6 [] []  e48 (s_Clip lo) ?_
 refine G.M 7 ?_
 refine G.cp 8 [] []  e48 (s_Clip hi) ?_
 refine G.V 9 (.build z49 p49 (cs := #[.int .i64 (clp lo), .int .i64 (clp hi)])) ?_
 refine G.sn 0 (.st t49 0) rfl ?_
 refine G.nk K2 ?_
 exact G.ret (G.F [] (.cell Tryz.results81 t49 0) ⟨rfl, rfl⟩)
theorem sp_Empty (lo hi : Int) : Spec prog 82 [.agg #[.int .i64 lo, .int .i64 hi]] [] [] (fun v Ln => v = .bool (decide (lo > hi)) ∧ Ln = []) := by
 refine Spec.en func82 ntmps82 fun w0 => ?_
 refine G.sr fun _ K1 => ?_
 refine G.mk 1 .bx fun g1 => ?_
 refine G.M 2 ?_
 refine G.nk K1 ?_
 refine G.sr fun _ K2 => ?_
 refine G.V 3 (.fa f49_0 0) ?_
 refine G.V 4 (.ld t3 0) ?_
 refine G.V 5 (.fa f49_1 1) ?_
 refine G.V 6 (.ld t3 0) ?_
 refine G.V 7 .bin ?_
 refine G.M 2 ?_
 refine G.nk K2 ?_
 exact G.ret (G.F [] (.one Tryz.results82) ⟨rfl, rfl⟩)
theorem sp_All  : Spec prog 83 [] [] [] (fun v Ln => v = .agg #[.int .i64 (-2305843009213693952), .int .i64 2305843009213693952] ∧ Ln = []) := by
 refine Spec.en func83 ntmps83 fun w0 => ?_
 refine G.sr fun _ K1 => ?_
 refine G.mk 0 (.al z49) fun g0 => ?_
 refine G.nk K1 ?_
 refine G.sr fun _ K2 => ?_
 refine G.V 1 (.build z49 p49 (cs := #[.int .i64 (-2305843009213693952), .int .i64 2305843009213693952])) ?_
 refine G.sn 0 (.st t49 0) rfl ?_
 refine G.nk K2 ?_
 exact G.ret (G.F [] (.cell Tryz.results83 t49 0) ⟨rfl, rfl⟩)
theorem sp_Shift (lo hi a b : Int) : Spec prog 126 [.agg #[.int .i64 lo, .int .i64 hi], .int .i64 a, .int .i64 b] [] [] (fun v Ln => v = .agg #[.int .i64 (addL [lo, a]), .int .i64 (addL [hi, b])] ∧ Ln = []) := by
 refine Spec.en func126 ntmps126 fun w0 => ?_
 refine G.sr fun _ K1 => ?_
 refine G.mk 3 .bx fun g3 => ?_
 refine G.mk 6 (.al z49) fun g6 => ?_
 refine G.nk K1 ?_
 refine G.Z fun _ K2 => ?_
 refine G.draw 12 [1] [] [] ?_
 refine D.V 0 7 1 (.fa f49_0 0) ?_
 refine D.V 2 9 5 .mv ?_
 refine D.V 5 12 37 (.fa f49_1 1) ?_
 refine D.V 7 14 165 .mv ?_
 refine D.T 1 8 167 (.ld t3 0) [1] [] ?_
 refine D.T 6 13 231 (.ld t3 0) [1] [] ?_
 refine D.join (ι := Nat × Nat) (fun ⟨g15, g10⟩ => [(0, .agg #[.int .i64 lo, .int .i64 hi]), (6, .pointer (some ⟨g6, 0, none⟩)), (11, .int .i64 (addL [lo, a])), (15, .slice (some ⟨g15, 0, none⟩) 2 2)]) (fun ⟨g15, g10⟩ => [blk g15 [.int .i64 hi, .int .i64 b] 3, blk g10 [.int .i64 lo, .int .i64 a] 3, blk g6 [.int .i64 0, .int .i64 0] 49, blk g3 [.int .i64 lo, .int .i64 hi] 49]) (fun ⟨g15, g10⟩ => []) 3 511 (fun hJ3 => ?_) ?_
 refine D.two 3 8 239 487 ?_ ?_
 refine E.row 3 10 (.sl s24 z3 [.int .i64 lo, .int .i64 a]) [1] []  fun g10 => ?_
 refine D.two 4 8 255 495 ?_ ?_
 refine E.call 4 11 [] [0] [2] []  e29 (s_Add' g10 2 [lo, a] rfl (by decide)) ?_
 rintro _ _ ⟨rfl, rfl⟩
 refine D.ev 8 511 ?_
 refine E.row 8 15 (.sl s24 z3 [.int .i64 hi, .int .i64 b]) [2] []  fun g15 => ?_
 refine hJ3 _ _ _ ?_
 exact G.at (g15, g10) (ts := [0, 6, 11, 15]) rfl rfl rfl rfl
 refine E.row 8 15 (.sl s24 z3 [.int .i64 hi, .int .i64 b]) [2] []  fun g15 => ?_
 refine D.C 4 11 511 [] [1] [3] []  e29 (s_Add' g10 2 [lo, a] rfl (by decide)) ?_
 rintro _ _ ⟨rfl, rfl⟩
 refine hJ3 _ _ _ ?_
 exact G.at (g15, g10) (ts := [0, 6, 11, 15]) rfl rfl rfl rfl
 refine E.row 8 15 (.sl s24 z3 [.int .i64 hi, .int .i64 b]) [1] []  fun g15 => ?_
 refine D.ev 3 495 ?_
 refine E.row 3 10 (.sl s24 z3 [.int .i64 lo, .int .i64 a]) [2] []  fun g10 => ?_
 refine D.C 4 11 511 [] [0] [3] []  e29 (s_Add' g10 2 [lo, a] rfl (by decide)) ?_
 rintro _ _ ⟨rfl, rfl⟩
 refine G.only [1, 0, 0, 0] ?_
 refine hJ3 _ _ _ ?_
 exact G.at (g15, g10) (ts := [0, 6, 11, 15]) rfl rfl rfl rfl
 rintro ⟨g15, g10⟩
 try dsimp only
 refine D.C 9 16 1023 [] [0] [3] []  e29 (s_Add' g15 2 [hi, b] rfl (by decide)) ?_
 rintro _ _ ⟨rfl, rfl⟩
 refine D.V 10 17 2047 (.build z49 p49 (cs := #[.int .i64 (addL [lo, a]), .int .i64 (addL [hi, b])])) ?_
 refine D.sto 11 4095 2 (.st t49 2) [3] []  rfl ?_
 dsimp only [List.set, sets, Value.cells, List.zipIdx, List.foldl]
 refine D.done ?_
 refine K2 _ _ _ ?_
 exact G.ret (G.F [] (.cell Tryz.results126 t49 2) ⟨rfl, rfl⟩)
theorem c_Hold (p : Par) (lo hi t : Int) : Spec prog 117 [.agg #[.int .i64 p.n, .int .i64 p.f, .int .i64 p.d, .int .i64 p.beat, .int .i64 p.rho, .int .i64 p.delay, .int .i64 p.jitter, .int .i64 p.eps, .int .i64 p.mu, .int .i64 p.hold, .int .i64 p.pulse, .int .i64 p.second], .agg #[.int .i64 lo, .int .i64 hi], .int .i64 t] [] [] (fun v Ln => v = .agg #[.int .i64 (addL [lo, sbC t p.rho]), .int .i64 (addL [hi, addL [t, p.rho]])] ∧ Ln = []) := by
 refine Spec.en func117 ntmps117 fun w0 => ?_
 refine G.sr fun _ K1 => ?_
 refine G.mk 3 .bx fun g3 => ?_
 refine G.mk 4 .bx fun g4 => ?_
 refine G.mk 6 (.al z49) fun g6 => ?_
 refine G.nk K1 ?_
 refine G.Z fun _ K2 => ?_
 refine G.draw 12 [1, 2] [] [] ?_
 refine D.V 1 8 2 .mv ?_
 refine D.V 2 9 6 (.fa f23_4 4) ?_
 refine D.V 5 12 38 .mv ?_
 refine D.V 6 13 102 (.fa f23_4 4) ?_
 refine D.T 0 7 103 (.lda t49 0) [1, 2] [] ?_
 refine D.T 3 10 111 (.ld t3 1) [1, 2] [] ?_
 refine D.T 7 14 239 (.ld t3 1) [1, 2] [] ?_
 refine D.join (ι := Nat) (fun g15 => [(0, .agg #[.int .i64 p.n, .int .i64 p.f, .int .i64 p.d, .int .i64 p.beat, .int .i64 p.rho, .int .i64 p.delay, .int .i64 p.jitter, .int .i64 p.eps, .int .i64 p.mu, .int .i64 p.hold, .int .i64 p.pulse, .int .i64 p.second]), (1, .agg #[.int .i64 lo, .int .i64 hi]), (6, .pointer (some ⟨g6, 0, none⟩)), (7, .agg #[.int .i64 lo, .int .i64 hi]), (11, .int .i64 (sbC t p.rho)), (15, .slice (some ⟨g15, 0, none⟩) 2 2)]) (fun g15 => [blk g15 [.int .i64 t, .int .i64 p.rho] 3, blk g6 [.int .i64 0, .int .i64 0] 49, blk g4 [.int .i64 lo, .int .i64 hi] 49, blk g3 (pC p []) 23]) (fun g15 => []) 3 511 (fun hJ3 => ?_) ?_
 refine D.two 4 8 255 495 ?_ ?_
 refine E.call 4 11 [] [] [1, 2] []  e33 (s_Sub t p.rho) ?_
 rintro _ _ ⟨rfl, rfl⟩
 refine D.ev 8 511 ?_
 refine E.row 8 15 (.sl s24 z3 [.int .i64 t, .int .i64 p.rho]) [1, 2] []  fun g15 => ?_
 refine hJ3 _ _ _ ?_
 exact G.at g15 (ts := [0, 1, 6, 7, 11, 15]) rfl rfl rfl rfl
 refine E.row 8 15 (.sl s24 z3 [.int .i64 t, .int .i64 p.rho]) [1, 2] []  fun g15 => ?_
 refine D.C 4 11 511 [] [] [2, 3] []  e33 (s_Sub t p.rho) ?_
 rintro _ _ ⟨rfl, rfl⟩
 refine hJ3 _ _ _ ?_
 exact G.at g15 (ts := [0, 1, 6, 7, 11, 15]) rfl rfl rfl rfl
 rintro g15
 try dsimp only
 refine D.C 9 16 1023 [] [0] [2, 3] []  e29 (s_Add' g15 2 [t, p.rho] rfl (by decide)) ?_
 rintro _ _ ⟨rfl, rfl⟩
 refine D.C 10 17 2047 [] [] [2, 3] []  e126 (sp_Shift lo hi (sbC t p.rho) (addL [t, p.rho])) ?_
 rintro _ _ ⟨rfl, rfl⟩
 refine D.sto 11 4095 1 (.st t49 1) [2, 3] []  rfl ?_
 dsimp only [List.set, sets, Value.cells, List.zipIdx, List.foldl]
 refine D.done ?_
 refine K2 _ _ _ ?_
 exact G.ret (G.F [] (.cell Tryz.results117 t49 1) ⟨rfl, rfl⟩)
theorem c_Way (p : Par) (lo hi t : Int) : Spec prog 116 [.agg #[.int .i64 p.n, .int .i64 p.f, .int .i64 p.d, .int .i64 p.beat, .int .i64 p.rho, .int .i64 p.delay, .int .i64 p.jitter, .int .i64 p.eps, .int .i64 p.mu, .int .i64 p.hold, .int .i64 p.pulse, .int .i64 p.second], .agg #[.int .i64 lo, .int .i64 hi], .int .i64 t] [] [] (fun v Ln => v = .agg #[.int .i64 (addL [lo, addL [sbC p.delay p.jitter, t, -clp p.rho]]), .int .i64 (addL [hi, addL [p.delay, t, p.rho]])] ∧ Ln = []) := by
 refine Spec.en func116 ntmps116 fun w0 => ?_
 refine G.sr fun _ K1 => ?_
 refine G.mk 3 .bx fun g3 => ?_
 refine G.mk 4 .bx fun g4 => ?_
 refine G.mk 6 (.al z49) fun g6 => ?_
 refine G.nk K1 ?_
 refine G.Z fun _ K2 => ?_
 refine G.draw 21 [1, 2] [] [] ?_
 refine D.V 1 8 2 (.fa f23_5 5) ?_
 refine D.V 3 10 10 (.fa f23_6 6) ?_
 refine D.V 6 13 74 .mv ?_
 refine D.V 7 14 202 (.fa f23_4 4) ?_
 refine D.V 12 19 4298 (.fa f23_5 5) ?_
 refine D.V 14 21 20682 .mv ?_
 refine D.V 15 22 53450 (.fa f23_4 4) ?_
 refine D.T 0 7 53451 (.lda t49 0) [1, 2] [] ?_
 refine D.T 2 9 53455 (.ld t3 1) [1, 2] [] ?_
 refine D.T 4 11 53471 (.ld t3 1) [1, 2] [] ?_
 refine D.T 8 15 53727 (.ld t3 1) [1, 2] [] ?_
 refine D.T 13 20 61919 (.ld t3 1) [1, 2] [] ?_
 refine D.T 16 23 127455 (.ld t3 1) [1, 2] [] ?_
 refine D.join (ι := Nat × Nat) (fun ⟨g24, g17⟩ => [(0, .agg #[.int .i64 p.n, .int .i64 p.f, .int .i64 p.d, .int .i64 p.beat, .int .i64 p.rho, .int .i64 p.delay, .int .i64 p.jitter, .int .i64 p.eps, .int .i64 p.mu, .int .i64 p.hold, .int .i64 p.pulse, .int .i64 p.second]), (1, .agg #[.int .i64 lo, .int .i64 hi]), (6, .pointer (some ⟨g6, 0, none⟩)), (7, .agg #[.int .i64 lo, .int .i64 hi]), (18, .int .i64 (addL [(sbC p.delay p.jitter), t, (-clp p.rho)])), (24, .slice (some ⟨g24, 0, none⟩) 3 3)]) (fun ⟨g24, g17⟩ => [blk g24 [.int .i64 p.delay, .int .i64 t, .int .i64 p.rho] 3, blk g17 [.int .i64 (sbC p.delay p.jitter), .int .i64 t, .int .i64 (-clp p.rho)] 3, blk g6 [.int .i64 0, .int .i64 0] 49, blk g4 [.int .i64 lo, .int .i64 hi] 49, blk g3 (pC p []) 23]) (fun ⟨g24, g17⟩ => []) 3 262143 (fun hJ3 => ?_) ?_
 refine D.two 5 17 127487 258527 ?_ ?_
 refine E.call 5 12 [] [] [1, 2] []  e33 (s_Sub p.delay p.jitter) ?_
 rintro _ _ ⟨rfl, rfl⟩
 refine D.two 9 17 127999 258559 ?_ ?_
 refine E.call 9 16 [] [] [1, 2] []  e50 (s_Neg p.rho) ?_
 rintro _ _ ⟨rfl, rfl⟩
 refine D.two 10 17 129023 259071 ?_ ?_
 refine E.row 10 17 (.sl s24 z3 [.int .i64 (sbC p.delay p.jitter), .int .i64 t, .int .i64 (-clp p.rho)]) [1, 2] []  fun g17 => ?_
 refine D.two 11 17 131071 260095 ?_ ?_
 refine E.call 11 18 [] [0] [2, 3] []  e29 (s_Add' g17 3 [(sbC p.delay p.jitter), t, (-clp p.rho)] rfl (by decide)) ?_
 rintro _ _ ⟨rfl, rfl⟩
 refine D.ev 17 262143 ?_
 refine E.row 17 24 (.sl s24 z3 [.int .i64 p.delay, .int .i64 t, .int .i64 p.rho]) [2, 3] []  fun g24 => ?_
 refine hJ3 _ _ _ ?_
 exact G.at (g24, g17) (ts := [0, 1, 6, 7, 18, 24]) rfl rfl rfl rfl
 refine E.row 17 24 (.sl s24 z3 [.int .i64 p.delay, .int .i64 t, .int .i64 p.rho]) [2, 3] []  fun g24 => ?_
 refine D.C 11 18 262143 [] [1] [3, 4] []  e29 (s_Add' g17 3 [(sbC p.delay p.jitter), t, (-clp p.rho)] rfl (by decide)) ?_
 rintro _ _ ⟨rfl, rfl⟩
 refine hJ3 _ _ _ ?_
 exact G.at (g24, g17) (ts := [0, 1, 6, 7, 18, 24]) rfl rfl rfl rfl
 refine E.row 17 24 (.sl s24 z3 [.int .i64 p.delay, .int .i64 t, .int .i64 p.rho]) [1, 2] []  fun g24 => ?_
 refine D.ev 10 260095 ?_
 refine E.row 10 17 (.sl s24 z3 [.int .i64 (sbC p.delay p.jitter), .int .i64 t, .int .i64 (-clp p.rho)]) [2, 3] []  fun g17 => ?_
 refine D.C 11 18 262143 [] [0] [3, 4] []  e29 (s_Add' g17 3 [(sbC p.delay p.jitter), t, (-clp p.rho)] rfl (by decide)) ?_
 rintro _ _ ⟨rfl, rfl⟩
 refine G.only [1, 0, 0, 0, 0] ?_
 refine hJ3 _ _ _ ?_
 exact G.at (g24, g17) (ts := [0, 1, 6, 7, 18, 24]) rfl rfl rfl rfl
 refine E.row 17 24 (.sl s24 z3 [.int .i64 p.delay, .int .i64 t, .int .i64 p.rho]) [1, 2] []  fun g24 => ?_
 refine D.C 9 16 259071 [] [] [2, 3] []  e50 (s_Neg p.rho) ?_
 rintro _ _ ⟨rfl, rfl⟩
 refine D.ev 10 260095 ?_
 refine E.row 10 17 (.sl s24 z3 [.int .i64 (sbC p.delay p.jitter), .int .i64 t, .int .i64 (-clp p.rho)]) [2, 3] []  fun g17 => ?_
 refine D.C 11 18 262143 [] [0] [3, 4] []  e29 (s_Add' g17 3 [(sbC p.delay p.jitter), t, (-clp p.rho)] rfl (by decide)) ?_
 rintro _ _ ⟨rfl, rfl⟩
 refine G.only [1, 0, 0, 0, 0] ?_
 refine hJ3 _ _ _ ?_
 exact G.at (g24, g17) (ts := [0, 1, 6, 7, 18, 24]) rfl rfl rfl rfl
 refine E.row 17 24 (.sl s24 z3 [.int .i64 p.delay, .int .i64 t, .int .i64 p.rho]) [1, 2] []  fun g24 => ?_
 refine D.C 5 12 258559 [] [] [2, 3] []  e33 (s_Sub p.delay p.jitter) ?_
 rintro _ _ ⟨rfl, rfl⟩
 refine D.C 9 16 259071 [] [] [2, 3] []  e50 (s_Neg p.rho) ?_
 rintro _ _ ⟨rfl, rfl⟩
 refine D.ev 10 260095 ?_
 refine E.row 10 17 (.sl s24 z3 [.int .i64 (sbC p.delay p.jitter), .int .i64 t, .int .i64 (-clp p.rho)]) [2, 3] []  fun g17 => ?_
 refine D.C 11 18 262143 [] [0] [3, 4] []  e29 (s_Add' g17 3 [(sbC p.delay p.jitter), t, (-clp p.rho)] rfl (by decide)) ?_
 rintro _ _ ⟨rfl, rfl⟩
 refine G.only [1, 0, 0, 0, 0] ?_
 refine hJ3 _ _ _ ?_
 exact G.at (g24, g17) (ts := [0, 1, 6, 7, 18, 24]) rfl rfl rfl rfl
 rintro ⟨g24, g17⟩
 try dsimp only
 refine D.C 18 25 524287 [] [0] [3, 4] []  e29 (s_Add' g24 3 [p.delay, t, p.rho] rfl (by decide)) ?_
 rintro _ _ ⟨rfl, rfl⟩
 refine D.C 19 26 1048575 [] [] [3, 4] []  e126 (sp_Shift lo hi (addL [(sbC p.delay p.jitter), t, (-clp p.rho)]) (addL [p.delay, t, p.rho])) ?_
 rintro _ _ ⟨rfl, rfl⟩
 refine D.sto 20 2097151 2 (.st t49 2) [3, 4] []  rfl ?_
 dsimp only [List.set, sets, Value.cells, List.zipIdx, List.foldl]
 refine D.done ?_
 refine K2 _ _ _ ?_
 exact G.ret (G.F [] (.cell Tryz.results116 t49 2) ⟨rfl, rfl⟩)
end Go.Proofs.YtbmhgopjblnfnaaGreat.S
