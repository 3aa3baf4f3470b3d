/- The calls of these Go functions answer what the Lean functions beside them answer; written by a program (wip/pr2.py, out of the print of the loaded program); under no condition but those that stand in the theorems. -/
import Derived.Test.YtigkjbaclpklpaaDoorQx0
import Derived.Test.YtigkjbaclpklpaaDoorQx24
namespace Go.Proofs.YtigkjbaclpklpaaDoor.Q
open Go.RowKit Go.Proofs.YtigkjbaclpklpaaDoorW.PrintWords Go.Proofs.YtigkjbaclpklpaaDoorW.PrintLast Go.Proofs.YtigkjbaclpklpaaDoorW.PrintMore
attribute [local go_sem] max2_int min2_int max_two min_two max_three min_three max_four min_four   -- for this text's walks alone
set_option linter.unusedVariables false
set_option linter.unusedSimpArgs false

/-! ### clepsydraref17_Date: function 49 -/
mutual
def clepsydraref17_Date.j0 : Nat → Int → Bool → Option (Int × Int × Int × Bool)
 | 0, _, _ => none
 | k + 1, x0, x14 => if x14 = true then (some (0, 0, 0, false)) else (clepsydraref17_Date.l0 k x0 1970)
def clepsydraref17_Date.l0 : Nat → Int → Int → Option (Int × Int × Int × Bool)
 | 0, _, _ => none
 | k + 1, x0, x6 => if x0 < 0 then (clepsydraref17_Date.l0 k (wrap64 (x0 + (wrap64 ((wrap64 (Int.tdiv (wrap64 ((wrap64 (-x0)) + 146096)) 146097)) * 146097)))) (wrap64 (x6 - (wrap64 (400 * (wrap64 (Int.tdiv (wrap64 ((wrap64 (-x0)) + 146096)) 146097))))))) else (clepsydraref17_Date.l1 k (Int.tmod x0 146097) (wrap64 (x6 + (wrap64 ((wrap64 (Int.tdiv x0 146097)) * 400)))))
def clepsydraref17_Date.l1 : Nat → Int → Int → Option (Int × Int × Int × Bool)
 | 0, _, _ => none
 | k + 1, x0, x6 => (clepsydraref17_Year.f x6).bind fun t292 => (if x0 ≥ t292 then ((clepsydraref17_Year.f x6).bind fun t293 => (clepsydraref17_Date.l1 k (wrap64 (x0 - t293)) (wrap64 (x6 + 1)))) else (clepsydraref17_Date.l2 k x0 x6 1))
def clepsydraref17_Date.l2 : Nat → Int → Int → Int → Option (Int × Int × Int × Bool)
 | 0, _, _, _ => none
 | k + 1, x0, x6, x8 => (clepsydraref17_Days.f k x6 x8).bind fun t294 => (if x0 ≥ t294 then ((clepsydraref17_Days.f k x6 x8).bind fun t295 => (clepsydraref17_Date.l2 k (wrap64 (x0 - t295)) x6 (wrap64 (x8 + 1)))) else (some (x6, x8, wrap64 (x0 + 1), true)))
end
def clepsydraref17_Date.f (k : Nat) (a0 : Int) : Option (Int × Int × Int × Bool) := if a0 > 4294967296 then (clepsydraref17_Date.j0 k a0 true) else (clepsydraref17_Date.j0 k a0 (decide (a0 < (-4294967296))))
theorem clepsydraref17_Date.mono_l : ∀ k, (∀ y0 y1, LeO (clepsydraref17_Date.j0 k y0 y1) (clepsydraref17_Date.j0 (k + 1) y0 y1)) ∧ (∀ y0 y1, LeO (clepsydraref17_Date.l0 k y0 y1) (clepsydraref17_Date.l0 (k + 1) y0 y1)) ∧ (∀ y0 y1, LeO (clepsydraref17_Date.l1 k y0 y1) (clepsydraref17_Date.l1 (k + 1) y0 y1)) ∧ (∀ y0 y1 y2, LeO (clepsydraref17_Date.l2 k y0 y1 y2) (clepsydraref17_Date.l2 (k + 1) y0 y1 y2))
 | 0 => ⟨fun _ _ r h => by simp [clepsydraref17_Date.j0] at h, fun _ _ r h => by simp [clepsydraref17_Date.l0] at h, fun _ _ r h => by simp [clepsydraref17_Date.l1] at h, fun _ _ _ r h => by simp [clepsydraref17_Date.l2] at h⟩
 | k + 1 => by
  obtain ⟨ih0, ih1, ih2, ih3⟩ := clepsydraref17_Date.mono_l k
  refine ⟨?_, ?_, ?_, ?_⟩
  ·intro y0 y1
   unfold clepsydraref17_Date.j0
   repeat' first
   | (with_reducible exact ih0 _ _)
   | (with_reducible exact ih1 _ _)
   | (with_reducible exact ih2 _ _)
   | (with_reducible exact ih3 _ _ _)
   | (with_reducible exact clepsydraref17_Days.mono _ _ _)
   | (with_reducible exact LeO.refl _)
   | (with_reducible exact LeO.none _)
   | (with_reducible refine LeO.ite ?_ ?_)
   | (with_reducible refine LeO.bind ?_ (fun _ => ?_))
   | exact ih0 _ _
   | exact ih1 _ _
   | exact ih2 _ _
   | exact ih3 _ _ _
   | exact clepsydraref17_Days.mono _ _ _
   | exact LeO.none _
   | refine LeO.ite ?_ ?_
   | refine LeO.bind ?_ (fun _ => ?_)
  ·intro y0 y1
   unfold clepsydraref17_Date.l0
   repeat' first
   | (with_reducible exact ih0 _ _)
   | (with_reducible exact ih1 _ _)
   | (with_reducible exact ih2 _ _)
   | (with_reducible exact ih3 _ _ _)
   | (with_reducible exact clepsydraref17_Days.mono _ _ _)
   | (with_reducible exact LeO.refl _)
   | (with_reducible exact LeO.none _)
   | (with_reducible refine LeO.ite ?_ ?_)
   | (with_reducible refine LeO.bind ?_ (fun _ => ?_))
   | exact ih0 _ _
   | exact ih1 _ _
   | exact ih2 _ _
   | exact ih3 _ _ _
   | exact clepsydraref17_Days.mono _ _ _
   | exact LeO.none _
   | refine LeO.ite ?_ ?_
   | refine LeO.bind ?_ (fun _ => ?_)
  ·intro y0 y1
   unfold clepsydraref17_Date.l1
   repeat' first
   | (with_reducible exact ih0 _ _)
   | (with_reducible exact ih1 _ _)
   | (with_reducible exact ih2 _ _)
   | (with_reducible exact ih3 _ _ _)
   | (with_reducible exact clepsydraref17_Days.mono _ _ _)
   | (with_reducible exact LeO.refl _)
   | (with_reducible exact LeO.none _)
   | (with_reducible refine LeO.ite ?_ ?_)
   | (with_reducible refine LeO.bind ?_ (fun _ => ?_))
   | exact ih0 _ _
   | exact ih1 _ _
   | exact ih2 _ _
   | exact ih3 _ _ _
   | exact clepsydraref17_Days.mono _ _ _
   | exact LeO.none _
   | refine LeO.ite ?_ ?_
   | refine LeO.bind ?_ (fun _ => ?_)
  intro y0 y1 y2
  unfold clepsydraref17_Date.l2
  repeat' first
  | (with_reducible exact ih0 _ _)
  | (with_reducible exact ih1 _ _)
  | (with_reducible exact ih2 _ _)
  | (with_reducible exact ih3 _ _ _)
  | (with_reducible exact clepsydraref17_Days.mono _ _ _)
  | (with_reducible exact LeO.refl _)
  | (with_reducible exact LeO.none _)
  | (with_reducible refine LeO.ite ?_ ?_)
  | (with_reducible refine LeO.bind ?_ (fun _ => ?_))
  | exact ih0 _ _
  | exact ih1 _ _
  | exact ih2 _ _
  | exact ih3 _ _ _
  | exact clepsydraref17_Days.mono _ _ _
  | exact LeO.none _
  | refine LeO.ite ?_ ?_
  | refine LeO.bind ?_ (fun _ => ?_)
theorem clepsydraref17_Date.mono : ∀ a0 k, LeO (clepsydraref17_Date.f k a0) (clepsydraref17_Date.f (k + 1) a0) := by
 intro a0 k
 obtain ⟨ih0, ih1, ih2, ih3⟩ := clepsydraref17_Date.mono_l k
 unfold clepsydraref17_Date.f
 repeat' first
   | (with_reducible exact ih0 _ _)
   | (with_reducible exact ih1 _ _)
   | (with_reducible exact ih2 _ _)
   | (with_reducible exact ih3 _ _ _)
   | (with_reducible exact clepsydraref17_Days.mono _ _ _)
   | (with_reducible exact LeO.refl _)
   | (with_reducible exact LeO.none _)
   | (with_reducible refine LeO.ite ?_ ?_)
   | (with_reducible refine LeO.bind ?_ (fun _ => ?_))
   | exact ih0 _ _
   | exact ih1 _ _
   | exact ih2 _ _
   | exact ih3 _ _ _
   | exact clepsydraref17_Days.mono _ _ _
   | exact LeO.none _
   | refine LeO.ite ?_ ?_
   | refine LeO.bind ?_ (fun _ => ?_)
set_option maxHeartbeats 8000000 in
set_option maxRecDepth 100000 in
theorem clepsydraref17_Date.calls (k : Nat) (a0 : Int) (r1 : Int) (r2 : Int) (r3 : Int) (r4 : Bool) (w : World) (h : clepsydraref17_Date.f k a0 = some (r1, r2, r3, r4)) :
  Calls Tryd.prog 49 #[.int .i64 a0] w fun e w' => e = .returned (.tuple #[.int .i64 r1, .int .i64 r2, .int .i64 r3, .bool r4]) ∧ Drawn0 w w' := by
 have H : (if a0 > 4294967296 then (clepsydraref17_Date.j0 k a0 true) else (clepsydraref17_Date.j0 k a0 (decide (a0 < (-4294967296))))) = some (r1, r2, r3, r4) := h
 clear h
 have HC2 := mk H
 clear H
 go_enter Tryd.func49, Tryd.ntmps49
 go_upto_region 1 with (fail)
 go_cut [14] (fun v14 wc => ∃ (kq : Nat) (x14_1 : Bool), v14 = .bool x14_1 ∧ Aside0 (clepsydraref17_Date.j0 kq a0 x14_1 = some (r1, r2, r3, r4)) ∧ Aside0 (kq ≤ k) ∧ Drawn0 w wc)
 case first =>
  have H := HC2.1
  clear HC2
  by_cases c3 : a0 > 4294967296
  ·rw [if_pos c3] at H
   have c3b0 : decide (4294967296 < a0) = true := decide_eq_true c3
   clear c3
   (first | rw [c3b0] | (simp only [i64_w, i32_w]; rw [c3b0]) | skip)
   have H' := mk H
   clear H
   go_wp2
   go_meet
   case rel => exact ⟨_, (true), zs, H', ⟨by first | omega | exact Nat.le_refl _⟩, by repeat (first | exact Drawn0.refl _ | apply Drawn0.step)⟩
  rw [if_neg c3] at H
  have c3b0 : decide (4294967296 < a0) = false := decide_eq_false c3
  clear c3
  (first | rw [c3b0] | (simp only [i64_w, i32_w]; rw [c3b0]) | skip)
  have H' := mk H
  clear H
  go_wp2
  go_meet
  case rel => exact ⟨_, (decide (a0 < (-4294967296))), zs, H', ⟨by first | omega | exact Nat.le_refl _⟩, by repeat (first | exact Drawn0.refl _ | apply Drawn0.step)⟩
 case rest =>
  clear HC2
  try clear p2
  try clear c3
  try clear c3b0
  obtain ⟨kq, x14_1, rfl, HA, HJ1, ⟨mc1, rfl⟩⟩ := hcut
  cases kq with
  | zero => exact absurd HA.1 (by simp [clepsydraref17_Date.j0])
  | succ kj1 =>
   have H := HA.1
   clear HA
   simp only [clepsydraref17_Date.j0] at H
   by_cases c4 : x14_1 = true
   ·subst c4
    have H1 : (some (0, 0, 0, false)) = some (r1, r2, r3, r4) := by rw [if_pos rfl] at H; exact H
    clear H
    have H := H1
    clear H1
    simp only [Option.some.injEq, Prod.mk.injEq] at H
    obtain ⟨rfl, rfl, rfl, rfl⟩ := H
    go_wp2
    refine bodyPost_ret (results_list (rs := [.tmp 2, .tmp 3, .tmp 4, .tmp 5]) rfl (by simp) (.tmp (.tmp (.tmp (.tmp .nil))))) rfl ?_
    exact ⟨by first | rfl | (simp; done) | (simp [*]; done) | (simp [Int.tdiv_eq_ediv_of_nonneg]; done) | (simp [Go.RowKit.wrap64]; done) | (simp [*, Go.RowKit.wrap64]; done), by repeat (first | exact Drawn0.refl _ | apply Drawn0.step)⟩
   replace c4 := Bool.eq_false_iff.mpr c4
   subst c4
   have H1 : (clepsydraref17_Date.l0 kj1 a0 1970) = some (r1, r2, r3, r4) := by rw [if_neg (show ¬ (false = true) by decide)] at H; exact H
   clear H
   have H := H1
   clear H1
   have H' := mk H
   clear H
   go_wp2
   go_loopg [0, 6] kj1 (fun kq v0 v6 w' => ∃ (x0_2 : Int) (x6_2 : Int), v0 = .int .i64 x0_2 ∧ v6 = .int .i64 x6_2 ∧ Aside0 (clepsydraref17_Date.l0 kq x0_2 x6_2 = some (r1, r2, r3, r4)) ∧ Aside0 (kq ≤ kj1) ∧ Drawn0 w w')
   case atStart => exact ⟨(a0), (1970), zs, zs, H', ⟨Nat.le_refl _⟩, by repeat (first | exact Drawn0.refl _ | apply Drawn0.step)⟩
   case round =>
    clear H'
    try clear c1
    try clear p2
    try clear c3
    try clear c3b0
    try clear c4
    try clear p2
    obtain ⟨x0_2, x6_2, rfl, rfl, HA, HK2, ⟨m2, rfl⟩⟩ := hrel
    cases gk with
    | zero => exact absurd HA.1 (by simp [clepsydraref17_Date.l0])
    | succ k2 =>
     have H := HA.1
     clear HA
     simp only [clepsydraref17_Date.l0] at H
     by_cases c5 : x0_2 < 0
     ·rw [if_pos c5] at H
      have c5b0 : decide (x0_2 < 0) = true := decide_eq_true c5
      clear c5
      have H' := mk H
      clear H
      go_wp2
      go_roundg k2
      case measure => have := HJ1.1; have := HK2.1; omega
      case rel => exact ⟨(wrap64 (x0_2 + (wrap64 ((wrap64 (Int.tdiv (wrap64 ((wrap64 (-x0_2)) + 146096)) 146097)) * 146097)))), (wrap64 (x6_2 - (wrap64 (400 * (wrap64 (Int.tdiv (wrap64 ((wrap64 (-x0_2)) + 146096)) 146097)))))), zs, zs, H', ⟨by have := HJ1.1; have := HK2.1; omega⟩, by repeat (first | exact Drawn0.refl _ | apply Drawn0.step)⟩
     rw [if_neg c5] at H
     have c5b0 : decide (x0_2 < 0) = false := decide_eq_false c5
     clear c5
     have H' := mk H
     clear H
     go_wp2
     go_loopg [0, 6] k2 (fun kq v0 v6 w' => ∃ (x0_3 : Int) (x6_3 : Int), v0 = .int .i64 x0_3 ∧ v6 = .int .i64 x6_3 ∧ Aside0 (clepsydraref17_Date.l1 kq x0_3 x6_3 = some (r1, r2, r3, r4)) ∧ Aside0 (kq ≤ k2) ∧ Drawn0 w w')
     case atStart => exact ⟨(Int.tmod x0_2 146097), (wrap64 (x6_2 + (wrap64 ((wrap64 (Int.tdiv x0_2 146097)) * 400)))), zs, zs, H', ⟨Nat.le_refl _⟩, by repeat (first | exact Drawn0.refl _ | apply Drawn0.step)⟩
     case round =>
      clear H'
      try clear c1
      try clear p2
      try clear c3
      try clear c3b0
      try clear c4
      try clear c5
      try clear c5b0
      try clear p2
      obtain ⟨x0_3, x6_3, rfl, rfl, HA, HK3, ⟨m3, rfl⟩⟩ := hrel
      cases gk with
      | zero => exact absurd HA.1 (by simp [clepsydraref17_Date.l1])
      | succ k3 =>
       have H := HA.1
       clear HA
       simp only [clepsydraref17_Date.l1] at H
       replace H := Option.bind_eq_some_iff.mp H
       obtain ⟨t292, A60, H⟩ := H
       replace H : (if x0_3 ≥ t292 then ((clepsydraref17_Year.f x6_3).bind fun t293 => (clepsydraref17_Date.l1 k3 (wrap64 (x0_3 - t293)) (wrap64 (x6_3 + 1)))) else (clepsydraref17_Date.l2 k3 x0_3 x6_3 1)) = some (r1, r2, r3, r4) := H
       have A6 := mk A60
       clear A60
       by_cases c7 : x0_3 ≥ t292
       ·rw [if_pos c7] at H
        have c7b0 : decide (t292 ≤ x0_3) = true := decide_eq_true c7
        clear c7
        replace H := Option.bind_eq_some_iff.mp H
        obtain ⟨t293, A80, H⟩ := H
        replace H : (clepsydraref17_Date.l1 k3 (wrap64 (x0_3 - t293)) (wrap64 (x6_3 + 1))) = some (r1, r2, r3, r4) := H
        have A8 := mk A80
        clear A80
        obtain rfl : t292 = t293 := Option.some.inj (A6.1.symm.trans A8.1)
        have H' := mk H
        clear H
        go_wp2_with (first | ((with_reducible refine gate_callee (f := 66) rfl ?_); refine goesL_ (some 38) rfl rfl Tryd.func66 (by kernel_rfl) rfl #[.int .i64 x6_3] rfl (by (try simp only [List.map_toArray, List.map_cons, List.map_nil]); first | done | rfl | (simp only [List.length_drop, List.length_take]; rfl)) ?_; (with_reducible refine (clepsydraref17_Year.calls x6_3 t292 _ A6.1).mono ?_); rintro e w' ⟨rfl, ⟨nd, rfl⟩⟩; refine ⟨_, rfl, ?_⟩) | ((with_reducible refine gate_callee (f := 66) rfl ?_); refine goesL_ (some 42) rfl rfl Tryd.func66 (by kernel_rfl) rfl #[.int .i64 x6_3] rfl (by (try simp only [List.map_toArray, List.map_cons, List.map_nil]); first | done | rfl | (simp only [List.length_drop, List.length_take]; rfl)) ?_; (with_reducible refine (clepsydraref17_Year.calls x6_3 t292 _ A8.1).mono ?_); rintro e w' ⟨rfl, ⟨nd, rfl⟩⟩; refine ⟨_, rfl, ?_⟩))
        go_roundg k3
        case measure => have := HJ1.1; have := HK2.1; have := HK3.1; omega
        case rel => exact ⟨(wrap64 (x0_3 - t292)), (wrap64 (x6_3 + 1)), zs, zs, H', ⟨by have := HJ1.1; have := HK2.1; have := HK3.1; omega⟩, by repeat (first | exact Drawn0.refl _ | apply Drawn0.step)⟩
       rw [if_neg c7] at H
       have c7b0 : decide (t292 ≤ x0_3) = false := decide_eq_false c7
       clear c7
       have H' := mk H
       clear H
       go_wp2_with (first | ((with_reducible refine gate_callee (f := 66) rfl ?_); refine goesL_ (some 38) rfl rfl Tryd.func66 (by kernel_rfl) rfl #[.int .i64 x6_3] rfl (by (try simp only [List.map_toArray, List.map_cons, List.map_nil]); first | done | rfl | (simp only [List.length_drop, List.length_take]; rfl)) ?_; (with_reducible refine (clepsydraref17_Year.calls x6_3 t292 _ A6.1).mono ?_); rintro e w' ⟨rfl, ⟨nd, rfl⟩⟩; refine ⟨_, rfl, ?_⟩))
       go_loopg [0, 8] k3 (fun kq v0 v8 w' => ∃ (x0_4 : Int) (x8_4 : Int), v0 = .int .i64 x0_4 ∧ v8 = .int .i64 x8_4 ∧ Aside0 (clepsydraref17_Date.l2 kq x0_4 x6_3 x8_4 = some (r1, r2, r3, r4)) ∧ Aside0 (kq ≤ k3) ∧ Drawn0 w w')
       case atStart => exact ⟨(x0_3), (1), zs, zs, H', ⟨Nat.le_refl _⟩, by repeat (first | exact Drawn0.refl _ | apply Drawn0.step)⟩
       case round =>
        clear H'
        try clear c1
        try clear p2
        try clear c3
        try clear c3b0
        try clear c4
        try clear c5
        try clear c5b0
        try clear c6
        try clear p6
        try clear c7
        try clear c7b0
        try clear p2
        obtain ⟨x0_4, x8_4, rfl, rfl, HA, HK4, ⟨m4, rfl⟩⟩ := hrel
        cases gk with
        | zero => exact absurd HA.1 (by simp [clepsydraref17_Date.l2])
        | succ k4 =>
         have H := HA.1
         clear HA
         simp only [clepsydraref17_Date.l2] at H
         replace H := Option.bind_eq_some_iff.mp H
         obtain ⟨t294, A90, H⟩ := H
         replace H : (if x0_4 ≥ t294 then ((clepsydraref17_Days.f k4 x6_3 x8_4).bind fun t295 => (clepsydraref17_Date.l2 k4 (wrap64 (x0_4 - t295)) x6_3 (wrap64 (x8_4 + 1)))) else (some (x6_3, x8_4, wrap64 (x0_4 + 1), true))) = some (r1, r2, r3, r4) := H
         have A9 := mk A90
         clear A90
         by_cases c10 : x0_4 ≥ t294
         ·rw [if_pos c10] at H
          have c10b0 : decide (t294 ≤ x0_4) = true := decide_eq_true c10
          clear c10
          replace H := Option.bind_eq_some_iff.mp H
          obtain ⟨t295, A110, H⟩ := H
          replace H : (clepsydraref17_Date.l2 k4 (wrap64 (x0_4 - t295)) x6_3 (wrap64 (x8_4 + 1))) = some (r1, r2, r3, r4) := H
          have A11 := mk A110
          clear A110
          obtain rfl : t294 = t295 := Option.some.inj (A9.1.symm.trans A11.1)
          have H' := mk H
          clear H
          go_wp2_with (first | ((with_reducible refine gate_callee (f := 67) rfl ?_); refine goesL_ (some 49) rfl rfl Tryd.func67 (by kernel_rfl) rfl #[.int .i64 x6_3, .int .i64 x8_4] rfl (by (try simp only [List.map_toArray, List.map_cons, List.map_nil]); first | done | rfl | (simp only [List.length_drop, List.length_take]; rfl)) ?_; (with_reducible refine (clepsydraref17_Days.calls k4 x6_3 x8_4 t294 _ A9.1).mono ?_); rintro e w' ⟨rfl, ⟨nd, rfl⟩⟩; refine ⟨_, rfl, ?_⟩) | ((with_reducible refine gate_callee (f := 67) rfl ?_); refine goesL_ (some 54) rfl rfl Tryd.func67 (by kernel_rfl) rfl #[.int .i64 x6_3, .int .i64 x8_4] rfl (by (try simp only [List.map_toArray, List.map_cons, List.map_nil]); first | done | rfl | (simp only [List.length_drop, List.length_take]; rfl)) ?_; (with_reducible refine (clepsydraref17_Days.calls k4 x6_3 x8_4 t294 _ A11.1).mono ?_); rintro e w' ⟨rfl, ⟨nd, rfl⟩⟩; refine ⟨_, rfl, ?_⟩))
          go_roundg k4
          case measure => have := HJ1.1; have := HK2.1; have := HK3.1; have := HK4.1; omega
          case rel => exact ⟨(wrap64 (x0_4 - t294)), (wrap64 (x8_4 + 1)), zs, zs, H', ⟨by have := HJ1.1; have := HK2.1; have := HK3.1; have := HK4.1; omega⟩, by repeat (first | exact Drawn0.refl _ | apply Drawn0.step)⟩
         rw [if_neg c10] at H
         have c10b0 : decide (t294 ≤ x0_4) = false := decide_eq_false c10
         clear c10
         simp only [Option.some.injEq, Prod.mk.injEq] at H
         obtain ⟨rfl, rfl, rfl, rfl⟩ := H
         go_wp2_with (first | ((with_reducible refine gate_callee (f := 67) rfl ?_); refine goesL_ (some 49) rfl rfl Tryd.func67 (by kernel_rfl) rfl #[.int .i64 x6_3, .int .i64 x8_4] rfl (by (try simp only [List.map_toArray, List.map_cons, List.map_nil]); first | done | rfl | (simp only [List.length_drop, List.length_take]; rfl)) ?_; (with_reducible refine (clepsydraref17_Days.calls k4 x6_3 x8_4 t294 _ A9.1).mono ?_); rintro e w' ⟨rfl, ⟨nd, rfl⟩⟩; refine ⟨_, rfl, ?_⟩))
         refine bodyPost_ret (results_list (rs := [.tmp 2, .tmp 3, .tmp 4, .tmp 5]) rfl (by simp) (.tmp (.tmp (.tmp (.tmp .nil))))) rfl ?_
         exact ⟨by first | rfl | (simp; done) | (simp [*]; done) | (simp [Int.tdiv_eq_ediv_of_nonneg]; done) | (simp [Go.RowKit.wrap64]; done) | (simp [*, Go.RowKit.wrap64]; done), by repeat (first | exact Drawn0.refl _ | apply Drawn0.step)⟩

end Go.Proofs.YtigkjbaclpklpaaDoor.Q
