/- The call of HlcAhead answers true where the plain function beside it does: a proof by hand (generated in parts by my own program), step by step through the Go code; under the conditions that stand in the theorem. -/
import Derived.Test.YtigpigfoahlfjaaQx0
import Derived.Test.YtigpigfoahlfjaaQx1
import Derived.Test.YtigpigfoahlfjaaQx2
import Derived.Test.YtigpigfoahlfjaaQx3
import Derived.Test.YtigpigfoahlfjaaQx4
import Derived.Test.YtigpigfoahlfjaaQx5
import Derived.Test.YtigpigfoahlfjaaQx6
set_option linter.unusedVariables false
set_option linter.unusedSimpArgs false
namespace Go.Proofs.Ytigpigfoahlfjaa.Q
open Go.RowKit Go.Proofs.YtigpigfoahlfjaaW.PrintWords Go.Proofs.YtigpigfoahlfjaaW.PrintLast Go.Proofs.YtigpigfoahlfjaaW.PrintMore
structure S51 where
  (f0 f1 f2 : Int)
def z51 : S51 := ⟨(0 : Int), (0 : Int), (0 : Int)⟩
def k51 : Kd S51 := Kd.iso (Kd.pair (Kd.int .i64) (Kd.pair (Kd.int .i64) (Kd.int .i64))) (fun x : S51 => (x.f0, x.f1, x.f2))
theorem k51_open {w : World} {x : S51} {cs : List Value} (h : k51.K w x cs) : cs = [.int .i64 x.f0, .int .i64 x.f1, .int .i64 x.f2] := by
  obtain ⟨_, _, rfl, rfl, _, _, rfl, rfl, rfl⟩ := h
  rfl
theorem k51_mk (w : World) (x : S51) : k51.K w x [.int .i64 x.f0, .int .i64 x.f1, .int .i64 x.f2] := ⟨[.int .i64 x.f0], [.int .i64 x.f1, .int .i64 x.f2], rfl, rfl, [.int .i64 x.f1], [.int .i64 x.f2], rfl, rfl, rfl⟩
def rd_T51 (xs : List S51) (i : Int) : S51 := xs.getD i.toNat z51
theorem at_T51 {w : World} {A : Option Addr} {n : Nat} {xs : List S51} (h : Kd.C k51 w A n xs) (i : Int) (h0 : 0 ≤ i) (h1 : i < n) : ∃ ad , A = some ad ∧ w.cell? (ad.add (i.toNat * 3)) = some (.int .i64 (rd_T51 xs i).f0) ∧ w.cell? ⟨(ad.add (i.toNat * 3)).block, (ad.add (i.toNat * 3)).off + 1, none⟩ = some (.int .i64 (rd_T51 xs i).f1) ∧ w.cell? ⟨(ad.add (i.toNat * 3)).block, (ad.add (i.toNat * 3)).off + 2, none⟩ = some (.int .i64 (rd_T51 xs i).f2) := by
  obtain ⟨ad, c, e, _, hK, hc0⟩ := Kd.C_get h z51 i h0 h1
  have hc : ∀ j u, c[j]? = some u → w.cell? (ad.add (i.toNat * 3 + j)) = some u := hc0
  obtain rfl := k51_open hK
  exact ⟨ad, e, hc 0 _ rfl, by rw [← add_field _ _ 1 (by omega)]; exact hc 1 _ rfl, by rw [← add_field _ _ 2 (by omega)]; exact hc 2 _ rfl⟩
def hla.less (a b c d : Int) : Bool := decide (a < c) || (decide (a = c) && decide (b < d))
abbrev HS := S36
abbrev HE := S51
def hla.at (e : HE) : Nat := (e.f0 % 8).toNat
def hla.heard (i : Nat) (e : HE) : Bool := decide (0 ≤ e.f2) && decide (e.f2 < i)
def hla.sd (l : List HS) (j : Nat) : HS := l.getD j ⟨0, 0⟩
def hla.st (k : Nat) (c : HS) (i : Nat) (ss : List HS) (e : HE) : Option (Int × Int) :=
  if hla.heard i e = true then (hlc_Clock_Hear.f k c.f0 c.f1 e.f1 (hla.sd ss e.f2.toNat).f0 (hla.sd ss e.f2.toNat).f1 1152921504606846976).bind fun t => some (t.1, t.2.1) else hlc_Clock_Tick.f k c.f0 c.f1 e.f1
def hla.ahead (i : Nat) (la : List Int) (e : HE) : List Int := (if 0 ≤ la.getD (hla.at e) 0 then [la.getD (hla.at e) 0] else []) ++ (if hla.heard i e = true then [e.f2] else [])
def hla.go (k : Nat) : List HE → Nat → List HS → List HS → List Int → Option Bool
  | [], _, _, _, _ => some true
  | e :: es, i, cs, ss, la => if 1152921504606846976 < e.f1 ∨ e.f1 < -1152921504606846976 then some true else
    (hla.st k (hla.sd cs (hla.at e)) i ss e).bind fun n => if ((hla.ahead i la e).all fun j => hla.less (hla.sd ss j.toNat).f0 (hla.sd ss j.toNat).f1 n.1 n.2) = true then hla.go k es (i + 1) (cs.set (hla.at e) ⟨n.1, n.2⟩) (ss ++ [⟨n.1, n.2⟩]) (la.set (hla.at e) i) else some false
/-- The cells of an array of stamps; of an array of whole numbers. -/
def hla.row (s : List HS) : Array Value := (s.flatMap fun x => [Value.int .i64 x.f0, Value.int .i64 x.f1]).toArray
def hla.irow (l : List Int) : Array Value := (l.map (Value.int .i64)).toArray
theorem hla.row_take (s : List HS) : hla.row s = (s.flatMap fun x => [Value.int .i64 x.f0, Value.int .i64 x.f1]).toArray := rfl
theorem hla.flat_set0 (s : List HS) : ∀ (j : Nat) (v : Int), j < s.length → (s.flatMap fun x => [Value.int .i64 x.f0, Value.int .i64 x.f1]).set (j * 2) (.int .i64 v) = ((s.set j ⟨v, (hla.sd s j).f1⟩).flatMap fun x => [Value.int .i64 x.f0, Value.int .i64 x.f1]) := by
  induction s with
  | nil => intro j v h; simp at h
  | cons x xs ih =>
    intro j v hj
    cases j with
    | zero => rfl
    | succ j =>
      have := ih j v (by simpa using hj)
      rw [show (j + 1) * 2 = j * 2 + 1 + 1 from by omega]
      simp only [List.flatMap_cons, List.cons_append, List.nil_append, List.set_cons_succ, this]
      rfl
theorem hla.flat_set1 (s : List HS) : ∀ (j : Nat) (v : Int), j < s.length → (s.flatMap fun x => [Value.int .i64 x.f0, Value.int .i64 x.f1]).set (j * 2 + 1) (.int .i64 v) = ((s.set j ⟨(hla.sd s j).f0, v⟩).flatMap fun x => [Value.int .i64 x.f0, Value.int .i64 x.f1]) := by
  induction s with
  | nil => intro j v h; simp at h
  | cons x xs ih =>
    intro j v hj
    cases j with
    | zero => rfl
    | succ j =>
      have := ih j v (by simpa using hj)
      rw [show (j + 1) * 2 + 1 = j * 2 + 1 + 1 + 1 from by omega]
      simp only [List.flatMap_cons, List.cons_append, List.nil_append, List.set_cons_succ, this]
      rfl
theorem hla.flat_get (s : List HS) : ∀ j, j < s.length → (s.flatMap fun x => [Value.int .i64 x.f0, Value.int .i64 x.f1])[j * 2]? = some (.int .i64 (hla.sd s j).f0) ∧ (s.flatMap fun x => [Value.int .i64 x.f0, Value.int .i64 x.f1])[j * 2 + 1]? = some (.int .i64 (hla.sd s j).f1) := by
  induction s with
  | nil => intro j h; simp at h
  | cons x xs ih =>
    intro j hj
    cases j with
    | zero => exact ⟨rfl, rfl⟩
    | succ j =>
      have := ih j (by simpa using hj)
      rw [show (j + 1) * 2 = j * 2 + 1 + 1 from by omega]
      exact this
theorem hla.cell0 {w : World} {g : Nat} {t : TypeId} {s : List HS} (h : w.heap[g]? = some (.cells (hla.row s) t (0, 0))) (j : Nat) (hj : j < s.length) : w.cell? ⟨g, j * 2, none⟩ = some (.int .i64 (hla.sd s j).f0) := by
  rw [blk_cell h (j * 2), hla.row_take, List.getElem?_toArray]; exact (hla.flat_get s j hj).1
theorem hla.cell1 {w : World} {g : Nat} {t : TypeId} {s : List HS} (h : w.heap[g]? = some (.cells (hla.row s) t (0, 0))) (j : Nat) (hj : j < s.length) : w.cell? ⟨g, j * 2 + 1, none⟩ = some (.int .i64 (hla.sd s j).f1) := by
  rw [blk_cell h (j * 2 + 1), hla.row_take, List.getElem?_toArray]; exact (hla.flat_get s j hj).2
theorem hla.set0 {w : World} {g : Nat} {t : TypeId} {s : List HS} (h : w.heap[g]? = some (.cells (hla.row s) t (0, 0))) (j : Nat) (hj : j < s.length) (v : Int) : (w.setCell ⟨g, j * 2, none⟩ (.int .i64 v)).heap[g]? = some (.cells (hla.row (s.set j ⟨v, (hla.sd s j).f1⟩)) t (0, 0)) := by
  refine blk_put h (j * 2) _ ?_
  rw [hla.row_take, hla.row_take, ← hla.flat_set0 s j v hj]; simp
theorem hla.set1 {w : World} {g : Nat} {t : TypeId} {s : List HS} (h : w.heap[g]? = some (.cells (hla.row s) t (0, 0))) (j : Nat) (hj : j < s.length) (v : Int) : (w.setCell ⟨g, j * 2 + 1, none⟩ (.int .i64 v)).heap[g]? = some (.cells (hla.row (s.set j ⟨(hla.sd s j).f0, v⟩)) t (0, 0)) := by
  refine blk_put h (j * 2 + 1) _ ?_
  rw [hla.row_take, hla.row_take, ← hla.flat_set1 s j v hj]; simp
theorem hla.icell {w : World} {g : Nat} {t : TypeId} {s : List Int} (h : w.heap[g]? = some (.cells (hla.irow s) t (0, 0))) (j : Nat) (hj : j < s.length) : w.cell? ⟨g, j, none⟩ = some (.int .i64 (s.getD j 0)) := by
  rw [blk_cell h j]
  simp [hla.irow, List.getElem?_map, List.getElem?_eq_getElem hj, List.getD_eq_getElem?_getD]
theorem hla.iset {w : World} {g : Nat} {t : TypeId} {s : List Int} (h : w.heap[g]? = some (.cells (hla.irow s) t (0, 0))) (j : Nat) (x : Int) : (w.setCell ⟨g, j, none⟩ (.int .i64 x)).heap[g]? = some (.cells (hla.irow (s.set j x)) t (0, 0)) := by
  refine blk_put h j _ ?_
  simp [hla.irow, List.map_set]
theorem hla.at_eq (x : Int) : wrap64 ((IntKind.u64.wrap x).tmod 8) = (((x % 8).toNat : Nat) : Int) := by
  have h : IntKind.u64.wrap x = x % 18446744073709551616 := by
    first | rfl | (simp [IntKind.wrap]; done) | (unfold IntKind.wrap; simp; done)
  rw [h, Int.tmod_eq_emod_of_nonneg (by omega)]
  unfold wrap64
  omega
def clepsydralaw20_HlcAhead.f (k : Nat) (l0 : List S51) (a1 : Int) : Option Bool := (clepsydralaw20_alive.f k).bind fun t => if t = true then (if 40 < (l0.length : Int) ∨ 1152921504606846976 < a1 ∨ a1 < -1152921504606846976 then some true else hla.go k l0 0 (List.replicate 8 ⟨a1, 0⟩) [] (List.replicate 8 (-1))) else some false
theorem hla.set_same {ar : List Value} {i : Nat} {v : Value} (h : ar[i]? = some v) : ar.set i v = ar := by
  apply List.ext_getElem?
  intro j
  rw [List.getElem?_set]
  by_cases q : i = j
  · subst q
    rw [if_pos rfl, if_pos (List.getElem?_eq_some_iff.1 h).1, h]
  · rw [if_neg q]
theorem hla.flat {α : Type} {d : Kd α} {e base n c : Nat} {w : World} {ok : Nat → Prop} {A : Option Addr} {xs : List α} (h : d.R e w base ok (.slice A n c) xs) (h0 : 0 < n) : ∃ g, A = some ⟨g, 0, none⟩ := by
  have hn := (Kd.R_reads' h).1
  obtain ⟨_, inner, hown, _⟩ := h
  rcases hown.2 with ⟨hv, _⟩ | ⟨g, cap, cur, hv, _⟩
  · injection hv with _ q _
    omega
  · injection hv with ha
    exact ⟨g, ha⟩
theorem hla.elem {w : World} {base g n c : Nat} {ok : Nat → Prop} {xs : List HS} (h : Kd.R k36 36 w base ok (.slice (some ⟨g, 0, none⟩) n c) xs) (j : Nat) (hj : j < n) : w.cell? ⟨g, j * 2, none⟩ = some (.int .i64 (hla.sd xs j).f0) ∧ w.cell? ⟨g, j * 2 + 1, none⟩ = some (.int .i64 (hla.sd xs j).f1) := by
  obtain ⟨cs, hl, hM, hc, hf⟩ := Kd.R_elem h z36 (j : Int) (by omega) (by omega)
  obtain rfl := k36_openM hM
  exact ⟨hc 0 _ rfl, hc 1 _ rfl⟩
theorem hla.elemf {w : World} {base g n c : Nat} {ok : Nat → Prop} {xs : List HS} (h : Kd.R k36 36 w base ok (.slice (some ⟨g, 0, none⟩) n c) xs) (j : Nat) (hj : j < n) : w.frozen? ⟨g, j * 2, none⟩ = false ∧ w.frozen? ⟨g, j * 2 + 1, none⟩ = false := by
  obtain ⟨cs, hl, hM, hc, hf⟩ := Kd.R_elem h z36 (j : Int) (by omega) (by omega)
  exact ⟨hf 0, hf 1⟩
theorem hla.set01 {w : World} {g : Nat} {t : TypeId} {s : List HS} (h : w.heap[g]? = some (.cells (hla.row s) t (0, 0))) (j : Nat) (hj : j < s.length) (x y : Int) : ((w.setCell ⟨g, j * 2, none⟩ (.int .i64 x)).setCell ⟨g, j * 2 + 1, none⟩ (.int .i64 y)).heap[g]? = some (.cells (hla.row (s.set j ⟨x, y⟩)) t (0, 0)) := by
  have h1 := hla.set1 (hla.set0 h j hj x) j (by simpa using hj) y
  rw [List.set_set] at h1
  have e : (hla.sd (s.set j ⟨x, (hla.sd s j).f1⟩) j).f0 = x := by
    unfold hla.sd
    rw [List.getD_eq_getElem?_getD, List.getElem?_set, if_pos rfl, if_pos hj]; rfl
  rw [e] at h1
  exact h1
theorem hla.away {α : Type} {d : Kd α} {e base : Nat} {w : World} {ok : Nat → Prop} {v : Value} {xs : List α} (h : d.R e w base ok v xs) {g t : Nat} {cells : Array Value} (hb : w.heap[g]? = some (.cells cells t (0, 0))) (ht : e ≠ t) : ∀ k, some k = v.ownBlock → k ≠ g := fun k hk q => Kd.R_ne h hb ht (q ▸ hk)
theorem hla.sd_set (s : List HS) (j : Nat) (hj : j < s.length) (x : HS) : hla.sd (s.set j x) j = x := by
  unfold hla.sd
  rw [List.getD_eq_getElem?_getD, List.getElem?_set, if_pos rfl, if_pos hj]; rfl
theorem hla.store {w : World} {base g n c : Nat} {ok : Nat → Prop} {xs : List HS} (h : Kd.R k36 36 w base ok (.slice (some ⟨g, 0, none⟩) n c) xs) (j : Nat) (hj : j < n) (x y : Int) : Kd.R k36 36 ((w.setCell ⟨g, j * 2, none⟩ (.int .i64 x)).setCell ⟨g, j * 2 + 1, none⟩ (.int .i64 y)) base ok (.slice (some ⟨g, 0, none⟩) n c) (xs.set j ⟨x, y⟩) := by
  obtain ⟨cs, hl, hM, hc, hf⟩ := Kd.R_elem h z36 (j : Int) (by omega) (by omega)
  have h2 := (Kd.R_seg h (j : Int) (by omega) (by omega) (seg := [.int .i64 x, .int .i64 y]) (j := 0) hl hc (by show 0 + 2 ≤ 2; decide) (x' := ⟨x, y⟩) (okp := fun _ => False) (by
    obtain rfl := k36_openM hM
    exact k36_mkM _ _ _ ⟨x, y⟩) (fun _ hk => hk.elim)).1
  exact h2
theorem hla.iat {w : World} {A : Option Addr} {n : Nat} {l : List Int} (h : (Kd.int .i64).C w A n l) (j : Nat) (hj : j < n) : ∃ ad, A = some ad ∧ w.cell? (ad.add j) = some (.int .i64 (l.getD j 0)) := by
  obtain ⟨ad, c, e, _, hK, hc⟩ := Kd.C_get h 0 (j : Int) (by omega) (by omega)
  obtain rfl : c = [.int .i64 (l.getD j 0)] := hK
  refine ⟨ad, e, ?_⟩
  have := hc 0 _ rfl
  simpa [show (Kd.int IntKind.i64).sz = 1 from rfl] using this
theorem hla.less_eq (a b c d : Int) : hlc_Less.f a b c d = some (hla.less a b c d) := by
  unfold hlc_Less.f hla.less
  by_cases h : a < c
  · rw [if_pos h, decide_eq_true h]; rfl
  · rw [if_neg h, decide_eq_false h]
    by_cases h2 : a = c
    · rw [if_pos h2, decide_eq_true h2]; simp
    · rw [if_neg h2, decide_eq_false h2]; rfl
theorem hla.ielem {w : World} {base g n c : Nat} {ok : Nat → Prop} {xs : List Int} (h : Kd.R (Kd.int .i64) 3 w base ok (.slice (some ⟨g, 0, none⟩) n c) xs) (j : Nat) (hj : j < n) : w.cell? ⟨g, j, none⟩ = some (.int .i64 (xs.getD j 0)) := by
  obtain ⟨cs, hl, hM, hc, hf⟩ := Kd.R_elem h 0 (j : Int) (by omega) (by omega)
  obtain rfl : cs = [.int .i64 (xs.getD j 0)] := hM
  have := hc 0 _ rfl
  simpa [show (Kd.int IntKind.i64).sz = 1 from rfl] using this
theorem hla.sd_app (ss : List HS) (n : HS) (j : Nat) (hj : j < ss.length) : hla.sd (ss ++ [n]) j = hla.sd ss j := by
  unfold hla.sd
  simp only [List.getD_eq_getElem?_getD]
  rw [List.getElem?_append_left hj]
theorem hla.sd_last (ss : List HS) (n : HS) (j : Nat) (hj : j = ss.length) : hla.sd (ss ++ [n]) j = n := by
  subst hj
  unfold hla.sd
  simp only [List.getD_eq_getElem?_getD]
  rw [List.getElem?_append_right (Nat.le_refl _), Nat.sub_self]; rfl
set_option maxHeartbeats 8000000 in
set_option maxRecDepth 100000 in
theorem clepsydralaw20_HlcAhead.calls (k : Nat) (A0 : Option Addr) (c0 : Nat) (l0 : List (S51)) (a1 : Int) (r : Bool) (w : World) (hr0 : Kd.C k51 w A0 l0.length l0) (hc0 : l0.length ≤ c0) (hT : Aside0 (r = true)) (h : clepsydralaw20_HlcAhead.f k l0 a1 = some r) :
    Calls Try.prog 9 #[.slice A0 l0.length c0, .int .i64 a1] w fun e w' => e = .returned (.bool r) ∧ Below w.heap.size w w' := by
  have HR0 := Aside0.mk hr0
  have HC0 := Aside0.mk hc0
  clear hr0 hc0
  have HB := Aside0.mk (Below.refl w.heap.size w)
  have H := h
  clear h
  unfold clepsydralaw20_HlcAhead.f at H
  obtain ⟨t, A30, H⟩ := Option.bind_eq_some_iff.mp H
  have A3 := Aside0.mk A30
  clear A30
  by_cases c4 : t = true
  · subst c4
    rw [if_pos rfl] at H
    by_cases c5 : 40 < (l0.length : Int) ∨ 1152921504606846976 < a1 ∨ a1 < -1152921504606846976
    · rw [if_pos c5] at H
      obtain rfl := Option.some.inj H
      clear H
      by_cases q1 : 40 < (l0.length : Int)
      · have c5a : decide (40 < (l0.length : Int)) = true := decide_eq_true q1
        have c5b : decide (40 < l0.length) = true := decide_eq_true (by omega)
        clear c5 q1
        go_enter Try.func9, Try.ntmps9
        go_wp2_with ((go_at_call 25; (with_reducible refine (clepsydralaw20_alive.calls k true _ A3.out).mono ?_); rintro e w1 ⟨rfl, hb⟩; have n0_ := Aside0.mk (below_step HB.out hb); clear HB hb; have HB := n0_; clear n0_))
        go_ret
        exact ⟨rfl, HB.out⟩
      · have c5a : decide (40 < (l0.length : Int)) = false := decide_eq_false q1
        have c5b : decide (40 < l0.length) = false := decide_eq_false (by omega)
        by_cases q2 : 1152921504606846976 < a1
        · have c5c : decide (1152921504606846976 < a1) = true := decide_eq_true q2
          clear c5 q1 q2
          go_enter Try.func9, Try.ntmps9
          go_wp2_with ((go_at_call 25; (with_reducible refine (clepsydralaw20_alive.calls k true _ A3.out).mono ?_); rintro e w1 ⟨rfl, hb⟩; have n0_ := Aside0.mk (below_step HB.out hb); clear HB hb; have HB := n0_; clear n0_))
          go_ret
          exact ⟨rfl, HB.out⟩
        · have c5c : decide (1152921504606846976 < a1) = false := decide_eq_false q2
          have c5d : decide (a1 < -1152921504606846976) = true := decide_eq_true (by omega)
          clear c5 q1 q2
          go_enter Try.func9, Try.ntmps9
          go_wp2_with ((go_at_call 25; (with_reducible refine (clepsydralaw20_alive.calls k true _ A3.out).mono ?_); rintro e w1 ⟨rfl, hb⟩; have n0_ := Aside0.mk (below_step HB.out hb); clear HB hb; have HB := n0_; clear n0_))
          go_ret
          exact ⟨rfl, HB.out⟩
    · rw [if_neg c5] at H
      have c5a : decide (40 < (l0.length : Int)) = false := decide_eq_false (by omega)
      have c5b : decide (40 < l0.length) = false := decide_eq_false (by omega)
      have c5c : decide (1152921504606846976 < a1) = false := decide_eq_false (by omega)
      have c5d : decide (a1 < -1152921504606846976) = false := decide_eq_false (by omega)
      have NH := Aside0.mk H
      have NL := Aside0.mk c5
      clear H c5
      go_enter Try.func9, Try.ntmps9
      go_wp2_with (first | (go_at_call 25; (with_reducible refine (clepsydralaw20_alive.calls k true _ A3.out).mono ?_); rintro e w1 ⟨rfl, hb⟩; have n0_ := Aside0.mk (below_step HB.out hb); clear HB hb; have HB := n0_; clear n0_) | ((with_reducible refine gate_dst (N := 5) rfl ?_); refine box_event ?hg (N := 5) ?hd (cs := hla.row (List.replicate 8 (⟨0, 0⟩ : S36))) (t := 45) ?hr ?_; (case hd => rfl); (case hg => rfl); (case hr => first | (go_simp; done) | (go_simp; rfl)); intro gb5 hg w2 hbox hb; have n0_ := Aside0.mk (below_step HB.out hb); have n1_ := Aside0.mk (hbox); have n2_ := Aside0.mk ((by rw [hg]; exact (below_size HB.out)) : w.heap.size ≤ gb5); clear HB hb hbox hg; have HB := n0_; have BK5 := n1_; have GE5 := n2_; clear n0_ n1_ n2_))
      go_loopg [30] 8 (fun kq v30 w' => ∃ n : Nat, v30 = .int .i64 (n : Int) ∧ Aside0 (n + kq = 8) ∧ Aside0 (w'.heap[gb5]? = some (.cells (hla.row (List.replicate n (⟨a1, 0⟩ : S36) ++ List.replicate (8 - n) (⟨0, 0⟩ : S36))) 45 (0, 0))) ∧ Aside0 (Below w.heap.size w w'))
      case atStart => exact ⟨0, rfl, ⟨rfl⟩, ⟨BK5.out⟩, ⟨HB.out⟩⟩
      case round =>
        clear BK5 HB
        obtain ⟨n, rfl, HN, BK5, HB⟩ := hrel
        by_cases hlt : (n : Int) < 8
        · have hn7 : (n : Int) ≤ 7 := by omega
          have hlen : (List.replicate n (⟨a1, 0⟩ : S36) ++ List.replicate (8 - n) (⟨0, 0⟩ : S36)).length = 8 := by simp; omega
          have hx1 := hla.cell0 BK5.out n (by omega)
          have hf1 := blk_frozen BK5.out (n * 2)
          have hs : hla.sd (List.replicate n (⟨a1, 0⟩ : S36) ++ List.replicate (8 - n) (⟨0, 0⟩ : S36)) n = (⟨0, 0⟩ : S36) := by
            unfold hla.sd
            rw [List.getD_eq_getElem?_getD, List.getElem?_append_right (by simp), List.length_replicate, Nat.sub_self, List.getElem?_replicate, if_pos (by omega)]; rfl
          rw [hs] at hx1
          have n0_ := Aside0.mk (hla.set0 BK5.out n (by omega) a1)
          rw [hs] at n0_
          have NN := Aside0.mk (show (List.replicate n (⟨a1, 0⟩ : S36) ++ List.replicate (8 - n) (⟨0, 0⟩ : S36)).set n ⟨a1, 0⟩ = List.replicate (n + 1) ⟨a1, 0⟩ ++ List.replicate (8 - (n + 1)) ⟨0, 0⟩ from by
            rw [List.set_append_right _ _ (by simp), List.length_replicate, Nat.sub_self, show 8 - n = 8 - (n + 1) + 1 from by omega, List.replicate_succ, List.set_cons_zero, List.replicate_succ', List.append_assoc]; rfl)
          clear hlen hs
          go_wp2
          go_roundg (gk - 1)
          case measure => have := HN.out; omega
          case rel =>
            refine ⟨n + 1, by go_num, ⟨by have := HN.out; omega⟩, ⟨?_⟩, ⟨below_set HB.out GE5.out⟩⟩
            have n1_ := n0_.out
            rw [NN.out] at n1_
            exact n1_
        · have hn : n = 8 := by have := HN.out; omega
          subst hn
          clear hlt
          have n0_ : Aside0 (wr.heap[gb5]? = some (.cells (hla.row (List.replicate 8 (⟨a1, 0⟩ : S36))) 45 (0, 0))) := ⟨BK5.out⟩
          clear BK5
          have BK5 := n0_
          clear n0_
          have NL40 := Aside0.mk (show l0.length ≤ 40 from by have := NL.out; omega)
          go_upto_region 14 with (first | ((with_reducible refine gate_dst (N := 41) rfl ?_); refine Kd.R_make k36 _ 36 rfl (N := 41) rfl 46 _ _ rfl (l0.length : Int) rfl rfl Try.underlying46 (.agg #[.int .i64 0, .int .i64 0]) 16 info36 rfl (by decide) (by omega) z36 (ok := fun _ => True) (okp := fun _ => True) (k36_mkM _ _ _ z36) (fun _ h => h) trivial (by omega) (by have := NL40.out; omega) HB.out (below_size HB.out) ?_; intro v41 w3 ho hb hg hat; have n0_ := Aside0.mk (blk_grown BK5.out hg (by simp)); have n1_ := Aside0.mk hb; have n2_ := Aside0.mk ho; have n3_ := Aside0.mk hat; clear BK5 HB ho hb hg hat; have BK5 := n0_; have HB := n1_; have HO41 := n2_; have HT41 := n3_; clear n0_ n1_ n2_ n3_) | ((with_reducible refine gate_dst (N := 8) rfl ?_); refine box_event ?hg (N := 8) ?hd (cs := (List.replicate 40 (Value.slice none 0 0)).toArray) (t := 48) ?hr ?_; (case hd => rfl); (case hg => rfl); (case hr => first | (go_simp; done) | (go_simp; rfl)); intro gb8 hg w4 hbox hb; have n0_ := Aside0.mk (blk_below BK5.out hb); have n1_ := Aside0.mk (Kd.R_below HO41.out hb); have n2_ := Aside0.mk hbox; have n3_ := Aside0.mk ((by rw [hg]; exact (below_size HB.out)) : w.heap.size ≤ gb8); have n4_ := nl hg BK5.out; have n5_ := ng hg BK5.out; have n6_ := Aside0.mk (below_step HB.out hb); have n7_ := Aside0.mk (show ∀ b, v41.ownBlock = some b → b ≠ gb8 from fun b hb_ => by rw [hg]; exact Nat.ne_of_lt (Kd.R_lt HO41.out b hb_)); clear BK5 HO41 HB hb hbox hg; have BK5 := n0_; have HO41 := n1_; have BK8 := n2_; have GE8 := n3_; have N58 := n4_; have N85 := n5_; have HB := n6_; have NO8 := n7_; clear n0_ n1_ n2_ n3_ n4_ n5_ n6_ n7_) | ((with_reducible refine gate_dst (N := 9) rfl ?_); refine box_event ?hg (N := 9) ?hd (cs := hla.irow (List.replicate 8 0)) (t := 49) ?hr ?_; (case hd => rfl); (case hg => rfl); (case hr => first | (go_simp; done) | (go_simp; rfl)); intro gb9 hg w5 hbox hb; have n0_ := Aside0.mk (blk_below BK5.out hb); have n1_ := Aside0.mk (Kd.R_below HO41.out hb); have n2_ := Aside0.mk (blk_below BK8.out hb); have n3_ := Aside0.mk hbox; have n4_ := Aside0.mk ((by rw [hg]; exact (below_size HB.out)) : w.heap.size ≤ gb9); have n5_ := nl hg BK5.out; have n6_ := ng hg BK5.out; have n7_ := nl hg BK8.out; have n8_ := ng hg BK8.out; have n9_ := Aside0.mk (below_step HB.out hb); have na_ := Aside0.mk (show ∀ b, v41.ownBlock = some b → b ≠ gb9 from fun b hb_ => by rw [hg]; exact Nat.ne_of_lt (Kd.R_lt HO41.out b hb_)); clear BK5 HO41 BK8 HB hb hbox hg; have BK5 := n0_; have HO41 := n1_; have BK8 := n2_; have BK9 := n3_; have GE9 := n4_; have N59 := n5_; have N95 := n6_; have N89 := n7_; have N98 := n8_; have HB := n9_; have NO9 := na_; clear n0_ n1_ n2_ n3_ n4_ n5_ n6_ n7_ n8_ n9_ na_))
          go_wp2
          go_loopg [42] 8 (fun kq v42 w' => ∃ n : Nat, v42 = .int .i64 (n : Int) ∧ Aside0 (n + kq = 8) ∧ Aside0 (w'.heap[gb9]? = some (.cells (hla.irow (List.replicate n (-1) ++ List.replicate (8 - n) 0)) 49 (0, 0))) ∧ Aside0 (w'.heap[gb5]? = some (.cells (hla.row (List.replicate 8 (⟨a1, 0⟩ : S36))) 45 (0, 0))) ∧ Aside0 (w'.heap[gb8]? = some (.cells (List.replicate 40 (Value.slice none 0 0)).toArray 48 (0, 0))) ∧ Aside0 (Kd.R k36 36 w' w.heap.size (fun _ => True) v41 (List.replicate l0.length z36)) ∧ Aside0 (Below w.heap.size w w'))
          case atStart => exact ⟨0, rfl, ⟨rfl⟩, ⟨BK9.out⟩, ⟨BK5.out⟩, ⟨BK8.out⟩, ⟨HO41.out⟩, ⟨HB.out⟩⟩
          case round =>
            clear BK5 BK8 BK9 HO41 HB
            obtain ⟨n, rfl, HN, BK9, BK5, BK8, HO41, HB⟩ := hrel
            by_cases hlt : (n : Int) < 8
            · have hn7 : (n : Int) ≤ 7 := by omega
              have hx1 := hla.icell BK9.out n (by simp; omega)
              have hf1 := blk_frozen BK9.out n
              have n0_ := Aside0.mk (hla.iset BK9.out n (-1))
              have NN := Aside0.mk (show (List.replicate n (-1 : Int) ++ List.replicate (8 - n) 0).set n (-1) = List.replicate (n + 1) (-1) ++ List.replicate (8 - (n + 1)) 0 from by
                rw [List.set_append_right _ _ (by simp), List.length_replicate, Nat.sub_self, show 8 - n = 8 - (n + 1) + 1 from by omega, List.replicate_succ, List.set_cons_zero, List.replicate_succ', List.append_assoc]; rfl)
              go_wp2
              go_roundg (gk - 1)
              case measure => have := HN.out; omega
              case rel =>
                refine ⟨n + 1, by go_num, ⟨by have := HN.out; omega⟩, ⟨?_⟩, ⟨blk_far BK5.out N59.out _⟩, ⟨blk_far BK8.out N89.out _⟩, ⟨?_⟩, ⟨below_set HB.out GE9.out⟩⟩
                · have n1_ := n0_.out
                  rw [NN.out] at n1_
                  exact n1_
                · exact Kd.R_mono (Kd.R_far (Kd.R_mono (Kd.R_tight rfl HO41.out) (fun k_ hk => (NO9.out k_ hk.symm))) (fun k_ hk => hk) _) (fun _ _ => trivial)
            · have hn : n = 8 := by have := HN.out; omega
              subst hn
              clear hlt
              have n0_ : Aside0 (wr.heap[gb9]? = some (.cells (hla.irow (List.replicate 8 (-1))) 49 (0, 0))) := ⟨BK9.out⟩
              clear BK9
              have BK9 := n0_
              clear n0_
              go_upto_region 21 with (fail)
              go_loopg [11, 50] l0.length (fun kq v11 v50 w' => ∃ (i : Nat) (cs ss : List S36) (la : List Int) (sd : List S36) (ar : List Value), v50 = .int .i64 (i : Int) ∧ Aside0 (i + kq = l0.length) ∧ Aside0 (hla.go k (l0.drop i) i cs ss la = some r) ∧ Aside0 (cs.length = 8 ∧ ss.length = i ∧ la.length = 8 ∧ sd.length = l0.length ∧ ar.length = 40) ∧ Aside0 (∀ a, a < 8 → la.getD a 0 < i) ∧ Aside0 (∀ j, j < i → hla.sd sd j = hla.sd ss j) ∧ Aside0 (∀ j, i ≤ j → j < 40 → ar[j]? = some (.slice none 0 0)) ∧ Aside0 (w'.heap[gb5]? = some (.cells (hla.row cs) 45 (0, 0))) ∧ Aside0 (w'.heap[gb8]? = some (.cells ar.toArray 48 (0, 0))) ∧ Aside0 (w'.heap[gb9]? = some (.cells (hla.irow la) 49 (0, 0))) ∧ Aside0 (Kd.R k36 36 w' w.heap.size (fun _ => True) v41 sd) ∧ Aside0 (Kd.R k36 36 w' w.heap.size (fun _ => True) v11 ss) ∧ Aside0 (∀ b, v11.ownBlock = some b → b ≠ gb5 ∧ b ≠ gb8 ∧ b ≠ gb9 ∧ v41.ownBlock ≠ some b) ∧ Aside0 (Below w.heap.size w w'))
              case atStart =>
                refine ⟨0, _, [], _, _, _, rfl, ⟨by omega⟩, ⟨NH.out⟩, ⟨by simp⟩, ⟨fun a ha => ?_⟩, ⟨fun j hj => by omega⟩, ⟨fun j _ hj => ?_⟩, ⟨BK5.out⟩, ⟨BK8.out⟩, ⟨BK9.out⟩, ⟨HO41.out⟩, ⟨?_⟩, ⟨fun b hb => by cases hb⟩, ⟨HB.out⟩⟩
                · rw [List.getD_eq_getElem?_getD, List.getElem?_replicate, if_pos ha]; decide
                · rw [List.getElem?_replicate, if_pos hj]
                · exact Kd.R_nil k36 36 _ _ _
              case round =>
                clear BK5 BK8 BK9 HO41 HB NH
                obtain ⟨i, cs, ss, la, sd, ar, rfl, HI, HG, HL, HLA, HSD, HAR, BK5, BK8, BK9, HO41, HO11, HN11, HB⟩ := hrel
                by_cases hlt : (i : Int) < (l0.length : Int)
                · obtain ⟨ad, had, hx0, hx1, hx2⟩ := at_T51 (Kd.C_below HR0.out HB.out) (i : Int) (by omega) hlt
                  have HE := Aside0.mk (show l0.drop i = rd_T51 l0 (i : Int) :: l0.drop (i + 1) from by
                    have h : i < l0.length := by omega
                    rw [List.drop_eq_getElem_cons h]
                    congr 1
                    simp [rd_T51, List.getD_eq_getElem?_getD, List.getElem?_eq_getElem h])
                  have NA := Aside0.mk had
                  subst had
                  clear NA
                  generalize rd_T51 l0 (i : Int) = e at *
                  obtain ⟨e0, e1, e2⟩ := e
                  simp only [Int.toNat_natCast] at hx0 hx1 hx2
                  have hlen40 : (i : Int) ≤ 39 := by have := NL40.out; omega
                  go_upto_region 23 with ((with_reducible refine gate_dst (N := 13) rfl ?_); refine box_event ?hg (N := 13) ?hd (cs := #[.int .i64 0, .int .i64 0, .int .i64 0]) (t := 51) ?hr ?_; (case hd => rfl); (case hg => rfl); (case hr => first | (go_simp; done) | (go_simp; rfl)); intro gb13 hg w13 hbox hb; have n0_ := Aside0.mk (blk_below BK5.out hb); have n1_ := Aside0.mk (blk_below BK8.out hb); have n2_ := Aside0.mk (blk_below BK9.out hb); have n3_ := Aside0.mk (Kd.R_below HO41.out hb); have n4_ := Aside0.mk (Kd.R_below HO11.out hb); have n5_ := Aside0.mk (below_step HB.out hb); have n6_ := Aside0.mk hbox; have n7_ := Aside0.mk ((by rw [hg]; exact (below_size HB.out)) : w.heap.size ≤ gb13); have M5 := nl hg BK5.out; have M8 := nl hg BK8.out; have M9 := nl hg BK9.out; have M41 := Aside0.mk (show ∀ b, v41.ownBlock = some b → b ≠ gb13 from fun b hb_ => by rw [hg]; exact Nat.ne_of_lt (Kd.R_lt HO41.out b hb_)); have M11 := Aside0.mk (show ∀ b, u11.ownBlock = some b → b ≠ gb13 from fun b hb_ => by rw [hg]; exact Nat.ne_of_lt (Kd.R_lt HO11.out b hb_)); clear BK5 BK8 BK9 HO41 HO11 HB hb hbox hg; have BK5 := n0_; have BK8 := n1_; have BK9 := n2_; have HO41 := n3_; have HO11 := n4_; have HB := n5_; have BK13 := n6_; have GE13 := n7_; clear n0_ n1_ n2_ n3_ n4_ n5_ n6_ n7_; have hcz_0 : w13.cell? ⟨gb13, 0, none⟩ = some (.int .i64 0) := (blk_cell BK13.out 0).trans rfl; have hfz_0 := blk_frozen BK13.out 0; have hcz_1 : w13.cell? ⟨gb13, 1, none⟩ = some (.int .i64 0) := (blk_cell BK13.out 1).trans rfl; have hfz_1 := blk_frozen BK13.out 1; have hcz_2 : w13.cell? ⟨gb13, 2, none⟩ = some (.int .i64 0) := (blk_cell BK13.out 2).trans rfl; have hfz_2 := blk_frozen BK13.out 2)
                  have n0_ : Aside0 ((((w13.setCell ⟨gb13, 0, none⟩ (.int .i64 e0)).setCell ⟨gb13, 1, none⟩ (.int .i64 e1)).setCell ⟨gb13, 2, none⟩ (.int .i64 e2)).heap[gb5]? = some (.cells (hla.row cs) 45 (0, 0))) := ⟨blk_far (blk_far (blk_far BK5.out M5.out _) M5.out _) M5.out _⟩
                  have n1_ : Aside0 ((((w13.setCell ⟨gb13, 0, none⟩ (.int .i64 e0)).setCell ⟨gb13, 1, none⟩ (.int .i64 e1)).setCell ⟨gb13, 2, none⟩ (.int .i64 e2)).heap[gb8]? = some (.cells ar.toArray 48 (0, 0))) := ⟨blk_far (blk_far (blk_far BK8.out M8.out _) M8.out _) M8.out _⟩
                  have n2_ : Aside0 ((((w13.setCell ⟨gb13, 0, none⟩ (.int .i64 e0)).setCell ⟨gb13, 1, none⟩ (.int .i64 e1)).setCell ⟨gb13, 2, none⟩ (.int .i64 e2)).heap[gb9]? = some (.cells (hla.irow la) 49 (0, 0))) := ⟨blk_far (blk_far (blk_far BK9.out M9.out _) M9.out _) M9.out _⟩
                  have n3_ : Aside0 (Kd.R k36 36 (((w13.setCell ⟨gb13, 0, none⟩ (.int .i64 e0)).setCell ⟨gb13, 1, none⟩ (.int .i64 e1)).setCell ⟨gb13, 2, none⟩ (.int .i64 e2)) w.heap.size (fun k_ => some k_ = v41.ownBlock) v41 sd) := ⟨Kd.R_far (Kd.R_far (Kd.R_far (Kd.R_tight rfl HO41.out) (fun k_ hk => M41.out k_ hk.symm) _) (fun k_ hk => M41.out k_ hk.symm) _) (fun k_ hk => M41.out k_ hk.symm) _⟩
                  have n4_ : Aside0 (Kd.R k36 36 (((w13.setCell ⟨gb13, 0, none⟩ (.int .i64 e0)).setCell ⟨gb13, 1, none⟩ (.int .i64 e1)).setCell ⟨gb13, 2, none⟩ (.int .i64 e2)) w.heap.size (fun k_ => some k_ = u11.ownBlock) u11 ss) := ⟨Kd.R_far (Kd.R_far (Kd.R_far (Kd.R_tight rfl HO11.out) (fun k_ hk => M11.out k_ hk.symm) _) (fun k_ hk => M11.out k_ hk.symm) _) (fun k_ hk => M11.out k_ hk.symm) _⟩
                  have n5_ : Aside0 (Below w.heap.size w (((w13.setCell ⟨gb13, 0, none⟩ (.int .i64 e0)).setCell ⟨gb13, 1, none⟩ (.int .i64 e1)).setCell ⟨gb13, 2, none⟩ (.int .i64 e2))) := ⟨below_set (below_set (below_set HB.out GE13.out) GE13.out) GE13.out⟩
                  have n6_ : Aside0 ((((w13.setCell ⟨gb13, 0, none⟩ (.int .i64 e0)).setCell ⟨gb13, 1, none⟩ (.int .i64 e1)).setCell ⟨gb13, 2, none⟩ (.int .i64 e2)).heap[gb13]? = some (.cells #[.int .i64 e0, .int .i64 e1, .int .i64 e2] 51 (0, 0))) := ⟨by refine blk_put (cs := #[.int .i64 e0, .int .i64 e1, .int .i64 0]) ?_ 2 _ rfl; refine blk_put (cs := #[.int .i64 e0, .int .i64 0, .int .i64 0]) ?_ 1 _ rfl; refine blk_put (cs := #[.int .i64 0, .int .i64 0, .int .i64 0]) ?_ 0 _ rfl; exact BK13.out⟩
                  clear hcz_0 hcz_1 hcz_2 hfz_0 hfz_1 hfz_2
                  clear BK5 BK8 BK9 HO41 HO11 HB BK13
                  generalize (((w13.setCell ⟨gb13, 0, none⟩ (.int .i64 e0)).setCell ⟨gb13, 1, none⟩ (.int .i64 e1)).setCell ⟨gb13, 2, none⟩ (.int .i64 e2)) = wz at n0_ n1_ n2_ n3_ n4_ n5_ n6_ ⊢
                  have BK5 := n0_
                  have BK8 := n1_
                  have BK9 := n2_
                  have HO41 := n3_
                  have HO11 := n4_
                  have HB := n5_
                  have BK13 := n6_
                  clear n0_ n1_ n2_ n3_ n4_ n5_ n6_
                  have hcg_0 : wz.cell? ⟨gb13, 0, none⟩ = some (.int .i64 e0) := (blk_cell BK13.out 0).trans rfl
                  have hcg_1 : wz.cell? ⟨gb13, 1, none⟩ = some (.int .i64 e1) := (blk_cell BK13.out 1).trans rfl
                  have hcg_2 : wz.cell? ⟨gb13, 2, none⟩ = some (.int .i64 e2) := (blk_cell BK13.out 2).trans rfl
                  rw [HE.out] at HG
                  have H := HG.out
                  clear HG HE
                  unfold hla.go at H
                  by_cases ca : 1152921504606846976 < e1
                  · rw [if_pos (Or.inl ca)] at H
                    have cab := decide_eq_true ca
                    clear ca
                    obtain rfl := Option.some.inj H
                    go_wp2
                    go_ret
                    exact ⟨rfl, HB.out⟩
                  by_cases cb : e1 < -1152921504606846976
                  · rw [if_pos (Or.inr cb)] at H
                    have cab := decide_eq_false ca
                    have cbb := decide_eq_true cb
                    clear ca cb
                    obtain rfl := Option.some.inj H
                    go_wp2
                    go_ret
                    exact ⟨rfl, HB.out⟩
                  rw [if_neg (fun h => h.elim ca cb)] at H
                  have cab := decide_eq_false ca
                  have cbb := decide_eq_false cb
                  have NE := Aside0.mk (And.intro ca cb)
                  clear ca cb
                  obtain ⟨gk0, egk0⟩ : ∃ x, x = gk := ⟨_, rfl⟩
                  subst egk0
                  have hsd : sd.length = l0.length := HL.out.2.2.2.1
                  obtain ⟨A41, c41, e41⟩ := Kd.R_slice HO41.out
                  rw [hsd] at e41
                  subst e41
                  obtain ⟨g41, eg41⟩ := hla.flat HO41.out (by omega)
                  subst eg41
                  clear hsd
                  have hr : r = true := hT.out
                  subst hr
                  obtain ⟨⟨n0, n1⟩, HST, H⟩ := Option.bind_eq_some_iff.mp H
                  have hall : ((hla.ahead i la ⟨e0, e1, e2⟩).all fun j => hla.less (hla.sd ss j.toNat).f0 (hla.sd ss j.toNat).f1 n0 n1) = true := by
                    by_cases q : ((hla.ahead i la ⟨e0, e1, e2⟩).all fun j => hla.less (hla.sd ss j.toNat).f0 (hla.sd ss j.toNat).f1 n0 n1) = true
                    · exact q
                    · dsimp only at H
                      rw [if_neg q] at H
                      cases H
                  dsimp only at H
                  rw [if_pos hall] at H
                  obtain ⟨a, HA⟩ : ∃ a : Nat, a = (e0 % 8).toNat := ⟨_, rfl⟩
                  have HAT : hla.at ⟨e0, e1, e2⟩ = a := HA.symm
                  rw [HAT] at HST H
                  have ha8 : a < 8 := by omega
                  have NST := Aside0.mk HST
                  have NH := Aside0.mk H
                  have NALL := Aside0.mk hall
                  have NAT := Aside0.mk HA
                  have NHAT := Aside0.mk HAT
                  clear HST H hall HA HAT
                  go_upto_region 26 with (fail)
                  rw [hla.at_eq e0]
                  rw [← NAT.out]
                  have hai : (a : Int) ≤ 7 := by omega
                  have p40 : (0 ≤ (i : Int)) = True := eq_true (by omega)
                  have q40 : ((i : Int) < 40) = True := eq_true (by omega)
                  have p8 : (0 ≤ (a : Int)) = True := eq_true (by omega)
                  have q8 : ((a : Int) < 8) = True := eq_true (by omega)
                  obtain ⟨L1, HL1⟩ : ∃ l, l = (if 0 ≤ la.getD a 0 then [la.getD a 0] else []) := ⟨_, rfl⟩
                  have NL1 := Aside0.mk HL1
                  clear HL1
                  have hcg_0 := Aside0.mk hcg_0
                  have hcg_1 := Aside0.mk hcg_1
                  have hcg_2 := Aside0.mk hcg_2
                  have hl0 := hla.icell BK9.out a (by have := HL.out.2.2.1; omega)
                  have hlf := blk_frozen BK9.out a
                  obtain ⟨lv, HLV⟩ : ∃ x, x = la.getD a 0 := ⟨_, rfl⟩
                  rw [← HLV] at hl0
                  have NLV := Aside0.mk HLV
                  clear HLV
                  go_upto_if 71 with (fail)
                  clear hl0 hlf
                  go_cut [] (fun wc => ∃ vv : Value, Aside0 (Kd.R (Kd.int .i64) 3 wc w.heap.size (fun k_ => some k_ = vv.ownBlock) vv L1) ∧ Aside0 (∀ b, vv.ownBlock = some b → b ≠ gb5 ∧ b ≠ gb8 ∧ b ≠ gb9 ∧ b ≠ gb13 ∧ (Value.slice (some ⟨g41, 0, none⟩) l0.length c41).ownBlock ≠ some b ∧ u11.ownBlock ≠ some b) ∧ Aside0 (wc.heap[gb5]? = some (.cells (hla.row cs) 45 (0, 0))) ∧ Aside0 (wc.heap[gb8]? = some (.cells (ar.set i vv).toArray 48 (0, 0))) ∧ Aside0 (wc.heap[gb9]? = some (.cells (hla.irow la) 49 (0, 0))) ∧ Aside0 (wc.heap[gb13]? = some (.cells #[.int .i64 e0, .int .i64 e1, .int .i64 e2] 51 (0, 0))) ∧ Aside0 (Kd.R k36 36 wc w.heap.size (fun k_ => some k_ = (Value.slice (some ⟨g41, 0, none⟩) l0.length c41).ownBlock) (Value.slice (some ⟨g41, 0, none⟩) l0.length c41) sd) ∧ Aside0 (Kd.R k36 36 wc w.heap.size (fun k_ => some k_ = u11.ownBlock) u11 ss) ∧ Aside0 (Below w.heap.size w wc))
                  case first =>
                    by_cases cl : 0 ≤ lv
                    · have clb := decide_eq_true cl
                      rw [clb]
                      have HL1 : L1 = [lv] := by rw [NL1.out, ← NLV.out, if_pos cl]
                      subst HL1
                      have NCL := Aside0.mk cl
                      clear cl
                      go_upto_region 27 with (fail)
                      clear clb
                      have n0_ := Aside0.mk (blk_drew BK5.out)
                      have n1_ := Aside0.mk (blk_drew BK8.out)
                      have n2_ := Aside0.mk (blk_drew BK9.out)
                      have n3_ := Aside0.mk (blk_drew BK13.out)
                      have n4_ := Aside0.mk (Kd.R_drew HO41.out)
                      have n5_ := Aside0.mk (Kd.R_drew HO11.out)
                      have n6_ := Aside0.mk (below_drew1 HB.out)
                      clear BK5 BK8 BK9 BK13 HO41 HO11 HB
                      have BK5 := n0_
                      have BK8 := n1_
                      have BK9 := n2_
                      have BK13 := n3_
                      have HO41 := n4_
                      have HO11 := n5_
                      have HB := n6_
                      clear n0_ n1_ n2_ n3_ n4_ n5_ n6_
                      refine start_ (n := 11) (S := fun w' => w'.cell? ⟨gb8, i, none⟩ = some (.slice none 0 0) ∧ w'.cell? ⟨gb9, a, none⟩ = some (.int .i64 lv)) (ds := [10]) #[false, false, false, false, false, false, false, false, false, false, false] (by kernel_rfl) rfl rfl ⟨((blk_cell BK8.out i).trans (by rw [List.getElem?_toArray]; exact HAR.out i (Nat.le_refl i) (by omega))), ((hla.icell BK9.out a (by have := HL.out.2.2.1; omega)).trans (by rw [← NLV.out]))⟩ (fun hHeld => ?_)
                      generalize wz.drew = wd at BK5 BK8 BK9 BK13 HO41 HO11 HB hHeld ⊢
                      refine pure_ (i := 0) (N := some 72) (v := ?_) (a' := ?_) #[true, false, false, false, false, false, false, false, false, false, false] rfl rfl (by kernel_rfl) (fun _ _ _ h => h) (Or.inl ⟨by rfl, ?_⟩) ?_ ?_
                      rotate_left
                      · intro w'
                        go_simp
                        with_reducible rfl
                      rotate_left
                      · simp only [Act.put, List.setIfInBounds_toArray, List.set_cons_zero, List.set_cons_succ, i64_w, i32_w]
                        rfl
                      refine pure_ (i := 1) (N := some 73) (v := ?_) (a' := ?_) #[true, true, false, false, false, false, false, false, false, false, false] rfl rfl (by kernel_rfl) (fun _ _ _ h => h) (Or.inl ⟨by rfl, ?_⟩) ?_ ?_
                      rotate_left
                      · intro w'
                        go_simp
                        with_reducible rfl
                      rotate_left
                      · simp only [Act.put, List.setIfInBounds_toArray, List.set_cons_zero, List.set_cons_succ, i64_w, i32_w]
                        rfl
                      refine pure_ (i := 4) (N := some 76) (v := ?_) (a' := ?_) #[true, true, false, false, true, false, false, false, false, false, false] rfl rfl (by kernel_rfl) (fun _ _ _ h => h) (Or.inl ⟨by rfl, ?_⟩) ?_ ?_
                      rotate_left
                      · intro w'
                        go_simp
                        with_reducible rfl
                      rotate_left
                      · simp only [Act.put, List.setIfInBounds_toArray, List.set_cons_zero, List.set_cons_succ, i64_w, i32_w]
                        rfl
                      refine pure_ (i := 2) (N := some 74) (v := ?_) (a' := ?_) #[true, true, true, false, true, false, false, false, false, false, false] rfl rfl (by kernel_rfl) (fun _ _ _ h => h) (Or.inl ⟨by rfl, ?_⟩) ?_ ?_
                      rotate_left
                      · intro w'
                        go_simp
                        with_reducible rfl
                      rotate_left
                      · simp only [Act.put, List.setIfInBounds_toArray, List.set_cons_zero, List.set_cons_succ, i64_w, i32_w]
                        rfl
                      refine pure_ (i := 5) (N := some 77) (v := ?_) (a' := ?_) #[true, true, true, false, true, true, false, false, false, false, false] rfl rfl (by kernel_rfl) (fun _ _ _ h => h) (Or.inl ⟨by rfl, ?_⟩) ?_ ?_
                      rotate_left
                      · intro w'
                        go_simp
                        with_reducible rfl
                      rotate_left
                      · simp only [Act.put, List.setIfInBounds_toArray, List.set_cons_zero, List.set_cons_succ, i64_w, i32_w]
                        rfl
                      refine take_ (i := 3) (N := some 75) (v := ?_) (a' := ?_) #[true, true, true, true, true, true, false, false, false, false, false] rfl rfl (by kernel_rfl) (fun _ _ _ h => h) (Or.inl ⟨by rfl, ?_⟩) hHeld ?_ ?_
                      rotate_left
                      · rintro w' ⟨s0, s1⟩
                        go_simp
                        with_reducible rfl
                      rotate_left
                      · simp only [Act.put, List.setIfInBounds_toArray, List.set_cons_zero, List.set_cons_succ, i64_w, i32_w]
                        rfl
                      refine take_ (i := 6) (N := some 78) (v := ?_) (a' := ?_) #[true, true, true, true, true, true, true, false, false, false, false] rfl rfl (by kernel_rfl) (fun _ _ _ h => h) (Or.inl ⟨by rfl, ?_⟩) hHeld ?_ ?_
                      rotate_left
                      · rintro w' ⟨s0, s1⟩
                        go_simp
                        with_reducible rfl
                      rotate_left
                      · simp only [Act.put, List.setIfInBounds_toArray, List.set_cons_zero, List.set_cons_succ, i64_w, i32_w]
                        rfl
                      refine one_ (i := 7) (N := some 79) #[true, true, true, true, true, true, true, true, false, false, false] rfl rfl (by kernel_rfl) (by decide) (fun K hK => ?_)
                      refine Kd.R_lit_step (Kd.int .i64) _ 3 ?hg (N := 79) ?hd (xs := ([lv] : List Int)) (inner := [.int .i64 lv]) (ok := fun _ => True) (okp := fun _ => True) ?hr ?hp (fun _ hk => hk) trivial (Below.refl _ _) (Nat.le_refl _) (by simp) ?_; (case hd => rfl); (case hg => rfl); (case hr => first | (go_simp; done) | (go_simp; rfl)); (case hp => exact (Reps.one (show Kd.M (Kd.int .i64) _ _ _ lv [.int .i64 lv] from rfl) (Reps.none _ _)))
                      intro vl w79 ho hb hg_ hnew_
                      clear hg_ hnew_
                      have RL := Aside0.mk ho
                      have n0_ := Aside0.mk (blk_below BK5.out hb)
                      have n1_ := Aside0.mk (blk_below BK8.out hb)
                      have n2_ := Aside0.mk (blk_below BK9.out hb)
                      have n3_ := Aside0.mk (blk_below BK13.out hb)
                      have n4_ := Aside0.mk (Kd.R_below HO41.out hb)
                      have n5_ := Aside0.mk (Kd.R_below HO11.out hb)
                      have n6_ := Aside0.mk (below_step HB.out hb)
                      clear BK5 BK8 BK9 BK13 HO41 HO11 HB hb
                      have BK5 := n0_
                      have BK8 := n1_
                      have BK9 := n2_
                      have BK13 := n3_
                      have HO41 := n4_
                      have HO11 := n5_
                      have HB := n6_
                      clear n0_ n1_ n2_ n3_ n4_ n5_ n6_
                      obtain ⟨Al, cl_, el⟩ := Kd.R_slice RL.out
                      subst el
                      refine hK.out _ _ ⟨((blk_cell BK8.out i).trans (by rw [List.getElem?_toArray]; exact HAR.out i (Nat.le_refl i) (by omega))), ((hla.icell BK9.out a (by have := HL.out.2.2.1; omega)).trans (by rw [← NLV.out]))⟩ (fun hHeld => ?_)
                      clear hK K
                      refine norm_ (a' := ?_) ?_ ?_
                      rotate_left
                      · show Act.put _ (some 79) _ = _
                        simp only [Act.put, List.setIfInBounds_toArray, List.set_cons_zero, List.set_cons_succ, i64_w, i32_w]
                        rfl
                      refine one_ (i := 8) (N := some 80) #[true, true, true, true, true, true, true, true, true, false, false] rfl rfl (by kernel_rfl) (by decide) (fun K hK => ?_)
                      refine Kd.R_append_rows_step (Kd.int .i64) (w0 := w) w.heap.size (by rfl) (.tmp 75) (.tmp 79) 47 3 (.int .i64 0) 8 rfl Try.underlying47 info3 rfl (by decide) (by omega) (.slice none 0 0) [] [lv] _ _ _ (fun _ => True) (fun _ => False) rfl rfl (Kd.R_nil _ _ _ _ _) (Kd.R_reads' RL.out).2.2 (fun _ _ h => h) (fun _ h => h.elim) (fun _ _ => trivial) HB.out (below_size HB.out) (by simp) ?_
                      intro va w80 ho hb hg hat
                      obtain ⟨Aa, ca, ea⟩ := Kd.R_slice ho
                      subst ea
                      have hn : ∀ k_, some k_ ≠ (Value.slice none 0 0).ownBlock := fun k_ => by simp [Value.ownBlock]
                      have hnew : ∀ b, (Value.slice Aa ([] ++ [lv]).length ca).ownBlock = some b → w79.heap.size ≤ b := fun b hb_ => by
                        rcases hat with q | ⟨b', q, q2⟩
                        · rw [hb_] at q; exact absurd q (hn b)
                        · rw [hb_] at q; cases q; exact q2
                      have RA := Aside0.mk (Kd.R_tight rfl ho)
                      have AW := Aside0.mk (show ∀ b, (Value.slice Aa ([] ++ [lv]).length ca).ownBlock = some b → b ≠ gb5 ∧ b ≠ gb8 ∧ b ≠ gb9 ∧ b ≠ gb13 ∧ (Value.slice (some ⟨g41, 0, none⟩) l0.length c41).ownBlock ≠ some b ∧ u11.ownBlock ≠ some b from fun b hb_ => by
                        have q := hnew b hb_
                        have q5 := blk_lt BK5.out
                        have q8 := blk_lt BK8.out
                        have q9 := blk_lt BK9.out
                        have q13 := blk_lt BK13.out
                        refine ⟨by omega, by omega, by omega, by omega, fun e => ?_, fun e => ?_⟩
                        · have := Kd.R_lt HO41.out b e; omega
                        · have := Kd.R_lt HO11.out b e; omega)
                      have n0_ := Aside0.mk (blk_grown BK5.out hg (hn _))
                      have n1_ := Aside0.mk (blk_grown BK8.out hg (hn _))
                      have n2_ := Aside0.mk (blk_grown BK9.out hg (hn _))
                      have n3_ := Aside0.mk (blk_grown BK13.out hg (hn _))
                      have n4_ := Aside0.mk (Kd.R_grown HO41.out hg (fun k_ _ => hn k_))
                      have n5_ := Aside0.mk (Kd.R_grown HO11.out hg (fun k_ _ => hn k_))
                      have n6_ := Aside0.mk (hb)
                      clear BK5 BK8 BK9 BK13 HO41 HO11 HB ho hb hg hat hnew hn RL
                      have BK5 := n0_
                      have BK8 := n1_
                      have BK9 := n2_
                      have BK13 := n3_
                      have HO41 := n4_
                      have HO11 := n5_
                      have HB := n6_
                      clear n0_ n1_ n2_ n3_ n4_ n5_ n6_
                      refine hK.out _ _ ⟨((blk_cell BK8.out i).trans (by rw [List.getElem?_toArray]; exact HAR.out i (Nat.le_refl i) (by omega))), ((hla.icell BK9.out a (by have := HL.out.2.2.1; omega)).trans (by rw [← NLV.out]))⟩ (fun hHeld => ?_)
                      clear hK K
                      refine norm_ (a' := ?_) ?_ ?_
                      rotate_left
                      · show Act.put _ (some 80) _ = _
                        simp only [Act.put, List.setIfInBounds_toArray, List.set_cons_zero, List.set_cons_succ, i64_w, i32_w]
                        rfl
                      refine pure_ (i := 9) (N := some 81) (v := ?_) (a' := ?_) #[true, true, true, true, true, true, true, true, true, true, false] rfl rfl (by kernel_rfl) (fun _ _ _ h => h) (Or.inl ⟨by rfl, ?_⟩) ?_ ?_
                      rotate_left
                      · intro w'
                        go_simp
                        with_reducible rfl
                      rotate_left
                      · simp only [Act.put, List.setIfInBounds_toArray, List.set_cons_zero, List.set_cons_succ, i64_w, i32_w]
                        rfl
                      refine last_ (i := 10) (N := none) #[true, true, true, true, true, true, true, true, true, true, true] rfl rfl (by kernel_rfl) (by decide) (fun K hK => ?_)
                      have hs8 : w80.cell? ⟨gb8, i, none⟩ = some (.slice none 0 0) := ((blk_cell BK8.out i).trans (by rw [List.getElem?_toArray]; exact HAR.out i (Nat.le_refl i) (by omega)))
                      have hfs8 := blk_frozen BK8.out i
                      refine skip_ (w1 := ?_) (by rfl) rfl ?_ ?_
                      rotate_left
                      · go_simp
                        rfl
                      refine hK.out _ _ ?_
                      clear hK K hs8 hfs8
                      refine done_ (by kernel_rfl) ?_
                      try go_wp2
                      go_meet
                      case rel =>
                        refine ⟨.slice Aa ([] ++ [lv]).length ca, ⟨?_⟩, AW, ⟨blk_far BK5.out ?_ _⟩, ⟨blk_put BK8.out i _ (by simp)⟩, ⟨blk_far BK9.out ?_ _⟩, ⟨blk_far BK13.out ?_ _⟩, ⟨?_⟩, ⟨?_⟩, ⟨below_set HB.out GE8.out⟩⟩
                        · exact Kd.R_far RA.out (fun k_ hk => (AW.out k_ hk.symm).2.1) _
                        · exact N58.out
                        · exact N98.out
                        · exact fun h => M8.out h.symm
                        · exact Kd.R_far HO41.out (fun k_ hk => NO8.out k_ hk.symm) _
                        · exact Kd.R_far HO11.out (fun k_ hk => (HN11.out k_ hk.symm).2.1) _
                    · have clb := decide_eq_false cl
                      rw [clb]
                      have HL1 : L1 = [] := by rw [NL1.out, ← NLV.out, if_neg cl]
                      subst HL1
                      clear cl
                      go_wp2_with (fail)
                      go_meet
                      case rel => exact ⟨.slice none 0 0, ⟨Kd.R_nil _ _ _ _ _⟩, ⟨fun b hb => by cases hb⟩, BK5, ⟨by rw [hla.set_same (HAR.out i (Nat.le_refl i) (by omega))]; exact BK8.out⟩, BK9, BK13, HO41, HO11, HB⟩
                  case rest =>
                    clear BK5 BK8 BK9 BK13 HO41 HO11 HB hcg_0 hcg_1 hcg_2
                    obtain ⟨w1c, ew1⟩ : ∃ x, x = wc := ⟨_, rfl⟩
                    subst ew1
                    obtain ⟨vv, RV, AW, BK5, BK8, BK9, BK13, HO41, HO11, HB⟩ := hcut
                    have hcg_2 : w1c.cell? ⟨gb13, 2, none⟩ = some (.int .i64 e2) := (blk_cell BK13.out 2).trans rfl
                    go_upto_region 28 with (fail)
                    go_cut [90] (fun v90 wc2 => v90 = .bool (hla.heard i ⟨e0, e1, e2⟩) ∧ wc2 = w1c)
                    case first =>
                      by_cases q1 : 0 ≤ e2
                      · have d1 := decide_eq_true q1
                        by_cases q2 : e2 < (i : Int)
                        · have d2 := decide_eq_true q2
                          have d3 : hla.heard i ⟨e0, e1, e2⟩ = true := by show (decide (0 ≤ e2) && decide (e2 < (i : Int))) = true; rw [d1, d2]; rfl
                          clear q1 q2
                          go_wp2_with (fail)
                          go_meet
                          case rel => exact ⟨by rw [d3], rfl⟩
                        · have d2 := decide_eq_false q2
                          have d3 : hla.heard i ⟨e0, e1, e2⟩ = false := by show (decide (0 ≤ e2) && decide (e2 < (i : Int))) = false; rw [d1, d2]; rfl
                          clear q1 q2
                          go_wp2_with (fail)
                          go_meet
                          case rel => exact ⟨by rw [d3], rfl⟩
                      · have d1 := decide_eq_false q1
                        have d3 : hla.heard i ⟨e0, e1, e2⟩ = false := by show (decide (0 ≤ e2) && decide (e2 < (i : Int))) = false; rw [d1]; rfl
                        clear q1
                        go_wp2_with (fail)
                        go_meet
                        case rel => exact ⟨by rw [d3], rfl⟩
                    case rest =>
                      obtain ⟨e90, ew2⟩ := hcut
                      subst e90
                      rw [ew2]
                      clear hcg_2 ew2
                      obtain ⟨Av, cv, ev⟩ := Kd.R_slice RV.out
                      subst ev
                      have HL1l := Aside0.mk (show L1.length ≤ 1 from by rw [NL1.out]; split <;> simp)
                      obtain ⟨L2, HL2⟩ : ∃ l, l = (if hla.heard i ⟨e0, e1, e2⟩ = true then [e2] else []) := ⟨_, rfl⟩
                      have NL2 := Aside0.mk HL2
                      clear HL2
                      go_upto_if 90 with (fail)
                      go_cut [] (fun wc => ∃ vv2 : Value, Aside0 (Kd.R (Kd.int .i64) 3 wc w.heap.size (fun k_ => some k_ = vv2.ownBlock) vv2 (L1 ++ L2)) ∧ Aside0 (∀ b, vv2.ownBlock = some b → b ≠ gb5 ∧ b ≠ gb8 ∧ b ≠ gb9 ∧ b ≠ gb13 ∧ (Value.slice (some ⟨g41, 0, none⟩) l0.length c41).ownBlock ≠ some b ∧ u11.ownBlock ≠ some b) ∧ Aside0 (wc.heap[gb5]? = some (.cells (hla.row (cs.set a ⟨n0, n1⟩)) 45 (0, 0))) ∧ Aside0 (wc.heap[gb8]? = some (.cells (ar.set i vv2).toArray 48 (0, 0))) ∧ Aside0 (wc.heap[gb9]? = some (.cells (hla.irow la) 49 (0, 0))) ∧ Aside0 (wc.heap[gb13]? = some (.cells #[.int .i64 e0, .int .i64 e1, .int .i64 e2] 51 (0, 0))) ∧ Aside0 (Kd.R k36 36 wc w.heap.size (fun k_ => some k_ = (Value.slice (some ⟨g41, 0, none⟩) l0.length c41).ownBlock) (Value.slice (some ⟨g41, 0, none⟩) l0.length c41) sd) ∧ Aside0 (Kd.R k36 36 wc w.heap.size (fun k_ => some k_ = u11.ownBlock) u11 ss) ∧ Aside0 (Below w.heap.size w wc))
                      case first =>
                        have HST := NST.out
                        unfold hla.st at HST
                        by_cases ch : hla.heard i ⟨e0, e1, e2⟩ = true
                        · rw [if_pos ch] at HST
                          have HL2 : L2 = [e2] := by rw [NL2.out, if_pos ch]
                          subst HL2
                          obtain ⟨⟨h0, h1, h2⟩, HH, HST⟩ := Option.bind_eq_some_iff.mp HST
                          simp only [Option.some.injEq, Prod.mk.injEq] at HST
                          obtain ⟨rfl, rfl⟩ := HST
                          have NHH := Aside0.mk HH
                          clear HH
                          have ch2 : 0 ≤ e2 ∧ e2 < (i : Int) := by
                            have q : (decide (0 ≤ e2) && decide (e2 < (i : Int))) = true := ch
                            simpa using q
                          obtain ⟨j, ej⟩ : ∃ j : Nat, e2 = (j : Int) := ⟨e2.toNat, by omega⟩
                          rw [ch]
                          clear ch
                          subst ej
                          have hji : j < i := by omega
                          have pj := eq_true ch2.1
                          have qj : ((j : Int) < (l0.length : Int)) = True := eq_true (by omega)
                          clear ch2
                          have NHH : Aside0 (hlc_Clock_Hear.f k (hla.sd cs a).f0 (hla.sd cs a).f1 e1 (hla.sd ss j).f0 (hla.sd ss j).f1 1152921504606846976 = some (h0, h1, h2)) := ⟨NHH.out⟩
                          go_upto_region 29 with (fail)
                          have n0_ := Aside0.mk (blk_drew BK5.out)
                          have n1_ := Aside0.mk (blk_drew BK8.out)
                          have n2_ := Aside0.mk (blk_drew BK9.out)
                          have n3_ := Aside0.mk (blk_drew BK13.out)
                          have n4_ := Aside0.mk (Kd.R_drew HO41.out)
                          have n5_ := Aside0.mk (Kd.R_drew HO11.out)
                          have n6_ := Aside0.mk (below_drew1 HB.out)
                          have n7_ := Aside0.mk (Kd.R_drew RV.out)
                          clear BK5 BK8 BK9 BK13 HO41 HO11 HB RV
                          have BK5 := n0_
                          have BK8 := n1_
                          have BK9 := n2_
                          have BK13 := n3_
                          have HO41 := n4_
                          have HO11 := n5_
                          have HB := n6_
                          have RV := n7_
                          clear n0_ n1_ n2_ n3_ n4_ n5_ n6_ n7_
                          refine start_ (n := 17) (S := fun w' => w'.cell? ⟨gb5, a * 2, none⟩ = some (.int .i64 (hla.sd cs a).f0) ∧ w'.cell? ⟨gb5, a * 2 + 1, none⟩ = some (.int .i64 (hla.sd cs a).f1) ∧ w'.cell? ⟨gb13, 1, none⟩ = some (.int .i64 e1) ∧ w'.cell? ⟨gb13, 2, none⟩ = some (.int .i64 (j : Int)) ∧ w'.cell? ⟨g41, j * 2, none⟩ = some (.int .i64 (hla.sd ss j).f0) ∧ w'.cell? ⟨g41, j * 2 + 1, none⟩ = some (.int .i64 (hla.sd ss j).f1)) (ds := [16]) #[false, false, false, false, false, false, false, false, false, false, false, false, false, false, false, false, false] (by kernel_rfl) rfl rfl ⟨hla.cell0 BK5.out a (by have := HL.out.1; omega), hla.cell1 BK5.out a (by have := HL.out.1; omega), (blk_cell BK13.out 1).trans rfl, (blk_cell BK13.out 2).trans rfl, (hla.elem HO41.out j (by omega)).1.trans (by rw [HSD.out j hji]), (hla.elem HO41.out j (by omega)).2.trans (by rw [HSD.out j hji])⟩ (fun hHeld => ?_)
                          generalize w1c.drew = w2c at BK5 BK8 BK9 BK13 HO41 HO11 HB RV hHeld ⊢
                          refine pure_ (i := 0) (N := some 92) (v := ?_) (a' := ?_) #[true, false, false, false, false, false, false, false, false, false, false, false, false, false, false, false, false] rfl rfl (by kernel_rfl) (fun _ _ _ h => h) (Or.inl ⟨by rfl, ?_⟩) ?_ ?_
                          rotate_left
                          · intro w'
                            go_simp
                            with_reducible rfl
                          rotate_left
                          · simp only [Act.put, List.setIfInBounds_toArray, List.set_cons_zero, List.set_cons_succ, i64_w, i32_w]
                            rfl
                          refine pure_ (i := 1) (N := some 93) (v := ?_) (a' := ?_) #[true, true, false, false, false, false, false, false, false, false, false, false, false, false, false, false, false] rfl rfl (by kernel_rfl) (fun _ _ _ h => h) (Or.inl ⟨by rfl, ?_⟩) ?_ ?_
                          rotate_left
                          · intro w'
                            go_simp
                            with_reducible rfl
                          rotate_left
                          · simp only [Act.put, List.setIfInBounds_toArray, List.set_cons_zero, List.set_cons_succ, i64_w, i32_w]
                            rfl
                          refine pure_ (i := 4) (N := some 96) (v := ?_) (a' := ?_) #[true, true, false, false, true, false, false, false, false, false, false, false, false, false, false, false, false] rfl rfl (by kernel_rfl) (fun _ _ _ h => h) (Or.inl ⟨by rfl, ?_⟩) ?_ ?_
                          rotate_left
                          · intro w'
                            go_simp
                            with_reducible rfl
                          rotate_left
                          · simp only [Act.put, List.setIfInBounds_toArray, List.set_cons_zero, List.set_cons_succ, i64_w, i32_w]
                            rfl
                          refine pure_ (i := 6) (N := some 98) (v := ?_) (a' := ?_) #[true, true, false, false, true, false, true, false, false, false, false, false, false, false, false, false, false] rfl rfl (by kernel_rfl) (fun _ _ _ h => h) (Or.inl ⟨by rfl, ?_⟩) ?_ ?_
                          rotate_left
                          · intro w'
                            go_simp
                            with_reducible rfl
                          rotate_left
                          · simp only [Act.put, List.setIfInBounds_toArray, List.set_cons_zero, List.set_cons_succ, i64_w, i32_w]
                            rfl
                          refine pure_ (i := 7) (N := some 99) (v := ?_) (a' := ?_) #[true, true, false, false, true, false, true, true, false, false, false, false, false, false, false, false, false] rfl rfl (by kernel_rfl) (fun _ _ _ h => h) (Or.inl ⟨by rfl, ?_⟩) ?_ ?_
                          rotate_left
                          · intro w'
                            go_simp
                            with_reducible rfl
                          rotate_left
                          · simp only [Act.put, List.setIfInBounds_toArray, List.set_cons_zero, List.set_cons_succ, i64_w, i32_w]
                            rfl
                          refine pure_ (i := 2) (N := some 94) (v := ?_) (a' := ?_) #[true, true, true, false, true, false, true, true, false, false, false, false, false, false, false, false, false] rfl rfl (by kernel_rfl) (fun _ _ _ h => h) (Or.inl ⟨by rfl, ?_⟩) ?_ ?_
                          rotate_left
                          · intro w'
                            go_simp
                            with_reducible rfl
                          rotate_left
                          · simp only [Act.put, List.setIfInBounds_toArray, List.set_cons_zero, List.set_cons_succ, i64_w, i32_w]
                            rfl
                          refine take_ (i := 3) (N := some 95) (v := ?_) (a' := ?_) #[true, true, true, true, true, false, true, true, false, false, false, false, false, false, false, false, false] rfl rfl (by kernel_rfl) (fun _ _ _ h => h) (Or.inl ⟨by rfl, ?_⟩) hHeld ?_ ?_
                          rotate_left
                          · rintro w' ⟨s0, s1, s2, s3, s4, s5⟩
                            go_simp
                            with_reducible rfl
                          rotate_left
                          · simp only [Act.put, List.setIfInBounds_toArray, List.set_cons_zero, List.set_cons_succ, i64_w, i32_w]
                            rfl
                          refine take_ (i := 5) (N := some 97) (v := ?_) (a' := ?_) #[true, true, true, true, true, true, true, true, false, false, false, false, false, false, false, false, false] rfl rfl (by kernel_rfl) (fun _ _ _ h => h) (Or.inl ⟨by rfl, ?_⟩) hHeld ?_ ?_
                          rotate_left
                          · rintro w' ⟨s0, s1, s2, s3, s4, s5⟩
                            go_simp
                            with_reducible rfl
                          rotate_left
                          · simp only [Act.put, List.setIfInBounds_toArray, List.set_cons_zero, List.set_cons_succ, i64_w, i32_w]
                            rfl
                          refine take_ (i := 8) (N := some 100) (v := ?_) (a' := ?_) #[true, true, true, true, true, true, true, true, true, false, false, false, false, false, false, false, false] rfl rfl (by kernel_rfl) (fun _ _ _ h => h) (Or.inl ⟨by rfl, ?_⟩) hHeld ?_ ?_
                          rotate_left
                          · rintro w' ⟨s0, s1, s2, s3, s4, s5⟩
                            go_simp
                            with_reducible rfl
                          rotate_left
                          · simp only [Act.put, List.setIfInBounds_toArray, List.set_cons_zero, List.set_cons_succ, i64_w, i32_w]
                            rfl
                          refine pure_ (i := 9) (N := some 101) (v := ?_) (a' := ?_) #[true, true, true, true, true, true, true, true, true, true, false, false, false, false, false, false, false] rfl rfl (by kernel_rfl) (fun _ _ _ h => h) (Or.inl ⟨by rfl, ?_⟩) ?_ ?_
                          rotate_left
                          · intro w'
                            go_simp
                            with_reducible rfl
                          rotate_left
                          · simp only [Act.put, List.setIfInBounds_toArray, List.set_cons_zero, List.set_cons_succ, i64_w, i32_w]
                            rfl
                          refine take_ (i := 10) (N := some 102) (v := ?_) (a' := ?_) #[true, true, true, true, true, true, true, true, true, true, true, false, false, false, false, false, false] rfl rfl (by kernel_rfl) (fun _ _ _ h => h) (Or.inl ⟨by rfl, ?_⟩) hHeld ?_ ?_
                          rotate_left
                          · rintro w' ⟨s0, s1, s2, s3, s4, s5⟩
                            go_simp
                            with_reducible rfl
                          rotate_left
                          · simp only [Act.put, List.setIfInBounds_toArray, List.set_cons_zero, List.set_cons_succ, i64_w, i32_w]
                            rfl
                          refine one_ (i := 11) (N := some 103) #[true, true, true, true, true, true, true, true, true, true, true, true, false, false, false, false, false] rfl rfl (by kernel_rfl) (by decide) (fun K hK => ?_)
                          refine goes_ Try.func28 (by kernel_rfl) rfl #[.agg #[.int .i64 (hla.sd cs a).f0, .int .i64 (hla.sd cs a).f1], .int .i64 e1, .agg #[.int .i64 (hla.sd ss j).f0, .int .i64 (hla.sd ss j).f1], .int .i64 1152921504606846976] (by rfl) rfl rfl (by (try simp only [List.map_toArray, List.map_cons, List.map_nil]); first | done | rfl) ?_
                          with_reducible refine (hlc_Clock_Hear.calls k _ _ _ _ _ _ _ _ _ _ NHH.out).mono ?_
                          rintro e w3c ⟨rfl, hb⟩
                          have n0_ := Aside0.mk (blk_below BK5.out hb)
                          have n1_ := Aside0.mk (blk_below BK8.out hb)
                          have n2_ := Aside0.mk (blk_below BK9.out hb)
                          have n3_ := Aside0.mk (blk_below BK13.out hb)
                          have n4_ := Aside0.mk (Kd.R_below HO41.out hb)
                          have n5_ := Aside0.mk (Kd.R_below HO11.out hb)
                          have n6_ := Aside0.mk (below_step HB.out hb)
                          have n7_ := Aside0.mk (Kd.R_below RV.out hb)
                          clear BK5 BK8 BK9 BK13 HO41 HO11 HB RV hb
                          have BK5 := n0_
                          have BK8 := n1_
                          have BK9 := n2_
                          have BK13 := n3_
                          have HO41 := n4_
                          have HO11 := n5_
                          have HB := n6_
                          have RV := n7_
                          clear n0_ n1_ n2_ n3_ n4_ n5_ n6_ n7_
                          refine ⟨_, rfl, ?_⟩
                          refine hK.out _ _ ⟨hla.cell0 BK5.out a (by have := HL.out.1; omega), hla.cell1 BK5.out a (by have := HL.out.1; omega), (blk_cell BK13.out 1).trans rfl, (blk_cell BK13.out 2).trans rfl, (hla.elem HO41.out j (by omega)).1.trans (by rw [HSD.out j hji]), (hla.elem HO41.out j (by omega)).2.trans (by rw [HSD.out j hji])⟩ (fun hHeld => ?_)
                          clear hK K
                          refine norm_ (a' := ?_) ?_ ?_
                          rotate_left
                          · show Act.put _ (some 103) _ = _
                            simp only [Act.put, List.setIfInBounds_toArray, List.set_cons_zero, List.set_cons_succ, i64_w, i32_w]
                            rfl
                          refine pure_ (i := 12) (N := some 91) (v := ?_) (a' := ?_) #[true, true, true, true, true, true, true, true, true, true, true, true, true, false, false, false, false] rfl rfl (by kernel_rfl) (fun _ _ _ h => h) (Or.inl ⟨by rfl, ?_⟩) ?_ ?_
                          rotate_left
                          · intro w'
                            go_simp
                            with_reducible rfl
                          rotate_left
                          · simp only [Act.put, List.setIfInBounds_toArray, List.set_cons_zero, List.set_cons_succ, i64_w, i32_w]
                            rfl
                          refine pure_ (i := 13) (N := some 104) (v := ?_) (a' := ?_) #[true, true, true, true, true, true, true, true, true, true, true, true, true, true, false, false, false] rfl rfl (by kernel_rfl) (fun _ _ _ h => h) (Or.inl ⟨by rfl, ?_⟩) ?_ ?_
                          rotate_left
                          · intro w'
                            go_simp
                            with_reducible rfl
                          rotate_left
                          · simp only [Act.put, List.setIfInBounds_toArray, List.set_cons_zero, List.set_cons_succ, i64_w, i32_w]
                            rfl
                          refine pure_ (i := 14) (N := some 105) (v := ?_) (a' := ?_) #[true, true, true, true, true, true, true, true, true, true, true, true, true, true, true, false, false] rfl rfl (by kernel_rfl) (fun _ _ _ h => h) (Or.inl ⟨by rfl, ?_⟩) ?_ ?_
                          rotate_left
                          · intro w'
                            go_simp
                            with_reducible rfl
                          rotate_left
                          · simp only [Act.put, List.setIfInBounds_toArray, List.set_cons_zero, List.set_cons_succ, i64_w, i32_w]
                            rfl
                          refine pure_ (i := 15) (N := some 106) (v := ?_) (a' := ?_) #[true, true, true, true, true, true, true, true, true, true, true, true, true, true, true, true, false] rfl rfl (by kernel_rfl) (fun _ _ _ h => h) (Or.inl ⟨by rfl, ?_⟩) ?_ ?_
                          rotate_left
                          · intro w'
                            go_simp
                            with_reducible rfl
                          rotate_left
                          · simp only [Act.put, List.setIfInBounds_toArray, List.set_cons_zero, List.set_cons_succ, i64_w, i32_w]
                            rfl
                          refine last_ (i := 16) (N := none) #[true, true, true, true, true, true, true, true, true, true, true, true, true, true, true, true, true] rfl rfl (by kernel_rfl) (by decide) (fun K hK => ?_)
                          have hs5 := hla.cell0 BK5.out a (by have := HL.out.1; omega)
                          have hs6 := hla.cell1 BK5.out a (by have := HL.out.1; omega)
                          have hf5 := blk_frozen BK5.out (a * 2)
                          have hf6 := blk_frozen BK5.out (a * 2 + 1)
                          refine skip_ (w1 := ?_) (by rfl) rfl ?_ ?_
                          rotate_left
                          · go_simp
                            rfl
                          refine hK.out _ _ ?_
                          clear hK K hs5 hs6 hf5 hf6 hHeld
                          refine done_ (by kernel_rfl) ?_
                          have n0_ : Aside0 (((w3c.setCell ⟨gb5, a * 2, none⟩ (.int .i64 h0)).setCell ⟨gb5, a * 2 + 1, none⟩ (.int .i64 h1)).heap[gb5]? = some (.cells (hla.row (cs.set a ⟨h0, h1⟩)) 45 (0, 0))) := ⟨hla.set01 BK5.out a (by have := HL.out.1; omega) _ _⟩
                          have n1_ : Aside0 (((w3c.setCell ⟨gb5, a * 2, none⟩ (.int .i64 h0)).setCell ⟨gb5, a * 2 + 1, none⟩ (.int .i64 h1)).heap[gb8]? = some (.cells (ar.set i (.slice Av L1.length cv)).toArray 48 (0, 0))) := ⟨blk_far (blk_far BK8.out N85.out _) N85.out _⟩
                          have n2_ : Aside0 (((w3c.setCell ⟨gb5, a * 2, none⟩ (.int .i64 h0)).setCell ⟨gb5, a * 2 + 1, none⟩ (.int .i64 h1)).heap[gb9]? = some (.cells (hla.irow la) 49 (0, 0))) := ⟨blk_far (blk_far BK9.out N95.out _) N95.out _⟩
                          have n3_ : Aside0 (((w3c.setCell ⟨gb5, a * 2, none⟩ (.int .i64 h0)).setCell ⟨gb5, a * 2 + 1, none⟩ (.int .i64 h1)).heap[gb13]? = some (.cells #[.int .i64 e0, .int .i64 e1, .int .i64 (j : Int)] 51 (0, 0))) := ⟨blk_far (blk_far BK13.out (fun h => M5.out h.symm) _) (fun h => M5.out h.symm) _⟩
                          have n4_ : Aside0 (Kd.R k36 36 ((w3c.setCell ⟨gb5, a * 2, none⟩ (.int .i64 h0)).setCell ⟨gb5, a * 2 + 1, none⟩ (.int .i64 h1)) w.heap.size (fun k_ => some k_ = (Value.slice (some ⟨g41, 0, none⟩) l0.length c41).ownBlock) (Value.slice (some ⟨g41, 0, none⟩) l0.length c41) sd) := ⟨Kd.R_far (Kd.R_far HO41.out (hla.away HO41.out BK5.out (by decide)) _) (hla.away HO41.out BK5.out (by decide)) _⟩
                          have n5_ : Aside0 (Kd.R k36 36 ((w3c.setCell ⟨gb5, a * 2, none⟩ (.int .i64 h0)).setCell ⟨gb5, a * 2 + 1, none⟩ (.int .i64 h1)) w.heap.size (fun k_ => some k_ = u11.ownBlock) u11 ss) := ⟨Kd.R_far (Kd.R_far HO11.out (hla.away HO11.out BK5.out (by decide)) _) (hla.away HO11.out BK5.out (by decide)) _⟩
                          have n6_ : Aside0 (Kd.R (Kd.int .i64) 3 ((w3c.setCell ⟨gb5, a * 2, none⟩ (.int .i64 h0)).setCell ⟨gb5, a * 2 + 1, none⟩ (.int .i64 h1)) w.heap.size (fun k_ => some k_ = (Value.slice Av L1.length cv).ownBlock) (.slice Av L1.length cv) L1) := ⟨Kd.R_far (Kd.R_far RV.out (hla.away RV.out BK5.out (by decide)) _) (hla.away RV.out BK5.out (by decide)) _⟩
                          have n7_ : Aside0 (Below w.heap.size w ((w3c.setCell ⟨gb5, a * 2, none⟩ (.int .i64 h0)).setCell ⟨gb5, a * 2 + 1, none⟩ (.int .i64 h1))) := ⟨below_set (below_set HB.out GE5.out) GE5.out⟩
                          clear BK5 BK8 BK9 BK13 HO41 HO11 RV HB 
                          have BK5 := n0_
                          have BK8 := n1_
                          have BK9 := n2_
                          have BK13 := n3_
                          have HO41 := n4_
                          have HO11 := n5_
                          have RV := n6_
                          have HB := n7_
                          clear n0_ n1_ n2_ n3_ n4_ n5_ n6_ n7_
                          generalize ((w3c.setCell ⟨gb5, a * 2, none⟩ (.int .i64 h0)).setCell ⟨gb5, a * 2 + 1, none⟩ (.int .i64 h1)) = w4c at BK5 BK8 BK9 BK13 HO41 HO11 RV HB ⊢
                          go_upto_region 30 with (fail)
                          have n0_ := Aside0.mk (blk_drew BK5.out)
                          have n1_ := Aside0.mk (blk_drew BK8.out)
                          have n2_ := Aside0.mk (blk_drew BK9.out)
                          have n3_ := Aside0.mk (blk_drew BK13.out)
                          have n4_ := Aside0.mk (Kd.R_drew HO41.out)
                          have n5_ := Aside0.mk (Kd.R_drew HO11.out)
                          have n6_ := Aside0.mk (below_drew1 HB.out)
                          have n7_ := Aside0.mk (Kd.R_drew RV.out)
                          clear BK5 BK8 BK9 BK13 HO41 HO11 HB RV
                          have BK5 := n0_
                          have BK8 := n1_
                          have BK9 := n2_
                          have BK13 := n3_
                          have HO41 := n4_
                          have HO11 := n5_
                          have HB := n6_
                          have RV := n7_
                          clear n0_ n1_ n2_ n3_ n4_ n5_ n6_ n7_
                          refine start_ (n := 10) (S := fun w' => w'.cell? ⟨gb8, i, none⟩ = some (.slice Av L1.length cv) ∧ w'.cell? ⟨gb13, 2, none⟩ = some (.int .i64 (j : Int))) (ds := [9]) #[false, false, false, false, false, false, false, false, false, false] (by kernel_rfl) rfl rfl ⟨((blk_cell BK8.out i).trans (by rw [List.getElem?_toArray, List.getElem?_set, if_pos rfl, if_pos (by have := HL.out.2.2.2.2; omega)])), (blk_cell BK13.out 2).trans rfl⟩ (fun hHeld => ?_)
                          generalize w4c.drew = w5c at BK5 BK8 BK9 BK13 HO41 HO11 HB RV hHeld ⊢
                          refine pure_ (i := 0) (N := some 107) (v := ?_) (a' := ?_) #[true, false, false, false, false, false, false, false, false, false] rfl rfl (by kernel_rfl) (fun _ _ _ h => h) (Or.inl ⟨by rfl, ?_⟩) ?_ ?_
                          rotate_left
                          · intro w'
                            go_simp
                            with_reducible rfl
                          rotate_left
                          · simp only [Act.put, List.setIfInBounds_toArray, List.set_cons_zero, List.set_cons_succ, i64_w, i32_w]
                            rfl
                          refine pure_ (i := 1) (N := some 108) (v := ?_) (a' := ?_) #[true, true, false, false, false, false, false, false, false, false] rfl rfl (by kernel_rfl) (fun _ _ _ h => h) (Or.inl ⟨by rfl, ?_⟩) ?_ ?_
                          rotate_left
                          · intro w'
                            go_simp
                            with_reducible rfl
                          rotate_left
                          · simp only [Act.put, List.setIfInBounds_toArray, List.set_cons_zero, List.set_cons_succ, i64_w, i32_w]
                            rfl
                          refine pure_ (i := 4) (N := some 111) (v := ?_) (a' := ?_) #[true, true, false, false, true, false, false, false, false, false] rfl rfl (by kernel_rfl) (fun _ _ _ h => h) (Or.inl ⟨by rfl, ?_⟩) ?_ ?_
                          rotate_left
                          · intro w'
                            go_simp
                            with_reducible rfl
                          rotate_left
                          · simp only [Act.put, List.setIfInBounds_toArray, List.set_cons_zero, List.set_cons_succ, i64_w, i32_w]
                            rfl
                          refine pure_ (i := 2) (N := some 109) (v := ?_) (a' := ?_) #[true, true, true, false, true, false, false, false, false, false] rfl rfl (by kernel_rfl) (fun _ _ _ h => h) (Or.inl ⟨by rfl, ?_⟩) ?_ ?_
                          rotate_left
                          · intro w'
                            go_simp
                            with_reducible rfl
                          rotate_left
                          · simp only [Act.put, List.setIfInBounds_toArray, List.set_cons_zero, List.set_cons_succ, i64_w, i32_w]
                            rfl
                          refine take_ (i := 3) (N := some 110) (v := ?_) (a' := ?_) #[true, true, true, true, true, false, false, false, false, false] rfl rfl (by kernel_rfl) (fun _ _ _ h => h) (Or.inl ⟨by rfl, ?_⟩) hHeld ?_ ?_
                          rotate_left
                          · rintro w' ⟨s0, s1⟩
                            go_simp
                            with_reducible rfl
                          rotate_left
                          · simp only [Act.put, List.setIfInBounds_toArray, List.set_cons_zero, List.set_cons_succ, i64_w, i32_w]
                            rfl
                          refine take_ (i := 5) (N := some 112) (v := ?_) (a' := ?_) #[true, true, true, true, true, true, false, false, false, false] rfl rfl (by kernel_rfl) (fun _ _ _ h => h) (Or.inl ⟨by rfl, ?_⟩) hHeld ?_ ?_
                          rotate_left
                          · rintro w' ⟨s0, s1⟩
                            go_simp
                            with_reducible rfl
                          rotate_left
                          · simp only [Act.put, List.setIfInBounds_toArray, List.set_cons_zero, List.set_cons_succ, i64_w, i32_w]
                            rfl
                          refine one_ (i := 6) (N := some 113) #[true, true, true, true, true, true, true, false, false, false] rfl rfl (by kernel_rfl) (by decide) (fun K hK => ?_)
                          refine Kd.R_lit_step (Kd.int .i64) _ 3 ?hg (N := 113) ?hd (xs := ([(j : Int)] : List Int)) (inner := [.int .i64 (j : Int)]) (ok := fun _ => True) (okp := fun _ => True) ?hr ?hp (fun _ hk => hk) trivial (Below.refl _ _) (Nat.le_refl _) (by simp) ?_; (case hd => rfl); (case hg => rfl); (case hr => first | (go_simp; done) | (go_simp; rfl)); (case hp => exact (Reps.one (show Kd.M (Kd.int .i64) _ _ _ (j : Int) [.int .i64 (j : Int)] from rfl) (Reps.none _ _)))
                          intro vl w6c ho hb hg_ hnew_
                          clear hg_ hnew_
                          have RL := Aside0.mk ho
                          have n0_ := Aside0.mk (blk_below BK5.out hb)
                          have n1_ := Aside0.mk (blk_below BK8.out hb)
                          have n2_ := Aside0.mk (blk_below BK9.out hb)
                          have n3_ := Aside0.mk (blk_below BK13.out hb)
                          have n4_ := Aside0.mk (Kd.R_below HO41.out hb)
                          have n5_ := Aside0.mk (Kd.R_below HO11.out hb)
                          have n6_ := Aside0.mk (below_step HB.out hb)
                          have n7_ := Aside0.mk (Kd.R_below RV.out hb)
                          clear BK5 BK8 BK9 BK13 HO41 HO11 HB RV hb ho
                          have BK5 := n0_
                          have BK8 := n1_
                          have BK9 := n2_
                          have BK13 := n3_
                          have HO41 := n4_
                          have HO11 := n5_
                          have HB := n6_
                          have RV := n7_
                          clear n0_ n1_ n2_ n3_ n4_ n5_ n6_ n7_
                          obtain ⟨Al, cl_, el⟩ := Kd.R_slice RL.out
                          subst el
                          refine hK.out _ _ ⟨((blk_cell BK8.out i).trans (by rw [List.getElem?_toArray, List.getElem?_set, if_pos rfl, if_pos (by have := HL.out.2.2.2.2; omega)])), (blk_cell BK13.out 2).trans rfl⟩ (fun hHeld => ?_)
                          clear hK K
                          refine norm_ (a' := ?_) ?_ ?_
                          rotate_left
                          · show Act.put _ (some 113) _ = _
                            simp only [Act.put, List.setIfInBounds_toArray, List.set_cons_zero, List.set_cons_succ, i64_w, i32_w]
                            rfl
                          refine one_ (i := 7) (N := some 114) #[true, true, true, true, true, true, true, true, false, false] rfl rfl (by kernel_rfl) (by decide) (fun K hK => ?_)
                          refine Kd.R_append_rows_step (Kd.int .i64) (w0 := w) w.heap.size (by rfl) (.tmp 110) (.tmp 113) 47 3 (.int .i64 0) 8 rfl Try.underlying47 info3 rfl (by decide) (by omega) (.slice Av L1.length cv) L1 [(j : Int)] _ _ _ (fun _ => True) (fun _ => False) rfl rfl (Kd.R_mono RV.out (fun _ _ => trivial)) (Kd.R_reads' RL.out).2.2 (fun _ _ h => h) (fun _ h => h.elim) (fun _ _ => trivial) HB.out (below_size HB.out) (by have := HL1l.out; simp; omega) ?_
                          intro va w7c ho hb hg hat
                          obtain ⟨Aa, ca, ea⟩ := Kd.R_slice ho
                          subst ea
                          have AW2 := Aside0.mk (show ∀ b, (Value.slice Aa (L1 ++ [(j : Int)]).length ca).ownBlock = some b → b ≠ gb5 ∧ b ≠ gb8 ∧ b ≠ gb9 ∧ b ≠ gb13 ∧ (Value.slice (some ⟨g41, 0, none⟩) l0.length c41).ownBlock ≠ some b ∧ u11.ownBlock ≠ some b from fun b hb_ => by
                            rcases hat with q | ⟨b', q, q2⟩
                            · exact AW.out b (by rw [← q]; exact hb_)
                            · rw [hb_] at q
                              cases q
                              have q := q2
                              have q5 := blk_lt BK5.out
                              have q8 := blk_lt BK8.out
                              have q9 := blk_lt BK9.out
                              have q13 := blk_lt BK13.out
                              refine ⟨by omega, by omega, by omega, by omega, fun e => ?_, fun e => ?_⟩
                              · have := Kd.R_lt HO41.out b e; omega
                              · have := Kd.R_lt HO11.out b e; omega)
                          have RA := Aside0.mk (Kd.R_tight rfl ho)
                          have n0_ := Aside0.mk (blk_grown BK5.out hg (fun e => (AW.out gb5 e.symm).1 rfl))
                          have n1_ := Aside0.mk (blk_grown BK8.out hg (fun e => (AW.out gb8 e.symm).2.1 rfl))
                          have n2_ := Aside0.mk (blk_grown BK9.out hg (fun e => (AW.out gb9 e.symm).2.2.1 rfl))
                          have n3_ := Aside0.mk (blk_grown BK13.out hg (fun e => (AW.out gb13 e.symm).2.2.2.1 rfl))
                          have n4_ := Aside0.mk (Kd.R_grown HO41.out hg (fun k_ hk e => (AW.out k_ e.symm).2.2.2.2.1 hk.symm))
                          have n5_ := Aside0.mk (Kd.R_grown HO11.out hg (fun k_ hk e => (AW.out k_ e.symm).2.2.2.2.2 hk.symm))
                          have n6_ := Aside0.mk (hb)
                          clear BK5 BK8 BK9 BK13 HO41 HO11 HB ho hb hg hat RL RV
                          have BK5 := n0_
                          have BK8 := n1_
                          have BK9 := n2_
                          have BK13 := n3_
                          have HO41 := n4_
                          have HO11 := n5_
                          have HB := n6_
                          clear n0_ n1_ n2_ n3_ n4_ n5_ n6_
                          refine hK.out _ _ ⟨((blk_cell BK8.out i).trans (by rw [List.getElem?_toArray, List.getElem?_set, if_pos rfl, if_pos (by have := HL.out.2.2.2.2; omega)])), (blk_cell BK13.out 2).trans rfl⟩ (fun hHeld => ?_)
                          clear hK K
                          refine norm_ (a' := ?_) ?_ ?_
                          rotate_left
                          · show Act.put _ (some 114) _ = _
                            simp only [Act.put, List.setIfInBounds_toArray, List.set_cons_zero, List.set_cons_succ, i64_w, i32_w]
                            rfl
                          refine pure_ (i := 8) (N := some 115) (v := ?_) (a' := ?_) #[true, true, true, true, true, true, true, true, true, false] rfl rfl (by kernel_rfl) (fun _ _ _ h => h) (Or.inl ⟨by rfl, ?_⟩) ?_ ?_
                          rotate_left
                          · intro w'
                            go_simp
                            with_reducible rfl
                          rotate_left
                          · simp only [Act.put, List.setIfInBounds_toArray, List.set_cons_zero, List.set_cons_succ, i64_w, i32_w]
                            rfl
                          refine last_ (i := 9) (N := none) #[true, true, true, true, true, true, true, true, true, true] rfl rfl (by kernel_rfl) (by decide) (fun K hK => ?_)
                          have hs8 : w7c.cell? ⟨gb8, i, none⟩ = some (.slice Av L1.length cv) := ((blk_cell BK8.out i).trans (by rw [List.getElem?_toArray, List.getElem?_set, if_pos rfl, if_pos (by have := HL.out.2.2.2.2; omega)]))
                          have hfs8 := blk_frozen BK8.out i
                          refine skip_ (w1 := ?_) (by rfl) rfl ?_ ?_
                          rotate_left
                          · go_simp
                            rfl
                          refine hK.out _ _ ?_
                          clear hK K hs8 hfs8
                          refine done_ (by kernel_rfl) ?_
                          try go_wp2
                          go_meet
                          case rel =>
                            refine ⟨.slice Aa (L1 ++ [(j : Int)]).length ca, ⟨?_⟩, AW2, ⟨blk_far BK5.out ?_ _⟩, ⟨blk_put BK8.out i _ (by simp)⟩, ⟨blk_far BK9.out ?_ _⟩, ⟨blk_far BK13.out ?_ _⟩, ⟨?_⟩, ⟨?_⟩, ⟨below_set HB.out GE8.out⟩⟩
                            · exact Kd.R_far RA.out (fun k_ hk => (AW2.out k_ hk.symm).2.1) _
                            · exact N58.out
                            · exact N98.out
                            · exact fun h => M8.out h.symm
                            · exact Kd.R_far HO41.out (fun k_ hk => NO8.out k_ hk.symm) _
                            · exact Kd.R_far HO11.out (fun k_ hk => (HN11.out k_ hk.symm).2.1) _
                        · rw [if_neg ch] at HST
                          have HL2 : L2 = [] := by rw [NL2.out, if_neg ch]
                          subst HL2
                          have ch3 : hla.heard i ⟨e0, e1, e2⟩ = false := by simpa using ch
                          rw [ch3]
                          clear ch ch3
                          have NHH : Aside0 (hlc_Clock_Tick.f k (hla.sd cs a).f0 (hla.sd cs a).f1 e1 = some (n0, n1)) := ⟨HST⟩
                          clear HST
                          go_upto_region 31 with (fail)
                          have n0_ := Aside0.mk (blk_drew BK5.out)
                          have n1_ := Aside0.mk (blk_drew BK8.out)
                          have n2_ := Aside0.mk (blk_drew BK9.out)
                          have n3_ := Aside0.mk (blk_drew BK13.out)
                          have n4_ := Aside0.mk (Kd.R_drew HO41.out)
                          have n5_ := Aside0.mk (Kd.R_drew HO11.out)
                          have n6_ := Aside0.mk (below_drew1 HB.out)
                          have n7_ := Aside0.mk (Kd.R_drew RV.out)
                          clear BK5 BK8 BK9 BK13 HO41 HO11 HB RV
                          have BK5 := n0_
                          have BK8 := n1_
                          have BK9 := n2_
                          have BK13 := n3_
                          have HO41 := n4_
                          have HO11 := n5_
                          have HB := n6_
                          have RV := n7_
                          clear n0_ n1_ n2_ n3_ n4_ n5_ n6_ n7_
                          refine start_ (n := 9) (S := fun w' => w'.cell? ⟨gb5, a * 2, none⟩ = some (.int .i64 (hla.sd cs a).f0) ∧ w'.cell? ⟨gb5, a * 2 + 1, none⟩ = some (.int .i64 (hla.sd cs a).f1) ∧ w'.cell? ⟨gb13, 1, none⟩ = some (.int .i64 e1)) (ds := [8]) #[false, false, false, false, false, false, false, false, false] (by kernel_rfl) rfl rfl ⟨hla.cell0 BK5.out a (by have := HL.out.1; omega), hla.cell1 BK5.out a (by have := HL.out.1; omega), (blk_cell BK13.out 1).trans rfl⟩ (fun hHeld => ?_)
                          generalize w1c.drew = w2c at BK5 BK8 BK9 BK13 HO41 HO11 HB RV hHeld ⊢
                          refine pure_ (i := 0) (N := some 116) (v := ?_) (a' := ?_) #[true, false, false, false, false, false, false, false, false] rfl rfl (by kernel_rfl) (fun _ _ _ h => h) (Or.inl ⟨by rfl, ?_⟩) ?_ ?_
                          rotate_left
                          · intro w'
                            go_simp
                            with_reducible rfl
                          rotate_left
                          · simp only [Act.put, List.setIfInBounds_toArray, List.set_cons_zero, List.set_cons_succ, i64_w, i32_w]
                            rfl
                          refine pure_ (i := 1) (N := some 117) (v := ?_) (a' := ?_) #[true, true, false, false, false, false, false, false, false] rfl rfl (by kernel_rfl) (fun _ _ _ h => h) (Or.inl ⟨by rfl, ?_⟩) ?_ ?_
                          rotate_left
                          · intro w'
                            go_simp
                            with_reducible rfl
                          rotate_left
                          · simp only [Act.put, List.setIfInBounds_toArray, List.set_cons_zero, List.set_cons_succ, i64_w, i32_w]
                            rfl
                          refine pure_ (i := 4) (N := some 120) (v := ?_) (a' := ?_) #[true, true, false, false, true, false, false, false, false] rfl rfl (by kernel_rfl) (fun _ _ _ h => h) (Or.inl ⟨by rfl, ?_⟩) ?_ ?_
                          rotate_left
                          · intro w'
                            go_simp
                            with_reducible rfl
                          rotate_left
                          · simp only [Act.put, List.setIfInBounds_toArray, List.set_cons_zero, List.set_cons_succ, i64_w, i32_w]
                            rfl
                          refine pure_ (i := 2) (N := some 118) (v := ?_) (a' := ?_) #[true, true, true, false, true, false, false, false, false] rfl rfl (by kernel_rfl) (fun _ _ _ h => h) (Or.inl ⟨by rfl, ?_⟩) ?_ ?_
                          rotate_left
                          · intro w'
                            go_simp
                            with_reducible rfl
                          rotate_left
                          · simp only [Act.put, List.setIfInBounds_toArray, List.set_cons_zero, List.set_cons_succ, i64_w, i32_w]
                            rfl
                          refine take_ (i := 3) (N := some 119) (v := ?_) (a' := ?_) #[true, true, true, true, true, false, false, false, false] rfl rfl (by kernel_rfl) (fun _ _ _ h => h) (Or.inl ⟨by rfl, ?_⟩) hHeld ?_ ?_
                          rotate_left
                          · rintro w' ⟨s0, s1, s2⟩
                            go_simp
                            with_reducible rfl
                          rotate_left
                          · simp only [Act.put, List.setIfInBounds_toArray, List.set_cons_zero, List.set_cons_succ, i64_w, i32_w]
                            rfl
                          refine take_ (i := 5) (N := some 121) (v := ?_) (a' := ?_) #[true, true, true, true, true, true, false, false, false] rfl rfl (by kernel_rfl) (fun _ _ _ h => h) (Or.inl ⟨by rfl, ?_⟩) hHeld ?_ ?_
                          rotate_left
                          · rintro w' ⟨s0, s1, s2⟩
                            go_simp
                            with_reducible rfl
                          rotate_left
                          · simp only [Act.put, List.setIfInBounds_toArray, List.set_cons_zero, List.set_cons_succ, i64_w, i32_w]
                            rfl
                          refine one_ (i := 6) (N := some 122) #[true, true, true, true, true, true, true, false, false] rfl rfl (by kernel_rfl) (by decide) (fun K hK => ?_)
                          refine goes_ Try.func29 (by kernel_rfl) rfl #[.agg #[.int .i64 (hla.sd cs a).f0, .int .i64 (hla.sd cs a).f1], .int .i64 e1] (by rfl) rfl rfl (by (try simp only [List.map_toArray, List.map_cons, List.map_nil]); first | done | rfl) ?_
                          with_reducible refine (hlc_Clock_Tick.calls k _ _ _ _ _ _ NHH.out).mono ?_
                          rintro e w3c ⟨rfl, hb⟩
                          have n0_ := Aside0.mk (blk_below BK5.out hb)
                          have n1_ := Aside0.mk (blk_below BK8.out hb)
                          have n2_ := Aside0.mk (blk_below BK9.out hb)
                          have n3_ := Aside0.mk (blk_below BK13.out hb)
                          have n4_ := Aside0.mk (Kd.R_below HO41.out hb)
                          have n5_ := Aside0.mk (Kd.R_below HO11.out hb)
                          have n6_ := Aside0.mk (below_step HB.out hb)
                          have n7_ := Aside0.mk (Kd.R_below RV.out hb)
                          clear BK5 BK8 BK9 BK13 HO41 HO11 HB RV hb
                          have BK5 := n0_
                          have BK8 := n1_
                          have BK9 := n2_
                          have BK13 := n3_
                          have HO41 := n4_
                          have HO11 := n5_
                          have HB := n6_
                          have RV := n7_
                          clear n0_ n1_ n2_ n3_ n4_ n5_ n6_ n7_
                          refine ⟨_, rfl, ?_⟩
                          refine hK.out _ _ ⟨hla.cell0 BK5.out a (by have := HL.out.1; omega), hla.cell1 BK5.out a (by have := HL.out.1; omega), (blk_cell BK13.out 1).trans rfl⟩ (fun hHeld => ?_)
                          clear hK K
                          refine norm_ (a' := ?_) ?_ ?_
                          rotate_left
                          · show Act.put _ (some 122) _ = _
                            simp only [Act.put, List.setIfInBounds_toArray, List.set_cons_zero, List.set_cons_succ, i64_w, i32_w]
                            rfl
                          refine pure_ (i := 7) (N := some 123) (v := ?_) (a' := ?_) #[true, true, true, true, true, true, true, true, false] rfl rfl (by kernel_rfl) (fun _ _ _ h => h) (Or.inl ⟨by rfl, ?_⟩) ?_ ?_
                          rotate_left
                          · intro w'
                            go_simp
                            with_reducible rfl
                          rotate_left
                          · simp only [Act.put, List.setIfInBounds_toArray, List.set_cons_zero, List.set_cons_succ, i64_w, i32_w]
                            rfl
                          refine last_ (i := 8) (N := none) #[true, true, true, true, true, true, true, true, true] rfl rfl (by kernel_rfl) (by decide) (fun K hK => ?_)
                          have hs5 := hla.cell0 BK5.out a (by have := HL.out.1; omega)
                          have hs6 := hla.cell1 BK5.out a (by have := HL.out.1; omega)
                          have hf5 := blk_frozen BK5.out (a * 2)
                          have hf6 := blk_frozen BK5.out (a * 2 + 1)
                          refine skip_ (w1 := ?_) (by rfl) rfl ?_ ?_
                          rotate_left
                          · go_simp
                            rfl
                          refine hK.out _ _ ?_
                          clear hK K hs5 hs6 hf5 hf6 hHeld
                          refine done_ (by kernel_rfl) ?_
                          have n0_ : Aside0 (((w3c.setCell ⟨gb5, a * 2, none⟩ (.int .i64 n0)).setCell ⟨gb5, a * 2 + 1, none⟩ (.int .i64 n1)).heap[gb5]? = some (.cells (hla.row (cs.set a ⟨n0, n1⟩)) 45 (0, 0))) := ⟨hla.set01 BK5.out a (by have := HL.out.1; omega) _ _⟩
                          have n1_ : Aside0 (((w3c.setCell ⟨gb5, a * 2, none⟩ (.int .i64 n0)).setCell ⟨gb5, a * 2 + 1, none⟩ (.int .i64 n1)).heap[gb8]? = some (.cells (ar.set i (.slice Av L1.length cv)).toArray 48 (0, 0))) := ⟨blk_far (blk_far BK8.out N85.out _) N85.out _⟩
                          have n2_ : Aside0 (((w3c.setCell ⟨gb5, a * 2, none⟩ (.int .i64 n0)).setCell ⟨gb5, a * 2 + 1, none⟩ (.int .i64 n1)).heap[gb9]? = some (.cells (hla.irow la) 49 (0, 0))) := ⟨blk_far (blk_far BK9.out N95.out _) N95.out _⟩
                          have n3_ : Aside0 (((w3c.setCell ⟨gb5, a * 2, none⟩ (.int .i64 n0)).setCell ⟨gb5, a * 2 + 1, none⟩ (.int .i64 n1)).heap[gb13]? = some (.cells #[.int .i64 e0, .int .i64 e1, .int .i64 e2] 51 (0, 0))) := ⟨blk_far (blk_far BK13.out (fun h => M5.out h.symm) _) (fun h => M5.out h.symm) _⟩
                          have n4_ : Aside0 (Kd.R k36 36 ((w3c.setCell ⟨gb5, a * 2, none⟩ (.int .i64 n0)).setCell ⟨gb5, a * 2 + 1, none⟩ (.int .i64 n1)) w.heap.size (fun k_ => some k_ = (Value.slice (some ⟨g41, 0, none⟩) l0.length c41).ownBlock) (Value.slice (some ⟨g41, 0, none⟩) l0.length c41) sd) := ⟨Kd.R_far (Kd.R_far HO41.out (hla.away HO41.out BK5.out (by decide)) _) (hla.away HO41.out BK5.out (by decide)) _⟩
                          have n5_ : Aside0 (Kd.R k36 36 ((w3c.setCell ⟨gb5, a * 2, none⟩ (.int .i64 n0)).setCell ⟨gb5, a * 2 + 1, none⟩ (.int .i64 n1)) w.heap.size (fun k_ => some k_ = u11.ownBlock) u11 ss) := ⟨Kd.R_far (Kd.R_far HO11.out (hla.away HO11.out BK5.out (by decide)) _) (hla.away HO11.out BK5.out (by decide)) _⟩
                          have n6_ : Aside0 (Kd.R (Kd.int .i64) 3 ((w3c.setCell ⟨gb5, a * 2, none⟩ (.int .i64 n0)).setCell ⟨gb5, a * 2 + 1, none⟩ (.int .i64 n1)) w.heap.size (fun k_ => some k_ = (Value.slice Av L1.length cv).ownBlock) (.slice Av L1.length cv) L1) := ⟨Kd.R_far (Kd.R_far RV.out (hla.away RV.out BK5.out (by decide)) _) (hla.away RV.out BK5.out (by decide)) _⟩
                          have n7_ : Aside0 (Below w.heap.size w ((w3c.setCell ⟨gb5, a * 2, none⟩ (.int .i64 n0)).setCell ⟨gb5, a * 2 + 1, none⟩ (.int .i64 n1))) := ⟨below_set (below_set HB.out GE5.out) GE5.out⟩
                          clear BK5 BK8 BK9 BK13 HO41 HO11 RV HB 
                          have BK5 := n0_
                          have BK8 := n1_
                          have BK9 := n2_
                          have BK13 := n3_
                          have HO41 := n4_
                          have HO11 := n5_
                          have RV := n6_
                          have HB := n7_
                          clear n0_ n1_ n2_ n3_ n4_ n5_ n6_ n7_
                          try go_wp2
                          go_meet
                          case rel => exact ⟨.slice Av L1.length cv, ⟨by rw [List.append_nil]; exact RV.out⟩, AW, BK5, BK8, BK9, BK13, HO41, HO11, HB⟩
                      case rest =>
                        clear RV AW BK5 BK8 BK9 BK13 HO41 HO11 HB
                        obtain ⟨w8c, ew8⟩ : ∃ x, x = wc := ⟨_, rfl⟩
                        subst ew8
                        obtain ⟨vv2, RV, AW, BK5, BK8, BK9, BK13, HO41, HO11, HB⟩ := hcut
                        have HLB := Aside0.mk (show ∀ x ∈ L1 ++ L2, 0 ≤ x ∧ x < (i : Int) from by
                          intro x hx
                          rcases List.mem_append.1 hx with q | q
                          · rw [NL1.out] at q
                            split at q
                            · simp only [List.mem_singleton] at q
                              subst q
                              have := HLA.out a ha8
                              omega
                            · cases q
                          · rw [NL2.out] at q
                            split at q
                            · next hh =>
                              simp only [List.mem_singleton] at q
                              subst q
                              have q : (decide (0 ≤ x) && decide (x < (i : Int))) = true := hh
                              simpa using q
                            · cases q)
                        have HALL := Aside0.mk (show ∀ x ∈ L1 ++ L2, hla.less (hla.sd ss x.toNat).f0 (hla.sd ss x.toNat).f1 n0 n1 = true from by
                          intro x hx
                          have h := NALL.out
                          have e : hla.ahead i la ⟨e0, e1, e2⟩ = L1 ++ L2 := by
                            unfold hla.ahead
                            rw [NHAT.out, NL1.out, NL2.out]
                          rw [e] at h
                          exact List.all_eq_true.1 h x hx)
                        have HLL := Aside0.mk (show (L1 ++ L2).length ≤ 2 from by rw [List.length_append, NL1.out, NL2.out]; (repeat' split) <;> simp)
                        clear NALL NL1 NL2 HL1l
                        obtain ⟨L, HLe⟩ : ∃ l, l = L1 ++ L2 := ⟨_, rfl⟩
                        rw [← HLe] at RV HLB HALL HLL
                        clear HLe
                        obtain ⟨Av2, cv2, ev2⟩ := Kd.R_slice RV.out
                        subst ev2
                        have hx0 : w8c.cell? ⟨gb5, a * 2, none⟩ = some (.int .i64 n0) := (hla.cell0 BK5.out a (by simp; have := HL.out.1; omega)).trans (by rw [hla.sd_set _ _ (by have := HL.out.1; omega)])
                        have hx1 : w8c.cell? ⟨gb5, a * 2 + 1, none⟩ = some (.int .i64 n1) := (hla.cell1 BK5.out a (by simp; have := HL.out.1; omega)).trans (by rw [hla.sd_set _ _ (by have := HL.out.1; omega)])
                        have hi0 := (hla.elem HO41.out i (by omega)).1
                        have hi1 := (hla.elem HO41.out i (by omega)).2
                        have hif0 := (hla.elemf HO41.out i (by omega)).1
                        have hif1 := (hla.elemf HO41.out i (by omega)).2
                        have pil : ((i : Int) < (l0.length : Int)) = True := eq_true (by omega)
                        go_upto_region 33 with (fail)
                        clear hx0 hx1 hi0 hi1 hif0 hif1
                        have G41 := Aside0.mk (Kd.R_base HO41.out g41 rfl)
                        have n0_ : Aside0 (((w8c.setCell ⟨g41, i * 2, none⟩ (.int .i64 n0)).setCell ⟨g41, i * 2 + 1, none⟩ (.int .i64 n1)).heap[gb5]? = some (.cells (hla.row (cs.set a ⟨n0, n1⟩)) 45 (0, 0))) := ⟨blk_far (blk_far BK5.out (hla.away HO41.out BK5.out (by decide) g41 rfl).symm _) (hla.away HO41.out BK5.out (by decide) g41 rfl).symm _⟩
                        have n1_ : Aside0 (((w8c.setCell ⟨g41, i * 2, none⟩ (.int .i64 n0)).setCell ⟨g41, i * 2 + 1, none⟩ (.int .i64 n1)).heap[gb8]? = some (.cells (ar.set i (Value.slice Av2 L.length cv2)).toArray 48 (0, 0))) := ⟨blk_far (blk_far BK8.out (hla.away HO41.out BK8.out (by decide) g41 rfl).symm _) (hla.away HO41.out BK8.out (by decide) g41 rfl).symm _⟩
                        have n2_ : Aside0 (((w8c.setCell ⟨g41, i * 2, none⟩ (.int .i64 n0)).setCell ⟨g41, i * 2 + 1, none⟩ (.int .i64 n1)).heap[gb9]? = some (.cells (hla.irow la) 49 (0, 0))) := ⟨blk_far (blk_far BK9.out (hla.away HO41.out BK9.out (by decide) g41 rfl).symm _) (hla.away HO41.out BK9.out (by decide) g41 rfl).symm _⟩
                        have n3_ : Aside0 (((w8c.setCell ⟨g41, i * 2, none⟩ (.int .i64 n0)).setCell ⟨g41, i * 2 + 1, none⟩ (.int .i64 n1)).heap[gb13]? = some (.cells #[.int .i64 e0, .int .i64 e1, .int .i64 e2] 51 (0, 0))) := ⟨blk_far (blk_far BK13.out (hla.away HO41.out BK13.out (by decide) g41 rfl).symm _) (hla.away HO41.out BK13.out (by decide) g41 rfl).symm _⟩
                        have n4_ : Aside0 (Kd.R k36 36 ((w8c.setCell ⟨g41, i * 2, none⟩ (.int .i64 n0)).setCell ⟨g41, i * 2 + 1, none⟩ (.int .i64 n1)) w.heap.size (fun k_ => some k_ = u11.ownBlock) u11 ss) := ⟨Kd.R_far (Kd.R_far HO11.out (fun k_ hk e => (HN11.out k_ hk.symm).2.2.2 (by rw [show k_ = g41 from e]; rfl)) _) (fun k_ hk e => (HN11.out k_ hk.symm).2.2.2 (by rw [show k_ = g41 from e]; rfl)) _⟩
                        have n5_ : Aside0 (Kd.R (Kd.int .i64) 3 ((w8c.setCell ⟨g41, i * 2, none⟩ (.int .i64 n0)).setCell ⟨g41, i * 2 + 1, none⟩ (.int .i64 n1)) w.heap.size (fun k_ => some k_ = (Value.slice Av2 L.length cv2).ownBlock) (Value.slice Av2 L.length cv2) L) := ⟨Kd.R_far (Kd.R_far RV.out (fun k_ hk e => (AW.out k_ hk.symm).2.2.2.2.1 (by rw [show k_ = g41 from e]; rfl)) _) (fun k_ hk e => (AW.out k_ hk.symm).2.2.2.2.1 (by rw [show k_ = g41 from e]; rfl)) _⟩
                        have n6_ : Aside0 (Kd.R k36 36 ((w8c.setCell ⟨g41, i * 2, none⟩ (.int .i64 n0)).setCell ⟨g41, i * 2 + 1, none⟩ (.int .i64 n1)) w.heap.size (fun k_ => some k_ = (Value.slice (some ⟨g41, 0, none⟩) l0.length c41).ownBlock) (Value.slice (some ⟨g41, 0, none⟩) l0.length c41) (sd.set i ⟨n0, n1⟩)) := ⟨hla.store HO41.out i (by omega) n0 n1⟩
                        have n7_ : Aside0 (Below w.heap.size w ((w8c.setCell ⟨g41, i * 2, none⟩ (.int .i64 n0)).setCell ⟨g41, i * 2 + 1, none⟩ (.int .i64 n1))) := ⟨below_set (below_set HB.out G41.out) G41.out⟩
                        clear BK5 BK8 BK9 BK13 HO11 RV HO41 HB 
                        have BK5 := n0_
                        have BK8 := n1_
                        have BK9 := n2_
                        have BK13 := n3_
                        have HO11 := n4_
                        have RV := n5_
                        have HO41 := n6_
                        have HB := n7_
                        clear n0_ n1_ n2_ n3_ n4_ n5_ n6_ n7_
                        generalize ((w8c.setCell ⟨g41, i * 2, none⟩ (.int .i64 n0)).setCell ⟨g41, i * 2 + 1, none⟩ (.int .i64 n1)) = w9c at BK5 BK8 BK9 BK13 HO41 HO11 RV HB ⊢
                        have hsi : hla.sd (sd.set i ⟨n0, n1⟩) i = ⟨n0, n1⟩ := hla.sd_set _ _ (by have := HL.out.2.2.2.1; omega) _
                        have hi0 := (hla.elem HO41.out i (by omega)).1
                        have hi1 := (hla.elem HO41.out i (by omega)).2
                        rw [hsi] at hi0 hi1
                        have HSI := Aside0.mk hsi
                        clear hsi
                        go_upto_region 34 with ((with_reducible refine gate_dst (N := 137) rfl ?_); refine Kd.R_append k36 (w0 := w) w.heap.size rfl (.tmp 131) (.tmp 136) 46 36 (.agg #[.int .i64 0, .int .i64 0]) 16 rfl Try.underlying46 info36 rfl (by decide) (by omega) u11 ss (⟨n0, n1⟩ : S36) [.int .i64 n0, .int .i64 n1] (fun _ => True) (fun _ => False) rfl rfl (k36_mkM _ _ _ ⟨n0, n1⟩) (fun _ hk => hk.elim) (fun _ _ => trivial) (Kd.R_mono HO11.out (fun _ _ => trivial)) HB.out (below_size HB.out) (by have := HL.out.2.1; omega) ?_; intro vs w10c ho hb hg hat; have HS11 := Aside0.mk ho; have HB2 := Aside0.mk hb; have HG := Aside0.mk hg; have HAT2 := Aside0.mk hat; clear ho hb hg hat)
                        clear hi0 hi1
                        obtain ⟨As, cs_, es⟩ := Kd.R_slice HS11.out
                        subst es
                        rw [show (ss ++ [(⟨n0, n1⟩ : S36)]).length = i + 1 from by rw [List.length_append, HL.out.2.1]; rfl] at *
                        have AS := Aside0.mk (show ∀ b, (Value.slice As (i + 1) cs_).ownBlock = some b → b ≠ gb5 ∧ b ≠ gb8 ∧ b ≠ gb9 ∧ (Value.slice (some ⟨g41, 0, none⟩) l0.length c41).ownBlock ≠ some b ∧ (Value.slice Av2 L.length cv2).ownBlock ≠ some b from fun b hb_ => by
                          rcases HAT2.out with q | ⟨b', q, q2⟩
                          · have q3 : u11.ownBlock = some b := by rw [← q]; exact hb_
                            have q4 := HN11.out b q3
                            exact ⟨q4.1, q4.2.1, q4.2.2.1, q4.2.2.2, fun e => (AW.out b e).2.2.2.2.2 q3⟩
                          · rw [hb_] at q
                            cases q
                            have q5 := blk_lt BK5.out
                            have q8 := blk_lt BK8.out
                            have q9 := blk_lt BK9.out
                            refine ⟨by omega, by omega, by omega, fun e => ?_, fun e => ?_⟩
                            · have := Kd.R_lt HO41.out b e; omega
                            · have := Kd.R_lt RV.out b e; omega)
                        have n0_ := Aside0.mk (blk_grown BK5.out HG.out (fun e => (HN11.out gb5 e.symm).1 rfl))
                        have n1_ := Aside0.mk (blk_grown BK8.out HG.out (fun e => (HN11.out gb8 e.symm).2.1 rfl))
                        have n2_ := Aside0.mk (blk_grown BK9.out HG.out (fun e => (HN11.out gb9 e.symm).2.2.1 rfl))
                        have n3_ := Aside0.mk (Kd.R_grown HO41.out HG.out (fun k_ hk e => (HN11.out k_ e.symm).2.2.2 hk.symm))
                        have n4_ := Aside0.mk (Kd.R_grown RV.out HG.out (fun k_ hk e => (AW.out k_ hk.symm).2.2.2.2.2 e.symm))
                        have n5_ := Aside0.mk (HB2.out)
                        clear BK5 BK8 BK9 HO41 RV HB HO11 BK13 HG HAT2 HB2 AW
                        have BK5 := n0_
                        have BK8 := n1_
                        have BK9 := n2_
                        have HO41 := n3_
                        have RV := n4_
                        have HB := n5_
                        clear n0_ n1_ n2_ n3_ n4_ n5_
                        have hl0 := hla.icell BK9.out a (by have := HL.out.2.2.1; omega)
                        have hlf := blk_frozen BK9.out a
                        go_upto_region 35 with (fail)
                        clear hl0 hlf
                        have n0_ : Aside0 ((w10c.setCell ⟨gb9, a, none⟩ (.int .i64 (i : Int))).heap[gb5]? = some (.cells (hla.row (cs.set a ⟨n0, n1⟩)) 45 (0, 0))) := ⟨blk_far BK5.out N59.out _⟩
                        have n1_ : Aside0 ((w10c.setCell ⟨gb9, a, none⟩ (.int .i64 (i : Int))).heap[gb8]? = some (.cells (ar.set i (Value.slice Av2 L.length cv2)).toArray 48 (0, 0))) := ⟨blk_far BK8.out N89.out _⟩
                        have n2_ : Aside0 ((w10c.setCell ⟨gb9, a, none⟩ (.int .i64 (i : Int))).heap[gb9]? = some (.cells (hla.irow (la.set a (i : Int))) 49 (0, 0))) := ⟨hla.iset BK9.out a (i : Int)⟩
                        have n3_ : Aside0 (Kd.R k36 36 (w10c.setCell ⟨gb9, a, none⟩ (.int .i64 (i : Int))) w.heap.size (fun k_ => some k_ = (Value.slice (some ⟨g41, 0, none⟩) l0.length c41).ownBlock) (Value.slice (some ⟨g41, 0, none⟩) l0.length c41) (sd.set i ⟨n0, n1⟩)) := ⟨Kd.R_far HO41.out (hla.away HO41.out BK9.out (by decide)) _⟩
                        have n4_ : Aside0 (Kd.R k36 36 (w10c.setCell ⟨gb9, a, none⟩ (.int .i64 (i : Int))) w.heap.size (fun k_ => some k_ = (Value.slice As (i + 1) cs_).ownBlock) (.slice As (i + 1) cs_) (ss ++ [⟨n0, n1⟩])) := ⟨Kd.R_far (Kd.R_tight rfl HS11.out) (hla.away HS11.out BK9.out (by decide)) _⟩
                        have n5_ : Aside0 (Kd.R (Kd.int .i64) 3 (w10c.setCell ⟨gb9, a, none⟩ (.int .i64 (i : Int))) w.heap.size (fun k_ => some k_ = (Value.slice Av2 L.length cv2).ownBlock) (Value.slice Av2 L.length cv2) L) := ⟨Kd.R_far RV.out (hla.away RV.out BK9.out (by decide)) _⟩
                        have n6_ : Aside0 (Below w.heap.size w (w10c.setCell ⟨gb9, a, none⟩ (.int .i64 (i : Int)))) := ⟨below_set HB.out GE9.out⟩
                        clear BK5 BK8 BK9 HO41 HS11 RV HB 
                        have BK5 := n0_
                        have BK8 := n1_
                        have BK9 := n2_
                        have HO41 := n3_
                        have HS11 := n4_
                        have RV := n5_
                        have HB := n6_
                        clear n0_ n1_ n2_ n3_ n4_ n5_ n6_
                        generalize (w10c.setCell ⟨gb9, a, none⟩ (.int .i64 (i : Int))) = w11c at BK5 BK8 BK9 HO41 HS11 RV HB ⊢
                        have h8 : w11c.cell? ⟨gb8, i, none⟩ = some (Value.slice Av2 L.length cv2) := (blk_cell BK8.out i).trans (by rw [List.getElem?_toArray, List.getElem?_set, if_pos rfl, if_pos (by have := HL.out.2.2.2.2; omega)])
                        go_upto_region 36 with (fail)
                        clear h8
                        obtain ⟨g11, eg11⟩ := hla.flat HS11.out (by omega)
                        subst eg11
                        go_loopg [145] L.length (fun kq v145 w' => ∃ m : Nat, v145 = .int .i64 (m : Int) ∧ Aside0 (m + kq = L.length) ∧ Aside0 (Below w11c.heap.size w11c w'))
                        case atStart => exact ⟨0, rfl, ⟨by omega⟩, ⟨Below.refl _ _⟩⟩
                        case round =>
                          obtain ⟨m, rfl, HM, HBL⟩ := hrel
                          by_cases hlm : (m : Int) < (L.length : Int)
                          · obtain ⟨gv, egv⟩ := hla.flat RV.out (by omega)
                            subst egv
                            have hv0 := hla.ielem (Kd.R_below RV.out HBL.out) m (by omega)
                            obtain ⟨x, hx⟩ : ∃ x, x = L.getD m 0 := ⟨_, rfl⟩
                            rw [← hx] at hv0
                            have hmem : x ∈ L := by
                              rw [hx, List.getD_eq_getElem?_getD, List.getElem?_eq_getElem (show m < L.length by omega)]
                              exact List.getElem_mem _
                            have hb1 := HLB.out x hmem
                            have hls := HALL.out x hmem
                            obtain ⟨j, ej⟩ : ∃ j : Nat, x = (j : Int) := ⟨x.toNat, by omega⟩
                            subst ej
                            have hls2 : hla.less (hla.sd ss j).f0 (hla.sd ss j).f1 n0 n1 = true := hls
                            have NLS := Aside0.mk ((hla.less_eq _ _ _ _).trans (congrArg some hls2))
                            have NHX := Aside0.mk hx
                            have hji : j < i := by omega
                            clear hx hmem hls hls2 hb1
                            have pm := eq_true (show (0 : Int) ≤ (m : Int) by omega)
                            have NHM := Aside0.mk hlm
                            have hm39 : (m : Int) ≤ 39 := by have := HLL.out; omega
                            have qm := eq_true hlm
                            have pj : ((j : Int) < ((i + 1 : Nat) : Int)) = True := eq_true (by omega)
                            have qj : (0 ≤ (j : Int)) = True := eq_true (by omega)
                            have pi : ((i : Int) < ((i + 1 : Nat) : Int)) = True := eq_true (by omega)
                            have pj2 : ((j : Int) < (i : Int) + 1) = True := eq_true (by omega)
                            have pi2 : ((i : Int) < (i : Int) + 1) = True := eq_true (by omega)
                            go_upto_region 38 with (fail)
                            clear hv0
                            have HS12 := Aside0.mk (Kd.R_below HS11.out HBL.out)
                            have n0_ := Aside0.mk (below_drew1 HBL.out)
                            have n1_ := Aside0.mk (Kd.R_drew HS12.out)
                            clear HBL HS12
                            have HBL := n0_
                            have HS12 := n1_
                            clear n0_ n1_
                            refine start_ (n := 10) (S := fun w' => w'.cell? ⟨g11, j * 2, none⟩ = some (.int .i64 (hla.sd ss j).f0) ∧ w'.cell? ⟨g11, j * 2 + 1, none⟩ = some (.int .i64 (hla.sd ss j).f1) ∧ w'.cell? ⟨g11, i * 2, none⟩ = some (.int .i64 n0) ∧ w'.cell? ⟨g11, i * 2 + 1, none⟩ = some (.int .i64 n1)) (ds := []) #[false, false, false, false, false, false, false, false, false, false] (by kernel_rfl) rfl rfl ⟨(hla.elem HS12.out j (by omega)).1.trans (by rw [hla.sd_app _ _ _ (by have := HL.out.2.1; omega)]), (hla.elem HS12.out j (by omega)).2.trans (by rw [hla.sd_app _ _ _ (by have := HL.out.2.1; omega)]), (hla.elem HS12.out i (by omega)).1.trans (by rw [hla.sd_last _ _ _ HL.out.2.1.symm]), (hla.elem HS12.out i (by omega)).2.trans (by rw [hla.sd_last _ _ _ HL.out.2.1.symm])⟩ (fun hHeld => ?_)
                            generalize wr.drew = wr2 at HBL HS12 hHeld ⊢
                            refine pure_ (i := 0) (N := some 149) (v := ?_) (a' := ?_) #[true, false, false, false, false, false, false, false, false, false] rfl rfl (by kernel_rfl) (fun _ _ _ h => h) (Or.inl ⟨by rfl, ?_⟩) ?_ ?_
                            rotate_left
                            · intro w'
                              go_simp
                              with_reducible rfl
                            rotate_left
                            · simp only [Act.put, List.setIfInBounds_toArray, List.set_cons_zero, List.set_cons_succ, i64_w, i32_w]
                              rfl
                            refine pure_ (i := 1) (N := some 150) (v := ?_) (a' := ?_) #[true, true, false, false, false, false, false, false, false, false] rfl rfl (by kernel_rfl) (fun _ _ _ h => h) (Or.inl ⟨by rfl, ?_⟩) ?_ ?_
                            rotate_left
                            · intro w'
                              go_simp
                              with_reducible rfl
                            rotate_left
                            · simp only [Act.put, List.setIfInBounds_toArray, List.set_cons_zero, List.set_cons_succ, i64_w, i32_w]
                              rfl
                            refine pure_ (i := 4) (N := some 153) (v := ?_) (a' := ?_) #[true, true, false, false, true, false, false, false, false, false] rfl rfl (by kernel_rfl) (fun _ _ _ h => h) (Or.inl ⟨by rfl, ?_⟩) ?_ ?_
                            rotate_left
                            · intro w'
                              go_simp
                              with_reducible rfl
                            rotate_left
                            · simp only [Act.put, List.setIfInBounds_toArray, List.set_cons_zero, List.set_cons_succ, i64_w, i32_w]
                              rfl
                            refine pure_ (i := 5) (N := some 154) (v := ?_) (a' := ?_) #[true, true, false, false, true, true, false, false, false, false] rfl rfl (by kernel_rfl) (fun _ _ _ h => h) (Or.inl ⟨by rfl, ?_⟩) ?_ ?_
                            rotate_left
                            · intro w'
                              go_simp
                              with_reducible rfl
                            rotate_left
                            · simp only [Act.put, List.setIfInBounds_toArray, List.set_cons_zero, List.set_cons_succ, i64_w, i32_w]
                              rfl
                            refine pure_ (i := 2) (N := some 151) (v := ?_) (a' := ?_) #[true, true, true, false, true, true, false, false, false, false] rfl rfl (by kernel_rfl) (fun _ _ _ h => h) (Or.inl ⟨by rfl, ?_⟩) ?_ ?_
                            rotate_left
                            · intro w'
                              go_simp
                              with_reducible rfl
                            rotate_left
                            · simp only [Act.put, List.setIfInBounds_toArray, List.set_cons_zero, List.set_cons_succ, i64_w, i32_w]
                              rfl
                            refine pure_ (i := 6) (N := some 155) (v := ?_) (a' := ?_) #[true, true, true, false, true, true, true, false, false, false] rfl rfl (by kernel_rfl) (fun _ _ _ h => h) (Or.inl ⟨by rfl, ?_⟩) ?_ ?_
                            rotate_left
                            · intro w'
                              go_simp
                              with_reducible rfl
                            rotate_left
                            · simp only [Act.put, List.setIfInBounds_toArray, List.set_cons_zero, List.set_cons_succ, i64_w, i32_w]
                              rfl
                            refine take_ (i := 3) (N := some 152) (v := ?_) (a' := ?_) #[true, true, true, true, true, true, true, false, false, false] rfl rfl (by kernel_rfl) (fun _ _ _ h => h) (Or.inl ⟨by rfl, ?_⟩) hHeld ?_ ?_
                            rotate_left
                            · rintro w' ⟨s0, s1, s2, s3⟩
                              go_simp
                              with_reducible rfl
                            rotate_left
                            · simp only [Act.put, List.setIfInBounds_toArray, List.set_cons_zero, List.set_cons_succ, i64_w, i32_w]
                              rfl
                            refine take_ (i := 7) (N := some 156) (v := ?_) (a' := ?_) #[true, true, true, true, true, true, true, true, false, false] rfl rfl (by kernel_rfl) (fun _ _ _ h => h) (Or.inl ⟨by rfl, ?_⟩) hHeld ?_ ?_
                            rotate_left
                            · rintro w' ⟨s0, s1, s2, s3⟩
                              go_simp
                              with_reducible rfl
                            rotate_left
                            · simp only [Act.put, List.setIfInBounds_toArray, List.set_cons_zero, List.set_cons_succ, i64_w, i32_w]
                              rfl
                            refine one_ (i := 8) (N := some 157) #[true, true, true, true, true, true, true, true, true, false] rfl rfl (by kernel_rfl) (by decide) (fun K hK => ?_)
                            refine goes_ Try.func30 (by kernel_rfl) rfl #[.agg #[.int .i64 (hla.sd ss j).f0, .int .i64 (hla.sd ss j).f1], .agg #[.int .i64 n0, .int .i64 n1]] (by rfl) rfl rfl (by (try simp only [List.map_toArray, List.map_cons, List.map_nil]); first | done | rfl) ?_
                            with_reducible refine (hlc_Less.calls _ _ _ _ _ _ NLS.out).mono ?_
                            rintro e w13c ⟨rfl, hb⟩
                            have n0_ := Aside0.mk (below_step HBL.out hb)
                            have n1_ := Aside0.mk (Kd.R_below HS12.out hb)
                            clear HBL HS12 hb
                            have HBL := n0_
                            have HS12 := n1_
                            clear n0_ n1_
                            refine ⟨_, rfl, ?_⟩
                            refine hK.out _ _ ⟨(hla.elem HS12.out j (by omega)).1.trans (by rw [hla.sd_app _ _ _ (by have := HL.out.2.1; omega)]), (hla.elem HS12.out j (by omega)).2.trans (by rw [hla.sd_app _ _ _ (by have := HL.out.2.1; omega)]), (hla.elem HS12.out i (by omega)).1.trans (by rw [hla.sd_last _ _ _ HL.out.2.1.symm]), (hla.elem HS12.out i (by omega)).2.trans (by rw [hla.sd_last _ _ _ HL.out.2.1.symm])⟩ (fun hHeld => ?_)
                            clear hK K
                            refine norm_ (a' := ?_) ?_ ?_
                            rotate_left
                            · show Act.put _ (some 157) _ = _
                              simp only [Act.put, List.setIfInBounds_toArray, List.set_cons_zero, List.set_cons_succ, i64_w, i32_w]
                              rfl
                            refine pure_ (i := 9) (N := some 158) (v := ?_) (a' := ?_) #[true, true, true, true, true, true, true, true, true, true] rfl rfl (by kernel_rfl) (fun _ _ _ h => h) (Or.inl ⟨by rfl, ?_⟩) ?_ ?_
                            rotate_left
                            · intro w'
                              go_simp
                              with_reducible rfl
                            rotate_left
                            · simp only [Act.put, List.setIfInBounds_toArray, List.set_cons_zero, List.set_cons_succ, i64_w, i32_w]
                              rfl
                            refine done_ (by kernel_rfl) ?_
                            go_wp2
                            go_roundg (gk - 1)
                            case measure => have := HM.out; have := NHM.out; omega
                            case rel => exact ⟨m + 1, by go_num, ⟨by have := HM.out; omega⟩, HBL⟩
                          · have hm : m = L.length := by have := HM.out; omega
                            subst hm
                            clear hlm
                            go_wp2
                            go_roundg (gk0 - 1)
                            case measure => have := HI.out; omega
                            case rel =>
                              refine ⟨i + 1, cs.set a ⟨n0, n1⟩, ss ++ [⟨n0, n1⟩], la.set a (i : Int), sd.set i ⟨n0, n1⟩, ar.set i (Value.slice Av2 L.length cv2), by go_num, ⟨by have := HI.out; omega⟩, NH, ⟨?_⟩, ⟨fun b hb => ?_⟩, ⟨fun j hj => ?_⟩, ⟨fun j h1 h2 => ?_⟩, ⟨blk_below BK5.out HBL.out⟩, ⟨blk_below BK8.out HBL.out⟩, ⟨blk_below BK9.out HBL.out⟩, ⟨Kd.R_mono (Kd.R_below HO41.out HBL.out) (fun _ _ => trivial)⟩, ⟨Kd.R_mono (Kd.R_below HS11.out HBL.out) (fun _ _ => trivial)⟩, ⟨fun b hb => ?_⟩, ⟨below_step HB.out HBL.out⟩⟩
                              · obtain ⟨q1, q2, q3, q4, q5⟩ := HL.out
                                exact ⟨by rw [List.length_set]; exact q1, by rw [List.length_append, q2]; rfl, by rw [List.length_set]; exact q3, by rw [List.length_set]; exact q4, by rw [List.length_set]; exact q5⟩
                              · simp only [List.getD_eq_getElem?_getD, List.getElem?_set]
                                by_cases q : a = b
                                · subst q
                                  rw [if_pos rfl, if_pos (by have := HL.out.2.2.1; omega)]
                                  show (i : Int) < _
                                  omega
                                · rw [if_neg q, ← List.getD_eq_getElem?_getD]
                                  have := HLA.out b hb
                                  omega
                              · by_cases q : j = i
                                · subst q
                                  rw [HSI.out, hla.sd_last _ _ _ HL.out.2.1.symm]
                                · rw [hla.sd_app _ _ _ (by have := HL.out.2.1; omega), ← HSD.out j (by omega)]
                                  unfold hla.sd
                                  simp only [List.getD_eq_getElem?_getD, List.getElem?_set]
                                  rw [if_neg (fun z => q z.symm)]
                              · rw [List.getElem?_set, if_neg (by omega)]
                                exact HAR.out j (by omega) h2
                              · have q := AS.out b hb
                                exact ⟨q.1, q.2.1, q.2.2.1, q.2.2.2.1⟩
                · have hi : i = l0.length := by have := HI.out; omega
                  subst hi
                  have hr : r = true := hT.out
                  subst hr
                  go_wp2
                  go_ret
                  exact ⟨rfl, HB.out⟩
  · rw [if_neg c4] at H
    exact absurd ((Option.some.inj H).trans hT.out) (by decide)

end Go.Proofs.Ytigpigfoahlfjaa.Q
