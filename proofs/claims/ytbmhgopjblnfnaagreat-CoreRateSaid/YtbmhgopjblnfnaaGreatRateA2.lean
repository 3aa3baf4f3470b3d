/- The walks, the protocol's law: part 2. -/
import Derived.Test.YtbmhgopjblnfnaaGreatRateA1
set_option linter.unusedVariables false
set_option linter.unusedSimpArgs false
set_option maxHeartbeats 4000000
set_option maxRecDepth 100000
namespace Go.Proofs.YtbmhgopjblnfnaaGreat.S
open Go Go.Proofs Go.RowKit Go.Proofs.YtbmhgopjblnfnaaGreatW.PrintLast Tryz
theorem f193_0 : tfield prog 193 0 = some 0 := by kernel_rfl
theorem f287_0 : tfield prog 287 0 = some 0 := by kernel_rfl
theorem f287_1 : tfield prog 287 1 = some 1 := by kernel_rfl
theorem m191 : NT prog 191 3 287 := show tmap prog 191 = some (3, 287, .int .i64, .agg #[.int .i64 0, .int .i64 0]) from by kernel_rfl
theorem p193 : tplaces prog 193 = some [(0, 1)] := by kernel_rfl
theorem q125 : tptr prog 125 = true := by kernel_rfl
theorem t191 : tsz prog 191 = some (false, 1) := by kernel_rfl
theorem t287 : tsz prog 287 = some (true, 2) := by kernel_rfl
theorem z193 : tzero prog 193 = some [.map none] := by kernel_rfl
theorem z287 : tzero prog 287 = some [.int .i64 0, .int .i64 0] := by kernel_rfl
def hearE (k : Int) (l : List Nb) : Int := if k < 0 ∨ 48 ≤ k then 1 else if hasN k l = false ∧ l.length = 16 then 7 else 0
def hearL (k : Int) (l : List Nb) (clock : Nat) : List Nb × Nat := if hearE k l = 0 then setN k (ageN k l) 0 l clock else (l, clock)
theorem hearL_ok {k : Int} {l : List Nb} {clock : Nat} (h : NOk l clock) : NOk (hearL k l clock).1 (hearL k l clock).2 := by
 unfold hearL
 split
 ·exact h.set _ _ _
 ·exact h
theorem one_bn {l : List Nb} {c : Nat} (h : NOk l c) {x y : Nb} (hx : x ∈ l) (hy : y ∈ l) (e : x.born = y.born) : x = y := by
 obtain ⟨i, hi, rfl⟩ := List.getElem_of_mem hx
 obtain ⟨j, hj, rfl⟩ := List.getElem_of_mem hy
 have := List.nodup_iff_pairwise_ne.1 h.bn
 rcases Nat.lt_trichotomy i j with q | q | q
 ·exact absurd e (by have := List.pairwise_iff_getElem.1 this i j (by simpa using hi) (by simpa using hj) q; simpa using this)
 ·subst q; rfl
 ·exact absurd e.symm (by have := List.pairwise_iff_getElem.1 this j i (by simpa using hj) (by simpa using hi) q; simpa using this)
theorem m_New  : Spec prog 67 [] [] [] (fun v Ln => ∃ tb r, v = .pointer (some ⟨tb, 0, none⟩) ∧ Ln = [blk tb [.map (some r)] 193, nmap r [] 0]) := by
 refine Spec.en func67 ntmps67 fun w0 => ?_
 refine G.sr fun _ K1 => ?_
 refine G.M 0 ?_
 refine G.nk K1 ?_
 refine G.sr fun _ K2 => ?_
 refine G.mke 1 .map fun r => ?_
 refine G.V 2 (.build z193 p193 (cs := #[.map (some r)])) ?_
 refine G.mk 3 .bx fun tb => ?_
 refine G.M 0 ?_
 refine G.nk K2 ?_
 exact G.ret (G.F [0, 0] (.one Tryz.results67) ⟨tb, r, rfl, rfl⟩)
theorem m_Age (tb r clock : Nat) (l : List Nb) (hN : NOk l clock) (k : Int) : Spec prog 181 [.pointer (some ⟨tb, 0, none⟩), .int .i64 k] [] [blk tb [.map (some r)] 193, nmap r l clock] (fun v Ln => v = .tuple #[.int .i64 (ageN k l), .bool (hasN k l)] ∧ Ln = []) := by
 refine Spec.en func181 ntmps181 fun w0 => ?_
 refine G.sr fun _ K1 => ?_
 refine G.M2 4 5 ?_
 refine G.nk K1 ?_
 refine G.Z fun _ K2 => ?_
 refine G.sr fun _ K3 => ?_
 refine G.M 8 ?_
 refine G.V 9 (.isnil q125) ?_
 refine G.nk K3 ?_
 refine G.no rfl ?_
 refine G.sk K2 ?_
 refine G.sr fun _ K4 => ?_
 refine G.M 11 ?_
 refine G.V 12 .nc ?_
 refine G.V 13 (.fa f193_0 0) ?_
 refine G.V 14 (.ld t191 0) ?_
 refine G.M 15 ?_
 refine G.V 16 (.lookN m191 1 hN) ?_
 refine G.M 10 ?_
 refine G.V 17 .ext ?_
 refine G.V 18 .ext ?_
 refine G.mk 6 (.al z287) fun g6 => ?_
 refine G.sn 0 (.st t287 0) rfl ?_
 refine G.M 7 ?_
 refine G.nk K4 ?_
 refine G.sr fun _ K5 => ?_
 refine G.V 19 (.fa f287_0 0) ?_
 refine G.V 20 (.ld t3 0) ?_
 refine G.M3 21 4 5 ?_
 refine G.nk K5 ?_
 exact G.ret (G.F [] (.two Tryz.results181) ⟨rfl, rfl⟩)
theorem m_Hear (tb r clock : Nat) (l : List Nb) (hN : NOk l clock) (k : Int) : Spec prog 182 [.pointer (some ⟨tb, 0, none⟩), .int .i64 k] [nmap r l clock] [blk tb [.map (some r)] 193] (fun v Ln => v = .int .i64 (hearE k l) ∧ Ln = [nmap r (hearL k l clock).1 (hearL k l clock).2]) := by
 refine Spec.en func182 ntmps182 fun w0 => ?_
 refine G.sr fun _ K1 => ?_
 refine G.M 4 ?_
 refine G.nk K1 ?_
 refine G.Z fun _ K2 => ?_
 refine G.sr fun _ K3 => ?_
 refine G.M 7 ?_
 refine G.V 8 (.isnil q125) ?_
 refine G.nk K3 ?_
 refine G.no rfl ?_
 refine G.sk K2 ?_
 refine G.Z fun _ K4 => ?_
 refine G.sr fun _ K5 => ?_
 refine G.M 9 ?_
 refine G.V 10 .bin ?_
 refine G.M 11 ?_
 cases hg6 : (decide (k < 0) : Bool)
 have dhg6 := of_decide_eq_false hg6
 refine G.M 12 ?_
 refine G.V 13 .bin ?_
 refine G.V 14 .pick ?_
 refine G.nk K5 ?_
 refine G.cond rfl (fun hc14 => ?_) (fun hc14 => ?_)
 have dhc14 := of_decide_eq_true hc14
 refine G.sr fun _ K7 => ?_
 refine G.M 4 ?_
 refine G.nk K7 ?_
 exact G.ret (G.F [0] (.one Tryz.results182) ⟨by unfold hearE; first | (rw [if_pos (by omega)]; done) | (rw [if_neg (by omega), if_pos (by simp_all; omega)]; done) | (rw [if_neg (by omega), if_neg (by first | (simp_all; done) | (simp_all; omega))]; done), by unfold hearL; rw [if_neg (by unfold hearE; first | (rw [if_pos (by omega)]; decide) | (rw [if_neg (by omega), if_pos (by simp_all; omega)]; decide))]⟩)
 have dhc14 := of_decide_eq_false hc14
 refine G.sk K4 ?_
 refine G.sr fun _ K8 => ?_
 refine G.M 16 ?_
 refine G.V 17 .nc ?_
 refine G.V 18 (.fa f193_0 0) ?_
 refine G.V 19 (.ld t191 1) ?_
 refine G.M 20 ?_
 refine G.V 21 (.lookN m191 0 hN) ?_
 refine G.M 15 ?_
 refine G.V 22 .ext ?_
 refine G.V 23 .ext ?_
 refine G.mk 5 (.al z287) fun g5 => ?_
 refine G.sn 0 (.st t287 0) rfl ?_
 refine G.M 6 ?_
 refine G.nk K8 ?_
 refine G.Z fun _ K9 => ?_
 refine G.sr fun _ K10 => ?_
 refine G.M 24 ?_
 refine G.V 25 .not ?_
 refine G.M 26 ?_
 cases hg11 : (hasN k l : Bool)
 refine G.M 27 ?_
 refine G.V 28 .nc ?_
 refine G.V 29 (.fa f193_0 0) ?_
 refine G.V 30 (.ld t191 2) ?_
 refine G.V 31 (.lenN m191 1) ?_
 refine G.V 32 .bin ?_
 refine G.V 33 .pick ?_
 refine G.nk K10 ?_
 refine G.cond rfl (fun hc33 => ?_) (fun hc33 => ?_)
 have dhc33 := eq_of_beq hc33
 refine G.sr fun _ K12 => ?_
 refine G.M 4 ?_
 refine G.nk K12 ?_
 exact G.ret (G.F [1] (.one Tryz.results182) ⟨by unfold hearE; first | (rw [if_pos (by omega)]; done) | (rw [if_neg (by omega), if_pos (by simp_all; omega)]; done) | (rw [if_neg (by omega), if_neg (by first | (simp_all; done) | (simp_all; omega))]; done), by unfold hearL; rw [if_neg (by unfold hearE; first | (rw [if_pos (by omega)]; decide) | (rw [if_neg (by omega), if_pos (by simp_all; omega)]; decide))]⟩)
 have dhc33 := ne_of_beq_false hc33
 refine G.sk K9 ?_
 refine G.sr fun _ K13 => ?_
 refine G.V 34 (.fa f287_1 1) ?_
 refine G.sn 0 (.st t3 0) rfl ?_
 refine G.nk K13 ?_
 refine G.Z fun _ K14 => ?_
 refine G.draw 7 [0] [0] [] ?_
 refine D.V 0 35 1 .mv ?_
 refine D.V 1 36 3 .nc ?_
 refine D.V 2 37 7 (.fa f193_0 0) ?_
 refine D.V 4 39 23 .mv ?_
 refine D.T 3 38 31 (.ld t191 1) [0] [0] ?_
 refine D.T 5 40 63 (.lda t287 0 (vs := [.int .i64 (ageN k l), .int .i64 0])) [0] [0] ?_
 refine D.chk 6 127 1 (.putN m191 1 hN) [0] [0]  ?_
 try dsimp only [List.set]
 refine D.done ?_
 refine K14 _ _ _ ?_
 refine G.sr fun _ K15 => ?_
 refine G.M 4 ?_
 refine G.nk K15 ?_
 exact G.ret (G.F [1] (.one Tryz.results182) ⟨by unfold hearE; first | (rw [if_pos (by omega)]; done) | (rw [if_neg (by omega), if_pos (by simp_all; omega)]; done) | (rw [if_neg (by omega), if_neg (by first | (simp_all; done) | (simp_all; omega))]; done), by unfold hearL; rw [if_pos (by unfold hearE; rw [if_neg (by omega), if_neg (by first | (simp_all; done) | (simp_all; omega))])]⟩)
 refine G.O4 27 28 29 30 ?_
 refine G.O2 31 32 ?_
 refine G.V 33 .pick ?_
 refine G.nk K10 ?_
 refine G.no rfl ?_
 refine G.sk K9 ?_
 refine G.sr fun _ K16 => ?_
 refine G.V 34 (.fa f287_1 1) ?_
 refine G.sn 0 (.st t3 0) rfl ?_
 refine G.nk K16 ?_
 refine G.Z fun _ K17 => ?_
 refine G.draw 7 [0] [0] [] ?_
 refine D.V 0 35 1 .mv ?_
 refine D.V 1 36 3 .nc ?_
 refine D.V 2 37 7 (.fa f193_0 0) ?_
 refine D.V 4 39 23 .mv ?_
 refine D.T 3 38 31 (.ld t191 1) [0] [0] ?_
 refine D.T 5 40 63 (.lda t287 0 (vs := [.int .i64 (ageN k l), .int .i64 0])) [0] [0] ?_
 refine D.chk 6 127 1 (.putN m191 1 hN) [0] [0]  ?_
 try dsimp only [List.set]
 refine D.done ?_
 refine K17 _ _ _ ?_
 refine G.sr fun _ K18 => ?_
 refine G.M 4 ?_
 refine G.nk K18 ?_
 exact G.ret (G.F [1] (.one Tryz.results182) ⟨by unfold hearE; first | (rw [if_pos (by omega)]; done) | (rw [if_neg (by omega), if_pos (by simp_all; omega)]; done) | (rw [if_neg (by omega), if_neg (by first | (simp_all; done) | (simp_all; omega))]; done), by unfold hearL; rw [if_pos (by unfold hearE; rw [if_neg (by omega), if_neg (by first | (simp_all; done) | (simp_all; omega))])]⟩)
 have dhg6 := of_decide_eq_true hg6
 refine G.O2 12 13 ?_
 refine G.V 14 .pick ?_
 refine G.nk K5 ?_
 refine G.yes rfl ?_
 refine G.sr fun _ K19 => ?_
 refine G.M 4 ?_
 refine G.nk K19 ?_
 exact G.ret (G.F [0] (.one Tryz.results182) ⟨by unfold hearE; first | (rw [if_pos (by omega)]; done) | (rw [if_neg (by omega), if_pos (by simp_all; omega)]; done) | (rw [if_neg (by omega), if_neg (by first | (simp_all; done) | (simp_all; omega))]; done), by unfold hearL; rw [if_neg (by unfold hearE; first | (rw [if_pos (by omega)]; decide) | (rw [if_neg (by omega), if_pos (by simp_all; omega)]; decide))]⟩)
structure NBd (l : List Nb) : Prop where
 b : ∀ x ∈ l, (0 ≤ x.age ∧ x.age ≤ 1073741824) ∧ (0 ≤ x.quiet ∧ x.quiet ≤ 1073741824)
def tick1 (x : Nb) : Nb := if x.quiet > 2 then { x with quiet := mn (x.quiet + 1) 1073741824 } else if x.quiet = 0 then { x with age := mn (x.age + 1) 1073741824, quiet := mn (x.quiet + 1) 1073741824 } else { x with age := 0, quiet := mn (x.quiet + 1) 1073741824 }
def tickS (seen : List Nat) (l : List Nb) : List Nb := l.map fun x => if x.born ∈ seen then tick1 x else x
def tickL (l : List Nb) : List Nb := (l.filter fun x => !decide (x.quiet > 2)).map tick1
theorem tick1_key (x : Nb) : (tick1 x).key = x.key ∧ (tick1 x).born = x.born := by unfold tick1; split <;> (try split) <;> exact ⟨rfl, rfl⟩
theorem tickS_key (seen : List Nat) (l : List Nb) : (tickS seen l).map (·.key) = l.map (·.key) := by
 unfold tickS; rw [List.map_map]; apply List.map_congr_left; intro x _; simp only [Function.comp]; split
 ·exact (tick1_key x).1
 ·rfl
theorem tickS_born (seen : List Nat) (l : List Nb) : (tickS seen l).map (·.born) = l.map (·.born) := by
 unfold tickS; rw [List.map_map]; apply List.map_congr_left; intro x _; simp only [Function.comp]; split
 ·exact (tick1_key x).2
 ·rfl
theorem NOk.tickS {l : List Nb} {c : Nat} (h : NOk l c) (seen : List Nat) : NOk (S.tickS seen l) c := by
 refine ⟨by rw [tickS_key]; exact h.kn, by rw [tickS_born]; exact h.bn, ?_⟩
 intro x hx
 obtain ⟨y, hy, rfl⟩ := List.mem_map.1 hx
 have := h.bl y hy
 split
 ·rw [(tick1_key y).2]; exact this
 ·exact this
theorem tickS_mem {l : List Nb} {seen : List Nat} {x : Nb} (hx : x ∈ tickS seen l) (hs : x.born ∉ seen) : x ∈ l := by
 obtain ⟨y, hy, rfl⟩ := List.mem_map.1 hx
 split at hs
 ·next h => rw [(tick1_key y).2] at hs; exact absurd h hs
 ·next h => rw [if_neg h]; exact hy
theorem hasN_of {l : List Nb} {x : Nb} (hx : x ∈ l) : hasN x.key l = true := by
 unfold hasN getN
 rw [List.find?_isSome]
 exact ⟨x, hx, by simp⟩
theorem tick_set {l : List Nb} {c : Nat} (h : NOk l c) {seen : List Nat} {x : Nb} (hx : x ∈ l) (hs : x.born ∉ seen) : setN x.key (tick1 x).age (tick1 x).quiet (tickS seen l) c = (tickS (seen ++ [x.born]) l, c) := by
 have hh : hasN x.key (tickS seen l) = true := hasN_of (List.mem_map.2 ⟨x, hx, by rw [if_neg hs]⟩)
 unfold setN
 rw [if_pos hh]
 congr 1
 unfold tickS
 rw [List.map_map]
 apply List.map_congr_left
 intro y hy
 simp only [Function.comp]
 by_cases e : y = x
 ·subst e
  rw [if_neg hs, if_pos rfl, if_pos (by simp)]
  unfold tick1
  split <;> (try split) <;> rfl
 ·have hk : y.key ≠ x.key := by
   intro q
   obtain ⟨i, hi, rfl⟩ := List.getElem_of_mem hx
   obtain ⟨j, hj, rfl⟩ := List.getElem_of_mem hy
   obtain rfl := at_nodup h.kn (List.getElem?_eq_getElem hj) (List.getElem?_eq_getElem hi) q
   exact e rfl
  have hb : y.born ≠ x.born := fun q => e (one_bn h hy hx q)
  have : (y.born ∈ seen ++ [x.born]) ↔ y.born ∈ seen := by simp [hb]
  by_cases q : y.born ∈ seen
  ·rw [if_pos q, if_pos (this.2 q), (tick1_key y).1, if_neg hk]
  ·rw [if_neg q, if_neg (fun z => q (this.1 z)), if_neg hk]
theorem seen_len {l : List Nb} {seen : List Nat} (hn : seen.Nodup) (hs : ∀ b ∈ seen, b ∈ l.map (·.born)) : seen.length ≤ l.length := by
 have key : ∀ (a b : List Nat), a.Nodup → (∀ x ∈ a, x ∈ b) → a.length ≤ b.length := by
  intro a
  induction a with
  | nil => intro b _ _; simp
  | cons x a ih =>
   intro b hn hs
   rw [List.nodup_cons] at hn
   have h1 := ih (b.erase x) hn.2 (fun y hy => by
    have : y ≠ x := fun e => hn.1 (e ▸ hy)
    exact (List.mem_erase_of_ne this).2 (hs y (List.mem_cons_of_mem _ hy)))
   have h2 := List.length_erase_of_mem (hs x List.mem_cons_self)
   have h3 := List.length_pos_of_mem (hs x List.mem_cons_self)
   simp only [List.length_cons]
   omega
 have := key seen _ hn hs
 simpa using this
theorem tick_end {l : List Nb} {c : Nat} (h : NOk l c) {seen : List Nat} (hs : ∀ x ∈ tickS seen l, x.born ∈ seen) {go : List Int} (hg : ∀ k, k ∈ go ↔ ∃ x ∈ l, x.born ∈ seen ∧ x.quiet > 2 ∧ x.key = k) : (tickS seen l).filter (fun x => decide (x.key ∉ go)) = tickL l := by
 have hs' : ∀ x ∈ l, x.born ∈ seen := by
  intro x hx
  by_cases q : x.born ∈ seen
  ·exact q
  ·exact hs x (List.mem_map.2 ⟨x, hx, by rw [if_neg q]⟩)
 have e1 : tickS seen l = l.map tick1 := by
  unfold tickS
  apply List.map_congr_left
  intro x hx
  rw [if_pos (hs' x hx)]
 rw [e1]
 unfold tickL
 rw [List.filter_map]
 congr 1
 apply List.filter_congr
 intro x hx
 simp only [Function.comp, (tick1_key x).1]
 by_cases q : x.quiet > 2
 ·have : x.key ∈ go := (hg _).2 ⟨x, hx, hs' x hx, q, rfl⟩
  simp [q, this]
 ·have : x.key ∉ go := by
   intro z
   obtain ⟨y, hy, _, hq, hk⟩ := (hg _).1 z
   obtain ⟨i, hi, rfl⟩ := List.getElem_of_mem hx
   obtain ⟨j, hj, rfl⟩ := List.getElem_of_mem hy
   obtain rfl := at_nodup h.kn (List.getElem?_eq_getElem hj) (List.getElem?_eq_getElem hi) hk
   exact q hq
  simp [q, this]
theorem mitE_push (g r c : Nat) (seen : List Nat) (b : Nat) : mitE g r c (seen.toArray.push b) = mitE g r c (seen ++ [b]).toArray := by rw [List.push_toArray]
theorem filt_take {l : List Nb} {go : List Int} {k : Nat} {x : Int} (h : go[k]? = some x) : (l.filter fun y => decide (y.key ∉ go.take k)).filter (fun y => y.key != x) = l.filter fun y => decide (y.key ∉ go.take (k + 1)) := by
 rw [List.filter_filter, List.take_add_one, h]
 apply List.filter_congr
 intro y _
 by_cases q : y.key = x <;> simp [q]
theorem tickS_nil (l : List Nb) : tickS [] l = l := by unfold tickS; simp
theorem tick1_quiet (x : Nb) : (tick1 x).quiet = mn (x.quiet + 1) 1073741824 := by unfold tick1; split <;> (try split) <;> rfl
def goS (go : List Int) (x : Nb) : List Int := if x.quiet > 2 then go ++ [x.key] else go
theorem ints_get {l : List Int} {k : Nat} {x : Int} (h : l[k]? = some x) : (ints l)[k]? = some (.int .i64 x) := by simp [ints, h]
theorem ints_app (l : List Int) (x : Int) : ints (l ++ [x]) = ints l ++ [.int .i64 x] := by simp [ints]
def Gone (l : List Nb) (seen : List Nat) (go : List Int) : Prop := ∀ k, k ∈ go ↔ ∃ x ∈ l, x.born ∈ seen ∧ x.quiet > 2 ∧ x.key = k
theorem Gone.step {l : List Nb} {c : Nat} (h : NOk l c) {seen : List Nat} {go : List Int} (hg : Gone l seen go) {x : Nb} (hx : x ∈ l) : Gone l (seen ++ [x.born]) (goS go x) := by
 intro k
 unfold goS
 constructor
 ·intro hk
  by_cases q : x.quiet > 2
  ·rw [if_pos q] at hk
   rcases List.mem_append.1 hk with z | z
   ·obtain ⟨y, hy, hb, hq, hk⟩ := (hg k).1 z
    exact ⟨y, hy, List.mem_append_left _ hb, hq, hk⟩
   ·simp at z; subst z; exact ⟨x, hx, by simp, q, rfl⟩
  ·rw [if_neg q] at hk
   obtain ⟨y, hy, hb, hq, hk⟩ := (hg k).1 hk
   exact ⟨y, hy, List.mem_append_left _ hb, hq, hk⟩
 ·rintro ⟨y, hy, hb, hq, hk⟩
  rcases List.mem_append.1 hb with z | z
  ·have := (hg k).2 ⟨y, hy, z, hq, hk⟩
   split
   ·exact List.mem_append_left _ this
   ·exact this
  ·simp at z
   obtain rfl := one_bn h hy hx z
   rw [if_pos hq, hk]; simp
theorem m_Tick (tb r clock : Nat) (l : List Nb) (hN : NOk l clock) (hB : NBd l) (h16 : l.length ≤ 16) : Spec prog 175 [.pointer (some ⟨tb, 0, none⟩), .int .i64 2] [nmap r l clock] [blk tb [.map (some r)] 193] (fun v Ln => Ln = [nmap r (tickL l) clock]) := by
 refine Spec.en func175 ntmps175 fun w0 => ?_
 refine G.sr fun _ K1 => ?_
 refine G.M 4 ?_
 refine G.nk K1 ?_
 refine G.sr fun _ K2 => ?_
 refine G.M 5 ?_
 refine G.nk K2 ?_
 refine G.Z fun _ K3 => ?_
 refine G.sr fun _ K4 => ?_
 refine G.M 10 ?_
 refine G.V 11 (.isnil q125) ?_
 refine G.nk K4 ?_
 refine G.no rfl ?_
 refine G.sk K3 ?_
 refine G.Z fun _ K5 => ?_
 refine G.sr fun _ K6 => ?_
 refine G.M 12 ?_
 refine G.V 13 .nc ?_
 refine G.V 14 (.fa f193_0 0) ?_
 refine G.V 15 (.ld t191 1) ?_
 refine G.mke 16 (.rng m191 0) fun g16 => ?_
 refine G.nil ?_
 refine G.newRow 3 1 ?_
 refine G.eqL [row none 0 3 1 0 ([]), mitE g16 r clock ([].toArray), nmap r (tickS ([]) l) clock] (by rw [tickS_nil]; rfl) ?_
 refine K6 _ _ _ ?_
 refine G.block ?_
 refine G.lpR (ι := {q : List Nat × List Int × Option Addr × Nat × Nat // q.1.Nodup ∧ (∀ b ∈ q.1, b ∈ l.map Nb.born) ∧ Gone l q.1 q.2.1 ∧ q.2.1.length ≤ q.1.length ∧ q.2.2.2.2 = q.2.1.length}) (fun ⟨⟨seen, go, a7, c7, n7⟩, hsn, hss, hgo, hgs, hn7⟩ => l.length - seen.length) (fun ⟨⟨seen, go, a7, c7, n7⟩, hsn, hss, hgo, hgs, hn7⟩ => [(0, .pointer (some ⟨tb, 0, none⟩)), (1, .int .i64 2), (5, .slice a7 n7 c7), (16, .pointer (some ⟨g16, 0, none⟩))]) (fun ⟨⟨seen, go, a7, c7, n7⟩, hsn, hss, hgo, hgs, hn7⟩ => [row a7 c7 3 1 n7 (ints go), mitE g16 r clock seen.toArray, nmap r (tickS seen l) clock]) ?_ ?_
 exact G.as ⟨([], [], none, 0, 0), by simp, by simp, fun k => by simp, by simp, rfl⟩
 rintro ⟨⟨seen, go, a7, c7, n7⟩, hsn, hss, hgo, hgs, hn7⟩ _ K7
 try dsimp only at K7 ⊢
 try dsimp only at hsn hss hgo hgs hn7
 have hsl0 := seen_len hsn hss
 refine G.sr fun _ K8 => ?_
 refine G.chg 17 1 (.nextN 1 2 (hN.tickS seen)) ?_
 rintro _ _ (⟨rfl, hs, rfl⟩ | ⟨x, hx, hxs, rfl, rfl⟩)
 try dsimp only [List.set]
 have hs' : ∀ x ∈ tickS seen l, x.born ∈ seen := fun x hx => by simpa using hs x hx
 refine G.V 18 .ext ?_
 refine G.nk K8 ?_
 refine G.Z fun _ K9 => ?_
 refine G.no rfl ?_
 refine G.exit ?_
 refine K5 _ _ _ ?_
 refine G.Z fun _ K10 => ?_
 refine G.sr fun _ K11 => ?_
 refine G.M 57 ?_
 refine G.V 58 (.lenl s24) ?_
 refine G.M 59 ?_
 refine G.nil ?_
 refine G.eqL [row a7 c7 3 1 n7 (ints go), mitE g16 r clock seen.toArray, nmap r ((tickS seen l).filter fun y => decide (y.key ∉ go.take 0)) clock] (by rw [show (tickS seen l).filter (fun y => decide (y.key ∉ go.take 0)) = tickS seen l from by rw [List.filter_eq_self]; intro y _; simp]) ?_
 refine K11 _ _ _ ?_
 refine G.block ?_
 refine G.lpR (ι := {k : Nat // k ≤ n7}) (fun ⟨k, hk⟩ => n7 - k) (fun ⟨k, hk⟩ => [(5, .slice a7 n7 c7), (0, .pointer (some ⟨tb, 0, none⟩)), (57, .slice a7 n7 c7), (58, .int .i64 (n7 : Int)), (59, .int .i64 (k : Int))]) (fun ⟨k, hk⟩ => [row a7 c7 3 1 n7 (ints go), mitE g16 r clock seen.toArray, nmap r ((tickS seen l).filter fun y => decide (y.key ∉ go.take k)) clock]) ?_ ?_
 exact G.at ⟨0, Nat.zero_le _⟩ (ts := [5, 0, 57, 58, 59]) rfl rfl rfl rfl
 rintro ⟨k, hk⟩ _ K12
 try dsimp only at K12 ⊢
 refine G.sr fun _ K13 => ?_
 refine G.V 60 .bin ?_
 refine G.nk K13 ?_
 refine G.Z fun _ K14 => ?_
 refine G.cond rfl (fun hc60 => ?_) (fun hc60 => ?_)
 have hk' : k < n7 := by have := of_decide_eq_true hc60; omega
 obtain ⟨x, hx⟩ : ∃ x, go[k]? = some x := ⟨_, List.getElem?_eq_getElem (by omega)⟩
 have dhc60 := of_decide_eq_true hc60
 refine G.sk K14 ?_
 refine G.Z fun _ K15 => ?_
 refine G.block ?_
 refine G.Z fun _ K16 => ?_
 refine G.base 0 (show 0 < n7 by omega) fun b17 hb_ => ?_
 subst hb_
 refine G.region ?_
 refine G.V 61 (.is s24 k hk') ?_
 refine G.V 62 (.ld t3 0 (hv := by rw [Nat.zero_add, Nat.mul_one]; exact ints_get hx)) ?_
 refine G.M 9 ?_
 refine G.nk K16 ?_
 refine G.region ?_
 refine G.M 63 ?_
 refine G.V 64 .nc ?_
 refine G.V 65 (.fa f193_0 0) ?_
 refine G.V 66 (.ld t191 3) ?_
 refine G.M 67 ?_
 refine G.chk 2 (.delN m191 2 ((hN.tickS seen).filter _)) ?_
 try dsimp only [List.set]
 refine G.eqL [row (some ⟨b17, 0, none⟩) c7 3 1 n7 (ints go), mitE g16 r clock seen.toArray, nmap r ((tickS seen l).filter fun y => decide (y.key ∉ go.take (k + 1))) clock] (by rw [filt_take hx]) ?_
 refine G.nk K15 ?_
 refine G.region ?_
 refine G.V 68 .bw ?_
 refine G.M 59 ?_
 refine G.nk K12 ?_
 exact G.ls ⟨k + 1, hk'⟩
 have hkn : n7 = k := by have := of_decide_eq_false hc60; omega
 subst hkn
 have dhc60 := of_decide_eq_false hc60
 refine G.exit ?_
 refine K10 _ _ _ ?_
 refine G.Z fun _ K18 => ?_
 by_cases h7 : n7 = 0
 refine G.region ?_
 refine G.M 69 ?_
 refine G.cp 70 [] []  e150 (q_Sort0' a7 n7 c7 h7) ?_
 refine G.nk K18 ?_
 refine G.sr fun _ K19 => ?_
 refine G.M2 71 4 ?_
 refine G.nk K19 ?_
 exact G.ret (G.F [2] (.one Tryz.results175) (show [nmap r ((tickS seen l).filter fun y => decide (y.key ∉ go.take n7)) clock] = [nmap r (tickL l) clock] from by rw [show go.take n7 = go from by rw [hn7]; exact List.take_length, tick_end hN hs' hgo]))
 refine G.base 0 (show 0 < n7 by omega) fun b20 hb_ => ?_
 subst hb_
 refine G.openF 0 fun r21 r21x r21r r21n r21m => ?_
 try dsimp only [List.set]
 refine G.region ?_
 refine G.M 69 ?_
 refine G.C 70 [0] []  e150 (q_Sort b20 n7 c7 go r21 hn7.symm (by omega)) ?_
 rintro _ _ ⟨l', rfl, hl', rfl⟩
 refine G.nk K18 ?_
 refine G.sr fun _ K22 => ?_
 refine G.M2 71 4 ?_
 refine G.nk K22 ?_
 exact G.ret (G.F [2] (.one Tryz.results175) (show [nmap r ((tickS seen l).filter fun y => decide (y.key ∉ go.take n7)) clock] = [nmap r (tickL l) clock] from by rw [show go.take n7 = go from by rw [hn7]; exact List.take_length, tick_end hN hs' hgo]))
 try dsimp only [List.set]
 have hxs' : x.born ∉ seen := by simpa using hxs
 have hxl := tickS_mem hx hxs'
 have hbx := hB.b x hxl
 refine G.V 18 .ext ?_
 refine G.nk K8 ?_
 refine G.Z fun _ K23 => ?_
 refine G.yes rfl ?_
 refine G.sk K23 ?_
 refine G.block ?_
 refine G.sr fun _ K24 => ?_
 refine G.V 19 (.entryN 1 2 hx (hN.tickS seen)) ?_
 refine G.V 20 .ext ?_
 refine G.V 21 .ext ?_
 refine G.mk 7 (.al z287) fun g7 => ?_
 refine G.M 6 ?_
 refine G.sn 0 (.st t287 0) rfl ?_
 refine G.nk K24 ?_
 refine G.meet (ι := {q : Int × Option Addr × Nat × Nat // q.1 = (tick1 x).age ∧ q.2.2.2 = (goS go x).length}) (fun ⟨⟨ag, a7, c7, n7⟩, hag, hn7⟩ => [(0, .pointer (some ⟨tb, 0, none⟩)), (1, .int .i64 2), (5, .slice a7 n7 c7), (6, .int .i64 x.key), (7, .pointer (some ⟨g7, 0, none⟩)), (16, .pointer (some ⟨g16, 0, none⟩))]) (fun ⟨⟨ag, a7, c7, n7⟩, hag, hn7⟩ => [blk g7 [.int .i64 ag, .int .i64 x.quiet] 287, row a7 c7 3 1 n7 (ints (goS go x)), mitE g16 r clock (seen.toArray.push x.born), nmap r (tickS seen l) clock]) (fun ⟨⟨ag, a7, c7, n7⟩, hag, hn7⟩ => [blk tb [.map (some r)] 193]) (fun _ K26 => ?_) ?_
 refine G.block ?_
 refine G.sr fun _ K27 => ?_
 refine G.V 24 (.fa f287_1 1) ?_
 refine G.V 25 (.ld t3 0) ?_
 refine G.V 26 .bin ?_
 refine G.M 27 ?_
 cases hg28 : (decide (x.quiet > 0) : Bool)
 have dhg28 := of_decide_eq_false hg28
 refine G.O4 28 29 30 31 ?_
 refine G.V 32 .pick ?_
 refine G.M 23 ?_
 refine G.nk K27 ?_
 refine G.no rfl ?_
 refine G.sr fun _ K29 => ?_
 refine G.V 38 (.fa f287_1 1) ?_
 refine G.V 39 (.ld t3 0) ?_
 refine G.V 40 .bin ?_
 refine G.M 37 ?_
 refine G.nk K29 ?_
 refine G.cond rfl (fun hc37 => ?_) (fun hc37 => ?_)
 have dhc37 := eq_of_beq hc37
 refine G.region ?_
 refine G.V 41 (.fa f287_0 0) ?_
 refine G.V 42 (.ld t3 0) ?_
 refine G.V 43 .bw ?_
 refine G.V 44 (.min2 i3) ?_
 refine G.V 45 (.fa f287_0 0) ?_
 refine G.sn 0 (.st t3 0) rfl ?_
 refine G.nk K26 ?_
 exact G.as ⟨(mn (x.age + 1) 1073741824, a7, c7, n7), by unfold tick1; split <;> (try split) <;> first | rfl | (exfalso; omega), by unfold goS; split <;> first | (exfalso; omega) | (simp only [List.length_append, List.length_singleton]; omega) | omega⟩ (hL := (by first | (dsimp only; unfold goS; rw [if_pos (by omega)]; simp only [ints_app]; rfl) | (dsimp only; unfold goS; rw [if_neg (by omega)]; rfl) | (dsimp only; unfold goS; rw [if_neg (by omega)])))
 have dhc37 := ne_of_beq_false hc37
 refine G.region ?_
 refine G.V 22 (.fa f287_0 0) ?_
 refine G.sn 0 (.st t3 0) rfl ?_
 refine G.nk K26 ?_
 exact G.as ⟨(0, a7, c7, n7), by unfold tick1; split <;> (try split) <;> first | rfl | (exfalso; omega), by unfold goS; split <;> first | (exfalso; omega) | (simp only [List.length_append, List.length_singleton]; omega) | omega⟩ (hL := (by first | (dsimp only; unfold goS; rw [if_pos (by omega)]; simp only [ints_app]; rfl) | (dsimp only; unfold goS; rw [if_neg (by omega)]; rfl) | (dsimp only; unfold goS; rw [if_neg (by omega)])))
 have dhg28 := of_decide_eq_true hg28
 refine G.V 28 (.fa f287_1 1) ?_
 refine G.V 29 (.ld t3 0) ?_
 refine G.M 30 ?_
 refine G.V 31 .bin ?_
 refine G.V 32 .pick ?_
 refine G.M 23 ?_
 refine G.nk K27 ?_
 refine G.cond rfl (fun hc23 => ?_) (fun hc23 => ?_)
 have dhc23 := of_decide_eq_true hc23
 refine G.region ?_
 refine G.M2 33 34 ?_
 refine G.row 35 (.sl s24 z3 [.int .i64 x.key]) fun g35 => ?_
 refine G.chg 36 2 (.app s24 z3 y3 2 0 (show n7 + 1 ≤ 1048576 by omega)) ?_
 rintro _ _ ⟨a30, c31, rfl, rfl⟩
 dsimp only [List.set]
 refine G.M 5 ?_
 refine G.nil ?_
 refine G.only [1, 1, 1, 1] ?_
 refine K26 _ _ _ ?_
 exact G.as ⟨(x.age, a30, c31, n7 + 1), by unfold tick1; split <;> (try split) <;> first | rfl | (exfalso; omega), by unfold goS; split <;> first | (exfalso; omega) | (simp only [List.length_append, List.length_singleton]; omega) | omega⟩ (hL := (by first | (dsimp only; unfold goS; rw [if_pos (by omega)]; simp only [ints_app]; rfl) | (dsimp only; unfold goS; rw [if_neg (by omega)]; rfl) | (dsimp only; unfold goS; rw [if_neg (by omega)])))
 have dhc23 := of_decide_eq_false hc23
 refine G.sr fun _ K32 => ?_
 refine G.V 38 (.fa f287_1 1) ?_
 refine G.V 39 (.ld t3 0) ?_
 refine G.V 40 .bin ?_
 refine G.M 37 ?_
 refine G.nk K32 ?_
 refine G.cond rfl (fun hc37 => ?_) (fun hc37 => ?_)
 have dhc37 := eq_of_beq hc37
 refine G.region ?_
 refine G.V 41 (.fa f287_0 0) ?_
 refine G.V 42 (.ld t3 0) ?_
 refine G.V 43 .bw ?_
 refine G.V 44 (.min2 i3) ?_
 refine G.V 45 (.fa f287_0 0) ?_
 refine G.sn 0 (.st t3 0) rfl ?_
 refine G.nk K26 ?_
 exact G.as ⟨(mn (x.age + 1) 1073741824, a7, c7, n7), by unfold tick1; split <;> (try split) <;> first | rfl | (exfalso; omega), by unfold goS; split <;> first | (exfalso; omega) | (simp only [List.length_append, List.length_singleton]; omega) | omega⟩ (hL := (by first | (dsimp only; unfold goS; rw [if_pos (by omega)]; simp only [ints_app]; rfl) | (dsimp only; unfold goS; rw [if_neg (by omega)]; rfl) | (dsimp only; unfold goS; rw [if_neg (by omega)])))
 have dhc37 := ne_of_beq_false hc37
 refine G.region ?_
 refine G.V 22 (.fa f287_0 0) ?_
 refine G.sn 0 (.st t3 0) rfl ?_
 refine G.nk K26 ?_
 exact G.as ⟨(0, a7, c7, n7), by unfold tick1; split <;> (try split) <;> first | rfl | (exfalso; omega), by unfold goS; split <;> first | (exfalso; omega) | (simp only [List.length_append, List.length_singleton]; omega) | omega⟩ (hL := (by first | (dsimp only; unfold goS; rw [if_pos (by omega)]; simp only [ints_app]; rfl) | (dsimp only; unfold goS; rw [if_neg (by omega)]; rfl) | (dsimp only; unfold goS; rw [if_neg (by omega)])))
 rintro ⟨⟨ag, a7, c7, n7⟩, hag, hn7⟩
 try dsimp only
 try dsimp only at hag hn7
 refine G.sr fun _ K33 => ?_
 refine G.V 46 (.fa f287_1 1) ?_
 refine G.V 47 (.ld t3 0) ?_
 refine G.V 48 .bw ?_
 refine G.V 49 (.min2 i3) ?_
 refine G.V 50 (.fa f287_1 1) ?_
 refine G.sn 0 (.st t3 0) rfl ?_
 refine G.nk K33 ?_
 refine G.draw 7 [0] [0] [] ?_
 refine D.V 0 51 1 .mv ?_
 refine D.V 1 52 3 .nc ?_
 refine D.V 2 53 7 (.fa f193_0 0) ?_
 refine D.V 4 55 23 .mv ?_
 refine D.T 3 54 31 (.ld t191 1) [0] [0] ?_
 refine D.T 5 56 63 (.lda t287 0 (vs := [.int .i64 ag, .int .i64 (mn (x.quiet + 1) 1073741824)])) [0] [0] ?_
 refine D.chk 6 127 3 (.putN m191 3 (hN.tickS seen)) [0] [0]  ?_
 try dsimp only [List.set]
 refine D.done ?_
 refine G.eqL [blk g7 [.int .i64 ag, .int .i64 (mn (x.quiet + 1) 1073741824)] 287, row a7 c7 3 1 n7 (ints (goS go x)), mitE g16 r clock ((seen ++ [x.born]).toArray), nmap r (tickS (seen ++ [x.born]) l) clock] (by rw [hag, ← tick1_quiet, tick_set hN hxl hxs', mitE_push]) ?_
 have hsd : (seen ++ [x.born]).Nodup := by rw [List.nodup_append]; exact ⟨hsn, by simp, fun a ha b hb e => by simp at hb; subst hb e; exact hxs' ha⟩
 have hsb : ∀ b ∈ seen ++ [x.born], b ∈ l.map Nb.born := fun b hb => by
   rcases List.mem_append.1 hb with z | z
   · exact hss b z
   · simp at z; subst z; exact List.mem_map.2 ⟨x, hxl, rfl⟩
 have hsl := seen_len hsd hsb
 have hgl : (goS go x).length ≤ (seen ++ [x.born]).length := by unfold goS; split <;> simp <;> omega
 refine G.only [1, 1, 1] ?_
 refine K7 _ _ _ ?_
 exact G.ls ⟨(seen ++ [x.born], goS go x, a7, c7, n7), hsd, hsb, hgo.step hN hxl, hgl, hn7⟩ (hlt := (by dsimp only; simp only [List.length_append, List.length_singleton] at hsl ⊢; omega))
theorem e200 : Is prog 200 := ⟨_, func200, by kernel_rfl, rfl⟩
theorem f305_0 : tfield prog 305 0 = some 0 := by kernel_rfl
theorem f305_1 : tfield prog 305 1 = some 1 := by kernel_rfl
theorem j207 : tone prog 216 = true := by kernel_rfl
theorem j303 : tup prog 303 312 305 = true := by kernel_rfl
theorem q303 : tptr prog 303 = true := by kernel_rfl
theorem s165 : tslice prog 165 = some (5, 1) := by kernel_rfl
theorem t165 : tsz prog 165 = some (false, 1) := by kernel_rfl
theorem t303 : tsz prog 303 = some (false, 1) := by kernel_rfl
theorem x165_9 : tbyte prog 165 9 = true := by kernel_rfl
theorem b_cc0 (b : Nat) (a : Option Addr) (n c : Nat) : Spec prog 200 [.pointer (some ⟨b, 0, none⟩)] [blk b [.pointer none, .slice a n c] 305] [] (fun v Ln => v = .tuple #[] ∧ Ln = [blk b [.pointer (some ⟨b, 0, none⟩), .slice a n c] 305]) := by
 refine Spec.en func200 ntmps200 fun w0 => ?_
 refine G.sr fun _ K1 => ?_
 refine G.M 2 ?_
 refine G.V 3 .nc ?_
 refine G.V 4 (.fa f305_0 0) ?_
 refine G.V 5 (.ld t303 0) ?_
 refine G.V 6 (.isnil q303) ?_
 refine G.nk K1 ?_
 refine G.yes rfl ?_
 refine G.region ?_
 refine G.M2 7 8 ?_
 refine G.V 9 (.tou j303 0) ?_
 refine G.V 10 (.ext1 func202 rfl rfl (by kernel_rfl) (e := Extern.AbiNoEscape.same) (by kernel_rfl) (fun _ => rfl)) ?_
 refine G.V 11 (.fru j303 0) ?_
 refine G.V 12 .nc ?_
 refine G.V 13 (.fa f305_0 0) ?_
 refine G.sn 0 (.st t303 0) rfl ?_
 refine G.nil ?_
 exact G.fin0 [0] (.nil Tryz.results200) ⟨rfl, rfl⟩
theorem b_cc1 (b : Nat) (a : Option Addr) (n c : Nat) : Spec prog 200 [.pointer (some ⟨b, 0, none⟩)] [] [blk b [.pointer (some ⟨b, 0, none⟩), .slice a n c] 305] (fun v Ln => v = .tuple #[] ∧ Ln = []) := by
 refine Spec.en func200 ntmps200 fun w0 => ?_
 refine G.sr fun _ K1 => ?_
 refine G.M 2 ?_
 refine G.V 3 .nc ?_
 refine G.V 4 (.fa f305_0 0) ?_
 refine G.V 5 (.ld t303 0) ?_
 refine G.V 6 (.isnil q303) ?_
 refine G.nk K1 ?_
 refine G.no rfl ?_
 refine G.sr fun _ K2 => ?_
 refine G.M 14 ?_
 refine G.V 15 .nc ?_
 refine G.V 16 (.fa f305_0 0) ?_
 refine G.V 17 (.ld t303 0) ?_
 refine G.M 18 ?_
 refine G.V 19 (.pne (e := 305) (by kernel_rfl)) ?_
 refine G.nk K2 ?_
 refine G.no rfl ?_
 refine G.skip ?_
 exact G.fin0 [] (.nil Tryz.results200) ⟨rfl, rfl⟩
theorem b_Write0 (b : Nat) (a : Option Addr) (n c : Nat) (xs : List Value) (s : ByteArray) (hs : n + s.size ≤ 1000000000) : Spec prog 194 [.pointer (some ⟨b, 0, none⟩), .string s] [blk b [.pointer none, .slice a n c] 305, row a c 5 1 n xs] [] (fun v Ln => ∃ v' a' c', v = v' ∧ Ln = [blk b [.pointer (some ⟨b, 0, none⟩), .slice a' (n + s.size) c'] 305, row a' c' 5 1 (n + s.size) (xs ++ Lib.strCells s)]) := by
 refine Spec.en func194 ntmps194 fun w0 => ?_
 refine G.sr fun _ K1 => ?_
 refine G.M2 4 5 ?_
 refine G.nk K1 ?_
 refine G.sr fun _ K2 => ?_
 refine G.M 6 ?_
 refine G.C 7 [0] []  e200 (b_cc0 b a n c) ?_
 rintro _ _ ⟨rfl, rfl⟩
 refine G.nk K2 ?_
 refine G.sr fun _ K3 => ?_
 refine G.M2 8 9 ?_
 refine G.V 10 .nc ?_
 refine G.V 11 (.fa f305_1 1) ?_
 refine G.V 12 (.ld t165 0) ?_
 refine G.M 13 ?_
 refine G.chg 14 1 (.apps x165_9 1 (show n + s.size ≤ 70368744177664 by omega)) ?_
 rintro _ _ ⟨a4, c5, rfl, rfl⟩
 try dsimp only [List.set]
 refine G.V 15 .nc ?_
 refine G.V 16 (.fa f305_1 1) ?_
 refine G.sn 0 (.st t165 0) rfl ?_
 refine G.nk K3 ?_
 refine G.sr fun _ K6 => ?_
 refine G.M 17 ?_
 refine G.V 18 (.lens r9) ?_
 refine G.M2 4 5 ?_
 refine G.nk K6 ?_
 exact G.ret (G.F [0, 0] (.two Tryz.results194) ⟨_, _, _, rfl, rfl⟩)
theorem b_Write1 (b : Nat) (a : Option Addr) (n c : Nat) (xs : List Value) (s : ByteArray) (hs : n + s.size ≤ 1000000000) : Spec prog 194 [.pointer (some ⟨b, 0, none⟩), .string s] [blk b [.pointer (some ⟨b, 0, none⟩), .slice a n c] 305, row a c 5 1 n xs] [] (fun v Ln => ∃ v' a' c', v = v' ∧ Ln = [blk b [.pointer (some ⟨b, 0, none⟩), .slice a' (n + s.size) c'] 305, row a' c' 5 1 (n + s.size) (xs ++ Lib.strCells s)]) := by
 refine Spec.en func194 ntmps194 fun w0 => ?_
 refine G.sr fun _ K1 => ?_
 refine G.M2 4 5 ?_
 refine G.nk K1 ?_
 refine G.sr fun _ K2 => ?_
 refine G.M 6 ?_
 refine G.cp 7 [] [0]  e200 (b_cc1 b a n c) ?_
 refine G.nk K2 ?_
 refine G.sr fun _ K3 => ?_
 refine G.M2 8 9 ?_
 refine G.V 10 .nc ?_
 refine G.V 11 (.fa f305_1 1) ?_
 refine G.V 12 (.ld t165 0) ?_
 refine G.M 13 ?_
 refine G.chg 14 1 (.apps x165_9 1 (show n + s.size ≤ 70368744177664 by omega)) ?_
 rintro _ _ ⟨a4, c5, rfl, rfl⟩
 try dsimp only [List.set]
 refine G.V 15 .nc ?_
 refine G.V 16 (.fa f305_1 1) ?_
 refine G.sn 0 (.st t165 0) rfl ?_
 refine G.nk K3 ?_
 refine G.sr fun _ K6 => ?_
 refine G.M 17 ?_
 refine G.V 18 (.lens r9) ?_
 refine G.M2 4 5 ?_
 refine G.nk K6 ?_
 exact G.ret (G.F [0, 0] (.two Tryz.results194) ⟨_, _, _, rfl, rfl⟩)
theorem b_String1 (b bw n c : Nat) (l : List UInt8) (h0 : l ≠ []) (hl : l.length = n) (hn : n ≤ 1000000000) (hc : 0 < c) : Spec prog 196 [.pointer (some ⟨b, 0, none⟩)] [blk b [.pointer (some ⟨b, 0, none⟩), .slice (some ⟨bw, 0, none⟩) n c] 305, row (some ⟨bw, 0, none⟩) c 5 1 n (Lib.byteCells l)] [] (fun v Ln => v = .string ⟨l.toArray⟩ ∧ Ln = []) := by
 refine Spec.en func196 ntmps196 fun w0 => ?_
 refine G.sr fun _ K1 => ?_
 refine G.M 2 ?_
 refine G.nk K1 ?_
 refine G.Z fun _ K2 => ?_
 refine G.draw 12 [0] [] [] ?_
 refine D.V 0 3 1 .mv ?_
 refine D.V 1 4 3 .nc ?_
 refine D.V 2 5 7 (.fa f305_1 1) ?_
 refine D.V 5 8 39 .mv ?_
 refine D.V 6 9 103 .nc ?_
 refine D.V 7 10 231 (.fa f305_1 1) ?_
 refine D.T 3 6 239 (.ld t165 0) [0] [] ?_
 refine D.V 4 7 255 (.usd (p := some ⟨bw, 0, none⟩) (c := c) (fun _ => (show c ≠ 0 by omega))) ?_
 refine D.T 8 11 511 (.ld t165 0) [0] [] ?_
 refine D.V 9 12 1023 (.lenl s165) ?_
 refine D.chg 10 13 2047 1 (.ust (l := l) j207 1 h0 hl hn) [0] []  ?_
 rintro _ _ ⟨rfl, rfl⟩
 try dsimp only [List.set]
 refine D.V 11 2 4095 .mv ?_
 refine D.done ?_
 refine K2 _ _ _ ?_
 exact G.ret (G.F [] (.one Tryz.results196) ⟨rfl, rfl⟩)
theorem b_String0 (b : Nat) : Spec prog 196 [.pointer (some ⟨b, 0, none⟩)] [blk b [.pointer none, .slice none 0 0] 305] [] (fun v Ln => v = .string ByteArray.empty ∧ Ln = []) := by
 refine Spec.en func196 ntmps196 fun w0 => ?_
 refine G.sr fun _ K1 => ?_
 refine G.M 2 ?_
 refine G.nk K1 ?_
 refine G.Z fun _ K2 => ?_
 refine G.draw 12 [0] [] [] ?_
 refine D.V 0 3 1 .mv ?_
 refine D.V 1 4 3 .nc ?_
 refine D.V 2 5 7 (.fa f305_1 1) ?_
 refine D.V 5 8 39 .mv ?_
 refine D.V 6 9 103 .nc ?_
 refine D.V 7 10 231 (.fa f305_1 1) ?_
 refine D.T 3 6 239 (.ld t165 0) [0] [] ?_
 refine D.V 4 7 255 (.usd (p := none) (c := 0) (fun h => absurd h (by decide))) ?_
 refine D.T 8 11 511 (.ld t165 0) [0] [] ?_
 refine D.V 9 12 1023 (.lenl s165) ?_
 refine D.V 10 13 2047 .us0 ?_
 refine D.V 11 2 4095 .mv ?_
 refine D.done ?_
 refine K2 _ _ _ ?_
 exact G.ret (G.F [] (.one Tryz.results196) ⟨rfl, rfl⟩)
end Go.Proofs.YtbmhgopjblnfnaaGreat.S
namespace Go.Proofs
open Go.Shelf
def Tryz.lays129_ren : Go.Shelf.Ren := ⟨fun | 129 => 91 | n => n, fun | 53 => 143 | 3 => 3 | 4 => 4 | 46 => 116 | 5 => 5 | 9 => 9 | n => n, fun | n => n⟩
theorem Tryz.lays129 : Go.Proofs.Lays.n129 Tryz.prog Tryz.lays129_ren := {
 mixed := by kernel_rfl
 f129 := Tryz.func91.trans (congrArg some (by kernel_rfl))
 t3 := Tryz.underlying3
 a3 := Tryz.isAgg3
 z3 := Tryz.sizeOf3
 v3 := Tryz.zeroValue3
 t4 := Tryz.underlying4
 a4 := Tryz.isAgg4
 z4 := Tryz.sizeOf4
 v4 := Tryz.zeroValue4
 t5 := Tryz.underlying5
 a5 := Tryz.isAgg5
 z5 := Tryz.sizeOf5
 v5 := Tryz.zeroValue5
 t9 := Tryz.underlying9
 a9 := Tryz.isAgg9
 z9 := Tryz.sizeOf9
 v9 := Tryz.zeroValue9
 t46 := Tryz.underlying116
 a46 := Tryz.isAgg116
 z46 := Tryz.sizeOf116
 v46 := Tryz.zeroValue116
 t53 := Tryz.underlying143
 a53 := Tryz.isAgg143
 z53 := Tryz.sizeOf143
 v53 := Tryz.zeroValue143 }
theorem Tryz.bits_Len64 (x : Int) (w : World) (h0 : 0 ≤ x) (h1 : x ≤ 18446744073709551615) :
  Calls Tryz.prog 91 #[.int .u64 x] w fun e w' => e = .returned (.int .i64 (Lib.bitLen x.toNat)) ∧ w' = w := Any.bits_Len64 Tryz.lays129 x w h0 h1
def Tryz.lays317_ren : Go.Shelf.Ren := ⟨fun | 317 => 208 | n => n, fun | 3 => 3 | 46 => 116 | n => n, fun | n => n⟩
theorem Tryz.lays317 : Go.Proofs.Lays.n317 Tryz.prog Tryz.lays317_ren := {
 mixed := by kernel_rfl
 f317 := Tryz.func208.trans (congrArg some (by kernel_rfl))
 t3 := Tryz.underlying3
 a3 := Tryz.isAgg3
 z3 := Tryz.sizeOf3
 v3 := Tryz.zeroValue3
 t46 := Tryz.underlying116
 a46 := Tryz.isAgg116
 z46 := Tryz.sizeOf116
 v46 := Tryz.zeroValue116 }
open Go.Lib in
theorem Tryz.internal_strconv_log10Pow2 (x : Nat) (h : x ≤ 64) (w : World) :
  Calls Tryz.prog 208 #[.int .i64 x] w fun e w' => e = .returned (.int .i64 (Lib.l10 x)) ∧ w' = w := Any.internal_strconv_log10Pow2 Tryz.lays317 x h w
def Tryz.lays318_ren : Go.Shelf.Ren := ⟨fun | 318 => 209 | n => n, fun | 3 => 3 | 4 => 4 | n => n, fun | n => n⟩
theorem Tryz.lays318 : Go.Proofs.Lays.n318 Tryz.prog Tryz.lays318_ren := {
 mixed := by kernel_rfl
 f318 := Tryz.func209.trans (congrArg some (by kernel_rfl))
 t3 := Tryz.underlying3
 a3 := Tryz.isAgg3
 z3 := Tryz.sizeOf3
 v3 := Tryz.zeroValue3
 t4 := Tryz.underlying4
 a4 := Tryz.isAgg4
 z4 := Tryz.sizeOf4
 v4 := Tryz.zeroValue4 }
open Go.Lib in
theorem Tryz.internal_strconv_bool2_int (b : Bool) (w : World) :
  Calls Tryz.prog 209 #[.bool b] w fun e w' => e = .returned (.int .i64 (if b then 1 else 0)) ∧ w' = w := Any.internal_strconv_bool2_int Tryz.lays318 b w
def Tryz.lays283_ren : Go.Shelf.Ren := ⟨fun | 283 => 204 | n => n, fun | 3 => 3 | 9 => 9 | 4 => 4 | n => n, fun | n => n⟩
theorem Tryz.lays283 : Go.Proofs.Lays.n283 Tryz.prog Tryz.lays283_ren := {
 mixed := by kernel_rfl
 f283 := Tryz.func204.trans (congrArg some (by kernel_rfl))
 t3 := Tryz.underlying3
 a3 := Tryz.isAgg3
 z3 := Tryz.sizeOf3
 v3 := Tryz.zeroValue3
 t4 := Tryz.underlying4
 a4 := Tryz.isAgg4
 z4 := Tryz.sizeOf4
 v4 := Tryz.zeroValue4
 t9 := Tryz.underlying9
 a9 := Tryz.isAgg9
 z9 := Tryz.sizeOf9
 v9 := Tryz.zeroValue9 }
open Go.Lib in
theorem Tryz.internal_strconv_small (i : Nat) (h : i < 100) (w : World) :
  Calls Tryz.prog 204 #[.int .i64 i] w fun e w' => e = .returned (.string ⟨(Lib.decDigits i).toArray⟩) ∧ w' = w := Any.internal_strconv_small Tryz.lays283 i h w
end Go.Proofs
namespace Go.Proofs.YtbmhgopjblnfnaaGreat.S
open Go Go.Proofs Go.RowKit Go.Proofs.YtbmhgopjblnfnaaGreatW.PrintLast Tryz
theorem k196 : tkind prog 196 = some .u32 := by kernel_rfl
theorem t5 : tsz prog 5 = some (false, 1) := by kernel_rfl
theorem wi32 {x : Int} (h1 : 0 ≤ x) (h2 : x < 4294967296) : Value.int .u32 (IntKind.u32.wrap x) = .int .u32 x := by congr 1; simp [IntKind.wrap, IntKind.bits, IntKind.signed]; omega
theorem wu32 {x : Int} (h1 : 0 ≤ x) (h2 : x < 4294967296) : IntKind.u32.wrap x = x := by simp [IntKind.wrap, IntKind.bits, IntKind.signed]; omega
theorem wq64 {a b : Int} (h1 : 0 ≤ a) (h2 : a < 18446744073709551616) (h3 : 0 < b) : IntKind.u64.wrap (a.tdiv b) = a / b := by
 rw [Int.tdiv_eq_ediv_of_nonneg h1]
 have := Int.ediv_nonneg h1 (show 0 ≤ b by omega)
 have := Int.ediv_le_self (b := b) h1
 exact wu (by omega) (by omega)
theorem wq32 {a b : Int} (h1 : 0 ≤ a) (h2 : a < 4294967296) (h3 : 0 < b) : IntKind.u32.wrap (a.tdiv b) = a / b := by
 rw [Int.tdiv_eq_ediv_of_nonneg h1]
 have := Int.ediv_nonneg h1 (show 0 ≤ b by omega)
 have := Int.ediv_le_self (b := b) h1
 exact wu32 (by omega) (by omega)
def smallsT : ByteArray := ⟨((List.append (List.append [48, 48, 48, 49, 48, 50, 48, 51, 48, 52, 48, 53, 48, 54, 48, 55, 48, 56, 48, 57, 49, 48, 49, 49, 49, 50, 49, 51, 49, 52, 49, 53, 49, 54, 49, 55, 49, 56, 49, 57, 50, 48, 50, 49, 50, 50, 50, 51, 50, 52] [50, 53, 50, 54, 50, 55, 50, 56, 50, 57, 51, 48, 51, 49, 51, 50, 51, 51, 51, 52, 51, 53, 51, 54, 51, 55, 51, 56, 51, 57, 52, 48, 52, 49, 52, 50, 52, 51, 52, 52, 52, 53, 52, 54, 52, 55, 52, 56, 52, 57]) (List.append [53, 48, 53, 49, 53, 50, 53, 51, 53, 52, 53, 53, 53, 54, 53, 55, 53, 56, 53, 57, 54, 48, 54, 49, 54, 50, 54, 51, 54, 52, 54, 53, 54, 54, 54, 55, 54, 56, 54, 57, 55, 48, 55, 49, 55, 50, 55, 51, 55, 52] [55, 53, 55, 54, 55, 55, 55, 56, 55, 57, 56, 48, 56, 49, 56, 50, 56, 51, 56, 52, 56, 53, 56, 54, 56, 55, 56, 56, 56, 57, 57, 48, 57, 49, 57, 50, 57, 51, 57, 52, 57, 53, 57, 54, 57, 55, 57, 56, 57, 57]))).toArray⟩
theorem smalls_size : smallsT.size = 200 := by kernel_rfl
def dg (k : Nat) : Int := (((smallsT[k]?).getD 0).toNat : Int)
theorem dg_at {k : Nat} (h : k < 200) : smallsT[k]? = some ((smallsT[k]?).getD 0) := by
 have : smallsT[k]? = some (smallsT[k]'(by rw [smalls_size]; exact h)) := getElem?_pos _ _ _
 rw [this]; rfl
def w2 (l : List Int) (p q : Int) (d : Int) : List Int := (l.set (1 + p.toNat * 1) (dg (d * 2 + 1).toNat)).set (1 + q.toNat * 1) (dg (d * 2).toNat)
theorem w2_len (l : List Int) (p q d : Int) : (w2 l p q d).length = l.length := by simp [w2]
def step8 (l : List Int) (i u : Int) : List Int := w2 (w2 (w2 (w2 l (i - 1) (i - 2) (u % 100000000 % 10000 % 100)) (i - 3) (i - 4) (u % 100000000 % 10000 / 100)) (i - 5) (i - 6) (u % 100000000 / 10000 % 100)) (i - 7) (i - 8) (u % 100000000 / 10000 / 100)
def fin1 (l : List Int) (i x : Int) : List Int := if i > 0 then l.set (1 + 0 * 1) (IntKind.u8.wrap (IntKind.u32.wrap (48 + x))) else l
def fin2 (l : List Int) (i x : Int) : List Int := if i ≥ 2 then fin1 (w2 l (i - 1) (i - 2) (x % 100)) (i - 2) (x / 100) else fin1 l i x
def fin4 (l : List Int) (i x : Int) : List Int := if i ≥ 4 then fin2 (w2 (w2 l (i - 1) (i - 2) (x % 10000 % 100)) (i - 3) (i - 4) (x % 10000 / 100)) (i - 4) (x / 10000) else fin2 l i x
def fin8 : Nat → List Int → Int → Int → List Int
 | 0, l, i, u => fin4 l i (IntKind.u32.wrap u)
 | k + 1, l, i, u => if i ≥ 8 then fin8 k (step8 l i u) (i - 8) (u / 100000000) else fin4 l i (IntKind.u32.wrap u)
theorem fin8_lt {k : Nat} {l : List Int} {i u : Int} (h : i < 8) : fin8 k l i u = fin4 l i (IntKind.u32.wrap u) := by
 cases k with
 | zero => rfl
 | succ k => show (if i ≥ 8 then _ else _) = _; rw [if_neg (by omega)]
theorem fin8_ge {k : Nat} {l : List Int} {i u : Int} (h : i ≥ 8) (hk : i < 8 * ((k : Int) + 1)) : ∃ k' : Nat, k = k' + 1 ∧ fin8 k l i u = fin8 k' (step8 l i u) (i - 8) (u / 100000000) := by
 cases k with
 | zero => exact absurd hk (by omega)
 | succ k => exact ⟨k, rfl, by show (if i ≥ 8 then _ else _) = _; rw [if_pos h]⟩
theorem u8s_set (l : List Int) (k : Nat) (x : Int) : (u8s l).set k (.int .u8 x) = u8s (l.set k x) := by simp [u8s, List.map_set]
theorem u32_b (u : Int) : 0 ≤ IntKind.u32.wrap u ∧ IntKind.u32.wrap u < 4294967296 := by simp [IntKind.wrap, IntKind.bits, IntKind.signed]; omega
theorem i_base10 (g n c : Nat) (l : List Int) (u : Int) (hl : l.length = 24) (hn : n ≤ 20) (hu : 0 ≤ u ∧ u < 18446744073709551616) : Spec prog 206 [.slice (some ⟨g, 1, none⟩) n c, .int .u64 u] [blk g (u8s l) 315] [] (fun v Ln => v = .tuple #[] ∧ Ln = [blk g (u8s (fin8 3 l n u)) 315]) := by
 refine Spec.en func206 ntmps206 fun w0 => ?_
 refine G.sr fun _ K1 => ?_
 refine G.M 17 ?_
 refine G.V 18 (.lenl s165) ?_
 refine G.M 4 ?_
 refine G.nk K1 ?_
 refine G.Z fun _ K2 => ?_
 refine G.block ?_
 refine G.lpR (ι := {q : Nat × List Int × Int × Int // q.2.1.length = 24 ∧ (0 ≤ q.2.2.1 ∧ q.2.2.1 ≤ n) ∧ (0 ≤ q.2.2.2 ∧ q.2.2.2 < 18446744073709551616) ∧ q.2.2.1 < 8 * ((q.1 : Int) + 1) ∧ fin8 q.1 q.2.1 q.2.2.1 q.2.2.2 = fin8 3 l n u}) (fun ⟨⟨k, l1, i, x⟩, hl1, hi, hx, hk, hF⟩ => i.toNat) (fun ⟨⟨k, l1, i, x⟩, hl1, hi, hx, hk, hF⟩ => [(0, .slice (some ⟨g, 1, none⟩) n c), (1, .int .u64 x), (4, .int .i64 i)]) (fun ⟨⟨k, l1, i, x⟩, hl1, hi, hx, hk, hF⟩ => [blk g (u8s l1) 315]) ?_ ?_
 exact G.as ⟨(3, l, n, u), hl, by dsimp only; omega, hu, by dsimp only; omega, rfl⟩
 rintro ⟨⟨k, l1, i, x⟩, hl1, hi, hx, hk, hF⟩ _ K3
 try dsimp only at K3 ⊢
 try dsimp only at hl1 hi hx hk hF
 refine G.Z fun _ K4 => ?_
 refine G.sr fun _ K5 => ?_
 refine G.M 19 ?_
 refine G.V 20 .bin ?_
 refine G.nk K5 ?_
 refine G.cond rfl (fun hc20 => ?_) (fun hc20 => ?_)
 obtain ⟨k', rfl, hk'⟩ := fin8_ge (l := l1) (u := x) (of_decide_eq_true hc20) hk
 have dhc20 := of_decide_eq_true hc20
 refine G.sk K4 ?_
 refine G.block ?_
 refine G.sr fun _ K6 => ?_
 refine G.M 21 ?_
 refine G.V 22 (.rem (a := x) (b := 100000000) (r := x % 100000000) (by decide) (Int.tmod_eq_emod_of_nonneg (by omega))) ?_
 refine G.V 23 (.cvi (a := x % 100000000) k143 k196 (wu32 (by omega) (by omega))) ?_
 refine G.M 5 ?_
 refine G.nk K6 ?_
 refine G.sr fun _ K7 => ?_
 refine G.M 24 ?_
 refine G.V 25 (.quo (a := x) (b := 100000000) (by decide) (wq64 (by omega) (by omega) (by decide))) ?_
 refine G.M 1 ?_
 refine G.nk K7 ?_
 refine G.sr fun _ K8 => ?_
 refine G.M 26 ?_
 refine G.V 27 (.quo (a := x % 100000000) (b := 10000) (by decide) (wq32 (by omega) (by omega) (by decide))) ?_
 refine G.M 28 ?_
 refine G.V 29 (.rem (a := x % 100000000) (b := 10000) (r := (x % 100000000) % 10000) (by decide) (Int.tmod_eq_emod_of_nonneg (by omega))) ?_
 refine G.M2 6 7 ?_
 refine G.nk K8 ?_
 refine G.sr fun _ K9 => ?_
 refine G.M 30 ?_
 refine G.V 31 (.quo (a := (x % 100000000) % 10000) (b := 100) (by decide) (wq32 (by omega) (by omega) (by decide))) ?_
 refine G.V 32 (.cast .bin (wi32 (by omega) (by omega))) ?_
 refine G.M 33 ?_
 refine G.V 34 (.rem (a := (x % 100000000) % 10000) (b := 100) (r := ((x % 100000000) % 10000) % 100) (by decide) (Int.tmod_eq_emod_of_nonneg (by omega))) ?_
 refine G.V 35 (.cast .bin (wi32 (by omega) (by omega))) ?_
 refine G.M2 8 9 ?_
 refine G.nk K9 ?_
 refine G.sr fun _ K10 => ?_
 refine G.M 36 ?_
 refine G.V 37 (.quo (a := (x % 100000000) / 10000) (b := 100) (by decide) (wq32 (by omega) (by omega) (by decide))) ?_
 refine G.V 38 (.cast .bin (wi32 (by omega) (by omega))) ?_
 refine G.M 39 ?_
 refine G.V 40 (.rem (a := (x % 100000000) / 10000) (b := 100) (r := ((x % 100000000) / 10000) % 100) (by decide) (Int.tmod_eq_emod_of_nonneg (by omega))) ?_
 refine G.V 41 (.cast .bin (wi32 (by omega) (by omega))) ?_
 refine G.M2 10 11 ?_
 refine G.nk K10 ?_
 refine G.Z fun _ K11 => ?_
 refine G.draw 15 [] [] [] ?_
 refine D.V 0 42 1 .mv ?_
 refine D.V 1 43 3 .mv ?_
 refine D.V 2 44 7 .bw ?_
 refine D.V 3 45 15 .mv ?_
 refine D.V 4 46 31 .mv ?_
 refine D.V 5 47 63 .bw ?_
 refine D.V 6 48 127 .mv ?_
 refine D.V 7 49 255 (.cast .bin (wi32 (by omega) (by omega))) ?_
 refine D.V 8 50 511 (.sidx (s := smallsT) r9 ((((((x % 100000000) % 10000) % 100) * 2) + 1).toNat) (dg_at (by omega)) (hi := by omega)) ?_
 refine D.V 9 51 1023 .mv ?_
 refine D.V 10 52 2047 (.sidx (s := smallsT) r9 (((((x % 100000000) % 10000) % 100) * 2).toNat) (dg_at (by omega)) (hi := by omega)) ?_
 refine D.V 11 53 4095 (.is s165 (i - 1).toNat (show (i - 1).toNat < n by omega) (hi := by omega)) ?_
 refine D.sto 12 8191 0 (.st t5 0 (hl := by simp only [u8s, List.length_map, List.length_set]; omega)) [] []  rfl ?_
 dsimp only [List.set, sets, Value.cells, List.zipIdx, List.foldl]
 refine G.eqL [blk g (u8s (l1.set (1 + (i - 1).toNat * 1) (dg ((((((x % 100000000) % 10000) % 100) * 2) + 1).toNat)))) 315] (by rw [u8s_set]; try rfl) ?_
 refine D.V 13 54 16383 (.is s165 (i - 2).toNat (show (i - 2).toNat < n by omega) (hi := by omega)) ?_
 refine D.sto 14 32767 0 (.st t5 0 (hl := by simp only [u8s, List.length_map, List.length_set]; omega)) [] []  rfl ?_
 dsimp only [List.set, sets, Value.cells, List.zipIdx, List.foldl]
 refine G.eqL [blk g (u8s ((l1.set (1 + (i - 1).toNat * 1) (dg ((((((x % 100000000) % 10000) % 100) * 2) + 1).toNat))).set (1 + (i - 2).toNat * 1) (dg (((((x % 100000000) % 10000) % 100) * 2).toNat)))) 315] (by rw [u8s_set]; try rfl) ?_
 refine D.done ?_
 refine K11 _ _ _ ?_
 refine G.Z fun _ K12 => ?_
 refine G.draw 15 [] [] [] ?_
 refine D.V 0 55 1 .mv ?_
 refine D.V 1 56 3 .mv ?_
 refine D.V 2 57 7 .bw ?_
 refine D.V 3 58 15 .mv ?_
 refine D.V 4 59 31 .mv ?_
 refine D.V 5 60 63 .bw ?_
 refine D.V 6 61 127 .mv ?_
 refine D.V 7 62 255 (.cast .bin (wi32 (by omega) (by omega))) ?_
 refine D.V 8 63 511 (.sidx (s := smallsT) r9 ((((((x % 100000000) % 10000) / 100) * 2) + 1).toNat) (dg_at (by omega)) (hi := by omega)) ?_
 refine D.V 9 64 1023 .mv ?_
 refine D.V 10 65 2047 (.sidx (s := smallsT) r9 (((((x % 100000000) % 10000) / 100) * 2).toNat) (dg_at (by omega)) (hi := by omega)) ?_
 refine D.V 11 66 4095 (.is s165 (i - 3).toNat (show (i - 3).toNat < n by omega) (hi := by omega)) ?_
 refine D.sto 12 8191 0 (.st t5 0 (hl := by simp only [u8s, List.length_map, List.length_set]; omega)) [] []  rfl ?_
 dsimp only [List.set, sets, Value.cells, List.zipIdx, List.foldl]
 refine G.eqL [blk g (u8s (((l1.set (1 + (i - 1).toNat * 1) (dg ((((((x % 100000000) % 10000) % 100) * 2) + 1).toNat))).set (1 + (i - 2).toNat * 1) (dg (((((x % 100000000) % 10000) % 100) * 2).toNat))).set (1 + (i - 3).toNat * 1) (dg ((((((x % 100000000) % 10000) / 100) * 2) + 1).toNat)))) 315] (by rw [u8s_set]; try rfl) ?_
 refine D.V 13 67 16383 (.is s165 (i - 4).toNat (show (i - 4).toNat < n by omega) (hi := by omega)) ?_
 refine D.sto 14 32767 0 (.st t5 0 (hl := by simp only [u8s, List.length_map, List.length_set]; omega)) [] []  rfl ?_
 dsimp only [List.set, sets, Value.cells, List.zipIdx, List.foldl]
 refine G.eqL [blk g (u8s ((((l1.set (1 + (i - 1).toNat * 1) (dg ((((((x % 100000000) % 10000) % 100) * 2) + 1).toNat))).set (1 + (i - 2).toNat * 1) (dg (((((x % 100000000) % 10000) % 100) * 2).toNat))).set (1 + (i - 3).toNat * 1) (dg ((((((x % 100000000) % 10000) / 100) * 2) + 1).toNat))).set (1 + (i - 4).toNat * 1) (dg (((((x % 100000000) % 10000) / 100) * 2).toNat)))) 315] (by rw [u8s_set]; try rfl) ?_
 refine D.done ?_
 refine K12 _ _ _ ?_
 refine G.Z fun _ K13 => ?_
 refine G.draw 15 [] [] [] ?_
 refine D.V 0 68 1 .mv ?_
 refine D.V 1 69 3 .mv ?_
 refine D.V 2 70 7 .bw ?_
 refine D.V 3 71 15 .mv ?_
 refine D.V 4 72 31 .mv ?_
 refine D.V 5 73 63 .bw ?_
 refine D.V 6 74 127 .mv ?_
 refine D.V 7 75 255 (.cast .bin (wi32 (by omega) (by omega))) ?_
 refine D.V 8 76 511 (.sidx (s := smallsT) r9 ((((((x % 100000000) / 10000) % 100) * 2) + 1).toNat) (dg_at (by omega)) (hi := by omega)) ?_
 refine D.V 9 77 1023 .mv ?_
 refine D.V 10 78 2047 (.sidx (s := smallsT) r9 (((((x % 100000000) / 10000) % 100) * 2).toNat) (dg_at (by omega)) (hi := by omega)) ?_
 refine D.V 11 79 4095 (.is s165 (i - 5).toNat (show (i - 5).toNat < n by omega) (hi := by omega)) ?_
 refine D.sto 12 8191 0 (.st t5 0 (hl := by simp only [u8s, List.length_map, List.length_set]; omega)) [] []  rfl ?_
 dsimp only [List.set, sets, Value.cells, List.zipIdx, List.foldl]
 refine G.eqL [blk g (u8s (((((l1.set (1 + (i - 1).toNat * 1) (dg ((((((x % 100000000) % 10000) % 100) * 2) + 1).toNat))).set (1 + (i - 2).toNat * 1) (dg (((((x % 100000000) % 10000) % 100) * 2).toNat))).set (1 + (i - 3).toNat * 1) (dg ((((((x % 100000000) % 10000) / 100) * 2) + 1).toNat))).set (1 + (i - 4).toNat * 1) (dg (((((x % 100000000) % 10000) / 100) * 2).toNat))).set (1 + (i - 5).toNat * 1) (dg ((((((x % 100000000) / 10000) % 100) * 2) + 1).toNat)))) 315] (by rw [u8s_set]; try rfl) ?_
 refine D.V 13 80 16383 (.is s165 (i - 6).toNat (show (i - 6).toNat < n by omega) (hi := by omega)) ?_
 refine D.sto 14 32767 0 (.st t5 0 (hl := by simp only [u8s, List.length_map, List.length_set]; omega)) [] []  rfl ?_
 dsimp only [List.set, sets, Value.cells, List.zipIdx, List.foldl]
 refine G.eqL [blk g (u8s ((((((l1.set (1 + (i - 1).toNat * 1) (dg ((((((x % 100000000) % 10000) % 100) * 2) + 1).toNat))).set (1 + (i - 2).toNat * 1) (dg (((((x % 100000000) % 10000) % 100) * 2).toNat))).set (1 + (i - 3).toNat * 1) (dg ((((((x % 100000000) % 10000) / 100) * 2) + 1).toNat))).set (1 + (i - 4).toNat * 1) (dg (((((x % 100000000) % 10000) / 100) * 2).toNat))).set (1 + (i - 5).toNat * 1) (dg ((((((x % 100000000) / 10000) % 100) * 2) + 1).toNat))).set (1 + (i - 6).toNat * 1) (dg (((((x % 100000000) / 10000) % 100) * 2).toNat)))) 315] (by rw [u8s_set]; try rfl) ?_
 refine D.done ?_
 refine K13 _ _ _ ?_
 refine G.Z fun _ K14 => ?_
 refine G.draw 15 [] [] [] ?_
 refine D.V 0 81 1 .mv ?_
 refine D.V 1 82 3 .mv ?_
 refine D.V 2 83 7 .bw ?_
 refine D.V 3 84 15 .mv ?_
 refine D.V 4 85 31 .mv ?_
 refine D.V 5 86 63 .bw ?_
 refine D.V 6 87 127 .mv ?_
 refine D.V 7 88 255 (.cast .bin (wi32 (by omega) (by omega))) ?_
 refine D.V 8 89 511 (.sidx (s := smallsT) r9 ((((((x % 100000000) / 10000) / 100) * 2) + 1).toNat) (dg_at (by omega)) (hi := by omega)) ?_
 refine D.V 9 90 1023 .mv ?_
 refine D.V 10 91 2047 (.sidx (s := smallsT) r9 (((((x % 100000000) / 10000) / 100) * 2).toNat) (dg_at (by omega)) (hi := by omega)) ?_
 refine D.V 11 92 4095 (.is s165 (i - 7).toNat (show (i - 7).toNat < n by omega) (hi := by omega)) ?_
 refine D.sto 12 8191 0 (.st t5 0 (hl := by simp only [u8s, List.length_map, List.length_set]; omega)) [] []  rfl ?_
 dsimp only [List.set, sets, Value.cells, List.zipIdx, List.foldl]
 refine G.eqL [blk g (u8s (((((((l1.set (1 + (i - 1).toNat * 1) (dg ((((((x % 100000000) % 10000) % 100) * 2) + 1).toNat))).set (1 + (i - 2).toNat * 1) (dg (((((x % 100000000) % 10000) % 100) * 2).toNat))).set (1 + (i - 3).toNat * 1) (dg ((((((x % 100000000) % 10000) / 100) * 2) + 1).toNat))).set (1 + (i - 4).toNat * 1) (dg (((((x % 100000000) % 10000) / 100) * 2).toNat))).set (1 + (i - 5).toNat * 1) (dg ((((((x % 100000000) / 10000) % 100) * 2) + 1).toNat))).set (1 + (i - 6).toNat * 1) (dg (((((x % 100000000) / 10000) % 100) * 2).toNat))).set (1 + (i - 7).toNat * 1) (dg ((((((x % 100000000) / 10000) / 100) * 2) + 1).toNat)))) 315] (by rw [u8s_set]; try rfl) ?_
 refine D.V 13 93 16383 (.is s165 (i - 8).toNat (show (i - 8).toNat < n by omega) (hi := by omega)) ?_
 refine D.sto 14 32767 0 (.st t5 0 (hl := by simp only [u8s, List.length_map, List.length_set]; omega)) [] []  rfl ?_
 dsimp only [List.set, sets, Value.cells, List.zipIdx, List.foldl]
 refine G.eqL [blk g (u8s ((((((((l1.set (1 + (i - 1).toNat * 1) (dg ((((((x % 100000000) % 10000) % 100) * 2) + 1).toNat))).set (1 + (i - 2).toNat * 1) (dg (((((x % 100000000) % 10000) % 100) * 2).toNat))).set (1 + (i - 3).toNat * 1) (dg ((((((x % 100000000) % 10000) / 100) * 2) + 1).toNat))).set (1 + (i - 4).toNat * 1) (dg (((((x % 100000000) % 10000) / 100) * 2).toNat))).set (1 + (i - 5).toNat * 1) (dg ((((((x % 100000000) / 10000) % 100) * 2) + 1).toNat))).set (1 + (i - 6).toNat * 1) (dg (((((x % 100000000) / 10000) % 100) * 2).toNat))).set (1 + (i - 7).toNat * 1) (dg ((((((x % 100000000) / 10000) / 100) * 2) + 1).toNat))).set (1 + (i - 8).toNat * 1) (dg (((((x % 100000000) / 10000) / 100) * 2).toNat)))) 315] (by rw [u8s_set]; try rfl) ?_
 refine D.done ?_
 refine K14 _ _ _ ?_
 refine G.region ?_
 refine G.M 94 ?_
 refine G.V 95 .bw ?_
 refine G.M 4 ?_
 refine G.nk K3 ?_
 exact G.ls ⟨(k', step8 l1 i x, i - 8, x / 100000000), by simp only [step8, w2_len]; exact hl1, by dsimp only; omega, by dsimp only; omega, by dsimp only; omega, by rw [← hk', hF]⟩
 have dhc20 := of_decide_eq_false hc20
 refine G.exit ?_
 refine K2 _ _ _ ?_
 refine G.meet (ι := {q : List Int × Int × Int // q.1.length = 24 ∧ (0 ≤ q.2.1 ∧ q.2.1 ≤ n ∧ q.2.1 < 8) ∧ (0 ≤ q.2.2 ∧ q.2.2 < 4294967296) ∧ fin4 q.1 q.2.1 q.2.2 = fin8 3 l n u}) (fun ⟨⟨lb, ib, xb⟩, hlb, hib, hxb, hFb⟩ => [(0, .slice (some ⟨g, 1, none⟩) n c), (4, .int .i64 ib), (12, .int .u32 xb)]) (fun ⟨⟨lb, ib, xb⟩, hlb, hib, hxb, hFb⟩ => [blk g (u8s lb) 315]) (fun ⟨⟨lb, ib, xb⟩, hlb, hib, hxb, hFb⟩ => []) (fun _ K16 => ?_) ?_
 refine G.region ?_
 refine G.M 96 ?_
 refine G.V 97 (.cvi (a := x) k143 k196 rfl) ?_
 refine G.M 12 ?_
 refine G.nk K16 ?_
 exact G.as ⟨(l1, i, IntKind.u32.wrap x), hl1, by dsimp only; omega, u32_b x, by rw [← hF, fin8_lt (by omega)]⟩
 rintro ⟨⟨lb, ib, xb⟩, hlb, hib, hxb, hFb⟩
 try dsimp only
 try dsimp only at hlb hib hxb hFb
 refine G.meet (ι := {q : List Int × Int × Int // q.1.length = 24 ∧ (0 ≤ q.2.1 ∧ q.2.1 ≤ n ∧ q.2.1 < 4) ∧ (0 ≤ q.2.2 ∧ q.2.2 < 4294967296) ∧ fin2 q.1 q.2.1 q.2.2 = fin8 3 l n u}) (fun ⟨⟨lc, ic, xc⟩, hlc, hic, hxc, hFc⟩ => [(0, .slice (some ⟨g, 1, none⟩) n c), (4, .int .i64 ic), (12, .int .u32 xc)]) (fun ⟨⟨lc, ic, xc⟩, hlc, hic, hxc, hFc⟩ => [blk g (u8s lc) 315]) (fun ⟨⟨lc, ic, xc⟩, hlc, hic, hxc, hFc⟩ => []) (fun _ K18 => ?_) ?_
 refine G.sr fun _ K19 => ?_
 refine G.M 98 ?_
 refine G.V 99 .bin ?_
 refine G.nk K19 ?_
 refine G.cond rfl (fun hc99 => ?_) (fun hc99 => ?_)
 have dhc99 := of_decide_eq_true hc99
 refine G.sr fun _ K20 => ?_
 refine G.M 100 ?_
 refine G.V 101 (.rem (a := xb) (b := 10000) (r := xb % 10000) (by decide) (Int.tmod_eq_emod_of_nonneg (by omega))) ?_
 refine G.M 13 ?_
 refine G.nk K20 ?_
 refine G.sr fun _ K21 => ?_
 refine G.M 102 ?_
 refine G.V 103 (.quo (a := xb) (b := 10000) (by decide) (wq32 (by omega) (by omega) (by decide))) ?_
 refine G.M 12 ?_
 refine G.nk K21 ?_
 refine G.sr fun _ K22 => ?_
 refine G.M 104 ?_
 refine G.V 105 (.quo (a := xb % 10000) (b := 100) (by decide) (wq32 (by omega) (by omega) (by decide))) ?_
 refine G.V 106 (.cast .bin (wi32 (by omega) (by omega))) ?_
 refine G.M 107 ?_
 refine G.V 108 (.rem (a := xb % 10000) (b := 100) (r := (xb % 10000) % 100) (by decide) (Int.tmod_eq_emod_of_nonneg (by omega))) ?_
 refine G.V 109 (.cast .bin (wi32 (by omega) (by omega))) ?_
 refine G.M2 14 15 ?_
 refine G.nk K22 ?_
 refine G.Z fun _ K23 => ?_
 refine G.draw 15 [] [] [] ?_
 refine D.V 0 110 1 .mv ?_
 refine D.V 1 111 3 .mv ?_
 refine D.V 2 112 7 .bw ?_
 refine D.V 3 113 15 .mv ?_
 refine D.V 4 114 31 .mv ?_
 refine D.V 5 115 63 .bw ?_
 refine D.V 6 116 127 .mv ?_
 refine D.V 7 117 255 (.cast .bin (wi32 (by omega) (by omega))) ?_
 refine D.V 8 118 511 (.sidx (s := smallsT) r9 (((((xb % 10000) % 100) * 2) + 1).toNat) (dg_at (by omega)) (hi := by omega)) ?_
 refine D.V 9 119 1023 .mv ?_
 refine D.V 10 120 2047 (.sidx (s := smallsT) r9 ((((xb % 10000) % 100) * 2).toNat) (dg_at (by omega)) (hi := by omega)) ?_
 refine D.V 11 121 4095 (.is s165 (ib - 1).toNat (show (ib - 1).toNat < n by omega) (hi := by omega)) ?_
 refine D.sto 12 8191 0 (.st t5 0 (hl := by simp only [u8s, List.length_map, List.length_set]; omega)) [] []  rfl ?_
 dsimp only [List.set, sets, Value.cells, List.zipIdx, List.foldl]
 refine G.eqL [blk g (u8s (lb.set (1 + (ib - 1).toNat * 1) (dg (((((xb % 10000) % 100) * 2) + 1).toNat)))) 315] (by rw [u8s_set]; try rfl) ?_
 refine D.V 13 122 16383 (.is s165 (ib - 2).toNat (show (ib - 2).toNat < n by omega) (hi := by omega)) ?_
 refine D.sto 14 32767 0 (.st t5 0 (hl := by simp only [u8s, List.length_map, List.length_set]; omega)) [] []  rfl ?_
 dsimp only [List.set, sets, Value.cells, List.zipIdx, List.foldl]
 refine G.eqL [blk g (u8s ((lb.set (1 + (ib - 1).toNat * 1) (dg (((((xb % 10000) % 100) * 2) + 1).toNat))).set (1 + (ib - 2).toNat * 1) (dg ((((xb % 10000) % 100) * 2).toNat)))) 315] (by rw [u8s_set]; try rfl) ?_
 refine D.done ?_
 refine K23 _ _ _ ?_
 refine G.Z fun _ K24 => ?_
 refine G.draw 15 [] [] [] ?_
 refine D.V 0 123 1 .mv ?_
 refine D.V 1 124 3 .mv ?_
 refine D.V 2 125 7 .bw ?_
 refine D.V 3 126 15 .mv ?_
 refine D.V 4 127 31 .mv ?_
 refine D.V 5 128 63 .bw ?_
 refine D.V 6 129 127 .mv ?_
 refine D.V 7 130 255 (.cast .bin (wi32 (by omega) (by omega))) ?_
 refine D.V 8 131 511 (.sidx (s := smallsT) r9 (((((xb % 10000) / 100) * 2) + 1).toNat) (dg_at (by omega)) (hi := by omega)) ?_
 refine D.V 9 132 1023 .mv ?_
 refine D.V 10 133 2047 (.sidx (s := smallsT) r9 ((((xb % 10000) / 100) * 2).toNat) (dg_at (by omega)) (hi := by omega)) ?_
 refine D.V 11 134 4095 (.is s165 (ib - 3).toNat (show (ib - 3).toNat < n by omega) (hi := by omega)) ?_
 refine D.sto 12 8191 0 (.st t5 0 (hl := by simp only [u8s, List.length_map, List.length_set]; omega)) [] []  rfl ?_
 dsimp only [List.set, sets, Value.cells, List.zipIdx, List.foldl]
 refine G.eqL [blk g (u8s (((lb.set (1 + (ib - 1).toNat * 1) (dg (((((xb % 10000) % 100) * 2) + 1).toNat))).set (1 + (ib - 2).toNat * 1) (dg ((((xb % 10000) % 100) * 2).toNat))).set (1 + (ib - 3).toNat * 1) (dg (((((xb % 10000) / 100) * 2) + 1).toNat)))) 315] (by rw [u8s_set]; try rfl) ?_
 refine D.V 13 135 16383 (.is s165 (ib - 4).toNat (show (ib - 4).toNat < n by omega) (hi := by omega)) ?_
 refine D.sto 14 32767 0 (.st t5 0 (hl := by simp only [u8s, List.length_map, List.length_set]; omega)) [] []  rfl ?_
 dsimp only [List.set, sets, Value.cells, List.zipIdx, List.foldl]
 refine G.eqL [blk g (u8s ((((lb.set (1 + (ib - 1).toNat * 1) (dg (((((xb % 10000) % 100) * 2) + 1).toNat))).set (1 + (ib - 2).toNat * 1) (dg ((((xb % 10000) % 100) * 2).toNat))).set (1 + (ib - 3).toNat * 1) (dg (((((xb % 10000) / 100) * 2) + 1).toNat))).set (1 + (ib - 4).toNat * 1) (dg ((((xb % 10000) / 100) * 2).toNat)))) 315] (by rw [u8s_set]; try rfl) ?_
 refine D.done ?_
 refine K24 _ _ _ ?_
 refine G.region ?_
 refine G.M 136 ?_
 refine G.V 137 .bw ?_
 refine G.M 4 ?_
 refine G.nk K18 ?_
 exact G.as ⟨(((((lb.set (1 + (ib - 1).toNat * 1) (dg (((((xb % 10000) % 100) * 2) + 1).toNat))).set (1 + (ib - 2).toNat * 1) (dg ((((xb % 10000) % 100) * 2).toNat))).set (1 + (ib - 3).toNat * 1) (dg (((((xb % 10000) / 100) * 2) + 1).toNat))).set (1 + (ib - 4).toNat * 1) (dg ((((xb % 10000) / 100) * 2).toNat))), ib - 4, xb / 10000), (by first | omega | (simp only [w2_len, List.length_set]; omega)), by dsimp only; omega, by dsimp only; omega, by rw [← hFb]; unfold fin4; first | (rw [if_pos (by omega)]; rfl) | (rw [if_neg (by omega)])⟩
 have dhc99 := of_decide_eq_false hc99
 refine G.sk K18 ?_
 exact G.as ⟨(lb, ib, xb), (by first | omega | (simp only [w2_len, List.length_set]; omega)), by dsimp only; omega, by dsimp only; omega, by rw [← hFb]; unfold fin4; first | (rw [if_pos (by omega)]; rfl) | (rw [if_neg (by omega)])⟩
 rintro ⟨⟨lc, ic, xc⟩, hlc, hic, hxc, hFc⟩
 try dsimp only
 try dsimp only at hlc hic hxc hFc
 refine G.meet (ι := {q : List Int × Int × Int // q.1.length = 24 ∧ (0 ≤ q.2.1 ∧ q.2.1 ≤ n ∧ q.2.1 < 2) ∧ (0 ≤ q.2.2 ∧ q.2.2 < 4294967296) ∧ fin1 q.1 q.2.1 q.2.2 = fin8 3 l n u}) (fun ⟨⟨ld, id, xd⟩, hld, hid, hxd, hFd⟩ => [(0, .slice (some ⟨g, 1, none⟩) n c), (4, .int .i64 id), (12, .int .u32 xd)]) (fun ⟨⟨ld, id, xd⟩, hld, hid, hxd, hFd⟩ => [blk g (u8s ld) 315]) (fun ⟨⟨ld, id, xd⟩, hld, hid, hxd, hFd⟩ => []) (fun _ K26 => ?_) ?_
 refine G.sr fun _ K27 => ?_
 refine G.M 138 ?_
 refine G.V 139 .bin ?_
 refine G.nk K27 ?_
 refine G.cond rfl (fun hc139 => ?_) (fun hc139 => ?_)
 have dhc139 := of_decide_eq_true hc139
 refine G.sr fun _ K28 => ?_
 refine G.M 140 ?_
 refine G.V 141 (.rem (a := xc) (b := 100) (r := xc % 100) (by decide) (Int.tmod_eq_emod_of_nonneg (by omega))) ?_
 refine G.V 142 (.cast .bin (wi32 (by omega) (by omega))) ?_
 refine G.M 16 ?_
 refine G.nk K28 ?_
 refine G.sr fun _ K29 => ?_
 refine G.M 143 ?_
 refine G.V 144 (.quo (a := xc) (b := 100) (by decide) (wq32 (by omega) (by omega) (by decide))) ?_
 refine G.M 12 ?_
 refine G.nk K29 ?_
 refine G.Z fun _ K30 => ?_
 refine G.draw 15 [] [] [] ?_
 refine D.V 0 145 1 .mv ?_
 refine D.V 1 146 3 .mv ?_
 refine D.V 2 147 7 .bw ?_
 refine D.V 3 148 15 .mv ?_
 refine D.V 4 149 31 .mv ?_
 refine D.V 5 150 63 .bw ?_
 refine D.V 6 151 127 .mv ?_
 refine D.V 7 152 255 (.cast .bin (wi32 (by omega) (by omega))) ?_
 refine D.V 8 153 511 (.sidx (s := smallsT) r9 ((((xc % 100) * 2) + 1).toNat) (dg_at (by omega)) (hi := by omega)) ?_
 refine D.V 9 154 1023 .mv ?_
 refine D.V 10 155 2047 (.sidx (s := smallsT) r9 (((xc % 100) * 2).toNat) (dg_at (by omega)) (hi := by omega)) ?_
 refine D.V 11 156 4095 (.is s165 (ic - 1).toNat (show (ic - 1).toNat < n by omega) (hi := by omega)) ?_
 refine D.sto 12 8191 0 (.st t5 0 (hl := by simp only [u8s, List.length_map, List.length_set]; omega)) [] []  rfl ?_
 dsimp only [List.set, sets, Value.cells, List.zipIdx, List.foldl]
 refine G.eqL [blk g (u8s (lc.set (1 + (ic - 1).toNat * 1) (dg ((((xc % 100) * 2) + 1).toNat)))) 315] (by rw [u8s_set]; try rfl) ?_
 refine D.V 13 157 16383 (.is s165 (ic - 2).toNat (show (ic - 2).toNat < n by omega) (hi := by omega)) ?_
 refine D.sto 14 32767 0 (.st t5 0 (hl := by simp only [u8s, List.length_map, List.length_set]; omega)) [] []  rfl ?_
 dsimp only [List.set, sets, Value.cells, List.zipIdx, List.foldl]
 refine G.eqL [blk g (u8s ((lc.set (1 + (ic - 1).toNat * 1) (dg ((((xc % 100) * 2) + 1).toNat))).set (1 + (ic - 2).toNat * 1) (dg (((xc % 100) * 2).toNat)))) 315] (by rw [u8s_set]; try rfl) ?_
 refine D.done ?_
 refine K30 _ _ _ ?_
 refine G.region ?_
 refine G.M 158 ?_
 refine G.V 159 .bw ?_
 refine G.M 4 ?_
 refine G.nk K26 ?_
 exact G.as ⟨(((lc.set (1 + (ic - 1).toNat * 1) (dg ((((xc % 100) * 2) + 1).toNat))).set (1 + (ic - 2).toNat * 1) (dg (((xc % 100) * 2).toNat))), ic - 2, xc / 100), (by first | omega | (simp only [w2_len, List.length_set]; omega)), by dsimp only; omega, by dsimp only; omega, by rw [← hFc]; unfold fin2; first | (rw [if_pos (by omega)]; rfl) | (rw [if_neg (by omega)])⟩
 have dhc139 := of_decide_eq_false hc139
 refine G.sk K26 ?_
 exact G.as ⟨(lc, ic, xc), (by first | omega | (simp only [w2_len, List.length_set]; omega)), by dsimp only; omega, by dsimp only; omega, by rw [← hFc]; unfold fin2; first | (rw [if_pos (by omega)]; rfl) | (rw [if_neg (by omega)])⟩
 rintro ⟨⟨ld, id, xd⟩, hld, hid, hxd, hFd⟩
 try dsimp only
 try dsimp only at hld hid hxd hFd
 refine G.sr fun _ K31 => ?_
 refine G.M 160 ?_
 refine G.V 161 .bin ?_
 refine G.nk K31 ?_
 refine G.cond rfl (fun hc161 => ?_) (fun hc161 => ?_)
 have dhc161 := of_decide_eq_true hc161
 refine G.region ?_
 refine G.M2 162 163 ?_
 refine G.V 164 .bin ?_
 refine G.V 165 (.cvi (a := IntKind.u32.wrap (48 + xd)) k196 k5 rfl) ?_
 refine G.V 166 (.is s165 0 (show 0 < n by omega)) ?_
 refine G.sn 0 (.st t5 0 (hl := by simp only [u8s, List.length_map, List.length_set]; omega)) rfl ?_
 refine G.eqL [blk g (u8s (ld.set (1 + 0 * 1) (IntKind.u8.wrap (IntKind.u32.wrap (48 + xd))))) 315] (by rw [u8s_set]; try rfl) ?_
 refine G.nil ?_
 exact G.fin0 [0] (.nil Tryz.results206) ⟨rfl, show [blk g (u8s (ld.set (1 + 0 * 1) (IntKind.u8.wrap (IntKind.u32.wrap (48 + xd))))) 315] = [blk g (u8s (fin8 3 l n u)) 315] from by rw [← hFd]; unfold fin1; first | (rw [if_pos (by omega)]) | (rw [if_neg (by omega)])⟩
 have dhc161 := of_decide_eq_false hc161
 refine G.skip ?_
 exact G.fin0 [0] (.nil Tryz.results206) ⟨rfl, show [blk g (u8s ld) 315] = [blk g (u8s (fin8 3 l n u)) 315] from by rw [← hFd]; unfold fin1; first | (rw [if_pos (by omega)]) | (rw [if_neg (by omega)])⟩
theorem a315 : tarray prog 315 = some (24, 1) := by kernel_rfl
theorem a319 : tarray prog 319 = some (20, 1) := by kernel_rfl
theorem e201 : Is prog 201 := ⟨_, func201, by kernel_rfl, rfl⟩
theorem e203 : Is prog 203 := ⟨_, func203, by kernel_rfl, rfl⟩
theorem e204 : Is prog 204 := ⟨_, func204, by kernel_rfl, rfl⟩
theorem e205 : Is prog 205 := ⟨_, func205, by kernel_rfl, rfl⟩
theorem e206 : Is prog 206 := ⟨_, func206, by kernel_rfl, rfl⟩
theorem e208 : Is prog 208 := ⟨_, func208, by kernel_rfl, rfl⟩
theorem e209 : Is prog 209 := ⟨_, func209, by kernel_rfl, rfl⟩
theorem k2 : tkind prog 2 = some .i64 := by kernel_rfl
theorem t143 : tsz prog 143 = some (false, 1) := by kernel_rfl
theorem z315 : tzero prog 315 = some [.int .u8 0, .int .u8 0, .int .u8 0, .int .u8 0, .int .u8 0, .int .u8 0, .int .u8 0, .int .u8 0, .int .u8 0, .int .u8 0, .int .u8 0, .int .u8 0, .int .u8 0, .int .u8 0, .int .u8 0, .int .u8 0, .int .u8 0, .int .u8 0, .int .u8 0, .int .u8 0, .int .u8 0, .int .u8 0, .int .u8 0, .int .u8 0] := by kernel_rfl
def u64s (l : List Int) : List Value := l.map (Value.int .u64)
theorem u64s_at {l : List Int} {k : Nat} (h : k < l.length) : (u64s l)[0 + k * 1]? = some (.int .u64 (l.getD k 0)) := by simp [u64s, h]
def tN (u : Int) : Nat := Lib.l10 (Lib.bitLen u.toNat)
theorem bitLen_b {u : Int} (h0 : 1 ≤ u) (h1 : u ≤ 1099511627776) : Lib.bitLen u.toNat ≤ 41 := by
 have h := Lib.bitLenAux_bounds 64 u.toNat (by omega) (by omega)
 have h2 : 2 ^ (Lib.bitLenAux 64 u.toNat - 1) ≤ 1099511627776 := by omega
 rcases Nat.lt_or_ge 41 (Lib.bitLenAux 64 u.toNat) with q | q
 ·have : 2 ^ 41 ≤ 2 ^ (Lib.bitLenAux 64 u.toNat - 1) := Nat.pow_le_pow_right (by decide) (by omega)
  omega
 ·exact q
theorem tN_b {u : Int} (h0 : 1 ≤ u) (h1 : u ≤ 1099511627776) : tN u ≤ 12 := by
 have := bitLen_b h0 h1
 unfold tN Lib.l10
 omega
def digN (pw : List Int) (u : Int) : Nat := tN u + (if u ≥ pw.getD (tN u) 0 then 1 else 0)
theorem digN_b {pw : List Int} {u : Int} (h0 : 1 ≤ u) (h1 : u ≤ 1099511627776) : digN pw u ≤ 13 := by
 have := tN_b h0 h1
 unfold digN
 split <;> omega
theorem i_digits (pw : List Int) (hpw : pw.length = 20) (u : Int) (h0 : 1 ≤ u) (h1 : u ≤ 1099511627776) : Spec prog 205 [.int .u64 u] [] [blk 2 (u64s pw) 319] (fun v Ln => v = .int .i64 ((digN pw u : Nat) : Int) ∧ Ln = []) := by
 have hbl := bitLen_b h0 h1
 have htn : Lib.l10 (Lib.bitLen u.toNat) ≤ 12 := tN_b h0 h1
 refine Spec.en func205 ntmps205 fun w0 => ?_
 refine G.sr fun _ K1 => ?_
 refine G.M 2 ?_
 refine G.nk K1 ?_
 refine G.sr fun _ K2 => ?_
 refine G.M 4 ?_
 refine G.cp 5 [] []  e91 (Spec.same (fun w => Tryz.bits_Len64 u w (by omega) (by omega))) ?_
 refine G.cp 6 [] []  e208 (Spec.same (fun w => Tryz.internal_strconv_log10Pow2 (Lib.bitLen u.toNat) (by omega) w)) ?_
 refine G.M 3 ?_
 refine G.nk K2 ?_
 refine G.sr fun _ K3 => ?_
 refine G.M3 7 8 9 ?_
 refine G.V 10 (.ia a319 (Lib.l10 (Lib.bitLen u.toNat)) (show Lib.l10 (Lib.bitLen u.toNat) < 20 by omega)) ?_
 refine G.V 11 (.ld t143 0 (hv := u64s_at (l := pw) (k := Lib.l10 (Lib.bitLen u.toNat)) (by omega))) ?_
 refine G.V 12 .bin ?_
 refine G.cp 13 [] []  e209 (Spec.same (fun w => Tryz.internal_strconv_bool2_int (decide (u ≥ pw.getD (Lib.l10 (Lib.bitLen u.toNat)) 0)) w)) ?_
 refine G.V 14 (.cast .bin (wi (by split <;> omega) (by split <;> omega))) ?_
 refine G.M 2 ?_
 refine G.nk K3 ?_
 exact G.ret (G.F [] (.one Tryz.results205) ⟨by unfold digN tN; congr 1; simp only [decide_eq_true_eq]; by_cases q : u ≥ pw.getD (Lib.l10 (Lib.bitLen u.toNat)) 0 <;> (first | (rw [if_pos q, if_pos q]) | (rw [if_neg q, if_neg q])) <;> omega, rfl⟩)
def absI (x : Int) : Int := if x < 0 then -x else x
def fmtL (pw : List Int) (x : Int) : List Int := fin8 3 (List.replicate 24 0) (digN pw (absI x)) (absI x)
def itoaV (pw : List Int) (x : Int) : ByteArray := if 0 ≤ x ∧ x < 100 then ⟨(Lib.decDigits x.toNat).toArray⟩ else if x < 0 then strOf (((fmtL pw x).set 0 45).take (1 + digN pw (absI x))) else strOf (((fmtL pw x).drop 1).take (digN pw (absI x)))
theorem fin8_len : ∀ (k : Nat) (l : List Int) (i u : Int), (fin8 k l i u).length = l.length := by
 have e1 : ∀ (l : List Int) (i x : Int), (fin1 l i x).length = l.length := by intro l i x; unfold fin1; split <;> simp
 have e2 : ∀ (l : List Int) (i x : Int), (fin2 l i x).length = l.length := by intro l i x; unfold fin2; split <;> simp [e1, w2_len]
 have e4 : ∀ (l : List Int) (i x : Int), (fin4 l i x).length = l.length := by intro l i x; unfold fin4; split <;> simp [e2, w2_len]
 intro k
 induction k with
 | zero => intro l i u; exact e4 _ _ _
 | succ k ih =>
  intro l i u
  show (if i ≥ 8 then _ else _ : List Int).length = _
  split
  ·rw [ih]; simp [step8, w2_len]
  ·exact e4 _ _ _
theorem fmtL_len (pw : List Int) (x : Int) : (fmtL pw x).length = 24 := by unfold fmtL; rw [fin8_len]; rfl
theorem strOf_size (l : List Int) : (strOf l).size = l.length := by
 unfold strOf
 have key : ∀ (l : List Int) (s : ByteArray), (l.foldl (fun r n => r.push (UInt8.ofNat n.toNat)) s).size = s.size + l.length := by
  intro l
  induction l with
  | nil => intro s; rfl
  | cons x l ih => intro s; rw [List.foldl_cons, ih, ByteArray.size_push, List.length_cons]; omega
 rw [key]; simp
theorem dd_len {k : Nat} (h : k < 100) : (Lib.decDigits k).length ≤ 2 := by
 rw [Lib.decDigits_length]
 unfold Lib.nDigits
 split
 ·omega
 ·unfold Lib.nDigits
  split <;> omega
theorem itoaV_size (pw : List Int) (x : Int) : (itoaV pw x).size ≤ 24 := by
 unfold itoaV
 split
 ·next h =>
  have := dd_len (k := x.toNat) (by omega)
  show ((Lib.decDigits x.toNat).toArray).size ≤ 24
  simp only [List.size_toArray]; omega
 ·have := fmtL_len pw x
  split
  ·rw [strOf_size, List.length_take, List.length_set]; omega
  ·rw [strOf_size, List.length_take, List.length_drop]; omega
theorem wneg {x : Int} (h0 : x < 0) (h1 : -9223372036854775808 ≤ x) : IntKind.u64.wrap (0 - IntKind.u64.wrap x) = -x := by simp [IntKind.wrap, IntKind.bits, IntKind.signed]; omega
theorem wpos {x : Int} (h0 : 0 ≤ x) (h1 : x < 9223372036854775808) : IntKind.u64.wrap x = x := by simp [IntKind.wrap, IntKind.bits, IntKind.signed]; omega
theorem drop_u8s (l : List Int) (o n : Nat) : ((u8s l).drop o).take n = u8s ((l.drop o).take n) := by simp [u8s, List.map_drop, List.map_take]
theorem i_FmtS (pw : List Int) (x : Int) (h0 : 0 ≤ x) (h1 : x < 100) : Spec prog 203 [.int .i64 x, .int .i64 10] [] [blk 2 (u64s pw) 319] (fun v Ln => v = .string (itoaV pw x) ∧ Ln = []) := by
 refine Spec.en func203 ntmps203 fun w0 => ?_
 refine G.sr fun _ K1 => ?_
 refine G.M 4 ?_
 refine G.nk K1 ?_
 refine G.Z fun _ K2 => ?_
 refine G.sr fun _ K3 => ?_
 refine G.M 10 ?_
 refine G.V 11 (.cast .bin (et (by decide))) ?_
 refine G.nk K3 ?_
 refine G.yes rfl ?_
 refine G.Z fun _ K4 => ?_
 refine G.sr fun _ K5 => ?_
 refine G.M 12 ?_
 refine G.V 13 (.cast .bin (bt (by omega))) ?_
 refine G.M2 14 15 ?_
 refine G.V 16 (.cast .bin (bt (by omega))) ?_
 refine G.V 17 .pick ?_
 refine G.nk K5 ?_
 refine G.yes rfl ?_
 refine G.sr fun _ K6 => ?_
 refine G.M 18 ?_
 refine G.cp 19 [] []  e204 (Spec.same (fun w => by have h := Tryz.internal_strconv_small x.toNat (by omega) w; rw [show ((x.toNat : Nat) : Int) = x from by omega] at h; exact h)) ?_
 refine G.M 4 ?_
 refine G.nk K6 ?_
 exact G.ret (G.F [] (.one Tryz.results203) ⟨by unfold itoaV; rw [if_pos (by omega)], rfl⟩)
theorem i_FmtN (pw : List Int) (hpw : pw.length = 20) (x : Int) (h0 : x < 0) (h1 : -32 ≤ x) : Spec prog 203 [.int .i64 x, .int .i64 10] [] [blk 2 (u64s pw) 319] (fun v Ln => v = .string (itoaV pw x) ∧ Ln = []) := by
 have hab : absI x = -x := by unfold absI; first | rw [if_pos (by omega)] | rw [if_neg (by omega)]
 have hdb := digN_b (pw := pw) (u := absI x) (by omega) (by omega)
 refine Spec.en func203 ntmps203 fun w0 => ?_
 refine G.sr fun _ K1 => ?_
 refine G.M 4 ?_
 refine G.nk K1 ?_
 refine G.Z fun _ K2 => ?_
 refine G.sr fun _ K3 => ?_
 refine G.M 10 ?_
 refine G.V 11 (.cast .bin (et (by decide))) ?_
 refine G.nk K3 ?_
 refine G.yes rfl ?_
 refine G.Z fun _ K4 => ?_
 refine G.sr fun _ K5 => ?_
 refine G.M 12 ?_
 refine G.V 13 (.cast .bin (bf (by omega))) ?_
 refine G.M 14 ?_
 refine G.O2 15 16 ?_
 refine G.V 17 .pick ?_
 refine G.nk K5 ?_
 refine G.no rfl ?_
 refine G.sk K4 ?_
 refine G.sr fun _ K6 => ?_
 refine G.mk 5 (.al z315) fun g5 => ?_
 refine G.nk K6 ?_
 refine G.sr fun _ K7 => ?_
 refine G.M 20 ?_
 refine G.V 21 (.cvi (a := x) k2 k143 rfl) ?_
 refine G.M 6 ?_
 refine G.nk K7 ?_
 refine G.Z fun _ K8 => ?_
 refine G.sr fun _ K9 => ?_
 refine G.M 22 ?_
 refine G.V 23 (.cast .bin (bt (by omega))) ?_
 refine G.nk K9 ?_
 refine G.yes rfl ?_
 refine G.region ?_
 refine G.M 24 ?_
 refine G.V 25 (.cast .neg (show Value.int .u64 (IntKind.u64.wrap (0 - IntKind.u64.wrap x)) = .int .u64 (absI x) from by rw [wneg (by omega) (by omega)]; unfold absI; rw [if_pos (by omega)])) ?_
 refine G.M 6 ?_
 refine G.nk K8 ?_
 refine G.sr fun _ K10 => ?_
 refine G.M 26 ?_
 refine G.cp 27 [] [0]  e205 (i_digits pw hpw (absI x) (by omega) (by omega)) ?_
 refine G.M 7 ?_
 refine G.nk K10 ?_
 refine G.sr fun _ K11 => ?_
 refine G.M 28 ?_
 refine G.V 29 (.cast .bin (wi (by omega) (by omega))) ?_
 refine G.V 30 (.sla (iy := 1) (iz := 1 + ((digN pw (absI x) : Nat) : Int)) a315 1 (1 + (digN pw (absI x))) (by omega) (by omega) (by omega) rfl rfl (by omega)) ?_
 refine G.M 31 ?_
 refine G.C 32 [0] []  e206 (i_base10 g5 (1 + (digN pw (absI x)) - 1) (24 - 1) (List.replicate 24 0) (absI x) rfl (by omega) (by omega)) ?_
 rintro _ _ ⟨rfl, rfl⟩
 refine G.nil ?_
 refine G.eqL [blk g5 (u8s (fmtL pw x)) 315] (by rw [show ((1 + (digN pw (absI x)) - 1 : Nat) : Int) = (((digN pw (absI x)) : Nat) : Int) from by omega]; rfl) ?_
 refine K11 _ _ _ ?_
 refine G.Z fun _ K12 => ?_
 refine G.sr fun _ K13 => ?_
 refine G.M 33 ?_
 refine G.V 34 (.cast .bin (bt (by omega))) ?_
 refine G.nk K13 ?_
 refine G.yes rfl ?_
 refine G.sr fun _ K14 => ?_
 refine G.V 35 (.ia a315 0 (by decide)) ?_
 refine G.sn 0 (.st t5 0 (hl := by simp only [u8s, List.length_map, fmtL_len]; decide)) rfl ?_
 refine G.eqL [blk g5 (u8s ((fmtL pw x).set 0 45)) 315] (by rw [u8s_set]) ?_
 refine G.nk K14 ?_
 refine G.sr fun _ K15 => ?_
 refine G.M 36 ?_
 refine G.V 37 (.cast .bin (wi (by omega) (by omega))) ?_
 refine G.V 38 (.slb (iz := 1 + ((digN pw (absI x) : Nat) : Int)) a315 (1 + (digN pw (absI x))) (by omega) (by omega) (by omega)) ?_
 refine G.V 39 (.b2s (cs := u8s ((fmtL pw x).set 0 45)) (off := 0) (n := 1 + digN pw (absI x)) x165_9 0 (l := (((fmtL pw x).set 0 45).take (1 + (digN pw (absI x))))) (by rw [drop_u8s]; rfl) (by rw [List.length_take, List.length_set, fmtL_len]; omega)) ?_
 refine G.M 4 ?_
 refine G.nk K15 ?_
 exact G.ret (G.F [] (.one Tryz.results203) ⟨by unfold itoaV; rw [if_neg (by omega), if_pos (by omega)], rfl⟩)
theorem i_FmtP (pw : List Int) (hpw : pw.length = 20) (x : Int) (h0 : 100 ≤ x) (h1 : x ≤ 1099511627776) : Spec prog 203 [.int .i64 x, .int .i64 10] [] [blk 2 (u64s pw) 319] (fun v Ln => v = .string (itoaV pw x) ∧ Ln = []) := by
 have hab : absI x = x := by unfold absI; first | rw [if_pos (by omega)] | rw [if_neg (by omega)]
 have hdb := digN_b (pw := pw) (u := absI x) (by omega) (by omega)
 refine Spec.en func203 ntmps203 fun w0 => ?_
 refine G.sr fun _ K1 => ?_
 refine G.M 4 ?_
 refine G.nk K1 ?_
 refine G.Z fun _ K2 => ?_
 refine G.sr fun _ K3 => ?_
 refine G.M 10 ?_
 refine G.V 11 (.cast .bin (et (by decide))) ?_
 refine G.nk K3 ?_
 refine G.yes rfl ?_
 refine G.Z fun _ K4 => ?_
 refine G.sr fun _ K5 => ?_
 refine G.M 12 ?_
 refine G.V 13 (.cast .bin (bt (by omega))) ?_
 refine G.M2 14 15 ?_
 refine G.V 16 (.cast .bin (bf (by omega))) ?_
 refine G.V 17 .pick ?_
 refine G.nk K5 ?_
 refine G.no rfl ?_
 refine G.sk K4 ?_
 refine G.sr fun _ K6 => ?_
 refine G.mk 5 (.al z315) fun g5 => ?_
 refine G.nk K6 ?_
 refine G.sr fun _ K7 => ?_
 refine G.M 20 ?_
 refine G.V 21 (.cvi (a := x) k2 k143 (show IntKind.u64.wrap x = absI x from by rw [wpos (by omega) (by omega)]; unfold absI; rw [if_neg (by omega)])) ?_
 refine G.M 6 ?_
 refine G.nk K7 ?_
 refine G.Z fun _ K8 => ?_
 refine G.sr fun _ K9 => ?_
 refine G.M 22 ?_
 refine G.V 23 (.cast .bin (bf (by omega))) ?_
 refine G.nk K9 ?_
 refine G.no rfl ?_
 refine G.sk K8 ?_
 refine G.sr fun _ K10 => ?_
 refine G.M 26 ?_
 refine G.cp 27 [] [0]  e205 (i_digits pw hpw (absI x) (by omega) (by omega)) ?_
 refine G.M 7 ?_
 refine G.nk K10 ?_
 refine G.sr fun _ K11 => ?_
 refine G.M 28 ?_
 refine G.V 29 (.cast .bin (wi (by omega) (by omega))) ?_
 refine G.V 30 (.sla (iy := 1) (iz := 1 + ((digN pw (absI x) : Nat) : Int)) a315 1 (1 + (digN pw (absI x))) (by omega) (by omega) (by omega) rfl rfl (by omega)) ?_
 refine G.M 31 ?_
 refine G.C 32 [0] []  e206 (i_base10 g5 (1 + (digN pw (absI x)) - 1) (24 - 1) (List.replicate 24 0) (absI x) rfl (by omega) (by omega)) ?_
 rintro _ _ ⟨rfl, rfl⟩
 refine G.nil ?_
 refine G.eqL [blk g5 (u8s (fmtL pw x)) 315] (by rw [show ((1 + (digN pw (absI x)) - 1 : Nat) : Int) = (((digN pw (absI x)) : Nat) : Int) from by omega]; rfl) ?_
 refine K11 _ _ _ ?_
 refine G.Z fun _ K12 => ?_
 refine G.sr fun _ K13 => ?_
 refine G.M 33 ?_
 refine G.V 34 (.cast .bin (bf (by omega))) ?_
 refine G.nk K13 ?_
 refine G.no rfl ?_
 refine G.sk K12 ?_
 refine G.sr fun _ K14 => ?_
 refine G.M 40 ?_
 refine G.V 41 (.cast .bin (wi (by omega) (by omega))) ?_
 refine G.V 42 (.sla (iy := 1) (iz := 1 + ((digN pw (absI x) : Nat) : Int)) a315 1 (1 + (digN pw (absI x))) (by omega) (by omega) (by omega) rfl rfl (by omega)) ?_
 refine G.V 43 (.b2s (cs := u8s (fmtL pw x)) (off := 0 + 1 * 1) (n := 1 + digN pw (absI x) - 1) x165_9 0 (l := (((fmtL pw x).drop 1).take (digN pw (absI x)))) (by rw [drop_u8s, show 1 + (digN pw (absI x)) - 1 = (digN pw (absI x)) from by omega]) (by rw [List.length_take, List.length_drop, fmtL_len]; omega)) ?_
 refine G.M 4 ?_
 refine G.nk K14 ?_
 exact G.ret (G.F [] (.one Tryz.results203) ⟨by unfold itoaV; rw [if_neg (by omega), if_neg (by omega)], rfl⟩)
theorem i_Fmt (pw : List Int) (hpw : pw.length = 20) (x : Int) (h0 : -32 ≤ x) (h1 : x ≤ 1099511627776) : Spec prog 203 [.int .i64 x, .int .i64 10] [] [blk 2 (u64s pw) 319] (fun v Ln => v = .string (itoaV pw x) ∧ Ln = []) := by
 rcases Int.lt_or_le x 0 with h | h
 ·exact i_FmtN pw hpw x h h0
 ·rcases Int.lt_or_le x 100 with q | q
  ·exact i_FmtS pw x h q
  ·exact i_FmtP pw hpw x q h1
theorem i_Itoa0 (pw : List Int) (hpw : pw.length = 20) (x : Int) (h0 : -32 ≤ x) (h1 : x ≤ 1099511627776) : Spec prog 201 [.int .i64 x] [] [blk 2 (u64s pw) 319] (fun v Ln => v = .string (itoaV pw x) ∧ Ln = []) := by
 refine Spec.en func201 ntmps201 fun w0 => ?_
 refine G.sr fun _ K1 => ?_
 refine G.M 2 ?_
 refine G.nk K1 ?_
 refine G.sr fun _ K2 => ?_
 refine G.M 3 ?_
 refine G.cp 4 [] [0]  e203 (i_Fmt pw hpw x h0 h1) ?_
 refine G.M 2 ?_
 refine G.nk K2 ?_
 exact G.ret (G.F [] (.one Tryz.results201) ⟨rfl, rfl⟩)
theorem i_Itoa (pw : List Int) (hpw : pw.length = 20) (x : Int) (h0 : -32 ≤ x) (h1 : x ≤ 1099511627776) : Spec prog 195 [.int .i64 x] [] [blk 2 (u64s pw) 319] (fun v Ln => v = .string (itoaV pw x) ∧ Ln = []) := by
 refine Spec.en func195 ntmps195 fun w0 => ?_
 refine G.sr fun _ K1 => ?_
 refine G.M 2 ?_
 refine G.nk K1 ?_
 refine G.sr fun _ K2 => ?_
 refine G.M 3 ?_
 refine G.cp 4 [] [0]  e201 (i_Itoa0 pw hpw x h0 h1) ?_
 refine G.M 2 ?_
 refine G.nk K2 ?_
 exact G.ret (G.F [] (.one Tryz.results195) ⟨rfl, rfl⟩)
theorem e194 : Is prog 194 := ⟨_, func194, by kernel_rfl, rfl⟩
theorem e195 : Is prog 195 := ⟨_, func195, by kernel_rfl, rfl⟩
theorem e196 : Is prog 196 := ⟨_, func196, by kernel_rfl, rfl⟩
theorem z305 : tzero prog 305 = some [.pointer none, .slice none 0 0] := by kernel_rfl
theorem b_Write (u : Bool) (b : Nat) (a : Option Addr) (n c : Nat) (xs : List Value) (s : ByteArray) (hs : n + s.size ≤ 1000000000) : Spec prog 194 [.pointer (some ⟨b, 0, none⟩), .string s] [blk b [.pointer (bp u b), .slice a n c] 305, row a c 5 1 n xs] [] (fun v Ln => ∃ v' a' c', v = v' ∧ Ln = [blk b [.pointer (bp true b), .slice a' (n + s.size) c'] 305, row a' c' 5 1 (n + s.size) (xs ++ Lib.strCells s)]) := by
 cases u
 ·exact b_Write0 b a n c xs s hs
 ·exact b_Write1 b a n c xs s hs
def keyE (pw : List Int) (x : Int × Int) : ByteArray := itoaV pw x.1 ++ (⟨#[58]⟩ : ByteArray) ++ itoaV pw x.2 ++ (⟨#[59]⟩ : ByteArray)
def keyV (pw : List Int) (l : List (Int × Int)) : ByteArray := l.foldl (fun s x => s ++ keyE pw x) ByteArray.empty
theorem keyV_take {pw : List Int} {l : List (Int × Int)} {k : Nat} {x : Int × Int} (h : l[k]? = some x) : keyV pw (l.take (k + 1)) = keyV pw (l.take k) ++ keyE pw x := by
 unfold keyV
 rw [List.take_add_one, h, List.foldl_append]
 rfl
theorem keyE_size (pw : List Int) (x : Int × Int) : 2 ≤ (keyE pw x).size ∧ (keyE pw x).size ≤ 50 := by
 unfold keyE
 have h1 := itoaV_size pw x.1
 have h2 := itoaV_size pw x.2
 have h3 : (⟨#[58]⟩ : ByteArray).size = 1 := rfl
 have h4 : (⟨#[59]⟩ : ByteArray).size = 1 := rfl
 simp only [ByteArray.size_append]
 omega
theorem keyV_size (pw : List Int) (l : List (Int × Int)) : l.length ≤ (keyV pw l).size ∧ (keyV pw l).size ≤ 50 * l.length := by
 have key : ∀ (l : List (Int × Int)) (s : ByteArray), s.size + l.length ≤ (l.foldl (fun s x => s ++ keyE pw x) s).size ∧ (l.foldl (fun s x => s ++ keyE pw x) s).size ≤ s.size + 50 * l.length := by
  intro l
  induction l with
  | nil => intro s; simp
  | cons x l ih =>
   intro s
   have h1 := ih (s ++ keyE pw x)
   have h2 := keyE_size pw x
   rw [ByteArray.size_append] at h1
   rw [List.foldl_cons, List.length_cons]
   omega
 have := key l ByteArray.empty
 simpa [keyV] using this
theorem strCells_app (s t : ByteArray) : Lib.strCells (s ++ t) = Lib.strCells s ++ Lib.strCells t := by
 simp [Lib.strCells, ByteArray.data_append]
theorem table_bd {l : List (Int × Int)} (h : tableB l = true) : ∀ x ∈ l, (0 ≤ x.1 ∧ x.1 ≤ 1099511627776) ∧ (-32 ≤ x.2 ∧ x.2 ≤ 32) := by
 have key : ∀ (l : List (Int × Int)) (i : Nat) (a b : Int), tabF i a b l = true → ∀ x ∈ l, (0 ≤ x.1 ∧ x.1 ≤ 1099511627776) ∧ (-32 ≤ x.2 ∧ x.2 ≤ 32) := by
  intro l
  induction l with
  | nil => intro i a b _ x hx; cases hx
  | cons y l ih =>
   intro i a b ht x hx
   unfold tabF at ht
   simp only [Bool.and_eq_true, Bool.not_eq_true'] at ht
   rcases List.mem_cons.1 hx with rfl | q
   ·have h1 := ht.1
    unfold badE at h1
    simp only [Bool.or_eq_false_iff, Bool.not_eq_false'] at h1
    exact ⟨inL1 h1.2.1, inL1 h1.2.2.1⟩
   ·exact ih _ _ _ ht.2 x q
 exact key l 0 0 0 h
theorem v_Key (pw : List Int) (hpw : pw.length = 20) (a : Option Addr) (n c : Nat) (l : List (Int × Int)) (hl : l.length = n) (hn : n ≤ 1000) (hT : tableB l = true) : Spec prog 187 [.slice a n c] [] [row a c 174 2 n (spl l), blk 2 (u64s pw) 319] (fun v Ln => v = .string (keyV pw l) ∧ Ln = []) := by
 refine Spec.en func187 ntmps187 fun w0 => ?_
 refine G.sr fun _ K1 => ?_
 refine G.M 2 ?_
 refine G.nk K1 ?_
 refine G.sr fun _ K2 => ?_
 refine G.mk 3 (.al z305) fun g3 => ?_
 refine G.nk K2 ?_
 refine G.Z fun _ K3 => ?_
 refine G.sr fun _ K4 => ?_
 refine G.M 6 ?_
 refine G.V 7 (.lenl s58) ?_
 refine G.M 8 ?_
 refine G.nil ?_
 refine G.newRow 5 1 ?_
 refine G.eqL [row none 0 5 1 ((keyV pw (l.take 0)).size) (Lib.strCells (keyV pw (l.take 0))), blk g3 [.pointer (bp false g3), .slice none ((keyV pw (l.take 0)).size) 0] 305] (by rfl) ?_
 refine K4 _ _ _ ?_
 refine G.block ?_
 refine G.lpR (ι := {q : Nat × Bool × Option Addr × Nat // q.1 ≤ n ∧ (q.1 = 0 → q.2.1 = false ∧ q.2.2.1 = none ∧ q.2.2.2 = 0) ∧ (0 < q.1 → q.2.1 = true)}) (fun ⟨⟨k, u, a1, c1⟩, hj, hz, hp⟩ => n - k) (fun ⟨⟨k, u, a1, c1⟩, hj, hz, hp⟩ => [(3, .pointer (some ⟨g3, 0, none⟩)), (6, .slice a n c), (7, .int .i64 (n : Int)), (8, .int .i64 (k : Int))]) (fun ⟨⟨k, u, a1, c1⟩, hj, hz, hp⟩ => [row a1 c1 5 1 ((keyV pw (l.take k)).size) (Lib.strCells (keyV pw (l.take k))), blk g3 [.pointer (bp u g3), .slice a1 ((keyV pw (l.take k)).size) c1] 305]) ?_ ?_
 exact G.at ⟨(0, false, none, 0), Nat.zero_le _, fun _ => ⟨rfl, rfl, rfl⟩, fun h => absurd h (by decide)⟩ (ts := [3, 6, 7, 8]) rfl rfl rfl rfl
 rintro ⟨⟨k, u, a1, c1⟩, hj, hz, hp⟩ _ K5
 try dsimp only at K5 ⊢
 try dsimp only at hj hz hp
 have hks := keyV_size pw (l.take k)
 rw [List.length_take] at hks
 refine G.sr fun _ K6 => ?_
 refine G.V 9 .bin ?_
 refine G.nk K6 ?_
 refine G.Z fun _ K7 => ?_
 refine G.cond rfl (fun hc9 => ?_) (fun hc9 => ?_)
 have hk : k < n := by have := of_decide_eq_true hc9; omega
 obtain ⟨x, hx⟩ : ∃ x, l[k]? = some x := ⟨_, List.getElem?_eq_getElem (by omega)⟩
 have hxb := table_bd hT x (List.mem_of_getElem? hx)
 have dhc9 := of_decide_eq_true hc9
 refine G.sk K7 ?_
 refine G.Z fun _ K8 => ?_
 refine G.block ?_
 refine G.Z fun _ K9 => ?_
 refine G.base 2 (show 0 < n by omega) fun b10 hb_ => ?_
 subst hb_
 refine G.region ?_
 refine G.V 10 (.is s58 k hk) ?_
 refine G.V 11 (.lda t174 2 (hv := spl_at hx)) ?_
 refine G.mk 5 (.al z174) fun g5 => ?_
 refine G.sn 0 (.st t174 0) rfl ?_
 refine G.nk K9 ?_
 refine G.draw 10 [0] [1] [] ?_
 refine D.V 0 12 1 (.fa f174_0 0) ?_
 refine D.V 4 16 17 (.fa f174_1 1) ?_
 refine D.T 1 13 19 (.ld t3 0) [0] [1] ?_
 refine D.T 5 17 51 (.ld t3 0) [0] [1] ?_
 refine D.C 2 14 55 [] [1] [0] [1]  e195 (i_Itoa pw hpw x.1 (by omega) (by omega)) ?_
 rintro _ _ ⟨rfl, rfl⟩
 refine D.V 3 15 63 (.cat (s := (itoaV pw x.1)) (s' := ⟨#[58]⟩) r9 (by have := itoaV_size pw x.1; have h58 : (⟨#[58]⟩ : ByteArray).size = 1 := rfl; omega)) ?_
 refine D.C 6 18 127 [] [1] [0] [1]  e195 (i_Itoa pw hpw x.2 (by omega) (by omega)) ?_
 rintro _ _ ⟨rfl, rfl⟩
 refine D.V 7 19 255 (.cat (s := (itoaV pw x.1) ++ (⟨#[58]⟩ : ByteArray)) (s' := (itoaV pw x.2)) r9 (by have := itoaV_size pw x.1; have := itoaV_size pw x.2; have h58 : (⟨#[58]⟩ : ByteArray).size = 1 := rfl; simp only [ByteArray.size_append]; omega)) ?_
 refine D.V 8 20 511 (.cat (s := (itoaV pw x.1) ++ (⟨#[58]⟩ : ByteArray) ++ (itoaV pw x.2)) (s' := ⟨#[59]⟩) r9 (by have := itoaV_size pw x.1; have := itoaV_size pw x.2; have h58 : (⟨#[58]⟩ : ByteArray).size = 1 := rfl; have h59 : (⟨#[59]⟩ : ByteArray).size = 1 := rfl; simp only [ByteArray.size_append]; omega)) ?_
 refine D.C 9 21 1023 [2, 1] [] [0] [1]  e194 (b_Write u g3 a1 (keyV pw (l.take k)).size c1 (Lib.strCells (keyV pw (l.take k))) ((itoaV pw x.1) ++ (⟨#[58]⟩ : ByteArray) ++ (itoaV pw x.2) ++ (⟨#[59]⟩ : ByteArray)) (by have := keyE_size pw x; unfold keyE at this; omega)) ?_
 rintro _ _ ⟨v2, a2, c2, rfl, rfl⟩
 refine D.done ?_
 refine G.eqL [blk g3 [.pointer (bp true g3), .slice a2 ((keyV pw (l.take (k + 1))).size) c2] 305, row a2 c2 5 1 ((keyV pw (l.take (k + 1))).size) (Lib.strCells (keyV pw (l.take (k + 1)))), blk g5 [.int .i64 x.1, .int .i64 x.2] 174] (by rw [keyV_take hx, strCells_app (keyV pw (l.take k)) (keyE pw x), ByteArray.size_append (a := keyV pw (l.take k))]; rfl) ?_
 refine K8 _ _ _ ?_
 refine G.region ?_
 refine G.V 22 .bw ?_
 refine G.M 8 ?_
 refine G.nil ?_
 refine G.only [1, 0] ?_
 refine K5 _ _ _ ?_
 exact G.less ⟨(k + 1, true, a2, c2), hk, fun h => absurd h (by dsimp only; omega), fun _ => rfl⟩ (ts := [3, 6, 7, 8]) (by dsimp only; omega) rfl rfl rfl rfl
 have hkn : n = k := by have := of_decide_eq_false hc9; omega
 subst hkn
 have dhc9 := of_decide_eq_false hc9
 refine G.exit ?_
 refine K3 _ _ _ ?_
 refine G.Z fun _ K11 => ?_
 by_cases h7 : n = 0
 rw [show l.take n = l from by rw [← hl]; exact List.take_length] at hks
 refine G.eqL [row a1 c1 5 1 ((keyV pw l).size) (Lib.strCells (keyV pw l)), blk g3 [.pointer (bp u g3), .slice a1 ((keyV pw l).size) c1] 305] (by rw [show l.take n = l from by rw [← hl]; exact List.take_length]) ?_
 obtain ⟨rfl, rfl, rfl⟩ := hz h7
 have hl0 : l = [] := List.eq_nil_of_length_eq_zero (by omega)
 refine G.eqL [row none 0 5 1 ((keyV pw l).size) (Lib.strCells (keyV pw l)), blk g3 [.pointer none, .slice none 0 0] 305] (by rw [hl0]; rfl) ?_
 refine G.region ?_
 refine G.cp 23 [1] []  e196 (b_String0 g3) ?_
 refine G.M 2 ?_
 refine G.nk K11 ?_
 exact G.ret (G.F [] (.one Tryz.results187) ⟨by first | rfl | (rw [hl0]; rfl), rfl⟩)
 rw [show l.take n = l from by rw [← hl]; exact List.take_length] at hks
 refine G.eqL [row a1 c1 5 1 ((keyV pw l).size) (Lib.strCells (keyV pw l)), blk g3 [.pointer (bp u g3), .slice a1 ((keyV pw l).size) c1] 305] (by rw [show l.take n = l from by rw [← hl]; exact List.take_length]) ?_
 obtain rfl := hp (by omega)
 refine G.fact 0 (fun w q => row.len q) fun hrl => ?_
 refine G.base 0 (show 0 < (keyV pw l).size by omega) fun b12 hb_ => ?_
 subst hb_
 refine G.region ?_
 refine G.cp 23 [1, 0] []  e196 (b_String1 g3 b12 (keyV pw l).size c1 (keyV pw l).data.toList (by intro q; have h0 : (keyV pw l).data.size = 0 := (by rw [← Array.length_toList, q, List.length_nil]); have h1 : (keyV pw l).size = 0 := h0; omega) (by rw [Array.length_toList]; rfl) (by omega) (by omega)) ?_
 refine G.M 2 ?_
 refine G.nk K11 ?_
 exact G.ret (G.F [] (.one Tryz.results187) ⟨by first | rfl | (rw [hl0]; rfl), rfl⟩)
end Go.Proofs.YtbmhgopjblnfnaaGreat.S
namespace Go.Proofs.YtbmhgopjblnfnaaGreat.S
open Go Go.RowKit Go.Proofs.YtbmhgopjblnfnaaGreatW.PrintLast Go.MapKept Tryz
def SVal (es : List MapEntry) : Prop := ∀ e ∈ es, IsKey .string e.key ∧ ∃ n, e.val = .int .i64 n
def smap (r : Nat) : Ent where
 own := [r]
 H w := ∃ es clock, w.heap[r]? = some (.map es clock) ∧ SVal es.toList
 loc w w' h hw := by
  obtain ⟨es, clock, hg, hv⟩ := hw
  exact ⟨es, clock, (h r (by simp)).trans hg, hv⟩
 lt w hw k hk := by
  obtain ⟨es, clock, hg, hv⟩ := hw
  simp at hk; subst hk; exact lt_of_some hg
section
variable {P : Program} {m : Sl} {L R : List Ent} {o : Oper}
abbrev ST (P : Program) (t kt e : TypeId) : Prop := tmap P t = some (kt, e, .string, .int .i64 0)
theorem Evx.lookS {t kt e : TypeId} (hT : ST P t kt e) {x y : Operand} {r : Nat} {s : ByteArray} (i : Nat) (hop : o.op = .lookup t x y false := by rfl) (hx : ev m x = some (.map (some r)) := by rfl) (hy : ev m y = some (.string s) := by rfl) (hi : (L ++ R)[i]? = some (smap r) := by rfl) : Evx P m L R o (fun v => ∃ n, v = .int .i64 n) := fun a w hs hd => by
 have he := hs.ev hx
 have hf := hs.ev hy
 generalize a.eval = ρ at he hf
 have hH : (smap r).H w := by
  rcases List.mem_append.1 (List.mem_of_getElem? hi) with q | q
  ·exact hd.1 _ q
  ·exact hd.2 _ q
 obtain ⟨es, clock, hg, hv⟩ := hH
 have hM : (mapE r es.toList clock).H w := by show w.heap[r]? = _; rw [hg]
 obtain ⟨res, h1, h2⟩ := found_spec (d := .string) (key := .string s) trivial (fun x hx => (hv x hx).1)
 have hr := run_look hT (key := .string s) trivial hM h2 false
 rw [if_neg (by decide)] at hr
 refine ⟨(res.map fun x => x.2.val).getD (.int .i64 0), ?_, ?_⟩
 ·cases res with
  | none => exact ⟨0, rfl⟩
  | some x =>
   rcases h1 with ⟨q, _⟩ | ⟨j, e', q, hj, _⟩
   ·cases q
   ·cases q; exact (hv _ (List.mem_of_getElem? hj)).2
 ·unfold execOp
  simp only [hop, he, hf]
  change ((Instr.lookup t (.map (some r)) (.string s) false) >>= fun v => (pure (.value v) : Sem Next)).run P w = _
  rw [run_bind_ok hr]; rfl
theorem Chk.putS {t kt e : TypeId} (hT : ST P t kt e) (i : Nat) {x y u : Operand} {r : Nat} {s : ByteArray} {n : Int} (hop : o.op = .mapUpdate t x y u := by rfl) (hx : ev m x = some (.map (some r)) := by rfl) (hy : ev m y = some (.string s) := by rfl) (hu : ev m u = some (.int .i64 n) := by rfl) (hi : L[i]? = some (smap r) := by rfl) : Chk P m L R o i (smap r) := ⟨_, hi, fun a w hs hd => by
 have he := hs.ev hx
 have hf := hs.ev hy
 have hg := hs.ev hu
 generalize a.eval = ρ at he hf hg
 obtain ⟨es, clock, hb, hv⟩ := hd.1 _ (List.mem_of_getElem? hi)
 have hM : (mapE r es.toList clock).H w := by show w.heap[r]? = _; rw [hb]
 obtain ⟨res, h1, h2⟩ := found_spec (d := .string) (key := .string s) trivial (fun x hx => (hv x hx).1)
 have hr := run_put (val := .int .i64 n) hT (key := .string s) trivial hM h1 h2
 have hs2 := set_fr hb (.map (mapPut es.toList clock (.string s) (.int .i64 n) res).1.toArray (mapPut es.toList clock (.string s) (.int .i64 n) res).2)
 refine ⟨_, .inl ?_, ⟨_, _, hs2.2, ?_⟩, hs2.1, by simp [smap], fun k hk => .inl hk⟩
 ·unfold execOp
  simp only [hop, he, hf, hg]
  change ((Instr.mapUpdate t (.map (some r)) (.string s) (.int .i64 n)) >>= fun _ => (pure .skip : Sem Next)).run P w = _
  rw [run_bind_ok hr]; rfl
 ·intro x hx
  rw [List.toList_toArray] at hx
  unfold mapPut at hx
  split at hx
  ·obtain ⟨k, hk, rfl⟩ := List.getElem_of_mem hx
   rw [List.getElem_modify]
   split
   ·exact ⟨trivial, n, rfl⟩
   ·exact hv _ (List.getElem_mem _)
  ·rcases List.mem_append.1 hx with q | q
   ·exact hv x q
   ·simp at q; subst q; exact ⟨trivial, n, rfl⟩⟩
theorem smap_new (g : Nat) (w : World) (h : (obE g (.map #[] 0)).H w) : (smap g).H w := ⟨#[], 0, h, by intro e he; simp at he⟩
end
section
variable {c : Ctx} {m : Sl} {L R : List Ent} {X : Act → World → Prop}
theorem G.moreR (i : Nat) {e e' : Ent} (hH : ∀ w, e'.H w → e.H w) (ho : ∀ k ∈ e.own, k ∈ e'.own) (g : G c m L (e :: R) X) (hi : R[i]? = some e' := by rfl) : G c m L R X := fun a w ok => g a w ⟨ok.n, ok.ds, ok.m, ⟨ok.st.fr, ok.st.l, by
  intro x hx
  rcases List.mem_cons.1 hx with rfl | q
  ·exact hH w (ok.st.r _ (List.mem_of_getElem? hi))
  ·exact ok.st.r x q, ok.st.nd, by
  intro k hk hR
  rw [ids_cons] at hR
  rcases List.mem_append.1 hR with q | q
  ·exact ok.st.lr k hk (mem_ids.2 ⟨e', List.mem_of_getElem? hi, ho k q⟩)
  ·exact ok.st.lr k hk q, ok.st.own⟩⟩
theorem G.lessR {e : Ent} (g : G c m L R X) : G c m L (e :: R) X := fun a w ok => g a w ⟨ok.n, ok.ds, ok.m, ⟨ok.st.fr, ok.st.l, fun x hx => ok.st.r x (List.mem_cons_of_mem _ hx), ok.st.nd, fun k hk hR => ok.st.lr k hk (by rw [ids_cons]; exact List.mem_append_right _ hR), ok.st.own⟩⟩
theorem G.merge {e e1 e2 : Ent} (hH : ∀ w, e1.H w → e2.H w → e.H w) (ho : e.own.Perm (e1.own ++ e2.own)) (g : G c m (e :: L) R X) : G c m (e1 :: e2 :: L) R X := fun a w ok => g a w (ok.world (by
 have st := ok.st
 have hp : (ids (e :: L)).Perm (ids (e1 :: e2 :: L)) := by
  rw [ids_cons, ids_cons, ids_cons, ← List.append_assoc]
  exact ho.append_right _
 refine ⟨st.fr, ?_, st.r, hp.nodup_iff.2 st.nd, fun k hk => st.lr k (hp.mem_iff.1 hk), fun k hk => st.own k (hp.mem_iff.1 hk)⟩
 intro x hx
 rcases List.mem_cons.1 hx with rfl | q
 ·exact hH w (st.l e1 List.mem_cons_self) (st.l e2 (List.mem_cons_of_mem _ List.mem_cons_self))
 ·exact st.l x (List.mem_cons_of_mem _ (List.mem_cons_of_mem _ q))))
end
structure Tb where
 a : Option Addr
 n : Nat
 c : Nat
 l : List (Int × Int)
def Tb.row (x : Tb) : Ent := S.row x.a x.c 174 2 x.n (spl x.l)
def Tb.val (x : Tb) : Value := .slice x.a x.n x.c
def tbs (ts : List Tb) : List Value := ts.map Tb.val
def tabsE (ts : List Tb) : Ent where
 own := ts.flatMap fun x => x.row.own
 H w := ∀ x ∈ ts, x.row.H w
 loc w w' h hw x hx := x.row.loc w w' (fun k hk => h k (List.mem_flatMap.2 ⟨x, hx, hk⟩)) (hw x hx)
 lt w hw k hk := by
  obtain ⟨x, hx, hk⟩ := List.mem_flatMap.1 hk
  exact x.row.lt w (hw x hx) k hk
def TbOk (x : Tb) : Prop := x.l.length = x.n ∧ tableB x.l = true
theorem TbOk.n {x : Tb} (h : TbOk x) : x.n ≤ 32 := by
 have key : ∀ (l : List (Int × Int)) (i : Nat) (a b : Int), i ≤ 32 → tabF i a b l = true → i + l.length ≤ 32 := by
  intro l
  induction l with
  | nil => intro i a b hi _; simpa using hi
  | cons x l ih =>
   intro i a b hi ht
   unfold tabF at ht
   simp only [Bool.and_eq_true, Bool.not_eq_true'] at ht
   have h1 := ht.1
   unfold badE at h1
   simp only [Bool.or_eq_false_iff, decide_eq_false_iff_not] at h1
   have := ih (i + 1) x.1 x.2 (by omega) ht.2
   simp only [List.length_cons]
   omega
 have := key x.l 0 0 0 (by omega) h.2
 have := h.1
 omega
theorem tabsE_nil (w : World) : (tabsE []).H w := by intro x hx; cases hx
theorem tabsE_snoc_own (ts : List Tb) (x : Tb) : (tabsE (ts ++ [x])).own = (tabsE ts).own ++ x.row.own := by simp [tabsE]
theorem tabsE_snoc (ts : List Tb) (x : Tb) (w : World) (h1 : (tabsE ts).H w) (h2 : x.row.H w) : (tabsE (ts ++ [x])).H w := by
 intro y hy
 rcases List.mem_append.1 hy with q | q
 ·exact h1 y q
 ·simp at q; subst q; exact h2
theorem tabsE_mem {ts : List Tb} {x : Tb} (hx : x ∈ ts) (w : World) (h : (tabsE ts).H w) : x.row.H w := h x hx
theorem tabsE_own {ts : List Tb} {x : Tb} (hx : x ∈ ts) : ∀ k ∈ x.row.own, k ∈ (tabsE ts).own := fun k hk => List.mem_flatMap.2 ⟨x, hx, hk⟩
end Go.Proofs.YtbmhgopjblnfnaaGreat.S
namespace Go.Proofs.YtbmhgopjblnfnaaGreat.S
open Go Go.RowKit Go.Proofs.YtbmhgopjblnfnaaGreatW.PrintLast Tryz
def cplV (k : IntKind) (n : Int) : Int := xorV k (if k.signed = true then -1 else k.max) n
section
variable {P : Program} {Q : Exit → Act → World → Prop} {c : Ctx} {m : Sl} {L R : List Ent} {ops : Array Oper} {o : Oper} {rest : List Oper}
theorem Evl.cpl {T : TypeId} {x : Operand} {k : IntKind} {b : Int} (hop : o.op = .unOp .xor T x := by rfl) (hx : ev m x = some (.int k b) := by rfl) : Evl P m L R o (.int k (cplV k b)) := fun a w hs _ => by
 have he := hs.ev hx
 generalize a.eval = ρ at he
 unfold execOp
 simp only [hop, he]
 rfl
theorem reps_get {α : Type} (l : List α) : ∀ (n i : Nat), i < n * l.length → (List.replicate n l).flatten[i]? = l[i % l.length]? := by
 intro n
 induction n with
 | zero => intro i hi; omega
 | succ n ih =>
  intro i hi
  have hlen : (List.replicate n l).flatten.length = n * l.length := by simp
  rw [List.replicate_succ', List.flatten_append]
  rcases Nat.lt_or_ge i (n * l.length) with q | q
  ·rw [List.getElem?_append_left (by rw [hlen]; exact q)]
   exact ih i q
  ·rw [List.getElem?_append_right (by rw [hlen]; exact q), hlen]
   have h1 : i - n * l.length < l.length := by rw [Nat.succ_mul] at hi; omega
   have h2 : i % l.length = i - n * l.length := by
    obtain ⟨d, rfl⟩ : ∃ d, i = n * l.length + d := ⟨i - n * l.length, by omega⟩
    rw [Nat.add_sub_cancel_left] at h1 ⊢
    rw [Nat.mul_comm, Nat.mul_add_mod]
    exact Nat.mod_eq_of_lt h1
   rw [h2]
   simp
theorem made_reps (z : Array Value) (n : Nat) : madeCells z (n * z.size) = ((List.replicate n z.toList).flatten).toArray := by
 apply Array.ext
 ·simp [size_madeCells]
 ·intro i h1 h2
  have hi : i < n * z.size := by simpa [size_madeCells] using h1
  have hz : 0 < z.size := by
   rcases Nat.eq_zero_or_pos z.size with q | q
   ·rw [q] at hi; omega
   ·exact q
  have hm : i % z.size < z.size := Nat.mod_lt _ hz
  have := reps_get z.toList n i (by simpa using hi)
  simp only [Array.length_toList] at this
  have h3 : ((List.replicate n z.toList).flatten)[i]? = some z[i % z.size] := by rw [this]; simp [hm]
  have h4 : ((List.replicate n z.toList).flatten).toArray[i] = z[i % z.size] := by
   have := (List.getElem?_eq_some_iff.1 h3).2
   simpa using this
  rw [h4]
  simp [madeCells, hm]
theorem Rws.mks {T e : TypeId} {sz by_ : Nat} {zs : List Value} (hT : tslice P T = some (e, sz)) (hz : tzero P e = some zs) (hb : tbytes P e = some (sz, by_)) {x y : Operand} {i j : Int} (n : Nat) (hzl : zs.length = sz := by rfl) (hn : n ≤ 1048576 := by omega) (hby : by_ ≤ 134217728 := by decide) (hi : i = (n : Int) := by rfl) (hj : j = (n : Int) := by rfl) (hop : o.op = .makeSlice T x y := by rfl) (hx : ev m x = some (.int .i64 i) := by rfl) (hy : ev m y = some (.int .i64 j) := by rfl) : Rws P m L R o ((List.replicate n zs).flatten) e n := fun a w hs _ => by
 have he := hs.ev hx
 have hf := hs.ev hy
 subst hi hj
 generalize a.eval = ρ at he hf
 unfold tslice at hT
 split at hT
 ·next e' hu =>
  obtain ⟨inf, hin, hT⟩ := Option.map_eq_some_iff.1 hT
  simp only [Prod.mk.injEq] at hT
  obtain ⟨rfl, hsz⟩ := hT
  unfold tzero at hz
  rw [hin] at hz
  obtain ⟨z', hz1, hz2⟩ := Option.map_eq_some_iff.1 (show inf.zero.map (·.cells.toList) = some zs from hz)
  unfold tbytes at hb
  rw [hin] at hb
  simp only [Option.map_some, Option.some.injEq, Prod.mk.injEq] at hb
  have hbb : inf.bytes * n ≤ 281474976710656 := by rw [hb.2]; exact Nat.le_trans (Nat.mul_le_mul hby hn) (by decide)
  have hbi : (inf.bytes : Int) * (n : Int) ≤ 281474976710656 := by
   have h : ((inf.bytes * n : Nat) : Int) ≤ 281474976710656 := by omega
   rwa [Int.natCast_mul] at h
  have hr := run_make (P := P) w T e' inf z' hu hin hz1 .i64 .i64 n n (by omega) (Int.le_refl _) hbi (by omega)
  have hs2 : inf.size = z'.cells.size := by rw [hb.1, ← hzl, ← hz2]; simp
  simp only [Int.toNat_natCast] at hr
  rw [hs2, made_reps, hz2] at hr
  unfold execOp
  simp only [hop, he, hf]
  change ((Instr.makeSlice T (.int .i64 n) (.int .i64 n)) >>= fun v => (pure (.value v) : Sem Next)).run P w = _
  rw [run_bind_ok hr]; rfl
 ·cases hT
def putAt (cs : List Value) (o : Nat) (vs : List Value) : List Value := cs.take o ++ vs ++ cs.drop (o + vs.length)
theorem putAt_cons (cs : List Value) (o : Nat) (v : Value) (vs : List Value) (h : o < cs.length) : putAt (cs.set o v) (o + 1) vs = putAt cs o (v :: vs) := by
 unfold putAt
 have h1 : (cs.set o v).take (o + 1) = cs.take o ++ [v] := by
  rw [List.take_add_one, List.getElem?_set_self h, List.take_set_of_le (Nat.le_refl _)]
  rfl
 have h2 : (cs.set o v).drop (o + 1 + vs.length) = cs.drop (o + (v :: vs).length) := by
  rw [List.drop_set_of_lt (by omega), List.length_cons, show o + 1 + vs.length = o + (vs.length + 1) from by omega]
 rw [h1, h2]
 simp
theorem setCells_blk (g : Nat) (t : TypeId) : ∀ (vs : List Value) (o : Nat) (cs : List Value) (w : World), w.heap[g]? = some (.cells cs.toArray t (0, 0)) → o + vs.length ≤ cs.length → Fr w (w.setCells g o vs) [g] ∧ (w.setCells g o vs).heap[g]? = some (.cells (putAt cs o vs).toArray t (0, 0))
 | [], o, cs, w, h, _ => by
  refine ⟨Fr.refl _ _, ?_⟩
  simp [World.setCells, putAt, h]
 | v :: vs, o, cs, w, h, hl => by
  have h1 := setCell_blk (j := o) h v
  obtain ⟨h2, h3⟩ := setCells_blk g t vs (o + 1) (cs.set o v) _ h1 (by simp at hl ⊢; omega)
  refine ⟨(setCell_fr w g o v).trans h2 (fun x hx => .inl hx), ?_⟩
  rw [World.setCells, h3, putAt_cons _ _ _ _ (by simp at hl; omega)]
theorem Chs.copy {T S e : TypeId} {g off dl dk g' off' sl sk n : Nat} {cs cs' vs : List Value} {t : TypeId} {s : Ent} {x y : Operand} (hT : tslice P T = some (e, 1)) (i j : Nat) (hs : Cel s g' cs') (hv : (cs'.drop off').take n = vs) (hn : vs.length = n) (hm : n = Nat.min sl dl) (hle : off + n ≤ cs.length) (h1 : vs.all Value.oneCell' = true) (hop : o.op = .call { callee := .builtin .copy, args := #[x, y], argTypes := #[T, S] } := by rfl) (hx : ev m x = some (.slice (some ⟨g, off, none⟩) dl dk) := by rfl) (hy : ev m y = some (.slice (some ⟨g', off', none⟩) sl sk) := by rfl) (hi : L[i]? = some (blk g cs t) := by rfl) (hj : (L ++ R)[j]? = some s := by rfl) : Chs P m L R o i (fun v e' => v = goInt n ∧ e' = blk g (putAt cs off vs) t) := ⟨_, hi, fun ac w hs' hd => by
 have he := hs'.ev hx
 have hf := hs'.ev hy
 have hH : s.H w := by
  rcases List.mem_append.1 (List.mem_of_getElem? hj) with q | q
  ·exact hd.1 s q
  ·exact hd.2 s q
 have hb : w.heap[g]? = some (.cells cs.toArray t (0, 0)) := hd.1 _ (List.mem_of_getElem? hi)
 obtain ⟨hfr, hbl⟩ := setCells_blk g t vs off cs w hb (by omega)
 unfold tslice at hT
 split at hT
 ·next e' hu =>
  obtain ⟨inf, hin, hT⟩ := Option.map_eq_some_iff.1 hT
  simp only [Prod.mk.injEq] at hT
  obtain ⟨rfl, hsz⟩ := hT
  have hcell : ∀ k, k < vs.length → w.cell? ⟨g, off + k, none⟩ = some (cs.getD (off + k) (.bool false)) := fun k hk => by
   have : off + k < cs.length := by omega
   simp [World.cell?, hb, this, List.getD]
  have hrun := run_copy_cells (P := P) w T S o.type e' g off dl dk ⟨g', off', none⟩ sl sk vs hu (by rw [hin]; simp [hsz]) (by rw [hn, hm]) (fun k v hk => by
   rw [add_at]
   refine hs w hH _ _ ?_
   rw [← hv, List.getElem?_take] at hk
   split at hk
   ·rw [List.getElem?_drop] at hk; exact hk
   ·cases hk) (fun k hk => by rw [hcell k hk]; rfl) (fun k hk => by simp [World.frozen?, hb]) (fun v hv => List.all_eq_true.1 h1 v hv)
  refine ⟨_, _, _, ?_, ⟨rfl, rfl⟩, hbl, hfr, by simp [blk], fun k hk => .inl hk⟩
  generalize ac.eval = ρ at he hf
  unfold execOp
  simp only [hop, resolve, invoke, builtin, Sem.run_bind, Sem.run_pure, Result.andThen_ok, List.map_toArray, List.map_cons, List.map_nil, he, hf, hrun]
  rw [hn]
 ·cases hT⟩
def strL (s : ByteArray) : List Int := s.data.toList.map fun b => (b.toNat : Int)
theorem strL_len (s : ByteArray) : (strL s).length = s.size := by simp [strL]
theorem strL_b (s : ByteArray) : ∀ x ∈ strL s, 0 ≤ x ∧ x < 256 := by
 intro x hx
 obtain ⟨b, _, rfl⟩ := List.mem_map.1 hx
 have := b.toNat_lt
 omega
def tstrb (P : Program) (S T : TypeId) : Bool := match P.underlying S, P.underlying T, P.underlying 5 with
 | some .string, some (.slice 5), some (.int .u8) => true
 | _, _, _ => false
theorem G.s2b {S T : TypeId} (N : Nat) (hT : tstrb P S T = true) {x : Operand} {s : ByteArray} (h : ∀ g k r, s.size ≤ k → G c ((N, .slice (some ⟨g, 0, none⟩) s.size k) :: m) (ro g (u8s (strL s) ++ r) 5 :: L) R (wpList P ops Q rest)) (hop : o.op = .convert S T x := by rfl) (hx : ev m x = some (.string s) := by rfl) (hd : o.dst = some N := by rfl) (hN : N.blt c.n = true := by rfl) (hw : wants ops m o = some true := by rfl) (hc : c.w0 = c.w0 := by rfl) : G c m L R (wpList P ops Q (o :: rest)) := fun a w ok => wpList_step fun K hK => by
 rw [wants_spec ok.m hw, if_pos rfl]
 unfold Oper.wp
 have he := ok.m.ev hx
 unfold tstrb at hT
 split at hT
 ·next h1 h2 h3 =>
  have hr := run_bytes_of_string w S T 5 s h1 h2 h3 (P := P)
  have hrun : (execOp a.eval o).run P w = .ok (.value (.slice (some ⟨w.heap.size, 0, none⟩) s.size (grownCap w s.size 0 5))) (w.drew.alloc (.cells (bytesRow s (grownCap w s.size 0 5)) 5 ((bytesRow s (grownCap w s.size 0 5)).size, (bytesRow s (grownCap w s.size 0 5)).size + 1))) := by
   generalize a.eval = ρ at he
   unfold execOp
   simp only [hop, he]
   change ((convert S T (.string s)) >>= fun v => (pure (.value v) : Sem Next)).run P w = _
   rw [run_bind_ok hr]; rfl
  rw [hrun, Oper.upon_value, hd]
  have hcap : s.size ≤ grownCap w s.size 0 5 := grownCap_ge _ _ _ _
  have hrow : bytesRow s (grownCap w s.size 0 5) = (u8s (strL s) ++ List.replicate (grownCap w s.size 0 5 - s.size) (Value.int .u8 0)).toArray := by
   apply Array.ext'
   simp [bytesRow, u8s, strL]
  have st := (ok.st.drew).allocE (.cells (bytesRow s (grownCap w s.size 0 5)) 5 ((bytesRow s (grownCap w s.size 0 5)).size, (bytesRow s (grownCap w s.size 0 5)).size + 1)) (ro w.heap.size (u8s (strL s) ++ List.replicate (grownCap w s.size 0 5 - s.size) (Value.int .u8 0)) 5) rfl (fun w' q => ⟨_, by rw [← hrow]; exact q⟩)
  exact hK _ _ (h w.heap.size _ _ hcap _ _ ((ok.put _ (blt hN)).world st))
 ·cases hT
end
section
variable {P : Program} {Q : Exit → Act → World → Prop} {c : Ctx} {m : Sl} {L R : List Ent} {ops : Array Oper} {o : Oper} {rest : List Oper}
theorem Evl.mfm {fn : Fn} {xs : Array Operand} {vs : List Value} (hop : o.op = .makeFunc fn xs #[] := by rfl) (hv : evs m xs.toList = some vs := by rfl) : Evl P m L R o (.func fn vs.toArray #[]) := fun a w hs _ => by
 have he := hs.evs hv
 generalize a.eval = ρ at he
 have he' : xs.map ρ = vs.toArray := by rw [← he, ← Array.toList_map, Array.toArray_toList]
 simp [execOp, hop, Instr.makeFunc, he', go_sem]
theorem run_enterm {P : Program} {o : Oper} {f : FuncId} {x : Operand} {ys : Array Operand} {ts : Array TypeId} {args first : List Value} {a : Act} (hf : Is P f) (hop : o.op = .call { callee := .value x, args := ys, argTypes := ts }) (hx : a.eval x = .func (.func f) first.toArray #[]) (hargs : ys.toList.map a.eval = args) (w : World) : (execOp a.eval o).run P w = .ok (.enter f (first ++ args).toArray) w := by
 obtain ⟨fn, h1, h2, h3⟩ := hf
 have he := enters_ h1 h2 h3 (first ++ args).toArray w
 have ha : ys.map a.eval = args.toArray := by rw [← hargs]; apply Array.ext'; simp
 generalize a.eval = ρ at hx ha
 unfold execOp
 simp [hop, resolve, Deferred.ofValue, invoke, hx, ha]
 simpa using he
theorem G.callm (N : Nat) (is rs : List Nat) {f : FuncId} {ys : Array Operand} {ts : Array TypeId} {args first all : List Value} {x : Operand} {Lf Lr Rf : List Ent} {post : Value → List Ent → Prop} (hf : Is P f) (sp : Spec P f all Lf Rf post) (h : ∀ v Ln, post v Ln → G c ((N, v) :: m) (Ln ++ Lr) R (wpList P ops Q rest)) (hop : o.op = .call { callee := .value x, args := ys, argTypes := ts } := by rfl) (hx : S.ev m x = some (.func (.func f) first.toArray #[]) := by rfl) (hargs : evs m ys.toList = some args := by rfl) (hall : first ++ args = all := by rfl) (hp : pick is L = some (Lf, Lr) := by rfl) (hR : sub (R ++ Lr) rs = some Rf := by rfl) (hd : o.dst = some N := by rfl) (hN : N.blt c.n = true := by rfl) (hw : wants ops m o = some true := by rfl) : G c m L R (wpList P ops Q (o :: rest)) := fun a w ok => wpList_step fun K hK => by
 rw [wants_spec ok.m hw, if_pos rfl]
 unfold Oper.wp
 rw [run_enterm hf hop (ok.m.ev hx) (ok.m.evs hargs) w, hall, Oper.upon_enter]
 have hc := St.spec sp ok.st (pick_perm hp) (fun e he => List.mem_append.1 (sub_mem hR e he))
 refine hc.mono fun e w' q => ?_
 obtain ⟨v, Ln, rfl, hpost, st⟩ := St.called ok.st (pick_perm hp) q
 dsimp only
 rw [hd]
 exact hK _ _ (h v Ln hpost _ _ ((ok.put v (blt hN)).world st))
end
section
variable {P : Program} {m : Sl} {L R : List Ent} {o : Oper}
theorem Evl.slo' {T e : TypeId} {sz : Nat} (hT : tslice P T = some (e, sz)) (n : Nat) {x y : Operand} {g off len cap : Nat} {k : IntKind} {i : Int} (hn : n ≤ len) (hlc : len ≤ cap) (hop : o.op = .slice T x (some y) none none := by rfl) (hx : ev m x = some (.slice (some ⟨g, off, none⟩) len cap) := by rfl) (hy : ev m y = some (.int k i) := by rfl) (hi : i = (n : Int) := by rfl) : Evl P m L R o (.slice (some ⟨g, if n < cap then off + n * sz else off, none⟩) (len - n) (cap - n)) := fun a w hs hd => by
 rcases Nat.lt_or_ge n cap with q | q
 ·rw [if_pos q]; exact Evl.slo hT n hn q hop hx hy hi a w hs hd
 ·rw [if_neg (by omega)]
  have he := hs.ev hx
  have hf := hs.ev hy
  generalize a.eval = ρ at he hf
  subst hi
  unfold tslice at hT
  split at hT
  ·next e' hu =>
   obtain ⟨inf, hin, hT⟩ := Option.map_eq_some_iff.1 hT
   simp only [Prod.mk.injEq] at hT
   obtain ⟨rfl, rfl⟩ := hT
   have h1 : (0 : Int) ≤ (n : Int) ∧ (n : Int) ≤ (len : Int) := by omega
   have h2 : cap = n := by omega
   simp [execOp, hop, he, hf, Instr.sliceAt, Instr.slice, Instr.sliceBounds, Instr.sliceBound, asIntOf, underlying, hu, h1, h2, hn, sizeOf, typeInfo, hin, add_at, go_sem]
  ·cases hT
end
end Go.Proofs.YtbmhgopjblnfnaaGreat.S
namespace Go.Proofs.YtbmhgopjblnfnaaGreat.S
open Go Go.Proofs Go.RowKit Go.Proofs.YtbmhgopjblnfnaaGreatW.PrintLast Tryz
theorem e94 : Is prog 94 := ⟨_, func94, by kernel_rfl, rfl⟩
theorem e96 : Is prog 96 := ⟨_, func96, by kernel_rfl, rfl⟩
theorem s202 : tslice prog 202 = some (165, 1) := by kernel_rfl
def turn1 (c : Int) : Int := if (andV .u32 c 1 == 1) = true then xorV .u32 (shrV .u32 c 1) 3988292384 else shrV .u32 c 1
def turnN : Nat → Int → Int
 | 0, c => c
 | n + 1, c => turn1 (turnN n c)
def stepC (c x : Int) : Int := turnN 8 (xorV .u32 c (IntKind.u32.wrap x))
def moreC (c : Int) (bs : List Int) : Int := cplV .u32 (bs.foldl stepC (cplV .u32 c))
def sumC (bs : List Int) : Int := moreC 0 bs
theorem k_turn (c : Int) : Spec prog 96 [.int .u32 c] [] [] (fun v Ln => v = .int .u32 (turnN 8 c) ∧ Ln = []) := by
 refine Spec.en func96 ntmps96 fun w0 => ?_
 refine G.sr fun _ K1 => ?_
 refine G.M 2 ?_
 refine G.nk K1 ?_
 refine G.Z fun _ K2 => ?_
 refine G.sr fun _ K3 => ?_
 refine G.M 4 ?_
 refine G.nk K3 ?_
 refine G.block ?_
 refine G.lpR (ι := {q : Nat × Int // q.1 ≤ 8 ∧ q.2 = turnN q.1 c}) (fun ⟨⟨k, x⟩, hj, hx⟩ => 8 - k) (fun ⟨⟨k, x⟩, hj, hx⟩ => [(0, .int .u32 x), (4, .int .i64 (k : Int))]) (fun ⟨⟨k, x⟩, hj, hx⟩ => []) ?_ ?_
 exact G.at ⟨(0, c), Nat.zero_le _, rfl⟩ (ts := [0, 4]) rfl rfl rfl rfl
 rintro ⟨⟨k, x⟩, hj, hx⟩ _ K4
 try dsimp only at K4 ⊢
 try dsimp only at hj hx
 refine G.sr fun _ K5 => ?_
 refine G.V 5 .bin ?_
 refine G.nk K5 ?_
 refine G.Z fun _ K6 => ?_
 refine G.cond rfl (fun hc5 => ?_) (fun hc5 => ?_)
 have hk : k < 8 := by have := of_decide_eq_true hc5; omega
 have dhc5 := of_decide_eq_true hc5
 refine G.sk K6 ?_
 refine G.Z fun _ K7 => ?_
 refine G.block ?_
 refine G.sr fun _ K8 => ?_
 refine G.M 6 ?_
 refine G.V 7 .bin ?_
 refine G.M 3 ?_
 refine G.nk K8 ?_
 refine G.sr fun _ K9 => ?_
 refine G.M 8 ?_
 refine G.V 9 (.sh 1 (.inr ⟨rfl, rfl⟩)) ?_
 refine G.M 0 ?_
 refine G.nk K9 ?_
 refine G.sr fun _ K10 => ?_
 refine G.M 10 ?_
 refine G.V 11 .bin ?_
 refine G.nk K10 ?_
 refine G.cond rfl (fun hc11 => ?_) (fun hc11 => ?_)
 have dhc11 := eq_of_beq hc11
 refine G.region ?_
 refine G.M 12 ?_
 refine G.V 13 .bin ?_
 refine G.M 0 ?_
 refine G.nk K7 ?_
 refine G.region ?_
 refine G.V 14 .bw ?_
 refine G.M 4 ?_
 refine G.nk K4 ?_
 exact G.less ⟨(k + 1, xorV .u32 (shrV .u32 x 1) 3988292384), hk, by show _ = turn1 (turnN k c); rw [← hx]; unfold turn1; first | (rw [show (andV .u32 x 1 == 1) = true from hc11]; rfl) | (rw [show (andV .u32 x 1 == 1) = false from hc11]; rfl)⟩ (ts := [0, 4]) (by dsimp only; omega) rfl rfl rfl rfl
 have dhc11 := ne_of_beq_false hc11
 refine G.sk K7 ?_
 refine G.region ?_
 refine G.V 14 .bw ?_
 refine G.M 4 ?_
 refine G.nk K4 ?_
 exact G.less ⟨(k + 1, shrV .u32 x 1), hk, by show _ = turn1 (turnN k c); rw [← hx]; unfold turn1; first | (rw [show (andV .u32 x 1 == 1) = true from hc11]; rfl) | (rw [show (andV .u32 x 1 == 1) = false from hc11]; rfl)⟩ (ts := [0, 4]) (by dsimp only; omega) rfl rfl rfl rfl
 have hk8 : k = 8 := by have := of_decide_eq_false hc5; omega
 subst hk8
 have dhc5 := of_decide_eq_false hc5
 refine G.exit ?_
 refine K2 _ _ _ ?_
 refine G.sr fun _ K11 => ?_
 refine G.M2 15 2 ?_
 refine G.nk K11 ?_
 exact G.ret (G.F [] (.one Tryz.results96) ⟨by rw [hx], rfl⟩)
theorem u8_at {cs : List Value} {bs : List Int} {n k : Nat} {x : Int} (h : cs.take n = u8s bs) (hx : bs[k]? = some x) : cs[0 + k * 1]? = some (.int .u8 x) := by
 have hk : k < bs.length := (List.getElem?_eq_some_iff.1 hx).1
 have h1 : (cs.take n)[k]? = some (.int .u8 x) := by rw [h]; simp [u8s, hx]
 rw [List.getElem?_take] at h1
 split at h1
 ·rw [Nat.zero_add, Nat.mul_one]; exact h1
 ·cases h1
theorem k_More (c : Int) (g n k : Nat) (e : Ent) (cs : List Value) (bs : List Int) (hce : Cel e g cs) (hcs : cs.take n = u8s bs) (hbl : bs.length = n) (hn : n ≤ 100000) : Spec prog 94 [.int .u32 c, .slice (some ⟨g, 0, none⟩) n k] [] [e] (fun v Ln => v = .int .u32 (moreC c bs) ∧ Ln = []) := by
 refine Spec.en func94 ntmps94 fun w0 => ?_
 refine G.sr fun _ K1 => ?_
 refine G.M 4 ?_
 refine G.nk K1 ?_
 refine G.sr fun _ K2 => ?_
 refine G.M 7 ?_
 refine G.V 8 .cpl ?_
 refine G.M 0 ?_
 refine G.nk K2 ?_
 refine G.Z fun _ K3 => ?_
 refine G.sr fun _ K4 => ?_
 refine G.M 9 ?_
 refine G.V 10 (.lenl s165) ?_
 refine G.M 11 ?_
 refine G.nk K4 ?_
 refine G.block ?_
 refine G.lpR (ι := {q : Nat × Int // q.1 ≤ n ∧ q.2 = (bs.take q.1).foldl stepC (cplV .u32 c)}) (fun ⟨⟨j, y⟩, hj, hy⟩ => n - j) (fun ⟨⟨j, y⟩, hj, hy⟩ => [(0, .int .u32 y), (9, .slice (some ⟨g, 0, none⟩) n k), (10, .int .i64 (n : Int)), (11, .int .i64 (j : Int))]) (fun ⟨⟨j, y⟩, hj, hy⟩ => []) ?_ ?_
 exact G.at ⟨(0, _), Nat.zero_le _, rfl⟩ (ts := [0, 9, 10, 11]) rfl rfl rfl rfl
 rintro ⟨⟨j, y⟩, hj, hy⟩ _ K5
 try dsimp only at K5 ⊢
 try dsimp only at hj hy
 refine G.sr fun _ K6 => ?_
 refine G.V 12 .bin ?_
 refine G.nk K6 ?_
 refine G.Z fun _ K7 => ?_
 refine G.cond rfl (fun hc12 => ?_) (fun hc12 => ?_)
 have hk : j < n := by have := of_decide_eq_true hc12; omega
 obtain ⟨x, hx⟩ : ∃ x, bs[j]? = some x := ⟨_, List.getElem?_eq_getElem (by omega)⟩
 have dhc12 := of_decide_eq_true hc12
 refine G.sk K7 ?_
 refine G.Z fun _ K8 => ?_
 refine G.block ?_
 refine G.sr fun _ K9 => ?_
 refine G.V 13 (.is s165 j hk) ?_
 refine G.V 14 (.ld t5 0 (hv := u8_at hcs hx) (hc := hce)) ?_
 refine G.M 6 ?_
 refine G.nk K9 ?_
 refine G.region ?_
 refine G.M2 15 16 ?_
 refine G.V 17 (.cvi (a := x) k5 k196 rfl) ?_
 refine G.V 18 .bin ?_
 refine G.cp 19 [] []  e96 (k_turn (xorV .u32 y (IntKind.u32.wrap x))) ?_
 refine G.M 0 ?_
 refine G.nk K8 ?_
 refine G.region ?_
 refine G.V 20 .bw ?_
 refine G.M 11 ?_
 refine G.nk K5 ?_
 exact G.less ⟨(j + 1, _), hk, by rw [List.take_add_one, hx, List.foldl_append, ← hy]; rfl⟩ (ts := [0, 9, 10, 11]) (by dsimp only; omega) rfl rfl rfl rfl
 have hkn : n = j := by have := of_decide_eq_false hc12; omega
 rw [show bs.take j = bs from by rw [← hkn, ← hbl]; exact List.take_length] at hy
 have dhc12 := of_decide_eq_false hc12
 refine G.exit ?_
 refine K3 _ _ _ ?_
 refine G.sr fun _ K10 => ?_
 refine G.M 21 ?_
 refine G.V 22 .cpl ?_
 refine G.M 4 ?_
 refine G.nk K10 ?_
 exact G.ret (G.F [] (.one Tryz.results94) ⟨by rw [hy]; rfl, rfl⟩)
theorem one_at {v : Value} {j : Nat} (h : j = 0) : [v][0 + j * 1]? = some v := by subst h; rfl
theorem k_Sum (gp : Nat) (g n k : Nat) (e : Ent) (cs : List Value) (bs : List Int) (hce : Cel e g cs) (hcs : cs.take n = u8s bs) (hbl : bs.length = n) (hn : n ≤ 100000) : Spec prog 88 [.slice (some ⟨gp, 0, none⟩) 1 1] [] [blk gp [.slice (some ⟨g, 0, none⟩) n k] 165, e] (fun v Ln => v = .int .u32 (sumC bs) ∧ Ln = []) := by
 refine Spec.en func88 ntmps88 fun w0 => ?_
 refine G.sr fun _ K1 => ?_
 refine G.M 2 ?_
 refine G.nk K1 ?_
 refine G.sr fun _ K2 => ?_
 refine G.M 3 ?_
 refine G.nk K2 ?_
 refine G.Z fun _ K3 => ?_
 refine G.sr fun _ K4 => ?_
 refine G.M 6 ?_
 refine G.V 7 (.lenl s202) ?_
 refine G.M 8 ?_
 refine G.nk K4 ?_
 refine G.block ?_
 refine G.lpR (ι := {q : Nat × Int // q.1 ≤ 1 ∧ q.2 = if q.1 = 0 then 0 else moreC 0 bs}) (fun ⟨⟨j, y⟩, hj, hy⟩ => 1 - j) (fun ⟨⟨j, y⟩, hj, hy⟩ => [(3, .int .u32 y), (6, .slice (some ⟨gp, 0, none⟩) 1 1), (7, .int .i64 ((1 : Nat) : Int)), (8, .int .i64 (j : Int))]) (fun ⟨⟨j, y⟩, hj, hy⟩ => []) ?_ ?_
 exact G.at ⟨(0, 0), Nat.zero_le _, rfl⟩ (ts := [3, 6, 7, 8]) rfl rfl rfl rfl
 rintro ⟨⟨j, y⟩, hj, hy⟩ _ K5
 try dsimp only at K5 ⊢
 try dsimp only at hj hy
 refine G.sr fun _ K6 => ?_
 refine G.V 9 .bin ?_
 refine G.nk K6 ?_
 refine G.Z fun _ K7 => ?_
 refine G.cond rfl (fun hc9 => ?_) (fun hc9 => ?_)
 have hk : j = 0 := by have := of_decide_eq_true hc9; omega
 rw [if_pos hk] at hy
 have dhc9 := of_decide_eq_true hc9
 refine G.sk K7 ?_
 refine G.Z fun _ K8 => ?_
 refine G.block ?_
 refine G.sr fun _ K9 => ?_
 refine G.V 10 (.is s202 j (show j < 1 by omega)) ?_
 refine G.V 11 (.ld t165 0 (hv := one_at (j := j) (by omega))) ?_
 refine G.M 5 ?_
 refine G.nk K9 ?_
 refine G.region ?_
 refine G.M2 12 13 ?_
 refine G.cp 14 [] [1]  e94 (k_More y g n k e cs bs hce hcs hbl hn) ?_
 refine G.M 3 ?_
 refine G.nk K8 ?_
 refine G.region ?_
 refine G.V 15 .bw ?_
 refine G.M 8 ?_
 refine G.nk K5 ?_
 exact G.less ⟨(j + 1, _), by dsimp only; omega, by dsimp only; rw [hy, if_neg (by omega)]⟩ (ts := [3, 6, 7, 8]) (by dsimp only; omega) rfl rfl rfl rfl
 have hkn : j = 1 := by have := of_decide_eq_false hc9; omega
 rw [if_neg (by omega)] at hy
 have dhc9 := of_decide_eq_false hc9
 refine G.exit ?_
 refine K3 _ _ _ ?_
 refine G.sr fun _ K10 => ?_
 refine G.M2 16 2 ?_
 refine G.nk K10 ?_
 exact G.ret (G.F [] (.one Tryz.results88) ⟨by rw [hy]; rfl, rfl⟩)
theorem e88 : Is prog 88 := ⟨_, func88, by kernel_rfl, rfl⟩
theorem y5 : tbytes prog 5 = some (1, 1) := by kernel_rfl
theorem z5 : tzero prog 5 = some [.int .u8 0] := by kernel_rfl
theorem z165 : tzero prog 165 = some [.slice none 0 0] := by kernel_rfl
def tailC (c : Int) : List Int := [IntKind.u8.wrap c, IntKind.u8.wrap (shrV .u32 c 8), IntKind.u8.wrap (shrV .u32 c 16), IntKind.u8.wrap (shrV .u32 c 24)]
def sealL (bs : List Int) : List Int := bs ++ tailC (sumC bs)
def openL (bs : List Int) : Option (List Int) := if bs.length < 4 then none else if bs.drop (bs.length - 4) = tailC (sumC (bs.take (bs.length - 4))) then some (bs.take (bs.length - 4)) else none
theorem open_seal (bs : List Int) : openL (sealL bs) = some bs := by
 have h1 : (sealL bs).length = bs.length + 4 := by simp [sealL, tailC]
 unfold openL
 rw [if_neg (by omega), h1, Nat.add_sub_cancel]
 have h2 : (sealL bs).take bs.length = bs := by unfold sealL; rw [List.take_left']; rfl
 have h3 : (sealL bs).drop bs.length = tailC (sumC bs) := by unfold sealL; rw [List.drop_left']; rfl
 rw [h2, h3, if_pos rfl]
theorem u8s_one (l : List Int) : (u8s l).all Value.oneCell' = true := by
 rw [List.all_eq_true]
 intro x hx
 obtain ⟨y, _, rfl⟩ := List.mem_map.1 hx
 rfl
theorem seal_cells (n : Nat) (bs t : List Int) (h : bs.length = n) (ht : t.length = 4) : putAt (putAt ((List.replicate (n + 4) [Value.int .u8 0]).flatten) 0 (u8s bs)) n (u8s t) = u8s (bs ++ t) := by
 have e0 : (List.replicate (n + 4) [Value.int .u8 0]).flatten = List.replicate (n + 4) (Value.int .u8 0) := by
  generalize n + 4 = q
  induction q with
  | zero => rfl
  | succ q ih => rw [List.replicate_succ, List.flatten_cons, ih, List.replicate_succ]; rfl
 have l1 : (u8s bs).length = n := by simp [u8s, h]
 have l2 : (u8s t).length = 4 := by simp [u8s, ht]
 rw [e0]
 unfold putAt
 rw [l1, l2, Nat.zero_add, List.take_zero, List.nil_append, List.drop_replicate, show n + 4 - n = 4 from by omega]
 rw [List.take_left' l1, List.drop_eq_nil_of_le (by rw [List.length_append, l1, List.length_replicate]; omega), List.append_nil]
 simp [u8s]
theorem putAt_len {cs vs : List Value} {o : Nat} (h : o + vs.length ≤ cs.length) : (putAt cs o vs).length = cs.length := by
 unfold putAt
 rw [List.length_append, List.length_append, List.length_take, List.length_drop]
 omega
theorem Cel.take {e : Ent} {g : Nat} {cs : List Value} (h : Cel e g cs) (n : Nat) : Cel e g (cs.take n) := fun w hw j v hv => h w hw j v (by
 rw [List.getElem?_take] at hv
 split at hv
 ·exact hv
 ·cases hv)
theorem k_Seal (g n k : Nat) (e : Ent) (cs : List Value) (bs : List Int) (hce : Cel e g cs) (hcs : cs.take n = u8s bs) (hbl : bs.length = n) (hn : n ≤ 100000) : Spec prog 78 [.slice (some ⟨g, 0, none⟩) n k] [] [e] (fun v Ln => ∃ g', v = .slice (some ⟨g', 0, none⟩) (n + 4) (n + 4) ∧ Ln = [blk g' (u8s (sealL bs)) 5]) := by
 refine Spec.en func78 ntmps78 fun w0 => ?_
 refine G.sr fun _ K1 => ?_
 refine G.M 2 ?_
 refine G.nk K1 ?_
 refine G.sr fun _ K2 => ?_
 refine G.M 5 ?_
 refine G.row 6 (.sl s202 z165 [.slice (some ⟨g, 0, none⟩) n k]) fun g6 => ?_
 refine G.cp 7 [] [1, 0]  e88 (k_Sum g6 g n k e cs bs hce hcs hbl (by omega)) ?_
 refine G.M 3 ?_
 refine G.nk K2 ?_
 refine G.sr fun _ K3 => ?_
 refine G.M 8 ?_
 refine G.V 9 (.lenl s165) ?_
 refine G.V 10 (.cast (.cast .bin (wi (by omega) (by omega))) (show Value.int .i64 ((n : Int) + 4) = .int .i64 ((n + 4 : Nat) : Int) from rfl)) ?_
 refine G.row 11 (.mks s165 z5 y5 (n + 4) (hn := by omega)) fun g11 => ?_
 refine G.M 4 ?_
 refine G.nk K3 ?_
 refine G.sr fun _ K4 => ?_
 refine G.M2 12 13 ?_
 refine G.chg 14 0 (.copy (vs := u8s bs) (n := n) s165 0 2 hce (by rw [List.drop_zero]; exact hcs) (by simp [u8s, hbl]) (show n = Nat.min n (n + 4) from (Nat.min_eq_left (by omega)).symm) (show 0 + n ≤ ((List.replicate (n + 4) [Value.int .u8 0]).flatten).length from by simp) (u8s_one _)) ?_
 rintro _ _ ⟨rfl, rfl⟩
 try dsimp only [List.set]
 refine G.nk K4 ?_
 refine G.sr fun _ K5 => ?_
 refine G.M2 15 16 ?_
 refine G.V 17 (.lenl s165) ?_
 refine G.V 18 (.slo s165 n (show n ≤ n + 4 by omega) (show n < n + 4 by omega)) ?_
 refine G.M 19 ?_
 refine G.V 20 (.cvi (a := (sumC bs)) k196 k5 rfl) ?_
 refine G.M 21 ?_
 refine G.V 22 (.sh 8 (.inr ⟨rfl, rfl⟩)) ?_
 refine G.V 23 (.cvi (a := shrV .u32 (sumC bs) 8) k196 k5 rfl) ?_
 refine G.M 24 ?_
 refine G.V 25 (.sh 16 (.inr ⟨rfl, rfl⟩)) ?_
 refine G.V 26 (.cvi (a := shrV .u32 (sumC bs) 16) k196 k5 rfl) ?_
 refine G.M 27 ?_
 refine G.V 28 (.sh 24 (.inr ⟨rfl, rfl⟩)) ?_
 refine G.V 29 (.cvi (a := shrV .u32 (sumC bs) 24) k196 k5 rfl) ?_
 refine G.row 30 (.sl s165 z5 [.int .u8 (IntKind.u8.wrap (sumC bs)), .int .u8 (IntKind.u8.wrap (shrV .u32 (sumC bs) 8)), .int .u8 (IntKind.u8.wrap (shrV .u32 (sumC bs) 16)), .int .u8 (IntKind.u8.wrap (shrV .u32 (sumC bs) 24))]) fun g30 => ?_
 refine G.chg 31 1 (.copy (vs := u8s (tailC (sumC bs))) (n := 4) s165 1 0 (Cel.blk _ _ _) rfl rfl (show 4 = Nat.min 4 (n + 4 - n) from by rw [show n + 4 - n = 4 from by omega]; rfl) (show 0 + n * 1 + 4 ≤ (putAt ((List.replicate (n + 4) [Value.int .u8 0]).flatten) 0 (u8s bs)).length from by rw [putAt_len (by simp [u8s]; omega)]; simp) (u8s_one _)) ?_
 rintro _ _ ⟨rfl, rfl⟩
 try dsimp only [List.set]
 refine G.nk K5 ?_
 refine G.sr fun _ K6 => ?_
 refine G.M2 32 2 ?_
 refine G.nk K6 ?_
 exact G.ret (G.F [1] (.one Tryz.results78) ⟨g11, rfl, show [blk g11 (putAt (putAt ((List.replicate (n + 4) [Value.int .u8 0]).flatten) 0 (u8s bs)) (0 + n * 1) (u8s (tailC (sumC bs)))) 5] = _ from by rw [show 0 + n * 1 = n from by omega, seal_cells n bs _ hbl rfl]; rfl⟩)
theorem k_Open0 (g n k : Nat) (e : Ent) (cs : List Value) (bs : List Int) (hce : Cel e g cs) (hcs : cs.take n = u8s bs) (hbl : bs.length = n) (hn : n ≤ 100000) (h4 : n < 4) : Spec prog 74 [.slice (some ⟨g, 0, none⟩) n k] [] [e] (fun v Ln => ∃ a' n' c' ok l, v = .tuple #[.slice a' n' c', .bool ok] ∧ l.length = n' ∧ openL bs = (if ok = true then some l else none) ∧ Ln = [row a' c' 5 1 n' (u8s l)]) := by
 refine Spec.en func74 ntmps74 fun w0 => ?_
 refine G.sr fun _ K1 => ?_
 refine G.M2 2 3 ?_
 refine G.nk K1 ?_
 refine G.sr fun _ K2 => ?_
 refine G.M 6 ?_
 refine G.V 7 (.lenl s165) ?_
 refine G.V 8 .bw ?_
 refine G.M 4 ?_
 refine G.nk K2 ?_
 refine G.Z fun _ K3 => ?_
 refine G.sr fun _ K4 => ?_
 refine G.M 9 ?_
 refine G.V 10 (.cast .bin (bt (by omega))) ?_
 refine G.nk K4 ?_
 refine G.yes rfl ?_
 refine G.sr fun _ K5 => ?_
 refine G.M2 2 3 ?_
 refine G.nk K5 ?_
 refine G.ret ?_
 refine G.newRow 5 1 ?_
 exact G.F [0] (.two Tryz.results74) ⟨none, 0, 0, false, [], rfl, rfl, by unfold openL; rw [if_pos (by omega)]; rfl, rfl⟩
theorem open4 {m : Nat} {bs : List Int} {x0 x1 x2 x3 : Int} (h : bs.length = m + 4) (h0 : bs[m]? = some x0) (h1 : bs[((m : Int) + 1).toNat]? = some x1) (h2 : bs[((m : Int) + 2).toNat]? = some x2) (h3 : bs[((m : Int) + 3).toNat]? = some x3) : ([x0, x1, x2, x3] = tailC (sumC (bs.take m)) → openL bs = some (bs.take m)) ∧ ([x0, x1, x2, x3] ≠ tailC (sumC (bs.take m)) → openL bs = none) := by
 rw [show ((m : Int) + 1).toNat = m + 1 from by omega] at h1
 rw [show ((m : Int) + 2).toNat = m + 2 from by omega] at h2
 rw [show ((m : Int) + 3).toNat = m + 3 from by omega] at h3
 have hd : bs.drop m = [x0, x1, x2, x3] := by
  apply List.ext_getElem?
  intro i
  rw [List.getElem?_drop]
  rcases i with _ | _ | _ | _ | i
  ·exact h0
  ·exact h1
  ·exact h2
  ·exact h3
  ·rw [List.getElem?_eq_none (by omega)]; rfl
 unfold openL
 rw [if_neg (by omega), h, Nat.add_sub_cancel, hd]
 exact ⟨fun q => if_pos q, fun q => if_neg q⟩
theorem k_Open4 (g m k : Nat) (e : Ent) (cs : List Value) (bs : List Int) (hce : Cel e g cs) (hcs : cs.take (m + 4) = u8s bs) (hbl : bs.length = m + 4) (hn : m ≤ 90000) (hmk : m ≤ k) : Spec prog 74 [.slice (some ⟨g, 0, none⟩) (m + 4) k] [] [e] (fun v Ln => ∃ a' n' c' ok l, v = .tuple #[.slice a' n' c', .bool ok] ∧ l.length = n' ∧ openL bs = (if ok = true then some l else none) ∧ Ln = [row a' c' 5 1 n' (u8s l)]) := by
 refine Spec.en func74 ntmps74 fun w0 => ?_
 refine G.sr fun _ K1 => ?_
 refine G.M2 2 3 ?_
 refine G.nk K1 ?_
 refine G.sr fun _ K2 => ?_
 refine G.M 6 ?_
 refine G.V 7 (.lenl s165) ?_
 refine G.V 8 (.cast (.cast .bin (wi (by omega) (by omega))) (show Value.int .i64 (((m + 4 : Nat) : Int) - 4) = .int .i64 (m : Int) from by congr 1; omega)) ?_
 refine G.M 4 ?_
 refine G.nk K2 ?_
 refine G.Z fun _ K3 => ?_
 refine G.sr fun _ K4 => ?_
 refine G.M 9 ?_
 refine G.V 10 (.cast .bin (bf (by omega))) ?_
 refine G.nk K4 ?_
 refine G.no rfl ?_
 refine G.sk K3 ?_
 refine G.Z fun _ K5 => ?_
 refine G.Z fun _ K6 => ?_
 have hc2 : cs.take m = u8s (bs.take m) := by have := congrArg (List.take m) hcs; rw [List.take_take, Nat.min_eq_left (by omega)] at this; rw [this]; simp [u8s, List.map_take]
 have hbl2 : (bs.take m).length = m := by rw [List.length_take]; omega
 obtain ⟨x0, hx0⟩ : ∃ x, bs[m]? = some x := ⟨_, List.getElem?_eq_getElem (by omega)⟩
 obtain ⟨x1, hx1⟩ : ∃ x, bs[((m : Int) + 1).toNat]? = some x := ⟨_, List.getElem?_eq_getElem (by omega)⟩
 obtain ⟨x2, hx2⟩ : ∃ x, bs[((m : Int) + 2).toNat]? = some x := ⟨_, List.getElem?_eq_getElem (by omega)⟩
 obtain ⟨x3, hx3⟩ : ∃ x, bs[((m : Int) + 3).toNat]? = some x := ⟨_, List.getElem?_eq_getElem (by omega)⟩
 refine G.region ?_
 refine G.M2 11 12 ?_
 refine G.V 13 (.shi s165 m (show m ≤ k by omega)) ?_
 refine G.row 14 (.sl s202 z165 [.slice (some ⟨g, 0, none⟩) m k]) fun g14 => ?_
 refine G.cp 15 [] [1, 0]  e88 (k_Sum g14 g m k e cs (bs.take m) hce hc2 hbl2 (by omega)) ?_
 refine G.M 5 ?_
 refine G.nk K6 ?_
 refine G.sr fun _ K7 => ?_
 refine G.M2 16 17 ?_
 refine G.V 18 (.is s165 m (show m < m + 4 by omega)) ?_
 refine G.V 19 (.ld t5 1 (hv := u8_at hcs hx0) (hc := hce)) ?_
 refine G.M 20 ?_
 refine G.V 21 (.cvi (a := (sumC (bs.take m))) k196 k5 rfl) ?_
 refine G.V 22 .bin ?_
 refine G.M 23 ?_
 cases hg8 : (x0 != (IntKind.u8.wrap (sumC (bs.take m))) : Bool)
 refine G.M2 24 25 ?_
 refine G.V 26 .bw ?_
 refine G.V 27 (.is s165 ((m : Int) + 1).toNat (show ((m : Int) + 1).toNat < (m + 4) by omega) (hi := by omega)) ?_
 refine G.V 28 (.ld t5 1 (hv := u8_at hcs hx1) (hc := hce)) ?_
 refine G.M 29 ?_
 refine G.V 30 (.sh 8 (.inr ⟨rfl, rfl⟩)) ?_
 refine G.V 31 (.cvi (a := shrV .u32 (sumC (bs.take m)) 8) k196 k5 rfl) ?_
 refine G.V 32 .bin ?_
 refine G.V 33 .pick ?_
 refine G.M 34 ?_
 cases hg9 : (x1 != (IntKind.u8.wrap (shrV .u32 (sumC (bs.take m)) 8)) : Bool)
 refine G.M2 35 36 ?_
 refine G.V 37 .bw ?_
 refine G.V 38 (.is s165 ((m : Int) + 2).toNat (show ((m : Int) + 2).toNat < (m + 4) by omega) (hi := by omega)) ?_
 refine G.V 39 (.ld t5 1 (hv := u8_at hcs hx2) (hc := hce)) ?_
 refine G.M 40 ?_
 refine G.V 41 (.sh 16 (.inr ⟨rfl, rfl⟩)) ?_
 refine G.V 42 (.cvi (a := shrV .u32 (sumC (bs.take m)) 16) k196 k5 rfl) ?_
 refine G.V 43 .bin ?_
 refine G.V 44 .pick ?_
 refine G.M 45 ?_
 cases hg10 : (x2 != (IntKind.u8.wrap (shrV .u32 (sumC (bs.take m)) 16)) : Bool)
 refine G.M2 46 47 ?_
 refine G.V 48 .bw ?_
 refine G.V 49 (.is s165 ((m : Int) + 3).toNat (show ((m : Int) + 3).toNat < (m + 4) by omega) (hi := by omega)) ?_
 refine G.V 50 (.ld t5 1 (hv := u8_at hcs hx3) (hc := hce)) ?_
 refine G.M 51 ?_
 refine G.V 52 (.sh 24 (.inr ⟨rfl, rfl⟩)) ?_
 refine G.V 53 (.cvi (a := shrV .u32 (sumC (bs.take m)) 24) k196 k5 rfl) ?_
 refine G.V 54 .bin ?_
 refine G.V 55 .pick ?_
 refine G.nk K7 ?_
 refine G.cond rfl (fun hc55 => ?_) (fun hc55 => ?_)
 refine G.sr fun _ K11 => ?_
 refine G.M2 2 3 ?_
 refine G.nk K11 ?_
 refine G.ret ?_
 refine G.newRow 5 1 ?_
 exact G.F [0] (.two Tryz.results74) ⟨none, 0, 0, false, [], rfl, rfl, by rw [if_neg (by decide)]; exact (open4 hbl hx0 hx1 hx2 hx3).2 (by simp_all [tailC]), rfl⟩
 refine G.sk K5 ?_
 refine G.sr fun _ K12 => ?_
 refine G.row 56 (.zero s165) fun g56 => ?_
 refine G.M2 57 58 ?_
 refine G.V 59 (.shi s165 m (show m ≤ k by omega)) ?_
 refine G.asRow 0 0 1 rfl (by decide) ?_
 dsimp only [List.set]
 refine G.chg 60 0 (.app s165 z5 y5 0 2 (show 0 + m ≤ 1048576 by omega) (hs := hce.take m) (hl := by rw [hc2]; unfold u8s; rw [List.length_map, hbl2, Nat.mul_one]) (h1 := by rw [hc2]; exact u8s_one _) (hnn := Nat.zero_add m)) ?_
 rintro _ _ ⟨a1, c1, rfl, rfl⟩
 try dsimp only [List.set]
 refine G.M2 2 3 ?_
 refine G.nk K12 ?_
 exact G.ret (G.F [0] (.two Tryz.results74) ⟨a1, m, c1, true, bs.take m, rfl, hbl2, by rw [if_pos rfl]; exact (open4 hbl hx0 hx1 hx2 hx3).1 (by simp_all [tailC]), show [row a1 c1 5 1 m ([] ++ cs.take m)] = _ from by rw [List.nil_append, hc2]⟩)
 refine G.O4 46 47 48 49 ?_
 refine G.O4 50 51 52 53 ?_
 refine G.O 54 ?_
 refine G.V 55 .pick ?_
 refine G.nk K7 ?_
 refine G.yes rfl ?_
 refine G.sr fun _ K13 => ?_
 refine G.M2 2 3 ?_
 refine G.nk K13 ?_
 refine G.ret ?_
 refine G.newRow 5 1 ?_
 exact G.F [0] (.two Tryz.results74) ⟨none, 0, 0, false, [], rfl, rfl, by rw [if_neg (by decide)]; exact (open4 hbl hx0 hx1 hx2 hx3).2 (by simp_all [tailC]), rfl⟩
 refine G.O4 35 36 37 38 ?_
 refine G.O4 39 40 41 42 ?_
 refine G.O 43 ?_
 refine G.V 44 .pick ?_
 refine G.M 45 ?_
 refine G.O4 46 47 48 49 ?_
 refine G.O4 50 51 52 53 ?_
 refine G.O 54 ?_
 refine G.V 55 .pick ?_
 refine G.nk K7 ?_
 refine G.yes rfl ?_
 refine G.sr fun _ K14 => ?_
 refine G.M2 2 3 ?_
 refine G.nk K14 ?_
 refine G.ret ?_
 refine G.newRow 5 1 ?_
 exact G.F [0] (.two Tryz.results74) ⟨none, 0, 0, false, [], rfl, rfl, by rw [if_neg (by decide)]; exact (open4 hbl hx0 hx1 hx2 hx3).2 (by simp_all [tailC]), rfl⟩
 refine G.O4 24 25 26 27 ?_
 refine G.O4 28 29 30 31 ?_
 refine G.O 32 ?_
 refine G.V 33 .pick ?_
 refine G.M 34 ?_
 refine G.O4 35 36 37 38 ?_
 refine G.O4 39 40 41 42 ?_
 refine G.O 43 ?_
 refine G.V 44 .pick ?_
 refine G.M 45 ?_
 refine G.O4 46 47 48 49 ?_
 refine G.O4 50 51 52 53 ?_
 refine G.O 54 ?_
 refine G.V 55 .pick ?_
 refine G.nk K7 ?_
 refine G.yes rfl ?_
 refine G.sr fun _ K15 => ?_
 refine G.M2 2 3 ?_
 refine G.nk K15 ?_
 refine G.ret ?_
 refine G.newRow 5 1 ?_
 exact G.F [0] (.two Tryz.results74) ⟨none, 0, 0, false, [], rfl, rfl, by rw [if_neg (by decide)]; exact (open4 hbl hx0 hx1 hx2 hx3).2 (by simp_all [tailC]), rfl⟩
theorem k_Open (g n k : Nat) (e : Ent) (cs : List Value) (bs : List Int) (hce : Cel e g cs) (hcs : cs.take n = u8s bs) (hbl : bs.length = n) (hn : n ≤ 100000) (hnk : n ≤ k) (hn2 : n ≤ 90000) : Spec prog 74 [.slice (some ⟨g, 0, none⟩) n k] [] [e] (fun v Ln => ∃ a' n' c' ok l, v = .tuple #[.slice a' n' c', .bool ok] ∧ l.length = n' ∧ openL bs = (if ok = true then some l else none) ∧ Ln = [row a' c' 5 1 n' (u8s l)]) := by
 rcases Nat.lt_or_ge n 4 with q | q
 ·exact k_Open0 g n k e cs bs hce hcs hbl hn q
 ·obtain ⟨m, rfl⟩ : ∃ m, n = m + 4 := ⟨n - 4, by omega⟩
  exact k_Open4 g m k e cs bs hce hcs hbl (by omega) (by omega)
theorem e187 : Is prog 187 := ⟨_, func187, by kernel_rfl, rfl⟩
theorem e188 : Is prog 188 := ⟨_, func188, by kernel_rfl, rfl⟩
theorem e189 : Is prog 189 := ⟨_, func189, by kernel_rfl, rfl⟩
theorem e190 : Is prog 190 := ⟨_, func190, by kernel_rfl, rfl⟩
theorem s28 : tslice prog 28 = some (9, 1) := by kernel_rfl
theorem s288 : tslice prog 288 = some (58, 1) := by kernel_rfl
theorem t9 : tsz prog 9 = some (false, 1) := by kernel_rfl
theorem y9 : tbytes prog 9 = some (1, 16) := by kernel_rfl
theorem z9 : tzero prog 9 = some [.string ByteArray.empty] := by kernel_rfl
theorem zs309 : tmap prog 309 = some (9, 3, .string, .int .i64 0) := by kernel_rfl
def strs (l : List ByteArray) : List Value := l.map Value.string
theorem strs_at {l : List ByteArray} {k : Nat} {x : ByteArray} (h : l[k]? = some x) : (strs l)[0 + k * 1]? = some (.string x) := by simp [strs, h]
theorem strs_snoc (l : List ByteArray) (x : ByteArray) : strs (l ++ [x]) = strs l ++ [.string x] := by simp [strs]
theorem t_Agreed (f : Int) (a : Option Addr) (n c : Nat) (ks : List ByteArray) (hl : ks.length = n) (hn : n ≤ 1000) : Spec prog 188 [.int .i64 f, .slice a n c] [] [row a c 9 1 n (strs ks)] (fun v Ln => ∃ s ok, v = .tuple #[.string s, .bool ok] ∧ (ok = true → s ∈ ks) ∧ Ln = []) := by
 refine Spec.en func188 ntmps188 fun w0 => ?_
 refine G.sr fun _ K1 => ?_
 refine G.M2 4 5 ?_
 refine G.nk K1 ?_
 refine G.sr fun _ K2 => ?_
 refine G.mke 15 .map fun r => ?_
 refine G.alter (ι := Unit) 0 (fun _ => smap r) (fun w q => ⟨(), smap_new r w q⟩) (fun _ => rfl) (fun _ => ?_)
 try dsimp only [List.set]
 refine G.M 6 ?_
 refine G.nk K2 ?_
 refine G.Z fun _ K3 => ?_
 refine G.sr fun _ K4 => ?_
 refine G.M 16 ?_
 refine G.V 17 (.lenl s28) ?_
 refine G.M 18 ?_
 refine G.nk K4 ?_
 refine G.block ?_
 refine G.lpR (ι := {k : Nat // k ≤ n}) (fun ⟨k, hj⟩ => n - k) (fun ⟨k, hj⟩ => [(0, .int .i64 f), (1, .slice a n c), (6, .map (some r)), (16, .slice a n c), (17, .int .i64 (n : Int)), (18, .int .i64 (k : Int))]) (fun ⟨k, hj⟩ => [smap r]) ?_ ?_
 exact G.at ⟨0, Nat.zero_le _⟩ (ts := [0, 1, 6, 16, 17, 18]) rfl rfl rfl rfl
 rintro ⟨k, hj⟩ _ K5
 try dsimp only at K5 ⊢
 refine G.sr fun _ K6 => ?_
 refine G.V 19 .bin ?_
 refine G.nk K6 ?_
 refine G.Z fun _ K7 => ?_
 refine G.cond rfl (fun hc19 => ?_) (fun hc19 => ?_)
 have hk : k < n := by have := of_decide_eq_true hc19; omega
 obtain ⟨x, hx⟩ : ∃ x, ks[k]? = some x := ⟨_, List.getElem?_eq_getElem (by omega)⟩
 have dhc19 := of_decide_eq_true hc19
 refine G.sk K7 ?_
 refine G.Z fun _ K8 => ?_
 refine G.block ?_
 refine G.Z fun _ K9 => ?_
 refine G.base 1 (show 0 < n by omega) fun b10 hb_ => ?_
 subst hb_
 refine G.region ?_
 refine G.V 20 (.is s28 k hk) ?_
 refine G.V 21 (.ld t9 1 (hv := strs_at hx)) ?_
 refine G.M 8 ?_
 refine G.nk K9 ?_
 refine G.region ?_
 refine G.M2 22 23 ?_
 refine G.valx 24 (.lookS zs309 0) ?_
 rintro _ ⟨n1, rfl⟩
 refine G.V 25 .bin ?_
 refine G.chk 0 (.putS zs309 0) ?_
 try dsimp only [List.set]
 refine G.nk K8 ?_
 refine G.region ?_
 refine G.V 26 .bw ?_
 refine G.M 18 ?_
 refine G.nk K5 ?_
 exact G.ls ⟨k + 1, hk⟩
 have dhc19 := of_decide_eq_false hc19
 refine G.exit ?_
 refine K3 _ _ _ ?_
 refine G.sr fun _ K11 => ?_
 refine G.M2 9 10 ?_
 refine G.nk K11 ?_
 refine G.Z fun _ K12 => ?_
 refine G.sr fun _ K13 => ?_
 refine G.M 27 ?_
 refine G.V 28 (.lenl s28) ?_
 refine G.M 29 ?_
 refine G.nk K13 ?_
 refine G.block ?_
 refine G.lpR (ι := {q : Nat × Int × Int // q.1 ≤ n ∧ (-1 ≤ q.2.1 ∧ q.2.1 < n)}) (fun ⟨⟨k, bi, ct⟩, hj, hb⟩ => n - k) (fun ⟨⟨k, bi, ct⟩, hj, hb⟩ => [(0, .int .i64 f), (1, .slice a n c), (6, .map (some r)), (9, .int .i64 bi), (10, .int .i64 ct), (27, .slice a n c), (28, .int .i64 (n : Int)), (29, .int .i64 (k : Int))]) (fun ⟨⟨k, bi, ct⟩, hj, hb⟩ => [smap r]) ?_ ?_
 exact G.at ⟨(0, -1, 0), Nat.zero_le _, by dsimp only; omega⟩ (ts := [0, 1, 6, 9, 10, 27, 28, 29]) rfl rfl rfl rfl
 rintro ⟨⟨k, bi, ct⟩, hj, hb⟩ _ K14
 try dsimp only at K14 ⊢
 try dsimp only at hj hb
 refine G.sr fun _ K15 => ?_
 refine G.V 30 .bin ?_
 refine G.nk K15 ?_
 refine G.Z fun _ K16 => ?_
 refine G.cond rfl (fun hc30 => ?_) (fun hc30 => ?_)
 have hk : k < n := by have := of_decide_eq_true hc30; omega
 obtain ⟨x, hx⟩ : ∃ x, ks[k]? = some x := ⟨_, List.getElem?_eq_getElem (by omega)⟩
 have dhc30 := of_decide_eq_true hc30
 refine G.sk K16 ?_
 refine G.Z fun _ K17 => ?_
 refine G.block ?_
 refine G.Z fun _ K18 => ?_
 refine G.base 1 (show 0 < n by omega) fun b19 hb_ => ?_
 subst hb_
 refine G.region ?_
 refine G.M 31 ?_
 refine G.V 32 (.is s28 k hk) ?_
 refine G.V 33 (.ld t9 1 (hv := strs_at hx)) ?_
 refine G.M2 11 12 ?_
 refine G.nk K18 ?_
 refine G.sr fun _ K20 => ?_
 refine G.M2 34 35 ?_
 refine G.valx 36 (.lookS zs309 0) ?_
 rintro _ ⟨n2, rfl⟩
 refine G.M 13 ?_
 refine G.nk K20 ?_
 refine G.sr fun _ K21 => ?_
 refine G.M2 37 38 ?_
 refine G.V 39 .bin ?_
 refine G.M 40 ?_
 cases hg22 : (decide (n2 > f) : Bool)
 have dhg22 := of_decide_eq_false hg22
 refine G.O3 41 42 43 ?_
 refine G.V 44 .pick ?_
 refine G.nk K21 ?_
 refine G.no rfl ?_
 refine G.sk K17 ?_
 refine G.region ?_
 refine G.V 47 .bw ?_
 refine G.M 29 ?_
 refine G.nk K14 ?_
 exact G.ls ⟨(k + 1, bi, ct), hk, by dsimp only; omega⟩
 have dhg22 := of_decide_eq_true hg22
 refine G.M2 41 42 ?_
 refine G.V 43 .bin ?_
 refine G.V 44 .pick ?_
 refine G.nk K21 ?_
 refine G.cond rfl (fun hc44 => ?_) (fun hc44 => ?_)
 have dhc44 := of_decide_eq_true hc44
 refine G.region ?_
 refine G.M4 45 46 9 10 ?_
 refine G.nk K17 ?_
 refine G.region ?_
 refine G.V 47 .bw ?_
 refine G.M 29 ?_
 refine G.nk K14 ?_
 exact G.ls ⟨(k + 1, (k : Int), n2), hk, by dsimp only; omega⟩
 have dhc44 := of_decide_eq_false hc44
 refine G.sk K17 ?_
 refine G.region ?_
 refine G.V 47 .bw ?_
 refine G.M 29 ?_
 refine G.nk K14 ?_
 exact G.ls ⟨(k + 1, bi, ct), hk, by dsimp only; omega⟩
 have dhc30 := of_decide_eq_false hc30
 refine G.exit ?_
 refine K12 _ _ _ ?_
 refine G.Z fun _ K23 => ?_
 refine G.sr fun _ K24 => ?_
 refine G.M 48 ?_
 refine G.V 49 .bin ?_
 refine G.nk K24 ?_
 refine G.cond rfl (fun hc49 => ?_) (fun hc49 => ?_)
 have dhc49 := of_decide_eq_true hc49
 refine G.sr fun _ K25 => ?_
 refine G.M 14 ?_
 refine G.nk K25 ?_
 refine G.sr fun _ K26 => ?_
 refine G.M3 50 4 5 ?_
 refine G.nk K26 ?_
 exact G.ret (G.F [] (.two Tryz.results188) ⟨_, _, rfl, fun h => absurd h (by decide), rfl⟩)
 have dhc49 := of_decide_eq_false hc49
 refine G.sk K23 ?_
 refine G.Z fun _ K27 => ?_
 refine G.base 1 (show 0 < n by omega) fun b28 hb_ => ?_
 subst hb_
 obtain ⟨x, hx⟩ : ∃ x, ks[bi.toNat]? = some x := ⟨_, List.getElem?_eq_getElem (by omega)⟩
 refine G.region ?_
 refine G.M2 51 52 ?_
 refine G.V 53 (.is s28 bi.toNat (show bi.toNat < n by omega) (hi := by omega)) ?_
 refine G.V 54 (.ld t9 1 (hv := strs_at hx)) ?_
 refine G.M2 4 5 ?_
 refine G.nk K27 ?_
 exact G.ret (G.F [] (.two Tryz.results188) ⟨_, _, rfl, fun _ => List.mem_of_getElem? hx, rfl⟩)
theorem v_same (pw : List Int) (hpw : pw.length = 20) (gk : Nat) (key : ByteArray) (a : Option Addr) (n c : Nat) (l : List (Int × Int)) (hl : l.length = n) (hn : n ≤ 1000) (hT : tableB l = true) : Spec prog 190 [.slice a n c, .pointer (some ⟨gk, 0, none⟩)] [] [row a c 174 2 n (spl l), blk gk [.string key] 9, blk 2 (u64s pw) 319] (fun v Ln => v = .bool (decide (keyV pw l = key)) ∧ Ln = []) := by
 refine Spec.en func190 ntmps190 fun w0 => ?_
 refine G.sr fun _ K1 => ?_
 refine G.M 3 ?_
 refine G.nk K1 ?_
 refine G.Z fun _ K2 => ?_
 refine G.draw 5 [] [1] [] ?_
 refine D.V 0 4 1 .mv ?_
 refine D.T 2 6 5 (.ld t9 0) [] [1] ?_
 refine D.C 1 5 7 [] [0, 2] [] [1]  e187 (v_Key pw hpw a n c l hl hn hT) ?_
 rintro _ _ ⟨rfl, rfl⟩
 refine D.V 3 7 15 (.seq r9) ?_
 refine D.V 4 3 31 .mv ?_
 refine D.done ?_
 refine K2 _ _ _ ?_
 exact G.ret (G.F [] (.one Tryz.results190) ⟨rfl, rfl⟩)
theorem tbs_at {l : List Tb} {k : Nat} {x : Tb} (h : l[k]? = some x) : (tbs l)[0 + k * 1]? = some (.slice x.a x.n x.c) := by simp [tbs, h, Tb.val]
theorem v_IndexFunc (pw : List Int) (hpw : pw.length = 20) (gk : Nat) (key : ByteArray) (ta : Option Addr) (tn tc : Nat) (ts : List Tb) (htl : ts.length = tn) (htn : tn ≤ 100) (hok : ∀ x ∈ ts, TbOk x) : Spec prog 189 [.slice ta tn tc, .func (.func 190) #[] #[.pointer (some ⟨gk, 0, none⟩)]] [] [row ta tc 58 1 tn (tbs ts), blk gk [.string key] 9, tabsE ts, blk 2 (u64s pw) 319] (fun v Ln => ∃ i : Int, v = .int .i64 i ∧ ((∃ x ∈ ts, keyV pw x.l = key) → 0 ≤ i ∧ i < tn) ∧ Ln = []) := by
 refine Spec.en func189 ntmps189 fun w0 => ?_
 refine G.sr fun _ K1 => ?_
 refine G.M 4 ?_
 refine G.nk K1 ?_
 refine G.Z fun _ K2 => ?_
 refine G.sr fun _ K3 => ?_
 refine G.M 6 ?_
 refine G.V 7 (.lenl s288) ?_
 refine G.M 8 ?_
 refine G.nk K3 ?_
 refine G.block ?_
 refine G.lpR (ι := {k : Nat // k ≤ tn ∧ ∀ x ∈ ts.take k, keyV pw x.l ≠ key}) (fun ⟨k, hj, hno⟩ => tn - k) (fun ⟨k, hj, hno⟩ => [(0, .slice ta tn tc), (1, .func (.func 190) #[] #[.pointer (some ⟨gk, 0, none⟩)]), (6, .slice ta tn tc), (7, .int .i64 (tn : Int)), (8, .int .i64 (k : Int))]) (fun ⟨k, hj, hno⟩ => []) ?_ ?_
 exact G.at ⟨0, Nat.zero_le _, by simp⟩ (ts := [0, 1, 6, 7, 8]) rfl rfl rfl rfl
 rintro ⟨k, hj, hno⟩ _ K4
 try dsimp only at K4 ⊢
 refine G.sr fun _ K5 => ?_
 refine G.V 9 .bin ?_
 refine G.nk K5 ?_
 refine G.Z fun _ K6 => ?_
 refine G.cond rfl (fun hc9 => ?_) (fun hc9 => ?_)
 have hk : k < tn := by have := of_decide_eq_true hc9; omega
 obtain ⟨x, hx⟩ : ∃ x, ts[k]? = some x := ⟨_, List.getElem?_eq_getElem (by omega)⟩
 have dhc9 := of_decide_eq_true hc9
 refine G.sk K6 ?_
 refine G.Z fun _ K7 => ?_
 refine G.block ?_
 refine G.sr fun _ K8 => ?_
 refine G.M2 10 5 ?_
 refine G.nk K8 ?_
 refine G.Z fun _ K9 => ?_
 refine G.base 0 (show 0 < tn by omega) fun b10 hb_ => ?_
 subst hb_
 refine G.region ?_
 refine G.M3 11 12 13 ?_
 refine G.V 14 (.is s288 k hk) ?_
 refine G.V 15 (.ld t58 0 (hv := tbs_at hx)) ?_
 refine G.moreR 2 (tabsE_mem (List.mem_of_getElem? hx)) (tabsE_own (List.mem_of_getElem? hx)) (e := row x.a x.c 174 2 x.n (spl x.l)) ?_
 refine G.callv 16 [] [0, 2, 4]  e190 (v_same pw hpw gk key x.a x.n x.c x.l (hok x (List.mem_of_getElem? hx)).1 (by have := (hok x (List.mem_of_getElem? hx)).n; omega) (hok x (List.mem_of_getElem? hx)).2) ?_
 rintro _ _ ⟨rfl, rfl⟩
 refine G.lessR ?_
 refine G.nk K9 ?_
 refine G.cond rfl (fun hc16 => ?_) (fun hc16 => ?_)
 have dhc16 := of_decide_eq_true hc16
 refine G.sr fun _ K11 => ?_
 refine G.M2 17 4 ?_
 refine G.nk K11 ?_
 exact G.ret (G.F [] (.one Tryz.results189) ⟨_, rfl, fun ⟨y, hy, he⟩ => by first | exact absurd he (hno y hy) | omega, rfl⟩)
 have dhc16 := of_decide_eq_false hc16
 refine G.sk K7 ?_
 refine G.region ?_
 refine G.V 18 .bw ?_
 refine G.M 8 ?_
 refine G.nk K4 ?_
 exact G.ls ⟨k + 1, hk, fun y hy => (List.mem_append.1 (by rw [List.take_add_one, hx] at hy; exact hy)).elim (hno y) (fun q => by simp at q; subst q; exact of_decide_eq_false hc16)⟩
 have hkn : tn = k := by have := of_decide_eq_false hc9; omega
 subst hkn
 rw [show ts.take tn = ts from by rw [← htl]; exact List.take_length] at hno
 have dhc9 := of_decide_eq_false hc9
 refine G.exit ?_
 refine K2 _ _ _ ?_
 refine G.sr fun _ K12 => ?_
 refine G.M 4 ?_
 refine G.nk K12 ?_
 exact G.ret (G.F [] (.one Tryz.results189) ⟨_, rfl, fun ⟨y, hy, he⟩ => by first | exact absurd he (hno y hy) | omega, rfl⟩)
theorem v_Adopt (pw : List Int) (hpw : pw.length = 20) (p : Par) (s : Sta) (l : List (Int × Int)) (hl : l.length = s.tl) (hn : s.tl ≤ 1000) (ta : Option Addr) (tn tc : Nat) (ts : List Tb) (htl : ts.length = tn) (htn : tn ≤ 100) (hok : ∀ x ∈ ts, TbOk x) : Spec prog 184 [.agg #[.int .i64 p.n, .int .i64 p.f, .int .i64 p.d, .int .i64 p.beat, .int .i64 p.rho, .int .i64 p.delay, .int .i64 p.jitter, .int .i64 p.eps, .int .i64 p.mu, .int .i64 p.hold, .int .i64 p.pulse, .int .i64 p.second], .slice s.ta s.tl s.tc, .slice ta tn tc] [] [row s.ta s.tc 174 2 s.tl (spl l), row ta tc 58 1 tn (tbs ts), tabsE ts, blk 2 (u64s pw) 319] (fun v Ln => ∃ a' n' c' l' ok, v = .tuple #[.slice a' n' c', .bool ok] ∧ l'.length = n' ∧ n' ≤ 1000 ∧ Ln = [row a' c' 174 2 n' (spl l')]) := by
 refine Spec.en func184 ntmps184 fun w0 => ?_
 refine G.sr fun _ K1 => ?_
 refine G.mk 3 .bx fun g3 => ?_
 refine G.M2 6 7 ?_
 refine G.nk K1 ?_
 refine G.sr fun _ K2 => ?_
 refine G.M 8 ?_
 refine G.nil ?_
 refine G.newRow 9 1 ?_
 refine K2 _ _ _ ?_
 refine G.Z fun _ K3 => ?_
 refine G.sr fun _ K4 => ?_
 refine G.M 14 ?_
 refine G.V 15 (.lenl s288) ?_
 refine G.M 16 ?_
 refine G.nk K4 ?_
 refine G.block ?_
 refine G.lpR (ι := {q : Nat × List ByteArray × Option Addr × Nat × Nat // q.1 ≤ tn ∧ q.2.2.2.2 = q.2.1.length ∧ q.2.2.2.2 ≤ q.1 ∧ ∀ y ∈ q.2.1, ∃ x ∈ ts, keyV pw x.l = y}) (fun ⟨⟨k, ks, a8, c8, n8⟩, hj, hn8, hn8k, hks⟩ => tn - k) (fun ⟨⟨k, ks, a8, c8, n8⟩, hj, hn8, hn8k, hks⟩ => [(3, .pointer (some ⟨g3, 0, none⟩)), (1, .slice s.ta s.tl s.tc), (2, .slice ta tn tc), (8, .slice a8 n8 c8), (14, .slice ta tn tc), (15, .int .i64 (tn : Int)), (16, .int .i64 (k : Int))]) (fun ⟨⟨k, ks, a8, c8, n8⟩, hj, hn8, hn8k, hks⟩ => [row a8 c8 9 1 n8 (strs ks), blk g3 (pC p []) 23]) ?_ ?_
 exact G.at ⟨(0, [], none, 0, 0), Nat.zero_le _, rfl, Nat.le_refl _, by simp⟩ (ts := [3, 1, 2, 8, 14, 15, 16]) rfl rfl rfl rfl
 rintro ⟨⟨k, ks, a8, c8, n8⟩, hj, hn8, hn8k, hks⟩ _ K5
 try dsimp only at K5 ⊢
 try dsimp only at hj hn8 hn8k hks
 refine G.sr fun _ K6 => ?_
 refine G.V 17 .bin ?_
 refine G.nk K6 ?_
 refine G.Z fun _ K7 => ?_
 refine G.cond rfl (fun hc17 => ?_) (fun hc17 => ?_)
 have hk : k < tn := by have := of_decide_eq_true hc17; omega
 obtain ⟨x, hx⟩ : ∃ x, ts[k]? = some x := ⟨_, List.getElem?_eq_getElem (by omega)⟩
 have dhc17 := of_decide_eq_true hc17
 refine G.sk K7 ?_
 refine G.Z fun _ K8 => ?_
 refine G.block ?_
 refine G.Z fun _ K9 => ?_
 refine G.base 3 (show 0 < tn by omega) fun b10 hb_ => ?_
 subst hb_
 refine G.region ?_
 refine G.V 18 (.is s288 k hk) ?_
 refine G.V 19 (.ld t58 3 (hv := tbs_at hx)) ?_
 refine G.M 10 ?_
 refine G.nk K9 ?_
 refine G.sr fun _ K11 => ?_
 refine G.M 20 ?_
 refine G.moreR 2 (tabsE_mem (List.mem_of_getElem? hx)) (tabsE_own (List.mem_of_getElem? hx)) (e := row x.a x.c 174 2 x.n (spl x.l)) ?_
 refine G.cp 21 [] [0]  e85 ((l_Good x.a x.n x.c x.l (hok x (List.mem_of_getElem? hx)).1 (by have := (hok x (List.mem_of_getElem? hx)).n; omega)).vw) ?_
 refine G.lessR ?_
 refine G.nk K11 ?_
 refine G.cond rfl (fun hc21 => ?_) (fun hc21 => ?_)
 refine G.region ?_
 refine G.M2 22 23 ?_
 refine G.moreR 2 (tabsE_mem (List.mem_of_getElem? hx)) (tabsE_own (List.mem_of_getElem? hx)) (e := row x.a x.c 174 2 x.n (spl x.l)) ?_
 refine G.cp 24 [] [0, 4]  e187 (v_Key pw hpw x.a x.n x.c x.l (hok x (List.mem_of_getElem? hx)).1 (by have := (hok x (List.mem_of_getElem? hx)).n; omega) (hok x (List.mem_of_getElem? hx)).2) ?_
 refine G.lessR ?_
 refine G.row 25 (.sl s28 z9 [.string (keyV pw x.l)]) fun g25 => ?_
 refine G.chg 26 1 (.app s28 z9 y9 1 0 (show n8 + 1 ≤ 1048576 by omega)) ?_
 rintro _ _ ⟨a12, c13, rfl, rfl⟩
 dsimp only [List.set]
 refine G.M 8 ?_
 refine G.nk K8 ?_
 refine G.region ?_
 refine G.V 27 .bw ?_
 refine G.M 16 ?_
 refine G.nil ?_
 refine G.only [1, 1] ?_
 refine K5 _ _ _ ?_
 exact G.ls ⟨(k + 1, ks ++ [keyV pw x.l], a12, c13, n8 + 1), hk, by simp [hn8], by dsimp only; omega, fun y hy => (List.mem_append.1 hy).elim (hks y) (fun q => by simp at q; subst q; exact ⟨x, List.mem_of_getElem? hx, rfl⟩)⟩ (hL := (by first | rfl | (dsimp only; rw [strs_snoc])))
 refine G.sk K8 ?_
 refine G.region ?_
 refine G.V 27 .bw ?_
 refine G.M 16 ?_
 refine G.nk K5 ?_
 exact G.ls ⟨(k + 1, ks, a8, c8, n8), hk, by exact hn8, by dsimp only; omega, hks⟩ (hL := (by first | rfl | (dsimp only; rw [strs_snoc])))
 have dhc17 := of_decide_eq_false hc17
 refine G.exit ?_
 refine K3 _ _ _ ?_
 refine G.sr fun _ K14 => ?_
 refine G.V 29 (.fa f23_1 1) ?_
 refine G.V 30 (.ld t3 1) ?_
 refine G.M 31 ?_
 refine G.C 32 [] [4]  e188 (t_Agreed p.f a8 n8 c8 ks hn8.symm (by omega)) ?_
 rintro _ _ ⟨key, ok, rfl, hok2, rfl⟩
 refine G.M 28 ?_
 refine G.V 33 .ext ?_
 refine G.V 34 .ext ?_
 refine G.mk 11 (.al z9) fun g11 => ?_
 refine G.sn 0 (.st t9 0) rfl ?_
 refine G.M 12 ?_
 refine G.nk K14 ?_
 refine G.Z fun _ K15 => ?_
 refine G.sr fun _ K16 => ?_
 refine G.M 35 ?_
 refine G.V 36 .not ?_
 refine G.nk K16 ?_
 cases hg17 : (ok : Bool)
 refine G.yes rfl ?_
 refine G.sr fun _ K18 => ?_
 refine G.M 37 ?_
 refine G.C 38 [] [0]  e84 ((l_Clone s.ta s.tl s.tc l hl hn).vw) ?_
 rintro _ _ ⟨a1, c1, rfl, rfl⟩
 refine G.M2 6 7 ?_
 refine G.nk K18 ?_
 exact G.ret (G.F [0] (.two Tryz.results184) ⟨_, _, _, _, _, rfl, hl, hn, rfl⟩)
 refine G.no rfl ?_
 refine G.sk K15 ?_
 refine G.sr fun _ K19 => ?_
 refine G.M 39 ?_
 refine G.V 40 .mf ?_
 refine G.C 41 [] [1, 4, 2, 3]  e189 (v_IndexFunc pw hpw g11 key ta tn tc ts htl htn hok) ?_
 rintro _ _ ⟨i, rfl, hi, rfl⟩
 have hib := hi (by obtain ⟨y, hy, he⟩ := hks key (hok2 (by simp_all)); exact ⟨y, hy, he⟩)
 obtain ⟨x, hx⟩ : ∃ x, ts[i.toNat]? = some x := ⟨_, List.getElem?_eq_getElem (by omega)⟩
 refine G.M 13 ?_
 refine G.nk K19 ?_
 refine G.Z fun _ K20 => ?_
 refine G.base 4 (show 0 < tn by omega) fun b21 hb_ => ?_
 subst hb_
 refine G.region ?_
 refine G.M2 42 43 ?_
 refine G.V 44 (.is s288 i.toNat (show i.toNat < tn by omega) (hi := by omega)) ?_
 refine G.V 45 (.ld t58 4 (hv := tbs_at hx)) ?_
 refine G.moreR 2 (tabsE_mem (List.mem_of_getElem? hx)) (tabsE_own (List.mem_of_getElem? hx)) (e := row x.a x.c 174 2 x.n (spl x.l)) ?_
 refine G.C 46 [] [0]  e84 ((l_Clone x.a x.n x.c x.l (hok x (List.mem_of_getElem? hx)).1 (by have := (hok x (List.mem_of_getElem? hx)).n; omega)).vw) ?_
 rintro _ _ ⟨a1, c1, rfl, rfl⟩
 refine G.lessR ?_
 refine G.M2 6 7 ?_
 refine G.nk K20 ?_
 exact G.ret (G.F [0] (.two Tryz.results184) ⟨_, _, _, _, _, rfl, (hok x (List.mem_of_getElem? hx)).1, (by have := (hok x (List.mem_of_getElem? hx)).n; omega), rfl⟩)
theorem e180 : Is prog 180 := ⟨_, func180, by kernel_rfl, rfl⟩
theorem e181 : Is prog 181 := ⟨_, func181, by kernel_rfl, rfl⟩
theorem e182 : Is prog 182 := ⟨_, func182, by kernel_rfl, rfl⟩
theorem f127_1 : tfield prog 127 1 = some 23 := by kernel_rfl
theorem f127_2 : tfield prog 127 2 = some 24 := by kernel_rfl
theorem t125 : tsz prog 125 = some (false, 1) := by kernel_rfl
def okK (h : Hr) (age : Int) : Bool := (h.m.kind == 1 && decide (h.m.src < 16)) || (h.m.kind == 2 && (!decide (h.m.src < 16) && decide (age > 0)))
def known1 (me : Int) (st : List Hr × List Nb × Nat) (h : Hr) : List Hr × List Nb × Nat :=
 if (st.1.any (fun x => x.m.src == h.m.src) || h.m.src == me) = true then st
 else (if (hearE h.m.src st.2.1 == 0 && okK h (ageN h.m.src st.2.1)) = true then st.1 ++ [h] else st.1, hearL h.m.src st.2.1 st.2.2)
def knownL (me : Int) (hs : List Hr) (l : List Nb) (c : Nat) : List Hr × List Nb × Nat := hs.foldl (known1 me) ([], l, c)
theorem known_take {me : Int} {hs : List Hr} {l : List Nb} {c : Nat} {k : Nat} {x : Hr} (h : hs[k]? = some x) : knownL me (hs.take (k + 1)) l c = known1 me (knownL me (hs.take k) l c) x := by
 unfold knownL
 rw [List.take_add_one, h, List.foldl_append]
 rfl
theorem known_ok {me : Int} {l : List Nb} {c : Nat} (h : NOk l c) (hs : List Hr) : NOk (knownL me hs l c).2.1 (knownL me hs l c).2.2 := by
 have key : ∀ (hs : List Hr) (st : List Hr × List Nb × Nat), NOk st.2.1 st.2.2 → NOk (hs.foldl (known1 me) st).2.1 (hs.foldl (known1 me) st).2.2 := by
  intro hs
  induction hs with
  | nil => intro st h; exact h
  | cons x hs ih =>
   intro st h
   refine ih _ ?_
   unfold known1
   split
   ·exact h
   ·exact hearL_ok h
 exact key hs _ h
theorem known_len (me : Int) (hs : List Hr) (l : List Nb) (c : Nat) : (knownL me hs l c).1.length ≤ hs.length := by
 have key : ∀ (hs : List Hr) (st : List Hr × List Nb × Nat), (hs.foldl (known1 me) st).1.length ≤ st.1.length + hs.length := by
  intro hs
  induction hs with
  | nil => intro st; simp
  | cons x hs ih =>
   intro st
   have h1 := ih (known1 me st x)
   have h2 : (known1 me st x).1.length ≤ st.1.length + 1 := by
    unfold known1
    split
    ·omega
    ·dsimp only; split <;> simp
   rw [List.foldl_cons, List.length_cons]
   omega
 have := key hs ([], l, c)
 simpa [knownL] using this
theorem n_known (g tb r clock : Nat) (p : Par) (s : Sta) (me : Int) (l : List Nb) (hN : NOk l clock) (ha : Option Addr) (hn hc : Nat) (hs : List Hr) (hhl : hs.length = hn) (hhn : hn ≤ 100000) : Spec prog 174 [.pointer (some ⟨g, 0, none⟩), .slice ha hn hc] [nmap r l clock] [blk g (pC p [.int .i64 s.lo, .int .i64 s.hi, .int .i64 s.time, .bool s.set, .int .i64 s.held, .int .i64 s.hops, .bool s.good, .slice s.ta s.tl s.tc, .int .i64 s.st, .int .i64 s.sn, .int .i64 s.life, .int .i64 me, .pointer (some ⟨tb, 0, none⟩)]) 127, blk tb [.map (some r)] 193, row ha hc 138 15 hn (hrl hs)] (fun v Ln => ∃ a' n' c', v = .slice a' n' c' ∧ n' = (knownL me hs l clock).1.length ∧ Ln = [row a' c' 138 15 n' (hrl (knownL me hs l clock).1), nmap r (knownL me hs l clock).2.1 (knownL me hs l clock).2.2]) := by
 refine Spec.en func174 ntmps174 fun w0 => ?_
 refine G.sr fun _ K1 => ?_
 refine G.M 4 ?_
 refine G.nk K1 ?_
 refine G.sr fun _ K2 => ?_
 refine G.M 5 ?_
 refine G.nil ?_
 refine G.newRow 138 15 ?_
 refine K2 _ _ _ ?_
 refine G.Z fun _ K3 => ?_
 refine G.sr fun _ K4 => ?_
 refine G.M 12 ?_
 refine G.V 13 (.lenl s101) ?_
 refine G.M 14 ?_
 refine G.nk K4 ?_
 refine G.block ?_
 refine G.lpR (ι := {q : Nat × List Hr × List Nb × Nat × Option Addr × Nat × Nat // q.1 ≤ hn ∧ q.2.2.2.2.2.2 = q.2.1.length ∧ (q.2.1, q.2.2.1, q.2.2.2.1) = knownL me (hs.take q.1) l clock}) (fun ⟨⟨k, o, l1, c1, a7, c7, n7⟩, hj, hn7, ho⟩ => hn - k) (fun ⟨⟨k, o, l1, c1, a7, c7, n7⟩, hj, hn7, ho⟩ => [(0, .pointer (some ⟨g, 0, none⟩)), (5, .slice a7 n7 c7), (12, .slice ha hn hc), (13, .int .i64 (hn : Int)), (14, .int .i64 (k : Int))]) (fun ⟨⟨k, o, l1, c1, a7, c7, n7⟩, hj, hn7, ho⟩ => [row a7 c7 138 15 n7 (hrl o), nmap r l1 c1]) ?_ ?_
 exact G.at ⟨(0, [], l, clock, none, 0, 0), Nat.zero_le _, rfl, rfl⟩ (ts := [0, 5, 12, 13, 14]) rfl rfl rfl rfl
 rintro ⟨⟨k, o, l1, c1, a7, c7, n7⟩, hj, hn7, ho⟩ _ K5
 try dsimp only at K5 ⊢
 try dsimp only at hj hn7 ho
 have hN1 : NOk l1 c1 := by have := known_ok (me := me) hN (hs.take k); rw [← ho] at this; exact this
 have hol : o.length ≤ k := by have := known_len me (hs.take k) l clock; rw [← ho, List.length_take] at this; dsimp only at this; omega
 refine G.sr fun _ K6 => ?_
 refine G.V 15 .bin ?_
 refine G.nk K6 ?_
 refine G.Z fun _ K7 => ?_
 refine G.cond rfl (fun hc15 => ?_) (fun hc15 => ?_)
 have hk : k < hn := by have := of_decide_eq_true hc15; omega
 obtain ⟨x, hx⟩ : ∃ x, hs[k]? = some x := ⟨_, List.getElem?_eq_getElem (by omega)⟩
 have dhc15 := of_decide_eq_true hc15
 refine G.sk K7 ?_
 refine G.Z fun _ K8 => ?_
 refine G.block ?_
 refine G.Z fun _ K9 => ?_
 refine G.base 4 (show 0 < hn by omega) fun b10 hb_ => ?_
 subst hb_
 refine G.region ?_
 refine G.V 16 (.is s101 k hk) ?_
 refine G.V 17 (.lda t138 4 (hv := hrl_at hx)) ?_
 refine G.mk 7 (.al z138) fun g7 => ?_
 refine G.sn 0 (.st t138 0) rfl ?_
 refine G.nk K9 ?_
 refine G.sr fun _ K11 => ?_
 refine G.V 18 (.fa f138_0 0) ?_
 refine G.V 19 (.lda t107 0 (vs := [.int .i64 x.m.kind, .int .i64 x.m.src, .int .i64 x.m.lo, .int .i64 x.m.hi, .int .i64 x.m.held, .int .i64 x.m.hops, .bool x.m.good, .bool x.m.ref, .int .i64 x.m.slo, .int .i64 x.m.shi, .int .i64 x.m.pulse, .int .i64 x.m.st, .int .i64 x.m.sn, .slice x.m.ta x.m.tl x.m.tc])) ?_
 refine G.mk 8 (.al z107) fun g8 => ?_
 refine G.sn 0 (.st t107 0) rfl ?_
 refine G.nk K11 ?_
 refine G.sr fun _ K12 => ?_
 refine G.M 20 ?_
 refine G.V 21 .mf ?_
 refine G.cp 22 [] [5, 3]  e122 (s_ContainsFunc 180 g8 e180 x.m (fun z => n_same g8 z x.m) a7 n7 c7 o hn7.symm (by omega)) ?_
 refine G.M 9 ?_
 refine G.nk K12 ?_
 refine G.Z fun _ K13 => ?_
 refine G.draw 12 [0] [0] [] ?_
 refine D.V 0 24 1 .mv ?_
 refine D.V 1 25 3 .nc ?_
 refine D.V 2 26 7 (.fa f127_2 24) ?_
 refine D.V 4 28 23 (.fa f107_1 1) ?_
 refine D.T 3 27 31 (.ld t125 1) [0] [0] ?_
 refine D.T 5 29 63 (.ld t3 0) [0] [0] ?_
 refine D.C 6 30 127 [] [1, 6] [0] [0]  e181 (m_Age tb r c1 l1 hN1 x.m.src) ?_
 rintro _ _ ⟨rfl, rfl⟩
 refine D.V 7 23 255 .mv ?_
 refine D.V 8 31 511 .ext ?_
 refine D.V 9 32 1023 .ext ?_
 refine D.V 10 10 2047 .mv ?_
 refine D.V 11 11 4095 .mv ?_
 refine D.done ?_
 refine K13 _ _ _ ?_
 refine G.Z fun _ K14 => ?_
 refine G.Z fun _ K15 => ?_
 refine G.draw 20 [0] [0] [] ?_
 refine D.V 0 33 1 .mv ?_
 refine D.V 1 34 3 .mv ?_
 cases hg16 : (o.any fun h => h.m.src == x.m.src : Bool)
 refine D.V 2 35 7 (.fa f107_1 1) ?_
 refine D.V 4 37 23 .mv ?_
 refine D.V 5 38 55 .nc ?_
 refine D.V 6 39 119 (.fa f127_1 23) ?_
 refine D.T 3 36 127 (.ld t3 0) [0] [0] ?_
 refine D.T 7 40 255 (.ld t3 1) [0] [0] ?_
 refine D.V 8 41 511 .bin ?_
 refine D.V 9 42 1023 .pick ?_
 refine D.V 10 43 2047 .mv ?_
 cases hg17 : (x.m.src == me : Bool)
 have dhg17 := ne_of_beq_false hg17
 refine D.V 11 44 4095 .mv ?_
 refine D.V 12 45 8191 .nc ?_
 refine D.V 13 46 16383 (.fa f127_2 24) ?_
 refine D.V 15 48 49151 (.fa f107_1 1) ?_
 refine D.T 14 47 65535 (.ld t125 1) [0] [0] ?_
 refine D.T 16 49 131071 (.ld t3 0) [0] [0] ?_
 refine D.C 17 50 262143 [3] [1] [0] [0]  e182 (m_Hear tb r c1 l1 hN1 x.m.src) ?_
 rintro _ _ ⟨rfl, rfl⟩
 refine D.V 18 51 524287 .bin ?_
 refine D.V 19 52 1048575 .pick ?_
 refine D.done ?_
 refine K15 _ _ _ ?_
 refine G.cond rfl (fun hc52 => ?_) (fun hc52 => ?_)
 refine G.exit ?_
 refine K8 _ _ _ ?_
 refine G.region ?_
 refine G.V 79 .bw ?_
 refine G.M 14 ?_
 refine G.nil ?_
 refine G.only [3, 0] ?_
 refine K5 _ _ _ ?_
 exact G.ls ⟨(k + 1, o, (hearL x.m.src l1 c1).1, (hearL x.m.src l1 c1).2, a7, c7, n7), hk, by exact hn7, by rw [known_take hx, ← ho]; clear ho hN1; unfold known1 okK; first | (simp [*]; done) | (simp [*]; intros; simp_all; done) | (simp [*]; omega) | (simp_all; omega) | simp [*]⟩ (hL := (by first | rfl | (dsimp only; rw [hrl_snoc])))
 refine G.sk K14 ?_
 refine G.sr fun _ K18 => ?_
 refine G.V 53 (.fa f107_0 0) ?_
 refine G.V 54 (.ld t3 1) ?_
 refine G.V 55 .bin ?_
 refine G.M 56 ?_
 cases hg19 : (x.m.kind == 1 : Bool)
 have dhg19 := ne_of_beq_false hg19
 refine G.O3 57 58 59 ?_
 refine G.V 60 .pick ?_
 refine G.M 61 ?_
 refine G.V 62 (.fa f107_0 0) ?_
 refine G.V 63 (.ld t3 1) ?_
 refine G.V 64 .bin ?_
 refine G.M 65 ?_
 cases hg20 : (x.m.kind == 2 : Bool)
 have dhg20 := ne_of_beq_false hg20
 refine G.O3 66 67 68 ?_
 refine G.V 69 .pick ?_
 refine G.M 70 ?_
 refine G.O2 71 72 ?_
 refine G.V 73 .pick ?_
 refine G.V 74 .pick ?_
 refine G.nk K18 ?_
 refine G.no rfl ?_
 refine G.sk K8 ?_
 refine G.region ?_
 refine G.V 79 .bw ?_
 refine G.M 14 ?_
 refine G.nil ?_
 refine G.only [3, 0] ?_
 refine K5 _ _ _ ?_
 exact G.ls ⟨(k + 1, o, (hearL x.m.src l1 c1).1, (hearL x.m.src l1 c1).2, a7, c7, n7), hk, by exact hn7, by rw [known_take hx, ← ho]; clear ho hN1; unfold known1 okK; first | (simp [*]; done) | (simp [*]; intros; simp_all; done) | (simp [*]; omega) | (simp_all; omega) | simp [*]⟩ (hL := (by first | rfl | (dsimp only; rw [hrl_snoc])))
 have dhg20 := eq_of_beq hg20
 refine G.V 66 (.fa f107_1 1) ?_
 refine G.V 67 (.ld t3 1) ?_
 refine G.V 68 .bin ?_
 refine G.V 69 .pick ?_
 refine G.M 70 ?_
 cases hg21 : (decide (x.m.src ≥ 16) : Bool)
 have dhg21 := of_decide_eq_false hg21
 refine G.O2 71 72 ?_
 refine G.V 73 .pick ?_
 refine G.V 74 .pick ?_
 refine G.nk K18 ?_
 refine G.no rfl ?_
 refine G.sk K8 ?_
 refine G.region ?_
 refine G.V 79 .bw ?_
 refine G.M 14 ?_
 refine G.nil ?_
 refine G.only [3, 0] ?_
 refine K5 _ _ _ ?_
 exact G.ls ⟨(k + 1, o, (hearL x.m.src l1 c1).1, (hearL x.m.src l1 c1).2, a7, c7, n7), hk, by exact hn7, by rw [known_take hx, ← ho]; clear ho hN1; unfold known1 okK; first | (simp [*]; done) | (simp [*]; intros; simp_all; done) | (simp [*]; omega) | (simp_all; omega) | simp [*]⟩ (hL := (by first | rfl | (dsimp only; rw [hrl_snoc])))
 have dhg21 := of_decide_eq_true hg21
 refine G.M 71 ?_
 refine G.V 72 .bin ?_
 refine G.V 73 .pick ?_
 refine G.V 74 .pick ?_
 refine G.nk K18 ?_
 refine G.cond rfl (fun hc74 => ?_) (fun hc74 => ?_)
 have dhc74 := of_decide_eq_true hc74
 refine G.region ?_
 refine G.M 75 ?_
 refine G.V 76 (.lda t138 2 (vs := [.int .i64 x.m.kind, .int .i64 x.m.src, .int .i64 x.m.lo, .int .i64 x.m.hi, .int .i64 x.m.held, .int .i64 x.m.hops, .bool x.m.good, .bool x.m.ref, .int .i64 x.m.slo, .int .i64 x.m.shi, .int .i64 x.m.pulse, .int .i64 x.m.st, .int .i64 x.m.sn, .slice x.m.ta x.m.tl x.m.tc, .int .i64 x.age])) ?_
 refine G.row 77 (.one s101 z138 [.int .i64 x.m.kind, .int .i64 x.m.src, .int .i64 x.m.lo, .int .i64 x.m.hi, .int .i64 x.m.held, .int .i64 x.m.hops, .bool x.m.good, .bool x.m.ref, .int .i64 x.m.slo, .int .i64 x.m.shi, .int .i64 x.m.pulse, .int .i64 x.m.st, .int .i64 x.m.sn, .slice x.m.ta x.m.tl x.m.tc, .int .i64 x.age]) fun g77 => ?_
 refine G.chg 78 4 (.app s101 z138 y138 4 0 (show n7 + 1 ≤ 1048576 by omega)) ?_
 rintro _ _ ⟨a22, c23, rfl, rfl⟩
 dsimp only [List.set]
 refine G.M 5 ?_
 refine G.nk K8 ?_
 refine G.region ?_
 refine G.V 79 .bw ?_
 refine G.M 14 ?_
 refine G.nil ?_
 refine G.only [4, 1] ?_
 refine K5 _ _ _ ?_
 exact G.ls ⟨(k + 1, o ++ [x], (hearL x.m.src l1 c1).1, (hearL x.m.src l1 c1).2, a22, c23, n7 + 1), hk, by simp [hn7], by rw [known_take hx, ← ho]; clear ho hN1; unfold known1 okK; first | (simp [*]; done) | (simp [*]; intros; simp_all; done) | (simp [*]; omega) | (simp_all; omega) | simp [*]⟩ (hL := (by first | rfl | (dsimp only; rw [hrl_snoc])))
 have dhc74 := of_decide_eq_false hc74
 refine G.sk K8 ?_
 refine G.region ?_
 refine G.V 79 .bw ?_
 refine G.M 14 ?_
 refine G.nil ?_
 refine G.only [3, 0] ?_
 refine K5 _ _ _ ?_
 exact G.ls ⟨(k + 1, o, (hearL x.m.src l1 c1).1, (hearL x.m.src l1 c1).2, a7, c7, n7), hk, by exact hn7, by rw [known_take hx, ← ho]; clear ho hN1; unfold known1 okK; first | (simp [*]; done) | (simp [*]; intros; simp_all; done) | (simp [*]; omega) | (simp_all; omega) | simp [*]⟩ (hL := (by first | rfl | (dsimp only; rw [hrl_snoc])))
 have dhg19 := eq_of_beq hg19
 refine G.V 57 (.fa f107_1 1) ?_
 refine G.V 58 (.ld t3 1) ?_
 refine G.V 59 .bin ?_
 refine G.V 60 .pick ?_
 refine G.M 61 ?_
 cases hg24 : (decide (x.m.src < 16) : Bool)
 have dhg24 := of_decide_eq_false hg24
 refine G.V 62 (.fa f107_0 0) ?_
 refine G.V 63 (.ld t3 1) ?_
 refine G.V 64 .bin ?_
 refine G.M 65 ?_
 cases hg25 : (x.m.kind == 2 : Bool)
 have dhg25 := ne_of_beq_false hg25
 refine G.O3 66 67 68 ?_
 refine G.V 69 .pick ?_
 refine G.M 70 ?_
 refine G.O2 71 72 ?_
 refine G.V 73 .pick ?_
 refine G.V 74 .pick ?_
 refine G.nk K18 ?_
 refine G.no rfl ?_
 refine G.sk K8 ?_
 refine G.region ?_
 refine G.V 79 .bw ?_
 refine G.M 14 ?_
 refine G.nil ?_
 refine G.only [3, 0] ?_
 refine K5 _ _ _ ?_
 exact G.ls ⟨(k + 1, o, (hearL x.m.src l1 c1).1, (hearL x.m.src l1 c1).2, a7, c7, n7), hk, by exact hn7, by rw [known_take hx, ← ho]; clear ho hN1; unfold known1 okK; first | (simp [*]; done) | (simp [*]; intros; simp_all; done) | (simp [*]; omega) | (simp_all; omega) | simp [*]⟩ (hL := (by first | rfl | (dsimp only; rw [hrl_snoc])))
 have dhg25 := eq_of_beq hg25
 refine G.V 66 (.fa f107_1 1) ?_
 refine G.V 67 (.ld t3 1) ?_
 refine G.V 68 .bin ?_
 refine G.V 69 .pick ?_
 refine G.M 70 ?_
 cases hg26 : (decide (x.m.src ≥ 16) : Bool)
 have dhg26 := of_decide_eq_false hg26
 refine G.O2 71 72 ?_
 refine G.V 73 .pick ?_
 refine G.V 74 .pick ?_
 refine G.nk K18 ?_
 refine G.no rfl ?_
 refine G.sk K8 ?_
 refine G.region ?_
 refine G.V 79 .bw ?_
 refine G.M 14 ?_
 refine G.nil ?_
 refine G.only [3, 0] ?_
 refine K5 _ _ _ ?_
 exact G.ls ⟨(k + 1, o, (hearL x.m.src l1 c1).1, (hearL x.m.src l1 c1).2, a7, c7, n7), hk, by exact hn7, by rw [known_take hx, ← ho]; clear ho hN1; unfold known1 okK; first | (simp [*]; done) | (simp [*]; intros; simp_all; done) | (simp [*]; omega) | (simp_all; omega) | simp [*]⟩ (hL := (by first | rfl | (dsimp only; rw [hrl_snoc])))
 have dhg26 := of_decide_eq_true hg26
 refine G.M 71 ?_
 refine G.V 72 .bin ?_
 refine G.V 73 .pick ?_
 refine G.V 74 .pick ?_
 refine G.nk K18 ?_
 refine G.cond rfl (fun hc74 => ?_) (fun hc74 => ?_)
 have dhc74 := of_decide_eq_true hc74
 refine G.region ?_
 refine G.M 75 ?_
 refine G.V 76 (.lda t138 2 (vs := [.int .i64 x.m.kind, .int .i64 x.m.src, .int .i64 x.m.lo, .int .i64 x.m.hi, .int .i64 x.m.held, .int .i64 x.m.hops, .bool x.m.good, .bool x.m.ref, .int .i64 x.m.slo, .int .i64 x.m.shi, .int .i64 x.m.pulse, .int .i64 x.m.st, .int .i64 x.m.sn, .slice x.m.ta x.m.tl x.m.tc, .int .i64 x.age])) ?_
 refine G.row 77 (.one s101 z138 [.int .i64 x.m.kind, .int .i64 x.m.src, .int .i64 x.m.lo, .int .i64 x.m.hi, .int .i64 x.m.held, .int .i64 x.m.hops, .bool x.m.good, .bool x.m.ref, .int .i64 x.m.slo, .int .i64 x.m.shi, .int .i64 x.m.pulse, .int .i64 x.m.st, .int .i64 x.m.sn, .slice x.m.ta x.m.tl x.m.tc, .int .i64 x.age]) fun g77 => ?_
 refine G.chg 78 4 (.app s101 z138 y138 4 0 (show n7 + 1 ≤ 1048576 by omega)) ?_
 rintro _ _ ⟨a27, c28, rfl, rfl⟩
 dsimp only [List.set]
 refine G.M 5 ?_
 refine G.nk K8 ?_
 refine G.region ?_
 refine G.V 79 .bw ?_
 refine G.M 14 ?_
 refine G.nil ?_
 refine G.only [4, 1] ?_
 refine K5 _ _ _ ?_
 exact G.ls ⟨(k + 1, o ++ [x], (hearL x.m.src l1 c1).1, (hearL x.m.src l1 c1).2, a27, c28, n7 + 1), hk, by simp [hn7], by rw [known_take hx, ← ho]; clear ho hN1; unfold known1 okK; first | (simp [*]; done) | (simp [*]; intros; simp_all; done) | (simp [*]; omega) | (simp_all; omega) | simp [*]⟩ (hL := (by first | rfl | (dsimp only; rw [hrl_snoc])))
 have dhc74 := of_decide_eq_false hc74
 refine G.sk K8 ?_
 refine G.region ?_
 refine G.V 79 .bw ?_
 refine G.M 14 ?_
 refine G.nil ?_
 refine G.only [3, 0] ?_
 refine K5 _ _ _ ?_
 exact G.ls ⟨(k + 1, o, (hearL x.m.src l1 c1).1, (hearL x.m.src l1 c1).2, a7, c7, n7), hk, by exact hn7, by rw [known_take hx, ← ho]; clear ho hN1; unfold known1 okK; first | (simp [*]; done) | (simp [*]; intros; simp_all; done) | (simp [*]; omega) | (simp_all; omega) | simp [*]⟩ (hL := (by first | rfl | (dsimp only; rw [hrl_snoc])))
 have dhg24 := of_decide_eq_true hg24
 refine G.O4 62 63 64 65 ?_
 refine G.O4 66 67 68 69 ?_
 refine G.O4 70 71 72 73 ?_
 refine G.V 74 .pick ?_
 refine G.nk K18 ?_
 refine G.yes rfl ?_
 refine G.region ?_
 refine G.M 75 ?_
 refine G.V 76 (.lda t138 2 (vs := [.int .i64 x.m.kind, .int .i64 x.m.src, .int .i64 x.m.lo, .int .i64 x.m.hi, .int .i64 x.m.held, .int .i64 x.m.hops, .bool x.m.good, .bool x.m.ref, .int .i64 x.m.slo, .int .i64 x.m.shi, .int .i64 x.m.pulse, .int .i64 x.m.st, .int .i64 x.m.sn, .slice x.m.ta x.m.tl x.m.tc, .int .i64 x.age])) ?_
 refine G.row 77 (.one s101 z138 [.int .i64 x.m.kind, .int .i64 x.m.src, .int .i64 x.m.lo, .int .i64 x.m.hi, .int .i64 x.m.held, .int .i64 x.m.hops, .bool x.m.good, .bool x.m.ref, .int .i64 x.m.slo, .int .i64 x.m.shi, .int .i64 x.m.pulse, .int .i64 x.m.st, .int .i64 x.m.sn, .slice x.m.ta x.m.tl x.m.tc, .int .i64 x.age]) fun g77 => ?_
 refine G.chg 78 4 (.app s101 z138 y138 4 0 (show n7 + 1 ≤ 1048576 by omega)) ?_
 rintro _ _ ⟨a29, c30, rfl, rfl⟩
 dsimp only [List.set]
 refine G.M 5 ?_
 refine G.nk K8 ?_
 refine G.region ?_
 refine G.V 79 .bw ?_
 refine G.M 14 ?_
 refine G.nil ?_
 refine G.only [4, 1] ?_
 refine K5 _ _ _ ?_
 exact G.ls ⟨(k + 1, o ++ [x], (hearL x.m.src l1 c1).1, (hearL x.m.src l1 c1).2, a29, c30, n7 + 1), hk, by simp [hn7], by rw [known_take hx, ← ho]; clear ho hN1; unfold known1 okK; first | (simp [*]; done) | (simp [*]; intros; simp_all; done) | (simp [*]; omega) | (simp_all; omega) | simp [*]⟩ (hL := (by first | rfl | (dsimp only; rw [hrl_snoc])))
 have dhg17 := eq_of_beq hg17
 refine D.off 11 44 4095 ?_
 refine D.off 12 45 8191 ?_
 refine D.off 13 46 16383 ?_
 refine D.off 14 47 32767 ?_
 refine D.off 15 48 65535 ?_
 refine D.off 16 49 131071 ?_
 refine D.off 17 50 262143 ?_
 refine D.off 18 51 524287 ?_
 refine D.V 19 52 1048575 .pick ?_
 refine D.done ?_
 refine K15 _ _ _ ?_
 refine G.yes rfl ?_
 refine G.exit ?_
 refine K8 _ _ _ ?_
 refine G.region ?_
 refine G.V 79 .bw ?_
 refine G.M 14 ?_
 refine G.nil ?_
 refine G.only [2, 2] ?_
 refine K5 _ _ _ ?_
 exact G.ls ⟨(k + 1, o, l1, c1, a7, c7, n7), hk, by exact hn7, by rw [known_take hx, ← ho]; clear ho hN1; unfold known1 okK; first | (simp [*]; done) | (simp [*]; intros; simp_all; done) | (simp [*]; omega) | (simp_all; omega) | simp [*]⟩ (hL := (by first | rfl | (dsimp only; rw [hrl_snoc])))
 refine D.off 2 35 7 ?_
 refine D.off 3 36 15 ?_
 refine D.off 4 37 31 ?_
 refine D.off 5 38 63 ?_
 refine D.off 6 39 127 ?_
 refine D.off 7 40 255 ?_
 refine D.off 8 41 511 ?_
 refine D.V 9 42 1023 .pick ?_
 refine D.V 10 43 2047 .mv ?_
 refine D.off 11 44 4095 ?_
 refine D.off 12 45 8191 ?_
 refine D.off 13 46 16383 ?_
 refine D.off 14 47 32767 ?_
 refine D.off 15 48 65535 ?_
 refine D.off 16 49 131071 ?_
 refine D.off 17 50 262143 ?_
 refine D.off 18 51 524287 ?_
 refine D.V 19 52 1048575 .pick ?_
 refine D.done ?_
 refine K15 _ _ _ ?_
 refine G.yes rfl ?_
 refine G.exit ?_
 refine K8 _ _ _ ?_
 refine G.region ?_
 refine G.V 79 .bw ?_
 refine G.M 14 ?_
 refine G.nil ?_
 refine G.only [2, 2] ?_
 refine K5 _ _ _ ?_
 exact G.ls ⟨(k + 1, o, l1, c1, a7, c7, n7), hk, by exact hn7, by rw [known_take hx, ← ho]; clear ho hN1; unfold known1 okK; first | (simp [*]; done) | (simp [*]; intros; simp_all; done) | (simp [*]; omega) | (simp_all; omega) | simp [*]⟩ (hL := (by first | rfl | (dsimp only; rw [hrl_snoc])))
 have hkn : hn = k := by have := of_decide_eq_false hc15; omega
 subst hkn
 rw [show hs.take hn = hs from by rw [← hhl]; exact List.take_length] at ho
 have dhc15 := of_decide_eq_false hc15
 refine G.exit ?_
 refine K3 _ _ _ ?_
 refine G.sr fun _ K31 => ?_
 refine G.M2 80 4 ?_
 refine G.nk K31 ?_
 exact G.ret (G.F [0, 0] (.one Tryz.results174) ⟨_, _, _, rfl, by rw [← ho]; exact hn7, by rw [← ho]⟩)
theorem e183 : Is prog 183 := ⟨_, func183, by kernel_rfl, rfl⟩
theorem e184 : Is prog 184 := ⟨_, func184, by kernel_rfl, rfl⟩
theorem f107_10 : tfield prog 107 10 = some 13 := by kernel_rfl
theorem f127_0 : tfield prog 127 0 = some 0 := by kernel_rfl
theorem y58 : tbytes prog 58 = some (1, 24) := by kernel_rfl
theorem z58 : tzero prog 58 = some [.slice none 0 0] := by kernel_rfl
def goodH (h : Hr) : Bool := h.m.good && !decide (h.m.lo > h.m.hi)
def coreL (p : Par) (o : List Hr) : List (Int × Int) := (o.filter goodH).map fun h => wayV p h.m.lo h.m.hi h.age
def heldL (o : List Hr) : List Int := (o.filter goodH).map fun h => h.m.held
theorem core_take {p : Par} {o : List Hr} {k : Nat} {x : Hr} (h : o[k]? = some x) : coreL p (o.take (k + 1)) = coreL p (o.take k) ++ (if goodH x = true then [wayV p x.m.lo x.m.hi x.age] else []) := by
 unfold coreL
 rw [List.take_add_one, h, List.filter_append, List.map_append]
 cases hr : goodH x <;> simp [hr]
theorem held_take {o : List Hr} {k : Nat} {x : Hr} (h : o[k]? = some x) : heldL (o.take (k + 1)) = heldL (o.take k) ++ (if goodH x = true then [x.m.held] else []) := by
 unfold heldL
 rw [List.take_add_one, h, List.filter_append, List.map_append]
 cases hr : goodH x <;> simp [hr]
theorem core_len (p : Par) (o : List Hr) : (coreL p o).length ≤ o.length := by unfold coreL; rw [List.length_map]; exact List.length_filter_le _ _
theorem told_sub (p : Par) (me : Int) : ∀ (hs : List Hr) (x : Hr), x ∈ toldL p me hs → x ∈ hs := by
 have key : ∀ (hs o : List Hr) (x : Hr), x ∈ hs.foldl (told1 p me) o → x ∈ o ∨ x ∈ hs := by
  intro hs
  induction hs with
  | nil => intro o x h; exact .inl h
  | cons y hs ih =>
   intro o x h
   rcases ih _ x h with q | q
   ·unfold told1 at q
    split at q
    ·rcases List.mem_append.1 q with q | q
     ·exact .inl q
     ·simp at q; subst q; exact .inr (List.mem_cons_self ..)
    ·exact .inl q
   ·exact .inr (List.mem_cons_of_mem _ q)
 intro hs x h
 rcases key hs [] x h with q | q
 ·cases q
 ·exact q
theorem Fused.len {f : Nat} {l : List (Int × Int)} {lo hi : Int} (h : Fused f l true lo hi) : f < l.length := by
 rcases h with ⟨q, _⟩ | ⟨_, q, _⟩
 ·cases q
 ·omega
structure CoreR (p : Par) (f : Nat) (s : Sta) (hs : List Hr) (s' : Sta) : Prop where
 ex : ∃ (o : List Hr) (lo hi x : Int), o.Perm (toldL p (-1) hs) ∧ Fused f (coreL p o) true lo hi ∧ Kth (heldL o) f x ∧ s' = { s with lo := lo, hi := hi, held := moreV x, hops := 0, good := true, ta := s'.ta, tl := s'.tl, tc := s'.tc }
def NoCore (p : Par) (f : Nat) (hs : List Hr) : Prop := ∃ (o : List Hr), o.Perm (toldL p (-1) hs) ∧ Fused f (coreL p o) false 0 0
theorem tbs_snoc (l : List Tb) (x : Tb) : tbs (l ++ [x]) = tbs l ++ [.slice x.a x.n x.c] := by simp [tbs, Tb.val]
theorem tabsE_sub {ts ts' : List Tb} (h : ∀ x ∈ ts', x ∈ ts) (w : World) (q : (tabsE ts).H w) : (tabsE ts').H w := fun x hx => q x (h x hx)
theorem tabsE_subown {ts ts' : List Tb} (h : ∀ x ∈ ts', x ∈ ts) : ∀ k ∈ (tabsE ts').own, k ∈ (tabsE ts).own := fun k hk => by
 obtain ⟨x, hx, hk⟩ := List.mem_flatMap.1 hk
 exact List.mem_flatMap.2 ⟨x, h x hx, hk⟩
theorem n_core (pw : List Int) (hpw : pw.length = 20) (g tb : Nat) (p : Par) (f : Nat) (hf : p.f = (f : Int)) (hp7 : p.n ≤ 7) (s : Sta) (me : Int) (l : List (Int × Int)) (hl : l.length = s.tl) (hnl : s.tl ≤ 1000) (ha : Option Addr) (hn hc : Nat) (hs : List Hr) (hhl : hs.length = hn) (hhn : hn ≤ 100000) (ts : List Tb) (hok : ∀ x ∈ ts, TbOk x) (hts : ∀ h ∈ hs, ∃ x ∈ ts, x.a = h.m.ta ∧ x.n = h.m.tl ∧ x.c = h.m.tc) : Spec prog 176 [.pointer (some ⟨g, 0, none⟩), .slice ha hn hc, .agg #[.int .i64 s.lo, .int .i64 s.hi, .int .i64 s.time, .bool s.set, .int .i64 s.held, .int .i64 s.hops, .bool s.good, .slice s.ta s.tl s.tc, .int .i64 s.st, .int .i64 s.sn, .int .i64 s.life]] [] [blk g (pC p [.int .i64 s.lo, .int .i64 s.hi, .int .i64 s.time, .bool s.set, .int .i64 s.held, .int .i64 s.hops, .bool s.good, .slice s.ta s.tl s.tc, .int .i64 s.st, .int .i64 s.sn, .int .i64 s.life, .int .i64 me, .pointer (some ⟨tb, 0, none⟩)]) 127, row s.ta s.tc 174 2 s.tl (spl l), row ha hc 138 15 hn (hrl hs), tabsE ts, blk 2 (u64s pw) 319] (fun v Ln => ∃ s' ok a1 n1 c1 l1, v = .tuple #[.agg #[.int .i64 s'.lo, .int .i64 s'.hi, .int .i64 s'.time, .bool s'.set, .int .i64 s'.held, .int .i64 s'.hops, .bool s'.good, .slice s'.ta s'.tl s'.tc, .int .i64 s'.st, .int .i64 s'.sn, .int .i64 s'.life], .bool ok] ∧ l1.length = n1 ∧ n1 ≤ 1000 ∧ ((ok = false ∧ s' = s ∧ NoCore p f hs) ∨ (ok = true ∧ CoreR p f s hs s' ∧ s'.ta = a1 ∧ s'.tl = n1 ∧ s'.tc = c1)) ∧ Ln = [row a1 c1 174 2 n1 (spl l1)]) := by
 refine Spec.en func176 ntmps176 fun w0 => ?_
 refine G.sr fun _ K1 => ?_
 refine G.mk 5 .bx fun g5 => ?_
 refine G.mk 6 (.al z70) fun g6 => ?_
 refine G.M 7 ?_
 refine G.nk K1 ?_
 refine G.sr fun _ K2 => ?_
 refine G.M 8 ?_
 refine G.nil ?_
 refine G.newRow 49 2 ?_
 refine K2 _ _ _ ?_
 refine G.sr fun _ K3 => ?_
 refine G.M 9 ?_
 refine G.nil ?_
 refine G.newRow 3 1 ?_
 refine K3 _ _ _ ?_
 refine G.sr fun _ K4 => ?_
 refine G.M 10 ?_
 refine G.nil ?_
 refine G.newRow 58 1 ?_
 refine K4 _ _ _ ?_
 refine G.Z fun _ K5 => ?_
 refine G.sr fun _ K6 => ?_
 refine G.M 15 ?_
 refine G.V 16 .nc ?_
 refine G.V 17 (.fa f127_0 0) ?_
 refine G.V 18 (.fa f84_0 0) ?_
 refine G.V 19 (.lda t23 5 (vs := [.int .i64 p.n, .int .i64 p.f, .int .i64 p.d, .int .i64 p.beat, .int .i64 p.rho, .int .i64 p.delay, .int .i64 p.jitter, .int .i64 p.eps, .int .i64 p.mu, .int .i64 p.hold, .int .i64 p.pulse, .int .i64 p.second])) ?_
 refine G.M 20 ?_
 refine G.C 21 [] [2]  e115 (g_Told p (-1) hp7 ha hn hc hs hhl hhn) ?_
 rintro _ _ ⟨a0, n0, c0, o, rfl, hn0, hpo, rfl⟩
 have hn07 : n0 ≤ 7 := by rw [hn0, hpo.length_eq]; exact told_len hp7
 refine G.V 22 (.lenl s101) ?_
 refine G.M 23 ?_
 refine G.nk K6 ?_
 refine G.block ?_
 refine G.lpR (ι := {q : Nat × Option Addr × Nat × Nat × List (Int × Int) × Option Addr × Nat × Nat × List Int × Option Addr × Nat × Nat × List Tb // q.1 ≤ n0 ∧ q.2.2.2.2.1.length = q.2.2.2.1 ∧ q.2.2.2.2.2.2.2.2.1.length = q.2.2.2.2.2.2.2.1 ∧ q.2.2.2.2.2.2.2.2.2.2.2.2.length = q.2.2.2.2.2.2.2.2.2.2.2.1 ∧ (∀ x ∈ q.2.2.2.2.2.2.2.2.2.2.2.2, x ∈ ts) ∧ (q.2.2.2.2.2.2.2.2.2.2.2.1 = q.2.2.2.1 ∧ q.2.2.2.2.2.2.2.1 = q.2.2.2.1) ∧ q.2.2.2.2.1 = coreL p (o.take q.1) ∧ q.2.2.2.2.2.2.2.2.1 = heldL (o.take q.1)}) (fun ⟨⟨k, a8, c8, n8, l8, a9, c9, n9, zs, a10, c10, n10, ts'⟩, hj, hl8, hl9, hl10, hsub, hnn, h8, h9⟩ => n0 - k) (fun ⟨⟨k, a8, c8, n8, l8, a9, c9, n9, zs, a10, c10, n10, ts'⟩, hj, hl8, hl9, hl10, hsub, hnn, h8, h9⟩ => [(0, .pointer (some ⟨g, 0, none⟩)), (5, .pointer (some ⟨g5, 0, none⟩)), (6, .pointer (some ⟨g6, 0, none⟩)), (8, .slice a8 n8 c8), (9, .slice a9 n9 c9), (10, .slice a10 n10 c10), (21, .slice a0 n0 c0), (22, .int .i64 (n0 : Int)), (23, .int .i64 (k : Int))]) (fun ⟨⟨k, a8, c8, n8, l8, a9, c9, n9, zs, a10, c10, n10, ts'⟩, hj, hl8, hl9, hl10, hsub, hnn, h8, h9⟩ => [row a0 c0 138 15 n0 (hrl o), row a10 c10 58 1 n10 (tbs ts'), row a9 c9 3 1 n9 (ints zs), row a8 c8 49 2 n8 (spl l8), blk g6 [.int .i64 0, .int .i64 0, .int .i64 0, .bool false, .int .i64 0, .int .i64 0, .bool false, .slice none 0 0, .int .i64 0, .int .i64 0, .int .i64 0] 70, blk g5 [.int .i64 s.lo, .int .i64 s.hi, .int .i64 s.time, .bool s.set, .int .i64 s.held, .int .i64 s.hops, .bool s.good, .slice s.ta s.tl s.tc, .int .i64 s.st, .int .i64 s.sn, .int .i64 s.life] 70]) ?_ ?_
 exact G.at ⟨(0, none, 0, 0, [], none, 0, 0, [], none, 0, 0, []), Nat.zero_le _, rfl, rfl, rfl, by simp, ⟨rfl, rfl⟩, rfl, rfl⟩ (ts := [0, 5, 6, 8, 9, 10, 21, 22, 23]) rfl rfl rfl rfl
 rintro ⟨⟨k, a8, c8, n8, l8, a9, c9, n9, zs, a10, c10, n10, ts'⟩, hj, hl8, hl9, hl10, hsub, hnn, h8, h9⟩ _ K7
 try dsimp only at K7 ⊢
 try dsimp only at hj hl8 hl9 hl10 hsub hnn h8 h9
 have hn8k : n8 ≤ k := by have := core_len p (o.take k); rw [← h8, List.length_take] at this; omega
 refine G.sr fun _ K8 => ?_
 refine G.V 24 .bin ?_
 refine G.nk K8 ?_
 refine G.Z fun _ K9 => ?_
 refine G.cond rfl (fun hc24 => ?_) (fun hc24 => ?_)
 have hk : k < n0 := by have := of_decide_eq_true hc24; omega
 obtain ⟨x, hx⟩ : ∃ x, o[k]? = some x := ⟨_, List.getElem?_eq_getElem (by omega)⟩
 obtain ⟨y, hy, hya, hyn, hyc⟩ := hts x (told_sub p (-1) hs x ((hpo.mem_iff).1 (List.mem_of_getElem? hx)))
 have dhc24 := of_decide_eq_true hc24
 refine G.sk K9 ?_
 refine G.Z fun _ K10 => ?_
 refine G.block ?_
 refine G.Z fun _ K11 => ?_
 refine G.base 0 (show 0 < n0 by omega) fun b12 hb_ => ?_
 subst hb_
 refine G.region ?_
 refine G.V 25 (.is s101 k hk) ?_
 refine G.V 26 (.lda t138 0 (hv := hrl_at hx)) ?_
 refine G.mk 12 (.al z138) fun g12 => ?_
 refine G.sn 0 (.st t138 0) rfl ?_
 refine G.nk K11 ?_
 refine G.sr fun _ K13 => ?_
 refine G.V 27 (.fa f138_0 0) ?_
 refine G.V 28 (.fa f107_5 6) ?_
 refine G.V 29 (.ld t4 0) ?_
 refine G.M 30 ?_
 cases hg14 : (x.m.good : Bool)
 refine G.O4 31 32 33 34 ?_
 refine G.O 35 ?_
 refine G.V 36 .pick ?_
 refine G.nk K13 ?_
 refine G.no rfl ?_
 refine G.sk K10 ?_
 refine G.region ?_
 refine G.V 63 .bw ?_
 refine G.M 23 ?_
 refine G.nil ?_
 refine G.only [1, 1, 1, 1, 1, 1] ?_
 refine K7 _ _ _ ?_
 exact G.ls ⟨(k + 1, a8, c8, n8, l8, a9, c9, n9, zs, a10, c10, n10, ts'), hk, by exact hl8, by exact hl9, by exact hl10, hsub, by dsimp only; omega, by rw [core_take hx, ← h8]; clear h8 h9 hsub hts hok; unfold goodH; simp [*], by rw [held_take hx, ← h9]; clear h8 h9 hsub hts hok; unfold goodH; simp [*]⟩ (hL := (by first | rfl | (dsimp only; rw [spl_snoc, tbs_snoc, ints_app, hya, hyn, hyc]) | (dsimp only; simp [spl_snoc, tbs_snoc, ints_app, *])))
 refine G.V 31 (.fa f138_0 0) ?_
 refine G.V 32 (.fa f107_2 2) ?_
 refine G.V 33 (.lda t49 0 (vs := [.int .i64 x.m.lo, .int .i64 x.m.hi])) ?_
 refine G.cp 34 [] []  e82 (sp_Empty x.m.lo x.m.hi) ?_
 refine G.V 35 .not ?_
 refine G.V 36 .pick ?_
 refine G.nk K13 ?_
 cases hg15 : (decide (x.m.lo > x.m.hi) : Bool)
 have dhg15 := of_decide_eq_false hg15
 refine G.yes rfl ?_
 refine G.Z fun _ K16 => ?_
 refine G.draw 22 [0] [0] [] ?_
 refine D.V 0 37 1 .mv ?_
 refine D.V 1 38 3 .mv ?_
 refine D.V 2 39 7 .nc ?_
 refine D.V 3 40 15 (.fa f127_0 0) ?_
 refine D.V 4 41 31 (.fa f84_0 0) ?_
 refine D.V 6 43 95 (.fa f138_0 0) ?_
 refine D.V 7 44 223 (.fa f107_2 2) ?_
 refine D.V 9 46 735 (.fa f138_1 14) ?_
 refine D.V 14 51 17119 .mv ?_
 refine D.V 15 52 49887 (.fa f138_0 0) ?_
 refine D.V 16 53 115423 (.fa f107_3 4) ?_
 refine D.T 5 42 115455 (.lda t23 1 (vs := [.int .i64 p.n, .int .i64 p.f, .int .i64 p.d, .int .i64 p.beat, .int .i64 p.rho, .int .i64 p.delay, .int .i64 p.jitter, .int .i64 p.eps, .int .i64 p.mu, .int .i64 p.hold, .int .i64 p.pulse, .int .i64 p.second])) [0] [0] ?_
 refine D.T 8 45 115711 (.lda t49 0 (vs := [.int .i64 x.m.lo, .int .i64 x.m.hi])) [0] [0] ?_
 refine D.T 10 47 116735 (.ld t3 0) [0] [0] ?_
 refine D.T 17 54 247807 (.ld t3 0) [0] [0] ?_
 refine D.join (ι := Nat × Nat × Option Addr × Nat) (fun ⟨g55, g49, a18, c19⟩ => [(0, .pointer (some ⟨g, 0, none⟩)), (5, .pointer (some ⟨g5, 0, none⟩)), (6, .pointer (some ⟨g6, 0, none⟩)), (8, .slice a8 n8 c8), (9, .slice a9 n9 c9), (10, .slice a10 n10 c10), (12, .pointer (some ⟨g12, 0, none⟩)), (21, .slice (some ⟨b12, 0, none⟩) n0 c0), (22, .int .i64 (n0 : Int)), (23, .int .i64 (k : Int)), (24, .bool (decide ((k : Int) < (n0 : Int)))), (25, .pointer (some ⟨b12, 0 + k * 15, none⟩)), (26, .agg #[.int .i64 x.m.kind, .int .i64 x.m.src, .int .i64 x.m.lo, .int .i64 x.m.hi, .int .i64 x.m.held, .int .i64 x.m.hops, .bool true, .bool x.m.ref, .int .i64 x.m.slo, .int .i64 x.m.shi, .int .i64 x.m.pulse, .int .i64 x.m.st, .int .i64 x.m.sn, .slice x.m.ta x.m.tl x.m.tc, .int .i64 x.age]), (27, .pointer (some ⟨g12, 0, none⟩)), (28, .pointer (some ⟨g12, 6, none⟩)), (29, .bool true), (30, .bool true), (31, .pointer (some ⟨g12, 0, none⟩)), (32, .pointer (some ⟨g12, 2, none⟩)), (33, .agg #[.int .i64 x.m.lo, .int .i64 x.m.hi]), (34, .bool false), (35, .bool true), (36, .bool true), (50, .slice a18 (n8 + 1) c19), (51, .slice a9 n9 c9), (55, .slice (some ⟨g55, 0, none⟩) 1 1)]) (fun ⟨g55, g49, a18, c19⟩ => [blk g55 [.int .i64 x.m.held] 3, blk g49 [.int .i64 ((wayV p x.m.lo x.m.hi x.age).1), .int .i64 ((wayV p x.m.lo x.m.hi x.age).2)] 49, blk g12 [.int .i64 x.m.kind, .int .i64 x.m.src, .int .i64 x.m.lo, .int .i64 x.m.hi, .int .i64 x.m.held, .int .i64 x.m.hops, .bool true, .bool x.m.ref, .int .i64 x.m.slo, .int .i64 x.m.shi, .int .i64 x.m.pulse, .int .i64 x.m.st, .int .i64 x.m.sn, .slice x.m.ta x.m.tl x.m.tc, .int .i64 x.age] 138, row (some ⟨b12, 0, none⟩) c0 138 15 n0 (hrl o), row a10 c10 58 1 n10 (tbs ts'), row a9 c9 3 1 n9 (ints zs), row a18 c19 49 2 (n8 + 1) ((spl l8) ++ [.int .i64 ((wayV p x.m.lo x.m.hi x.age).1), .int .i64 ((wayV p x.m.lo x.m.hi x.age).2)]), blk g6 [.int .i64 0, .int .i64 0, .int .i64 0, .bool false, .int .i64 0, .int .i64 0, .bool false, .slice none 0 0, .int .i64 0, .int .i64 0, .int .i64 0] 70, blk g5 [.int .i64 s.lo, .int .i64 s.hi, .int .i64 s.time, .bool s.set, .int .i64 s.held, .int .i64 s.hops, .bool s.good, .slice s.ta s.tl s.tc, .int .i64 s.st, .int .i64 s.sn, .int .i64 s.life] 70]) (fun ⟨g55, g49, a18, c19⟩ => [blk g (pC p [.int .i64 s.lo, .int .i64 s.hi, .int .i64 s.time, .bool s.set, .int .i64 s.held, .int .i64 s.hops, .bool s.good, .slice s.ta s.tl s.tc, .int .i64 s.st, .int .i64 s.sn, .int .i64 s.life, .int .i64 me, .pointer (some ⟨tb, 0, none⟩)]) 127, row s.ta s.tc 174 2 s.tl (spl l), row ha hc 138 15 hn (hrl hs), tabsE ts, blk 2 (u64s pw) 319]) 3 524287 (fun hJ17 => ?_) ?_
 refine D.two 11 18 249855 509951 ?_ ?_
 refine E.call 11 48 [] [] [0] [0]  e116 (c_Way p x.m.lo x.m.hi x.age) ?_
 rintro _ _ ⟨rfl, rfl⟩
 refine D.two 12 18 253951 511999 ?_ ?_
 refine E.row 12 49 (.sl s223 z49 [.int .i64 ((wayV p x.m.lo x.m.hi x.age).1), .int .i64 ((wayV p x.m.lo x.m.hi x.age).2)]) [0] [0]  fun g49 => ?_
 refine D.two 13 18 262143 516095 ?_ ?_
 refine E.chg 13 50 5 (.app s223 z49 y49 5 0 (show n8 + 1 ≤ 1048576 by omega)) [1] [0]  ?_
 rintro _ _ ⟨a18, c19, rfl, rfl⟩
 dsimp only [List.set]
 refine D.ev 18 524287 ?_
 refine E.row 18 55 (.sl s24 z3 [.int .i64 x.m.held]) [1] [0]  fun g55 => ?_
 refine hJ17 _ _ _ ?_
 exact G.at (g55, g49, a18, c19) (ts := [0, 5, 6, 8, 9, 10, 12, 21, 22, 23, 24, 25, 26, 27, 28, 29, 30, 31, 32, 33, 34, 35, 36, 50, 51, 55]) rfl rfl rfl rfl
 refine E.row 18 55 (.sl s24 z3 [.int .i64 x.m.held]) [1] [0]  fun g55 => ?_
 refine D.chg 13 50 524287 6 (.app s223 z49 y49 6 1 (show n8 + 1 ≤ 1048576 by omega)) [2] [0]  ?_
 rintro _ _ ⟨a20, c21, rfl, rfl⟩
 dsimp only [List.set]
 refine hJ17 _ _ _ ?_
 exact G.at (g55, g49, a20, c21) (ts := [0, 5, 6, 8, 9, 10, 12, 21, 22, 23, 24, 25, 26, 27, 28, 29, 30, 31, 32, 33, 34, 35, 36, 50, 51, 55]) rfl rfl rfl rfl
 refine E.row 18 55 (.sl s24 z3 [.int .i64 x.m.held]) [0] [0]  fun g55 => ?_
 refine D.ev 12 516095 ?_
 refine E.row 12 49 (.sl s223 z49 [.int .i64 ((wayV p x.m.lo x.m.hi x.age).1), .int .i64 ((wayV p x.m.lo x.m.hi x.age).2)]) [1] [0]  fun g49 => ?_
 refine D.chg 13 50 524287 6 (.app s223 z49 y49 6 0 (show n8 + 1 ≤ 1048576 by omega)) [2] [0]  ?_
 rintro _ _ ⟨a22, c23, rfl, rfl⟩
 dsimp only [List.set]
 refine G.only [1, 0, 0, 0, 0, 0, 0, 0, 0] ?_
 refine hJ17 _ _ _ ?_
 exact G.at (g55, g49, a22, c23) (ts := [0, 5, 6, 8, 9, 10, 12, 21, 22, 23, 24, 25, 26, 27, 28, 29, 30, 31, 32, 33, 34, 35, 36, 50, 51, 55]) rfl rfl rfl rfl
 refine E.row 18 55 (.sl s24 z3 [.int .i64 x.m.held]) [0] [0]  fun g55 => ?_
 refine D.C 11 48 511999 [] [] [1] [0]  e116 (c_Way p x.m.lo x.m.hi x.age) ?_
 rintro _ _ ⟨rfl, rfl⟩
 refine D.ev 12 516095 ?_
 refine E.row 12 49 (.sl s223 z49 [.int .i64 ((wayV p x.m.lo x.m.hi x.age).1), .int .i64 ((wayV p x.m.lo x.m.hi x.age).2)]) [1] [0]  fun g49 => ?_
 refine D.chg 13 50 524287 6 (.app s223 z49 y49 6 0 (show n8 + 1 ≤ 1048576 by omega)) [2] [0]  ?_
 rintro _ _ ⟨a24, c25, rfl, rfl⟩
 dsimp only [List.set]
 refine G.only [1, 0, 0, 0, 0, 0, 0, 0, 0] ?_
 refine hJ17 _ _ _ ?_
 exact G.at (g55, g49, a24, c25) (ts := [0, 5, 6, 8, 9, 10, 12, 21, 22, 23, 24, 25, 26, 27, 28, 29, 30, 31, 32, 33, 34, 35, 36, 50, 51, 55]) rfl rfl rfl rfl
 rintro ⟨g55, g49, a18, c19⟩
 try dsimp only
 refine D.chg 19 56 1048575 5 (.app s24 z3 y3 5 0 (show n9 + 1 ≤ 1048576 by omega)) [2] [0]  ?_
 rintro _ _ ⟨a26, c27, rfl, rfl⟩
 dsimp only [List.set]
 refine D.V 20 8 2097151 .mv ?_
 refine D.V 21 9 4194303 .mv ?_
 refine D.done ?_
 refine K16 _ _ _ ?_
 refine G.region ?_
 refine G.M 57 ?_
 refine G.V 58 (.fa f138_0 0) ?_
 refine G.V 59 (.fa f107_10 13) ?_
 refine G.V 60 (.ld t58 2) ?_
 refine G.row 61 (.sl s288 z58 [.slice x.m.ta x.m.tl x.m.tc]) fun g61 => ?_
 refine G.chg 62 5 (.app s288 z58 y58 5 0 (show n10 + 1 ≤ 1048576 by omega)) ?_
 rintro _ _ ⟨a28, c29, rfl, rfl⟩
 dsimp only [List.set]
 refine G.M 10 ?_
 refine G.nk K10 ?_
 refine G.region ?_
 refine G.V 63 .bw ?_
 refine G.M 23 ?_
 refine G.nil ?_
 refine G.only [4, 4, 4, 4, 4, 4] ?_
 refine K7 _ _ _ ?_
 exact G.ls ⟨(k + 1, a18, c19, n8 + 1, l8 ++ [wayV p x.m.lo x.m.hi x.age], a26, c27, n9 + 1, zs ++ [x.m.held], a28, c29, n10 + 1, ts' ++ [y]), hk, by simp [hl8], by simp [hl9], by simp [hl10], fun z hz => (List.mem_append.1 hz).elim (hsub z) (fun q => by simp at q; subst q; exact hy), by dsimp only; omega, by rw [core_take hx, ← h8]; clear h8 h9 hsub hts hok; unfold goodH; simp [*], by rw [held_take hx, ← h9]; clear h8 h9 hsub hts hok; unfold goodH; simp [*]⟩ (hL := (by first | rfl | (dsimp only; rw [spl_snoc, tbs_snoc, ints_app, hya, hyn, hyc]) | (dsimp only; simp [spl_snoc, tbs_snoc, ints_app, *])))
 have dhg15 := of_decide_eq_true hg15
 refine G.no rfl ?_
 refine G.sk K10 ?_
 refine G.region ?_
 refine G.V 63 .bw ?_
 refine G.M 23 ?_
 refine G.nil ?_
 refine G.only [1, 1, 1, 1, 1, 1] ?_
 refine K7 _ _ _ ?_
 exact G.ls ⟨(k + 1, a8, c8, n8, l8, a9, c9, n9, zs, a10, c10, n10, ts'), hk, by exact hl8, by exact hl9, by exact hl10, hsub, by dsimp only; omega, by rw [core_take hx, ← h8]; clear h8 h9 hsub hts hok; unfold goodH; simp [*], by rw [held_take hx, ← h9]; clear h8 h9 hsub hts hok; unfold goodH; simp [*]⟩ (hL := (by first | rfl | (dsimp only; rw [spl_snoc, tbs_snoc, ints_app, hya, hyn, hyc]) | (dsimp only; simp [spl_snoc, tbs_snoc, ints_app, *])))
 have hkn : n0 = k := by have := of_decide_eq_false hc24; omega
 subst hkn
 rw [show o.take n0 = o from by rw [hn0]; exact List.take_length] at h8 h9
 have dhc24 := of_decide_eq_false hc24
 refine G.exit ?_
 refine K5 _ _ _ ?_
 refine G.sr fun _ K30 => ?_
 refine G.M 65 ?_
 refine G.V 66 .nc ?_
 refine G.V 67 (.fa f127_0 0) ?_
 refine G.V 68 (.fa f84_0 0) ?_
 refine G.V 69 (.lda t23 6 (vs := [.int .i64 p.n, .int .i64 p.f, .int .i64 p.d, .int .i64 p.beat, .int .i64 p.rho, .int .i64 p.delay, .int .i64 p.jitter, .int .i64 p.eps, .int .i64 p.mu, .int .i64 p.hold, .int .i64 p.pulse, .int .i64 p.second])) ?_
 refine G.M 70 ?_
 refine G.C 71 [] [8]  e119 (a_Fuse p f hf a8 n8 c8 l8 hl8 (by omega)) ?_
 rintro _ _ ⟨ok, lo, hi, rfl, hF, rfl⟩
 refine G.M 64 ?_
 refine G.V 72 (.ext (v := .agg #[.int .i64 lo, .int .i64 hi])) ?_
 refine G.V 73 (.ext (v := .bool ok)) ?_
 refine G.mk 13 (.al z49) fun g13 => ?_
 refine G.sn 0 (.st t49 0) rfl ?_
 refine G.M 14 ?_
 refine G.nk K30 ?_
 refine G.Z fun _ K31 => ?_
 refine G.sr fun _ K32 => ?_
 refine G.M 74 ?_
 refine G.V 75 .not ?_
 refine G.nk K32 ?_
 refine G.cond rfl (fun hc75 => ?_) (fun hc75 => ?_)
 have e75 : ok = false := by simpa using hc75
 have hF' := hF; rw [e75] at hF'
 refine G.sr fun _ K33 => ?_
 refine G.V 76 (.lda t70 6 (vs := [.int .i64 s.lo, .int .i64 s.hi, .int .i64 s.time, .bool s.set, .int .i64 s.held, .int .i64 s.hops, .bool s.good, .slice s.ta s.tl s.tc, .int .i64 s.st, .int .i64 s.sn, .int .i64 s.life])) ?_
 refine G.sn 5 (.st t70 5) rfl ?_
 refine G.M 7 ?_
 refine G.nk K33 ?_
 refine G.ret ?_
 refine G.newRow 174 2 ?_
 exact G.F [0] (.cell1 Tryz.results176 t70 6) ⟨s, false, none, 0, 0, [], rfl, rfl, Nat.zero_le _, .inl ⟨rfl, rfl, ⟨o, hpo, by rw [← h8]; rcases hF' with ⟨q1, q2, q3, q4⟩ | ⟨q1, _⟩; subst q2 q3; exact .inl ⟨rfl, rfl, rfl, q4⟩; cases q1⟩⟩, rfl⟩
 have e75 : ok = true := by simpa using hc75
 have hF' := hF; rw [e75] at hF'
 refine G.sk K31 ?_
 refine G.sr fun _ K34 => ?_
 refine G.V 77 (.lda t49 0 (vs := [.int .i64 lo, .int .i64 hi])) ?_
 refine G.V 78 (.fa f70_0 0) ?_
 refine G.sn 6 (.st t49 6) rfl ?_
 refine G.V 79 (.fa f70_4 5) ?_
 refine G.sn 6 (.st t3 6) rfl ?_
 refine G.V 80 (.fa f70_5 6) ?_
 refine G.sn 6 (.st t4 6) rfl ?_
 refine G.nk K34 ?_
 refine G.sr fun _ K35 => ?_
 refine G.M 82 ?_
 refine G.V 83 .nc ?_
 refine G.V 84 (.fa f127_0 0) ?_
 refine G.V 85 (.fa f84_0 0) ?_
 refine G.V 86 (.lda t23 7 (vs := [.int .i64 p.n, .int .i64 p.f, .int .i64 p.d, .int .i64 p.beat, .int .i64 p.rho, .int .i64 p.delay, .int .i64 p.jitter, .int .i64 p.eps, .int .i64 p.mu, .int .i64 p.hold, .int .i64 p.pulse, .int .i64 p.second])) ?_
 refine G.M 87 ?_
 refine G.C 88 [] [8]  e183 (a_Held p f hf a9 n9 c9 zs hl9 (by omega) (by have := Fused.len hF'; omega)) ?_
 rintro _ _ ⟨hv, rfl, ⟨xk, hK, hxk⟩, rfl⟩
 refine G.M 81 ?_
 refine G.V 89 (.ext (v := .int .i64 hv)) ?_
 refine G.V 90 (.ext (v := .bool true)) ?_
 refine G.V 91 (.fa f70_3 4) ?_
 refine G.sn 6 (.st t3 6) rfl ?_
 refine G.nk K35 ?_
 refine G.Z fun _ K36 => ?_
 refine G.moreR 3 (tabsE_sub hsub) (tabsE_subown hsub) (e := tabsE ts') ?_
 refine G.draw 14 [6] [1] [13] ?_
 refine D.V 0 93 1 .mv ?_
 refine D.V 1 94 3 .nc ?_
 refine D.V 2 95 7 (.fa f127_0 0) ?_
 refine D.V 3 96 15 (.fa f84_0 0) ?_
 refine D.V 5 98 47 (.fa f70_6 7) ?_
 refine D.V 7 100 175 .mv ?_
 refine D.T 4 97 191 (.lda t23 1 (vs := [.int .i64 p.n, .int .i64 p.f, .int .i64 p.d, .int .i64 p.beat, .int .i64 p.rho, .int .i64 p.delay, .int .i64 p.jitter, .int .i64 p.eps, .int .i64 p.mu, .int .i64 p.hold, .int .i64 p.pulse, .int .i64 p.second])) [6] [1] ?_
 refine D.T 6 99 255 (.ld t58 0) [6] [1] ?_
 refine D.C 8 101 511 [] [2, 8, 0, 5] [6] [1]  e184 (v_Adopt pw hpw p s l hl hnl a10 n10 c10 ts' hl10 (by omega) (fun x hx => hok x (hsub x hx))) ?_
 rintro _ _ ⟨a1, n1, c1, l1, ok1, rfl, hl1, hn1, rfl⟩
 refine D.V 9 92 1023 .mv ?_
 refine D.V 10 102 2047 (.ext (v := .slice a1 n1 c1)) ?_
 refine D.V 11 103 4095 (.ext (v := .bool ok1)) ?_
 refine D.V 12 104 8191 (.fa f70_6 7) ?_
 refine D.last 13 16383 7 (.st t58 7) rfl ?_
 dsimp only [List.set, sets, Value.cells, List.zipIdx, List.foldl]
 refine D.done ?_
 refine G.lessR ?_
 refine K36 _ _ _ ?_
 refine G.sr fun _ K37 => ?_
 refine G.V 105 (.lda t70 7 (vs := [.int .i64 lo, .int .i64 hi, .int .i64 s.time, .bool s.set, .int .i64 hv, .int .i64 0, .bool true, .slice a1 n1 c1, .int .i64 s.st, .int .i64 s.sn, .int .i64 s.life])) ?_
 refine G.sn 6 (.st t70 6) rfl ?_
 refine G.M 7 ?_
 refine G.nk K37 ?_
 exact G.ret (G.F [0] (.cell1 Tryz.results176 t70 6) ⟨{ s with lo := lo, hi := hi, held := hv, hops := 0, good := true, ta := a1, tl := n1, tc := c1 }, true, a1, n1, c1, l1, rfl, hl1, hn1, .inr ⟨rfl, ⟨o, lo, hi, xk, hpo, by rw [← h8]; exact hF', by rw [← h9]; exact hK, by rw [hxk]⟩, rfl, rfl, rfl⟩, rfl⟩)
theorem e185 : Is prog 185 := ⟨_, func185, by kernel_rfl, rfl⟩
theorem y107 : tbytes prog 107 = some (14, 120) := by kernel_rfl
theorem r_ChooseR (p : Par) (a : Option Addr) (n c : Nat) (l : List Ms) (hl : l.length = n) (hn : n ≤ 100000) : Spec prog 185 [.agg #[.int .i64 p.n, .int .i64 p.f, .int .i64 p.d, .int .i64 p.beat, .int .i64 p.rho, .int .i64 p.delay, .int .i64 p.jitter, .int .i64 p.eps, .int .i64 p.mu, .int .i64 p.hold, .int .i64 p.pulse, .int .i64 p.second], .slice a n c] [] [row a c 107 14 n (msl l)] (fun v Ln => ∃ fb mb, pickL p l = (fb, mb) ∧ v = .tuple #[.agg #[.int .i64 mb.kind, .int .i64 mb.src, .int .i64 mb.lo, .int .i64 mb.hi, .int .i64 mb.held, .int .i64 mb.hops, .bool mb.good, .bool mb.ref, .int .i64 mb.slo, .int .i64 mb.shi, .int .i64 mb.pulse, .int .i64 mb.st, .int .i64 mb.sn, .slice mb.ta mb.tl mb.tc], .bool fb] ∧ Ln = []) := by
 refine Spec.en func185 ntmps185 fun w0 => ?_
 refine G.sr fun _ K1 => ?_
 refine G.mk 2 .bx fun g2 => ?_
 refine G.mk 4 (.al z107) fun g4 => ?_
 refine G.M 5 ?_
 refine G.nk K1 ?_
 refine G.sr fun _ K2 => ?_
 refine G.V 10 (.build z107 p107) ?_
 refine G.mk 6 (.al z107) fun g6 => ?_
 refine G.sn 0 (.st t107 0) rfl ?_
 refine G.M 7 ?_
 refine G.nk K2 ?_
 refine G.Z fun _ K3 => ?_
 refine G.sr fun _ K4 => ?_
 refine G.M 11 ?_
 refine G.V 12 (.lenl s100) ?_
 refine G.M 13 ?_
 refine G.nk K4 ?_
 refine G.block ?_
 refine G.lpR (ι := {q : Nat × Bool × Ms // q.1 ≤ n ∧ pickL p (l.take q.1) = (q.2.1, q.2.2)}) (fun ⟨⟨k, fb, mb⟩, hj, hp⟩ => n - k) (fun ⟨⟨k, fb, mb⟩, hj, hp⟩ => [(2, .pointer (some ⟨g2, 0, none⟩)), (4, .pointer (some ⟨g4, 0, none⟩)), (6, .pointer (some ⟨g6, 0, none⟩)), (7, .bool fb), (11, .slice a n c), (12, .int .i64 (n : Int)), (13, .int .i64 (k : Int))]) (fun ⟨⟨k, fb, mb⟩, hj, hp⟩ => [blk g6 [.int .i64 mb.kind, .int .i64 mb.src, .int .i64 mb.lo, .int .i64 mb.hi, .int .i64 mb.held, .int .i64 mb.hops, .bool mb.good, .bool mb.ref, .int .i64 mb.slo, .int .i64 mb.shi, .int .i64 mb.pulse, .int .i64 mb.st, .int .i64 mb.sn, .slice mb.ta mb.tl mb.tc] 107, blk g4 [.int .i64 0, .int .i64 0, .int .i64 0, .int .i64 0, .int .i64 0, .int .i64 0, .bool false, .bool false, .int .i64 0, .int .i64 0, .int .i64 0, .int .i64 0, .int .i64 0, .slice none 0 0] 107, blk g2 (pC p []) 23]) ?_ ?_
 exact G.at ⟨⟨0, false, Ms.zero⟩, Nat.zero_le _, rfl⟩ (ts := [2, 4, 6, 7, 11, 12, 13]) rfl rfl rfl rfl
 rintro ⟨⟨k, fb, mb⟩, hj, hp⟩ _ K5
 try dsimp only at K5 ⊢
 refine G.sr fun _ K6 => ?_
 refine G.V 14 .bin ?_
 refine G.nk K6 ?_
 refine G.Z fun _ K7 => ?_
 refine G.cond rfl (fun hc14 => ?_) (fun hc14 => ?_)
 have hk : k < n := by have := of_decide_eq_true hc14; omega
 obtain ⟨x, hx⟩ : ∃ x, l[k]? = some x := ⟨_, List.getElem?_eq_getElem (by omega)⟩
 refine G.sk K7 ?_
 refine G.Z fun _ K8 => ?_
 refine G.block ?_
 refine G.Z fun _ K9 => ?_
 refine G.base 3 (show 0 < n by omega) fun b10 hb_ => ?_
 subst hb_
 refine G.region ?_
 refine G.V 15 (.is s100 k hk) ?_
 refine G.V 16 (.lda t107 3 (hv := msl_at hx)) ?_
 refine G.mk 9 (.al z107) fun g9 => ?_
 refine G.sn 0 (.st t107 0) rfl ?_
 refine G.nk K9 ?_
 refine G.sr fun _ K11 => ?_
 refine G.V 17 (.lda t23 3) ?_
 refine G.V 18 (.lda t107 0) ?_
 refine G.cp 19 [] []  e191 (r_Usable p x) ?_
 refine G.M 20 ?_
 cases hg12 : (usableB p x : Bool)
 refine G.O4 21 22 23 24 ?_
 refine G.O4 25 26 27 28 ?_
 refine G.V 29 .pick ?_
 refine G.nk K11 ?_
 refine G.no rfl ?_
 refine G.sk K8 ?_
 refine G.region ?_
 refine G.V 31 .bw ?_
 refine G.M 13 ?_
 refine G.nil ?_
 refine G.only [1, 1, 1] ?_
 refine K5 _ _ _ ?_
 exact G.ls ⟨⟨k + 1, fb, mb⟩, hk, by rw [pick_take hx, hp]; unfold pick1; simp [*]⟩
 refine G.M 21 ?_
 refine G.V 22 .not ?_
 refine G.M 23 ?_
 cases hg13 : (fb : Bool)
 refine G.O4 24 25 26 27 ?_
 refine G.V 28 .pick ?_
 refine G.V 29 .pick ?_
 refine G.nk K11 ?_
 refine G.yes rfl ?_
 refine G.region ?_
 refine G.V 30 (.lda t107 0) ?_
 refine G.sn 1 (.st t107 1) rfl ?_
 refine G.M 7 ?_
 refine G.nk K8 ?_
 refine G.region ?_
 refine G.V 31 .bw ?_
 refine G.M 13 ?_
 refine G.nil ?_
 refine G.only [1, 1, 1] ?_
 refine K5 _ _ _ ?_
 exact G.ls ⟨⟨k + 1, true, x⟩, hk, by rw [pick_take hx, hp]; unfold pick1; simp [*]⟩
 refine G.V 24 (.lda t107 0) ?_
 refine G.V 25 (.lda t107 1) ?_
 refine G.cp 26 [] []  e192 (r_better x mb) ?_
 refine G.V 27 .bin ?_
 refine G.V 28 .pick ?_
 refine G.V 29 .pick ?_
 refine G.nk K11 ?_
 refine G.cond rfl (fun hc29 => ?_) (fun hc29 => ?_)
 refine G.region ?_
 refine G.V 30 (.lda t107 0) ?_
 refine G.sn 1 (.st t107 1) rfl ?_
 refine G.M 7 ?_
 refine G.nk K8 ?_
 refine G.region ?_
 refine G.V 31 .bw ?_
 refine G.M 13 ?_
 refine G.nil ?_
 refine G.only [1, 1, 1] ?_
 refine K5 _ _ _ ?_
 exact G.ls ⟨⟨k + 1, true, x⟩, hk, by rw [pick_take hx, hp]; unfold pick1; simp [*]⟩
 refine G.sk K8 ?_
 refine G.region ?_
 refine G.V 31 .bw ?_
 refine G.M 13 ?_
 refine G.nil ?_
 refine G.only [1, 1, 1] ?_
 refine K5 _ _ _ ?_
 exact G.ls ⟨⟨k + 1, true, mb⟩, hk, by rw [pick_take hx, hp]; unfold pick1; simp [*]⟩
 have hkn : n = k := by have := of_decide_eq_false hc14; omega
 subst hkn
 rw [show l.take n = l from by rw [← hl]; exact List.take_length] at hp
 refine G.exit ?_
 refine K3 _ _ _ ?_
 refine G.sr fun _ K14 => ?_
 refine G.V 32 (.lda t107 0) ?_
 refine G.M 33 ?_
 refine G.sn 1 (.st t107 1) rfl ?_
 refine G.M 5 ?_
 refine G.nk K14 ?_
 exact G.ret (G.F [] (.cell1 Tryz.results185 t107 1) ⟨fb, mb, hp, rfl, rfl⟩)
def fitH (h : Hr) : Bool := !decide (h.m.lo > h.m.hi)
def wayM (p : Par) (h : Hr) : Ms := { h.m with lo := (wayV p h.m.lo h.m.hi h.age).1, hi := (wayV p h.m.lo h.m.hi h.age).2 }
def followL (p : Par) (hs : List Hr) : List Ms := (hs.filter fitH).map (wayM p)
theorem follow_take {p : Par} {o : List Hr} {k : Nat} {x : Hr} (h : o[k]? = some x) : followL p (o.take (k + 1)) = followL p (o.take k) ++ (if fitH x = true then [wayM p x] else []) := by
 unfold followL
 rw [List.take_add_one, h, List.filter_append, List.map_append]
 cases hr : fitH x <;> simp [hr]
theorem follow_len (p : Par) (o : List Hr) : (followL p o).length ≤ o.length := by unfold followL; rw [List.length_map]; exact List.length_filter_le _ _
theorem follow_mem {p : Par} {hs : List Hr} {m : Ms} (h : m ∈ followL p hs) : ∃ x ∈ hs, fitH x = true ∧ m = wayM p x := by
 obtain ⟨x, hx, rfl⟩ := List.mem_map.1 h
 exact ⟨x, (List.mem_filter.1 hx).1, (List.mem_filter.1 hx).2, rfl⟩
theorem pick_mem {p : Par} {l : List Ms} {m : Ms} (h : pickL p l = (true, m)) : m ∈ l ∧ usableB p m = true := by
 have key : ∀ (l : List Ms) (b : Bool × Ms), (l.foldl (pick1 p) b = b) ∨ ((l.foldl (pick1 p) b).2 ∈ l ∧ usableB p (l.foldl (pick1 p) b).2 = true) := by
  intro l
  induction l with
  | nil => intro b; exact .inl rfl
  | cons x l ih =>
   intro b
   rw [List.foldl_cons]
   rcases ih (pick1 p b x) with q | ⟨q1, q2⟩
   ·rw [q]
    unfold pick1
    split
    ·next h => exact .inr ⟨List.mem_cons_self .., by simp at h; exact h.1⟩
    ·exact .inl rfl
   ·exact .inr ⟨List.mem_cons_of_mem _ q1, q2⟩
 have := key l (false, Ms.zero)
 unfold pickL at h
 rw [h] at this
 rcases this with q | q
 ·cases q
 ·exact q
theorem msl_snoc (o : List Ms) (x : Ms) : msl (o ++ [x]) = msl o ++ [.int .i64 x.kind, .int .i64 x.src, .int .i64 x.lo, .int .i64 x.hi, .int .i64 x.held, .int .i64 x.hops, .bool x.good, .bool x.ref, .int .i64 x.slo, .int .i64 x.shi, .int .i64 x.pulse, .int .i64 x.st, .int .i64 x.sn, .slice x.ta x.tl x.tc] := by unfold msl; rw [List.flatMap_append]; simp [Ms.cells]
structure FollowR (p : Par) (s : Sta) (hs : List Hr) (s' : Sta) : Prop where
 ex : ∃ m, pickL p (followL p hs) = (true, m) ∧ s' = { s with lo := m.lo, hi := m.hi, hops := IntKind.i64.wrap (m.hops + 1), good := true, held := moreV m.held, ta := s'.ta, tl := s'.tl, tc := s'.tc }
def TabAt (s : Sta) (ts : List Tb) (s' : Sta) : Prop := (s'.ta = s.ta ∧ s'.tl = s.tl ∧ s'.tc = s.tc) ∨ ∃ y ∈ ts, y.a = s'.ta ∧ y.n = s'.tl ∧ y.c = s'.tc
theorem n_follow (g tb : Nat) (p : Par) (s : Sta) (me : Int) (l : List (Int × Int)) (hl : l.length = s.tl) (hnl : s.tl ≤ 1000) (ha : Option Addr) (hn hc : Nat) (hs : List Hr) (hhl : hs.length = hn) (hhn : hn ≤ 100000) (ts : List Tb) (hok : ∀ x ∈ ts, TbOk x) (hts : ∀ h ∈ hs, ∃ x ∈ ts, x.a = h.m.ta ∧ x.n = h.m.tl ∧ x.c = h.m.tc) : Spec prog 177 [.pointer (some ⟨g, 0, none⟩), .slice ha hn hc, .agg #[.int .i64 s.lo, .int .i64 s.hi, .int .i64 s.time, .bool s.set, .int .i64 s.held, .int .i64 s.hops, .bool s.good, .slice s.ta s.tl s.tc, .int .i64 s.st, .int .i64 s.sn, .int .i64 s.life]] [] [blk g (pC p [.int .i64 s.lo, .int .i64 s.hi, .int .i64 s.time, .bool s.set, .int .i64 s.held, .int .i64 s.hops, .bool s.good, .slice s.ta s.tl s.tc, .int .i64 s.st, .int .i64 s.sn, .int .i64 s.life, .int .i64 me, .pointer (some ⟨tb, 0, none⟩)]) 127, row s.ta s.tc 174 2 s.tl (spl l), row ha hc 138 15 hn (hrl hs), tabsE ts] (fun v Ln => ∃ s' ok, v = .tuple #[.agg #[.int .i64 s'.lo, .int .i64 s'.hi, .int .i64 s'.time, .bool s'.set, .int .i64 s'.held, .int .i64 s'.hops, .bool s'.good, .slice s'.ta s'.tl s'.tc, .int .i64 s'.st, .int .i64 s'.sn, .int .i64 s'.life], .bool ok] ∧ ((ok = false ∧ s' = s ∧ (pickL p (followL p hs)).1 = false) ∨ (ok = true ∧ FollowR p s hs s' ∧ TabAt s ts s')) ∧ Ln = []) := by
 refine Spec.en func177 ntmps177 fun w0 => ?_
 refine G.sr fun _ K1 => ?_
 refine G.mk 5 .bx fun g5 => ?_
 refine G.mk 6 (.al z70) fun g6 => ?_
 refine G.M 7 ?_
 refine G.nk K1 ?_
 refine G.sr fun _ K2 => ?_
 refine G.M 8 ?_
 refine G.nil ?_
 refine G.newRow 107 14 ?_
 refine K2 _ _ _ ?_
 refine G.Z fun _ K3 => ?_
 refine G.sr fun _ K4 => ?_
 refine G.M 14 ?_
 refine G.V 15 (.lenl s101) ?_
 refine G.M 16 ?_
 refine G.nk K4 ?_
 refine G.block ?_
 refine G.lpR (ι := {q : Nat × Option Addr × Nat × Nat × List Ms // q.1 ≤ hn ∧ q.2.2.2.2.length = q.2.2.2.1 ∧ q.2.2.2.2 = followL p (hs.take q.1)}) (fun ⟨⟨k, a8, c8, n8, ms⟩, hj, hl8, h8⟩ => hn - k) (fun ⟨⟨k, a8, c8, n8, ms⟩, hj, hl8, h8⟩ => [(0, .pointer (some ⟨g, 0, none⟩)), (5, .pointer (some ⟨g5, 0, none⟩)), (6, .pointer (some ⟨g6, 0, none⟩)), (8, .slice a8 n8 c8), (14, .slice ha hn hc), (15, .int .i64 (hn : Int)), (16, .int .i64 (k : Int))]) (fun ⟨⟨k, a8, c8, n8, ms⟩, hj, hl8, h8⟩ => [row a8 c8 107 14 n8 (msl ms), blk g6 [.int .i64 0, .int .i64 0, .int .i64 0, .bool false, .int .i64 0, .int .i64 0, .bool false, .slice none 0 0, .int .i64 0, .int .i64 0, .int .i64 0] 70, blk g5 [.int .i64 s.lo, .int .i64 s.hi, .int .i64 s.time, .bool s.set, .int .i64 s.held, .int .i64 s.hops, .bool s.good, .slice s.ta s.tl s.tc, .int .i64 s.st, .int .i64 s.sn, .int .i64 s.life] 70]) ?_ ?_
 exact G.at ⟨(0, none, 0, 0, []), Nat.zero_le _, rfl, rfl⟩ (ts := [0, 5, 6, 8, 14, 15, 16]) rfl rfl rfl rfl
 rintro ⟨⟨k, a8, c8, n8, ms⟩, hj, hl8, h8⟩ _ K5
 try dsimp only at K5 ⊢
 try dsimp only at hj hl8 h8
 have hn8k : n8 ≤ k := by have := follow_len p (hs.take k); rw [← h8, List.length_take] at this; omega
 refine G.sr fun _ K6 => ?_
 refine G.V 17 .bin ?_
 refine G.nk K6 ?_
 refine G.Z fun _ K7 => ?_
 refine G.cond rfl (fun hc17 => ?_) (fun hc17 => ?_)
 have hk : k < hn := by have := of_decide_eq_true hc17; omega
 obtain ⟨x, hx⟩ : ∃ x, hs[k]? = some x := ⟨_, List.getElem?_eq_getElem (by omega)⟩
 have dhc17 := of_decide_eq_true hc17
 refine G.sk K7 ?_
 refine G.Z fun _ K8 => ?_
 refine G.block ?_
 refine G.Z fun _ K9 => ?_
 refine G.base 5 (show 0 < hn by omega) fun b10 hb_ => ?_
 subst hb_
 refine G.region ?_
 refine G.V 18 (.is s101 k hk) ?_
 refine G.V 19 (.lda t138 5 (hv := hrl_at hx)) ?_
 refine G.mk 10 (.al z138) fun g10 => ?_
 refine G.sn 0 (.st t138 0) rfl ?_
 refine G.nk K9 ?_
 refine G.sr fun _ K11 => ?_
 refine G.V 20 (.fa f138_0 0) ?_
 refine G.V 21 (.lda t107 0 (vs := [.int .i64 x.m.kind, .int .i64 x.m.src, .int .i64 x.m.lo, .int .i64 x.m.hi, .int .i64 x.m.held, .int .i64 x.m.hops, .bool x.m.good, .bool x.m.ref, .int .i64 x.m.slo, .int .i64 x.m.shi, .int .i64 x.m.pulse, .int .i64 x.m.st, .int .i64 x.m.sn, .slice x.m.ta x.m.tl x.m.tc])) ?_
 refine G.mk 11 (.al z107) fun g11 => ?_
 refine G.sn 0 (.st t107 0) rfl ?_
 refine G.nk K11 ?_
 refine G.sr fun _ K12 => ?_
 refine G.V 22 (.fa f107_2 2) ?_
 refine G.V 23 (.lda t49 0 (vs := [.int .i64 x.m.lo, .int .i64 x.m.hi])) ?_
 refine G.cp 24 [] []  e82 (sp_Empty x.m.lo x.m.hi) ?_
 refine G.V 25 .not ?_
 refine G.nk K12 ?_
 cases hg13 : (decide (x.m.lo > x.m.hi) : Bool)
 have dhg13 := of_decide_eq_false hg13
 refine G.yes rfl ?_
 refine G.Z fun _ K14 => ?_
 refine G.draw 12 [1] [0] [] ?_
 refine D.V 0 26 1 .mv ?_
 refine D.V 1 27 3 .nc ?_
 refine D.V 2 28 7 (.fa f127_0 0) ?_
 refine D.V 3 29 15 (.fa f84_0 0) ?_
 refine D.V 5 31 47 (.fa f107_2 2) ?_
 refine D.V 7 33 175 (.fa f138_1 14) ?_
 refine D.T 4 30 191 (.lda t23 1 (vs := [.int .i64 p.n, .int .i64 p.f, .int .i64 p.d, .int .i64 p.beat, .int .i64 p.rho, .int .i64 p.delay, .int .i64 p.jitter, .int .i64 p.eps, .int .i64 p.mu, .int .i64 p.hold, .int .i64 p.pulse, .int .i64 p.second])) [1] [0] ?_
 refine D.T 8 34 447 (.ld t3 0) [1] [0] ?_
 refine D.one 6 32 511 (.lda t49 0 (vs := [.int .i64 x.m.lo, .int .i64 x.m.hi])) [1] [0] ?_
 refine D.C 9 35 1023 [] [] [1] [0]  e116 (c_Way p x.m.lo x.m.hi x.age) ?_
 rintro _ _ ⟨rfl, rfl⟩
 refine D.V 10 36 2047 (.fa f107_2 2) ?_
 refine D.sto 11 4095 0 (.st t49 0) [1] [0]  rfl ?_
 dsimp only [List.set, sets, Value.cells, List.zipIdx, List.foldl]
 refine D.done ?_
 refine K14 _ _ _ ?_
 refine G.region ?_
 refine G.M 37 ?_
 refine G.V 38 (.lda t107 0 (vs := [.int .i64 x.m.kind, .int .i64 x.m.src, .int .i64 ((wayV p x.m.lo x.m.hi x.age).1), .int .i64 ((wayV p x.m.lo x.m.hi x.age).2), .int .i64 x.m.held, .int .i64 x.m.hops, .bool x.m.good, .bool x.m.ref, .int .i64 x.m.slo, .int .i64 x.m.shi, .int .i64 x.m.pulse, .int .i64 x.m.st, .int .i64 x.m.sn, .slice x.m.ta x.m.tl x.m.tc])) ?_
 refine G.row 39 (.one s100 z107 [.int .i64 x.m.kind, .int .i64 x.m.src, .int .i64 ((wayV p x.m.lo x.m.hi x.age).1), .int .i64 ((wayV p x.m.lo x.m.hi x.age).2), .int .i64 x.m.held, .int .i64 x.m.hops, .bool x.m.good, .bool x.m.ref, .int .i64 x.m.slo, .int .i64 x.m.shi, .int .i64 x.m.pulse, .int .i64 x.m.st, .int .i64 x.m.sn, .slice x.m.ta x.m.tl x.m.tc]) fun g39 => ?_
 refine G.chg 40 3 (.app s100 z107 y107 3 0 (show n8 + 1 ≤ 1048576 by omega)) ?_
 rintro _ _ ⟨a15, c16, rfl, rfl⟩
 dsimp only [List.set]
 refine G.M 8 ?_
 refine G.nk K8 ?_
 refine G.region ?_
 refine G.V 41 .bw ?_
 refine G.M 16 ?_
 refine G.nil ?_
 refine G.only [3, 3, 3] ?_
 refine K5 _ _ _ ?_
 exact G.ls ⟨(k + 1, a15, c16, n8 + 1, ms ++ [wayM p x]), hk, by simp [hl8], by rw [follow_take hx, ← h8]; clear h8 hts hok; unfold fitH; simp [*]⟩ (hL := (by first | rfl | (dsimp only; rw [msl_snoc]; rfl) | (dsimp only; rw [msl_snoc])))
 have dhg13 := of_decide_eq_true hg13
 refine G.no rfl ?_
 refine G.sk K8 ?_
 refine G.region ?_
 refine G.V 41 .bw ?_
 refine G.M 16 ?_
 refine G.nil ?_
 refine G.only [2, 2, 2] ?_
 refine K5 _ _ _ ?_
 exact G.ls ⟨(k + 1, a8, c8, n8, ms), hk, by exact hl8, by rw [follow_take hx, ← h8]; clear h8 hts hok; unfold fitH; simp [*]⟩ (hL := (by first | rfl | (dsimp only; rw [msl_snoc]; rfl) | (dsimp only; rw [msl_snoc])))
 have hkn : hn = k := by have := of_decide_eq_false hc17; omega
 subst hkn
 rw [show hs.take hn = hs from by rw [← hhl]; exact List.take_length] at h8
 have dhc17 := of_decide_eq_false hc17
 refine G.exit ?_
 refine K3 _ _ _ ?_
 refine G.sr fun _ K17 => ?_
 refine G.M 43 ?_
 refine G.V 44 .nc ?_
 refine G.V 45 (.fa f127_0 0) ?_
 refine G.V 46 (.fa f84_0 0) ?_
 refine G.V 47 (.lda t23 3 (vs := [.int .i64 p.n, .int .i64 p.f, .int .i64 p.d, .int .i64 p.beat, .int .i64 p.rho, .int .i64 p.delay, .int .i64 p.jitter, .int .i64 p.eps, .int .i64 p.mu, .int .i64 p.hold, .int .i64 p.pulse, .int .i64 p.second])) ?_
 refine G.M 48 ?_
 refine G.C 49 [] [4]  e185 (r_ChooseR p a8 n8 c8 ms hl8 (by omega)) ?_
 rintro _ _ ⟨fb, mb, hpk, rfl, rfl⟩
 refine G.M 42 ?_
 refine G.V 50 (.ext (v := .agg #[.int .i64 mb.kind, .int .i64 mb.src, .int .i64 mb.lo, .int .i64 mb.hi, .int .i64 mb.held, .int .i64 mb.hops, .bool mb.good, .bool mb.ref, .int .i64 mb.slo, .int .i64 mb.shi, .int .i64 mb.pulse, .int .i64 mb.st, .int .i64 mb.sn, .slice mb.ta mb.tl mb.tc])) ?_
 refine G.V 51 (.ext (v := .bool fb)) ?_
 refine G.mk 12 (.al z107) fun g12 => ?_
 refine G.sn 0 (.st t107 0) rfl ?_
 refine G.M 13 ?_
 refine G.nk K17 ?_
 refine G.Z fun _ K18 => ?_
 refine G.sr fun _ K19 => ?_
 refine G.M 52 ?_
 refine G.V 53 .not ?_
 refine G.nk K19 ?_
 refine G.cond rfl (fun hc53 => ?_) (fun hc53 => ?_)
 have e53 : fb = false := by simpa using hc53
 refine G.sr fun _ K20 => ?_
 refine G.V 54 (.lda t70 3 (vs := [.int .i64 s.lo, .int .i64 s.hi, .int .i64 s.time, .bool s.set, .int .i64 s.held, .int .i64 s.hops, .bool s.good, .slice s.ta s.tl s.tc, .int .i64 s.st, .int .i64 s.sn, .int .i64 s.life])) ?_
 refine G.sn 2 (.st t70 2) rfl ?_
 refine G.M 7 ?_
 refine G.nk K20 ?_
 exact G.ret (G.F [] (.cell1 Tryz.results177 t70 2) ⟨s, false, rfl, .inl ⟨rfl, rfl, by rw [← h8, hpk, e53]⟩, rfl⟩)
 have e53 : fb = true := by simpa using hc53
 obtain ⟨h0, hm0, _, he0⟩ := follow_mem (p := p) (hs := hs) (m := mb) (by rw [← h8]; exact (pick_mem (by rw [hpk, e53])).1)
 obtain ⟨y, hy, hya, hyn, hyc⟩ := hts h0 hm0
 replace hya : y.a = mb.ta := by rw [hya, he0]; rfl
 replace hyn : y.n = mb.tl := by rw [hyn, he0]; rfl
 replace hyc : y.c = mb.tc := by rw [hyc, he0]; rfl
 refine G.sk K18 ?_
 refine G.Z fun _ K21 => ?_
 refine G.draw 16 [0] [] [] ?_
 refine D.V 0 55 1 (.fa f107_2 2) ?_
 refine D.V 2 57 5 (.fa f107_4 5) ?_
 refine D.V 5 60 37 (.fa f107_3 4) ?_
 refine D.T 1 56 39 (.lda t49 0 (vs := [.int .i64 mb.lo, .int .i64 mb.hi])) [0] [] ?_
 refine D.V 8 63 295 (.fa f70_0 0) ?_
 refine D.T 3 58 303 (.ld t3 0) [0] [] ?_
 refine D.V 4 59 319 .bin ?_
 refine D.T 6 61 383 (.ld t3 0) [0] [] ?_
 refine D.C 7 62 511 [] [] [0] []  e118 (a_More mb.held) ?_
 rintro _ _ ⟨rfl, rfl⟩
 refine D.sto 9 1023 3 (.st t49 3) [0] []  rfl ?_
 dsimp only [List.set, sets, Value.cells, List.zipIdx, List.foldl]
 refine D.V 10 64 2047 (.fa f70_4 5) ?_
 refine D.sto 11 4095 3 (.st t3 3) [0] []  rfl ?_
 dsimp only [List.set, sets, Value.cells, List.zipIdx, List.foldl]
 refine D.V 12 65 8191 (.fa f70_5 6) ?_
 refine D.sto 13 16383 3 (.st t4 3) [0] []  rfl ?_
 dsimp only [List.set, sets, Value.cells, List.zipIdx, List.foldl]
 refine D.V 14 66 32767 (.fa f70_3 4) ?_
 refine D.sto 15 65535 3 (.st t3 3) [0] []  rfl ?_
 dsimp only [List.set, sets, Value.cells, List.zipIdx, List.foldl]
 refine D.done ?_
 refine K21 _ _ _ ?_
 refine G.Z fun _ K22 => ?_
 refine G.sr fun _ K23 => ?_
 refine G.V 67 (.fa f107_10 13) ?_
 refine G.V 68 (.ld t58 0) ?_
 refine G.moreR 3 (e := row mb.ta mb.tc 174 2 mb.tl (spl y.l)) (fun w q => by rw [← hya, ← hyn, ← hyc]; exact tabsE_mem hy w q) (by rw [← hya, ← hyn, ← hyc]; exact tabsE_own hy) ?_
 refine G.cp 69 [] [0]  e85 ((l_Good mb.ta mb.tl mb.tc y.l (by rw [(hok y hy).1, hyn]) (by have := (hok y hy).n; omega)).vw) ?_
 refine G.lessR ?_
 refine G.nk K23 ?_
 refine G.cond rfl (fun hc69 => ?_) (fun hc69 => ?_)
 refine G.region ?_
 refine G.V 70 (.fa f107_10 13) ?_
 refine G.V 71 (.ld t58 0) ?_
 refine G.V 72 (.fa f70_6 7) ?_
 refine G.sn 3 (.st t58 3) rfl ?_
 refine G.nk K22 ?_
 refine G.sr fun _ K24 => ?_
 refine G.V 73 (.lda t70 3 (vs := [.int .i64 mb.lo, .int .i64 mb.hi, .int .i64 s.time, .bool s.set, .int .i64 (moreV mb.held), .int .i64 (IntKind.i64.wrap (mb.hops + 1)), .bool true, .slice mb.ta mb.tl mb.tc, .int .i64 s.st, .int .i64 s.sn, .int .i64 s.life])) ?_
 refine G.sn 2 (.st t70 2) rfl ?_
 refine G.M 7 ?_
 refine G.nk K24 ?_
 exact G.ret (G.F [] (.cell1 Tryz.results177 t70 2) ⟨{ s with lo := mb.lo, hi := mb.hi, hops := IntKind.i64.wrap (mb.hops + 1), good := true, held := moreV mb.held, ta := mb.ta, tl := mb.tl, tc := mb.tc }, true, rfl, .inr ⟨rfl, ⟨mb, by rw [← h8, hpk, e53], rfl⟩, .inr ⟨y, hy, hya, hyn, hyc⟩⟩, rfl⟩)
 refine G.sk K22 ?_
 refine G.sr fun _ K25 => ?_
 refine G.V 73 (.lda t70 3 (vs := [.int .i64 mb.lo, .int .i64 mb.hi, .int .i64 s.time, .bool s.set, .int .i64 (moreV mb.held), .int .i64 (IntKind.i64.wrap (mb.hops + 1)), .bool true, .slice s.ta s.tl s.tc, .int .i64 s.st, .int .i64 s.sn, .int .i64 s.life])) ?_
 refine G.sn 2 (.st t70 2) rfl ?_
 refine G.M 7 ?_
 refine G.nk K25 ?_
 exact G.ret (G.F [] (.cell1 Tryz.results177 t70 2) ⟨{ s with lo := mb.lo, hi := mb.hi, hops := IntKind.i64.wrap (mb.hops + 1), good := true, held := moreV mb.held }, true, rfl, .inr ⟨rfl, ⟨mb, by rw [← h8, hpk, e53], rfl⟩, .inl ⟨rfl, rfl, rfl⟩⟩, rfl⟩)
theorem e174 : Is prog 174 := ⟨_, func174, by kernel_rfl, rfl⟩
theorem e175 : Is prog 175 := ⟨_, func175, by kernel_rfl, rfl⟩
theorem e176 : Is prog 176 := ⟨_, func176, by kernel_rfl, rfl⟩
theorem e177 : Is prog 177 := ⟨_, func177, by kernel_rfl, rfl⟩
theorem e178 : Is prog 178 := ⟨_, func178, by kernel_rfl, rfl⟩
theorem e179 : Is prog 179 := ⟨_, func179, by kernel_rfl, rfl⟩
theorem f107_9 : tfield prog 107 9 = some 11 := by kernel_rfl
theorem q123 : tptr prog 123 = true := by kernel_rfl
def NBw (l : List Nb) : Prop := NBd l ∧ l.length ≤ 16
theorem ageN_bd {l : List Nb} (h : NBd l) (k : Int) : 0 ≤ ageN k l ∧ ageN k l ≤ 1073741824 := by
 unfold ageN
 cases hg : getN k l with
 | none => simp
 | some x => exact (h.b x (List.mem_of_find?_eq_some hg)).1
theorem hear_bd {l : List Nb} (h : NBw l) (k : Int) (c : Nat) : NBw (hearL k l c).1 := by
 have ha := ageN_bd h.1 k
 unfold hearL
 split
 ·next he =>
  unfold setN
  split
  ·refine ⟨⟨fun x hx => ?_⟩, by simpa using h.2⟩
   obtain ⟨y, hy, rfl⟩ := List.mem_map.1 hx
   have := h.1.b y hy
   split
   ·exact ⟨ha, by dsimp only; omega⟩
   ·exact this
  ·next hn =>
   refine ⟨⟨fun x hx => ?_⟩, ?_⟩
   ·rcases List.mem_append.1 hx with q | q
    ·exact h.1.b x q
    ·simp at q; subst q; exact ⟨ha, by dsimp only; omega⟩
   ·have hf : ¬ (hasN k l = false ∧ l.length = 16) := by
     intro q
     unfold hearE at he
     rw [if_pos q] at he
     split at he <;> simp at he
    have := h.2
    have : l.length ≠ 16 := fun q => hf ⟨by simpa using hn, q⟩
    simp; omega
 ·exact h
theorem known_bd {me : Int} {l : List Nb} {c : Nat} (h : NBw l) (hs : List Hr) : NBw (knownL me hs l c).2.1 := by
 have key : ∀ (hs : List Hr) (st : List Hr × List Nb × Nat), NBw st.2.1 → NBw (hs.foldl (known1 me) st).2.1 := by
  intro hs
  induction hs with
  | nil => intro st h; exact h
  | cons x hs ih =>
   intro st h
   refine ih _ ?_
   unfold known1
   split
   ·exact h
   ·exact hear_bd h _ _
 exact key hs _ h
theorem tick_bd {l : List Nb} (h : NBw l) : NBw (tickL l) := by
 refine ⟨⟨fun x hx => ?_⟩, ?_⟩
 ·obtain ⟨y, hy, rfl⟩ := List.mem_map.1 hx
  have := h.1.b y (List.mem_filter.1 hy).1
  unfold tick1 mn
  split
  ·dsimp only; split <;> omega
  ·split
   ·dsimp only; split <;> split <;> omega
   ·dsimp only; split <;> omega
 ·unfold tickL
  rw [List.length_map]
  exact Nat.le_trans (List.length_filter_le _ _) h.2
theorem tick_ok {l : List Nb} {c : Nat} (h : NOk l c) : NOk (tickL l) c := by
 unfold tickL
 have hk : ((l.filter fun x => !decide (x.quiet > 2)).map tick1).map (·.key) = (l.filter fun x => !decide (x.quiet > 2)).map (·.key) := by rw [List.map_map]; exact List.map_congr_left fun x _ => (tick1_key x).1
 have hb : ((l.filter fun x => !decide (x.quiet > 2)).map tick1).map (·.born) = (l.filter fun x => !decide (x.quiet > 2)).map (·.born) := by rw [List.map_map]; exact List.map_congr_left fun x _ => (tick1_key x).2
 refine ⟨?_, ?_, ?_⟩
 ·rw [hk]; exact List.Sublist.nodup (List.Sublist.map _ (List.filter_sublist ..)) h.kn
 ·rw [hb]; exact List.Sublist.nodup (List.Sublist.map _ (List.filter_sublist ..)) h.bn
 ·intro x hx
  obtain ⟨y, hy, rfl⟩ := List.mem_map.1 hx
  rw [(tick1_key y).2]
  exact h.bl y (List.mem_filter.1 hy).1
theorem known_sub (me : Int) (l : List Nb) (c : Nat) (hs : List Hr) (x : Hr) (h : x ∈ (knownL me hs l c).1) : x ∈ hs := by
 have key : ∀ (hs : List Hr) (st : List Hr × List Nb × Nat), x ∈ (hs.foldl (known1 me) st).1 → x ∈ st.1 ∨ x ∈ hs := by
  intro hs
  induction hs with
  | nil => intro st h; exact .inl h
  | cons y hs ih =>
   intro st h
   rcases ih _ h with q | q
   ·unfold known1 at q
    split at q
    ·exact .inl q
    ·dsimp only at q
     split at q
     ·rcases List.mem_append.1 q with q | q
      ·exact .inl q
      ·simp at q; subst q; exact .inr (List.mem_cons_self ..)
     ·exact .inl q
   ·exact .inr (List.mem_cons_of_mem _ q)
 rcases key hs _ h with q | q
 ·cases q
 ·exact q
def lostS (p : Par) (s : Sta) (ticks : Int) : Sta := { s with lo := addL [s.lo, sbC ticks p.rho], hi := addL [s.hi, addL [ticks, p.rho]], held := moreV s.held, hops := p.d + 1, good := false }
def NextN (p : Par) (f : Nat) (s : Sta) (ticks : Int) (o : List Hr) (x : Sta) : Prop := CoreR p f s o x ∨ (NoCore p f o ∧ FollowR p s o x) ∨ (NoCore p f o ∧ (pickL p (followL p o)).1 = false ∧ x = lostS p s ticks)
structure NodeR (p : Par) (f : Nat) (me : Int) (s : Sta) (ticks : Int) (o : List Hr) (s' : Sta) (m : Ms) : Prop where
 ex : ∃ x, NextN p f s ticks o x ∧ StepR p s ticks x s'
 say : SayR s' 2 me false 0 0 m
theorem follow_tab {p : Par} {s s2 : Sta} {o : List Hr} {ok : Bool} {ts : List Tb} {y0 : Tb} {A : Prop} (h : (ok = false ∧ s2 = s ∧ A) ∨ (ok = true ∧ FollowR p s o s2 ∧ TabAt s ts s2)) (hy0 : y0 ∈ ts) (e0a : y0.a = s.ta) (e0n : y0.n = s.tl) (e0c : y0.c = s.tc) : ∃ y ∈ ts, y.a = s2.ta ∧ y.n = s2.tl ∧ y.c = s2.tc := by
 rcases h with ⟨_, e, _⟩ | ⟨_, _, ⟨e1, e2, e3⟩ | q⟩
 ·rw [e]; exact ⟨y0, hy0, e0a, e0n, e0c⟩
 ·exact ⟨y0, hy0, by rw [e1, e0a], by rw [e2, e0n], by rw [e3, e0c]⟩
 ·exact q
def Told2 (p : Par) (f : Nat) (s : Sta) (o : List Hr) (ok : Bool) (x : Sta) : Prop := (ok = true → CoreR p f s o x ∨ (NoCore p f o ∧ FollowR p s o x)) ∧ (ok = false → NoCore p f o ∧ (pickL p (followL p o)).1 = false)
theorem n_Beat (pw : List Int) (hpw : pw.length = 20) (g tb r clock : Nat) (p : Par) (f : Nat) (hf : p.f = (f : Int)) (hp7 : p.n ≤ 7) (hd1 : p.d ≤ 16) (hd0 : 0 ≤ p.d) (s : Sta) (me ticks : Int) (l : List Nb) (hN : NOk l clock) (hB : NBw l) (ha : Option Addr) (hn hc : Nat) (hs : List Hr) (hhl : hs.length = hn) (hhn : hn ≤ 100000) (rf : Bool) (rd : Int) (gv : Bool) (ga : Option Addr) (gn gc : Nat) (ts : List Tb) (hok : ∀ x ∈ ts, TbOk x) (hts : ∀ h ∈ hs, ∃ x ∈ ts, x.a = h.m.ta ∧ x.n = h.m.tl ∧ x.c = h.m.tc) (hown : ∃ x ∈ ts, x.a = s.ta ∧ x.n = s.tl ∧ x.c = s.tc) : Spec prog 173 [.pointer (some ⟨g, 0, none⟩), .agg #[.int .i64 ticks, .slice ha hn hc, .bool rf, .int .i64 rd, .bool gv, .slice ga gn gc]] [blk g (pC p [.int .i64 s.lo, .int .i64 s.hi, .int .i64 s.time, .bool s.set, .int .i64 s.held, .int .i64 s.hops, .bool s.good, .slice s.ta s.tl s.tc, .int .i64 s.st, .int .i64 s.sn, .int .i64 s.life, .int .i64 me, .pointer (some ⟨tb, 0, none⟩)]) 127, nmap r l clock] [blk tb [.map (some r)] 193, row ha hc 138 15 hn (hrl hs), tabsE ts, blk 2 (u64s pw) 319] (fun v Ln => ∃ s' m l2, v = .agg #[.int .i64 m.kind, .int .i64 m.src, .int .i64 m.lo, .int .i64 m.hi, .int .i64 m.held, .int .i64 m.hops, .bool m.good, .bool m.ref, .int .i64 m.slo, .int .i64 m.shi, .int .i64 m.pulse, .int .i64 m.st, .int .i64 m.sn, .slice m.ta m.tl m.tc] ∧ NodeR p f me s ticks (knownL me hs l clock).1 s' m ∧ l2.length = s'.tl ∧ goodB l2 = true ∧ Ln = [blk g (pC p [.int .i64 s'.lo, .int .i64 s'.hi, .int .i64 s'.time, .bool s'.set, .int .i64 s'.held, .int .i64 s'.hops, .bool s'.good, .slice s'.ta s'.tl s'.tc, .int .i64 s'.st, .int .i64 s'.sn, .int .i64 s'.life, .int .i64 me, .pointer (some ⟨tb, 0, none⟩)]) 127, row s'.ta s'.tc 174 2 s'.tl (spl l2), row m.ta m.tc 174 2 m.tl (spl l2), nmap r (tickL (knownL me hs l clock).2.1) (knownL me hs l clock).2.2]) := by
 refine Spec.en func173 ntmps173 fun w0 => ?_
 refine G.sr fun _ K1 => ?_
 refine G.mk 3 .bx fun g3 => ?_
 refine G.mk 4 (.al z107) fun g4 => ?_
 refine G.nk K1 ?_
 refine G.Z fun _ K2 => ?_
 refine G.sr fun _ K3 => ?_
 refine G.M 10 ?_
 refine G.V 11 (.isnil q123) ?_
 refine G.nk K3 ?_
 refine G.no rfl ?_
 refine G.sk K2 ?_
 refine G.Z fun _ K4 => ?_
 obtain ⟨y0, hy0, e0a, e0n, e0c⟩ := hown
 refine G.moreR 2 (e := row s.ta s.tc 174 2 s.tl (spl y0.l)) (fun w q => by rw [← e0a, ← e0n, ← e0c]; exact tabsE_mem hy0 w q) (by rw [← e0a, ← e0n, ← e0c]; exact tabsE_own hy0) ?_
 refine G.region ?_
 refine G.M 13 ?_
 refine G.V 14 (.fa f103_1 1) ?_
 refine G.V 15 (.ld t101 1) ?_
 refine G.C 16 [3] [7, 1, 2]  e174 (n_known g tb r clock p s me l hN ha hn hc hs hhl hhn) ?_
 rintro _ _ ⟨a7, n7, c7, rfl, hn7, rfl⟩
 generalize hq : knownL me hs l clock = q at hn7 ⊢
 obtain ⟨o, l1, c1⟩ := q
 try dsimp only at hn7 ⊢
 have hN1 : NOk l1 c1 := by have := known_ok (me := me) hN hs; rw [hq] at this; exact this
 have hB1 : NBw l1 := by have := known_bd (me := me) (c := clock) hB hs; rw [hq] at this; exact this
 have hto : ∀ h ∈ o, ∃ x ∈ ts, x.a = h.m.ta ∧ x.n = h.m.tl ∧ x.c = h.m.tc := fun h hh => hts h (known_sub me l clock hs h (by rw [hq]; exact hh))
 have hno : n7 ≤ 100000 := by have := known_len me hs l clock; rw [hq] at this; dsimp only at this; omega
 refine G.M 5 ?_
 refine G.nk K4 ?_
 refine G.sr fun _ K5 => ?_
 refine G.M 17 ?_
 refine G.V 18 .nc ?_
 refine G.V 19 (.fa f127_2 24) ?_
 refine G.V 20 (.ld t125 4) ?_
 refine G.C 21 [1] [1]  e175 (m_Tick tb r c1 l1 hN1 hB1.1 hB1.2) ?_
 rintro v4 _ rfl
 refine G.nk K5 ?_
 refine G.sr fun _ K6 => ?_
 refine G.M3 23 24 25 ?_
 refine G.V 26 .nc ?_
 refine G.V 27 (.fa f127_0 0) ?_
 refine G.V 28 (.fa f84_1 12) ?_
 refine G.V 29 (.lda t70 4 (vs := [.int .i64 s.lo, .int .i64 s.hi, .int .i64 s.time, .bool s.set, .int .i64 s.held, .int .i64 s.hops, .bool s.good, .slice s.ta s.tl s.tc, .int .i64 s.st, .int .i64 s.sn, .int .i64 s.life])) ?_
 refine G.C 30 [] [9, 0, 6, 3, 4]  e176 (n_core pw hpw g tb p f hf hp7 s me y0.l (by rw [(hok y0 hy0).1, e0n]) (by have := (hok y0 hy0).n; omega) a7 n7 c7 o hn7.symm hno ts hok hto) ?_
 rintro _ _ ⟨s1, ok1, a1, n1, cw, lw, rfl, hl1, hn1, hC, rfl⟩
 refine G.M 22 ?_
 refine G.V 31 (.ext (v := .agg #[.int .i64 s1.lo, .int .i64 s1.hi, .int .i64 s1.time, .bool s1.set, .int .i64 s1.held, .int .i64 s1.hops, .bool s1.good, .slice s1.ta s1.tl s1.tc, .int .i64 s1.st, .int .i64 s1.sn, .int .i64 s1.life])) ?_
 refine G.V 32 (.ext (v := .bool ok1)) ?_
 refine G.mk 6 (.al z70) fun g6 => ?_
 refine G.sn 0 (.st t70 0) rfl ?_
 refine G.M 7 ?_
 refine G.nk K6 ?_
 refine G.meet (ι := {q : Nat × Nat × Nat × Bool × Sta × List (Int × Int) // q.2.2.2.2.2.length = q.2.2.2.2.1.tl ∧ q.2.2.2.2.1.tl ≤ 1000 ∧ Told2 p f s o q.2.2.2.1 q.2.2.2.2.1}) (fun ⟨⟨g3, g4, g6, ok3, x, lx⟩, hlx, hnx, hT2⟩ => [(0, .pointer (some ⟨g, 0, none⟩)), (3, .pointer (some ⟨g3, 0, none⟩)), (4, .pointer (some ⟨g4, 0, none⟩)), (5, .slice a7 n7 c7), (6, .pointer (some ⟨g6, 0, none⟩)), (7, .bool ok3)]) (fun ⟨⟨g3, g4, g6, ok3, x, lx⟩, hlx, hnx, hT2⟩ => [blk g6 [.int .i64 x.lo, .int .i64 x.hi, .int .i64 x.time, .bool x.set, .int .i64 x.held, .int .i64 x.hops, .bool x.good, .slice x.ta x.tl x.tc, .int .i64 x.st, .int .i64 x.sn, .int .i64 x.life] 70, nmap r (tickL l1) c1, row a7 c7 138 15 n7 (hrl o), blk g4 [.int .i64 0, .int .i64 0, .int .i64 0, .int .i64 0, .int .i64 0, .int .i64 0, .bool false, .bool false, .int .i64 0, .int .i64 0, .int .i64 0, .int .i64 0, .int .i64 0, .slice none 0 0] 107, blk g3 [.int .i64 ticks, .slice ha hn hc, .bool rf, .int .i64 rd, .bool gv, .slice ga gn gc] 103, blk g (pC p [.int .i64 s.lo, .int .i64 s.hi, .int .i64 s.time, .bool s.set, .int .i64 s.held, .int .i64 s.hops, .bool s.good, .slice s.ta s.tl s.tc, .int .i64 s.st, .int .i64 s.sn, .int .i64 s.life, .int .i64 me, .pointer (some ⟨tb, 0, none⟩)]) 127]) (fun ⟨⟨g3, g4, g6, ok3, x, lx⟩, hlx, hnx, hT2⟩ => [row x.ta x.tc 174 2 x.tl (spl lx), row s.ta s.tc 174 2 s.tl (spl y0.l), blk tb [.map (some r)] 193, row ha hc 138 15 hn (hrl hs), tabsE ts, blk 2 (u64s pw) 319]) (fun _ K8 => ?_) ?_
 refine G.sr fun _ K9 => ?_
 refine G.M 33 ?_
 refine G.V 34 .not ?_
 refine G.nk K9 ?_
 refine G.cond rfl (fun hc34 => ?_) (fun hc34 => ?_)
 have e34 : ok1 = false := by simpa using hc34
 have hNC : NoCore p f o := by rcases hC with ⟨_, _, q⟩ | ⟨e, _⟩; exact q; rw [e] at e34; cases e34
 refine G.region ?_
 refine G.M3 36 37 38 ?_
 refine G.V 39 .nc ?_
 refine G.V 40 (.fa f127_0 0) ?_
 refine G.V 41 (.fa f84_1 12) ?_
 refine G.V 42 (.lda t70 6 (vs := [.int .i64 s.lo, .int .i64 s.hi, .int .i64 s.time, .bool s.set, .int .i64 s.held, .int .i64 s.hops, .bool s.good, .slice s.ta s.tl s.tc, .int .i64 s.st, .int .i64 s.sn, .int .i64 s.life])) ?_
 refine G.C 43 [] [11, 0, 8, 3]  e177 (n_follow g tb p s me y0.l (by rw [(hok y0 hy0).1, e0n]) (by have := (hok y0 hy0).n; omega) a7 n7 c7 o hn7.symm hno ts hok hto) ?_
 rintro _ _ ⟨s2, ok2, rfl, hFo, rfl⟩
 obtain ⟨y2, hy2, hya, hyn, hyc⟩ := follow_tab hFo hy0 e0a e0n e0c
 refine G.moreR 3 (e := row s2.ta s2.tc 174 2 s2.tl (spl y2.l)) (fun w q => by rw [← hya, ← hyn, ← hyc]; exact tabsE_mem hy2 w q) (by rw [← hya, ← hyn, ← hyc]; exact tabsE_own hy2) ?_
 refine G.M 35 ?_
 refine G.V 44 (.ext (v := .agg #[.int .i64 s2.lo, .int .i64 s2.hi, .int .i64 s2.time, .bool s2.set, .int .i64 s2.held, .int .i64 s2.hops, .bool s2.good, .slice s2.ta s2.tl s2.tc, .int .i64 s2.st, .int .i64 s2.sn, .int .i64 s2.life])) ?_
 refine G.V 45 (.ext (v := .bool ok2)) ?_
 refine G.sn 0 (.st t70 0) rfl ?_
 refine G.M 7 ?_
 refine G.nil ?_
 refine G.only [0, 1, 1, 1, 1, 1] ?_
 refine K8 _ _ _ ?_
 exact G.at ⟨(g3, g4, g6, ok2, s2, y2.l), by rw [(hok y2 hy2).1, hyn], by have := (hok y2 hy2).n; show s2.tl ≤ 1000; omega, ⟨fun q => by rcases hFo with ⟨e, _⟩ | ⟨_, q1, _⟩; rw [e] at q; cases q; exact .inr ⟨hNC, q1⟩, fun q => by rcases hFo with ⟨_, _, q1⟩ | ⟨e, _⟩; exact ⟨hNC, q1⟩; rw [e] at q; cases q⟩⟩ (ts := [0, 3, 4, 5, 6, 7]) rfl rfl rfl rfl
 have e34 : ok1 = true := by simpa using hc34
 obtain ⟨hCR, e1a, e1n, e1c⟩ : CoreR p f s o s1 ∧ s1.ta = a1 ∧ s1.tl = n1 ∧ s1.tc = cw := by rcases hC with ⟨e, _⟩ | ⟨_, q⟩; rw [e] at e34; cases e34; exact q
 refine G.skip ?_
 subst e1a e1n e1c
 refine G.only [1, 0, 0, 0, 0, 0, 0] ?_
 refine G.toR ?_
 refine K8 _ _ _ ?_
 exact G.at ⟨(g3, g4, g6, ok1, s1, lw), hl1, hn1, ⟨fun _ => .inl hCR, fun q => by rw [e34] at q; cases q⟩⟩ (ts := [0, 3, 4, 5, 6, 7]) rfl rfl rfl rfl
 rintro ⟨⟨g3, g4, g6, ok3, x, lx⟩, hlx, hnx, hT2⟩
 try dsimp only
 try dsimp only at hlx hnx hT2
 refine G.meet (ι := {q : Nat × Nat × Nat × Sta × List (Int × Int) // q.2.2.2.2.length = q.2.2.2.1.tl ∧ q.2.2.2.1.tl ≤ 1000 ∧ NextN p f s ticks o q.2.2.2.1}) (fun ⟨⟨g3, g4, g6, x, lx⟩, hlx, hnx, hNX⟩ => [(0, .pointer (some ⟨g, 0, none⟩)), (3, .pointer (some ⟨g3, 0, none⟩)), (4, .pointer (some ⟨g4, 0, none⟩)), (5, .slice a7 n7 c7), (6, .pointer (some ⟨g6, 0, none⟩))]) (fun ⟨⟨g3, g4, g6, x, lx⟩, hlx, hnx, hNX⟩ => [blk g6 [.int .i64 x.lo, .int .i64 x.hi, .int .i64 x.time, .bool x.set, .int .i64 x.held, .int .i64 x.hops, .bool x.good, .slice x.ta x.tl x.tc, .int .i64 x.st, .int .i64 x.sn, .int .i64 x.life] 70, nmap r (tickL l1) c1, row a7 c7 138 15 n7 (hrl o), blk g4 [.int .i64 0, .int .i64 0, .int .i64 0, .int .i64 0, .int .i64 0, .int .i64 0, .bool false, .bool false, .int .i64 0, .int .i64 0, .int .i64 0, .int .i64 0, .int .i64 0, .slice none 0 0] 107, blk g3 [.int .i64 ticks, .slice ha hn hc, .bool rf, .int .i64 rd, .bool gv, .slice ga gn gc] 103, blk g (pC p [.int .i64 s.lo, .int .i64 s.hi, .int .i64 s.time, .bool s.set, .int .i64 s.held, .int .i64 s.hops, .bool s.good, .slice s.ta s.tl s.tc, .int .i64 s.st, .int .i64 s.sn, .int .i64 s.life, .int .i64 me, .pointer (some ⟨tb, 0, none⟩)]) 127]) (fun ⟨⟨g3, g4, g6, x, lx⟩, hlx, hnx, hNX⟩ => [row x.ta x.tc 174 2 x.tl (spl lx), row s.ta s.tc 174 2 s.tl (spl y0.l), blk tb [.map (some r)] 193, row ha hc 138 15 hn (hrl hs), tabsE ts, blk 2 (u64s pw) 319]) (fun _ K11 => ?_) ?_
 refine G.sr fun _ K12 => ?_
 refine G.M 46 ?_
 refine G.V 47 .not ?_
 refine G.nk K12 ?_
 refine G.cond rfl (fun hc47 => ?_) (fun hc47 => ?_)
 have e47 : ok3 = false := by simpa using hc47
 refine G.sr fun _ K13 => ?_
 refine G.M 48 ?_
 refine G.V 49 .nc ?_
 refine G.V 50 (.fa f127_0 0) ?_
 refine G.V 51 (.fa f84_1 12) ?_
 refine G.V 52 (.lda t70 5 (vs := [.int .i64 s.lo, .int .i64 s.hi, .int .i64 s.time, .bool s.set, .int .i64 s.held, .int .i64 s.hops, .bool s.good, .slice s.ta s.tl s.tc, .int .i64 s.st, .int .i64 s.sn, .int .i64 s.life])) ?_
 refine G.sn 0 (.st t70 0) rfl ?_
 refine G.nk K13 ?_
 refine G.draw 35 [4, 5] [] [] ?_
 refine D.V 0 53 1 .mv ?_
 refine D.V 1 54 3 .nc ?_
 refine D.V 2 55 7 (.fa f127_0 0) ?_
 refine D.V 3 56 15 (.fa f84_0 0) ?_
 refine D.V 5 58 47 .mv ?_
 refine D.V 6 59 111 .nc ?_
 refine D.V 7 60 239 (.fa f127_0 0) ?_
 refine D.V 8 61 495 (.fa f84_1 12) ?_
 refine D.V 9 62 1007 (.fa f70_0 12) ?_
 refine D.V 11 64 3055 (.fa f103_0 0) ?_
 refine D.V 14 67 19439 .mv ?_
 refine D.V 15 68 52207 .nc ?_
 refine D.V 16 69 117743 (.fa f127_0 0) ?_
 refine D.V 17 70 248815 (.fa f84_1 12) ?_
 refine D.V 18 71 510959 (.fa f70_3 16) ?_
 refine D.V 21 74 2608111 .mv ?_
 refine D.V 22 75 6802415 .nc ?_
 refine D.V 23 76 15191023 (.fa f127_0 0) ?_
 refine D.V 24 77 31968239 (.fa f84_0 0) ?_
 refine D.T 4 57 31968255 (.lda t23 1 (vs := [.int .i64 p.n, .int .i64 p.f, .int .i64 p.d, .int .i64 p.beat, .int .i64 p.rho, .int .i64 p.delay, .int .i64 p.jitter, .int .i64 p.eps, .int .i64 p.mu, .int .i64 p.hold, .int .i64 p.pulse, .int .i64 p.second])) [4, 5] [] ?_
 refine D.T 10 63 31969279 (.lda t49 1 (vs := [.int .i64 s.lo, .int .i64 s.hi])) [4, 5] [] ?_
 refine D.T 12 65 31973375 (.ld t3 0) [4, 5] [] ?_
 refine D.T 19 72 32497663 (.ld t3 1) [4, 5] [] ?_
 refine D.T 25 78 66052095 (.lda t23 1 (vs := [.int .i64 p.n, .int .i64 p.f, .int .i64 p.d, .int .i64 p.beat, .int .i64 p.rho, .int .i64 p.delay, .int .i64 p.jitter, .int .i64 p.eps, .int .i64 p.mu, .int .i64 p.hold, .int .i64 p.pulse, .int .i64 p.second])) [4, 5] [] ?_
 refine D.C 13 66 66060287 [] [] [4, 5] []  e117 (c_Hold p s.lo s.hi ticks) ?_
 rintro _ _ ⟨rfl, rfl⟩
 refine D.V 27 80 200278015 (.fa f70_0 0) ?_
 refine D.C 20 73 201326591 [] [] [4, 5] []  e118 (a_More s.held) ?_
 rintro _ _ ⟨rfl, rfl⟩
 refine D.C 26 79 268435455 [] [] [4, 5] []  e178 (r_Lost p hd1 hd0) ?_
 rintro _ _ ⟨rfl, rfl⟩
 refine D.sto 28 536870911 0 (.st t49 0) [4, 5] []  rfl ?_
 dsimp only [List.set, sets, Value.cells, List.zipIdx, List.foldl]
 refine D.V 29 81 1073741823 (.fa f70_3 4) ?_
 refine D.sto 30 2147483647 0 (.st t3 0) [4, 5] []  rfl ?_
 dsimp only [List.set, sets, Value.cells, List.zipIdx, List.foldl]
 refine D.V 31 82 4294967295 (.fa f70_4 5) ?_
 refine D.sto 32 8589934591 0 (.st t3 0) [4, 5] []  rfl ?_
 dsimp only [List.set, sets, Value.cells, List.zipIdx, List.foldl]
 refine D.V 33 83 17179869183 (.fa f70_5 6) ?_
 refine D.sto 34 34359738367 0 (.st t4 0) [4, 5] []  rfl ?_
 dsimp only [List.set, sets, Value.cells, List.zipIdx, List.foldl]
 refine D.done ?_
 refine G.lessR ?_
 refine G.moreR 0 (e := row s.ta s.tc 174 2 s.tl (spl y0.l)) (fun w q => q) (fun _ q => q) ?_
 refine K11 _ _ _ ?_
 exact G.as ⟨(g3, g4, g6, lostS p s ticks, y0.l), by rw [(hok y0 hy0).1, e0n]; rfl, by have := (hok y0 hy0).n; show s.tl ≤ 1000; omega, .inr (.inr ⟨(hT2.2 e47).1, (hT2.2 e47).2, rfl⟩)⟩
 have e47 : ok3 = true := by simpa using hc47
 refine G.sk K11 ?_
 exact G.as ⟨(g3, g4, g6, x, lx), hlx, hnx, (hT2.1 e47).elim .inl fun q => .inr (.inl q)⟩
 rintro ⟨⟨g3, g4, g6, x, lx⟩, hlx, hnx, hNX⟩
 try dsimp only
 try dsimp only at hlx hnx hNX
 refine G.Z fun _ K14 => ?_
 refine G.draw 7 [0, 4] [] [] ?_
 refine D.V 0 84 1 .mv ?_
 refine D.V 1 85 3 .nc ?_
 refine D.V 2 86 7 (.fa f127_0 0) ?_
 refine D.V 3 87 15 (.fa f103_0 0) ?_
 refine D.T 4 88 31 (.ld t3 1) [0, 4] [] ?_
 refine D.T 5 89 63 (.lda t70 0 (vs := [.int .i64 x.lo, .int .i64 x.hi, .int .i64 x.time, .bool x.set, .int .i64 x.held, .int .i64 x.hops, .bool x.good, .slice x.ta x.tl x.tc, .int .i64 x.st, .int .i64 x.sn, .int .i64 x.life])) [0, 4] [] ?_
 refine D.C 6 90 127 [5] [0] [0, 4] []  e120 (f_Step g p s [.int .i64 me, .pointer (some ⟨tb, 0, none⟩)] 127 ticks x lx hlx hnx) ?_
 rintro _ _ ⟨s4, l4, rfl, hS, hl4, hg4, rfl⟩
 have hn4 := good_len hg4
 refine D.done ?_
 refine K14 _ _ _ ?_
 refine G.Z fun _ K15 => ?_
 refine G.sr fun _ K16 => ?_
 refine G.M 91 ?_
 refine G.V 92 (.lenl s101) ?_
 refine G.M 93 ?_
 refine G.nk K16 ?_
 refine G.block ?_
 refine G.only [0, 0, 1, 1, 1] ?_
 refine G.lpR (ι := {q : Nat × Int × Int // q.1 ≤ n7 ∧ RightS q.2.1 q.2.2}) (fun ⟨⟨k, t, n⟩, hj, hR⟩ => n7 - k) (fun ⟨⟨k, t, n⟩, hj, hR⟩ => [(0, .pointer (some ⟨g, 0, none⟩)), (4, .pointer (some ⟨g4, 0, none⟩)), (91, .slice a7 n7 c7), (92, .int .i64 (n7 : Int)), (93, .int .i64 (k : Int))]) (fun ⟨⟨k, t, n⟩, hj, hR⟩ => [blk g (pC p [.int .i64 s4.lo, .int .i64 s4.hi, .int .i64 s4.time, .bool s4.set, .int .i64 s4.held, .int .i64 s4.hops, .bool s4.good, .slice s4.ta s4.tl s4.tc, .int .i64 t, .int .i64 n, .int .i64 s4.life, .int .i64 me, .pointer (some ⟨tb, 0, none⟩)]) 127, row s4.ta s4.tc 174 2 s4.tl (spl l4), nmap r (tickL l1) c1, row a7 c7 138 15 n7 (hrl o), blk g4 [.int .i64 0, .int .i64 0, .int .i64 0, .int .i64 0, .int .i64 0, .int .i64 0, .bool false, .bool false, .int .i64 0, .int .i64 0, .int .i64 0, .int .i64 0, .int .i64 0, .slice none 0 0] 107]) ?_ ?_
 exact G.at ⟨(0, s4.st, s4.sn), Nat.zero_le _, hS.st⟩ (ts := [0, 4, 91, 92, 93]) rfl rfl rfl rfl
 rintro ⟨⟨k, t, n⟩, hj, hR⟩ _ K17
 try dsimp only at K17 ⊢
 try dsimp only at hj hR
 refine G.sr fun _ K18 => ?_
 refine G.V 94 .bin ?_
 refine G.nk K18 ?_
 refine G.Z fun _ K19 => ?_
 refine G.cond rfl (fun hc94 => ?_) (fun hc94 => ?_)
 have hk : k < n7 := by have := of_decide_eq_true hc94; omega
 obtain ⟨x', hx⟩ : ∃ x, o[k]? = some x := ⟨_, List.getElem?_eq_getElem (by omega)⟩
 have dhc94 := of_decide_eq_true hc94
 refine G.sk K19 ?_
 refine G.Z fun _ K20 => ?_
 refine G.block ?_
 refine G.Z fun _ K21 => ?_
 refine G.base 3 (show 0 < n7 by omega) fun b22 hb_ => ?_
 subst hb_
 refine G.region ?_
 refine G.V 95 (.is s101 k hk) ?_
 refine G.V 96 (.lda t138 3 (hv := hrl_at hx)) ?_
 refine G.mk 9 (.al z138) fun g9 => ?_
 refine G.sn 0 (.st t138 0) rfl ?_
 refine G.nk K21 ?_
 refine G.sr fun _ K23 => ?_
 refine G.V 97 (.fa f138_0 0) ?_
 refine G.V 98 (.fa f107_0 0) ?_
 refine G.V 99 (.ld t3 0) ?_
 refine G.V 100 .bin ?_
 refine G.M 101 ?_
 cases hg24 : (x'.m.kind == 2 : Bool)
 have dhg24 := ne_of_beq_false hg24
 refine G.O3 102 103 104 ?_
 refine G.V 105 .pick ?_
 refine G.nk K23 ?_
 refine G.no rfl ?_
 refine G.sk K20 ?_
 refine G.region ?_
 refine G.V 113 .bw ?_
 refine G.M 93 ?_
 refine G.nil ?_
 refine G.only [1, 1, 1, 1, 1] ?_
 refine K17 _ _ _ ?_
 exact G.ls ⟨(k + 1, t, n), hk, hR⟩
 have dhg24 := eq_of_beq hg24
 refine G.V 102 (.fa f138_0 0) ?_
 refine G.V 103 (.fa f107_5 6) ?_
 refine G.V 104 (.ld t4 0) ?_
 refine G.V 105 .pick ?_
 refine G.nk K23 ?_
 refine G.cond rfl (fun hc105 => ?_) (fun hc105 => ?_)
 refine G.draw 7 [0] [] [] ?_
 refine D.V 0 106 1 .mv ?_
 refine D.V 1 107 3 .nc ?_
 refine D.V 2 108 7 (.fa f127_0 0) ?_
 refine D.V 3 109 15 (.fa f138_0 0) ?_
 refine D.V 4 110 31 (.fa f107_9 11) ?_
 refine D.T 5 111 63 (.lda t68 0 (vs := [.int .i64 x'.m.st, .int .i64 x'.m.sn])) [0] [] ?_
 refine D.C 6 112 127 [1] [] [0] []  e179 (f_Listen g p { s4 with st := t, sn := n } [.int .i64 me, .pointer (some ⟨tb, 0, none⟩)] 127 x'.m.st x'.m.sn) ?_
 rintro _ _ ⟨t2, n2, rfl, hR2, rfl⟩
 refine D.done ?_
 refine K20 _ _ _ ?_
 refine G.region ?_
 refine G.V 113 .bw ?_
 refine G.M 93 ?_
 refine G.nil ?_
 refine G.only [0, 1, 1, 1, 1] ?_
 refine K17 _ _ _ ?_
 exact G.ls ⟨(k + 1, t2, n2), hk, hR2⟩
 refine G.sk K20 ?_
 refine G.region ?_
 refine G.V 113 .bw ?_
 refine G.M 93 ?_
 refine G.nil ?_
 refine G.only [1, 1, 1, 1, 1] ?_
 refine K17 _ _ _ ?_
 exact G.ls ⟨(k + 1, t, n), hk, hR⟩
 have dhc94 := of_decide_eq_false hc94
 refine G.exit ?_
 refine K15 _ _ _ ?_
 refine G.Z fun _ K25 => ?_
 refine G.draw 10 [] [] [] ?_
 refine D.V 0 114 1 .mv ?_
 refine D.V 1 115 3 .nc ?_
 refine D.V 2 116 7 (.fa f127_0 0) ?_
 refine D.V 3 117 15 .mv ?_
 refine D.V 4 118 31 .nc ?_
 refine D.V 5 119 63 (.fa f127_1 23) ?_
 refine D.V 7 121 191 (.build z49 p49) ?_
 refine D.one 6 120 255 (.ld t3 0) [] [] ?_
 refine D.C 8 122 511 [0] [6] [] []  e121 (g_Say g p { s4 with st := t, sn := n } [.int .i64 me, .pointer (some ⟨tb, 0, none⟩)] 127 2 me false 0 0 l4 hl4 (by show s4.tl ≤ 1000; omega)) ?_
 rintro _ _ ⟨m, rfl, hm, rfl⟩
 refine D.sto 9 1023 5 (.st t107 5) [] []  rfl ?_
 dsimp only [List.set, sets, Value.cells, List.zipIdx, List.foldl]
 refine D.done ?_
 refine K25 _ _ _ ?_
 exact G.ret (G.F [0, 1, 0, 0] (.cell Tryz.results173 t107 5) ⟨{ s4 with st := m.st, sn := m.sn }, m, l4, rfl, ⟨⟨x, by rw [hq]; exact hNX, hS.to hm.st⟩, hm.to _ _⟩, hl4, hg4, by rw [hq]⟩)
theorem f107_8 : tfield prog 107 8 = some 10 := by kernel_rfl
theorem f178_0 : tfield prog 178 0 = some 0 := by kernel_rfl
def byteN (x : Int) (j : Nat) : Int := IntKind.u8.wrap (shrV .u64 (IntKind.u64.wrap x) ((8 * (7 - (j : Int))).toNat))
def be8 (x : Int) : List Int := (List.range 8).map (byteN x)
theorem be8_take {x : Int} {j : Nat} (h : j < 8) : (be8 x).take (j + 1) = (be8 x).take j ++ [byteN x j] := by
 rw [List.take_add_one]
 congr 1
 simp [be8, h]
theorem be8_len (x : Int) : (be8 x).length = 8 := by simp [be8]
def numsB (zs : List Int) : List Int := zs.flatMap be8
theorem numsB_take {zs : List Int} {k : Nat} {x : Int} (h : zs[k]? = some x) : numsB (zs.take (k + 1)) = numsB (zs.take k) ++ be8 x := by
 unfold numsB; rw [List.take_add_one, h, List.flatMap_append]; simp
theorem numsB_len (zs : List Int) : (numsB zs).length = 8 * zs.length := by
 unfold numsB
 induction zs with
 | nil => rfl
 | cons x zs ih => rw [List.flatMap_cons, List.length_append, be8_len, ih, List.length_cons]; omega
theorem u8s_snoc (l : List Int) (x : Int) : u8s (l ++ [x]) = u8s l ++ [.int .u8 x] := by simp [u8s]
theorem ints_at' {zs : List Int} {k : Nat} {x : Int} (h : zs[k]? = some x) : (ints zs)[0 + k * 1]? = some (.int .i64 x) := by simp [ints, h]
theorem w_nums (gw gi q n c : Nat) (a : Option Addr) (zs bs : List Int) (hzl : zs.length = q) (hbl : bs.length = n) (hn : n + 8 * q ≤ 100000) : Spec prog 77 [.pointer (some ⟨gw, 0, none⟩), .slice (some ⟨gi, 0, none⟩) q q] [blk gw [.slice a n c] 178, row a c 5 1 n (u8s bs)] [blk gi (ints zs) 3] (fun v Ln => v = .tuple #[] ∧ ∃ a' c', Ln = [blk gw [.slice a' (n + 8 * q) c'] 178, row a' c' 5 1 (n + 8 * q) (u8s (bs ++ numsB zs))]) := by
 refine Spec.en func77 ntmps77 fun w0 => ?_
 refine G.sr fun _ K1 => ?_
 refine G.M 7 ?_
 refine G.V 8 (.lenl s24) ?_
 refine G.M 9 ?_
 refine G.nk K1 ?_
 refine G.block ?_
 refine G.lpR (ι := {z : Nat × Option Addr × Nat × Nat × List Int // z.1 ≤ q ∧ z.2.2.2.2.length = z.2.2.2.1 ∧ z.2.2.2.2 = bs ++ numsB (zs.take z.1)}) (fun ⟨⟨k, a1, c1, n1, l1⟩, hj, hl1, hL1⟩ => q - k) (fun ⟨⟨k, a1, c1, n1, l1⟩, hj, hl1, hL1⟩ => [(0, .pointer (some ⟨gw, 0, none⟩)), (7, .slice (some ⟨gi, 0, none⟩) q q), (8, .int .i64 (q : Int)), (9, .int .i64 (k : Int))]) (fun ⟨⟨k, a1, c1, n1, l1⟩, hj, hl1, hL1⟩ => [blk gw [.slice a1 n1 c1] 178, row a1 c1 5 1 n1 (u8s l1)]) ?_ ?_
 exact G.at ⟨(0, a, c, n, bs), Nat.zero_le _, hbl, by simp [numsB]⟩ (ts := [0, 7, 8, 9]) rfl rfl rfl rfl
 rintro ⟨⟨k, a1, c1, n1, l1⟩, hj, hl1, hL1⟩ _ K2
 try dsimp only at K2 ⊢
 try dsimp only at hj hl1 hL1
 have hn1 : n1 = n + 8 * k := by rw [← hl1, hL1, List.length_append, hbl, numsB_len, List.length_take]; omega
 refine G.sr fun _ K3 => ?_
 refine G.V 10 .bin ?_
 refine G.nk K3 ?_
 refine G.Z fun _ K4 => ?_
 refine G.cond rfl (fun hc10 => ?_) (fun hc10 => ?_)
 have hk : k < q := by have := of_decide_eq_true hc10; omega
 obtain ⟨x, hx⟩ : ∃ x, zs[k]? = some x := ⟨_, List.getElem?_eq_getElem (by omega)⟩
 have dhc10 := of_decide_eq_true hc10
 refine G.sk K4 ?_
 refine G.Z fun _ K5 => ?_
 refine G.block ?_
 refine G.sr fun _ K6 => ?_
 refine G.V 11 (.is s24 k hk) ?_
 refine G.V 12 (.ld t3 2 (hv := ints_at' hx)) ?_
 refine G.M 5 ?_
 refine G.nk K6 ?_
 refine G.sr fun _ K7 => ?_
 refine G.V 6 (.cast .mv (show Value.int .i64 7 = .int .i64 (7 - ((0 : Nat) : Int)) from rfl)) ?_
 refine G.nk K7 ?_
 refine G.block ?_
 refine G.lpR (ι := {z : Nat × Option Addr × Nat × Nat × List Int // z.1 ≤ 8 ∧ z.2.2.2.2.length = z.2.2.2.1 ∧ z.2.2.2.2 = l1 ++ (be8 x).take z.1}) (fun ⟨⟨j, a2, c2, n2, l2⟩, hj2, hl2, hL2⟩ => 8 - j) (fun ⟨⟨j, a2, c2, n2, l2⟩, hj2, hl2, hL2⟩ => [(0, .pointer (some ⟨gw, 0, none⟩)), (7, .slice (some ⟨gi, 0, none⟩) q q), (8, .int .i64 (q : Int)), (9, .int .i64 (k : Int)), (5, .int .i64 x), (6, .int .i64 (7 - (j : Int)))]) (fun ⟨⟨j, a2, c2, n2, l2⟩, hj2, hl2, hL2⟩ => [blk gw [.slice a2 n2 c2] 178, row a2 c2 5 1 n2 (u8s l2)]) ?_ ?_
 exact G.at ⟨(0, a1, c1, n1, l1), Nat.zero_le _, hl1, by simp⟩ (ts := [0, 7, 8, 9, 5, 6]) rfl rfl rfl rfl
 rintro ⟨⟨j, a2, c2, n2, l2⟩, hj2, hl2, hL2⟩ _ K8
 try dsimp only at K8 ⊢
 try dsimp only at hj2 hl2 hL2
 have hn2 : n2 ≤ n1 + 8 := by rw [← hl2, hL2, List.length_append, List.length_take, be8_len, hl1]; omega
 refine G.Z fun _ K9 => ?_
 refine G.sr fun _ K10 => ?_
 refine G.M 13 ?_
 refine G.V 14 .bin ?_
 refine G.nk K10 ?_
 refine G.cond rfl (fun hc14 => ?_) (fun hc14 => ?_)
 have hj8 : j < 8 := by have := of_decide_eq_true hc14; omega
 have dhc14 := of_decide_eq_true hc14
 refine G.sk K9 ?_
 refine G.Z fun _ K11 => ?_
 refine G.block ?_
 refine G.draw 16 [0] [] [15] ?_
 refine D.V 0 17 1 .mv ?_
 refine D.V 1 18 3 .mv ?_
 refine D.V 2 19 7 .nc ?_
 refine D.V 3 20 15 (.fa f178_0 0) ?_
 refine D.V 5 22 47 .mv ?_
 refine D.V 6 23 111 (.cvi (a := x) k3 k143 rfl) ?_
 refine D.V 7 24 239 .mv ?_
 refine D.V 8 25 495 .bw ?_
 refine D.V 9 26 1007 (.sh ((8 * (7 - (j : Int))).toNat) (.inr ⟨rfl, rfl⟩) (hi := by omega)) ?_
 refine D.V 10 27 2031 (.cvi (a := shrV .u64 (IntKind.u64.wrap x) ((8 * (7 - (j : Int))).toNat)) k143 k5 rfl) ?_
 refine D.T 4 21 2047 (.ld t165 0) [0] [] ?_
 refine D.ev 11 4095 ?_
 refine E.row 11 28 (.sl s165 z5 [.int .u8 (IntKind.u8.wrap (shrV .u64 (IntKind.u64.wrap x) ((8 * (7 - (j : Int))).toNat)))]) [0] []  fun g28 => ?_
 refine D.chg 12 29 8191 2 (.app s165 z5 y5 2 0 (show n2 + 1 ≤ 1048576 by omega)) [1] []  ?_
 rintro _ _ ⟨a12, c13, rfl, rfl⟩
 dsimp only [List.set]
 refine D.V 13 30 16383 .nc ?_
 refine D.V 14 31 32767 (.fa f178_0 0) ?_
 refine D.last 15 65535 1 (.st t165 1) rfl ?_
 dsimp only [List.set, sets, Value.cells, List.zipIdx, List.foldl]
 refine D.done ?_
 refine K11 _ _ _ ?_
 refine G.region ?_
 refine G.M 15 ?_
 refine G.V 16 (.cast (.cast .bin (wi (by omega) (by omega))) (show Value.int .i64 ((7 - (j : Int)) - 1) = .int .i64 (7 - ((j + 1 : Nat) : Int)) from by congr 1; omega)) ?_
 refine G.M 6 ?_
 refine G.nil ?_
 refine G.only [1, 1] ?_
 refine K8 _ _ _ ?_
 exact G.ls ⟨(j + 1, a12, c13, n2 + 1, l2 ++ [byteN x j]), by dsimp only; omega, by simp [hl2], by rw [hL2, be8_take (by omega), ← List.append_assoc]⟩ (hL := (by first | rfl | (dsimp only; rw [u8s_snoc]; rfl)))
 have hj8 : j = 8 := by have := of_decide_eq_false hc14; omega
 have dhc14 := of_decide_eq_false hc14
 refine G.exit ?_
 refine K5 _ _ _ ?_
 refine G.region ?_
 refine G.V 32 .bw ?_
 refine G.M 9 ?_
 refine G.nk K2 ?_
 exact G.ls ⟨(k + 1, a2, c2, n2, l2), hk, hl2, by rw [hL2, show j = 8 from by omega, show (be8 x).take 8 = be8 x from rfl, hL1, numsB_take hx, List.append_assoc]⟩
 have hkn : q = k := by have := of_decide_eq_false hc10; omega
 rw [show zs.take k = zs from by rw [← hkn, ← hzl]; exact List.take_length] at hL1
 have dhc10 := of_decide_eq_false hc10
 refine G.exit ?_
 exact G.fin0 [0, 0] (.nil Tryz.results77) ⟨rfl, a1, c1, show [blk gw [.slice a1 n1 c1] 178, row a1 c1 5 1 n1 (u8s l1)] = _ from by rw [show n1 = n + 8 * q from by omega, hL1]⟩
def goodM (m : Ms) (l : List (Int × Int)) : Bool := (inL 1 2 [m.kind] && inL 0 47 [m.src]) && (inL (-2305843009213693952) 2305843009213693952 [m.lo, m.hi, m.slo, m.shi, m.pulse, m.st] && (inL 0 1073741824 [m.held] && (inL 0 17 [m.hops] && (inL 0 1073741824 [m.sn] && tableB l))))
theorem w_Good (m : Ms) (l : List (Int × Int)) (hl : l.length = m.tl) (hn : m.tl ≤ 1000) : Spec prog 76 [.agg #[.int .i64 m.kind, .int .i64 m.src, .int .i64 m.lo, .int .i64 m.hi, .int .i64 m.held, .int .i64 m.hops, .bool m.good, .bool m.ref, .int .i64 m.slo, .int .i64 m.shi, .int .i64 m.pulse, .int .i64 m.st, .int .i64 m.sn, .slice m.ta m.tl m.tc]] [] [row m.ta m.tc 174 2 m.tl (spl l)] (fun v Ln => v = .bool (goodM m l) ∧ Ln = []) := by
 refine Spec.en func76 ntmps76 fun w0 => ?_
 refine G.sr fun _ K1 => ?_
 refine G.mk 1 .bx fun g1 => ?_
 refine G.M 2 ?_
 refine G.nk K1 ?_
 refine G.sr fun _ K2 => ?_
 refine G.V 5 (.fa f107_0 0) ?_
 refine G.V 6 (.ld t3 0) ?_
 refine G.row 7 (.sl s24 z3 [.int .i64 m.kind]) fun g7 => ?_
 refine G.cp 8 [] [1]  e89 (i_in 1 2 g7 [m.kind] (by simp)) ?_
 refine G.M 9 ?_
 cases hg3 : ((inL 1 2 [m.kind]) : Bool)
 refine G.O4 10 11 12 13 ?_
 refine G.V 14 .pick ?_
 refine G.M 3 ?_
 refine G.nk K2 ?_
 refine G.sr fun _ K4 => ?_
 refine G.V 15 (.fa f107_2 2) ?_
 refine G.V 16 (.fa f49_0 2) ?_
 refine G.V 17 (.ld t3 1) ?_
 refine G.V 18 (.fa f107_2 2) ?_
 refine G.V 19 (.fa f49_1 3) ?_
 refine G.V 20 (.ld t3 1) ?_
 refine G.V 21 (.fa f107_7 8) ?_
 refine G.V 22 (.fa f49_0 8) ?_
 refine G.V 23 (.ld t3 1) ?_
 refine G.V 24 (.fa f107_7 8) ?_
 refine G.V 25 (.fa f49_1 9) ?_
 refine G.V 26 (.ld t3 1) ?_
 refine G.V 27 (.fa f107_8 10) ?_
 refine G.V 28 (.ld t3 1) ?_
 refine G.V 29 (.fa f107_9 11) ?_
 refine G.V 30 (.fa f68_0 11) ?_
 refine G.V 31 (.ld t3 1) ?_
 refine G.row 32 (.sl s24 z3 [.int .i64 m.lo, .int .i64 m.hi, .int .i64 m.slo, .int .i64 m.shi, .int .i64 m.pulse, .int .i64 m.st] (hf := by kernel_rfl)) fun g32 => ?_
 refine G.cp 33 [] [1]  e89 (i_in (-2305843009213693952) 2305843009213693952 g32 [m.lo, m.hi, m.slo, m.shi, m.pulse, m.st] (by simp)) ?_
 refine G.M 4 ?_
 refine G.nk K4 ?_
 refine G.sr fun _ K5 => ?_
 refine G.M2 34 35 ?_
 refine G.O 36 ?_
 refine G.V 37 .pick ?_
 refine G.M 38 ?_
 refine G.O4 39 40 41 42 ?_
 refine G.V 43 .pick ?_
 refine G.M 44 ?_
 refine G.O4 45 46 47 48 ?_
 refine G.V 49 .pick ?_
 refine G.M 50 ?_
 refine G.O4 51 52 53 54 ?_
 refine G.O 55 ?_
 refine G.V 56 .pick ?_
 refine G.M 57 ?_
 refine G.O3 58 59 60 ?_
 refine G.V 61 .pick ?_
 refine G.M 2 ?_
 refine G.nk K5 ?_
 exact G.ret (G.F [] (.one Tryz.results76) ⟨by unfold goodM; simp [*], rfl⟩)
 refine G.V 10 (.fa f107_1 1) ?_
 refine G.V 11 (.ld t3 1) ?_
 refine G.row 12 (.sl s24 z3 [.int .i64 m.src]) fun g12 => ?_
 refine G.cp 13 [] [1]  e89 (i_in 0 47 g12 [m.src] (by simp)) ?_
 refine G.V 14 .pick ?_
 refine G.M 3 ?_
 refine G.nk K2 ?_
 refine G.sr fun _ K6 => ?_
 refine G.V 15 (.fa f107_2 2) ?_
 refine G.V 16 (.fa f49_0 2) ?_
 refine G.V 17 (.ld t3 2) ?_
 refine G.V 18 (.fa f107_2 2) ?_
 refine G.V 19 (.fa f49_1 3) ?_
 refine G.V 20 (.ld t3 2) ?_
 refine G.V 21 (.fa f107_7 8) ?_
 refine G.V 22 (.fa f49_0 8) ?_
 refine G.V 23 (.ld t3 2) ?_
 refine G.V 24 (.fa f107_7 8) ?_
 refine G.V 25 (.fa f49_1 9) ?_
 refine G.V 26 (.ld t3 2) ?_
 refine G.V 27 (.fa f107_8 10) ?_
 refine G.V 28 (.ld t3 2) ?_
 refine G.V 29 (.fa f107_9 11) ?_
 refine G.V 30 (.fa f68_0 11) ?_
 refine G.V 31 (.ld t3 2) ?_
 refine G.row 32 (.sl s24 z3 [.int .i64 m.lo, .int .i64 m.hi, .int .i64 m.slo, .int .i64 m.shi, .int .i64 m.pulse, .int .i64 m.st] (hf := by kernel_rfl)) fun g32 => ?_
 refine G.cp 33 [] [1]  e89 (i_in (-2305843009213693952) 2305843009213693952 g32 [m.lo, m.hi, m.slo, m.shi, m.pulse, m.st] (by simp)) ?_
 refine G.M 4 ?_
 refine G.nk K6 ?_
 refine G.sr fun _ K7 => ?_
 refine G.M2 34 35 ?_
 cases hg8 : ((inL 0 47 [m.src]) : Bool)
 refine G.O 36 ?_
 refine G.V 37 .pick ?_
 refine G.M 38 ?_
 refine G.O4 39 40 41 42 ?_
 refine G.V 43 .pick ?_
 refine G.M 44 ?_
 refine G.O4 45 46 47 48 ?_
 refine G.V 49 .pick ?_
 refine G.M 50 ?_
 refine G.O4 51 52 53 54 ?_
 refine G.O 55 ?_
 refine G.V 56 .pick ?_
 refine G.M 57 ?_
 refine G.O3 58 59 60 ?_
 refine G.V 61 .pick ?_
 refine G.M 2 ?_
 refine G.nk K7 ?_
 exact G.ret (G.F [] (.one Tryz.results76) ⟨by unfold goodM; simp [*], rfl⟩)
 refine G.M 36 ?_
 refine G.V 37 .pick ?_
 refine G.M 38 ?_
 cases hg9 : ((inL (-2305843009213693952) 2305843009213693952 [m.lo, m.hi, m.slo, m.shi, m.pulse, m.st]) : Bool)
 refine G.O4 39 40 41 42 ?_
 refine G.V 43 .pick ?_
 refine G.M 44 ?_
 refine G.O4 45 46 47 48 ?_
 refine G.V 49 .pick ?_
 refine G.M 50 ?_
 refine G.O4 51 52 53 54 ?_
 refine G.O 55 ?_
 refine G.V 56 .pick ?_
 refine G.M 57 ?_
 refine G.O3 58 59 60 ?_
 refine G.V 61 .pick ?_
 refine G.M 2 ?_
 refine G.nk K7 ?_
 exact G.ret (G.F [] (.one Tryz.results76) ⟨by unfold goodM; simp [*], rfl⟩)
 refine G.V 39 (.fa f107_3 4) ?_
 refine G.V 40 (.ld t3 3) ?_
 refine G.row 41 (.sl s24 z3 [.int .i64 m.held]) fun g41 => ?_
 refine G.cp 42 [] [1]  e89 (i_in 0 1073741824 g41 [m.held] (by simp)) ?_
 refine G.V 43 .pick ?_
 refine G.M 44 ?_
 cases hg10 : ((inL 0 1073741824 [m.held]) : Bool)
 refine G.O4 45 46 47 48 ?_
 refine G.V 49 .pick ?_
 refine G.M 50 ?_
 refine G.O4 51 52 53 54 ?_
 refine G.O 55 ?_
 refine G.V 56 .pick ?_
 refine G.M 57 ?_
 refine G.O3 58 59 60 ?_
 refine G.V 61 .pick ?_
 refine G.M 2 ?_
 refine G.nk K7 ?_
 exact G.ret (G.F [] (.one Tryz.results76) ⟨by unfold goodM; simp [*], rfl⟩)
 refine G.V 45 (.fa f107_4 5) ?_
 refine G.V 46 (.ld t3 4) ?_
 refine G.row 47 (.sl s24 z3 [.int .i64 m.hops]) fun g47 => ?_
 refine G.cp 48 [] [1]  e89 (i_in 0 17 g47 [m.hops] (by simp)) ?_
 refine G.V 49 .pick ?_
 refine G.M 50 ?_
 cases hg11 : ((inL 0 17 [m.hops]) : Bool)
 refine G.O4 51 52 53 54 ?_
 refine G.O 55 ?_
 refine G.V 56 .pick ?_
 refine G.M 57 ?_
 refine G.O3 58 59 60 ?_
 refine G.V 61 .pick ?_
 refine G.M 2 ?_
 refine G.nk K7 ?_
 exact G.ret (G.F [] (.one Tryz.results76) ⟨by unfold goodM; simp [*], rfl⟩)
 refine G.V 51 (.fa f107_9 11) ?_
 refine G.V 52 (.fa f68_1 12) ?_
 refine G.V 53 (.ld t3 5) ?_
 refine G.row 54 (.sl s24 z3 [.int .i64 m.sn]) fun g54 => ?_
 refine G.cp 55 [] [1]  e89 (i_in 0 1073741824 g54 [m.sn] (by simp)) ?_
 refine G.V 56 .pick ?_
 refine G.M 57 ?_
 cases hg12 : ((inL 0 1073741824 [m.sn]) : Bool)
 refine G.O3 58 59 60 ?_
 refine G.V 61 .pick ?_
 refine G.M 2 ?_
 refine G.nk K7 ?_
 exact G.ret (G.F [] (.one Tryz.results76) ⟨by unfold goodM; simp [*], rfl⟩)
 refine G.V 58 (.fa f107_10 13) ?_
 refine G.V 59 (.ld t58 6) ?_
 refine G.cp 60 [] [0]  e90 ((w_Table m.ta m.tl m.tc l hl hn).vw) ?_
 refine G.V 61 .pick ?_
 refine G.M 2 ?_
 refine G.nk K7 ?_
 exact G.ret (G.F [] (.one Tryz.results76) ⟨by unfold goodM; simp [*], rfl⟩)
theorem e76 : Is prog 76 := ⟨_, func76, by kernel_rfl, rfl⟩
theorem e77 : Is prog 77 := ⟨_, func77, by kernel_rfl, rfl⟩
theorem e78 : Is prog 78 := ⟨_, func78, by kernel_rfl, rfl⟩
theorem p178 : tplaces prog 178 = some [(0, 1)] := by kernel_rfl
theorem z178 : tzero prog 178 = some [.slice none 0 0] := by kernel_rfl
def flagV (m : Ms) : Int := (if m.good = true then 1 else 0) + (if m.ref = true then 2 else 0)
def headB (m : Ms) (n : Nat) : List Int := [IntKind.u8.wrap m.kind, IntKind.u8.wrap m.src, IntKind.u8.wrap (flagV m), IntKind.u8.wrap (n : Int)]
def numsM (m : Ms) : List Int := [m.lo, m.hi, m.held, m.hops, m.slo, m.shi, m.pulse, m.st, m.sn]
def tabB (l : List (Int × Int)) : List Int := l.flatMap fun x => numsB [x.1, x.2]
theorem tabB_take {l : List (Int × Int)} {k : Nat} {x : Int × Int} (h : l[k]? = some x) : tabB (l.take (k + 1)) = tabB (l.take k) ++ numsB [x.1, x.2] := by
 unfold tabB; rw [List.take_add_one, h, List.flatMap_append]; simp
theorem tabB_len (l : List (Int × Int)) : (tabB l).length = 16 * l.length := by
 unfold tabB
 induction l with
 | nil => rfl
 | cons x l ih => rw [List.flatMap_cons, List.length_append, numsB_len, ih, List.length_cons]; simp; omega
def frameL (m : Ms) (l : List (Int × Int)) : List Int := headB m l.length ++ numsB (numsM m) ++ tabB l
theorem frame_len (m : Ms) (l : List (Int × Int)) : (frameL m l).length = 76 + 16 * l.length := by
 unfold frameL
 rw [List.length_append, List.length_append, numsB_len, tabB_len]
 rfl
def encF (m : Ms) (l : List (Int × Int)) : ByteArray := strOf (sealL (frameL m l))
theorem w_EncodeV (m : Ms) (ta : Option Addr) (tl tc : Nat) (l : List (Int × Int)) (hl : l.length = tl) (hn : tl ≤ 1000) : Spec prog 60 [.agg #[.int .i64 m.kind, .int .i64 m.src, .int .i64 m.lo, .int .i64 m.hi, .int .i64 m.held, .int .i64 m.hops, .bool m.good, .bool m.ref, .int .i64 m.slo, .int .i64 m.shi, .int .i64 m.pulse, .int .i64 m.st, .int .i64 m.sn, .slice ta tl tc]] [] [row ta tc 174 2 tl (spl l)] (fun v Ln => ∃ s e, v = .tuple #[.string s, .int .i64 e] ∧ (goodM m l = true → s = encF m l ∧ e = 0) ∧ (goodM m l = false → s = ⟨#[]⟩ ∧ e = 1) ∧ Ln = []) := by
 refine Spec.en func60 ntmps60 fun w0 => ?_
 refine G.sr fun _ K1 => ?_
 refine G.mk 1 .bx fun g1 => ?_
 refine G.M2 2 3 ?_
 refine G.nk K1 ?_
 refine G.Z fun _ K2 => ?_
 refine G.sr fun _ K3 => ?_
 refine G.V 9 (.lda t107 0 (vs := [.int .i64 m.kind, .int .i64 m.src, .int .i64 m.lo, .int .i64 m.hi, .int .i64 m.held, .int .i64 m.hops, .bool m.good, .bool m.ref, .int .i64 m.slo, .int .i64 m.shi, .int .i64 m.pulse, .int .i64 m.st, .int .i64 m.sn, .slice ta tl tc])) ?_
 refine G.cp 10 [] [0]  e76 (w_Good { m with ta := ta, tl := tl, tc := tc } l hl hn) ?_
 refine G.V 11 .not ?_
 refine G.nk K3 ?_
 refine G.cond rfl (fun hc11 => ?_) (fun hc11 => ?_)
 have e11 : goodM m l = false := by have h : (!goodM m l) = true := hc11; simpa using h
 refine G.sr fun _ K4 => ?_
 refine G.M2 2 3 ?_
 refine G.nk K4 ?_
 exact G.ret (G.F [] (.two Tryz.results60) ⟨_, _, rfl, fun q => absurd (e11.symm.trans q) (by decide), fun _ => ⟨rfl, rfl⟩, rfl⟩)
 have e11 : goodM m l = true := by have h : (!goodM m l) = false := hc11; simpa using h
 refine G.sk K2 ?_
 refine G.sr fun _ K5 => ?_
 refine G.M 4 ?_
 refine G.nk K5 ?_
 refine G.Z fun _ K6 => ?_
 refine G.sr fun _ K7 => ?_
 refine G.V 12 (.fa f107_5 6) ?_
 refine G.V 13 (.ld t4 0) ?_
 refine G.nk K7 ?_
 refine G.cond rfl (fun hc13 => ?_) (fun hc13 => ?_)
 refine G.region ?_
 refine G.M 14 ?_
 refine G.V 15 .bw ?_
 refine G.M 4 ?_
 refine G.nk K6 ?_
 refine G.meet (ι := {q : Nat × Int // q.2 = flagV m}) (fun ⟨⟨g1, fl⟩, hfl⟩ => [(1, .pointer (some ⟨g1, 0, none⟩)), (4, .int .i64 fl)]) (fun ⟨⟨g1, fl⟩, hfl⟩ => [blk g1 [.int .i64 m.kind, .int .i64 m.src, .int .i64 m.lo, .int .i64 m.hi, .int .i64 m.held, .int .i64 m.hops, .bool m.good, .bool m.ref, .int .i64 m.slo, .int .i64 m.shi, .int .i64 m.pulse, .int .i64 m.st, .int .i64 m.sn, .slice ta tl tc] 107]) (fun ⟨⟨g1, fl⟩, hfl⟩ => [row ta tc 174 2 tl (spl l)]) (fun _ K9 => ?_) ?_
 refine G.sr fun _ K10 => ?_
 refine G.V 16 (.fa f107_6 7) ?_
 refine G.V 17 (.ld t4 0) ?_
 refine G.nk K10 ?_
 refine G.cond rfl (fun hc17 => ?_) (fun hc17 => ?_)
 refine G.region ?_
 refine G.M 18 ?_
 refine G.V 19 .bw ?_
 refine G.M 4 ?_
 refine G.nk K9 ?_
 exact G.as ⟨(g1, (0 + 1) + 2), by unfold flagV; simp [*]⟩
 refine G.sk K9 ?_
 exact G.as ⟨(g1, 0 + 1), by unfold flagV; simp [*]⟩
 rintro ⟨⟨g1, fl⟩, hfl⟩
 try dsimp only
 try dsimp only at hfl
 refine G.sr fun _ K11 => ?_
 refine G.V 20 (.fa f107_0 0) ?_
 refine G.V 21 (.ld t3 0) ?_
 refine G.V 22 (.cvi (a := m.kind) k3 k5 rfl) ?_
 refine G.V 23 (.fa f107_1 1) ?_
 refine G.V 24 (.ld t3 0) ?_
 refine G.V 25 (.cvi (a := m.src) k3 k5 rfl) ?_
 refine G.M 26 ?_
 refine G.V 27 (.cvi (a := fl) k3 k5 rfl) ?_
 refine G.V 28 (.fa f107_10 13) ?_
 refine G.V 29 (.ld t58 0) ?_
 refine G.V 30 (.lenl s58) ?_
 refine G.V 31 (.cvi (a := (tl : Int)) k3 k5 rfl) ?_
 refine G.row 32 (.sl s165 z5 [.int .u8 (IntKind.u8.wrap m.kind), .int .u8 (IntKind.u8.wrap m.src), .int .u8 (IntKind.u8.wrap fl), .int .u8 (IntKind.u8.wrap (tl : Int))]) fun g32 => ?_
 refine G.V 33 (.build z178 p178 (cs := #[.slice (some ⟨g32, 0, none⟩) 4 4])) ?_
 refine G.mk 34 .bx fun g34 => ?_
 refine G.M 5 ?_
 refine G.nil ?_
 refine G.asRow 1 4 1 rfl (by decide) ?_
 dsimp only [List.set]
 refine K11 _ _ _ ?_
 refine G.sr fun _ K12 => ?_
 refine G.M 35 ?_
 refine G.V 36 .mfm ?_
 refine G.M 6 ?_
 refine G.nk K12 ?_
 refine G.sr fun _ K13 => ?_
 refine G.M 37 ?_
 refine G.V 38 (.fa f107_2 2) ?_
 refine G.V 39 (.fa f49_0 2) ?_
 refine G.V 40 (.ld t3 2) ?_
 refine G.V 41 (.fa f107_2 2) ?_
 refine G.V 42 (.fa f49_1 3) ?_
 refine G.V 43 (.ld t3 2) ?_
 refine G.V 44 (.fa f107_3 4) ?_
 refine G.V 45 (.ld t3 2) ?_
 refine G.V 46 (.fa f107_4 5) ?_
 refine G.V 47 (.ld t3 2) ?_
 refine G.V 48 (.fa f107_7 8) ?_
 refine G.V 49 (.fa f49_0 8) ?_
 refine G.V 50 (.ld t3 2) ?_
 refine G.V 51 (.fa f107_7 8) ?_
 refine G.V 52 (.fa f49_1 9) ?_
 refine G.V 53 (.ld t3 2) ?_
 refine G.V 54 (.fa f107_8 10) ?_
 refine G.V 55 (.ld t3 2) ?_
 refine G.V 56 (.fa f107_9 11) ?_
 refine G.V 57 (.fa f68_0 11) ?_
 refine G.V 58 (.ld t3 2) ?_
 refine G.V 59 (.fa f107_9 11) ?_
 refine G.V 60 (.fa f68_1 12) ?_
 refine G.V 61 (.ld t3 2) ?_
 refine G.row 62 (.sl s24 z3 [.int .i64 m.lo, .int .i64 m.hi, .int .i64 m.held, .int .i64 m.hops, .int .i64 m.slo, .int .i64 m.shi, .int .i64 m.pulse, .int .i64 m.st, .int .i64 m.sn] (hf := by kernel_rfl)) fun g62 => ?_
 refine G.callm 63 [1, 1] [1]  e77 (w_nums g34 g62 9 4 4 (some ⟨g32, 0, none⟩) (numsM m) [IntKind.u8.wrap m.kind, IntKind.u8.wrap m.src, IntKind.u8.wrap fl, IntKind.u8.wrap (tl : Int)] rfl rfl (by omega)) ?_
 rintro _ _ ⟨rfl, a1, c1, rfl⟩
 refine G.nil ?_
 subst hfl
 refine K13 _ _ _ ?_
 refine G.Z fun _ K14 => ?_
 refine G.sr fun _ K15 => ?_
 refine G.V 64 (.fa f107_10 13) ?_
 refine G.V 65 (.ld t58 3) ?_
 refine G.V 66 (.lenl s58) ?_
 refine G.M 67 ?_
 refine G.nk K15 ?_
 refine G.block ?_
 refine G.only [0, 0, 1] ?_
 refine G.lpR (ι := {z : Nat × Nat × Option Addr × Nat × Nat × List Int // z.1 ≤ tl ∧ z.2.2.2.2.2.length = z.2.2.2.2.1 ∧ z.2.2.2.2.2 = headB m tl ++ numsB (numsM m) ++ tabB (l.take z.1)}) (fun ⟨⟨k, g34, a1, c1, n1, bs1⟩, hj, hb1, hB⟩ => tl - k) (fun ⟨⟨k, g34, a1, c1, n1, bs1⟩, hj, hb1, hB⟩ => [(1, .pointer (some ⟨g1, 0, none⟩)), (5, .pointer (some ⟨g34, 0, none⟩)), (6, .func (.func 77) #[.pointer (some ⟨g34, 0, none⟩)] #[]), (65, .slice ta tl tc), (66, .int .i64 (tl : Int)), (67, .int .i64 (k : Int))]) (fun ⟨⟨k, g34, a1, c1, n1, bs1⟩, hj, hb1, hB⟩ => [blk g34 [.slice a1 n1 c1] 178, row a1 c1 5 1 n1 (u8s bs1), blk g1 [.int .i64 m.kind, .int .i64 m.src, .int .i64 m.lo, .int .i64 m.hi, .int .i64 m.held, .int .i64 m.hops, .bool m.good, .bool m.ref, .int .i64 m.slo, .int .i64 m.shi, .int .i64 m.pulse, .int .i64 m.st, .int .i64 m.sn, .slice ta tl tc] 107]) ?_ ?_
 exact G.at ⟨(0, g34, a1, c1, 76, headB m tl ++ numsB (numsM m)), Nat.zero_le _, by rw [List.length_append, numsB_len]; rfl, by simp [tabB]⟩ (ts := [1, 5, 6, 65, 66, 67]) rfl rfl rfl rfl
 rintro ⟨⟨k, g34, a1, c1, n1, bs1⟩, hj, hb1, hB⟩ _ K16
 try dsimp only at K16 ⊢
 try dsimp only at hj hb1 hB
 have hn1 : n1 = 76 + 16 * k := by rw [← hb1, hB, List.length_append, List.length_append, numsB_len, tabB_len, List.length_take, hl, Nat.min_eq_left hj]; rfl
 refine G.sr fun _ K17 => ?_
 refine G.V 68 .bin ?_
 refine G.nk K17 ?_
 refine G.Z fun _ K18 => ?_
 refine G.cond rfl (fun hc68 => ?_) (fun hc68 => ?_)
 have hk : k < tl := by have := of_decide_eq_true hc68; omega
 obtain ⟨x, hx⟩ : ∃ x, l[k]? = some x := ⟨_, List.getElem?_eq_getElem (by omega)⟩
 have dhc68 := of_decide_eq_true hc68
 refine G.sk K18 ?_
 refine G.Z fun _ K19 => ?_
 refine G.block ?_
 refine G.Z fun _ K20 => ?_
 refine G.base 3 (show 0 < tl by omega) fun b21 hb_ => ?_
 subst hb_
 refine G.region ?_
 refine G.V 69 (.is s58 k hk) ?_
 refine G.V 70 (.lda t174 3 (hv := spl_at hx)) ?_
 refine G.mk 8 (.al z174) fun g8 => ?_
 refine G.sn 0 (.st t174 0) rfl ?_
 refine G.nk K20 ?_
 refine G.region ?_
 refine G.M 71 ?_
 refine G.V 72 (.fa f174_0 0) ?_
 refine G.V 73 (.ld t3 0) ?_
 refine G.V 74 (.fa f174_1 1) ?_
 refine G.V 75 (.ld t3 0) ?_
 refine G.row 76 (.sl s24 z3 [.int .i64 x.1, .int .i64 x.2]) fun g76 => ?_
 refine G.callm 77 [2, 2] [1]  e77 (w_nums g34 g76 2 n1 c1 a1 [x.1, x.2] bs1 rfl hb1 (by omega)) ?_
 rintro _ _ ⟨rfl, a2, c2, rfl⟩
 refine G.nk K19 ?_
 refine G.region ?_
 refine G.V 78 .bw ?_
 refine G.M 67 ?_
 refine G.nil ?_
 refine G.only [0, 0, 2] ?_
 refine K16 _ _ _ ?_
 exact G.ls ⟨(k + 1, g34, a2, c2, n1 + 8 * 2, bs1 ++ numsB [x.1, x.2]), hk, by rw [List.length_append, hb1, numsB_len]; rfl, by rw [hB, tabB_take hx, ← List.append_assoc]⟩
 have hkn : tl = k := by have := of_decide_eq_false hc68; omega
 rw [show l.take k = l from by rw [← hkn, ← hl]; exact List.take_length] at hB
 have dhc68 := of_decide_eq_false hc68
 refine G.exit ?_
 refine K14 _ _ _ ?_
 refine G.Z fun _ K22 => ?_
 refine G.base 1 (show 0 < n1 by omega) fun b23 hb_ => ?_
 subst hb_
 refine G.region ?_
 refine G.M 79 ?_
 refine G.V 80 .nc ?_
 refine G.V 81 (.fa f178_0 0) ?_
 refine G.V 82 (.ld t165 0) ?_
 refine G.C 83 [] [2]  e78 (k_Seal b23 n1 c1 (row (some ⟨b23, 0, none⟩) c1 5 1 n1 (u8s bs1)) _ bs1 (Cel.row _ _ _ _ _ _) (by rw [List.take_of_length_le]; simp [u8s, hb1]) hb1 (by omega)) ?_
 rintro _ _ ⟨g9, rfl, rfl⟩
 refine G.V 84 (.b2s x165_9 0 (l := sealL bs1) (n := n1 + 4) (off := 0) (cs := u8s (sealL bs1)) (by rw [List.drop_zero, List.take_of_length_le (by simp [u8s, sealL, tailC, hb1])]) (by simp [sealL, tailC, hb1])) ?_
 refine G.M2 2 3 ?_
 refine G.nk K22 ?_
 exact G.ret (G.F [] (.two Tryz.results60) ⟨_, _, rfl, fun _ => ⟨by rw [hB, ← hl]; rfl, rfl⟩, fun q => absurd (e11.symm.trans q) (by decide), rfl⟩)
 refine G.sk K6 ?_
 refine G.meet (ι := {q : Nat × Int // q.2 = flagV m}) (fun ⟨⟨g1, fl⟩, hfl⟩ => [(1, .pointer (some ⟨g1, 0, none⟩)), (4, .int .i64 fl)]) (fun ⟨⟨g1, fl⟩, hfl⟩ => [blk g1 [.int .i64 m.kind, .int .i64 m.src, .int .i64 m.lo, .int .i64 m.hi, .int .i64 m.held, .int .i64 m.hops, .bool m.good, .bool m.ref, .int .i64 m.slo, .int .i64 m.shi, .int .i64 m.pulse, .int .i64 m.st, .int .i64 m.sn, .slice ta tl tc] 107]) (fun ⟨⟨g1, fl⟩, hfl⟩ => [row ta tc 174 2 tl (spl l)]) (fun _ K25 => ?_) ?_
 refine G.sr fun _ K26 => ?_
 refine G.V 16 (.fa f107_6 7) ?_
 refine G.V 17 (.ld t4 0) ?_
 refine G.nk K26 ?_
 refine G.cond rfl (fun hc17 => ?_) (fun hc17 => ?_)
 refine G.region ?_
 refine G.M 18 ?_
 refine G.V 19 .bw ?_
 refine G.M 4 ?_
 refine G.nk K25 ?_
 exact G.as ⟨(g1, 0 + 2), by unfold flagV; simp [*]⟩
 refine G.sk K25 ?_
 exact G.as ⟨(g1, 0), by unfold flagV; simp [*]⟩
 rintro ⟨⟨g1, fl⟩, hfl⟩
 try dsimp only
 try dsimp only at hfl
 refine G.sr fun _ K27 => ?_
 refine G.V 20 (.fa f107_0 0) ?_
 refine G.V 21 (.ld t3 0) ?_
 refine G.V 22 (.cvi (a := m.kind) k3 k5 rfl) ?_
 refine G.V 23 (.fa f107_1 1) ?_
 refine G.V 24 (.ld t3 0) ?_
 refine G.V 25 (.cvi (a := m.src) k3 k5 rfl) ?_
 refine G.M 26 ?_
 refine G.V 27 (.cvi (a := fl) k3 k5 rfl) ?_
 refine G.V 28 (.fa f107_10 13) ?_
 refine G.V 29 (.ld t58 0) ?_
 refine G.V 30 (.lenl s58) ?_
 refine G.V 31 (.cvi (a := (tl : Int)) k3 k5 rfl) ?_
 refine G.row 32 (.sl s165 z5 [.int .u8 (IntKind.u8.wrap m.kind), .int .u8 (IntKind.u8.wrap m.src), .int .u8 (IntKind.u8.wrap fl), .int .u8 (IntKind.u8.wrap (tl : Int))]) fun g32 => ?_
 refine G.V 33 (.build z178 p178 (cs := #[.slice (some ⟨g32, 0, none⟩) 4 4])) ?_
 refine G.mk 34 .bx fun g34 => ?_
 refine G.M 5 ?_
 refine G.nil ?_
 refine G.asRow 1 4 1 rfl (by decide) ?_
 dsimp only [List.set]
 refine K27 _ _ _ ?_
 refine G.sr fun _ K28 => ?_
 refine G.M 35 ?_
 refine G.V 36 .mfm ?_
 refine G.M 6 ?_
 refine G.nk K28 ?_
 refine G.sr fun _ K29 => ?_
 refine G.M 37 ?_
 refine G.V 38 (.fa f107_2 2) ?_
 refine G.V 39 (.fa f49_0 2) ?_
 refine G.V 40 (.ld t3 2) ?_
 refine G.V 41 (.fa f107_2 2) ?_
 refine G.V 42 (.fa f49_1 3) ?_
 refine G.V 43 (.ld t3 2) ?_
 refine G.V 44 (.fa f107_3 4) ?_
 refine G.V 45 (.ld t3 2) ?_
 refine G.V 46 (.fa f107_4 5) ?_
 refine G.V 47 (.ld t3 2) ?_
 refine G.V 48 (.fa f107_7 8) ?_
 refine G.V 49 (.fa f49_0 8) ?_
 refine G.V 50 (.ld t3 2) ?_
 refine G.V 51 (.fa f107_7 8) ?_
 refine G.V 52 (.fa f49_1 9) ?_
 refine G.V 53 (.ld t3 2) ?_
 refine G.V 54 (.fa f107_8 10) ?_
 refine G.V 55 (.ld t3 2) ?_
 refine G.V 56 (.fa f107_9 11) ?_
 refine G.V 57 (.fa f68_0 11) ?_
 refine G.V 58 (.ld t3 2) ?_
 refine G.V 59 (.fa f107_9 11) ?_
 refine G.V 60 (.fa f68_1 12) ?_
 refine G.V 61 (.ld t3 2) ?_
 refine G.row 62 (.sl s24 z3 [.int .i64 m.lo, .int .i64 m.hi, .int .i64 m.held, .int .i64 m.hops, .int .i64 m.slo, .int .i64 m.shi, .int .i64 m.pulse, .int .i64 m.st, .int .i64 m.sn] (hf := by kernel_rfl)) fun g62 => ?_
 refine G.callm 63 [1, 1] [1]  e77 (w_nums g34 g62 9 4 4 (some ⟨g32, 0, none⟩) (numsM m) [IntKind.u8.wrap m.kind, IntKind.u8.wrap m.src, IntKind.u8.wrap fl, IntKind.u8.wrap (tl : Int)] rfl rfl (by omega)) ?_
 rintro _ _ ⟨rfl, a1, c1, rfl⟩
 refine G.nil ?_
 subst hfl
 refine K29 _ _ _ ?_
 refine G.Z fun _ K30 => ?_
 refine G.sr fun _ K31 => ?_
 refine G.V 64 (.fa f107_10 13) ?_
 refine G.V 65 (.ld t58 3) ?_
 refine G.V 66 (.lenl s58) ?_
 refine G.M 67 ?_
 refine G.nk K31 ?_
 refine G.block ?_
 refine G.only [0, 0, 1] ?_
 refine G.lpR (ι := {z : Nat × Nat × Option Addr × Nat × Nat × List Int // z.1 ≤ tl ∧ z.2.2.2.2.2.length = z.2.2.2.2.1 ∧ z.2.2.2.2.2 = headB m tl ++ numsB (numsM m) ++ tabB (l.take z.1)}) (fun ⟨⟨k, g34, a1, c1, n1, bs1⟩, hj, hb1, hB⟩ => tl - k) (fun ⟨⟨k, g34, a1, c1, n1, bs1⟩, hj, hb1, hB⟩ => [(1, .pointer (some ⟨g1, 0, none⟩)), (5, .pointer (some ⟨g34, 0, none⟩)), (6, .func (.func 77) #[.pointer (some ⟨g34, 0, none⟩)] #[]), (65, .slice ta tl tc), (66, .int .i64 (tl : Int)), (67, .int .i64 (k : Int))]) (fun ⟨⟨k, g34, a1, c1, n1, bs1⟩, hj, hb1, hB⟩ => [blk g34 [.slice a1 n1 c1] 178, row a1 c1 5 1 n1 (u8s bs1), blk g1 [.int .i64 m.kind, .int .i64 m.src, .int .i64 m.lo, .int .i64 m.hi, .int .i64 m.held, .int .i64 m.hops, .bool m.good, .bool m.ref, .int .i64 m.slo, .int .i64 m.shi, .int .i64 m.pulse, .int .i64 m.st, .int .i64 m.sn, .slice ta tl tc] 107]) ?_ ?_
 exact G.at ⟨(0, g34, a1, c1, 76, headB m tl ++ numsB (numsM m)), Nat.zero_le _, by rw [List.length_append, numsB_len]; rfl, by simp [tabB]⟩ (ts := [1, 5, 6, 65, 66, 67]) rfl rfl rfl rfl
 rintro ⟨⟨k, g34, a1, c1, n1, bs1⟩, hj, hb1, hB⟩ _ K32
 try dsimp only at K32 ⊢
 try dsimp only at hj hb1 hB
 have hn1 : n1 = 76 + 16 * k := by rw [← hb1, hB, List.length_append, List.length_append, numsB_len, tabB_len, List.length_take, hl, Nat.min_eq_left hj]; rfl
 refine G.sr fun _ K33 => ?_
 refine G.V 68 .bin ?_
 refine G.nk K33 ?_
 refine G.Z fun _ K34 => ?_
 refine G.cond rfl (fun hc68 => ?_) (fun hc68 => ?_)
 have hk : k < tl := by have := of_decide_eq_true hc68; omega
 obtain ⟨x, hx⟩ : ∃ x, l[k]? = some x := ⟨_, List.getElem?_eq_getElem (by omega)⟩
 have dhc68 := of_decide_eq_true hc68
 refine G.sk K34 ?_
 refine G.Z fun _ K35 => ?_
 refine G.block ?_
 refine G.Z fun _ K36 => ?_
 refine G.base 3 (show 0 < tl by omega) fun b37 hb_ => ?_
 subst hb_
 refine G.region ?_
 refine G.V 69 (.is s58 k hk) ?_
 refine G.V 70 (.lda t174 3 (hv := spl_at hx)) ?_
 refine G.mk 8 (.al z174) fun g8 => ?_
 refine G.sn 0 (.st t174 0) rfl ?_
 refine G.nk K36 ?_
 refine G.region ?_
 refine G.M 71 ?_
 refine G.V 72 (.fa f174_0 0) ?_
 refine G.V 73 (.ld t3 0) ?_
 refine G.V 74 (.fa f174_1 1) ?_
 refine G.V 75 (.ld t3 0) ?_
 refine G.row 76 (.sl s24 z3 [.int .i64 x.1, .int .i64 x.2]) fun g76 => ?_
 refine G.callm 77 [2, 2] [1]  e77 (w_nums g34 g76 2 n1 c1 a1 [x.1, x.2] bs1 rfl hb1 (by omega)) ?_
 rintro _ _ ⟨rfl, a2, c2, rfl⟩
 refine G.nk K35 ?_
 refine G.region ?_
 refine G.V 78 .bw ?_
 refine G.M 67 ?_
 refine G.nil ?_
 refine G.only [0, 0, 2] ?_
 refine K32 _ _ _ ?_
 exact G.ls ⟨(k + 1, g34, a2, c2, n1 + 8 * 2, bs1 ++ numsB [x.1, x.2]), hk, by rw [List.length_append, hb1, numsB_len]; rfl, by rw [hB, tabB_take hx, ← List.append_assoc]⟩
 have hkn : tl = k := by have := of_decide_eq_false hc68; omega
 rw [show l.take k = l from by rw [← hkn, ← hl]; exact List.take_length] at hB
 have dhc68 := of_decide_eq_false hc68
 refine G.exit ?_
 refine K30 _ _ _ ?_
 refine G.Z fun _ K38 => ?_
 refine G.base 1 (show 0 < n1 by omega) fun b39 hb_ => ?_
 subst hb_
 refine G.region ?_
 refine G.M 79 ?_
 refine G.V 80 .nc ?_
 refine G.V 81 (.fa f178_0 0) ?_
 refine G.V 82 (.ld t165 0) ?_
 refine G.C 83 [] [2]  e78 (k_Seal b39 n1 c1 (row (some ⟨b39, 0, none⟩) c1 5 1 n1 (u8s bs1)) _ bs1 (Cel.row _ _ _ _ _ _) (by rw [List.take_of_length_le]; simp [u8s, hb1]) hb1 (by omega)) ?_
 rintro _ _ ⟨g9, rfl, rfl⟩
 refine G.V 84 (.b2s x165_9 0 (l := sealL bs1) (n := n1 + 4) (off := 0) (cs := u8s (sealL bs1)) (by rw [List.drop_zero, List.take_of_length_le (by simp [u8s, sealL, tailC, hb1])]) (by simp [sealL, tailC, hb1])) ?_
 refine G.M2 2 3 ?_
 refine G.nk K38 ?_
 exact G.ret (G.F [] (.two Tryz.results60) ⟨_, _, rfl, fun _ => ⟨by rw [hB, ← hl]; rfl, rfl⟩, fun q => absurd (e11.symm.trans q) (by decide), rfl⟩)
theorem w_Encode (m : Ms) (l : List (Int × Int)) (hl : l.length = m.tl) (hn : m.tl ≤ 1000) : Spec prog 60 [.agg #[.int .i64 m.kind, .int .i64 m.src, .int .i64 m.lo, .int .i64 m.hi, .int .i64 m.held, .int .i64 m.hops, .bool m.good, .bool m.ref, .int .i64 m.slo, .int .i64 m.shi, .int .i64 m.pulse, .int .i64 m.st, .int .i64 m.sn, .slice m.ta m.tl m.tc]] [] [row m.ta m.tc 174 2 m.tl (spl l)] (fun v Ln => ∃ s e, v = .tuple #[.string s, .int .i64 e] ∧ (goodM m l = true → s = encF m l ∧ e = 0) ∧ (goodM m l = false → s = ⟨#[]⟩ ∧ e = 1) ∧ Ln = []) := w_EncodeV m m.ta m.tl m.tc l hl hn
theorem f170_0 : tfield prog 170 0 = some 0 := by kernel_rfl
theorem s198 : tslice prog 198 = some (172, 1) := by kernel_rfl
theorem t172 : tsz prog 172 = some (false, 1) := by kernel_rfl
def acc1 (a x : Int) : Int := iorV .u64 (shlV .u64 a 8) (IntKind.u64.wrap x)
def accB (l : List Int) : Int := l.foldl acc1 0
def val8 (bs : List Int) (p : Nat) : Int := IntKind.i64.wrap (accB ((bs.drop p).take 8))
def putV : List Value → List Nat → List Int → Nat → List Value
 | cs, [], _, _ => cs
 | cs, x :: xs, bs, p => putV (cs.set x (.int .i64 (val8 bs p))) xs bs (p + 8)
theorem putV_snoc : ∀ (offs : List Nat) (cs : List Value) (bs : List Int) (p off : Nat), putV cs (offs ++ [off]) bs p = (putV cs offs bs p).set off (.int .i64 (val8 bs (p + 8 * offs.length)))
 | [], cs, bs, p, off => rfl
 | x :: xs, cs, bs, p, off => by
  show putV (cs.set x _) (xs ++ [off]) bs (p + 8) = _
  rw [putV_snoc xs, List.length_cons, show p + 8 + 8 * xs.length = p + 8 * (xs.length + 1) from by omega]
  rfl
theorem putV_len : ∀ (offs : List Nat) (cs : List Value) (bs : List Int) (p : Nat), (putV cs offs bs p).length = cs.length
 | [], cs, bs, p => rfl
 | x :: xs, cs, bs, p => by show (putV (cs.set x _) xs bs (p + 8)).length = _; rw [putV_len xs, List.length_set]
theorem putV_take {offs : List Nat} {cs : List Value} {bs : List Int} {p k off : Nat} (h : offs[k]? = some off) : putV cs (offs.take (k + 1)) bs p = (putV cs (offs.take k) bs p).set off (.int .i64 (val8 bs (p + 8 * k))) := by
 have hk : k < offs.length := (List.getElem?_eq_some_iff.1 h).1
 rw [List.take_add_one, h]
 show putV cs (offs.take k ++ [off]) bs p = _
 rw [putV_snoc, List.length_take, Nat.min_eq_left (by omega)]
def ptrs (gm : Nat) (offs : List Nat) : List Value := offs.map fun o => .pointer (some ⟨gm, o, none⟩)
theorem ptrs_at {gm : Nat} {offs : List Nat} {k off : Nat} (h : offs[k]? = some off) : (ptrs gm offs)[0 + k * 1]? = some (.pointer (some ⟨gm, off, none⟩)) := by simp [ptrs, h]
theorem acc_take {bs : List Int} {p i : Nat} {x : Int} (h : bs[p + i * 1]? = some x) : accB ((bs.drop p).take (i + 1)) = acc1 (accB ((bs.drop p).take i)) x := by
 unfold accB
 rw [List.take_add_one, List.getElem?_drop, show p + i = p + i * 1 from by omega, h, List.foldl_append]
 rfl
theorem r_nums (gr g gp gm : Nat) (e : Ent) (T : TypeId) (cb cs0 : List Value) (bs : List Int) (offs : List Nat) (o n k q : Nat) (hce : Cel e g cb) (hcb : ∀ (j : Nat) (x : Int), bs[j]? = some x → cb[j]? = some (Value.int .u8 x)) (hq : offs.length = q) (hqn : q ≤ 1000) (hoff : ∀ x ∈ offs, x < cs0.length) (hn8 : 8 * q ≤ n) (hnk : n ≤ k) (hlen : o + n ≤ bs.length) : Spec prog 75 [.pointer (some ⟨gr, 0, none⟩), .slice (some ⟨gp, 0, none⟩) q q] [blk gr [.slice (some ⟨g, o, none⟩) n k] 170, blk gm cs0 T] [blk gp (ptrs gm offs) 172, e] (fun v Ln => v = .tuple #[] ∧ ∃ o', (0 < k - 8 * q → o' = o + 8 * q) ∧ Ln = [blk gr [.slice (some ⟨g, o', none⟩) (n - 8 * q) (k - 8 * q)] 170, blk gm (putV cs0 offs bs o) T]) := by
 refine Spec.en func75 ntmps75 fun w0 => ?_
 refine G.sr fun _ K1 => ?_
 refine G.M 9 ?_
 refine G.V 10 (.lenl s198) ?_
 refine G.M 11 ?_
 refine G.nk K1 ?_
 refine G.block ?_
 refine G.lpR (ι := {z : Nat × Nat × Nat × Nat × List Value // z.1 ≤ q ∧ (z.2.2.1 = n - 8 * z.1 ∧ z.2.2.2.1 = k - 8 * z.1) ∧ (0 < z.2.2.2.1 → z.2.1 = o + 8 * z.1) ∧ z.2.2.2.2 = putV cs0 (offs.take z.1) bs o}) (fun ⟨⟨j, o1, n1, k1, cm⟩, hj, hnk1, ho1, hcm⟩ => q - j) (fun ⟨⟨j, o1, n1, k1, cm⟩, hj, hnk1, ho1, hcm⟩ => [(0, .pointer (some ⟨gr, 0, none⟩)), (9, .slice (some ⟨gp, 0, none⟩) q q), (10, .int .i64 (q : Int)), (11, .int .i64 (j : Int))]) (fun ⟨⟨j, o1, n1, k1, cm⟩, hj, hnk1, ho1, hcm⟩ => [blk gr [.slice (some ⟨g, o1, none⟩) n1 k1] 170, blk gm cm T]) ?_ ?_
 exact G.at ⟨(0, o, n, k, cs0), Nat.zero_le _, ⟨rfl, rfl⟩, fun _ => rfl, rfl⟩ (ts := [0, 9, 10, 11]) rfl rfl rfl rfl
 rintro ⟨⟨j, o1, n1, k1, cm⟩, hj, hnk1, ho1, hcm⟩ _ K2
 try dsimp only at K2 ⊢
 try dsimp only at hj hnk1 ho1 hcm
 have hcl : cm.length = cs0.length := by rw [hcm, putV_len]
 refine G.sr fun _ K3 => ?_
 refine G.V 12 .bin ?_
 refine G.nk K3 ?_
 refine G.Z fun _ K4 => ?_
 refine G.cond rfl (fun hc12 => ?_) (fun hc12 => ?_)
 have hk : j < q := by have := of_decide_eq_true hc12; omega
 obtain ⟨off, hoff1⟩ : ∃ off, offs[j]? = some off := ⟨_, List.getElem?_eq_getElem (by omega)⟩
 have hol := hoff off (List.mem_of_getElem? hoff1)
 have hoj : o1 = o + 8 * j := ho1 (by omega)
 have dhc12 := of_decide_eq_true hc12
 refine G.sk K4 ?_
 refine G.Z fun _ K5 => ?_
 refine G.block ?_
 refine G.sr fun _ K6 => ?_
 refine G.V 13 (.is s198 j hk) ?_
 refine G.V 14 (.ld t172 2 (hv := ptrs_at hoff1)) ?_
 refine G.M 5 ?_
 refine G.nk K6 ?_
 refine G.sr fun _ K7 => ?_
 refine G.M 6 ?_
 refine G.nk K7 ?_
 refine G.Z fun _ K8 => ?_
 refine G.sr fun _ K9 => ?_
 refine G.M 15 ?_
 refine G.V 16 .nc ?_
 refine G.V 17 (.fa f170_0 0) ?_
 refine G.V 18 (.ld t165 0) ?_
 refine G.V 19 (.shi s165 8 (show 8 ≤ k1 by omega)) ?_
 refine G.V 20 (.lenl s165) ?_
 refine G.M 21 ?_
 refine G.nk K9 ?_
 refine G.block ?_
 refine G.lpR (ι := {z : Nat × Int // z.1 ≤ 8 ∧ z.2 = accB ((bs.drop o1).take z.1)}) (fun ⟨⟨i, y⟩, hi8, hy⟩ => 8 - i) (fun ⟨⟨i, y⟩, hi8, hy⟩ => [(0, .pointer (some ⟨gr, 0, none⟩)), (9, .slice (some ⟨gp, 0, none⟩) q q), (10, .int .i64 (q : Int)), (11, .int .i64 (j : Int)), (5, .pointer (some ⟨gm, off, none⟩)), (6, .int .u64 y), (19, .slice (some ⟨g, o1, none⟩) 8 k1), (20, .int .i64 (8 : Int)), (21, .int .i64 (i : Int))]) (fun ⟨⟨i, y⟩, hi8, hy⟩ => [blk gr [.slice (some ⟨g, o1, none⟩) n1 k1] 170, blk gm cm T]) ?_ ?_
 exact G.at ⟨(0, 0), Nat.zero_le _, rfl⟩ (ts := [0, 9, 10, 11, 5, 6, 19, 20, 21]) rfl rfl rfl rfl
 rintro ⟨⟨i, y⟩, hi8, hy⟩ _ K10
 try dsimp only at K10 ⊢
 try dsimp only at hi8 hy
 refine G.sr fun _ K11 => ?_
 refine G.V 22 .bin ?_
 refine G.nk K11 ?_
 refine G.Z fun _ K12 => ?_
 refine G.cond rfl (fun hc22 => ?_) (fun hc22 => ?_)
 have hi : i < 8 := by have := of_decide_eq_true hc22; omega
 obtain ⟨x, hx⟩ : ∃ x, bs[o1 + i * 1]? = some x := ⟨_, List.getElem?_eq_getElem (by omega)⟩
 have dhc22 := of_decide_eq_true hc22
 refine G.sk K12 ?_
 refine G.Z fun _ K13 => ?_
 refine G.block ?_
 refine G.sr fun _ K14 => ?_
 refine G.V 23 (.is s165 i (show i < 8 by omega)) ?_
 refine G.V 24 (.ld t5 3 (hv := hcb _ _ hx) (hc := hce)) ?_
 refine G.M 8 ?_
 refine G.nk K14 ?_
 refine G.region ?_
 refine G.M 25 ?_
 refine G.V 26 (.sh 8 (.inl ⟨rfl, rfl⟩)) ?_
 refine G.M 27 ?_
 refine G.V 28 (.cvi (a := x) k5 k143 rfl) ?_
 refine G.V 29 .bin ?_
 refine G.M 6 ?_
 refine G.nk K13 ?_
 refine G.region ?_
 refine G.V 30 .bw ?_
 refine G.M 21 ?_
 refine G.nk K10 ?_
 exact G.ls ⟨(i + 1, acc1 y x), by dsimp only; omega, by dsimp only; rw [acc_take hx, ← hy]⟩
 have hi : i = 8 := by have := of_decide_eq_false hc22; omega
 subst hi
 have dhc22 := of_decide_eq_false hc22
 refine G.exit ?_
 refine K8 _ _ _ ?_
 refine G.draw 14 [0] [] [13] ?_
 refine D.V 0 31 1 .mv ?_
 refine D.V 1 32 3 .mv ?_
 refine D.V 2 33 7 .mv ?_
 refine D.V 3 34 15 (.cvi (a := y) k143 k3 rfl) ?_
 refine D.V 4 35 31 .mv ?_
 refine D.V 5 36 63 .nc ?_
 refine D.V 6 37 127 (.fa f170_0 0) ?_
 refine D.T 7 38 255 (.ld t165 0) [0] [] ?_
 refine D.V 8 39 511 (.slo' s165 8 (show 8 ≤ n1 by omega) (show n1 ≤ k1 by omega)) ?_
 refine D.V 9 40 1023 .nc ?_
 refine D.sto 10 2047 1 (.st t3 1 (hl := by show off + 1 ≤ cm.length; omega)) [0] []  rfl ?_
 dsimp only [List.set, sets, Value.cells, List.zipIdx, List.foldl]
 refine G.eqL [blk gr [.slice (some ⟨g, o1, none⟩) n1 k1] 170, blk gm (cm.set off (.int .i64 (IntKind.i64.wrap y))) T] (by rfl) ?_
 refine D.V 11 41 4095 .nc ?_
 refine D.V 12 42 8191 (.fa f170_0 0) ?_
 refine D.last 13 16383 0 (.st t165 0) rfl ?_
 dsimp only [List.set, sets, Value.cells, List.zipIdx, List.foldl]
 refine D.done ?_
 refine K5 _ _ _ ?_
 refine G.region ?_
 refine G.V 43 .bw ?_
 refine G.M 11 ?_
 refine G.nk K2 ?_
 exact G.ls ⟨(j + 1, if 8 < k1 then o1 + 8 * 1 else o1, n1 - 8, k1 - 8, cm.set off (.int .i64 (IntKind.i64.wrap y))), hk, ⟨by dsimp only; omega, by dsimp only; omega⟩, fun q => by dsimp only at q ⊢; rw [if_pos (by omega)]; omega, by dsimp only; rw [putV_take hoff1, ← hcm, ← hoj, hy]; rfl⟩
 have hkn : q = j := by have := of_decide_eq_false hc12; omega
 rw [show offs.take j = offs from by rw [← hkn, ← hq]; exact List.take_length] at hcm
 have dhc12 := of_decide_eq_false hc12
 refine G.exit ?_
 exact G.fin0 [0, 0] (.nil Tryz.results75) ⟨rfl, o1, fun q => by rw [ho1 (by omega)]; omega, show [blk gr [.slice (some ⟨g, o1, none⟩) n1 k1] 170, blk gm cm T] = _ from by rw [hcm, hnk1.1, hnk1.2, hkn]⟩
end Go.Proofs.YtbmhgopjblnfnaaGreat.S
