/- The walks, the protocol's law: part 4. -/
import Derived.Test.YtbmhgopjblnfnaaGreatRateA3
set_option linter.unusedVariables false
set_option linter.unusedSimpArgs false
set_option maxHeartbeats 4000000
set_option maxRecDepth 100000
namespace Go.Proofs.YtbmhgopjblnfnaaGreat.S
open Go Go.Proofs Go.RowKit Go.Proofs.YtbmhgopjblnfnaaGreatW.PrintLast Tryz
theorem e23 : Is prog 23 := ⟨_, func23, by kernel_rfl, rfl⟩
theorem e36 : Is prog 36 := ⟨_, func36, by kernel_rfl, rfl⟩
theorem p70 : tplaces prog 70 = some [(0, 2), (2, 1), (3, 1), (4, 1), (5, 1), (6, 1), (7, 1), (8, 2), (10, 1)] := by kernel_rfl
theorem p93 : tplaces prog 93 = some [(0, 12), (12, 1), (13, 1), (14, 1)] := by kernel_rfl
theorem y81 : tbytes prog 81 = some (4, 40) := by kernel_rfl
theorem z93 : tzero prog 93 = some [.int .i64 0, .int .i64 0, .int .i64 0, .int .i64 0, .int .i64 0, .int .i64 0, .int .i64 0, .int .i64 0, .int .i64 0, .int .i64 0, .int .i64 0, .int .i64 0, .int .i64 0, .slice none 0 0, .slice none 0 0] := by kernel_rfl
theorem ints_at2 {l : List Int} {k : Nat} {c : Int} (h : l[k]? = some c) : (ints l)[0 + k * 1]? = some (.int .i64 c) := by simp [ints, h]
theorem kindG {u : Uc} (h : u.who < 16) (e : u.t = 119) : kindOf u := by unfold kindOf; rw [if_pos h]; exact e
theorem kindN {u : Uc} (h : ¬ u.who < 16) (e : u.t = 123) : kindOf u := by unfold kindOf; rw [if_neg h]; exact e
theorem gates_w {us : List Uc} {k : Nat} {X : Nat → Ux} (h : UsZ (gatesL k) us X) : us.length = k := by have := congrArg List.length h.1.who; simpa [gatesL] using this
theorem nodes_w {us : List Uc} {n k : Nat} {X : Nat → Ux} (h : UsZ (gatesL n ++ nodesL k) us X) : us.length = n + k := by have := congrArg List.length h.1.who; simpa [gatesL, nodesL] using this
theorem bothL_len (us : List Uc) (ls : List (Int × Int)) (a b : Int) : (bothL us ls a b).length ≤ ls.length + 2 := by
 unfold bothL
 split
 ·have h1 := joinL_len us (joinL us ls (IntKind.i64.wrap (16 + a)) (IntKind.i64.wrap (16 + b))) (IntKind.i64.wrap (16 + b)) (IntKind.i64.wrap (16 + a))
  have h2 := joinL_len us ls (IntKind.i64.wrap (16 + a)) (IntKind.i64.wrap (16 + b))
  omega
 ·omega
theorem w_New (p : Par) (hokb : okB p = true) (n nn : Nat) (hn : p.n = (n : Int)) (hn0 : 0 < n) (hn7 : n ≤ 7) (hnn : nn ≤ 6) (ca ka : Option Addr) (cn cc kn kc : Nat) (core : List Int) (hcl : core.length = cn) (hcn : cn ≤ 20) (links : List (Int × Int)) (hkl : links.length = kn) (hkn : kn ≤ 40) : Spec prog 21 [.agg #[.int .i64 p.n, .int .i64 p.f, .int .i64 p.d, .int .i64 p.beat, .int .i64 p.rho, .int .i64 p.delay, .int .i64 p.jitter, .int .i64 p.eps, .int .i64 p.mu, .int .i64 p.hold, .int .i64 p.pulse, .int .i64 p.second], .int .i64 (nn : Int), .slice ca cn cc, .slice ka kn kc] [] [view ca cc 3 1 cn (ints core), view ka kc 72 2 kn (spl links)] (fun v Ln => ∃ gw ub uc us X wa wc wn ls, v = .tuple #[.pointer (some ⟨gw, 0, none⟩), .int .i64 0] ∧ UsZ (gatesL n ++ nodesL nn) us X ∧ ls = linkJ us links (allJ us n core n) ∧ ls.length = wn ∧ wn ≤ 300 ∧ Ln = [blk gw (pC p [.int .i64 0, .slice (some ⟨ub, 0, none⟩) (n + nn) uc, .slice wa wn wc]) 93, row (some ⟨ub, 0, none⟩) uc 81 4 (n + nn) (ucl us), row wa wc 72 2 wn (spl ls), manyE (unL p us 0 X), manyE (lanL us 0 fun _ => noQ)]) := by
 refine Spec.en func21 ntmps21 fun w0 => ?_
 refine G.sr fun _ K1 => ?_
 refine G.mk 4 .bx fun g4 => ?_
 refine G.M2 8 9 ?_
 refine G.nk K1 ?_
 refine G.Z fun _ K2 => ?_
 refine G.sr fun _ K3 => ?_
 refine G.V 19 (.lda t23 0 (vs := [.int .i64 p.n, .int .i64 p.f, .int .i64 p.d, .int .i64 p.beat, .int .i64 p.rho, .int .i64 p.delay, .int .i64 p.jitter, .int .i64 p.eps, .int .i64 p.mu, .int .i64 p.hold, .int .i64 p.pulse, .int .i64 p.second])) ?_
 refine G.cp 20 [] []  e23 ((l_Check p).mono (fun v Ln h => (⟨by rw [h.1, if_pos hokb], h.2⟩ : v = .int .i64 0 ∧ Ln = []))) ?_
 refine G.V 21 (.cast .bin (nf (by omega))) ?_
 refine G.M2 22 23 ?_
 refine G.V 24 (.cast .bin (bf (by omega))) ?_
 refine G.V 25 .pick ?_
 refine G.M2 26 27 ?_
 refine G.V 28 (.cast .bin (bf (by omega))) ?_
 refine G.V 29 .pick ?_
 refine G.nk K3 ?_
 refine G.no rfl ?_
 refine G.sk K2 ?_
 refine G.sr fun _ K4 => ?_
 refine G.V 30 (.lda t23 0 (vs := [.int .i64 p.n, .int .i64 p.f, .int .i64 p.d, .int .i64 p.beat, .int .i64 p.rho, .int .i64 p.delay, .int .i64 p.jitter, .int .i64 p.eps, .int .i64 p.mu, .int .i64 p.hold, .int .i64 p.pulse, .int .i64 p.second])) ?_
 refine G.V 31 (.build z93 p93 (cs := #[.int .i64 p.n, .int .i64 p.f, .int .i64 p.d, .int .i64 p.beat, .int .i64 p.rho, .int .i64 p.delay, .int .i64 p.jitter, .int .i64 p.eps, .int .i64 p.mu, .int .i64 p.hold, .int .i64 p.pulse, .int .i64 p.second, .int .i64 0, .slice none 0 0, .slice none 0 0]) (hf := by kernel_rfl)) ?_
 refine G.mk 32 .bx fun gw => ?_
 refine G.M 10 ?_
 refine G.nk K4 ?_
 refine G.Z fun _ K5 => ?_
 refine G.sr fun _ K6 => ?_
 refine G.V 33 (.fa f23_0 0) ?_
 refine G.V 34 (.ld t3 1) ?_
 refine G.M 35 ?_
 refine G.nil ?_
 refine G.newRow 174 2 ?_
 refine G.newRow 81 4 ?_
 refine G.addE (e := manyE (lanL [] 0 fun _ => noQ)) rfl (fun _ _ h => nomatch h) ?_
 refine G.addE (e := manyE (unL p [] 0 fun _ => ⟨zeroS, [], [], 0, 0, 0⟩)) rfl (fun _ _ h => nomatch h) ?_
 refine K6 _ _ _ ?_
 refine G.block ?_
 refine G.lpR (ι := {z : Nat × List Uc × (Nat → Ux) × Option Addr × Nat // z.1 ≤ n ∧ UsZ (gatesL z.1) z.2.1 z.2.2.1}) (fun ⟨⟨k, us, X, ua, uc⟩, hj, hU⟩ => n - k) (fun ⟨⟨k, us, X, ua, uc⟩, hj, hU⟩ => [(1, .int .i64 (nn : Int)), (2, .slice ca cn cc), (3, .slice ka kn kc), (4, .pointer (some ⟨g4, 0, none⟩)), (10, .pointer (some ⟨gw, 0, none⟩)), (34, .int .i64 (n : Int)), (35, .int .i64 (k : Int))]) (fun ⟨⟨k, us, X, ua, uc⟩, hj, hU⟩ => [manyE (unL p us 0 X), manyE (lanL us 0 fun _ => noQ), row ua uc 81 4 k (ucl us), row none 0 174 2 0 ([]), blk gw (pC p [.int .i64 0, .slice ua k uc, .slice none 0 0]) 93, blk g4 (pC p []) 23]) ?_ ?_
 exact G.at ⟨(0, [], fun _ => ⟨zeroS, [], [], 0, 0, 0⟩, none, 0), Nat.zero_le _, ⟨rfl, (fun _ h => nomatch h), fun i u h => by simp at h⟩, fun _ => rfl⟩ (ts := [1, 2, 3, 4, 10, 34, 35]) rfl (by rw [hn]; try rfl) rfl rfl
 rintro ⟨⟨k, us, X, ua, uc⟩, hj, hU⟩ _ K7
 try dsimp only at K7 ⊢
 try dsimp only at hj hU
 have hul := gates_w hU
 refine G.sr fun _ K8 => ?_
 refine G.V 36 .bin ?_
 refine G.nk K8 ?_
 refine G.Z fun _ K9 => ?_
 refine G.cond rfl (fun hc36 => ?_) (fun hc36 => ?_)
 have hk : k < n := by have := of_decide_eq_true hc36; omega
 refine G.sk K9 ?_
 refine G.Z fun _ K10 => ?_
 refine G.block ?_
 refine G.sr fun _ K11 => ?_
 refine G.M2 37 11 ?_
 refine G.nk K11 ?_
 refine G.draw 14 [4] [] [13] ?_
 refine D.V 0 38 1 .mv ?_
 refine D.V 1 39 3 .mv ?_
 refine D.V 2 40 7 .nc ?_
 refine D.V 3 41 15 (.fa f93_2 13) ?_
 refine D.V 5 43 47 .mv ?_
 refine D.V 6 44 111 .mv ?_
 refine D.V 7 45 239 (.build z70 p70) ?_
 refine D.T 4 42 255 (.ld t91 0) [4] [] ?_
 refine D.C 8 46 511 [] [6, 5] [4] []  e34 ((u_gate gw p 0 ua none k uc 0 0 (k : Int) zeroS [] rfl (by decide) (by omega)).vw2) ?_
 rintro _ _ ⟨gn, lb, cs, s', l2, rfl, hSR, hl2, hg2, hLan, rfl⟩
 refine D.ev 9 1023 ?_
 refine E.row 9 47 (.one s91 z81 [.int .i64 (k : Int), .iface 119 (.pointer (some ⟨gn, 0, none⟩)), .pointer (some ⟨gn, 0, none⟩), .pointer (some ⟨lb, 0, none⟩)]) [7] []  fun g47 => ?_
 refine D.chg 10 48 2047 6 (.app s91 z81 y81 6 0 (show k + 1 ≤ 1048576 by omega)) [8] []  ?_
 rintro _ _ ⟨a12, c13, rfl, rfl⟩
 dsimp only [List.set]
 refine D.V 11 49 4095 .nc ?_
 refine D.V 12 50 8191 (.fa f93_2 13) ?_
 refine D.last 13 16383 8 (.st t91 8) rfl ?_
 dsimp only [List.set, sets, Value.cells, List.zipIdx, List.foldl]
 refine D.done ?_
 refine G.only [1, 1, 1, 1, 1, 0, 0, 0, 0, 0] ?_
 refine G.addG (t := 119) (by omega) hLan ?_
 refine K10 _ _ _ ?_
 refine G.region ?_
 refine G.V 51 .bw ?_
 refine G.M 35 ?_
 refine G.nil ?_
 refine G.only [0, 0, 1, 1, 1, 1] ?_
 refine K7 _ _ _ ?_
 exact G.less ⟨(k + 1, us ++ [⟨(k : Int), 119, gn, lb⟩], setX X us.length ⟨s', l2, [], 0, 0, 0⟩, a12, c13), hk, by dsimp only; rw [gatesL_snoc]; exact hU.snoc ⟨(k : Int), 119, gn, lb⟩ _ (kindG (by show (k : Int) < 16; omega) rfl) (fresh_ok hl2 hg2) rfl⟩ (ts := [1, 2, 3, 4, 10, 34, 35]) (by dsimp only; omega) rfl rfl (by first | rfl | (dsimp only; rw [ucl_snoc]; rfl)) rfl
 have hkn : n = k := by have := of_decide_eq_false hc36; omega
 subst hkn
 refine G.exit ?_
 refine K5 _ _ _ ?_
 refine G.Z fun _ K14 => ?_
 refine G.sr fun _ K15 => ?_
 refine G.M2 52 53 ?_
 refine G.nk K15 ?_
 refine G.block ?_
 refine G.lpR (ι := {z : Nat × List Uc × (Nat → Ux) × Option Addr × Nat // z.1 ≤ nn ∧ UsZ (gatesL n ++ nodesL z.1) z.2.1 z.2.2.1}) (fun ⟨⟨k, us, X, ua, uc⟩, hj, hU⟩ => nn - k) (fun ⟨⟨k, us, X, ua, uc⟩, hj, hU⟩ => [(1, .int .i64 (nn : Int)), (2, .slice ca cn cc), (3, .slice ka kn kc), (4, .pointer (some ⟨g4, 0, none⟩)), (10, .pointer (some ⟨gw, 0, none⟩)), (52, .int .i64 (nn : Int)), (53, .int .i64 (k : Int))]) (fun ⟨⟨k, us, X, ua, uc⟩, hj, hU⟩ => [manyE (unL p us 0 X), manyE (lanL us 0 fun _ => noQ), row ua uc 81 4 (n + k) (ucl us), row none 0 174 2 0 ([]), blk gw (pC p [.int .i64 0, .slice ua (n + k) uc, .slice none 0 0]) 93, blk g4 (pC p []) 23]) ?_ ?_
 exact G.at ⟨(0, us, X, ua, uc), Nat.zero_le _, by dsimp only; rw [show gatesL n ++ nodesL 0 = gatesL n from by simp [nodesL]]; exact hU⟩ (ts := [1, 2, 3, 4, 10, 52, 53]) rfl rfl rfl rfl
 rintro ⟨⟨k, us, X, ua, uc⟩, hj, hU⟩ _ K16
 try dsimp only at K16 ⊢
 try dsimp only at hj hU
 have hul := nodes_w hU
 refine G.sr fun _ K17 => ?_
 refine G.V 54 .bin ?_
 refine G.nk K17 ?_
 refine G.Z fun _ K18 => ?_
 refine G.cond rfl (fun hc54 => ?_) (fun hc54 => ?_)
 have hk : k < nn := by have := of_decide_eq_true hc54; omega
 refine G.sk K18 ?_
 refine G.Z fun _ K19 => ?_
 refine G.block ?_
 refine G.sr fun _ K20 => ?_
 refine G.M2 55 12 ?_
 refine G.nk K20 ?_
 refine G.draw 15 [4] [] [14] ?_
 refine D.V 0 56 1 .mv ?_
 refine D.V 1 57 3 .mv ?_
 refine D.V 2 58 7 .nc ?_
 refine D.V 3 59 15 (.fa f93_2 13) ?_
 refine D.V 5 61 47 .mv ?_
 refine D.V 6 62 111 .mv ?_
 refine D.V 7 63 239 .bw ?_
 refine D.V 8 64 495 (.build z70 p70) ?_
 refine D.T 4 60 511 (.ld t91 0) [4] [] ?_
 refine D.C 9 65 1023 [] [6, 5] [4] []  e34 ((u_node gw p 0 ua none (n + k) uc 0 0 (16 + (k : Int)) zeroS [] rfl (by decide) (by omega)).vw2) ?_
 rintro _ _ ⟨gn, tb, r, lb, cs, s', l2, rfl, hSR, hl2, hg2, hLan, rfl⟩
 refine D.ev 10 2047 ?_
 refine E.row 10 66 (.one s91 z81 [.int .i64 (16 + (k : Int)), .iface 123 (.pointer (some ⟨gn, 0, none⟩)), .pointer (some ⟨gn, 0, none⟩), .pointer (some ⟨lb, 0, none⟩)]) [9] []  fun g66 => ?_
 refine D.chg 11 67 4095 8 (.app s91 z81 y81 8 0 (show (n + k) + 1 ≤ 1048576 by omega)) [10] []  ?_
 rintro _ _ ⟨a21, c22, rfl, rfl⟩
 dsimp only [List.set]
 refine D.V 12 68 8191 .nc ?_
 refine D.V 13 69 16383 (.fa f93_2 13) ?_
 refine D.last 14 32767 10 (.st t91 10) rfl ?_
 dsimp only [List.set, sets, Value.cells, List.zipIdx, List.foldl]
 refine D.done ?_
 refine G.only [1, 1, 1, 1, 1, 1, 1, 0, 0, 0, 0, 0] ?_
 refine G.addN (t := 123) (by omega) hLan ?_
 refine K19 _ _ _ ?_
 refine G.region ?_
 refine G.V 70 .bw ?_
 refine G.M 53 ?_
 refine G.nil ?_
 refine G.only [0, 0, 1, 1, 1, 1] ?_
 refine K16 _ _ _ ?_
 exact G.less ⟨(k + 1, us ++ [⟨16 + (k : Int), 123, gn, lb⟩], setX X us.length ⟨s', l2, [], 0, tb, r⟩, a21, c22), hk, by dsimp only; rw [nodesL_snoc, ← List.append_assoc]; exact hU.snoc ⟨16 + (k : Int), 123, gn, lb⟩ _ (kindN (by show ¬ (16 + (k : Int)) < 16; omega) rfl) (fresh_ok hl2 hg2) rfl⟩ (ts := [1, 2, 3, 4, 10, 52, 53]) (by dsimp only; omega) rfl rfl (by first | rfl | (dsimp only; rw [ucl_snoc]; rfl)) rfl
 have hkn2 : k = nn := by have := of_decide_eq_false hc54; omega
 refine G.exit ?_
 refine K14 _ _ _ ?_
 refine G.Z fun _ K23 => ?_
 refine G.Z fun _ K24 => ?_
 refine G.base 2 (show 0 < n + k by omega) fun ub hb_ => ?_
 subst hb_
 obtain ⟨un, hun⟩ : ∃ x, x = n + k := ⟨_, rfl⟩
 rw [← hun] at hul ⊢
 refine G.newRow 72 2 ?_
 refine G.region ?_
 refine G.V 71 (.fa f23_0 0) ?_
 refine G.V 72 (.ld t3 6) ?_
 refine G.M 73 ?_
 refine G.nk K24 ?_
 refine G.block ?_
 refine G.only [1, 1, 1, 2, 0, 1] ?_
 refine G.lpR (ι := {z : Nat × Option Addr × Nat × Nat × List (Int × Int) // z.1 ≤ n ∧ z.2.2.2.2 = allJ us n core z.1 ∧ z.2.2.2.2.length = z.2.2.2.1 ∧ z.2.2.2.1 ≤ z.1 * 27}) (fun ⟨⟨i, wa, wc, wn, ls⟩, hi, hls, hll, hwn⟩ => n - i) (fun ⟨⟨i, wa, wc, wn, ls⟩, hi, hls, hll, hwn⟩ => [(1, .int .i64 (nn : Int)), (2, .slice ca cn cc), (3, .slice ka kn kc), (4, .pointer (some ⟨g4, 0, none⟩)), (10, .pointer (some ⟨gw, 0, none⟩)), (72, .int .i64 (n : Int)), (73, .int .i64 (i : Int))]) (fun ⟨⟨i, wa, wc, wn, ls⟩, hi, hls, hll, hwn⟩ => [manyE (unL p us 0 X), manyE (lanL us 0 fun _ => noQ), row (some ⟨ub, 0, none⟩) uc 81 4 un (ucl us), blk gw (pC p [.int .i64 0, .slice (some ⟨ub, 0, none⟩) un uc, .slice wa wn wc]) 93, row wa wc 72 2 wn (spl ls), blk g4 (pC p []) 23]) ?_ ?_
 exact G.at ⟨(0, none, 0, 0, []), Nat.zero_le _, rfl, rfl, Nat.zero_le _⟩ (ts := [1, 2, 3, 4, 10, 72, 73]) rfl (by rw [hn]; try rfl) rfl rfl
 rintro ⟨⟨i, wa, wc, wn, ls⟩, hi, hls, hll, hwn⟩ _ K25
 try dsimp only at K25 ⊢
 try dsimp only at hi hls hll hwn
 refine G.sr fun _ K26 => ?_
 refine G.V 74 .bin ?_
 refine G.nk K26 ?_
 refine G.Z fun _ K27 => ?_
 refine G.cond rfl (fun hc74 => ?_) (fun hc74 => ?_)
 have hi2 : i < n := by have := of_decide_eq_true hc74; omega
 refine G.sk K27 ?_
 refine G.Z fun _ K28 => ?_
 refine G.block ?_
 refine G.sr fun _ K29 => ?_
 refine G.M2 75 13 ?_
 refine G.nk K29 ?_
 refine G.Z fun _ K30 => ?_
 refine G.sr fun _ K31 => ?_
 refine G.V 76 (.fa f23_0 0) ?_
 refine G.V 77 (.ld t3 5) ?_
 refine G.M 78 ?_
 refine G.nk K31 ?_
 refine G.block ?_
 refine G.lpR (ι := {z : Nat × Option Addr × Nat × Nat × List (Int × Int) // z.1 ≤ n ∧ z.2.2.2.2 = gateJ us (i : Int) z.1 (allJ us n core i) ∧ z.2.2.2.2.length = z.2.2.2.1 ∧ z.2.2.2.1 ≤ i * 27 + z.1}) (fun ⟨⟨k, wa, wc, wn, ls⟩, hk0, hls2, hll, hwn2⟩ => n - k) (fun ⟨⟨k, wa, wc, wn, ls⟩, hk0, hls2, hll, hwn2⟩ => [(1, .int .i64 (nn : Int)), (2, .slice ca cn cc), (3, .slice ka kn kc), (4, .pointer (some ⟨g4, 0, none⟩)), (10, .pointer (some ⟨gw, 0, none⟩)), (13, .int .i64 (i : Int)), (72, .int .i64 (n : Int)), (73, .int .i64 (i : Int)), (77, .int .i64 (n : Int)), (78, .int .i64 (k : Int))]) (fun ⟨⟨k, wa, wc, wn, ls⟩, hk0, hls2, hll, hwn2⟩ => [manyE (unL p us 0 X), manyE (lanL us 0 fun _ => noQ), row (some ⟨ub, 0, none⟩) uc 81 4 un (ucl us), blk gw (pC p [.int .i64 0, .slice (some ⟨ub, 0, none⟩) un uc, .slice wa wn wc]) 93, row wa wc 72 2 wn (spl ls), blk g4 (pC p []) 23]) ?_ ?_
 exact G.at ⟨(0, wa, wc, wn, ls), Nat.zero_le _, hls, hll, by dsimp only; omega⟩ (ts := [1, 2, 3, 4, 10, 13, 72, 73, 77, 78]) rfl (by rw [hn]; try rfl) rfl rfl
 rintro ⟨⟨k, wa, wc, wn, ls⟩, hk0, hls2, hll, hwn2⟩ _ K32
 try dsimp only at K32 ⊢
 try dsimp only at hk0 hls2 hll hwn2
 refine G.sr fun _ K33 => ?_
 refine G.V 79 .bin ?_
 refine G.nk K33 ?_
 refine G.Z fun _ K34 => ?_
 refine G.cond rfl (fun hc79 => ?_) (fun hc79 => ?_)
 have hk : k < n := by have := of_decide_eq_true hc79; omega
 refine G.sk K34 ?_
 refine G.Z fun _ K35 => ?_
 refine G.block ?_
 refine G.sr fun _ K36 => ?_
 refine G.M2 80 14 ?_
 refine G.nk K36 ?_
 refine G.region ?_
 refine G.M3 81 82 83 ?_
 refine G.V 84 (.build z72 p72 (cs := #[.int .i64 (i : Int), .int .i64 (k : Int)]) (hf := by kernel_rfl)) ?_
 refine G.C 85 [3, 3] [4]  e35 (w_join gw ub un uc p 0 us hul (by omega) wa wn wc ls hll (by omega) (i : Int) (k : Int)) ?_
 rintro _ _ ⟨rfl, wa1, wc1, wn1, l1, hJ1, hl1, rfl⟩
 have hb1 : wn1 ≤ wn + 1 := by have := joinL_len us ls (i : Int) (k : Int); rw [← hJ1] at this; omega
 refine G.nk K35 ?_
 refine G.region ?_
 refine G.V 86 .bw ?_
 refine G.M 78 ?_
 refine G.nil ?_
 refine G.only [2, 2, 2, 0, 0, 0] ?_
 refine K32 _ _ _ ?_
 exact G.ls ⟨(k + 1, wa1, wc1, wn1, l1), hk, by dsimp only; rw [gateJ_next, ← hls2]; exact hJ1, hl1, by dsimp only; omega⟩
 have hkn : n = k := by have := of_decide_eq_false hc79; omega
 rw [← hkn] at hls2 hwn2
 refine G.exit ?_
 refine K30 _ _ _ ?_
 refine G.sr fun _ K37 => ?_
 refine G.M 87 ?_
 refine G.V 88 (.lenl s24) ?_
 refine G.M 89 ?_
 refine G.nk K37 ?_
 refine G.block ?_
 refine G.lpR (ι := {z : Nat × Option Addr × Nat × Nat × List (Int × Int) // z.1 ≤ cn ∧ z.2.2.2.2 = coreJ us (i : Int) (core.take z.1) (gateJ us (i : Int) n (allJ us n core i)) ∧ z.2.2.2.2.length = z.2.2.2.1 ∧ z.2.2.2.1 ≤ i * 27 + n + z.1}) (fun ⟨⟨q, wa, wc, wn, ls⟩, hq0, hls3, hll, hwn3⟩ => cn - q) (fun ⟨⟨q, wa, wc, wn, ls⟩, hq0, hls3, hll, hwn3⟩ => [(1, .int .i64 (nn : Int)), (2, .slice ca cn cc), (3, .slice ka kn kc), (4, .pointer (some ⟨g4, 0, none⟩)), (10, .pointer (some ⟨gw, 0, none⟩)), (13, .int .i64 (i : Int)), (72, .int .i64 (n : Int)), (73, .int .i64 (i : Int)), (87, .slice ca cn cc), (88, .int .i64 (cn : Int)), (89, .int .i64 (q : Int))]) (fun ⟨⟨q, wa, wc, wn, ls⟩, hq0, hls3, hll, hwn3⟩ => [manyE (unL p us 0 X), manyE (lanL us 0 fun _ => noQ), row (some ⟨ub, 0, none⟩) uc 81 4 un (ucl us), blk gw (pC p [.int .i64 0, .slice (some ⟨ub, 0, none⟩) un uc, .slice wa wn wc]) 93, row wa wc 72 2 wn (spl ls), blk g4 (pC p []) 23]) ?_ ?_
 exact G.at ⟨(0, wa, wc, wn, ls), Nat.zero_le _, by dsimp only; rw [hls2]; rfl, hll, by dsimp only; omega⟩ (ts := [1, 2, 3, 4, 10, 13, 72, 73, 87, 88, 89]) rfl rfl rfl rfl
 rintro ⟨⟨q, wa, wc, wn, ls⟩, hq0, hls3, hll, hwn3⟩ _ K38
 try dsimp only at K38 ⊢
 try dsimp only at hq0 hls3 hll hwn3
 refine G.sr fun _ K39 => ?_
 refine G.V 90 .bin ?_
 refine G.nk K39 ?_
 refine G.Z fun _ K40 => ?_
 refine G.cond rfl (fun hc90 => ?_) (fun hc90 => ?_)
 have hq : q < cn := by have := of_decide_eq_true hc90; omega
 obtain ⟨c, hc⟩ : ∃ x, core[q]? = some x := ⟨_, List.getElem?_eq_getElem (by omega)⟩
 refine G.sk K40 ?_
 refine G.Z fun _ K41 => ?_
 refine G.block ?_
 refine G.Z fun _ K42 => ?_
 refine G.vbase 6 (show 0 < cn by omega) fun b43 ob43 hb_ => ?_
 subst hb_
 refine G.region ?_
 refine G.V 91 (.is s24 q hq) ?_
 refine G.V 92 (.ldo t3 6 (hv := ints_at2 hc)) ?_
 refine G.M 16 ?_
 refine G.nk K42 ?_
 refine G.sr fun _ K44 => ?_
 refine G.M 93 ?_
 refine G.V 94 .bin ?_
 refine G.M 95 ?_
 cases hg45 : (decide (c ≥ 0) : Bool)
 refine G.O2 96 97 ?_
 refine G.V 98 .pick ?_
 refine G.nk K44 ?_
 refine G.no rfl ?_
 refine G.sk K41 ?_
 refine G.region ?_
 refine G.V 105 .bw ?_
 refine G.M 89 ?_
 refine G.nk K38 ?_
 exact G.ls ⟨(q + 1, wa, wc, wn, ls), hq, by dsimp only; rw [coreJ_take hc, ← hls3]; unfold coreJ1; exact (if_neg (by first | (rw [‹decide (c ≥ 0) = false›]; intro h; simp at h; done) | (rw [‹decide (c < 32) = false›]; intro h; simp at h; done))).symm, hll, by dsimp only; omega⟩
 refine G.M 96 ?_
 refine G.V 97 .bin ?_
 refine G.V 98 .pick ?_
 refine G.nk K44 ?_
 refine G.cond rfl (fun hc98 => ?_) (fun hc98 => ?_)
 refine G.region ?_
 refine G.M3 99 100 101 ?_
 refine G.V 102 (.cast .bin (wi (by have := of_decide_eq_true ‹decide (c ≥ 0) = true›; have := of_decide_eq_true ‹decide (c < 32) = true›; omega) (by have := of_decide_eq_true ‹decide (c ≥ 0) = true›; have := of_decide_eq_true ‹decide (c < 32) = true›; omega))) ?_
 refine G.V 103 (.build z72 p72 (cs := #[.int .i64 (i : Int), .int .i64 (16 + c)]) (hf := by kernel_rfl)) ?_
 refine G.C 104 [3, 3] [4]  e35 (w_join gw ub un uc p 0 us hul (by omega) wa wn wc ls hll (by omega) (i : Int) (16 + c)) ?_
 rintro _ _ ⟨rfl, wa1, wc1, wn1, l1, hJ1, hl1, rfl⟩
 have hb1 : wn1 ≤ wn + 1 := by have := joinL_len us ls (i : Int) (16 + c); rw [← hJ1] at this; omega
 refine G.nk K41 ?_
 refine G.region ?_
 refine G.V 105 .bw ?_
 refine G.M 89 ?_
 refine G.nil ?_
 refine G.only [2, 2, 2, 0, 0, 0] ?_
 refine K38 _ _ _ ?_
 exact G.ls ⟨(q + 1, wa1, wc1, wn1, l1), hq, by dsimp only; rw [coreJ_take hc, ← hls3]; unfold coreJ1; rw [if_pos (by rw [‹decide (c ≥ 0) = true›, ‹decide (c < 32) = true›]; rfl)]; exact hJ1, hl1, by dsimp only; omega⟩
 refine G.sk K41 ?_
 refine G.region ?_
 refine G.V 105 .bw ?_
 refine G.M 89 ?_
 refine G.nk K38 ?_
 exact G.ls ⟨(q + 1, wa, wc, wn, ls), hq, by dsimp only; rw [coreJ_take hc, ← hls3]; unfold coreJ1; exact (if_neg (by first | (rw [‹decide (c ≥ 0) = false›]; intro h; simp at h; done) | (rw [‹decide (c < 32) = false›]; intro h; simp at h; done))).symm, hll, by dsimp only; omega⟩
 have hqn : cn = q := by have := of_decide_eq_false hc90; omega
 rw [show core.take q = core from by rw [← hqn, ← hcl]; exact List.take_length] at hls3
 refine G.exit ?_
 refine K28 _ _ _ ?_
 refine G.region ?_
 refine G.V 106 .bw ?_
 refine G.M 73 ?_
 refine G.nk K25 ?_
 exact G.ls ⟨(i + 1, wa, wc, wn, ls), hi2, by dsimp only; rw [allJ_next, hls3], hll, by dsimp only; omega⟩
 have hin : n = i := by have := of_decide_eq_false hc74; omega
 rw [← hin] at hls hwn
 refine G.exit ?_
 refine K23 _ _ _ ?_
 refine G.Z fun _ K46 => ?_
 refine G.sr fun _ K47 => ?_
 refine G.M 107 ?_
 refine G.V 108 (.lenl s25) ?_
 refine G.M 109 ?_
 refine G.nk K47 ?_
 refine G.block ?_
 refine G.lpR (ι := {z : Nat × Option Addr × Nat × Nat × List (Int × Int) // z.1 ≤ kn ∧ z.2.2.2.2 = linkJ us (links.take z.1) (allJ us n core n) ∧ z.2.2.2.2.length = z.2.2.2.1 ∧ z.2.2.2.1 ≤ n * 27 + 2 * z.1}) (fun ⟨⟨q, wa, wc, wn, ls⟩, hq0, hls4, hll, hwn4⟩ => kn - q) (fun ⟨⟨q, wa, wc, wn, ls⟩, hq0, hls4, hll, hwn4⟩ => [(1, .int .i64 (nn : Int)), (2, .slice ca cn cc), (3, .slice ka kn kc), (4, .pointer (some ⟨g4, 0, none⟩)), (10, .pointer (some ⟨gw, 0, none⟩)), (107, .slice ka kn kc), (108, .int .i64 (kn : Int)), (109, .int .i64 (q : Int))]) (fun ⟨⟨q, wa, wc, wn, ls⟩, hq0, hls4, hll, hwn4⟩ => [manyE (unL p us 0 X), manyE (lanL us 0 fun _ => noQ), row (some ⟨ub, 0, none⟩) uc 81 4 un (ucl us), blk gw (pC p [.int .i64 0, .slice (some ⟨ub, 0, none⟩) un uc, .slice wa wn wc]) 93, row wa wc 72 2 wn (spl ls), blk g4 (pC p []) 23]) ?_ ?_
 exact G.at ⟨(0, wa, wc, wn, ls), Nat.zero_le _, hls, hll, by dsimp only; omega⟩ (ts := [1, 2, 3, 4, 10, 107, 108, 109]) rfl rfl rfl rfl
 rintro ⟨⟨q, wa, wc, wn, ls⟩, hq0, hls4, hll, hwn4⟩ _ K48
 try dsimp only at K48 ⊢
 try dsimp only at hq0 hls4 hll hwn4
 refine G.sr fun _ K49 => ?_
 refine G.V 110 .bin ?_
 refine G.nk K49 ?_
 refine G.Z fun _ K50 => ?_
 refine G.cond rfl (fun hc110 => ?_) (fun hc110 => ?_)
 have hq : q < kn := by have := of_decide_eq_true hc110; omega
 obtain ⟨y, hy⟩ : ∃ x, links[q]? = some x := ⟨_, List.getElem?_eq_getElem (by omega)⟩
 refine G.sk K50 ?_
 refine G.Z fun _ K51 => ?_
 refine G.block ?_
 refine G.Z fun _ K52 => ?_
 refine G.vbase 7 (show 0 < kn by omega) fun b53 ob53 hb_ => ?_
 subst hb_
 refine G.region ?_
 refine G.V 111 (.is s25 q hq) ?_
 refine G.V 112 (.ldao t72 7 (hv := spl_at hy)) ?_
 refine G.mk 18 (.al z72) fun g18 => ?_
 refine G.sn 0 (.st t72 0) rfl ?_
 refine G.nk K52 ?_
 refine G.region ?_
 refine G.M 113 ?_
 refine G.V 114 (.lda t72 0 (vs := [.int .i64 y.1, .int .i64 y.2])) ?_
 refine G.C 115 [4, 4] [5]  e36 (w_both gw ub un uc p 0 us hul (by omega) wa wn wc ls hll (by omega) y.1 y.2) ?_
 rintro _ _ ⟨rfl, wa1, wc1, wn1, l1, hJ1, hl1, rfl⟩
 have hb1 : wn1 ≤ wn + 2 := by have := bothL_len us ls y.1 y.2; rw [← hJ1] at this; omega
 refine G.nk K51 ?_
 refine G.region ?_
 refine G.V 116 .bw ?_
 refine G.M 109 ?_
 refine G.nil ?_
 refine G.only [3, 3, 3, 0, 0, 1] ?_
 refine K48 _ _ _ ?_
 exact G.ls ⟨(q + 1, wa1, wc1, wn1, l1), hq, by dsimp only; rw [linkJ_take hy, ← hls4]; exact hJ1, hl1, by dsimp only; omega⟩
 have hqn : kn = q := by have := of_decide_eq_false hc110; omega
 rw [show links.take q = links from by rw [← hqn, ← hkl]; exact List.take_length] at hls4
 refine G.exit ?_
 refine K46 _ _ _ ?_
 refine G.sr fun _ K54 => ?_
 refine G.M3 117 8 9 ?_
 refine G.nk K54 ?_
 refine G.ret ?_
 subst hkn2
 subst hun
 exact G.F [3, 2, 2, 0, 0] (.two Tryz.results21) ⟨gw, ub, uc, us, X, wa, wc, wn, ls, rfl, hU, hls4, hll, by omega, rfl⟩
end Go.Proofs.YtbmhgopjblnfnaaGreat.S
namespace Go.Proofs.YtbmhgopjblnfnaaGreat.S
open Go Go.RowKit Go.Proofs.YtbmhgopjblnfnaaGreatW.PrintLast Tryz
structure Wd where
 (gw ub un uc : Nat)
 us : List Uc
 X : Nat → Ux
 wa : Option Addr
 (wn wc : Nat)
 ls : List (Int × Int)
 q : Qs
 tm : Int
def wdC (p : Par) (W : Wd) : List Value := parC p ++ [Value.int .i64 W.tm, Value.slice (some ⟨W.ub, 0, none⟩) W.un W.uc, Value.slice W.wa W.wn W.wc]
def worldP (p : Par) (W : Wd) : List Ent := [blk W.gw (wdC p W) 93, row (some ⟨W.ub, 0, none⟩) W.uc 81 4 W.un (ucl W.us), row W.wa W.wc 72 2 W.wn (spl W.ls), manyE (unL p W.us 0 W.X), manyE (lanL W.us 0 W.q)]
def worldE (p : Par) (W : Wd) : Ent := manyE (worldP p W)
structure WdOk (n nn : Nat) (W : Wd) : Prop where
 us : UsI (gatesL n ++ nodesL nn) W.us W.X
 un : W.us.length = W.un
 wn : W.ls.length = W.wn ∧ W.wn ≤ 300
 nd : W.ls.Nodup
 ends : ∀ y ∈ W.ls, hasW W.us y.1 = true ∧ hasW W.us y.2 = true ∧ y.1 ≠ y.2
section
variable {n nn : Nat} {W : Wd}
theorem gn_mem {n nn : Nat} {a : Int} : a ∈ gatesL n ++ nodesL nn ↔ (0 ≤ a ∧ a < n) ∨ (16 ≤ a ∧ a < 16 + nn) := by
 unfold gatesL nodesL
 simp only [List.mem_append, List.mem_map, List.mem_range]
 constructor
 ·rintro (⟨i, h, rfl⟩ | ⟨i, h, rfl⟩)
  ·exact .inl (by omega)
  ·exact .inr (by omega)
 ·rintro (h | h)
  ·exact .inl ⟨a.toNat, by omega, by omega⟩
  ·exact .inr ⟨(a - 16).toNat, by omega, by omega⟩
theorem gn_nodup (h : n ≤ 16) : (gatesL n ++ nodesL nn).Nodup := by
 rw [List.nodup_append]
 refine ⟨?_, ?_, fun a ha b hb e => ?_⟩
 ·unfold gatesL
  rw [List.nodup_iff_pairwise_ne, List.pairwise_map]
  exact List.Pairwise.imp (fun h e => h (by omega)) (List.nodup_iff_pairwise_ne.1 (List.nodup_range (n := n)))
 ·unfold nodesL
  rw [List.nodup_iff_pairwise_ne, List.pairwise_map]
  exact List.Pairwise.imp (fun h e => h (by omega)) (List.nodup_iff_pairwise_ne.1 (List.nodup_range (n := nn)))
 ·unfold gatesL at ha
  unfold nodesL at hb
  obtain ⟨i, hi, rfl⟩ := List.mem_map.1 ha
  obtain ⟨j, hj, rfl⟩ := List.mem_map.1 hb
  have := List.mem_range.1 hi
  omega
theorem WdOk.nodup (h : WdOk n nn W) (hn : n ≤ 16) : (W.us.map (·.who)).Nodup := by rw [h.us.who]; exact gn_nodup hn
theorem WdOk.mem (h : WdOk n nn W) {u : Uc} (hu : u ∈ W.us) : (0 ≤ u.who ∧ u.who < n) ∨ (16 ≤ u.who ∧ u.who < 16 + nn) := gn_mem.1 (by rw [← h.us.who]; exact List.mem_map_of_mem hu)
theorem WdOk.w48 (h : WdOk n nn W) (hn : n ≤ 16) (hk : nn ≤ 32) : ∀ u ∈ W.us, 0 ≤ u.who ∧ u.who < 48 := fun u hu => by
 have := h.mem hu
 omega
theorem WdOk.len (h : WdOk n nn W) : W.us.length = n + nn := by have := congrArg List.length h.us.who; simpa [gatesL, nodesL] using this
theorem WdOk.has (h : WdOk n nn W) {a : Int} : hasW W.us a = true ↔ (0 ≤ a ∧ a < n) ∨ (16 ≤ a ∧ a < 16 + nn) := by
 rw [← gn_mem, ← h.us.who]
 unfold hasW
 rw [List.any_eq_true, List.mem_map]
 simp only [beq_iff_eq]
theorem WdOk.ex (h : WdOk n nn W) {a : Int} (ha : (0 ≤ a ∧ a < n) ∨ (16 ≤ a ∧ a < 16 + nn)) : ∃ (i : Nat) (u : Uc), W.us[i]? = some u ∧ u.who = a ∧ u ∈ W.us := by
 have : a ∈ W.us.map (·.who) := by rw [h.us.who]; exact gn_mem.2 ha
 obtain ⟨u, hu, e⟩ := List.mem_map.1 this
 obtain ⟨i, hi, e2⟩ := List.getElem_of_mem hu
 exact ⟨i, u, by rw [List.getElem?_eq_getElem hi, e2], e, hu⟩
end
theorem world_mem {p : Par} {W : Wd} {w : World} (h : (worldE p W).H w) {e : Ent} (he : e ∈ worldP p W) : e.H w := h e he
theorem world_own {p : Par} {W : Wd} {e : Ent} (he : e ∈ worldP p W) : ∀ k ∈ e.own, k ∈ (worldE p W).own := fun k hk => mem_ids.2 ⟨e, he, hk⟩
theorem unL_mem {p : Par} {us : List Uc} {X : Nat → Ux} {i : Nat} {u : Uc} (h : us[i]? = some u) : unitE p u (X i) ∈ unL p us 0 X := List.mem_of_getElem? (by rw [unL_at h, Nat.zero_add])
theorem front_mem {p : Par} {W : Wd} {i : Nat} {u : Uc} (h : W.us[i]? = some u) {w : World} (hw : (worldE p W).H w) : (frontE p u (W.X i)).H w := hw (manyE (unL p W.us 0 W.X)) (by simp [worldP]) _ (unL_mem h) _ (List.mem_cons_self ..)
theorem front_own {p : Par} {W : Wd} {i : Nat} {u : Uc} (h : W.us[i]? = some u) : ∀ k ∈ (frontE p u (W.X i)).own, k ∈ (worldE p W).own := fun k hk => by
 refine world_own (e := manyE (unL p W.us 0 W.X)) (by simp [worldP]) k ?_
 exact mem_ids.2 ⟨_, unL_mem h, mem_ids.2 ⟨_, List.mem_cons_self .., hk⟩⟩
theorem Spec.ofW {P : Program} {f : FuncId} {args : List Value} {p : Par} {W : Wd} {Rf : List Ent} {post : Value → List Ent → Prop} (sp : Spec P f args [] Rf post) (h : ∀ w, (worldE p W).H w → ∀ e ∈ Rf, e.H w) (ho : ∀ k ∈ ids Rf, k ∈ (worldE p W).own) : Spec P f args [] [worldE p W] post :=
 Spec.rd sp (fun w hw => h w (hw _ (List.mem_cons_self ..))) fun k hk => by simpa [ids] using ho k hk
theorem x_Time (p : Par) (W : Wd) : Spec prog 18 [.pointer (some ⟨W.gw, 0, none⟩)] [] [worldE p W] (fun v Ln => v = .int .i64 W.tm ∧ Ln = []) :=
 Spec.ofW (w_Time W.gw W.ub W.un W.uc W.wn W.wc W.wa p W.tm) (fun w hw e he => by simp at he; subst he; exact world_mem hw (by simp [worldP, wdC, parC])) fun k hk => by
  simp only [ids, List.flatMap_cons, List.flatMap_nil, List.append_nil] at hk
  exact world_own (e := blk W.gw (wdC p W) 93) (by simp [worldP]) k hk
theorem x_Front (p : Par) (W : Wd) {n nn : Nat} (h : WdOk n nn W) (hn : n ≤ 16) (hk : nn ≤ 32) (i : Nat) (u : Uc) (hu : W.us[i]? = some u) (who : Int) (hw : u.who = who) : Spec prog 12 [.pointer (some ⟨W.gw, 0, none⟩), .int .i64 who] [] [worldE p W] (fun v Ln => v = .pointer (some ⟨u.g, 0, none⟩) ∧ Ln = []) :=
 Spec.ofW (w_Front W.gw W.ub W.un W.uc W.wn W.wc W.wa p W.tm W.us h.un (by have := h.len; have := h.un; omega) who (h.nodup hn) i u hu hw) (fun w hw e he => by
  simp only [List.mem_cons, List.not_mem_nil, or_false] at he
  rcases he with rfl | rfl
  ·exact world_mem hw (by simp [worldP, wdC, parC])
  ·exact world_mem hw (by simp [worldP])) fun k hk => by
  simp only [ids, List.flatMap_cons, List.flatMap_nil, List.append_nil, List.mem_append] at hk
  rcases hk with hk | hk
  ·exact world_own (e := blk W.gw (wdC p W) 93) (by simp [worldP]) k hk
  ·exact world_own (e := row (some ⟨W.ub, 0, none⟩) W.uc 81 4 W.un (ucl W.us)) (by simp [worldP]) k hk
theorem x_user {p : Par} {W : Wd} {i : Nat} {u : Uc} (hu : W.us[i]? = some u) {f : FuncId} {args : List Value} {post : Value → Prop} (h : ∀ rs T, Spec prog f args [] [blk u.g (parC p ++ (staC (W.X i).s ++ rs)) T] (fun v Ln => post v ∧ Ln = [])) : Spec prog f args [] [worldE p W] (fun v Ln => post v ∧ Ln = []) := by
 have e : ∃ rs T, frontE p u (W.X i) = blk u.g (parC p ++ (staC (W.X i).s ++ rs)) T := by
  unfold frontE
  split
  ·exact ⟨_, _, by unfold gateC; rw [List.append_assoc]⟩
  ·exact ⟨_, _, by unfold nodeC; rw [List.append_assoc]⟩
 obtain ⟨rs, T, e⟩ := e
 refine Spec.ofW (h rs T) (fun w hw x hx => ?_) fun k hk => ?_
 ·simp at hx; subst hx; rw [← e]; exact front_mem hu hw
 ·simp only [ids, List.flatMap_cons, List.flatMap_nil, List.append_nil] at hk
  rw [← e] at hk
  exact front_own hu k hk
theorem x_Health {p : Par} {W : Wd} {i : Nat} {u : Uc} (hu : W.us[i]? = some u) : Spec prog 19 [.pointer (some ⟨u.g, 0, none⟩)] [] [worldE p W] (fun v Ln => v = .int .i64 (healthV p (W.X i).s) ∧ Ln = []) := x_user hu fun rs T => f_Health u.g p (W.X i).s rs T
theorem x_Now {p : Par} {W : Wd} {i : Nat} {u : Uc} (hu : W.us[i]? = some u) (hh : errV p (W.X i).s = 0) : Spec prog 13 [.pointer (some ⟨u.g, 0, none⟩)] [] [worldE p W] (fun v Ln => v = .tuple #[.int .i64 (W.X i).s.time, .int .i64 0] ∧ Ln = []) := x_user hu fun rs T => f_Now u.g p (W.X i).s rs T hh
theorem x_Beat (pw : List Int) (hpw : pw.length = 20) (p : Par) (f : Nat) (hf : p.f = (f : Int)) (hp7 : p.n ≤ 7) (he : 0 ≤ p.eps) (hd1 : p.d ≤ 16) (hd0 : 0 ≤ p.d) (W : Wd) {n nn : Nat} (h : WdOk n nn W) (hn : n ≤ 16) (hk : nn ≤ 32) (ta ra ga qa : Option Addr) (tn tc rn rc gn gc qn qc : Nat) (tks : List (Int × Int)) (rds : List Rd) (ags : List Ag) (lies : List Li) (htl : tks.length = tn) (hrdl : rds.length = rn) (hgl : ags.length = gn) (htn : tn ≤ 100000) (hrn : rn ≤ 100000) (hgn : gn ≤ 100000) (hql : lies.length = qn) (hqn : qn ≤ 100000) (hT0 : TickOK p p.beat) (hA0 : AgeOK p (sbC p.beat p.delay)) (htk : ∀ x ∈ tks, TickOK p x.2) (hag : ∀ x ∈ ags, AgeOK p x.t) (hrb : ∀ x ∈ rds, -1152921504606846976 ≤ x.rd ∧ x.rd ≤ 1152921504606846976) :
  Spec prog 22 [.pointer (some ⟨W.gw, 0, none⟩), .agg #[.slice ta tn tc, .slice ra rn rc, .slice ga gn gc, .slice none 0 0, .slice qa qn qc, .slice none 0 0, .slice none 0 0, .slice none 0 0]] [worldE p W] [row ta tc 87 2 tn (spl tks), row ra rc 60 5 rn (rdl rds), row ga gc 89 3 gn (agl ags), row qa qc 74 3 qn (lil lies), blk 2 (u64s pw) 319] (fun v Ln => v = .int .i64 0 ∧ ∃ X M Q, BeatW p f W.us W.ls lies rds W.q W.X X M Q ∧ Ln = [worldE p { W with X := X, q := Q, tm := addL [W.tm, p.beat] }]) := by
 have sp := w_Beat pw hpw W.gw W.ub W.un W.uc p f hf hp7 he hd1 hd0 W.tm W.us h.un (by have := h.len; have := h.un; omega) (h.nodup hn) (h.w48 hn hk) h.us.kind W.wa W.wn W.wc W.ls h.wn.1 (by have := h.wn; omega) h.nd (fun y hy => (h.ends y hy).2.1) ta ra ga qa tn tc rn rc gn gc qn qc tks rds ags lies htl hrdl hgl htn hrn hgn hql hqn hT0 hA0 htk hag hrb W.q W.X (fun i u hu => h.us.ok i u hu)
 refine Spec.frame fun w h1 h2 h3 => ?_
 have hW := h1 _ (List.mem_cons_self ..)
 refine ⟨[blk W.gw (wdC p W) 93, manyE (unL p W.us 0 W.X), manyE (lanL W.us 0 W.q)], [row (some ⟨W.ub, 0, none⟩) W.uc 81 4 W.un (ucl W.us), row W.wa W.wc 72 2 W.wn (spl W.ls)], _, _, ?_, ?_, ?_, sp, ?_, ?_, ?_⟩
 ·intro e he
  refine world_mem hW ?_
  simp only [List.mem_cons, List.not_mem_nil, or_false] at he
  rcases he with rfl | rfl | rfl <;> simp [worldP]
 ·intro e he
  refine world_mem hW ?_
  simp only [List.mem_cons, List.not_mem_nil, or_false] at he
  rcases he with rfl | rfl <;> simp [worldP]
 ·refine perm_of fun k => ?_
  simp only [ids, List.flatMap_cons, List.flatMap_nil, List.append_nil, List.count_append, worldE, worldP]
  show _ = List.count k (ids _)
  simp only [ids, List.flatMap_cons, List.flatMap_nil, List.append_nil, List.count_append]
  omega
 ·intro e he
  simp only [List.mem_cons, List.not_mem_nil, or_false] at he
  rcases he with rfl | rfl | rfl | rfl | rfl | rfl | rfl
  ·exact world_mem hW (by simp [worldP])
  ·exact world_mem hW (by simp [worldP])
  ·exact h2 _ (by simp)
  ·exact h2 _ (by simp)
  ·exact h2 _ (by simp)
  ·exact h2 _ (by simp)
  ·exact h2 _ (by simp)
 ·intro k hk
  simp only [ids, List.flatMap_cons, List.flatMap_nil, List.append_nil, List.mem_append] at hk ⊢
  rcases hk with q | q | q | q | q | q | q
  ·exact .inr (.inl q)
  ·exact .inr (.inr q)
  ·exact .inl (.inl q)
  ·exact .inl (.inr (.inl q))
  ·exact .inl (.inr (.inr (.inl q)))
  ·exact .inl (.inr (.inr (.inr (.inl q))))
  ·exact .inl (.inr (.inr (.inr (.inr q))))
 ·rintro w' v Ln ⟨hv, X, M, Q, hB, rfl⟩ hl hb
  refine ⟨[worldE p { W with X := X, q := Q, tm := addL [W.tm, p.beat] }], [], ⟨hv, X, M, Q, hB, rfl⟩, ?_, ?_⟩
  ·refine perm_of fun k => ?_
   simp only [ids, List.flatMap_cons, List.flatMap_nil, List.append_nil, List.count_append, worldE, worldP]
   show List.count k (ids _) = _
   simp only [ids, List.flatMap_cons, List.flatMap_nil, List.append_nil, List.count_append, blk]
   omega
  ·intro e he
   simp only [List.mem_cons, List.not_mem_nil, or_false] at he
   subst he
   intro e he
   simp only [worldP, List.mem_cons, List.not_mem_nil, or_false] at he
   rcases he with rfl | rfl | rfl | rfl | rfl
   ·exact hl _ (by simp [wdC, parC])
   ·exact hb _ (by simp)
   ·exact hb _ (by simp)
   ·exact hl _ (by simp)
   ·exact hl _ (by simp)
end Go.Proofs.YtbmhgopjblnfnaaGreat.S
namespace Go.Proofs.YtbmhgopjblnfnaaGreat.S
open Go Go.Proofs Go.RowKit Go.Proofs.YtbmhgopjblnfnaaGreatW.PrintLast Tryz
theorem e10 : Is prog 10 := ⟨_, func10, by kernel_rfl, rfl⟩
theorem e18 : Is prog 18 := ⟨_, func18, by kernel_rfl, rfl⟩
theorem e22 : Is prog 22 := ⟨_, func22, by kernel_rfl, rfl⟩
theorem e27 : Is prog 27 := ⟨_, func27, by kernel_rfl, rfl⟩
theorem f30_8 : tfield prog 30 8 = some 19 := by kernel_rfl
theorem f44_1 : tfield prog 44 1 = some 20 := by kernel_rfl
theorem f44_3 : tfield prog 44 3 = some 22 := by kernel_rfl
theorem p60 : tplaces prog 60 = some [(0, 1), (1, 1), (2, 1), (3, 1), (4, 1)] := by kernel_rfl
theorem p74 : tplaces prog 74 = some [(0, 2), (2, 1)] := by kernel_rfl
theorem p87 : tplaces prog 87 = some [(0, 1), (1, 1)] := by kernel_rfl
theorem p89 : tplaces prog 89 = some [(0, 2), (2, 1)] := by kernel_rfl
theorem t28 : tsz prog 28 = some (false, 1) := by kernel_rfl
theorem t42 : tsz prog 42 = some (false, 1) := by kernel_rfl
theorem y60 : tbytes prog 60 = some (5, 56) := by kernel_rfl
theorem y74 : tbytes prog 74 = some (3, 32) := by kernel_rfl
theorem y87 : tbytes prog 87 = some (2, 16) := by kernel_rfl
theorem y89 : tbytes prog 89 = some (3, 24) := by kernel_rfl
theorem z65 : tzero prog 65 = some [.slice none 0 0, .slice none 0 0, .slice none 0 0, .slice none 0 0, .slice none 0 0, .slice none 0 0, .slice none 0 0, .slice none 0 0] := by kernel_rfl
def RdsOk (p : Par) (refs : Bool) (T : Int) (rds : List Rd) : Prop := (∀ x ∈ rds, x.is = refs ∧ T - p.eps ≤ x.rd ∧ x.rd ≤ T + p.eps) ∧ ∀ i : Int, 0 ≤ i → i < p.n - p.f → ∃ x ∈ rds, x.gate = i
def LiesOk (p : Par) (lies : List Li) : Prop := ∀ x ∈ lies, p.n - p.f ≤ x.a
theorem strs_g {l : List ByteArray} {k : Nat} (h : k < l.length) : (strs l)[0 + k * 1]? = some (.string (l.getD k ByteArray.empty)) := by simp [strs, h]
theorem rdl_snoc (l : List Rd) (x : Rd) : rdl (l ++ [x]) = rdl l ++ x.cells := by simp [rdl]
theorem agl_snoc (l : List Ag) (x : Ag) : agl (l ++ [x]) = agl l ++ x.cells := by simp [agl]
theorem lil_snoc (l : List Li) (x : Li) : lil (l ++ [x]) = lil l ++ x.cells := by simp [lil]
theorem l_beat (pw : List Int) (hpw : pw.length = 20) (rb : Nat) (p : Par) (f : Nat) (hf : p.f = (f : Int)) (hp7 : p.n ≤ 7) (hd1 : p.d ≤ 16) (hd0 : 0 ≤ p.d) (b1 : 1 ≤ p.beat ∧ p.beat ≤ 1099511627776) (b2 : 0 ≤ p.rho ∧ 8 * p.rho ≤ p.beat) (b3 : 0 ≤ p.delay ∧ 2 * p.delay ≤ p.beat) (b4 : 0 ≤ p.jitter ∧ p.jitter ≤ p.delay) (b5 : 0 ≤ p.eps ∧ p.eps ≤ 1099511627776) (W : Wd) (gg dd : Nat) (hW : WdOk gg dd W) (hg : p.n = (gg : Int)) (hfn : 0 ≤ p.f ∧ p.f ≤ p.n) (hg16 : gg ≤ 16) (hd32 : dd ≤ 32) (hg2 : gg ≤ 16) (hd2 : dd ≤ 32) (hdd : dd ≤ 6) (hg0 : 0 < gg) (ct cn r1 r2 : Int) (hd : cn = (dd : Int)) (ha ka sa fa na qa : Option Addr) (hn hc kn kc sn sc fn fc nn nc qn qc : Nat) (zs : List Int) (hzl : zs.length = nn) (hnn : nn ≤ 100000) (lz : List ByteArray) (hzq : lz.length = qn) (hqn : qn ≤ 100000) (hr1 : 0 ≤ r1 ∧ r1 ≤ 900000000) (hr2 : 0 ≤ r2 ∧ r2 ≤ 900000000) (refs : Bool) (hT : -9007199254740992 ≤ W.tm ∧ W.tm ≤ 9007199254740992 - 1099511627776) : Spec prog 14 [.pointer (some ⟨rb, 0, none⟩), .bool refs, .bool false, .slice none 0 0] [blk rb (pC p [.int .i64 ct, .int .i64 cn, .slice ha hn hc, .slice ka kn kc, .slice sa sn sc, .slice fa fn fc, .slice na nn nc, .slice qa qn qc, .pointer (some ⟨W.gw, 0, none⟩), .int .i64 r1, .int .i64 r2]) 44, worldE p W] [view na nc 3 1 nn (ints zs), view qa qc 9 1 qn (strs lz), blk 2 (u64s pw) 319] (fun v Ln => v = .tuple #[] ∧ ∃ q1 q2 rds lies X M Q, (r1 ≤ q1 ∧ q1 ≤ r1 + 300) ∧ (r2 ≤ q2 ∧ q2 ≤ r2 + 300) ∧ RdsOk p refs (W.tm + p.beat) rds ∧ LiesOk p lies ∧ BeatW p f W.us W.ls lies rds W.q W.X X M Q ∧ Ln = [blk rb (pC p [.int .i64 ct, .int .i64 cn, .slice ha hn hc, .slice ka kn kc, .slice sa sn sc, .slice fa fn fc, .slice na nn nc, .slice qa qn qc, .pointer (some ⟨W.gw, 0, none⟩), .int .i64 q1, .int .i64 q2]) 44, worldE p { W with X := X, q := Q, tm := addL [W.tm, p.beat] }]) := by
 refine Spec.en func14 ntmps14 fun w0 => ?_
 refine G.sr fun _ K1 => ?_
 refine G.M 18 ?_
 refine G.V 19 .nc ?_
 refine G.V 20 (.fa f44_0 0) ?_
 refine G.V 21 (.fa f30_0 0) ?_
 refine G.V 22 (.lda t23 0 (vs := [.int .i64 p.n, .int .i64 p.f, .int .i64 p.d, .int .i64 p.beat, .int .i64 p.rho, .int .i64 p.delay, .int .i64 p.jitter, .int .i64 p.eps, .int .i64 p.mu, .int .i64 p.hold, .int .i64 p.pulse, .int .i64 p.second])) ?_
 refine G.mk 8 (.al z23) fun g8 => ?_
 refine G.sn 0 (.st t23 0) rfl ?_
 refine G.nk K1 ?_
 refine G.sr fun _ K2 => ?_
 refine G.mk 9 (.al z65) fun g9 => ?_
 refine G.nk K2 ?_
 refine G.sr fun _ K3 => ?_
 refine G.M 23 ?_
 refine G.C 24 [] [5]  e10 (l_units rb W.gw p ct cn r1 r2 ha ka sa fa na qa hn hc kn kc sn sc fn fc nn nc qn qc gg dd hg hd hg2 hd2) ?_
 rintro _ _ ⟨ua, un, uc, rfl, hun, rfl⟩
 obtain ⟨ul, hul⟩ : ∃ l, l = gatesL gg ++ nodesL dd := ⟨_, rfl⟩
 rw [← hul]
 have hull : ul.length = un := by rw [hul, hun]; simp [gatesL, nodesL]
 have hulb : ∀ x ∈ ul, 0 ≤ x ∧ x < 48 := fun x hx => by have := gn_mem.1 (hul ▸ hx); omega
 refine G.M 10 ?_
 refine G.nk K3 ?_
 refine G.Z fun _ K4 => ?_
 refine G.Z fun _ K5 => ?_
 refine G.base 0 (show 0 < un by omega) fun ub hb_ => ?_
 subst hb_
 refine G.newRow 89 3 ?_
 refine G.newRow 87 2 ?_
 refine G.region ?_
 refine G.M 25 ?_
 refine G.V 26 (.lenl s24) ?_
 refine G.M 27 ?_
 refine G.nk K5 ?_
 refine G.block ?_
 refine G.only [0, 0, 1, 1, 0, 0, 0] ?_
 refine G.lpR (ι := {z : Nat × Int × Option Addr × Nat × Nat × List (Int × Int) × Option Addr × Nat × Nat × List Ag // z.1 ≤ un ∧ (r1 ≤ z.2.1 ∧ z.2.1 ≤ r1 + 14 * (z.1 : Int)) ∧ (z.2.2.2.2.2.1.length = z.2.2.2.2.1 ∧ z.2.2.2.2.1 ≤ z.1 ∧ ∀ x ∈ z.2.2.2.2.2.1, TickOK p x.2) ∧ (z.2.2.2.2.2.2.2.2.2.length = z.2.2.2.2.2.2.2.2.1 ∧ z.2.2.2.2.2.2.2.2.1 ≤ 13 * z.1 ∧ ∀ x ∈ z.2.2.2.2.2.2.2.2.2, AgeOK p x.t)}) (fun ⟨⟨k, q1, ta, tc, tn, tks, aa, ac, an, ags⟩, hj, hq1, htk, hag⟩ => un - k) (fun ⟨⟨k, q1, ta, tc, tn, tks, aa, ac, an, ags⟩, hj, hq1, htk, hag⟩ => [(0, .pointer (some ⟨rb, 0, none⟩)), (1, .bool refs), (2, .bool false), (3, .slice none 0 0), (8, .pointer (some ⟨g8, 0, none⟩)), (9, .pointer (some ⟨g9, 0, none⟩)), (10, .slice (some ⟨ub, 0, none⟩) un uc), (25, .slice (some ⟨ub, 0, none⟩) un uc), (26, .int .i64 (un : Int)), (27, .int .i64 (k : Int))]) (fun ⟨⟨k, q1, ta, tc, tn, tks, aa, ac, an, ags⟩, hj, hq1, htk, hag⟩ => [row ta tc 87 2 tn (spl tks), row aa ac 89 3 an (agl ags), blk g9 [.slice ta tn tc, .slice none 0 0, .slice aa an ac, .slice none 0 0, .slice none 0 0, .slice none 0 0, .slice none 0 0, .slice none 0 0] 65, blk g8 (pC p []) 23, row (some ⟨ub, 0, none⟩) uc 3 1 un (ints ul), blk rb (pC p [.int .i64 ct, .int .i64 cn, .slice ha hn hc, .slice ka kn kc, .slice sa sn sc, .slice fa fn fc, .slice na nn nc, .slice qa qn qc, .pointer (some ⟨W.gw, 0, none⟩), .int .i64 q1, .int .i64 r2]) 44, worldE p W]) ?_ ?_
 exact G.at ⟨(0, r1, none, 0, 0, [], none, 0, 0, []), Nat.zero_le _, ⟨by dsimp only; omega, by dsimp only; omega⟩, ⟨rfl, Nat.le_refl _, fun _ h => nomatch h⟩, ⟨rfl, Nat.zero_le _, fun _ h => nomatch h⟩⟩ (ts := [0, 1, 2, 3, 8, 9, 10, 25, 26, 27]) rfl rfl rfl rfl
 rintro ⟨⟨k, q1, ta, tc, tn, tks, aa, ac, an, ags⟩, hj, hq1, htk, hag⟩ _ K6
 try dsimp only at K6 ⊢
 try dsimp only at hj hq1 htk hag
 refine G.sr fun _ K7 => ?_
 refine G.V 28 .bin ?_
 refine G.nk K7 ?_
 refine G.Z fun _ K8 => ?_
 refine G.cond rfl (fun hc28 => ?_) (fun hc28 => ?_)
 have hk : k < un := by have := of_decide_eq_true hc28; omega
 obtain ⟨c, hxc⟩ : ∃ x, ul[k]? = some x := ⟨_, List.getElem?_eq_getElem (by omega)⟩
 have hbc := hulb c (List.mem_of_getElem? hxc)
 refine G.sk K8 ?_
 refine G.Z fun _ K9 => ?_
 refine G.block ?_
 refine G.sr fun _ K10 => ?_
 refine G.V 29 (.is s24 k hk) ?_
 refine G.V 30 (.ld t3 4 (hv := ints_at2 hxc)) ?_
 refine G.M 12 ?_
 refine G.nk K10 ?_
 refine G.Z fun _ K11 => ?_
 refine G.draw 18 [2, 3] [] [17] ?_
 refine D.V 0 31 1 (.fa f65_0 0) ?_
 refine D.V 2 33 5 .mv ?_
 refine D.V 3 34 13 (.fa f23_3 3) ?_
 refine D.V 5 36 45 .mv ?_
 refine D.V 6 37 109 (.fa f23_4 4) ?_
 refine D.V 9 40 621 (.fa f23_4 4) ?_
 refine D.T 1 32 623 (.ld t62 0) [2, 3] [] ?_
 refine D.T 4 35 639 (.ld t3 1) [2, 3] [] ?_
 refine D.T 7 38 767 (.ld t3 1) [2, 3] [] ?_
 refine D.V 8 39 1023 (.cast .neg (wi (by omega) (by omega))) ?_
 refine D.T 10 41 2047 (.ld t3 1) [2, 3] [] ?_
 refine D.C 11 42 4095 [5] [0] [2, 3] []  e27 (l_noise rb W.gw p ct cn q1 r2 ha ka sa fa na qa hn hc kn kc sn sc fn fc nn nc qn qc zs hzl hnn (by omega) (by omega) (0 - p.rho) p.rho (by omega) (by omega)) ?_
 rintro _ _ ⟨x1, n1, rfl, hx1, hn1, rfl⟩
 refine D.V 12 43 8191 .bw ?_
 refine D.V 13 44 16383 (.build z87 p87 (cs := #[.int .i64 c, .int .i64 (p.beat + x1)]) (hf := by kernel_rfl)) ?_
 refine D.ev 14 32767 ?_
 refine E.row 14 45 (.sl s62 z87 [.int .i64 c, .int .i64 (p.beat + x1)]) [3, 4] []  fun g45 => ?_
 refine D.chg 15 46 65535 2 (.app s62 z87 y87 2 0 (show tn + 1 ≤ 1048576 by omega)) [4, 5] []  ?_
 rintro _ _ ⟨a12, c13, rfl, rfl⟩
 dsimp only [List.set]
 refine D.V 16 47 131071 (.fa f65_0 0) ?_
 refine D.last 17 262143 4 (.st t62 4) rfl ?_
 dsimp only [List.set, sets, Value.cells, List.zipIdx, List.foldl]
 refine D.done ?_
 refine G.eqL [blk g45 [.int .i64 c, .int .i64 (p.beat + x1)] 87, blk rb (pC p [.int .i64 ct, .int .i64 cn, .slice ha hn hc, .slice ka kn kc, .slice sa sn sc, .slice fa fn fc, .slice na nn nc, .slice qa qn qc, .pointer (some ⟨W.gw, 0, none⟩), .int .i64 n1, .int .i64 r2]) 44, row a12 c13 87 2 (tn + 1) (spl (tks ++ [(c, p.beat + x1)])), row aa ac 89 3 an (agl ags), blk g9 [.slice a12 (tn + 1) c13, .slice none 0 0, .slice aa an ac, .slice none 0 0, .slice none 0 0, .slice none 0 0, .slice none 0 0, .slice none 0 0] 65, blk g8 (pC p []) 23, row (some ⟨ub, 0, none⟩) uc 3 1 un (ints ul), worldE p W] (congrArg (fun z => [blk g45 [.int .i64 c, .int .i64 (p.beat + x1)] 87, blk rb (pC p [.int .i64 ct, .int .i64 cn, .slice ha hn hc, .slice ka kn kc, .slice sa sn sc, .slice fa fn fc, .slice na nn nc, .slice qa qn qc, .pointer (some ⟨W.gw, 0, none⟩), .int .i64 n1, .int .i64 r2]) 44, row a12 c13 87 2 (tn + 1) z, row aa ac 89 3 an (agl ags), blk g9 [.slice a12 (tn + 1) c13, .slice none 0 0, .slice aa an ac, .slice none 0 0, .slice none 0 0, .slice none 0 0, .slice none 0 0, .slice none 0 0] 65, blk g8 (pC p []) 23, row (some ⟨ub, 0, none⟩) uc 3 1 un (ints ul), worldE p W]) (spl_snoc tks (c, p.beat + x1)).symm) ?_
 have htk3 : ∀ x ∈ tks ++ [(c, p.beat + x1)], TickOK p x.2 := fun y hy => (List.mem_append.1 hy).elim (htk.2.2 y) fun q => by simp at q; subst q; show TickOK p (p.beat + x1); unfold TickOK; omega
 refine K11 _ _ _ ?_
 refine G.sr fun _ K14 => ?_
 refine G.M 48 ?_
 refine G.V 49 (.lenl s24) ?_
 refine G.M 50 ?_
 refine G.nk K14 ?_
 refine G.block ?_
 refine G.only [3, 2, 2, 2, 2, 1, 1] ?_
 refine G.lpR (ι := {z : Nat × Int × Option Addr × Nat × Nat × List Ag // z.1 ≤ un ∧ (n1 ≤ z.2.1 ∧ z.2.1 ≤ n1 + (z.1 : Int)) ∧ (z.2.2.2.2.2.length = z.2.2.2.2.1 ∧ z.2.2.2.2.1 ≤ 13 * k + z.1 ∧ ∀ x ∈ z.2.2.2.2.2, AgeOK p x.t)}) (fun ⟨⟨j, q3, ab, ac3, an3, ags3⟩, hj3, hq3, hag3⟩ => un - j) (fun ⟨⟨j, q3, ab, ac3, an3, ags3⟩, hj3, hq3, hag3⟩ => [(0, .pointer (some ⟨rb, 0, none⟩)), (1, .bool refs), (2, .bool false), (3, .slice none 0 0), (8, .pointer (some ⟨g8, 0, none⟩)), (9, .pointer (some ⟨g9, 0, none⟩)), (10, .slice (some ⟨ub, 0, none⟩) un uc), (12, .int .i64 c), (25, .slice (some ⟨ub, 0, none⟩) un uc), (26, .int .i64 (un : Int)), (27, .int .i64 (k : Int)), (48, .slice (some ⟨ub, 0, none⟩) un uc), (49, .int .i64 (un : Int)), (50, .int .i64 (j : Int))]) (fun ⟨⟨j, q3, ab, ac3, an3, ags3⟩, hj3, hq3, hag3⟩ => [row ab ac3 89 3 an3 (agl ags3), row a12 c13 87 2 (tn + 1) (spl (tks ++ [(c, p.beat + x1)])), blk g9 [.slice a12 (tn + 1) c13, .slice none 0 0, .slice ab an3 ac3, .slice none 0 0, .slice none 0 0, .slice none 0 0, .slice none 0 0, .slice none 0 0] 65, blk g8 (pC p []) 23, row (some ⟨ub, 0, none⟩) uc 3 1 un (ints ul), blk rb (pC p [.int .i64 ct, .int .i64 cn, .slice ha hn hc, .slice ka kn kc, .slice sa sn sc, .slice fa fn fc, .slice na nn nc, .slice qa qn qc, .pointer (some ⟨W.gw, 0, none⟩), .int .i64 q3, .int .i64 r2]) 44, worldE p W]) ?_ ?_
 exact G.at ⟨(0, n1, aa, ac, an, ags), Nat.zero_le _, ⟨by dsimp only; omega, by dsimp only; omega⟩, hag.1, hag.2.1, hag.2.2⟩ (ts := [0, 1, 2, 3, 8, 9, 10, 12, 25, 26, 27, 48, 49, 50]) rfl rfl rfl rfl
 rintro ⟨⟨j, q3, ab, ac3, an3, ags3⟩, hj3, hq3, hag3⟩ _ K15
 try dsimp only at K15 ⊢
 try dsimp only at hj3 hq3 hag3
 refine G.sr fun _ K16 => ?_
 refine G.V 51 .bin ?_
 refine G.nk K16 ?_
 refine G.Z fun _ K17 => ?_
 refine G.cond rfl (fun hc51 => ?_) (fun hc51 => ?_)
 have hk3 : j < un := by have := of_decide_eq_true hc51; omega
 obtain ⟨d, hxd⟩ : ∃ x, ul[j]? = some x := ⟨_, List.getElem?_eq_getElem (by omega)⟩
 have hbd := hulb d (List.mem_of_getElem? hxd)
 refine G.sk K17 ?_
 refine G.Z fun _ K18 => ?_
 refine G.block ?_
 refine G.sr fun _ K19 => ?_
 refine G.V 52 (.is s24 j hk3) ?_
 refine G.V 53 (.ld t3 4 (hv := ints_at2 hxd)) ?_
 refine G.M 14 ?_
 refine G.nk K19 ?_
 refine G.draw 26 [2, 3] [] [25] ?_
 refine D.V 0 54 1 (.fa f65_2 2) ?_
 refine D.V 2 56 5 .mv ?_
 refine D.V 3 57 13 .mv ?_
 refine D.V 4 58 29 (.build z72 p72 (cs := #[.int .i64 d, .int .i64 c]) (hf := by kernel_rfl)) ?_
 refine D.V 5 59 61 (.fa f23_3 3) ?_
 refine D.V 7 61 189 (.fa f23_5 5) ?_
 refine D.V 10 64 1213 .mv ?_
 refine D.V 11 65 3261 (.fa f23_4 4) ?_
 refine D.V 14 68 19645 (.fa f23_6 6) ?_
 refine D.V 16 70 85181 (.fa f23_4 4) ?_
 refine D.T 1 55 85183 (.ld t63 0) [2, 3] [] ?_
 refine D.T 6 60 85247 (.ld t3 1) [2, 3] [] ?_
 refine D.T 8 62 85503 (.ld t3 1) [2, 3] [] ?_
 refine D.V 9 63 86015 .bw ?_
 refine D.T 12 66 90111 (.ld t3 1) [2, 3] [] ?_
 refine D.V 13 67 98303 (.cast .neg (wi (by omega) (by omega))) ?_
 refine D.T 15 69 131071 (.ld t3 1) [2, 3] [] ?_
 refine D.T 17 71 262143 (.ld t3 1) [2, 3] [] ?_
 refine D.V 18 72 524287 .bw ?_
 refine D.C 19 73 1048575 [5] [0] [2, 3] []  e27 (l_noise rb W.gw p ct cn q3 r2 ha ka sa fa na qa hn hc kn kc sn sc fn fc nn nc qn qc zs hzl hnn (by omega) (by omega) (0 - p.rho) (p.jitter + p.rho) (by omega) (by omega)) ?_
 rintro _ _ ⟨x2, n2, rfl, hx2, hn2, rfl⟩
 refine D.V 20 74 2097151 .bw ?_
 refine D.V 21 75 4194303 (.build z89 p89 (cs := #[.int .i64 d, .int .i64 c, .int .i64 ((p.beat - p.delay) + x2)]) (hf := by kernel_rfl)) ?_
 refine D.ev 22 8388607 ?_
 refine E.row 22 76 (.one s63 z89 [.int .i64 d, .int .i64 c, .int .i64 ((p.beat - p.delay) + x2)]) [3, 4] []  fun g76 => ?_
 refine D.chg 23 77 16777215 2 (.app s63 z89 y89 2 0 (show an3 + 1 ≤ 1048576 by omega)) [4, 5] []  ?_
 rintro _ _ ⟨a20, c21, rfl, rfl⟩
 dsimp only [List.set]
 refine D.V 24 78 33554431 (.fa f65_2 2) ?_
 refine D.last 25 67108863 4 (.st t63 4) rfl ?_
 dsimp only [List.set, sets, Value.cells, List.zipIdx, List.foldl]
 refine D.done ?_
 refine K18 _ _ _ ?_
 refine G.region ?_
 refine G.V 79 .bw ?_
 refine G.M 50 ?_
 refine G.nil ?_
 refine G.only [2, 2, 2, 2, 2, 1, 1] ?_
 refine K15 _ _ _ ?_
 exact G.ls ⟨(j + 1, n2, a20, c21, an3 + 1, ags3 ++ [⟨d, c, p.beat - p.delay + x2⟩]), hk3, ⟨by dsimp only; omega, by dsimp only; omega⟩, ⟨by simp [hag3.1], by have := hag3.2.1; dsimp only; omega, fun y hy => (List.mem_append.1 hy).elim (hag3.2.2 y) fun q => by simp at q; subst q; show AgeOK p (p.beat - p.delay + x2); unfold AgeOK; omega⟩⟩ (hL := (by first | rfl | (dsimp only; rw [agl_snoc]; rfl)))
 refine G.exit ?_
 refine K9 _ _ _ ?_
 refine G.region ?_
 refine G.V 80 .bw ?_
 refine G.M 27 ?_
 refine G.nil ?_
 refine G.only [1, 0, 0, 0, 0, 0, 0] ?_
 refine K6 _ _ _ ?_
 exact G.ls ⟨(k + 1, q3, a12, c13, tn + 1, tks ++ [(c, p.beat + x1)], ab, ac3, an3, ags3), hk, ⟨by dsimp only; omega, by dsimp only; omega⟩, ⟨by simp [htk.1], by dsimp only; omega, htk3⟩, ⟨hag3.1, by have := hag3.2.1; dsimp only; omega, hag3.2.2⟩⟩
 refine G.exit ?_
 refine K4 _ _ _ ?_
 refine G.Z fun _ K22 => ?_
 refine G.Z fun _ K23 => ?_
 refine G.newRow 74 3 ?_
 refine G.newRow 60 5 ?_
 refine G.region ?_
 refine G.M 15 ?_
 refine G.nk K23 ?_
 refine G.block ?_
 refine G.lpR (ι := {z : Nat × Int × Int × Option Addr × Nat × Nat × List Rd × Option Addr × Nat × Nat × List Li // z.1 ≤ gg ∧ (r1 ≤ z.2.1 ∧ z.2.1 ≤ r1 + 200 + (z.1 : Int)) ∧ (r2 ≤ z.2.2.1 ∧ z.2.2.1 ≤ r2 + 13 * (z.1 : Int)) ∧ (z.2.2.2.2.2.2.1.length = z.2.2.2.2.2.1 ∧ z.2.2.2.2.2.1 ≤ z.1 ∧ (∀ x ∈ z.2.2.2.2.2.2.1, x.is = refs ∧ W.tm + p.beat - p.eps ≤ x.rd ∧ x.rd ≤ W.tm + p.beat + p.eps) ∧ ∀ i : Int, 0 ≤ i → i < z.1 → i < p.n - p.f → ∃ x ∈ z.2.2.2.2.2.2.1, x.gate = i) ∧ (z.2.2.2.2.2.2.2.2.2.2.length = z.2.2.2.2.2.2.2.2.2.1 ∧ z.2.2.2.2.2.2.2.2.2.1 ≤ 13 * z.1 ∧ LiesOk p z.2.2.2.2.2.2.2.2.2.2)}) (fun ⟨⟨i, q1, q2, ra, rc, rn, rds, la, lc, ln, lies⟩, hi, hq1, hq2, hrd, hli⟩ => gg - i) (fun ⟨⟨i, q1, q2, ra, rc, rn, rds, la, lc, ln, lies⟩, hi, hq1, hq2, hrd, hli⟩ => [(0, .pointer (some ⟨rb, 0, none⟩)), (1, .bool refs), (2, .bool false), (3, .slice none 0 0), (8, .pointer (some ⟨g8, 0, none⟩)), (9, .pointer (some ⟨g9, 0, none⟩)), (10, .slice (some ⟨ub, 0, none⟩) un uc), (15, .int .i64 (i : Int))]) (fun ⟨⟨i, q1, q2, ra, rc, rn, rds, la, lc, ln, lies⟩, hi, hq1, hq2, hrd, hli⟩ => [row ra rc 60 5 rn (rdl rds), row la lc 74 3 ln (lil lies), row ta tc 87 2 tn (spl tks), row aa ac 89 3 an (agl ags), blk g9 [.slice ta tn tc, .slice ra rn rc, .slice aa an ac, .slice none 0 0, .slice la ln lc, .slice none 0 0, .slice none 0 0, .slice none 0 0] 65, blk g8 (pC p []) 23, row (some ⟨ub, 0, none⟩) uc 3 1 un (ints ul), blk rb (pC p [.int .i64 ct, .int .i64 cn, .slice ha hn hc, .slice ka kn kc, .slice sa sn sc, .slice fa fn fc, .slice na nn nc, .slice qa qn qc, .pointer (some ⟨W.gw, 0, none⟩), .int .i64 q1, .int .i64 q2]) 44, worldE p W]) ?_ ?_
 exact G.at ⟨(0, q1, r2, none, 0, 0, [], none, 0, 0, []), Nat.zero_le _, ⟨by dsimp only; omega, by dsimp only; omega⟩, ⟨by dsimp only; omega, by dsimp only; omega⟩, ⟨rfl, Nat.le_refl _, (fun _ h => nomatch h), fun i h1 h2 => by dsimp only at h2; omega⟩, ⟨rfl, Nat.zero_le _, fun _ h => nomatch h⟩⟩ (ts := [0, 1, 2, 3, 8, 9, 10, 15]) rfl rfl rfl rfl
 rintro ⟨⟨i, q1, q2, ra, rc, rn, rds, la, lc, ln, lies⟩, hi, hq1, hq2, hrd, hli⟩ _ K24
 try dsimp only at K24 ⊢
 try dsimp only at hi hq1 hq2 hrd hli
 refine G.Z fun _ K25 => ?_
 refine G.sr fun _ K26 => ?_
 refine G.M 81 ?_
 refine G.V 82 (.fa f23_0 0) ?_
 refine G.V 83 (.ld t3 5) ?_
 refine G.V 84 .bin ?_
 refine G.nk K26 ?_
 refine G.cond rfl (fun hc84 => ?_) (fun hc84 => ?_)
 have hi2 : i < gg := by have := of_decide_eq_true hc84; omega
 refine G.sk K25 ?_
 refine G.Z fun _ K27 => ?_
 refine G.block ?_
 refine G.Z fun _ K28 => ?_
 refine G.sr fun _ K29 => ?_
 refine G.M 87 ?_
 refine G.V 88 (.fa f23_0 0) ?_
 refine G.V 89 (.ld t3 5) ?_
 refine G.V 90 (.fa f23_1 1) ?_
 refine G.V 91 (.ld t3 5) ?_
 refine G.V 92 .bw ?_
 refine G.V 93 .bin ?_
 refine G.nk K29 ?_
 refine G.cond rfl (fun hc93 => ?_) (fun hc93 => ?_)
 have hif : (i : Int) < p.n - p.f := of_decide_eq_true hc93
 refine G.Z fun _ K30 => ?_
 refine G.draw 27 [4, 5] [] [26] ?_
 refine D.V 0 94 1 (.fa f65_1 1) ?_
 refine D.V 2 96 5 .mv ?_
 refine D.V 3 97 13 .mv ?_
 refine D.V 4 98 29 .mv ?_
 refine D.V 5 99 61 .nc ?_
 refine D.V 6 100 125 (.fa f44_1 20) ?_
 refine D.V 9 103 637 (.fa f23_3 3) ?_
 refine D.V 12 106 4733 .mv ?_
 refine D.V 13 107 12925 (.fa f23_7 7) ?_
 refine D.V 16 110 78461 (.fa f23_7 7) ?_
 refine D.V 20 114 1127037 .mv ?_
 refine D.V 21 115 3224189 .mv ?_
 refine D.T 1 95 3224191 (.ld t61 0) [4, 5] [] ?_
 refine D.T 10 104 3225215 (.ld t3 1) [4, 5] [] ?_
 refine D.T 14 108 3241599 (.ld t3 1) [4, 5] [] ?_
 refine D.V 15 109 3274367 (.cast .neg (wi (by omega) (by omega))) ?_
 refine D.T 17 111 3405439 (.ld t3 1) [4, 5] [] ?_
 refine D.one 7 101 3405567 (.ld t42 7) [4, 5] [] ?_
 refine D.C 8 102 3405823 [] [11] [4, 5] []  e18 (x_Time p W) ?_
 rintro _ _ ⟨rfl, rfl⟩
 refine D.V 11 105 3407871 .bw ?_
 refine D.C 18 112 3670015 [7] [0] [4, 5] []  e27 (l_noise rb W.gw p ct cn q1 q2 ha ka sa fa na qa hn hc kn kc sn sc fn fc nn nc qn qc zs hzl hnn (by omega) (by omega) (0 - p.eps) p.eps (by omega) (by omega)) ?_
 rintro _ _ ⟨x3, n3, rfl, hx3, hn3, rfl⟩
 refine D.V 19 113 4194303 .bw ?_
 refine D.V 22 116 8388607 (.build z60 p60 (cs := #[.int .i64 (i : Int), .bool refs, .int .i64 ((W.tm + p.beat) + x3), .bool false, .slice none 0 0]) (hf := by kernel_rfl)) ?_
 refine D.ev 23 16777215 ?_
 refine E.row 23 117 (.one s61 z60 [.int .i64 (i : Int), .bool refs, .int .i64 ((W.tm + p.beat) + x3), .bool false, .slice none 0 0]) [5, 6] []  fun g117 => ?_
 refine D.chg 24 118 33554431 2 (.app s61 z60 y60 2 0 (show rn + 1 ≤ 1048576 by omega)) [6, 7] []  ?_
 rintro _ _ ⟨a31, c32, rfl, rfl⟩
 dsimp only [List.set]
 refine D.V 25 119 67108863 (.fa f65_1 1) ?_
 refine D.last 26 134217727 6 (.st t61 6) rfl ?_
 dsimp only [List.set, sets, Value.cells, List.zipIdx, List.foldl]
 refine D.done ?_
 refine K30 _ _ _ ?_
 refine G.exit ?_
 refine K27 _ _ _ ?_
 refine G.region ?_
 refine G.M 85 ?_
 refine G.V 86 .bw ?_
 refine G.M 15 ?_
 refine G.nil ?_
 refine G.only [2, 2, 2, 2, 2, 2, 2, 1, 1] ?_
 refine K24 _ _ _ ?_
 exact G.less ⟨(i + 1, n3, q2, a31, c32, rn + 1, rds ++ [⟨(i : Int), refs, W.tm + p.beat + x3⟩], la, lc, ln, lies), hi2, ⟨by dsimp only; omega, by dsimp only; omega⟩, ⟨by dsimp only; omega, by dsimp only; omega⟩, ⟨by simp [hrd.1], by have := hrd.2.1; dsimp only; omega, (fun y hy => (List.mem_append.1 hy).elim (hrd.2.2.1 y) fun q => by simp at q; subst q; exact ⟨rfl, by dsimp only; omega, by dsimp only; omega⟩), fun i' h1 h2 h3 => by
   dsimp only at h2
   by_cases e : i' = (i : Int)
   · exact ⟨_, List.mem_append_right _ (List.mem_cons_self ..), e.symm⟩
   · obtain ⟨y, hy, ey⟩ := hrd.2.2.2 i' h1 (by omega) h3
     exact ⟨y, List.mem_append_left _ hy, ey⟩⟩, ⟨hli.1, by have := hli.2.1; dsimp only; omega, hli.2.2⟩⟩ (ts := [0, 1, 2, 3, 8, 9, 10, 15]) (by dsimp only; omega) rfl rfl (by first | rfl | (dsimp only; rw [rdl_snoc]; rfl)) rfl
 have hif : p.n - p.f ≤ (i : Int) := by have := of_decide_eq_false hc93; omega
 refine G.sk K28 ?_
 refine G.sr fun _ K33 => ?_
 refine G.M 120 ?_
 refine G.V 121 (.lenl s24) ?_
 refine G.M 122 ?_
 refine G.nk K33 ?_
 refine G.block ?_
 refine G.only [1, 0, 0, 0, 0, 0, 0, 0, 0] ?_
 refine G.lpR (ι := {z : Nat × Int × Option Addr × Nat × Nat × List Li // z.1 ≤ un ∧ (q2 ≤ z.2.1 ∧ z.2.1 ≤ q2 + (z.1 : Int)) ∧ (z.2.2.2.2.2.length = z.2.2.2.2.1 ∧ z.2.2.2.2.1 ≤ 13 * i + z.1 ∧ LiesOk p z.2.2.2.2.2)}) (fun ⟨⟨j, q4, lb, lc3, ln3, lies3⟩, hj3, hq4, hli3⟩ => un - j) (fun ⟨⟨j, q4, lb, lc3, ln3, lies3⟩, hj3, hq4, hli3⟩ => [(0, .pointer (some ⟨rb, 0, none⟩)), (1, .bool refs), (2, .bool false), (3, .slice none 0 0), (8, .pointer (some ⟨g8, 0, none⟩)), (9, .pointer (some ⟨g9, 0, none⟩)), (10, .slice (some ⟨ub, 0, none⟩) un uc), (15, .int .i64 (i : Int)), (120, .slice (some ⟨ub, 0, none⟩) un uc), (121, .int .i64 (un : Int)), (122, .int .i64 (j : Int))]) (fun ⟨⟨j, q4, lb, lc3, ln3, lies3⟩, hj3, hq4, hli3⟩ => [row lb lc3 74 3 ln3 (lil lies3), row ra rc 60 5 rn (rdl rds), row ta tc 87 2 tn (spl tks), row aa ac 89 3 an (agl ags), blk g9 [.slice ta tn tc, .slice ra rn rc, .slice aa an ac, .slice none 0 0, .slice lb ln3 lc3, .slice none 0 0, .slice none 0 0, .slice none 0 0] 65, blk g8 (pC p []) 23, row (some ⟨ub, 0, none⟩) uc 3 1 un (ints ul), blk rb (pC p [.int .i64 ct, .int .i64 cn, .slice ha hn hc, .slice ka kn kc, .slice sa sn sc, .slice fa fn fc, .slice na nn nc, .slice qa qn qc, .pointer (some ⟨W.gw, 0, none⟩), .int .i64 q1, .int .i64 q4]) 44, worldE p W]) ?_ ?_
 exact G.at ⟨(0, q2, la, lc, ln, lies), Nat.zero_le _, ⟨by dsimp only; omega, by dsimp only; omega⟩, hli.1, hli.2.1, hli.2.2⟩ (ts := [0, 1, 2, 3, 8, 9, 10, 15, 120, 121, 122]) rfl rfl rfl rfl
 rintro ⟨⟨j, q4, lb, lc3, ln3, lies3⟩, hj3, hq4, hli3⟩ _ K34
 try dsimp only at K34 ⊢
 try dsimp only at hj3 hq4 hli3
 refine G.sr fun _ K35 => ?_
 refine G.V 123 .bin ?_
 refine G.nk K35 ?_
 refine G.Z fun _ K36 => ?_
 refine G.cond rfl (fun hc123 => ?_) (fun hc123 => ?_)
 have hk3 : j < un := by have := of_decide_eq_true hc123; omega
 obtain ⟨d, hxd⟩ : ∃ x, ul[j]? = some x := ⟨_, List.getElem?_eq_getElem (by omega)⟩
 have hbd := hulb d (List.mem_of_getElem? hxd)
 refine G.sk K36 ?_
 refine G.Z fun _ K37 => ?_
 refine G.block ?_
 refine G.sr fun _ K38 => ?_
 refine G.V 124 (.is s24 j hk3) ?_
 refine G.V 125 (.ld t3 6 (hv := ints_at2 hxd)) ?_
 refine G.M 17 ?_
 refine G.nk K38 ?_
 refine G.sr fun _ K39 => ?_
 refine G.M 126 ?_
 refine G.V 127 .nc ?_
 refine G.V 128 (.fa f44_0 0) ?_
 refine G.V 129 (.fa f30_8 19) ?_
 refine G.V 130 (.ld t28 7) ?_
 refine G.V 131 (.lenl s28) ?_
 refine G.V 132 .bin ?_
 refine G.nk K39 ?_
 refine G.cond rfl (fun hc132 => ?_) (fun hc132 => ?_)
 have hq0 : 0 < qn := by have := of_decide_eq_true hc132; omega
 refine G.Z fun _ K40 => ?_
 have hm4 : 0 ≤ q4 % (qn : Int) ∧ q4 % (qn : Int) < qn := ⟨Int.emod_nonneg _ (by omega), Int.emod_lt_of_pos _ (by omega)⟩
 refine G.vbase 10 (show 0 < qn by omega) fun b41 ob41 hb_ => ?_
 subst hb_
 refine G.draw 28 [4, 7] [1] [27] ?_
 refine D.V 0 133 1 (.fa f65_4 4) ?_
 refine D.V 2 135 5 .mv ?_
 refine D.V 3 136 13 .mv ?_
 refine D.V 4 137 29 (.build z72 p72 (cs := #[.int .i64 (i : Int), .int .i64 d]) (hf := by kernel_rfl)) ?_
 refine D.V 5 138 61 .mv ?_
 refine D.V 6 139 125 .nc ?_
 refine D.V 7 140 253 (.fa f44_0 0) ?_
 refine D.V 8 141 509 (.fa f30_8 19) ?_
 refine D.V 10 143 1533 .mv ?_
 refine D.V 11 144 3581 .nc ?_
 refine D.V 12 145 7677 (.fa f44_3 22) ?_
 refine D.V 14 147 24061 .mv ?_
 refine D.V 15 148 56829 .nc ?_
 refine D.V 16 149 122365 (.fa f44_0 0) ?_
 refine D.V 17 150 253437 (.fa f30_8 19) ?_
 refine D.T 1 134 253439 (.ld t27 0) [4, 7] [1] ?_
 refine D.T 9 142 253951 (.ld t28 1) [4, 7] [1] ?_
 refine D.T 13 146 262143 (.ld t3 1) [4, 7] [1] ?_
 refine D.T 18 151 524287 (.ld t28 1) [4, 7] [1] ?_
 refine D.V 19 152 1048575 (.lenl s28) ?_
 refine D.V 20 153 2097151 (.rem (a := q4) (b := (qn : Int)) (r := q4 % (qn : Int)) (by omega) (Int.tmod_eq_emod_of_nonneg (by omega))) ?_
 refine D.V 21 154 4194303 (.is s28 ((q4 % (qn : Int)).toNat) (show (q4 % (qn : Int)).toNat < qn by omega) (hi := by omega)) ?_
 refine D.T 22 155 8388607 (.ldo t9 2 (hv := strs_g (k := (q4 % (qn : Int)).toNat) (by rw [hzq]; omega))) [4, 7] [1] ?_
 refine D.V 23 156 16777215 (.build z74 p74 (cs := #[.int .i64 (i : Int), .int .i64 d, .string (lz.getD (q4 % (qn : Int)).toNat ByteArray.empty)]) (hf := by kernel_rfl)) ?_
 refine D.ev 24 33554431 ?_
 refine E.row 24 157 (.one s27 z74 [.int .i64 (i : Int), .int .i64 d, .string (lz.getD (q4 % (qn : Int)).toNat ByteArray.empty)]) [4, 7] [1]  fun g157 => ?_
 refine D.chg 25 158 67108863 1 (.app s27 z74 y74 1 0 (show ln3 + 1 ≤ 1048576 by omega)) [5, 8] [1]  ?_
 rintro _ _ ⟨a42, c43, rfl, rfl⟩
 dsimp only [List.set]
 refine D.V 26 159 134217727 (.fa f65_4 4) ?_
 refine D.last 27 268435455 5 (.st t27 5) rfl ?_
 dsimp only [List.set, sets, Value.cells, List.zipIdx, List.foldl]
 refine D.done ?_
 refine K40 _ _ _ ?_
 refine G.region ?_
 refine G.M 160 ?_
 refine G.V 161 .nc ?_
 refine G.V 162 (.fa f44_3 22) ?_
 refine G.V 163 (.ld t3 8) ?_
 refine G.V 164 .bw ?_
 refine G.V 165 .nc ?_
 refine G.V 166 (.fa f44_3 22) ?_
 refine G.sn 8 (.st t3 8) rfl ?_
 refine G.nk K37 ?_
 refine G.region ?_
 refine G.V 167 .bw ?_
 refine G.M 122 ?_
 refine G.nil ?_
 refine G.only [1, 1, 1, 1, 1, 1, 1, 1, 1] ?_
 refine K34 _ _ _ ?_
 exact G.ls ⟨(j + 1, q4 + 1, a42, c43, ln3 + 1, lies3 ++ [⟨(i : Int), d, lz.getD (q4 % (qn : Int)).toNat ByteArray.empty⟩]), hk3, ⟨by dsimp only; omega, by dsimp only; omega⟩, by simp [hli3.1], by have := hli3.2.1; dsimp only; omega, fun y hy => (List.mem_append.1 hy).elim (hli3.2.2 y) fun q => by simp at q; subst q; show p.n - p.f ≤ (i : Int); omega⟩ (hL := (by first | rfl | (dsimp only; rw [lil_snoc]; rfl)))
 refine G.sk K37 ?_
 refine G.region ?_
 refine G.V 167 .bw ?_
 refine G.M 122 ?_
 refine G.nk K34 ?_
 exact G.ls ⟨(j + 1, q4, lb, lc3, ln3, lies3), hk3, ⟨by dsimp only; omega, by dsimp only; omega⟩, hli3.1, by have := hli3.2.1; dsimp only; omega, hli3.2.2⟩ (hL := (by first | rfl | (dsimp only; rw [lil_snoc]; rfl)))
 have hjn : un = j := by have := of_decide_eq_false hc123; omega
 refine G.exit ?_
 refine K27 _ _ _ ?_
 refine G.region ?_
 refine G.M 85 ?_
 refine G.V 86 .bw ?_
 refine G.M 15 ?_
 refine G.nil ?_
 refine G.only [1, 0, 0, 0, 0, 0, 0, 0, 0] ?_
 refine K24 _ _ _ ?_
 exact G.ls ⟨(i + 1, q1, q4, ra, rc, rn, rds, lb, lc3, ln3, lies3), hi2, ⟨by dsimp only; omega, by dsimp only; omega⟩, ⟨by dsimp only; omega, by dsimp only; omega⟩, ⟨hrd.1, by have := hrd.2.1; dsimp only; omega, hrd.2.2.1, fun i' h1 h2 h3 => hrd.2.2.2 i' h1 (by dsimp only at h2; omega) h3⟩, ⟨hli3.1, by have := hli3.2.1; dsimp only; omega, hli3.2.2⟩⟩ (hL := (by first | rfl | (dsimp only; rw [rdl_snoc]; rfl)))
 have hig : gg = i := by have := of_decide_eq_false hc84; omega
 refine G.exit ?_
 refine K22 _ _ _ ?_
 refine G.draw 6 [4, 7] [] [] ?_
 refine D.V 0 168 1 .mv ?_
 refine D.V 1 169 3 .nc ?_
 refine D.V 2 170 7 (.fa f44_1 20) ?_
 refine D.T 3 171 15 (.ld t42 1) [4, 7] [] ?_
 refine D.T 4 172 31 (.lda t65 0 (vs := [.slice ta tn tc, .slice ra rn rc, .slice aa an ac, .slice none 0 0, .slice la ln lc, .slice none 0 0, .slice none 0 0, .slice none 0 0])) [4, 7] [] ?_
 refine D.C 5 173 63 [8] [5, 3, 6, 4, 2] [4, 7] []  e22 (x_Beat pw hpw p f hf hp7 b5.1 hd1 hd0 W hW hg16 hd32 ta ra aa la tn tc rn rc an ac ln lc tks rds ags lies htk.1 hrd.1 hag.1 (by omega) (by have := hrd.2.1; omega) (by have := hag.2.1; omega) hli.1 (by have := hli.2.1; omega) (by unfold TickOK; omega) (by unfold sbC; rw [clp_id (x := p.beat) (by omega) (by omega), clp_id (x := p.delay) (by omega) (by omega), clp_id (by omega) (by omega)]; unfold AgeOK; omega) htk.2.2 hag.2.2 (fun x hx => by have := hrd.2.2.1 x hx; omega)) ?_
 rintro _ _ ⟨rfl, X, M, Q, hB, rfl⟩
 refine D.done ?_
 exact G.fin0 [8, 0] (.nil Tryz.results14) ⟨rfl, q1, q2, rds, lies, X, M, Q, ⟨by omega, by omega⟩, ⟨by omega, by omega⟩, ⟨hrd.2.2.1, fun i' h1 h2 => hrd.2.2.2 i' h1 (by omega) h2⟩, hli.2.2, hB, rfl⟩
end Go.Proofs.YtbmhgopjblnfnaaGreat.S
namespace Go.Proofs.YtbmhgopjblnfnaaGreat.S
open Go Go.RowKit Go.Proofs.YtbmhgopjblnfnaaGreatW.PrintLast Tryz
theorem ids_nil : ids [] = [] := rfl
theorem set_own : ∀ {l : List Ent} {j : Nat} {e e' : Ent}, l[j]? = some e → (ids (l.set j e') ++ e.own).Perm (ids l ++ e'.own)
 | [], j, e, e', h => by simp at h
 | x :: l, 0, e, e', h => by
  obtain rfl : x = e := by simpa using h
  show (ids (e' :: l) ++ x.own).Perm (ids (x :: l) ++ e'.own)
  refine perm_of fun k => ?_
  simp only [ids, List.flatMap_cons, List.count_append]
  omega
 | x :: l, j + 1, e, e', h => by
  have := set_own (l := l) (j := j) (e := e) (e' := e') (by simpa using h)
  show (ids (x :: l.set j e') ++ e.own).Perm (ids (x :: l) ++ e'.own)
  refine perm_of fun k => ?_
  have h2 := List.perm_iff_count.1 this k
  rw [ids_cons, ids_cons]
  simp only [List.count_append] at h2 ⊢
  omega
theorem unL_setU {p : Par} : ∀ {us : List Uc} {i j : Nat} {X : Nat → Ux} (u' : Uc) (x : Ux), j < us.length → unL p (us.set j u') i (setX X (i + j) x) = (unL p us i X).set j (unitE p u' x)
 | [], i, j, X, u', x, h => by simp at h
 | v :: us, i, 0, X, u', x, h => by
  show unitE p u' (setX X (i + 0) x i) :: unL p us (i + 1) _ = unitE p u' x :: unL p us (i + 1) X
  rw [show setX X (i + 0) x i = x from if_pos (Nat.add_zero i).symm, unL_congr (us := us) (i := i + 1) (X := setX X (i + 0) x) (X' := X) (fun k hk => if_neg (by omega))]
 | v :: us, i, j + 1, X, u', x, h => by
  have := unL_setU (p := p) (us := us) (i := i + 1) (j := j) (X := X) u' x (by simpa using h)
  show unitE p v (setX X (i + (j + 1)) x i) :: unL p (us.set j u') (i + 1) _ = unitE p v (X i) :: (unL p us (i + 1) X).set j _
  rw [← this, show setX X (i + (j + 1)) x i = X i from if_neg (by omega), show i + 1 + j = i + (j + 1) from by omega]
theorem lanL_setU : ∀ {us : List Uc} {i j : Nat} {q : Qs} (u' : Uc) (x : Nat → List ByteArray), j < us.length → lanL (us.set j u') i (setX q (i + j) x) = (lanL us i q).set j (lanE u'.lb x)
 | [], i, j, q, u', x, h => by simp at h
 | v :: us, i, 0, q, u', x, h => by
  show lanE u'.lb (setX q (i + 0) x i) :: lanL us (i + 1) _ = lanE u'.lb x :: lanL us (i + 1) q
  rw [show setX q (i + 0) x i = x from if_pos (Nat.add_zero i).symm, lanL_congr (us := us) (i := i + 1) (q := setX q (i + 0) x) (q' := q) (fun k hk => if_neg (by omega))]
 | v :: us, i, j + 1, q, u', x, h => by
  have := lanL_setU (us := us) (i := i + 1) (j := j) (q := q) u' x (by simpa using h)
  show lanE v.lb (setX q (i + (j + 1)) x i) :: lanL (us.set j u') (i + 1) _ = lanE v.lb (q i) :: (lanL us (i + 1) q).set j _
  rw [← this, show setX q (i + (j + 1)) x i = q i from if_neg (by omega), show i + 1 + j = i + (j + 1) from by omega]
theorem map_set_who {us : List Uc} {j : Nat} {u u' : Uc} (h : us[j]? = some u) (e : u'.who = u.who) : (us.set j u').map (·.who) = us.map (·.who) := by
 apply List.ext_getElem?
 intro i
 rw [List.getElem?_map, List.getElem?_map, List.getElem?_set]
 by_cases q : j = i
 ·subst q
  rw [if_pos rfl, if_pos (List.getElem?_eq_some_iff.1 h).1, h]
  simp [e]
 ·rw [if_neg q]
theorem hasW_eq {us us' : List Uc} (h : us.map (·.who) = us'.map (·.who)) (a : Int) : hasW us a = hasW us' a := by
 have key : ∀ us : List Uc, hasW us a = (us.map (·.who)).any fun w => w == a := fun us => by unfold hasW; rw [List.any_map]; rfl
 rw [key, key, h]
def Wd.renew (W : Wd) (j : Nat) (u : Uc) (x : Ux) : Wd := { W with us := W.us.set j u, X := setX W.X j x, q := setX W.q j noQ }
theorem WdOk.renew {n nn : Nat} {W : Wd} (h : WdOk n nn W) {j : Nat} {u u' : Uc} {x : Ux} (hu : W.us[j]? = some u) (e : u'.who = u.who) (hk : kindOf u') (hx : UxOk u' x) : WdOk n nn (W.renew j u' x) := by
 have hm := map_set_who hu e
 refine ⟨⟨hm.trans h.us.who, fun v hv => ?_, fun i v hv => ?_⟩, by show (W.us.set j u').length = _; rw [List.length_set]; exact h.un, h.wn, h.nd, fun y hy => ?_⟩
 ·rcases List.mem_or_eq_of_mem_set hv with q | q
  ·exact h.us.kind v q
  ·rw [q]; exact hk
 ·have hv : (W.us.set j u')[i]? = some v := hv
  show UxOk v (setX W.X j x i)
  rw [List.getElem?_set] at hv
  by_cases q : j = i
  ·rw [if_pos q, if_pos (by have := (List.getElem?_eq_some_iff.1 hu).1; omega)] at hv
   obtain rfl := Option.some.inj hv
   rw [q, setX_at]
   exact hx
  ·rw [if_neg q] at hv
   rw [setX_ne _ _ (fun z => q z.symm)]
   exact h.us.ok i v hv
 ·have := h.ends y hy
  show hasW (W.us.set j u') y.1 = true ∧ hasW (W.us.set j u') y.2 = true ∧ _
  rw [hasW_eq hm, hasW_eq hm]
  exact this
def staV (s : Sta) : Value := .agg #[.int .i64 s.lo, .int .i64 s.hi, .int .i64 s.time, .bool s.set, .int .i64 s.held, .int .i64 s.hops, .bool s.good, .slice s.ta s.tl s.tc, .int .i64 s.st, .int .i64 s.sn, .int .i64 s.life]
theorem renew_parts {p : Par} {W : Wd} {n nn : Nat} (h : WdOk n nn W) {j : Nat} {u u' : Uc} {x : Ux} (hu : W.us[j]? = some u) {w : World} {Ln : List Ent} (h1 : (blk W.gw (wdC p W) 93).H w) (h2 : (row (some ⟨W.ub, 0, none⟩) W.uc 81 4 W.un (ucl (W.us.set j u'))).H w) (h3 : (row W.wa W.wc 72 2 W.wn (spl W.ls)).H w) (h4 : (manyE (unL p W.us 0 W.X)).H w) (h5 : (manyE (lanL W.us 0 W.q)).H w) (h6 : (unitE p u' x).H w) (h7 : (lanE u'.lb noQ).H w) : (worldE p (W.renew j u' x)).H w ∧ ∃ D, (ids [worldE p (W.renew j u' x)] ++ D).Perm (ids [row (some ⟨W.ub, 0, none⟩) W.uc 81 4 W.un (ucl (W.us.set j u')), unitE p u' x, lanE u'.lb noQ] ++ ids [blk W.gw (wdC p W) 93, row W.wa W.wc 72 2 W.wn (spl W.ls), manyE (unL p W.us 0 W.X), manyE (lanL W.us 0 W.q)]) := by
 have hlt := (List.getElem?_eq_some_iff.1 hu).1
 have e1 := unL_setU (p := p) (us := W.us) (i := 0) (j := j) (X := W.X) u' x hlt
 have e2 := lanL_setU (us := W.us) (i := 0) (j := j) (q := W.q) u' noQ hlt
 rw [Nat.zero_add] at e1 e2
 have eu : (unL p W.us 0 W.X)[j]? = some (unitE p u (W.X j)) := by rw [unL_at hu, Nat.zero_add]
 have el : (lanL W.us 0 W.q)[j]? = some (lanE u.lb (W.q j)) := by rw [lanL_at hu, Nat.zero_add]
 have setH : ∀ {l : List Ent} {e' : Ent}, (manyE l).H w → e'.H w → (manyE (l.set j e')).H w := fun {l e'} a b y hy => by
  rcases List.mem_or_eq_of_mem_set hy with q | q
  ·exact a y q
  ·rw [q]; exact b
 refine ⟨?_, (unitE p u (W.X j)).own ++ (lanE u.lb (W.q j)).own, ?_⟩
 ·intro y hy
  simp only [worldP, Wd.renew, List.mem_cons, List.not_mem_nil, or_false] at hy
  rcases hy with rfl | rfl | rfl | rfl | rfl
  ·exact h1
  ·exact h2
  ·exact h3
  ·rw [e1]; exact setH h4 h6
  ·rw [e2]; exact setH h5 h7
 ·refine perm_of fun k => ?_
  have p1 := List.perm_iff_count.1 (set_own (e' := unitE p u' x) eu) k
  have p2 := List.perm_iff_count.1 (set_own (e' := lanE u'.lb noQ) el) k
  rw [← e1] at p1
  rw [← e2] at p2
  simp only [List.count_append] at p1 p2
  have o1 : (manyE (unL p (W.us.set j u') 0 (setX W.X j x))).own = ids (unL p (W.us.set j u') 0 (setX W.X j x)) := rfl
  have o2 : (manyE (lanL (W.us.set j u') 0 (setX W.q j noQ))).own = ids (lanL (W.us.set j u') 0 (setX W.q j noQ)) := rfl
  have o3 : (manyE (unL p W.us 0 W.X)).own = ids (unL p W.us 0 W.X) := rfl
  have o4 : (manyE (lanL W.us 0 W.q)).own = ids (lanL W.us 0 W.q) := rfl
  have o5 : ids [worldE p (W.renew j u' x)] = ids [blk W.gw (wdC p W) 93, row (some ⟨W.ub, 0, none⟩) W.uc 81 4 W.un (ucl (W.us.set j u')), row W.wa W.wc 72 2 W.wn (spl W.ls), manyE (unL p (W.us.set j u') 0 (setX W.X j x)), manyE (lanL (W.us.set j u') 0 (setX W.q j noQ))] := by
   show (worldE p (W.renew j u' x)).own ++ [] = _
   rw [List.append_nil]; rfl
  rw [o5]
  simp only [ids_cons, List.count_append, o1, o2, o3, o4]
  simp only [ids, List.flatMap_nil, List.count_nil] at *
  omega
theorem x_Begin (p : Par) (W : Wd) {n nn : Nat} (h : WdOk n nn W) (hn : n ≤ 16) (hk : nn ≤ 32) (who : Int) (s : Sta) (l : List (Int × Int)) (hl : l.length = s.tl) (hnl : s.tl ≤ 1000) : Spec prog 43 [.pointer (some ⟨W.gw, 0, none⟩), .int .i64 who, staV s] [worldE p W] [view s.ta s.tc 174 2 s.tl (spl l)] (fun v Ln => v = .tuple #[] ∧ ∃ us X q, WdOk n nn { W with us := us, X := X, q := q } ∧ (∀ i k, q i k = W.q i k ∨ q i k = []) ∧ Ln = [worldE p { W with us := us, X := X, q := q }]) := by
 have hun : W.un ≤ 1000 := by have := h.len; have := h.un; omega
 by_cases hex : ∃ (j : Nat) (u : Uc), W.us[j]? = some u ∧ u.who = who
 ·obtain ⟨j, u, hu, hw⟩ := hex
  have hlt := (List.getElem?_eq_some_iff.1 hu).1
  have hqq : ∀ (i k : Nat), setX W.q j noQ i k = W.q i k ∨ setX W.q j noQ i k = [] := fun i k => by
   by_cases e : i = j
   ·rw [e, setX_at]; exact .inr rfl
   ·rw [setX_ne _ _ e]; exact .inl rfl
  refine Spec.frame fun w h1 h2 h3 => ?_
  have hW := h1 _ (List.mem_cons_self ..)
  have common : ∀ e ∈ [blk W.gw (wdC p W) 93, row W.wa W.wc 72 2 W.wn (spl W.ls), manyE (unL p W.us 0 W.X), manyE (lanL W.us 0 W.q)], e.H w := fun e he => by
   refine world_mem hW ?_
   simp only [List.mem_cons, List.not_mem_nil, or_false] at he
   rcases he with rfl | rfl | rfl | rfl <;> simp [worldP]
  have cR : ∀ e ∈ [blk W.gw (wdC p W) 93, view s.ta s.tc 174 2 s.tl (spl l)], e.H w := fun e he => by
   simp only [List.mem_cons, List.not_mem_nil, or_false] at he
   rcases he with rfl | rfl
   ·exact common _ (by simp)
   ·exact h2 _ (by simp)
  have cK : ∀ k ∈ ids [blk W.gw (wdC p W) 93, view s.ta s.tc 174 2 s.tl (spl l)], k ∈ ids [view s.ta s.tc 174 2 s.tl (spl l)] ∨ k ∈ ids [blk W.gw (wdC p W) 93, row W.wa W.wc 72 2 W.wn (spl W.ls), manyE (unL p W.us 0 W.X), manyE (lanL W.us 0 W.q)] := fun k hk => by
   simp only [ids_cons, List.mem_append] at hk ⊢
   rcases hk with q | q | q
   ·exact .inr (.inl q)
   ·exact .inl (.inl q)
   ·cases q
  have cP : (ids [row (some ⟨W.ub, 0, none⟩) W.uc 81 4 W.un (ucl W.us)] ++ ids [blk W.gw (wdC p W) 93, row W.wa W.wc 72 2 W.wn (spl W.ls), manyE (unL p W.us 0 W.X), manyE (lanL W.us 0 W.q)]).Perm (ids [worldE p W]) := by
   have o5 : ids [worldE p W] = ids (worldP p W) := by show (worldE p W).own ++ [] = _; rw [List.append_nil]; rfl
   rw [o5]
   refine perm_of fun k => ?_
   simp only [worldP, ids_cons, ids_nil, List.count_append, List.count_nil]
   omega
  have cA : ∀ e ∈ [row (some ⟨W.ub, 0, none⟩) W.uc 81 4 W.un (ucl W.us)], e.H w := fun e he => by simp at he; subst he; exact world_mem hW (by simp [worldP])
  by_cases hw16 : who < 16
  ·have sp := w_BeginG W.gw W.ub W.un W.uc W.wn W.wc W.wa p W.tm W.us h.un hun who (h.nodup hn) j u hu hw s l hl hnl hw16
   refine ⟨_, [blk W.gw (wdC p W) 93, row W.wa W.wc 72 2 W.wn (spl W.ls), manyE (unL p W.us 0 W.X), manyE (lanL W.us 0 W.q)], _, _, cA, common, cP, sp, cR, cK, ?_⟩
   rintro w' v Ln ⟨hv, gn, lb, cs, s', l2, hSR, hl2, hg2, hLan, rfl⟩ hl' hb
   have hU : (unitE p ⟨who, 119, gn, lb⟩ ⟨s', l2, [], 0, 0, 0⟩).H w' := by
    rw [unitE_gate (by exact hw16)]
    intro y hy
    simp only [List.mem_cons, List.not_mem_nil, or_false] at hy
    rcases hy with rfl | rfl
    ·exact hl' (blk gn (gateC p s' who) 122) (by simp [gateC, parC, staC])
    ·exact hl' _ (by simp [tabOf])
   have hLn : (lanE lb noQ).H w' := ⟨cs, hl' _ (by simp), hLan⟩
   obtain ⟨r1, D, r2⟩ := renew_parts (p := p) h (u' := ⟨who, 119, gn, lb⟩) (x := ⟨s', l2, [], 0, 0, 0⟩) hu (Ln := []) (hb _ (by simp)) (hl' _ (by simp)) (hb _ (by simp)) (hb _ (by simp)) (hb _ (by simp)) hU hLn
   refine ⟨[worldE p (W.renew j ⟨who, 119, gn, lb⟩ ⟨s', l2, [], 0, 0, 0⟩)], D, ⟨hv, _, _, _, h.renew hu hw.symm (kindG hw16 rfl) (fresh_ok hl2 hg2), hqq, rfl⟩, r2.trans ?_, by simpa using r1⟩
   refine perm_of fun k => ?_
   rw [unitE_gate (show (Uc.mk who 119 gn lb).who < 16 from hw16)]
   simp only [ids_cons, ids_nil, List.count_append, List.count_nil, manyE, lanE, blk, tabOf]
   omega
  ·have sp := w_BeginN W.gw W.ub W.un W.uc W.wn W.wc W.wa p W.tm W.us h.un hun who (h.nodup hn) j u hu hw s l hl hnl (by omega)
   refine ⟨_, [blk W.gw (wdC p W) 93, row W.wa W.wc 72 2 W.wn (spl W.ls), manyE (unL p W.us 0 W.X), manyE (lanL W.us 0 W.q)], _, _, cA, common, cP, sp, cR, cK, ?_⟩
   rintro w' v Ln ⟨hv, gn, tb, r, lb, cs, s', l2, hSR, hl2, hg2, hLan, rfl⟩ hl' hb
   have hU : (unitE p ⟨who, 123, gn, lb⟩ ⟨s', l2, [], 0, tb, r⟩).H w' := by
    rw [unitE_node (by exact hw16)]
    intro y hy
    simp only [List.mem_cons, List.not_mem_nil, or_false] at hy
    rcases hy with rfl | rfl | rfl | rfl
    ·exact hl' (blk gn (nodeC p s' who tb) 127) (by simp [nodeC, parC, staC])
    ·exact hl' _ (by simp [tabOf])
    ·exact hl' _ (by simp)
    ·exact hl' _ (by simp)
   have hLn : (lanE lb noQ).H w' := ⟨cs, hl' _ (by simp), hLan⟩
   obtain ⟨r1, D, r2⟩ := renew_parts (p := p) h (u' := ⟨who, 123, gn, lb⟩) (x := ⟨s', l2, [], 0, tb, r⟩) hu (Ln := []) (hb _ (by simp)) (hl' _ (by simp)) (hb _ (by simp)) (hb _ (by simp)) (hb _ (by simp)) hU hLn
   refine ⟨[worldE p (W.renew j ⟨who, 123, gn, lb⟩ ⟨s', l2, [], 0, tb, r⟩)], D, ⟨hv, _, _, _, h.renew hu hw.symm (kindN hw16 rfl) (fresh_ok hl2 hg2), hqq, rfl⟩, r2.trans ?_, by simpa using r1⟩
   refine perm_of fun k => ?_
   rw [unitE_node (show ¬ (Uc.mk who 123 gn lb).who < 16 from hw16)]
   simp only [ids_cons, ids_nil, List.count_append, List.count_nil, manyE, lanE, blk, tabOf, mapE]
   omega
 ·have sp := w_Begin0 W.gw W.ub W.un W.uc W.wn W.wc W.wa p W.tm W.us h.un hun who (fun u hu e => hex (by obtain ⟨i, hi, e2⟩ := List.getElem_of_mem hu; exact ⟨i, u, by rw [List.getElem?_eq_getElem hi, e2], e⟩)) s
  refine Spec.frame fun w h1 h2 h3 => ?_
  have hW := h1 _ (List.mem_cons_self ..)
  refine ⟨[], [worldE p W], _, _, by simp, h1, by simp [ids], sp, ?_, ?_, ?_⟩
  ·intro e he
   simp only [List.mem_cons, List.not_mem_nil, or_false] at he
   rcases he with rfl | rfl
   ·exact world_mem hW (by simp [worldP, wdC, parC])
   ·exact world_mem hW (by simp [worldP])
  ·intro k hk
   refine .inr ?_
   simp only [ids_cons, List.mem_append] at hk ⊢
   rcases hk with q | q | q
   ·exact .inl (world_own (e := blk W.gw (wdC p W) 93) (by simp [worldP]) k q)
   ·exact .inl (world_own (e := row (some ⟨W.ub, 0, none⟩) W.uc 81 4 W.un (ucl W.us)) (by simp [worldP]) k q)
   ·cases q
  ·rintro w' v Ln ⟨hv, rfl⟩ hl' hb
   exact ⟨[worldE p W], [], ⟨hv, W.us, W.X, W.q, h, fun _ _ => .inl rfl, rfl⟩, by simp [ids], hb⟩
theorem x_Put (p : Par) (W : Wd) {n nn : Nat} (h : WdOk n nn W) (hn : n ≤ 16) (hk : nn ≤ 32) (a b : Int) (s : ByteArray) (hfit : ∀ i k, (W.q i k).length < 64) : Spec prog 44 [.pointer (some ⟨W.gw, 0, none⟩), .agg #[.int .i64 a, .int .i64 b], .string s] [worldE p W] [] (fun v Ln => ∃ e q, v = .int .i64 e ∧ (∀ i k, (q i k).length ≤ (W.q i k).length + 1) ∧ Ln = [worldE p { W with q := q }]) := by
 have hun : W.un ≤ 1000 := by have := h.len; have := h.un; omega
 by_cases hex : ∃ (j : Nat) (u : Uc), W.us[j]? = some u ∧ u.who = b
 ·obtain ⟨j, u, hu, hw⟩ := hex
  have hlt := (List.getElem?_eq_some_iff.1 hu).1
  have el : (lanL W.us 0 W.q)[j]? = some (lanE u.lb (W.q j)) := by rw [lanL_at hu, Nat.zero_add]
  refine Spec.frame fun w h1 h2 h3 => ?_
  have hW := h1 _ (List.mem_cons_self ..)
  have hlan : (manyE (lanL W.us 0 W.q)).H w := world_mem hW (by simp [worldP])
  obtain ⟨cs, hc, hL⟩ := hlan _ (List.mem_of_getElem? el)
  have sp := w_PutY W.gw W.ub W.un W.uc W.wn W.wc W.wa p W.tm W.us h.un hun a b s (h.nodup hn) j u hu hw cs (W.q j) hL (hfit j)
  refine ⟨_, [blk W.gw (wdC p W) 93, row (some ⟨W.ub, 0, none⟩) W.uc 81 4 W.un (ucl W.us), row W.wa W.wc 72 2 W.wn (spl W.ls), manyE (unL p W.us 0 W.X), manyE ((lanL W.us 0 W.q).eraseIdx j)], _, _, ?_, ?_, ?_, sp, ?_, ?_, ?_⟩
  ·intro e he; simp at he; subst he; exact hc
  ·intro e he
   simp only [List.mem_cons, List.not_mem_nil, or_false] at he
   rcases he with rfl | rfl | rfl | rfl | rfl
   ·exact world_mem hW (by simp [worldP])
   ·exact world_mem hW (by simp [worldP])
   ·exact world_mem hW (by simp [worldP])
   ·exact world_mem hW (by simp [worldP])
   ·exact fun x hx => hlan x (List.mem_of_mem_eraseIdx hx)
  ·have o5 : ids [worldE p W] = ids (worldP p W) := by show (worldE p W).own ++ [] = _; rw [List.append_nil]; rfl
   rw [o5]
   refine perm_of fun k => ?_
   have p1 := List.perm_iff_count.1 (ids_perm (perm_front el)) k
   have o4 : (manyE (lanL W.us 0 W.q)).own = ids (lanL W.us 0 W.q) := rfl
   have o6 : (manyE ((lanL W.us 0 W.q).eraseIdx j)).own = ids ((lanL W.us 0 W.q).eraseIdx j) := rfl
   rw [ids_cons] at p1
   simp only [List.count_append, lanE] at p1
   simp only [worldP, ids_cons, ids_nil, List.count_append, List.count_nil, o4, o6, blk] at p1 ⊢
   omega
  ·intro e he
   simp only [List.mem_cons, List.not_mem_nil, or_false] at he
   rcases he with rfl | rfl
   ·exact world_mem hW (by simp [worldP, wdC, parC])
   ·exact world_mem hW (by simp [worldP])
  ·intro k hk
   refine .inr ?_
   simp only [ids_cons, ids_nil, List.mem_append] at hk ⊢
   rcases hk with q | q | q
   ·exact .inl q
   ·exact .inr (.inl q)
   ·cases q
  ·rintro w' v Ln ⟨e, hv, cs', rfl, hL'⟩ hl hb
   have e2 := lanL_set (us := W.us) (i := 0) (j := j) (q := W.q) (pushQ (W.q j) a s) hu
   refine ⟨[worldE p { W with q := fun k => if k = 0 + j then pushQ (W.q j) a s else W.q k }], [], ⟨e, _, hv, fun i k => ?_, rfl⟩, ?_, ?_⟩
   ·show ((if i = 0 + j then pushQ (W.q j) a s else W.q i) k).length ≤ _
    split
    ·next z =>
     obtain rfl : i = j := by omega
     unfold pushQ
     split
     ·unfold upd
      split
      ·next y => rw [y]; simp
      ·omega
     ·omega
    ·omega
   ·rw [List.append_nil]
    have o5 : ids [worldE p { W with q := fun k => if k = 0 + j then pushQ (W.q j) a s else W.q k }] = ids (worldP p { W with q := fun k => if k = 0 + j then pushQ (W.q j) a s else W.q k }) := by
     show (worldE p _).own ++ [] = _
     rw [List.append_nil]; rfl
    rw [o5]
    refine perm_of fun k => ?_
    have p1 := List.perm_iff_count.1 (set_own (e' := lanE u.lb (pushQ (W.q j) a s)) el) k
    have p2 := List.perm_iff_count.1 (ids_perm (perm_front el)) k
    rw [e2] at p1
    have o4 : (manyE (lanL W.us 0 (fun k => if k = 0 + j then pushQ (W.q j) a s else W.q k))).own = ids (lanL W.us 0 (fun k => if k = 0 + j then pushQ (W.q j) a s else W.q k)) := rfl
    have o6 : (manyE ((lanL W.us 0 W.q).eraseIdx j)).own = ids ((lanL W.us 0 W.q).eraseIdx j) := rfl
    rw [ids_cons] at p2
    simp only [List.count_append, lanE] at p1 p2
    simp only [worldP, ids_cons, ids_nil, List.count_append, List.count_nil, o4, o6, blk, wdC] at p1 p2 ⊢
    omega
   ·intro x hx
    simp only [List.mem_cons, List.not_mem_nil, or_false] at hx
    subst hx
    intro y hy
    simp only [worldP, List.mem_cons, List.not_mem_nil, or_false] at hy
    rcases hy with rfl | rfl | rfl | rfl | rfl
    ·exact hb _ (by simp [wdC])
    ·exact hb _ (by simp)
    ·exact hb _ (by simp)
    ·exact hb _ (by simp)
    ·rw [← e2]
     have hrest := hb (manyE ((lanL W.us 0 W.q).eraseIdx j)) (by simp)
     intro z hz
     have hz' : z ∈ lanE u.lb (pushQ (W.q j) a s) :: (lanL W.us 0 W.q).eraseIdx j := by
      rcases List.mem_iff_getElem?.1 hz with ⟨i, hi⟩
      rw [List.getElem?_set] at hi
      by_cases q : j = i
      ·rw [if_pos q] at hi
       split at hi
       ·exact (Option.some.inj hi) ▸ List.mem_cons_self ..
       ·cases hi
      ·rw [if_neg q] at hi
       exact List.mem_cons_of_mem _ (List.mem_eraseIdx_iff_getElem?.2 ⟨i, fun z => q z.symm, hi⟩)
     rcases List.mem_cons.1 hz' with q | q
     ·rw [q]; exact ⟨cs', hl _ (by simp), hL'⟩
     ·exact hrest z q
 ·have sp := w_PutN W.gw W.ub W.un W.uc W.wn W.wc W.wa p W.tm W.us h.un hun a b s (fun u hu e => hex (by obtain ⟨i, hi, e2⟩ := List.getElem_of_mem hu; exact ⟨i, u, by rw [List.getElem?_eq_getElem hi, e2], e⟩))
  refine Spec.frame fun w h1 h2 h3 => ?_
  have hW := h1 _ (List.mem_cons_self ..)
  refine ⟨[], [worldE p W], _, _, by simp, h1, by simp [ids], sp, ?_, ?_, ?_⟩
  ·intro e he
   simp only [List.mem_cons, List.not_mem_nil, or_false] at he
   rcases he with rfl | rfl
   ·exact world_mem hW (by simp [worldP, wdC, parC])
   ·exact world_mem hW (by simp [worldP])
  ·intro k hk
   refine .inr ?_
   simp only [ids_cons, List.mem_append] at hk ⊢
   rcases hk with q | q | q
   ·exact .inl (world_own (e := blk W.gw (wdC p W) 93) (by simp [worldP]) k q)
   ·exact .inl (world_own (e := row (some ⟨W.ub, 0, none⟩) W.uc 81 4 W.un (ucl W.us)) (by simp [worldP]) k q)
   ·cases q
  ·rintro w' v Ln ⟨hv, rfl⟩ hl' hb
   exact ⟨[worldE p W], [], ⟨1, W.q, hv, fun _ _ => Nat.le_succ _, rfl⟩, by simp [ids], hb⟩
theorem x_Set (p : Par) (W : Wd) (t : Int) : Spec prog 42 [.pointer (some ⟨W.gw, 0, none⟩), .int .i64 t] [worldE p W] [] (fun v Ln => v = .tuple #[] ∧ Ln = [worldE p { W with tm := clp t }]) := by
 have sp := w_Set W.gw W.ub W.un W.uc W.wn W.wc W.wa p W.tm t
 refine Spec.frame fun w h1 h2 h3 => ?_
 have hW := h1 _ (List.mem_cons_self ..)
 refine ⟨_, [row (some ⟨W.ub, 0, none⟩) W.uc 81 4 W.un (ucl W.us), row W.wa W.wc 72 2 W.wn (spl W.ls), manyE (unL p W.us 0 W.X), manyE (lanL W.us 0 W.q)], _, _, ?_, ?_, ?_, sp, by simp, by simp [ids], ?_⟩
 ·intro e he; simp at he; subst he; exact world_mem hW (by simp [worldP, wdC, parC])
 ·intro e he
  refine world_mem hW ?_
  simp only [List.mem_cons, List.not_mem_nil, or_false] at he
  rcases he with rfl | rfl | rfl | rfl <;> simp [worldP]
 ·have o5 : ids [worldE p W] = ids (worldP p W) := by show (worldE p W).own ++ [] = _; rw [List.append_nil]; rfl
  rw [o5]
  refine perm_of fun k => ?_
  simp only [worldP, ids_cons, ids_nil, List.count_append, List.count_nil, blk]
  omega
 ·rintro w' v Ln ⟨hv, rfl⟩ hl hb
  refine ⟨[worldE p { W with tm := clp t }], [], ⟨hv, rfl⟩, ?_, ?_⟩
  ·rw [List.append_nil]
   have o5 : ids [worldE p { W with tm := clp t }] = ids (worldP p { W with tm := clp t }) := by show (worldE p _).own ++ [] = _; rw [List.append_nil]; rfl
   rw [o5]
   refine perm_of fun k => ?_
   simp only [worldP, ids_cons, ids_nil, List.count_append, List.count_nil, blk]
   omega
  ·intro x hx
   simp only [List.mem_cons, List.not_mem_nil, or_false] at hx
   subst hx
   intro y hy
   simp only [worldP, List.mem_cons, List.not_mem_nil, or_false] at hy
   rcases hy with rfl | rfl | rfl | rfl | rfl
   ·exact hl _ (by simp [wdC, parC])
   ·exact hb _ (by simp)
   ·exact hb _ (by simp)
   ·exact hb _ (by simp)
   ·exact hb _ (by simp)
def JoinOk (us : List Uc) (ls : List (Int × Int)) : Prop := ls.Nodup ∧ ∀ y ∈ ls, hasW us y.1 = true ∧ hasW us y.2 = true ∧ y.1 ≠ y.2
theorem joinL_iff (us : List Uc) (ls : List (Int × Int)) (a b : Int) (y : Int × Int) : y ∈ joinL us ls a b ↔ y ∈ ls ∨ (y = (a, b) ∧ a ≠ b ∧ hasW us a = true ∧ hasW us b = true) := by
 unfold joinL
 split
 ·next h =>
  simp only [Bool.and_eq_true, bne_iff_ne, ne_eq, Bool.not_eq_true', List.any_eq_false] at h
  rw [List.mem_append, List.mem_singleton]
  constructor
  ·rintro (q | q)
   ·exact .inl q
   ·exact .inr ⟨q, h.1, h.2.1, h.2.2.1⟩
  ·rintro (q | q)
   ·exact .inl q
   ·exact .inr q.1
 ·next h =>
  constructor
  ·exact .inl
  ·rintro (q | ⟨rfl, h1, h2, h3⟩)
   ·exact q
   ·refine Classical.byContradiction fun hn => h ?_
    rw [h2, h3]
    simp only [Bool.and_eq_true, bne_iff_ne, ne_eq, Bool.not_eq_true', List.any_eq_false, beq_iff_eq, true_and]
    refine ⟨h1, fun x hx e => hn ?_⟩
    have : x = (a, b) := Prod.ext e.1.symm e.2.symm
    exact this ▸ hx
theorem JoinOk.join {us : List Uc} {ls : List (Int × Int)} (h : JoinOk us ls) (a b : Int) : JoinOk us (joinL us ls a b) := by
 refine ⟨?_, fun y hy => ?_⟩
 ·unfold joinL
  split
  ·next hc =>
   simp only [Bool.and_eq_true, bne_iff_ne, ne_eq, Bool.not_eq_true', List.any_eq_false, beq_iff_eq] at hc
   rw [List.nodup_append]
   refine ⟨h.1, by simp, fun x hx z hz e => ?_⟩
   simp at hz
   subst hz
   exact hc.2.2.2 x hx (by rw [e]; exact ⟨rfl, rfl⟩)
  ·exact h.1
 ·rcases (joinL_iff us ls a b y).1 hy with q | ⟨rfl, h1, h2, h3⟩
  ·exact h.2 y q
  ·exact ⟨h2, h3, h1⟩
theorem fold_ind {α β : Type} {P : α → Prop} {f : α → β → α} : ∀ {l : List β} {a : α}, P a → (∀ a b, b ∈ l → P a → P (f a b)) → P (l.foldl f a)
 | [], a, h, _ => h
 | b :: l, a, h, hf => by
  rw [List.foldl_cons]
  exact fold_ind (l := l) (hf a b (List.mem_cons_self ..) h) fun a c hc => hf a c (List.mem_cons_of_mem _ hc)
theorem JoinOk.both {us : List Uc} {ls : List (Int × Int)} (h : JoinOk us ls) (a b : Int) : JoinOk us (bothL us ls a b) := by
 unfold bothL
 split
 ·exact (h.join _ _).join _ _
 ·exact h
theorem JoinOk.all {us : List Uc} (n : Nat) (core : List Int) (k : Nat) : JoinOk us (allJ us n core k) := by
 unfold allJ
 refine fold_ind ⟨by simp, fun y hy => nomatch hy⟩ fun ls i _ h => ?_
 unfold coreJ
 refine fold_ind ?_ fun ls c _ h => ?_
 ·unfold gateJ
  exact fold_ind h fun ls j _ h => h.join _ _
 ·unfold coreJ1
  split
  ·exact h.join _ _
  ·exact h
theorem JoinOk.link {us : List Uc} {ls : List (Int × Int)} (h : JoinOk us ls) (links : List (Int × Int)) : JoinOk us (linkJ us links ls) := fold_ind h fun ls y _ h => h.both _ _
def LsOf (n nn : Nat) (core : List Int) (links : List (Int × Int)) (ls : List (Int × Int)) : Prop := ∃ us : List Uc, us.map (·.who) = gatesL n ++ nodesL nn ∧ ls = linkJ us links (allJ us n core n)
theorem x_New (p : Par) (hokb : okB p = true) (n nn : Nat) (ci : Int) (hci : ci = (nn : Int)) (hn : p.n = (n : Int)) (hn0 : 0 < n) (hn7 : n ≤ 7) (hnn : nn ≤ 6) (ca ka : Option Addr) (cn cc kn kc : Nat) (core : List Int) (hcl : core.length = cn) (hcn : cn ≤ 20) (links : List (Int × Int)) (hkl : links.length = kn) (hkn : kn ≤ 40) :
  Spec prog 21 [.agg #[.int .i64 p.n, .int .i64 p.f, .int .i64 p.d, .int .i64 p.beat, .int .i64 p.rho, .int .i64 p.delay, .int .i64 p.jitter, .int .i64 p.eps, .int .i64 p.mu, .int .i64 p.hold, .int .i64 p.pulse, .int .i64 p.second], .int .i64 ci, .slice ca cn cc, .slice ka kn kc] [] [view ca cc 3 1 cn (ints core), view ka kc 72 2 kn (spl links)] (fun v Ln => ∃ W, v = .tuple #[.pointer (some ⟨W.gw, 0, none⟩), .int .i64 0] ∧ WdOk n nn W ∧ W.tm = 0 ∧ W.q = (fun _ => noQ) ∧ (∀ i, (W.X i).nb = []) ∧ LsOf n nn core links W.ls ∧ Ln = [worldE p W]) :=
 Spec.frame fun w h1 h2 h3 => by
  subst hci
  refine ⟨[], [], _, _, h1, h1, by simp [ids], w_New p hokb n nn hn hn0 hn7 hnn ca ka cn cc kn kc core hcl hcn links hkl hkn, h2, fun k hk => .inl hk, ?_⟩
  rintro w' v Ln ⟨gw, ub, uc, us, X, wa, wc, wn, ls, hv, hU, hls, hll, hwn, rfl⟩ hl hb
  have hJ : JoinOk us ls := by rw [hls]; exact (JoinOk.all n core n).link links
  refine ⟨[worldE p ⟨gw, ub, n + nn, uc, us, X, wa, wn, wc, ls, fun _ => noQ, 0⟩], [], ⟨⟨gw, ub, n + nn, uc, us, X, wa, wn, wc, ls, fun _ => noQ, 0⟩, hv, ⟨hU.1, nodes_w hU, ⟨hll, hwn⟩, hJ.1, hJ.2⟩, rfl, rfl, hU.2, ⟨us, hU.1.who, hls⟩, rfl⟩, ?_, ?_⟩
  ·rw [List.append_nil]
   have o5 : ids [worldE p ⟨gw, ub, n + nn, uc, us, X, wa, wn, wc, ls, fun _ => noQ, 0⟩] = ids (worldP p ⟨gw, ub, n + nn, uc, us, X, wa, wn, wc, ls, fun _ => noQ, 0⟩) := by show (worldE p _).own ++ [] = _; rw [List.append_nil]; rfl
   rw [o5]
   refine perm_of fun k => ?_
   simp only [worldP, ids_cons, ids_nil, List.count_append, List.count_nil, blk]
   omega
  ·intro x hx
   simp only [List.mem_cons, List.not_mem_nil, or_false] at hx
   subst hx
   intro y hy
   simp only [worldP, List.mem_cons, List.not_mem_nil, or_false] at hy
   rcases hy with rfl | rfl | rfl | rfl | rfl
   ·exact hl _ (by simp [wdC, parC])
   ·exact hl _ (by simp)
   ·exact hl _ (by simp)
   ·exact hl _ (by simp)
   ·exact hl _ (by simp)
def stal (l : List Sta) : List Value := l.flatMap staC
theorem stal_at {l : List Sta} {k : Nat} {x : Sta} (h : l[k]? = some x) : ((stal l).drop (0 + k * 11)).take 11 = staC x := by rw [Nat.zero_add]; exact flat_at staC (fun _ => rfl) h
theorem Spec.vv {P : Program} {f : FuncId} {args : List Value} {Lf : List Ent} {a a' : Option Addr} {c c' : Nat} {e e' : TypeId} {sz sz' n n' : Nat} {xs xs' : List Value} {post : Value → List Ent → Prop} (sp : Spec P f args Lf [view a c e sz n xs, view a' c' e' sz' n' xs'] post) : Spec P f args Lf [row a c e sz n xs, row a' c' e' sz' n' xs'] post := sp.rd (fun w h y hy => by
 simp at hy
 rcases hy with rfl | rfl
 ·exact view.of_row (h _ List.mem_cons_self)
 ·exact view.of_row (h _ (List.mem_cons_of_mem _ List.mem_cons_self))) fun k hk => by
 simp [ids] at hk ⊢
 exact hk.imp (view.own_row k) (view.own_row k)
def viewsE (ts : List Tb) : Ent where
 own := ts.flatMap fun x => (view x.a x.c 174 2 x.n (spl x.l)).own
 H w := ∀ x ∈ ts, (view x.a x.c 174 2 x.n (spl x.l)).H w
 loc w w' h hw x hx := (view x.a x.c 174 2 x.n (spl x.l)).loc w w' (fun k hk => h k (List.mem_flatMap.2 ⟨x, hx, hk⟩)) (hw x hx)
 lt w hw k hk := by
  obtain ⟨x, hx, hk⟩ := List.mem_flatMap.1 hk
  exact (view x.a x.c 174 2 x.n (spl x.l)).lt w (hw x hx) k hk
theorem viewsE_mem {ts : List Tb} {x : Tb} (hx : x ∈ ts) (w : World) (h : (viewsE ts).H w) : (view x.a x.c 174 2 x.n (spl x.l)).H w := h x hx
theorem viewsE_own {ts : List Tb} {x : Tb} (hx : x ∈ ts) : ∀ k ∈ (view x.a x.c 174 2 x.n (spl x.l)).own, k ∈ (viewsE ts).own := fun k hk => List.mem_flatMap.2 ⟨x, hx, hk⟩
structure TabsIn (ss : List Sta) (ts : List Tb) : Prop where
 h : ∀ s ∈ ss, ∃ y ∈ ts, y.a = s.ta ∧ y.n = s.tl ∧ y.c = s.tc ∧ y.l.length = y.n ∧ y.n ≤ 1000
end Go.Proofs.YtbmhgopjblnfnaaGreat.S
namespace Go.Proofs.YtbmhgopjblnfnaaGreat.S
open Go Go.Proofs Go.RowKit Go.Proofs.YtbmhgopjblnfnaaGreatW.PrintLast Tryz
theorem e21 : Is prog 21 := ⟨_, func21, by kernel_rfl, rfl⟩
theorem e42 : Is prog 42 := ⟨_, func42, by kernel_rfl, rfl⟩
theorem e43 : Is prog 43 := ⟨_, func43, by kernel_rfl, rfl⟩
theorem e44 : Is prog 44 := ⟨_, func44, by kernel_rfl, rfl⟩
theorem f30_1 : tfield prog 30 1 = some 12 := by kernel_rfl
theorem f30_3 : tfield prog 30 3 = some 14 := by kernel_rfl
theorem f30_4 : tfield prog 30 4 = some 15 := by kernel_rfl
theorem f30_5 : tfield prog 30 5 = some 16 := by kernel_rfl
theorem f30_6 : tfield prog 30 6 = some 17 := by kernel_rfl
theorem p44 : tplaces prog 44 = some [(0, 20), (20, 1), (21, 1), (22, 1)] := by kernel_rfl
theorem s26 : tslice prog 26 = some (70, 11) := by kernel_rfl
theorem t26 : tsz prog 26 = some (false, 1) := by kernel_rfl
theorem t30 : tsz prog 30 = some (true, 20) := by kernel_rfl
theorem z44 : tzero prog 44 = some [.int .i64 0, .int .i64 0, .int .i64 0, .int .i64 0, .int .i64 0, .int .i64 0, .int .i64 0, .int .i64 0, .int .i64 0, .int .i64 0, .int .i64 0, .int .i64 0, .int .i64 0, .int .i64 0, .slice none 0 0, .slice none 0 0, .slice none 0 0, .slice none 0 0, .slice none 0 0, .slice none 0 0, .pointer none, .int .i64 0, .int .i64 0] := by kernel_rfl
theorem l_begun (pw : List Int) (hpw : pw.length = 20) (p : Par) (hokb : okB p = true) (hp7 : p.n ≤ 7) (gg dd : Nat) (hg : p.n = (gg : Int)) (hg0 : 0 < gg) (hdd : dd ≤ 6) (ct cn : Int) (hd : cn = (dd : Int)) (ha ka sa fa na qa : Option Addr) (hn hc kn kc sn sc fn fc nn nc qn qc : Nat) (core : List Int) (hcl : core.length = hn) (hcn : hn ≤ 20) (links : List (Int × Int)) (hkl : links.length = kn) (hkn : kn ≤ 40) (ss : List Sta) (hsl : ss.length = sn) (hsn : sn ≤ 20) (ts : List Tb) (hts : TabsIn ss ts) (frs : List Li) (hfl : frs.length = fn) (hfn : fn ≤ 40) : Spec prog 24 [.agg #[.int .i64 p.n, .int .i64 p.f, .int .i64 p.d, .int .i64 p.beat, .int .i64 p.rho, .int .i64 p.delay, .int .i64 p.jitter, .int .i64 p.eps, .int .i64 p.mu, .int .i64 p.hold, .int .i64 p.pulse, .int .i64 p.second, .int .i64 ct, .int .i64 cn, .slice ha hn hc, .slice ka kn kc, .slice sa sn sc, .slice fa fn fc, .slice na nn nc, .slice qa qn qc]] [] [view ha hc 3 1 hn (ints core), view ka kc 72 2 kn (spl links), view sa sc 70 11 sn (stal ss), view fa fc 74 3 fn (lil frs), viewsE ts] (fun v Ln => ∃ rb W0, v = .pointer (some ⟨rb, 0, none⟩) ∧ WdOk gg dd W0 ∧ W0.tm = clp ct ∧ LsOf gg dd core links W0.ls ∧ Ln = [blk rb (pC p [.int .i64 ct, .int .i64 cn, .slice ha hn hc, .slice ka kn kc, .slice sa sn sc, .slice fa fn fc, .slice na nn nc, .slice qa qn qc, .pointer (some ⟨W0.gw, 0, none⟩), .int .i64 0, .int .i64 0]) 44, worldE p W0]) := by
 refine Spec.en func24 ntmps24 fun w0 => ?_
 refine G.sr fun _ K1 => ?_
 refine G.mk 1 .bx fun g1 => ?_
 refine G.M 2 ?_
 refine G.nk K1 ?_
 refine G.sr fun _ K2 => ?_
 refine G.V 12 (.fa f30_0 0) ?_
 refine G.V 13 (.lda t23 0 (vs := [.int .i64 p.n, .int .i64 p.f, .int .i64 p.d, .int .i64 p.beat, .int .i64 p.rho, .int .i64 p.delay, .int .i64 p.jitter, .int .i64 p.eps, .int .i64 p.mu, .int .i64 p.hold, .int .i64 p.pulse, .int .i64 p.second])) ?_
 refine G.V 14 (.fa f30_2 13) ?_
 refine G.V 15 (.ld t3 0) ?_
 refine G.V 16 (.fa f30_3 14) ?_
 refine G.V 17 (.ld t24 0) ?_
 refine G.V 18 (.fa f30_4 15) ?_
 refine G.V 19 (.ld t25 0) ?_
 refine G.C 20 [] [0, 1]  e21 (x_New p hokb gg dd cn hd hg hg0 (by omega) hdd ha ka hn hc kn kc core hcl hcn links hkl hkn) ?_
 rintro _ _ ⟨W0, rfl, hW0, htm0, hq0, _, hls0, rfl⟩
 refine G.M 11 ?_
 refine G.V 21 (.ext (v := .pointer (some ⟨W0.gw, 0, none⟩))) ?_
 refine G.V 22 (.ext (v := .int .i64 0)) ?_
 refine G.M2 3 4 ?_
 refine G.nk K2 ?_
 refine G.Z fun _ K3 => ?_
 refine G.sr fun _ K4 => ?_
 refine G.M 23 ?_
 refine G.V 24 (.cast .bin (nf (by omega))) ?_
 refine G.nk K4 ?_
 refine G.no rfl ?_
 refine G.sk K3 ?_
 refine G.sr fun _ K5 => ?_
 refine G.V 25 (.lda t30 1 (vs := [.int .i64 p.n, .int .i64 p.f, .int .i64 p.d, .int .i64 p.beat, .int .i64 p.rho, .int .i64 p.delay, .int .i64 p.jitter, .int .i64 p.eps, .int .i64 p.mu, .int .i64 p.hold, .int .i64 p.pulse, .int .i64 p.second, .int .i64 ct, .int .i64 cn, .slice ha hn hc, .slice ka kn kc, .slice sa sn sc, .slice fa fn fc, .slice na nn nc, .slice qa qn qc])) ?_
 refine G.M 26 ?_
 refine G.V 27 (.build z44 p44 (cs := #[.int .i64 p.n, .int .i64 p.f, .int .i64 p.d, .int .i64 p.beat, .int .i64 p.rho, .int .i64 p.delay, .int .i64 p.jitter, .int .i64 p.eps, .int .i64 p.mu, .int .i64 p.hold, .int .i64 p.pulse, .int .i64 p.second, .int .i64 ct, .int .i64 cn, .slice ha hn hc, .slice ka kn kc, .slice sa sn sc, .slice fa fn fc, .slice na nn nc, .slice qa qn qc, .pointer (some ⟨W0.gw, 0, none⟩), .int .i64 0, .int .i64 0]) (hf := by kernel_rfl)) ?_
 refine G.mk 28 .bx fun rb => ?_
 refine G.M 5 ?_
 refine G.nk K5 ?_
 refine G.sr fun _ K6 => ?_
 refine G.M 29 ?_
 refine G.V 30 (.fa f30_1 12) ?_
 refine G.V 31 (.ld t3 2) ?_
 refine G.C 32 [1] []  e42 (x_Set p W0 ct) ?_
 rintro _ _ ⟨rfl, rfl⟩
 refine G.nk K6 ?_
 refine G.Z fun _ K7 => ?_
 refine G.sr fun _ K8 => ?_
 refine G.V 33 (.fa f30_5 16) ?_
 refine G.V 34 (.ld t26 2) ?_
 refine G.V 35 (.lenl s26) ?_
 refine G.M 36 ?_
 refine G.nk K8 ?_
 refine G.block ?_
 refine G.only [1, 0, 0] ?_
 refine G.lpR (ι := {z : Nat × List Uc × (Nat → Ux) × Qs // z.1 ≤ sn ∧ WdOk gg dd { W0 with tm := clp ct, us := z.2.1, X := z.2.2.1, q := z.2.2.2 } ∧ ∀ i j, z.2.2.2 i j = [] }) (fun ⟨⟨k, us, X, q⟩, hj, hW1, hq1⟩ => sn - k) (fun ⟨⟨k, us, X, q⟩, hj, hW1, hq1⟩ => [(1, .pointer (some ⟨g1, 0, none⟩)), (3, .pointer (some ⟨W0.gw, 0, none⟩)), (5, .pointer (some ⟨rb, 0, none⟩)), (34, .slice sa sn sc), (35, .int .i64 (sn : Int)), (36, .int .i64 (k : Int))]) (fun ⟨⟨k, us, X, q⟩, hj, hW1, hq1⟩ => [blk rb (pC p [.int .i64 ct, .int .i64 cn, .slice ha hn hc, .slice ka kn kc, .slice sa sn sc, .slice fa fn fc, .slice na nn nc, .slice qa qn qc, .pointer (some ⟨W0.gw, 0, none⟩), .int .i64 0, .int .i64 0]) 44, worldE p { W0 with tm := clp ct, us := us, X := X, q := q }, blk g1 (pC p [.int .i64 ct, .int .i64 cn, .slice ha hn hc, .slice ka kn kc, .slice sa sn sc, .slice fa fn fc, .slice na nn nc, .slice qa qn qc]) 30]) ?_ ?_
 exact G.at ⟨(0, W0.us, W0.X, W0.q), Nat.zero_le _, ⟨hW0.us, hW0.un, hW0.wn, hW0.nd, hW0.ends⟩, fun i j => by dsimp only; rw [hq0]; rfl⟩ (ts := [1, 3, 5, 34, 35, 36]) rfl rfl rfl rfl
 rintro ⟨⟨k, us, X, q⟩, hj, hW1, hq1⟩ _ K9
 try dsimp only at K9 ⊢
 try dsimp only at hj hW1 hq1
 refine G.sr fun _ K10 => ?_
 refine G.V 37 .bin ?_
 refine G.nk K10 ?_
 refine G.Z fun _ K11 => ?_
 refine G.cond rfl (fun hc37 => ?_) (fun hc37 => ?_)
 have hk : k < sn := by have := of_decide_eq_true hc37; omega
 obtain ⟨y, hy⟩ : ∃ x, ss[k]? = some x := ⟨_, List.getElem?_eq_getElem (by omega)⟩
 refine G.sk K11 ?_
 refine G.Z fun _ K12 => ?_
 refine G.block ?_
 refine G.Z fun _ K13 => ?_
 refine G.vbase 5 (show 0 < sn by omega) fun b14 ob14 hb_ => ?_
 subst hb_
 refine G.region ?_
 refine G.M 38 ?_
 refine G.V 39 (.is s26 k hk) ?_
 refine G.V 40 (.ldao t70 5 (hv := stal_at hy)) ?_
 refine G.mk 7 (.al z70) fun g7 => ?_
 refine G.M 6 ?_
 refine G.sn 0 (.st t70 0) rfl ?_
 refine G.nk K13 ?_
 refine G.sr fun _ K15 => ?_
 refine G.M2 41 8 ?_
 refine G.nk K15 ?_
 refine G.Z fun _ K16 => ?_
 refine G.sr fun _ K17 => ?_
 refine G.M 42 ?_
 refine G.V 43 (.fa f30_0 0) ?_
 refine G.V 44 (.fa f23_0 0) ?_
 refine G.V 45 (.ld t3 3) ?_
 refine G.V 46 .bin ?_
 refine G.nk K17 ?_
 refine G.cond rfl (fun hc46 => ?_) (fun hc46 => ?_)
 refine G.region ?_
 refine G.M 47 ?_
 refine G.V 48 .bw ?_
 refine G.V 49 (.fa f30_0 0) ?_
 refine G.V 50 (.fa f23_0 0) ?_
 refine G.V 51 (.ld t3 3) ?_
 refine G.V 52 .bw ?_
 refine G.M 8 ?_
 refine G.nk K16 ?_
 refine G.region ?_
 refine G.M2 53 54 ?_
 refine G.V 55 (.lda t70 0 (vs := [.int .i64 y.lo, .int .i64 y.hi, .int .i64 y.time, .bool y.set, .int .i64 y.held, .int .i64 y.hops, .bool y.good, .slice y.ta y.tl y.tc, .int .i64 y.st, .int .i64 y.sn, .int .i64 y.life])) ?_
 obtain ⟨t, ht, e0a, e0n, e0c, e0l, e0b⟩ := hts.h y (List.mem_of_getElem? hy)
 refine G.moreR 4 (e := view y.ta y.tc 174 2 y.tl (spl t.l)) (fun w q => by rw [← e0a, ← e0n, ← e0c]; exact viewsE_mem ht w q) (by rw [← e0a, ← e0n, ← e0c]; exact viewsE_own ht) ?_
 refine G.C 56 [2] [0]  e43 (x_Begin p { W0 with tm := clp ct, us := us, X := X, q := q } hW1 (by omega) (by omega) ((16 + (k : Int)) - p.n) y t.l (by rw [e0l, e0n]) (by rw [← e0n]; exact e0b)) ?_
 rintro _ _ ⟨rfl, us2, X2, q2, hW2, hq2, rfl⟩
 refine G.lessR ?_
 refine G.nk K12 ?_
 refine G.region ?_
 refine G.V 57 .bw ?_
 refine G.M 36 ?_
 refine G.nil ?_
 refine G.only [2, 0, 1] ?_
 refine K9 _ _ _ ?_
 exact G.ls ⟨(k + 1, us2, X2, q2), hk, hW2, fun i j => by dsimp only; rcases hq2 i j with h | h; exact h.trans (hq1 i j); exact h⟩
 refine G.sk K16 ?_
 refine G.region ?_
 refine G.M2 53 54 ?_
 refine G.V 55 (.lda t70 0 (vs := [.int .i64 y.lo, .int .i64 y.hi, .int .i64 y.time, .bool y.set, .int .i64 y.held, .int .i64 y.hops, .bool y.good, .slice y.ta y.tl y.tc, .int .i64 y.st, .int .i64 y.sn, .int .i64 y.life])) ?_
 obtain ⟨t, ht, e0a, e0n, e0c, e0l, e0b⟩ := hts.h y (List.mem_of_getElem? hy)
 refine G.moreR 4 (e := view y.ta y.tc 174 2 y.tl (spl t.l)) (fun w q => by rw [← e0a, ← e0n, ← e0c]; exact viewsE_mem ht w q) (by rw [← e0a, ← e0n, ← e0c]; exact viewsE_own ht) ?_
 refine G.C 56 [2] [0]  e43 (x_Begin p { W0 with tm := clp ct, us := us, X := X, q := q } hW1 (by omega) (by omega) (k : Int) y t.l (by rw [e0l, e0n]) (by rw [← e0n]; exact e0b)) ?_
 rintro _ _ ⟨rfl, us2, X2, q2, hW2, hq2, rfl⟩
 refine G.lessR ?_
 refine G.nk K12 ?_
 refine G.region ?_
 refine G.V 57 .bw ?_
 refine G.M 36 ?_
 refine G.nil ?_
 refine G.only [2, 0, 1] ?_
 refine K9 _ _ _ ?_
 exact G.ls ⟨(k + 1, us2, X2, q2), hk, hW2, fun i j => by dsimp only; rcases hq2 i j with h | h; exact h.trans (hq1 i j); exact h⟩
 have hW3 := hW1
 refine G.exit ?_
 refine K7 _ _ _ ?_
 refine G.Z fun _ K18 => ?_
 refine G.sr fun _ K19 => ?_
 refine G.V 58 (.fa f30_6 17) ?_
 refine G.V 59 (.ld t27 2) ?_
 refine G.V 60 (.lenl s27) ?_
 refine G.M 61 ?_
 refine G.nk K19 ?_
 refine G.block ?_
 refine G.lpR (ι := {z : Nat × Qs // z.1 ≤ fn ∧ ∀ i j, (z.2 i j).length ≤ z.1}) (fun ⟨⟨k, q⟩, hj, hq1⟩ => fn - k) (fun ⟨⟨k, q⟩, hj, hq1⟩ => [(1, .pointer (some ⟨g1, 0, none⟩)), (3, .pointer (some ⟨W0.gw, 0, none⟩)), (5, .pointer (some ⟨rb, 0, none⟩)), (59, .slice fa fn fc), (60, .int .i64 (fn : Int)), (61, .int .i64 (k : Int))]) (fun ⟨⟨k, q⟩, hj, hq1⟩ => [blk rb (pC p [.int .i64 ct, .int .i64 cn, .slice ha hn hc, .slice ka kn kc, .slice sa sn sc, .slice fa fn fc, .slice na nn nc, .slice qa qn qc, .pointer (some ⟨W0.gw, 0, none⟩), .int .i64 0, .int .i64 0]) 44, worldE p { W0 with tm := clp ct, us := us, X := X, q := q }, blk g1 (pC p [.int .i64 ct, .int .i64 cn, .slice ha hn hc, .slice ka kn kc, .slice sa sn sc, .slice fa fn fc, .slice na nn nc, .slice qa qn qc]) 30]) ?_ ?_
 exact G.at ⟨(0, q), Nat.zero_le _, fun i j => by dsimp only; rw [hq1 i j]; exact Nat.le_refl _⟩ (ts := [1, 3, 5, 59, 60, 61]) rfl rfl rfl rfl
 rintro ⟨⟨k, q⟩, hj, hq1⟩ _ K20
 try dsimp only at K20 ⊢
 try dsimp only at hj hq1
 have hW1 : WdOk gg dd { W0 with tm := clp ct, us := us, X := X, q := q } := ⟨hW3.us, hW3.un, hW3.wn, hW3.nd, hW3.ends⟩
 refine G.sr fun _ K21 => ?_
 refine G.V 62 .bin ?_
 refine G.nk K21 ?_
 refine G.Z fun _ K22 => ?_
 refine G.cond rfl (fun hc62 => ?_) (fun hc62 => ?_)
 have hk2 : k < fn := by have := of_decide_eq_true hc62; omega
 obtain ⟨x, hx⟩ : ∃ x, frs[k]? = some x := ⟨_, List.getElem?_eq_getElem (by omega)⟩
 refine G.sk K22 ?_
 refine G.Z fun _ K23 => ?_
 refine G.block ?_
 refine G.Z fun _ K24 => ?_
 refine G.vbase 6 (show 0 < fn by omega) fun b25 ob25 hb_ => ?_
 subst hb_
 refine G.region ?_
 refine G.V 63 (.is s27 k hk2) ?_
 refine G.V 64 (.ldao t74 6 (hv := lil_at hx)) ?_
 refine G.mk 10 (.al z74) fun g10 => ?_
 refine G.sn 0 (.st t74 0) rfl ?_
 refine G.nk K24 ?_
 refine G.region ?_
 refine G.M 65 ?_
 refine G.V 66 (.fa f74_0 0) ?_
 refine G.V 67 (.lda t72 0 (vs := [.int .i64 x.a, .int .i64 x.b])) ?_
 refine G.V 68 (.fa f74_1 2) ?_
 refine G.V 69 (.ld t9 0) ?_
 refine G.C 70 [2] []  e44 (x_Put p { W0 with tm := clp ct, us := us, X := X, q := q } hW1 (by omega) (by omega) x.a x.b x.s (fun i j => by have := hq1 i j; show (q i j).length < 64; omega)) ?_
 rintro _ _ ⟨pe, q2, rfl, hq2, rfl⟩
 refine G.nk K23 ?_
 refine G.region ?_
 refine G.V 71 .bw ?_
 refine G.M 61 ?_
 refine G.nil ?_
 refine G.only [2, 0, 1] ?_
 refine K20 _ _ _ ?_
 exact G.ls ⟨(k + 1, q2), hk2, fun i j => by have h1 := hq1 i j; have h2 := hq2 i j; dsimp only at h2 ⊢; omega⟩
 refine G.exit ?_
 refine K18 _ _ _ ?_
 refine G.sr fun _ K26 => ?_
 refine G.M2 72 2 ?_
 refine G.nk K26 ?_
 exact G.ret (G.F [0, 0] (.one Tryz.results24) ⟨rb, { W0 with tm := clp ct, us := us, X := X, q := q }, rfl, hW1, rfl, hls0, rfl⟩)
end Go.Proofs.YtbmhgopjblnfnaaGreat.S
namespace Go.Proofs.YtbmhgopjblnfnaaGreat.S
open Go Tryz
theorem srt_get {l : List Int} (h : Srt l l.length) {i j : Nat} (hij : i ≤ j) (hj : j < l.length) : l.getD i 0 ≤ l.getD j 0 := by
 rcases Nat.lt_or_ge i j with q | q
 ·exact h i j q hj
 ·have : i = j := by omega
  subst this; exact Int.le_refl _
theorem count_all {α : Type} {P : α → Bool} {l : List α} (h : ∀ x ∈ l, P x = true) : l.countP P = l.length := List.countP_eq_length.2 h
theorem count_none {α : Type} {P : α → Bool} {l : List α} (h : ∀ x ∈ l, P x = false) : l.countP P = 0 := List.countP_eq_zero.2 fun x hx => by rw [h x hx]; decide
theorem count_split {α : Type} (P : α → Bool) (l : List α) (k : Nat) : l.countP P = (l.take k).countP P + (l.drop k).countP P := by rw [← List.countP_append, List.take_append_drop]
theorem kth_ge {zs : List Int} {k : Nat} {x : Int} (h : Kth zs k x) (hk : k < zs.length) : zs.length - k ≤ zs.countP fun y => decide (x ≤ y) := by
 obtain ⟨l, hp, hs, rfl⟩ := h
 have hl := hp.length_eq
 rw [← hl] at hs hk ⊢
 rw [← hp.countP_eq, count_split _ l k, count_all (l := l.drop k)]
 ·rw [List.length_drop]; omega
 ·intro y hy
  obtain ⟨i, hi, rfl⟩ := List.getElem_of_mem hy
  rw [List.length_drop] at hi
  have := srt_get hs (i := k) (j := k + i) (by omega) (by omega)
  rw [List.getElem_drop]
  rw [List.getD_eq_getElem?_getD (i := k + i), List.getElem?_eq_getElem (by omega)] at this
  simpa using this
theorem kth_le {zs : List Int} {k : Nat} {x : Int} (h : Kth zs k x) (hk : k < zs.length) : k + 1 ≤ zs.countP fun y => decide (y ≤ x) := by
 obtain ⟨l, hp, hs, rfl⟩ := h
 have hl := hp.length_eq
 rw [← hl] at hs hk
 rw [← hp.countP_eq, count_split _ l (k + 1), count_all (l := l.take (k + 1))]
 ·rw [List.length_take]; omega
 ·intro y hy
  obtain ⟨i, hi, rfl⟩ := List.getElem_of_mem hy
  rw [List.length_take] at hi
  have := srt_get hs (i := i) (j := k) (by omega) (by omega)
  rw [List.getElem_take]
  rw [List.getD_eq_getElem?_getD (i := i), List.getElem?_eq_getElem (by omega)] at this
  simpa using this
theorem count_not {α : Type} (P Q : α → Bool) (l : List α) (h : ∀ x ∈ l, Q x = !P x) : l.countP P + l.countP Q = l.length := by
 induction l with
 | nil => rfl
 | cons x l ih =>
  have h1 := ih fun y hy => h y (List.mem_cons_of_mem _ hy)
  have h2 := h x (List.mem_cons_self ..)
  rw [List.countP_cons, List.countP_cons, h2]
  cases P x <;> simp <;> omega
theorem kth_gt {zs : List Int} {k : Nat} {x : Int} (h : Kth zs k x) (hk : k < zs.length) : (zs.countP fun y => decide (x < y)) ≤ zs.length - 1 - k := by
 have h1 := kth_le h hk
 have h2 := count_not (fun y => decide (y ≤ x)) (fun y => decide (x < y)) zs (fun y _ => by by_cases q : y ≤ x <;> simp [q] <;> omega)
 omega
theorem kth_lt {zs : List Int} {k : Nat} {x : Int} (h : Kth zs k x) (hk : k < zs.length) : (zs.countP fun y => decide (y < x)) ≤ k := by
 have h1 := kth_ge h hk
 have h2 := count_not (fun y => decide (x ≤ y)) (fun y => decide (y < x)) zs (fun y _ => by by_cases q : x ≤ y <;> simp [q] <;> omega)
 omega
theorem count_or {α : Type} {P Q R : α → Bool} {l : List α} (h : ∀ x ∈ l, P x = true → Q x = true ∨ R x = true) : l.countP P ≤ l.countP Q + l.countP R := by
 induction l with
 | nil => simp
 | cons x l ih =>
  have h1 := ih fun y hy => h y (List.mem_cons_of_mem _ hy)
  have h2 := h x (List.mem_cons_self ..)
  rw [List.countP_cons, List.countP_cons, List.countP_cons]
  cases hp : P x
  ·simp; omega
  ·rcases h2 hp with q | q <;> simp [q] <;> split <;> omega
theorem count_le {α : Type} {P Q : α → Bool} {l : List α} (h : ∀ x ∈ l, P x = true → Q x = true) : l.countP P ≤ l.countP Q := List.countP_mono_left h
theorem count_ex {α : Type} {P Q R : α → Bool} {l : List α} (h : l.countP Q + l.countP R < l.countP P) : ∃ x ∈ l, P x = true ∧ Q x = false ∧ R x = false := by
 refine Classical.byContradiction fun hn => ?_
 have := count_or (P := P) (Q := Q) (R := R) (l := l) fun x hx hp => by
  cases hq : Q x
  ·cases hr : R x
   ·exact absurd ⟨x, hx, hp, hq, hr⟩ hn
   ·exact .inr rfl
  ·exact .inl rfl
 omega
theorem fuse_in {f : Nat} {l : List (Int × Int)} {a b T : Int} (hl : 2 * f < l.length) (ha : Kth (l.map Prod.fst) (l.length - 1 - f) a) (hb : Kth (l.map Prod.snd) f b) (hw : (l.countP fun x => !(decide (x.1 ≤ T) && decide (T ≤ x.2))) ≤ f) : a ≤ T ∧ T ≤ b := by
 have h1 := kth_ge ha (by rw [List.length_map]; omega)
 have h2 := kth_le hb (by rw [List.length_map]; omega)
 rw [List.countP_map, List.length_map] at h1
 rw [List.countP_map] at h2
 refine ⟨Classical.byContradiction fun q => ?_, Classical.byContradiction fun q => ?_⟩
 ·have := count_le (P := (fun y => decide (a ≤ y)) ∘ Prod.fst) (Q := fun x : Int × Int => !(decide (x.1 ≤ T) && decide (T ≤ x.2))) (l := l) fun x _ hx => by
   simp at hx ⊢
   omega
  omega
 ·have := count_le (P := (fun y => decide (y ≤ b)) ∘ Prod.snd) (Q := fun x : Int × Int => !(decide (x.1 ≤ T) && decide (T ≤ x.2))) (l := l) fun x _ hx => by
   simp at hx ⊢
   omega
  omega
theorem fuse_one {f : Nat} {l : List (Int × Int)} {a b : Int} {G : Int × Int → Bool} (hl : 2 * f < l.length) (ha : Kth (l.map Prod.fst) (l.length - 1 - f) a) (hb : Kth (l.map Prod.snd) f b) (hg : 2 * f < l.countP G) : ∃ x ∈ l, G x = true ∧ x.1 ≤ a ∧ b ≤ x.2 := by
 have h1 := kth_gt ha (by rw [List.length_map]; omega)
 have h2 := kth_lt hb (by rw [List.length_map]; omega)
 rw [List.countP_map, List.length_map] at h1
 rw [List.countP_map] at h2
 obtain ⟨x, hx, hp, hq, hr⟩ := count_ex (P := G) (Q := (fun y => decide (a < y)) ∘ Prod.fst) (R := (fun y => decide (y < b)) ∘ Prod.snd) (l := l) (by omega)
 simp at hq hr
 exact ⟨x, hx, hp, hq, hr⟩
theorem fuse_two {f : Nat} {l : List (Int × Int)} {a b : Int} {G : Int × Int → Bool} (hl : 2 * f < l.length) (ha : Kth (l.map Prod.fst) (l.length - 1 - f) a) (hb : Kth (l.map Prod.snd) f b) (hg : f < l.countP G) : (∃ x ∈ l, G x = true ∧ x.1 ≤ a) ∧ ∃ x ∈ l, G x = true ∧ b ≤ x.2 := by
 have h1 := kth_gt ha (by rw [List.length_map]; omega)
 have h2 := kth_lt hb (by rw [List.length_map]; omega)
 rw [List.countP_map, List.length_map] at h1
 rw [List.countP_map] at h2
 refine ⟨?_, ?_⟩
 ·obtain ⟨x, hx, hp, hq, hr⟩ := count_ex (P := G) (Q := (fun y => decide (a < y)) ∘ Prod.fst) (R := fun _ => false) (l := l) (by rw [count_none (l := l) (P := fun _ => false) (fun _ _ => rfl)]; omega)
  simp at hq
  exact ⟨x, hx, hp, hq⟩
 ·obtain ⟨x, hx, hp, hq, hr⟩ := count_ex (P := G) (Q := (fun y => decide (y < b)) ∘ Prod.snd) (R := fun _ => false) (l := l) (by rw [count_none (l := l) (P := fun _ => false) (fun _ _ => rfl)]; omega)
  simp at hq
  exact ⟨x, hx, hp, hq⟩
theorem kth_in {f : Nat} {zs : List Int} {x : Int} {G : Int → Bool} (h : Kth zs f x) (hl : 2 * f < zs.countP G) (lo hi : Int) (hG : ∀ y, G y = true → lo ≤ y ∧ y ≤ hi) (hw : (zs.countP fun y => !G y) ≤ f) : lo ≤ x ∧ x ≤ hi := by
 have hlen : zs.countP G ≤ zs.length := List.countP_le_length
 have h1 := kth_le h (by omega)
 have h2 := kth_lt h (by omega)
 refine ⟨Classical.byContradiction fun q => ?_, ?_⟩
 ·have := count_le (P := fun y => decide (y ≤ x)) (Q := fun y => !G y) (l := zs) fun y _ hy => by
   simp at hy
   cases hg : G y
   ·rfl
   ·have := hG y hg; omega
  omega
 ·obtain ⟨y, _, hp, hq, _⟩ := count_ex (P := G) (Q := fun y => decide (y < x)) (R := fun _ => false) (l := zs) (by rw [count_none (l := zs) (P := fun _ => false) (fun _ _ => rfl)]; omega)
  simp at hq
  have := hG y hp
  omega
theorem nodup_sub {α : Type} [DecidableEq α] : ∀ {a b : List α}, a.Nodup → (∀ x ∈ a, x ∈ b) → a.length ≤ b.length
 | [], b, _, _ => Nat.zero_le _
 | x :: a, b, hn, h => by
  have hn' := List.nodup_cons.1 hn
  have hx := h x (List.mem_cons_self ..)
  have := nodup_sub (a := a) (b := b.erase x) hn'.2 fun y hy => (List.mem_erase_of_ne (fun e => hn'.1 (by rw [← e]; exact hy))).2 (h y (List.mem_cons_of_mem _ hy))
  rw [List.length_erase_of_mem hx] at this
  have := List.length_pos_of_mem hx
  simp only [List.length_cons]
  omega
theorem told_all (p : Par) (me : Int) : ∀ (hs o : List Hr), (o.map fun x => x.m.src).Nodup → (∀ x ∈ o, okT p me x = true) → ((hs.foldl (told1 p me) o).map fun x => x.m.src).Nodup ∧ (∀ x ∈ hs.foldl (told1 p me) o, okT p me x = true ∧ (x ∈ o ∨ x ∈ hs)) ∧ (∀ x ∈ o, x ∈ hs.foldl (told1 p me) o) ∧ ∀ x ∈ hs, okT p me x = true → ∃ y ∈ hs.foldl (told1 p me) o, y.m.src = x.m.src
 | [], o, h1, h2 => ⟨h1, fun x hx => ⟨h2 x hx, .inl hx⟩, fun _ hx => hx, fun x hx => by cases hx⟩
 | h :: hs, o, h1, h2 => by
  have key : ((told1 p me o h).map fun x => x.m.src).Nodup ∧ (∀ x ∈ told1 p me o h, okT p me x = true) := by
   unfold told1
   split
   ·next hc =>
    simp only [Bool.and_eq_true, Bool.not_eq_true', List.any_eq_false, beq_iff_eq] at hc
    refine ⟨?_, ?_⟩
    ·rw [List.map_append, List.nodup_append]
     refine ⟨h1, by simp, fun a ha b hb => ?_⟩
     simp at hb
     subst hb
     obtain ⟨z, hz, rfl⟩ := List.mem_map.1 ha
     exact hc.2 z hz
    ·intro x hx
     rcases List.mem_append.1 hx with q | q
     ·exact h2 x q
     ·simp at q; subst q; exact hc.1
   ·exact ⟨h1, h2⟩
  obtain ⟨a, b, c, d⟩ := told_all p me hs _ key.1 key.2
  have mono : ∀ x ∈ o, x ∈ told1 p me o h := fun x hx => by unfold told1; split; exact List.mem_append_left _ hx; exact hx
  refine ⟨a, fun x hx => ⟨(b x hx).1, ?_⟩, fun x hx => c x (mono x hx), fun x hx ho => ?_⟩
  ·rcases (b x hx).2 with q | q
   ·unfold told1 at q
    split at q
    ·rcases List.mem_append.1 q with q | q
     ·exact .inl q
     ·simp at q; subst q; exact .inr (List.mem_cons_self ..)
    ·exact .inl q
   ·exact .inr (List.mem_cons_of_mem _ q)
  ·rcases List.mem_cons.1 hx with rfl | q
   ·by_cases e : (o.any fun z => z.m.src == x.m.src) = true
    ·obtain ⟨z, hz, hz2⟩ := List.any_eq_true.1 e
     exact ⟨z, c z (mono z hz), by simpa using hz2⟩
    ·exact ⟨x, c x (by unfold told1; rw [if_pos (by rw [ho]; simpa using e)]; simp), rfl⟩
   ·exact d x q ho
theorem told_nd (p : Par) (me : Int) (hs : List Hr) : ((toldL p me hs).map fun x => x.m.src).Nodup := (told_all p me hs [] (by simp) (by simp)).1
theorem told_ok {p : Par} {me : Int} {hs : List Hr} {x : Hr} (h : x ∈ toldL p me hs) : okT p me x = true ∧ x ∈ hs := by
 obtain ⟨a, b⟩ := (told_all p me hs [] (by simp) (by simp)).2.1 x h
 exact ⟨a, b.elim (fun q => by cases q) id⟩
theorem told_has {p : Par} {me : Int} {hs : List Hr} {x : Hr} (h : x ∈ hs) (ho : okT p me x = true) : ∃ y ∈ toldL p me hs, y.m.src = x.m.src := (told_all p me hs [] (by simp) (by simp)).2.2.2 x h ho
theorem okT_iff {p : Par} {me : Int} {x : Hr} (hn : p.n ≤ 16) : okT p me x = true ↔ x.m.kind = 1 ∧ 0 ≤ x.m.src ∧ x.m.src < p.n ∧ x.m.src ≠ me := by
 unfold okT mn
 simp only [Bool.and_eq_true, beq_iff_eq, decide_eq_true_eq, bne_iff_ne, ne_eq]
 rw [show (if 16 < p.n then 16 else p.n) = p.n from if_neg (by omega)]
def iota (a : Int) (k : Nat) : List Int := (List.range k).map fun i : Nat => a + (i : Int)
theorem iota_len (a : Int) (k : Nat) : (iota a k).length = k := by simp [iota]
theorem mem_iota {a x : Int} {k : Nat} : x ∈ iota a k ↔ a ≤ x ∧ x < a + k := by
 unfold iota
 simp only [List.mem_map, List.mem_range]
 constructor
 ·rintro ⟨i, h, rfl⟩; omega
 ·rintro ⟨h1, h2⟩; exact ⟨(x - a).toNat, by omega, by omega⟩
theorem iota_nd (a : Int) (k : Nat) : (iota a k).Nodup := by
 unfold iota
 rw [List.nodup_iff_pairwise_ne, List.pairwise_map]
 exact List.Pairwise.imp (fun h e => h (by omega)) (List.nodup_iff_pairwise_ne.1 (List.nodup_range (n := k)))
theorem filt_nd {α β : Type} {g : α → β} {l : List α} (P : α → Bool) (h : (l.map g).Nodup) : ((l.filter P).map g).Nodup := h.sublist (List.Sublist.map g List.filter_sublist)
theorem count_few {o : List Hr} (h : (o.map fun x => x.m.src).Nodup) (a : Int) (k : Nat) : (o.countP fun x => decide (a ≤ x.m.src) && decide (x.m.src < a + k)) ≤ k := by
 rw [List.countP_eq_length_filter]
 have := nodup_sub (filt_nd (fun x : Hr => decide (a ≤ x.m.src) && decide (x.m.src < a + k)) h) (b := iota a k) fun x hx => by
  obtain ⟨y, hy, rfl⟩ := List.mem_map.1 hx
  have := (List.mem_filter.1 hy).2
  simp at this
  exact mem_iota.2 this
 rw [List.length_map, iota_len] at this
 exact this
theorem count_many {o : List Hr} {l : List Int} (hl : l.Nodup) (P : Hr → Bool) (h : ∀ i ∈ l, ∃ x ∈ o, P x = true ∧ x.m.src = i) : l.length ≤ o.countP P := by
 rw [List.countP_eq_length_filter]
 have := nodup_sub hl (b := (o.filter P).map fun x => x.m.src) fun i hi => by
  obtain ⟨x, hx, hp, rfl⟩ := h i hi
  exact List.mem_map.2 ⟨x, List.mem_filter.2 ⟨hx, hp⟩, rfl⟩
 rw [List.length_map] at this
 exact this
theorem erase_len {l : List Int} (x : Int) : l.length - 1 ≤ (l.erase x).length := by
 by_cases h : x ∈ l
 ·rw [List.length_erase_of_mem h]; exact Nat.le_refl _
 ·rw [List.erase_of_not_mem h]; omega
theorem getN_some {k : Int} {l : List Nb} {x : Nb} (h : getN k l = some x) : x ∈ l ∧ x.key = k := ⟨List.mem_of_find?_eq_some h, by simpa using List.find?_some h⟩
theorem hasN_iff {k : Int} {l : List Nb} : hasN k l = true ↔ ∃ x ∈ l, x.key = k := by
 unfold hasN getN
 rw [List.find?_isSome]
 simp
theorem getN_eq {l : List Nb} (h : (l.map (·.key)).Nodup) {x : Nb} (hx : x ∈ l) : getN x.key l = some x := by
 induction l with
 | nil => cases hx
 | cons y l ih =>
  rw [List.map_cons, List.nodup_cons] at h
  unfold getN
  rw [List.find?_cons]
  rcases List.mem_cons.1 hx with rfl | q
  ·simp
  ·have : y.key ≠ x.key := fun e => h.1 (e ▸ List.mem_map_of_mem q)
   rw [show (y.key == x.key) = false from by simpa using this]
   exact ih h.2 q
theorem ageN_eq {l : List Nb} (h : (l.map (·.key)).Nodup) {x : Nb} (hx : x ∈ l) : ageN x.key l = x.age := by unfold ageN; rw [getN_eq h hx]; rfl
theorem hear_keys {k : Int} {l : List Nb} {c : Nat} : ∀ x ∈ (hearL k l c).1, (x ∈ l ∧ x.key ≠ k) ∨ (x.key = k ∧ hearE k l = 0 ∧ x.quiet = 0) ∨ (x ∈ l ∧ hearE k l ≠ 0) := by
 intro x hx
 unfold hearL at hx
 split at hx
 ·next h0 =>
  unfold setN at hx
  split at hx
  ·obtain ⟨y, hy, rfl⟩ := List.mem_map.1 hx
   by_cases e : y.key = k
   ·rw [if_pos e]; exact .inr (.inl ⟨e, h0, rfl⟩)
   ·rw [if_neg e]; exact .inl ⟨hy, e⟩
  ·next hn =>
   rcases List.mem_append.1 hx with q | q
   ·refine .inl ⟨q, fun e => hn (hasN_iff.2 ⟨x, q, e⟩)⟩
   ·simp at q; subst q; exact .inr (.inl ⟨rfl, h0, rfl⟩)
 ·next h0 => exact .inr (.inr ⟨hx, h0⟩)
theorem hear_age {k j : Int} {l : List Nb} {c : Nat} : ageN j (hearL k l c).1 = ageN j l := by
 unfold hearL
 split
 ·generalize hA : ageN k l = A
  unfold ageN getN at hA
  unfold setN
  split
  ·next h =>
   unfold ageN getN
   rw [List.find?_map]
   have : (fun x : Nb => x.key == j) ∘ (fun y : Nb => if y.key = k then { y with age := A, quiet := 0 } else y) = fun x : Nb => x.key == j := by
    funext y
    simp only [Function.comp]
    split <;> rfl
   rw [this]
   cases hf : l.find? fun x => x.key == j with
   | none => rfl
   | some x =>
    obtain ⟨h1, h2⟩ := getN_some hf
    simp only [Option.map_some, Option.getD_some]
    split
    ·next e =>
     rw [← e, h2, hf] at hA
     exact hA.symm
    ·rfl
  ·next h =>
   unfold ageN getN
   rw [List.find?_append]
   cases hf : l.find? fun x => x.key == j with
   | some x => rfl
   | none =>
    by_cases e : k = j
    ·subst e
     rw [hf] at hA
     simp [← hA]
    ·simp [e]
 ·rfl
theorem hear_has {k : Int} {l : List Nb} {c : Nat} (h : hearE k l = 0) : hasN k (hearL k l c).1 = true := by
 unfold hearL
 rw [if_pos h]
 unfold setN
 split
 ·next hh =>
  obtain ⟨x, hx, e⟩ := hasN_iff.1 hh
  exact hasN_iff.2 ⟨_, List.mem_map.2 ⟨x, hx, rfl⟩, by rw [if_pos e]; exact e⟩
 ·exact hasN_iff.2 ⟨_, List.mem_append_right _ (List.mem_cons_self ..), rfl⟩
theorem hear_keep {j k : Int} {l : List Nb} {c : Nat} (h : hasN j l = true) : hasN j (hearL k l c).1 = true := by
 obtain ⟨x, hx, e⟩ := hasN_iff.1 h
 unfold hearL
 split
 ·unfold setN
  split
  ·exact hasN_iff.2 ⟨_, List.mem_map.2 ⟨x, hx, rfl⟩, by split <;> exact e⟩
  ·exact hasN_iff.2 ⟨x, List.mem_append_left _ hx, e⟩
 ·exact h
theorem hear_kn {k : Int} {l : List Nb} {c : Nat} (h : (l.map (·.key)).Nodup) : ((hearL k l c).1.map (·.key)).Nodup := by
 unfold hearL
 split
 ·unfold setN
  split
  ·rw [List.map_map]
   have : (fun x : Nb => x.key) ∘ (fun y : Nb => if y.key = k then { y with age := ageN k l, quiet := 0 } else y) = fun x : Nb => x.key := by
    funext y; simp only [Function.comp]; split <;> rfl
   rw [this]; exact h
  ·next hn =>
   rw [List.map_append, List.nodup_append]
   refine ⟨h, by simp, fun a ha b hb => ?_⟩
   obtain ⟨z, hz, rfl⟩ := List.mem_map.1 ha
   simp at hb; subst hb
   exact fun e => hn (hasN_iff.2 ⟨z, hz, e⟩)
 ·exact h
theorem known_from (me : Int) : ∀ (hs : List Hr) (st : List Hr × List Nb × Nat), ∀ x ∈ (hs.foldl (known1 me) st).2.1, x ∈ st.2.1 ∨ ∃ h ∈ hs, h.m.src = x.key
 | [], st, x, hx => .inl hx
 | h :: hs, st, x, hx => by
  rcases known_from me hs _ x hx with q | ⟨y, hy, e⟩
  ·unfold known1 at q
   split at q
   ·exact .inl q
   ·rcases hear_keys x q with ⟨z, _⟩ | ⟨z, _⟩ | ⟨z, _⟩
    ·exact .inl z
    ·exact .inr ⟨h, List.mem_cons_self .., z.symm⟩
    ·exact .inl z
  ·exact .inr ⟨y, List.mem_cons_of_mem _ hy, e⟩
theorem known_age1 (me j : Int) (st : List Hr × List Nb × Nat) (h : Hr) : ageN j (known1 me st h).2.1 = ageN j st.2.1 := by
 unfold known1
 split
 ·rfl
 ·exact hear_age
theorem known_out (me : Int) : ∀ (hs : List Hr) (st : List Hr × List Nb × Nat), ∀ y ∈ (hs.foldl (known1 me) st).1, y ∈ st.1 ∨ (y ∈ hs ∧ y.m.src ≠ me ∧ okK y (ageN y.m.src st.2.1) = true)
 | [], st, y, hy => .inl hy
 | h :: hs, st, y, hy => by
  rcases known_out me hs _ y hy with q | ⟨q1, q2, q3⟩
  ·unfold known1 at q
   split at q
   ·exact .inl q
   ·next hm =>
    dsimp only at q
    split at q
    ·next hc =>
     rcases List.mem_append.1 q with q | q
     ·exact .inl q
     ·simp at q; subst q
      simp only [Bool.and_eq_true] at hc
      simp only [Bool.or_eq_true, beq_iff_eq, not_or] at hm
      exact .inr ⟨List.mem_cons_self .., hm.2, hc.2⟩
    ·exact .inl q
  ·rw [known_age1] at q3
   exact .inr ⟨List.mem_cons_of_mem _ q1, q2, q3⟩
theorem known_keep (me : Int) : ∀ (hs : List Hr) (st : List Hr × List Nb × Nat), ∀ y ∈ st.1, y ∈ (hs.foldl (known1 me) st).1
 | [], st, y, hy => hy
 | h :: hs, st, y, hy => by
  refine known_keep me hs _ y ?_
  unfold known1
  split
  ·exact hy
  ·dsimp only; split
   ·exact List.mem_append_left _ hy
   ·exact hy
structure Fit (N : List Int) (me : Int) (l : List Nb) : Prop where
 kn : (l.map (·.key)).Nodup
 sub : ∀ x ∈ l, x.key ∈ N
theorem fit_hear {N : List Int} {me : Int} {l : List Nb} (h : Fit N me l) (hN : N.length ≤ 16) (h48 : ∀ k ∈ N, 0 ≤ k ∧ k < 48) {k : Int} (hk : k ∈ N) : hearE k l = 0 := by
 unfold hearE
 rw [if_neg (by have := h48 k hk; omega), if_neg]
 rintro ⟨h1, h2⟩
 have hnd : (k :: l.map (·.key)).Nodup := by
  refine List.nodup_cons.2 ⟨fun hm => ?_, h.kn⟩
  obtain ⟨x, hx, e⟩ := List.mem_map.1 hm
  rw [hasN_iff.2 ⟨x, hx, e⟩] at h1
  cases h1
 have := nodup_sub hnd (b := N) fun x hx => by
  rcases List.mem_cons.1 hx with e | q
  ·rw [e]; exact hk
  ·obtain ⟨y, hy, rfl⟩ := List.mem_map.1 q; exact h.sub y hy
 simp at this
 omega
theorem fit_known1 {N : List Int} {me : Int} {st : List Hr × List Nb × Nat} (h : Fit N me st.2.1) {x : Hr} (hx : x.m.src ∈ N) : Fit N me (known1 me st x).2.1 := by
 unfold known1
 split
 ·exact h
 ·refine ⟨hear_kn h.kn, fun y hy => ?_⟩
  rcases hear_keys y hy with ⟨q, _⟩ | ⟨q, _⟩ | ⟨q, _⟩
  ·exact h.sub y q
  ·rw [q]; exact hx
  ·exact h.sub y q
theorem known_fit {N : List Int} {me : Int} (hN : N.length ≤ 16) (h48 : ∀ k ∈ N, 0 ≤ k ∧ k < 48) : ∀ (hs : List Hr) (st : List Hr × List Nb × Nat), Fit N me st.2.1 → (∀ x ∈ hs, x.m.src ∈ N ∧ x.m.src ≠ me) → (∀ y ∈ st.1, hasN y.m.src st.2.1 = true) →
  Fit N me (hs.foldl (known1 me) st).2.1 ∧ (∀ j, ageN j (hs.foldl (known1 me) st).2.1 = ageN j st.2.1) ∧ (∀ j, hasN j st.2.1 = true → hasN j (hs.foldl (known1 me) st).2.1 = true) ∧ (∀ x ∈ hs, hasN x.m.src (hs.foldl (known1 me) st).2.1 = true) ∧ (∀ x ∈ hs, okK x (ageN x.m.src st.2.1) = true → ∃ y ∈ (hs.foldl (known1 me) st).1, y.m.src = x.m.src)
 | [], st, h, _, _ => ⟨h, fun _ => rfl, fun _ q => q, fun _ q => (by cases q), fun _ q => (by cases q)⟩
 | h :: hs, st, hf, hh, hy => by
  have h0 := hh h (List.mem_cons_self ..)
  have hf1 := fit_known1 hf h0.1
  have he := fit_hear hf hN h48 h0.1
  have keepN : ∀ j, hasN j st.2.1 = true → hasN j (known1 me st h).2.1 = true := fun j hj => by
   unfold known1
   split
   ·exact hj
   ·exact hear_keep hj
  have hnow : hasN h.m.src (known1 me st h).2.1 = true := by
   unfold known1
   split
   ·next hc =>
    simp only [Bool.or_eq_true, List.any_eq_true, beq_iff_eq] at hc
    rcases hc with ⟨y, hy1, e⟩ | q
    ·rw [← e]; exact hy y hy1
    ·exact absurd q h0.2
   ·exact hear_has he
  have hy' : ∀ y ∈ (known1 me st h).1, hasN y.m.src (known1 me st h).2.1 = true := fun y hy1 => by
   by_cases e : y ∈ st.1
   ·exact keepN _ (hy y e)
   ·have : y = h := by
     unfold known1 at hy1
     split at hy1
     ·exact absurd hy1 e
     ·dsimp only at hy1
      split at hy1
      ·rcases List.mem_append.1 hy1 with q | q
       ·exact absurd q e
       ·simpa using q
      ·exact absurd hy1 e
    rw [this]; exact hnow
  obtain ⟨a, b, c, d, e⟩ := known_fit hN h48 hs _ hf1 (fun x hx => hh x (List.mem_cons_of_mem _ hx)) hy'
  refine ⟨a, fun j => by rw [List.foldl_cons, b, known_age1], fun j hj => c j (keepN j hj), fun x hx => ?_, fun x hx hk => ?_⟩
  ·rcases List.mem_cons.1 hx with rfl | q
   ·exact c _ hnow
   ·exact d x q
  ·rcases List.mem_cons.1 hx with rfl | q
   ·by_cases hm : (st.1.any fun z => z.m.src == x.m.src) = true
    ·obtain ⟨z, hz, e2⟩ := List.any_eq_true.1 hm
     refine ⟨z, known_keep me hs _ z ?_, by simpa using e2⟩
     unfold known1
     rw [if_pos (by rw [hm]; rfl)]
     exact hz
    ·refine ⟨x, known_keep me hs _ x ?_, rfl⟩
     unfold known1
     rw [if_neg (by simp only [Bool.or_eq_true, beq_iff_eq, not_or]; exact ⟨hm, h0.2⟩)]
     dsimp only
     rw [if_pos (by rw [he, hk]; rfl)]
     simp
   ·exact e x q (by rw [known_age1]; exact hk)
theorem known_zero {N : List Int} {me : Int} (hN : N.length ≤ 16) (h48 : ∀ k ∈ N, 0 ≤ k ∧ k < 48) : ∀ (hs : List Hr) (st : List Hr × List Nb × Nat) (D : List Int), Fit N me st.2.1 → (∀ x ∈ hs, x.m.src ∈ N ∧ x.m.src ≠ me) → (∀ y ∈ st.1, y.m.src ∈ D) → (∀ x ∈ st.2.1, x.key ∈ D → x.quiet = 0) → ∀ x ∈ (hs.foldl (known1 me) st).2.1, x.key ∈ D ∨ (∃ h ∈ hs, h.m.src = x.key) → x.quiet = 0
 | [], st, D, _, _, _, hz, x, hx, q => by
  rcases q with q | ⟨h, hh, _⟩
  ·exact hz x hx q
  ·cases hh
 | h :: hs, st, D, hf, hh, hD, hz, x, hx, q => by
  have h0 := hh h (List.mem_cons_self ..)
  have he := fit_hear hf hN h48 h0.1
  refine known_zero hN h48 hs _ (h.m.src :: D) (fit_known1 hf h0.1) (fun x hx => hh x (List.mem_cons_of_mem _ hx)) (fun y hy => ?_) (fun z hz1 hq => ?_) x hx ?_
  ·unfold known1 at hy
   split at hy
   ·exact List.mem_cons_of_mem _ (hD y hy)
   ·dsimp only at hy
    split at hy
    ·rcases List.mem_append.1 hy with w | w
     ·exact List.mem_cons_of_mem _ (hD y w)
     ·simp at w; subst w; exact List.mem_cons_self ..
    ·exact List.mem_cons_of_mem _ (hD y hy)
  ·unfold known1 at hz1
   split at hz1
   ·next hc =>
    rcases List.mem_cons.1 hq with e | e
    ·simp only [Bool.or_eq_true, List.any_eq_true, beq_iff_eq] at hc
     rcases hc with ⟨y, hy1, e2⟩ | q
     ·exact hz z hz1 (by rw [e, ← e2]; exact hD y hy1)
     ·exact absurd q h0.2
    ·exact hz z hz1 e
   ·rcases hear_keys z hz1 with ⟨q1, q2⟩ | ⟨_, _, q⟩ | ⟨_, q⟩
    ·rcases List.mem_cons.1 hq with e | e
     ·exact absurd e q2
     ·exact hz z q1 e
    ·exact q
    ·exact absurd he q
  ·rcases q with q | ⟨y, hy, e⟩
   ·exact .inl (List.mem_cons_of_mem _ q)
   ·rcases List.mem_cons.1 hy with w | w
    ·exact .inl (by rw [← e, w]; exact List.mem_cons_self ..)
    ·exact .inr ⟨y, w, e⟩
theorem add2 {a b : Int} (ha : -1152921504606846976 ≤ a ∧ a ≤ 1152921504606846976) (hb : -1152921504606846976 ≤ b ∧ b ≤ 1152921504606846976) : addL [a, b] = a + b := by
 show clp (clp (0 + clp a) + clp b) = a + b
 rw [clp_id (x := a) (by omega) (by omega), clp_id (x := b) (by omega) (by omega), Int.zero_add, clp_id (x := a) (by omega) (by omega), clp_id (by omega) (by omega)]
theorem add3 {a b c : Int} (ha : -576460752303423488 ≤ a ∧ a ≤ 576460752303423488) (hb : -576460752303423488 ≤ b ∧ b ≤ 576460752303423488) (hc : -576460752303423488 ≤ c ∧ c ≤ 576460752303423488) : addL [a, b, c] = a + b + c := by
 show clp (clp (clp (0 + clp a) + clp b) + clp c) = a + b + c
 rw [clp_id (x := a) (by omega) (by omega), clp_id (x := b) (by omega) (by omega), clp_id (x := c) (by omega) (by omega), Int.zero_add, clp_id (x := a) (by omega) (by omega), clp_id (x := a + b) (by omega) (by omega), clp_id (by omega) (by omega)]
theorem sb2 {a b : Int} (ha : -1152921504606846976 ≤ a ∧ a ≤ 1152921504606846976) (hb : -1152921504606846976 ≤ b ∧ b ≤ 1152921504606846976) : sbC a b = a - b := by
 unfold sbC
 rw [clp_id (x := a) (by omega) (by omega), clp_id (x := b) (by omega) (by omega), clp_id (by omega) (by omega)]
theorem mul_pos {a b : Int} (ha : 0 ≤ a) (hb : 0 ≤ b) (h : a * b ≤ 2305843009213693952) (ha2 : a ≤ 2305843009213693952) (hb2 : b ≤ 2305843009213693952) : mulC a b = a * b := by
 unfold mulC absC
 rw [if_neg (fun h => h (propext ⟨fun q => by omega, fun q => by omega⟩)), if_neg (by omega : ¬ a < 0), if_neg (by omega : ¬ b < 0), clp_id (by omega) ha2, clp_id (by omega) hb2]
 by_cases h0 : a = 0
 ·subst h0; simp
 ·rw [if_pos (.inr ((Int.le_ediv_iff_mul_le (by omega)).2 (by rw [Int.mul_comm]; exact h))), Int.one_mul]
theorem mul_big {a b : Int} (ha : 0 ≤ a) (hb : 0 ≤ b) : 0 ≤ mulC a b ∧ mulC a b ≤ 2305843009213693952 := by
 unfold mulC absC
 rw [if_neg (fun h => h (propext ⟨fun q => by omega, fun q => by omega⟩)), if_neg (by omega : ¬ a < 0), if_neg (by omega : ¬ b < 0)]
 have hA : 0 ≤ clp a := by unfold clp; split <;> (try split) <;> omega
 have hB : 0 ≤ clp b := by unfold clp; split <;> (try split) <;> omega
 split
 ·next h =>
  rw [Int.one_mul]
  refine ⟨Int.mul_nonneg hA hB, ?_⟩
  rcases h with h | h
  ·rw [h, Int.zero_mul]; decide
  ·rcases Int.lt_or_eq_of_le hA with q | q
   ·have := (Int.le_ediv_iff_mul_le q).1 h
    rw [Int.mul_comm]; exact this
   ·rw [← q, Int.zero_mul]; decide
 ·exact ⟨by decide, by decide⟩
structure Num (p : Par) : Prop where
 n : 1 ≤ p.n ∧ p.n ≤ 16
 f : 0 ≤ p.f ∧ 3 * p.f + 1 ≤ p.n
 d : 0 ≤ p.d ∧ p.d ≤ 16
 beat : 1 ≤ p.beat ∧ p.beat ≤ 1099511627776
 rho : 0 ≤ p.rho ∧ 8 * p.rho ≤ p.beat
 delay : 0 ≤ p.delay ∧ 2 * p.delay ≤ p.beat
 jit : 0 ≤ p.jitter ∧ p.jitter ≤ p.delay
 eps : 0 ≤ p.eps ∧ p.eps ≤ 1099511627776
 mu : p.rho + 1 ≤ p.mu ∧ 4 * p.mu ≤ p.beat
 hold : p.d + 2 ≤ p.hold ∧ p.hold ≤ 1048576
theorem num_of {p : Par} (h : okB p = true) : Num p := by
 unfold okB nodesB waysB at h
 simp only [Bool.and_eq_true] at h
 obtain ⟨⟨h1, h2, h3⟩, ⟨h4, h5, h6, h7⟩, h8, h9, h10, _, _⟩ := h
 have := inB_t h1; have := inB_t h2; have := inB_t h3; have := inB_t h4; have := inB_t h5; have := inB_t h6; have := inB_t h7; have := inB_t h8; have := inB_t h9; have := inB_t h10
 exact ⟨by omega, by omega, by omega, by omega, by omega, by omega, by omega, by omega, by omega, by omega⟩
def hopN (p : Par) : Int := p.jitter + 2 * p.rho
def gateN (p : Par) : Int := 2 * (2 * p.eps + hopN p)
def widN (p : Par) (held hops : Int) : Int := gateN p + 2 * p.rho * held + (hops + 1) * hopN p
section
variable {p : Par}
theorem hop_eq (N : Num p) : hopV p = hopN p := by
 have := N.beat; have := N.rho; have := N.delay; have := N.jit
 unfold hopV hopN
 rw [mul_pos (by decide) (by omega) (by omega) (by decide) (by omega), add2 (by omega) (by omega)]
theorem hop_b (N : Num p) : 0 ≤ hopN p ∧ hopN p ≤ 1099511627776 := by
 have := N.beat; have := N.rho; have := N.delay; have := N.jit
 unfold hopN; omega
theorem gate_eq (N : Num p) : gateV p = gateN p := by
 have := hop_b N; have := N.eps
 unfold gateV gateN
 rw [hop_eq N, mul_pos (a := 2) (b := p.eps) (by decide) (by omega) (by omega) (by decide) (by omega), add2 (by omega) (by omega), mul_pos (by decide) (by omega) (by omega) (by decide) (by omega)]
theorem gate_b (N : Num p) : 0 ≤ gateN p ∧ gateN p ≤ 6597069766656 := by
 have := hop_b N; have := N.eps
 unfold gateN; omega
theorem rh_b (N : Num p) {h : Int} (h0 : 0 ≤ h) (h1 : h ≤ 1048700) : 0 ≤ 2 * p.rho * h ∧ 2 * p.rho * h ≤ 288300744895791104 := by
 have := N.beat; have := N.rho
 refine ⟨Int.mul_nonneg (by omega) h0, ?_⟩
 calc 2 * p.rho * h ≤ 274877906944 * 1048700 := Int.mul_le_mul (by omega) h1 h0 (by decide)
  _ ≤ 288300744895791104 := by decide
theorem hh_b (N : Num p) {h : Int} (h0 : 0 ≤ h) (h1 : h ≤ 100) : 0 ≤ (h + 1) * hopN p ∧ (h + 1) * hopN p ≤ 111050674405376 := by
 have := hop_b N
 refine ⟨Int.mul_nonneg (by omega) (by omega), ?_⟩
 calc (h + 1) * hopN p ≤ 101 * 1099511627776 := Int.mul_le_mul (by omega) (by omega) (by omega) (by decide)
  _ = 111050674405376 := by decide
theorem wid_eq (N : Num p) {held hops : Int} (h0 : 0 ≤ held) (h1 : held ≤ 1048700) (k0 : 0 ≤ hops) (k1 : hops ≤ 100) : widthV p held hops = widN p held hops := by
 have a1 := hop_b N; have a2 := gate_b N; have a3 := rh_b N h0 h1; have a4 := hh_b N k0 k1; have := N.rho; have := N.beat
 unfold widthV widN
 rw [gate_eq N, hop_eq N, mul_pos (a := 2) (b := p.rho) (by decide) (by omega) (by omega) (by decide) (by omega), mul_pos (by omega) h0 (by omega) (by omega) (by omega), add2 (a := hops) (by omega) (by omega), mul_pos (by omega) (by omega) (by omega) (by omega) (by omega), add3 (by omega) (by omega) (by omega)]
theorem wid_mono (N : Num p) {a b c d : Int} (h1 : a ≤ b) (h2 : c ≤ d) : widN p a c ≤ widN p b d := by
 have := hop_b N; have := N.rho
 unfold widN
 have e1 : 2 * p.rho * a ≤ 2 * p.rho * b := Int.mul_le_mul_of_nonneg_left h1 (by omega)
 have e2 : (c + 1) * hopN p ≤ (d + 1) * hopN p := Int.mul_le_mul_of_nonneg_right (by omega) (by omega)
 omega
theorem wid_hop (a c : Int) : widN p a (c + 1) = widN p a c + hopN p := by
 unfold widN
 rw [show c + 1 + 1 = (c + 1) + 1 from rfl, Int.add_mul (c + 1) 1, Int.one_mul]
 omega
theorem wid_held (a c : Int) : widN p (a + 1) c = widN p a c + 2 * p.rho := by
 unfold widN
 rw [Int.mul_add, Int.mul_one]
 omega
theorem way_in (N : Num p) {lo hi a T w : Int} (hT : -9007199254740993 ≤ T ∧ T ≤ 9007199254740993) (h1 : lo ≤ T) (h2 : T ≤ hi) (hw : hi - lo ≤ w) (hw2 : w ≤ 1125899906842624) (ha : p.beat - p.delay - p.rho ≤ a ∧ a ≤ p.beat - p.delay + p.jitter + p.rho) : (wayV p lo hi a).1 ≤ T + p.beat ∧ T + p.beat ≤ (wayV p lo hi a).2 ∧ (wayV p lo hi a).2 - (wayV p lo hi a).1 ≤ w + hopN p := by
 have := N.beat; have := N.rho; have := N.delay; have := N.jit
 unfold wayV hopN
 rw [sb2 (by omega) (by omega), clp_id (x := p.rho) (by omega) (by omega), add3 (a := p.delay - p.jitter) (by omega) (by omega) (by omega), add3 (a := p.delay) (by omega) (by omega) (by omega), add2 (by omega) (by omega), add2 (by omega) (by omega)]
 omega
theorem hold_in (N : Num p) {lo hi t T w : Int} (hT : -9007199254740993 ≤ T ∧ T ≤ 9007199254740993) (h1 : lo ≤ T) (h2 : T ≤ hi) (hw : hi - lo ≤ w) (hw2 : w ≤ 1125899906842624) (ha : p.beat - p.rho ≤ t ∧ t ≤ p.beat + p.rho) : addL [lo, sbC t p.rho] ≤ T + p.beat ∧ T + p.beat ≤ addL [hi, addL [t, p.rho]] ∧ addL [hi, addL [t, p.rho]] - addL [lo, sbC t p.rho] ≤ w + 2 * p.rho := by
 have := N.beat; have := N.rho
 rw [sb2 (by omega) (by omega), add2 (a := t) (by omega) (by omega), add2 (by omega) (by omega), add2 (by omega) (by omega)]
 omega
theorem seen_in (N : Num p) {rd T : Int} (hT : -9007199254740993 ≤ T ∧ T ≤ 9007199254740993) (h : T - p.eps ≤ rd ∧ rd ≤ T + p.eps) : sbC rd p.eps ≤ T ∧ T ≤ addL [rd, p.eps] ∧ addL [rd, p.eps] - sbC rd p.eps = 2 * p.eps := by
 have := N.eps
 rw [sb2 (by omega) (by omega), add2 (by omega) (by omega)]
 omega
end
theorem step_span {p : Par} {s x s' : Sta} {ticks : Int} (h : StepR p s ticks x s') (h1 : x.lo ≤ x.hi) (hl : -2305843009213693952 ≤ x.lo) (hh : x.hi ≤ 2305843009213693952) : s'.lo = x.lo ∧ s'.hi = x.hi ∧ s'.good = x.good := by
 rcases h.sp with ⟨_, a, b, c⟩ | ⟨q, _⟩
 ·exact ⟨a.trans (clp_id hl (by omega)), b.trans (clp_id (by omega) hh), c⟩
 ·rw [clp_id hl (by omega), clp_id (by omega) hh] at q; omega
theorem bnd_id {x lo hi : Int} (h1 : lo ≤ x) (h2 : x ≤ hi) : bnd x lo hi = x := by unfold bnd; rw [if_neg (by omega), if_neg (by omega)]
theorem bnd_b {x lo hi : Int} (h : lo ≤ hi) : lo ≤ bnd x lo hi ∧ bnd x lo hi ≤ hi := by unfold bnd; split <;> (try split) <;> omega
theorem more_eq {h : Int} (h0 : 0 ≤ h) (h1 : h ≤ 1073741823) : moreV h = h + 1 := by
 unfold moreV
 rw [add2 (by omega) (by omega), bnd_id (by omega) (by omega)]
theorem wrong_few {o : List Hr} (nd : (o.map fun x => x.m.src).Nodup) (c : Hr → Bool) (v : Hr → Int × Int) (W : Int × Int → Bool) (a : Int) (f : Nat) (h1 : ∀ h ∈ o, c h = true → h.m.src < a + f) (hr : ∀ h ∈ o, c h = true → h.m.src < a → W (v h) = false) : ((o.filter c).map v).countP W ≤ f := by
 rw [List.countP_map, List.countP_filter]
 refine Nat.le_trans (count_le fun h hh hw => ?_) (count_few nd a f)
 simp only [Function.comp, Bool.and_eq_true] at hw
 have := h1 h hh hw.2
 simp only [Bool.and_eq_true, decide_eq_true_eq]
 refine ⟨Classical.byContradiction fun q => ?_, this⟩
 rw [hr h hh hw.2 (by omega)] at hw
 cases hw.1
theorem right_many {o : List Hr} (c : Hr → Bool) (v : Hr → Int × Int) (G : Int × Int → Bool) {l : List Int} (hl : l.Nodup) (h : ∀ i ∈ l, ∃ x ∈ o, x.m.src = i ∧ c x = true ∧ G (v x) = true) : l.length ≤ ((o.filter c).map v).countP G := by
 rw [List.countP_map, List.countP_filter]
 refine count_many hl _ fun i hi => ?_
 obtain ⟨x, hx, e, hc, hg⟩ := h i hi
 exact ⟨x, hx, by simp [Function.comp, hc, hg], e⟩
def outB (T : Int) (x : Int × Int) : Bool := !(decide (x.1 ≤ T) && decide (T ≤ x.2))
def inW (T w : Int) (x : Int × Int) : Bool := decide (x.1 ≤ T) && (decide (T ≤ x.2) && decide (x.2 - x.1 ≤ w))
theorem inW_iff {T w : Int} {x : Int × Int} : inW T w x = true ↔ x.1 ≤ T ∧ T ≤ x.2 ∧ x.2 - x.1 ≤ w := by unfold inW; simp
theorem out_of_in {T w : Int} {x : Int × Int} (h : inW T w x = true) : outB T x = false := by
 obtain ⟨a, b, _⟩ := inW_iff.1 h
 unfold outB
 simp [a, b]
theorem fused_strong {f : Nat} {l : List (Int × Int)} {ok : Bool} {lo hi T w : Int} (h : Fused f l ok lo hi) (hw : l.countP (outB T) ≤ f) (hg : 2 * f < l.countP (inW T w)) (hT : -1152921504606846976 ≤ T ∧ T ≤ 1152921504606846976) (hb : w ≤ 1152921504606846976) : ok = true ∧ lo ≤ T ∧ T ≤ hi ∧ hi - lo ≤ w := by
 have hlen : l.countP (inW T w) ≤ l.length := List.countP_le_length
 rcases h with ⟨rfl, _, _, q⟩ | ⟨rfl, hl, a, b, ha, hb', hab, rfl, rfl⟩
 ·rcases q with q | ⟨a, b, ha, hb', hab⟩
  ·omega
  ·have := fuse_in (by omega) ha hb' hw
   omega
 ·have h1 := fuse_in hl ha hb' hw
  obtain ⟨x, _, hx, h2, h3⟩ := fuse_one hl ha hb' hg
  obtain ⟨x1, x2, x3⟩ := inW_iff.1 hx
  rw [clp_id (by omega) (by omega), clp_id (by omega) (by omega)]
  exact ⟨rfl, by omega, by omega, by omega⟩
def TimeOK (T : Int) : Prop := -9007199254740992 ≤ T ∧ T ≤ 9007199254740992 - 1099511627776
structure OKs (T w h0 h1 : Int) (s : Sta) : Prop where
 good : s.good = true
 set : s.set = true
 hops : 0 ≤ s.hops
 lo : s.lo ≤ T
 hi : T ≤ s.hi
 wide : s.hi - s.lo ≤ w
 held : h0 ≤ s.held ∧ s.held ≤ h1
 h0 : 0 ≤ s.held
def SeenOK (p : Par) (T : Int) (m : Ms) : Prop := m.ref = true → m.slo ≤ T ∧ T ≤ m.shi ∧ m.shi - m.slo ≤ 2 * p.eps
section
variable {p : Par} {f : Nat} {u T ticks rd : Int} {s s' : Sta} {rf : Bool} {hs : List Hr} {m : Ms}
theorem gate_beat (N : Num p) (hf : p.f = (f : Int)) (hT : TimeOK T) (hu : 0 ≤ u ∧ u < p.n - p.f) (g : GateR p f u s ticks rf rd hs s' m) (ht : TickOK p ticks) (hrd : T + p.beat - p.eps ≤ rd ∧ rd ≤ T + p.beat + p.eps)
  (hr : ∀ h ∈ hs, h.m.kind = 1 → 0 ≤ h.m.src → h.m.src < p.n - p.f → AgeOK p h.age ∧ SeenOK p T h.m) :
  SeenOK p (T + p.beat) m ∧ m.ref = rf ∧
  (rf = true → (∀ h ∈ hs, h.m.kind = 1 → 0 ≤ h.m.src → h.m.src < p.n - p.f → h.m.ref = true) → (∀ i, 0 ≤ i → i < p.n - p.f → i ≠ u → ∃ h ∈ hs, h.m.kind = 1 ∧ h.m.src = i) → OKs (T + p.beat) (2 * p.eps + hopN p) 0 0 s' ∧ s'.hops = 0 ∧ ∃ x, StepR p s ticks x s' ∧ x.lo = s'.lo ∧ x.hi = s'.hi ∧ x.held = 0) ∧
  (rf = false → ∀ w h0 h1, w ≤ 1125899906842624 → h1 ≤ 1000000 → OKs T w h0 h1 s → s.hops = 0 → s'.hops = 0 ∧ (OKs (T + p.beat) (w + 2 * p.rho) (h0 + 1) (h1 + 1) s' ∨ ((∃ h ∈ hs, h.m.kind = 1 ∧ 0 ≤ h.m.src ∧ h.m.src < p.n - p.f ∧ h.m.ref = true) ∧ OKs (T + p.beat) (gateN p) 0 0 s'))) := by
 have n1 := N.n; have n2 := N.f; have n3 := N.eps; have n4 := hop_b N; have n5 := N.beat; have n6 := N.rho; have n7 := N.d
 obtain ⟨o, ok, lo, hi, hp, hF, hS⟩ := g.ex
 have hsay := g.say
 have hseen := seen_in N (T := T + p.beat) (rd := rd) (by unfold TimeOK at hT; omega) hrd
 have nd : (o.map fun x => x.m.src).Nodup := (hp.map _).nodup_iff.2 (told_nd p u hs)
 have hok : ∀ h ∈ o, (h.m.kind = 1 ∧ 0 ≤ h.m.src ∧ h.m.src < p.n ∧ h.m.src ≠ u) ∧ h ∈ hs := fun h hh => by
  obtain ⟨a, b⟩ := told_ok ((hp.mem_iff).1 hh)
  exact ⟨(okT_iff n1.2).1 a, b⟩
 have hway : ∀ h ∈ o, h.m.ref = true → h.m.src < p.n - p.f → inW (T + p.beat) (2 * p.eps + hopN p) (wayV p h.m.slo h.m.shi h.age) = true := fun h hh href hlt => by
  obtain ⟨⟨k1, k2, k3, k4⟩, hm⟩ := hok h hh
  obtain ⟨ha, hs1⟩ := hr h hm k1 k2 hlt
  obtain ⟨a, b, c⟩ := hs1 href
  obtain ⟨q1, q2, q3⟩ := way_in N (T := T) (a := h.age) (w := 2 * p.eps) (by unfold TimeOK at hT; omega) a b c (by omega) ha
  exact inW_iff.2 ⟨q1, q2, by omega⟩
 have hwr : (seenL p rf rd ++ refL p o).countP (outB (T + p.beat)) ≤ f := by
  rw [List.countP_append]
  have e1 : (seenL p rf rd).countP (outB (T + p.beat)) = 0 := by
   unfold seenL
   split
   ·rw [List.countP_cons, List.countP_nil]
    rw [show outB (T + p.beat) (sbC rd p.eps, addL [rd, p.eps]) = false from by unfold outB; simp [hseen.1, hseen.2.1]]
    rfl
   ·rfl
  have e2 := wrong_few nd (fun h => h.m.ref) (fun h => wayV p h.m.slo h.m.shi h.age) (outB (T + p.beat)) (p.n - p.f) f (fun h hh _ => by have := (hok h hh).1; omega) fun h hh hc hlt => out_of_in (hway h hh hc hlt)
  rw [e1, Nat.zero_add]
  exact e2
 refine ⟨fun href => ?_, hsay.ref, fun hrf hall hex => ?_, fun hrf w h0 h1 hw hh1 hOK hhop => ?_⟩
 ·rw [hsay.slo, hsay.shi]
  rw [hsay.ref] at href
  unfold seenV
  rw [if_pos href]
  exact ⟨hseen.1, hseen.2.1, by dsimp only; omega⟩
 ·have hR : 2 * f < (seenL p rf rd ++ refL p o).countP (inW (T + p.beat) (2 * p.eps + hopN p)) := by
   rw [List.countP_append]
   have e1 : (seenL p rf rd).countP (inW (T + p.beat) (2 * p.eps + hopN p)) = 1 := by
    unfold seenL
    rw [if_pos hrf, List.countP_cons, List.countP_nil, inW_iff.2 ⟨hseen.1, hseen.2.1, by dsimp only; omega⟩]
    rfl
   have e2 := right_many (o := o) (fun h => h.m.ref) (fun h => wayV p h.m.slo h.m.shi h.age) (inW (T + p.beat) (2 * p.eps + hopN p)) (l := (iota 0 (p.n - p.f).toNat).erase u) ((iota_nd _ _).erase _) fun i hi => by
    have hne : i ≠ u := fun e => by subst e; exact (List.Nodup.not_mem_erase (iota_nd _ _)) hi
    have hi2 := mem_iota.1 (List.mem_of_mem_erase hi)
    obtain ⟨h, hh, k1, k2⟩ := hex i (by omega) (by omega) hne
    obtain ⟨y, hy, e⟩ := told_has (p := p) (me := u) hh ((okT_iff n1.2).2 ⟨k1, by omega, by omega, by omega⟩)
    have hy' := (hp.mem_iff).2 hy
    obtain ⟨⟨m1, m2, m3, m4⟩, hm⟩ := hok y hy'
    have href := hall y hm m1 m2 (by omega)
    exact ⟨y, hy', by omega, href, hway y hy' href (by omega)⟩
   have e3 := erase_len (l := iota 0 (p.n - p.f).toNat) u
   rw [iota_len] at e3
   unfold refL
   omega
  obtain ⟨rfl, q1, q2, q3⟩ := fused_strong hF hwr hR (by unfold TimeOK at hT; omega) (by omega)
  unfold TimeOK at hT
  obtain ⟨z1, z2, z3⟩ := step_span hS (by show lo ≤ hi; omega) (by show _ ≤ lo; omega) (by show hi ≤ _; omega)
  have z4 : s'.hops = 0 := hS.hops.trans (bnd_id (Int.le_refl 0) (by rw [add2 (by omega) (by omega)]; show (0 : Int) ≤ _; omega))
  have z5 : s'.held = 0 := hS.held.trans (bnd_id (Int.le_refl 0) (show (0 : Int) ≤ 1073741824 by decide))
  refine ⟨⟨z3, hS.set, by omega, by rw [z1]; exact q1, by rw [z2]; exact q2, by rw [z1, z2]; exact q3, by omega, by omega⟩, z4, _, hS, z1.symm, z2.symm, rfl⟩
 ·unfold TimeOK at hT
  have z4 : s'.hops = 0 := by
   refine hS.hops.trans ?_
   have : (nextS p s ticks ok lo hi).hops = 0 := by unfold nextS holdS; split <;> rfl
   rw [this]
   exact bnd_id (Int.le_refl 0) (by rw [add2 (by omega) (by omega)]; omega)
  refine ⟨z4, ?_⟩
  have hse : seenL p rf rd = [] := by unfold seenL; rw [if_neg (by rw [hrf]; decide)]
  cases hok' : ok with
  | true =>
   subst hok'
   refine .inr ?_
   rw [hse, List.nil_append] at hF hwr
   have hg : ∀ x ∈ refL p o, outB (T + p.beat) x = false → True := fun _ _ _ => trivial
   have hF' := hF
   rcases hF' with ⟨q, _⟩ | ⟨_, hl, a, b, ha, hb', hab, rfl, rfl⟩
   ·cases q
   ·have hrm : ∃ h ∈ o, h.m.ref = true ∧ h.m.src < p.n - p.f := by
     refine Classical.byContradiction fun hn => ?_
     have := wrong_few nd (fun h => h.m.ref) (fun h => wayV p h.m.slo h.m.shi h.age) (fun _ => true) (p.n - p.f) f (fun h hh _ => by have := (hok h hh).1; omega) fun h hh hc hlt => absurd ⟨h, hh, hc, hlt⟩ hn
     rw [count_all (fun _ _ => rfl)] at this
     unfold refL at hl
     omega
    obtain ⟨h, hh, href, hlt⟩ := hrm
    obtain ⟨⟨k1, k2, k3, k4⟩, hm⟩ := hok h hh
    refine ⟨⟨h, hm, k1, k2, hlt, href⟩, ?_⟩
    have hcnt : f < (refL p o).countP (inW (T + p.beat) (2 * p.eps + hopN p)) := by
     have c1 := wrong_few nd (fun h => h.m.ref) (fun h => wayV p h.m.slo h.m.shi h.age) (fun x => !inW (T + p.beat) (2 * p.eps + hopN p) x) (p.n - p.f) f (fun h hh _ => by have := (hok h hh).1; omega) fun h hh hc hlt => by rw [hway h hh hc hlt]; rfl
     have c2 := count_not (inW (T + p.beat) (2 * p.eps + hopN p)) (fun x => !inW (T + p.beat) (2 * p.eps + hopN p) x) (refL p o) (fun _ _ => rfl)
     unfold refL at c2 hl ⊢
     omega
    have h1 := fuse_in hl ha hb' hwr
    obtain ⟨⟨x, _, hx, h2⟩, y, _, hy, h3⟩ := fuse_two hl ha hb' hcnt
    obtain ⟨x1, x2, x3⟩ := inW_iff.1 hx
    obtain ⟨y1, y2, y3⟩ := inW_iff.1 hy
    have ca : clp a = a := clp_id (by omega) (by omega)
    have cb : clp b = b := clp_id (by omega) (by omega)
    rw [ca, cb] at hS
    obtain ⟨z1, z2, z3⟩ := step_span hS (by show a ≤ b; omega) (by show _ ≤ a; omega) (by show b ≤ _; omega)
    have z5 : s'.held = 0 := hS.held.trans (bnd_id (Int.le_refl 0) (show (0 : Int) ≤ 1073741824 by decide))
    have z1' : s'.lo = a := z1
    have z2' : s'.hi = b := z2
    exact ⟨z3, hS.set, by omega, by omega, by omega, by unfold gateN; omega, by omega, by omega⟩
  | false =>
   subst hok'
   refine .inl ?_
   obtain ⟨q1, q2, q3⟩ := hold_in N (T := T) (t := ticks) (w := w) (by omega) hOK.lo hOK.hi hOK.wide hw ht
   have hS' : StepR p s ticks (holdS p s ticks) s' := hS
   have hh := hOK.held; have hh2 := hOK.h0
   obtain ⟨z1, z2, z3⟩ := step_span hS' (by show addL _ ≤ addL _; omega) (by show _ ≤ addL _; omega) (by show addL _ ≤ _; omega)
   have z5 : s'.held = s.held + 1 := hS'.held.trans (by
    show bnd (moreV s.held) 0 1073741824 = _
    rw [more_eq hOK.h0 (by omega)]
    exact bnd_id (by have := hOK.h0; omega) (by omega))
   have z1' : s'.lo = addL [s.lo, sbC ticks p.rho] := z1
   have z2' : s'.hi = addL [s.hi, addL [ticks, p.rho]] := z2
   exact ⟨z3.trans hOK.good, hS.set, by omega, by omega, by omega, by omega, by omega, by omega⟩
end
theorem cmpV_lt {a b : Int} : cmpV a b < 0 ↔ a < b := by unfold cmpV; split <;> (try split) <;> constructor <;> intro h <;> omega
theorem cmpV_zero {a b : Int} (h : cmpV a b = 0) : a = b := by unfold cmpV at h; split at h <;> (try split at h) <;> omega
theorem better_le {a b : Ms} (h : betterV a b < 0) : a.hops ≤ b.hops := by
 unfold betterV orV at h
 split at h
 ·exact Int.le_of_lt (cmpV_lt.1 h)
 ·next q => exact Int.le_of_eq (cmpV_zero (Classical.byContradiction fun w => q w))
theorem better_not {a b : Ms} (h : ¬ betterV a b < 0) : b.hops ≤ a.hops := by
 unfold betterV orV at h
 split at h
 ·exact Int.not_lt.1 fun q => h (cmpV_lt.2 q)
 ·next q => exact Int.le_of_eq (cmpV_zero (Classical.byContradiction fun w => q w)).symm
theorem pick_min (p : Par) : ∀ (l : List Ms) (b : Bool × Ms), (b.1 = true → (l.foldl (pick1 p) b).1 = true ∧ (l.foldl (pick1 p) b).2.hops ≤ b.2.hops) ∧ ∀ m ∈ l, usableB p m = true → (l.foldl (pick1 p) b).1 = true ∧ (l.foldl (pick1 p) b).2.hops ≤ m.hops
 | [], b => ⟨fun h => ⟨h, Int.le_refl _⟩, fun m hm => by cases hm⟩
 | x :: l, b => by
  obtain ⟨h1, h2⟩ := pick_min p l (pick1 p b x)
  rw [List.foldl_cons]
  have e1 : b.1 = true → (pick1 p b x).1 = true ∧ (pick1 p b x).2.hops ≤ b.2.hops := fun hb => by
   unfold pick1
   split
   ·next hc =>
    simp only [Bool.and_eq_true, Bool.or_eq_true, Bool.not_eq_true', decide_eq_true_eq] at hc
    rcases hc.2 with q | q
    ·rw [hb] at q; cases q
    ·exact ⟨rfl, better_le q⟩
   ·exact ⟨hb, Int.le_refl _⟩
  refine ⟨fun hb => ?_, fun m hm hu => ?_⟩
  ·obtain ⟨a, c⟩ := h1 (e1 hb).1
   exact ⟨a, Int.le_trans c (e1 hb).2⟩
  ·rcases List.mem_cons.1 hm with rfl | q
   ·have e2 : (pick1 p b m).1 = true ∧ (pick1 p b m).2.hops ≤ m.hops := by
     unfold pick1
     split
     ·exact ⟨rfl, Int.le_refl _⟩
     ·next hc =>
      simp only [Bool.and_eq_true, Bool.or_eq_true, Bool.not_eq_true', decide_eq_true_eq, not_and, not_or] at hc
      have := hc hu
      exact ⟨by simpa using this.1, better_not this.2⟩
    obtain ⟨a, c⟩ := h1 e2.1
    exact ⟨a, Int.le_trans c e2.2⟩
   ·exact h2 m q hu
theorem pick_in (p : Par) : ∀ (l : List Ms) (b : Bool × Ms), l.foldl (pick1 p) b = b ∨ ((l.foldl (pick1 p) b).2 ∈ l ∧ usableB p (l.foldl (pick1 p) b).2 = true)
 | [], b => .inl rfl
 | x :: l, b => by
  rw [List.foldl_cons]
  rcases pick_in p l (pick1 p b x) with q | ⟨q1, q2⟩
  ·rw [q]
   unfold pick1
   split
   ·next hc =>
    simp only [Bool.and_eq_true] at hc
    exact .inr ⟨List.mem_cons_self .., hc.1⟩
   ·exact .inl rfl
  ·exact .inr ⟨List.mem_cons_of_mem _ q1, q2⟩
theorem usable_iff {p : Par} {m : Ms} : usableB p m = true ↔ m.kind = 2 ∧ m.good = true ∧ 0 ≤ m.hops ∧ m.hops < p.d ∧ m.lo ≤ m.hi := by
 unfold usableB
 simp
theorem okK_iff {h : Hr} {a : Int} : okK h a = true ↔ (h.m.kind = 1 ∧ h.m.src < 16) ∨ (h.m.kind = 2 ∧ 16 ≤ h.m.src ∧ 0 < a) := by
 unfold okK
 simp
structure OKm (T w h0 h1 : Int) (m : Ms) : Prop where
 good : m.good = true
 lo : m.lo ≤ T
 hi : T ≤ m.hi
 wide : m.hi - m.lo ≤ w
 held : h0 ≤ m.held ∧ m.held ≤ h1
def From (p : Par) (s : Sta) (ticks : Int) (s' : Sta) : Prop := ∃ x, StepR p s ticks x s' ∧ x.lo = s'.lo ∧ x.hi = s'.hi ∧ x.held = s'.held
section
variable {p : Par} {f : Nat} {u T ticks : Int} {s s' : Sta} {o : List Hr} {m : Ms}
theorem step_ok (N : Num p) {x : Sta} {w h0 h1 k : Int} (hS : StepR p s ticks x s') (g : x.good = true) (a : x.lo ≤ T) (b : T ≤ x.hi) (c : x.hi - x.lo ≤ w) (hT : -9007199254740993 ≤ T ∧ T ≤ 9007199254740993) (hw : w ≤ 1125899906843000000) (hh : h0 ≤ x.held ∧ x.held ≤ h1) (hh0 : 0 ≤ h0) (hh1 : h1 ≤ 1073741824) (hk : x.hops = k) (k0 : 0 ≤ k) (k1 : k ≤ p.d) : OKs T w h0 h1 s' ∧ s'.hops = k ∧ From p s ticks s' := by
 have := N.d
 obtain ⟨z1, z2, z3⟩ := step_span hS (by omega) (by omega) (by omega)
 have z4 : s'.held = x.held := hS.held.trans (bnd_id (by omega) (by omega))
 have z5 : s'.hops = k := hS.hops.trans (by rw [hk]; exact bnd_id k0 (by rw [add2 (by omega) (by omega)]; omega))
 exact ⟨⟨z3.trans g, hS.set, by omega, by omega, by omega, by omega, by omega, by omega⟩, z5, x, hS, z1.symm, z2.symm, z4.symm⟩
theorem node_core (N : Num p) (hf : p.f = (f : Int)) {w h0 h1 : Int} (hT : TimeOK T) (g : NodeR p f u s ticks o s' m) (hw : w ≤ 1125899906842624) (hh0 : 0 ≤ h0) (hh1 : h1 ≤ 1000000)
  (hr : ∀ h ∈ o, h.m.kind = 1 → 0 ≤ h.m.src → h.m.src < p.n - p.f → AgeOK p h.age ∧ OKm T w h0 h1 h.m) (hex : ∀ i, 0 ≤ i → i < p.n - p.f → ∃ h ∈ o, h.m.kind = 1 ∧ h.m.src = i) : OKs (T + p.beat) (w + hopN p) (h0 + 1) (h1 + 1) s' ∧ s'.hops = 0 ∧ From p s ticks s' := by
 have n1 := N.n; have n2 := N.f; have n4 := hop_b N; have n5 := N.beat; have n7 := N.d
 unfold TimeOK at hT
 have facts : ∀ o' : List Hr, o'.Perm (toldL p (-1) o) → ((coreL p o').countP (outB (T + p.beat)) ≤ f ∧ 2 * f < (coreL p o').countP (inW (T + p.beat) (w + hopN p))) ∧ (2 * f < (heldL o').countP (fun y => decide (h0 ≤ y) && decide (y ≤ h1)) ∧ (heldL o').countP (fun y => !(decide (h0 ≤ y) && decide (y ≤ h1))) ≤ f) := fun o' hp => by
  have nd : (o'.map fun x => x.m.src).Nodup := (hp.map _).nodup_iff.2 (told_nd p (-1) o)
  have hok : ∀ h ∈ o', (h.m.kind = 1 ∧ 0 ≤ h.m.src ∧ h.m.src < p.n ∧ h.m.src ≠ -1) ∧ h ∈ o := fun h hh => by
   obtain ⟨a, b⟩ := told_ok ((hp.mem_iff).1 hh)
   exact ⟨(okT_iff n1.2).1 a, b⟩
  have hway : ∀ h ∈ o', h.m.src < p.n - p.f → inW (T + p.beat) (w + hopN p) (wayV p h.m.lo h.m.hi h.age) = true ∧ goodH h = true ∧ (decide (h0 ≤ h.m.held) && decide (h.m.held ≤ h1)) = true := fun h hh hlt => by
   obtain ⟨⟨k1, k2, k3, k4⟩, hm⟩ := hok h hh
   obtain ⟨ha, hs1⟩ := hr h hm k1 k2 hlt
   obtain ⟨q1, q2, q3⟩ := way_in N (T := T) (a := h.age) (w := w) (by omega) hs1.lo hs1.hi hs1.wide hw ha
   have e1 := hs1.lo; have e2 := hs1.hi
   exact ⟨inW_iff.2 ⟨q1, q2, by omega⟩, by unfold goodH; rw [hs1.good, decide_eq_false (by omega)]; rfl, by simpa using hs1.held⟩
  have hsrc : ∀ h ∈ o', goodH h = true → h.m.src < p.n - p.f + f := fun h hh _ => by have := (hok h hh).1; omega
  have hmany : ∀ i ∈ iota 0 (p.n - p.f).toNat, ∃ x ∈ o', x.m.src = i ∧ x.m.src < p.n - p.f := fun i hi => by
   have hi2 := mem_iota.1 hi
   obtain ⟨h, hh, k1, k2⟩ := hex i (by omega) (by omega)
   obtain ⟨y, hy, e⟩ := told_has (p := p) (me := -1) hh ((okT_iff n1.2).2 ⟨k1, by omega, by omega, by omega⟩)
   exact ⟨y, (hp.mem_iff).2 hy, by omega, by omega⟩
  have b1 := right_many (o := o') goodH (fun h => wayV p h.m.lo h.m.hi h.age) (inW (T + p.beat) (w + hopN p)) (iota_nd 0 (p.n - p.f).toNat) fun i hi => by
   obtain ⟨x, hx, e, hlt⟩ := hmany i hi
   obtain ⟨c1, c2, _⟩ := hway x hx hlt
   exact ⟨x, hx, e, c2, c1⟩
  rw [iota_len] at b1
  refine ⟨⟨wrong_few nd goodH _ _ (p.n - p.f) f hsrc fun h hh _ hlt => out_of_in (hway h hh hlt).1, by unfold coreL; omega⟩, ?_, ?_⟩
  ·have b2 : (iota 0 (p.n - p.f).toNat).length ≤ (heldL o').countP (fun y => decide (h0 ≤ y) && decide (y ≤ h1)) := by
    unfold heldL
    rw [List.countP_map, List.countP_filter]
    refine count_many (iota_nd _ _) _ fun i hi => ?_
    obtain ⟨x, hx, e, hlt⟩ := hmany i hi
    obtain ⟨_, c2, c3⟩ := hway x hx hlt
    exact ⟨x, hx, by simp only [Function.comp]; rw [c2, c3]; rfl, e⟩
   rw [iota_len] at b2
   omega
  ·unfold heldL
   rw [List.countP_map, List.countP_filter]
   refine Nat.le_trans (count_le fun h hh hc => ?_) (count_few nd (p.n - p.f) f)
   simp only [Function.comp, Bool.and_eq_true] at hc
   have := hsrc h hh hc.2
   simp only [Bool.and_eq_true, decide_eq_true_eq]
   refine ⟨Classical.byContradiction fun q => ?_, this⟩
   rw [(hway h hh (by omega)).2.2] at hc
   cases hc.1
 have no : ¬ NoCore p f o := fun ⟨o', hp, hF⟩ => by
  obtain ⟨⟨f1, f2⟩, _⟩ := facts o' hp
  exact absurd (fused_strong hF f1 f2 (by omega) (by omega)).1 (by decide)
 obtain ⟨x, hx, hS⟩ := g.ex
 rcases hx with ⟨o', lo, hi, k, hp, hF, hK, e⟩ | ⟨q, _⟩ | ⟨q, _⟩
 ·obtain ⟨⟨f1, f2⟩, f3, f4⟩ := facts o' hp
  obtain ⟨_, q1, q2, q3⟩ := fused_strong hF f1 f2 (by omega) (by omega)
  obtain ⟨q4, q5⟩ := kth_in hK f3 h0 h1 (fun y hy => by simpa using hy) f4
  have e1 : x.lo = lo := by rw [e]
  have e2 : x.hi = hi := by rw [e]
  have e3 : x.held = k + 1 := by rw [e]; exact more_eq (by omega) (by omega)
  exact step_ok N hS (by rw [e]) (by omega) (by omega) (by omega) (by omega) (by omega) (by omega) (by omega) (by omega) (by rw [e]) (Int.le_refl 0) n7.1
 ·exact absurd q no
 ·exact absurd q no
theorem node_far (N : Num p) (hT : TimeOK T) (g : NodeR p f u s ticks o s' m) (hno : ∀ h ∈ o, h.m.kind = 1 → h.m.src < 0 ∨ p.n ≤ h.m.src) :
  (s'.good = false ∧ ∀ h ∈ o, ∀ w h0 h1, w ≤ 1125899906842624 → h.m.kind = 2 → 0 ≤ h.m.hops → h.m.hops < p.d → AgeOK p h.age → OKm T w h0 h1 h.m → False) ∨
  ∃ h ∈ o, h.m.kind = 2 ∧ h.m.good = true ∧ 0 ≤ h.m.hops ∧ h.m.hops < p.d ∧ s'.hops = h.m.hops + 1 ∧ (∀ w h0 h1, w ≤ 1125899906842624 → 0 ≤ h0 → h1 ≤ 1000000 → AgeOK p h.age → OKm T w h0 h1 h.m → OKs (T + p.beat) (w + hopN p) (h0 + 1) (h1 + 1) s' ∧ From p s ticks s') ∧
   ∀ h' ∈ o, ∀ w h0 h1, w ≤ 1125899906842624 → h'.m.kind = 2 → 0 ≤ h'.m.hops → h'.m.hops < p.d → AgeOK p h'.age → OKm T w h0 h1 h'.m → h.m.hops ≤ h'.m.hops := by
 have n1 := N.n; have n2 := N.f; have n4 := hop_b N; have n5 := N.beat; have n7 := N.d
 unfold TimeOK at hT
 have hus : ∀ h ∈ o, ∀ w h0 h1, w ≤ 1125899906842624 → h.m.kind = 2 → 0 ≤ h.m.hops → h.m.hops < p.d → AgeOK p h.age → OKm T w h0 h1 h.m → wayM p h ∈ followL p o ∧ usableB p (wayM p h) = true := fun h hh w h0 h1 hw k1 k2 k3 ha ok => by
  obtain ⟨q1, q2, q3⟩ := way_in N (T := T) (a := h.age) (w := w) (by omega) ok.lo ok.hi ok.wide hw ha
  have e1 := ok.lo; have e2 := ok.hi
  refine ⟨List.mem_map.2 ⟨h, List.mem_filter.2 ⟨hh, by unfold fitH; rw [decide_eq_false (by omega)]; rfl⟩, rfl⟩, usable_iff.2 ⟨k1, ok.good, k2, k3, ?_⟩⟩
  show (wayV p h.m.lo h.m.hi h.age).1 ≤ (wayV p h.m.lo h.m.hi h.age).2
  omega
 obtain ⟨x, hx, hS⟩ := g.ex
 rcases hx with ⟨o', lo, hi, k, hp, hF, hK, e⟩ | ⟨_, mm, hpk, e⟩ | ⟨_, hpk, e⟩
 ·rcases hF with ⟨q, _⟩ | ⟨_, hl, _⟩
  ·cases q
  ·exfalso
   have : toldL p (-1) o = [] := List.eq_nil_iff_forall_not_mem.2 fun h hh => by
    obtain ⟨a, b⟩ := told_ok hh
    obtain ⟨k1, k2, k3, k4⟩ := (okT_iff n1.2).1 a
    rcases hno h b k1 with q | q <;> omega
   rw [this] at hp
   rw [List.perm_nil.1 hp] at hl
   simp [coreL] at hl
 ·refine .inr ?_
  have hin := pick_in p (followL p o) (false, Ms.zero)
  have hmin := pick_min p (followL p o) (false, Ms.zero)
  unfold pickL at hpk
  rw [hpk] at hin hmin
  rcases hin with q | ⟨q1, q2⟩
  ·cases q
  ·obtain ⟨h, hh, rfl⟩ := List.mem_map.1 q1
   obtain ⟨u1, u2, u3, u4, u5⟩ := usable_iff.1 q2
   have v3 : 0 ≤ h.m.hops := u3
   have v4 : h.m.hops < p.d := u4
   have hw : IntKind.i64.wrap (h.m.hops + 1) = h.m.hops + 1 := by rw [IntKind.wrap_i64]; omega
   have e1 : x.hops = h.m.hops + 1 := by rw [e]; exact hw
   have e2 : s'.hops = h.m.hops + 1 := hS.hops.trans (by rw [e1]; exact bnd_id (by omega) (by rw [add2 (by omega) (by omega)]; omega))
   refine ⟨h, (List.mem_filter.1 hh).1, u1, u2, u3, u4, e2, fun w h0 h1 hw hh0 hh1 ha ok => ?_, fun h' hh' w h0 h1 hw k1 k2 k3 ha ok => ?_⟩
   ·obtain ⟨q1, q2, q3⟩ := way_in N (T := T) (a := h.age) (w := w) (by omega) ok.lo ok.hi ok.wide hw ha
    have e3 : x.lo = (wayV p h.m.lo h.m.hi h.age).1 := by rw [e]; rfl
    have e4 : x.hi = (wayV p h.m.lo h.m.hi h.age).2 := by rw [e]; rfl
    have hh := ok.held
    have e5 : x.held = h.m.held + 1 := by rw [e]; exact more_eq (by show 0 ≤ h.m.held; omega) (by show h.m.held ≤ _; omega)
    obtain ⟨r1, _, r3⟩ := step_ok N (T := T + p.beat) (w := w + hopN p) (h0 := h0 + 1) (h1 := h1 + 1) hS (by rw [e]) (by omega) (by omega) (by omega) (by omega) (by omega) (by omega) (by omega) (by omega) e1 (by omega) (by omega)
    exact ⟨r1, r3⟩
   ·obtain ⟨a, b⟩ := hus h' hh' w h0 h1 hw k1 k2 k3 ha ok
    exact (hmin.2 _ a b).2
 ·refine .inl ⟨?_, fun h hh w h0 h1 hw k1 k2 k3 ha ok => ?_⟩
  ·rcases hS.sp with ⟨_, _, _, q⟩ | ⟨_, _, _, q⟩
   ·rw [q, e]; rfl
   ·exact q
  ·obtain ⟨a, b⟩ := hus h hh w h0 h1 hw k1 k2 k3 ha ok
   have := ((pick_min p (followL p o) (false, Ms.zero)).2 _ a b).1
   unfold pickL at hpk
   rw [hpk] at this
   cases this
end
structure Us where
 s : Sta
 nb : List Nb
 c : Nat
 m : Ms
def IsG (p : Par) (u : Int) : Prop := 0 ≤ u ∧ u < p.n
def IsN (K : Nat) (u : Int) : Prop := 16 ≤ u ∧ u < 16 + K
def RightU (p : Par) (u : Int) : Prop := 16 ≤ u ∨ u < p.n - p.f
structure Net (p : Par) (K : Nat) (link : Int → Int → Prop) : Prop where
 gg : ∀ i j, IsG p i → IsG p j → i ≠ j → link i j
 ends : ∀ i j, link i j → (IsG p i ∨ IsN K i) ∧ (IsG p j ∨ IsN K j) ∧ i ≠ j
 core : ∀ u i j, IsN K u → IsG p i → IsG p j → link i u → link j u
 few : p.n + K ≤ 16
def Path (K : Nat) (link : Int → Int → Prop) : Nat → Int → Prop
 | 0, u => IsN K u ∧ link 0 u
 | k + 1, u => IsN K u ∧ ∃ v, link v u ∧ Path K link k v
theorem path_n {K : Nat} {link : Int → Int → Prop} {k : Nat} {u : Int} (h : Path K link k u) : IsN K u := by
 cases k with
 | zero => exact h.1
 | succ k => exact h.1
def SameM (m m' : Ms) : Prop := ({ m with ta := none, tl := 0, tc := 0 } : Ms) = { m' with ta := none, tl := 0, tc := 0 }
def Heard (p : Par) (link : Int → Int → Prop) (U : Int → Us) (u : Int) (hs : List Hr) : Prop := (∀ h ∈ hs, link h.m.src u ∧ (RightU p h.m.src → SameM (U h.m.src).m h.m ∧ AgeOK p h.age)) ∧ ∀ i, link i u → RightU p i → ∃ h ∈ hs, h.m.src = i
def TurnG (p : Par) (f : Nat) (T : Int) (refs : Bool) (u : Int) (x x' : Us) (hs : List Hr) : Prop := ∃ ticks rf rd, TickOK p ticks ∧ GateR p f u x.s ticks rf rd hs x'.s x'.m ∧ (u < p.n - p.f → rf = refs ∧ T + p.beat - p.eps ≤ rd ∧ rd ≤ T + p.beat + p.eps)
def TurnN (p : Par) (f : Nat) (u : Int) (x x' : Us) (hs : List Hr) : Prop := (∃ ticks, TickOK p ticks ∧ NodeR p f u x.s ticks (knownL u hs x.nb x.c).1 x'.s x'.m) ∧ x'.nb = tickL (knownL u hs x.nb x.c).2.1 ∧ x'.c = (knownL u hs x.nb x.c).2.2
def Beat (p : Par) (f K : Nat) (T : Int) (refs : Bool) (H : Int → List Hr → Prop) (U U' : Int → Us) : Prop := (∀ u, IsG p u → ∃ hs, H u hs ∧ TurnG p f T refs u (U u) (U' u) hs) ∧ ∀ u, IsN K u → ∃ hs, H u hs ∧ TurnN p f u (U u) (U' u) hs
def Near (U : Int → Us) (u : Int) : Prop := NOk (U u).nb (U u).c ∧ NBw (U u).nb
structure Said (U : Int → Us) (u : Int) : Prop where
 kind : (U u).m.kind = if u < 16 then 1 else 2
 src : (U u).m.src = u
 lo : (U u).m.lo = (U u).s.lo
 hi : (U u).m.hi = (U u).s.hi
 held : (U u).m.held = (U u).s.held
 hops : (U u).m.hops = (U u).s.hops
 good : (U u).m.good = (U u).s.good
theorem said_of {U : Int → Us} {u : Int} {s : Sta} {k : Int} {r : Bool} {a b : Int} {m : Ms} (h : SayR s k u r a b m) (e1 : (U u).s = s) (e2 : (U u).m = m) (hk : k = if u < 16 then 1 else 2) : Said U u := by
 subst e1 e2
 exact ⟨h.kind.trans hk, h.src, h.lo, h.hi, h.held, h.hops, h.good⟩
theorem same_get {m m' : Ms} (h : SameM m m') : m'.kind = m.kind ∧ m'.src = m.src ∧ m'.lo = m.lo ∧ m'.hi = m.hi ∧ m'.held = m.held ∧ m'.hops = m.hops ∧ m'.good = m.good ∧ m'.ref = m.ref ∧ m'.slo = m.slo ∧ m'.shi = m.shi := by
 unfold SameM at h
 have := congrArg Ms.kind h; have := congrArg Ms.src h; have := congrArg Ms.lo h; have := congrArg Ms.hi h; have := congrArg Ms.held h; have := congrArg Ms.hops h; have := congrArg Ms.good h; have := congrArg Ms.ref h; have := congrArg Ms.slo h; have := congrArg Ms.shi h
 simp_all
structure Inv (p : Par) (K : Nat) (link : Int → Int → Prop) (j b : Nat) (T : Int) (U : Int → Us) : Prop where
 said : ∀ u, IsG p u ∨ IsN K u → Said U u
 seen : ∀ u, IsG p u → u < p.n - p.f → SeenOK p T (U u).m ∧ (U u).m.ref = decide (b = 0)
 gate : 2 ≤ j → ∀ u, IsG p u → u < p.n - p.f → OKs T (gateN p + 2 * p.rho * b) ((b : Int) - 1) b (U u).s ∧ (U u).s.hops = 0
 near : ∀ u, IsN K u → Near U u ∧ ∀ x ∈ (U u).nb, (j : Int) ≤ x.quiet ∨ link x.key u
 q3 : ∀ u, IsN K u → ∀ x ∈ (U u).nb, x.quiet ≤ 3
 age : 5 ≤ j → ∀ u, IsN K u → ∀ i, link i u → RightU p i → 1 ≤ ageN i (U u).nb
 safe : 5 ≤ j → ∀ u, IsN K u → (U u).s.good = true → (U u).s.hops ≤ j - 5 → OKs T (widN p b (U u).s.hops) 0 (b + (U u).s.hops + 1) (U u).s
 live : ∀ u k, Path K link k u → (k : Int) ≤ p.d → k + 5 ≤ j → (U u).s.good = true ∧ (U u).s.hops ≤ k
theorem mem_tick {l : List Nb} {x : Nb} (h : x ∈ tickL l) : ∃ y ∈ l, y.quiet ≤ 2 ∧ x = tick1 y := by
 unfold tickL at h
 obtain ⟨y, hy, rfl⟩ := List.mem_map.1 h
 obtain ⟨h1, h2⟩ := List.mem_filter.1 hy
 exact ⟨y, h1, by simpa using h2, rfl⟩
theorem tick_q {y : Nb} (h : y.quiet ≤ 2) (h0 : 0 ≤ y.quiet) : (tick1 y).quiet = y.quiet + 1 ∧ (tick1 y).key = y.key := by
 unfold tick1 mn
 rw [if_neg (by omega)]
 split <;> refine ⟨?_, rfl⟩ <;> (dsimp only; rw [if_neg (by omega)])
def allU (p : Par) (K : Nat) : List Int := iota 0 p.n.toNat ++ iota 16 K
theorem mem_all {p : Par} {K : Nat} (hn : 1 ≤ p.n) {u : Int} : u ∈ allU p K ↔ IsG p u ∨ IsN K u := by
 unfold allU IsG IsN
 rw [List.mem_append, mem_iota, mem_iota]
 constructor <;> rintro (h | h) <;> first | exact .inl (by omega) | exact .inr (by omega)
section
variable {p : Par} {f : Nat} (hf : p.f = (f : Int)) {K : Nat} {link : Int → Int → Prop} {j b : Nat} {T : Int} {refs : Bool} {U U' : Int → Us}
theorem all_len (N : Num p) (net : Net p K link) : (allU p K).length ≤ 16 := by
 have := net.few; have := N.n
 unfold allU
 rw [List.length_append, iota_len, iota_len]
 omega
theorem all_48 (N : Num p) (net : Net p K link) : ∀ k ∈ allU p K, 0 ≤ k ∧ k < 48 := fun k hk => by
 have := net.few; have := N.n
 rcases (mem_all N.n.1).1 hk with h | h
 ·unfold IsG at h; omega
 ·unfold IsN at h; omega
theorem near_fit (N : Num p) (net : Net p K link) {u : Int} (hnr : Near U u) (h5 : ∀ x ∈ (U u).nb, link x.key u) : Fit (allU p K) u (U u).nb := ⟨hnr.1.kn, fun x hx => (mem_all N.n.1).2 (net.ends _ _ (h5 x hx)).1⟩
theorem near_beat {u : Int} {hs : List Hr} (hnr : Near U u) (hq : ∀ x ∈ (U u).nb, (j : Int) ≤ x.quiet ∨ link x.key u) (t : TurnN p f u (U u) (U' u) hs) (hs1 : j = 0 ∨ ∀ h ∈ hs, link h.m.src u) : Near U' u ∧ ∀ x ∈ (U' u).nb, (((j + 1 : Nat) : Int) ≤ x.quiet ∨ link x.key u) ∧ x.quiet ≤ 3 := by
 obtain ⟨_, e1, e2⟩ := t
 have hk := known_ok hnr.1 (me := u) hs
 have hb := known_bd hnr.2 (me := u) (c := (U u).c) hs
 refine ⟨⟨by rw [e1, e2]; exact tick_ok hk, by rw [e1]; exact tick_bd hb⟩, fun x hx => ?_⟩
 rw [e1] at hx
 obtain ⟨y, hy, h2, rfl⟩ := mem_tick hx
 have h0 := (hb.1.b y hy).2.1
 obtain ⟨t1, t2⟩ := tick_q h2 h0
 rw [t1, t2]
 refine ⟨?_, by omega⟩
 rcases hs1 with rfl | hs1
 ·exact .inl (by omega)
 ·rcases known_from u hs _ y hy with q | ⟨h, hh, e⟩
  ·rcases hq y q with q | q
   ·exact .inl (by omega)
   ·exact .inr q
  ·exact .inr (by rw [← e]; exact hs1 h hh)
theorem known_all (N : Num p) (net : Net p K link) {u : Int} {hs : List Hr} (hnr : Near U u) (h5 : ∀ x ∈ (U u).nb, link x.key u) (hs1 : ∀ h ∈ hs, link h.m.src u) :
  (∀ i, (∃ h ∈ hs, h.m.src = i) → 1 ≤ ageN i (tickL (knownL u hs (U u).nb (U u).c).2.1)) ∧ ∀ h ∈ hs, okK h (ageN h.m.src (U u).nb) = true → ∃ y ∈ (knownL u hs (U u).nb (U u).c).1, y.m.src = h.m.src := by
 have hl := all_len N net; have h48 := all_48 N net
 have fit := near_fit N net hnr h5
 have hin : ∀ x ∈ hs, x.m.src ∈ allU p K ∧ x.m.src ≠ u := fun x hx => by
  have := net.ends _ _ (hs1 x hx)
  exact ⟨(mem_all N.n.1).2 this.1, this.2.2⟩
 obtain ⟨k1, k2, k3, k4, k5⟩ := known_fit hl h48 hs ([], (U u).nb, (U u).c) fit hin (fun _ q => by cases q)
 refine ⟨fun i ⟨h, hh, e⟩ => ?_, k5⟩
 have hb := known_bd hnr.2 (me := u) (c := (U u).c) hs
 obtain ⟨x, hx, ex⟩ := hasN_iff.1 (k4 h hh)
 have hz := known_zero hl h48 hs ([], (U u).nb, (U u).c) [] fit hin (fun _ q => by cases q) (fun _ _ q => by cases q) x hx (.inr ⟨h, hh, ex.symm⟩)
 have ha := (hb.1.b x hx).1
 have hm : tick1 x ∈ tickL (knownL u hs (U u).nb (U u).c).2.1 := List.mem_map.2 ⟨x, List.mem_filter.2 ⟨hx, by rw [hz]; decide⟩, rfl⟩
 have hk := tick_ok (known_ok hnr.1 (me := u) hs)
 have := ageN_eq hk.kn hm
 have e2 : (tick1 x).key = i := by rw [(tick_q (by omega) (by omega)).2, ex, e]
 rw [e2] at this
 rw [this]
 unfold tick1 mn
 rw [hz]
 simp only [Int.reduceGT, if_false, if_true]
 split <;> omega
end
def FromT (p : Par) (s s' : Sta) : Prop := ∃ ticks, TickOK p ticks ∧ From p s ticks s'
theorem oks_m {U : Int → Us} {u T w h0 h1 : Int} {m : Ms} (h : OKs T w h0 h1 (U u).s) (sd : Said U u) (e : SameM (U u).m m) : OKm T w 0 h1 m := by
 obtain ⟨_, _, e3, e4, e5, _, e7, _⟩ := same_get e
 exact ⟨e7.trans (sd.good.trans h.good), by rw [e3, sd.lo]; exact h.lo, by rw [e4, sd.hi]; exact h.hi, by rw [e3, e4, sd.lo, sd.hi]; exact h.wide, by rw [e5, sd.held]; exact ⟨h.h0, h.held.2⟩⟩
theorem oks_weak {T w w' h0 h1 h0' h1' : Int} {s : Sta} (h : OKs T w h0 h1 s) (hw : w ≤ w') (ha : h0' ≤ h0) (hb : h1 ≤ h1') : OKs T w' h0' h1' s := ⟨h.good, h.set, h.hops, h.lo, h.hi, Int.le_trans h.wide hw, ⟨by have := h.held; omega, by have := h.held; omega⟩, h.h0⟩
section
variable {p : Par} {f : Nat} {K : Nat} {link : Int → Int → Prop} {j b : Nat} {T : Int} {refs : Bool} {U U' : Int → Us}
theorem wid_small (N : Num p) {h : Int} (hb : b ≤ 1000) (h0 : 0 ≤ h) (h1 : h ≤ 20) : widN p b h ≤ 1125899906842624 ∧ 0 ≤ 2 * p.rho * b ∧ 2 * p.rho * b ≤ 274877906944000 := by
 have a1 := gate_b N; have a2 := hh_b N h0 (by omega); have := N.rho; have := N.beat
 have e0 : 0 ≤ 2 * p.rho * b := Int.mul_nonneg (by omega) (by omega)
 have e1 : 2 * p.rho * b ≤ 274877906944 * 1000 := Int.mul_le_mul (by omega) (by omega) (by omega) (by decide)
 unfold widN
 omega
theorem gate_step (N : Num p) (hf : p.f = (f : Int)) (net : Net p K link) (inv : Inv p K link j b T U) (hT : TimeOK T) (hb : b ≤ 1000) {u : Int} (hu : IsG p u) (hr : u < p.n - p.f) {hs : List Hr} (hh : Heard p link U u hs) (t : TurnG p f T refs u (U u) (U' u) hs) (hm : (refs = true ∧ b = 0) ∨ (refs = false ∧ 2 ≤ j)) :
  SeenOK p (T + p.beat) (U' u).m ∧ (U' u).m.ref = refs ∧ (U' u).s.hops = 0 ∧
  (refs = true → OKs (T + p.beat) (gateN p) 0 0 (U' u).s ∧ FromT p (U u).s (U' u).s) ∧ (refs = false → OKs (T + p.beat) (gateN p + 2 * p.rho * ((b + 1 : Nat) : Int)) b (b + 1) (U' u).s) := by
 have n2 := N.f; have n1 := N.n; have n3 := N.eps; have hop := hop_b N; have n4 := N.rho
 obtain ⟨ticks, rf, rd, ht, g, hg⟩ := t
 obtain ⟨rfl, hrd⟩ := hg hr
 have get : ∀ h ∈ hs, 0 ≤ h.m.src → h.m.src < p.n - p.f → IsG p h.m.src ∧ AgeOK p h.age ∧ SameM (U h.m.src).m h.m := fun h hh1 k2 k3 => by
  obtain ⟨a, c⟩ := (hh.1 h hh1).2 (.inr k3)
  exact ⟨⟨k2, by omega⟩, c, a⟩
 obtain ⟨q1, q2, q3, q4⟩ := gate_beat N hf hT ⟨hu.1, hr⟩ g ht hrd fun h hh1 k1 k2 k3 => by
  obtain ⟨a, c, d⟩ := get h hh1 k2 k3
  obtain ⟨_, _, _, _, _, _, _, e8, e9, e10⟩ := same_get d
  refine ⟨c, fun hre => ?_⟩
  rw [e9, e10]
  exact (inv.seen _ a k3).1 (e8 ▸ hre)
 have hon : rf = true → OKs (T + p.beat) (2 * p.eps + hopN p) 0 0 (U' u).s ∧ (U' u).s.hops = 0 ∧ ∃ x, StepR p (U u).s ticks x (U' u).s ∧ x.lo = (U' u).s.lo ∧ x.hi = (U' u).s.hi ∧ x.held = 0 := fun e => by
  have hb0 : b = 0 := by rcases hm with ⟨_, q⟩ | ⟨q, _⟩; exact q; rw [e] at q; cases q
  refine q3 e (fun h hh1 k1 k2 k3 => ?_) fun i i0 i1 i2 => ?_
  ·obtain ⟨a, c, d⟩ := get h hh1 k2 k3
   obtain ⟨_, _, _, _, _, _, _, e8, _⟩ := same_get d
   rw [e8, (inv.seen _ a k3).2, hb0]; rfl
  ·have hi : IsG p i := ⟨i0, by omega⟩
   obtain ⟨h, hh1, e1⟩ := hh.2 i (net.gg i u hi hu i2) (.inr i1)
   obtain ⟨a, c, d⟩ := get h hh1 (by omega) (by omega)
   obtain ⟨e2, _⟩ := same_get d
   refine ⟨h, hh1, ?_, e1⟩
   rw [e2, (inv.said _ (.inl a)).kind, if_pos (by omega)]
 have hoff : rf = false → (U' u).s.hops = 0 ∧ OKs (T + p.beat) (gateN p + 2 * p.rho * ((b + 1 : Nat) : Int)) b (b + 1) (U' u).s := fun e => by
  have hj : 2 ≤ j := by rcases hm with ⟨q, _⟩ | ⟨_, q⟩; rw [e] at q; cases q; exact q
  obtain ⟨g1, g2⟩ := inv.gate hj u hu hr
  have ws := wid_small N (h := 0) hb (Int.le_refl 0) (by decide)
  have hw : gateN p + 2 * p.rho * b ≤ 1125899906842624 := by have := ws.1; unfold widN at this; omega
  have wx := wid_held (p := p) b 0
  unfold widN at wx
  obtain ⟨r1, r2⟩ := q4 e _ _ _ hw (by omega) g1 g2
  refine ⟨r1, ?_⟩
  rcases r2 with r2 | ⟨⟨h, hh1, k1, k2, k3, k4⟩, r2⟩
  ·exact oks_weak r2 (by rw [Int.natCast_add]; show _ ≤ gateN p + 2 * p.rho * ((b : Int) + 1); omega) (by omega) (by omega)
  ·obtain ⟨a, c, d⟩ := get h hh1 k2 k3
   obtain ⟨_, _, _, _, _, _, _, e8, _⟩ := same_get d
   rw [e8, (inv.seen _ a k3).2] at k4
   have hb0 : b = 0 := by simpa using k4
   subst hb0
   exact oks_weak r2 (by show _ ≤ gateN p + 2 * p.rho * 1; omega) (by omega) (by omega)
 refine ⟨q1, q2, ?_, fun e => ?_, fun e => (hoff e).2⟩
 ·cases e : rf
  ·exact (hoff e).1
  ·exact (hon e).2.1
 ·obtain ⟨a, _, x, c⟩ := hon e
  exact ⟨oks_weak a (by unfold gateN; omega) (by omega) (by omega), ticks, ht, x, c.1, c.2.1, c.2.2.1, by rw [c.2.2.2]; have := a.held; omega⟩
theorem node_step (N : Num p) (hf : p.f = (f : Int)) (net : Net p K link) (inv : Inv p K link j b T U) (hj : 4 ≤ j) (hT : TimeOK T) (hb : b ≤ 1000) {u : Int} (hu : IsN K u) {hs : List Hr} (hh : Heard p link U u hs) (t : TurnN p f u (U u) (U' u) hs) :
  (∀ i, link i u → RightU p i → 1 ≤ ageN i (U' u).nb) ∧ (link 0 u → OKs (T + p.beat) (widN p b 0) 0 (b + 1) (U' u).s ∧ (U' u).s.hops = 0 ∧ FromT p (U u).s (U' u).s) ∧
  (¬ link 0 u → ((U' u).s.good = false ∧ ∀ v, link v u → IsN K v → (U v).s.good = true → (U v).s.hops ≤ j - 5 → (U v).s.hops < p.d → 5 ≤ j → False) ∨
   ∃ v, link v u ∧ IsN K v ∧ (U v).s.good = true ∧ 0 ≤ (U v).s.hops ∧ (U v).s.hops < p.d ∧ (U' u).s.hops = (U v).s.hops + 1 ∧ (5 ≤ j → (U v).s.hops ≤ j - 5 → OKs (T + p.beat) (widN p b (U' u).s.hops) 0 (b + (U' u).s.hops + 1) (U' u).s ∧ FromT p (U u).s (U' u).s) ∧
    ∀ w, link w u → IsN K w → (U w).s.good = true → (U w).s.hops ≤ j - 5 → (U w).s.hops < p.d → 5 ≤ j → (U v).s.hops ≤ (U w).s.hops) := by
 have n2 := N.f; have n1 := N.n; have hop := hop_b N; have n4 := N.rho; have n7 := N.d
 obtain ⟨hnr, hq⟩ := inv.near u hu
 have h5 : ∀ x ∈ (U u).nb, link x.key u := fun x hx => (hq x hx).elim (fun q => by have := inv.q3 u hu x hx; omega) id
 have hs1 : ∀ h ∈ hs, link h.m.src u := fun h hh1 => (hh.1 h hh1).1
 obtain ⟨ka, kb⟩ := known_all N net hnr h5 hs1
 obtain ⟨⟨ticks, ht, g⟩, e1, _⟩ := t
 have ko : ∀ y ∈ (knownL u hs (U u).nb (U u).c).1, y ∈ hs ∧ okK y (ageN y.m.src (U u).nb) = true := fun y hy => (known_out u hs _ y hy).elim (fun q => by cases q) fun q => ⟨q.1, q.2.2⟩
 have get : ∀ h ∈ hs, RightU p h.m.src → AgeOK p h.age ∧ SameM (U h.m.src).m h.m ∧ Said U h.m.src := fun h hh1 k3 => by
  obtain ⟨a, c⟩ := (hh.1 h hh1).2 k3
  exact ⟨c, a, inv.said _ (net.ends _ _ (hs1 h hh1)).1⟩
 have gw := wid_small N (h := 0) hb (Int.le_refl 0) (by decide)
 refine ⟨fun i hi hri => by rw [e1]; exact ka i (hh.2 i hi hri), fun hc => ?_, fun hc => ?_⟩
 ·obtain ⟨r1, r2, r3⟩ := node_core N hf (w := gateN p + 2 * p.rho * b) (h0 := 0) (h1 := b) hT g (by have := gw.1; unfold widN at this; omega) (Int.le_refl 0) (by omega) (fun h hh1 k1 k2 k3 => by
    obtain ⟨m1, m2⟩ := ko h hh1
    obtain ⟨c1, c2, c3⟩ := get h m1 (.inr k3)
    exact ⟨c1, oks_m (inv.gate (by omega) _ ⟨k2, by omega⟩ k3).1 c3 c2⟩) fun i i0 i1 => by
    have hi : IsG p i := ⟨i0, by omega⟩
    obtain ⟨h, m1, rfl⟩ := hh.2 i (net.core u 0 i hu ⟨Int.le_refl 0, by omega⟩ hi hc) (.inr i1)
    obtain ⟨c1, c2, c3⟩ := get h m1 (.inr i1)
    have ek : h.m.kind = 1 := by rw [(same_get c2).1, c3.kind, if_pos (by omega)]
    obtain ⟨y, hy, e⟩ := kb h m1 (okK_iff.2 (.inl ⟨ek, by omega⟩))
    obtain ⟨c1', c2', c3'⟩ := get y (ko y hy).1 (.inr (by omega))
    exact ⟨y, hy, by rw [(same_get c2').1, c3'.kind, if_pos (by omega)], e⟩
  exact ⟨oks_weak r1 (by unfold widN; omega) (by omega) (by omega), r2, ticks, ht, r3⟩
 ·have okn : ∀ h ∈ hs, IsN K h.m.src → 5 ≤ j → (U h.m.src).s.good = true → (U h.m.src).s.hops ≤ j - 5 → (U h.m.src).s.hops < p.d → OKm T (widN p b (U h.m.src).s.hops) 0 (b + (U h.m.src).s.hops + 1) h.m ∧ widN p b (U h.m.src).s.hops ≤ 1125899906842624 ∧ 0 ≤ h.m.hops ∧ h.m.hops = (U h.m.src).s.hops ∧ h.m.kind = 2 ∧ AgeOK p h.age := fun h m1 hn j5 hgd hhp hlt => by
   obtain ⟨c1, c2, c3⟩ := get h m1 (.inl hn.1)
   have hs2 := inv.safe j5 _ hn hgd hhp
   have eh : h.m.hops = (U h.m.src).s.hops := by rw [(same_get c2).2.2.2.2.2.1, c3.hops]
   exact ⟨oks_m hs2 c3 c2, (wid_small N hb hs2.hops (by omega)).1, by rw [eh]; exact hs2.hops, eh, by rw [(same_get c2).1, c3.kind, if_neg (by have := hn.1; omega)], c1⟩
  have hin : ∀ v, link v u → IsN K v → 5 ≤ j → ∃ y ∈ (knownL u hs (U u).nb (U u).c).1, y.m.src = v := fun v hv hvn j5 => by
   obtain ⟨h, m1, rfl⟩ := hh.2 v hv (.inl hvn.1)
   obtain ⟨c1, c2, c3⟩ := get h m1 (.inl hvn.1)
   exact kb h m1 (okK_iff.2 (.inr ⟨by rw [(same_get c2).1, c3.kind, if_neg (by have := hvn.1; omega)], hvn.1, by have := inv.age j5 u hu _ hv (.inl hvn.1); omega⟩))
  have hno : ∀ h ∈ (knownL u hs (U u).nb (U u).c).1, h.m.kind = 1 → h.m.src < 0 ∨ p.n ≤ h.m.src := fun h hh1 k1 => by
   refine Classical.byContradiction fun q => ?_
   exact hc (net.core u h.m.src 0 hu ⟨by omega, by omega⟩ ⟨Int.le_refl 0, by omega⟩ (hs1 h (ko h hh1).1))
  rcases node_far N hT g hno with ⟨r1, r2⟩ | ⟨h, hh1, r1, r2, r3, r4, r5, r6, r7⟩
  ·refine .inl ⟨r1, fun v hv hvn hgd hhp hlt j5 => ?_⟩
   obtain ⟨y, hy, rfl⟩ := hin v hv hvn j5
   obtain ⟨a1, a2, a3, a4, a5, a6⟩ := okn y (ko y hy).1 hvn j5 hgd hhp hlt
   exact r2 y hy _ _ _ a2 a5 a3 (by omega) a6 a1
  ·refine .inr ?_
   obtain ⟨m1, m2⟩ := ko h hh1
   have hsrc : 16 ≤ h.m.src := by
    rcases okK_iff.1 m2 with q | q
    ·omega
    ·exact q.2.1
   have hn : IsN K h.m.src := by
    have := net.few
    rcases (net.ends _ _ (hs1 h m1)).1 with q | q
    ·unfold IsG at q; omega
    ·exact q
   obtain ⟨c1, c2, c3⟩ := get h m1 (.inl hsrc)
   have eg : (U h.m.src).s.good = true := by rw [← c3.good, ← (same_get c2).2.2.2.2.2.2.1]; exact r2
   have eh : h.m.hops = (U h.m.src).s.hops := by rw [(same_get c2).2.2.2.2.2.1, c3.hops]
   refine ⟨h.m.src, hs1 h m1, hn, eg, by omega, by omega, by omega, fun j5 hhp => ?_, fun w hw hwn hgd hhp hlt j5 => ?_⟩
   ·obtain ⟨a1, a2, a3, a4, a5, a6⟩ := okn h m1 hn j5 eg hhp (by omega)
    obtain ⟨z1, z2⟩ := r6 _ _ _ a2 (Int.le_refl 0) (by omega) a6 a1
    refine ⟨?_, ticks, ht, z2⟩
    rw [r5, eh, wid_hop]
    exact oks_weak z1 (Int.le_refl _) (by omega) (by omega)
   ·obtain ⟨y, hy, rfl⟩ := hin w hw hwn j5
    obtain ⟨a1, a2, a3, a4, a5, a6⟩ := okn y (ko y hy).1 hwn j5 hgd hhp hlt
    have := r7 y hy _ _ _ a2 a5 a3 (by omega) a6 a1
    omega
end
section
variable {p : Par} {f : Nat} {K : Nat} {link : Int → Int → Prop} {j b b' : Nat} {T : Int} {refs : Bool} {U U' : Int → Us}
theorem beat_said {H : Int → List Hr → Prop} (few : p.n + K ≤ 16) (bt : Beat p f K T refs H U U') : ∀ u, IsG p u ∨ IsN K u → Said U' u := fun u hu => by
 rcases hu with hu | hu
 ·obtain ⟨hs, _, ticks, rf, rd, _, g, _⟩ := bt.1 u hu
  exact said_of g.say rfl rfl (by rw [if_pos (by unfold IsG at hu; omega)])
 ·obtain ⟨hs, _, ⟨ticks, _, g⟩, _⟩ := bt.2 u hu
  exact said_of g.say rfl rfl (by rw [if_neg (by unfold IsN at hu; omega)])
theorem gate_seen (N : Num p) {u : Int} {hs : List Hr} (hT : TimeOK T) (hr : u < p.n - p.f) (t : TurnG p f T refs u (U u) (U' u) hs) : SeenOK p (T + p.beat) (U' u).m ∧ (U' u).m.ref = refs := by
 have n3 := N.eps; have n5 := N.beat
 obtain ⟨ticks, rf, rd, ht, g, hg⟩ := t
 obtain ⟨rfl, hrd⟩ := hg hr
 have hseen := seen_in N (T := T + p.beat) (rd := rd) (by unfold TimeOK at hT; omega) hrd
 refine ⟨fun href => ?_, g.say.ref⟩
 rw [g.say.slo, g.say.shi]
 rw [g.say.ref] at href
 unfold seenV
 rw [if_pos href]
 exact ⟨hseen.1, hseen.2.1, by dsimp only; omega⟩
theorem inv_first (N : Num p) (net : Net p K link) (hT : TimeOK T) (hn : ∀ u, IsN K u → Near U u) (bt : Beat p f K T true (fun _ _ => True) U U') : Inv p K link 1 0 (T + p.beat) U' := by
 refine ⟨beat_said net.few bt, fun u hu hr => ?_, fun h => by omega, fun u hu => ?_, fun u hu => ?_, fun h => by omega, fun h => by omega, fun u k _ _ h => by omega⟩
 ·obtain ⟨hs, _, t⟩ := bt.1 u hu
  exact gate_seen N hT hr t
 ·obtain ⟨hs, _, t⟩ := bt.2 u hu
  obtain ⟨a, c⟩ := near_beat (link := link) (j := 0) (hn u hu) (fun x hx => .inl ((hn u hu).2.1.b x hx).2.1) t (.inl rfl)
  exact ⟨a, fun x hx => (c x hx).1⟩
 ·obtain ⟨hs, _, t⟩ := bt.2 u hu
  obtain ⟨a, c⟩ := near_beat (link := link) (j := 0) (hn u hu) (fun x hx => .inl ((hn u hu).2.1.b x hx).2.1) t (.inl rfl)
  exact fun x hx => (c x hx).2
theorem inv_step (N : Num p) (hf : p.f = (f : Int)) (net : Net p K link) (hj : 1 ≤ j) (inv : Inv p K link j b T U) (hT : TimeOK T) (hb : b ≤ 1000) (bt : Beat p f K T refs (Heard p link U) U U') (hm : (refs = true ∧ b = 0 ∧ b' = 0) ∨ (refs = false ∧ 2 ≤ j ∧ b' = b + 1)) :
  Inv p K link (j + 1) b' (T + p.beat) U' ∧ (refs = true → ∀ u, IsG p u → u < p.n - p.f → FromT p (U u).s (U' u).s) ∧ ∀ u k, Path K link k u → (k : Int) ≤ p.d → k + 5 ≤ j + 1 → FromT p (U u).s (U' u).s := by
 have n7 := N.d
 have hbb : b ≤ b' := by omega
 have nodeL : 4 ≤ j → ∀ u k, Path K link k u → (k : Int) ≤ p.d → k + 5 ≤ j + 1 → ((U' u).s.good = true ∧ (U' u).s.hops ≤ k) ∧ FromT p (U u).s (U' u).s := fun j4 u k hp hk hkj => by
  obtain ⟨hs, hh, t⟩ := bt.2 u (path_n hp)
  obtain ⟨_, s2, s3⟩ := node_step N hf net inv j4 hT hb (path_n hp) hh t
  by_cases hc : link 0 u
  ·obtain ⟨a, c, d⟩ := s2 hc
   exact ⟨⟨a.good, by omega⟩, d⟩
  ·cases k with
   | zero => exact absurd hp.2 hc
   | succ k =>
    obtain ⟨_, v, hv, hpv⟩ := hp
    obtain ⟨l1, l2⟩ := inv.live v k hpv (by omega) (by omega)
    rcases s3 hc with ⟨_, q⟩ | ⟨w, w1, w2, w3, w4, w5, w6, w7, w8⟩
    ·exact (q v hv (path_n hpv) l1 (by omega) (by omega) (by omega)).elim
    ·have hle := w8 v hv (path_n hpv) l1 (by omega) (by omega) (by omega)
     obtain ⟨z1, z2⟩ := w7 (by omega) (by omega)
     exact ⟨⟨z1.good, by omega⟩, z2⟩
 refine ⟨⟨beat_said net.few bt, fun u hu hr => ?_, fun _ u hu hr => ?_, fun u hu => ?_, fun u hu => ?_, fun j5 u hu => ?_, fun j5 u hu hg hle => ?_, fun u k hp hk hkj => (nodeL (by omega) u k hp hk hkj).1⟩, fun hre u hu hr => ?_, fun u k hp hk hkj => (nodeL (by omega) u k hp hk hkj).2⟩
 ·obtain ⟨hs, _, t⟩ := bt.1 u hu
  obtain ⟨a, c⟩ := gate_seen N hT hr t
  refine ⟨a, c.trans ?_⟩
  rcases hm with ⟨e1, _, e2⟩ | ⟨e1, _, e2⟩
  ·rw [e1, e2]; rfl
  ·rw [e1, e2]; exact (decide_eq_false (by omega)).symm
 ·obtain ⟨hs, hh, t⟩ := bt.1 u hu
  obtain ⟨_, _, s3, s4, s5⟩ := gate_step N hf net inv hT hb hu hr hh t (by rcases hm with ⟨e1, e2, _⟩ | ⟨e1, e2, _⟩; exact .inl ⟨e1, e2⟩; exact .inr ⟨e1, e2⟩)
  rcases hm with ⟨e1, e3, e2⟩ | ⟨e1, _, e2⟩
  ·subst e2
   exact ⟨oks_weak (s4 e1).1 (by show _ ≤ gateN p + 2 * p.rho * 0; omega) (by omega) (by omega), s3⟩
  ·subst e2
   exact ⟨oks_weak (s5 e1) (Int.le_refl _) (by omega) (by omega), s3⟩
 ·obtain ⟨hs, hh, t⟩ := bt.2 u hu
  obtain ⟨hn, hq⟩ := inv.near u hu
  obtain ⟨a, c⟩ := near_beat (link := link) (j := j) hn hq t (.inr fun h hh1 => (hh.1 h hh1).1)
  exact ⟨a, fun x hx => (c x hx).1⟩
 ·obtain ⟨hs, hh, t⟩ := bt.2 u hu
  obtain ⟨hn, hq⟩ := inv.near u hu
  obtain ⟨a, c⟩ := near_beat (link := link) (j := j) hn hq t (.inr fun h hh1 => (hh.1 h hh1).1)
  exact fun x hx => (c x hx).2
 ·obtain ⟨hs, hh, t⟩ := bt.2 u hu
  exact (node_step N hf net inv (by omega) hT hb hu hh t).1
 ·obtain ⟨hs, hh, t⟩ := bt.2 u hu
  obtain ⟨_, s2, s3⟩ := node_step N hf net inv (by omega) hT hb hu hh t
  by_cases hc : link 0 u
  ·obtain ⟨a, c, d⟩ := s2 hc
   rw [c]
   exact oks_weak a (wid_mono N (by omega) (Int.le_refl _)) (by omega) (by omega)
  ·rcases s3 hc with ⟨q, _⟩ | ⟨w, w1, w2, w3, w4, w5, w6, w7, w8⟩
   ·rw [q] at hg; cases hg
   ·obtain ⟨z1, z2⟩ := w7 (by omega) (by omega)
    exact oks_weak z1 (wid_mono N (by omega) (Int.le_refl _)) (by omega) (by omega)
 ·obtain ⟨hs, hh, t⟩ := bt.1 u hu
  obtain ⟨_, _, s3, s4, s5⟩ := gate_step N hf net inv hT hb hu hr hh t (by rcases hm with ⟨e1, e2, _⟩ | ⟨e1, e2, _⟩; exact .inl ⟨e1, e2⟩; exact .inr ⟨e1, e2⟩)
  exact (s4 hre).2
end
theorem fdiv2 {a : Int} : 2 * a.fdiv 2 ≤ a ∧ a ≤ 2 * a.fdiv 2 + 1 := by
 rw [Int.fdiv_eq_ediv_of_nonneg _ (by decide)]; omega
theorem max_eq {a b : Int} (h : a ≤ b) (ha : -2305843009213693952 ≤ a) (hb : b ≤ 2305843009213693952) : maxL [a, b] = b := by
 show (if (if -2305843009213693952 < clp a then clp a else -2305843009213693952) < clp b then clp b else (if -2305843009213693952 < clp a then clp a else -2305843009213693952)) = b
 rw [clp_id ha (by omega), clp_id (by omega) hb]
 split <;> (split at * <;> omega)
theorem abs_eq {a : Int} (h1 : -2305843009213693952 ≤ a) (h2 : a ≤ 2305843009213693952) : absC a = if a < 0 then -a else a := by unfold absC; rw [clp_id h1 h2]
theorem clp_lo {x : Int} (h : x < -2305843009213693952) : clp x = -2305843009213693952 := by unfold clp; rw [if_pos h]
theorem clp_hi {x : Int} (h : 2305843009213693952 < x) : clp x = 2305843009213693952 := by unfold clp; rw [if_neg (by omega), if_pos h]
def mxI (a b : Int) : Int := if a < b then b else a
theorem mxI_l (a b : Int) : a ≤ mxI a b ∧ b ≤ mxI a b := by unfold mxI; split <;> omega
theorem mxI_lt {a b c : Int} : mxI a b ≤ c ↔ a ≤ c ∧ b ≤ c := by unfold mxI; split <;> omega
section
variable {p : Par} {T T' w e W : Int} {s s' : Sta}
theorem far_eq (N : Num p) {held : Int} (h0 : 0 ≤ held) (h1 : held ≤ p.hold) : farV p held = 2 * widN p p.hold p.d := by
 have n7 := N.d; have n8 := N.hold; have a1 := rh_b N (h := p.hold) (by omega) (by omega); have a2 := gate_b N; have a3 := hh_b N (h := p.d) n7.1 (by omega)
 unfold farV
 rw [max_eq h1 (by omega) (by omega), wid_eq N (by omega) (by omega) n7.1 (by omega)]
 have : 0 ≤ widN p p.hold p.d ∧ widN p p.hold p.d ≤ 1152921504606846976 := by unfold widN; omega
 exact mul_pos (by decide) (by omega) (by omega) (by decide) (by omega)
theorem clk_beat (N : Num p) (hW : widN p p.hold p.d = W) (hW2 : W ≤ 1125899906842624) (hT : -9007199254740992 ≤ T' ∧ T' ≤ 9007199254740992) {ticks h0 h1 : Int} (ht : TickOK p ticks) (hf : From p s ticks s') (ok : OKs T' w h0 h1 s') (hw : w ≤ 1125899906842624) (hh : h1 ≤ p.hold) :
  (s'.time - T' ≤ w ∧ T' - s'.time ≤ w ∧ (healthV p s = 0 ∨ s.set = false ∨ ∃ g, T' - w ≤ g ∧ g ≤ T' + w ∧ ¬ (g - addL [s.time, ticks] ≤ 2 * W ∧ addL [s.time, ticks] - g ≤ 2 * W))) ∨
  (s.set = true ∧ ∃ g, T' - w ≤ g ∧ g ≤ T' + w ∧ g - addL [s.time, ticks] ≤ 2 * W ∧ addL [s.time, ticks] - g ≤ 2 * W ∧ addL [s.time, ticks] = s.time + ticks ∧ s'.time = s.time + ticks + bnd (g - (s.time + ticks)) (-p.mu) p.mu) := by
 have n8 := N.hold; have n5 := N.beat; have n9 := N.mu; have n6 := N.rho
 obtain ⟨x, hS, e1, e2, e3⟩ := hf
 have o1 := ok.lo; have o2 := ok.hi; have o3 := ok.wide; have o4 := ok.held; have o5 := ok.h0
 have hmed : medV x.lo x.hi = (s'.lo + s'.hi).fdiv 2 := by unfold medV; rw [e1, e2, clp_id (by omega) (by omega), clp_id (by omega) (by omega)]
 generalize hg : medV x.lo x.hi = g at *
 have hg2 := fdiv2 (a := s'.lo + s'.hi)
 rw [← hmed] at hg2
 have hga : T' - w ≤ g ∧ g ≤ T' + w := by omega
 have htime := hS.time
 rw [hg] at htime
 unfold stepV at htime
 have hjump : jumpV p s ticks x = if healthV p s = 0 then true else decide (absC (sbC g (addL [s.time, ticks])) > 2 * W) := by unfold jumpV; rw [hg, far_eq N (by omega) (by omega), hW]
 have hba : -2305843009213693952 ≤ addL [s.time, ticks] ∧ addL [s.time, ticks] ≤ 2305843009213693952 := clp_b _
 have hbe : addL [s.time, ticks] = clp (clp (0 + clp s.time) + clp ticks) := rfl
 have hct : clp ticks = ticks := clp_id (by unfold TickOK at ht; omega) (by unfold TickOK at ht; omega)
 have hc1 := clp_b s.time
 rw [hct, Int.zero_add, clp_id hc1.1 hc1.2] at hbe
 generalize addL [s.time, ticks] = B at *
 have hsb : absC (sbC g B) = if clp (g - B) < 0 then -clp (g - B) else clp (g - B) := by
  unfold sbC
  rw [clp_id (x := g) (by omega) (by omega), clp_id (x := B) hba.1 hba.2]
  exact abs_eq (clp_b _).1 (clp_b _).2
 have hne : p.mu < 2305843009213693952 := by omega
 by_cases hj : (jumpV p s ticks x || !s.set) = true
 ·rw [if_pos hj, clp_id (by omega) (by omega)] at htime
  refine .inl ⟨by omega, by omega, ?_⟩
  rw [Bool.or_eq_true] at hj
  rcases hj with hj | hj
  ·rw [hjump] at hj
   by_cases hz : healthV p s = 0
   ·exact .inl hz
   ·rw [if_neg hz] at hj
    have hj2 := of_decide_eq_true hj
    rw [hsb] at hj2
    refine .inr (.inr ⟨g, hga.1, hga.2, fun ⟨q1, q2⟩ => ?_⟩)
    rw [clp_id (by omega) (by omega)] at hj2
    split at hj2 <;> omega
  ·exact .inr (.inl (by simpa using hj))
 ·rw [if_neg hj] at htime
  have hj1 : jumpV p s ticks x = false ∧ s.set = true := by
   cases h1 : jumpV p s ticks x <;> cases h2 : s.set <;> simp [h1, h2] at hj ⊢
  rw [hjump] at hj1
  by_cases hz : healthV p s = 0
  ·rw [if_pos hz] at hj1; cases hj1.1
  ·rw [if_neg hz] at hj1
   have hj2 := of_decide_eq_false hj1.1
   rw [hsb] at hj2
   have hr : g - B ≤ 2 * W ∧ B - g ≤ 2 * W := by
    unfold clp at hj2
    split at hj2 <;> split at hj2 <;> (try split at hj2) <;> omega
   have hB2 : B = clp s.time + ticks := by
    rw [hbe]
    unfold TickOK at ht
    refine clp_id ?_ ?_
    ·refine Classical.byContradiction fun q => ?_
     have : B = -2305843009213693952 := by rw [hbe]; exact clp_lo (by omega)
     omega
    ·refine Classical.byContradiction fun q => ?_
     have : B = 2305843009213693952 := by rw [hbe]; exact clp_hi (by omega)
     omega
   have hts : clp s.time = s.time := by
    unfold TickOK at ht
    refine clp_id ?_ ?_
    ·refine Classical.byContradiction fun q => ?_
     have : clp s.time = -2305843009213693952 := clp_lo (by omega)
     omega
    ·refine Classical.byContradiction fun q => ?_
     have : clp s.time = 2305843009213693952 := clp_hi (by omega)
     omega
   rw [hts] at hB2
   refine .inr ⟨hj1.2, g, hga.1, hga.2, hr.1, hr.2, hB2, ?_⟩
   have hbd := bnd_b (x := g - B) (lo := -p.mu) (hi := p.mu) (by omega)
   rw [htime, sb2 (by omega) (by omega), clp_id (x := p.mu) (by omega) (by omega), add2 (by omega) (by omega), hB2]
theorem clk_first (N : Num p) (hW : widN p p.hold p.d = W) (hW2 : W ≤ 1125899906842624) (hT : -9007199254740992 ≤ T' ∧ T' ≤ 9007199254740992) (hf : FromT p s s') {h0 h1 : Int} (ok : OKs T' w h0 h1 s') (hw : w ≤ W) (hh : h1 ≤ p.hold) : s'.time - T' ≤ 3 * W ∧ T' - s'.time ≤ 3 * W := by
 have n9 := N.mu; have n6 := N.rho
 obtain ⟨ticks, ht, hf⟩ := hf
 have o1 := ok.lo; have o2 := ok.hi; have o3 := ok.wide
 rcases clk_beat N hW hW2 hT ht hf ok (by omega) hh with ⟨a, b, _⟩ | ⟨_, g, g1, g2, g3, g4, g5, g6⟩
 ·omega
 ·rw [g5] at g3 g4
  unfold bnd at g6
  split at g6 <;> (try split at g6) <;> omega
theorem clk_next (N : Num p) (hW : widN p p.hold p.d = W) (hW2 : W ≤ 1125899906842624) (hT : -9007199254740992 ≤ T' ∧ T' ≤ 9007199254740992) (hf : FromT p s s') {h0 h1 : Int} (ok : OKs T' w h0 h1 s') (hw : w ≤ W) (hh : h1 ≤ p.hold) (he : s.time - (T' - p.beat) ≤ e ∧ T' - p.beat - s.time ≤ e) : s'.time - T' ≤ mxI (e - (p.mu - p.rho)) w ∧ T' - s'.time ≤ mxI (e - (p.mu - p.rho)) w := by
 have n9 := N.mu; have n6 := N.rho
 obtain ⟨ticks, ht, hf⟩ := hf
 have m := mxI_l (e - (p.mu - p.rho)) w
 generalize mxI (e - (p.mu - p.rho)) w = M at *
 rcases clk_beat N hW hW2 hT ht hf ok (by omega) hh with ⟨a, b, _⟩ | ⟨_, g, g1, g2, g3, g4, g5, g6⟩
 ·omega
 ·unfold TickOK at ht
  unfold bnd at g6
  split at g6 <;> (try split at g6) <;> omega
theorem clk_rate (N : Num p) (hW : widN p p.hold p.d = W) (hW2 : W ≤ 1125899906842624) (hT : -9007199254740992 ≤ T' ∧ T' ≤ 9007199254740992) (hf : FromT p s s') {h0 h1 : Int} (ok : OKs T' w h0 h1 s') (hw : 2 * w + p.rho ≤ 2 * W) (hw0 : 0 ≤ w) (hh : h1 ≤ p.hold) (he : s.time - (T' - p.beat) ≤ w ∧ T' - p.beat - s.time ≤ w) (hz : healthV p s ≠ 0) (hs : s.set = true) : s'.time - s.time - p.beat ≤ p.rho + p.mu ∧ -p.rho - p.mu ≤ s'.time - s.time - p.beat := by
 have n9 := N.mu; have n6 := N.rho
 obtain ⟨ticks, ht, hf⟩ := hf
 rcases clk_beat N hW hW2 hT ht hf ok (by omega) hh with ⟨a, b, q | q | ⟨g, g1, g2, g3⟩⟩ | ⟨_, g, g1, g2, g3, g4, g5, g6⟩
 ·exact absurd q hz
 ·rw [hs] at q; cases q
 ·exfalso
  unfold TickOK at ht
  have : addL [s.time, ticks] = s.time + ticks := by
   have n5 := N.beat
   exact add2 (by omega) (by omega)
  rw [this] at g3
  omega
 ·unfold TickOK at ht
  have hbd := bnd_b (x := g - (s.time + ticks)) (lo := -p.mu) (hi := p.mu) (by omega)
  omega
end
def Anch (p : Par) (K : Nat) (link : Int → Int → Prop) (u : Int) (a : Nat) : Prop := (IsG p u ∧ u < p.n - p.f ∧ a = 2) ∨ ∃ k : Nat, Path K link k u ∧ (k : Int) ≤ p.d ∧ a = k + 5
def errB (p : Par) (i : Nat) : Int := mxI (3 * widN p p.hold p.d - (i : Int) * (p.mu - p.rho)) (widN p 0 p.d)
def Clk (p : Par) (K : Nat) (link : Int → Int → Prop) (j : Nat) (T : Int) (U : Int → Us) : Prop := ∀ u a, Anch p K link u a → a ≤ j → (U u).s.time - T ≤ errB p (j - a) ∧ T - (U u).s.time ≤ errB p (j - a)
structure Settled (p : Par) (S : Nat) : Prop where
 le : S ≤ 80
 wide : widN p p.hold p.d ≤ 1125899906842624
 ge : 2 * p.d + 6 ≤ S
 enough : 3 * widN p p.hold p.d ≤ ((S : Int) - 2 * p.d - 6) * (p.mu - p.rho)
section
variable {p : Par}
theorem wid_b (N : Num p) {b h : Int} (b0 : 0 ≤ b) (b1 : b ≤ 1048700) (h0 : 0 ≤ h) (h1 : h ≤ 100) : 0 ≤ widN p b h ∧ widN p b h ≤ 288420000000000000 := by
 have a1 := rh_b N b0 b1; have a2 := gate_b N; have a3 := hh_b N h0 h1
 unfold widN; omega
theorem settle_of (N : Num p) (h : settleV p ≤ 80) : ∃ S : Nat, settleV p = (S : Int) ∧ Settled p S := by
 have n7 := N.d; have n8 := N.hold; have n9 := N.mu; have n6 := N.rho; have n5 := N.beat
 have hw := wid_b N (b := p.hold) (h := p.d) (by omega) (by omega) n7.1 (by omega)
 unfold settleV at h ⊢
 rw [wid_eq N (by omega) (by omega) n7.1 (by omega), mul_pos (a := 2) (b := p.d) (by decide) n7.1 (by omega) (by decide) (by omega), mul_pos (a := 3) (by decide) hw.1 (by omega) (by decide) (by omega), sb2 (by omega) (by omega)] at h ⊢
 generalize hW : widN p p.hold p.d = W at *
 generalize hc : p.mu - p.rho = c at *
 have c0 : 1 ≤ c := by omega
 have hcl : 3 * W ≤ ceilV (3 * W) c * c ∧ 0 ≤ ceilV (3 * W) c ∧ ceilV (3 * W) c ≤ 3 * W + 1 := by
  have h1 := Int.emod_add_mul_ediv (3 * W) c
  have h2 := Int.emod_nonneg (3 * W) (show c ≠ 0 by omega)
  have h3 := Int.emod_lt_of_pos (3 * W) (show 0 < c by omega)
  have h4 : 0 ≤ 3 * W / c := Int.ediv_nonneg (by omega) (by omega)
  have h5 : 3 * W / c ≤ 3 * W := Int.ediv_le_self _ (by omega)
  unfold ceilV
  split
  ·rw [Int.add_mul, Int.one_mul, Int.mul_comm (3 * W / c) c]; omega
  ·rw [Int.mul_comm (3 * W / c) c]; omega
 generalize ceilV (3 * W) c = C at *
 have hC : C ≤ 80 := by
  refine Classical.byContradiction fun q => ?_
  have : addL [2 * p.d, 6, C] = clp (2 * p.d + 6 + C) := by
   show clp (clp (clp (0 + clp (2 * p.d)) + clp 6) + clp C) = _
   rw [clp_id (x := 2 * p.d) (by omega) (by omega), clp_id (x := 6) (by omega) (by omega), clp_id (x := C) (by omega) (by omega), Int.zero_add, clp_id (x := 2 * p.d) (by omega) (by omega), clp_id (x := 2 * p.d + 6) (by omega) (by omega)]
  rw [this, clp_id (by omega) (by omega)] at h
  omega
 rw [add3 (by omega) (by omega) (by omega)] at h ⊢
 refine ⟨(2 * p.d + 6 + C).toNat, by omega, by omega, ?_, by omega, ?_⟩
 ·rw [hW]
  have : C * c ≤ 80 * 274877906944 := Int.mul_le_mul hC (by omega) (by omega) (by decide)
  omega
 ·rw [hW, hc, show (((2 * p.d + 6 + C).toNat : Nat) : Int) - 2 * p.d - 6 = C from by omega]
  exact hcl.1
variable {f : Nat} {K : Nat} {link : Int → Int → Prop} {j b : Nat} {T : Int} {U U' : Int → Us} {S : Nat}
theorem anch_small {u : Int} {a : Nat} (h : Anch p K link u a) (hd : 0 ≤ p.d) : (a : Int) ≤ 5 + p.d ∧ 2 ≤ a := by
 rcases h with ⟨_, _, rfl⟩ | ⟨k, _, hk, rfl⟩ <;> omega
theorem anch_ok (N : Num p) (inv : Inv p K link j b T U) {u : Int} {a : Nat} (h : Anch p K link u a) (hj : a ≤ j) : OKs T (widN p b p.d) 0 (b + p.d + 1) (U u).s ∧ (U u).s.hops ≤ p.d := by
 have n7 := N.d; have hop := hop_b N
 rcases h with ⟨h1, h2, rfl⟩ | ⟨k, h1, h2, rfl⟩
 ·obtain ⟨a1, a2⟩ := inv.gate hj u h1 h2
  have hh := hh_b N (h := p.d) n7.1 (by omega)
  refine ⟨⟨a1.good, a1.set, a1.hops, a1.lo, a1.hi, Int.le_trans a1.wide (by unfold widN; omega), ⟨a1.h0, by have := a1.held; omega⟩, a1.h0⟩, by omega⟩
 ·obtain ⟨a1, a2⟩ := inv.live u k h1 h2 hj
  have := inv.safe (by omega) u (path_n h1) a1 (by omega)
  exact ⟨oks_weak this (wid_mono N (Int.le_refl _) (by omega)) (by omega) (by omega), by omega⟩
theorem health_ok {T w h0 h1 : Int} {s : Sta} (ok : OKs T w h0 h1 s) (hh : s.hops ≤ p.d) : healthV p s = if s.held > p.hold then 2 else 1 := by
 unfold healthV
 rw [ok.good, ok.set, decide_eq_false (show ¬ s.hops > p.d by omega)]
 rfl
theorem clk_step (N : Num p) (hf : p.f = (f : Int)) (net : Net p K link) (st : Settled p S) (hj : 1 ≤ j) (inv : Inv p K link j 0 T U) (hT : TimeOK T) (ck : Clk p K link j T U) (bt : Beat p f K T true (Heard p link U) U U') : Inv p K link (j + 1) 0 (T + p.beat) U' ∧ Clk p K link (j + 1) (T + p.beat) U' := by
 have n7 := N.d; have n8 := N.hold; have n5 := N.beat
 obtain ⟨i1, i2, i3⟩ := inv_step N hf net hj inv hT (by omega) bt (.inl ⟨rfl, rfl, rfl⟩)
 refine ⟨i1, fun u a ha hle => ?_⟩
 obtain ⟨k1, k2⟩ := anch_ok N i1 ha hle
 have hfr : FromT p (U u).s (U' u).s := by
  rcases ha with ⟨h1, h2, rfl⟩ | ⟨k, h1, h2, rfl⟩
  ·exact i2 rfl u h1 h2
  ·exact i3 u k h1 h2 hle
 have hT' : -9007199254740992 ≤ T + p.beat ∧ T + p.beat ≤ 9007199254740992 := by unfold TimeOK at hT; omega
 have hw : widN p ((0 : Nat) : Int) p.d ≤ widN p p.hold p.d := wid_mono N (by omega) (Int.le_refl _)
 by_cases e : a = j + 1
 ·subst e
  have := clk_first N rfl st.wide hT' hfr k1 hw (by omega)
  unfold errB
  rw [Nat.sub_self]
  have m := mxI_l (3 * widN p p.hold p.d - ((0 : Nat) : Int) * (p.mu - p.rho)) (widN p 0 p.d)
  rw [show ((0 : Nat) : Int) = 0 from rfl, Int.zero_mul, Int.sub_zero] at m ⊢
  omega
 ·have c1 := ck u a ha (by omega)
  have := clk_next N rfl st.wide hT' hfr k1 hw (by omega) (e := errB p (j - a)) (by rw [Int.add_sub_cancel]; exact c1)
  have key : mxI (errB p (j - a) - (p.mu - p.rho)) (widN p ((0 : Nat) : Int) p.d) ≤ errB p (j + 1 - a) := by
   have n9 := N.mu
   refine mxI_lt.2 ⟨?_, (mxI_l _ _).2⟩
   have : errB p (j - a) ≤ errB p (j + 1 - a) + (p.mu - p.rho) := by
    refine mxI_lt.2 ⟨?_, ?_⟩
    ·have := (mxI_l (3 * widN p p.hold p.d - ((j + 1 - a : Nat) : Int) * (p.mu - p.rho)) (widN p 0 p.d)).1
     unfold errB
     rw [show ((j + 1 - a : Nat) : Int) = ((j - a : Nat) : Int) + 1 from by omega, Int.add_mul, Int.one_mul] at this ⊢
     omega
    ·have := (mxI_l (3 * widN p p.hold p.d - ((j + 1 - a : Nat) : Int) * (p.mu - p.rho)) (widN p 0 p.d)).2
     unfold errB
     omega
   omega
  omega
theorem settled_err (N : Num p) (st : Settled p S) (hj : S ≤ j) {u : Int} {a : Nat} (ha : Anch p K link u a) : errB p (j - a) = widN p 0 p.d ∧ a ≤ j := by
 have n7 := N.d; have n9 := N.mu; have h := anch_small ha n7.1; have h2 := st.ge; have h3 := st.enough; have h4 := wid_b N (b := 0) (h := p.d) (by omega) (by omega) n7.1 (by omega)
 have hle : a ≤ j := by omega
 have : ((S : Int) - 2 * p.d - 6) * (p.mu - p.rho) ≤ ((j - a : Nat) : Int) * (p.mu - p.rho) := Int.mul_le_mul_of_nonneg_right (by omega) (by omega)
 refine ⟨?_, hle⟩
 unfold errB mxI
 split <;> omega
theorem rate_ok (N : Num p) (hf : p.f = (f : Int)) (net : Net p K link) (st : Settled p S) (hj : S ≤ j) (inv : Inv p K link j 0 T U) (hT : TimeOK T) (ck : Clk p K link j T U) (bt : Beat p f K T true (Heard p link U) U U') {u : Int} {a : Nat} (ha : Anch p K link u a) : healthV p (U u).s ≠ 0 ∧ (U' u).s.time - (U u).s.time - p.beat ≤ p.rho + p.mu ∧ -p.rho - p.mu ≤ (U' u).s.time - (U u).s.time - p.beat := by
 have n7 := N.d; have n8 := N.hold; have n6 := N.rho
 have h2 := st.ge
 obtain ⟨he, hle⟩ := settled_err N st hj ha
 obtain ⟨i1, i2, i3⟩ := inv_step N hf net (by omega) inv hT (by omega) bt (.inl ⟨rfl, rfl, rfl⟩)
 obtain ⟨k1, k2⟩ := anch_ok N i1 ha (by omega)
 obtain ⟨l1, l2⟩ := anch_ok N inv ha hle
 have hfr : FromT p (U u).s (U' u).s := by
  rcases ha with ⟨h1, h2, rfl⟩ | ⟨k, h1, h2, rfl⟩
  ·exact i2 rfl u h1 h2
  ·exact i3 u k h1 h2 (by omega)
 have hz : healthV p (U u).s ≠ 0 := by rw [health_ok l1 l2]; split <;> decide
 have c1 := ck u a ha hle
 rw [he] at c1
 have w1 := wid_mono N (a := 0 + 1) (b := p.hold) (c := p.d) (d := p.d) (by omega) (Int.le_refl _)
 rw [wid_held] at w1
 have w0 := wid_b N (b := 0) (h := p.d) (by omega) (by omega) n7.1 (by omega)
 exact ⟨hz, clk_rate N rfl st.wide (by have n5 := N.beat; unfold TimeOK at hT; omega) hfr k1 (by show 2 * widN p 0 p.d + _ ≤ _; omega) w0.1 (by omega) (by rw [Int.add_sub_cancel]; exact c1) hz l1.set⟩
end
end Go.Proofs.YtbmhgopjblnfnaaGreat.S
namespace Go.Proofs.YtbmhgopjblnfnaaGreat.S
open Go Go.RowKit Tryz
def lnk (ls : List (Int × Int)) : Int → Int → Prop := fun a b => (a, b) ∈ ls
def mkU (us : List Uc) (X : Nat → Ux) (M : Nat → Ms) : Int → Us := fun a => ⟨(X (ixU us a)).s, (X (ixU us a)).nb, (X (ixU us a)).c, M (ixU us a)⟩
theorem ixU_eq {us : List Uc} (hnd : (us.map (·.who)).Nodup) {i : Nat} {u : Uc} (h : us[i]? = some u) : ixU us u.who = i := by
 obtain ⟨v, h1, h2⟩ := ixU_at (us := us) (b := u.who) (by unfold hasW; exact List.any_eq_true.2 ⟨u, List.mem_of_getElem? h, by simp⟩)
 exact who_one hnd h1 h h2
structure QS (p : Par) (us : List Uc) (ls : List (Int × Int)) (X : Nat → Ux) (M : Nat → Ms) (q : Qs) : Prop where
 a : ∀ j u, us[j]? = some u → ∀ i : Nat, i < 48 → q j i ≠ [] → lnk ls (i : Int) u.who
 b : ∀ j u k v, us[j]? = some u → us[k]? = some v → lnk ls v.who u.who → RightU p v.who → q j v.who.toNat = [encF (M k) (X k).l] ∧ goodM (M k) (X k).l = true
 c : ∀ k v, us[k]? = some v → (M k).src = v.who
theorem strip_same {m m' : Ms} (h : stripM m' = ({ m with ta := none, tl := 0, tc := 0 } : Ms)) : SameM m m' := h.symm
theorem heard_of {p : Par} {n nn : Nat} {W : Wd} (ok : WdOk n nn W) (hn : n ≤ 16) (hk : nn ≤ 32) {M : Nat → Ms} (qs : QS p W.us W.ls W.X M W.q) {j : Nat} {u : Uc} (hu : W.us[j]? = some u) {hs : List Hr} {ts : List Tb} {c : Nat} (hI : InI p (W.q j) 48 [] hs ts c) : Heard p (lnk W.ls) (mkU W.us W.X M) u.who hs := by
 have hnd := ok.nodup hn
 have h48 := ok.w48 hn hk
 refine ⟨fun h hh => ?_, fun i hi hr => ?_⟩
 ·obtain ⟨ha, i, hi, he, s, hs1, l, hd⟩ := hI.hin h hh
  have hl : lnk W.ls h.m.src u.who := by rw [he]; exact qs.a j u hu i hi (fun e => by rw [e] at hs1; cases hs1)
  refine ⟨hl, fun hr => ⟨?_, ha⟩⟩
  obtain ⟨v, hv, hw⟩ := ixU_at (ok.ends _ hl).1
  have hw : v.who = h.m.src := hw
  obtain ⟨e1, e2⟩ := qs.b j u _ v hu hv (by rw [hw]; exact hl) (by rw [hw]; exact hr)
  rw [show v.who.toNat = i by omega] at e1
  rw [e1] at hs1
  simp only [List.mem_cons, List.not_mem_nil, or_false] at hs1
  rw [hs1, dec_enc e2] at hd
  simp only [Option.some.injEq, Prod.mk.injEq] at hd
  show SameM (M (ixU W.us h.m.src)) h.m
  exact strip_same hd.1.symm
 ·obtain ⟨v, hv, hw⟩ := ixU_at (ok.ends _ hi).1
  have hw : v.who = i := hw
  have hv48 := h48 v (List.mem_of_getElem? hv)
  obtain ⟨e1, e2⟩ := qs.b j u _ v hu hv (by rw [hw]; exact hi) (by rw [hw]; exact hr)
  obtain ⟨h, hh, e⟩ := hI.hall v.who.toNat (by omega) (encF (M (ixU W.us i)) (W.X (ixU W.us i)).l) (by rw [e1]; simp) _ _ (dec_enc e2) (by show (M (ixU W.us i)).src = _; rw [qs.c _ v hv]; omega)
  refine ⟨h, hh, ?_⟩
  have := congrArg Ms.src e
  have h2 : h.m.src = (M (ixU W.us i)).src := this
  rw [h2, qs.c _ v hv, hw]
theorem refF_off {who : Int} {l : List Rd} (h : ∀ x ∈ l, x.is = false) : refF who l = (false, 0) := by
 have key : ∀ (l : List Rd) (a : Bool × Int), (∀ x ∈ l, x.is = false) → l.foldl (fun a x => if (x.gate == who && x.is) = true then (true, x.rd) else a) a = a := by
  intro l
  induction l with
  | nil => intro a _; rfl
  | cons x l ih =>
   intro a h
   rw [List.foldl_cons, if_neg (by rw [h x (List.mem_cons_self ..), Bool.and_false]; decide)]
   exact ih a fun y hy => h y (List.mem_cons_of_mem _ hy)
 exact key l _ h
theorem refF_on {who : Int} {l : List Rd} (h : ∀ x ∈ l, x.is = true) (hx : ∃ x ∈ l, x.gate = who) : (refF who l).1 = true ∧ ∃ x ∈ l, (refF who l).2 = x.rd := by
 have key : ∀ (l : List Rd) (a : Bool × Int), (∀ x ∈ l, x.is = true) → (l.foldl (fun a x => if (x.gate == who && x.is) = true then (true, x.rd) else a) a = a ∧ ∀ x ∈ l, x.gate ≠ who) ∨ ((l.foldl (fun a x => if (x.gate == who && x.is) = true then (true, x.rd) else a) a).1 = true ∧ ∃ x ∈ l, (l.foldl (fun a x => if (x.gate == who && x.is) = true then (true, x.rd) else a) a).2 = x.rd) := by
  intro l
  induction l with
  | nil => intro a _; exact .inl ⟨rfl, fun _ h => nomatch h⟩
  | cons x l ih =>
   intro a h
   rw [List.foldl_cons]
   rcases ih (if (x.gate == who && x.is) = true then (true, x.rd) else a) (fun y hy => h y (List.mem_cons_of_mem _ hy)) with ⟨e, hn⟩ | ⟨e, y, hy, e2⟩
   ·rw [e]
    by_cases q : x.gate = who
    ·rw [if_pos (by rw [h x (List.mem_cons_self ..), q]; simp)]
     exact .inr ⟨rfl, x, List.mem_cons_self .., rfl⟩
    ·rw [if_neg (by simp [q])]
     exact .inl ⟨rfl, fun y hy => (List.mem_cons.1 hy).elim (fun z => z ▸ q) (hn y)⟩
   ·exact .inr ⟨e, y, List.mem_cons_of_mem _ hy, e2⟩
 rcases key l (false, 0) h with ⟨_, q⟩ | q
 ·obtain ⟨x, hx1, hx2⟩ := hx
  exact absurd hx2 (q x hx1)
 ·exact q
theorem gate_norf {p : Par} {f : Nat} {me : Int} {s s' : Sta} {t rd rd' : Int} {hs : List Hr} {m : Ms} (h : GateR p f me s t false rd hs s' m) : GateR p f me s t false rd' hs s' m := ⟨h.ex, h.say⟩
theorem beat_of {p : Par} {f n nn : Nat} {W : Wd} (ok : WdOk n nn W) (hn : p.n = (n : Int)) (h16 : n ≤ 16) {lies : List Li} {rds : List Rd} {M0 M : Nat → Ms} {X : Nat → Ux} {Q : Qs} {refs : Bool} (bw : BeatW p f W.us W.ls lies rds W.q W.X X M Q) (hr : RdsOk p refs (W.tm + p.beat) rds) (hp : 0 ≤ p.eps) (H : Int → List Hr → Prop) (hH : ∀ j u, W.us[j]? = some u → ∀ hs ts c, InI p (W.q j) 48 [] hs ts c → H u.who hs) : Beat p f nn W.tm refs H (mkU W.us W.X M0) (mkU W.us X M) := by
 have hnd := ok.nodup h16
 refine ⟨fun u hu => ?_, fun u hu => ?_⟩
 ·obtain ⟨i, v, hv, rfl, hm⟩ := ok.ex (a := u) (.inl (by unfold IsG at hu; omega))
  obtain ⟨_, _, tk, rf, rd, hs, ts, c, htk, hrf, hI, hU⟩ := bw.un i v hv
  have hG := hU.1 (by unfold IsG at hu; omega)
  refine ⟨hs, hH i v hv hs ts c hI, ?_⟩
  unfold TurnG mkU
  rw [ixU_eq hnd hv]
  cases hrefs : refs
  ·have e := refF_off (who := v.who) (l := rds) fun x hx => by rw [(hr.1 x hx).1, hrefs]
   rw [e] at hrf
   simp only [Prod.mk.injEq] at hrf
   obtain ⟨rfl, rfl⟩ := hrf
   exact ⟨tk, false, W.tm + p.beat, htk, gate_norf hG, fun _ => ⟨rfl, by omega, by omega⟩⟩
  ·refine ⟨tk, rf, rd, htk, hG, fun hlt => ?_⟩
   obtain ⟨e1, x, hx, e2⟩ := refF_on (who := v.who) (l := rds) (fun x hx => by rw [(hr.1 x hx).1, hrefs]) (hr.2 v.who (by unfold IsG at hu; omega) hlt)
   rw [← hrf] at e1 e2
   dsimp only at e1 e2
   have := hr.1 x hx
   exact ⟨e1, by omega, by omega⟩
 ·obtain ⟨i, v, hv, rfl, hm⟩ := ok.ex (a := u) (.inr (by unfold IsN at hu; omega))
  obtain ⟨_, _, tk, rf, rd, hs, ts, c, htk, hrf, hI, hU⟩ := bw.un i v hv
  obtain ⟨hN, e1, e2⟩ := hU.2 hu.1
  refine ⟨hs, hH i v hv hs ts c hI, ?_⟩
  unfold TurnN mkU
  rw [ixU_eq hnd hv]
  exact ⟨⟨tk, htk, hN⟩, e1, e2⟩
theorem san_b {lo hi lo' hi' : Int} {g g' : Bool} (h : SaneS lo hi g lo' hi' g') : (-2305843009213693952 ≤ lo' ∧ lo' ≤ 2305843009213693952) ∧ (-2305843009213693952 ≤ hi' ∧ hi' ≤ 2305843009213693952) := by
 have h1 := clp_b lo; have h2 := clp_b hi
 rcases h with ⟨_, rfl, rfl, _⟩ | ⟨_, rfl, rfl, _⟩ <;> omega
theorem good_said {p : Par} {s x s' : Sta} {tk kind me : Int} {rf : Bool} {slo shi : Int} {m : Ms} {l : List (Int × Int)} (hd : 0 ≤ p.d ∧ p.d ≤ 16) (hS : StepR p s tk x s') (hm : SayR s' kind me rf slo shi m) (hk : 1 ≤ kind ∧ kind ≤ 2) (hme : 0 ≤ me ∧ me ≤ 47) (h1 : -2305843009213693952 ≤ slo ∧ slo ≤ 2305843009213693952) (h2 : -2305843009213693952 ≤ shi ∧ shi ≤ 2305843009213693952) (hl : tableB l = true) : goodM m l = true := by
 obtain ⟨b1, b2⟩ := san_b hS.sp
 have b3 := bnd_b (x := x.held) (lo := 0) (hi := 1073741824) (by decide)
 have b4 := bnd_b (x := x.hops) (lo := 0) (hi := addL [p.d, 1]) (by rw [add2 (by omega) (by omega)]; omega)
 rw [← hS.held] at b3
 rw [← hS.hops, add2 (by omega) (by omega)] at b4
 exact n_good ⟨by rw [hm.kind]; exact hk, by rw [hm.src]; exact hme, by rw [hm.lo]; exact b1, by rw [hm.hi]; exact b2, by rw [hm.slo]; exact h1, by rw [hm.shi]; exact h2, hm.pulse, hm.st.1, by rw [hm.held]; exact b3, by rw [hm.hops]; omega, hm.st.2, hl⟩
theorem seenV_b (p : Par) (rf : Bool) (rd : Int) : (-2305843009213693952 ≤ (seenV p rf rd).1 ∧ (seenV p rf rd).1 ≤ 2305843009213693952) ∧ (-2305843009213693952 ≤ (seenV p rf rd).2 ∧ (seenV p rf rd).2 ≤ 2305843009213693952) := by
 unfold seenV
 split
 ·exact ⟨clp_b _, addL_b _⟩
 ·exact ⟨by decide, by decide⟩
theorem un_good {p : Par} {f : Nat} {u : Uc} {x x' : Ux} {tk : Int} {rf : Bool} {rd : Int} {hs : List Hr} {m : Ms} (hd : 0 ≤ p.d ∧ p.d ≤ 16) (hw : 0 ≤ u.who ∧ u.who < 48) (h : UnR p f u x tk rf rd hs x' m) (ok : UxOk u x') : goodM m x'.l = true ∧ m.src = u.who := by
 by_cases q : u.who < 16
 ·have g := h.1 q
  obtain ⟨_, _, _, _, _, _, hS⟩ := g.ex
  obtain ⟨s1, s2⟩ := seenV_b p rf rd
  exact ⟨good_said hd hS g.say (by decide) (by omega) s1 s2 (good_tab ok.good), g.say.src⟩
 ·obtain ⟨g, _⟩ := h.2 (by omega)
  obtain ⟨_, _, hS⟩ := g.ex
  exact ⟨good_said hd hS g.say (by decide) (by omega) (by decide) (by decide) (good_tab ok.good), g.say.src⟩
theorem enc_size (m : Ms) (l : List (Int × Int)) (h : l.length ≤ 32) : (encF m l).size ≤ 4096 := by
 have h1 := frame_len m l
 have h2 := strL_len (encF m l)
 unfold encF at h2 ⊢
 rw [strL_of _ (seal_b m l)] at h2
 rw [show (sealL (frameL m l)).length = (frameL m l).length + 4 from by simp [sealL, tailC]] at h2
 omega
theorem qs_of {p : Par} {f n nn : Nat} {W : Wd} (ok : WdOk n nn W) (hn : p.n = (n : Int)) (h16 : n ≤ 16) (hk : nn ≤ 32) (hd : 0 ≤ p.d ∧ p.d ≤ 16) (hf : 0 ≤ p.f) {lies : List Li} {rds : List Rd} {M : Nat → Ms} {X : Nat → Ux} {Q : Qs} (bw : BeatW p f W.us W.ls lies rds W.q W.X X M Q) (hl : LiesOk p lies) : QS p W.us W.ls X M Q := by
 have hnd := ok.nodup h16
 have h48 := ok.w48 h16 hk
 obtain ⟨F, hF, hS⟩ := bw.sent
 have gd : ∀ k v, W.us[k]? = some v → goodM (M k) (X k).l = true ∧ (M k).src = v.who ∧ (X k).l.length ≤ 32 := fun k v hv => by
  obtain ⟨okx, _, tk, rf, rd, hs, ts, c, htk, hrf, hI, hU⟩ := bw.un k v hv
  obtain ⟨a, b⟩ := un_good hd (h48 v (List.mem_of_getElem? hv)) hU okx
  exact ⟨a, b, good_len okx.good⟩
 have ltk : ∀ {k : Nat} {v : Uc}, W.us[k]? = some v → k < W.us.length := fun h => (List.getElem?_eq_some_iff.1 h).1
 refine ⟨fun j u hu i hi hne => ?_, fun j u k v hu hv hlk hr => ?_, fun k v hv => (gd k v hv).2.1⟩
 ·by_cases hex : ∃ (k : Nat) (v : Uc), W.us[k]? = some v ∧ v.who.toNat = i
  ·obtain ⟨k, v, hv, rfl⟩ := hex
   rw [hS.y k v (ltk hv) hv j] at hne
   unfold sentL at hne
   have hv48 := h48 v (List.mem_of_getElem? hv)
   rcases sent_way ok.nd (who := v.who) (us := W.us) (fun y hy _ => (ok.ends y hy).2.1) j with e | ⟨u', hu', e⟩
   ·rw [e] at hne; exact absurd rfl hne
   ·rw [hu] at hu'
    obtain rfl := Option.some.inj hu'
    have : (v.who, u.who) ∈ W.ls.filter fun y => y.1 == v.who && decide (ixU W.us y.2 = j) := by rw [e]; exact List.mem_cons_self ..
    rw [Int.toNat_of_nonneg hv48.1]
    exact (List.mem_filter.1 this).1
  ·exact absurd (hS.n i (fun k v _ hv e => hex ⟨k, v, hv, e⟩) j) hne
 ·obtain ⟨g1, _, g3⟩ := gd k v hv
  refine ⟨?_, g1⟩
  rw [hS.y k v (ltk hv) hv j, hF k v hv g1]
  unfold sentL
  have hmem : (v.who, u.who) ∈ W.ls.filter fun y => y.1 == v.who && decide (ixU W.us y.2 = j) := List.mem_filter.2 ⟨hlk, by simp [ixU_eq hnd hu]⟩
  have htext : ∀ a b fr, textL v.who a b lies fr = fr ∨ a ≠ v.who := fun a b fr => by
   by_cases ha : a = v.who
   ·refine .inl ?_
    have key : ∀ (l : List Li) (t : ByteArray), (∀ x ∈ l, p.n - p.f ≤ x.a) → l.foldl (text1 v.who a b) t = t := by
     intro l
     induction l with
     | nil => intro t _; rfl
     | cons x l ih =>
      intro t h
      rw [List.foldl_cons]
      have : text1 v.who a b t x = t := by
       unfold text1
       rw [if_neg]
       intro hc
       simp only [Bool.and_eq_true, beq_iff_eq, decide_eq_true_eq] at hc
       have h1 := h x (List.mem_cons_self ..)
       unfold RightU at hr
       omega
      rw [this]
      exact ih t fun y hy => h y (List.mem_cons_of_mem _ hy)
    exact key lies fr hl
   ·exact .inr ha
  rcases sent_way ok.nd (who := v.who) (us := W.us) (fun y hy _ => (ok.ends y hy).2.1) j with e | ⟨u', hu', e⟩
  ·rw [e] at hmem; cases hmem
  ·rw [hu] at hu'
   obtain rfl := Option.some.inj hu'
   rw [e]
   have ht := (htext v.who u.who (encF (M k) (X k).l)).resolve_right (fun h => h rfl)
   simp only [List.flatMap_cons, List.flatMap_nil, List.append_nil, ht]
   rw [if_pos (enc_size _ _ g3)]
structure Goes (p : Par) (gg dd : Nat) (j b : Nat) (W : Wd) (M : Nat → Ms) : Prop where
 ok : WdOk gg dd W
 inv : 1 ≤ j → Inv p dd (lnk W.ls) j b W.tm (mkU W.us W.X M)
 clk : 1 ≤ j → b = 0 → Clk p dd (lnk W.ls) j W.tm (mkU W.us W.X M)
 qs : 1 ≤ j → QS p W.us W.ls W.X M W.q
theorem near_of {gg dd : Nat} {W : Wd} {M : Nat → Ms} (ok : WdOk gg dd W) (h16 : gg ≤ 16) {u : Int} (hu : IsN dd u) : Near (mkU W.us W.X M) u := by
 obtain ⟨i, v, hv, rfl, hm⟩ := ok.ex (a := u) (.inr (by unfold IsN at hu; omega))
 unfold Near mkU
 rw [ixU_eq (ok.nodup h16) hv]
 exact (ok.us.ok i v hv).near hu.1
def Wd.next (W : Wd) (p : Par) (X : Nat → Ux) (Q : Qs) : Wd := { W with X := X, q := Q, tm := addL [W.tm, p.beat] }
theorem Goes.step {p : Par} (N : Num p) {f gg dd : Nat} (hf : p.f = (f : Int)) (hn : p.n = (gg : Int)) (hdd : p.n + dd ≤ 16) {j b b' : Nat} {W : Wd} {M0 : Nat → Ms} (h : Goes p gg dd j b W M0) (net : Net p dd (lnk W.ls)) {S : Nat} (st : Settled p S) (hT : TimeOK W.tm) (hb : b ≤ 1000) {lies : List Li} {rds : List Rd} {M : Nat → Ms} {X : Nat → Ux} {Q : Qs} {refs : Bool} (bw : BeatW p f W.us W.ls lies rds W.q W.X X M Q) (hr : RdsOk p refs (W.tm + p.beat) rds) (hl : LiesOk p lies) (hm : (refs = true ∧ b = 0 ∧ b' = 0) ∨ (refs = false ∧ 2 ≤ j ∧ b' = b + 1)) : Goes p gg dd (j + 1) b' (W.next p X Q) M ∧ (1 ≤ j → Beat p f dd W.tm refs (Heard p (lnk W.ls) (mkU W.us W.X M0)) (mkU W.us W.X M0) (mkU W.us X M)) := by
 have n1 := N.n; have n2 := N.f; have n3 := N.eps; have n5 := N.beat; have n7 := N.d
 have htm : addL [W.tm, p.beat] = W.tm + p.beat := by unfold TimeOK at hT; exact add2 (by omega) (by omega)
 have ok' : WdOk gg dd (W.next p X Q) := ⟨⟨h.ok.us.who, h.ok.us.kind, fun i u hu => (bw.un i u hu).ok⟩, h.ok.un, h.ok.wn, h.ok.nd, h.ok.ends⟩
 have qs' : QS p W.us W.ls X M Q := qs_of h.ok hn (by omega) (by omega) n7 n2.1 bw hl
 have heard : 1 ≤ j → Beat p f dd W.tm refs (Heard p (lnk W.ls) (mkU W.us W.X M0)) (mkU W.us W.X M0) (mkU W.us X M) := fun hj => beat_of h.ok hn (by omega) bw hr n3.1 _ fun i u hu hs ts c hI => heard_of h.ok (by omega) (by omega) (h.qs hj) hu hI
 refine ⟨⟨ok', fun _ => ?_, fun _ hb0 => ?_, fun _ => qs'⟩, heard⟩
 ·show Inv p dd (lnk W.ls) (j + 1) b' (addL [W.tm, p.beat]) (mkU W.us X M)
  rw [htm]
  rcases Nat.eq_zero_or_pos j with rfl | hj
  ·rcases hm with ⟨e1, e2, e3⟩ | ⟨_, q, _⟩
   ·subst e1 e2 e3
    exact inv_first N net hT (fun u hu => near_of (M := M0) h.ok (by omega) hu) (beat_of h.ok hn (by omega) bw hr n3.1 _ fun _ _ _ _ _ _ _ => trivial)
   ·omega
  ·exact (inv_step N hf net hj (h.inv hj) hT hb (heard hj) hm).1
 ·show Clk p dd (lnk W.ls) (j + 1) (addL [W.tm, p.beat]) (mkU W.us X M)
  rw [htm]
  rcases hm with ⟨e1, e2, e3⟩ | ⟨_, _, q⟩
  ·subst e1 e2 e3
   rcases Nat.eq_zero_or_pos j with rfl | hj
   ·intro u a ha hle
    have := anch_small ha n7.1
    omega
   ·exact (clk_step N hf net st hj (h.inv hj) hT (h.clk hj rfl) (heard hj)).2
  ·omega
def JW (us : List Uc) (a b : Int) (y : Int × Int) : Prop := y = (a, b) ∧ a ≠ b ∧ hasW us a = true ∧ hasW us b = true
theorem gateJ_iff (us : List Uc) (i : Int) (ls : List (Int × Int)) (y : Int × Int) : ∀ k : Nat, y ∈ gateJ us i k ls ↔ y ∈ ls ∨ ∃ j : Nat, j < k ∧ JW us i (j : Int) y
 | 0 => ⟨.inl, fun h => h.elim id fun ⟨j, hj, _⟩ => by omega⟩
 | k + 1 => by
  rw [gateJ_next, joinL_iff, gateJ_iff us i ls y k]
  constructor
  ·rintro ((h | ⟨j, hj, h⟩) | h)
   ·exact .inl h
   ·exact .inr ⟨j, by omega, h⟩
   ·exact .inr ⟨k, by omega, h⟩
  ·rintro (h | ⟨j, hj, h⟩)
   ·exact .inl (.inl h)
   ·by_cases e : j = k
    ·subst e; exact .inr h
    ·exact .inl (.inr ⟨j, by omega, h⟩)
theorem coreJ_iff (us : List Uc) (i : Int) (y : Int × Int) : ∀ (core : List Int) (ls : List (Int × Int)), y ∈ coreJ us i core ls ↔ y ∈ ls ∨ ∃ c ∈ core, 0 ≤ c ∧ c < 32 ∧ JW us i (16 + c) y
 | [], ls => ⟨.inl, fun h => h.elim id fun ⟨c, hc, _⟩ => nomatch hc⟩
 | c :: core, ls => by
  show y ∈ coreJ us i core (coreJ1 us i ls c) ↔ _
  rw [coreJ_iff us i y core]
  unfold coreJ1
  by_cases h : 0 ≤ c ∧ c < 32
  ·rw [if_pos (by simpa using h), joinL_iff]
   constructor
   ·rintro ((q | q) | ⟨d, hd, q⟩)
    ·exact .inl q
    ·exact .inr ⟨c, List.mem_cons_self .., h.1, h.2, q⟩
    ·exact .inr ⟨d, List.mem_cons_of_mem _ hd, q⟩
   ·rintro (q | ⟨d, hd, q1, q2, q⟩)
    ·exact .inl (.inl q)
    ·rcases List.mem_cons.1 hd with rfl | hd
     ·exact .inl (.inr q)
     ·exact .inr ⟨d, hd, q1, q2, q⟩
  ·rw [if_neg (by simpa using h)]
   constructor
   ·rintro (q | ⟨d, hd, q⟩)
    ·exact .inl q
    ·exact .inr ⟨d, List.mem_cons_of_mem _ hd, q⟩
   ·rintro (q | ⟨d, hd, q1, q2, q⟩)
    ·exact .inl q
    ·rcases List.mem_cons.1 hd with rfl | hd
     ·exact absurd ⟨q1, q2⟩ h
     ·exact .inr ⟨d, hd, q1, q2, q⟩
theorem allJ_iff (us : List Uc) (n : Nat) (core : List Int) (y : Int × Int) : ∀ k : Nat, y ∈ allJ us n core k ↔ ∃ i : Nat, i < k ∧ ((∃ j : Nat, j < n ∧ JW us (i : Int) (j : Int) y) ∨ ∃ c ∈ core, 0 ≤ c ∧ c < 32 ∧ JW us (i : Int) (16 + c) y)
 | 0 => ⟨fun h => (nomatch h), fun ⟨i, hi, _⟩ => by omega⟩
 | k + 1 => by
  rw [allJ_next, coreJ_iff, gateJ_iff, allJ_iff us n core y k]
  constructor
  ·rintro ((⟨i, hi, h⟩ | h) | h)
   ·exact ⟨i, by omega, h⟩
   ·exact ⟨k, by omega, .inl h⟩
   ·exact ⟨k, by omega, .inr h⟩
  ·rintro ⟨i, hi, h⟩
   by_cases e : i = k
   ·subst e
    rcases h with h | h
    ·exact .inl (.inr h)
    ·exact .inr h
   ·exact .inl (.inl ⟨i, by omega, h⟩)
def Ok32 (l : Int × Int) : Prop := (0 ≤ l.1 ∧ l.1 < 32) ∧ (0 ≤ l.2 ∧ l.2 < 32)
theorem linkJ_iff (us : List Uc) (y : Int × Int) : ∀ (links ls : List (Int × Int)), y ∈ linkJ us links ls ↔ y ∈ ls ∨ ∃ l ∈ links, Ok32 l ∧ (JW us (16 + l.1) (16 + l.2) y ∨ JW us (16 + l.2) (16 + l.1) y)
 | [], ls => ⟨.inl, fun h => h.elim id fun ⟨c, hc, _⟩ => nomatch hc⟩
 | l :: links, ls => by
  show y ∈ linkJ us links (bothL us ls l.1 l.2) ↔ _
  rw [linkJ_iff us y links]
  unfold bothL
  by_cases h : Ok32 l
  ·have hc : (decide (l.1 ≥ 0) && (decide (l.2 ≥ 0) && (decide (l.1 < 32) && decide (l.2 < 32)))) = true := by
    unfold Ok32 at h
    simp only [Bool.and_eq_true, decide_eq_true_eq]
    omega
   have e1 : IntKind.i64.wrap (16 + l.1) = 16 + l.1 := by rw [IntKind.wrap_i64]; unfold Ok32 at h; omega
   have e2 : IntKind.i64.wrap (16 + l.2) = 16 + l.2 := by rw [IntKind.wrap_i64]; unfold Ok32 at h; omega
   rw [if_pos hc, e1, e2, joinL_iff, joinL_iff]
   constructor
   ·rintro (((q | q) | q) | ⟨d, hd, q⟩)
    ·exact .inl q
    ·exact .inr ⟨l, List.mem_cons_self .., h, .inl q⟩
    ·exact .inr ⟨l, List.mem_cons_self .., h, .inr q⟩
    ·exact .inr ⟨d, List.mem_cons_of_mem _ hd, q⟩
   ·rintro (q | ⟨d, hd, q1, q⟩)
    ·exact .inl (.inl (.inl q))
    ·rcases List.mem_cons.1 hd with rfl | hd
     ·rcases q with q | q
      ·exact .inl (.inl (.inr q))
      ·exact .inl (.inr q)
     ·exact .inr ⟨d, hd, q1, q⟩
  ·have hc : ¬ (decide (l.1 ≥ 0) && (decide (l.2 ≥ 0) && (decide (l.1 < 32) && decide (l.2 < 32)))) = true := fun q => h (by
    simp only [Bool.and_eq_true, decide_eq_true_eq] at q
    unfold Ok32; omega)
   rw [if_neg hc]
   constructor
   ·rintro (q | ⟨d, hd, q⟩)
    ·exact .inl q
    ·exact .inr ⟨d, List.mem_cons_of_mem _ hd, q⟩
   ·rintro (q | ⟨d, hd, q1, q⟩)
    ·exact .inl q
    ·rcases List.mem_cons.1 hd with rfl | hd
     ·exact absurd q1 h
     ·exact .inr ⟨d, hd, q1, q⟩
theorem has_gn {us : List Uc} {n nn : Nat} (h : us.map (·.who) = gatesL n ++ nodesL nn) {a : Int} : hasW us a = true ↔ (0 ≤ a ∧ a < n) ∨ (16 ≤ a ∧ a < 16 + nn) := by
 rw [← gn_mem, ← h]
 unfold hasW
 rw [List.any_eq_true, List.mem_map]
 simp only [beq_iff_eq]
section
variable {n nn : Nat} {core : List Int} {links ls : List (Int × Int)}
theorem ls_gg (h : LsOf n nn core links ls) (hn : n ≤ 16) (hk : nn ≤ 32) {i j : Nat} (hi : i < n) (hj : j < n) (e : i ≠ j) : ((i : Int), (j : Int)) ∈ ls := by
 obtain ⟨us, hu, rfl⟩ := h
 rw [linkJ_iff, allJ_iff]
 exact .inl ⟨i, hi, .inl ⟨j, hj, rfl, by omega, (has_gn hu).2 (.inl (by omega)), (has_gn hu).2 (.inl (by omega))⟩⟩
theorem ls_gc (h : LsOf n nn core links ls) (hn : n ≤ 16) (hk : nn ≤ 32) {i : Nat} (hi : i < n) {c : Int} (hc : c ∈ core) (h0 : 0 ≤ c ∧ c < nn) : ((i : Int), 16 + c) ∈ ls := by
 obtain ⟨us, hu, rfl⟩ := h
 rw [linkJ_iff, allJ_iff]
 exact .inl ⟨i, hi, .inr ⟨c, hc, h0.1, by omega, rfl, by omega, (has_gn hu).2 (.inl (by omega)), (has_gn hu).2 (.inr (by omega))⟩⟩
theorem ls_from (h : LsOf n nn core links ls) (hn : n ≤ 16) (hk : nn ≤ 32) {a b : Int} (hab : (a, b) ∈ ls) (ha : a < 16) (hb : 16 ≤ b) : ∃ c ∈ core, b = 16 + c ∧ c < nn := by
 obtain ⟨us, hu, rfl⟩ := h
 rw [linkJ_iff, allJ_iff] at hab
 rcases hab with ⟨i, hi, ⟨j, hj, e, _⟩ | ⟨c, hc, h1, h2, e, _, _, hw⟩⟩ | ⟨l, _, hl, e⟩
 ·simp only [Prod.mk.injEq] at e; omega
 ·simp only [Prod.mk.injEq] at e
  have := (has_gn hu).1 hw
  exact ⟨c, hc, e.2, by omega⟩
 ·unfold Ok32 at hl
  rcases e with ⟨e, _⟩ | ⟨e, _⟩ <;> simp only [Prod.mk.injEq] at e <;> omega
theorem ls_nn (h : LsOf n nn core links ls) (hn : n ≤ 16) (hk : nn ≤ 32) {x y : Int} (hl : (x, y) ∈ links) (hx : 0 ≤ x ∧ x < nn) (hy : 0 ≤ y ∧ y < nn) (e : x ≠ y) : (16 + x, 16 + y) ∈ ls ∧ (16 + y, 16 + x) ∈ ls := by
 obtain ⟨us, hu, rfl⟩ := h
 have hx' := (has_gn hu (a := 16 + x)).2 (.inr (by omega))
 have hy' := (has_gn hu (a := 16 + y)).2 (.inr (by omega))
 rw [linkJ_iff, linkJ_iff]
 exact ⟨.inr ⟨(x, y), hl, ⟨⟨hx.1, by show x < 32; omega⟩, hy.1, by show y < 32; omega⟩, .inl ⟨rfl, by show 16 + x ≠ 16 + y; omega, hx', hy'⟩⟩, .inr ⟨(x, y), hl, ⟨⟨hx.1, by show x < 32; omega⟩, hy.1, by show y < 32; omega⟩, .inr ⟨rfl, by show 16 + y ≠ 16 + x; omega, hy', hx'⟩⟩⟩
end
theorem net_of {p : Par} {n nn : Nat} {core : List Int} {links : List (Int × Int)} {W : Wd} (ok : WdOk n nn W) (h : LsOf n nn core links W.ls) (hp : p.n = (n : Int)) (hn0 : 0 < n) (hf : p.n + nn ≤ 16) : Net p nn (lnk W.ls) := by
 refine ⟨fun i j hi hj e => ?_, fun i j hl => ?_, fun u i j hu hi hj hl => ?_, hf⟩
 ·unfold IsG at hi hj
  have := ls_gg h (by omega) (by omega) (i := i.toNat) (j := j.toNat) (by omega) (by omega) (by omega)
  rw [Int.toNat_of_nonneg hi.1, Int.toNat_of_nonneg hj.1] at this
  exact this
 ·obtain ⟨h1, h2, h3⟩ := ok.ends _ hl
  have e1 := ok.has.1 h1
  have e2 := ok.has.1 h2
  dsimp only at e1 e2 h3
  unfold IsG IsN
  rw [hp]
  exact ⟨e1, e2, h3⟩
 ·unfold IsG at hi hj
  obtain ⟨c, hc, rfl, hlt⟩ := ls_from h (by omega) (by omega) hl (by omega) hu.1
  have := ls_gc h (by omega) (by omega) (i := j.toNat) (by omega) hc ⟨by have := hu.1; omega, hlt⟩
  rw [Int.toNat_of_nonneg hj.1] at this
  exact this
structure StepI (p : Par) (n nn : Nat) (ls : List (Int × Int)) (sv : List Int) : Prop where
 len : sv.length = 48
 b : ∀ i, i < 48 → 0 ≤ sv.getD i 0 ∧ sv.getD i 0 ≤ p.d + 1
 g : ∀ i, i < n → sv.getD i 0 = 0
 path : ∀ i : Nat, 16 ≤ i → i < 48 → sv.getD i 0 ≤ p.d → Path nn (lnk ls) (sv.getD i 0).toNat (i : Int)
theorem StepI.set {p : Par} {n nn : Nat} {ls : List (Int × Int)} {sv : List Int} (h : StepI p n nn ls sv) (hn : n ≤ 16) {k : Nat} {x : Int} (hk : 16 ≤ k ∧ k < 48) (hx : 0 ≤ x ∧ x ≤ p.d + 1) (hp : x ≤ p.d → Path nn (lnk ls) x.toNat (k : Int)) : StepI p n nn ls (sv.set k x) := by
 have hl := h.len
 have get : ∀ i, (sv.set k x).getD i 0 = if k = i then x else sv.getD i 0 := fun i => getD_set sv k i x (by omega)
 refine ⟨by rw [List.length_set]; exact hl, fun i hi => ?_, fun i hi => ?_, fun i h1 h2 h3 => ?_⟩
 ·rw [get]; split
  ·exact hx
  ·exact h.b i hi
 ·rw [get, if_neg (by omega)]; exact h.g i hi
 ·rw [get] at h3 ⊢
  split
  ·next e => subst e; rw [if_pos rfl] at h3; exact hp h3
  ·next e => rw [if_neg e] at h3; exact h.path i h1 h2 h3
def firstL (n d : Int) (k : Nat) : List Int := (List.range 48).map fun i : Nat => if i < k then (if (i : Int) < n then 0 else d + 1) else 0
theorem firstL_zero (n d : Int) : firstL n d 0 = List.replicate 48 0 := by
 unfold firstL
 apply List.ext_getElem?
 intro i
 rw [List.getElem?_map, List.getElem?_replicate]
 by_cases h : i < 48
 ·rw [List.getElem?_range h, if_pos h]; rfl
 ·rw [List.getElem?_eq_none (by simpa using h), if_neg h]; rfl
theorem firstL_len (n d : Int) (k : Nat) : (firstL n d k).length = 48 := by simp [firstL]
theorem firstL_at (n d : Int) (k : Nat) {i : Nat} (h : i < 48) : (firstL n d k).getD i 0 = if i < k then (if (i : Int) < n then 0 else d + 1) else 0 := by
 unfold firstL
 rw [List.getD_eq_getElem?_getD, List.getElem?_map, List.getElem?_range h]
 rfl
theorem firstL_next (n d : Int) {k : Nat} (hk : k < 48) : firstL n d (k + 1) = (firstL n d k).set k (if (k : Int) < n then 0 else d + 1) := by
 apply List.ext_getElem?
 intro i
 rw [List.getElem?_set]
 unfold firstL
 rw [List.getElem?_map, List.getElem?_map]
 by_cases h : i < 48
 ·rw [List.getElem?_range h]
  by_cases e : k = i
  ·subst e
   simp [h]
  ·rw [if_neg e]
   simp only [Option.map_some]
   congr 1
   by_cases q : i < k
   ·rw [if_pos (by omega), if_pos q]
   ·rw [if_neg (by omega), if_neg q]
 ·rw [List.getElem?_eq_none (by simpa using h)]
  simp
  omega
theorem firstL_ok {p : Par} {n nn : Nat} {ls : List (Int × Int)} (hn : p.n = (n : Int)) (h16 : n ≤ 16) (hd : 0 ≤ p.d) : StepI p n nn ls (firstL p.n p.d 48) := by
 refine ⟨firstL_len _ _ _, fun i hi => ?_, fun i hi => ?_, fun i h1 h2 h3 => ?_⟩
 ·rw [firstL_at _ _ _ hi, if_pos hi]; split <;> omega
 ·rw [firstL_at _ _ _ (by omega), if_pos (by omega), if_pos (by omega)]
 ·rw [firstL_at _ _ _ h2, if_pos h2, if_neg (by omega)] at h3; omega
end Go.Proofs.YtbmhgopjblnfnaaGreat.S
namespace Go.Proofs.YtbmhgopjblnfnaaGreat.S
open Go Go.Proofs Go.RowKit Go.Proofs.YtbmhgopjblnfnaaGreatW.PrintLast Tryz
theorem a35 : tarray prog 35 = some (48, 1) := by kernel_rfl
theorem t35 : tsz prog 35 = some (true, 48) := by kernel_rfl
theorem z35 : tzero prog 35 = some [.int .i64 0, .int .i64 0, .int .i64 0, .int .i64 0, .int .i64 0, .int .i64 0, .int .i64 0, .int .i64 0, .int .i64 0, .int .i64 0, .int .i64 0, .int .i64 0, .int .i64 0, .int .i64 0, .int .i64 0, .int .i64 0, .int .i64 0, .int .i64 0, .int .i64 0, .int .i64 0, .int .i64 0, .int .i64 0, .int .i64 0, .int .i64 0, .int .i64 0, .int .i64 0, .int .i64 0, .int .i64 0, .int .i64 0, .int .i64 0, .int .i64 0, .int .i64 0, .int .i64 0, .int .i64 0, .int .i64 0, .int .i64 0, .int .i64 0, .int .i64 0, .int .i64 0, .int .i64 0, .int .i64 0, .int .i64 0, .int .i64 0, .int .i64 0, .int .i64 0, .int .i64 0, .int .i64 0, .int .i64 0] := by kernel_rfl
theorem ints_sets {l : List Int} {k : Nat} (x : Int) : sets (ints l) (0 + k * 1) [.int .i64 x] = ints (l.set k x) := by simp [sets, ints, List.map_set]
theorem ints_len1 {l : List Int} {k : Nat} (h : k < l.length) : 0 + k * 1 + 1 ≤ (ints l).length := by simp [ints]; omega
theorem ints_all {l : List Int} (h : l.length = 48) : ((ints l).drop 0).take 48 = ints l := by rw [List.drop_zero, List.take_of_length_le (by simp [ints, h])]
theorem ints_put {l l' : List Int} (h : l.length = 48) (h' : l'.length = 48) : sets (ints l) 0 (ints l') = ints l' := by
 have key : ∀ (vs cs : List Value) (j : Nat), cs.length = j + vs.length → sets cs j vs = cs.take j ++ vs := by
  intro vs
  induction vs with
  | nil => intro cs j h; show cs = _; simp [List.take_of_length_le (by simp at h; omega : cs.length ≤ j)]
  | cons v vs ih =>
   intro cs j h
   have e : sets cs j (v :: vs) = sets (cs.set j v) (j + 1) vs := by simp [sets, List.zipIdx_cons]
   rw [e, ih _ _ (by simp at h ⊢; omega)]
   have hj : j < cs.length := by simp at h; omega
   rw [List.take_add_one, List.take_set_of_le (Nat.le_refl j), List.getElem?_set_self hj]
   simp
 rw [key _ _ _ (by simp [ints, h, h'])]
 simp
theorem ints_one (l : List Int) : (ints l).all Value.oneCell' = true := by
 rw [List.all_eq_true]
 intro v hv
 obtain ⟨x, _, rfl⟩ := List.mem_map.1 hv
 rfl
theorem StepI.more {p : Par} {n nn : Nat} {ls : List (Int × Int)} {sv : List Int} (h : StepI p n nn ls sv) (hn : n ≤ 16) (hk : nn ≤ 32) {m : Nat} {x y : Int} (hx : 0 ≤ x ∧ x < nn) (hy : 0 ≤ y ∧ y < nn) (hl : x ≠ y → (16 + x, 16 + y) ∈ ls) (e : sv.getD (16 + x).toNat 0 = (m : Int)) (hg : sv.getD (16 + y).toNat 0 > (m : Int) + 1) (hm : (m : Int) < p.d) : StepI p n nn ls (sv.set (16 + y).toNat ((m : Int) + 1)) := by
 refine h.set hn (by omega) (by omega) fun _ => ?_
 have hp := h.path (16 + x).toNat (by omega) (by omega) (by omega)
 rw [e, Int.toNat_natCast, Int.toNat_of_nonneg (by omega)] at hp
 rw [show ((m : Int) + 1).toNat = m + 1 from by omega, Int.toNat_of_nonneg (by omega)]
 exact ⟨⟨by omega, by omega⟩, 16 + x, hl (fun q => by subst q; omega), hp⟩
theorem l_steps (rb gw : Nat) (p : Par) (n dd : Nat) (hnn : p.n = (n : Int)) (hn0 : 0 < n) (h16 : n ≤ 16) (hdd : dd ≤ 32) (hd0 : 0 ≤ p.d) (hd16 : p.d ≤ 16) (ct cn r1 r2 : Int) (hcd : cn = (dd : Int)) (ha ka sa fa na qa : Option Addr) (hn hc kn kc sn sc fn fc nn nc qn qc : Nat) (core : List Int) (hcl : core.length = hn) (hcn : hn ≤ 100) (links : List (Int × Int)) (hkl : links.length = kn) (hkn : kn ≤ 100) (ls : List (Int × Int)) (hls : LsOf n dd core links ls) : Spec prog 9 [.pointer (some ⟨rb, 0, none⟩)] [] [blk rb (pC p [.int .i64 ct, .int .i64 cn, .slice ha hn hc, .slice ka kn kc, .slice sa sn sc, .slice fa fn fc, .slice na nn nc, .slice qa qn qc, .pointer (some ⟨gw, 0, none⟩), .int .i64 r1, .int .i64 r2]) 44, view ha hc 3 1 hn (ints core), view ka kc 72 2 kn (spl links)] (fun v Ln => ∃ sv, v = .agg (ints sv).toArray ∧ StepI p n dd ls sv ∧ Ln = []) := by
 refine Spec.en func9 ntmps9 fun w0 => ?_
 refine G.sr fun _ K1 => ?_
 refine G.mk 2 (.al z35) fun g2 => ?_
 refine G.nil ?_
 refine G.eqL [blk g2 (ints (List.replicate 48 0)) 35] (by rfl) ?_
 refine K1 _ _ _ ?_
 refine G.sr fun _ K2 => ?_
 refine G.mk 3 (.al z35) fun g3 => ?_
 refine G.nil ?_
 refine G.eqL [blk g3 (ints (firstL p.n p.d 0)) 35, blk g2 (ints (List.replicate 48 0)) 35] (by rw [firstL_zero]; rfl) ?_
 refine K2 _ _ _ ?_
 refine G.sr fun _ K3 => ?_
 refine G.M 13 ?_
 refine G.V 14 .nc ?_
 refine G.V 15 (.fa f44_0 0) ?_
 refine G.V 16 (.fa f30_0 0) ?_
 refine G.V 17 (.lda t23 2 (vs := [.int .i64 p.n, .int .i64 p.f, .int .i64 p.d, .int .i64 p.beat, .int .i64 p.rho, .int .i64 p.delay, .int .i64 p.jitter, .int .i64 p.eps, .int .i64 p.mu, .int .i64 p.hold, .int .i64 p.pulse, .int .i64 p.second])) ?_
 refine G.mk 4 (.al z23) fun g4 => ?_
 refine G.sn 0 (.st t23 0) rfl ?_
 refine G.nk K3 ?_
 refine G.Z fun _ K4 => ?_
 refine G.sr fun _ K5 => ?_
 refine G.M 18 ?_
 refine G.nk K5 ?_
 refine G.block ?_
 refine G.only [1, 0, 0] ?_
 refine G.lpR (ι := {k : Nat // k ≤ 48}) (fun ⟨k, hj⟩ => 48 - k) (fun ⟨k, hj⟩ => [(0, .pointer (some ⟨rb, 0, none⟩)), (2, .pointer (some ⟨g2, 0, none⟩)), (3, .pointer (some ⟨g3, 0, none⟩)), (4, .pointer (some ⟨g4, 0, none⟩)), (18, .int .i64 (k : Int))]) (fun ⟨k, hj⟩ => [blk g3 (ints (firstL p.n p.d k)) 35, blk g4 (pC p []) 23, blk g2 (ints (List.replicate 48 0)) 35]) ?_ ?_
 exact G.as ⟨0, by decide⟩
 rintro ⟨k, hj⟩ _ K6
 try dsimp only at K6 ⊢
 refine G.sr fun _ K7 => ?_
 refine G.V 19 .bin ?_
 refine G.nk K7 ?_
 refine G.Z fun _ K8 => ?_
 refine G.cond rfl (fun hc19 => ?_) (fun hc19 => ?_)
 have hk : k < 48 := by have := of_decide_eq_true hc19; omega
 have hfl := firstL_len p.n p.d k
 refine G.sk K8 ?_
 refine G.Z fun _ K9 => ?_
 refine G.block ?_
 refine G.sr fun _ K10 => ?_
 refine G.M2 20 5 ?_
 refine G.nk K10 ?_
 refine G.sr fun _ K11 => ?_
 refine G.M 21 ?_
 refine G.V 22 (.fa f23_2 2) ?_
 refine G.V 23 (.ld t3 1) ?_
 refine G.V 24 .bw ?_
 refine G.V 25 (.ia a35 k (by omega)) ?_
 refine G.sto 0 (.st t3 0 (hl := ints_len1 (by first | omega | (simp only [List.length_set, firstL_len]; omega)))) rfl ?_
 refine G.eqb 0 ((ints ((firstL p.n p.d k).set k (p.d + 1)))) (ints_sets (l := (firstL p.n p.d k)) (k := k) (p.d + 1)) ?_
 try dsimp only [List.set]
 refine G.nk K11 ?_
 refine G.sr fun _ K12 => ?_
 refine G.M 26 ?_
 refine G.V 27 (.fa f23_0 0) ?_
 refine G.V 28 (.ld t3 1) ?_
 refine G.V 29 .bin ?_
 refine G.nk K12 ?_
 refine G.cond rfl (fun hc29 => ?_) (fun hc29 => ?_)
 refine G.region ?_
 refine G.M 30 ?_
 refine G.V 31 (.ia a35 k (by omega)) ?_
 refine G.sto 0 (.st t3 0 (hl := ints_len1 (by first | omega | (simp only [List.length_set, firstL_len]; omega)))) rfl ?_
 refine G.eqb 0 ((ints (((firstL p.n p.d k).set k (p.d + 1)).set k 0))) (ints_sets (l := ((firstL p.n p.d k).set k (p.d + 1))) (k := k) 0) ?_
 try dsimp only [List.set]
 refine G.nk K9 ?_
 refine G.eqL [blk g3 (ints (firstL p.n p.d (k + 1))) 35, blk g4 (pC p []) 23, blk g2 (ints (List.replicate 48 0)) 35] (congrArg (fun z => [blk g3 (ints z) 35, blk g4 (pC p []) 23, blk g2 (ints (List.replicate 48 0)) 35]) (show _ = firstL p.n p.d (k + 1) from by rw [firstL_next _ _ hk, if_pos (of_decide_eq_true hc29), List.set_set])) ?_
 refine G.region ?_
 refine G.V 32 .bw ?_
 refine G.M 18 ?_
 refine G.nk K6 ?_
 exact G.ls ⟨k + 1, hk⟩
 refine G.sk K9 ?_
 refine G.eqL [blk g3 (ints (firstL p.n p.d (k + 1))) 35, blk g4 (pC p []) 23, blk g2 (ints (List.replicate 48 0)) 35] (congrArg (fun z => [blk g3 (ints z) 35, blk g4 (pC p []) 23, blk g2 (ints (List.replicate 48 0)) 35]) (show _ = firstL p.n p.d (k + 1) from by rw [firstL_next _ _ hk, if_neg (of_decide_eq_false hc29)])) ?_
 refine G.region ?_
 refine G.V 32 .bw ?_
 refine G.M 18 ?_
 refine G.nk K6 ?_
 exact G.ls ⟨k + 1, hk⟩
 have hk48 : k = 48 := by have := of_decide_eq_false hc19; omega
 subst hk48
 refine G.exit ?_
 refine K4 _ _ _ ?_
 refine G.Z fun _ K13 => ?_
 refine G.sr fun _ K14 => ?_
 refine G.M 33 ?_
 refine G.V 34 .nc ?_
 refine G.V 35 (.fa f44_0 0) ?_
 refine G.V 36 (.fa f30_3 14) ?_
 refine G.V 37 (.ld t24 3) ?_
 refine G.V 38 (.lenl s24) ?_
 refine G.M 39 ?_
 refine G.nk K14 ?_
 refine G.block ?_
 refine G.lpR (ι := {z : Nat × List Int // z.1 ≤ hn ∧ StepI p n dd ls z.2}) (fun ⟨⟨k, sv⟩, hj, hS⟩ => hn - k) (fun ⟨⟨k, sv⟩, hj, hS⟩ => [(0, .pointer (some ⟨rb, 0, none⟩)), (2, .pointer (some ⟨g2, 0, none⟩)), (3, .pointer (some ⟨g3, 0, none⟩)), (4, .pointer (some ⟨g4, 0, none⟩)), (37, .slice ha hn hc), (38, .int .i64 (hn : Int)), (39, .int .i64 (k : Int))]) (fun ⟨⟨k, sv⟩, hj, hS⟩ => [blk g3 (ints sv) 35, blk g4 (pC p []) 23, blk g2 (ints (List.replicate 48 0)) 35]) ?_ ?_
 exact G.at ⟨(0, firstL p.n p.d 48), Nat.zero_le _, firstL_ok hnn h16 hd0⟩ (ts := [0, 2, 3, 4, 37, 38, 39]) rfl rfl rfl rfl
 rintro ⟨⟨k, sv⟩, hj, hS⟩ _ K15
 try dsimp only at K15 ⊢
 try dsimp only at hj hS
 have hsl := hS.len
 refine G.sr fun _ K16 => ?_
 refine G.V 40 .bin ?_
 refine G.nk K16 ?_
 refine G.Z fun _ K17 => ?_
 refine G.cond rfl (fun hc40 => ?_) (fun hc40 => ?_)
 have hk : k < hn := by have := of_decide_eq_true hc40; omega
 obtain ⟨c, hxc⟩ : ∃ x, core[k]? = some x := ⟨_, List.getElem?_eq_getElem (by omega)⟩
 refine G.sk K17 ?_
 refine G.Z fun _ K18 => ?_
 refine G.block ?_
 refine G.Z fun _ K19 => ?_
 refine G.vbase 4 (show 0 < hn by omega) fun b20 ob20 hb_ => ?_
 subst hb_
 refine G.region ?_
 refine G.V 41 (.is s24 k hk) ?_
 refine G.V 42 (.ldo t3 4 (hv := ints_at2 hxc)) ?_
 refine G.M 7 ?_
 refine G.nk K19 ?_
 refine G.sr fun _ K21 => ?_
 refine G.M 43 ?_
 refine G.V 44 .bin ?_
 refine G.M 45 ?_
 cases hg22 : (decide (c ≥ 0) : Bool)
 refine G.O4 46 47 48 49 ?_
 refine G.O3 50 51 52 ?_
 refine G.V 53 .pick ?_
 refine G.nk K21 ?_
 refine G.no rfl ?_
 refine G.sk K18 ?_
 refine G.region ?_
 refine G.V 57 .bw ?_
 refine G.M 39 ?_
 refine G.nk K15 ?_
 exact G.ls ⟨(k + 1, sv), hk, hS⟩
 refine G.M2 46 47 ?_
 refine G.V 48 .nc ?_
 refine G.V 49 (.fa f44_0 0) ?_
 refine G.V 50 (.fa f30_2 13) ?_
 refine G.V 51 (.ld t3 3) ?_
 refine G.V 52 .bin ?_
 refine G.V 53 .pick ?_
 refine G.nk K21 ?_
 refine G.cond rfl (fun hc53 => ?_) (fun hc53 => ?_)
 have hcb : 0 ≤ c ∧ c < dd := by have := of_decide_eq_true ‹decide (c ≥ 0) = true›; have := of_decide_eq_true ‹decide (c < cn) = true›; exact ⟨by omega, by omega⟩
 refine G.region ?_
 refine G.M 54 ?_
 refine G.V 55 (.cast .bin (wi (by have := of_decide_eq_true ‹decide (c ≥ 0) = true›; have := of_decide_eq_true ‹decide (c < cn) = true›; omega) (by have := of_decide_eq_true ‹decide (c ≥ 0) = true›; have := of_decide_eq_true ‹decide (c < cn) = true›; omega))) ?_
 refine G.V 56 (.ia a35 ((16 + c).toNat) (by omega) (hi := by omega)) ?_
 refine G.sto 0 (.st t3 0 (hl := ints_len1 (by first | omega | (simp only [List.length_set, firstL_len]; omega)))) rfl ?_
 refine G.eqb 0 ((ints (sv.set ((16 + c).toNat) 0))) (ints_sets (l := sv) (k := ((16 + c).toNat)) 0) ?_
 try dsimp only [List.set]
 refine G.nk K18 ?_
 refine G.region ?_
 refine G.V 57 .bw ?_
 refine G.M 39 ?_
 refine G.nk K15 ?_
 exact G.less ⟨(k + 1, (sv.set ((16 + c).toNat) 0)), hk, hS.set h16 ⟨by omega, by omega⟩ ⟨Int.le_refl 0, by omega⟩ (fun _ => by rw [Int.toNat_of_nonneg (by omega)]; exact ⟨⟨by omega, by omega⟩, by have := ls_gc hls h16 (by omega) hn0 (List.mem_of_getElem? hxc) ⟨by omega, by omega⟩; exact this⟩)⟩ (ts := [0, 2, 3, 4, 37, 38, 39]) (by dsimp only; omega) rfl rfl rfl rfl
 refine G.sk K18 ?_
 refine G.region ?_
 refine G.V 57 .bw ?_
 refine G.M 39 ?_
 refine G.nk K15 ?_
 exact G.ls ⟨(k + 1, sv), hk, hS⟩
 refine G.exit ?_
 refine K13 _ _ _ ?_
 refine G.Z fun _ K23 => ?_
 refine G.sr fun _ K24 => ?_
 refine G.M 8 ?_
 refine G.nk K24 ?_
 refine G.block ?_
 refine G.lpR (ι := {z : Nat × List Int // (z.1 : Int) ≤ p.d ∧ StepI p n dd ls z.2}) (fun ⟨⟨m, sv⟩, hm0, hS⟩ => p.d.toNat - m) (fun ⟨⟨m, sv⟩, hm0, hS⟩ => [(0, .pointer (some ⟨rb, 0, none⟩)), (2, .pointer (some ⟨g2, 0, none⟩)), (3, .pointer (some ⟨g3, 0, none⟩)), (4, .pointer (some ⟨g4, 0, none⟩)), (8, .int .i64 (m : Int))]) (fun ⟨⟨m, sv⟩, hm0, hS⟩ => [blk g3 (ints sv) 35, blk g4 (pC p []) 23, blk g2 (ints (List.replicate 48 0)) 35]) ?_ ?_
 exact G.as ⟨(0, sv), by dsimp only; omega, hS⟩
 rintro ⟨⟨m, sv⟩, hm0, hS⟩ _ K25
 try dsimp only at K25 ⊢
 try dsimp only at hm0 hS
 have hsl := hS.len
 refine G.Z fun _ K26 => ?_
 refine G.sr fun _ K27 => ?_
 refine G.M 58 ?_
 refine G.V 59 (.fa f23_2 2) ?_
 refine G.V 60 (.ld t3 1) ?_
 refine G.V 61 .bin ?_
 refine G.nk K27 ?_
 refine G.cond rfl (fun hc61 => ?_) (fun hc61 => ?_)
 have hmd : (m : Int) < p.d := of_decide_eq_true hc61
 refine G.sk K26 ?_
 refine G.Z fun _ K28 => ?_
 refine G.block ?_
 refine G.sr fun _ K29 => ?_
 refine G.M 64 ?_
 refine G.V 65 .nc ?_
 refine G.V 66 (.fa f44_0 0) ?_
 refine G.V 67 (.fa f30_4 15) ?_
 refine G.V 68 (.ld t25 3) ?_
 refine G.V 69 (.lenl s25) ?_
 refine G.M 70 ?_
 refine G.nk K29 ?_
 refine G.block ?_
 refine G.lpR (ι := {z : Nat × List Int // z.1 ≤ kn ∧ StepI p n dd ls z.2}) (fun ⟨⟨k, sv⟩, hj, hS⟩ => kn - k) (fun ⟨⟨k, sv⟩, hj, hS⟩ => [(0, .pointer (some ⟨rb, 0, none⟩)), (2, .pointer (some ⟨g2, 0, none⟩)), (3, .pointer (some ⟨g3, 0, none⟩)), (4, .pointer (some ⟨g4, 0, none⟩)), (8, .int .i64 (m : Int)), (68, .slice ka kn kc), (69, .int .i64 (kn : Int)), (70, .int .i64 (k : Int))]) (fun ⟨⟨k, sv⟩, hj, hS⟩ => [blk g3 (ints sv) 35, blk g4 (pC p []) 23, blk g2 (ints (List.replicate 48 0)) 35]) ?_ ?_
 exact G.at ⟨(0, sv), Nat.zero_le _, hS⟩ (ts := [0, 2, 3, 4, 8, 68, 69, 70]) rfl rfl rfl rfl
 rintro ⟨⟨k, sv⟩, hj, hS⟩ _ K30
 try dsimp only at K30 ⊢
 try dsimp only at hj hS
 have hsl := hS.len
 refine G.sr fun _ K31 => ?_
 refine G.V 71 .bin ?_
 refine G.nk K31 ?_
 refine G.Z fun _ K32 => ?_
 refine G.cond rfl (fun hc71 => ?_) (fun hc71 => ?_)
 have hk : k < kn := by have := of_decide_eq_true hc71; omega
 obtain ⟨y, hxy⟩ : ∃ x, links[k]? = some x := ⟨_, List.getElem?_eq_getElem (by omega)⟩
 refine G.sk K32 ?_
 refine G.Z fun _ K33 => ?_
 refine G.block ?_
 refine G.Z fun _ K34 => ?_
 refine G.vbase 5 (show 0 < kn by omega) fun b35 ob35 hb_ => ?_
 subst hb_
 refine G.region ?_
 refine G.V 72 (.is s25 k hk) ?_
 refine G.V 73 (.ldao t72 5 (hv := spl_at hxy)) ?_
 refine G.mk 10 (.al z72) fun g10 => ?_
 refine G.sn 0 (.st t72 0) rfl ?_
 refine G.nk K34 ?_
 refine G.Z fun _ K36 => ?_
 refine G.Z fun _ K37 => ?_
 refine G.draw 28 [0] [0] [] ?_
 refine D.V 0 74 1 (.fa f72_0 0) ?_
 refine D.T 1 75 3 (.ld t3 0) [0] [0] ?_
 refine D.V 2 76 7 .bin ?_
 refine D.V 3 77 15 .mv ?_
 cases hg38 : (decide (y.1 < 0) : Bool)
 refine D.V 4 78 31 (.fa f72_1 1) ?_
 refine D.T 5 79 63 (.ld t3 0) [0] [0] ?_
 refine D.V 6 80 127 .bin ?_
 refine D.V 7 81 255 .pick ?_
 refine D.V 8 82 511 .mv ?_
 cases hg39 : (decide (y.2 < 0) : Bool)
 refine D.V 9 83 1023 (.fa f72_0 0) ?_
 refine D.V 11 85 3071 .mv ?_
 refine D.V 12 86 7167 .nc ?_
 refine D.V 13 87 15359 (.fa f44_0 0) ?_
 refine D.V 14 88 31743 (.fa f30_2 13) ?_
 refine D.T 10 84 32767 (.ld t3 0) [0] [0] ?_
 refine D.T 15 89 65535 (.ld t3 1) [0] [0] ?_
 refine D.V 16 90 131071 .bin ?_
 refine D.V 17 91 262143 .pick ?_
 refine D.V 18 92 524287 .mv ?_
 cases hg40 : (decide (y.1 ≥ cn) : Bool)
 refine D.V 19 93 1048575 (.fa f72_1 1) ?_
 refine D.V 21 95 3145727 .mv ?_
 refine D.V 22 96 7340031 .nc ?_
 refine D.V 23 97 15728639 (.fa f44_0 0) ?_
 refine D.V 24 98 32505855 (.fa f30_2 13) ?_
 refine D.T 20 94 33554431 (.ld t3 0) [0] [0] ?_
 refine D.T 25 99 67108863 (.ld t3 1) [0] [0] ?_
 refine D.V 26 100 134217727 .bin ?_
 refine D.V 27 101 268435455 .pick ?_
 refine D.done ?_
 refine K37 _ _ _ ?_
 refine G.cond rfl (fun hc101 => ?_) (fun hc101 => ?_)
 refine G.exit ?_
 refine K33 _ _ _ ?_
 refine G.region ?_
 refine G.V 142 .bw ?_
 refine G.M 70 ?_
 refine G.nil ?_
 refine G.only [1, 1, 1] ?_
 refine K30 _ _ _ ?_
 exact G.ls ⟨(k + 1, sv), hk, hS⟩
 refine G.sk K36 ?_
 refine G.Z fun _ K41 => ?_
 have hy1 : 0 ≤ y.1 := by have := of_decide_eq_false ‹decide (y.1 < 0) = false›; omega
 have hy2 : 0 ≤ y.2 := by have := of_decide_eq_false ‹decide (y.2 < 0) = false›; omega
 have hy3 : y.1 < dd := by have := of_decide_eq_false ‹decide (y.1 ≥ cn) = false›; omega
 have hy4 : y.2 < dd := by have := of_decide_eq_false ‹decide (y.2 ≥ cn) = false›; omega
 have hly := fun h => ls_nn hls h16 hdd (x := y.1) (y := y.2) (List.mem_of_getElem? hxy) ⟨hy1, hy3⟩ ⟨hy2, hy4⟩ h
 refine G.draw 8 [0] [] [] ?_
 refine D.V 0 102 1 (.fa f72_0 0) ?_
 refine D.V 3 105 9 (.fa f72_1 1) ?_
 refine D.T 1 103 11 (.ld t3 0) [0] [] ?_
 refine D.V 2 104 15 (.cast .bin (wi (by omega) (by omega))) ?_
 refine D.V 6 11 79 .mv ?_
 refine D.T 4 106 95 (.ld t3 0) [0] [] ?_
 refine D.V 5 107 127 (.cast .bin (wi (by omega) (by omega))) ?_
 refine D.V 7 12 255 .mv ?_
 refine D.done ?_
 refine K41 _ _ _ ?_
 refine G.Z fun _ K42 => ?_
 refine G.sr fun _ K43 => ?_
 refine G.M 108 ?_
 refine G.V 109 (.ia a35 ((16 + y.1).toNat) (by omega) (hi := by omega)) ?_
 refine G.V 110 (.ld t3 1 (hv := ints_g (zs := sv) (k := ((16 + y.1).toNat)) (by first | omega | (simp only [List.length_set]; omega)))) ?_
 refine G.M 111 ?_
 refine G.V 112 .bin ?_
 refine G.M 113 ?_
 cases hg44 : ((sv.getD ((16 + y.1).toNat) 0) == (m : Int) : Bool)
 refine G.O4 114 115 116 117 ?_
 refine G.O2 118 119 ?_
 refine G.V 120 .pick ?_
 refine G.nk K43 ?_
 refine G.no rfl ?_
 refine G.sk K42 ?_
 refine G.sr fun _ K45 => ?_
 refine G.M 125 ?_
 refine G.V 126 (.ia a35 ((16 + y.2).toNat) (by omega) (hi := by omega)) ?_
 refine G.V 127 (.ld t3 1 (hv := ints_g (zs := sv) (k := ((16 + y.2).toNat)) (by first | omega | (simp only [List.length_set]; omega)))) ?_
 refine G.M 128 ?_
 refine G.V 129 .bin ?_
 refine G.M 130 ?_
 cases hg46 : ((sv.getD ((16 + y.2).toNat) 0) == (m : Int) : Bool)
 refine G.O4 131 132 133 134 ?_
 refine G.O2 135 136 ?_
 refine G.V 137 .pick ?_
 refine G.nk K45 ?_
 refine G.no rfl ?_
 refine G.sk K33 ?_
 refine G.region ?_
 refine G.V 142 .bw ?_
 refine G.M 70 ?_
 refine G.nil ?_
 refine G.only [1, 1, 1] ?_
 refine K30 _ _ _ ?_
 exact G.ls ⟨(k + 1, sv), hk, hS⟩
 refine G.M 131 ?_
 refine G.V 132 (.ia a35 ((16 + y.1).toNat) (by omega) (hi := by omega)) ?_
 refine G.V 133 (.ld t3 1 (hv := ints_g (zs := sv) (k := ((16 + y.1).toNat)) (by first | omega | (simp only [List.length_set]; omega)))) ?_
 refine G.M 134 ?_
 refine G.V 135 .bw ?_
 refine G.V 136 .bin ?_
 refine G.V 137 .pick ?_
 refine G.nk K45 ?_
 refine G.cond rfl (fun hc137 => ?_) (fun hc137 => ?_)
 refine G.region ?_
 refine G.M2 138 139 ?_
 refine G.V 140 .bw ?_
 refine G.V 141 (.ia a35 ((16 + y.1).toNat) (by omega) (hi := by omega)) ?_
 refine G.sto 1 (.st t3 1 (hl := ints_len1 (by first | omega | (simp only [List.length_set, firstL_len]; omega)))) rfl ?_
 refine G.eqb 1 ((ints (sv.set ((16 + y.1).toNat) ((m : Int) + 1)))) (ints_sets (l := sv) (k := ((16 + y.1).toNat)) ((m : Int) + 1)) ?_
 try dsimp only [List.set]
 refine G.nil ?_
 have hS2 := hS.more h16 hdd ⟨hy2, hy4⟩ ⟨hy1, hy3⟩ (fun h => (hly (fun q => h q.symm)).2) (eq_of_beq ‹(sv.getD (16 + y.2).toNat 0 == (m : Int)) = true›) (of_decide_eq_true ‹decide (sv.getD (16 + y.1).toNat 0 > (m : Int) + 1) = true›) hmd
 refine K33 _ _ _ ?_
 refine G.region ?_
 refine G.V 142 .bw ?_
 refine G.M 70 ?_
 refine G.nil ?_
 refine G.only [1, 1, 1] ?_
 refine K30 _ _ _ ?_
 exact G.ls ⟨(k + 1, (sv.set ((16 + y.1).toNat) ((m : Int) + 1))), hk, by first | exact hS1 | exact hS2⟩
 refine G.sk K33 ?_
 refine G.region ?_
 refine G.V 142 .bw ?_
 refine G.M 70 ?_
 refine G.nil ?_
 refine G.only [1, 1, 1] ?_
 refine K30 _ _ _ ?_
 exact G.ls ⟨(k + 1, sv), hk, hS⟩
 refine G.M 114 ?_
 refine G.V 115 (.ia a35 ((16 + y.2).toNat) (by omega) (hi := by omega)) ?_
 refine G.V 116 (.ld t3 1 (hv := ints_g (zs := sv) (k := ((16 + y.2).toNat)) (by first | omega | (simp only [List.length_set]; omega)))) ?_
 refine G.M 117 ?_
 refine G.V 118 .bw ?_
 refine G.V 119 .bin ?_
 refine G.V 120 .pick ?_
 refine G.nk K43 ?_
 refine G.cond rfl (fun hc120 => ?_) (fun hc120 => ?_)
 refine G.region ?_
 refine G.M2 121 122 ?_
 refine G.V 123 .bw ?_
 refine G.V 124 (.ia a35 ((16 + y.2).toNat) (by omega) (hi := by omega)) ?_
 refine G.sto 1 (.st t3 1 (hl := ints_len1 (by first | omega | (simp only [List.length_set, firstL_len]; omega)))) rfl ?_
 refine G.eqb 1 ((ints (sv.set ((16 + y.2).toNat) ((m : Int) + 1)))) (ints_sets (l := sv) (k := ((16 + y.2).toNat)) ((m : Int) + 1)) ?_
 try dsimp only [List.set]
 refine G.nil ?_
 have hS1 := hS.more h16 hdd ⟨hy1, hy3⟩ ⟨hy2, hy4⟩ (fun h => (hly h).1) (eq_of_beq ‹(sv.getD (16 + y.1).toNat 0 == (m : Int)) = true›) (of_decide_eq_true ‹decide (sv.getD (16 + y.2).toNat 0 > (m : Int) + 1) = true›) hmd
 have hsl1 := hS1.len
 refine K42 _ _ _ ?_
 refine G.sr fun _ K47 => ?_
 refine G.M 125 ?_
 refine G.V 126 (.ia a35 ((16 + y.2).toNat) (by omega) (hi := by omega)) ?_
 refine G.V 127 (.ld t3 1 (hv := ints_g (zs := (sv.set ((16 + y.2).toNat) ((m : Int) + 1))) (k := ((16 + y.2).toNat)) (by first | omega | (simp only [List.length_set]; omega)))) ?_
 refine G.M 128 ?_
 refine G.V 129 .bin ?_
 refine G.M 130 ?_
 cases hg48 : (((sv.set ((16 + y.2).toNat) ((m : Int) + 1)).getD ((16 + y.2).toNat) 0) == (m : Int) : Bool)
 refine G.O4 131 132 133 134 ?_
 refine G.O2 135 136 ?_
 refine G.V 137 .pick ?_
 refine G.nk K47 ?_
 refine G.no rfl ?_
 refine G.sk K33 ?_
 refine G.region ?_
 refine G.V 142 .bw ?_
 refine G.M 70 ?_
 refine G.nil ?_
 refine G.only [1, 1, 1] ?_
 refine K30 _ _ _ ?_
 exact G.ls ⟨(k + 1, (sv.set ((16 + y.2).toNat) ((m : Int) + 1))), hk, by first | exact hS1 | exact hS2⟩
 refine G.M 131 ?_
 refine G.V 132 (.ia a35 ((16 + y.1).toNat) (by omega) (hi := by omega)) ?_
 refine G.V 133 (.ld t3 1 (hv := ints_g (zs := (sv.set ((16 + y.2).toNat) ((m : Int) + 1))) (k := ((16 + y.1).toNat)) (by first | omega | (simp only [List.length_set]; omega)))) ?_
 refine G.M 134 ?_
 refine G.V 135 .bw ?_
 refine G.V 136 .bin ?_
 refine G.V 137 .pick ?_
 refine G.nk K47 ?_
 refine G.cond rfl (fun hc137 => ?_) (fun hc137 => ?_)
 refine G.region ?_
 refine G.M2 138 139 ?_
 refine G.V 140 .bw ?_
 refine G.V 141 (.ia a35 ((16 + y.1).toNat) (by omega) (hi := by omega)) ?_
 refine G.sto 1 (.st t3 1 (hl := ints_len1 (by first | omega | (simp only [List.length_set, firstL_len]; omega)))) rfl ?_
 refine G.eqb 1 ((ints ((sv.set ((16 + y.2).toNat) ((m : Int) + 1)).set ((16 + y.1).toNat) ((m : Int) + 1)))) (ints_sets (l := (sv.set ((16 + y.2).toNat) ((m : Int) + 1))) (k := ((16 + y.1).toNat)) ((m : Int) + 1)) ?_
 try dsimp only [List.set]
 refine G.nil ?_
 have hS2 := hS1.more h16 hdd ⟨hy2, hy4⟩ ⟨hy1, hy3⟩ (fun h => (hly (fun q => h q.symm)).2) (eq_of_beq ‹((sv.set (16 + y.2).toNat ((m : Int) + 1)).getD (16 + y.2).toNat 0 == (m : Int)) = true›) (of_decide_eq_true ‹decide ((sv.set (16 + y.2).toNat ((m : Int) + 1)).getD (16 + y.1).toNat 0 > (m : Int) + 1) = true›) hmd
 refine K33 _ _ _ ?_
 refine G.region ?_
 refine G.V 142 .bw ?_
 refine G.M 70 ?_
 refine G.nil ?_
 refine G.only [1, 1, 1] ?_
 refine K30 _ _ _ ?_
 exact G.ls ⟨(k + 1, ((sv.set ((16 + y.2).toNat) ((m : Int) + 1)).set ((16 + y.1).toNat) ((m : Int) + 1))), hk, hS2⟩
 refine G.sk K33 ?_
 refine G.region ?_
 refine G.V 142 .bw ?_
 refine G.M 70 ?_
 refine G.nil ?_
 refine G.only [1, 1, 1] ?_
 refine K30 _ _ _ ?_
 exact G.ls ⟨(k + 1, (sv.set ((16 + y.2).toNat) ((m : Int) + 1))), hk, by first | exact hS1 | exact hS2⟩
 refine G.sk K42 ?_
 refine G.sr fun _ K49 => ?_
 refine G.M 125 ?_
 refine G.V 126 (.ia a35 ((16 + y.2).toNat) (by omega) (hi := by omega)) ?_
 refine G.V 127 (.ld t3 1 (hv := ints_g (zs := sv) (k := ((16 + y.2).toNat)) (by first | omega | (simp only [List.length_set]; omega)))) ?_
 refine G.M 128 ?_
 refine G.V 129 .bin ?_
 refine G.M 130 ?_
 cases hg50 : ((sv.getD ((16 + y.2).toNat) 0) == (m : Int) : Bool)
 refine G.O4 131 132 133 134 ?_
 refine G.O2 135 136 ?_
 refine G.V 137 .pick ?_
 refine G.nk K49 ?_
 refine G.no rfl ?_
 refine G.sk K33 ?_
 refine G.region ?_
 refine G.V 142 .bw ?_
 refine G.M 70 ?_
 refine G.nil ?_
 refine G.only [1, 1, 1] ?_
 refine K30 _ _ _ ?_
 exact G.ls ⟨(k + 1, sv), hk, hS⟩
 refine G.M 131 ?_
 refine G.V 132 (.ia a35 ((16 + y.1).toNat) (by omega) (hi := by omega)) ?_
 refine G.V 133 (.ld t3 1 (hv := ints_g (zs := sv) (k := ((16 + y.1).toNat)) (by first | omega | (simp only [List.length_set]; omega)))) ?_
 refine G.M 134 ?_
 refine G.V 135 .bw ?_
 refine G.V 136 .bin ?_
 refine G.V 137 .pick ?_
 refine G.nk K49 ?_
 refine G.cond rfl (fun hc137 => ?_) (fun hc137 => ?_)
 refine G.region ?_
 refine G.M2 138 139 ?_
 refine G.V 140 .bw ?_
 refine G.V 141 (.ia a35 ((16 + y.1).toNat) (by omega) (hi := by omega)) ?_
 refine G.sto 1 (.st t3 1 (hl := ints_len1 (by first | omega | (simp only [List.length_set, firstL_len]; omega)))) rfl ?_
 refine G.eqb 1 ((ints (sv.set ((16 + y.1).toNat) ((m : Int) + 1)))) (ints_sets (l := sv) (k := ((16 + y.1).toNat)) ((m : Int) + 1)) ?_
 try dsimp only [List.set]
 refine G.nil ?_
 have hS2 := hS.more h16 hdd ⟨hy2, hy4⟩ ⟨hy1, hy3⟩ (fun h => (hly (fun q => h q.symm)).2) (eq_of_beq ‹(sv.getD (16 + y.2).toNat 0 == (m : Int)) = true›) (of_decide_eq_true ‹decide (sv.getD (16 + y.1).toNat 0 > (m : Int) + 1) = true›) hmd
 refine K33 _ _ _ ?_
 refine G.region ?_
 refine G.V 142 .bw ?_
 refine G.M 70 ?_
 refine G.nil ?_
 refine G.only [1, 1, 1] ?_
 refine K30 _ _ _ ?_
 exact G.ls ⟨(k + 1, (sv.set ((16 + y.1).toNat) ((m : Int) + 1))), hk, by first | exact hS1 | exact hS2⟩
 refine G.sk K33 ?_
 refine G.region ?_
 refine G.V 142 .bw ?_
 refine G.M 70 ?_
 refine G.nil ?_
 refine G.only [1, 1, 1] ?_
 refine K30 _ _ _ ?_
 exact G.ls ⟨(k + 1, sv), hk, hS⟩
 refine D.off 19 93 1048575 ?_
 refine D.off 20 94 2097151 ?_
 refine D.off 21 95 4194303 ?_
 refine D.off 22 96 8388607 ?_
 refine D.off 23 97 16777215 ?_
 refine D.off 24 98 33554431 ?_
 refine D.off 25 99 67108863 ?_
 refine D.off 26 100 134217727 ?_
 refine D.V 27 101 268435455 .pick ?_
 refine D.done ?_
 refine K37 _ _ _ ?_
 refine G.yes rfl ?_
 refine G.exit ?_
 refine K33 _ _ _ ?_
 refine G.region ?_
 refine G.V 142 .bw ?_
 refine G.M 70 ?_
 refine G.nil ?_
 refine G.only [1, 1, 1] ?_
 refine K30 _ _ _ ?_
 exact G.ls ⟨(k + 1, sv), hk, hS⟩
 refine D.off 9 83 1023 ?_
 refine D.off 10 84 2047 ?_
 refine D.off 11 85 4095 ?_
 refine D.off 12 86 8191 ?_
 refine D.off 13 87 16383 ?_
 refine D.off 14 88 32767 ?_
 refine D.off 15 89 65535 ?_
 refine D.off 16 90 131071 ?_
 refine D.V 17 91 262143 .pick ?_
 refine D.V 18 92 524287 .mv ?_
 refine D.off 19 93 1048575 ?_
 refine D.off 20 94 2097151 ?_
 refine D.off 21 95 4194303 ?_
 refine D.off 22 96 8388607 ?_
 refine D.off 23 97 16777215 ?_
 refine D.off 24 98 33554431 ?_
 refine D.off 25 99 67108863 ?_
 refine D.off 26 100 134217727 ?_
 refine D.V 27 101 268435455 .pick ?_
 refine D.done ?_
 refine K37 _ _ _ ?_
 refine G.yes rfl ?_
 refine G.exit ?_
 refine K33 _ _ _ ?_
 refine G.region ?_
 refine G.V 142 .bw ?_
 refine G.M 70 ?_
 refine G.nil ?_
 refine G.only [1, 1, 1] ?_
 refine K30 _ _ _ ?_
 exact G.ls ⟨(k + 1, sv), hk, hS⟩
 refine D.off 4 78 31 ?_
 refine D.off 5 79 63 ?_
 refine D.off 6 80 127 ?_
 refine D.V 7 81 255 .pick ?_
 refine D.V 8 82 511 .mv ?_
 refine D.off 9 83 1023 ?_
 refine D.off 10 84 2047 ?_
 refine D.off 11 85 4095 ?_
 refine D.off 12 86 8191 ?_
 refine D.off 13 87 16383 ?_
 refine D.off 14 88 32767 ?_
 refine D.off 15 89 65535 ?_
 refine D.off 16 90 131071 ?_
 refine D.V 17 91 262143 .pick ?_
 refine D.V 18 92 524287 .mv ?_
 refine D.off 19 93 1048575 ?_
 refine D.off 20 94 2097151 ?_
 refine D.off 21 95 4194303 ?_
 refine D.off 22 96 8388607 ?_
 refine D.off 23 97 16777215 ?_
 refine D.off 24 98 33554431 ?_
 refine D.off 25 99 67108863 ?_
 refine D.off 26 100 134217727 ?_
 refine D.V 27 101 268435455 .pick ?_
 refine D.done ?_
 refine K37 _ _ _ ?_
 refine G.yes rfl ?_
 refine G.exit ?_
 refine K33 _ _ _ ?_
 refine G.region ?_
 refine G.V 142 .bw ?_
 refine G.M 70 ?_
 refine G.nil ?_
 refine G.only [1, 1, 1] ?_
 refine K30 _ _ _ ?_
 exact G.ls ⟨(k + 1, sv), hk, hS⟩
 refine G.exit ?_
 refine K28 _ _ _ ?_
 refine G.region ?_
 refine G.M 62 ?_
 refine G.V 63 .bw ?_
 refine G.M 8 ?_
 refine G.nk K25 ?_
 exact G.ls ⟨(m + 1, sv), by dsimp only; omega, hS⟩
 refine G.exit ?_
 refine K23 _ _ _ ?_
 refine G.sr fun _ K51 => ?_
 refine G.V 143 (.lda t35 0 (vs := ints sv) (hv := ints_all hsl) (hn := by simp [ints, hsl])) ?_
 refine G.sto 2 (.st t35 2 (vs := ints sv) (hv := by simp [Value.cells]) (hn := by simp [ints, hsl]) (ho := ints_one sv) (hl := by simp [ints])) rfl ?_
 refine G.eqL [blk g3 (ints sv) 35, blk g4 (pC p []) 23, blk g2 (ints sv) 35] (by exact congrArg (fun z => [blk g3 (ints sv) 35, blk g4 (pC p []) 23, blk g2 z 35]) (ints_put (by simp) hsl)) ?_
 refine G.nk K51 ?_
 exact G.ret (G.fin0 [] (.cell Tryz.results9 t35 2 (vs := ints sv) (hv := ints_all hsl) (hn := by simp [ints, hsl])) ⟨sv, rfl, hS, rfl⟩)
theorem e20 : Is prog 20 := ⟨_, func20, by kernel_rfl, rfl⟩
structure GreatOk (p : Par) (ct cn beats : Int) (hn kn sn fn nn qn : Nat) (ss : List Sta) : Prop where
 ok : okB p = true
 n : p.n ≤ 7
 d : p.d ≤ 5
 cn : 0 ≤ cn ∧ cn ≤ 6
 ct : -1125899906842624 ≤ ct ∧ ct ≤ 1125899906842624
 beats : 0 ≤ beats ∧ beats ≤ 30
 settle : settleV p ≤ 80
 len : hn ≤ 20 ∧ kn ≤ 40 ∧ sn ≤ 20 ∧ fn ≤ 40 ∧ nn ≤ 1000 ∧ qn ≤ 40
 tabs : ∀ s ∈ ss, s.tl ≤ 128
theorem settle_h {p : Par} (h : okB p = true) : (0 ≤ mulC 3 (widthV p p.hold p.d) ∧ mulC 3 (widthV p p.hold p.d) ≤ 2305843009213693952) ∧ (1 ≤ sbC p.mu p.rho ∧ sbC p.mu p.rho ≤ 2305843009213693952) := by
 have N := num_of h
 have n7 := N.d; have n8 := N.hold; have n9 := N.mu; have n6 := N.rho; have n5 := N.beat
 have hw := wid_b N (b := p.hold) (h := p.d) (by omega) (by omega) n7.1 (by omega)
 rw [wid_eq N (by omega) (by omega) n7.1 (by omega), sb2 (by omega) (by omega)]
 exact ⟨mul_big (by decide) hw.1, by omega, by omega⟩
theorem strs_at' {l : List ByteArray} {k : Nat} {z : ByteArray} (h : l[k]? = some z) : (strs l)[0 + k * 1]? = some (.string z) := by simp [strs, h]
theorem l_great (p : Par) (ct cn beats : Int) (ha ka sa fa na qa : Option Addr) (hn hc kn kc sn sc fn fc nn nc qn qc : Nat) (ss : List Sta) (hsl : ss.length = sn) (frs : List Li) (hfl : frs.length = fn) (lz : List ByteArray) (hzq : lz.length = qn) : Spec prog 7 [.agg #[.int .i64 p.n, .int .i64 p.f, .int .i64 p.d, .int .i64 p.beat, .int .i64 p.rho, .int .i64 p.delay, .int .i64 p.jitter, .int .i64 p.eps, .int .i64 p.mu, .int .i64 p.hold, .int .i64 p.pulse, .int .i64 p.second, .int .i64 ct, .int .i64 cn, .slice ha hn hc, .slice ka kn kc, .slice sa sn sc, .slice fa fn fc, .slice na nn nc, .slice qa qn qc], .int .i64 beats] [] [view sa sc 70 11 sn (stal ss), view fa fc 74 3 fn (lil frs), view qa qc 9 1 qn (strs lz)] (fun v Ln => ∃ b, v = .bool b ∧ (b = false → GreatOk p ct cn beats hn kn sn fn nn qn ss) ∧ Ln = []) := by
 refine Spec.en func7 ntmps7 fun w0 => ?_
 refine G.sr fun _ K1 => ?_
 refine G.mk 2 .bx fun g2 => ?_
 refine G.M 4 ?_
 refine G.nk K1 ?_
 refine G.sr fun _ K2 => ?_
 refine G.V 13 (.fa f30_0 0) ?_
 refine G.V 14 (.lda t23 0 (vs := [.int .i64 p.n, .int .i64 p.f, .int .i64 p.d, .int .i64 p.beat, .int .i64 p.rho, .int .i64 p.delay, .int .i64 p.jitter, .int .i64 p.eps, .int .i64 p.mu, .int .i64 p.hold, .int .i64 p.pulse, .int .i64 p.second])) ?_
 refine G.mk 5 (.al z23) fun g5 => ?_
 refine G.sn 0 (.st t23 0) rfl ?_
 refine G.nk K2 ?_
 refine G.Z fun _ K3 => ?_
 refine G.sr fun _ K4 => ?_
 refine G.V 15 (.lda t23 0 (vs := [.int .i64 p.n, .int .i64 p.f, .int .i64 p.d, .int .i64 p.beat, .int .i64 p.rho, .int .i64 p.delay, .int .i64 p.jitter, .int .i64 p.eps, .int .i64 p.mu, .int .i64 p.hold, .int .i64 p.pulse, .int .i64 p.second])) ?_
 refine G.cp 16 [] []  e23 (l_Check p) ?_
 refine G.V 17 .bin ?_
 refine G.M 18 ?_
 cases hg5 : ((if okB p = true then (0 : Int) else 1) != 0 : Bool)
 refine G.V 19 (.fa f23_0 0) ?_
 refine G.V 20 (.ld t3 0) ?_
 refine G.V 21 .bin ?_
 refine G.V 22 .pick ?_
 refine G.M 23 ?_
 cases hg6 : (decide (p.n > 7) : Bool)
 refine G.V 24 (.fa f23_2 2) ?_
 refine G.V 25 (.ld t3 0) ?_
 refine G.V 26 .bin ?_
 refine G.V 27 .pick ?_
 refine G.M 28 ?_
 cases hg7 : (decide (p.d > 5) : Bool)
 refine G.V 29 (.fa f30_2 13) ?_
 refine G.V 30 (.ld t3 1) ?_
 refine G.V 31 .bin ?_
 refine G.V 32 .pick ?_
 refine G.M 33 ?_
 cases hg8 : (decide (cn < 0) : Bool)
 refine G.V 34 (.fa f30_2 13) ?_
 refine G.V 35 (.ld t3 1) ?_
 refine G.V 36 .bin ?_
 refine G.V 37 .pick ?_
 refine G.M 38 ?_
 cases hg9 : (decide (cn > 6) : Bool)
 refine G.V 39 (.fa f30_1 12) ?_
 refine G.V 40 (.ld t3 1) ?_
 refine G.V 41 .bin ?_
 refine G.V 42 .pick ?_
 refine G.M 43 ?_
 cases hg10 : (decide (ct > 1125899906842624) : Bool)
 refine G.V 44 (.fa f30_1 12) ?_
 refine G.V 45 (.ld t3 1) ?_
 refine G.V 46 .bin ?_
 refine G.V 47 .pick ?_
 refine G.M 48 ?_
 cases hg11 : (decide (ct < (-1125899906842624)) : Bool)
 refine G.M 49 ?_
 refine G.V 50 .bin ?_
 refine G.V 51 .pick ?_
 refine G.M 52 ?_
 cases hg12 : (decide (beats < 0) : Bool)
 refine G.M 53 ?_
 refine G.V 54 .bin ?_
 refine G.V 55 .pick ?_
 refine G.M 56 ?_
 cases hg13 : (decide (beats > 30) : Bool)
 refine G.V 57 (.lda t23 0 (vs := [.int .i64 p.n, .int .i64 p.f, .int .i64 p.d, .int .i64 p.beat, .int .i64 p.rho, .int .i64 p.delay, .int .i64 p.jitter, .int .i64 p.eps, .int .i64 p.mu, .int .i64 p.hold, .int .i64 p.pulse, .int .i64 p.second])) ?_
 have hokb : okB p = true := by have h := ‹((if okB p = true then (0 : Int) else 1) != 0) = false›; cases hq : okB p; rw [hq] at h; simp at h; rfl
 obtain ⟨⟨hS0, hS1⟩, hS2, hS3⟩ := settle_h hokb
 refine G.cp 58 [] []  e20 (l_Settle p hS0 hS1 hS2 hS3) ?_
 refine G.V 59 .bin ?_
 refine G.V 60 .pick ?_
 refine G.nk K4 ?_
 refine G.cond rfl (fun hc60 => ?_) (fun hc60 => ?_)
 refine G.sr fun _ K14 => ?_
 refine G.M 4 ?_
 refine G.nk K14 ?_
 exact G.ret (G.F [] (.one Tryz.results7) ⟨true, rfl, (fun h => nomatch h), rfl⟩)
 refine G.sk K3 ?_
 refine G.Z fun _ K15 => ?_
 refine G.sr fun _ K16 => ?_
 refine G.V 61 (.fa f30_3 14) ?_
 refine G.V 62 (.ld t24 1) ?_
 refine G.V 63 (.lenl s24) ?_
 refine G.V 64 .bin ?_
 refine G.M 65 ?_
 cases hg17 : (decide ((hn : Int) > 20) : Bool)
 refine G.V 66 (.fa f30_4 15) ?_
 refine G.V 67 (.ld t25 1) ?_
 refine G.V 68 (.lenl s25) ?_
 refine G.V 69 .bin ?_
 refine G.V 70 .pick ?_
 refine G.M 71 ?_
 cases hg18 : (decide ((kn : Int) > 40) : Bool)
 refine G.V 72 (.fa f30_5 16) ?_
 refine G.V 73 (.ld t26 1) ?_
 refine G.V 74 (.lenl s26) ?_
 refine G.V 75 .bin ?_
 refine G.V 76 .pick ?_
 refine G.M 77 ?_
 cases hg19 : (decide ((sn : Int) > 20) : Bool)
 refine G.V 78 (.fa f30_6 17) ?_
 refine G.V 79 (.ld t27 1) ?_
 refine G.V 80 (.lenl s27) ?_
 refine G.V 81 .bin ?_
 refine G.V 82 .pick ?_
 refine G.M 83 ?_
 cases hg20 : (decide ((fn : Int) > 40) : Bool)
 refine G.V 84 (.fa f30_7 18) ?_
 refine G.V 85 (.ld t24 1) ?_
 refine G.V 86 (.lenl s24) ?_
 refine G.V 87 .bin ?_
 refine G.V 88 .pick ?_
 refine G.M 89 ?_
 cases hg21 : (decide ((nn : Int) > 1000) : Bool)
 refine G.V 90 (.fa f30_8 19) ?_
 refine G.V 91 (.ld t28 1) ?_
 refine G.V 92 (.lenl s28) ?_
 refine G.V 93 .bin ?_
 refine G.V 94 .pick ?_
 refine G.nk K16 ?_
 refine G.cond rfl (fun hc94 => ?_) (fun hc94 => ?_)
 refine G.sr fun _ K22 => ?_
 refine G.M 4 ?_
 refine G.nk K22 ?_
 exact G.ret (G.F [] (.one Tryz.results7) ⟨true, rfl, (fun h => nomatch h), rfl⟩)
 refine G.sk K15 ?_
 refine G.Z fun _ K23 => ?_
 refine G.Z fun _ K24 => ?_
 have hbsn : sn ≤ 20 := by have := of_decide_eq_false ‹decide ((sn : Int) > 20) = false›; omega
 have hbfn : fn ≤ 40 := by have := of_decide_eq_false ‹decide ((fn : Int) > 40) = false›; omega
 have hbqn : qn ≤ 40 := by have := of_decide_eq_false ‹decide ((qn : Int) > 40) = false›; omega
 refine G.region ?_
 refine G.V 95 (.fa f30_5 16) ?_
 refine G.V 96 (.ld t26 1) ?_
 refine G.V 97 (.lenl s26) ?_
 refine G.M 98 ?_
 refine G.nk K24 ?_
 refine G.block ?_
 refine G.only [1, 0] ?_
 refine G.lpR (ι := {k : Nat // k ≤ sn ∧ ∀ s ∈ ss.take k, s.tl ≤ 128}) (fun ⟨k, hj, hT⟩ => sn - k) (fun ⟨k, hj, hT⟩ => [(2, .pointer (some ⟨g2, 0, none⟩)), (4, .bool false), (96, .slice sa sn sc), (97, .int .i64 (sn : Int)), (98, .int .i64 (k : Int))]) (fun ⟨k, hj, hT⟩ => [blk g2 (pC p [.int .i64 ct, .int .i64 cn, .slice ha hn hc, .slice ka kn kc, .slice sa sn sc, .slice fa fn fc, .slice na nn nc, .slice qa qn qc]) 30, blk g5 (pC p []) 23]) ?_ ?_
 exact G.at ⟨0, Nat.zero_le _, by simp⟩ (ts := [2, 4, 96, 97, 98]) rfl rfl rfl rfl
 rintro ⟨k, hj, hT⟩ _ K25
 try dsimp only at K25 ⊢
 refine G.sr fun _ K26 => ?_
 refine G.V 99 .bin ?_
 refine G.nk K26 ?_
 refine G.Z fun _ K27 => ?_
 refine G.cond rfl (fun hc99 => ?_) (fun hc99 => ?_)
 have hk : k < sn := by have := of_decide_eq_true hc99; omega
 obtain ⟨y, hy⟩ : ∃ x, ss[k]? = some x := ⟨_, List.getElem?_eq_getElem (by omega)⟩
 refine G.sk K27 ?_
 refine G.Z fun _ K28 => ?_
 refine G.block ?_
 refine G.Z fun _ K29 => ?_
 refine G.vbase 2 (show 0 < sn by omega) fun b30 ob30 hb_ => ?_
 subst hb_
 refine G.region ?_
 refine G.V 100 (.is s26 k hk) ?_
 refine G.V 101 (.ldao t70 2 (hv := stal_at hy)) ?_
 refine G.mk 7 (.al z70) fun g7 => ?_
 refine G.sn 0 (.st t70 0) rfl ?_
 refine G.nk K29 ?_
 refine G.sr fun _ K31 => ?_
 refine G.V 102 (.fa f70_6 7) ?_
 refine G.V 103 (.ld t58 0) ?_
 refine G.V 104 (.lenl s58) ?_
 refine G.V 105 .bin ?_
 refine G.nk K31 ?_
 refine G.cond rfl (fun hc105 => ?_) (fun hc105 => ?_)
 refine G.sr fun _ K32 => ?_
 refine G.M 4 ?_
 refine G.nk K32 ?_
 exact G.ret (G.F [] (.one Tryz.results7) ⟨true, rfl, (fun h => nomatch h), rfl⟩)
 have htl : y.tl ≤ 128 := by have := of_decide_eq_false hc105; omega
 refine G.sk K28 ?_
 refine G.region ?_
 refine G.V 106 .bw ?_
 refine G.M 98 ?_
 refine G.nil ?_
 refine G.only [1, 1] ?_
 refine K25 _ _ _ ?_
 exact G.ls ⟨k + 1, hk, fun s hs => by rw [List.take_add_one, hy] at hs; rcases List.mem_append.1 hs with h | h; exact hT s h; simp at h; subst h; exact htl⟩
 have hkn : sn = k := by have := of_decide_eq_false hc99; omega
 have hT2 : ∀ s ∈ ss, s.tl ≤ 128 := by rw [show ss.take k = ss from by rw [← hkn, ← hsl]; exact List.take_length] at hT; exact hT
 refine G.exit ?_
 refine K23 _ _ _ ?_
 refine G.sr fun _ K33 => ?_
 refine G.M 8 ?_
 refine G.nk K33 ?_
 refine G.Z fun _ K34 => ?_
 refine G.sr fun _ K35 => ?_
 refine G.V 107 (.fa f30_6 17) ?_
 refine G.V 108 (.ld t27 0) ?_
 refine G.V 109 (.lenl s27) ?_
 refine G.M 110 ?_
 refine G.nk K35 ?_
 refine G.block ?_
 refine G.lpR (ι := {z : Nat × Int // z.1 ≤ fn}) (fun ⟨⟨k, nv⟩, hj⟩ => fn - k) (fun ⟨⟨k, nv⟩, hj⟩ => [(2, .pointer (some ⟨g2, 0, none⟩)), (4, .bool false), (8, .int .i64 nv), (108, .slice fa fn fc), (109, .int .i64 (fn : Int)), (110, .int .i64 (k : Int))]) (fun ⟨⟨k, nv⟩, hj⟩ => [blk g2 (pC p [.int .i64 ct, .int .i64 cn, .slice ha hn hc, .slice ka kn kc, .slice sa sn sc, .slice fa fn fc, .slice na nn nc, .slice qa qn qc]) 30, blk g5 (pC p []) 23]) ?_ ?_
 exact G.at ⟨(0, 0), Nat.zero_le _⟩ (ts := [2, 4, 8, 108, 109, 110]) rfl rfl rfl rfl
 rintro ⟨⟨k, nv⟩, hj⟩ _ K36
 try dsimp only at K36 ⊢
 try dsimp only at hj
 refine G.sr fun _ K37 => ?_
 refine G.V 111 .bin ?_
 refine G.nk K37 ?_
 refine G.Z fun _ K38 => ?_
 refine G.cond rfl (fun hc111 => ?_) (fun hc111 => ?_)
 have hk : k < fn := by have := of_decide_eq_true hc111; omega
 obtain ⟨x, hx⟩ : ∃ x, frs[k]? = some x := ⟨_, List.getElem?_eq_getElem (by omega)⟩
 refine G.sk K38 ?_
 refine G.Z fun _ K39 => ?_
 refine G.block ?_
 refine G.Z fun _ K40 => ?_
 refine G.vbase 3 (show 0 < fn by omega) fun b41 ob41 hb_ => ?_
 subst hb_
 refine G.region ?_
 refine G.V 112 (.is s27 k hk) ?_
 refine G.V 113 (.ldao t74 3 (hv := lil_at hx)) ?_
 refine G.mk 10 (.al z74) fun g10 => ?_
 refine G.sn 0 (.st t74 0) rfl ?_
 refine G.nk K40 ?_
 refine G.sr fun _ K42 => ?_
 refine G.M 114 ?_
 refine G.V 115 (.fa f74_1 2) ?_
 refine G.V 116 (.ld t9 0) ?_
 refine G.V 117 (.lens r9) ?_
 refine G.V 118 .bin ?_
 refine G.M 8 ?_
 refine G.nk K42 ?_
 refine G.sr fun _ K43 => ?_
 refine G.M 119 ?_
 refine G.V 120 .bin ?_
 refine G.nk K43 ?_
 refine G.cond rfl (fun hc120 => ?_) (fun hc120 => ?_)
 refine G.sr fun _ K44 => ?_
 refine G.M 4 ?_
 refine G.nk K44 ?_
 exact G.ret (G.F [] (.one Tryz.results7) ⟨true, rfl, (fun h => nomatch h), rfl⟩)
 refine G.sk K39 ?_
 refine G.region ?_
 refine G.V 121 .bw ?_
 refine G.M 110 ?_
 refine G.nil ?_
 refine G.only [1, 1] ?_
 refine K36 _ _ _ ?_
 exact G.ls ⟨(k + 1, IntKind.i64.wrap (nv + (x.s.size : Int))), hk⟩
 refine G.exit ?_
 refine K34 _ _ _ ?_
 refine G.Z fun _ K45 => ?_
 refine G.sr fun _ K46 => ?_
 refine G.V 122 (.fa f30_8 19) ?_
 refine G.V 123 (.ld t28 0) ?_
 refine G.V 124 (.lenl s28) ?_
 refine G.M 125 ?_
 refine G.nk K46 ?_
 refine G.block ?_
 refine G.lpR (ι := {z : Nat × Int // z.1 ≤ qn}) (fun ⟨⟨k, nv⟩, hj⟩ => qn - k) (fun ⟨⟨k, nv⟩, hj⟩ => [(2, .pointer (some ⟨g2, 0, none⟩)), (4, .bool false), (8, .int .i64 nv), (123, .slice qa qn qc), (124, .int .i64 (qn : Int)), (125, .int .i64 (k : Int))]) (fun ⟨⟨k, nv⟩, hj⟩ => [blk g2 (pC p [.int .i64 ct, .int .i64 cn, .slice ha hn hc, .slice ka kn kc, .slice sa sn sc, .slice fa fn fc, .slice na nn nc, .slice qa qn qc]) 30, blk g5 (pC p []) 23]) ?_ ?_
 exact G.at ⟨(0, nv), Nat.zero_le _⟩ (ts := [2, 4, 8, 123, 124, 125]) rfl rfl rfl rfl
 rintro ⟨⟨k, nv⟩, hj⟩ _ K47
 try dsimp only at K47 ⊢
 try dsimp only at hj
 refine G.sr fun _ K48 => ?_
 refine G.V 126 .bin ?_
 refine G.nk K48 ?_
 refine G.Z fun _ K49 => ?_
 refine G.cond rfl (fun hc126 => ?_) (fun hc126 => ?_)
 have hk : k < qn := by have := of_decide_eq_true hc126; omega
 obtain ⟨z, hz⟩ : ∃ x, lz[k]? = some x := ⟨_, List.getElem?_eq_getElem (by omega)⟩
 refine G.sk K49 ?_
 refine G.Z fun _ K50 => ?_
 refine G.block ?_
 refine G.Z fun _ K51 => ?_
 refine G.vbase 4 (show 0 < qn by omega) fun b52 ob52 hb_ => ?_
 subst hb_
 refine G.region ?_
 refine G.V 127 (.is s28 k hk) ?_
 refine G.V 128 (.ldo t9 4 (hv := strs_at' hz)) ?_
 refine G.M 12 ?_
 refine G.nk K51 ?_
 refine G.sr fun _ K53 => ?_
 refine G.M2 129 130 ?_
 refine G.V 131 (.lens r9) ?_
 refine G.V 132 .bin ?_
 refine G.M 8 ?_
 refine G.nk K53 ?_
 refine G.sr fun _ K54 => ?_
 refine G.M 133 ?_
 refine G.V 134 .bin ?_
 refine G.nk K54 ?_
 refine G.cond rfl (fun hc134 => ?_) (fun hc134 => ?_)
 refine G.sr fun _ K55 => ?_
 refine G.M 4 ?_
 refine G.nk K55 ?_
 exact G.ret (G.F [] (.one Tryz.results7) ⟨true, rfl, (fun h => nomatch h), rfl⟩)
 refine G.sk K50 ?_
 refine G.region ?_
 refine G.V 135 .bw ?_
 refine G.M 125 ?_
 refine G.nk K47 ?_
 exact G.ls ⟨(k + 1, IntKind.i64.wrap (nv + (z.size : Int))), hk⟩
 refine G.exit ?_
 refine K45 _ _ _ ?_
 refine G.sr fun _ K56 => ?_
 refine G.M 4 ?_
 refine G.nk K56 ?_
 refine G.ret ?_
 have := of_decide_eq_false ‹decide (p.n > 7) = false›
 have := of_decide_eq_false ‹decide (p.d > 5) = false›
 have := of_decide_eq_false ‹decide (cn < 0) = false›
 have := of_decide_eq_false ‹decide (cn > 6) = false›
 have := of_decide_eq_false ‹decide (ct > 1125899906842624) = false›
 have := of_decide_eq_false ‹decide (ct < (-1125899906842624)) = false›
 have := of_decide_eq_false ‹decide (beats < 0) = false›
 have := of_decide_eq_false ‹decide (beats > 30) = false›
 have := of_decide_eq_false ‹decide (settleV p > 80) = false›
 have := of_decide_eq_false ‹decide ((hn : Int) > 20) = false›
 have := of_decide_eq_false ‹decide ((kn : Int) > 40) = false›
 have := of_decide_eq_false ‹decide ((sn : Int) > 20) = false›
 have := of_decide_eq_false ‹decide ((fn : Int) > 40) = false›
 have := of_decide_eq_false ‹decide ((nn : Int) > 1000) = false›
 have := of_decide_eq_false ‹decide ((qn : Int) > 40) = false›
 exact G.F [] (.one Tryz.results7) ⟨false, rfl, fun _ => ⟨hokb, by omega, by omega, by omega, by omega, by omega, by omega, by omega, hT2⟩, rfl⟩
 refine G.O4 90 91 92 93 ?_
 refine G.V 94 .pick ?_
 refine G.nk K16 ?_
 refine G.yes rfl ?_
 refine G.sr fun _ K57 => ?_
 refine G.M 4 ?_
 refine G.nk K57 ?_
 exact G.ret (G.F [] (.one Tryz.results7) ⟨true, rfl, (fun h => nomatch h), rfl⟩)
 refine G.O4 84 85 86 87 ?_
 refine G.V 88 .pick ?_
 refine G.M 89 ?_
 refine G.O4 90 91 92 93 ?_
 refine G.V 94 .pick ?_
 refine G.nk K16 ?_
 refine G.yes rfl ?_
 refine G.sr fun _ K58 => ?_
 refine G.M 4 ?_
 refine G.nk K58 ?_
 exact G.ret (G.F [] (.one Tryz.results7) ⟨true, rfl, (fun h => nomatch h), rfl⟩)
 refine G.O4 78 79 80 81 ?_
 refine G.V 82 .pick ?_
 refine G.M 83 ?_
 refine G.O4 84 85 86 87 ?_
 refine G.V 88 .pick ?_
 refine G.M 89 ?_
 refine G.O4 90 91 92 93 ?_
 refine G.V 94 .pick ?_
 refine G.nk K16 ?_
 refine G.yes rfl ?_
 refine G.sr fun _ K59 => ?_
 refine G.M 4 ?_
 refine G.nk K59 ?_
 exact G.ret (G.F [] (.one Tryz.results7) ⟨true, rfl, (fun h => nomatch h), rfl⟩)
 refine G.O4 72 73 74 75 ?_
 refine G.V 76 .pick ?_
 refine G.M 77 ?_
 refine G.O4 78 79 80 81 ?_
 refine G.V 82 .pick ?_
 refine G.M 83 ?_
 refine G.O4 84 85 86 87 ?_
 refine G.V 88 .pick ?_
 refine G.M 89 ?_
 refine G.O4 90 91 92 93 ?_
 refine G.V 94 .pick ?_
 refine G.nk K16 ?_
 refine G.yes rfl ?_
 refine G.sr fun _ K60 => ?_
 refine G.M 4 ?_
 refine G.nk K60 ?_
 exact G.ret (G.F [] (.one Tryz.results7) ⟨true, rfl, (fun h => nomatch h), rfl⟩)
 refine G.O4 66 67 68 69 ?_
 refine G.V 70 .pick ?_
 refine G.M 71 ?_
 refine G.O4 72 73 74 75 ?_
 refine G.V 76 .pick ?_
 refine G.M 77 ?_
 refine G.O4 78 79 80 81 ?_
 refine G.V 82 .pick ?_
 refine G.M 83 ?_
 refine G.O4 84 85 86 87 ?_
 refine G.V 88 .pick ?_
 refine G.M 89 ?_
 refine G.O4 90 91 92 93 ?_
 refine G.V 94 .pick ?_
 refine G.nk K16 ?_
 refine G.yes rfl ?_
 refine G.sr fun _ K61 => ?_
 refine G.M 4 ?_
 refine G.nk K61 ?_
 exact G.ret (G.F [] (.one Tryz.results7) ⟨true, rfl, (fun h => nomatch h), rfl⟩)
 refine G.O3 57 58 59 ?_
 refine G.V 60 .pick ?_
 refine G.nk K4 ?_
 refine G.yes rfl ?_
 refine G.sr fun _ K62 => ?_
 refine G.M 4 ?_
 refine G.nk K62 ?_
 exact G.ret (G.F [] (.one Tryz.results7) ⟨true, rfl, (fun h => nomatch h), rfl⟩)
 refine G.O2 53 54 ?_
 refine G.V 55 .pick ?_
 refine G.M 56 ?_
 refine G.O3 57 58 59 ?_
 refine G.V 60 .pick ?_
 refine G.nk K4 ?_
 refine G.yes rfl ?_
 refine G.sr fun _ K63 => ?_
 refine G.M 4 ?_
 refine G.nk K63 ?_
 exact G.ret (G.F [] (.one Tryz.results7) ⟨true, rfl, (fun h => nomatch h), rfl⟩)
 refine G.O2 49 50 ?_
 refine G.V 51 .pick ?_
 refine G.M 52 ?_
 refine G.O2 53 54 ?_
 refine G.V 55 .pick ?_
 refine G.M 56 ?_
 refine G.O3 57 58 59 ?_
 refine G.V 60 .pick ?_
 refine G.nk K4 ?_
 refine G.yes rfl ?_
 refine G.sr fun _ K64 => ?_
 refine G.M 4 ?_
 refine G.nk K64 ?_
 exact G.ret (G.F [] (.one Tryz.results7) ⟨true, rfl, (fun h => nomatch h), rfl⟩)
 refine G.O3 44 45 46 ?_
 refine G.V 47 .pick ?_
 refine G.M 48 ?_
 refine G.O2 49 50 ?_
 refine G.V 51 .pick ?_
 refine G.M 52 ?_
 refine G.O2 53 54 ?_
 refine G.V 55 .pick ?_
 refine G.M 56 ?_
 refine G.O3 57 58 59 ?_
 refine G.V 60 .pick ?_
 refine G.nk K4 ?_
 refine G.yes rfl ?_
 refine G.sr fun _ K65 => ?_
 refine G.M 4 ?_
 refine G.nk K65 ?_
 exact G.ret (G.F [] (.one Tryz.results7) ⟨true, rfl, (fun h => nomatch h), rfl⟩)
 refine G.O3 39 40 41 ?_
 refine G.V 42 .pick ?_
 refine G.M 43 ?_
 refine G.O3 44 45 46 ?_
 refine G.V 47 .pick ?_
 refine G.M 48 ?_
 refine G.O2 49 50 ?_
 refine G.V 51 .pick ?_
 refine G.M 52 ?_
 refine G.O2 53 54 ?_
 refine G.V 55 .pick ?_
 refine G.M 56 ?_
 refine G.O3 57 58 59 ?_
 refine G.V 60 .pick ?_
 refine G.nk K4 ?_
 refine G.yes rfl ?_
 refine G.sr fun _ K66 => ?_
 refine G.M 4 ?_
 refine G.nk K66 ?_
 exact G.ret (G.F [] (.one Tryz.results7) ⟨true, rfl, (fun h => nomatch h), rfl⟩)
 refine G.O3 34 35 36 ?_
 refine G.V 37 .pick ?_
 refine G.M 38 ?_
 refine G.O3 39 40 41 ?_
 refine G.V 42 .pick ?_
 refine G.M 43 ?_
 refine G.O3 44 45 46 ?_
 refine G.V 47 .pick ?_
 refine G.M 48 ?_
 refine G.O2 49 50 ?_
 refine G.V 51 .pick ?_
 refine G.M 52 ?_
 refine G.O2 53 54 ?_
 refine G.V 55 .pick ?_
 refine G.M 56 ?_
 refine G.O3 57 58 59 ?_
 refine G.V 60 .pick ?_
 refine G.nk K4 ?_
 refine G.yes rfl ?_
 refine G.sr fun _ K67 => ?_
 refine G.M 4 ?_
 refine G.nk K67 ?_
 exact G.ret (G.F [] (.one Tryz.results7) ⟨true, rfl, (fun h => nomatch h), rfl⟩)
 refine G.O3 29 30 31 ?_
 refine G.V 32 .pick ?_
 refine G.M 33 ?_
 refine G.O3 34 35 36 ?_
 refine G.V 37 .pick ?_
 refine G.M 38 ?_
 refine G.O3 39 40 41 ?_
 refine G.V 42 .pick ?_
 refine G.M 43 ?_
 refine G.O3 44 45 46 ?_
 refine G.V 47 .pick ?_
 refine G.M 48 ?_
 refine G.O2 49 50 ?_
 refine G.V 51 .pick ?_
 refine G.M 52 ?_
 refine G.O2 53 54 ?_
 refine G.V 55 .pick ?_
 refine G.M 56 ?_
 refine G.O3 57 58 59 ?_
 refine G.V 60 .pick ?_
 refine G.nk K4 ?_
 refine G.yes rfl ?_
 refine G.sr fun _ K68 => ?_
 refine G.M 4 ?_
 refine G.nk K68 ?_
 exact G.ret (G.F [] (.one Tryz.results7) ⟨true, rfl, (fun h => nomatch h), rfl⟩)
 refine G.O3 24 25 26 ?_
 refine G.V 27 .pick ?_
 refine G.M 28 ?_
 refine G.O3 29 30 31 ?_
 refine G.V 32 .pick ?_
 refine G.M 33 ?_
 refine G.O3 34 35 36 ?_
 refine G.V 37 .pick ?_
 refine G.M 38 ?_
 refine G.O3 39 40 41 ?_
 refine G.V 42 .pick ?_
 refine G.M 43 ?_
 refine G.O3 44 45 46 ?_
 refine G.V 47 .pick ?_
 refine G.M 48 ?_
 refine G.O2 49 50 ?_
 refine G.V 51 .pick ?_
 refine G.M 52 ?_
 refine G.O2 53 54 ?_
 refine G.V 55 .pick ?_
 refine G.M 56 ?_
 refine G.O3 57 58 59 ?_
 refine G.V 60 .pick ?_
 refine G.nk K4 ?_
 refine G.yes rfl ?_
 refine G.sr fun _ K69 => ?_
 refine G.M 4 ?_
 refine G.nk K69 ?_
 exact G.ret (G.F [] (.one Tryz.results7) ⟨true, rfl, (fun h => nomatch h), rfl⟩)
 refine G.O3 19 20 21 ?_
 refine G.V 22 .pick ?_
 refine G.M 23 ?_
 refine G.O3 24 25 26 ?_
 refine G.V 27 .pick ?_
 refine G.M 28 ?_
 refine G.O3 29 30 31 ?_
 refine G.V 32 .pick ?_
 refine G.M 33 ?_
 refine G.O3 34 35 36 ?_
 refine G.V 37 .pick ?_
 refine G.M 38 ?_
 refine G.O3 39 40 41 ?_
 refine G.V 42 .pick ?_
 refine G.M 43 ?_
 refine G.O3 44 45 46 ?_
 refine G.V 47 .pick ?_
 refine G.M 48 ?_
 refine G.O2 49 50 ?_
 refine G.V 51 .pick ?_
 refine G.M 52 ?_
 refine G.O2 53 54 ?_
 refine G.V 55 .pick ?_
 refine G.M 56 ?_
 refine G.O3 57 58 59 ?_
 refine G.V 60 .pick ?_
 refine G.nk K4 ?_
 refine G.yes rfl ?_
 refine G.sr fun _ K70 => ?_
 refine G.M 4 ?_
 refine G.nk K70 ?_
 exact G.ret (G.F [] (.one Tryz.results7) ⟨true, rfl, (fun h => nomatch h), rfl⟩)
end Go.Proofs.YtbmhgopjblnfnaaGreat.S
