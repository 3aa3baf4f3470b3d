/- The walks, the protocol's law: part 1. -/
import Derived.Test.YtbmhgopjblnfnaaGreatRateA0
set_option linter.unusedVariables false
set_option linter.unusedSimpArgs false
set_option maxHeartbeats 4000000
set_option maxRecDepth 100000
namespace Go.Proofs.YtbmhgopjblnfnaaGreat.S
open Go Go.Proofs Go.RowKit Go.Proofs.YtbmhgopjblnfnaaGreatW.PrintLast Tryz
theorem e86 : Is prog 86 := ⟨_, func86, by kernel_rfl, rfl⟩
theorem e133 : Is prog 133 := ⟨_, func133, by kernel_rfl, rfl⟩
theorem e140 : Is prog 140 := ⟨_, func140, by kernel_rfl, rfl⟩
theorem e141 : Is prog 141 := ⟨_, func141, by kernel_rfl, rfl⟩
theorem e147 : Is prog 147 := ⟨_, func147, by kernel_rfl, rfl⟩
theorem e193 : Is prog 193 := ⟨_, func193, by kernel_rfl, rfl⟩
theorem e199 : Is prog 199 := ⟨_, func199, by kernel_rfl, rfl⟩
theorem f68_0 : tfield prog 68 0 = some 0 := by kernel_rfl
theorem f68_1 : tfield prog 68 1 = some 1 := by kernel_rfl
theorem f70_2 : tfield prog 70 2 = some 3 := by kernel_rfl
theorem f70_3 : tfield prog 70 3 = some 4 := by kernel_rfl
theorem f70_4 : tfield prog 70 4 = some 5 := by kernel_rfl
theorem f70_5 : tfield prog 70 5 = some 6 := by kernel_rfl
theorem f237_0 : tfield prog 237 0 = some 0 := by kernel_rfl
theorem f237_1 : tfield prog 237 1 = some 1 := by kernel_rfl
theorem f240_0 : tfield prog 240 0 = some 0 := by kernel_rfl
theorem p68 : tplaces prog 68 = some [(0, 1), (1, 1)] := by kernel_rfl
theorem p237 : tplaces prog 237 = some [(0, 1), (1, 1)] := by kernel_rfl
theorem p240 : tplaces prog 240 = some [(0, 2)] := by kernel_rfl
theorem s310 : tslice prog 310 = some (68, 2) := by kernel_rfl
theorem t4 : tsz prog 4 = some (false, 1) := by kernel_rfl
theorem t68 : tsz prog 68 = some (true, 2) := by kernel_rfl
theorem t237 : tsz prog 237 = some (true, 2) := by kernel_rfl
theorem t240 : tsz prog 240 = some (true, 2) := by kernel_rfl
theorem z68 : tzero prog 68 = some [.int .i64 0, .int .i64 0] := by kernel_rfl
theorem z237 : tzero prog 237 = some [.int .i64 0, .bool false] := by kernel_rfl
theorem z240 : tzero prog 240 = some [.int .i64 0, .int .i64 0] := by kernel_rfl
def moreV (h : Int) : Int := bnd (addL [h, 1]) 0 1073741824
def farV (p : Par) (held : Int) : Int := mulC 2 (widthV p (maxL [held, p.hold]) p.d)
def medV (lo hi : Int) : Int := (clp lo + clp hi).fdiv 2
theorem a_More (h : Int) : Spec prog 118 [.int .i64 h] [] [] (fun v Ln => v = .int .i64 (moreV h) ∧ Ln = []) := by
 refine Spec.en func118 ntmps118 fun w0 => ?_
 refine G.sr fun _ K1 => ?_
 refine G.M 2 ?_
 refine G.nk K1 ?_
 refine G.sr fun _ K2 => ?_
 refine G.M 3 ?_
 refine G.row 4 (.sl s24 z3 [.int .i64 h, .int .i64 1]) fun g4 => ?_
 refine G.cp 5 [] [0]  e29 (s_Add' g4 2 [h, 1] rfl (by decide)) ?_
 refine G.cp 6 [] []  e62 (s_Bound (addL [h, 1]) 0 1073741824) ?_
 refine G.M 2 ?_
 refine G.nk K2 ?_
 exact G.ret (G.F [] (.one Tryz.results118) ⟨rfl, rfl⟩)
theorem s_Max' (b n : Nat) (l : List Int) (hn : l.length = n) (hm : n < 4611686018427387904) : Spec prog 140 [.slice (some ⟨b, 0, none⟩) n n] [] [blk b (ints l) 3] (fun v Ln => v = .int .i64 (maxL l) ∧ Ln = []) := by
 subst hn
 exact fun w h1 h2 h3 h4 => s_Max b l.length l (Nat.le_refl _) hm w h1 (fun e he => by simp at he; subst he; exact ⟨_, h2 _ List.mem_cons_self⟩) h3 (by simp [ids])
theorem a_Seen (p : Par) (r : Int) (h1 : -1152921504606846976 ≤ r) (h2 : r ≤ 1152921504606846976) (h3 : 0 ≤ p.eps) : Spec prog 114 [.agg #[.int .i64 p.n, .int .i64 p.f, .int .i64 p.d, .int .i64 p.beat, .int .i64 p.rho, .int .i64 p.delay, .int .i64 p.jitter, .int .i64 p.eps, .int .i64 p.mu, .int .i64 p.hold, .int .i64 p.pulse, .int .i64 p.second], .int .i64 r] [] [] (fun v Ln => v = .tuple #[.agg #[.int .i64 (sbC r p.eps), .int .i64 (addL [r, p.eps])], .bool true] ∧ Ln = []) := by
 refine Spec.en func114 ntmps114 fun w0 => ?_
 refine G.sr fun _ K1 => ?_
 refine G.mk 2 .bx fun g2 => ?_
 refine G.mk 4 (.al z49) fun g4 => ?_
 refine G.M 5 ?_
 refine G.nk K1 ?_
 refine G.Z fun _ K2 => ?_
 refine G.sr fun _ K3 => ?_
 refine G.M 6 ?_
 refine G.V 7 (.cast .bin (bf (by omega))) ?_
 refine G.M2 8 9 ?_
 refine G.V 10 (.cast .bin (bf (by omega))) ?_
 refine G.V 11 .pick ?_
 refine G.M 12 ?_
 refine G.V 13 (.fa f23_7 7) ?_
 refine G.V 14 (.ld t3 1) ?_
 refine G.V 15 (.cast .bin (bf (by omega))) ?_
 refine G.V 16 .pick ?_
 refine G.nk K3 ?_
 refine G.no rfl ?_
 refine G.sk K2 ?_
 refine G.Z fun _ K4 => ?_
 refine G.draw 12 [1] [] [] ?_
 refine D.V 0 18 1 .mv ?_
 refine D.V 1 19 3 (.fa f23_7 7) ?_
 refine D.V 4 22 19 .mv ?_
 refine D.V 5 23 51 (.fa f23_7 7) ?_
 refine D.T 2 20 55 (.ld t3 0) [1] [] ?_
 refine D.T 6 24 119 (.ld t3 0) [1] [] ?_
 refine D.join (ι := Nat) (fun g25 => [(0, .agg #[.int .i64 p.n, .int .i64 p.f, .int .i64 p.d, .int .i64 p.beat, .int .i64 p.rho, .int .i64 p.delay, .int .i64 p.jitter, .int .i64 p.eps, .int .i64 p.mu, .int .i64 p.hold, .int .i64 p.pulse, .int .i64 p.second]), (1, .int .i64 r), (2, .pointer (some ⟨g2, 0, none⟩)), (4, .pointer (some ⟨g4, 0, none⟩)), (5, .bool false), (6, .int .i64 r), (7, .bool false), (8, .bool false), (9, .int .i64 r), (10, .bool false), (11, .bool false), (12, .bool false), (13, .pointer (some ⟨g2, 7, none⟩)), (14, .int .i64 p.eps), (15, .bool false), (16, .bool false), (21, .int .i64 (sbC r p.eps)), (25, .slice (some ⟨g25, 0, none⟩) 2 2)]) (fun g25 => [blk g25 [.int .i64 r, .int .i64 p.eps] 3, blk g4 [.int .i64 0, .int .i64 0] 49, blk g2 (pC p []) 23]) (fun g25 => []) 4 255 (fun hJ5 => ?_) ?_
 refine D.two 3 7 127 247 ?_ ?_
 refine E.call 3 21 [] [] [1] []  e33 (s_Sub r p.eps) ?_
 rintro _ _ ⟨rfl, rfl⟩
 refine D.ev 7 255 ?_
 refine E.row 7 25 (.sl s24 z3 [.int .i64 r, .int .i64 p.eps]) [1] []  fun g25 => ?_
 refine hJ5 _ _ _ ?_
 exact G.at g25 (ts := [0, 1, 2, 4, 5, 6, 7, 8, 9, 10, 11, 12, 13, 14, 15, 16, 21, 25]) rfl rfl rfl rfl
 refine E.row 7 25 (.sl s24 z3 [.int .i64 r, .int .i64 p.eps]) [1] []  fun g25 => ?_
 refine D.C 3 21 255 [] [] [2] []  e33 (s_Sub r p.eps) ?_
 rintro _ _ ⟨rfl, rfl⟩
 refine hJ5 _ _ _ ?_
 exact G.at g25 (ts := [0, 1, 2, 4, 5, 6, 7, 8, 9, 10, 11, 12, 13, 14, 15, 16, 21, 25]) rfl rfl rfl rfl
 rintro g25
 try dsimp only
 refine D.C 8 26 511 [] [0] [2] []  e29 (s_Add' g25 2 [r, p.eps] rfl (by decide)) ?_
 rintro _ _ ⟨rfl, rfl⟩
 refine D.V 9 27 1023 (.build z49 p49 (cs := #[.int .i64 (sbC r p.eps), .int .i64 (addL [r, p.eps])])) ?_
 refine D.sto 10 2047 1 (.st t49 1) [2] []  rfl ?_
 dsimp only [List.set, sets, Value.cells, List.zipIdx, List.foldl]
 refine D.V 11 5 4095 .mv ?_
 refine D.done ?_
 refine K4 _ _ _ ?_
 exact G.ret (G.F [] (.cell1 Tryz.results114 t49 1) ⟨rfl, rfl⟩)
theorem sp_Mid (lo hi : Int) : Spec prog 128 [.agg #[.int .i64 lo, .int .i64 hi]] [] [] (fun v Ln => v = .int .i64 (medV lo hi) ∧ Ln = []) := by
 have hb0 := clp_b lo
 have hb1 := clp_b hi
 refine Spec.en func128 ntmps128 fun w0 => ?_
 refine G.sr fun _ K1 => ?_
 refine G.mk 1 .bx fun g1 => ?_
 refine G.M 2 ?_
 refine G.nk K1 ?_
 refine G.Z fun _ K2 => ?_
 refine G.draw 8 [0] [] [] ?_
 refine D.V 0 4 1 (.fa f49_0 0) ?_
 refine D.V 3 7 9 (.fa f49_1 1) ?_
 refine D.T 1 5 11 (.ld t3 0) [0] [] ?_
 refine D.T 4 8 27 (.ld t3 0) [0] [] ?_
 refine D.C 2 6 31 [] [] [0] []  e48 (s_Clip lo) ?_
 rintro _ _ ⟨rfl, rfl⟩
 refine D.C 5 9 63 [] [] [0] []  e48 (s_Clip hi) ?_
 rintro _ _ ⟨rfl, rfl⟩
 refine D.V 6 10 127 .bw ?_
 refine D.V 7 3 255 .mv ?_
 refine D.done ?_
 refine K2 _ _ _ ?_
 refine G.sr fun _ K3 => ?_
 refine G.M 11 ?_
 refine G.V 12 (.shr (k := .i64) (a := clp lo + clp hi) (n := 1) (r := medV lo hi) (by decide) (by rfl)) ?_
 refine G.M 2 ?_
 refine G.nk K3 ?_
 exact G.ret (G.F [] (.one Tryz.results128) ⟨rfl, rfl⟩)
theorem h_Far (p : Par) (held : Int) : Spec prog 129 [.agg #[.int .i64 p.n, .int .i64 p.f, .int .i64 p.d, .int .i64 p.beat, .int .i64 p.rho, .int .i64 p.delay, .int .i64 p.jitter, .int .i64 p.eps, .int .i64 p.mu, .int .i64 p.hold, .int .i64 p.pulse, .int .i64 p.second], .int .i64 held] [] [] (fun v Ln => v = .int .i64 (farV p held) ∧ Ln = []) := by
 refine Spec.en func129 ntmps129 fun w0 => ?_
 refine G.sr fun _ K1 => ?_
 refine G.mk 2 .bx fun g2 => ?_
 refine G.M 4 ?_
 refine G.nk K1 ?_
 refine G.Z fun _ K2 => ?_
 refine G.draw 11 [0] [] [] ?_
 refine D.V 1 6 2 .mv ?_
 refine D.V 2 7 6 (.fa f23_9 9) ?_
 refine D.V 6 11 70 (.fa f23_2 2) ?_
 refine D.T 0 5 71 (.lda t23 0) [0] [] ?_
 refine D.T 3 8 79 (.ld t3 0) [0] [] ?_
 refine D.T 7 12 207 (.ld t3 0) [0] [] ?_
 refine D.ev 4 223 ?_
 refine E.row 4 9 (.sl s24 z3 [.int .i64 held, .int .i64 p.hold]) [0] []  fun g9 => ?_
 refine D.C 5 10 255 [] [0] [1] []  e140 (s_Max' g9 2 [held, p.hold] rfl (by decide)) ?_
 rintro _ _ ⟨rfl, rfl⟩
 refine D.C 8 13 511 [] [] [1] []  e17 (l_Width p (maxL [held, p.hold]) p.d) ?_
 rintro _ _ ⟨rfl, rfl⟩
 refine D.C 9 14 1023 [] [] [1] []  e28 (s_Mul 2 (widthV p (maxL [held, p.hold]) p.d)) ?_
 rintro _ _ ⟨rfl, rfl⟩
 refine D.V 10 4 2047 .mv ?_
 refine D.done ?_
 refine K2 _ _ _ ?_
 exact G.ret (G.F [] (.one Tryz.results129) ⟨rfl, rfl⟩)
structure Sta where
 (lo hi time : Int)
 set : Bool
 (held hops : Int)
 good : Bool
 ta : Option Addr
 (tl tc : Nat)
 (st sn life : Int)
def healthV (p : Par) (s : Sta) : Int := if (!s.good || (!s.set || decide (s.hops > p.d))) = true then 0 else if s.held > p.hold then 2 else 1
def stepV (p : Par) (time : Int) (set : Bool) (ticks goal : Int) (jump : Bool) : Int := if (jump || !set) = true then clp goal else addL [addL [time, ticks], bnd (sbC goal (addL [time, ticks])) (-clp p.mu) p.mu]
def RightS (t n : Int) : Prop := (-2305843009213693952 ≤ t ∧ t ≤ 2305843009213693952) ∧ (0 ≤ n ∧ n ≤ 1073741824)
theorem h_Of (p : Par) (s : Sta) : Spec prog 31 [.agg #[.int .i64 p.n, .int .i64 p.f, .int .i64 p.d, .int .i64 p.beat, .int .i64 p.rho, .int .i64 p.delay, .int .i64 p.jitter, .int .i64 p.eps, .int .i64 p.mu, .int .i64 p.hold, .int .i64 p.pulse, .int .i64 p.second], .agg #[.int .i64 s.lo, .int .i64 s.hi, .int .i64 s.time, .bool s.set, .int .i64 s.held, .int .i64 s.hops, .bool s.good, .slice s.ta s.tl s.tc, .int .i64 s.st, .int .i64 s.sn, .int .i64 s.life]] [] [] (fun v Ln => v = .int .i64 (healthV p s) ∧ Ln = []) := by
 refine Spec.en func31 ntmps31 fun w0 => ?_
 refine G.sr fun _ K1 => ?_
 refine G.mk 2 .bx fun g2 => ?_
 refine G.mk 3 .bx fun g3 => ?_
 refine G.M 4 ?_
 refine G.nk K1 ?_
 refine G.Z fun _ K2 => ?_
 refine G.block ?_
 refine G.sr fun _ K3 => ?_
 refine G.V 6 (.fa f70_5 6) ?_
 refine G.V 7 (.ld t4 0) ?_
 refine G.V 8 .not ?_
 refine G.M 9 ?_
 cases hg4 : (s.good : Bool)
 refine G.O3 10 11 12 ?_
 refine G.V 13 .pick ?_
 refine G.M 14 ?_
 refine G.O4 15 16 17 18 ?_
 refine G.O 19 ?_
 refine G.V 20 .pick ?_
 refine G.M 5 ?_
 refine G.nk K3 ?_
 refine G.yes rfl ?_
 refine G.sr fun _ K5 => ?_
 refine G.M 4 ?_
 refine G.nk K5 ?_
 exact G.ret (G.F [] (.one Tryz.results31) ⟨by unfold healthV; simp [*] at *; try simp [*], rfl⟩)
 refine G.V 10 (.fa f70_2 3) ?_
 refine G.V 11 (.ld t4 0) ?_
 refine G.V 12 .not ?_
 refine G.V 13 .pick ?_
 refine G.M 14 ?_
 cases hg6 : (s.set : Bool)
 refine G.O4 15 16 17 18 ?_
 refine G.O 19 ?_
 refine G.V 20 .pick ?_
 refine G.M 5 ?_
 refine G.nk K3 ?_
 refine G.yes rfl ?_
 refine G.sr fun _ K7 => ?_
 refine G.M 4 ?_
 refine G.nk K7 ?_
 exact G.ret (G.F [] (.one Tryz.results31) ⟨by unfold healthV; simp [*] at *; try simp [*], rfl⟩)
 refine G.V 15 (.fa f70_4 5) ?_
 refine G.V 16 (.ld t3 0) ?_
 refine G.V 17 (.fa f23_2 2) ?_
 refine G.V 18 (.ld t3 1) ?_
 refine G.V 19 .bin ?_
 refine G.V 20 .pick ?_
 refine G.M 5 ?_
 refine G.nk K3 ?_
 refine G.cond rfl (fun hc5 => ?_) (fun hc5 => ?_)
 refine G.sr fun _ K8 => ?_
 refine G.M 4 ?_
 refine G.nk K8 ?_
 exact G.ret (G.F [] (.one Tryz.results31) ⟨by unfold healthV; simp [*] at *; try simp [*], rfl⟩)
 refine G.sr fun _ K9 => ?_
 refine G.V 22 (.fa f70_3 4) ?_
 refine G.V 23 (.ld t3 0) ?_
 refine G.V 24 (.fa f23_9 9) ?_
 refine G.V 25 (.ld t3 1) ?_
 refine G.V 26 .bin ?_
 refine G.M 21 ?_
 refine G.nk K9 ?_
 refine G.cond rfl (fun hc21 => ?_) (fun hc21 => ?_)
 refine G.sr fun _ K10 => ?_
 refine G.M 4 ?_
 refine G.nk K10 ?_
 exact G.ret (G.F [] (.one Tryz.results31) ⟨by unfold healthV; simp [*] at *; try simp [*], rfl⟩)
 refine G.sk K2 ?_
 refine G.sr fun _ K11 => ?_
 refine G.M 4 ?_
 refine G.nk K11 ?_
 exact G.ret (G.F [] (.one Tryz.results31) ⟨by unfold healthV; simp [*] at *; try simp [*], rfl⟩)
theorem sl_Step (p : Par) (time : Int) (set : Bool) (ticks goal : Int) (jump : Bool) : Spec prog 130 [.agg #[.int .i64 time, .bool set], .agg #[.int .i64 p.n, .int .i64 p.f, .int .i64 p.d, .int .i64 p.beat, .int .i64 p.rho, .int .i64 p.delay, .int .i64 p.jitter, .int .i64 p.eps, .int .i64 p.mu, .int .i64 p.hold, .int .i64 p.pulse, .int .i64 p.second], .int .i64 ticks, .int .i64 goal, .bool jump] [] [] (fun v Ln => v = .agg #[.int .i64 (stepV p time set ticks goal jump), .bool true] ∧ Ln = []) := by
 refine Spec.en func130 ntmps130 fun w0 => ?_
 refine G.sr fun _ K1 => ?_
 refine G.mk 5 .bx fun g5 => ?_
 refine G.mk 6 .bx fun g6 => ?_
 refine G.mk 10 (.al z237) fun g10 => ?_
 refine G.nk K1 ?_
 refine G.Z fun _ K2 => ?_
 refine G.sr fun _ K3 => ?_
 refine G.M2 13 14 ?_
 cases hg4 : (jump : Bool)
 refine G.V 15 (.fa f237_1 1) ?_
 refine G.V 16 (.ld t4 2) ?_
 refine G.V 17 .not ?_
 refine G.V 18 .pick ?_
 refine G.nk K3 ?_
 cases hg5 : (set : Bool)
 refine G.yes rfl ?_
 refine G.sr fun _ K6 => ?_
 refine G.M 19 ?_
 refine G.cp 20 [] []  e48 (s_Clip goal) ?_
 refine G.V 21 (.build z237 p237 (cs := #[.int .i64 (clp goal), .bool true])) ?_
 refine G.sn 0 (.st t237 0) rfl ?_
 refine G.nk K6 ?_
 exact G.ret (G.F [] (.cell Tryz.results130 t237 0) ⟨by unfold stepV; simp [*], rfl⟩)
 refine G.no rfl ?_
 refine G.sk K2 ?_
 refine G.sr fun _ K7 => ?_
 refine G.V 22 (.fa f237_0 0) ?_
 refine G.V 23 (.ld t3 2) ?_
 refine G.M 24 ?_
 refine G.row 25 (.sl s24 z3 [.int .i64 time, .int .i64 ticks]) fun g25 => ?_
 refine G.cp 26 [] [0]  e29 (s_Add' g25 2 [time, ticks] rfl (by decide)) ?_
 refine G.M 11 ?_
 refine G.nk K7 ?_
 refine G.Z fun _ K8 => ?_
 refine G.draw 10 [2] [] [] ?_
 refine D.V 0 27 1 .mv ?_
 refine D.V 1 28 3 .mv ?_
 refine D.V 3 30 11 (.fa f23_8 8) ?_
 refine D.V 6 33 75 (.fa f23_8 8) ?_
 refine D.T 4 31 91 (.ld t3 0) [2] [] ?_
 refine D.T 7 34 219 (.ld t3 0) [2] [] ?_
 refine D.C 2 29 223 [] [] [2] []  e33 (s_Sub goal (addL [time, ticks])) ?_
 rintro _ _ ⟨rfl, rfl⟩
 refine D.C 5 32 255 [] [] [2] []  e50 (s_Neg p.mu) ?_
 rintro _ _ ⟨rfl, rfl⟩
 refine D.C 8 35 511 [] [] [2] []  e62 (s_Bound (sbC goal (addL [time, ticks])) (-clp p.mu) p.mu) ?_
 rintro _ _ ⟨rfl, rfl⟩
 refine D.V 9 12 1023 .mv ?_
 refine D.done ?_
 refine K8 _ _ _ ?_
 refine G.sr fun _ K9 => ?_
 refine G.M2 36 37 ?_
 refine G.row 38 (.sl s24 z3 [.int .i64 (addL [time, ticks]), .int .i64 (bnd (sbC goal (addL [time, ticks])) (-clp p.mu) p.mu)]) fun g38 => ?_
 refine G.cp 39 [] [0]  e29 (s_Add' g38 2 [(addL [time, ticks]), (bnd (sbC goal (addL [time, ticks])) (-clp p.mu) p.mu)] rfl (by decide)) ?_
 refine G.V 40 (.build z237 p237 (cs := #[.int .i64 (addL [(addL [time, ticks]), (bnd (sbC goal (addL [time, ticks])) (-clp p.mu) p.mu)]), .bool true])) ?_
 refine G.sn 2 (.st t237 2) rfl ?_
 refine G.nk K9 ?_
 exact G.ret (G.F [] (.cell Tryz.results130 t237 2) ⟨by unfold stepV; simp [*], rfl⟩)
 refine G.O3 15 16 17 ?_
 refine G.V 18 .pick ?_
 refine G.nk K3 ?_
 refine G.yes rfl ?_
 refine G.sr fun _ K10 => ?_
 refine G.M 19 ?_
 refine G.cp 20 [] []  e48 (s_Clip goal) ?_
 refine G.V 21 (.build z237 p237 (cs := #[.int .i64 (clp goal), .bool true])) ?_
 refine G.sn 0 (.st t237 0) rfl ?_
 refine G.nk K10 ?_
 exact G.ret (G.F [] (.cell Tryz.results130 t237 0) ⟨by unfold stepV; simp [*], rfl⟩)
def rightB (t n : Int) : Bool := inB t (-2305843009213693952) 2305843009213693952 && inB n 0 1073741824
theorem t_Right (t n : Int) : Spec prog 86 [.agg #[.int .i64 t, .int .i64 n]] [] [] (fun v Ln => v = .bool (rightB t n) ∧ Ln = []) := by
 refine Spec.en func86 ntmps86 fun w0 => ?_
 refine G.sr fun _ K1 => ?_
 refine G.mk 1 .bx fun g1 => ?_
 refine G.M 2 ?_
 refine G.nk K1 ?_
 refine G.sr fun _ K2 => ?_
 refine G.V 3 (.fa f68_0 0) ?_
 refine G.V 4 (.ld t3 0) ?_
 refine G.V 5 .bin ?_
 refine G.M 6 ?_
 cases hg3 : (decide (t ≥ (-2305843009213693952)) : Bool)
 refine G.O3 7 8 9 ?_
 refine G.V 10 .pick ?_
 refine G.M 11 ?_
 refine G.O3 12 13 14 ?_
 refine G.V 15 .pick ?_
 refine G.M 16 ?_
 refine G.O3 17 18 19 ?_
 refine G.V 20 .pick ?_
 refine G.M 2 ?_
 refine G.nk K2 ?_
 exact G.ret (G.F [] (.one Tryz.results86) ⟨by unfold rightB inB; simp only [*, Bool.true_or, Bool.false_or, Bool.or_true, Bool.or_false, Bool.not_true, Bool.not_false, Bool.true_and, Bool.false_and, if_true, if_false, Bool.false_eq_true]; try rfl, rfl⟩)
 refine G.V 7 (.fa f68_0 0) ?_
 refine G.V 8 (.ld t3 0) ?_
 refine G.V 9 .bin ?_
 refine G.V 10 .pick ?_
 refine G.M 11 ?_
 cases hg4 : (decide (t ≤ 2305843009213693952) : Bool)
 refine G.O3 12 13 14 ?_
 refine G.V 15 .pick ?_
 refine G.M 16 ?_
 refine G.O3 17 18 19 ?_
 refine G.V 20 .pick ?_
 refine G.M 2 ?_
 refine G.nk K2 ?_
 exact G.ret (G.F [] (.one Tryz.results86) ⟨by unfold rightB inB; simp only [*, Bool.true_or, Bool.false_or, Bool.or_true, Bool.or_false, Bool.not_true, Bool.not_false, Bool.true_and, Bool.false_and, if_true, if_false, Bool.false_eq_true]; try rfl, rfl⟩)
 refine G.V 12 (.fa f68_1 1) ?_
 refine G.V 13 (.ld t3 0) ?_
 refine G.V 14 .bin ?_
 refine G.V 15 .pick ?_
 refine G.M 16 ?_
 cases hg5 : (decide (n ≥ 0) : Bool)
 refine G.O3 17 18 19 ?_
 refine G.V 20 .pick ?_
 refine G.M 2 ?_
 refine G.nk K2 ?_
 exact G.ret (G.F [] (.one Tryz.results86) ⟨by unfold rightB inB; simp only [*, Bool.true_or, Bool.false_or, Bool.or_true, Bool.or_false, Bool.not_true, Bool.not_false, Bool.true_and, Bool.false_and, if_true, if_false, Bool.false_eq_true]; try rfl, rfl⟩)
 refine G.V 17 (.fa f68_1 1) ?_
 refine G.V 18 (.ld t3 0) ?_
 refine G.V 19 .bin ?_
 refine G.V 20 .pick ?_
 refine G.M 2 ?_
 refine G.nk K2 ?_
 exact G.ret (G.F [] (.one Tryz.results86) ⟨by unfold rightB inB; simp only [*, Bool.true_or, Bool.false_or, Bool.or_true, Bool.or_false, Bool.not_true, Bool.not_false, Bool.true_and, Bool.false_and, if_true, if_false, Bool.false_eq_true]; try rfl, rfl⟩)
theorem t_Next (t n : Int) : Spec prog 141 [.agg #[.int .i64 t, .int .i64 n]] [] [] (fun v Ln => ∃ t n, v = .agg #[.int .i64 t, .int .i64 n] ∧ RightS t n ∧ Ln = []) := by
 have hb0 := clp_b t
 have hb1 := addL_b [t, 1]
 refine Spec.en func141 ntmps141 fun w0 => ?_
 refine G.sr fun _ K1 => ?_
 refine G.mk 1 .bx fun g1 => ?_
 refine G.mk 2 (.al z68) fun g2 => ?_
 refine G.nk K1 ?_
 refine G.Z fun _ K2 => ?_
 refine G.sr fun _ K3 => ?_
 refine G.V 3 (.fa f68_1 1) ?_
 refine G.V 4 (.ld t3 1) ?_
 refine G.V 5 .bin ?_
 refine G.nk K3 ?_
 refine G.cond rfl (fun hc5 => ?_) (fun hc5 => ?_)
 refine G.sr fun _ K4 => ?_
 refine G.V 6 (.fa f68_0 0) ?_
 refine G.V 7 (.ld t3 1) ?_
 refine G.row 8 (.sl s24 z3 [.int .i64 t, .int .i64 1]) fun g8 => ?_
 refine G.cp 9 [] [0]  e29 (s_Add' g8 2 [t, 1] rfl (by decide)) ?_
 refine G.V 10 (.build z68 p68 (cs := #[.int .i64 (addL [t, 1]), .int .i64 0])) ?_
 refine G.sn 1 (.st t68 1) rfl ?_
 refine G.nk K4 ?_
 exact G.ret (G.F [] (.cell Tryz.results141 t68 1) ⟨_, _, rfl, by have hq := hc5; simp at hq; unfold RightS; first | exact ⟨hb1, by decide⟩ | (unfold mx; split <;> omega), rfl⟩)
 refine G.sk K2 ?_
 refine G.Z fun _ K5 => ?_
 refine G.draw 9 [1] [] [] ?_
 refine D.V 0 11 1 (.fa f68_0 0) ?_
 refine D.V 3 14 9 (.fa f68_1 1) ?_
 refine D.T 1 12 11 (.ld t3 0) [1] [] ?_
 refine D.T 4 15 27 (.ld t3 0) [1] [] ?_
 refine D.V 5 16 59 (.max2 i3) ?_
 refine D.V 6 17 123 (.cast .bin (wi (by have := hc5; simp at this; unfold mx; split <;> omega) (by have := hc5; simp at this; unfold mx; split <;> omega))) ?_
 refine D.C 2 13 127 [] [] [1] []  e48 (s_Clip t) ?_
 rintro _ _ ⟨rfl, rfl⟩
 refine D.V 7 18 255 (.build z68 p68 (cs := #[.int .i64 (clp t), .int .i64 (mx n 0 + 1)])) ?_
 refine D.sto 8 511 0 (.st t68 0) [1] []  rfl ?_
 dsimp only [List.set, sets, Value.cells, List.zipIdx, List.foldl]
 refine D.done ?_
 refine K5 _ _ _ ?_
 exact G.ret (G.F [] (.cell Tryz.results141 t68 0) ⟨_, _, rfl, by have hq := hc5; simp at hq; unfold RightS; first | exact ⟨hb1, by decide⟩ | (unfold mx; split <;> omega), rfl⟩)
theorem t_Tick (t n now : Int) : Spec prog 133 [.agg #[.int .i64 t, .int .i64 n], .int .i64 now] [] [] (fun v Ln => ∃ t n, v = .agg #[.int .i64 t, .int .i64 n] ∧ RightS t n ∧ Ln = []) := by
 have hb0 := clp_b now
 refine Spec.en func133 ntmps133 fun w0 => ?_
 refine G.sr fun _ K1 => ?_
 refine G.mk 2 .bx fun g2 => ?_
 refine G.mk 4 (.al z240) fun g4 => ?_
 refine G.nk K1 ?_
 refine G.Z fun _ K2 => ?_
 refine G.sr fun _ K3 => ?_
 refine G.M 6 ?_
 refine G.cp 7 [] []  e48 (s_Clip now) ?_
 refine G.M 5 ?_
 refine G.nk K3 ?_
 refine G.sr fun _ K4 => ?_
 refine G.M 8 ?_
 refine G.V 9 (.fa f240_0 0) ?_
 refine G.V 10 (.fa f68_0 0) ?_
 refine G.V 11 (.ld t3 1) ?_
 refine G.V 12 .bin ?_
 refine G.nk K4 ?_
 refine G.cond rfl (fun hc12 => ?_) (fun hc12 => ?_)
 refine G.sr fun _ K5 => ?_
 refine G.M 13 ?_
 refine G.V 14 (.build z68 p68 (cs := #[.int .i64 (clp now), .int .i64 0])) ?_
 refine G.V 15 (.build z240 p240 (cs := #[.int .i64 (clp now), .int .i64 0])) ?_
 refine G.sn 0 (.st t240 0) rfl ?_
 refine G.nk K5 ?_
 exact G.ret (G.F [] (.cell Tryz.results133 t240 0) ⟨_, _, rfl, by first | exact hR1 | exact ⟨hb0, by decide⟩, rfl⟩)
 refine G.sk K2 ?_
 refine G.sr fun _ K6 => ?_
 refine G.V 16 (.fa f240_0 0) ?_
 refine G.V 17 (.lda t68 1) ?_
 refine G.C 18 [] []  e141 (t_Next t n) ?_
 rintro _ _ ⟨t1, n1, rfl, hR1, rfl⟩
 refine G.V 19 (.build z240 p240 (cs := #[.int .i64 t1, .int .i64 n1])) ?_
 refine G.sn 0 (.st t240 0) rfl ?_
 refine G.nk K6 ?_
 exact G.ret (G.F [] (.cell Tryz.results133 t240 0) ⟨_, _, rfl, by first | exact hR1 | exact ⟨hb0, by decide⟩, rfl⟩)
theorem rightB_t {t n : Int} (h : rightB t n = true) : RightS t n := by unfold rightB at h; simp only [Bool.and_eq_true] at h; exact ⟨inB_t h.1, inB_t h.2⟩
theorem t_Mend (t n now most : Int) : Spec prog 131 [.agg #[.int .i64 t, .int .i64 n], .int .i64 now, .int .i64 most] [] [] (fun v Ln => ∃ t n, ∃ b : Bool, v = .tuple #[.agg #[.int .i64 t, .int .i64 n], .bool b] ∧ RightS t n ∧ Ln = []) := by
 have hb0 := clp_b now
 refine Spec.en func131 ntmps131 fun w0 => ?_
 refine G.sr fun _ K1 => ?_
 refine G.mk 3 .bx fun g3 => ?_
 refine G.mk 6 (.al z240) fun g6 => ?_
 refine G.M 7 ?_
 refine G.nk K1 ?_
 refine G.Z fun _ K2 => ?_
 refine G.sr fun _ K3 => ?_
 refine G.V 8 (.fa f240_0 0) ?_
 refine G.V 9 (.lda t68 1) ?_
 refine G.cp 10 [] []  e86 (t_Right t n) ?_
 refine G.M 11 ?_
 cases hg4 : (rightB t n : Bool)
 refine G.O4 12 13 14 15 ?_
 refine G.O 16 ?_
 refine G.V 17 .pick ?_
 refine G.nk K3 ?_
 refine G.no rfl ?_
 refine G.sk K2 ?_
 refine G.sr fun _ K5 => ?_
 refine G.M 19 ?_
 refine G.cp 20 [] []  e48 (s_Clip now) ?_
 refine G.V 21 (.build z68 p68 (cs := #[.int .i64 (clp now), .int .i64 0])) ?_
 refine G.V 22 (.build z240 p240 (cs := #[.int .i64 (clp now), .int .i64 0])) ?_
 refine G.sn 0 (.st t240 0) rfl ?_
 refine G.M 7 ?_
 refine G.nk K5 ?_
 exact G.ret (G.F [] (.cell1 Tryz.results131 t240 0) ⟨_, _, _, rfl, by first | exact rightB_t (by assumption) | exact ⟨hb0, by decide⟩, rfl⟩)
 refine G.V 12 (.fa f240_0 0) ?_
 refine G.V 13 (.fa f68_0 0) ?_
 refine G.V 14 (.ld t3 1) ?_
 refine G.M 15 ?_
 refine G.V 16 .bin ?_
 refine G.V 17 .pick ?_
 refine G.nk K3 ?_
 refine G.cond rfl (fun hc17 => ?_) (fun hc17 => ?_)
 refine G.sr fun _ K6 => ?_
 refine G.V 18 (.lda t240 1) ?_
 refine G.sn 0 (.st t240 0) rfl ?_
 refine G.M 7 ?_
 refine G.nk K6 ?_
 exact G.ret (G.F [] (.cell1 Tryz.results131 t240 0) ⟨_, _, _, rfl, by first | exact rightB_t (by assumption) | exact ⟨hb0, by decide⟩, rfl⟩)
 refine G.sk K2 ?_
 refine G.sr fun _ K7 => ?_
 refine G.M 19 ?_
 refine G.cp 20 [] []  e48 (s_Clip now) ?_
 refine G.V 21 (.build z68 p68 (cs := #[.int .i64 (clp now), .int .i64 0])) ?_
 refine G.V 22 (.build z240 p240 (cs := #[.int .i64 (clp now), .int .i64 0])) ?_
 refine G.sn 0 (.st t240 0) rfl ?_
 refine G.M 7 ?_
 refine G.nk K7 ?_
 exact G.ret (G.F [] (.cell1 Tryz.results131 t240 0) ⟨_, _, _, rfl, by first | exact rightB_t (by assumption) | exact ⟨hb0, by decide⟩, rfl⟩)
def lessB (t n u m : Int) : Bool := decide (t < u) || (t == u && decide (n < m))
theorem t_Less (t n u m : Int) : Spec prog 199 [.agg #[.int .i64 t, .int .i64 n], .agg #[.int .i64 u, .int .i64 m]] [] [] (fun v Ln => v = .bool (lessB t n u m) ∧ Ln = []) := by
 refine Spec.en func199 ntmps199 fun w0 => ?_
 refine G.sr fun _ K1 => ?_
 refine G.mk 2 .bx fun g2 => ?_
 refine G.mk 3 .bx fun g3 => ?_
 refine G.M 4 ?_
 refine G.nk K1 ?_
 refine G.sr fun _ K2 => ?_
 refine G.V 5 (.fa f68_0 0) ?_
 refine G.V 6 (.ld t3 1) ?_
 refine G.V 7 (.fa f68_0 0) ?_
 refine G.V 8 (.ld t3 0) ?_
 refine G.V 9 .bin ?_
 refine G.M 10 ?_
 cases hg3 : (decide (t < u) : Bool)
 refine G.V 11 (.fa f68_0 0) ?_
 refine G.V 12 (.ld t3 1) ?_
 refine G.V 13 (.fa f68_0 0) ?_
 refine G.V 14 (.ld t3 0) ?_
 refine G.V 15 .bin ?_
 refine G.M 16 ?_
 cases hg4 : (t == u : Bool)
 refine G.O4 17 18 19 20 ?_
 refine G.O 21 ?_
 refine G.V 22 .pick ?_
 refine G.V 23 .pick ?_
 refine G.M 4 ?_
 refine G.nk K2 ?_
 exact G.ret (G.F [] (.one Tryz.results199) ⟨by unfold lessB; simp [*], rfl⟩)
 refine G.V 17 (.fa f68_1 1) ?_
 refine G.V 18 (.ld t3 1) ?_
 refine G.V 19 (.fa f68_1 1) ?_
 refine G.V 20 (.ld t3 0) ?_
 refine G.V 21 .bin ?_
 refine G.V 22 .pick ?_
 refine G.V 23 .pick ?_
 refine G.M 4 ?_
 refine G.nk K2 ?_
 exact G.ret (G.F [] (.one Tryz.results199) ⟨by unfold lessB; simp [*], rfl⟩)
 refine G.O4 11 12 13 14 ?_
 refine G.O4 15 16 17 18 ?_
 refine G.O4 19 20 21 22 ?_
 refine G.V 23 .pick ?_
 refine G.M 4 ?_
 refine G.nk K2 ?_
 exact G.ret (G.F [] (.one Tryz.results199) ⟨by unfold lessB; simp [*], rfl⟩)
def stl (l : List (Int × Int)) : List Value := l.flatMap fun x => [.int .i64 x.1, .int .i64 x.2]
theorem stl_at {l : List (Int × Int)} : ∀ {k : Nat}, k < l.length → ((stl l).drop (k * 2)).take 2 = [.int .i64 (l.getD k (0, 0)).1, .int .i64 (l.getD k (0, 0)).2] := by
 induction l with
 | nil => intro k h; simp at h
 | cons x l ih =>
  intro k h
  cases k with
  | zero => rfl
  | succ k =>
   have e : (stl (x :: l)).drop ((k + 1) * 2) = (stl l).drop (k * 2) := by rw [show (k + 1) * 2 = 2 + k * 2 from by omega, ← List.drop_drop]; rfl
   rw [e, ih (by simpa using h)]
   simp
theorem stl_at1 {l : List (Int × Int)} {k : Nat} (h : k + 1 < l.length) : ((stl l).drop (0 + 1 * 2 + k * 2)).take 2 = [.int .i64 (l.getD (k + 1) (0, 0)).1, .int .i64 (l.getD (k + 1) (0, 0)).2] := by
 rw [show 0 + 1 * 2 + k * 2 = (k + 1) * 2 from by omega]
 exact stl_at h
theorem t_later (b : Nat) (l : List (Int × Int)) (h0 : 1 < l.length) (h1 : l.length < 100) : Spec prog 193 [.slice (some ⟨b, 0, none⟩) l.length l.length] [] [blk b (stl l) 68] (fun v Ln => ∃ t n, v = .agg #[.int .i64 t, .int .i64 n] ∧ Ln = []) := by
 refine Spec.en func193 ntmps193 fun w0 => ?_
 refine G.sr fun _ K1 => ?_
 refine G.mk 2 (.al z68) fun g2 => ?_
 refine G.nk K1 ?_
 refine G.sr fun _ K2 => ?_
 refine G.M 6 ?_
 refine G.V 7 (.is s310 0 (show 0 < l.length by omega)) ?_
 refine G.V 8 (.lda t68 1 (hv := stl_at (k := 0) (by omega))) ?_
 refine G.mk 3 (.al z68) fun g3 => ?_
 refine G.sn 0 (.st t68 0) rfl ?_
 refine G.nk K2 ?_
 refine G.Z fun _ K3 => ?_
 refine G.sr fun _ K4 => ?_
 refine G.M 9 ?_
 refine G.V 10 (.slo s310 1 (show 1 ≤ l.length by omega) (show 1 < l.length by omega)) ?_
 refine G.V 11 (.lenl s310) ?_
 refine G.M 12 ?_
 refine G.nk K4 ?_
 refine G.block ?_
 refine G.lpR (ι := {k : Nat // k ≤ l.length - 1} × Int × Int) (fun ⟨⟨k, hj⟩, t, n⟩ => l.length - 1 - k) (fun ⟨⟨k, hj⟩, t, n⟩ => [(2, .pointer (some ⟨g2, 0, none⟩)), (3, .pointer (some ⟨g3, 0, none⟩)), (10, .slice (some ⟨b, 0 + 1 * 2, none⟩) (l.length - 1) (l.length - 1)), (11, .int .i64 ((l.length - 1 : Nat) : Int)), (12, .int .i64 (k : Int))]) (fun ⟨⟨k, hj⟩, t, n⟩ => [blk g3 [.int .i64 t, .int .i64 n] 68, blk g2 [.int .i64 0, .int .i64 0] 68]) ?_ ?_
 exact G.at ⟨⟨0, Nat.zero_le _⟩, _, _⟩ (ts := [2, 3, 10, 11, 12]) rfl rfl rfl rfl
 rintro ⟨⟨k, hj⟩, t, n⟩ _ K5
 try dsimp only at K5 ⊢
 refine G.sr fun _ K6 => ?_
 refine G.V 13 .bin ?_
 refine G.nk K6 ?_
 refine G.Z fun _ K7 => ?_
 refine G.cond rfl (fun hc13 => ?_) (fun hc13 => ?_)
 have hk : k < l.length - 1 := by have := of_decide_eq_true hc13; omega
 refine G.sk K7 ?_
 refine G.Z fun _ K8 => ?_
 refine G.block ?_
 refine G.sr fun _ K9 => ?_
 refine G.V 14 (.is s310 k (by omega)) ?_
 refine G.V 15 (.lda t68 2 (hv := stl_at1 (by omega))) ?_
 refine G.mk 5 (.al z68) fun g5 => ?_
 refine G.sn 0 (.st t68 0) rfl ?_
 refine G.nk K9 ?_
 refine G.sr fun _ K10 => ?_
 refine G.V 16 (.lda t68 1) ?_
 refine G.V 17 (.lda t68 0) ?_
 refine G.cp 18 [] []  e199 (t_Less t n ((l.getD (k + 1) (0, 0)).1) ((l.getD (k + 1) (0, 0)).2)) ?_
 refine G.nk K10 ?_
 refine G.cond rfl (fun hc18 => ?_) (fun hc18 => ?_)
 refine G.region ?_
 refine G.V 19 (.lda t68 0) ?_
 refine G.sn 1 (.st t68 1) rfl ?_
 refine G.nk K8 ?_
 refine G.region ?_
 refine G.V 20 .bw ?_
 refine G.M 12 ?_
 refine G.nil ?_
 refine G.only [1, 1] ?_
 refine K5 _ _ _ ?_
 exact G.less ⟨⟨k + 1, hk⟩, _, _⟩ (ts := [2, 3, 10, 11, 12]) (by dsimp only; omega) rfl rfl rfl rfl
 refine G.sk K8 ?_
 refine G.region ?_
 refine G.V 20 .bw ?_
 refine G.M 12 ?_
 refine G.nil ?_
 refine G.only [1, 1] ?_
 refine K5 _ _ _ ?_
 exact G.less ⟨⟨k + 1, hk⟩, _, _⟩ (ts := [2, 3, 10, 11, 12]) (by dsimp only; omega) rfl rfl rfl rfl
 refine G.exit ?_
 refine K3 _ _ _ ?_
 refine G.sr fun _ K11 => ?_
 refine G.V 21 (.lda t68 0) ?_
 refine G.sn 1 (.st t68 1) rfl ?_
 refine G.nk K11 ?_
 exact G.ret (G.F [] (.cell Tryz.results193 t68 1) ⟨_, _, rfl, rfl⟩)
theorem t_Hear (t n now u m most : Int) : Spec prog 186 [.agg #[.int .i64 t, .int .i64 n], .int .i64 now, .agg #[.int .i64 u, .int .i64 m], .int .i64 most] [] [] (fun v Ln => ∃ t n, ∃ b : Bool, v = .tuple #[.agg #[.int .i64 t, .int .i64 n], .bool b] ∧ RightS t n ∧ Ln = []) := by
 refine Spec.en func186 ntmps186 fun w0 => ?_
 refine G.sr fun _ K1 => ?_
 refine G.mk 4 .bx fun g4 => ?_
 refine G.mk 6 .bx fun g6 => ?_
 refine G.mk 8 (.al z240) fun g8 => ?_
 refine G.M 9 ?_
 refine G.nk K1 ?_
 refine G.Z fun _ K2 => ?_
 refine G.sr fun _ K3 => ?_
 refine G.V 10 (.lda t68 1) ?_
 refine G.cp 11 [] []  e86 (t_Right u m) ?_
 refine G.V 12 .not ?_
 refine G.M 13 ?_
 cases hg4 : (rightB u m : Bool)
 refine G.O4 14 15 16 17 ?_
 refine G.V 18 .pick ?_
 refine G.nk K3 ?_
 refine G.yes rfl ?_
 refine G.sr fun _ K5 => ?_
 refine G.V 19 (.lda t240 2) ?_
 refine G.M 20 ?_
 refine G.C 21 [] []  e133 (t_Tick t n now) ?_
 rintro _ _ ⟨t2, n2, rfl, hR2, rfl⟩
 refine G.sn 0 (.st t240 0) rfl ?_
 refine G.M 9 ?_
 refine G.nk K5 ?_
 exact G.ret (G.F [] (.cell1 Tryz.results186 t240 0) ⟨_, _, _, rfl, by first | exact hR1 | exact hR2, rfl⟩)
 refine G.V 14 (.fa f68_0 0) ?_
 refine G.V 15 (.ld t3 1) ?_
 refine G.M 16 ?_
 refine G.V 17 .bin ?_
 refine G.V 18 .pick ?_
 refine G.nk K3 ?_
 refine G.cond rfl (fun hc18 => ?_) (fun hc18 => ?_)
 refine G.sr fun _ K6 => ?_
 refine G.V 19 (.lda t240 2) ?_
 refine G.M 20 ?_
 refine G.C 21 [] []  e133 (t_Tick t n now) ?_
 rintro _ _ ⟨t2, n2, rfl, hR2, rfl⟩
 refine G.sn 0 (.st t240 0) rfl ?_
 refine G.M 9 ?_
 refine G.nk K6 ?_
 exact G.ret (G.F [] (.cell1 Tryz.results186 t240 0) ⟨_, _, _, rfl, by first | exact hR1 | exact hR2, rfl⟩)
 refine G.sk K2 ?_
 refine G.Z fun _ K7 => ?_
 refine G.draw 12 [1, 2] [] [] ?_
 refine D.V 0 22 1 (.fa f240_0 0) ?_
 refine D.V 3 25 9 .mv ?_
 refine D.T 1 23 11 (.lda t68 1) [1, 2] [] ?_
 refine D.T 2 24 15 (.lda t68 0) [1, 2] [] ?_
 refine D.C 4 26 31 [] [] [1, 2] []  e48 (s_Clip now) ?_
 rintro _ _ ⟨rfl, rfl⟩
 refine D.V 5 27 63 (.build z68 p68 (cs := #[.int .i64 (clp now), .int .i64 (-1)])) ?_
 refine D.ev 6 127 ?_
 refine E.row 6 28 (.sl s310 z68 [.int .i64 t, .int .i64 n, .int .i64 u, .int .i64 m, .int .i64 (clp now), .int .i64 (-1)]) [1, 2] []  fun g28 => ?_
 refine D.C 7 29 255 [] [0] [2, 3] []  e193 (t_later g28 [(t, n), (u, m), ((clp now), (-1))] (by simp) (by simp)) ?_
 rintro _ _ ⟨t3, n3, rfl, rfl⟩
 refine D.C 8 30 511 [] [] [2, 3] []  e141 (t_Next t3 n3) ?_
 rintro _ _ ⟨t1, n1, rfl, hR1, rfl⟩
 refine D.V 9 31 1023 (.build z240 p240 (cs := #[.int .i64 t1, .int .i64 n1])) ?_
 refine D.sto 10 2047 1 (.st t240 1) [2, 3] []  rfl ?_
 dsimp only [List.set, sets, Value.cells, List.zipIdx, List.foldl]
 refine D.V 11 9 4095 .mv ?_
 refine D.done ?_
 refine K7 _ _ _ ?_
 exact G.ret (G.F [] (.cell1 Tryz.results186 t240 1) ⟨_, _, _, rfl, by first | exact hR1 | exact hR2, rfl⟩)
theorem div_all {a c : Int} (h1 : -2305843009213693952 ≤ a) (h2 : a ≤ 2305843009213693952) (h3 : 1 ≤ c) (h4 : c ≤ 2305843009213693952) : (-2305843009213693952 ≤ a.tdiv c ∧ a.tdiv c ≤ 2305843009213693952) ∧ (a.tmod c < 0 → -2305843009213693952 ≤ a.tdiv c - 1) ∧ -2305843009213693952 ≤ a.tmod c ∧ a.tmod c ≤ 2305843009213693952 := by
 rcases Int.lt_or_le a 0 with h | h
 ·obtain ⟨b, rfl⟩ : ∃ b, a = -b := ⟨-a, by omega⟩
  rw [Int.neg_tdiv, Int.neg_tmod, Int.tdiv_eq_ediv_of_nonneg (by omega), Int.tmod_eq_emod_of_nonneg (by omega)]
  have h5 := div_b (a := b) (c := c) (by omega) h3
  have h6 := mod_b (a := b) h3
  refine ⟨⟨by omega, by omega⟩, fun q => ?_, by omega, by omega⟩
  have := div_up (a := b) (c := c) (by omega) h3 (by omega)
  omega
 ·rw [Int.tdiv_eq_ediv_of_nonneg h, Int.tmod_eq_emod_of_nonneg h]
  have h5 := div_b h h3
  have h6 := mod_b (a := a) h3
  exact ⟨⟨by omega, by omega⟩, fun q => by omega, by omega, by omega⟩
theorem mx1 (c : Int) : 1 ≤ mx (clp c) 1 ∧ mx (clp c) 1 ≤ 2305843009213693952 := by have := clp_b c; unfold mx; split <;> omega
theorem w_Div (a c : Int) : Spec prog 147 [.int .i64 a, .int .i64 c] [] [] (fun v Ln => ∃ q r : Int, v = .tuple #[.int .i64 q, .int .i64 r] ∧ (-2305843009213693952 ≤ q ∧ q ≤ 2305843009213693952) ∧ Ln = []) := by
 have hb0 := clp_b a
 have hb1 := mx1 c
 have hd := div_all hb0.1 hb0.2 hb1.1 hb1.2
 refine Spec.en func147 ntmps147 fun w0 => ?_
 refine G.sr fun _ K1 => ?_
 refine G.M2 4 5 ?_
 refine G.nk K1 ?_
 refine G.sr fun _ K2 => ?_
 refine G.M 8 ?_
 refine G.cp 9 [] []  e48 (s_Clip a) ?_
 refine G.M 10 ?_
 refine G.cp 11 [] []  e48 (s_Clip c) ?_
 refine G.V 12 (.max2 i3) ?_
 refine G.M2 0 1 ?_
 refine G.nk K2 ?_
 refine G.Z fun _ K3 => ?_
 refine G.draw 8 [] [] [] ?_
 refine D.V 0 13 1 .mv ?_
 refine D.V 1 14 3 .mv ?_
 refine D.V 2 15 7 (.quo (a := clp a) (b := mx (clp c) 1) (r := (clp a).tdiv (mx (clp c) 1)) (by omega) (by exact wr (by omega) (by omega))) ?_
 refine D.V 3 16 15 .mv ?_
 refine D.V 4 17 31 .mv ?_
 refine D.V 5 18 63 (.rem (a := clp a) (b := mx (clp c) 1) (r := (clp a).tmod (mx (clp c) 1)) (by omega) rfl) ?_
 refine D.V 6 6 127 .mv ?_
 refine D.V 7 7 255 .mv ?_
 refine D.done ?_
 refine K3 _ _ _ ?_
 refine G.Z fun _ K4 => ?_
 refine G.sr fun _ K5 => ?_
 refine G.M 19 ?_
 refine G.V 20 .bin ?_
 refine G.nk K5 ?_
 refine G.cond rfl (fun hc20 => ?_) (fun hc20 => ?_)
 have hm := hd.2.1 (of_decide_eq_true hc20)
 have hmm := of_decide_eq_true hc20
 refine G.region ?_
 refine G.M 21 ?_
 refine G.V 22 .bw ?_
 refine G.M2 23 24 ?_
 refine G.V 25 .bw ?_
 refine G.M2 6 7 ?_
 refine G.nk K4 ?_
 refine G.sr fun _ K6 => ?_
 refine G.M4 26 27 4 5 ?_
 refine G.nk K6 ?_
 exact G.ret (G.F [] (.two Tryz.results147) ⟨_, _, rfl, by omega, rfl⟩)
 refine G.sk K4 ?_
 refine G.sr fun _ K7 => ?_
 refine G.M4 26 27 4 5 ?_
 refine G.nk K7 ?_
 exact G.ret (G.F [] (.two Tryz.results147) ⟨_, _, rfl, by omega, rfl⟩)
theorem p_Number (p : Par) (t : Int) : Spec prog 142 [.agg #[.int .i64 p.n, .int .i64 p.f, .int .i64 p.d, .int .i64 p.beat, .int .i64 p.rho, .int .i64 p.delay, .int .i64 p.jitter, .int .i64 p.eps, .int .i64 p.mu, .int .i64 p.hold, .int .i64 p.pulse, .int .i64 p.second], .int .i64 t] [] [] (fun v Ln => ∃ q : Int, v = .int .i64 q ∧ (-2305843009213693952 ≤ q ∧ q ≤ 2305843009213693952) ∧ Ln = []) := by
 refine Spec.en func142 ntmps142 fun w0 => ?_
 refine G.sr fun _ K1 => ?_
 refine G.mk 2 .bx fun g2 => ?_
 refine G.M 4 ?_
 refine G.nk K1 ?_
 refine G.sr fun _ K2 => ?_
 refine G.M 8 ?_
 refine G.V 9 (.fa f23_10 10) ?_
 refine G.V 10 (.ld t3 0) ?_
 refine G.C 11 [] []  e147 (w_Div t p.pulse) ?_
 rintro _ _ ⟨q1, r1, rfl, hq1, rfl⟩
 refine G.M 7 ?_
 refine G.V 12 .ext ?_
 refine G.V 13 .ext ?_
 refine G.M2 5 6 ?_
 refine G.nk K2 ?_
 refine G.sr fun _ K3 => ?_
 refine G.M2 14 4 ?_
 refine G.nk K3 ?_
 exact G.ret (G.F [] (.one Tryz.results142) ⟨_, rfl, hq1, rfl⟩)
theorem r_Lost (p : Par) (h : p.d ≤ 16) (h0 : 0 ≤ p.d) : Spec prog 178 [.agg #[.int .i64 p.n, .int .i64 p.f, .int .i64 p.d, .int .i64 p.beat, .int .i64 p.rho, .int .i64 p.delay, .int .i64 p.jitter, .int .i64 p.eps, .int .i64 p.mu, .int .i64 p.hold, .int .i64 p.pulse, .int .i64 p.second]] [] [] (fun v Ln => v = .int .i64 (p.d + 1) ∧ Ln = []) := by
 refine Spec.en func178 ntmps178 fun w0 => ?_
 refine G.sr fun _ K1 => ?_
 refine G.mk 1 .bx fun g1 => ?_
 refine G.M 2 ?_
 refine G.nk K1 ?_
 refine G.sr fun _ K2 => ?_
 refine G.V 3 (.fa f23_2 2) ?_
 refine G.V 4 (.ld t3 0) ?_
 refine G.V 5 .bw ?_
 refine G.M 2 ?_
 refine G.nk K2 ?_
 exact G.ret (G.F [] (.one Tryz.results178) ⟨rfl, rfl⟩)
theorem e82 : Is prog 82 := ⟨_, func82, by kernel_rfl, rfl⟩
theorem e171 : Is prog 171 := ⟨_, func171, by kernel_rfl, rfl⟩
theorem e191 : Is prog 191 := ⟨_, func191, by kernel_rfl, rfl⟩
theorem e192 : Is prog 192 := ⟨_, func192, by kernel_rfl, rfl⟩
theorem e197 : Is prog 197 := ⟨_, func197, by kernel_rfl, rfl⟩
theorem e198 : Is prog 198 := ⟨_, func198, by kernel_rfl, rfl⟩
theorem f107_0 : tfield prog 107 0 = some 0 := by kernel_rfl
theorem f107_1 : tfield prog 107 1 = some 1 := by kernel_rfl
theorem f107_2 : tfield prog 107 2 = some 2 := by kernel_rfl
theorem f107_3 : tfield prog 107 3 = some 4 := by kernel_rfl
theorem f107_4 : tfield prog 107 4 = some 5 := by kernel_rfl
theorem f107_5 : tfield prog 107 5 = some 6 := by kernel_rfl
theorem p107 : tplaces prog 107 = some [(0, 1), (1, 1), (2, 2), (4, 1), (5, 1), (6, 1), (7, 1), (8, 2), (10, 1), (11, 2), (13, 1)] := by kernel_rfl
theorem s100 : tslice prog 100 = some (107, 14) := by kernel_rfl
theorem t107 : tsz prog 107 = some (true, 14) := by kernel_rfl
theorem z107 : tzero prog 107 = some [.int .i64 0, .int .i64 0, .int .i64 0, .int .i64 0, .int .i64 0, .int .i64 0, .bool false, .bool false, .int .i64 0, .int .i64 0, .int .i64 0, .int .i64 0, .int .i64 0, .slice none 0 0] := by kernel_rfl
structure Ms where
 (kind src lo hi held hops : Int)
 (good ref : Bool)
 (slo shi pulse st sn : Int)
 ta : Option Addr
 (tl tc : Nat)
def Ms.cells (m : Ms) : List Value := [.int .i64 m.kind, .int .i64 m.src, .int .i64 m.lo, .int .i64 m.hi, .int .i64 m.held, .int .i64 m.hops, .bool m.good, .bool m.ref, .int .i64 m.slo, .int .i64 m.shi, .int .i64 m.pulse, .int .i64 m.st, .int .i64 m.sn, .slice m.ta m.tl m.tc]
def Ms.zero : Ms := ⟨0, 0, 0, 0, 0, 0, false, false, 0, 0, 0, 0, 0, none, 0, 0⟩
theorem flat_at {α : Type} (f : α → List Value) {n : Nat} (hf : ∀ x, (f x).length = n) : ∀ {l : List α} {k : Nat} {x : α}, l[k]? = some x → ((l.flatMap f).drop (k * n)).take n = f x := by
 intro l
 induction l with
 | nil => intro k x h; simp at h
 | cons y l ih =>
  intro k x h
  cases k with
  | zero =>
   obtain rfl : y = x := by simpa using h
   simp only [Nat.zero_mul, List.drop_zero, List.flatMap_cons]
   rw [← hf y, List.take_left']
   rfl
  | succ k =>
   have e : ((y :: l).flatMap f).drop ((k + 1) * n) = (l.flatMap f).drop (k * n) := by
    rw [List.flatMap_cons, show (k + 1) * n = n + k * n from by rw [Nat.succ_mul]; omega, ← List.drop_drop, ← hf y, List.drop_left']
    rfl
   rw [e, ih (by simpa using h)]
def msl (l : List Ms) : List Value := l.flatMap Ms.cells
theorem msl_at {l : List Ms} {k : Nat} {x : Ms} (h : l[k]? = some x) : ((msl l).drop (0 + k * 14)).take 14 = [.int .i64 x.kind, .int .i64 x.src, .int .i64 x.lo, .int .i64 x.hi, .int .i64 x.held, .int .i64 x.hops, .bool x.good, .bool x.ref, .int .i64 x.slo, .int .i64 x.shi, .int .i64 x.pulse, .int .i64 x.st, .int .i64 x.sn, .slice x.ta x.tl x.tc] := by rw [Nat.zero_add]; exact flat_at Ms.cells (fun _ => rfl) h
def usableB (p : Par) (m : Ms) : Bool := m.kind == 2 && (m.good && (decide (m.hops ≥ 0) && (decide (m.hops < p.d) && !(decide (m.lo > m.hi)))))
def cmpV (a b : Int) : Int := if a < b then -1 else if a > b then 1 else 0
def orV : List Int → Int
 | [] => 0
 | x :: l => if x ≠ 0 then x else orV l
def betterV (a b : Ms) : Int := orV [cmpV a.hops b.hops, cmpV a.held b.held, cmpV a.src b.src]
theorem r_Usable (p : Par) (m : Ms) : Spec prog 191 [.agg #[.int .i64 p.n, .int .i64 p.f, .int .i64 p.d, .int .i64 p.beat, .int .i64 p.rho, .int .i64 p.delay, .int .i64 p.jitter, .int .i64 p.eps, .int .i64 p.mu, .int .i64 p.hold, .int .i64 p.pulse, .int .i64 p.second], .agg #[.int .i64 m.kind, .int .i64 m.src, .int .i64 m.lo, .int .i64 m.hi, .int .i64 m.held, .int .i64 m.hops, .bool m.good, .bool m.ref, .int .i64 m.slo, .int .i64 m.shi, .int .i64 m.pulse, .int .i64 m.st, .int .i64 m.sn, .slice m.ta m.tl m.tc]] [] [] (fun v Ln => v = .bool (usableB p m) ∧ Ln = []) := by
 refine Spec.en func191 ntmps191 fun w0 => ?_
 refine G.sr fun _ K1 => ?_
 refine G.mk 2 .bx fun g2 => ?_
 refine G.mk 3 .bx fun g3 => ?_
 refine G.M 4 ?_
 refine G.nk K1 ?_
 refine G.sr fun _ K2 => ?_
 refine G.V 5 (.fa f107_0 0) ?_
 refine G.V 6 (.ld t3 0) ?_
 refine G.V 7 .bin ?_
 refine G.M 8 ?_
 cases hg3 : (m.kind == 2 : Bool)
 refine G.O2 9 10 ?_
 refine G.V 11 .pick ?_
 refine G.M 12 ?_
 refine G.O3 13 14 15 ?_
 refine G.V 16 .pick ?_
 refine G.M 17 ?_
 refine G.O4 18 19 20 21 ?_
 refine G.O 22 ?_
 refine G.V 23 .pick ?_
 refine G.M 24 ?_
 refine G.O4 25 26 27 28 ?_
 refine G.V 29 .pick ?_
 refine G.M 4 ?_
 refine G.nk K2 ?_
 exact G.ret (G.F [] (.one Tryz.results191) ⟨by unfold usableB; simp [*], rfl⟩)
 refine G.V 9 (.fa f107_5 6) ?_
 refine G.V 10 (.ld t4 0) ?_
 refine G.V 11 .pick ?_
 refine G.M 12 ?_
 cases hg4 : (m.good : Bool)
 refine G.O3 13 14 15 ?_
 refine G.V 16 .pick ?_
 refine G.M 17 ?_
 refine G.O4 18 19 20 21 ?_
 refine G.O 22 ?_
 refine G.V 23 .pick ?_
 refine G.M 24 ?_
 refine G.O4 25 26 27 28 ?_
 refine G.V 29 .pick ?_
 refine G.M 4 ?_
 refine G.nk K2 ?_
 exact G.ret (G.F [] (.one Tryz.results191) ⟨by unfold usableB; simp [*], rfl⟩)
 refine G.V 13 (.fa f107_4 5) ?_
 refine G.V 14 (.ld t3 0) ?_
 refine G.V 15 .bin ?_
 refine G.V 16 .pick ?_
 refine G.M 17 ?_
 cases hg5 : (decide (m.hops ≥ 0) : Bool)
 refine G.O4 18 19 20 21 ?_
 refine G.O 22 ?_
 refine G.V 23 .pick ?_
 refine G.M 24 ?_
 refine G.O4 25 26 27 28 ?_
 refine G.V 29 .pick ?_
 refine G.M 4 ?_
 refine G.nk K2 ?_
 exact G.ret (G.F [] (.one Tryz.results191) ⟨by unfold usableB; simp [*], rfl⟩)
 refine G.V 18 (.fa f107_4 5) ?_
 refine G.V 19 (.ld t3 0) ?_
 refine G.V 20 (.fa f23_2 2) ?_
 refine G.V 21 (.ld t3 1) ?_
 refine G.V 22 .bin ?_
 refine G.V 23 .pick ?_
 refine G.M 24 ?_
 cases hg6 : (decide (m.hops < p.d) : Bool)
 refine G.O4 25 26 27 28 ?_
 refine G.V 29 .pick ?_
 refine G.M 4 ?_
 refine G.nk K2 ?_
 exact G.ret (G.F [] (.one Tryz.results191) ⟨by unfold usableB; simp [*], rfl⟩)
 refine G.V 25 (.fa f107_2 2) ?_
 refine G.V 26 (.lda t49 0) ?_
 refine G.cp 27 [] []  e82 (sp_Empty m.lo m.hi) ?_
 refine G.V 28 .not ?_
 refine G.V 29 .pick ?_
 refine G.M 4 ?_
 refine G.nk K2 ?_
 exact G.ret (G.F [] (.one Tryz.results191) ⟨by unfold usableB; simp [*], rfl⟩)
theorem c_isNaN (x : Int) : Spec prog 171 [.int .i64 x] [] [] (fun v Ln => v = .bool false ∧ Ln = []) := by
 refine Spec.en func171 ntmps171 fun w0 => ?_
 refine G.sr fun _ K1 => ?_
 refine G.M 2 ?_
 refine G.nk K1 ?_
 refine G.sr fun _ K2 => ?_
 refine G.M2 3 4 ?_
 refine G.V 5 (.cast .bin (nf rfl)) ?_
 refine G.M 2 ?_
 refine G.nk K2 ?_
 exact G.ret (G.F [] (.one Tryz.results171) ⟨rfl, rfl⟩)
theorem c_Compare (a b : Int) : Spec prog 198 [.int .i64 a, .int .i64 b] [] [] (fun v Ln => v = .int .i64 (cmpV a b) ∧ Ln = []) := by
 refine Spec.en func198 ntmps198 fun w0 => ?_
 refine G.sr fun _ K1 => ?_
 refine G.M 4 ?_
 refine G.nk K1 ?_
 refine G.sr fun _ K2 => ?_
 refine G.M 7 ?_
 refine G.cp 8 [] []  e171 (c_isNaN a) ?_
 refine G.M 5 ?_
 refine G.nk K2 ?_
 refine G.sr fun _ K3 => ?_
 refine G.M 9 ?_
 refine G.cp 10 [] []  e171 (c_isNaN b) ?_
 refine G.M 6 ?_
 refine G.nk K3 ?_
 refine G.Z fun _ K4 => ?_
 refine G.sr fun _ K5 => ?_
 refine G.M 11 ?_
 refine G.nk K5 ?_
 refine G.no rfl ?_
 refine G.sk K4 ?_
 refine G.Z fun _ K6 => ?_
 refine G.sr fun _ K7 => ?_
 refine G.M 13 ?_
 refine G.nk K7 ?_
 refine G.no rfl ?_
 refine G.sk K6 ?_
 refine G.Z fun _ K8 => ?_
 refine G.sr fun _ K9 => ?_
 refine G.M2 14 15 ?_
 refine G.V 16 .bin ?_
 refine G.nk K9 ?_
 refine G.cond rfl (fun hc16 => ?_) (fun hc16 => ?_)
 refine G.sr fun _ K10 => ?_
 refine G.M 4 ?_
 refine G.nk K10 ?_
 exact G.ret (G.F [] (.one Tryz.results198) ⟨by unfold cmpV; first | (simp_all; done) | (rw [if_neg (by simp_all), if_neg (by simp_all)]), rfl⟩)
 refine G.sk K8 ?_
 refine G.Z fun _ K11 => ?_
 refine G.sr fun _ K12 => ?_
 refine G.M2 17 18 ?_
 refine G.V 19 .bin ?_
 refine G.nk K12 ?_
 refine G.cond rfl (fun hc19 => ?_) (fun hc19 => ?_)
 refine G.sr fun _ K13 => ?_
 refine G.M 4 ?_
 refine G.nk K13 ?_
 exact G.ret (G.F [] (.one Tryz.results198) ⟨by unfold cmpV; first | (simp_all; done) | (rw [if_neg (by simp_all), if_neg (by simp_all)]), rfl⟩)
 refine G.sk K11 ?_
 refine G.sr fun _ K14 => ?_
 refine G.M 4 ?_
 refine G.nk K14 ?_
 exact G.ret (G.F [] (.one Tryz.results198) ⟨by unfold cmpV; first | (simp_all; done) | (rw [if_neg (by simp_all), if_neg (by simp_all)]), rfl⟩)
theorem orV_drop {l : List Int} {k : Nat} (h : k < l.length) : orV (l.drop k) = if l.getD k 0 ≠ 0 then l.getD k 0 else orV (l.drop (k + 1)) := by
 rw [List.drop_eq_getElem_cons h, List.getD_eq_getElem?_getD, List.getElem?_eq_getElem h]; rfl
theorem c_Or (b : Nat) (l : List Int) (hm : l.length < 100) : Spec prog 197 [.slice (some ⟨b, 0, none⟩) l.length l.length] [] [blk b (ints l) 3] (fun v Ln => v = .int .i64 (orV l) ∧ Ln = []) := by
 refine Spec.en func197 ntmps197 fun w0 => ?_
 refine G.sr fun _ K1 => ?_
 refine G.M 2 ?_
 refine G.nk K1 ?_
 refine G.sr fun _ K2 => ?_
 refine G.M 3 ?_
 refine G.nk K2 ?_
 refine G.Z fun _ K3 => ?_
 refine G.sr fun _ K4 => ?_
 refine G.M 6 ?_
 refine G.V 7 (.lenl s24) ?_
 refine G.M 8 ?_
 refine G.nk K4 ?_
 refine G.block ?_
 refine G.lpR (ι := {k : Nat // k ≤ l.length ∧ orV (l.drop k) = orV l}) (fun ⟨k, hj, ho⟩ => l.length - k) (fun ⟨k, hj, ho⟩ => [(3, .int .i64 0), (6, .slice (some ⟨b, 0, none⟩) l.length l.length), (7, .int .i64 (l.length : Int)), (8, .int .i64 (k : Int))]) (fun ⟨k, hj, ho⟩ => []) ?_ ?_
 exact G.at ⟨0, Nat.zero_le _, rfl⟩ (ts := [3, 6, 7, 8]) rfl rfl rfl rfl
 rintro ⟨k, hj, ho⟩ _ K5
 try dsimp only at K5 ⊢
 refine G.sr fun _ K6 => ?_
 refine G.V 9 .bin ?_
 refine G.nk K6 ?_
 refine G.Z fun _ K7 => ?_
 refine G.cond rfl (fun hc9 => ?_) (fun hc9 => ?_)
 have hk : k < l.length := by simpa using hc9
 rw [orV_drop hk] at ho
 refine G.sk K7 ?_
 refine G.Z fun _ K8 => ?_
 refine G.block ?_
 refine G.sr fun _ K9 => ?_
 refine G.V 10 (.is s24 k hk) ?_
 refine G.V 11 (.ld t3 0 (hv := by rw [Nat.zero_add, Nat.mul_one]; exact ints_at hk)) ?_
 refine G.M 5 ?_
 refine G.nk K9 ?_
 refine G.sr fun _ K10 => ?_
 refine G.M2 12 13 ?_
 refine G.V 14 .bin ?_
 refine G.nk K10 ?_
 refine G.cond rfl (fun hc14 => ?_) (fun hc14 => ?_)
 rw [if_pos (by simpa using hc14)] at ho
 refine G.sr fun _ K11 => ?_
 refine G.M2 15 2 ?_
 refine G.nk K11 ?_
 exact G.ret (G.F [] (.one Tryz.results197) ⟨by first | rw [ho] | (subst hk; rw [List.drop_length] at ho; rw [← ho]; rfl), rfl⟩)
 rw [if_neg (by simpa using hc14)] at ho
 refine G.sk K8 ?_
 refine G.region ?_
 refine G.V 16 .bw ?_
 refine G.M 8 ?_
 refine G.nk K5 ?_
 exact G.ls ⟨k + 1, hk, ho⟩
 have hk : k = l.length := by have := of_decide_eq_false hc9; omega
 refine G.exit ?_
 refine K3 _ _ _ ?_
 refine G.sr fun _ K12 => ?_
 refine G.M2 17 2 ?_
 refine G.nk K12 ?_
 exact G.ret (G.F [] (.one Tryz.results197) ⟨by first | rw [ho] | (subst hk; rw [List.drop_length] at ho; rw [← ho]; rfl), rfl⟩)
theorem r_better (a b : Ms) : Spec prog 192 [.agg #[.int .i64 a.kind, .int .i64 a.src, .int .i64 a.lo, .int .i64 a.hi, .int .i64 a.held, .int .i64 a.hops, .bool a.good, .bool a.ref, .int .i64 a.slo, .int .i64 a.shi, .int .i64 a.pulse, .int .i64 a.st, .int .i64 a.sn, .slice a.ta a.tl a.tc], .agg #[.int .i64 b.kind, .int .i64 b.src, .int .i64 b.lo, .int .i64 b.hi, .int .i64 b.held, .int .i64 b.hops, .bool b.good, .bool b.ref, .int .i64 b.slo, .int .i64 b.shi, .int .i64 b.pulse, .int .i64 b.st, .int .i64 b.sn, .slice b.ta b.tl b.tc]] [] [] (fun v Ln => v = .int .i64 (betterV a b) ∧ Ln = []) := by
 refine Spec.en func192 ntmps192 fun w0 => ?_
 refine G.sr fun _ K1 => ?_
 refine G.mk 2 .bx fun g2 => ?_
 refine G.mk 3 .bx fun g3 => ?_
 refine G.M 4 ?_
 refine G.nk K1 ?_
 refine G.Z fun _ K2 => ?_
 refine G.draw 18 [0, 1] [] [] ?_
 refine D.V 0 5 1 (.fa f107_4 5) ?_
 refine D.V 2 7 5 (.fa f107_4 5) ?_
 refine D.V 5 10 37 (.fa f107_3 4) ?_
 refine D.V 7 12 165 (.fa f107_3 4) ?_
 refine D.V 10 15 1189 (.fa f107_1 1) ?_
 refine D.V 12 17 5285 (.fa f107_1 1) ?_
 refine D.T 1 6 5287 (.ld t3 1) [0, 1] [] ?_
 refine D.T 3 8 5295 (.ld t3 0) [0, 1] [] ?_
 refine D.T 6 11 5359 (.ld t3 1) [0, 1] [] ?_
 refine D.T 8 13 5615 (.ld t3 0) [0, 1] [] ?_
 refine D.T 11 16 7663 (.ld t3 1) [0, 1] [] ?_
 refine D.T 13 18 15855 (.ld t3 0) [0, 1] [] ?_
 refine D.C 4 9 15871 [] [] [0, 1] []  e198 (c_Compare a.hops b.hops) ?_
 rintro _ _ ⟨rfl, rfl⟩
 refine D.C 9 14 16383 [] [] [0, 1] []  e198 (c_Compare a.held b.held) ?_
 rintro _ _ ⟨rfl, rfl⟩
 refine D.C 14 19 32767 [] [] [0, 1] []  e198 (c_Compare a.src b.src) ?_
 rintro _ _ ⟨rfl, rfl⟩
 refine D.ev 15 65535 ?_
 refine E.row 15 20 (.sl s24 z3 [.int .i64 (cmpV a.hops b.hops), .int .i64 (cmpV a.held b.held), .int .i64 (cmpV a.src b.src)]) [0, 1] []  fun g20 => ?_
 refine D.C 16 21 131071 [] [0] [1, 2] []  e197 (c_Or g20 [(cmpV a.hops b.hops), (cmpV a.held b.held), (cmpV a.src b.src)] (by simp)) ?_
 rintro _ _ ⟨rfl, rfl⟩
 refine D.V 17 4 262143 .mv ?_
 refine D.done ?_
 refine K2 _ _ _ ?_
 exact G.ret (G.F [] (.one Tryz.results192) ⟨rfl, rfl⟩)
def pick1 (p : Par) (b : Bool × Ms) (m : Ms) : Bool × Ms := if (usableB p m && (!b.1 || decide (betterV m b.2 < 0))) = true then (true, m) else b
def pickL (p : Par) (l : List Ms) : Bool × Ms := l.foldl (pick1 p) (false, Ms.zero)
theorem pick_take {p : Par} {l : List Ms} {k : Nat} {x : Ms} (h : l[k]? = some x) : pickL p (l.take (k + 1)) = pick1 p (pickL p (l.take k)) x := by
 unfold pickL
 rw [List.take_add_one, h, List.foldl_append]
 rfl
theorem e91 : Is prog 91 := ⟨_, func91, by kernel_rfl, rfl⟩
theorem e154 : Is prog 154 := ⟨_, func154, by kernel_rfl, rfl⟩
theorem e155 : Is prog 155 := ⟨_, func155, by kernel_rfl, rfl⟩
theorem e156 : Is prog 156 := ⟨_, func156, by kernel_rfl, rfl⟩
theorem e162 : Is prog 162 := ⟨_, func162, by kernel_rfl, rfl⟩
theorem k5 : tkind prog 5 = some .u8 := by kernel_rfl
theorem k116 : tkind prog 116 = some .u64 := by kernel_rfl
theorem c_Less (a b : Int) : Spec prog 162 [.int .i64 a, .int .i64 b] [] [] (fun v Ln => v = .bool (decide (a < b)) ∧ Ln = []) := by
 refine Spec.en func162 ntmps162 fun w0 => ?_
 refine G.sr fun _ K1 => ?_
 refine G.M 4 ?_
 refine G.nk K1 ?_
 refine G.sr fun _ K2 => ?_
 refine G.M 5 ?_
 refine G.cp 6 [] []  e171 (c_isNaN a) ?_
 refine G.M 7 ?_
 refine G.O3 8 9 10 ?_
 refine G.V 11 .pick ?_
 refine G.M3 12 13 14 ?_
 refine G.V 15 .bin ?_
 refine G.V 16 .pick ?_
 refine G.M 4 ?_
 refine G.nk K2 ?_
 exact G.ret (G.F [] (.one Tryz.results162) ⟨rfl, rfl⟩)
theorem intsr_at {l : List Int} {r : List Value} {k : Nat} (h : k < l.length) : (ints l ++ r)[0 + k * 1]? = some (.int .i64 (l.getD k 0)) := by
 rw [Nat.zero_add, Nat.mul_one, List.getElem?_append_left (by simp [ints]; exact h)]
 exact ints_at h
theorem intsr_set {l : List Int} {r : List Value} {k : Nat} (h : k < l.length) (x : Int) : (ints l ++ r).set (0 + k * 1) (.int .i64 x) = ints (l.set k x) ++ r := by
 rw [Nat.zero_add, Nat.mul_one, List.set_append_left _ _ (by simp [ints]; exact h)]
 congr 1
 unfold ints
 rw [List.map_set]
theorem intsr_len {l : List Int} {r : List Value} {k : Nat} (h : k < l.length) : 0 + k * 1 + 1 ≤ (ints l ++ r).length := by simp [ints]; omega
def Ord (l : List Int) (i j : Nat) : Prop := ∀ p q, p < q → q ≤ i → q ≠ j → l.getD p 0 ≤ l.getD q 0
def Srt (l : List Int) (i : Nat) : Prop := ∀ p q, p < q → q < i → l.getD p 0 ≤ l.getD q 0
def swp (l : List Int) (j : Nat) : List Int := (l.set j (l.getD (j - 1) 0)).set (j - 1) (l.getD j 0)
theorem getD_set (l : List Int) (k q : Nat) (x : Int) (h : k < l.length) : (l.set k x).getD q 0 = if k = q then x else l.getD q 0 := by
 rw [List.getD_eq_getElem?_getD, List.getElem?_set]
 by_cases e : k = q
 ·subst e; rw [if_pos rfl, if_pos h, if_pos rfl]; rfl
 ·rw [if_neg e, if_neg e, ← List.getD_eq_getElem?_getD]
theorem swp_len (l : List Int) (j : Nat) : (swp l j).length = l.length := by simp [swp]
theorem swp_at {l : List Int} {j : Nat} (hj : 0 < j) (h : j < l.length) (q : Nat) : (swp l j).getD q 0 = if q = j then l.getD (j - 1) 0 else if q = j - 1 then l.getD j 0 else l.getD q 0 := by
 unfold swp
 rw [getD_set _ _ _ _ (by simp; omega), getD_set _ _ _ _ h]
 split
 ·rw [if_neg (by omega), if_pos (by omega)]
 ·split
  ·rw [if_pos (by omega)]
  ·rw [if_neg (by omega), if_neg (by omega)]
theorem swp_perm {l : List Int} {j : Nat} (hj : 0 < j) (h : j < l.length) : (swp l j).Perm l := by
 unfold swp
 have e1 : l.getD (j - 1) 0 = l[j - 1] := by rw [List.getD_eq_getElem?_getD, List.getElem?_eq_getElem (by omega)]; rfl
 have e2 : l.getD j 0 = l[j] := by rw [List.getD_eq_getElem?_getD, List.getElem?_eq_getElem h]; rfl
 rw [e1, e2]
 exact List.set_set_perm h (by omega)
theorem Ord.step {l : List Int} {i j : Nat} (ho : Ord l i j) (hj : 0 < j) (hi : j ≤ i) (hl : i < l.length) (hlt : l.getD j 0 < l.getD (j - 1) 0) : Ord (swp l j) i (j - 1) := by
 intro p q hpq hqi hq
 rw [swp_at hj (by omega), swp_at hj (by omega)]
 by_cases e1 : q = j
 ·subst e1
  rw [if_neg (by omega), if_pos rfl]
  split
  ·omega
  ·exact ho p (q - 1) (by omega) (by omega) (by omega)
 ·rw [if_neg e1, if_neg hq]
  split
  ·exact ho (j - 1) q (by omega) hqi e1
  ·split
   ·exact ho j q (by omega) hqi e1
   ·exact ho p q hpq hqi e1
theorem Ord.done {l : List Int} {i j : Nat} (ho : Ord l i j) (h : j = 0 ∨ l.getD (j - 1) 0 ≤ l.getD j 0) : Srt l (i + 1) := by
 intro p q hpq hq
 by_cases e : q = j
 ·subst e
  rcases h with h | h
  ·omega
  ·by_cases e2 : p = q - 1
   ·subst e2; exact h
   ·exact Int.le_trans (ho p (q - 1) (by omega) (by omega) (by omega)) h
 ·exact ho p q hpq (by omega) e
theorem Srt.ord {l : List Int} {i : Nat} (h : Srt l i) : Ord l i i := fun p q hpq hqi hq => h p q hpq (by omega)
theorem s_insert (g n c : Nat) (l : List Int) (r : List Value) (hl : l.length = n) (hn : n < 1000) : Spec prog 156 [.slice (some ⟨g, 0, none⟩) n c, .int .i64 0, .int .i64 (n : Int)] [blk g (ints l ++ r) 3] [] (fun v Ln => v = .tuple #[] ∧ ∃ l', Ln = [blk g (ints l' ++ r) 3] ∧ l'.length = n ∧ l'.Perm l ∧ Srt l' n) := by
 refine Spec.en func156 ntmps156 fun w0 => ?_
 refine G.sr fun _ K1 => ?_
 refine G.M 8 ?_
 refine G.V 9 .bw ?_
 refine G.M 6 ?_
 refine G.nk K1 ?_
 refine G.block ?_
 refine G.lpR (ι := {q : Nat × List Int // q.2.length = n ∧ q.2.Perm l ∧ 1 ≤ q.1 ∧ (q.1 ≤ n ∨ q.1 = 1) ∧ Srt q.2 q.1}) (fun ⟨⟨i, l1⟩, hl1, hp1, h1i, hin, hs1⟩ => n - i) (fun ⟨⟨i, l1⟩, hl1, hp1, h1i, hin, hs1⟩ => [(0, .slice (some ⟨g, 0, none⟩) n c), (1, .int .i64 0), (2, .int .i64 (n : Int)), (6, .int .i64 (i : Int))]) (fun ⟨⟨i, l1⟩, hl1, hp1, h1i, hin, hs1⟩ => [blk g (ints l1 ++ r) 3]) ?_ ?_
 exact G.at ⟨⟨1, l⟩, hl, .refl _, Nat.le_refl _, .inr rfl, fun p q h1 h2 => absurd h2 (by omega)⟩ (ts := [0, 1, 2, 6]) rfl rfl rfl rfl
 rintro ⟨⟨i, l1⟩, hl1, hp1, h1i, hin, hs1⟩ _ K2
 try dsimp only at K2 ⊢
 dsimp only at hl1 hp1 h1i hin hs1
 refine G.Z fun _ K3 => ?_
 refine G.sr fun _ K4 => ?_
 refine G.M2 10 11 ?_
 refine G.V 12 .bin ?_
 refine G.nk K4 ?_
 refine G.cond rfl (fun hc12 => ?_) (fun hc12 => ?_)
 have hk : i < n := by have := of_decide_eq_true hc12; omega
 refine G.sk K3 ?_
 refine G.Z fun _ K5 => ?_
 refine G.block ?_
 refine G.sr fun _ K6 => ?_
 refine G.M2 15 7 ?_
 refine G.nk K6 ?_
 refine G.block ?_
 refine G.lpR (ι := {q : Nat × List Int // q.2.length = n ∧ q.2.Perm l ∧ q.1 ≤ i ∧ Ord q.2 i q.1}) (fun ⟨⟨j, l2⟩, hl2, hp2, hji, ho2⟩ => j) (fun ⟨⟨j, l2⟩, hl2, hp2, hji, ho2⟩ => [(0, .slice (some ⟨g, 0, none⟩) n c), (1, .int .i64 0), (2, .int .i64 (n : Int)), (6, .int .i64 (i : Int)), (7, .int .i64 (j : Int))]) (fun ⟨⟨j, l2⟩, hl2, hp2, hji, ho2⟩ => [blk g (ints l2 ++ r) 3]) ?_ ?_
 exact G.at ⟨⟨i, l1⟩, hl1, hp1, Nat.le_refl _, hs1.ord⟩ (ts := [0, 1, 2, 6, 7]) rfl rfl rfl rfl
 rintro ⟨⟨j, l2⟩, hl2, hp2, hji, ho2⟩ _ K7
 try dsimp only at K7 ⊢
 dsimp only at hl2 hp2 hji ho2
 refine G.Z fun _ K8 => ?_
 refine G.Z fun _ K9 => ?_
 refine G.draw 15 [0] [] [] ?_
 refine D.V 0 16 1 .mv ?_
 refine D.V 1 17 3 .mv ?_
 refine D.V 2 18 7 .bin ?_
 refine D.V 3 19 15 .mv ?_
 cases hg10 : (decide ((j : Int) > 0) : Bool)
 refine D.off 4 20 31 ?_
 refine D.off 5 21 63 ?_
 refine D.off 6 22 127 ?_
 refine D.off 7 23 255 ?_
 refine D.off 8 24 511 ?_
 refine D.off 9 25 1023 ?_
 refine D.off 10 26 2047 ?_
 refine D.off 11 27 4095 ?_
 refine D.off 12 28 8191 ?_
 refine D.off 13 29 16383 ?_
 refine D.V 14 30 32767 .pick ?_
 refine D.done ?_
 refine K9 _ _ _ ?_
 refine G.no rfl ?_
 refine G.exit ?_
 refine K5 _ _ _ ?_
 refine G.region ?_
 refine G.M 13 ?_
 refine G.V 14 .bw ?_
 refine G.M 6 ?_
 refine G.nk K2 ?_
 exact G.ls ⟨⟨i + 1, l2⟩, hl2, hp2, by omega, .inl (by omega), ho2.done (by first | exact .inl (by have := ‹decide ((j : Int) > 0) = false›; simp at this; omega) | exact .inr (by have := ‹decide (l2.getD j 0 < l2.getD (j - 1) 0) = false›; simp at this; exact this))⟩
 refine D.V 4 20 31 .mv ?_
 refine D.V 5 21 63 .mv ?_
 refine D.V 6 22 127 (.is s24 j (show j < n by omega)) ?_
 refine D.V 8 24 383 .mv ?_
 refine D.V 9 25 895 .mv ?_
 refine D.V 10 26 1919 (.cast (.cast .bin (wi (by omega) (by omega))) (show Value.int .i64 ((j : Int) - 1) = .int .i64 ((j - 1 : Nat) : Int) from by have := of_decide_eq_true ‹decide ((j : Int) > 0) = true›; congr 1; omega)) ?_
 refine D.V 11 27 3967 (.is s24 (j - 1) (show (j - 1) < n by omega)) ?_
 refine D.T 7 23 4095 (.ld t3 0 (hv := intsr_at (l := l2) (k := j) (by omega))) [0] [] ?_
 refine D.T 12 28 8191 (.ld t3 0 (hv := intsr_at (l := l2) (k := (j - 1)) (by omega))) [0] [] ?_
 refine D.C 13 29 16383 [] [] [0] []  e162 (c_Less (l2.getD j 0) (l2.getD (j - 1) 0)) ?_
 rintro _ _ ⟨rfl, rfl⟩
 refine D.V 14 30 32767 .pick ?_
 refine D.done ?_
 refine K9 _ _ _ ?_
 refine G.cond rfl (fun hc30 => ?_) (fun hc30 => ?_)
 have hlt := of_decide_eq_true hc30
 have hj0 : 0 < j := by have := ‹decide ((j : Int) > 0) = true›; simp at this; omega
 refine G.sk K8 ?_
 refine G.Z fun _ K11 => ?_
 refine G.block ?_
 refine G.draw 18 [0] [] [15, 17] ?_
 refine D.V 0 33 1 .mv ?_
 refine D.V 1 34 3 .mv ?_
 refine D.V 2 35 7 .mv ?_
 refine D.V 3 36 15 .mv ?_
 refine D.V 4 37 31 (.cast (.cast .bin (wi (by omega) (by omega))) (show Value.int .i64 ((j : Int) - 1) = .int .i64 ((j - 1 : Nat) : Int) from by have := of_decide_eq_true ‹decide ((j : Int) > 0) = true›; congr 1; omega)) ?_
 refine D.V 5 38 63 .mv ?_
 refine D.V 6 39 127 .mv ?_
 refine D.V 7 40 255 (.cast (.cast .bin (wi (by omega) (by omega))) (show Value.int .i64 ((j : Int) - 1) = .int .i64 ((j - 1 : Nat) : Int) from by have := of_decide_eq_true ‹decide ((j : Int) > 0) = true›; congr 1; omega)) ?_
 refine D.V 8 41 511 (.is s24 (j - 1) (show (j - 1) < n by omega)) ?_
 refine D.V 10 43 1535 .mv ?_
 refine D.V 11 44 3583 .mv ?_
 refine D.V 12 45 7679 (.is s24 j (show j < n by omega)) ?_
 refine D.T 9 42 8191 (.ld t3 0 (hv := intsr_at (l := l2) (k := (j - 1)) (by omega))) [0] [] ?_
 refine D.T 13 46 16383 (.ld t3 0 (hv := intsr_at (l := l2) (k := j) (by omega))) [0] [] ?_
 refine D.V 14 47 32767 (.is s24 j (show j < n by omega)) ?_
 refine D.last 15 65535 0 (.st t3 0 (hl := intsr_len (l := l2) (k := j) (by omega))) rfl ?_
 dsimp only [List.set, sets, Value.cells, List.zipIdx, List.foldl]
 refine G.eqL [blk g (ints (l2.set j (l2.getD (j - 1) 0)) ++ r) 3] (by rw [intsr_set (l := l2) (k := j) (by omega)]; rfl) ?_
 refine D.V 16 48 131071 (.is s24 (j - 1) (show (j - 1) < n by omega)) ?_
 refine D.last 17 262143 0 (.st t3 0 (hl := intsr_len (by simp; omega))) rfl ?_
 dsimp only [List.set, sets, Value.cells, List.zipIdx, List.foldl]
 refine G.eqL [blk g (ints (swp l2 j) ++ r) 3] (by rw [intsr_set (l := l2.set j (l2.getD (j - 1) 0)) (k := j - 1) (by simp; omega)]; rfl) ?_
 refine D.done ?_
 refine K11 _ _ _ ?_
 refine G.region ?_
 refine G.M 31 ?_
 refine G.V 32 (.cast (.cast .bin (wi (by omega) (by omega))) (show Value.int .i64 ((j : Int) - 1) = .int .i64 ((j - 1 : Nat) : Int) from by have := of_decide_eq_true ‹decide ((j : Int) > 0) = true›; congr 1; omega)) ?_
 refine G.M 7 ?_
 refine G.nk K7 ?_
 exact G.ls ⟨⟨j - 1, swp l2 j⟩, by rw [swp_len]; exact hl2, (swp_perm hj0 (by omega)).trans hp2, by omega, ho2.step hj0 hji (by omega) hlt⟩
 refine G.exit ?_
 refine K5 _ _ _ ?_
 refine G.region ?_
 refine G.M 13 ?_
 refine G.V 14 .bw ?_
 refine G.M 6 ?_
 refine G.nk K2 ?_
 exact G.ls ⟨⟨i + 1, l2⟩, hl2, hp2, by omega, .inl (by omega), ho2.done (by first | exact .inl (by have := ‹decide ((j : Int) > 0) = false›; simp at this; omega) | exact .inr (by have := ‹decide (l2.getD j 0 < l2.getD (j - 1) 0) = false›; simp at this; exact this))⟩
 have hk : n ≤ i := by have := of_decide_eq_false hc12; omega
 refine G.exit ?_
 exact G.fin0 [0] (.nil Tryz.results156) ⟨rfl, l1, rfl, hl1, hp1, fun p q h1 h2 => hs1 p q h1 (by omega)⟩
theorem b_Len64 (k : Nat) (h : k < 256) : Spec prog 91 [.int .u64 (k : Int)] [] [] (fun v Ln => ∃ x : Int, v = .int .i64 x ∧ Ln = []) := by
 refine Spec.en func91 ntmps91 fun w0 => ?_
 refine G.sr fun _ K1 => ?_
 refine G.M 2 ?_
 refine G.nk K1 ?_
 refine G.Z fun _ K2 => ?_
 refine G.sr fun _ K3 => ?_
 refine G.M 3 ?_
 refine G.V 4 (.cast .bin (bf (by omega))) ?_
 refine G.nk K3 ?_
 refine G.no rfl ?_
 refine G.sk K2 ?_
 refine G.Z fun _ K4 => ?_
 refine G.sr fun _ K5 => ?_
 refine G.M 7 ?_
 refine G.V 8 (.cast .bin (bf (by omega))) ?_
 refine G.nk K5 ?_
 refine G.no rfl ?_
 refine G.sk K4 ?_
 refine G.Z fun _ K6 => ?_
 refine G.sr fun _ K7 => ?_
 refine G.M 13 ?_
 refine G.V 14 (.cast .bin (bf (by omega))) ?_
 refine G.nk K7 ?_
 refine G.no rfl ?_
 refine G.sk K6 ?_
 refine G.sr fun _ K8 => ?_
 refine G.M2 19 20 ?_
 refine G.V 21 (.cvi (a := (k : Int)) k143 k5 (show IntKind.u8.wrap (k : Int) = (k : Int) from by simp [IntKind.wrap, IntKind.bits, IntKind.signed]; omega)) ?_
 refine G.valx 22 (Evx.sidx r9 k 256 (by omega) (by kernel_rfl)) ?_
 rintro _ ⟨b, hb0, hb1, rfl⟩
 refine G.V 23 (.cvi (a := b) k5 k3 (wr (by omega) (by omega))) ?_
 refine G.V 24 .bw ?_
 refine G.M 2 ?_
 refine G.nk K8 ?_
 exact G.ret (G.F [] (.one Tryz.results91) ⟨_, rfl, rfl⟩)
theorem b_Len (k : Nat) (h : k < 256) : Spec prog 155 [.int .u64 (k : Int)] [] [] (fun v Ln => ∃ x : Int, v = .int .i64 x ∧ Ln = []) := by
 refine Spec.en func155 ntmps155 fun w0 => ?_
 refine G.sr fun _ K1 => ?_
 refine G.M 2 ?_
 refine G.nk K1 ?_
 refine G.Z fun _ K2 => ?_
 refine G.no rfl ?_
 refine G.sk K2 ?_
 refine G.sr fun _ K3 => ?_
 refine G.M 6 ?_
 refine G.C 7 [] []  e91 (b_Len64 k h) ?_
 rintro _ _ ⟨x, rfl, rfl⟩
 refine G.M 2 ?_
 refine G.nk K3 ?_
 exact G.ret (G.F [] (.one Tryz.results155) ⟨_, rfl, rfl⟩)
theorem s_pdq (g n c : Nat) (x : Int) (l : List Int) (r : List Value) (hl : l.length = n) (hn : n ≤ 12) : Spec prog 154 [.slice (some ⟨g, 0, none⟩) n c, .int .i64 0, .int .i64 (n : Int), .int .i64 x] [blk g (ints l ++ r) 3] [] (fun v Ln => v = .tuple #[] ∧ ∃ l', Ln = [blk g (ints l' ++ r) 3] ∧ l'.length = n ∧ l'.Perm l ∧ Srt l' n) := by
 refine Spec.en func154 ntmps154 fun w0 => ?_
 refine G.sr fun _ K1 => ?_
 refine G.M 8 ?_
 refine G.nk K1 ?_
 refine G.sr fun _ K2 => ?_
 refine G.M 9 ?_
 refine G.nk K2 ?_
 refine G.block ?_
 refine G.lpR (ι := Unit) (fun _ => 0) (fun _ => [(0, .slice (some ⟨g, 0, none⟩) n c), (1, .int .i64 0), (2, .int .i64 (n : Int))]) (fun _ => [blk g (ints l ++ r) 3]) ?_ ?_
 exact G.as ()
 rintro _ _ K3
 try dsimp only at K3 ⊢
 refine G.block ?_
 refine G.sr fun _ K4 => ?_
 refine G.M2 19 20 ?_
 refine G.V 21 .bw ?_
 refine G.M 10 ?_
 refine G.nk K4 ?_
 refine G.Z fun _ K5 => ?_
 refine G.sr fun _ K6 => ?_
 refine G.M 22 ?_
 refine G.V 23 (.cast .bin (bt (by omega))) ?_
 refine G.nk K6 ?_
 refine G.yes rfl ?_
 refine G.sr fun _ K7 => ?_
 refine G.M3 24 25 26 ?_
 refine G.C 27 [0] []  e156 (s_insert g n c l r hl (by omega)) ?_
 rintro _ _ ⟨rfl, l', rfl, hl', hp', hs'⟩
 refine G.nk K7 ?_
 exact G.ret (G.F [0] (.nil Tryz.results154) ⟨rfl, l', rfl, hl', hp', hs'⟩)
theorem s_Sort (g n c : Nat) (l : List Int) (r : List Value) (hl : l.length = n) (hn : n ≤ 12) : Spec prog 150 [.slice (some ⟨g, 0, none⟩) n c] [blk g (ints l ++ r) 3] [] (fun v Ln => v = .tuple #[] ∧ ∃ l', Ln = [blk g (ints l' ++ r) 3] ∧ l'.length = n ∧ l'.Perm l ∧ Srt l' n) := by
 refine Spec.en func150 ntmps150 fun w0 => ?_
 refine G.sr fun _ K1 => ?_
 refine G.M 3 ?_
 refine G.V 4 (.lenl s24) ?_
 refine G.M 2 ?_
 refine G.nk K1 ?_
 refine G.region ?_
 refine G.M3 5 6 7 ?_
 refine G.V 8 (.cvi (a := (n : Int)) k3 k116 (wu (by omega) (by omega))) ?_
 refine G.C 9 [] []  e155 (b_Len n (by omega)) ?_
 rintro _ _ ⟨x, rfl, rfl⟩
 refine G.C 10 [0] []  e154 (s_pdq g n c x l r hl hn) ?_
 rintro _ _ ⟨rfl, l', rfl, hl', hp', hs'⟩
 refine G.nil ?_
 exact G.fin0 [0] (.nil Tryz.results150) ⟨rfl, l', rfl, hl', hp', hs'⟩
end Go.Proofs.YtbmhgopjblnfnaaGreat.S
namespace Go.Proofs.YtbmhgopjblnfnaaGreat.S
open Go Go.Proofs Go.RowKit Go.Shelf Go.Proofs.YtbmhgopjblnfnaaGreatW.PrintLast Tryz
attribute [local go_sem] Oper.semAt_some
def upto {α : Type} (f : Nat → α) (k : Nat) : List α := (List.range k).map f
theorem upto_succ {α : Type} (f : Nat → α) (k : Nat) : upto f (k + 1) = upto f k ++ [f k] := by simp [upto, List.range_succ]
theorem upto_length {α : Type} (f : Nat → α) (k : Nat) : (upto f k).length = k := by simp [upto]
theorem upto_all (zs : List Int) : upto (fun j => zs[j]?.getD 0) zs.length = zs := by
 apply List.ext_getElem
 ·simp [upto]
 ·intro i h1 h2; simp [upto, h2]
theorem upto_take (zs : List Int) {k : Nat} (hk : k ≤ zs.length) : upto (fun j => zs[j]?.getD 0) k = zs.take k := by
 apply List.ext_getElem
 ·simp [upto, hk]
 ·intro i h1 h2
  have : i < zs.length := by simp [upto] at h1; omega
  simp [upto, this]
set_option maxRecDepth 100000 in
set_option maxHeartbeats 2000000 in
theorem vals1 (F : Fence) (n : Nat) (h7 : F.fn 151) (hro : F.round = none) (hn : 1 ≤ n) (l Bs n₀ b len cap : Nat) (zs : List Int) (hreach : len * 8 ≤ 140737488351232) (hb : b < n₀) (J Jx : List Int → World → Prop)
  (hY : ∀ pre x W, J pre W → pre.length < len → YieldAt F (n - 1) prog l #[.int .i64 x] W fun e W' => (e = .returned (.bool true) ∧ J (pre ++ [x]) W' ∧ Below n₀ W W') ∨ (e = .returned (.bool false) ∧ Jx (pre ++ [x]) W'))
  (W : World) (hBs : W.cell? ⟨Bs, 0, none⟩ = some (.slice (some ⟨b, 0, none⟩) len cap)) (hc : ∀ j, j < len → W.cell? ⟨b, j, none⟩ = some (.int .i64 (zs[j]?.getD 0))) (h0 : J [] W) :
  CallsIn F n prog 151 #[.func (.yield l) #[] #[], .pointer (some ⟨Bs, 0, none⟩)] W fun e W' => (∃ v, e = .returned v) ∧ ((∃ ys, ys = upto (fun j => zs[j]?.getD 0) len ∧ J ys W') ∨ (∃ pre, (∃ k, k ≤ len ∧ pre = upto (fun j => zs[j]?.getD 0) k) ∧ Jx pre W')) := by
 refine callsIn_of_wp func151 rfl h7 ?_ hro
 simp only [ntmps151, List.size_toArray, List.length_cons, List.length_nil, Nat.reduceAdd, Nat.reduceSub, Array.replicate_succ, Array.replicate_zero, List.push_toArray, List.append_toArray, List.nil_append, List.cons_append]
 gi_wp2
 gi_loopw [7] (fun i wr => ∃ k : Nat, k ≤ len ∧ i = .int .i64 k ∧ J (upto (fun j => zs[j]?.getD 0) k) wr ∧ Below n₀ W wr) (fun i _ => len - (intOf i).toNat)
 case atStart => exact ⟨0, Nat.zero_le _, rfl, h0, Below.refl _ _⟩
 case round =>
  obtain ⟨k, hk, rfl, hJs, hnx⟩ := hrel
  have hcx : k < len → wr.cell? ⟨b, k, none⟩ = some (.int .i64 (zs[k]?.getD 0)) := fun h => (hnx.cell (p := ⟨b, k, none⟩) hb).trans (hc k h)
  by_cases hlt : k < len
  ·obtain ⟨fn, tmps, assign, body, hy, hR⟩ := hY _ (zs[k]?.getD 0) wr hJs (by rw [upto_length]; exact hlt)
   have hcx' := hcx hlt
   gi_wp2
   refine hR.mono ?_
   rintro e W3 (⟨rfl, hJ3, hk3⟩ | ⟨rfl, hJx3⟩)
   ·gi_wp2
    go_roundw
    case rel => exact ⟨k + 1, by omega, by simp, by rw [upto_succ]; exact hJ3, hnx.trans hk3⟩
    case measure => simp [intOf]; omega
   ·gi_wp2
    refine bodyPost_ret (results_none rfl _ _ _) rfl ?_
    exact ⟨⟨_, rfl⟩, .inr ⟨_, ⟨k + 1, by omega, (upto_succ _ _).symm⟩, hJx3⟩⟩
  ·obtain rfl : k = len := by omega
   gi_wp2
   go_end0
   exact ⟨⟨_, rfl⟩, .inl ⟨_, rfl, hJs⟩⟩
set_option maxRecDepth 100000 in
set_option maxHeartbeats 1000000 in
theorem vals1_nil (F : Fence) (n : Nat) (h7 : F.fn 151) (hro : F.round = none) (l Bs : Nat) (J : List Int → World → Prop) (W : World) (hBs : W.cell? ⟨Bs, 0, none⟩ = some (.slice none 0 0)) (h0 : J [] W) :
  CallsIn F n prog 151 #[.func (.yield l) #[] #[], .pointer (some ⟨Bs, 0, none⟩)] W fun e W' => (∃ v, e = .returned v) ∧ J [] W' := by
 refine callsIn_of_wp func151 rfl h7 ?_ hro
 simp only [ntmps151, List.size_toArray, List.length_cons, List.length_nil, Nat.reduceAdd, Nat.reduceSub, Array.replicate_succ, Array.replicate_zero, List.push_toArray, List.append_toArray, List.nil_append, List.cons_append]
 gi_wp2
 gi_loopw [7] (fun i wr => i = .int .i64 0 ∧ J [] wr) (fun _ _ => 0)
 case atStart => exact ⟨rfl, h0⟩
 case round =>
  obtain ⟨rfl, hJs⟩ := hrel
  gi_wp2
  go_end0
  exact ⟨⟨_, rfl⟩, hJs⟩
def Ints (n₀ : Nat) (W : World) (sv : Value) (zs : List Int) : Prop :=
 (sv = .slice none 0 0 ∧ zs = []) ∨ ∃ b cap, sv = .slice (some ⟨b, 0, none⟩) zs.length cap ∧ b < n₀ ∧ ∀ j, j < zs.length → W.cell? ⟨b, j, none⟩ = some (.int .i64 (zs[j]?.getD 0))
theorem Ints.below {n₀ : Nat} {A B : World} (h : Below n₀ A B) {sv : Value} {zs : List Int} : Ints n₀ A sv zs → Ints n₀ B sv zs
 | .inl e => .inl e
 | .inr ⟨b, cap, e, hb, hc⟩ => .inr ⟨b, cap, e, hb, fun j hj => (h.cell (p := ⟨b, j, none⟩) hb).trans (hc j hj)⟩
theorem vals_stops (F : Fence) (n : Nat) (h7 : F.fn 151) (hro : F.round = none) (hn : 1 ≤ n) (Bs n₀ : Nat) (sv : Value) (zs : List Int) (hreach : zs.length * 8 ≤ 140737488351232) (w : World) (hBs : Bs < w.heap.size) (hn₀ : n₀ ≤ w.heap.size) (hc : w.cell? ⟨Bs, 0, none⟩ = some sv) (hI : Ints n₀ w sv zs) :
  SeqStopsK F n prog 151 #[.pointer (some ⟨Bs, 0, none⟩)] (fun x : Int => #[Value.int .i64 x]) (Below n₀) (fun ys => ys = zs) (fun pre => pre <+: zs) zs.length w := fun l J Jx W hW _ _ hY h0 => by
 have hc' := (hW.cell (p := ⟨Bs, 0, none⟩) hBs).trans hc
 rcases hI.below (hW.mono hn₀) with ⟨rfl, rfl⟩ | ⟨b, cap, rfl, hb, hcs⟩
 ·exact (vals1_nil F n h7 hro l Bs J W hc' h0).mono fun e W' ⟨he, hj⟩ => ⟨he, .inl ⟨_, rfl, hj⟩⟩
 ·refine (vals1 F n h7 hro hn l Bs n₀ b zs.length cap zs hreach hb J Jx hY W hc' hcs h0).mono ?_
  rintro e W' ⟨he, ⟨ys, rfl, hj⟩ | ⟨pre, ⟨k, hk, rfl⟩, hj⟩⟩
  ·exact ⟨he, .inl ⟨_, upto_all zs, hj⟩⟩
  ·exact ⟨he, .inr ⟨_, by rw [upto_take zs hk]; exact List.take_prefix _ _, hj⟩⟩
theorem info3 : (prog.info? 3).map (fun i => (i.zero, i.size, i.bytes)) = some (some (.int .i64 0), 1, 8) := by kernel_rfl
set_option maxRecDepth 100000 in
set_option maxHeartbeats 2000000 in
theorem apseq_in (n : Nat) (hn : 3 ≤ n) (Bs : Nat) (sv : Value) (zs : List Int) (hlen : zs.length ≤ maxLen) (hbytes : zs.length * 8 ≤ 140737488351232) (w : World) (hBs : Bs < w.heap.size) (hc : w.cell? ⟨Bs, 0, none⟩ = some sv) (hL : Ints w.heap.size w sv zs) :
  CallsIn Fence.wide n prog 153 #[.slice none 0 0, .func (.func 151) #[] #[.pointer (some ⟨Bs, 0, none⟩)]] w fun e W' => ∃ v, e = .returned v ∧ W'.ownsRow w.heap.size 3 1 v zs.length (zs.map (Value.int .i64)) ∧ Below w.heap.size w W' := by
 have h1 : 1 ≤ n := by omega
 obtain ⟨i0, hi, hz0, hz1, hz2⟩ := info_parts info3
 refine callsIn_of_wp_marks func153 rfl trivial ?_ rfl
 simp only [ntmps153, List.size_toArray, List.length_cons, List.length_nil, Nat.reduceAdd, Nat.reduceSub, Array.replicate_succ, Array.replicate_zero, List.push_toArray, List.append_toArray, List.nil_append, List.cons_append]
 gi_wp2
 have bO := Boxed.new w 24 (.slice none 0 0)
 have hB0 : Below w.heap.size w (w.alloc (.cells #[.slice none 0 0] 24)) := (Below.refl _ w).alloc (Nat.le_refl _) _
 refine wpIn_rangeFunc_ownG rfl h1 (gf := 151) (lb := #[.pointer (some ⟨Bs, 0, none⟩)]) rfl trivial (enters_of func151 (by kernel_rfl) rfl)
  (vals_stops Fence.wide (n - 1) trivial rfl (by omega) Bs w.heap.size sv zs (by omega) _ (by simp; omega) (by simp) ((hB0.cell (p := ⟨Bs, 0, none⟩) hBs).trans hc) (hL.below hB0)) belowK_t (belowK_b (by simp)) (Below.refl _ _) (fun _ => rfl)
  (fun pre W => (∃ v, Boxed W w.heap.size 24 v ∧ W.ownsRow w.heap.size 3 1 v pre.length (pre.map (Value.int .i64)) ∧ (v = .slice none 0 0 ↔ pre = [])) ∧ Below w.heap.size w W)
  (fun _ _ _ => False)
  (OwnFrom.and (Own.from (holdsRow_own w.heap.size w.heap.size 24 3 1 (fun pre => pre.length) (fun pre => pre.map (Value.int .i64)) (fun pre v => v = .slice none 0 0 ↔ pre = [])) _) (ownFrom_below (Nat.le_refl _) (by simp)))
  (fun _ _ _ _ _ hs _ _ => hs)
  ⟨⟨_, bO, World.ownsRow_nil _ _ _ _, by simp⟩, hB0⟩
  (fun x => { tmps := #[.slice none 0 0, .func (.func 151) #[] #[.pointer (some ⟨Bs, 0, none⟩)], .pointer (some ⟨w.heap.size, 0, none⟩), undef, .slice none 0 0, .int .i64 x, .func (.func 151) #[] #[.pointer (some ⟨Bs, 0, none⟩)], .int .i64 x, undef, undef, undef, undef, undef], defers := [] }) ?assign ?body ?done ?stop
 case assign =>
  intro l x W K hK
  gi_wp2
  exact hK
 case body =>
  rintro l pre x W ⟨⟨v, hv, hrow, hnil⟩, hB⟩ hlt
  have hc := hv.cell
  gi_wp2_with (gi_at_builtin; refine wpListIn_append_own _ rfl _ _ 24 rfl w.heap.size 3 i0 (.int .i64 0) 1 8 underlying24 hi hz0 hz1 hz2 rfl (by decide) _ _ _ rfl (hrow.alloc _) ⟨W.heap.size, 0, none⟩ 1 1 [.int .i64 x] rfl rfl (cell_one_new _ _ _) (by simp [Value.oneCell']) (by omega) (by omega) (by have := hB.size; simp; omega) ?_; intro v' w1 hown' hgrow _; obtain ⟨g', cap', rfl⟩ := ownsRow_succ hown'; obtain ⟨hv1, hv2, hr2, hk2, hb2⟩ := hv.appended (by decide) hrow hB.size (Nat.le_refl _) hown' hgrow; have hc1 := hv1.cell; have hf1 := hv1.frozen)
  exact ⟨hk2.from _, hb2, ⟨_, hv2, by simpa using hr2, by simp⟩, hB.trans hb2⟩
 case done =>
  rintro D ys W hD rfl ⟨⟨v, hv, hrow, hnil⟩, hB⟩ hK
  have hc := hv.cell
  gi_wp2
  refine ⟨by simp, .inl ⟨_, _, rfl, run_takeDeferred hK, ?_⟩⟩
  exact ⟨_, results_tmp rfl _ _ _, v, rfl, ownsRow_putObj hrow _ hK rfl, hB.trans (belowK_b (w := w) (Nat.le_refl _) W D _ _ (by simp at hD; omega) hK rfl rfl)⟩
 case stop =>
  rintro D c pre W _ _ h _
  exact h.elim
theorem row.ints {w : World} {a : Option Addr} {c n : Nat} {zs : List Int} (hl : zs.length = n) (h : (row a c 3 1 n (ints zs)).H w) : Ints w.heap.size w (.slice a n c) zs := by
 rcases h.2 with ⟨he, h0⟩ | ⟨g, cap, cur, he, _, hg, _⟩
 ·cases he
  exact .inl ⟨by rw [h0], List.eq_nil_of_length_eq_zero (by omega)⟩
 ·cases he
  refine .inr ⟨g, c, by rw [hl], lt_of_some hg, fun j hj => ?_⟩
  exact Cel.row g c 3 1 n _ w h j _ (by rw [ints_at hj, List.getD_eq_getElem?_getD])
theorem s_AppendSeq (B : Nat) (a : Option Addr) (n c : Nat) (zs : List Int) (hl : zs.length = n) (hn : n ≤ 1000) : Spec prog 153 [.slice none 0 0, .func (.func 151) #[] #[.pointer (some ⟨B, 0, none⟩)]] [] [blk B [.slice a n c] 24, row a c 3 1 n (ints zs)] (fun v Ln => ∃ a' c', v = .slice a' n c' ∧ Ln = [row a' c' 3 1 n (ints zs)]) := by
 intro w _ hR _ _
 have hb := hR (blk B [.slice a n c] 24) (by simp)
 have hr := hR (row a c 3 1 n (ints zs)) (by simp)
 refine (callsIn_wide (n := 3)).1 ((apseq_in 3 (Nat.le_refl _) B (.slice a n c) zs (by simp only [maxLen]; omega) (by omega) w (lt_of_some hb) (Cel.blk B _ 24 w hb 0 _ rfl) (row.ints hl hr)).mono ?_)
 rintro e w' ⟨v, rfl, ho, hB⟩
 rw [hl] at ho
 rcases ho.2 with ⟨rfl, h0⟩ | ⟨g, cap, cur, rfl, hbg, rest⟩
 ·refine ⟨_, [row none 0 3 1 n (ints zs)], rfl, ⟨none, 0, by rw [h0], rfl⟩, Fr.of_below hB _, ?_, ?_, ?_⟩
  ·intro x hx; simp at hx; subst hx; exact ⟨ho.1, .inl ⟨by rw [h0], h0⟩⟩
  ·simp [ids]; exact List.nodup_nil
  ·intro k hk; simp [ids] at hk; exact absurd hk List.not_mem_nil
 ·refine ⟨_, [row (some ⟨g, 0, none⟩) cap 3 1 n (ints zs)], rfl, ⟨_, _, rfl, rfl⟩, Fr.of_below hB _, ?_, ?_, ?_⟩
  ·intro x hx; simp at hx; subst hx; exact ⟨ho.1, .inr ⟨g, cap, cur, rfl, Nat.zero_le _, rest⟩⟩
  ·simp [ids, row]
  ·intro k hk; simp [ids, row] at hk; subst hk; exact .inr hbg
end Go.Proofs.YtbmhgopjblnfnaaGreat.S
namespace Go.Proofs.YtbmhgopjblnfnaaGreat.S
open Go Go.Proofs Go.RowKit Go.Proofs.YtbmhgopjblnfnaaGreatW.PrintLast Tryz
theorem e81 : Is prog 81 := ⟨_, func81, by kernel_rfl, rfl⟩
theorem e118 : Is prog 118 := ⟨_, func118, by kernel_rfl, rfl⟩
theorem e127 : Is prog 127 := ⟨_, func127, by kernel_rfl, rfl⟩
theorem e138 : Is prog 138 := ⟨_, func138, by kernel_rfl, rfl⟩
theorem e139 : Is prog 139 := ⟨_, func139, by kernel_rfl, rfl⟩
theorem e145 : Is prog 145 := ⟨_, func145, by kernel_rfl, rfl⟩
theorem e146 : Is prog 146 := ⟨_, func146, by kernel_rfl, rfl⟩
theorem e149 : Is prog 149 := ⟨_, func149, by kernel_rfl, rfl⟩
theorem e150 : Is prog 150 := ⟨_, func150, by kernel_rfl, rfl⟩
theorem e153 : Is prog 153 := ⟨_, func153, by kernel_rfl, rfl⟩
theorem s223 : tslice prog 223 = some (49, 2) := by kernel_rfl
theorem y3 : tbytes prog 3 = some (1, 8) := by kernel_rfl
theorem s_Values (a : Option Addr) (n c : Nat) : Spec prog 146 [.slice a n c] [] [] (fun v Ln => ∃ g, v = .func (.func 151) #[] #[.pointer (some ⟨g, 0, none⟩)] ∧ Ln = [blk g [.slice a n c] 24]) := by
 refine Spec.en func146 ntmps146 fun w0 => ?_
 refine G.sr fun _ K1 => ?_
 refine G.mk 1 .bx fun g1 => ?_
 refine G.M 2 ?_
 refine G.nk K1 ?_
 refine G.sr fun _ K2 => ?_
 refine G.V 3 .mf ?_
 refine G.M 2 ?_
 refine G.nk K2 ?_
 exact G.ret (G.F [0] (.one Tryz.results146) ⟨g1, rfl, rfl⟩)
theorem s_Collect (B : Nat) (a : Option Addr) (n c : Nat) (zs : List Int) (hl : zs.length = n) (hn : n ≤ 12) : Spec prog 149 [.func (.func 151) #[] #[.pointer (some ⟨B, 0, none⟩)]] [] [blk B [.slice a n c] 24, row a c 3 1 n (ints zs)] (fun v Ln => ∃ a' c', v = .slice a' n c' ∧ Ln = [row a' c' 3 1 n (ints zs)]) := by
 refine Spec.en func149 ntmps149 fun w0 => ?_
 refine G.sr fun _ K1 => ?_
 refine G.M 2 ?_
 refine G.nk K1 ?_
 refine G.sr fun _ K2 => ?_
 refine G.M 3 ?_
 refine G.C 4 [] [0, 1]  e153 (s_AppendSeq B a n c zs hl (by omega)) ?_
 rintro _ _ ⟨a1, c1, rfl, rfl⟩
 refine G.M 2 ?_
 refine G.nk K2 ?_
 exact G.ret (G.F [0] (.one Tryz.results149) ⟨a1, c1, rfl, rfl⟩)
theorem s_Sorted (B : Nat) (a : Option Addr) (n c : Nat) (zs : List Int) (hl : zs.length = n) (hn : n ≤ 12) (h0 : 0 < n) : Spec prog 145 [.func (.func 151) #[] #[.pointer (some ⟨B, 0, none⟩)]] [] [blk B [.slice a n c] 24, row a c 3 1 n (ints zs)] (fun v Ln => ∃ g c' r l', v = .slice (some ⟨g, 0, none⟩) n c' ∧ Ln = [blk g (ints l' ++ r) 3] ∧ l'.length = n ∧ l'.Perm zs ∧ Srt l' n) := by
 refine Spec.en func145 ntmps145 fun w0 => ?_
 refine G.sr fun _ K1 => ?_
 refine G.M 2 ?_
 refine G.nk K1 ?_
 refine G.sr fun _ K2 => ?_
 refine G.M 4 ?_
 refine G.C 5 [] [0, 1]  e149 (s_Collect B a n c zs hl (by omega)) ?_
 rintro _ _ ⟨a1, c1, rfl, rfl⟩
 refine G.M 3 ?_
 refine G.nk K2 ?_
 refine G.Z fun _ K3 => ?_
 refine G.base 0 h0 fun b4 hb_ => ?_
 subst hb_
 refine G.open 0 fun r5 => ?_
 try dsimp only [List.set]
 refine G.region ?_
 refine G.M 6 ?_
 refine G.C 7 [0] []  e150 (s_Sort b4 n c1 zs r5 hl hn) ?_
 rintro _ _ ⟨rfl, l', rfl, hl', hp', hs'⟩
 refine G.nk K3 ?_
 refine G.sr fun _ K6 => ?_
 refine G.M2 8 2 ?_
 refine G.nk K6 ?_
 exact G.ret (G.F [0] (.one Tryz.results145) ⟨b4, c1, r5, l', rfl, rfl, hl', hp', hs'⟩)
def Kth (zs : List Int) (k : Nat) (x : Int) : Prop := ∃ l : List Int, l.Perm zs ∧ Srt l zs.length ∧ x = l.getD k 0
theorem t_Least (k : Nat) (a : Option Addr) (n c : Nat) (zs : List Int) (hl : zs.length = n) (hn : n ≤ 12) (hk : k < n) : Spec prog 139 [.int .i64 (k : Int), .slice a n c] [] [row a c 3 1 n (ints zs)] (fun v Ln => ∃ x : Int, v = .tuple #[.int .i64 x, .bool true] ∧ Kth zs k x ∧ Ln = []) := by
 refine Spec.en func139 ntmps139 fun w0 => ?_
 refine G.sr fun _ K1 => ?_
 refine G.M2 4 5 ?_
 refine G.nk K1 ?_
 refine G.Z fun _ K2 => ?_
 refine G.sr fun _ K3 => ?_
 refine G.M 7 ?_
 refine G.V 8 (.cast .bin (bf (by omega))) ?_
 refine G.M3 9 10 11 ?_
 refine G.V 12 (.lenl s24) ?_
 refine G.V 13 (.cast .bin (bf (by omega))) ?_
 refine G.V 14 .pick ?_
 refine G.nk K3 ?_
 refine G.no rfl ?_
 refine G.sk K2 ?_
 refine G.sr fun _ K4 => ?_
 refine G.M 15 ?_
 refine G.C 16 [] []  e146 (s_Values a n c) ?_
 rintro _ _ ⟨B, rfl, rfl⟩
 refine G.C 17 [] [1, 0]  e145 (s_Sorted B a n c zs hl hn (by omega)) ?_
 rintro _ _ ⟨g, c', r, l', rfl, rfl, hl', hp', hs'⟩
 refine G.M 6 ?_
 refine G.nk K4 ?_
 refine G.sr fun _ K5 => ?_
 refine G.M2 18 19 ?_
 refine G.V 20 (.is s24 k hk) ?_
 refine G.V 21 (.ld t3 0 (hv := intsr_at (l := l') (k := k) (by omega))) ?_
 refine G.M2 4 5 ?_
 refine G.nk K5 ?_
 exact G.ret (G.F [] (.two Tryz.results139) ⟨_, rfl, ⟨l', hp', by rw [hl]; exact hs', rfl⟩, rfl⟩)
theorem t_Most (k : Nat) (a : Option Addr) (n c : Nat) (zs : List Int) (hl : zs.length = n) (hn : n ≤ 12) (hk : k < n) : Spec prog 138 [.int .i64 (k : Int), .slice a n c] [] [row a c 3 1 n (ints zs)] (fun v Ln => ∃ x : Int, v = .tuple #[.int .i64 x, .bool true] ∧ Kth zs (n - 1 - k) x ∧ Ln = []) := by
 refine Spec.en func138 ntmps138 fun w0 => ?_
 refine G.sr fun _ K1 => ?_
 refine G.M2 4 5 ?_
 refine G.nk K1 ?_
 refine G.Z fun _ K2 => ?_
 refine G.sr fun _ K3 => ?_
 refine G.M 6 ?_
 refine G.V 7 (.cast .bin (bf (by omega))) ?_
 refine G.M3 8 9 10 ?_
 refine G.V 11 (.lenl s24) ?_
 refine G.V 12 (.cast .bin (bf (by omega))) ?_
 refine G.V 13 .pick ?_
 refine G.nk K3 ?_
 refine G.no rfl ?_
 refine G.sk K2 ?_
 refine G.sr fun _ K4 => ?_
 refine G.M 14 ?_
 refine G.V 15 (.lenl s24) ?_
 refine G.V 16 .bw ?_
 refine G.M 17 ?_
 refine G.V 18 (.cast (.cast .bin (wi (by omega) (by omega))) (show Value.int .i64 ((n : Int) - 1 - (k : Int)) = .int .i64 ((n - 1 - k : Nat) : Int) from by congr 1; omega)) ?_
 refine G.M 19 ?_
 refine G.C 20 [] [0]  e139 (t_Least (n - 1 - k) a n c zs hl hn (by omega)) ?_
 rintro _ _ ⟨x, rfl, hx, rfl⟩
 refine G.V 21 .ext ?_
 refine G.V 22 .ext ?_
 refine G.M2 4 5 ?_
 refine G.nk K4 ?_
 exact G.ret (G.F [] (.two Tryz.results138) ⟨_, rfl, hx, rfl⟩)
def spl (l : List (Int × Int)) : List Value := l.flatMap fun x => [.int .i64 x.1, .int .i64 x.2]
theorem spl_at {l : List (Int × Int)} {k : Nat} {x : Int × Int} (h : l[k]? = some x) : ((spl l).drop (0 + k * 2)).take 2 = [.int .i64 x.1, .int .i64 x.2] := by rw [Nat.zero_add]; exact flat_at (fun x : Int × Int => [.int .i64 x.1, .int .i64 x.2]) (fun _ => rfl) h
theorem ints_snoc {α : Type} (f : α → Int) {l : List α} {k : Nat} {x : α} (h : l[k]? = some x) : ints ((l.take k).map f) ++ [.int .i64 (f x)] = ints ((l.take (k + 1)).map f) := by rw [List.take_add_one, h]; simp [ints]
def Fused (f : Nat) (l : List (Int × Int)) (ok : Bool) (lo hi : Int) : Prop :=
 (ok = false ∧ lo = 0 ∧ hi = 0 ∧ (l.length ≤ 2 * f ∨ ∃ a b, Kth (l.map Prod.fst) (l.length - 1 - f) a ∧ Kth (l.map Prod.snd) f b ∧ b < a)) ∨
 (ok = true ∧ 2 * f < l.length ∧ ∃ a b, Kth (l.map Prod.fst) (l.length - 1 - f) a ∧ Kth (l.map Prod.snd) f b ∧ a ≤ b ∧ lo = clp a ∧ hi = clp b)
theorem t_Fuse (f : Nat) (a : Option Addr) (n c : Nat) (l : List (Int × Int)) (hl : l.length = n) (hn : n ≤ 12) : Spec prog 127 [.int .i64 (f : Int), .slice a n c] [] [row a c 49 2 n (spl l)] (fun v Ln => ∃ ok lo hi, v = .tuple #[.agg #[.int .i64 lo, .int .i64 hi], .bool ok] ∧ Fused f l ok lo hi ∧ Ln = []) := by
 refine Spec.en func127 ntmps127 fun w0 => ?_
 refine G.sr fun _ K1 => ?_
 refine G.mk 4 (.al z49) fun g4 => ?_
 refine G.M 5 ?_
 refine G.nk K1 ?_
 refine G.Z fun _ K2 => ?_
 refine G.Z fun _ K3 => ?_
 by_cases hf : 2 * f < n
 refine G.region ?_
 refine G.M 14 ?_
 refine G.V 15 (.cast .bin (bf (by omega))) ?_
 refine G.M3 16 17 18 ?_
 refine G.V 19 (.lenl s223) ?_
 refine G.V 20 (.cast .bin (bf (by omega))) ?_
 refine G.V 21 .pick ?_
 refine G.M2 22 23 ?_
 refine G.V 24 (.lenl s223) ?_
 refine G.M 25 ?_
 refine G.V 26 .bw ?_
 refine G.M 27 ?_
 refine G.V 28 (.cast .bin (bf (by omega))) ?_
 refine G.V 29 .pick ?_
 refine G.nk K3 ?_
 refine G.no rfl ?_
 refine G.sk K2 ?_
 refine G.sr fun _ K4 => ?_
 refine G.M2 6 7 ?_
 refine G.nk K4 ?_
 refine G.Z fun _ K5 => ?_
 refine G.Z fun _ K6 => ?_
 refine G.newRow 3 1 ?_
 refine G.newRow 3 1 ?_
 refine G.region ?_
 refine G.M 31 ?_
 refine G.V 32 (.lenl s223) ?_
 refine G.M 33 ?_
 refine G.nk K6 ?_
 refine G.block ?_
 refine G.only [1, 0, 0] ?_
 refine G.lpR (ι := {q : Nat × Option Addr × Nat × Option Addr × Nat // q.1 ≤ n}) (fun ⟨⟨k, a6, c6, a7, c7⟩, hj⟩ => n - k) (fun ⟨⟨k, a6, c6, a7, c7⟩, hj⟩ => [(4, .pointer (some ⟨g4, 0, none⟩)), (0, .int .i64 (f : Int)), (6, .slice a6 k c6), (7, .slice a7 k c7), (31, .slice a n c), (32, .int .i64 (n : Int)), (33, .int .i64 (k : Int))]) (fun ⟨⟨k, a6, c6, a7, c7⟩, hj⟩ => [row a6 c6 3 1 k (ints ((l.take k).map Prod.fst)), row a7 c7 3 1 k (ints ((l.take k).map Prod.snd)), blk g4 [.int .i64 0, .int .i64 0] 49]) ?_ ?_
 exact G.at ⟨⟨0, none, 0, none, 0⟩, Nat.zero_le _⟩ (ts := [4, 0, 6, 7, 31, 32, 33]) rfl rfl rfl rfl
 rintro ⟨⟨k, a6, c6, a7, c7⟩, hj⟩ _ K7
 try dsimp only at K7 ⊢
 dsimp only at hj
 refine G.sr fun _ K8 => ?_
 refine G.V 34 .bin ?_
 refine G.nk K8 ?_
 refine G.Z fun _ K9 => ?_
 refine G.cond rfl (fun hc34 => ?_) (fun hc34 => ?_)
 have hk : k < n := by have := of_decide_eq_true hc34; omega
 obtain ⟨x, hx⟩ : ∃ x, l[k]? = some x := ⟨_, List.getElem?_eq_getElem (by omega)⟩
 refine G.sk K9 ?_
 refine G.Z fun _ K10 => ?_
 refine G.block ?_
 refine G.Z fun _ K11 => ?_
 refine G.base 3 (show 0 < n by omega) fun b12 hb_ => ?_
 subst hb_
 refine G.region ?_
 refine G.V 35 (.is s223 k (show k < n by omega)) ?_
 refine G.V 36 (.lda t49 3 (hv := spl_at hx)) ?_
 refine G.mk 9 (.al z49) fun g9 => ?_
 refine G.sn 0 (.st t49 0) rfl ?_
 refine G.nk K11 ?_
 refine G.draw 12 [0] [] [] ?_
 refine D.V 0 37 1 .mv ?_
 refine D.V 1 38 3 (.fa f49_0 0) ?_
 refine D.V 5 42 35 .mv ?_
 refine D.V 6 43 99 (.fa f49_1 1) ?_
 refine D.T 2 39 103 (.ld t3 0) [0] [] ?_
 refine D.T 7 44 231 (.ld t3 0) [0] [] ?_
 refine D.join (ι := Nat × Nat × Option Addr × Nat) (fun ⟨g45, g40, a14, c15⟩ => [(0, .int .i64 (f : Int)), (4, .pointer (some ⟨g4, 0, none⟩)), (6, .slice a6 k c6), (7, .slice a7 k c7), (9, .pointer (some ⟨g9, 0, none⟩)), (31, .slice (some ⟨b12, 0, none⟩) n c), (32, .int .i64 (n : Int)), (33, .int .i64 (k : Int)), (34, .bool (decide ((k : Int) < (n : Int)))), (35, .pointer (some ⟨b12, 0 + k * 2, none⟩)), (36, .agg #[.int .i64 x.1, .int .i64 x.2]), (41, .slice a14 (k + 1) c15), (42, .slice a7 k c7), (45, .slice (some ⟨g45, 0, none⟩) 1 1)]) (fun ⟨g45, g40, a14, c15⟩ => [blk g45 [.int .i64 x.2] 3, blk g40 [.int .i64 x.1] 3, blk g9 [.int .i64 x.1, .int .i64 x.2] 49, row a14 c15 3 1 (k + 1) ((ints ((l.take k).map Prod.fst)) ++ [.int .i64 x.1]), row a7 c7 3 1 k (ints ((l.take k).map Prod.snd)), blk g4 [.int .i64 0, .int .i64 0] 49]) (fun ⟨g45, g40, a14, c15⟩ => [row (some ⟨b12, 0, none⟩) c 49 2 n (spl l)]) 3 511 (fun hJ13 => ?_) ?_
 refine D.two 3 8 239 487 ?_ ?_
 refine E.row 3 40 (.sl s24 z3 [.int .i64 x.1]) [0] []  fun g40 => ?_
 refine D.two 4 8 255 495 ?_ ?_
 refine E.chg 4 41 2 (.app s24 z3 y3 2 0 (show k + 1 ≤ 1048576 by omega)) [1] []  ?_
 rintro _ _ ⟨a14, c15, rfl, rfl⟩
 dsimp only [List.set]
 refine D.ev 8 511 ?_
 refine E.row 8 45 (.sl s24 z3 [.int .i64 x.2]) [1] []  fun g45 => ?_
 refine hJ13 _ _ _ ?_
 exact G.at (g45, g40, a14, c15) (ts := [0, 4, 6, 7, 9, 31, 32, 33, 34, 35, 36, 41, 42, 45]) rfl rfl rfl rfl
 refine E.row 8 45 (.sl s24 z3 [.int .i64 x.2]) [1] []  fun g45 => ?_
 refine D.chg 4 41 511 3 (.app s24 z3 y3 3 1 (show k + 1 ≤ 1048576 by omega)) [2] []  ?_
 rintro _ _ ⟨a16, c17, rfl, rfl⟩
 dsimp only [List.set]
 refine hJ13 _ _ _ ?_
 exact G.at (g45, g40, a16, c17) (ts := [0, 4, 6, 7, 9, 31, 32, 33, 34, 35, 36, 41, 42, 45]) rfl rfl rfl rfl
 refine E.row 8 45 (.sl s24 z3 [.int .i64 x.2]) [0] []  fun g45 => ?_
 refine D.ev 3 495 ?_
 refine E.row 3 40 (.sl s24 z3 [.int .i64 x.1]) [1] []  fun g40 => ?_
 refine D.chg 4 41 511 3 (.app s24 z3 y3 3 0 (show k + 1 ≤ 1048576 by omega)) [2] []  ?_
 rintro _ _ ⟨a18, c19, rfl, rfl⟩
 dsimp only [List.set]
 refine G.only [1, 0, 0, 0, 0, 0] ?_
 refine hJ13 _ _ _ ?_
 exact G.at (g45, g40, a18, c19) (ts := [0, 4, 6, 7, 9, 31, 32, 33, 34, 35, 36, 41, 42, 45]) rfl rfl rfl rfl
 rintro ⟨g45, g40, a14, c15⟩
 try dsimp only
 refine D.chg 9 46 1023 4 (.app s24 z3 y3 4 0 (show k + 1 ≤ 1048576 by omega)) [2] []  ?_
 rintro _ _ ⟨a20, c21, rfl, rfl⟩
 dsimp only [List.set]
 refine D.V 10 6 2047 .mv ?_
 refine D.V 11 7 4095 .mv ?_
 refine D.done ?_
 refine K10 _ _ _ ?_
 refine G.region ?_
 refine G.V 47 .bw ?_
 refine G.M 33 ?_
 refine G.nil ?_
 refine G.only [3, 3, 3] ?_
 refine K7 _ _ _ ?_
 exact G.ls ⟨⟨k + 1, a14, c15, a20, c21⟩, hk⟩ (hL := (by dsimp only; rw [← ints_snoc Prod.fst hx, ← ints_snoc Prod.snd hx]))
 have hkn : n = k := by have := of_decide_eq_false hc34; omega
 subst hkn
 refine G.exit ?_
 refine K5 _ _ _ ?_
 refine G.Z fun _ K22 => ?_
 have hz : l.take n = l := by rw [← hl]; exact List.take_length
 refine G.eqL [row a6 c6 3 1 n (ints (l.map Prod.fst)), row a7 c7 3 1 n (ints (l.map Prod.snd)), blk g4 [.int .i64 0, .int .i64 0] 49] (by rw [hz]) ?_
 refine G.region ?_
 refine G.M2 49 50 ?_
 refine G.C 51 [] [1]  e138 (t_Most f a6 n c6 (l.map Prod.fst) (by simp [hl]) hn (by omega)) ?_
 rintro _ _ ⟨x, rfl, hx, rfl⟩
 refine G.M 48 ?_
 refine G.V 52 .ext ?_
 refine G.V 53 .ext ?_
 refine G.M2 10 11 ?_
 refine G.nk K22 ?_
 refine G.sr fun _ K23 => ?_
 refine G.M2 55 56 ?_
 refine G.C 57 [] [2]  e139 (t_Least f a7 n c7 (l.map Prod.snd) (by simp [hl]) hn (by omega)) ?_
 rintro _ _ ⟨y, rfl, hy, rfl⟩
 refine G.M 54 ?_
 refine G.V 58 .ext ?_
 refine G.V 59 .ext ?_
 refine G.M2 12 13 ?_
 refine G.nk K23 ?_
 refine G.Z fun _ K24 => ?_
 refine G.sr fun _ K25 => ?_
 refine G.M2 60 61 ?_
 refine G.V 62 .bin ?_
 refine G.nk K25 ?_
 refine G.cond rfl (fun hc62 => ?_) (fun hc62 => ?_)
 refine G.sr fun _ K26 => ?_
 refine G.V 63 (.build z49 p49) ?_
 refine G.sn 2 (.st t49 2) rfl ?_
 refine G.M 5 ?_
 refine G.nk K26 ?_
 exact G.ret (G.F [] (.cell1 Tryz.results127 t49 2) ⟨_, _, _, rfl, by first | exact .inl ⟨rfl, rfl, rfl, .inl (by omega)⟩ | exact .inl ⟨rfl, rfl, rfl, .inr ⟨x, y, by rw [hl]; exact hx, hy, of_decide_eq_true hc62⟩⟩ | exact .inr ⟨rfl, by omega, x, y, by rw [hl]; exact hx, hy, by have := of_decide_eq_false hc62; omega, rfl, rfl⟩, rfl⟩)
 refine G.sk K24 ?_
 refine G.sr fun _ K27 => ?_
 refine G.M2 64 65 ?_
 refine G.cp 66 [] []  e81 (sp_Of x y) ?_
 refine G.sn 2 (.st t49 2) rfl ?_
 refine G.M 5 ?_
 refine G.nk K27 ?_
 exact G.ret (G.F [] (.cell1 Tryz.results127 t49 2) ⟨_, _, _, rfl, by first | exact .inl ⟨rfl, rfl, rfl, .inl (by omega)⟩ | exact .inl ⟨rfl, rfl, rfl, .inr ⟨x, y, by rw [hl]; exact hx, hy, of_decide_eq_true hc62⟩⟩ | exact .inr ⟨rfl, by omega, x, y, by rw [hl]; exact hx, hy, by have := of_decide_eq_false hc62; omega, rfl, rfl⟩, rfl⟩)
 by_cases hf2 : n ≤ f
 refine G.region ?_
 refine G.M 14 ?_
 refine G.V 15 (.cast .bin (bf (by omega))) ?_
 refine G.M3 16 17 18 ?_
 refine G.V 19 (.lenl s223) ?_
 refine G.V 20 (.cast .bin (bt (by omega))) ?_
 refine G.V 21 .pick ?_
 refine G.M 22 ?_
 refine G.O4 23 24 25 26 ?_
 refine G.O2 27 28 ?_
 refine G.V 29 .pick ?_
 refine G.nk K3 ?_
 refine G.yes rfl ?_
 refine G.sr fun _ K28 => ?_
 refine G.V 30 (.build z49 p49) ?_
 refine G.sn 0 (.st t49 0) rfl ?_
 refine G.M 5 ?_
 refine G.nk K28 ?_
 exact G.ret (G.F [] (.cell1 Tryz.results127 t49 0) ⟨_, _, _, rfl, by first | exact .inl ⟨rfl, rfl, rfl, .inl (by omega)⟩ | exact .inl ⟨rfl, rfl, rfl, .inr ⟨x, y, by rw [hl]; exact hx, hy, of_decide_eq_true hc62⟩⟩ | exact .inr ⟨rfl, by omega, x, y, by rw [hl]; exact hx, hy, by have := of_decide_eq_false hc62; omega, rfl, rfl⟩, rfl⟩)
 refine G.region ?_
 refine G.M 14 ?_
 refine G.V 15 (.cast .bin (bf (by omega))) ?_
 refine G.M3 16 17 18 ?_
 refine G.V 19 (.lenl s223) ?_
 refine G.V 20 (.cast .bin (bf (by omega))) ?_
 refine G.V 21 .pick ?_
 refine G.M2 22 23 ?_
 refine G.V 24 (.lenl s223) ?_
 refine G.M 25 ?_
 refine G.V 26 .bw ?_
 refine G.M 27 ?_
 refine G.V 28 (.cast .bin (bt (by omega))) ?_
 refine G.V 29 .pick ?_
 refine G.nk K3 ?_
 refine G.yes rfl ?_
 refine G.sr fun _ K29 => ?_
 refine G.V 30 (.build z49 p49) ?_
 refine G.sn 0 (.st t49 0) rfl ?_
 refine G.M 5 ?_
 refine G.nk K29 ?_
 exact G.ret (G.F [] (.cell1 Tryz.results127 t49 0) ⟨_, _, _, rfl, by first | exact .inl ⟨rfl, rfl, rfl, .inl (by omega)⟩ | exact .inl ⟨rfl, rfl, rfl, .inr ⟨x, y, by rw [hl]; exact hx, hy, of_decide_eq_true hc62⟩⟩ | exact .inr ⟨rfl, by omega, x, y, by rw [hl]; exact hx, hy, by have := of_decide_eq_false hc62; omega, rfl, rfl⟩, rfl⟩)
theorem a_Fuse (p : Par) (f : Nat) (hf : p.f = (f : Int)) (a : Option Addr) (n c : Nat) (l : List (Int × Int)) (hl : l.length = n) (hn : n ≤ 12) : Spec prog 119 [.agg #[.int .i64 p.n, .int .i64 p.f, .int .i64 p.d, .int .i64 p.beat, .int .i64 p.rho, .int .i64 p.delay, .int .i64 p.jitter, .int .i64 p.eps, .int .i64 p.mu, .int .i64 p.hold, .int .i64 p.pulse, .int .i64 p.second], .slice a n c] [] [row a c 49 2 n (spl l)] (fun v Ln => ∃ ok lo hi, v = .tuple #[.agg #[.int .i64 lo, .int .i64 hi], .bool ok] ∧ Fused f l ok lo hi ∧ Ln = []) := by
 refine Spec.en func119 ntmps119 fun w0 => ?_
 refine G.sr fun _ K1 => ?_
 refine G.mk 2 .bx fun g2 => ?_
 refine G.mk 4 (.al z49) fun g4 => ?_
 refine G.M 5 ?_
 refine G.nk K1 ?_
 refine G.sr fun _ K2 => ?_
 refine G.V 6 (.fa f23_1 1) ?_
 refine G.V 7 (.cast (.ld t3 1) (show Value.int .i64 p.f = .int .i64 (f : Int) from by rw [hf])) ?_
 refine G.M 8 ?_
 refine G.C 9 [] [0]  e127 (t_Fuse f a n c l hl hn) ?_
 rintro _ _ ⟨ok, lo, hi, rfl, hF, rfl⟩
 refine G.V 10 .ext ?_
 refine G.V 11 .ext ?_
 refine G.sn 0 (.st t49 0) rfl ?_
 refine G.M 5 ?_
 refine G.nk K2 ?_
 exact G.ret (G.F [] (.cell1 Tryz.results119 t49 0) ⟨ok, lo, hi, rfl, hF, rfl⟩)
theorem a_Held (p : Par) (f : Nat) (hf : p.f = (f : Int)) (a : Option Addr) (n c : Nat) (zs : List Int) (hl : zs.length = n) (hn : n ≤ 12) (hk : f < n) : Spec prog 183 [.agg #[.int .i64 p.n, .int .i64 p.f, .int .i64 p.d, .int .i64 p.beat, .int .i64 p.rho, .int .i64 p.delay, .int .i64 p.jitter, .int .i64 p.eps, .int .i64 p.mu, .int .i64 p.hold, .int .i64 p.pulse, .int .i64 p.second], .slice a n c] [] [row a c 3 1 n (ints zs)] (fun v Ln => ∃ h : Int, v = .tuple #[.int .i64 h, .bool true] ∧ (∃ x, Kth zs f x ∧ h = moreV x) ∧ Ln = []) := by
 refine Spec.en func183 ntmps183 fun w0 => ?_
 refine G.sr fun _ K1 => ?_
 refine G.mk 2 .bx fun g2 => ?_
 refine G.M2 4 5 ?_
 refine G.nk K1 ?_
 refine G.sr fun _ K2 => ?_
 refine G.V 9 (.fa f23_1 1) ?_
 refine G.V 10 (.cast (.ld t3 0) (show Value.int .i64 p.f = .int .i64 (f : Int) from by rw [hf])) ?_
 refine G.M 11 ?_
 refine G.C 12 [] [0]  e139 (t_Least f a n c zs hl hn hk) ?_
 rintro _ _ ⟨x, rfl, hx, rfl⟩
 refine G.M 8 ?_
 refine G.V 13 .ext ?_
 refine G.V 14 .ext ?_
 refine G.M2 6 7 ?_
 refine G.nk K2 ?_
 refine G.Z fun _ K3 => ?_
 refine G.sr fun _ K4 => ?_
 refine G.M 15 ?_
 refine G.V 16 .not ?_
 refine G.nk K4 ?_
 refine G.no rfl ?_
 refine G.sk K3 ?_
 refine G.sr fun _ K5 => ?_
 refine G.M 17 ?_
 refine G.cp 18 [] []  e118 (a_More x) ?_
 refine G.M2 4 5 ?_
 refine G.nk K5 ?_
 exact G.ret (G.F [] (.two Tryz.results183) ⟨_, rfl, ⟨x, hx, rfl⟩, rfl⟩)
theorem sets_eq (vs : List Value) : ∀ (cs : List Value) (j : Nat), j + vs.length ≤ cs.length → sets cs j vs = cs.take j ++ vs ++ cs.drop (j + vs.length) := by
 induction vs with
 | nil => intro cs j _; simp [sets]
 | cons v vs ih =>
  intro cs j h
  have e : sets cs j (v :: vs) = sets (cs.set j v) (j + 1) vs := rfl
  simp only [List.length_cons] at h
  rw [e, ih _ _ (by simp; omega)]
  apply List.ext_getElem?
  intro i
  simp only [List.append_assoc, List.cons_append, List.length_cons]
  rcases Nat.lt_trichotomy i j with q | q | q
  ·rw [List.getElem?_append_left (by simp; omega), List.getElem?_append_left (by simp; omega)]
   simp [List.getElem?_take, q, show i < j + 1 by omega, List.getElem?_set_ne (show j ≠ i by omega)]
  ·subst q
   rw [List.getElem?_append_left (by simp; omega), List.getElem?_append_right (by simp; omega)]
   simp [List.getElem?_take, List.getElem?_set_self (show i < cs.length by omega), Nat.min_eq_left (show i ≤ cs.length by omega)]
  ·have l1 : (List.take (j + 1) (cs.set j v)).length = j + 1 := by simp; omega
   have l2 : (List.take j cs).length = j := by simp; omega
   rw [List.getElem?_append_right (l₁ := List.take (j + 1) (cs.set j v)) (by omega), List.getElem?_append_right (l₁ := List.take j cs) (by omega), l1, l2, show i - j = (i - (j + 1)) + 1 by omega, List.getElem?_cons_succ]
   by_cases q2 : i - (j + 1) < vs.length
   ·rw [List.getElem?_append_left q2, List.getElem?_append_left q2]
   ·rw [List.getElem?_append_right (by omega), List.getElem?_append_right (by omega), List.getElem?_drop, List.getElem?_drop, List.getElem?_set_ne (by omega)]
    congr 1; omega
section
variable {α : Type} (f : α → List Value) {n : Nat}
theorem flat_len (hf : ∀ x, (f x).length = n) (l : List α) : (l.flatMap f).length = l.length * n := by
 induction l with
 | nil => simp
 | cons x l ih => simp [ih, hf, Nat.succ_mul]; omega
theorem flat_take (hf : ∀ x, (f x).length = n) (l : List α) (k : Nat) : (l.flatMap f).take (k * n) = (l.take k).flatMap f := by
 induction l generalizing k with
 | nil => simp
 | cons x l ih =>
  cases k with
  | zero => simp
  | succ k =>
   rw [List.flatMap_cons, Nat.succ_mul, Nat.add_comm, ← hf x, List.take_length_add_append, hf x, ih]
   simp
theorem flat_drop (hf : ∀ x, (f x).length = n) (l : List α) (k : Nat) : (l.flatMap f).drop (k * n) = (l.drop k).flatMap f := by
 induction l generalizing k with
 | nil => simp
 | cons x l ih =>
  cases k with
  | zero => simp
  | succ k =>
   rw [List.flatMap_cons, Nat.succ_mul, Nat.add_comm, ← hf x, List.drop_length_add_append, hf x, ih]
   simp
theorem flatr_at (hf : ∀ x, (f x).length = n) {l : List α} {r : List Value} {k : Nat} {x : α} (h : l[k]? = some x) : ((l.flatMap f ++ r).drop (0 + k * n)).take n = f x := by
 have hk : k < l.length := by
  rcases Nat.lt_or_ge k l.length with q | q
  ·exact q
  ·rw [List.getElem?_eq_none q] at h; cases h
 have h1 : (k + 1) * n ≤ l.length * n := Nat.mul_le_mul_right _ hk
 rw [Nat.zero_add, List.drop_append_of_le_length (by rw [flat_len f hf]; rw [Nat.succ_mul] at h1; omega), List.take_append_of_le_length (by rw [List.length_drop, flat_len f hf]; rw [Nat.succ_mul] at h1; omega)]
 exact flat_at f hf h
theorem flatr_set (hf : ∀ x, (f x).length = n) {l : List α} {r : List Value} {k : Nat} (x : α) (hk : k < l.length) : sets (l.flatMap f ++ r) (0 + k * n) (f x) = (l.set k x).flatMap f ++ r := by
 have h1 : (k + 1) * n ≤ l.length * n := Nat.mul_le_mul_right _ hk
 rw [Nat.succ_mul] at h1
 rw [sets_eq _ _ _ (by rw [List.length_append, flat_len f hf, hf]; omega), Nat.zero_add, hf, List.take_append_of_le_length (by rw [flat_len f hf]; omega), List.drop_append_of_le_length (by rw [flat_len f hf]; omega), flat_take f hf, show k * n + n = (k + 1) * n from (Nat.succ_mul _ _).symm, flat_drop f hf, List.set_eq_take_append_cons_drop, if_pos hk]
 simp
theorem flatr_len (hf : ∀ x, (f x).length = n) {l : List α} {r : List Value} {k : Nat} (hk : k < l.length) : 0 + k * n + n ≤ (l.flatMap f ++ r).length := by
 have h1 : (k + 1) * n ≤ l.length * n := Nat.mul_le_mul_right _ hk
 rw [Nat.succ_mul] at h1
 rw [List.length_append, flat_len f hf]; omega
end
theorem swap_perm {α : Type} {l : List α} {j : Nat} {x y : α} (hj : 0 < j) (hx : l[j - 1]? = some x) (hy : l[j]? = some y) : ((l.set j x).set (j - 1) y).Perm l := by
 obtain ⟨h1, rfl⟩ := List.getElem?_eq_some_iff.1 hx
 obtain ⟨h2, rfl⟩ := List.getElem?_eq_some_iff.1 hy
 exact List.set_set_perm h2 (by omega)
theorem row.openF {w : World} {g c : Nat} {e : TypeId} {sz n : Nat} {xs : List Value} (h : (row (some ⟨g, 0, none⟩) c e sz n xs).H w) : ∃ r : {r : List Value // xs.length = n * sz ∧ n * sz + r.length = c * sz ∧ n ≤ c ∧ c ≤ maxLen}, (blk g (xs ++ r.1) e).H w := by
 rcases h.2 with ⟨he, h0⟩ | ⟨g', cap, cur, he, _, hg, h1, h2, h3, ht⟩
 ·cases he
 ·cases he
  have := Nat.mul_le_mul_right sz h1
  refine ⟨⟨cur.toList.drop (n * sz), h.1, by simp; omega, h1, h2⟩, ?_⟩
  have e : xs ++ cur.toList.drop (n * sz) = cur.toList := by rw [← ht, List.take_append_drop]
  show w.heap[g]? = some (.cells (xs ++ cur.toList.drop (n * sz)).toArray _ (0, 0))
  rw [hg, e]
theorem row.close {w : World} {g c : Nat} {e : TypeId} {sz n : Nat} {xs r : List Value} (h0 : xs.length = n * sz) (h1 : n * sz + r.length = c * sz) (h2 : n ≤ c) (h3 : c ≤ maxLen) (h : (blk g (xs ++ r) e).H w) : (row (some ⟨g, 0, none⟩) c e sz n xs).H w :=
 ⟨h0, .inr ⟨g, c, (xs ++ r).toArray, rfl, Nat.zero_le _, h, h2, h3, by simp; omega, by simp [← h0]⟩⟩
theorem G.openF {c : Ctx} {m : Sl} {L R : List Ent} {X : Act → World → Prop} (p : Nat) {g cap : Nat} {t : TypeId} {sz n : Nat} {xs : List Value} (h : ∀ r : List Value, xs.length = n * sz → n * sz + r.length = cap * sz → n ≤ cap → cap ≤ maxLen → G c m (L.set p (blk g (xs ++ r) t)) R X) (hi : L[p]? = some (S.row (some ⟨g, 0, none⟩) cap t sz n xs) := by rfl) : G c m L R X := G.alter (ι := {r : List Value // xs.length = n * sz ∧ n * sz + r.length = cap * sz ∧ n ≤ cap ∧ cap ≤ maxLen}) p (fun r => blk g (xs ++ r.1) t) (fun w q => row.openF q) (fun _ => rfl) (fun r => h r.1 r.2.1 r.2.2.1 r.2.2.2.1 r.2.2.2.2) hi
theorem G.close {c : Ctx} {m : Sl} {L R : List Ent} {X : Act → World → Prop} (p n cap sz : Nat) {g : Nat} {t : TypeId} {xs r : List Value} (h0 : xs.length = n * sz) (h1 : n * sz + r.length = cap * sz) (h2 : n ≤ cap) (h3 : cap ≤ maxLen) (h : G c m (L.set p (S.row (some ⟨g, 0, none⟩) cap t sz n xs)) R X) (hi : L[p]? = some (blk g (xs ++ r) t) := by rfl) : G c m L R X := G.alter (ι := Unit) p (fun _ => S.row (some ⟨g, 0, none⟩) cap t sz n xs) (fun w q => ⟨(), row.close h0 h1 h2 h3 q⟩) (fun _ => rfl) (fun _ => h) hi
theorem fold_set (l : List Value) : ∀ (j : Nat) (cs : Array Value), ((l.zipIdx j).foldl (fun (cs : Array Value) (x : Value × Nat) => cs.setIfInBounds (0 * 0 + x.2) x.1) cs).toList = sets cs.toList j l := by
 induction l with
 | nil => intro j cs; rfl
 | cons v l ih =>
  intro j cs
  rw [List.zipIdx_cons, List.foldl_cons, ih]
  simp [sets, List.zipIdx_cons]
theorem fill_one {v : Value} {cs zs : List Value} {sz : Nat} (hc : v.cells.toList = cs) (hl : cs.length = sz) (hzl : zs.length = sz) : Instr.fill (fun i => some (i * sz, sz)) (List.replicate 1 zs).flatten.toArray [(0, v)] = some cs.toArray := by
 have h1 : v.cells.size = sz := by rw [← Array.length_toList, hc, hl]
 have e : (List.replicate 1 zs).flatten = zs := by simp
 rw [e]
 unfold Instr.fill
 simp only [Nat.zero_mul, Nat.zero_add, h1, ne_eq, not_true_eq_false, List.size_toArray, hzl, gt_iff_lt, Nat.lt_irrefl, decide_false, Bool.or_self, Bool.false_eq_true, if_false]
 unfold Instr.fill
 congr 1
 apply Array.toList_inj.1
 have := fold_set v.cells.toList 0 zs.toArray
 rw [sets_eq _ _ _ (by simp [hc, hl, hzl])] at this
 rw [← Array.foldl_toList]
 simp only [Nat.zero_mul, Nat.zero_add] at this
 simp [hc, hl, hzl] at this ⊢
 rw [this, List.drop_eq_nil_of_le (by omega), List.append_nil]
theorem Rws.one {P : Program} {m : Sl} {L R : List Ent} {o : Oper} {T e : TypeId} {sz : Nat} (hT : tslice P T = some (e, sz)) {zs : List Value} (hz : tzero P e = some zs) {parts : Array (Nat × Operand)} {v : Value} (cs : List Value) (hop : o.op = .buildSlice T 1 parts := by rfl) (hv : evp m parts.toList = some [(0, v)] := by rfl) (hc : v.cells.toList = cs := by rfl) (hl : cs.length = sz := by rfl) (hzl : zs.length = sz := by rfl) (hb : sz.blt 16777217 = true := by rfl) (h0 : (sz == 0) = false := by rfl) : Rws P m L R o cs e 1 :=
 Rws.sl hT hz cs hop ⟨by rw [Nat.one_mul]; exact hb, by rw [Nat.one_mul]; exact h0, hzl⟩ hv (fill_one hc hl hzl)
theorem Rws.zero {P : Program} {m : Sl} {L R : List Ent} {o : Oper} {T e : TypeId} {sz : Nat} (hT : tslice P T = some (e, sz)) (hop : o.op = .buildSlice T 0 #[] := by rfl) : Rws P m L R o [] e 0 := fun a w hs _ => by
 unfold tslice at hT
 split at hT
 ·next e' hu =>
  obtain ⟨inf, hin, hT⟩ := Option.map_eq_some_iff.1 hT
  simp only [Prod.mk.injEq] at hT
  obtain ⟨rfl, rfl⟩ := hT
  simp [execOp, hop, Instr.buildSlice, underlying, hu, sizeOf, typeInfo, hin, Instr.fill, newRow, newObj, go_sem]
  rfl
 ·cases hT
theorem Evl.sleq {P : Program} {m : Sl} {L R : List Ent} {o : Oper} {T e U : TypeId} {sz : Nat} (hT : tslice P T = some (e, sz)) {x y : Operand} {a : Option Addr} {n c : Nat} (hop : o.op = .binOp .eql T x y U := by rfl) (hx : ev m x = some (.slice a n c) := by rfl) (hy : ev m y = some (.slice none 0 0) := by rfl) : Evl P m L R o (.bool a.isNone) := fun ac w hs _ => by
 have he := hs.ev hx
 have hf := hs.ev hy
 generalize ac.eval = ρ at he hf
 unfold tslice at hT
 split at hT
 ·next e' hu =>
  have h1 : (binOp .eql T (.slice a n c) (.slice none 0 0)).run P w = .ok (.bool a.isNone) w := by
   have hq : ∀ d, (Op.equalIn (d + 1) T (.slice a n c) (.slice none 0 0)).run P w = .ok a.isNone w := fun d => by
    cases a <;> simp [Op.equalIn, run_underlying hu]
   simp only [binOp]
   simp [Op.equal, Op.maxDepth, hq 9999]
  have h0 : (eqGuard .eql T x y (.slice a n c) (.slice none 0 0)).run P w = .ok () w := by unfold eqGuard; rfl
  have h2 : ((eqGuard .eql T x y (.slice a n c) (.slice none 0 0) >>= fun _ => binOp .eql T (.slice a n c) (.slice none 0 0)) : Sem Value).run P w = .ok (.bool a.isNone) w := by
   rw [run_bind_ok h0]; exact h1
  unfold execOp
  simp only [hop, he, hf]
  change ((eqGuard .eql T x y (.slice a n c) (.slice none 0 0) >>= fun _ => binOp .eql T (.slice a n c) (.slice none 0 0)) >>= fun u => (pure (.value u) : Sem Next)).run P w = _
  rw [run_bind_ok h2]
  rfl
 ·cases hT
theorem G.dropAt {c : Ctx} {m : Sl} {L R : List Ent} {X : Act → World → Prop} (i : Nat) {e : Ent} (h : G c m (L.eraseIdx i) R X) (hi : L[i]? = some e := by rfl) : G c m L R X := G.perm (perm_front hi) (G.drop h)
theorem e122 : Is prog 122 := ⟨_, func122, by kernel_rfl, rfl⟩
theorem e123 : Is prog 123 := ⟨_, func123, by kernel_rfl, rfl⟩
theorem e124 : Is prog 124 := ⟨_, func124, by kernel_rfl, rfl⟩
theorem e125 : Is prog 125 := ⟨_, func125, by kernel_rfl, rfl⟩
theorem e136 : Is prog 136 := ⟨_, func136, by kernel_rfl, rfl⟩
theorem e137 : Is prog 137 := ⟨_, func137, by kernel_rfl, rfl⟩
theorem e143 : Is prog 143 := ⟨_, func143, by kernel_rfl, rfl⟩
theorem f138_0 : tfield prog 138 0 = some 0 := by kernel_rfl
theorem s101 : tslice prog 101 = some (138, 15) := by kernel_rfl
theorem t138 : tsz prog 138 = some (true, 15) := by kernel_rfl
theorem y138 : tbytes prog 138 = some (15, 128) := by kernel_rfl
theorem z138 : tzero prog 138 = some [.int .i64 0, .int .i64 0, .int .i64 0, .int .i64 0, .int .i64 0, .int .i64 0, .bool false, .bool false, .int .i64 0, .int .i64 0, .int .i64 0, .int .i64 0, .int .i64 0, .slice none 0 0, .int .i64 0] := by kernel_rfl
structure Hr where
 m : Ms
 age : Int
def Hr.cells (x : Hr) : List Value := [.int .i64 x.m.kind, .int .i64 x.m.src, .int .i64 x.m.lo, .int .i64 x.m.hi, .int .i64 x.m.held, .int .i64 x.m.hops, .bool x.m.good, .bool x.m.ref, .int .i64 x.m.slo, .int .i64 x.m.shi, .int .i64 x.m.pulse, .int .i64 x.m.st, .int .i64 x.m.sn, .slice x.m.ta x.m.tl x.m.tc, .int .i64 x.age]
def hrl (l : List Hr) : List Value := l.flatMap Hr.cells
theorem hrl_at {l : List Hr} {k : Nat} {x : Hr} (h : l[k]? = some x) : ((hrl l).drop (0 + k * 15)).take 15 = [.int .i64 x.m.kind, .int .i64 x.m.src, .int .i64 x.m.lo, .int .i64 x.m.hi, .int .i64 x.m.held, .int .i64 x.m.hops, .bool x.m.good, .bool x.m.ref, .int .i64 x.m.slo, .int .i64 x.m.shi, .int .i64 x.m.pulse, .int .i64 x.m.st, .int .i64 x.m.sn, .slice x.m.ta x.m.tl x.m.tc, .int .i64 x.age] := by rw [Nat.zero_add]; exact flat_at Hr.cells (fun _ => rfl) h
theorem hrlr_at {l : List Hr} {r : List Value} {k : Nat} {x : Hr} (h : l[k]? = some x) : ((hrl l ++ r).drop (0 + k * 15)).take 15 = [.int .i64 x.m.kind, .int .i64 x.m.src, .int .i64 x.m.lo, .int .i64 x.m.hi, .int .i64 x.m.held, .int .i64 x.m.hops, .bool x.m.good, .bool x.m.ref, .int .i64 x.m.slo, .int .i64 x.m.shi, .int .i64 x.m.pulse, .int .i64 x.m.st, .int .i64 x.m.sn, .slice x.m.ta x.m.tl x.m.tc, .int .i64 x.age] := flatr_at Hr.cells (fun _ => rfl) h
theorem g_same (gm : Nat) (x : Hr) (y : Ms) : Spec prog 123 [.agg #[.int .i64 x.m.kind, .int .i64 x.m.src, .int .i64 x.m.lo, .int .i64 x.m.hi, .int .i64 x.m.held, .int .i64 x.m.hops, .bool x.m.good, .bool x.m.ref, .int .i64 x.m.slo, .int .i64 x.m.shi, .int .i64 x.m.pulse, .int .i64 x.m.st, .int .i64 x.m.sn, .slice x.m.ta x.m.tl x.m.tc, .int .i64 x.age], .pointer (some ⟨gm, 0, none⟩)] [] [blk gm [.int .i64 y.kind, .int .i64 y.src, .int .i64 y.lo, .int .i64 y.hi, .int .i64 y.held, .int .i64 y.hops, .bool y.good, .bool y.ref, .int .i64 y.slo, .int .i64 y.shi, .int .i64 y.pulse, .int .i64 y.st, .int .i64 y.sn, .slice y.ta y.tl y.tc] 107] (fun v Ln => v = .bool (x.m.src == y.src) ∧ Ln = []) := by
 refine Spec.en func123 ntmps123 fun w0 => ?_
 refine G.sr fun _ K1 => ?_
 refine G.mk 2 .bx fun g2 => ?_
 refine G.M 3 ?_
 refine G.nk K1 ?_
 refine G.sr fun _ K2 => ?_
 refine G.V 4 (.fa f138_0 0) ?_
 refine G.V 5 (.fa f107_1 1) ?_
 refine G.V 6 (.ld t3 0) ?_
 refine G.V 7 (.fa f107_1 1) ?_
 refine G.V 8 (.ld t3 1) ?_
 refine G.V 9 .bin ?_
 refine G.M 3 ?_
 refine G.nk K2 ?_
 exact G.ret (G.F [] (.one Tryz.results123) ⟨rfl, rfl⟩)
theorem n_same (gm : Nat) (x : Hr) (y : Ms) : Spec prog 180 [.agg #[.int .i64 x.m.kind, .int .i64 x.m.src, .int .i64 x.m.lo, .int .i64 x.m.hi, .int .i64 x.m.held, .int .i64 x.m.hops, .bool x.m.good, .bool x.m.ref, .int .i64 x.m.slo, .int .i64 x.m.shi, .int .i64 x.m.pulse, .int .i64 x.m.st, .int .i64 x.m.sn, .slice x.m.ta x.m.tl x.m.tc, .int .i64 x.age], .pointer (some ⟨gm, 0, none⟩)] [] [blk gm [.int .i64 y.kind, .int .i64 y.src, .int .i64 y.lo, .int .i64 y.hi, .int .i64 y.held, .int .i64 y.hops, .bool y.good, .bool y.ref, .int .i64 y.slo, .int .i64 y.shi, .int .i64 y.pulse, .int .i64 y.st, .int .i64 y.sn, .slice y.ta y.tl y.tc] 107] (fun v Ln => v = .bool (x.m.src == y.src) ∧ Ln = []) := by
 refine Spec.en func180 ntmps180 fun w0 => ?_
 refine G.sr fun _ K1 => ?_
 refine G.mk 2 .bx fun g2 => ?_
 refine G.M 3 ?_
 refine G.nk K1 ?_
 refine G.sr fun _ K2 => ?_
 refine G.V 4 (.fa f138_0 0) ?_
 refine G.V 5 (.fa f107_1 1) ?_
 refine G.V 6 (.ld t3 0) ?_
 refine G.V 7 (.fa f107_1 1) ?_
 refine G.V 8 (.ld t3 1) ?_
 refine G.V 9 .bin ?_
 refine G.M 3 ?_
 refine G.nk K2 ?_
 exact G.ret (G.F [] (.one Tryz.results180) ⟨rfl, rfl⟩)
theorem any_take {l : List Hr} {k : Nat} {x : Hr} (p : Hr → Bool) (h : l[k]? = some x) : (l.take (k + 1)).any p = ((l.take k).any p || p x) := by rw [List.take_add_one, h]; simp
theorem any_get {l : List Hr} {k : Nat} {x : Hr} {p : Hr → Bool} (h : l[k]? = some x) (hp : p x = true) : l.any p = true := List.any_eq_true.2 ⟨x, List.mem_of_getElem? h, hp⟩
theorem s_IndexFunc (F gm : Nat) (hF : Is prog F) (y : Ms) (hs : ∀ x : Hr, Spec prog F [.agg #[.int .i64 x.m.kind, .int .i64 x.m.src, .int .i64 x.m.lo, .int .i64 x.m.hi, .int .i64 x.m.held, .int .i64 x.m.hops, .bool x.m.good, .bool x.m.ref, .int .i64 x.m.slo, .int .i64 x.m.shi, .int .i64 x.m.pulse, .int .i64 x.m.st, .int .i64 x.m.sn, .slice x.m.ta x.m.tl x.m.tc, .int .i64 x.age], .pointer (some ⟨gm, 0, none⟩)] [] [blk gm [.int .i64 y.kind, .int .i64 y.src, .int .i64 y.lo, .int .i64 y.hi, .int .i64 y.held, .int .i64 y.hops, .bool y.good, .bool y.ref, .int .i64 y.slo, .int .i64 y.shi, .int .i64 y.pulse, .int .i64 y.st, .int .i64 y.sn, .slice y.ta y.tl y.tc] 107] (fun v Ln => v = .bool (x.m.src == y.src) ∧ Ln = [])) (a : Option Addr) (n c : Nat) (l : List Hr) (hl : l.length = n) (hn : n ≤ 100000) : Spec prog 136 [.slice a n c, .func (.func F) #[] #[.pointer (some ⟨gm, 0, none⟩)]] [] [row a c 138 15 n (hrl l), blk gm [.int .i64 y.kind, .int .i64 y.src, .int .i64 y.lo, .int .i64 y.hi, .int .i64 y.held, .int .i64 y.hops, .bool y.good, .bool y.ref, .int .i64 y.slo, .int .i64 y.shi, .int .i64 y.pulse, .int .i64 y.st, .int .i64 y.sn, .slice y.ta y.tl y.tc] 107] (fun v Ln => ∃ i : Int, v = .int .i64 i ∧ decide (i ≥ 0) = l.any (fun h => h.m.src == y.src) ∧ Ln = []) := by
 refine Spec.en func136 ntmps136 fun w0 => ?_
 refine G.sr fun _ K1 => ?_
 refine G.M 4 ?_
 refine G.nk K1 ?_
 refine G.Z fun _ K2 => ?_
 refine G.sr fun _ K3 => ?_
 refine G.M 6 ?_
 refine G.V 7 (.lenl s101) ?_
 refine G.M 8 ?_
 refine G.nk K3 ?_
 refine G.block ?_
 refine G.lpR (ι := {k : Nat // k ≤ n ∧ (l.take k).any (fun h => h.m.src == y.src) = false}) (fun ⟨k, hj, ha⟩ => n - k) (fun ⟨k, hj, ha⟩ => [(0, .slice a n c), (1, .func (.func F) #[] #[.pointer (some ⟨gm, 0, none⟩)]), (6, .slice a n c), (7, .int .i64 (n : Int)), (8, .int .i64 (k : Int))]) (fun ⟨k, hj, ha⟩ => []) ?_ ?_
 exact G.at ⟨0, Nat.zero_le _, rfl⟩ (ts := [0, 1, 6, 7, 8]) rfl rfl rfl rfl
 rintro ⟨k, hj, ha⟩ _ K4
 try dsimp only at K4 ⊢
 refine G.sr fun _ K5 => ?_
 refine G.V 9 .bin ?_
 refine G.nk K5 ?_
 refine G.Z fun _ K6 => ?_
 refine G.cond rfl (fun hc9 => ?_) (fun hc9 => ?_)
 have hk : k < n := by have := of_decide_eq_true hc9; omega
 obtain ⟨x, hx⟩ : ∃ x, l[k]? = some x := ⟨_, List.getElem?_eq_getElem (by omega)⟩
 refine G.sk K6 ?_
 refine G.Z fun _ K7 => ?_
 refine G.block ?_
 refine G.sr fun _ K8 => ?_
 refine G.M2 10 5 ?_
 refine G.nk K8 ?_
 refine G.Z fun _ K9 => ?_
 refine G.base 0 (show 0 < n by omega) fun b10 hb_ => ?_
 subst hb_
 refine G.region ?_
 refine G.M3 11 12 13 ?_
 refine G.V 14 (.is s101 k hk) ?_
 refine G.V 15 (.lda t138 0 (hv := hrl_at hx)) ?_
 refine G.callv 16 [] [1]  hF (hs x) ?_
 rintro _ _ ⟨rfl, rfl⟩
 refine G.nk K9 ?_
 refine G.cond rfl (fun hc16 => ?_) (fun hc16 => ?_)
 refine G.sr fun _ K11 => ?_
 refine G.M2 17 4 ?_
 refine G.nk K11 ?_
 exact G.ret (G.F [] (.one Tryz.results136) ⟨_, rfl, by first | (rw [any_get hx (by simpa using hc16)]; simp) | (rw [show l.take n = l from by rw [← hl]; exact List.take_length] at ha; rw [ha]; rfl), rfl⟩)
 refine G.sk K7 ?_
 refine G.region ?_
 refine G.V 18 .bw ?_
 refine G.M 8 ?_
 refine G.nk K4 ?_
 exact G.less ⟨k + 1, hk, by rw [any_take _ hx, ha]; simpa using hc16⟩ (ts := [0, 1, 6, 7, 8]) (by dsimp only; omega) rfl rfl rfl rfl
 have hkn : n = k := by have := of_decide_eq_false hc9; omega
 subst hkn
 refine G.exit ?_
 refine K2 _ _ _ ?_
 refine G.sr fun _ K12 => ?_
 refine G.M 4 ?_
 refine G.nk K12 ?_
 exact G.ret (G.F [] (.one Tryz.results136) ⟨_, rfl, by first | (rw [any_get hx (by simpa using hc16)]; simp) | (rw [show l.take n = l from by rw [← hl]; exact List.take_length] at ha; rw [ha]; rfl), rfl⟩)
theorem s_ContainsFunc (F gm : Nat) (hF : Is prog F) (y : Ms) (hs : ∀ x : Hr, Spec prog F [.agg #[.int .i64 x.m.kind, .int .i64 x.m.src, .int .i64 x.m.lo, .int .i64 x.m.hi, .int .i64 x.m.held, .int .i64 x.m.hops, .bool x.m.good, .bool x.m.ref, .int .i64 x.m.slo, .int .i64 x.m.shi, .int .i64 x.m.pulse, .int .i64 x.m.st, .int .i64 x.m.sn, .slice x.m.ta x.m.tl x.m.tc, .int .i64 x.age], .pointer (some ⟨gm, 0, none⟩)] [] [blk gm [.int .i64 y.kind, .int .i64 y.src, .int .i64 y.lo, .int .i64 y.hi, .int .i64 y.held, .int .i64 y.hops, .bool y.good, .bool y.ref, .int .i64 y.slo, .int .i64 y.shi, .int .i64 y.pulse, .int .i64 y.st, .int .i64 y.sn, .slice y.ta y.tl y.tc] 107] (fun v Ln => v = .bool (x.m.src == y.src) ∧ Ln = [])) (a : Option Addr) (n c : Nat) (l : List Hr) (hl : l.length = n) (hn : n ≤ 100000) : Spec prog 122 [.slice a n c, .func (.func F) #[] #[.pointer (some ⟨gm, 0, none⟩)]] [] [row a c 138 15 n (hrl l), blk gm [.int .i64 y.kind, .int .i64 y.src, .int .i64 y.lo, .int .i64 y.hi, .int .i64 y.held, .int .i64 y.hops, .bool y.good, .bool y.ref, .int .i64 y.slo, .int .i64 y.shi, .int .i64 y.pulse, .int .i64 y.st, .int .i64 y.sn, .slice y.ta y.tl y.tc] 107] (fun v Ln => v = .bool (l.any (fun h => h.m.src == y.src)) ∧ Ln = []) := by
 refine Spec.en func122 ntmps122 fun w0 => ?_
 refine G.sr fun _ K1 => ?_
 refine G.M 4 ?_
 refine G.nk K1 ?_
 refine G.sr fun _ K2 => ?_
 refine G.M2 5 6 ?_
 refine G.C 7 [] [0, 1]  e136 (s_IndexFunc F gm hF y hs a n c l hl hn) ?_
 rintro _ _ ⟨i, rfl, hi, rfl⟩
 refine G.V 8 .bin ?_
 refine G.M 4 ?_
 refine G.nk K2 ?_
 exact G.ret (G.F [] (.one Tryz.results122) ⟨by rw [hi], rfl⟩)
theorem g_diff (x y : Hr) : Spec prog 125 [.agg #[.int .i64 x.m.kind, .int .i64 x.m.src, .int .i64 x.m.lo, .int .i64 x.m.hi, .int .i64 x.m.held, .int .i64 x.m.hops, .bool x.m.good, .bool x.m.ref, .int .i64 x.m.slo, .int .i64 x.m.shi, .int .i64 x.m.pulse, .int .i64 x.m.st, .int .i64 x.m.sn, .slice x.m.ta x.m.tl x.m.tc, .int .i64 x.age], .agg #[.int .i64 y.m.kind, .int .i64 y.m.src, .int .i64 y.m.lo, .int .i64 y.m.hi, .int .i64 y.m.held, .int .i64 y.m.hops, .bool y.m.good, .bool y.m.ref, .int .i64 y.m.slo, .int .i64 y.m.shi, .int .i64 y.m.pulse, .int .i64 y.m.st, .int .i64 y.m.sn, .slice y.m.ta y.m.tl y.m.tc, .int .i64 y.age]] [] [] (fun v Ln => ∃ d : Int, v = .int .i64 d ∧ Ln = []) := by
 refine Spec.en func125 ntmps125 fun w0 => ?_
 refine G.sr fun _ K1 => ?_
 refine G.mk 2 .bx fun g2 => ?_
 refine G.mk 3 .bx fun g3 => ?_
 refine G.M 4 ?_
 refine G.nk K1 ?_
 refine G.sr fun _ K2 => ?_
 refine G.V 5 (.fa f138_0 0) ?_
 refine G.V 6 (.fa f107_1 1) ?_
 refine G.V 7 (.ld t3 1) ?_
 refine G.V 8 (.fa f138_0 0) ?_
 refine G.V 9 (.fa f107_1 1) ?_
 refine G.V 10 (.ld t3 0) ?_
 refine G.V 11 .bin ?_
 refine G.M 4 ?_
 refine G.nk K2 ?_
 exact G.ret (G.F [] (.one Tryz.results125) ⟨_, rfl, rfl⟩)
theorem s_insertF (g n c : Nat) (l : List Hr) (r : List Value) (hl : l.length = n) (hn : n < 20) : Spec prog 143 [.slice (some ⟨g, 0, none⟩) n c, .int .i64 0, .int .i64 (n : Int), .func (.func 125) #[] #[]] [blk g (hrl l ++ r) 138] [] (fun v Ln => v = .tuple #[] ∧ ∃ l', Ln = [blk g (hrl l' ++ r) 138] ∧ l'.length = n ∧ l'.Perm l) := by
 refine Spec.en func143 ntmps143 fun w0 => ?_
 refine G.sr fun _ K1 => ?_
 refine G.M 10 ?_
 refine G.V 11 .bw ?_
 refine G.M 8 ?_
 refine G.nk K1 ?_
 refine G.block ?_
 refine G.lpR (ι := {q : Nat × List Hr // q.2.length = n ∧ q.2.Perm l}) (fun ⟨⟨i, l1⟩, hl1, hp1⟩ => n - i) (fun ⟨⟨i, l1⟩, hl1, hp1⟩ => [(0, .slice (some ⟨g, 0, none⟩) n c), (1, .int .i64 0), (2, .int .i64 (n : Int)), (3, .func (.func 125) #[] #[]), (8, .int .i64 (i : Int))]) (fun ⟨⟨i, l1⟩, hl1, hp1⟩ => [blk g (hrl l1 ++ r) 138]) ?_ ?_
 exact G.at ⟨⟨1, l⟩, hl, .refl _⟩ (ts := [0, 1, 2, 3, 8]) rfl rfl rfl rfl
 rintro ⟨⟨i, l1⟩, hl1, hp1⟩ _ K2
 try dsimp only at K2 ⊢
 dsimp only at hl1 hp1
 refine G.Z fun _ K3 => ?_
 refine G.sr fun _ K4 => ?_
 refine G.M2 12 13 ?_
 refine G.V 14 .bin ?_
 refine G.nk K4 ?_
 refine G.cond rfl (fun hc14 => ?_) (fun hc14 => ?_)
 have hk : i < n := by have := of_decide_eq_true hc14; omega
 refine G.sk K3 ?_
 refine G.Z fun _ K5 => ?_
 refine G.block ?_
 refine G.sr fun _ K6 => ?_
 refine G.M2 17 9 ?_
 refine G.nk K6 ?_
 refine G.block ?_
 refine G.lpR (ι := {q : Nat × List Hr // q.2.length = n ∧ q.2.Perm l ∧ q.1 ≤ i}) (fun ⟨⟨j, l2⟩, hl2, hp2, hji⟩ => j) (fun ⟨⟨j, l2⟩, hl2, hp2, hji⟩ => [(0, .slice (some ⟨g, 0, none⟩) n c), (1, .int .i64 0), (2, .int .i64 (n : Int)), (3, .func (.func 125) #[] #[]), (8, .int .i64 (i : Int)), (9, .int .i64 (j : Int))]) (fun ⟨⟨j, l2⟩, hl2, hp2, hji⟩ => [blk g (hrl l2 ++ r) 138]) ?_ ?_
 exact G.at ⟨⟨i, l1⟩, hl1, hp1, Nat.le_refl _⟩ (ts := [0, 1, 2, 3, 8, 9]) rfl rfl rfl rfl
 rintro ⟨⟨j, l2⟩, hl2, hp2, hji⟩ _ K7
 try dsimp only at K7 ⊢
 dsimp only at hl2 hp2 hji
 refine G.Z fun _ K8 => ?_
 refine G.Z fun _ K9 => ?_
 obtain ⟨y, hy⟩ : ∃ y, l2[j]? = some y := ⟨_, List.getElem?_eq_getElem (by omega)⟩
 obtain ⟨x, hx⟩ : ∃ x, l2[j - 1]? = some x := ⟨_, List.getElem?_eq_getElem (by omega)⟩
 refine G.draw 17 [0] [] [] ?_
 refine D.V 0 18 1 .mv ?_
 refine D.V 1 19 3 .mv ?_
 refine D.V 2 20 7 .bin ?_
 refine D.V 3 21 15 .mv ?_
 cases hg10 : (decide ((j : Int) > 0) : Bool)
 refine D.off 4 22 31 ?_
 refine D.off 5 23 63 ?_
 refine D.off 6 24 127 ?_
 refine D.off 7 25 255 ?_
 refine D.off 8 26 511 ?_
 refine D.off 9 27 1023 ?_
 refine D.off 10 28 2047 ?_
 refine D.off 11 29 4095 ?_
 refine D.off 12 30 8191 ?_
 refine D.off 13 31 16383 ?_
 refine D.off 14 32 32767 ?_
 refine D.off 15 33 65535 ?_
 refine D.V 16 34 131071 .pick ?_
 refine D.done ?_
 refine K9 _ _ _ ?_
 refine G.no rfl ?_
 refine G.exit ?_
 refine K5 _ _ _ ?_
 refine G.region ?_
 refine G.M 15 ?_
 refine G.V 16 .bw ?_
 refine G.M 8 ?_
 refine G.nk K2 ?_
 exact G.ls ⟨⟨i + 1, l2⟩, hl2, hp2⟩
 refine D.V 4 22 31 .mv ?_
 refine D.V 5 23 63 .mv ?_
 refine D.V 6 24 127 .mv ?_
 refine D.V 7 25 255 (.is s101 j (show j < n by omega)) ?_
 refine D.V 9 27 767 .mv ?_
 refine D.V 10 28 1791 .mv ?_
 refine D.V 11 29 3839 (.cast (.cast .bin (wi (by omega) (by omega))) (show Value.int .i64 ((j : Int) - 1) = .int .i64 ((j - 1 : Nat) : Int) from by have := of_decide_eq_true ‹decide ((j : Int) > 0) = true›; congr 1; omega)) ?_
 refine D.V 12 30 7935 (.is s101 (j - 1) (show (j - 1) < n by omega)) ?_
 refine D.T 8 26 8191 (.lda t138 0 (hv := hrlr_at hy)) [0] [] ?_
 refine D.T 13 31 16383 (.lda t138 0 (hv := hrlr_at hx)) [0] [] ?_
 refine D.callv 14 32 32767 [] [] [0] []  e125 (g_diff y x) ?_
 rintro _ _ ⟨d, rfl, rfl⟩
 refine D.V 15 33 65535 .bin ?_
 refine D.V 16 34 131071 .pick ?_
 refine D.done ?_
 refine K9 _ _ _ ?_
 refine G.cond rfl (fun hc34 => ?_) (fun hc34 => ?_)
 have hj0 : 0 < j := by have := ‹decide ((j : Int) > 0) = true›; simp at this; omega
 refine G.sk K8 ?_
 refine G.Z fun _ K11 => ?_
 refine G.block ?_
 refine G.draw 18 [0] [] [15, 17] ?_
 refine D.V 0 37 1 .mv ?_
 refine D.V 1 38 3 .mv ?_
 refine D.V 2 39 7 .mv ?_
 refine D.V 3 40 15 .mv ?_
 refine D.V 4 41 31 (.cast (.cast .bin (wi (by omega) (by omega))) (show Value.int .i64 ((j : Int) - 1) = .int .i64 ((j - 1 : Nat) : Int) from by have := of_decide_eq_true ‹decide ((j : Int) > 0) = true›; congr 1; omega)) ?_
 refine D.V 5 42 63 .mv ?_
 refine D.V 6 43 127 .mv ?_
 refine D.V 7 44 255 (.cast (.cast .bin (wi (by omega) (by omega))) (show Value.int .i64 ((j : Int) - 1) = .int .i64 ((j - 1 : Nat) : Int) from by have := of_decide_eq_true ‹decide ((j : Int) > 0) = true›; congr 1; omega)) ?_
 refine D.V 8 45 511 (.is s101 (j - 1) (show (j - 1) < n by omega)) ?_
 refine D.V 10 47 1535 .mv ?_
 refine D.V 11 48 3583 .mv ?_
 refine D.V 12 49 7679 (.is s101 j (show j < n by omega)) ?_
 refine D.T 9 46 8191 (.lda t138 0 (hv := hrlr_at hx)) [0] [] ?_
 refine D.T 13 50 16383 (.lda t138 0 (hv := hrlr_at hy)) [0] [] ?_
 refine D.V 14 51 32767 (.is s101 j (show j < n by omega)) ?_
 refine D.last 15 65535 0 (.st t138 0 (hl := flatr_len Hr.cells (fun _ => rfl) (l := l2) (k := j) (by omega))) rfl ?_
 refine G.eqb 0 ((hrl (l2.set j x) ++ r)) (flatr_set Hr.cells (fun _ => rfl) x (by omega)) ?_
 try dsimp only [List.set]
 refine D.V 16 52 131071 (.is s101 (j - 1) (show (j - 1) < n by omega)) ?_
 refine D.last 17 262143 0 (.st t138 0 (hl := flatr_len Hr.cells (fun _ => rfl) (l := l2.set j x) (k := j - 1) (by simp; omega))) rfl ?_
 refine G.eqb 0 ((hrl ((l2.set j x).set (j - 1) y) ++ r)) (flatr_set Hr.cells (fun _ => rfl) y (by simp; omega)) ?_
 try dsimp only [List.set]
 refine D.done ?_
 refine K11 _ _ _ ?_
 refine G.region ?_
 refine G.M 35 ?_
 refine G.V 36 (.cast (.cast .bin (wi (by omega) (by omega))) (show Value.int .i64 ((j : Int) - 1) = .int .i64 ((j - 1 : Nat) : Int) from by have := of_decide_eq_true ‹decide ((j : Int) > 0) = true›; congr 1; omega)) ?_
 refine G.M 9 ?_
 refine G.nk K7 ?_
 exact G.ls ⟨⟨j - 1, (l2.set j x).set (j - 1) y⟩, by simp [hl2], (swap_perm hj0 hx hy).trans hp2, by omega⟩
 refine G.exit ?_
 refine K5 _ _ _ ?_
 refine G.region ?_
 refine G.M 15 ?_
 refine G.V 16 .bw ?_
 refine G.M 8 ?_
 refine G.nk K2 ?_
 exact G.ls ⟨⟨i + 1, l2⟩, hl2, hp2⟩
 refine G.exit ?_
 exact G.fin0 [0] (.nil Tryz.results143) ⟨rfl, l1, rfl, hl1, hp1⟩
theorem s_insertF0 (a : Option Addr) (c : Nat) : Spec prog 143 [.slice a 0 c, .int .i64 0, .int .i64 0, .func (.func 125) #[] #[]] [] [] (fun v Ln => v = .tuple #[] ∧ Ln = []) := by
 refine Spec.en func143 ntmps143 fun w0 => ?_
 refine G.sr fun _ K1 => ?_
 refine G.M 10 ?_
 refine G.V 11 .bw ?_
 refine G.M 8 ?_
 refine G.nk K1 ?_
 refine G.block ?_
 refine G.lpR (ι := Unit) (fun _ => 0) (fun _ => [(0, .slice a 0 c), (2, .int .i64 0), (8, .int .i64 1)]) (fun _ => []) ?_ ?_
 exact G.as ()
 rintro _ _ K2
 try dsimp only at K2 ⊢
 refine G.Z fun _ K3 => ?_
 refine G.sr fun _ K4 => ?_
 refine G.M2 12 13 ?_
 refine G.V 14 (.cast .bin (bf (by omega))) ?_
 refine G.nk K4 ?_
 refine G.no rfl ?_
 refine G.exit ?_
 exact G.fin0 [] (.nil Tryz.results143) ⟨rfl, rfl⟩
theorem s_stable0 (a : Option Addr) (c : Nat) : Spec prog 137 [.slice a 0 c, .int .i64 0, .func (.func 125) #[] #[]] [] [] (fun v Ln => v = .tuple #[] ∧ Ln = []) := by
 refine Spec.en func137 ntmps137 fun w0 => ?_
 refine G.sr fun _ K1 => ?_
 refine G.M 6 ?_
 refine G.nk K1 ?_
 refine G.sr fun _ K2 => ?_
 refine G.M3 10 7 8 ?_
 refine G.nk K2 ?_
 refine G.Z fun _ K3 => ?_
 refine G.block ?_
 refine G.lpR (ι := Unit) (fun _ => 0) (fun _ => [(0, .slice a 0 c), (1, .int .i64 0), (2, .func (.func 125) #[] #[]), (6, .int .i64 20), (7, .int .i64 0), (8, .int .i64 20)]) (fun _ => []) ?_ ?_
 exact G.as ()
 rintro _ _ K4
 try dsimp only at K4 ⊢
 refine G.Z fun _ K5 => ?_
 refine G.sr fun _ K6 => ?_
 refine G.M2 11 12 ?_
 refine G.V 13 (.cast .bin (bf (by omega))) ?_
 refine G.nk K6 ?_
 refine G.no rfl ?_
 refine G.exit ?_
 refine K3 _ _ _ ?_
 refine G.sr fun _ K7 => ?_
 refine G.M4 23 24 25 26 ?_
 refine G.cp 27 [] []  e143 (s_insertF0 a c) ?_
 refine G.nk K7 ?_
 refine G.block ?_
 refine G.lpR (ι := Unit) (fun _ => 0) (fun _ => [(0, .slice a 0 c), (1, .int .i64 0), (2, .func (.func 125) #[] #[]), (6, .int .i64 20)]) (fun _ => []) ?_ ?_
 exact G.as ()
 rintro _ _ K8
 try dsimp only at K8 ⊢
 refine G.Z fun _ K9 => ?_
 refine G.sr fun _ K10 => ?_
 refine G.M2 28 29 ?_
 refine G.V 30 (.cast .bin (bf (by omega))) ?_
 refine G.nk K10 ?_
 refine G.no rfl ?_
 refine G.exit ?_
 exact G.fin0 [] (.nil Tryz.results137) ⟨rfl, rfl⟩
theorem s_SortStable0 (a : Option Addr) (c : Nat) : Spec prog 124 [.slice a 0 c, .func (.func 125) #[] #[]] [] [] (fun v Ln => v = .tuple #[] ∧ Ln = []) := by
 refine Spec.en func124 ntmps124 fun w0 => ?_
 refine G.region ?_
 refine G.M2 4 5 ?_
 refine G.V 6 (.lenl s101) ?_
 refine G.M 7 ?_
 refine G.cp 8 [] []  e137 (s_stable0 a c) ?_
 refine G.nil ?_
 exact G.fin0 [] (.nil Tryz.results124) ⟨rfl, rfl⟩
theorem s_stable (g n c : Nat) (l : List Hr) (r : List Value) (hl : l.length = n) (hn : n < 20) : Spec prog 137 [.slice (some ⟨g, 0, none⟩) n c, .int .i64 (n : Int), .func (.func 125) #[] #[]] [blk g (hrl l ++ r) 138] [] (fun v Ln => v = .tuple #[] ∧ ∃ l', Ln = [blk g (hrl l' ++ r) 138] ∧ l'.length = n ∧ l'.Perm l) := by
 refine Spec.en func137 ntmps137 fun w0 => ?_
 refine G.sr fun _ K1 => ?_
 refine G.M 6 ?_
 refine G.nk K1 ?_
 refine G.sr fun _ K2 => ?_
 refine G.M3 10 7 8 ?_
 refine G.nk K2 ?_
 refine G.Z fun _ K3 => ?_
 refine G.block ?_
 refine G.lpR (ι := Unit) (fun _ => 0) (fun _ => [(0, .slice (some ⟨g, 0, none⟩) n c), (1, .int .i64 (n : Int)), (2, .func (.func 125) #[] #[]), (6, .int .i64 20), (7, .int .i64 0), (8, .int .i64 20)]) (fun _ => [blk g (hrl l ++ r) 138]) ?_ ?_
 exact G.as ()
 rintro _ _ K4
 try dsimp only at K4 ⊢
 refine G.Z fun _ K5 => ?_
 refine G.sr fun _ K6 => ?_
 refine G.M2 11 12 ?_
 refine G.V 13 (.cast .bin (bf (by omega))) ?_
 refine G.nk K6 ?_
 refine G.no rfl ?_
 refine G.exit ?_
 refine K3 _ _ _ ?_
 refine G.sr fun _ K7 => ?_
 refine G.M4 23 24 25 26 ?_
 refine G.C 27 [0] []  e143 (s_insertF g n c l r hl hn) ?_
 rintro _ _ ⟨rfl, l', rfl, hl', hp'⟩
 refine G.nk K7 ?_
 refine G.block ?_
 refine G.lpR (ι := Unit) (fun _ => 0) (fun _ => [(0, .slice (some ⟨g, 0, none⟩) n c), (1, .int .i64 (n : Int)), (2, .func (.func 125) #[] #[]), (6, .int .i64 20)]) (fun _ => [blk g (hrl l' ++ r) 138]) ?_ ?_
 exact G.as ()
 rintro _ _ K8
 try dsimp only at K8 ⊢
 refine G.Z fun _ K9 => ?_
 refine G.sr fun _ K10 => ?_
 refine G.M2 28 29 ?_
 refine G.V 30 (.cast .bin (bf (by omega))) ?_
 refine G.nk K10 ?_
 refine G.no rfl ?_
 refine G.exit ?_
 exact G.fin0 [0] (.nil Tryz.results137) ⟨rfl, l', rfl, hl', hp'⟩
theorem s_SortStable (g n c : Nat) (l : List Hr) (r : List Value) (hl : l.length = n) (hn : n < 20) : Spec prog 124 [.slice (some ⟨g, 0, none⟩) n c, .func (.func 125) #[] #[]] [blk g (hrl l ++ r) 138] [] (fun v Ln => v = .tuple #[] ∧ ∃ l', Ln = [blk g (hrl l' ++ r) 138] ∧ l'.length = n ∧ l'.Perm l) := by
 refine Spec.en func124 ntmps124 fun w0 => ?_
 refine G.region ?_
 refine G.M2 4 5 ?_
 refine G.V 6 (.lenl s101) ?_
 refine G.M 7 ?_
 refine G.C 8 [0] []  e137 (s_stable g n c l r hl hn) ?_
 rintro _ _ ⟨rfl, l', rfl, hl', hp'⟩
 refine G.nil ?_
 exact G.fin0 [0] (.nil Tryz.results124) ⟨rfl, l', rfl, hl', hp'⟩
theorem s_SortStable0' (a : Option Addr) (n c : Nat) (h : n = 0) : Spec prog 124 [.slice a n c, .func (.func 125) #[] #[]] [] [] (fun v Ln => v = .tuple #[] ∧ Ln = []) := by subst h; exact s_SortStable0 a c
def okT (p : Par) (me : Int) (x : Hr) : Bool := x.m.kind == 1 && (decide (x.m.src ≥ 0) && (decide (x.m.src < mn p.n 16) && x.m.src != me))
def told1 (p : Par) (me : Int) (o : List Hr) (x : Hr) : List Hr := if (okT p me x && !(o.any fun h => h.m.src == x.m.src)) = true then o ++ [x] else o
def toldL (p : Par) (me : Int) (l : List Hr) : List Hr := l.foldl (told1 p me) []
theorem told_take {p : Par} {me : Int} {l : List Hr} {k : Nat} {x : Hr} (h : l[k]? = some x) : toldL p me (l.take (k + 1)) = told1 p me (toldL p me (l.take k)) x := by
 unfold toldL
 rw [List.take_add_one, h, List.foldl_append]
 rfl
theorem hrl_snoc (o : List Hr) (x : Hr) : hrl (o ++ [x]) = hrl o ++ [.int .i64 x.m.kind, .int .i64 x.m.src, .int .i64 x.m.lo, .int .i64 x.m.hi, .int .i64 x.m.held, .int .i64 x.m.hops, .bool x.m.good, .bool x.m.ref, .int .i64 x.m.slo, .int .i64 x.m.shi, .int .i64 x.m.pulse, .int .i64 x.m.st, .int .i64 x.m.sn, .slice x.m.ta x.m.tl x.m.tc, .int .i64 x.age] := by unfold hrl; rw [List.flatMap_append]; simp [Hr.cells]
theorem nodup_lt : ∀ (n : Nat) (l : List Nat), l.Nodup → (∀ x ∈ l, x < n) → l.length ≤ n := by
 intro n
 induction n with
 | zero => intro l _ h; cases l with
  | nil => simp
  | cons x l => exact absurd (h x List.mem_cons_self) (by omega)
 | succ n ih =>
  intro l hd h
  by_cases hm : n ∈ l
  ·have h1 := ih (l.erase n) (hd.erase n) (fun x hx => by
    have := (hd.mem_erase_iff).1 hx
    have := h x this.2
    omega)
   rw [List.length_erase_of_mem hm] at h1
   omega
  ·have h1 := ih l hd (fun x hx => by
    have := h x hx
    have : x ≠ n := fun e => hm (e ▸ hx)
    omega)
   omega
theorem told_inv (p : Par) (me : Int) (l : List Hr) : ∀ o : List Hr, ((o.map fun x => x.m.src.toNat).Nodup ∧ ∀ x ∈ o, 0 ≤ x.m.src ∧ x.m.src < p.n) → ((l.foldl (told1 p me) o).map fun x => x.m.src.toNat).Nodup ∧ ∀ x ∈ l.foldl (told1 p me) o, 0 ≤ x.m.src ∧ x.m.src < p.n := by
 induction l with
 | nil => intro o h; exact h
 | cons y l ih =>
  intro o h
  refine ih _ ?_
  unfold told1
  split
  ·next hc =>
   simp only [Bool.and_eq_true, okT, decide_eq_true_eq, Bool.not_eq_true', List.any_eq_false, beq_iff_eq] at hc
   obtain ⟨⟨_, h2, h3, _⟩, h5⟩ := hc
   have h3' : y.m.src < p.n := by unfold mn at h3; split at h3 <;> omega
   refine ⟨?_, ?_⟩
   ·rw [List.map_append, List.nodup_append]
    refine ⟨h.1, by simp, ?_⟩
    intro a ha b hb
    simp at hb
    subst hb
    obtain ⟨z, hz, rfl⟩ := List.mem_map.1 ha
    have := h5 z hz
    have := h.2 z hz
    omega
   ·intro x hx
    rcases List.mem_append.1 hx with q | q
    ·exact h.2 x q
    ·simp at q; subst q; exact ⟨h2, h3'⟩
  ·exact h
theorem told_len {p : Par} {me : Int} {l : List Hr} (h : p.n ≤ 7) : (toldL p me l).length ≤ 7 := by
 have := told_inv p me l [] ⟨by simp, by simp⟩
 have h1 := nodup_lt 7 _ this.1 (fun x hx => by
  obtain ⟨z, hz, rfl⟩ := List.mem_map.1 hx
  have := this.2 z hz
  omega)
 rw [List.length_map] at h1
 exact h1
theorem g_Told (p : Par) (me : Int) (hp7 : p.n ≤ 7) (a : Option Addr) (n c : Nat) (l : List Hr) (hl : l.length = n) (hn : n ≤ 100000) : Spec prog 115 [.agg #[.int .i64 p.n, .int .i64 p.f, .int .i64 p.d, .int .i64 p.beat, .int .i64 p.rho, .int .i64 p.delay, .int .i64 p.jitter, .int .i64 p.eps, .int .i64 p.mu, .int .i64 p.hold, .int .i64 p.pulse, .int .i64 p.second], .int .i64 me, .slice a n c] [] [row a c 138 15 n (hrl l)] (fun v Ln => ∃ a' n' c' o', v = .slice a' n' c' ∧ n' = o'.length ∧ o'.Perm (toldL p me l) ∧ Ln = [row a' c' 138 15 n' (hrl o')]) := by
 refine Spec.en func115 ntmps115 fun w0 => ?_
 refine G.sr fun _ K1 => ?_
 refine G.mk 3 .bx fun g3 => ?_
 refine G.M 6 ?_
 refine G.nk K1 ?_
 refine G.sr fun _ K2 => ?_
 refine G.M 7 ?_
 refine G.nk K2 ?_
 refine G.Z fun _ K3 => ?_
 refine G.Z fun _ K4 => ?_
 refine G.newRow 138 15 ?_
 refine G.region ?_
 refine G.M 12 ?_
 refine G.V 13 (.lenl s101) ?_
 refine G.M 14 ?_
 refine G.nk K4 ?_
 refine G.block ?_
 refine G.lpR (ι := {q : Nat × List Hr × Nat × Option Addr × Nat // q.1 ≤ n ∧ q.2.2.1 = q.2.1.length ∧ q.2.1 = toldL p me (l.take q.1)}) (fun ⟨⟨k, o, n7, a7, c7⟩, hj, hn7, ho⟩ => n - k) (fun ⟨⟨k, o, n7, a7, c7⟩, hj, hn7, ho⟩ => [(3, .pointer (some ⟨g3, 0, none⟩)), (1, .int .i64 me), (7, .slice a7 n7 c7), (12, .slice a n c), (13, .int .i64 (n : Int)), (14, .int .i64 (k : Int))]) (fun ⟨⟨k, o, n7, a7, c7⟩, hj, hn7, ho⟩ => [row a7 c7 138 15 n7 (hrl o), blk g3 (pC p []) 23]) ?_ ?_
 exact G.at ⟨⟨0, [], 0, none, 0⟩, Nat.zero_le _, rfl, rfl⟩ (ts := [3, 1, 7, 12, 13, 14]) rfl rfl rfl rfl
 rintro ⟨⟨k, o, n7, a7, c7⟩, hj, hn7, ho⟩ _ K5
 try dsimp only at K5 ⊢
 dsimp only at hj hn7 ho
 refine G.sr fun _ K6 => ?_
 refine G.V 15 .bin ?_
 refine G.nk K6 ?_
 refine G.Z fun _ K7 => ?_
 refine G.cond rfl (fun hc15 => ?_) (fun hc15 => ?_)
 have hk : k < n := by have := of_decide_eq_true hc15; omega
 obtain ⟨x, hx⟩ : ∃ x, l[k]? = some x := ⟨_, List.getElem?_eq_getElem (by omega)⟩
 have h7' : n7 ≤ 7 := by rw [hn7, ho]; exact told_len hp7
 refine G.sk K7 ?_
 refine G.Z fun _ K8 => ?_
 refine G.block ?_
 refine G.Z fun _ K9 => ?_
 refine G.base 2 (show 0 < n by omega) fun b10 hb_ => ?_
 subst hb_
 refine G.region ?_
 refine G.V 16 (.is s101 k (show k < n by omega)) ?_
 refine G.V 17 (.lda t138 2 (hv := hrl_at hx)) ?_
 refine G.mk 9 (.al z138) fun g9 => ?_
 refine G.sn 0 (.st t138 0) rfl ?_
 refine G.nk K9 ?_
 refine G.sr fun _ K11 => ?_
 refine G.V 18 (.fa f138_0 0) ?_
 refine G.V 19 (.lda t107 0) ?_
 refine G.mk 10 (.al z107) fun g10 => ?_
 refine G.sn 0 (.st t107 0) rfl ?_
 refine G.nk K11 ?_
 refine G.sr fun _ K12 => ?_
 refine G.M 20 ?_
 refine G.V 21 .mf ?_
 refine G.cp 22 [] [3, 1]  e122 (s_ContainsFunc 123 g10 e123 x.m (fun z => g_same g10 z x.m) a7 n7 c7 o hn7.symm (by omega)) ?_
 refine G.M 11 ?_
 refine G.nk K12 ?_
 refine G.sr fun _ K13 => ?_
 refine G.V 23 (.fa f107_0 0) ?_
 refine G.V 24 (.ld t3 0) ?_
 refine G.V 25 .bin ?_
 refine G.M 26 ?_
 cases hg14 : (x.m.kind == 1 : Bool)
 refine G.O3 27 28 29 ?_
 refine G.V 30 .pick ?_
 refine G.M 31 ?_
 refine G.O4 32 33 34 35 ?_
 refine G.O2 36 37 ?_
 refine G.V 38 .pick ?_
 refine G.M 39 ?_
 refine G.O4 40 41 42 43 ?_
 refine G.V 44 .pick ?_
 refine G.M 45 ?_
 refine G.O2 46 47 ?_
 refine G.V 48 .pick ?_
 refine G.nk K13 ?_
 refine G.no rfl ?_
 refine G.sk K8 ?_
 refine G.region ?_
 refine G.V 53 .bw ?_
 refine G.M 14 ?_
 refine G.nil ?_
 refine G.only [2, 2] ?_
 refine K5 _ _ _ ?_
 exact G.ls ⟨⟨k + 1, o, n7, a7, c7⟩, hk, by exact hn7, by rw [told_take hx, ← ho]; clear ho; unfold told1 okT; simp [*]⟩ (hL := (by first | rfl | (dsimp only; rw [hrl_snoc])))
 refine G.V 27 (.fa f107_1 1) ?_
 refine G.V 28 (.ld t3 0) ?_
 refine G.V 29 .bin ?_
 refine G.V 30 .pick ?_
 refine G.M 31 ?_
 cases hg15 : (decide (x.m.src ≥ 0) : Bool)
 refine G.O4 32 33 34 35 ?_
 refine G.O2 36 37 ?_
 refine G.V 38 .pick ?_
 refine G.M 39 ?_
 refine G.O4 40 41 42 43 ?_
 refine G.V 44 .pick ?_
 refine G.M 45 ?_
 refine G.O2 46 47 ?_
 refine G.V 48 .pick ?_
 refine G.nk K13 ?_
 refine G.no rfl ?_
 refine G.sk K8 ?_
 refine G.region ?_
 refine G.V 53 .bw ?_
 refine G.M 14 ?_
 refine G.nil ?_
 refine G.only [2, 2] ?_
 refine K5 _ _ _ ?_
 exact G.ls ⟨⟨k + 1, o, n7, a7, c7⟩, hk, by exact hn7, by rw [told_take hx, ← ho]; clear ho; unfold told1 okT; simp [*]⟩ (hL := (by first | rfl | (dsimp only; rw [hrl_snoc])))
 refine G.V 32 (.fa f107_1 1) ?_
 refine G.V 33 (.ld t3 0) ?_
 refine G.V 34 (.fa f23_0 0) ?_
 refine G.V 35 (.ld t3 3) ?_
 refine G.V 36 (.min2 i3) ?_
 refine G.V 37 .bin ?_
 refine G.V 38 .pick ?_
 refine G.M 39 ?_
 cases hg16 : (decide (x.m.src < (mn p.n 16)) : Bool)
 refine G.O4 40 41 42 43 ?_
 refine G.V 44 .pick ?_
 refine G.M 45 ?_
 refine G.O2 46 47 ?_
 refine G.V 48 .pick ?_
 refine G.nk K13 ?_
 refine G.no rfl ?_
 refine G.sk K8 ?_
 refine G.region ?_
 refine G.V 53 .bw ?_
 refine G.M 14 ?_
 refine G.nil ?_
 refine G.only [2, 2] ?_
 refine K5 _ _ _ ?_
 exact G.ls ⟨⟨k + 1, o, n7, a7, c7⟩, hk, by exact hn7, by rw [told_take hx, ← ho]; clear ho; unfold told1 okT; simp [*]⟩ (hL := (by first | rfl | (dsimp only; rw [hrl_snoc])))
 refine G.V 40 (.fa f107_1 1) ?_
 refine G.V 41 (.ld t3 0) ?_
 refine G.M 42 ?_
 refine G.V 43 .bin ?_
 refine G.V 44 .pick ?_
 refine G.M 45 ?_
 cases hg17 : (x.m.src != me : Bool)
 refine G.O2 46 47 ?_
 refine G.V 48 .pick ?_
 refine G.nk K13 ?_
 refine G.no rfl ?_
 refine G.sk K8 ?_
 refine G.region ?_
 refine G.V 53 .bw ?_
 refine G.M 14 ?_
 refine G.nil ?_
 refine G.only [2, 2] ?_
 refine K5 _ _ _ ?_
 exact G.ls ⟨⟨k + 1, o, n7, a7, c7⟩, hk, by exact hn7, by rw [told_take hx, ← ho]; clear ho; unfold told1 okT; simp [*]⟩ (hL := (by first | rfl | (dsimp only; rw [hrl_snoc])))
 refine G.M 46 ?_
 refine G.V 47 .not ?_
 refine G.V 48 .pick ?_
 refine G.nk K13 ?_
 cases hg18 : (o.any fun h => h.m.src == x.m.src : Bool)
 refine G.yes rfl ?_
 refine G.region ?_
 refine G.M 49 ?_
 refine G.V 50 (.lda t138 1 (vs := [.int .i64 x.m.kind, .int .i64 x.m.src, .int .i64 x.m.lo, .int .i64 x.m.hi, .int .i64 x.m.held, .int .i64 x.m.hops, .bool x.m.good, .bool x.m.ref, .int .i64 x.m.slo, .int .i64 x.m.shi, .int .i64 x.m.pulse, .int .i64 x.m.st, .int .i64 x.m.sn, .slice x.m.ta x.m.tl x.m.tc, .int .i64 x.age])) ?_
 refine G.row 51 (.one s101 z138 [.int .i64 x.m.kind, .int .i64 x.m.src, .int .i64 x.m.lo, .int .i64 x.m.hi, .int .i64 x.m.held, .int .i64 x.m.hops, .bool x.m.good, .bool x.m.ref, .int .i64 x.m.slo, .int .i64 x.m.shi, .int .i64 x.m.pulse, .int .i64 x.m.st, .int .i64 x.m.sn, .slice x.m.ta x.m.tl x.m.tc, .int .i64 x.age]) fun g51 => ?_
 refine G.chg 52 3 (.app s101 z138 y138 3 0 (show n7 + 1 ≤ 1048576 by omega)) ?_
 rintro _ _ ⟨a19, c20, rfl, rfl⟩
 dsimp only [List.set]
 refine G.M 7 ?_
 refine G.nk K8 ?_
 refine G.region ?_
 refine G.V 53 .bw ?_
 refine G.M 14 ?_
 refine G.nil ?_
 refine G.only [3, 3] ?_
 refine K5 _ _ _ ?_
 exact G.ls ⟨⟨k + 1, o ++ [x], n7 + 1, a19, c20⟩, hk, by simp [hn7], by rw [told_take hx, ← ho]; clear ho; unfold told1 okT; simp [*]⟩ (hL := (by first | rfl | (dsimp only; rw [hrl_snoc])))
 refine G.no rfl ?_
 refine G.sk K8 ?_
 refine G.region ?_
 refine G.V 53 .bw ?_
 refine G.M 14 ?_
 refine G.nil ?_
 refine G.only [2, 2] ?_
 refine K5 _ _ _ ?_
 exact G.ls ⟨⟨k + 1, o, n7, a7, c7⟩, hk, by exact hn7, by rw [told_take hx, ← ho]; clear ho; unfold told1 okT; simp [*]⟩ (hL := (by first | rfl | (dsimp only; rw [hrl_snoc])))
 have hkn : n = k := by have := of_decide_eq_false hc15; omega
 subst hkn
 have h7' : n7 ≤ 7 := by rw [hn7, ho]; exact told_len hp7
 rw [show l.take n = l from by rw [← hl]; exact List.take_length] at ho
 refine G.exit ?_
 refine K3 _ _ _ ?_
 refine G.Z fun _ K21 => ?_
 by_cases h7 : n7 = 0
 refine G.region ?_
 refine G.M 54 ?_
 refine G.cp 55 [] []  e124 (s_SortStable0' a7 n7 c7 h7) ?_
 refine G.nk K21 ?_
 refine G.sr fun _ K22 => ?_
 refine G.M2 56 6 ?_
 refine G.nk K22 ?_
 exact G.ret (G.F [0] (.one Tryz.results115) ⟨_, _, _, o, rfl, hn7, by rw [ho], rfl⟩)
 refine G.base 0 (show 0 < n7 by omega) fun b23 hb_ => ?_
 subst hb_
 refine G.openF 0 fun r24 r24x r24r r24n r24m => ?_
 try dsimp only [List.set]
 refine G.region ?_
 refine G.M 54 ?_
 refine G.C 55 [0] []  e124 (s_SortStable b23 n7 c7 o r24 hn7.symm (by omega)) ?_
 rintro _ _ ⟨rfl, l', rfl, hl', hp'⟩
 refine G.nil ?_
 refine G.close 0 n7 c7 15 (show (hrl l').length = n7 * 15 by rw [hrl, flat_len Hr.cells (n := 15) (fun _ => rfl), hl']) r24r r24n r24m ?_
 try dsimp only [List.set]
 refine K21 _ _ _ ?_
 refine G.sr fun _ K25 => ?_
 refine G.M2 56 6 ?_
 refine G.nk K25 ?_
 exact G.ret (G.F [0] (.one Tryz.results115) ⟨_, _, _, l', rfl, hl'.symm, hp'.trans (by rw [ho]), rfl⟩)
end Go.Proofs.YtbmhgopjblnfnaaGreat.S
namespace Go.Proofs.YtbmhgopjblnfnaaGreat.S
open Go Go.RowKit Go.Proofs.YtbmhgopjblnfnaaGreatW.PrintLast Tryz
def view (a : Option Addr) (c : Nat) (e : TypeId) (sz n : Nat) (xs : List Value) : Ent where
 own := match a with
  | some p => if n = 0 then [] else [p.block]
  | none => []
 H w := xs.length = n * sz ∧ n ≤ c ∧ c ≤ maxLen ∧ (a = none → c = 0) ∧ (n = 0 ∨ ∃ g ob, a = some ⟨g, ob, none⟩ ∧ g < w.heap.size ∧ ∀ (j : Nat) v, xs[j]? = some v → w.cell? ⟨g, ob + j, none⟩ = some v)
 loc w w' h hw := by
  refine ⟨hw.1, hw.2.1, hw.2.2.1, hw.2.2.2.1, ?_⟩
  by_cases hn : n = 0
  ·exact .inl hn
  rcases hw.2.2.2.2 with h0 | ⟨g, ob, rfl, hg, hc⟩
  ·exact .inl h0
  ·have hb := h g (by simp [hn])
   have hg' : g < w'.heap.size := by
    rcases Nat.lt_or_ge g w'.heap.size with q | q
    ·exact q
    ·rw [Array.getElem?_eq_none q, Array.getElem?_eq_getElem hg] at hb; cases hb
   exact .inr ⟨g, ob, rfl, hg', fun j v hv => by have := hc j v hv; simp only [World.cell?] at this ⊢; rw [hb]; exact this⟩
 lt w hw k hk := by
  by_cases hn : n = 0
  ·cases a <;> simp [hn] at hk
  rcases hw.2.2.2.2 with h0 | ⟨g, ob, rfl, hg, _⟩
  ·exact absurd h0 hn
  ·simp [hn] at hk; subst hk; exact hg
def Celo (e : Ent) (g ob : Nat) (cs : List Value) : Prop := ∀ w, e.H w → ∀ (j : Nat) v, cs[j]? = some v → w.cell? ⟨g, ob + j, none⟩ = some v
theorem Celo.view (g ob c : Nat) (t : TypeId) (sz n : Nat) (xs : List Value) : Celo (view (some ⟨g, ob, none⟩) c t sz n xs) g ob xs := fun w h j v hv => by
 rcases h.2.2.2.2 with h0 | ⟨g', ob', he, _, hc⟩
 ·have := h.1
  subst h0
  obtain rfl : xs = [] := List.eq_nil_of_length_eq_zero (by omega)
  simp at hv
 ·cases he
  exact hc j v hv
theorem view.base {w : World} {a : Option Addr} {c : Nat} {e : TypeId} {sz n : Nat} {xs : List Value} (hn : 0 < n) (h : (view a c e sz n xs).H w) : ∃ g ob, a = some ⟨g, ob, none⟩ := by
 rcases h.2.2.2.2 with h0 | ⟨g, ob, he, _⟩
 ·omega
 ·exact ⟨g, ob, he⟩
theorem view.of_row {w : World} {a : Option Addr} {c : Nat} {e e' : TypeId} {sz n : Nat} {xs : List Value} (h : (row a c e sz n xs).H w) : (view a c e' sz n xs).H w := by
 have hl := row.len h
 refine ⟨hl.1, hl.2.1, hl.2.2, fun e => by subst e; rcases h.2 with ⟨he, _⟩ | ⟨g, cap, cur, he, _⟩ <;> cases he; rfl, ?_⟩
 by_cases hn : n = 0
 ·exact .inl hn
 ·obtain ⟨g, rfl⟩ := row.base (by omega) h
  exact .inr ⟨g, 0, rfl, (row (some ⟨g, 0, none⟩) c e sz n xs).lt w h g (by simp [row]), fun j v hv => by rw [Nat.zero_add]; exact Cel.row g c e sz n xs w h j v hv⟩
theorem view.own_row {a : Option Addr} {c : Nat} {e e' : TypeId} {sz n : Nat} {xs : List Value} : ∀ k ∈ (view a c e sz n xs).own, k ∈ (row a c e' sz n xs).own := fun k hk => by
 cases a with
 | none => simp [view] at hk
 | some p =>
  by_cases hn : n = 0
  ·simp [view, hn] at hk
  ·simpa [view, row, hn] using hk
theorem Spec.vw {P : Program} {f : FuncId} {args : List Value} {Lf : List Ent} {a : Option Addr} {c : Nat} {e : TypeId} {sz n : Nat} {xs : List Value} {post : Value → List Ent → Prop} (sp : Spec P f args Lf [view a c e sz n xs] post) : Spec P f args Lf [row a c e sz n xs] post := fun w h1 h2 h3 h4 => sp w h1 (fun x hx => by simp at hx; subst hx; exact view.of_row (h2 _ List.mem_cons_self)) h3 fun k hk hr => h4 k hk (by simp [ids] at hr ⊢; exact view.own_row k hr)
theorem Spec.vw2 {P : Program} {f : FuncId} {args : List Value} {Lf : List Ent} {x : Ent} {a : Option Addr} {c : Nat} {e : TypeId} {sz n : Nat} {xs : List Value} {post : Value → List Ent → Prop} (sp : Spec P f args Lf [x, view a c e sz n xs] post) : Spec P f args Lf [x, row a c e sz n xs] post := fun w h1 h2 h3 h4 => sp w h1 (fun y hy => by
 simp at hy
 rcases hy with rfl | rfl
 ·exact h2 _ List.mem_cons_self
 ·exact view.of_row (h2 _ (List.mem_cons_of_mem _ List.mem_cons_self))) h3 fun k hk hr => h4 k hk (by
 simp [ids] at hr ⊢
 exact hr.imp id (view.own_row k))
theorem G.vbase {c : Ctx} {m : Sl} {L R : List Ent} {X : Act → World → Prop} (i : Nat) {a : Option Addr} {cap : Nat} {e : TypeId} {sz n : Nat} {xs : List Value} (hn : 0 < n) (h : ∀ g ob, a = some ⟨g, ob, none⟩ → G c m L R X) (hi : (L ++ R)[i]? = some (view a cap e sz n xs) := by rfl) : G c m L R X := G.fact i (fun w q => view.base hn q) (fun ⟨g, ob, hg⟩ => h g ob hg) hi
section
variable {P : Program} {m : Sl} {L R : List Ent} {o : Oper}
theorem Evl.ldo {T : TypeId} (hT : tsz P T = some (false, 1)) (i : Nat) {x : Operand} {g ob j off : Nat} {cs : List Value} {v : Value} {e : Ent} (hop : o.op = .load T x := by rfl) (hx : ev m x = some (.pointer (some ⟨g, off, none⟩)) := by rfl) (hi : (L ++ R)[i]? = some e := by rfl) (hc : Celo e g ob cs := by exact Celo.view _ _ _ _ _ _ _) (hv : cs[j]? = some v := by rfl) (ho : ob + j = off := by omega) : Evl P m L R o v := fun a w hs hd => by
 have hH : e.H w := by
  rcases List.mem_append.1 (List.mem_of_getElem? hi) with q | q
  ·exact hd.1 e q
  ·exact hd.2 e q
 have hl := hc w hH j v hv
 rw [ho] at hl
 have he := hs.ev hx
 generalize a.eval = ρ at he
 simp [execOp, hop, he, Instr.loadAt, Instr.sureAddr, loadVar, run_isAgg hT, hl, Sem.run_bind, Result.andThen, go_sem]
theorem Evl.ldao {T : TypeId} {n : Nat} (hT : tsz P T = some (true, n)) (i : Nat) {x : Operand} {g ob j off : Nat} {cs vs : List Value} {e : Ent} (hop : o.op = .load T x := by rfl) (hx : ev m x = some (.pointer (some ⟨g, off, none⟩)) := by rfl) (hi : (L ++ R)[i]? = some e := by rfl) (hc : Celo e g ob cs := by exact Celo.view _ _ _ _ _ _ _) (hv : (cs.drop j).take n = vs := by rfl) (hn : vs.length = n := by rfl) (ho : ob + j = off := by omega) : Evl P m L R o (.agg vs.toArray) := fun a w hs hd => by
 have hH : e.H w := by
  rcases List.mem_append.1 (List.mem_of_getElem? hi) with q | q
  ·exact hd.1 e q
  ·exact hd.2 e q
 have hl : (loadCells ⟨g, off, none⟩ n).run P w = .ok vs.toArray w := run_loadCells _ vs hn fun k v hk => by
  rw [add_at, ← ho, Nat.add_assoc]
  refine hc w hH _ _ ?_
  subst hv
  rw [List.getElem?_take] at hk
  split at hk
  ·rw [List.getElem?_drop] at hk; exact hk
  ·cases hk
 unfold loadCells at hl
 have he := hs.ev hx
 generalize a.eval = ρ at he
 simp [execOp, hop, he, Instr.loadAt, Instr.sureAddr, loadVar, run_isAgg hT, run_sizeOf hT, hl, Sem.run_bind, Result.andThen, go_sem]
def Celq (e : Ent) (q : Addr) (cs : List Value) : Prop := ∀ w, e.H w → ∀ (j : Nat) v, cs[j]? = some v → w.cell? (q.add j) = some v
theorem Celq.view (q : Addr) (c : Nat) (t : TypeId) (sz n : Nat) (xs : List Value) : Celq (view (some q) c t sz n xs) q xs := fun w h j v hv => by
 rcases h.2.2.2.2 with h0 | ⟨g', ob', he, _, hc⟩
 ·have := h.1
  subst h0
  obtain rfl : xs = [] := List.eq_nil_of_length_eq_zero (by omega)
  simp at hv
 ·cases he
  rw [add_at]
  exact hc j v hv
theorem Chs.appo {t e : TypeId} {sz by_ n c m' k n' : Nat} {zs xs news : List Value} {a : Option Addr} {x y : Operand} {q : Addr} {s : Ent} (ht : tslice P t = some (e, sz)) (hz : tzero P e = some zs) (hb : tbytes P e = some (sz, by_)) (i j : Nat) (hs63 : n + m' ≤ 1048576) (hop : o.op = .call { callee := .builtin .append, args := #[x, y], argTypes := #[t, t] } := by rfl) (hx : ev m x = some (.slice a n c) := by rfl) (hy : ev m y = some (.slice (some q) m' k) := by rfl) (hi : L[i]? = some (row a c e sz n xs) := by rfl) (hj : (L ++ R)[j]? = some s := by rfl) (hs : Celq s q news := by exact Celq.view _ _ _ _ _ _) (hl : news.length = m' * sz := by rfl) (h1 : news.all Value.oneCell' = true := by rfl) (hzl : zs.length = sz := by rfl) (h0 : 0 < sz := by decide) (hby : by_ ≤ 134217728 := by decide) (hnn : n + m' = n' := by rfl) :
  Chs P m L R o i (fun v e' => ∃ a' c', v = .slice a' n' c' ∧ e' = row a' c' e sz n' (xs ++ news)) := ⟨_, hi, fun ac w hs' hd => by
 subst hnn
 have he := hs'.ev hx
 have hf := hs'.ev hy
 have hH : s.H w := by
  rcases List.mem_append.1 (List.mem_of_getElem? hj) with q | q
  ·exact hd.1 s q
  ·exact hd.2 s q
 obtain ⟨a', c', w', hrun, r1, r2, r3⟩ := append_own (ty := o.type) ht hz hzl h0 hb (hd.1 _ (List.mem_of_getElem? hi)) (b := q) (k := k) hl (fun j u hu => hs w hH j u hu) (fun u hu => List.all_eq_true.1 h1 u hu) (by simp only [maxLen]; omega) (Nat.le_trans (Nat.mul_le_mul hs63 hby) (by decide))
 refine ⟨_, _, w', ?_, ⟨a', c', rfl, rfl⟩, r1, r2, by cases a' <;> simp [row], r3⟩
 generalize ac.eval = ρ at he hf
 unfold execOp
 simp only [hop, resolve, invoke, builtin, Sem.run_bind, Sem.run_pure, Result.andThen_ok, List.map_toArray, List.map_cons, List.map_nil, he, hf, hrun]⟩
end
end Go.Proofs.YtbmhgopjblnfnaaGreat.S
namespace Go.Proofs.YtbmhgopjblnfnaaGreat.S
open Go Go.Proofs Go.RowKit Go.Proofs.YtbmhgopjblnfnaaGreatW.PrintLast Tryz
theorem e89 : Is prog 89 := ⟨_, func89, by kernel_rfl, rfl⟩
theorem e90 : Is prog 90 := ⟨_, func90, by kernel_rfl, rfl⟩
theorem e92 : Is prog 92 := ⟨_, func92, by kernel_rfl, rfl⟩
theorem e93 : Is prog 93 := ⟨_, func93, by kernel_rfl, rfl⟩
theorem e95 : Is prog 95 := ⟨_, func95, by kernel_rfl, rfl⟩
theorem f174_0 : tfield prog 174 0 = some 0 := by kernel_rfl
theorem f174_1 : tfield prog 174 1 = some 1 := by kernel_rfl
theorem s58 : tslice prog 58 = some (174, 2) := by kernel_rfl
theorem t174 : tsz prog 174 = some (true, 2) := by kernel_rfl
theorem y174 : tbytes prog 174 = some (2, 16) := by kernel_rfl
theorem z174 : tzero prog 174 = some [.int .i64 0, .int .i64 0] := by kernel_rfl
def inL (lo hi : Int) (l : List Int) : Bool := l.all fun x => inB x lo hi
theorem inL_take {lo hi : Int} {l : List Int} {k : Nat} (h : k < l.length) : inL lo hi (l.take (k + 1)) = (inL lo hi (l.take k) && inB (l.getD k 0) lo hi) := by
 unfold inL
 rw [List.take_succ_eq_append_getElem h, List.all_append, List.getD_eq_getElem?_getD, List.getElem?_eq_getElem h]
 simp only [List.all_cons, List.all_nil, Bool.and_true, Option.getD_some]
theorem inL_f {lo hi : Int} {l : List Int} {k : Nat} (h : k < l.length) (hb : inB (l.getD k 0) lo hi = false) : inL lo hi l = false := by
 unfold inL
 rw [List.all_eq_false]
 rw [List.getD_eq_getElem?_getD, List.getElem?_eq_getElem h, Option.getD_some] at hb
 exact ⟨l[k], List.getElem_mem h, by rw [hb]; decide⟩
theorem i_in (lo hi : Int) (b : Nat) (l : List Int) (hm : l.length < 100) : Spec prog 89 [.int .i64 lo, .int .i64 hi, .slice (some ⟨b, 0, none⟩) l.length l.length] [] [blk b (ints l) 3] (fun v Ln => v = .bool (inL lo hi l) ∧ Ln = []) := by
 refine Spec.en func89 ntmps89 fun w0 => ?_
 refine G.sr fun _ K1 => ?_
 refine G.M 6 ?_
 refine G.nk K1 ?_
 refine G.Z fun _ K2 => ?_
 refine G.sr fun _ K3 => ?_
 refine G.M 9 ?_
 refine G.V 10 (.lenl s24) ?_
 refine G.M 11 ?_
 refine G.nk K3 ?_
 refine G.block ?_
 refine G.lpR (ι := {k : Nat // k ≤ l.length ∧ inL lo hi (l.take k) = true}) (fun ⟨k, hj, ha⟩ => l.length - k) (fun ⟨k, hj, ha⟩ => [(0, .int .i64 lo), (1, .int .i64 hi), (9, .slice (some ⟨b, 0, none⟩) l.length l.length), (10, .int .i64 (l.length : Int)), (11, .int .i64 (k : Int))]) (fun ⟨k, hj, ha⟩ => []) ?_ ?_
 exact G.at ⟨0, Nat.zero_le _, rfl⟩ (ts := [0, 1, 9, 10, 11]) rfl rfl rfl rfl
 rintro ⟨k, hj, ha⟩ _ K4
 try dsimp only at K4 ⊢
 refine G.sr fun _ K5 => ?_
 refine G.V 12 .bin ?_
 refine G.nk K5 ?_
 refine G.Z fun _ K6 => ?_
 refine G.cond rfl (fun hc12 => ?_) (fun hc12 => ?_)
 have hk : k < l.length := by simpa using hc12
 refine G.sk K6 ?_
 refine G.Z fun _ K7 => ?_
 refine G.block ?_
 refine G.sr fun _ K8 => ?_
 refine G.V 13 (.is s24 k hk) ?_
 refine G.V 14 (.ld t3 0 (hv := by rw [Nat.zero_add, Nat.mul_one]; exact ints_at hk)) ?_
 refine G.M 8 ?_
 refine G.nk K8 ?_
 refine G.sr fun _ K9 => ?_
 refine G.M2 15 16 ?_
 refine G.V 17 .bin ?_
 refine G.M 18 ?_
 cases hg10 : (decide ((l.getD k 0) < lo) : Bool)
 refine G.M2 19 20 ?_
 refine G.V 21 .bin ?_
 refine G.V 22 .pick ?_
 refine G.nk K9 ?_
 refine G.cond rfl (fun hc22 => ?_) (fun hc22 => ?_)
 refine G.sr fun _ K11 => ?_
 refine G.M 6 ?_
 refine G.nk K11 ?_
 exact G.ret (G.F [] (.one Tryz.results89) ⟨by first | (rw [inL_f hk (by unfold inB; first | (simp_all; done) | (simp_all; omega))]) | (subst hk; rw [List.take_length] at ha; rw [ha]), rfl⟩)
 refine G.sk K7 ?_
 refine G.region ?_
 refine G.V 23 .bw ?_
 refine G.M 11 ?_
 refine G.nk K4 ?_
 exact G.ls ⟨k + 1, hk, by rw [inL_take hk, ha]; unfold inB; simp_all⟩
 refine G.O3 19 20 21 ?_
 refine G.V 22 .pick ?_
 refine G.nk K9 ?_
 refine G.yes rfl ?_
 refine G.sr fun _ K12 => ?_
 refine G.M 6 ?_
 refine G.nk K12 ?_
 exact G.ret (G.F [] (.one Tryz.results89) ⟨by first | (rw [inL_f hk (by unfold inB; first | (simp_all; done) | (simp_all; omega))]) | (subst hk; rw [List.take_length] at ha; rw [ha]), rfl⟩)
 have hk : k = l.length := by have := of_decide_eq_false hc12; omega
 refine G.exit ?_
 refine K2 _ _ _ ?_
 refine G.sr fun _ K13 => ?_
 refine G.M 6 ?_
 refine G.nk K13 ?_
 exact G.ret (G.F [] (.one Tryz.results89) ⟨by first | (rw [inL_f hk (by unfold inB; first | (simp_all; done) | (simp_all; omega))]) | (subst hk; rw [List.take_length] at ha; rw [ha]), rfl⟩)
theorem spl_len (l : List (Int × Int)) : (spl l).length = l.length * 2 := flat_len (n := 2) (fun x : Int × Int => [.int .i64 x.1, .int .i64 x.2]) (fun _ => rfl) l
theorem spl_one (l : List (Int × Int)) : (spl l).all Value.oneCell' = true := by unfold spl; induction l with
 | nil => rfl
 | cons x l ih => rw [List.flatMap_cons, List.all_append, ih]; rfl
theorem l_Clone1 (q : Addr) (n c : Nat) (l : List (Int × Int)) (hl : l.length = n) (hn : n ≤ 1000) : Spec prog 84 [.slice (some q) n c] [] [view (some q) c 174 2 n (spl l)] (fun v Ln => ∃ a' c', v = .slice a' n c' ∧ Ln = [row a' c' 174 2 n (spl l)]) := by
 refine Spec.en func84 ntmps84 fun w0 => ?_
 refine G.sr fun _ K1 => ?_
 refine G.M 2 ?_
 refine G.nk K1 ?_
 refine G.Z fun _ K2 => ?_
 refine G.sr fun _ K3 => ?_
 refine G.M 3 ?_
 refine G.V 4 (.sleq s58) ?_
 refine G.nk K3 ?_
 refine G.no rfl ?_
 refine G.sk K2 ?_
 refine G.sr fun _ K4 => ?_
 refine G.row 5 (.zero s58) fun g5 => ?_
 refine G.M 6 ?_
 refine G.asRow 0 0 2 rfl (by decide) ?_
 dsimp only [List.set]
 refine G.chg 7 0 (.appo s58 z174 y174 0 1 (show 0 + n ≤ 1048576 by omega) (hl := by rw [spl_len, hl]) (h1 := spl_one l) (hnn := Nat.zero_add _)) ?_
 rintro _ _ ⟨a5, c6, rfl, rfl⟩
 dsimp only [List.set]
 refine G.M 2 ?_
 refine G.nk K4 ?_
 exact G.ret (G.F [0] (.one Tryz.results84) ⟨_, _, rfl, rfl⟩)
theorem l_Clone0  : Spec prog 84 [.slice none 0 0] [] [] (fun v Ln => ∃ a' c', v = .slice a' 0 c' ∧ Ln = [row a' c' 174 2 0 (spl [])]) := by
 refine Spec.en func84 ntmps84 fun w0 => ?_
 refine G.sr fun _ K1 => ?_
 refine G.M 2 ?_
 refine G.nk K1 ?_
 refine G.Z fun _ K2 => ?_
 refine G.sr fun _ K3 => ?_
 refine G.M 3 ?_
 refine G.V 4 (.sleq s58) ?_
 refine G.nk K3 ?_
 refine G.yes rfl ?_
 refine G.Z fun _ K4 => ?_
 refine G.newRow 174 2 ?_
 refine G.region ?_
 refine G.M 2 ?_
 refine G.nk K4 ?_
 exact G.ret (G.F [0] (.one Tryz.results84) ⟨none, 0, rfl, rfl⟩)
theorem l_Clone (a : Option Addr) (n c : Nat) (l : List (Int × Int)) (hl : l.length = n) (hn : n ≤ 1000) : Spec prog 84 [.slice a n c] [] [view a c 174 2 n (spl l)] (fun v Ln => ∃ a' c', v = .slice a' n c' ∧ Ln = [row a' c' 174 2 n (spl l)]) := by
 intro w h1 h2 h3 h4
 have hr := h2 _ List.mem_cons_self
 cases a with
 | none =>
  obtain rfl := hr.2.2.2.1 rfl
  obtain rfl : n = 0 := by have := hr.2.1; omega
  obtain rfl : l = [] := List.eq_nil_of_length_eq_zero hl
  exact l_Clone0 w (by simp) (by simp) h3 (by simp [ids])
 | some q => exact l_Clone1 q n c l hl hn w h1 h2 h3 h4
def badE (i : Nat) (prev off : Int) (x : Int × Int) : Bool := decide ((i : Int) ≥ 32) || (!(inL 0 1099511627776 [x.1]) || (!(inL (-32) 32 [x.2]) || ((decide ((i : Int) > 0) && decide (x.1 - prev < 86400)) || (x.2 - off != 1 && x.2 - off != -1))))
def tabF : Nat → Int → Int → List (Int × Int) → Bool
 | _, _, _, [] => true
 | i, prev, off, x :: l => !(badE i prev off x) && tabF (i + 1) x.1 x.2 l
def tableB (l : List (Int × Int)) : Bool := tabF 0 0 0 l
theorem drop_at {α : Type} {l : List α} {k : Nat} {x : α} (h : l[k]? = some x) : l.drop k = x :: l.drop (k + 1) := by
 obtain ⟨h1, rfl⟩ := List.getElem?_eq_some_iff.1 h
 exact List.drop_eq_getElem_cons h1
theorem tabF_at {l : List (Int × Int)} {k : Nat} {prev off : Int} {x : Int × Int} (h : l[k]? = some x) : tabF k prev off (l.drop k) = (!(badE k prev off x) && tabF (k + 1) x.1 x.2 (l.drop (k + 1))) := by rw [drop_at h]; rfl
theorem inL1 {lo hi a : Int} (h : inL lo hi [a] = true) : lo ≤ a ∧ a ≤ hi := by unfold inL at h; simp at h; exact inB_t h
theorem spl_fst {l : List (Int × Int)} {k : Nat} {x : Int × Int} (h : l[k]? = some x) : (spl l)[0 + k * 2]? = some (.int .i64 x.1) := by
 have h1 := spl_at h
 have h2 : (((spl l).drop (0 + k * 2)).take 2)[0]? = some (.int .i64 x.1) := by rw [h1]; rfl
 rw [List.getElem?_take_of_lt (by omega), List.getElem?_drop] at h2
 simpa using h2
theorem w_Table (a : Option Addr) (n c : Nat) (l : List (Int × Int)) (hl : l.length = n) (hn : n ≤ 1000) : Spec prog 90 [.slice a n c] [] [view a c 174 2 n (spl l)] (fun v Ln => v = .bool (tableB l) ∧ Ln = []) := by
 refine Spec.en func90 ntmps90 fun w0 => ?_
 refine G.sr fun _ K1 => ?_
 refine G.M 2 ?_
 refine G.nk K1 ?_
 refine G.sr fun _ K2 => ?_
 refine G.M 3 ?_
 refine G.nk K2 ?_
 refine G.Z fun _ K3 => ?_
 refine G.sr fun _ K4 => ?_
 refine G.M 6 ?_
 refine G.V 7 (.lenl s58) ?_
 refine G.M 8 ?_
 refine G.nk K4 ?_
 refine G.block ?_
 refine G.lpR (ι := {q : Nat × Int × Int // q.1 ≤ n ∧ (0 < q.1 → l[q.1 - 1]? = some (q.2.1, q.2.2)) ∧ (0 ≤ q.2.1 ∧ q.2.1 ≤ 1099511627776) ∧ (-32 ≤ q.2.2 ∧ q.2.2 ≤ 32) ∧ tabF q.1 q.2.1 q.2.2 (l.drop q.1) = tableB l}) (fun ⟨⟨k, prev, off⟩, hj, h2, hp, hf, ho⟩ => n - k) (fun ⟨⟨k, prev, off⟩, hj, h2, hp, hf, ho⟩ => [(0, .slice a n c), (3, .int .i64 off), (6, .slice a n c), (7, .int .i64 (n : Int)), (8, .int .i64 (k : Int))]) (fun ⟨⟨k, prev, off⟩, hj, h2, hp, hf, ho⟩ => []) ?_ ?_
 exact G.at ⟨⟨0, 0, 0⟩, Nat.zero_le _, fun h => absurd h (by decide), by decide, by decide, rfl⟩ (ts := [0, 3, 6, 7, 8]) rfl rfl rfl rfl
 rintro ⟨⟨k, prev, off⟩, hj, h2, hp, hf, ho⟩ _ K5
 try dsimp only at K5 ⊢
 dsimp only at hj h2 hp hf ho
 refine G.sr fun _ K6 => ?_
 refine G.V 9 .bin ?_
 refine G.nk K6 ?_
 refine G.Z fun _ K7 => ?_
 refine G.cond rfl (fun hc9 => ?_) (fun hc9 => ?_)
 have hk : k < n := by have := of_decide_eq_true hc9; omega
 obtain ⟨x, hx⟩ : ∃ x, l[k]? = some x := ⟨_, List.getElem?_eq_getElem (by omega)⟩
 rw [tabF_at hx] at ho
 refine G.sk K7 ?_
 refine G.Z fun _ K8 => ?_
 refine G.block ?_
 refine G.Z fun _ K9 => ?_
 refine G.vbase 0 (show 0 < n by omega) fun b10 ob10 hb_ => ?_
 subst hb_
 refine G.region ?_
 refine G.M 10 ?_
 refine G.V 11 (.is s58 k hk) ?_
 refine G.V 12 (.ldao t174 0 (hv := spl_at hx)) ?_
 refine G.mk 5 (.al z174) fun g5 => ?_
 refine G.M 4 ?_
 refine G.sn 0 (.st t174 0) rfl ?_
 refine G.nk K9 ?_
 refine G.Z fun _ K11 => ?_
 refine G.Z fun _ K12 => ?_
 refine G.draw 46 [0] [0] [] ?_
 refine D.V 0 13 1 .mv ?_
 refine D.V 1 14 3 .bin ?_
 refine D.V 2 15 7 .mv ?_
 cases hg13 : (decide ((k : Int) ≥ 32) : Bool)
 refine D.V 3 16 15 (.fa f174_0 0) ?_
 refine D.T 4 17 31 (.ld t3 0) [0] [0] ?_
 refine D.ev 5 63 ?_
 refine E.row 5 18 (.sl s24 z3 [.int .i64 x.1]) [0] [0]  fun g18 => ?_
 refine D.C 6 19 127 [] [1] [1] [0]  e89 (i_in 0 1099511627776 g18 [x.1] (by simp)) ?_
 rintro _ _ ⟨rfl, rfl⟩
 refine D.V 7 20 255 .not ?_
 refine D.V 8 21 511 .pick ?_
 refine D.V 9 22 1023 .mv ?_
 cases hg14 : (inL 0 1099511627776 [x.1] : Bool)
 refine D.off 10 23 2047 ?_
 refine D.off 11 24 4095 ?_
 refine D.off 12 25 8191 ?_
 refine D.off 13 26 16383 ?_
 refine D.off 14 27 32767 ?_
 refine D.V 15 28 65535 .pick ?_
 refine D.V 16 29 131071 .mv ?_
 refine D.off 17 30 262143 ?_
 refine D.off 18 31 524287 ?_
 refine D.off 19 32 1048575 ?_
 refine D.off 20 33 2097151 ?_
 refine D.off 21 34 4194303 ?_
 refine D.off 22 35 8388607 ?_
 refine D.off 23 36 16777215 ?_
 refine D.off 24 37 33554431 ?_
 refine D.off 25 38 67108863 ?_
 refine D.off 26 39 134217727 ?_
 refine D.off 27 40 268435455 ?_
 refine D.off 28 41 536870911 ?_
 refine D.off 29 42 1073741823 ?_
 refine D.off 30 43 2147483647 ?_
 refine D.V 31 44 4294967295 .pick ?_
 refine D.V 32 45 8589934591 .mv ?_
 refine D.off 33 46 17179869183 ?_
 refine D.off 34 47 34359738367 ?_
 refine D.off 35 48 68719476735 ?_
 refine D.off 36 49 137438953471 ?_
 refine D.off 37 50 274877906943 ?_
 refine D.off 38 51 549755813887 ?_
 refine D.off 39 52 1099511627775 ?_
 refine D.off 40 53 2199023255551 ?_
 refine D.off 41 54 4398046511103 ?_
 refine D.off 42 55 8796093022207 ?_
 refine D.off 43 56 17592186044415 ?_
 refine D.off 44 57 35184372088831 ?_
 refine D.V 45 58 70368744177663 .pick ?_
 refine D.done ?_
 refine K12 _ _ _ ?_
 refine G.yes rfl ?_
 refine G.sr fun _ K15 => ?_
 refine G.M 2 ?_
 refine G.nk K15 ?_
 exact G.ret (G.F [] (.one Tryz.results90) ⟨by rw [← ho]; clear ho; (try unfold badE); first | rfl | (unfold tabF; rfl) | (simp_all; done), rfl⟩)
 refine D.V 10 23 2047 (.fa f174_1 1) ?_
 refine D.T 11 24 4095 (.ld t3 0) [1] [0] ?_
 refine D.ev 12 8191 ?_
 refine E.row 12 25 (.sl s24 z3 [.int .i64 x.2]) [1] [0]  fun g25 => ?_
 refine D.C 13 26 16383 [] [1] [2] [0]  e89 (i_in (-32) 32 g25 [x.2] (by simp)) ?_
 rintro _ _ ⟨rfl, rfl⟩
 refine D.V 14 27 32767 .not ?_
 refine D.V 15 28 65535 .pick ?_
 refine D.V 16 29 131071 .mv ?_
 cases hg16 : (inL (-32) 32 [x.2] : Bool)
 refine D.off 17 30 262143 ?_
 refine D.off 18 31 524287 ?_
 refine D.off 19 32 1048575 ?_
 refine D.off 20 33 2097151 ?_
 refine D.off 21 34 4194303 ?_
 refine D.off 22 35 8388607 ?_
 refine D.off 23 36 16777215 ?_
 refine D.off 24 37 33554431 ?_
 refine D.off 25 38 67108863 ?_
 refine D.off 26 39 134217727 ?_
 refine D.off 27 40 268435455 ?_
 refine D.off 28 41 536870911 ?_
 refine D.off 29 42 1073741823 ?_
 refine D.off 30 43 2147483647 ?_
 refine D.V 31 44 4294967295 .pick ?_
 refine D.V 32 45 8589934591 .mv ?_
 refine D.off 33 46 17179869183 ?_
 refine D.off 34 47 34359738367 ?_
 refine D.off 35 48 68719476735 ?_
 refine D.off 36 49 137438953471 ?_
 refine D.off 37 50 274877906943 ?_
 refine D.off 38 51 549755813887 ?_
 refine D.off 39 52 1099511627775 ?_
 refine D.off 40 53 2199023255551 ?_
 refine D.off 41 54 4398046511103 ?_
 refine D.off 42 55 8796093022207 ?_
 refine D.off 43 56 17592186044415 ?_
 refine D.off 44 57 35184372088831 ?_
 refine D.V 45 58 70368744177663 .pick ?_
 refine D.done ?_
 refine K12 _ _ _ ?_
 refine G.yes rfl ?_
 refine G.sr fun _ K17 => ?_
 refine G.M 2 ?_
 refine G.nk K17 ?_
 exact G.ret (G.F [] (.one Tryz.results90) ⟨by rw [← ho]; clear ho; (try unfold badE); first | rfl | (unfold tabF; rfl) | (simp_all; done), rfl⟩)
 refine D.V 17 30 262143 .mv ?_
 refine D.V 18 31 524287 .bin ?_
 refine D.V 19 32 1048575 .mv ?_
 cases hg18 : (decide ((k : Int) > 0) : Bool)
 refine D.off 20 33 2097151 ?_
 refine D.off 21 34 4194303 ?_
 refine D.off 22 35 8388607 ?_
 refine D.off 23 36 16777215 ?_
 refine D.off 24 37 33554431 ?_
 refine D.off 25 38 67108863 ?_
 refine D.off 26 39 134217727 ?_
 refine D.off 27 40 268435455 ?_
 refine D.off 28 41 536870911 ?_
 refine D.off 29 42 1073741823 ?_
 refine D.V 30 43 2147483647 .pick ?_
 refine D.V 31 44 4294967295 .pick ?_
 refine D.V 32 45 8589934591 .mv ?_
 refine D.V 33 46 17179869183 (.fa f174_1 1) ?_
 refine D.V 35 48 51539607551 .mv ?_
 refine D.T 34 47 68719476735 (.ld t3 0) [2] [0] ?_
 refine D.V 36 49 137438953471 (.cast .bin (wi (by have := inL1 ‹inL 0 1099511627776 [x.1] = true›; have := inL1 ‹inL (-32) 32 [x.2] = true›; omega) (by have := inL1 ‹inL 0 1099511627776 [x.1] = true›; have := inL1 ‹inL (-32) 32 [x.2] = true›; omega))) ?_
 refine D.V 37 50 274877906943 .bin ?_
 refine D.V 38 51 549755813887 .mv ?_
 cases hg19 : ((x.2 - off) != 1 : Bool)
 refine D.off 39 52 1099511627775 ?_
 refine D.off 40 53 2199023255551 ?_
 refine D.off 41 54 4398046511103 ?_
 refine D.off 42 55 8796093022207 ?_
 refine D.off 43 56 17592186044415 ?_
 refine D.V 44 57 35184372088831 .pick ?_
 refine D.V 45 58 70368744177663 .pick ?_
 refine D.done ?_
 refine K12 _ _ _ ?_
 refine G.no rfl ?_
 refine G.sk K11 ?_
 refine G.region ?_
 refine G.V 59 (.fa f174_1 1) ?_
 refine G.V 60 (.ld t3 2) ?_
 refine G.M 3 ?_
 refine G.nk K8 ?_
 refine G.region ?_
 refine G.V 61 .bw ?_
 refine G.M 8 ?_
 refine G.nil ?_
 refine G.only [] ?_
 refine K5 _ _ _ ?_
 exact G.less ⟨⟨k + 1, x.1, x.2⟩, hk, fun _ => hx, inL1 ‹inL 0 1099511627776 [x.1] = true›, inL1 ‹inL (-32) 32 [x.2] = true›, by rw [← ho]; clear ho; unfold badE; simp_all⟩ (ts := [0, 3, 6, 7, 8]) (by dsimp only; omega) rfl rfl rfl rfl
 refine D.V 39 52 1099511627775 (.fa f174_1 1) ?_
 refine D.V 41 54 3298534883327 .mv ?_
 refine D.T 40 53 4398046511103 (.ld t3 0) [2] [0] ?_
 refine D.V 42 55 8796093022207 (.cast .bin (wi (by have := inL1 ‹inL 0 1099511627776 [x.1] = true›; have := inL1 ‹inL (-32) 32 [x.2] = true›; omega) (by have := inL1 ‹inL 0 1099511627776 [x.1] = true›; have := inL1 ‹inL (-32) 32 [x.2] = true›; omega))) ?_
 refine D.V 43 56 17592186044415 .bin ?_
 refine D.V 44 57 35184372088831 .pick ?_
 refine D.V 45 58 70368744177663 .pick ?_
 refine D.done ?_
 refine K12 _ _ _ ?_
 refine G.cond rfl (fun hc58 => ?_) (fun hc58 => ?_)
 refine G.sr fun _ K20 => ?_
 refine G.M 2 ?_
 refine G.nk K20 ?_
 exact G.ret (G.F [] (.one Tryz.results90) ⟨by rw [← ho]; clear ho; (try unfold badE); first | rfl | (unfold tabF; rfl) | (simp_all; done), rfl⟩)
 refine G.sk K11 ?_
 refine G.region ?_
 refine G.V 59 (.fa f174_1 1) ?_
 refine G.V 60 (.ld t3 2) ?_
 refine G.M 3 ?_
 refine G.nk K8 ?_
 refine G.region ?_
 refine G.V 61 .bw ?_
 refine G.M 8 ?_
 refine G.nil ?_
 refine G.only [] ?_
 refine K5 _ _ _ ?_
 exact G.less ⟨⟨k + 1, x.1, x.2⟩, hk, fun _ => hx, inL1 ‹inL 0 1099511627776 [x.1] = true›, inL1 ‹inL (-32) 32 [x.2] = true›, by rw [← ho]; clear ho; unfold badE; simp_all⟩ (ts := [0, 3, 6, 7, 8]) (by dsimp only; omega) rfl rfl rfl rfl
 refine D.V 20 33 2097151 (.fa f174_0 0) ?_
 refine D.V 22 35 6291455 .mv ?_
 refine D.V 23 36 14680063 .mv ?_
 refine D.V 24 37 31457279 (.cast (.cast .bin (wi (by omega) (by omega))) (show Value.int .i64 ((k : Int) - 1) = .int .i64 ((k - 1 : Nat) : Int) from by have := of_decide_eq_true ‹decide ((k : Int) > 0) = true›; congr 1; omega)) ?_
 refine D.V 25 38 65011711 (.is s58 (k - 1) (show k - 1 < n by omega)) ?_
 refine D.V 26 39 132120575 (.fa f174_0 (ob10 + (k - 1) * 2)) ?_
 refine D.T 21 34 134217727 (.ld t3 0) [2] [0] ?_
 refine D.one 27 40 268435455 (.ldo t3 3 (hv := spl_fst (h2 (by have := of_decide_eq_true ‹decide ((k : Int) > 0) = true›; omega)))) [2] [0] ?_
 refine D.V 28 41 536870911 (.cast .bin (wi (by have := inL1 ‹inL 0 1099511627776 [x.1] = true›; have := inL1 ‹inL (-32) 32 [x.2] = true›; omega) (by have := inL1 ‹inL 0 1099511627776 [x.1] = true›; have := inL1 ‹inL (-32) 32 [x.2] = true›; omega))) ?_
 refine D.V 29 42 1073741823 .bin ?_
 refine D.V 30 43 2147483647 .pick ?_
 refine D.V 31 44 4294967295 .pick ?_
 refine D.V 32 45 8589934591 .mv ?_
 cases hg21 : (decide ((x.1 - prev) < 86400) : Bool)
 refine D.V 33 46 17179869183 (.fa f174_1 1) ?_
 refine D.V 35 48 51539607551 .mv ?_
 refine D.T 34 47 68719476735 (.ld t3 0) [2] [0] ?_
 refine D.V 36 49 137438953471 (.cast .bin (wi (by have := inL1 ‹inL 0 1099511627776 [x.1] = true›; have := inL1 ‹inL (-32) 32 [x.2] = true›; omega) (by have := inL1 ‹inL 0 1099511627776 [x.1] = true›; have := inL1 ‹inL (-32) 32 [x.2] = true›; omega))) ?_
 refine D.V 37 50 274877906943 .bin ?_
 refine D.V 38 51 549755813887 .mv ?_
 cases hg22 : ((x.2 - off) != 1 : Bool)
 refine D.off 39 52 1099511627775 ?_
 refine D.off 40 53 2199023255551 ?_
 refine D.off 41 54 4398046511103 ?_
 refine D.off 42 55 8796093022207 ?_
 refine D.off 43 56 17592186044415 ?_
 refine D.V 44 57 35184372088831 .pick ?_
 refine D.V 45 58 70368744177663 .pick ?_
 refine D.done ?_
 refine K12 _ _ _ ?_
 refine G.no rfl ?_
 refine G.sk K11 ?_
 refine G.region ?_
 refine G.V 59 (.fa f174_1 1) ?_
 refine G.V 60 (.ld t3 2) ?_
 refine G.M 3 ?_
 refine G.nk K8 ?_
 refine G.region ?_
 refine G.V 61 .bw ?_
 refine G.M 8 ?_
 refine G.nil ?_
 refine G.only [] ?_
 refine K5 _ _ _ ?_
 exact G.less ⟨⟨k + 1, x.1, x.2⟩, hk, fun _ => hx, inL1 ‹inL 0 1099511627776 [x.1] = true›, inL1 ‹inL (-32) 32 [x.2] = true›, by rw [← ho]; clear ho; unfold badE; simp_all⟩ (ts := [0, 3, 6, 7, 8]) (by dsimp only; omega) rfl rfl rfl rfl
 refine D.V 39 52 1099511627775 (.fa f174_1 1) ?_
 refine D.V 41 54 3298534883327 .mv ?_
 refine D.T 40 53 4398046511103 (.ld t3 0) [2] [0] ?_
 refine D.V 42 55 8796093022207 (.cast .bin (wi (by have := inL1 ‹inL 0 1099511627776 [x.1] = true›; have := inL1 ‹inL (-32) 32 [x.2] = true›; omega) (by have := inL1 ‹inL 0 1099511627776 [x.1] = true›; have := inL1 ‹inL (-32) 32 [x.2] = true›; omega))) ?_
 refine D.V 43 56 17592186044415 .bin ?_
 refine D.V 44 57 35184372088831 .pick ?_
 refine D.V 45 58 70368744177663 .pick ?_
 refine D.done ?_
 refine K12 _ _ _ ?_
 refine G.cond rfl (fun hc58 => ?_) (fun hc58 => ?_)
 refine G.sr fun _ K23 => ?_
 refine G.M 2 ?_
 refine G.nk K23 ?_
 exact G.ret (G.F [] (.one Tryz.results90) ⟨by rw [← ho]; clear ho; (try unfold badE); first | rfl | (unfold tabF; rfl) | (simp_all; done), rfl⟩)
 refine G.sk K11 ?_
 refine G.region ?_
 refine G.V 59 (.fa f174_1 1) ?_
 refine G.V 60 (.ld t3 2) ?_
 refine G.M 3 ?_
 refine G.nk K8 ?_
 refine G.region ?_
 refine G.V 61 .bw ?_
 refine G.M 8 ?_
 refine G.nil ?_
 refine G.only [] ?_
 refine K5 _ _ _ ?_
 exact G.less ⟨⟨k + 1, x.1, x.2⟩, hk, fun _ => hx, inL1 ‹inL 0 1099511627776 [x.1] = true›, inL1 ‹inL (-32) 32 [x.2] = true›, by rw [← ho]; clear ho; unfold badE; simp_all⟩ (ts := [0, 3, 6, 7, 8]) (by dsimp only; omega) rfl rfl rfl rfl
 refine D.off 33 46 17179869183 ?_
 refine D.off 34 47 34359738367 ?_
 refine D.off 35 48 68719476735 ?_
 refine D.off 36 49 137438953471 ?_
 refine D.off 37 50 274877906943 ?_
 refine D.off 38 51 549755813887 ?_
 refine D.off 39 52 1099511627775 ?_
 refine D.off 40 53 2199023255551 ?_
 refine D.off 41 54 4398046511103 ?_
 refine D.off 42 55 8796093022207 ?_
 refine D.off 43 56 17592186044415 ?_
 refine D.off 44 57 35184372088831 ?_
 refine D.V 45 58 70368744177663 .pick ?_
 refine D.done ?_
 refine K12 _ _ _ ?_
 refine G.yes rfl ?_
 refine G.sr fun _ K24 => ?_
 refine G.M 2 ?_
 refine G.nk K24 ?_
 exact G.ret (G.F [] (.one Tryz.results90) ⟨by rw [← ho]; clear ho; (try unfold badE); first | rfl | (unfold tabF; rfl) | (simp_all; done), rfl⟩)
 refine D.off 3 16 15 ?_
 refine D.off 4 17 31 ?_
 refine D.off 5 18 63 ?_
 refine D.off 6 19 127 ?_
 refine D.off 7 20 255 ?_
 refine D.V 8 21 511 .pick ?_
 refine D.V 9 22 1023 .mv ?_
 refine D.off 10 23 2047 ?_
 refine D.off 11 24 4095 ?_
 refine D.off 12 25 8191 ?_
 refine D.off 13 26 16383 ?_
 refine D.off 14 27 32767 ?_
 refine D.V 15 28 65535 .pick ?_
 refine D.V 16 29 131071 .mv ?_
 refine D.off 17 30 262143 ?_
 refine D.off 18 31 524287 ?_
 refine D.off 19 32 1048575 ?_
 refine D.off 20 33 2097151 ?_
 refine D.off 21 34 4194303 ?_
 refine D.off 22 35 8388607 ?_
 refine D.off 23 36 16777215 ?_
 refine D.off 24 37 33554431 ?_
 refine D.off 25 38 67108863 ?_
 refine D.off 26 39 134217727 ?_
 refine D.off 27 40 268435455 ?_
 refine D.off 28 41 536870911 ?_
 refine D.off 29 42 1073741823 ?_
 refine D.off 30 43 2147483647 ?_
 refine D.V 31 44 4294967295 .pick ?_
 refine D.V 32 45 8589934591 .mv ?_
 refine D.off 33 46 17179869183 ?_
 refine D.off 34 47 34359738367 ?_
 refine D.off 35 48 68719476735 ?_
 refine D.off 36 49 137438953471 ?_
 refine D.off 37 50 274877906943 ?_
 refine D.off 38 51 549755813887 ?_
 refine D.off 39 52 1099511627775 ?_
 refine D.off 40 53 2199023255551 ?_
 refine D.off 41 54 4398046511103 ?_
 refine D.off 42 55 8796093022207 ?_
 refine D.off 43 56 17592186044415 ?_
 refine D.off 44 57 35184372088831 ?_
 refine D.V 45 58 70368744177663 .pick ?_
 refine D.done ?_
 refine K12 _ _ _ ?_
 refine G.yes rfl ?_
 refine G.sr fun _ K25 => ?_
 refine G.M 2 ?_
 refine G.nk K25 ?_
 exact G.ret (G.F [] (.one Tryz.results90) ⟨by rw [← ho]; clear ho; (try unfold badE); first | rfl | (unfold tabF; rfl) | (simp_all; done), rfl⟩)
 have hkn : n = k := by have := of_decide_eq_false hc9; omega
 subst hkn
 rw [show l.drop n = [] from by rw [← hl]; exact List.drop_length] at ho
 refine G.exit ?_
 refine K3 _ _ _ ?_
 refine G.sr fun _ K26 => ?_
 refine G.M 2 ?_
 refine G.nk K26 ?_
 exact G.ret (G.F [] (.one Tryz.results90) ⟨by rw [← ho]; clear ho; (try unfold badE); first | rfl | (unfold tabF; rfl) | (simp_all; done), rfl⟩)
def goodB (l : List (Int × Int)) : Bool := tableB l && !(l.any fun x => (IntKind.i64.wrap (x.1 - x.2)).tmod 86400 != 0)
theorem any_takeP {α : Type} {l : List α} {k : Nat} {x : α} (p : α → Bool) (h : l[k]? = some x) : (l.take (k + 1)).any p = ((l.take k).any p || p x) := by rw [List.take_add_one, h]; simp
theorem any_getP {α : Type} {l : List α} {k : Nat} {x : α} {p : α → Bool} (h : l[k]? = some x) (hp : p x = true) : l.any p = true := List.any_eq_true.2 ⟨x, List.mem_of_getElem? h, hp⟩
theorem l_day (x y : Int) : Spec prog 93 [.agg #[.int .i64 x, .int .i64 y]] [] [] (fun v Ln => v = .bool ((IntKind.i64.wrap (x - y)).tmod 86400 != 0) ∧ Ln = []) := by
 refine Spec.en func93 ntmps93 fun w0 => ?_
 refine G.sr fun _ K1 => ?_
 refine G.mk 1 .bx fun g1 => ?_
 refine G.M 2 ?_
 refine G.nk K1 ?_
 refine G.sr fun _ K2 => ?_
 refine G.V 3 (.fa f174_0 0) ?_
 refine G.V 4 (.ld t3 0) ?_
 refine G.V 5 (.fa f174_1 1) ?_
 refine G.V 6 (.ld t3 0) ?_
 refine G.V 7 .bin ?_
 refine G.V 8 (.rem (a := IntKind.i64.wrap (x - y)) (b := 86400) (r := (IntKind.i64.wrap (x - y)).tmod 86400) (by decide) rfl) ?_
 refine G.V 9 .bin ?_
 refine G.M 2 ?_
 refine G.nk K2 ?_
 exact G.ret (G.F [] (.one Tryz.results93) ⟨rfl, rfl⟩)
theorem l_IndexFunc (a : Option Addr) (n c : Nat) (l : List (Int × Int)) (hl : l.length = n) (hn : n ≤ 1000) : Spec prog 95 [.slice a n c, .func (.func 93) #[] #[]] [] [view a c 174 2 n (spl l)] (fun v Ln => ∃ i : Int, v = .int .i64 i ∧ decide (i ≥ 0) = l.any (fun x : Int × Int => (IntKind.i64.wrap (x.1 - x.2)).tmod 86400 != 0) ∧ Ln = []) := by
 refine Spec.en func95 ntmps95 fun w0 => ?_
 refine G.sr fun _ K1 => ?_
 refine G.M 4 ?_
 refine G.nk K1 ?_
 refine G.Z fun _ K2 => ?_
 refine G.sr fun _ K3 => ?_
 refine G.M 6 ?_
 refine G.V 7 (.lenl s58) ?_
 refine G.M 8 ?_
 refine G.nk K3 ?_
 refine G.block ?_
 refine G.lpR (ι := {k : Nat // k ≤ n ∧ (l.take k).any (fun x : Int × Int => (IntKind.i64.wrap (x.1 - x.2)).tmod 86400 != 0) = false}) (fun ⟨k, hj, ha⟩ => n - k) (fun ⟨k, hj, ha⟩ => [(0, .slice a n c), (1, .func (.func 93) #[] #[]), (6, .slice a n c), (7, .int .i64 (n : Int)), (8, .int .i64 (k : Int))]) (fun ⟨k, hj, ha⟩ => []) ?_ ?_
 exact G.at ⟨0, Nat.zero_le _, rfl⟩ (ts := [0, 1, 6, 7, 8]) rfl rfl rfl rfl
 rintro ⟨k, hj, ha⟩ _ K4
 try dsimp only at K4 ⊢
 refine G.sr fun _ K5 => ?_
 refine G.V 9 .bin ?_
 refine G.nk K5 ?_
 refine G.Z fun _ K6 => ?_
 refine G.cond rfl (fun hc9 => ?_) (fun hc9 => ?_)
 have hk : k < n := by have := of_decide_eq_true hc9; omega
 obtain ⟨x, hx⟩ : ∃ x, l[k]? = some x := ⟨_, List.getElem?_eq_getElem (by omega)⟩
 refine G.sk K6 ?_
 refine G.Z fun _ K7 => ?_
 refine G.block ?_
 refine G.sr fun _ K8 => ?_
 refine G.M2 10 5 ?_
 refine G.nk K8 ?_
 refine G.Z fun _ K9 => ?_
 refine G.vbase 0 (show 0 < n by omega) fun b10 ob10 hb_ => ?_
 subst hb_
 refine G.region ?_
 refine G.M3 11 12 13 ?_
 refine G.V 14 (.is s58 k hk) ?_
 refine G.V 15 (.ldao t174 0 (hv := spl_at hx)) ?_
 refine G.callv 16 [] []  e93 (l_day x.1 x.2) ?_
 rintro _ _ ⟨rfl, rfl⟩
 refine G.nk K9 ?_
 refine G.cond rfl (fun hc16 => ?_) (fun hc16 => ?_)
 refine G.sr fun _ K11 => ?_
 refine G.M2 17 4 ?_
 refine G.nk K11 ?_
 exact G.ret (G.F [] (.one Tryz.results95) ⟨_, rfl, by first | (rw [any_getP hx (by simpa using hc16)]; simp) | (rw [show l.take n = l from by rw [← hl]; exact List.take_length] at ha; rw [ha]; rfl), rfl⟩)
 refine G.sk K7 ?_
 refine G.region ?_
 refine G.V 18 .bw ?_
 refine G.M 8 ?_
 refine G.nk K4 ?_
 exact G.less ⟨k + 1, hk, by rw [any_takeP _ hx, ha]; simpa using hc16⟩ (ts := [0, 1, 6, 7, 8]) (by dsimp only; omega) rfl rfl rfl rfl
 have hkn : n = k := by have := of_decide_eq_false hc9; omega
 subst hkn
 refine G.exit ?_
 refine K2 _ _ _ ?_
 refine G.sr fun _ K12 => ?_
 refine G.M 4 ?_
 refine G.nk K12 ?_
 exact G.ret (G.F [] (.one Tryz.results95) ⟨_, rfl, by first | (rw [any_getP hx (by simpa using hc16)]; simp) | (rw [show l.take n = l from by rw [← hl]; exact List.take_length] at ha; rw [ha]; rfl), rfl⟩)
theorem l_ContainsFunc (a : Option Addr) (n c : Nat) (l : List (Int × Int)) (hl : l.length = n) (hn : n ≤ 1000) : Spec prog 92 [.slice a n c, .func (.func 93) #[] #[]] [] [view a c 174 2 n (spl l)] (fun v Ln => v = .bool (l.any (fun x : Int × Int => (IntKind.i64.wrap (x.1 - x.2)).tmod 86400 != 0)) ∧ Ln = []) := by
 refine Spec.en func92 ntmps92 fun w0 => ?_
 refine G.sr fun _ K1 => ?_
 refine G.M 4 ?_
 refine G.nk K1 ?_
 refine G.sr fun _ K2 => ?_
 refine G.M2 5 6 ?_
 refine G.C 7 [] [0]  e95 (l_IndexFunc a n c l hl hn) ?_
 rintro _ _ ⟨i, rfl, hi, rfl⟩
 refine G.V 8 .bin ?_
 refine G.M 4 ?_
 refine G.nk K2 ?_
 exact G.ret (G.F [] (.one Tryz.results92) ⟨by rw [hi], rfl⟩)
theorem l_Good (a : Option Addr) (n c : Nat) (l : List (Int × Int)) (hl : l.length = n) (hn : n ≤ 1000) : Spec prog 85 [.slice a n c] [] [view a c 174 2 n (spl l)] (fun v Ln => v = .bool (goodB l) ∧ Ln = []) := by
 refine Spec.en func85 ntmps85 fun w0 => ?_
 refine G.sr fun _ K1 => ?_
 refine G.M 2 ?_
 refine G.nk K1 ?_
 refine G.sr fun _ K2 => ?_
 refine G.M 3 ?_
 refine G.cp 4 [] [0]  e90 (w_Table a n c l hl hn) ?_
 refine G.M 5 ?_
 cases hg3 : (tableB l : Bool)
 refine G.O3 6 7 8 ?_
 refine G.V 9 .pick ?_
 refine G.M 2 ?_
 refine G.nk K2 ?_
 exact G.ret (G.F [] (.one Tryz.results85) ⟨by unfold goodB; simp [*], rfl⟩)
 refine G.M 6 ?_
 refine G.cp 7 [] [0]  e92 (l_ContainsFunc a n c l hl hn) ?_
 refine G.V 8 .not ?_
 refine G.V 9 .pick ?_
 refine G.M 2 ?_
 refine G.nk K2 ?_
 exact G.ret (G.F [] (.one Tryz.results85) ⟨by unfold goodB; simp [*], rfl⟩)
theorem e83 : Is prog 83 := ⟨_, func83, by kernel_rfl, rfl⟩
theorem e84 : Is prog 84 := ⟨_, func84, by kernel_rfl, rfl⟩
theorem e85 : Is prog 85 := ⟨_, func85, by kernel_rfl, rfl⟩
theorem f70_0 : tfield prog 70 0 = some 0 := by kernel_rfl
theorem f70_1 : tfield prog 70 1 = some 2 := by kernel_rfl
theorem f70_6 : tfield prog 70 6 = some 7 := by kernel_rfl
theorem f70_7 : tfield prog 70 7 = some 8 := by kernel_rfl
theorem f70_8 : tfield prog 70 8 = some 10 := by kernel_rfl
theorem t58 : tsz prog 58 = some (false, 1) := by kernel_rfl
theorem t70 : tsz prog 70 = some (true, 11) := by kernel_rfl
theorem z70 : tzero prog 70 = some [.int .i64 0, .int .i64 0, .int .i64 0, .bool false, .int .i64 0, .int .i64 0, .bool false, .slice none 0 0, .int .i64 0, .int .i64 0, .int .i64 0] := by kernel_rfl
def SaneS (lo hi : Int) (g : Bool) (lo' hi' : Int) (g' : Bool) : Prop := (clp lo ≤ clp hi ∧ lo' = clp lo ∧ hi' = clp hi ∧ g' = g) ∨ (clp hi < clp lo ∧ lo' = -2305843009213693952 ∧ hi' = 2305843009213693952 ∧ g' = false)
theorem h_Sane (p : Par) (s : Sta) (l : List (Int × Int)) (hl : l.length = s.tl) (hn : s.tl ≤ 1000) : Spec prog 66 [.agg #[.int .i64 p.n, .int .i64 p.f, .int .i64 p.d, .int .i64 p.beat, .int .i64 p.rho, .int .i64 p.delay, .int .i64 p.jitter, .int .i64 p.eps, .int .i64 p.mu, .int .i64 p.hold, .int .i64 p.pulse, .int .i64 p.second], .agg #[.int .i64 s.lo, .int .i64 s.hi, .int .i64 s.time, .bool s.set, .int .i64 s.held, .int .i64 s.hops, .bool s.good, .slice s.ta s.tl s.tc, .int .i64 s.st, .int .i64 s.sn, .int .i64 s.life]] [] [view s.ta s.tc 174 2 s.tl (spl l)] (fun v Ln => ∃ lo hi g a2 n2 c2 l2 t m, v = .agg #[.int .i64 lo, .int .i64 hi, .int .i64 (clp s.time), .bool s.set, .int .i64 (bnd s.held 0 1073741824), .int .i64 (bnd s.hops 0 (addL [p.d, 1])), .bool g, .slice a2 n2 c2, .int .i64 t, .int .i64 m, .int .i64 (bnd s.life 0 2305843009213693952)] ∧ SaneS s.lo s.hi s.good lo hi g ∧ l2.length = n2 ∧ goodB l2 = true ∧ RightS t m ∧ Ln = [row a2 c2 174 2 n2 (spl l2)]) := by
 refine Spec.en func66 ntmps66 fun w0 => ?_
 refine G.sr fun _ K1 => ?_
 refine G.mk 2 .bx fun g2 => ?_
 refine G.mk 3 .bx fun g3 => ?_
 refine G.mk 4 (.al z70) fun g4 => ?_
 refine G.nk K1 ?_
 refine G.sr fun _ K2 => ?_
 refine G.V 5 (.fa f70_0 0) ?_
 refine G.V 6 (.fa f49_0 0) ?_
 refine G.V 7 (.ld t3 1) ?_
 refine G.V 8 (.fa f70_0 0) ?_
 refine G.V 9 (.fa f49_1 1) ?_
 refine G.V 10 (.ld t3 1) ?_
 refine G.cp 11 [] []  e81 (sp_Of s.lo s.hi) ?_
 refine G.V 12 (.fa f70_0 0) ?_
 refine G.sn 1 (.st t49 1) rfl ?_
 refine G.nk K2 ?_
 refine G.meet (ι := {q : Int × Int × Bool // SaneS s.lo s.hi s.good q.1 q.2.1 q.2.2}) (fun ⟨⟨lo, hi, g⟩, hsp⟩ => [(2, .pointer (some ⟨g2, 0, none⟩)), (3, .pointer (some ⟨g3, 0, none⟩)), (4, .pointer (some ⟨g4, 0, none⟩))]) (fun ⟨⟨lo, hi, g⟩, hsp⟩ => [blk g3 [.int .i64 lo, .int .i64 hi, .int .i64 s.time, .bool s.set, .int .i64 s.held, .int .i64 s.hops, .bool g, .slice s.ta s.tl s.tc, .int .i64 s.st, .int .i64 s.sn, .int .i64 s.life] 70, blk g2 (pC p []) 23, blk g4 [.int .i64 0, .int .i64 0, .int .i64 0, .bool false, .int .i64 0, .int .i64 0, .bool false, .slice none 0 0, .int .i64 0, .int .i64 0, .int .i64 0] 70]) (fun ⟨⟨lo, hi, g⟩, hsp⟩ => [view s.ta s.tc 174 2 s.tl (spl l)]) (fun _ K4 => ?_) ?_
 refine G.sr fun _ K5 => ?_
 refine G.V 13 (.fa f70_0 0) ?_
 refine G.V 14 (.lda t49 1) ?_
 refine G.cp 15 [] []  e82 (sp_Empty (clp s.lo) (clp s.hi)) ?_
 refine G.nk K5 ?_
 refine G.cond rfl (fun hc15 => ?_) (fun hc15 => ?_)
 refine G.region ?_
 refine G.cp 16 [] []  e83 sp_All ?_
 refine G.V 17 (.fa f70_0 0) ?_
 refine G.sn 1 (.st t49 1) rfl ?_
 refine G.V 18 (.fa f70_5 6) ?_
 refine G.sn 1 (.st t4 1) rfl ?_
 refine G.nil ?_
 refine G.only [1, 1, 0] ?_
 refine K4 _ _ _ ?_
 exact G.as ⟨((-2305843009213693952), 2305843009213693952, false), by first | exact .inl ⟨by simp_all, rfl, rfl, rfl⟩ | exact .inr ⟨by simp_all, rfl, rfl, rfl⟩⟩
 refine G.skip ?_
 refine G.only [1, 1, 0] ?_
 refine K4 _ _ _ ?_
 exact G.as ⟨((clp s.lo), (clp s.hi), s.good), by first | exact .inl ⟨by simp_all, rfl, rfl, rfl⟩ | exact .inr ⟨by simp_all, rfl, rfl, rfl⟩⟩
 rintro ⟨⟨lo, hi, g⟩, hsp⟩
 try dsimp only
 dsimp only at hsp
 refine G.Z fun _ K6 => ?_
 refine G.draw 19 [0, 1] [] [14, 16, 18] ?_
 refine D.V 0 19 1 (.fa f70_1 2) ?_
 refine D.V 3 22 9 (.fa f70_3 4) ?_
 refine D.V 6 25 73 (.fa f70_4 5) ?_
 refine D.V 8 27 329 (.fa f23_2 2) ?_
 refine D.T 1 20 331 (.ld t3 0) [0, 1] [] ?_
 refine D.T 4 23 347 (.ld t3 0) [0, 1] [] ?_
 refine D.T 7 26 475 (.ld t3 0) [0, 1] [] ?_
 refine D.T 9 28 987 (.ld t3 1) [0, 1] [] ?_
 refine D.join (ι := Nat) (fun g29 => [(3, .pointer (some ⟨g3, 0, none⟩)), (4, .pointer (some ⟨g4, 0, none⟩)), (21, .int .i64 (clp s.time)), (24, .int .i64 (bnd s.held 0 1073741824)), (26, .int .i64 s.hops), (29, .slice (some ⟨g29, 0, none⟩) 2 2), (32, .pointer (some ⟨g3, 2, none⟩))]) (fun g29 => [blk g29 [.int .i64 p.d, .int .i64 1] 3, blk g3 [.int .i64 lo, .int .i64 hi, .int .i64 s.time, .bool s.set, .int .i64 s.held, .int .i64 s.hops, .bool g, .slice s.ta s.tl s.tc, .int .i64 s.st, .int .i64 s.sn, .int .i64 s.life] 70, blk g2 (pC p []) 23, blk g4 [.int .i64 0, .int .i64 0, .int .i64 0, .bool false, .int .i64 0, .int .i64 0, .bool false, .slice none 0 0, .int .i64 0, .int .i64 0, .int .i64 0] 70]) (fun g29 => [view s.ta s.tc 174 2 s.tl (spl l)]) 7 10239 (fun hJ7 => ?_) ?_
 refine D.two 2 10 991 2011 ?_ ?_
 refine E.call 2 21 [] [] [0, 1] []  e48 (s_Clip s.time) ?_
 rintro _ _ ⟨rfl, rfl⟩
 refine D.V 13 32 9183 (.fa f70_1 2) ?_
 refine D.two 5 10 9215 10207 ?_ ?_
 refine E.call 5 24 [] [] [0, 1] []  e62 (s_Bound s.held 0 1073741824) ?_
 rintro _ _ ⟨rfl, rfl⟩
 refine D.ev 10 10239 ?_
 refine E.row 10 29 (.sl s24 z3 [.int .i64 p.d, .int .i64 1]) [0, 1] []  fun g29 => ?_
 refine hJ7 _ _ _ ?_
 exact G.at g29 (ts := [3, 4, 21, 24, 26, 29, 32]) rfl rfl rfl rfl
 refine E.row 10 29 (.sl s24 z3 [.int .i64 p.d, .int .i64 1]) [0, 1] []  fun g29 => ?_
 refine D.C 5 24 10239 [] [] [1, 2] []  e62 (s_Bound s.held 0 1073741824) ?_
 rintro _ _ ⟨rfl, rfl⟩
 refine hJ7 _ _ _ ?_
 exact G.at g29 (ts := [3, 4, 21, 24, 26, 29, 32]) rfl rfl rfl rfl
 refine E.row 10 29 (.sl s24 z3 [.int .i64 p.d, .int .i64 1]) [0, 1] []  fun g29 => ?_
 refine D.C 2 21 2015 [] [] [1, 2] []  e48 (s_Clip s.time) ?_
 rintro _ _ ⟨rfl, rfl⟩
 refine D.V 13 32 10207 (.fa f70_1 2) ?_
 refine D.C 5 24 10239 [] [] [1, 2] []  e62 (s_Bound s.held 0 1073741824) ?_
 rintro _ _ ⟨rfl, rfl⟩
 refine hJ7 _ _ _ ?_
 exact G.at g29 (ts := [3, 4, 21, 24, 26, 29, 32]) rfl rfl rfl rfl
 rintro g29
 try dsimp only
 refine D.C 11 30 12287 [] [1] [1, 2] []  e29 (s_Add' g29 2 [p.d, 1] rfl (by decide)) ?_
 rintro _ _ ⟨rfl, rfl⟩
 refine D.C 12 31 16383 [] [] [1, 2] []  e62 (s_Bound s.hops 0 (addL [p.d, 1])) ?_
 rintro _ _ ⟨rfl, rfl⟩
 refine D.last 14 32767 1 (.st t3 1) rfl ?_
 dsimp only [List.set, sets, Value.cells, List.zipIdx, List.foldl]
 refine D.V 15 33 65535 (.fa f70_3 4) ?_
 refine D.last 16 131071 1 (.st t3 1) rfl ?_
 dsimp only [List.set, sets, Value.cells, List.zipIdx, List.foldl]
 refine D.V 17 34 262143 (.fa f70_4 5) ?_
 refine D.last 18 524287 1 (.st t3 1) rfl ?_
 dsimp only [List.set, sets, Value.cells, List.zipIdx, List.foldl]
 refine D.done ?_
 refine K6 _ _ _ ?_
 refine G.sr fun _ K8 => ?_
 refine G.V 35 (.fa f70_8 10) ?_
 refine G.V 36 (.ld t3 1) ?_
 refine G.cp 37 [] []  e62 (s_Bound s.life 0 2305843009213693952) ?_
 refine G.V 38 (.fa f70_8 10) ?_
 refine G.sn 1 (.st t3 1) rfl ?_
 refine G.nk K8 ?_
 refine G.sr fun _ K9 => ?_
 refine G.V 39 (.fa f70_6 7) ?_
 refine G.V 40 (.ld t58 1) ?_
 refine G.C 41 [] [0]  e84 (l_Clone s.ta s.tl s.tc l hl hn) ?_
 rintro _ _ ⟨a1, c1, rfl, rfl⟩
 refine G.V 42 (.fa f70_6 7) ?_
 refine G.sn 2 (.st t58 2) rfl ?_
 refine G.nk K9 ?_
 refine G.meet (ι := {q : Option Addr × Nat × Nat × List (Int × Int) // q.2.2.2.length = q.2.2.1 ∧ goodB q.2.2.2 = true}) (fun ⟨⟨a2, c2, n2, l2⟩, hl2, hg2⟩ => [(3, .pointer (some ⟨g3, 0, none⟩)), (4, .pointer (some ⟨g4, 0, none⟩))]) (fun ⟨⟨a2, c2, n2, l2⟩, hl2, hg2⟩ => [blk g3 [.int .i64 lo, .int .i64 hi, .int .i64 (clp s.time), .bool s.set, .int .i64 (bnd s.held 0 1073741824), .int .i64 (bnd s.hops 0 (addL [p.d, 1])), .bool g, .slice a2 n2 c2, .int .i64 s.st, .int .i64 s.sn, .int .i64 (bnd s.life 0 2305843009213693952)] 70, row a2 c2 174 2 n2 (spl l2), blk g4 [.int .i64 0, .int .i64 0, .int .i64 0, .bool false, .int .i64 0, .int .i64 0, .bool false, .slice none 0 0, .int .i64 0, .int .i64 0, .int .i64 0] 70]) (fun ⟨⟨a2, c2, n2, l2⟩, hl2, hg2⟩ => [view s.ta s.tc 174 2 s.tl (spl l)]) (fun _ K11 => ?_) ?_
 refine G.sr fun _ K12 => ?_
 refine G.V 43 (.fa f70_6 7) ?_
 refine G.V 44 (.ld t58 2) ?_
 refine G.cp 45 [] [1]  e85 ((l_Good a1 s.tl c1 l hl hn).vw) ?_
 refine G.V 46 .not ?_
 refine G.nk K12 ?_
 cases hg13 : (goodB l : Bool)
 refine G.yes rfl ?_
 refine G.region ?_
 refine G.V 47 (.fa f70_6 7) ?_
 refine G.sn 2 (.st t58 2) rfl ?_
 refine G.nil ?_
 skip
 refine G.dropAt 0 ?_
 try dsimp only [List.eraseIdx]
 refine G.newRow 174 2 ?_
 refine G.only [2, 0, 2] ?_
 refine K11 _ _ _ ?_
 exact G.as ⟨(none, 0, 0, []), rfl, rfl⟩
 refine G.no rfl ?_
 refine G.skip ?_
 refine G.only [2, 0, 2] ?_
 refine K11 _ _ _ ?_
 exact G.as ⟨(a1, c1, s.tl, l), hl, by simp_all⟩
 rintro ⟨⟨a2, c2, n2, l2⟩, hl2, hg2⟩
 try dsimp only
 dsimp only at hl2 hg2
 refine G.Z fun _ K14 => ?_
 refine G.sr fun _ K15 => ?_
 refine G.V 48 (.fa f70_7 8) ?_
 refine G.V 49 (.lda t68 0) ?_
 refine G.cp 50 [] []  e86 (t_Right s.st s.sn) ?_
 refine G.V 51 .not ?_
 refine G.nk K15 ?_
 cases hg16 : (rightB s.st s.sn : Bool)
 refine G.yes rfl ?_
 refine G.region ?_
 refine G.V 52 (.fa f70_1 2) ?_
 refine G.V 53 (.ld t3 0) ?_
 refine G.V 54 (.build z68 p68 (cs := #[.int .i64 (clp s.time), .int .i64 0])) ?_
 refine G.V 55 (.fa f70_7 8) ?_
 refine G.sn 0 (.st t68 0) rfl ?_
 refine G.nk K14 ?_
 refine G.sr fun _ K17 => ?_
 refine G.V 56 (.lda t70 0) ?_
 refine G.sn 2 (.st t70 2) rfl ?_
 refine G.nk K17 ?_
 exact G.ret (G.F [1] (.cell Tryz.results66 t70 2) ⟨_, _, _, _, _, _, _, _, _, rfl, hsp, hl2, hg2, by first | exact ⟨clp_b _, by decide⟩ | exact rightB_t (by simp_all), rfl⟩)
 refine G.no rfl ?_
 refine G.sk K14 ?_
 refine G.sr fun _ K18 => ?_
 refine G.V 56 (.lda t70 0) ?_
 refine G.sn 2 (.st t70 2) rfl ?_
 refine G.nk K18 ?_
 exact G.ret (G.F [1] (.cell Tryz.results66 t70 2) ⟨_, _, _, _, _, _, _, _, _, rfl, hsp, hl2, hg2, by first | exact ⟨clp_b _, by decide⟩ | exact rightB_t (by simp_all), rfl⟩)
def tpart (P : Program) (t : TypeId) (f : Nat) : Option (TypeId × Nat) := match P.underlying t with
 | some (.struct fs) => (fs[f]?).map fun x => (x.type, x.offset)
 | _ => none
theorem Evl.fld {P : Program} {m : Sl} {L R : List Ent} {o : Oper} {T U : TypeId} {f off n : Nat} (hT : tpart P T f = some (U, off)) (hU : tsz P U = some (true, n)) {x : Operand} {cs : Array Value} (hop : o.op = .field T x f := by rfl) (hx : ev m x = some (.agg cs) := by rfl) {vs : Array Value} (hv : cs.extract off (off + n) = vs := by rfl) : Evl P m L R o (.agg vs) := fun a w hs _ => by
 have he := hs.ev hx
 generalize a.eval = ρ at he
 subst hv
 unfold tpart at hT
 split at hT
 ·next fs hu =>
  obtain ⟨x', hx', hq⟩ := Option.map_eq_some_iff.1 hT
  simp only [Prod.mk.injEq] at hq
  obtain ⟨rfl, rfl⟩ := hq
  have h1 : (part x'.type cs x'.offset).run P w = .ok (.agg (cs.extract x'.offset (x'.offset + n))) w := by
   unfold part
   rw [run_bind_ok (run_isAgg hU w), if_pos rfl, run_bind_ok (run_sizeOf hU w)]
   rfl
  have h2 : (Instr.field T (.agg cs) f).run P w = .ok (.agg (cs.extract x'.offset (x'.offset + n))) w := by
   unfold Instr.field
   rw [run_bind_ok (show (underlying T).run P w = .ok (.struct fs) w by simp [underlying, hu, go_sem])]
   simp only [hx']
   exact h1
  unfold execOp
  simp only [hop, he]
  rw [run_bind_ok h2]
  rfl
 ·cases hT
theorem Evl.nonil {P : Program} {m : Sl} {L R : List Ent} {o : Oper} {T U : TypeId} (hT : tptr P T = true) {x y : Operand} {p : Option Addr} (hop : o.op = .binOp .neq T x y U := by rfl) (hx : ev m x = some (.pointer p) := by rfl) (hy : ev m y = some (.pointer none) := by rfl) : Evl P m L R o (.bool p.isSome) := fun a w hs _ => by
 have he := hs.ev hx
 have hf := hs.ev hy
 generalize a.eval = ρ at he hf
 unfold tptr at hT
 split at hT
 ·next e hu =>
  have hun : (underlying T).run P w = .ok (.pointer e) w := by simp [underlying, hu, go_sem]
  have h1 : (Op.equal T (.pointer p) (.pointer none)).run P w = .ok p.isNone w := by
   show (Op.equalIn (9999 + 1) T (.pointer p) (.pointer none)).run P w = _
   unfold Op.equalIn
   rw [run_bind_ok hun]
   cases p <;> rfl
  have h2 : (binOp .neq T (.pointer p) (.pointer none)).run P w = .ok (.bool p.isSome) w := by
   show ((Op.equal T (.pointer p) (.pointer none)) >>= fun b => (pure (.bool !b) : Sem Value)).run P w = _
   rw [run_bind_ok h1]; cases p <;> rfl
  have h0 : (eqGuard .neq T x y (.pointer p) (.pointer none)).run P w = .ok () w := by cases p <;> rfl
  have h3 : ((eqGuard .neq T x y (.pointer p) (.pointer none) >>= fun _ => binOp .neq T (.pointer p) (.pointer none)) : Sem Value).run P w = .ok (.bool p.isSome) w := by
   rw [run_bind_ok h0]; exact h2
  unfold execOp
  simp only [hop, he, hf]
  change ((eqGuard .neq T x y (.pointer p) (.pointer none) >>= fun _ => binOp .neq T (.pointer p) (.pointer none)) >>= fun u => (pure (.value u) : Sem Next)).run P w = _
  rw [run_bind_ok h3]
  rfl
 ·cases hT
theorem e19 : Is prog 19 := ⟨_, func19, by kernel_rfl, rfl⟩
theorem e26 : Is prog 26 := ⟨_, func26, by kernel_rfl, rfl⟩
theorem e31 : Is prog 31 := ⟨_, func31, by kernel_rfl, rfl⟩
theorem e129 : Is prog 129 := ⟨_, func129, by kernel_rfl, rfl⟩
theorem e142 : Is prog 142 := ⟨_, func142, by kernel_rfl, rfl⟩
theorem f84_0 : tfield prog 84 0 = some 0 := by kernel_rfl
theorem f84_1 : tfield prog 84 1 = some 12 := by kernel_rfl
theorem q41 : tptr prog 41 = true := by kernel_rfl
def mostV (p : Par) (s : Sta) : Int := addL [s.hi, farV p s.held]
theorem f_most (g : Nat) (p : Par) (s : Sta) (rs : List Value) (T : TypeId) : Spec prog 132 [.pointer (some ⟨g, 0, none⟩)] [] [blk g ((.int .i64 p.n) :: (.int .i64 p.f) :: (.int .i64 p.d) :: (.int .i64 p.beat) :: (.int .i64 p.rho) :: (.int .i64 p.delay) :: (.int .i64 p.jitter) :: (.int .i64 p.eps) :: (.int .i64 p.mu) :: (.int .i64 p.hold) :: (.int .i64 p.pulse) :: (.int .i64 p.second) :: (.int .i64 s.lo) :: (.int .i64 s.hi) :: (.int .i64 s.time) :: (.bool s.set) :: (.int .i64 s.held) :: (.int .i64 s.hops) :: (.bool s.good) :: (.slice s.ta s.tl s.tc) :: (.int .i64 s.st) :: (.int .i64 s.sn) :: (.int .i64 s.life) :: rs) T] (fun v Ln => v = .int .i64 (mostV p s) ∧ Ln = []) := by
 refine Spec.en func132 ntmps132 fun w0 => ?_
 refine G.sr fun _ K1 => ?_
 refine G.M 2 ?_
 refine G.nk K1 ?_
 refine G.Z fun _ K2 => ?_
 refine G.draw 19 [] [0] [] ?_
 refine D.V 0 3 1 .mv ?_
 refine D.V 1 4 3 .nc ?_
 refine D.V 2 5 7 (.fa f84_1 12) ?_
 refine D.V 3 6 15 (.fa f70_0 12) ?_
 refine D.V 4 7 31 (.fa f49_1 13) ?_
 refine D.V 6 9 95 .mv ?_
 refine D.V 7 10 223 .nc ?_
 refine D.V 8 11 479 (.fa f84_0 0) ?_
 refine D.V 10 13 1503 .mv ?_
 refine D.V 11 14 3551 .nc ?_
 refine D.V 12 15 7647 (.fa f84_1 12) ?_
 refine D.V 13 16 15839 (.fa f70_3 16) ?_
 refine D.T 5 8 15871 (.ld t3 0) [] [0] ?_
 refine D.T 9 12 16383 (.lda t23 0) [] [0] ?_
 refine D.T 14 17 32767 (.ld t3 0) [] [0] ?_
 refine D.C 15 18 65535 [] [] [] [0]  e129 (h_Far p s.held) ?_
 rintro _ _ ⟨rfl, rfl⟩
 refine D.ev 16 131071 ?_
 refine E.row 16 19 (.sl s24 z3 [.int .i64 s.hi, .int .i64 (farV p s.held)]) [] [0]  fun g19 => ?_
 refine D.C 17 20 262143 [] [1] [] [0]  e29 (s_Add' g19 2 [s.hi, (farV p s.held)] rfl (by decide)) ?_
 rintro _ _ ⟨rfl, rfl⟩
 refine D.V 18 2 524287 .mv ?_
 refine D.done ?_
 refine K2 _ _ _ ?_
 exact G.ret (G.F [] (.one Tryz.results132) ⟨rfl, rfl⟩)
theorem f_Health (g : Nat) (p : Par) (s : Sta) (rs : List Value) (T : TypeId) : Spec prog 19 [.pointer (some ⟨g, 0, none⟩)] [] [blk g ((.int .i64 p.n) :: (.int .i64 p.f) :: (.int .i64 p.d) :: (.int .i64 p.beat) :: (.int .i64 p.rho) :: (.int .i64 p.delay) :: (.int .i64 p.jitter) :: (.int .i64 p.eps) :: (.int .i64 p.mu) :: (.int .i64 p.hold) :: (.int .i64 p.pulse) :: (.int .i64 p.second) :: (.int .i64 s.lo) :: (.int .i64 s.hi) :: (.int .i64 s.time) :: (.bool s.set) :: (.int .i64 s.held) :: (.int .i64 s.hops) :: (.bool s.good) :: (.slice s.ta s.tl s.tc) :: (.int .i64 s.st) :: (.int .i64 s.sn) :: (.int .i64 s.life) :: rs) T] (fun v Ln => v = .int .i64 (healthV p s) ∧ Ln = []) := by
 refine Spec.en func19 ntmps19 fun w0 => ?_
 refine G.sr fun _ K1 => ?_
 refine G.M 2 ?_
 refine G.nk K1 ?_
 refine G.Z fun _ K2 => ?_
 refine G.sr fun _ K3 => ?_
 refine G.M 3 ?_
 refine G.V 4 (.isnil q41) ?_
 refine G.nk K3 ?_
 refine G.no rfl ?_
 refine G.sk K2 ?_
 refine G.Z fun _ K4 => ?_
 refine G.draw 10 [] [0] [] ?_
 refine D.V 0 5 1 .mv ?_
 refine D.V 1 6 3 .nc ?_
 refine D.V 2 7 7 (.fa f84_0 0) ?_
 refine D.V 4 9 23 .mv ?_
 refine D.V 5 10 55 .nc ?_
 refine D.V 6 11 119 (.fa f84_1 12) ?_
 refine D.T 3 8 127 (.lda t23 0) [] [0] ?_
 refine D.T 7 12 255 (.lda t70 0) [] [0] ?_
 refine D.C 8 13 511 [] [] [] [0]  e31 (h_Of p s) ?_
 rintro _ _ ⟨rfl, rfl⟩
 refine D.V 9 2 1023 .mv ?_
 refine D.done ?_
 refine K4 _ _ _ ?_
 exact G.ret (G.F [] (.one Tryz.results19) ⟨rfl, rfl⟩)
def errV (p : Par) (s : Sta) : Int := if healthV p s = 0 then 20 else 0
theorem f_synced (g : Nat) (p : Par) (s : Sta) (rs : List Value) (T : TypeId) : Spec prog 26 [.pointer (some ⟨g, 0, none⟩)] [] [blk g ((.int .i64 p.n) :: (.int .i64 p.f) :: (.int .i64 p.d) :: (.int .i64 p.beat) :: (.int .i64 p.rho) :: (.int .i64 p.delay) :: (.int .i64 p.jitter) :: (.int .i64 p.eps) :: (.int .i64 p.mu) :: (.int .i64 p.hold) :: (.int .i64 p.pulse) :: (.int .i64 p.second) :: (.int .i64 s.lo) :: (.int .i64 s.hi) :: (.int .i64 s.time) :: (.bool s.set) :: (.int .i64 s.held) :: (.int .i64 s.hops) :: (.bool s.good) :: (.slice s.ta s.tl s.tc) :: (.int .i64 s.st) :: (.int .i64 s.sn) :: (.int .i64 s.life) :: rs) T] (fun v Ln => v = .int .i64 (errV p s) ∧ Ln = []) := by
 refine Spec.en func26 ntmps26 fun w0 => ?_
 refine G.sr fun _ K1 => ?_
 refine G.M 2 ?_
 refine G.nk K1 ?_
 refine G.Z fun _ K2 => ?_
 refine G.block ?_
 refine G.sr fun _ K3 => ?_
 refine G.M 4 ?_
 refine G.V 5 (.isnil q41) ?_
 refine G.M 3 ?_
 refine G.nk K3 ?_
 refine G.no rfl ?_
 refine G.sr fun _ K4 => ?_
 refine G.M 7 ?_
 refine G.cp 8 [] [0]  e19 (f_Health g p s rs T) ?_
 refine G.V 9 .bin ?_
 refine G.M 6 ?_
 refine G.nk K4 ?_
 refine G.cond rfl (fun hc6 => ?_) (fun hc6 => ?_)
 refine G.sr fun _ K5 => ?_
 refine G.M 2 ?_
 refine G.nk K5 ?_
 exact G.ret (G.F [] (.one Tryz.results26) ⟨by unfold errV; simp_all, rfl⟩)
 refine G.sk K2 ?_
 refine G.sr fun _ K6 => ?_
 refine G.M 2 ?_
 refine G.nk K6 ?_
 exact G.ret (G.F [] (.one Tryz.results26) ⟨by unfold errV; simp_all, rfl⟩)
theorem f_Now (g : Nat) (p : Par) (s : Sta) (rs : List Value) (T : TypeId) (hh : errV p s = 0) : Spec prog 13 [.pointer (some ⟨g, 0, none⟩)] [] [blk g ((.int .i64 p.n) :: (.int .i64 p.f) :: (.int .i64 p.d) :: (.int .i64 p.beat) :: (.int .i64 p.rho) :: (.int .i64 p.delay) :: (.int .i64 p.jitter) :: (.int .i64 p.eps) :: (.int .i64 p.mu) :: (.int .i64 p.hold) :: (.int .i64 p.pulse) :: (.int .i64 p.second) :: (.int .i64 s.lo) :: (.int .i64 s.hi) :: (.int .i64 s.time) :: (.bool s.set) :: (.int .i64 s.held) :: (.int .i64 s.hops) :: (.bool s.good) :: (.slice s.ta s.tl s.tc) :: (.int .i64 s.st) :: (.int .i64 s.sn) :: (.int .i64 s.life) :: rs) T] (fun v Ln => v = .tuple #[.int .i64 s.time, .int .i64 0] ∧ Ln = []) := by
 refine Spec.en func13 ntmps13 fun w0 => ?_
 refine G.sr fun _ K1 => ?_
 refine G.M2 2 3 ?_
 refine G.nk K1 ?_
 refine G.Z fun _ K2 => ?_
 refine G.sr fun _ K3 => ?_
 refine G.M 5 ?_
 refine G.cp 6 [] [0]  e26 (f_synced g p s rs T) ?_
 refine G.M 4 ?_
 refine G.nk K3 ?_
 refine G.sr fun _ K4 => ?_
 refine G.M 7 ?_
 refine G.V 8 (.cast .bin (nf hh)) ?_
 refine G.nk K4 ?_
 refine G.no rfl ?_
 refine G.sk K2 ?_
 refine G.sr fun _ K5 => ?_
 refine G.M 10 ?_
 refine G.V 11 .nc ?_
 refine G.V 12 (.fa f84_1 12) ?_
 refine G.V 13 (.fa f70_1 14) ?_
 refine G.V 14 (.ld t3 0) ?_
 refine G.M2 2 3 ?_
 refine G.nk K5 ?_
 exact G.ret (G.F [] (.two Tryz.results13) ⟨rfl, rfl⟩)
theorem f_Pulse (g : Nat) (p : Par) (s : Sta) (rs : List Value) (T : TypeId) : Spec prog 134 [.pointer (some ⟨g, 0, none⟩)] [] [blk g ((.int .i64 p.n) :: (.int .i64 p.f) :: (.int .i64 p.d) :: (.int .i64 p.beat) :: (.int .i64 p.rho) :: (.int .i64 p.delay) :: (.int .i64 p.jitter) :: (.int .i64 p.eps) :: (.int .i64 p.mu) :: (.int .i64 p.hold) :: (.int .i64 p.pulse) :: (.int .i64 p.second) :: (.int .i64 s.lo) :: (.int .i64 s.hi) :: (.int .i64 s.time) :: (.bool s.set) :: (.int .i64 s.held) :: (.int .i64 s.hops) :: (.bool s.good) :: (.slice s.ta s.tl s.tc) :: (.int .i64 s.st) :: (.int .i64 s.sn) :: (.int .i64 s.life) :: rs) T] (fun v Ln => ∃ q e : Int, v = .tuple #[.int .i64 q, .int .i64 e] ∧ (-2305843009213693952 ≤ q ∧ q ≤ 2305843009213693952) ∧ Ln = []) := by
 refine Spec.en func134 ntmps134 fun w0 => ?_
 refine G.sr fun _ K1 => ?_
 refine G.M2 2 3 ?_
 refine G.nk K1 ?_
 refine G.Z fun _ K2 => ?_
 refine G.sr fun _ K3 => ?_
 refine G.M 5 ?_
 refine G.cp 6 [] [0]  e26 (f_synced g p s rs T) ?_
 refine G.M 4 ?_
 refine G.nk K3 ?_
 refine G.sr fun _ K4 => ?_
 refine G.M 7 ?_
 refine G.V 8 .bin ?_
 refine G.nk K4 ?_
 refine G.cond rfl (fun hc8 => ?_) (fun hc8 => ?_)
 refine G.sr fun _ K5 => ?_
 refine G.M3 9 2 3 ?_
 refine G.nk K5 ?_
 exact G.ret (G.F [] (.two Tryz.results134) ⟨_, _, rfl, by first | exact hq1 | decide, rfl⟩)
 refine G.sk K2 ?_
 refine G.Z fun _ K6 => ?_
 refine G.draw 12 [] [0] [] ?_
 refine D.V 0 10 1 .mv ?_
 refine D.V 1 11 3 .nc ?_
 refine D.V 2 12 7 (.fa f84_0 0) ?_
 refine D.V 4 14 23 .mv ?_
 refine D.V 5 15 55 .nc ?_
 refine D.V 6 16 119 (.fa f84_1 12) ?_
 refine D.V 7 17 247 (.fa f70_1 14) ?_
 refine D.T 3 13 255 (.lda t23 0) [] [0] ?_
 refine D.T 8 18 511 (.ld t3 0) [] [0] ?_
 refine D.C 9 19 1023 [] [] [] [0]  e142 (p_Number p s.time) ?_
 rintro _ _ ⟨q1, rfl, hq1, rfl⟩
 refine D.V 10 2 2047 .mv ?_
 refine D.V 11 3 4095 .mv ?_
 refine D.done ?_
 refine K6 _ _ _ ?_
 exact G.ret (G.F [] (.two Tryz.results134) ⟨_, _, rfl, by first | exact hq1 | decide, rfl⟩)
theorem e66 : Is prog 66 := ⟨_, func66, by kernel_rfl, rfl⟩
theorem e128 : Is prog 128 := ⟨_, func128, by kernel_rfl, rfl⟩
theorem e130 : Is prog 130 := ⟨_, func130, by kernel_rfl, rfl⟩
theorem e131 : Is prog 131 := ⟨_, func131, by kernel_rfl, rfl⟩
theorem e132 : Is prog 132 := ⟨_, func132, by kernel_rfl, rfl⟩
theorem e186 : Is prog 186 := ⟨_, func186, by kernel_rfl, rfl⟩
theorem u240_0 : tpart prog 240 0 = some (68, 0) := by kernel_rfl
theorem f_Stamp (g : Nat) (p : Par) (s : Sta) (rs : List Value) (T : TypeId) : Spec prog 135 [.pointer (some ⟨g, 0, none⟩)] [blk g ((.int .i64 p.n) :: (.int .i64 p.f) :: (.int .i64 p.d) :: (.int .i64 p.beat) :: (.int .i64 p.rho) :: (.int .i64 p.delay) :: (.int .i64 p.jitter) :: (.int .i64 p.eps) :: (.int .i64 p.mu) :: (.int .i64 p.hold) :: (.int .i64 p.pulse) :: (.int .i64 p.second) :: (.int .i64 s.lo) :: (.int .i64 s.hi) :: (.int .i64 s.time) :: (.bool s.set) :: (.int .i64 s.held) :: (.int .i64 s.hops) :: (.bool s.good) :: (.slice s.ta s.tl s.tc) :: (.int .i64 s.st) :: (.int .i64 s.sn) :: (.int .i64 s.life) :: rs) T] [] (fun v Ln => ∃ t n, v = .tuple #[.agg #[.int .i64 t, .int .i64 n], .int .i64 0] ∧ RightS t n ∧ Ln = [blk g ((.int .i64 p.n) :: (.int .i64 p.f) :: (.int .i64 p.d) :: (.int .i64 p.beat) :: (.int .i64 p.rho) :: (.int .i64 p.delay) :: (.int .i64 p.jitter) :: (.int .i64 p.eps) :: (.int .i64 p.mu) :: (.int .i64 p.hold) :: (.int .i64 p.pulse) :: (.int .i64 p.second) :: (.int .i64 s.lo) :: (.int .i64 s.hi) :: (.int .i64 s.time) :: (.bool s.set) :: (.int .i64 s.held) :: (.int .i64 s.hops) :: (.bool s.good) :: (.slice s.ta s.tl s.tc) :: (.int .i64 t) :: (.int .i64 n) :: (.int .i64 s.life) :: rs) T]) := by
 refine Spec.en func135 ntmps135 fun w0 => ?_
 refine G.sr fun _ K1 => ?_
 refine G.mk 2 (.al z68) fun g2 => ?_
 refine G.M 3 ?_
 refine G.nk K1 ?_
 refine G.Z fun _ K2 => ?_
 refine G.sr fun _ K3 => ?_
 refine G.M 4 ?_
 refine G.V 5 (.isnil q41) ?_
 refine G.nk K3 ?_
 refine G.no rfl ?_
 refine G.sk K2 ?_
 refine G.Z fun _ K4 => ?_
 refine G.draw 18 [1] [] [17] ?_
 refine D.V 0 7 1 .mv ?_
 refine D.V 1 8 3 .mv ?_
 refine D.V 2 9 7 .nc ?_
 refine D.V 3 10 15 (.fa f84_1 12) ?_
 refine D.V 4 11 31 (.fa f70_7 20) ?_
 refine D.V 7 14 159 .mv ?_
 refine D.V 8 15 415 .nc ?_
 refine D.V 9 16 927 (.fa f84_1 12) ?_
 refine D.V 10 17 1951 (.fa f70_1 14) ?_
 refine D.T 5 12 1983 (.lda t68 0) [1] [] ?_
 refine D.V 6 13 2047 (.build z240 p240 (cs := #[.int .i64 s.st, .int .i64 s.sn])) ?_
 refine D.T 11 18 4095 (.ld t3 0) [1] [] ?_
 refine D.C 12 19 8191 [] [] [1] []  e133 (t_Tick s.st s.sn s.time) ?_
 rintro _ _ ⟨t2, n2, rfl, hR2, rfl⟩
 refine D.V 13 20 16383 (.fld u240_0 t68) ?_
 refine D.V 14 21 32767 .nc ?_
 refine D.V 15 22 65535 (.fa f84_1 12) ?_
 refine D.V 16 23 131071 (.fa f70_7 20) ?_
 refine D.last 17 262143 1 (.st t68 1) rfl ?_
 dsimp only [List.set, sets, Value.cells, List.zipIdx, List.foldl]
 refine D.done ?_
 refine K4 _ _ _ ?_
 refine G.sr fun _ K5 => ?_
 refine G.M 24 ?_
 refine G.V 25 .nc ?_
 refine G.V 26 (.fa f84_1 12) ?_
 refine G.V 27 (.fa f70_7 20) ?_
 refine G.V 28 (.lda t68 1) ?_
 refine G.sn 0 (.st t68 0) rfl ?_
 refine G.M 3 ?_
 refine G.nk K5 ?_
 exact G.ret (G.F [1] (.cell1 Tryz.results135 t68 0) ⟨_, _, rfl, hR2, rfl⟩)
theorem f_Listen (g : Nat) (p : Par) (s : Sta) (rs : List Value) (T : TypeId) (u m : Int) : Spec prog 179 [.pointer (some ⟨g, 0, none⟩), .agg #[.int .i64 u, .int .i64 m]] [blk g ((.int .i64 p.n) :: (.int .i64 p.f) :: (.int .i64 p.d) :: (.int .i64 p.beat) :: (.int .i64 p.rho) :: (.int .i64 p.delay) :: (.int .i64 p.jitter) :: (.int .i64 p.eps) :: (.int .i64 p.mu) :: (.int .i64 p.hold) :: (.int .i64 p.pulse) :: (.int .i64 p.second) :: (.int .i64 s.lo) :: (.int .i64 s.hi) :: (.int .i64 s.time) :: (.bool s.set) :: (.int .i64 s.held) :: (.int .i64 s.hops) :: (.bool s.good) :: (.slice s.ta s.tl s.tc) :: (.int .i64 s.st) :: (.int .i64 s.sn) :: (.int .i64 s.life) :: rs) T] [] (fun v Ln => ∃ t n, v = .tuple #[] ∧ RightS t n ∧ Ln = [blk g ((.int .i64 p.n) :: (.int .i64 p.f) :: (.int .i64 p.d) :: (.int .i64 p.beat) :: (.int .i64 p.rho) :: (.int .i64 p.delay) :: (.int .i64 p.jitter) :: (.int .i64 p.eps) :: (.int .i64 p.mu) :: (.int .i64 p.hold) :: (.int .i64 p.pulse) :: (.int .i64 p.second) :: (.int .i64 s.lo) :: (.int .i64 s.hi) :: (.int .i64 s.time) :: (.bool s.set) :: (.int .i64 s.held) :: (.int .i64 s.hops) :: (.bool s.good) :: (.slice s.ta s.tl s.tc) :: (.int .i64 t) :: (.int .i64 n) :: (.int .i64 s.life) :: rs) T]) := by
 refine Spec.en func179 ntmps179 fun w0 => ?_
 refine G.sr fun _ K1 => ?_
 refine G.mk 3 .bx fun g3 => ?_
 refine G.nk K1 ?_
 refine G.sr fun _ K2 => ?_
 refine G.M 6 ?_
 refine G.V 7 (.nonil q41) ?_
 refine G.nk K2 ?_
 refine G.yes rfl ?_
 refine G.Z fun _ K3 => ?_
 refine G.draw 21 [0, 1] [] [] ?_
 refine D.V 0 9 1 .mv ?_
 refine D.V 1 10 3 .nc ?_
 refine D.V 2 11 7 (.fa f84_1 12) ?_
 refine D.V 3 12 15 (.fa f70_7 20) ?_
 refine D.V 6 15 79 .mv ?_
 refine D.V 7 16 207 .nc ?_
 refine D.V 8 17 463 (.fa f84_1 12) ?_
 refine D.V 9 18 975 (.fa f70_1 14) ?_
 refine D.V 12 21 5071 .mv ?_
 refine D.T 4 13 5087 (.lda t68 1) [0, 1] [] ?_
 refine D.V 5 14 5119 (.build z240 p240 (cs := #[.int .i64 s.st, .int .i64 s.sn])) ?_
 refine D.T 10 19 6143 (.ld t3 1) [0, 1] [] ?_
 refine D.T 11 20 8191 (.lda t68 0) [0, 1] [] ?_
 refine D.join (ι := {q : Nat × Int × Int × Bool // RightS q.2.1 q.2.2.1}) (fun ⟨⟨g4, t5, n5, b5⟩, hR5⟩ => [(0, .pointer (some ⟨g, 0, none⟩)), (1, .agg #[.int .i64 u, .int .i64 m]), (4, .pointer (some ⟨g4, 0, none⟩)), (6, .pointer (some ⟨g, 0, none⟩)), (7, .bool true), (24, .agg #[.int .i64 t5, .int .i64 n5]), (25, .bool b5)]) (fun ⟨⟨g4, t5, n5, b5⟩, hR5⟩ => [blk g4 [.int .i64 0, .int .i64 0] 240, blk g3 [.int .i64 u, .int .i64 m] 68, blk g ((.int .i64 p.n) :: (.int .i64 p.f) :: (.int .i64 p.d) :: (.int .i64 p.beat) :: (.int .i64 p.rho) :: (.int .i64 p.delay) :: (.int .i64 p.jitter) :: (.int .i64 p.eps) :: (.int .i64 p.mu) :: (.int .i64 p.hold) :: (.int .i64 p.pulse) :: (.int .i64 p.second) :: (.int .i64 s.lo) :: (.int .i64 s.hi) :: (.int .i64 s.time) :: (.bool s.set) :: (.int .i64 s.held) :: (.int .i64 s.hops) :: (.bool s.good) :: (.slice s.ta s.tl s.tc) :: (.int .i64 s.st) :: (.int .i64 s.sn) :: (.int .i64 s.life) :: rs) T]) (fun ⟨⟨g4, t5, n5, b5⟩, hR5⟩ => []) 2 524287 (fun hJ4 => ?_) ?_
 refine D.two 13 18 16383 270335 ?_ ?_
 refine E.call 13 22 [] [1] [0, 1] []  e132 (f_most g p s rs T) ?_
 rintro _ _ ⟨rfl, rfl⟩
 refine D.two 14 18 32767 278527 ?_ ?_
 refine E.call 14 23 [] [] [0, 1] []  e186 (t_Hear s.st s.sn s.time u m (mostV p s)) ?_
 rintro _ _ ⟨t5, n5, b5, rfl, hR5, rfl⟩
 refine D.V 15 8 65535 .mv ?_
 refine D.V 16 24 131071 .ext ?_
 refine D.V 17 25 262143 .ext ?_
 refine D.mk 18 4 524287 (.al z240) [0, 1] []  fun g4 => ?_
 refine hJ4 _ _ _ ?_
 exact G.at ⟨(g4, t5, n5, b5), hR5⟩ (ts := [0, 1, 4, 6, 7, 24, 25]) rfl rfl rfl rfl
 refine E.mk 18 4 (.al z240) [0, 1] []  fun g4 => ?_
 refine D.C 14 23 294911 [] [] [1, 2] []  e186 (t_Hear s.st s.sn s.time u m (mostV p s)) ?_
 rintro _ _ ⟨t5, n5, b5, rfl, hR5, rfl⟩
 refine D.V 15 8 327679 .mv ?_
 refine D.V 16 24 393215 .ext ?_
 refine D.V 17 25 524287 .ext ?_
 refine hJ4 _ _ _ ?_
 exact G.at ⟨(g4, t5, n5, b5), hR5⟩ (ts := [0, 1, 4, 6, 7, 24, 25]) rfl rfl rfl rfl
 refine E.mk 18 4 (.al z240) [0, 1] []  fun g4 => ?_
 refine D.C 13 22 278527 [] [2] [1, 2] []  e132 (f_most g p s rs T) ?_
 rintro _ _ ⟨rfl, rfl⟩
 refine D.C 14 23 294911 [] [] [1, 2] []  e186 (t_Hear s.st s.sn s.time u m (mostV p s)) ?_
 rintro _ _ ⟨t5, n5, b5, rfl, hR5, rfl⟩
 refine D.V 15 8 327679 .mv ?_
 refine D.V 16 24 393215 .ext ?_
 refine D.V 17 25 524287 .ext ?_
 refine hJ4 _ _ _ ?_
 exact G.at ⟨(g4, t5, n5, b5), hR5⟩ (ts := [0, 1, 4, 6, 7, 24, 25]) rfl rfl rfl rfl
 rintro ⟨⟨g4, t5, n5, b5⟩, hR5⟩
 try dsimp only
 try dsimp only at hR5
 refine D.sto 19 1048575 0 (.st t240 0) [1, 2] []  rfl ?_
 dsimp only [List.set, sets, Value.cells, List.zipIdx, List.foldl]
 refine D.V 20 5 2097151 .mv ?_
 refine D.done ?_
 refine K3 _ _ _ ?_
 refine G.region ?_
 refine G.M 26 ?_
 refine G.V 27 (.fa f240_0 0) ?_
 refine G.V 28 (.lda t68 0) ?_
 refine G.V 29 .nc ?_
 refine G.V 30 (.fa f84_1 12) ?_
 refine G.V 31 (.fa f70_7 20) ?_
 refine G.sn 2 (.st t68 2) rfl ?_
 refine G.nil ?_
 exact G.fin0 [2] (.nil Tryz.results179) ⟨_, _, rfl, hR5, rfl⟩
def jumpV (p : Par) (s : Sta) (ticks : Int) (x : Sta) : Bool := if healthV p s = 0 then true else decide (absC (sbC (medV x.lo x.hi) (addL [s.time, ticks])) > farV p x.held)
structure StepR (p : Par) (s : Sta) (ticks : Int) (x : Sta) (s' : Sta) : Prop where
 sp : SaneS x.lo x.hi x.good s'.lo s'.hi s'.good
 time : s'.time = stepV p s.time s.set ticks (medV x.lo x.hi) (jumpV p s ticks x)
 set : s'.set = true
 held : s'.held = bnd x.held 0 1073741824
 hops : s'.hops = bnd x.hops 0 (addL [p.d, 1])
 st : RightS s'.st s'.sn
theorem f_Step (g : Nat) (p : Par) (s : Sta) (rs : List Value) (T : TypeId) (ticks : Int) (x : Sta) (l : List (Int × Int)) (hl : l.length = x.tl) (hn : x.tl ≤ 1000) : Spec prog 120 [.pointer (some ⟨g, 0, none⟩), .int .i64 ticks, .agg #[.int .i64 x.lo, .int .i64 x.hi, .int .i64 x.time, .bool x.set, .int .i64 x.held, .int .i64 x.hops, .bool x.good, .slice x.ta x.tl x.tc, .int .i64 x.st, .int .i64 x.sn, .int .i64 x.life]] [blk g ((.int .i64 p.n) :: (.int .i64 p.f) :: (.int .i64 p.d) :: (.int .i64 p.beat) :: (.int .i64 p.rho) :: (.int .i64 p.delay) :: (.int .i64 p.jitter) :: (.int .i64 p.eps) :: (.int .i64 p.mu) :: (.int .i64 p.hold) :: (.int .i64 p.pulse) :: (.int .i64 p.second) :: (.int .i64 s.lo) :: (.int .i64 s.hi) :: (.int .i64 s.time) :: (.bool s.set) :: (.int .i64 s.held) :: (.int .i64 s.hops) :: (.bool s.good) :: (.slice s.ta s.tl s.tc) :: (.int .i64 s.st) :: (.int .i64 s.sn) :: (.int .i64 s.life) :: rs) T] [row x.ta x.tc 174 2 x.tl (spl l)] (fun v Ln => ∃ s' l2, v = .tuple #[] ∧ StepR p s ticks x s' ∧ l2.length = s'.tl ∧ goodB l2 = true ∧ Ln = [blk g ((.int .i64 p.n) :: (.int .i64 p.f) :: (.int .i64 p.d) :: (.int .i64 p.beat) :: (.int .i64 p.rho) :: (.int .i64 p.delay) :: (.int .i64 p.jitter) :: (.int .i64 p.eps) :: (.int .i64 p.mu) :: (.int .i64 p.hold) :: (.int .i64 p.pulse) :: (.int .i64 p.second) :: (.int .i64 s'.lo) :: (.int .i64 s'.hi) :: (.int .i64 s'.time) :: (.bool s'.set) :: (.int .i64 s'.held) :: (.int .i64 s'.hops) :: (.bool s'.good) :: (.slice s'.ta s'.tl s'.tc) :: (.int .i64 s'.st) :: (.int .i64 s'.sn) :: (.int .i64 s'.life) :: rs) T, row s'.ta s'.tc 174 2 s'.tl (spl l2)]) := by
 refine Spec.en func120 ntmps120 fun w0 => ?_
 refine G.sr fun _ K1 => ?_
 refine G.mk 5 .bx fun g5 => ?_
 refine G.nk K1 ?_
 refine G.Z fun _ K2 => ?_
 refine G.sr fun _ K3 => ?_
 refine G.M 13 ?_
 refine G.V 14 (.isnil q41) ?_
 refine G.nk K3 ?_
 refine G.no rfl ?_
 refine G.sk K2 ?_
 refine G.sr fun _ K4 => ?_
 refine G.M 15 ?_
 refine G.V 16 .nc ?_
 refine G.V 17 (.fa f84_1 12) ?_
 refine G.V 18 (.lda t70 1) ?_
 refine G.mk 6 (.al z70) fun g6 => ?_
 refine G.sn 0 (.st t70 0) rfl ?_
 refine G.nk K4 ?_
 refine G.sr fun _ K5 => ?_
 refine G.V 19 (.fa f70_0 0) ?_
 refine G.V 20 (.lda t49 1) ?_
 refine G.cp 21 [] []  e128 (sp_Mid x.lo x.hi) ?_
 refine G.M 7 ?_
 refine G.nk K5 ?_
 refine G.sr fun _ K6 => ?_
 refine G.M 22 ?_
 refine G.V 23 (.fa f70_1 2) ?_
 refine G.V 24 (.ld t3 0) ?_
 refine G.M 25 ?_
 refine G.row 26 (.sl s24 z3 [.int .i64 s.time, .int .i64 ticks]) fun g26 => ?_
 refine G.cp 27 [] [1]  e29 (s_Add' g26 2 [s.time, ticks] rfl (by decide)) ?_
 refine G.cp 28 [] []  e33 (s_Sub (medV x.lo x.hi) (addL [s.time, ticks])) ?_
 refine G.cp 29 [] []  e47 (s_Abs (sbC (medV x.lo x.hi) (addL [s.time, ticks]))) ?_
 refine G.M 8 ?_
 refine G.nk K6 ?_
 refine G.meet (ι := {q : Nat × Nat × Bool // q.2.2 = jumpV p s ticks x}) (fun ⟨⟨g5, g6, b⟩, hb⟩ => [(0, .pointer (some ⟨g, 0, none⟩)), (1, .int .i64 ticks), (5, .pointer (some ⟨g5, 0, none⟩)), (6, .pointer (some ⟨g6, 0, none⟩)), (7, .int .i64 (medV x.lo x.hi)), (9, .bool b)]) (fun ⟨⟨g5, g6, b⟩, hb⟩ => [blk g6 [.int .i64 s.lo, .int .i64 s.hi, .int .i64 s.time, .bool s.set, .int .i64 s.held, .int .i64 s.hops, .bool s.good, .slice s.ta s.tl s.tc, .int .i64 s.st, .int .i64 s.sn, .int .i64 s.life] 70, blk g5 [.int .i64 x.lo, .int .i64 x.hi, .int .i64 x.time, .bool x.set, .int .i64 x.held, .int .i64 x.hops, .bool x.good, .slice x.ta x.tl x.tc, .int .i64 x.st, .int .i64 x.sn, .int .i64 x.life] 70, blk g ((.int .i64 p.n) :: (.int .i64 p.f) :: (.int .i64 p.d) :: (.int .i64 p.beat) :: (.int .i64 p.rho) :: (.int .i64 p.delay) :: (.int .i64 p.jitter) :: (.int .i64 p.eps) :: (.int .i64 p.mu) :: (.int .i64 p.hold) :: (.int .i64 p.pulse) :: (.int .i64 p.second) :: (.int .i64 s.lo) :: (.int .i64 s.hi) :: (.int .i64 s.time) :: (.bool s.set) :: (.int .i64 s.held) :: (.int .i64 s.hops) :: (.bool s.good) :: (.slice s.ta s.tl s.tc) :: (.int .i64 s.st) :: (.int .i64 s.sn) :: (.int .i64 s.life) :: rs) T]) (fun ⟨⟨g5, g6, b⟩, hb⟩ => [row x.ta x.tc 174 2 x.tl (spl l)]) (fun _ K8 => ?_) ?_
 refine G.draw 19 [1, 2, 3] [] [] ?_
 refine D.V 0 30 1 .mv ?_
 refine D.V 1 31 3 .nc ?_
 refine D.V 2 32 7 (.fa f84_0 0) ?_
 refine D.T 3 33 15 (.lda t23 2) [1, 2, 3] [] ?_
 refine D.T 4 34 31 (.lda t70 0) [1, 2, 3] [] ?_
 refine D.C 5 35 63 [] [] [1, 2, 3] []  e31 (h_Of p s) ?_
 rintro _ _ ⟨rfl, rfl⟩
 refine D.V 6 36 127 .bin ?_
 refine D.V 7 37 255 .mv ?_
 cases hg9 : ((healthV p s) == 0 : Bool)
 refine D.V 8 38 511 .mv ?_
 refine D.V 9 39 1023 .mv ?_
 refine D.V 10 40 2047 .nc ?_
 refine D.V 11 41 4095 (.fa f84_0 0) ?_
 refine D.V 13 43 12287 (.fa f70_3 4) ?_
 refine D.T 12 42 16383 (.lda t23 2) [1, 2, 3] [] ?_
 refine D.T 14 44 32767 (.ld t3 1) [1, 2, 3] [] ?_
 refine D.C 15 45 65535 [] [] [1, 2, 3] []  e129 (h_Far p x.held) ?_
 rintro _ _ ⟨rfl, rfl⟩
 refine D.V 16 46 131071 .bin ?_
 refine D.V 17 47 262143 .pick ?_
 refine D.V 18 9 524287 .mv ?_
 refine D.done ?_
 refine G.only [1, 1, 1] ?_
 refine K8 _ _ _ ?_
 exact G.at ⟨(g5, g6, _), by unfold jumpV; simp_all⟩ (ts := [0, 1, 5, 6, 7, 9]) rfl rfl rfl rfl
 refine D.off 8 38 511 ?_
 refine D.off 9 39 1023 ?_
 refine D.off 10 40 2047 ?_
 refine D.off 11 41 4095 ?_
 refine D.off 12 42 8191 ?_
 refine D.off 13 43 16383 ?_
 refine D.off 14 44 32767 ?_
 refine D.off 15 45 65535 ?_
 refine D.off 16 46 131071 ?_
 refine D.V 17 47 262143 .pick ?_
 refine D.V 18 9 524287 .mv ?_
 refine D.done ?_
 refine G.only [1, 1, 1] ?_
 refine K8 _ _ _ ?_
 exact G.at ⟨(g5, g6, _), by unfold jumpV; simp_all⟩ (ts := [0, 1, 5, 6, 7, 9]) rfl rfl rfl rfl
 rintro ⟨⟨g5, g6, b⟩, hb⟩
 try dsimp only
 dsimp only at hb
 refine G.Z fun _ K10 => ?_
 refine G.draw 15 [0, 2] [] [] ?_
 refine D.V 0 48 1 (.fa f70_1 2) ?_
 refine D.V 2 50 5 (.fa f70_2 3) ?_
 refine D.V 5 53 37 .mv ?_
 refine D.V 6 54 101 .nc ?_
 refine D.V 7 55 229 (.fa f84_0 0) ?_
 refine D.V 9 57 741 .mv ?_
 refine D.V 10 58 1765 .mv ?_
 refine D.V 11 59 3813 .mv ?_
 refine D.T 1 49 3815 (.ld t3 0) [0, 2] [] ?_
 refine D.T 3 51 3823 (.ld t4 0) [0, 2] [] ?_
 refine D.V 4 52 3839 (.build z237 p237 (cs := #[.int .i64 s.time, .bool s.set])) ?_
 refine D.T 8 56 4095 (.lda t23 1) [0, 2] [] ?_
 refine D.join (ι := Nat) (fun g10 => [(0, .pointer (some ⟨g, 0, none⟩)), (1, .int .i64 ticks), (5, .pointer (some ⟨g5, 0, none⟩)), (6, .pointer (some ⟨g6, 0, none⟩)), (7, .int .i64 (medV x.lo x.hi)), (10, .pointer (some ⟨g10, 0, none⟩)), (60, .agg #[.int .i64 (stepV p s.time s.set ticks (medV x.lo x.hi) b), .bool true])]) (fun g10 => [blk g10 [.int .i64 0, .bool false] 237, blk g6 [.int .i64 s.lo, .int .i64 s.hi, .int .i64 s.time, .bool s.set, .int .i64 s.held, .int .i64 s.hops, .bool s.good, .slice s.ta s.tl s.tc, .int .i64 s.st, .int .i64 s.sn, .int .i64 s.life] 70, blk g5 [.int .i64 x.lo, .int .i64 x.hi, .int .i64 x.time, .bool x.set, .int .i64 x.held, .int .i64 x.hops, .bool x.good, .slice x.ta x.tl x.tc, .int .i64 x.st, .int .i64 x.sn, .int .i64 x.life] 70, blk g ((.int .i64 p.n) :: (.int .i64 p.f) :: (.int .i64 p.d) :: (.int .i64 p.beat) :: (.int .i64 p.rho) :: (.int .i64 p.delay) :: (.int .i64 p.jitter) :: (.int .i64 p.eps) :: (.int .i64 p.mu) :: (.int .i64 p.hold) :: (.int .i64 p.pulse) :: (.int .i64 p.second) :: (.int .i64 s.lo) :: (.int .i64 s.hi) :: (.int .i64 s.time) :: (.bool s.set) :: (.int .i64 s.held) :: (.int .i64 s.hops) :: (.bool s.good) :: (.slice s.ta s.tl s.tc) :: (.int .i64 s.st) :: (.int .i64 s.sn) :: (.int .i64 s.life) :: rs) T]) (fun g10 => [row x.ta x.tc 174 2 x.tl (spl l)]) 1 16383 (fun hJ11 => ?_) ?_
 refine D.two 12 13 8191 12287 ?_ ?_
 refine E.call 12 60 [] [] [0, 2] []  e130 (sl_Step p s.time s.set ticks (medV x.lo x.hi) b) ?_
 rintro _ _ ⟨rfl, rfl⟩
 refine D.mk 13 10 16383 (.al z237) [0, 2] []  fun g10 => ?_
 refine hJ11 _ _ _ ?_
 exact G.at g10 (ts := [0, 1, 5, 6, 7, 10, 60]) rfl rfl rfl rfl
 refine E.mk 13 10 (.al z237) [0, 2] []  fun g10 => ?_
 refine D.C 12 60 16383 [] [] [1, 3] []  e130 (sl_Step p s.time s.set ticks (medV x.lo x.hi) b) ?_
 rintro _ _ ⟨rfl, rfl⟩
 refine hJ11 _ _ _ ?_
 exact G.at g10 (ts := [0, 1, 5, 6, 7, 10, 60]) rfl rfl rfl rfl
 rintro g10
 try dsimp only
 refine D.sto 14 32767 0 (.st t237 0) [1, 3] []  rfl ?_
 dsimp only [List.set, sets, Value.cells, List.zipIdx, List.foldl]
 refine D.done ?_
 refine K10 _ _ _ ?_
 refine G.Z fun _ K12 => ?_
 refine G.draw 10 [2, 3] [] [9] ?_
 refine D.V 0 61 1 .mv ?_
 refine D.V 1 62 3 .mv ?_
 refine D.V 2 63 7 .nc ?_
 refine D.V 3 64 15 (.fa f84_0 0) ?_
 refine D.T 4 65 31 (.lda t23 1) [2, 3] [] ?_
 refine D.T 5 66 63 (.lda t70 0) [2, 3] [] ?_
 refine D.C 6 67 127 [] [0] [2, 3] []  e66 ((h_Sane p x l hl hn).vw) ?_
 rintro _ _ ⟨lo, hi, gd, ay, ny, cy, l2, t, m, rfl, hsp, hl2, hg2, hR, rfl⟩
 refine D.V 7 68 255 .nc ?_
 refine D.V 8 69 511 (.fa f84_1 12) ?_
 refine D.last 9 1023 4 (.st t70 4) rfl ?_
 dsimp only [List.set, sets, Value.cells, List.zipIdx, List.foldl]
 refine D.done ?_
 refine K12 _ _ _ ?_
 refine G.Z fun _ K13 => ?_
 refine G.draw 29 [1, 2] [] [] ?_
 refine D.V 0 70 1 .mv ?_
 refine D.V 1 71 3 .mv ?_
 refine D.V 2 72 7 .mv ?_
 refine D.V 3 73 15 .mv ?_
 refine D.V 4 74 31 (.fa f237_0 0) ?_
 refine D.V 6 76 95 (.fa f237_1 1) ?_
 refine D.V 8 78 351 (.fa f70_7 8) ?_
 refine D.V 10 80 1375 (.fa f70_8 10) ?_
 refine D.T 5 75 1407 (.ld t3 0) [1, 2] [] ?_
 refine D.T 7 77 1535 (.ld t4 0) [1, 2] [] ?_
 refine D.T 9 79 2047 (.lda t68 1) [1, 2] [] ?_
 refine D.T 11 81 4095 (.ld t3 1) [1, 2] [] ?_
 refine D.C 12 82 8191 [] [] [1, 2] []  e62 (s_Bound s.life 0 2305843009213693952) ?_
 rintro _ _ ⟨rfl, rfl⟩
 refine D.V 13 83 16383 .nc ?_
 refine D.V 14 84 32767 (.fa f84_1 12) ?_
 refine D.V 15 85 65535 (.fa f70_1 14) ?_
 refine D.sto 16 131071 4 (.st t3 4) [1, 2] []  rfl ?_
 dsimp only [List.set, sets, Value.cells, List.zipIdx, List.foldl]
 refine D.V 17 86 262143 .nc ?_
 refine D.V 18 87 524287 (.fa f84_1 12) ?_
 refine D.V 19 88 1048575 (.fa f70_2 15) ?_
 refine D.sto 20 2097151 4 (.st t4 4) [1, 2] []  rfl ?_
 dsimp only [List.set, sets, Value.cells, List.zipIdx, List.foldl]
 refine D.V 21 89 4194303 .nc ?_
 refine D.V 22 90 8388607 (.fa f84_1 12) ?_
 refine D.V 23 91 16777215 (.fa f70_7 20) ?_
 refine D.sto 24 33554431 4 (.st t68 4) [1, 2] []  rfl ?_
 dsimp only [List.set, sets, Value.cells, List.zipIdx, List.foldl]
 refine D.V 25 92 67108863 .nc ?_
 refine D.V 26 93 134217727 (.fa f84_1 12) ?_
 refine D.V 27 94 268435455 (.fa f70_8 22) ?_
 refine D.sto 28 536870911 4 (.st t3 4) [1, 2] []  rfl ?_
 dsimp only [List.set, sets, Value.cells, List.zipIdx, List.foldl]
 refine D.done ?_
 refine K13 _ _ _ ?_
 refine G.Z fun _ K14 => ?_
 refine G.draw 14 [1, 2] [] [] ?_
 refine D.V 0 96 1 (.fa f70_7 8) ?_
 refine D.V 3 99 9 (.fa f237_0 0) ?_
 refine D.V 5 101 41 .mv ?_
 refine D.T 1 97 43 (.lda t68 1) [1, 2] [] ?_
 refine D.V 2 98 47 (.build z240 p240 (cs := #[.int .i64 s.st, .int .i64 s.sn])) ?_
 refine D.T 4 100 63 (.ld t3 0) [1, 2] [] ?_
 refine D.join (ι := {q : Nat × Int × Int × Bool // RightS q.2.1 q.2.2.1}) (fun ⟨⟨g11, t6, n6, b6⟩, hR6⟩ => [(0, .pointer (some ⟨g, 0, none⟩)), (1, .int .i64 ticks), (5, .pointer (some ⟨g5, 0, none⟩)), (6, .pointer (some ⟨g6, 0, none⟩)), (7, .int .i64 (medV x.lo x.hi)), (10, .pointer (some ⟨g10, 0, none⟩)), (11, .pointer (some ⟨g11, 0, none⟩)), (60, .agg #[.int .i64 (stepV p s.time s.set ticks (medV x.lo x.hi) b), .bool true]), (61, .pointer (some ⟨g, 0, none⟩)), (62, .pointer (some ⟨g, 0, none⟩)), (63, .pointer (some ⟨g, 0, none⟩)), (64, .pointer (some ⟨g, 0, none⟩)), (65, .agg #[.int .i64 p.n, .int .i64 p.f, .int .i64 p.d, .int .i64 p.beat, .int .i64 p.rho, .int .i64 p.delay, .int .i64 p.jitter, .int .i64 p.eps, .int .i64 p.mu, .int .i64 p.hold, .int .i64 p.pulse, .int .i64 p.second]), (66, .agg #[.int .i64 x.lo, .int .i64 x.hi, .int .i64 x.time, .bool x.set, .int .i64 x.held, .int .i64 x.hops, .bool x.good, .slice x.ta x.tl x.tc, .int .i64 x.st, .int .i64 x.sn, .int .i64 x.life]), (67, .agg #[.int .i64 lo, .int .i64 hi, .int .i64 (clp x.time), .bool x.set, .int .i64 (bnd x.held 0 1073741824), .int .i64 (bnd x.hops 0 (addL [p.d, 1])), .bool gd, .slice ay ny cy, .int .i64 t, .int .i64 m, .int .i64 (bnd x.life 0 2305843009213693952)]), (68, .pointer (some ⟨g, 0, none⟩)), (69, .pointer (some ⟨g, 12, none⟩)), (70, .pointer (some ⟨g, 0, none⟩)), (71, .pointer (some ⟨g, 0, none⟩)), (72, .pointer (some ⟨g, 0, none⟩)), (73, .pointer (some ⟨g, 0, none⟩)), (74, .pointer (some ⟨g10, 0, none⟩)), (75, .int .i64 (stepV p s.time s.set ticks (medV x.lo x.hi) b)), (76, .pointer (some ⟨g10, 1, none⟩)), (77, .bool true), (78, .pointer (some ⟨g6, 8, none⟩)), (79, .agg #[.int .i64 s.st, .int .i64 s.sn]), (80, .pointer (some ⟨g6, 10, none⟩)), (81, .int .i64 s.life), (82, .int .i64 (bnd s.life 0 2305843009213693952)), (83, .pointer (some ⟨g, 0, none⟩)), (84, .pointer (some ⟨g, 12, none⟩)), (85, .pointer (some ⟨g, 14, none⟩)), (86, .pointer (some ⟨g, 0, none⟩)), (87, .pointer (some ⟨g, 12, none⟩)), (88, .pointer (some ⟨g, 15, none⟩)), (89, .pointer (some ⟨g, 0, none⟩)), (90, .pointer (some ⟨g, 12, none⟩)), (91, .pointer (some ⟨g, 20, none⟩)), (92, .pointer (some ⟨g, 0, none⟩)), (93, .pointer (some ⟨g, 12, none⟩)), (94, .pointer (some ⟨g, 22, none⟩)), (104, .agg #[.int .i64 t6, .int .i64 n6]), (105, .bool b6)]) (fun ⟨⟨g11, t6, n6, b6⟩, hR6⟩ => [blk g11 [.int .i64 0, .int .i64 0] 240, row ay cy 174 2 ny (spl l2), blk g10 [.int .i64 (stepV p s.time s.set ticks (medV x.lo x.hi) b), .bool true] 237, blk g6 [.int .i64 s.lo, .int .i64 s.hi, .int .i64 s.time, .bool s.set, .int .i64 s.held, .int .i64 s.hops, .bool s.good, .slice s.ta s.tl s.tc, .int .i64 s.st, .int .i64 s.sn, .int .i64 s.life] 70, blk g5 [.int .i64 x.lo, .int .i64 x.hi, .int .i64 x.time, .bool x.set, .int .i64 x.held, .int .i64 x.hops, .bool x.good, .slice x.ta x.tl x.tc, .int .i64 x.st, .int .i64 x.sn, .int .i64 x.life] 70, blk g ((.int .i64 p.n) :: (.int .i64 p.f) :: (.int .i64 p.d) :: (.int .i64 p.beat) :: (.int .i64 p.rho) :: (.int .i64 p.delay) :: (.int .i64 p.jitter) :: (.int .i64 p.eps) :: (.int .i64 p.mu) :: (.int .i64 p.hold) :: (.int .i64 p.pulse) :: (.int .i64 p.second) :: (.int .i64 lo) :: (.int .i64 hi) :: (.int .i64 (stepV p s.time s.set ticks (medV x.lo x.hi) b)) :: (.bool true) :: (.int .i64 (bnd x.held 0 1073741824)) :: (.int .i64 (bnd x.hops 0 (addL [p.d, 1]))) :: (.bool gd) :: (.slice ay ny cy) :: (.int .i64 s.st) :: (.int .i64 s.sn) :: (.int .i64 (bnd s.life 0 2305843009213693952)) :: rs) T]) (fun ⟨⟨g11, t6, n6, b6⟩, hR6⟩ => [row x.ta x.tc 174 2 x.tl (spl l)]) 2 4095 (fun hJ15 => ?_) ?_
 refine D.two 6 11 127 2111 ?_ ?_
 refine E.call 6 102 [] [5] [1, 2] []  e132 (f_most g p ⟨lo, hi, (stepV p s.time s.set ticks (medV x.lo x.hi) b), true, (bnd x.held 0 1073741824), (bnd x.hops 0 (addL [p.d, 1])), gd, ay, ny, cy, s.st, s.sn, (bnd s.life 0 2305843009213693952)⟩ rs T) ?_
 rintro _ _ ⟨rfl, rfl⟩
 refine D.two 7 11 255 2175 ?_ ?_
 refine E.call 7 103 [] [] [1, 2] []  e131 (t_Mend s.st s.sn (stepV p s.time s.set ticks (medV x.lo x.hi) b) (mostV p ⟨lo, hi, (stepV p s.time s.set ticks (medV x.lo x.hi) b), true, (bnd x.held 0 1073741824), (bnd x.hops 0 (addL [p.d, 1])), gd, ay, ny, cy, s.st, s.sn, (bnd s.life 0 2305843009213693952)⟩)) ?_
 rintro _ _ ⟨t6, n6, b6, rfl, hR6, rfl⟩
 refine D.V 8 95 511 .mv ?_
 refine D.V 9 104 1023 .ext ?_
 refine D.V 10 105 2047 .ext ?_
 refine D.mk 11 11 4095 (.al z240) [1, 2] []  fun g11 => ?_
 refine hJ15 _ _ _ ?_
 exact G.at ⟨(g11, t6, n6, b6), hR6⟩ (ts := [0, 1, 5, 6, 7, 10, 11, 60, 61, 62, 63, 64, 65, 66, 67, 68, 69, 70, 71, 72, 73, 74, 75, 76, 77, 78, 79, 80, 81, 82, 83, 84, 85, 86, 87, 88, 89, 90, 91, 92, 93, 94, 104, 105]) rfl rfl rfl rfl
 refine E.mk 11 11 (.al z240) [1, 2] []  fun g11 => ?_
 refine D.C 7 103 2303 [] [] [2, 3] []  e131 (t_Mend s.st s.sn (stepV p s.time s.set ticks (medV x.lo x.hi) b) (mostV p ⟨lo, hi, (stepV p s.time s.set ticks (medV x.lo x.hi) b), true, (bnd x.held 0 1073741824), (bnd x.hops 0 (addL [p.d, 1])), gd, ay, ny, cy, s.st, s.sn, (bnd s.life 0 2305843009213693952)⟩)) ?_
 rintro _ _ ⟨t6, n6, b6, rfl, hR6, rfl⟩
 refine D.V 8 95 2559 .mv ?_
 refine D.V 9 104 3071 .ext ?_
 refine D.V 10 105 4095 .ext ?_
 refine hJ15 _ _ _ ?_
 exact G.at ⟨(g11, t6, n6, b6), hR6⟩ (ts := [0, 1, 5, 6, 7, 10, 11, 60, 61, 62, 63, 64, 65, 66, 67, 68, 69, 70, 71, 72, 73, 74, 75, 76, 77, 78, 79, 80, 81, 82, 83, 84, 85, 86, 87, 88, 89, 90, 91, 92, 93, 94, 104, 105]) rfl rfl rfl rfl
 refine E.mk 11 11 (.al z240) [1, 2] []  fun g11 => ?_
 refine D.C 6 102 2175 [] [6] [2, 3] []  e132 (f_most g p ⟨lo, hi, (stepV p s.time s.set ticks (medV x.lo x.hi) b), true, (bnd x.held 0 1073741824), (bnd x.hops 0 (addL [p.d, 1])), gd, ay, ny, cy, s.st, s.sn, (bnd s.life 0 2305843009213693952)⟩ rs T) ?_
 rintro _ _ ⟨rfl, rfl⟩
 refine D.C 7 103 2303 [] [] [2, 3] []  e131 (t_Mend s.st s.sn (stepV p s.time s.set ticks (medV x.lo x.hi) b) (mostV p ⟨lo, hi, (stepV p s.time s.set ticks (medV x.lo x.hi) b), true, (bnd x.held 0 1073741824), (bnd x.hops 0 (addL [p.d, 1])), gd, ay, ny, cy, s.st, s.sn, (bnd s.life 0 2305843009213693952)⟩)) ?_
 rintro _ _ ⟨t6, n6, b6, rfl, hR6, rfl⟩
 refine D.V 8 95 2559 .mv ?_
 refine D.V 9 104 3071 .ext ?_
 refine D.V 10 105 4095 .ext ?_
 refine hJ15 _ _ _ ?_
 exact G.at ⟨(g11, t6, n6, b6), hR6⟩ (ts := [0, 1, 5, 6, 7, 10, 11, 60, 61, 62, 63, 64, 65, 66, 67, 68, 69, 70, 71, 72, 73, 74, 75, 76, 77, 78, 79, 80, 81, 82, 83, 84, 85, 86, 87, 88, 89, 90, 91, 92, 93, 94, 104, 105]) rfl rfl rfl rfl
 rintro ⟨⟨g11, t6, n6, b6⟩, hR6⟩
 try dsimp only
 try dsimp only at hR6
 refine D.sto 12 8191 0 (.st t240 0) [2, 3] []  rfl ?_
 dsimp only [List.set, sets, Value.cells, List.zipIdx, List.foldl]
 refine D.V 13 12 16383 .mv ?_
 refine D.done ?_
 refine K14 _ _ _ ?_
 refine G.sr fun _ K16 => ?_
 refine G.M 106 ?_
 refine G.V 107 (.lda t240 0) ?_
 refine G.V 108 (.fa f237_0 0) ?_
 refine G.V 109 (.ld t3 2) ?_
 refine G.C 110 [] []  e133 (t_Tick t6 n6 (stepV p s.time s.set ticks (medV x.lo x.hi) b)) ?_
 rintro _ _ ⟨t2, n2, rfl, hR2, rfl⟩
 refine G.V 111 (.fld u240_0 t68) ?_
 refine G.V 112 .nc ?_
 refine G.V 113 (.fa f84_1 12) ?_
 refine G.V 114 (.fa f70_7 20) ?_
 refine G.sn 5 (.st t68 5) rfl ?_
 refine G.nk K16 ?_
 refine G.sr fun _ K17 => ?_
 refine G.M2 115 116 ?_
 cases hg18 : (b6 : Bool)
 refine G.V 117 (.fa f237_0 0) ?_
 refine G.V 118 (.ld t3 2) ?_
 refine G.V 119 (.fa f70_1 2) ?_
 refine G.V 120 (.ld t3 3) ?_
 refine G.V 121 .bin ?_
 refine G.V 122 .pick ?_
 refine G.nk K17 ?_
 refine G.cond rfl (fun hc122 => ?_) (fun hc122 => ?_)
 refine G.region ?_
 refine G.M2 123 124 ?_
 refine G.V 125 .nc ?_
 refine G.V 126 (.fa f84_1 12) ?_
 refine G.V 127 (.fa f70_8 22) ?_
 refine G.V 128 (.ld t3 5) ?_
 refine G.row 129 (.sl s24 z3 [.int .i64 (bnd s.life 0 2305843009213693952), .int .i64 1]) fun g129 => ?_
 refine G.cp 130 [] [1]  e29 (s_Add' g129 2 [(bnd s.life 0 2305843009213693952), 1] rfl (by decide)) ?_
 refine G.cp 131 [] []  e62 (s_Bound (addL [(bnd s.life 0 2305843009213693952), 1]) 0 2305843009213693952) ?_
 refine G.V 132 .nc ?_
 refine G.V 133 (.fa f84_1 12) ?_
 refine G.V 134 (.fa f70_8 22) ?_
 refine G.sn 6 (.st t3 6) rfl ?_
 refine G.nil ?_
 exact G.fin0 [6, 2] (.nil Tryz.results120) ⟨⟨lo, hi, (stepV p s.time s.set ticks (medV x.lo x.hi) b), true, (bnd x.held 0 1073741824), (bnd x.hops 0 (addL [p.d, 1])), gd, ay, ny, cy, t2, n2, (bnd (addL [(bnd s.life 0 2305843009213693952), 1]) 0 2305843009213693952)⟩, l2, rfl, ⟨hsp, by rw [hb], rfl, rfl, rfl, hR2⟩, hl2, hg2, rfl⟩
 refine G.skip ?_
 exact G.fin0 [5, 1] (.nil Tryz.results120) ⟨⟨lo, hi, (stepV p s.time s.set ticks (medV x.lo x.hi) b), true, (bnd x.held 0 1073741824), (bnd x.hops 0 (addL [p.d, 1])), gd, ay, ny, cy, t2, n2, (bnd s.life 0 2305843009213693952)⟩, l2, rfl, ⟨hsp, by rw [hb], rfl, rfl, rfl, hR2⟩, hl2, hg2, rfl⟩
 refine G.O4 117 118 119 120 ?_
 refine G.O 121 ?_
 refine G.V 122 .pick ?_
 refine G.nk K17 ?_
 refine G.yes rfl ?_
 refine G.region ?_
 refine G.M2 123 124 ?_
 refine G.V 125 .nc ?_
 refine G.V 126 (.fa f84_1 12) ?_
 refine G.V 127 (.fa f70_8 22) ?_
 refine G.V 128 (.ld t3 5) ?_
 refine G.row 129 (.sl s24 z3 [.int .i64 (bnd s.life 0 2305843009213693952), .int .i64 1]) fun g129 => ?_
 refine G.cp 130 [] [1]  e29 (s_Add' g129 2 [(bnd s.life 0 2305843009213693952), 1] rfl (by decide)) ?_
 refine G.cp 131 [] []  e62 (s_Bound (addL [(bnd s.life 0 2305843009213693952), 1]) 0 2305843009213693952) ?_
 refine G.V 132 .nc ?_
 refine G.V 133 (.fa f84_1 12) ?_
 refine G.V 134 (.fa f70_8 22) ?_
 refine G.sn 6 (.st t3 6) rfl ?_
 refine G.nil ?_
 exact G.fin0 [6, 2] (.nil Tryz.results120) ⟨⟨lo, hi, (stepV p s.time s.set ticks (medV x.lo x.hi) b), true, (bnd x.held 0 1073741824), (bnd x.hops 0 (addL [p.d, 1])), gd, ay, ny, cy, t2, n2, (bnd (addL [(bnd s.life 0 2305843009213693952), 1]) 0 2305843009213693952)⟩, l2, rfl, ⟨hsp, by rw [hb], rfl, rfl, rfl, hR2⟩, hl2, hg2, rfl⟩
theorem e114 : Is prog 114 := ⟨_, func114, by kernel_rfl, rfl⟩
theorem e115 : Is prog 115 := ⟨_, func115, by kernel_rfl, rfl⟩
theorem e116 : Is prog 116 := ⟨_, func116, by kernel_rfl, rfl⟩
theorem e117 : Is prog 117 := ⟨_, func117, by kernel_rfl, rfl⟩
theorem e119 : Is prog 119 := ⟨_, func119, by kernel_rfl, rfl⟩
theorem e120 : Is prog 120 := ⟨_, func120, by kernel_rfl, rfl⟩
theorem e121 : Is prog 121 := ⟨_, func121, by kernel_rfl, rfl⟩
theorem e134 : Is prog 134 := ⟨_, func134, by kernel_rfl, rfl⟩
theorem e135 : Is prog 135 := ⟨_, func135, by kernel_rfl, rfl⟩
theorem f103_0 : tfield prog 103 0 = some 0 := by kernel_rfl
theorem f103_1 : tfield prog 103 1 = some 1 := by kernel_rfl
theorem f103_2 : tfield prog 103 2 = some 2 := by kernel_rfl
theorem f103_3 : tfield prog 103 3 = some 3 := by kernel_rfl
theorem f103_4 : tfield prog 103 4 = some 4 := by kernel_rfl
theorem f107_6 : tfield prog 107 6 = some 7 := by kernel_rfl
theorem f107_7 : tfield prog 107 7 = some 8 := by kernel_rfl
theorem f122_0 : tfield prog 122 0 = some 0 := by kernel_rfl
theorem f122_1 : tfield prog 122 1 = some 23 := by kernel_rfl
theorem f138_1 : tfield prog 138 1 = some 14 := by kernel_rfl
theorem q119 : tptr prog 119 = true := by kernel_rfl
theorem t101 : tsz prog 101 = some (false, 1) := by kernel_rfl
theorem y49 : tbytes prog 49 = some (2, 16) := by kernel_rfl
theorem z23 : tzero prog 23 = some [.int .i64 0, .int .i64 0, .int .i64 0, .int .i64 0, .int .i64 0, .int .i64 0, .int .i64 0, .int .i64 0, .int .i64 0, .int .i64 0, .int .i64 0, .int .i64 0] := by kernel_rfl
structure SayR (s : Sta) (kind me : Int) (read : Bool) (slo shi : Int) (m : Ms) : Prop where
 kind : m.kind = kind
 src : m.src = me
 lo : m.lo = s.lo
 hi : m.hi = s.hi
 held : m.held = s.held
 hops : m.hops = s.hops
 good : m.good = s.good
 ref : m.ref = read
 slo : m.slo = slo
 shi : m.shi = shi
 pulse : -2305843009213693952 ≤ m.pulse ∧ m.pulse ≤ 2305843009213693952
 st : RightS m.st m.sn
 tl : m.tl = s.tl
theorem g_Say (g : Nat) (p : Par) (s : Sta) (rs : List Value) (T : TypeId) (kind me : Int) (read : Bool) (slo shi : Int) (l : List (Int × Int)) (hl : l.length = s.tl) (hn : s.tl ≤ 1000) : Spec prog 121 [.pointer (some ⟨g, 0, none⟩), .int .i64 kind, .int .i64 me, .bool read, .agg #[.int .i64 slo, .int .i64 shi]] [blk g ((.int .i64 p.n) :: (.int .i64 p.f) :: (.int .i64 p.d) :: (.int .i64 p.beat) :: (.int .i64 p.rho) :: (.int .i64 p.delay) :: (.int .i64 p.jitter) :: (.int .i64 p.eps) :: (.int .i64 p.mu) :: (.int .i64 p.hold) :: (.int .i64 p.pulse) :: (.int .i64 p.second) :: (.int .i64 s.lo) :: (.int .i64 s.hi) :: (.int .i64 s.time) :: (.bool s.set) :: (.int .i64 s.held) :: (.int .i64 s.hops) :: (.bool s.good) :: (.slice s.ta s.tl s.tc) :: (.int .i64 s.st) :: (.int .i64 s.sn) :: (.int .i64 s.life) :: rs) T] [row s.ta s.tc 174 2 s.tl (spl l)] (fun v Ln => ∃ m, v = .agg #[.int .i64 m.kind, .int .i64 m.src, .int .i64 m.lo, .int .i64 m.hi, .int .i64 m.held, .int .i64 m.hops, .bool m.good, .bool m.ref, .int .i64 m.slo, .int .i64 m.shi, .int .i64 m.pulse, .int .i64 m.st, .int .i64 m.sn, .slice m.ta m.tl m.tc] ∧ SayR s kind me read slo shi m ∧ Ln = [blk g ((.int .i64 p.n) :: (.int .i64 p.f) :: (.int .i64 p.d) :: (.int .i64 p.beat) :: (.int .i64 p.rho) :: (.int .i64 p.delay) :: (.int .i64 p.jitter) :: (.int .i64 p.eps) :: (.int .i64 p.mu) :: (.int .i64 p.hold) :: (.int .i64 p.pulse) :: (.int .i64 p.second) :: (.int .i64 s.lo) :: (.int .i64 s.hi) :: (.int .i64 s.time) :: (.bool s.set) :: (.int .i64 s.held) :: (.int .i64 s.hops) :: (.bool s.good) :: (.slice s.ta s.tl s.tc) :: (.int .i64 m.st) :: (.int .i64 m.sn) :: (.int .i64 s.life) :: rs) T, row m.ta m.tc 174 2 m.tl (spl l)]) := by
 refine Spec.en func121 ntmps121 fun w0 => ?_
 refine G.sr fun _ K1 => ?_
 refine G.mk 9 .bx fun g9 => ?_
 refine G.mk 10 (.al z107) fun g10 => ?_
 refine G.nk K1 ?_
 refine G.Z fun _ K2 => ?_
 refine G.sr fun _ K3 => ?_
 refine G.M 16 ?_
 refine G.V 17 (.isnil q41) ?_
 refine G.nk K3 ?_
 refine G.no rfl ?_
 refine G.sk K2 ?_
 refine G.sr fun _ K4 => ?_
 refine G.M 20 ?_
 refine G.C 21 [] [3]  e134 (f_Pulse g p s rs T) ?_
 rintro _ _ ⟨pu, pe, rfl, hpu, rfl⟩
 refine G.M 19 ?_
 refine G.V 22 .ext ?_
 refine G.V 23 .ext ?_
 refine G.M2 11 12 ?_
 refine G.nk K4 ?_
 refine G.sr fun _ K5 => ?_
 refine G.M 25 ?_
 refine G.C 26 [2] []  e135 (f_Stamp g p s rs T) ?_
 rintro _ _ ⟨t, n, rfl, hR, rfl⟩
 refine G.M 24 ?_
 refine G.V 27 .ext ?_
 refine G.V 28 .ext ?_
 refine G.mk 13 (.al z68) fun g13 => ?_
 refine G.sn 0 (.st t68 0) rfl ?_
 refine G.M 14 ?_
 refine G.nk K5 ?_
 refine G.sr fun _ K6 => ?_
 refine G.M 29 ?_
 refine G.V 30 .nc ?_
 refine G.V 31 (.fa f84_1 12) ?_
 refine G.V 32 (.lda t70 1 (vs := [.int .i64 s.lo, .int .i64 s.hi, .int .i64 s.time, .bool s.set, .int .i64 s.held, .int .i64 s.hops, .bool s.good, .slice s.ta s.tl s.tc, .int .i64 t, .int .i64 n, .int .i64 s.life])) ?_
 refine G.mk 15 (.al z70) fun g15 => ?_
 refine G.sn 0 (.st t70 0) rfl ?_
 refine G.nk K6 ?_
 refine G.Z fun _ K7 => ?_
 refine G.draw 19 [0, 1, 4] [0] [] ?_
 refine D.V 0 33 1 .mv ?_
 refine D.V 1 34 3 .mv ?_
 refine D.V 2 35 7 (.fa f70_0 0) ?_
 refine D.V 4 37 23 (.fa f70_3 4) ?_
 refine D.V 6 39 87 (.fa f70_4 5) ?_
 refine D.V 8 41 343 (.fa f70_5 6) ?_
 refine D.V 10 43 1367 .mv ?_
 refine D.V 12 45 5463 .mv ?_
 refine D.V 14 47 21847 (.fa f70_6 7) ?_
 refine D.T 3 36 21855 (.lda t49 0 (vs := [.int .i64 s.lo, .int .i64 s.hi])) [0, 1, 4] [0] ?_
 refine D.T 5 38 21887 (.ld t3 0) [0, 1, 4] [0] ?_
 refine D.T 7 40 22015 (.ld t3 0) [0, 1, 4] [0] ?_
 refine D.T 9 42 22527 (.ld t4 0) [0, 1, 4] [0] ?_
 refine D.T 11 44 24575 (.lda t49 2 (vs := [.int .i64 slo, .int .i64 shi])) [0, 1, 4] [0] ?_
 refine D.T 13 46 32767 (.lda t68 1 (vs := [.int .i64 t, .int .i64 n])) [0, 1, 4] [0] ?_
 refine D.T 15 48 65535 (.ld t58 0) [0, 1, 4] [0] ?_
 refine D.C 16 49 131071 [] [0] [0, 1, 4] [0]  e84 ((l_Clone s.ta s.tl s.tc l hl hn).vw) ?_
 rintro _ _ ⟨ay, cy, rfl, rfl⟩
 refine D.V 17 50 262143 (.build z107 p107 (cs := #[.int .i64 kind, .int .i64 me, .int .i64 s.lo, .int .i64 s.hi, .int .i64 s.held, .int .i64 s.hops, .bool s.good, .bool read, .int .i64 slo, .int .i64 shi, .int .i64 pu, .int .i64 t, .int .i64 n, .slice ay s.tl cy]) (hf := by kernel_rfl)) ?_
 refine D.sto 18 524287 4 (.st t107 4) [1, 2, 5] [0]  rfl ?_
 dsimp only [List.set, sets, Value.cells, List.zipIdx, List.foldl]
 refine D.done ?_
 refine K7 _ _ _ ?_
 exact G.ret (G.F [3, 0] (.cell Tryz.results121 t107 4) ⟨⟨kind, me, s.lo, s.hi, s.held, s.hops, s.good, read, slo, shi, pu, t, n, ay, s.tl, cy⟩, rfl, ⟨rfl, rfl, rfl, rfl, rfl, rfl, rfl, rfl, rfl, rfl, hpu, hR, rfl⟩, rfl⟩)
def seenL (p : Par) (rf : Bool) (rd : Int) : List (Int × Int) := if rf = true then [(sbC rd p.eps, addL [rd, p.eps])] else []
def seenV (p : Par) (rf : Bool) (rd : Int) : Int × Int := if rf = true then (sbC rd p.eps, addL [rd, p.eps]) else (0, 0)
def wayV (p : Par) (lo hi t : Int) : Int × Int := (addL [lo, addL [sbC p.delay p.jitter, t, -clp p.rho]], addL [hi, addL [p.delay, t, p.rho]])
def refL (p : Par) (o : List Hr) : List (Int × Int) := (o.filter fun h => h.m.ref).map fun h => wayV p h.m.slo h.m.shi h.age
theorem ref_take {p : Par} {o : List Hr} {k : Nat} {x : Hr} (h : o[k]? = some x) : refL p (o.take (k + 1)) = refL p (o.take k) ++ (if x.m.ref = true then [wayV p x.m.slo x.m.shi x.age] else []) := by
 unfold refL
 rw [List.take_add_one, h, List.filter_append, List.map_append]
 cases hr : x.m.ref <;> simp [hr]
def holdS (p : Par) (s : Sta) (ticks : Int) : Sta := { s with lo := addL [s.lo, sbC ticks p.rho], hi := addL [s.hi, addL [ticks, p.rho]], held := moreV s.held, hops := 0 }
def nextS (p : Par) (s : Sta) (ticks : Int) (ok : Bool) (lo hi : Int) : Sta := if ok = true then { s with lo := lo, hi := hi, held := 0, hops := 0, good := true } else holdS p s ticks
structure GateR (p : Par) (f : Nat) (me : Int) (s : Sta) (ticks : Int) (rf : Bool) (rd : Int) (hs : List Hr) (s' : Sta) (m : Ms) : Prop where
 ex : ∃ (o : List Hr) (ok : Bool) (lo hi : Int), o.Perm (toldL p me hs) ∧ Fused f (seenL p rf rd ++ refL p o) ok lo hi ∧ StepR p s ticks (nextS p s ticks ok lo hi) s'
 say : SayR s' 1 me rf (seenV p rf rd).1 (seenV p rf rd).2 m
theorem SayR.to {s : Sta} {kind me : Int} {read : Bool} {slo shi : Int} {m : Ms} (h : SayR s kind me read slo shi m) (t n : Int) : SayR { s with st := t, sn := n } kind me read slo shi m := ⟨h.kind, h.src, h.lo, h.hi, h.held, h.hops, h.good, h.ref, h.slo, h.shi, h.pulse, h.st, h.tl⟩
theorem StepR.to {p : Par} {s : Sta} {ticks : Int} {x s' : Sta} (h : StepR p s ticks x s') {t n : Int} (r : RightS t n) : StepR p s ticks x { s' with st := t, sn := n } := ⟨h.sp, h.time, h.set, h.held, h.hops, r⟩
theorem good_len {l : List (Int × Int)} (h : goodB l = true) : l.length ≤ 32 := by
 have key : ∀ (l : List (Int × Int)) (i : Nat) (a b : Int), i ≤ 32 → tabF i a b l = true → i + l.length ≤ 32 := by
  intro l
  induction l with
  | nil => intro i a b hi _; simpa using hi
  | cons x l ih =>
   intro i a b hi ht
   unfold tabF at ht
   simp only [Bool.and_eq_true, Bool.not_eq_true'] at ht
   have h1 := ht.1
   unfold badE at h1
   simp only [Bool.or_eq_false_iff, decide_eq_false_iff_not] at h1
   have := ih (i + 1) x.1 x.2 (by omega) ht.2
   simp only [List.length_cons]
   omega
 unfold goodB tableB at h
 simp only [Bool.and_eq_true] at h
 have := key l 0 0 0 (by omega) h.1
 omega
theorem spl_snoc (l : List (Int × Int)) (x : Int × Int) : spl (l ++ [x]) = spl l ++ [.int .i64 x.1, .int .i64 x.2] := by unfold spl; rw [List.flatMap_append]; simp
theorem g_Beat (g : Nat) (p : Par) (f : Nat) (hf : p.f = (f : Int)) (hp7 : p.n ≤ 7) (he : 0 ≤ p.eps) (me : Int) (s : Sta) (ticks : Int) (rf : Bool) (rd : Int) (hr1 : -1152921504606846976 ≤ rd) (hr2 : rd ≤ 1152921504606846976) (l : List (Int × Int)) (hl : l.length = s.tl) (hnl : s.tl ≤ 1000) (ha : Option Addr) (hn : Nat) (hc : Nat) (hs : List Hr) (hhl : hs.length = hn) (hhn : hn ≤ 100000) : Spec prog 113 [.pointer (some ⟨g, 0, none⟩), .agg #[.int .i64 ticks, .slice ha hn hc, .bool rf, .int .i64 rd, .bool false, .slice none 0 0]] [blk g (pC p [.int .i64 s.lo, .int .i64 s.hi, .int .i64 s.time, .bool s.set, .int .i64 s.held, .int .i64 s.hops, .bool s.good, .slice s.ta s.tl s.tc, .int .i64 s.st, .int .i64 s.sn, .int .i64 s.life, .int .i64 me]) 122] [row s.ta s.tc 174 2 s.tl (spl l), row ha hc 138 15 hn (hrl hs)] (fun v Ln => ∃ s' m l2, v = .agg #[.int .i64 m.kind, .int .i64 m.src, .int .i64 m.lo, .int .i64 m.hi, .int .i64 m.held, .int .i64 m.hops, .bool m.good, .bool m.ref, .int .i64 m.slo, .int .i64 m.shi, .int .i64 m.pulse, .int .i64 m.st, .int .i64 m.sn, .slice m.ta m.tl m.tc] ∧ GateR p f me s ticks rf rd hs s' m ∧ l2.length = s'.tl ∧ goodB l2 = true ∧ Ln = [blk g (pC p [.int .i64 s'.lo, .int .i64 s'.hi, .int .i64 s'.time, .bool s'.set, .int .i64 s'.held, .int .i64 s'.hops, .bool s'.good, .slice s'.ta s'.tl s'.tc, .int .i64 s'.st, .int .i64 s'.sn, .int .i64 s'.life, .int .i64 me]) 122, row s'.ta s'.tc 174 2 s'.tl (spl l2), row m.ta m.tc 174 2 m.tl (spl l2)]) := by
 refine Spec.en func113 ntmps113 fun w0 => ?_
 refine G.sr fun _ K1 => ?_
 refine G.mk 3 .bx fun g3 => ?_
 refine G.mk 4 (.al z107) fun g4 => ?_
 refine G.nk K1 ?_
 refine G.Z fun _ K2 => ?_
 refine G.sr fun _ K3 => ?_
 refine G.M 14 ?_
 refine G.V 15 (.isnil q119) ?_
 refine G.nk K3 ?_
 refine G.no rfl ?_
 refine G.sk K2 ?_
 refine G.sr fun _ K4 => ?_
 refine G.M 17 ?_
 refine G.V 18 .nc ?_
 refine G.V 19 (.fa f122_0 0) ?_
 refine G.V 20 (.fa f84_0 0) ?_
 refine G.V 21 (.lda t23 2 (vs := [.int .i64 p.n, .int .i64 p.f, .int .i64 p.d, .int .i64 p.beat, .int .i64 p.rho, .int .i64 p.delay, .int .i64 p.jitter, .int .i64 p.eps, .int .i64 p.mu, .int .i64 p.hold, .int .i64 p.pulse, .int .i64 p.second])) ?_
 refine G.mk 5 (.al z23) fun g5 => ?_
 refine G.sn 0 (.st t23 0) rfl ?_
 refine G.nk K4 ?_
 refine G.sr fun _ K5 => ?_
 refine G.V 23 (.lda t23 0 (vs := [.int .i64 p.n, .int .i64 p.f, .int .i64 p.d, .int .i64 p.beat, .int .i64 p.rho, .int .i64 p.delay, .int .i64 p.jitter, .int .i64 p.eps, .int .i64 p.mu, .int .i64 p.hold, .int .i64 p.pulse, .int .i64 p.second])) ?_
 refine G.V 24 (.fa f103_3 3) ?_
 refine G.V 25 (.ld t3 2) ?_
 refine G.cp 26 [] []  e114 (a_Seen p rd hr1 hr2 he) ?_
 refine G.M 22 ?_
 refine G.V 27 .ext ?_
 refine G.V 28 .ext ?_
 refine G.mk 6 (.al z49) fun g6 => ?_
 refine G.sn 0 (.st t49 0) rfl ?_
 refine G.M 7 ?_
 refine G.nk K5 ?_
 refine G.sr fun _ K6 => ?_
 refine G.M2 29 30 ?_
 refine G.V 31 (.fa f103_2 2) ?_
 refine G.V 32 (.ld t4 3) ?_
 refine G.V 33 .pick ?_
 refine G.M 7 ?_
 refine G.nk K6 ?_
 refine G.sr fun _ K7 => ?_
 refine G.M 8 ?_
 refine G.nil ?_
 refine G.newRow 49 2 ?_
 refine K7 _ _ _ ?_
 refine G.meet (ι := {q : Nat × Nat × Nat × Nat × Option Addr × Nat × Nat × List (Int × Int) × Int × Int // q.2.2.2.2.2.2.2.1 = seenL p rf rd ∧ q.2.2.2.2.2.2.1 = q.2.2.2.2.2.2.2.1.length ∧ (q.2.2.2.2.2.2.2.2.1, q.2.2.2.2.2.2.2.2.2) = seenV p rf rd}) (fun ⟨⟨g3, g4, g5, g6, a8, c8, n8, l8, slo, shi⟩, h8, hn8, hsv⟩ => [(0, .pointer (some ⟨g, 0, none⟩)), (3, .pointer (some ⟨g3, 0, none⟩)), (4, .pointer (some ⟨g4, 0, none⟩)), (5, .pointer (some ⟨g5, 0, none⟩)), (6, .pointer (some ⟨g6, 0, none⟩)), (7, .bool rf), (8, .slice a8 n8 c8)]) (fun ⟨⟨g3, g4, g5, g6, a8, c8, n8, l8, slo, shi⟩, h8, hn8, hsv⟩ => [row a8 c8 49 2 n8 (spl l8), blk g6 [.int .i64 slo, .int .i64 shi] 49, blk g5 (pC p []) 23, blk g4 [.int .i64 0, .int .i64 0, .int .i64 0, .int .i64 0, .int .i64 0, .int .i64 0, .bool false, .bool false, .int .i64 0, .int .i64 0, .int .i64 0, .int .i64 0, .int .i64 0, .slice none 0 0] 107, blk g3 [.int .i64 ticks, .slice ha hn hc, .bool rf, .int .i64 rd, .bool false, .slice none 0 0] 103, blk g (pC p [.int .i64 s.lo, .int .i64 s.hi, .int .i64 s.time, .bool s.set, .int .i64 s.held, .int .i64 s.hops, .bool s.good, .slice s.ta s.tl s.tc, .int .i64 s.st, .int .i64 s.sn, .int .i64 s.life, .int .i64 me]) 122]) (fun ⟨⟨g3, g4, g5, g6, a8, c8, n8, l8, slo, shi⟩, h8, hn8, hsv⟩ => [row s.ta s.tc 174 2 s.tl (spl l), row ha hc 138 15 hn (hrl hs)]) (fun _ K9 => ?_) ?_
 refine G.sr fun _ K10 => ?_
 refine G.M 34 ?_
 refine G.nk K10 ?_
 refine G.cond rfl (fun hc34 => ?_) (fun hc34 => ?_)
 refine G.region ?_
 refine G.M 35 ?_
 refine G.V 36 (.lda t49 1 (vs := [.int .i64 (sbC rd p.eps), .int .i64 (addL [rd, p.eps])])) ?_
 refine G.row 37 (.sl s223 z49 [.int .i64 (sbC rd p.eps), .int .i64 (addL [rd, p.eps])]) fun g37 => ?_
 refine G.chg 38 1 (.app s223 z49 y49 1 0 (show 0 + 1 ≤ 1048576 by omega)) ?_
 rintro _ _ ⟨a11, c12, rfl, rfl⟩
 dsimp only [List.set]
 refine G.M 8 ?_
 refine G.nil ?_
 refine G.only [1, 1, 1, 1, 1, 1] ?_
 refine K9 _ _ _ ?_
 exact G.as ⟨(g3, g4, g5, g6, a11, c12, 1, [(sbC rd p.eps, addL [rd, p.eps])], sbC rd p.eps, addL [rd, p.eps]), by simp [seenL, *], rfl, by simp [seenV, *]⟩
 refine G.region ?_
 refine G.V 39 (.build z49 p49) ?_
 refine G.sn 1 (.st t49 1) rfl ?_
 refine G.nk K9 ?_
 exact G.as ⟨(g3, g4, g5, g6, none, 0, 0, [], 0, 0), by simp [seenL, *], rfl, by simp [seenV, *]⟩
 rintro ⟨⟨g3, g4, g5, g6, a8, c8, n8, l8, slo, shi⟩, h8, hn8, hsv⟩
 try dsimp only
 dsimp only at h8 hn8 hsv
 refine G.Z fun _ K13 => ?_
 refine G.Z fun _ K14 => ?_
 refine G.draw 10 [2, 4, 5] [] [] ?_
 refine D.V 1 41 2 .mv ?_
 refine D.V 2 42 6 .nc ?_
 refine D.V 3 43 14 (.fa f122_1 23) ?_
 refine D.V 5 45 46 (.fa f103_1 1) ?_
 refine D.V 9 49 558 .mv ?_
 refine D.T 0 40 559 (.lda t23 0 (vs := [.int .i64 p.n, .int .i64 p.f, .int .i64 p.d, .int .i64 p.beat, .int .i64 p.rho, .int .i64 p.delay, .int .i64 p.jitter, .int .i64 p.eps, .int .i64 p.mu, .int .i64 p.hold, .int .i64 p.pulse, .int .i64 p.second])) [2, 4, 5] [] ?_
 refine D.T 4 44 575 (.ld t3 2) [2, 4, 5] [] ?_
 refine D.T 6 46 639 (.ld t101 1) [2, 4, 5] [] ?_
 refine D.C 7 47 767 [] [1] [2, 4, 5] []  e115 (g_Told p me hp7 ha hn hc hs hhl hhn) ?_
 rintro _ _ ⟨a9, n9, c9, o, rfl, hn9, hpo, rfl⟩
 have hn97 : n9 ≤ 7 := by rw [hn9, hpo.length_eq]; exact told_len hp7
 refine D.V 8 48 1023 (.lenl s101) ?_
 refine D.done ?_
 refine K14 _ _ _ ?_
 refine G.block ?_
 refine G.lpR (ι := {q : Nat × Option Addr × Nat × Nat × List (Int × Int) // q.1 ≤ n9 ∧ q.2.2.2.2.length = q.2.2.2.1 ∧ q.2.2.2.2 = seenL p rf rd ++ refL p (o.take q.1)}) (fun ⟨⟨k, a8, c8, n8, l8⟩, hj, hl8, h8'⟩ => n9 - k) (fun ⟨⟨k, a8, c8, n8, l8⟩, hj, hl8, h8'⟩ => [(0, .pointer (some ⟨g, 0, none⟩)), (3, .pointer (some ⟨g3, 0, none⟩)), (4, .pointer (some ⟨g4, 0, none⟩)), (5, .pointer (some ⟨g5, 0, none⟩)), (6, .pointer (some ⟨g6, 0, none⟩)), (7, .bool rf), (8, .slice a8 n8 c8), (47, .slice a9 n9 c9), (48, .int .i64 (n9 : Int)), (49, .int .i64 (k : Int))]) (fun ⟨⟨k, a8, c8, n8, l8⟩, hj, hl8, h8'⟩ => [row a9 c9 138 15 n9 (hrl o), row a8 c8 49 2 n8 (spl l8), blk g6 [.int .i64 slo, .int .i64 shi] 49, blk g5 (pC p []) 23, blk g4 [.int .i64 0, .int .i64 0, .int .i64 0, .int .i64 0, .int .i64 0, .int .i64 0, .bool false, .bool false, .int .i64 0, .int .i64 0, .int .i64 0, .int .i64 0, .int .i64 0, .slice none 0 0] 107, blk g3 [.int .i64 ticks, .slice ha hn hc, .bool rf, .int .i64 rd, .bool false, .slice none 0 0] 103, blk g (pC p [.int .i64 s.lo, .int .i64 s.hi, .int .i64 s.time, .bool s.set, .int .i64 s.held, .int .i64 s.hops, .bool s.good, .slice s.ta s.tl s.tc, .int .i64 s.st, .int .i64 s.sn, .int .i64 s.life, .int .i64 me]) 122]) ?_ ?_
 exact G.at ⟨⟨0, a8, c8, n8, l8⟩, Nat.zero_le _, hn8.symm, by rw [h8]; simp [refL]⟩ (ts := [0, 3, 4, 5, 6, 7, 8, 47, 48, 49]) rfl rfl rfl rfl
 rintro ⟨⟨k, a8, c8, n8, l8⟩, hj, hl8, h8'⟩ _ K15
 try dsimp only at K15 ⊢
 dsimp only at hj hl8 h8'
 have hn812 : n8 ≤ 1 + k := by rw [← hl8, h8', List.length_append]; have e1 : (seenL p rf rd).length ≤ 1 := (by unfold seenL; split <;> simp); have e2 : (refL p (o.take k)).length ≤ k := (by unfold refL; rw [List.length_map]; exact Nat.le_trans (List.length_filter_le _ _) (by rw [List.length_take]; omega)); omega
 refine G.sr fun _ K16 => ?_
 refine G.V 50 .bin ?_
 refine G.nk K16 ?_
 refine G.Z fun _ K17 => ?_
 refine G.cond rfl (fun hc50 => ?_) (fun hc50 => ?_)
 have hk : k < n9 := by have := of_decide_eq_true hc50; omega
 obtain ⟨x, hx⟩ : ∃ x, o[k]? = some x := ⟨_, List.getElem?_eq_getElem (by omega)⟩
 refine G.sk K17 ?_
 refine G.Z fun _ K18 => ?_
 refine G.block ?_
 refine G.Z fun _ K19 => ?_
 refine G.base 0 (show 0 < n9 by omega) fun b20 hb_ => ?_
 subst hb_
 refine G.region ?_
 refine G.V 51 (.is s101 k hk) ?_
 refine G.V 52 (.lda t138 0 (hv := hrl_at hx)) ?_
 refine G.mk 10 (.al z138) fun g10 => ?_
 refine G.sn 0 (.st t138 0) rfl ?_
 refine G.nk K19 ?_
 refine G.sr fun _ K21 => ?_
 refine G.V 53 (.fa f138_0 0) ?_
 refine G.V 54 (.fa f107_6 7) ?_
 refine G.V 55 (.ld t4 0) ?_
 refine G.nk K21 ?_
 refine G.cond rfl (fun hc55 => ?_) (fun hc55 => ?_)
 refine G.region ?_
 refine G.M 56 ?_
 refine G.V 57 (.lda t23 4 (vs := [.int .i64 p.n, .int .i64 p.f, .int .i64 p.d, .int .i64 p.beat, .int .i64 p.rho, .int .i64 p.delay, .int .i64 p.jitter, .int .i64 p.eps, .int .i64 p.mu, .int .i64 p.hold, .int .i64 p.pulse, .int .i64 p.second])) ?_
 refine G.V 58 (.fa f138_0 0) ?_
 refine G.V 59 (.fa f107_7 8) ?_
 refine G.V 60 (.lda t49 0 (vs := [.int .i64 x.m.slo, .int .i64 x.m.shi])) ?_
 refine G.V 61 (.fa f138_1 14) ?_
 refine G.V 62 (.ld t3 0) ?_
 refine G.cp 63 [] []  e116 (c_Way p x.m.slo x.m.shi x.age) ?_
 refine G.row 64 (.sl s223 z49 [.int .i64 ((wayV p x.m.slo x.m.shi x.age).1), .int .i64 ((wayV p x.m.slo x.m.shi x.age).2)]) fun g64 => ?_
 refine G.chg 65 3 (.app s223 z49 y49 3 0 (show n8 + 1 ≤ 1048576 by omega)) ?_
 rintro _ _ ⟨a22, c23, rfl, rfl⟩
 dsimp only [List.set]
 refine G.M 8 ?_
 refine G.nk K18 ?_
 refine G.region ?_
 refine G.V 66 .bw ?_
 refine G.M 49 ?_
 refine G.nil ?_
 refine G.only [2, 2, 2, 2, 2, 2, 2] ?_
 refine K15 _ _ _ ?_
 exact G.ls ⟨⟨k + 1, a22, c23, n8 + 1, l8 ++ [wayV p x.m.slo x.m.shi x.age]⟩, hk, by simp [hl8], by rw [ref_take hx, ← List.append_assoc, ← h8']; try simp [*]⟩ (hL := (by first | rfl | (simp only [spl_snoc]; done)))
 refine G.sk K18 ?_
 refine G.region ?_
 refine G.V 66 .bw ?_
 refine G.M 49 ?_
 refine G.nil ?_
 refine G.only [1, 1, 1, 1, 1, 1, 1] ?_
 refine K15 _ _ _ ?_
 exact G.ls ⟨⟨k + 1, a8, c8, n8, l8⟩, hk, by exact hl8, by rw [ref_take hx, ← List.append_assoc, ← h8']; try simp [*]⟩ (hL := (by first | rfl | (simp only [spl_snoc]; done)))
 have hkn : n9 = k := by have := of_decide_eq_false hc50; omega
 subst hkn
 rw [show o.take n9 = o from by rw [hn9]; exact List.take_length] at h8'
 refine G.exit ?_
 refine K13 _ _ _ ?_
 refine G.sr fun _ K24 => ?_
 refine G.M 67 ?_
 refine G.V 68 .nc ?_
 refine G.V 69 (.fa f122_0 0) ?_
 refine G.V 70 (.fa f84_1 12) ?_
 refine G.V 71 (.lda t70 6 (vs := [.int .i64 s.lo, .int .i64 s.hi, .int .i64 s.time, .bool s.set, .int .i64 s.held, .int .i64 s.hops, .bool s.good, .slice s.ta s.tl s.tc, .int .i64 s.st, .int .i64 s.sn, .int .i64 s.life])) ?_
 refine G.mk 11 (.al z70) fun g11 => ?_
 refine G.sn 0 (.st t70 0) rfl ?_
 refine G.nk K24 ?_
 refine G.Z fun _ K25 => ?_
 refine G.draw 23 [4, 6, 7] [] [] ?_
 refine D.V 1 73 2 .mv ?_
 refine D.V 2 74 6 .nc ?_
 refine D.V 3 75 14 (.fa f122_0 0) ?_
 refine D.V 4 76 30 (.fa f84_1 12) ?_
 refine D.V 5 77 62 (.fa f70_0 12) ?_
 refine D.V 7 79 190 (.fa f103_0 0) ?_
 refine D.V 10 82 1214 .mv ?_
 refine D.V 11 83 3262 .nc ?_
 refine D.V 12 84 7358 (.fa f122_0 0) ?_
 refine D.V 13 85 15550 (.fa f84_1 12) ?_
 refine D.V 14 86 31934 (.fa f70_3 16) ?_
 refine D.T 0 72 31935 (.lda t23 0 (vs := [.int .i64 p.n, .int .i64 p.f, .int .i64 p.d, .int .i64 p.beat, .int .i64 p.rho, .int .i64 p.delay, .int .i64 p.jitter, .int .i64 p.eps, .int .i64 p.mu, .int .i64 p.hold, .int .i64 p.pulse, .int .i64 p.second])) [4, 6, 7] [] ?_
 refine D.T 6 78 31999 (.lda t49 2 (vs := [.int .i64 s.lo, .int .i64 s.hi])) [4, 6, 7] [] ?_
 refine D.T 8 80 32255 (.ld t3 1) [4, 6, 7] [] ?_
 refine D.T 15 87 65023 (.ld t3 2) [4, 6, 7] [] ?_
 refine D.C 9 81 65535 [] [] [4, 6, 7] []  e117 (c_Hold p s.lo s.hi ticks) ?_
 rintro _ _ ⟨rfl, rfl⟩
 refine D.V 17 89 196607 (.fa f70_0 0) ?_
 refine D.C 16 88 262143 [] [] [4, 6, 7] []  e118 (a_More s.held) ?_
 rintro _ _ ⟨rfl, rfl⟩
 refine D.sto 18 524287 0 (.st t49 0) [4, 6, 7] []  rfl ?_
 dsimp only [List.set, sets, Value.cells, List.zipIdx, List.foldl]
 refine D.V 19 90 1048575 (.fa f70_3 4) ?_
 refine D.sto 20 2097151 0 (.st t3 0) [4, 6, 7] []  rfl ?_
 dsimp only [List.set, sets, Value.cells, List.zipIdx, List.foldl]
 refine D.V 21 91 4194303 (.fa f70_4 5) ?_
 refine D.sto 22 8388607 0 (.st t3 0) [4, 6, 7] []  rfl ?_
 dsimp only [List.set, sets, Value.cells, List.zipIdx, List.foldl]
 refine D.done ?_
 refine K25 _ _ _ ?_
 refine G.Z fun _ K26 => ?_
 refine G.sr fun _ K27 => ?_
 refine G.V 93 (.lda t23 4 (vs := [.int .i64 p.n, .int .i64 p.f, .int .i64 p.d, .int .i64 p.beat, .int .i64 p.rho, .int .i64 p.delay, .int .i64 p.jitter, .int .i64 p.eps, .int .i64 p.mu, .int .i64 p.hold, .int .i64 p.pulse, .int .i64 p.second])) ?_
 refine G.M 94 ?_
 refine G.C 95 [] [4]  e119 (a_Fuse p f hf a8 n8 c8 l8 hl8 (by omega)) ?_
 rintro _ _ ⟨ok, lo, hi, rfl, hF, rfl⟩
 refine G.M 92 ?_
 refine G.V 96 .ext ?_
 refine G.V 97 .ext ?_
 refine G.mk 12 (.al z49) fun g12 => ?_
 refine G.sn 0 (.st t49 0) rfl ?_
 refine G.M 13 ?_
 refine G.nk K27 ?_
 refine G.sr fun _ K28 => ?_
 refine G.M 98 ?_
 refine G.nk K28 ?_
 refine G.cond rfl (fun hc98 => ?_) (fun hc98 => ?_)
 refine G.region ?_
 refine G.V 99 (.lda t49 0 (vs := [.int .i64 lo, .int .i64 hi])) ?_
 refine G.V 100 (.fa f70_0 0) ?_
 refine G.sn 1 (.st t49 1) rfl ?_
 refine G.V 101 (.fa f70_3 4) ?_
 refine G.sn 1 (.st t3 1) rfl ?_
 refine G.V 102 (.fa f70_5 6) ?_
 refine G.sn 1 (.st t4 1) rfl ?_
 refine G.nk K26 ?_
 refine G.Z fun _ K29 => ?_
 refine G.sr fun _ K30 => ?_
 refine G.V 103 (.fa f103_4 4) ?_
 refine G.V 104 (.ld t4 7) ?_
 refine G.nk K30 ?_
 refine G.no rfl ?_
 refine G.sk K29 ?_
 refine G.Z fun _ K31 => ?_
 refine G.draw 7 [1, 7] [] [] ?_
 refine D.V 0 108 1 .mv ?_
 refine D.V 1 109 3 .nc ?_
 refine D.V 2 110 7 (.fa f122_0 0) ?_
 refine D.V 3 111 15 (.fa f103_0 0) ?_
 refine D.T 4 112 31 (.ld t3 1) [1, 7] [] ?_
 refine D.T 5 113 63 (.lda t70 0 (vs := [.int .i64 lo, .int .i64 hi, .int .i64 s.time, .bool s.set, .int .i64 0, .int .i64 0, .bool true, .slice s.ta s.tl s.tc, .int .i64 s.st, .int .i64 s.sn, .int .i64 s.life])) [1, 7] [] ?_
 refine D.C 6 114 127 [8] [0] [1, 7] []  e120 (f_Step g p s [.int .i64 me] 122 ticks ⟨lo, hi, s.time, s.set, 0, 0, true, s.ta, s.tl, s.tc, s.st, s.sn, s.life⟩ l hl hnl) ?_
 rintro _ _ ⟨s1, l2, rfl, hS, hl2, hg2, rfl⟩
 have hn2 := good_len hg2
 refine D.done ?_
 refine K31 _ _ _ ?_
 refine G.Z fun _ K32 => ?_
 refine G.draw 11 [6] [] [] ?_
 refine D.V 0 115 1 .mv ?_
 refine D.V 1 116 3 .nc ?_
 refine D.V 2 117 7 (.fa f122_0 0) ?_
 refine D.V 3 118 15 .mv ?_
 refine D.V 4 119 31 .nc ?_
 refine D.V 5 120 63 (.fa f122_1 23) ?_
 refine D.V 7 122 191 .mv ?_
 refine D.T 8 123 447 (.lda t49 0 (vs := [.int .i64 slo, .int .i64 shi])) [6] [] ?_
 refine D.one 6 121 511 (.ld t3 0) [6] [] ?_
 refine D.C 9 124 1023 [0] [2] [5] []  e121 (g_Say g p s1 [.int .i64 me] 122 1 me rf slo shi l2 hl2 (by omega)) ?_
 rintro _ _ ⟨m, rfl, hm, rfl⟩
 refine D.sto 10 2047 9 (.st t107 9) [7] []  rfl ?_
 dsimp only [List.set, sets, Value.cells, List.zipIdx, List.foldl]
 refine D.done ?_
 refine K32 _ _ _ ?_
 exact G.ret (G.F [0, 1, 0] (.cell Tryz.results113 t107 9) ⟨{ s1 with st := m.st, sn := m.sn }, m, l2, rfl, ⟨⟨o, ok, lo, hi, hpo, by rw [← h8']; exact hF, by have := hS.to hm.st; simp [nextS, holdS, *]⟩, by rw [← hsv]; exact hm.to _ _⟩, hl2, hg2, rfl⟩)
 refine G.sk K26 ?_
 refine G.Z fun _ K33 => ?_
 refine G.sr fun _ K34 => ?_
 refine G.V 103 (.fa f103_4 4) ?_
 refine G.V 104 (.ld t4 7) ?_
 refine G.nk K34 ?_
 refine G.no rfl ?_
 refine G.sk K33 ?_
 refine G.Z fun _ K35 => ?_
 refine G.draw 7 [1, 7] [] [] ?_
 refine D.V 0 108 1 .mv ?_
 refine D.V 1 109 3 .nc ?_
 refine D.V 2 110 7 (.fa f122_0 0) ?_
 refine D.V 3 111 15 (.fa f103_0 0) ?_
 refine D.T 4 112 31 (.ld t3 1) [1, 7] [] ?_
 refine D.T 5 113 63 (.lda t70 0 (vs := [.int .i64 (addL [s.lo, sbC ticks p.rho]), .int .i64 (addL [s.hi, addL [ticks, p.rho]]), .int .i64 s.time, .bool s.set, .int .i64 (moreV s.held), .int .i64 0, .bool s.good, .slice s.ta s.tl s.tc, .int .i64 s.st, .int .i64 s.sn, .int .i64 s.life])) [1, 7] [] ?_
 refine D.C 6 114 127 [8] [0] [1, 7] []  e120 (f_Step g p s [.int .i64 me] 122 ticks ⟨(addL [s.lo, sbC ticks p.rho]), (addL [s.hi, addL [ticks, p.rho]]), s.time, s.set, (moreV s.held), 0, s.good, s.ta, s.tl, s.tc, s.st, s.sn, s.life⟩ l hl hnl) ?_
 rintro _ _ ⟨s1, l2, rfl, hS, hl2, hg2, rfl⟩
 have hn2 := good_len hg2
 refine D.done ?_
 refine K35 _ _ _ ?_
 refine G.Z fun _ K36 => ?_
 refine G.draw 11 [6] [] [] ?_
 refine D.V 0 115 1 .mv ?_
 refine D.V 1 116 3 .nc ?_
 refine D.V 2 117 7 (.fa f122_0 0) ?_
 refine D.V 3 118 15 .mv ?_
 refine D.V 4 119 31 .nc ?_
 refine D.V 5 120 63 (.fa f122_1 23) ?_
 refine D.V 7 122 191 .mv ?_
 refine D.T 8 123 447 (.lda t49 0 (vs := [.int .i64 slo, .int .i64 shi])) [6] [] ?_
 refine D.one 6 121 511 (.ld t3 0) [6] [] ?_
 refine D.C 9 124 1023 [0] [2] [5] []  e121 (g_Say g p s1 [.int .i64 me] 122 1 me rf slo shi l2 hl2 (by omega)) ?_
 rintro _ _ ⟨m, rfl, hm, rfl⟩
 refine D.sto 10 2047 9 (.st t107 9) [7] []  rfl ?_
 dsimp only [List.set, sets, Value.cells, List.zipIdx, List.foldl]
 refine D.done ?_
 refine K36 _ _ _ ?_
 exact G.ret (G.F [0, 1, 0] (.cell Tryz.results113 t107 9) ⟨{ s1 with st := m.st, sn := m.sn }, m, l2, rfl, ⟨⟨o, ok, lo, hi, hpo, by rw [← h8']; exact hF, by have := hS.to hm.st; simp [nextS, holdS, *]⟩, by rw [← hsv]; exact hm.to _ _⟩, hl2, hg2, rfl⟩)
end Go.Proofs.YtbmhgopjblnfnaaGreat.S
namespace Go.Proofs
open Go.Shelf
def Tryz.lays189_ren : Go.Shelf.Ren := ⟨fun | 189 => 150 | 125 => 155 | 257 => 154 | 128 => 165 | 129 => 91 | 294 => 156 | 295 => 157 | 296 => 158 | 297 => 159 | 298 => 160 | 299 => 161 | 216 => 162 | 300 => 163 | 301 => 164 | 328 => 166 | 329 => 167 | 330 => 168 | 331 => 169 | 332 => 170 | 215 => 171 | 343 => 172 | n => n, fun | 28 => 24 | 3 => 3 | 46 => 116 | 0 => 0 | 51 => 196 | 53 => 143 | 4 => 4 | 183 => 265 | 182 => 264 | 131 => 248 | 5 => 5 | 9 => 9 | 218 => 272 | 222 => 172 | 228 => 277 | 229 => 257 | n => n, fun | n => n⟩
theorem Tryz.lays189 : Go.Proofs.Lays.n189 Tryz.prog Tryz.lays189_ren := {
 mixed := by kernel_rfl
 f125 := Tryz.func155.trans (congrArg some (by kernel_rfl))
 f128 := Tryz.func165.trans (congrArg some (by kernel_rfl))
 f129 := Tryz.func91.trans (congrArg some (by kernel_rfl))
 f189 := Tryz.func150.trans (congrArg some (by kernel_rfl))
 f215 := Tryz.func171.trans (congrArg some (by kernel_rfl))
 f216 := Tryz.func162.trans (congrArg some (by kernel_rfl))
 f257 := Tryz.func154.trans (congrArg some (by kernel_rfl))
 f294 := Tryz.func156.trans (congrArg some (by kernel_rfl))
 f295 := Tryz.func157.trans (congrArg some (by kernel_rfl))
 f296 := Tryz.func158.trans (congrArg some (by kernel_rfl))
 f297 := Tryz.func159.trans (congrArg some (by kernel_rfl))
 f298 := Tryz.func160.trans (congrArg some (by kernel_rfl))
 f299 := Tryz.func161.trans (congrArg some (by kernel_rfl))
 f300 := Tryz.func163.trans (congrArg some (by kernel_rfl))
 f301 := Tryz.func164.trans (congrArg some (by kernel_rfl))
 f328 := Tryz.func166.trans (congrArg some (by kernel_rfl))
 f329 := Tryz.func167.trans (congrArg some (by kernel_rfl))
 f330 := Tryz.func168.trans (congrArg some (by kernel_rfl))
 f331 := Tryz.func169.trans (congrArg some (by kernel_rfl))
 f332 := Tryz.func170.trans (congrArg some (by kernel_rfl))
 f343 := Tryz.func172.trans (congrArg some (by kernel_rfl))
 t0 := Tryz.underlying0
 a0 := Tryz.isAgg0
 z0 := Tryz.sizeOf0
 v0 := Tryz.zeroValue0
 t3 := Tryz.underlying3
 a3 := Tryz.isAgg3
 z3 := Tryz.sizeOf3
 v3 := Tryz.zeroValue3
 t4 := Tryz.underlying4
 a4 := Tryz.isAgg4
 z4 := Tryz.sizeOf4
 v4 := Tryz.zeroValue4
 t5 := Tryz.underlying5
 a5 := Tryz.isAgg5
 z5 := Tryz.sizeOf5
 v5 := Tryz.zeroValue5
 t9 := Tryz.underlying9
 a9 := Tryz.isAgg9
 z9 := Tryz.sizeOf9
 v9 := Tryz.zeroValue9
 t28 := Tryz.underlying24
 a28 := Tryz.isAgg24
 z28 := Tryz.sizeOf24
 v28 := Tryz.zeroValue24
 t46 := Tryz.underlying116
 a46 := Tryz.isAgg116
 z46 := Tryz.sizeOf116
 v46 := Tryz.zeroValue116
 t51 := Tryz.underlying196
 a51 := Tryz.isAgg196
 z51 := Tryz.sizeOf196
 v51 := Tryz.zeroValue196
 t53 := Tryz.underlying143
 a53 := Tryz.isAgg143
 z53 := Tryz.sizeOf143
 v53 := Tryz.zeroValue143
 t131 := Tryz.underlying248
 a131 := Tryz.isAgg248
 z131 := Tryz.sizeOf248
 v131 := Tryz.zeroValue248
 t182 := Tryz.underlying264
 a182 := Tryz.isAgg264
 z182 := Tryz.sizeOf264
 v182 := Tryz.zeroValue264
 t183 := Tryz.underlying265
 a183 := Tryz.isAgg265
 z183 := Tryz.sizeOf265
 v183 := Tryz.zeroValue265
 t218 := Tryz.underlying272
 a218 := Tryz.isAgg272
 z218 := Tryz.sizeOf272
 v218 := Tryz.zeroValue272
 t222 := Tryz.underlying172
 a222 := Tryz.isAgg172
 z222 := Tryz.sizeOf172
 v222 := Tryz.zeroValue172
 t228 := Tryz.underlying277
 a228 := Tryz.isAgg277
 z228 := Tryz.sizeOf277
 v228 := Tryz.zeroValue277
 t229 := Tryz.underlying257
 a229 := Tryz.isAgg257
 z229 := Tryz.sizeOf257
 v229 := Tryz.zeroValue257 }
open Go.Sort Go.RowKit in
theorem Tryz.slices_Sort_int (blk off cap : Nat) (zs : List Int) (w : World) (hH : Holds (Value.int .i64) w blk off zs.toArray) (hblk : blk < w.heap.size) (hsz : zs.length < 4611686018427387904) :
  Calls Tryz.prog 150 #[.slice (some ⟨blk, off, none⟩) zs.length cap] w fun e w' =>
   e = .returned (.tuple #[]) ∧ ∃ n os, w' = grow (putRow (Value.int .i64) (Sort.ahead w n) blk off (zs.mergeSort fun x y => decide (x ≤ y)).toArray) os := Any.slices_Sort_int Tryz.lays189 blk off cap zs w hH hblk hsz
open Go.RowKit Go.Sort in
theorem Tryz.slices_Sort_int_none (p : Option Addr) (cap : Nat) (w : World) :
  Calls Tryz.prog 150 #[.slice p 0 cap] w fun e w' => e = .returned (.tuple #[]) ∧ w' = w := Any.slices_Sort_int_none Tryz.lays189 p cap w
end Go.Proofs
namespace Go.Proofs.YtbmhgopjblnfnaaGreat.S
open Go Go.RowKit Go.Proofs.YtbmhgopjblnfnaaGreatW.PrintLast Tryz
theorem q_Sort (g n c : Nat) (l : List Int) (r : List Value) (hl : l.length = n) (hn : n ≤ 16) : Spec prog 150 [.slice (some ⟨g, 0, none⟩) n c] [blk g (ints l ++ r) 3] [] (fun v Ln => ∃ l', v = .tuple #[] ∧ l'.length = n ∧ Ln = [blk g (ints l' ++ r) 3]) := by
 subst hl
 intro w h1 h2 h3 h4
 have hb : w.heap[g]? = some (.cells (ints l ++ r).toArray 3 (0, 0)) := h1 _ List.mem_cons_self
 have hlt := lt_of_some hb
 have hc : ∀ j, j < l.length → (ints l ++ r)[j]? = some (.int .i64 l.toArray[j]!) := fun j hj => by
  rw [List.getElem?_append_left (by simpa [ints] using hj)]
  simp [ints, hj]
 refine (Tryz.slices_Sort_int g 0 c l w (fun j hj => ?_) hlt (by omega)).mono fun e w' ⟨he, k, os, hw⟩ => ?_
 ·have hj' : j < l.length := by simpa using hj
  simp only [World.cell?, World.frozen?, hb, Nat.zero_add]
  exact ⟨by simpa using hc j hj', by simp⟩
 generalize hd : (l.mergeSort fun x y => decide (x ≤ y)) = d at hw
 have hdl : d.length = l.length := by rw [← hd]; exact List.length_mergeSort ..
 have hb' : w'.heap[g]? = some (.cells (ints d ++ r).toArray 3 (0, 0)) := by
  subst hw
  have e1 : (Go.Sort.putRow (Value.int .i64) (Go.Sort.ahead w k) g 0 d.toArray).heap[g]? = some (.cells (ints d ++ r).toArray 3 (0, 0)) := by
   simp only [Go.Sort.putRow, Go.Sort.mapBlock, Go.Sort.ahead, Array.getElem?_modify, if_true, hb, Option.map_some, Go.Sort.onCells, Option.some.injEq, Obj.cells.injEq, and_true]
   apply Array.ext'
   apply List.ext_getElem?
   intro j
   simp only [Go.Sort.putCells, Array.toList_mapIdx, List.getElem?_mapIdx, Nat.zero_le, true_and, Nat.zero_add, Nat.sub_zero, List.size_toArray]
   by_cases hj : j < d.length
   ·rw [hc j (by omega), List.getElem?_append_left (by simpa [ints] using hj)]
    simp [ints, hj]
   ·rw [List.getElem?_append_right (by simp [ints]; omega), List.getElem?_append_right (by simp [ints]; omega)]
    have hj2 : ¬ j < l.length := by omega
    simp only [ints, List.length_map, hdl, if_neg hj2]
    cases r[j - l.length]? <;> rfl
  have hs : g < (Go.Sort.putRow (Value.int .i64) (Go.Sort.ahead w k) g 0 d.toArray).heap.size := lt_of_some e1
  show ((Go.Sort.putRow (Value.int .i64) (Go.Sort.ahead w k) g 0 d.toArray).heap ++ os)[g]? = _
  rw [Array.getElem?_append_left hs, e1]
 refine ⟨_, [blk g (ints d ++ r) 3], he, ⟨d, rfl, hdl, rfl⟩, ?_, fun x hx => ?_, by simp [ids, blk], fun q hq => .inl (by simpa [ids, blk] using hq)⟩
 ·subst hw
  refine ⟨rfl, rfl, rfl, ?_, fun q hq hn => ?_⟩
  ·show w.heap.size ≤ ((Go.Sort.putRow (Value.int .i64) (Go.Sort.ahead w k) g 0 d.toArray).heap ++ os).size
   simp [Go.Sort.putRow, Go.Sort.mapBlock, Go.Sort.ahead]
  ·have hne : g ≠ q := fun e => hn (by simp [ids, blk, e])
   show ((Go.Sort.putRow (Value.int .i64) (Go.Sort.ahead w k) g 0 d.toArray).heap ++ os)[q]? = _
   rw [Array.getElem?_append_left (by simpa [Go.Sort.putRow, Go.Sort.mapBlock, Go.Sort.ahead] using hq)]
   simp [Go.Sort.putRow, Go.Sort.mapBlock, Go.Sort.ahead, Array.getElem?_modify, hne]
 ·simp at hx
  subst hx
  exact hb'
theorem q_Sort0' (a : Option Addr) (n c : Nat) (h : n = 0) : Spec prog 150 [.slice a n c] [] [] (fun v Ln => v = .tuple #[] ∧ Ln = []) := by
 subst h
 intro w h1 h2 h3 h4
 exact (Tryz.slices_Sort_int_none a c w).mono fun e w' ⟨he, hw⟩ => ⟨_, [], he, ⟨rfl, rfl⟩, by subst hw; exact Fr.refl _ _, by simp, by simp [ids], by simp [ids]⟩
end Go.Proofs.YtbmhgopjblnfnaaGreat.S
namespace Go.Proofs.YtbmhgopjblnfnaaGreat.S
open Go Go.RowKit Go.Proofs.YtbmhgopjblnfnaaGreatW.PrintLast Go.MapKept Tryz
structure Nb where
 (key age quiet : Int)
 born : Nat
def Nb.ent (x : Nb) : MapEntry := { key := .int .i64 x.key, val := .agg #[.int .i64 x.age, .int .i64 x.quiet], born := x.born }
def nbs (l : List Nb) : List MapEntry := l.map Nb.ent
abbrev nmap (r : Nat) (l : List Nb) (clock : Nat) : Ent := mapE r (nbs l) clock
structure NOk (l : List Nb) (clock : Nat) : Prop where
 kn : (l.map (·.key)).Nodup
 bn : (l.map (·.born)).Nodup
 bl : ∀ x ∈ l, x.born < clock
def getN (k : Int) (l : List Nb) : Option Nb := l.find? fun x => x.key == k
def hasN (k : Int) (l : List Nb) : Bool := (getN k l).isSome
def ageN (k : Int) (l : List Nb) : Int := ((getN k l).map (·.age)).getD 0
def quietN (k : Int) (l : List Nb) : Int := ((getN k l).map (·.quiet)).getD 0
def setN (k a q : Int) (l : List Nb) (clock : Nat) : List Nb × Nat := if hasN k l = true then (l.map fun y => if y.key = k then { y with age := a, quiet := q } else y, clock) else (l ++ [⟨k, a, q, clock⟩], clock + 1)
theorem nbs_keys (l : List Nb) : ∀ x ∈ nbs l, IsKey (.int .i64) x.key := by
 intro x hx
 obtain ⟨y, _, rfl⟩ := List.mem_map.1 hx
 rfl
theorem at_nodup {l : List Nb} (h : (l.map (·.key)).Nodup) {i j : Nat} {x y : Nb} (hx : l[i]? = some x) (hy : l[j]? = some y) (hk : x.key = y.key) : i = j := by
 obtain ⟨hi, rfl⟩ := List.getElem?_eq_some_iff.1 hx
 obtain ⟨hj, rfl⟩ := List.getElem?_eq_some_iff.1 hy
 have := (List.nodup_iff_pairwise_ne.1 h)
 rcases Nat.lt_trichotomy i j with q | q | q
 ·exact absurd hk (by have := List.pairwise_iff_getElem.1 this i j (by simpa using hi) (by simpa using hj) q; simpa using this)
 ·exact q
 ·exact absurd hk.symm (by have := List.pairwise_iff_getElem.1 this j i (by simpa using hj) (by simpa using hi) q; simpa using this)
theorem getN_of {l : List Nb} (h : (l.map (·.key)).Nodup) {j : Nat} {x : Nb} (hx : l[j]? = some x) : getN x.key l = some x := by
 unfold getN
 cases hf : l.find? (fun y => y.key == x.key) with
 | none => exact absurd (List.find?_eq_none.1 hf x (List.mem_of_getElem? hx)) (by simp)
 | some y =>
  have h1 := List.mem_of_find?_eq_some hf
  have h2 : y.key = x.key := by simpa using List.find?_some hf
  obtain ⟨i, hi, rfl⟩ := List.getElem_of_mem h1
  obtain rfl := at_nodup h (List.getElem?_eq_getElem hi) hx h2
  rw [List.getElem?_eq_getElem hi] at hx; exact hx
theorem found_nb {l : List Nb} (h : (l.map (·.key)).Nodup) {k : Int} {res : Option (Nat × MapEntry)} (hf : Found (nbs l) (.int .i64 k) res) : (res = none ∧ getN k l = none) ∨ ∃ j x, res = some (j, x.ent) ∧ l[j]? = some x ∧ x.key = k ∧ getN k l = some x := by
 rcases hf with ⟨rfl, hn⟩ | ⟨j, e, rfl, hj, he⟩
 ·refine .inl ⟨rfl, ?_⟩
  unfold getN
  rw [List.find?_eq_none]
  intro x hx
  have := hn x.ent (List.mem_map.2 ⟨x, hx, rfl⟩)
  simp only [Nb.ent, ne_eq, Value.int.injEq, true_and] at this
  simpa using this
 ·unfold nbs at hj
  rw [List.getElem?_map] at hj
  obtain ⟨x, hx, rfl⟩ := Option.map_eq_some_iff.1 hj
  simp only [Nb.ent, Value.int.injEq, true_and] at he
  subst he
  exact .inr ⟨j, x, rfl, hx, rfl, getN_of h hx⟩
theorem found_uniq {l : List Nb} (h : (l.map (·.key)).Nodup) {k : Int} {res res' : Option (Nat × MapEntry)} (h1 : Found (nbs l) (.int .i64 k) res) (h2 : Found (nbs l) (.int .i64 k) res') : res' = res := by
 rcases found_nb h h1 with ⟨rfl, g1⟩ | ⟨j, x, rfl, hj, hk, g1⟩ <;> rcases found_nb h h2 with ⟨rfl, g2⟩ | ⟨i, y, rfl, hi, hk', g2⟩
 ·rfl
 ·rw [g1] at g2; cases g2
 ·rw [g1] at g2; cases g2
 ·obtain rfl := at_nodup h hj hi (hk.trans hk'.symm)
  rw [hj] at hi; cases hi; rfl
theorem put_nb {l : List Nb} {clock : Nat} (h : NOk l clock) {k a q : Int} {res : Option (Nat × MapEntry)} (hf : Found (nbs l) (.int .i64 k) res) : mapPut (nbs l) clock (.int .i64 k) (.agg #[.int .i64 a, .int .i64 q]) res = (nbs (setN k a q l clock).1, (setN k a q l clock).2) := by
 rcases found_nb h.kn hf with ⟨rfl, g1⟩ | ⟨j, x, rfl, hj, hk, g1⟩
 ·have : hasN k l = false := by unfold hasN; rw [g1]; rfl
  unfold setN mapPut
  rw [this]
  simp [nbs, Nb.ent]
 ·have : hasN k l = true := by unfold hasN; rw [g1]; rfl
  unfold setN mapPut
  rw [this]
  simp only [if_true, Prod.mk.injEq, and_true]
  apply List.ext_getElem?
  intro i
  rw [List.getElem?_modify, nbs, nbs, List.getElem?_map, List.getElem?_map, List.getElem?_map]
  cases hi : l[i]? with
  | none => simp
  | some y =>
   simp only [Option.map_some]
   by_cases e : j = i
   ·subst e
    rw [hj] at hi
    cases hi
    simp [Nb.ent, hk]
   ·have : y.key ≠ k := fun q => e (at_nodup h.kn hj hi (hk.trans q.symm))
    simp [e, this]
theorem NOk.set {l : List Nb} {clock : Nat} (h : NOk l clock) (k a q : Int) : NOk (setN k a q l clock).1 (setN k a q l clock).2 := by
 unfold setN
 split
 ·refine ⟨?_, ?_, ?_⟩
  ·have : (l.map fun y => if y.key = k then { y with age := a, quiet := q } else y).map (·.key) = l.map (·.key) := by
    rw [List.map_map]; apply List.map_congr_left; intro y _; simp only [Function.comp]; split <;> rfl
   dsimp only; rw [this]; exact h.kn
  ·have : (l.map fun y => if y.key = k then { y with age := a, quiet := q } else y).map (·.born) = l.map (·.born) := by
    rw [List.map_map]; apply List.map_congr_left; intro y _; simp only [Function.comp]; split <;> rfl
   dsimp only; rw [this]; exact h.bn
  ·intro x hx
   obtain ⟨y, hy, rfl⟩ := List.mem_map.1 hx
   have := h.bl y hy
   split <;> exact this
 ·next hn =>
  have hno : ∀ x ∈ l, x.key ≠ k := by
   intro x hx e
   subst e
   obtain ⟨i, hi, rfl⟩ := List.getElem_of_mem hx
   have := getN_of h.kn (List.getElem?_eq_getElem hi)
   unfold hasN at hn
   rw [this] at hn
   exact hn rfl
  refine ⟨?_, ?_, ?_⟩
  ·dsimp only
   rw [List.map_append, List.nodup_append]
   refine ⟨h.kn, by simp, ?_⟩
   intro x hx y hy e
   simp at hy
   subst hy e
   obtain ⟨z, hz, rfl⟩ := List.mem_map.1 hx
   exact hno z hz rfl
  ·dsimp only
   rw [List.map_append, List.nodup_append]
   refine ⟨h.bn, by simp, ?_⟩
   intro x hx y hy e
   simp at hy
   subst hy e
   obtain ⟨z, hz, e⟩ := List.mem_map.1 hx
   have := h.bl z hz
   omega
  ·intro x hx
   rcases List.mem_append.1 hx with z | z
   ·have := h.bl x z; dsimp only; omega
   ·simp at z; subst z; dsimp only; omega
theorem NOk.filter {l : List Nb} {clock : Nat} (h : NOk l clock) (f : Nb → Bool) : NOk (l.filter f) clock :=
 ⟨h.kn.sublist (List.filter_sublist.map _), h.bn.sublist (List.filter_sublist.map _), fun x hx => h.bl x (List.mem_filter.1 hx).1⟩
theorem del_nb {l : List Nb} {clock : Nat} (h : NOk l clock) {k : Int} {res : Option (Nat × MapEntry)} (hf : Found (nbs l) (.int .i64 k) res) : (res.map fun x => (nbs l).eraseIdx x.1).getD (nbs l) = nbs (l.filter fun x => x.key != k) := by
 rcases found_nb h.kn hf with ⟨rfl, g1⟩ | ⟨j, x, rfl, hj, hk, g1⟩
 ·have : l.filter (fun x => x.key != k) = l := by
   rw [List.filter_eq_self]
   intro y hy
   unfold getN at g1
   have := List.find?_eq_none.1 g1 y hy
   simpa using this
  rw [this]; rfl
 ·simp only [Option.map_some, Option.getD_some]
  unfold nbs
  rw [← Go.ChangeMaps.map_eraseIdx]
  congr 1
  have key : ∀ (l : List Nb) (j : Nat), (l.map (·.key)).Nodup → l[j]? = some x → l.eraseIdx j = l.filter fun y => y.key != x.key := by
   intro l
   induction l with
   | nil => intro j _ hj; simp at hj
   | cons y l ih =>
    intro j hn hj
    rw [List.map_cons, List.nodup_cons] at hn
    cases j with
    | zero =>
     simp at hj; subst hj
     rw [List.eraseIdx_cons_zero, List.filter_cons_of_neg (by simp)]
     symm
     rw [List.filter_eq_self]
     intro z hz
     have : z.key ≠ y.key := fun e => hn.1 (e ▸ List.mem_map.2 ⟨z, hz, rfl⟩)
     simpa using this
    | succ j =>
     simp at hj
     have hxm : x ∈ l := List.mem_of_getElem? hj
     have : y.key ≠ x.key := fun e => hn.1 (e ▸ List.mem_map.2 ⟨x, hxm, rfl⟩)
     rw [List.eraseIdx_cons_succ, List.filter_cons_of_pos (by simpa using this), ih j hn.2 hj]
  subst hk
  exact key l j h.kn hj
section
variable {P : Program} {m : Sl} {L R : List Ent} {o : Oper}
abbrev NT (P : Program) (t kt e : TypeId) : Prop := tmap P t = some (kt, e, .int .i64, .agg #[.int .i64 0, .int .i64 0])
theorem Evl.lookN {t kt e : TypeId} (hT : NT P t kt e) {x y : Operand} {r clock : Nat} {l : List Nb} {k : Int} (i : Nat) (h : NOk l clock) (hop : o.op = .lookup t x y true := by rfl) (hx : ev m x = some (.map (some r)) := by rfl) (hy : ev m y = some (.int .i64 k) := by rfl) (hi : (L ++ R)[i]? = some (nmap r l clock) := by rfl) : Evl P m L R o (.tuple #[.agg #[.int .i64 (ageN k l), .int .i64 (quietN k l)], .bool (hasN k l)]) := fun a w hs hd => by
 obtain ⟨v, ⟨res, hf, rfl⟩, hrun⟩ := Evx.look (o := o) (L := L) (R := R) (m := m) hT (key := .int .i64 k) rfl (nbs_keys l) i hop hx hy hi a w hs hd
 rw [hrun, if_pos rfl]
 congr 3
 rcases found_nb h.kn hf with ⟨rfl, g1⟩ | ⟨j, x, rfl, hj, hk, g1⟩
 ·unfold ageN quietN hasN; rw [g1]; rfl
 ·unfold ageN quietN hasN; rw [g1]; rfl
theorem Chk.putN {t kt e : TypeId} (hT : NT P t kt e) (i : Nat) {x y u : Operand} {r clock : Nat} {l : List Nb} {k a q : Int} (h : NOk l clock) (hop : o.op = .mapUpdate t x y u := by rfl) (hx : ev m x = some (.map (some r)) := by rfl) (hy : ev m y = some (.int .i64 k) := by rfl) (hu : ev m u = some (.agg #[.int .i64 a, .int .i64 q]) := by rfl) (hi : L[i]? = some (nmap r l clock) := by rfl) : Chk P m L R o i (nmap r (setN k a q l clock).1 (setN k a q l clock).2) := by
 obtain ⟨res, hf, _⟩ := found_spec (key := .int .i64 k) (d := .int .i64) rfl (nbs_keys l)
 have := Chk.put (R := R) hT i (o := o) (key := .int .i64 k) rfl (nbs_keys l) hf (fun res' h' => found_uniq h.kn hf h') hop hx hy hu hi
 rw [put_nb h hf] at this
 exact this
theorem Chk.delN {t kt e : TypeId} (hT : NT P t kt e) (i : Nat) {x y : Operand} {t2 : TypeId} {r clock : Nat} {l : List Nb} {k : Int} (h : NOk l clock) (hop : o.op = .call { callee := .builtin .delete, args := #[x, y], argTypes := #[t, t2] } := by rfl) (hx : ev m x = some (.map (some r)) := by rfl) (hy : ev m y = some (.int .i64 k) := by rfl) (hi : L[i]? = some (nmap r l clock) := by rfl) : Chk P m L R o i (nmap r (l.filter fun x => x.key != k) clock) := by
 obtain ⟨res, hf, _⟩ := found_spec (key := .int .i64 k) (d := .int .i64) rfl (nbs_keys l)
 have := Chk.del (R := R) hT i (o := o) (key := .int .i64 k) rfl (nbs_keys l) hf (fun res' h' => found_uniq h.kn hf h') hop hx hy hi
 rw [del_nb h hf] at this
 exact this
theorem Evl.lenN {t kt e : TypeId} (hT : NT P t kt e) {x : Operand} {r clock : Nat} {l : List Nb} {ts : Array TypeId} (i : Nat) (hop : o.op = .call { callee := .builtin .len, args := #[x], argTypes := ts } := by rfl) (hts : ts[0]? = some t := by rfl) (hx : ev m x = some (.map (some r)) := by rfl) (hi : (L ++ R)[i]? = some (nmap r l clock) := by rfl) : Evl P m L R o (.int .i64 (l.length : Int)) := by
 have := Evl.lenm (P := P) hT i hop hts hx hi
 rwa [show (nbs l).length = l.length from by simp [nbs]] at this
theorem Chs.nextN {x : Operand} {g r clock : Nat} {seen : Array Nat} {l : List Nb} (i j : Nat) (h : NOk l clock) (hop : o.op = .next x false := by rfl) (hx : ev m x = some (.pointer (some ⟨g, 0, none⟩)) := by rfl) (hi : L[i]? = some (mitE g r clock seen) := by rfl) (hj : (L ++ R)[j]? = some (nmap r l clock) := by rfl) : Chs P m L R o i (fun v e' => (v = .tuple #[.bool false] ∧ (∀ x ∈ l, x.born ∈ seen) ∧ e' = mitE g r clock seen) ∨ ∃ x ∈ l, x.born ∉ seen ∧ v = .tuple #[.bool true, .int .i64 x.key, .agg #[.int .i64 x.age, .int .i64 x.quiet]] ∧ e' = mitE g r clock (seen.push x.born)) := by
 obtain ⟨e, he, q⟩ := Chs.next (P := P) (m := m) (L := L) (R := R) (o := o) i j (es := nbs l) (clock := clock) (seen := seen) (g := g) (r := r) (fun y hy => by obtain ⟨z, hz, rfl⟩ := List.mem_map.1 hy; exact h.bl z hz) hop hx hi hj
 refine ⟨e, he, fun a w hs hd => ?_⟩
 obtain ⟨v, e', w', hrun, hp, rest⟩ := q a w hs hd
 refine ⟨v, e', w', hrun, ?_, rest⟩
 rcases hp with ⟨h1, h2, h3⟩ | ⟨y, hy, h2, h3, h4⟩
 ·exact .inl ⟨h1, fun x hx => h2 x.ent (List.mem_map.2 ⟨x, hx, rfl⟩), h3⟩
 ·obtain ⟨x, hx, rfl⟩ := List.mem_map.1 hy
  exact .inr ⟨x, hx, h2, h3, h4⟩
theorem Evl.entryN {x : Operand} {g r clock : Nat} {seen : Array Nat} {l : List Nb} {y : Nb} (i j : Nat) (hy : y ∈ l) (h : NOk l clock) (hop : o.op = .entry x := by rfl) (hx : ev m x = some (.pointer (some ⟨g, 0, none⟩)) := by rfl) (hi : (L ++ R)[i]? = some (mitE g r clock (seen.push y.born)) := by rfl) (hj : (L ++ R)[j]? = some (nmap r l clock) := by rfl) : Evl P m L R o (.tuple #[.int .i64 y.key, .agg #[.int .i64 y.age, .int .i64 y.quiet]]) :=
 Evl.entry (e := y.ent) i j (List.mem_map.2 ⟨y, hy, rfl⟩) (by have := h.bn; show ((l.map Nb.ent).map _).Nodup; rw [List.map_map]; exact this) hop hx hi hj
end
end Go.Proofs.YtbmhgopjblnfnaaGreat.S
