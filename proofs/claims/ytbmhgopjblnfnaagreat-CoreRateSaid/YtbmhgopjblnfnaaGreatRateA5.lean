/- The walks, the protocol's law: part 5. -/
import Derived.Test.YtbmhgopjblnfnaaGreatRateA4
set_option linter.unusedVariables false
set_option linter.unusedSimpArgs false
set_option maxHeartbeats 4000000
set_option maxRecDepth 100000
namespace Go.Proofs.YtbmhgopjblnfnaaGreat.S
open Go Go.RowKit Go.Proofs.YtbmhgopjblnfnaaGreatW.PrintLast Tryz
structure Play (p : Par) (f gg dd S : Nat) : Prop where
 N : Num p
 ok : okB p = true
 hf : p.f = (f : Int)
 n7 : p.n ≤ 7
 d5 : p.d ≤ 5
 hg : p.n = (gg : Int)
 g0 : 0 < gg
 dd6 : dd ≤ 6
 st : Settled p S
 hS : settleV p = (S : Int)
theorem play_of {p : Par} {ct cn beats : Int} {hn kn sn fn nn qn : Nat} {ss : List Sta} (h : GreatOk p ct cn beats hn kn sn fn nn qn ss) : ∃ f gg dd S : Nat, cn = (dd : Int) ∧ Play p f gg dd S := by
 have N := num_of h.ok
 obtain ⟨S, hS, st⟩ := settle_of N h.settle
 have n1 := N.n; have n2 := N.f; have n3 := h.cn; have n4 := h.n; have n5 := h.d
 exact ⟨p.f.toNat, p.n.toNat, cn.toNat, S, by omega, N, h.ok, by omega, n4, n5, by omega, by omega, by omega, st, hS⟩
theorem time_ok {p : Par} (N : Num p) {ct : Int} (hct : -1125899906842624 ≤ ct ∧ ct ≤ 1125899906842624) {k : Nat} (hk : k ≤ 300) : TimeOK (ct + (k : Int) * p.beat) := by
 have n5 := N.beat
 have h1 : 0 ≤ (k : Int) * p.beat := Int.mul_nonneg (by omega) (by omega)
 have h2 : (k : Int) * p.beat ≤ 300 * 1099511627776 := Int.mul_le_mul (by omega) n5.2 (by omega) (by decide)
 unfold TimeOK
 omega
theorem tm_next (ct b : Int) (k : Nat) : ct + (k : Int) * b + b = ct + ((k + 1 : Nat) : Int) * b := by
 rw [Int.natCast_add, Int.add_mul]
 show _ = ct + (_ + 1 * b)
 omega
def runC (p : Par) (gw : Nat) (ct cn r1 r2 : Int) (ha ka sa fa na qa : Option Addr) (hn hc kn kc sn sc fn fc nn nc qn qc : Nat) : List Value := parC p ++ [Value.int .i64 ct, Value.int .i64 cn, Value.slice ha hn hc, Value.slice ka kn kc, Value.slice sa sn sc, Value.slice fa fn fc, Value.slice na nn nc, Value.slice qa qn qc, Value.pointer (some ⟨gw, 0, none⟩), Value.int .i64 r1, Value.int .i64 r2]
theorem g_beat {p : Par} {f gg dd S : Nat} (P : Play p f gg dd S) (pw : List Int) (hpw : pw.length = 20) (rb : Nat) (W : Wd) (ct cn r1 r2 : Int) (hd : cn = (dd : Int)) (ha ka sa fa na qa : Option Addr) (hn hc kn kc sn sc fn fc nn nc qn qc : Nat) (zs : List Int) (hzl : zs.length = nn) (hnn : nn ≤ 1000) (lz : List ByteArray) (hzq : lz.length = qn) (hqn : qn ≤ 40) (hr1 : 0 ≤ r1 ∧ r1 ≤ 900000000) (hr2 : 0 ≤ r2 ∧ r2 ≤ 900000000) (refs : Bool) {j b b' : Nat} {M0 : Nat → Ms} (hG : Goes p gg dd j b W M0) (net : Net p dd (lnk W.ls)) (hT : TimeOK W.tm) (hb : b ≤ 1000) (hm : (refs = true ∧ b = 0 ∧ b' = 0) ∨ (refs = false ∧ 2 ≤ j ∧ b' = b + 1)) :
  Spec prog 14 [.pointer (some ⟨rb, 0, none⟩), .bool refs, .bool false, .slice none 0 0] [blk rb (runC p W.gw ct cn r1 r2 ha ka sa fa na qa hn hc kn kc sn sc fn fc nn nc qn qc) 44, worldE p W] [view na nc 3 1 nn (ints zs), view qa qc 9 1 qn (strs lz), blk 2 (u64s pw) 319] (fun v Ln => v = .tuple #[] ∧ ∃ q1 q2 X Q M, (r1 ≤ q1 ∧ q1 ≤ r1 + 300) ∧ (r2 ≤ q2 ∧ q2 ≤ r2 + 300) ∧ Goes p gg dd (j + 1) b' { W with X := X, q := Q, tm := W.tm + p.beat } M ∧ (1 ≤ j → Beat p f dd W.tm refs (Heard p (lnk W.ls) (mkU W.us W.X M0)) (mkU W.us W.X M0) (mkU W.us X M)) ∧ Ln = [blk rb (runC p W.gw ct cn q1 q2 ha ka sa fa na qa hn hc kn kc sn sc fn fc nn nc qn qc) 44, worldE p { W with X := X, q := Q, tm := W.tm + p.beat }]) := by
 have N := P.N
 have n1 := N.n; have n2 := N.f; have n5 := N.beat; have n7 := N.d; have h1 := P.n7; have h2 := P.hg; have h3 := P.dd6
 have hT' := hT
 unfold TimeOK at hT'
 have htm : addL [W.tm, p.beat] = W.tm + p.beat := add2 (by omega) (by omega)
 refine (l_beat pw hpw rb p f P.hf P.n7 n7.2 n7.1 N.beat N.rho N.delay N.jit N.eps W gg dd hG.ok P.hg (by omega) (by omega) (by omega) (by omega) (by omega) P.dd6 P.g0 ct cn r1 r2 hd ha ka sa fa na qa hn hc kn kc sn sc fn fc nn nc qn qc zs hzl (by omega) lz hzq (by omega) hr1 hr2 refs (by omega)).mono ?_
 rintro v Ln ⟨hv, q1, q2, rds, lies, X, M, Q, hq1, hq2, hrd, hli, bw, hLn⟩
 obtain ⟨g1, g2⟩ := hG.step N P.hf P.hg (by omega) net P.st hT hb bw hrd hli hm
 unfold Wd.next at g1
 rw [htm] at g1 hLn
 exact ⟨hv, q1, q2, X, Q, M, hq1, hq2, g1, g2, hLn⟩
theorem Goes.zero {p : Par} {gg dd : Nat} {W : Wd} (h : WdOk gg dd W) (M : Nat → Ms) : Goes p gg dd 0 0 W M := ⟨h, fun q => by omega, fun q => by omega, fun q => by omega⟩
def Counts (p : Par) (sv : List Int) (who : Int) : Prop := (16 ≤ who ∨ who < p.n - p.f) ∧ sv.getD who.toNat 0 ≤ p.d
theorem anch_of {p : Par} {f gg dd S : Nat} (P : Play p f gg dd S) {ls : List (Int × Int)} {sv : List Int} (hs : StepI p gg dd ls sv) {who : Int} (hw : (0 ≤ who ∧ who < gg) ∨ (16 ≤ who ∧ who < 16 + dd)) (hc : Counts p sv who) : ∃ a, Anch p dd (lnk ls) who a := by
 have n1 := P.N.n; have h1 := P.n7; have h2 := P.hg; have h3 := P.dd6
 rcases hw with hw | hw
 ·exact ⟨2, .inl ⟨⟨by omega, by omega⟩, hc.1.resolve_left (by omega), rfl⟩⟩
 ·have hb := hs.b who.toNat (by omega)
  have := hs.path who.toNat (by omega) (by omega) hc.2
  rw [Int.toNat_of_nonneg (by omega)] at this
  exact ⟨_, .inr ⟨_, this, by have := hc.2; omega, rfl⟩⟩
theorem mkU_at {gg dd : Nat} {W : Wd} (ok : WdOk gg dd W) (h16 : gg ≤ 16) {i : Nat} {u : Uc} (hu : W.us[i]? = some u) (X : Nat → Ux) (M : Nat → Ms) : (mkU W.us X M u.who).s = (X i).s := by
 unfold mkU
 rw [ixU_eq (ok.nodup h16) hu]
theorem ul_at {gg dd : Nat} {W : Wd} (ok : WdOk gg dd W) {k : Nat} {c : Int} (h : (gatesL gg ++ nodesL dd)[k]? = some c) : ∃ u, W.us[k]? = some u ∧ u.who = c := by
 rw [← ok.us.who, List.getElem?_map] at h
 cases hu : W.us[k]? with
 | none => rw [hu] at h; cases h
 | some u => rw [hu] at h; exact ⟨u, rfl, by simpa using h⟩
theorem err_zero {p : Par} {s : Sta} (h : healthV p s ≠ 0) : errV p s = 0 := if_neg h
end Go.Proofs.YtbmhgopjblnfnaaGreat.S
namespace Go.Proofs.YtbmhgopjblnfnaaGreat.S
open Go Go.Proofs Go.RowKit Go.Proofs.YtbmhgopjblnfnaaGreatW.PrintLast Tryz
theorem e14 : Is prog 14 := ⟨_, func14, by kernel_rfl, rfl⟩
theorem e24 : Is prog 24 := ⟨_, func24, by kernel_rfl, rfl⟩
theorem q33 : tptr prog 33 = true := by kernel_rfl
theorem world_zero {p : Par} {W : Wd} {ct : Int} (h : W.tm = ct) : worldE p W = worldE p { W with X := W.X, q := W.q, tm := ct + ((0 : Nat) : Int) * p.beat } := by
 rw [show ct + ((0 : Nat) : Int) * p.beat = W.tm from by rw [h]; show ct + 0 * _ = _; rw [Int.zero_mul, Int.add_zero]]
theorem ok_zero {gg dd : Nat} {W : Wd} {X : Nat → Ux} {t : Int} {q : Qs} (h : WdOk gg dd W) (hX : X = W.X) : WdOk gg dd { W with X := X, q := q, tm := t } := by subst hX; exact ⟨h.us, h.un, h.wn, h.nd, h.ends⟩
theorem l_settled (pw : List Int) (hpw : pw.length = 20) (p : Par) (f gg dd S : Nat) (P : Play p f gg dd S) (ct cn : Int) (hct : -1125899906842624 ≤ ct ∧ ct ≤ 1125899906842624) (hd : cn = (dd : Int)) (ha ka sa fa na qa : Option Addr) (hn hc kn kc sn sc fn fc nn nc qn qc : Nat) (core : List Int) (hcl : core.length = hn) (hcn : hn ≤ 20) (links : List (Int × Int)) (hkl : links.length = kn) (hkn : kn ≤ 40) (ss : List Sta) (hsl : ss.length = sn) (hsn : sn ≤ 20) (ts : List Tb) (hts : TabsIn ss ts) (frs : List Li) (hfl : frs.length = fn) (hfn : fn ≤ 40) (zs : List Int) (hzl : zs.length = nn) (hnn : nn ≤ 1000) (lz : List ByteArray) (hzq : lz.length = qn) (hqn : qn ≤ 40) : Spec prog 8 [.agg #[.int .i64 p.n, .int .i64 p.f, .int .i64 p.d, .int .i64 p.beat, .int .i64 p.rho, .int .i64 p.delay, .int .i64 p.jitter, .int .i64 p.eps, .int .i64 p.mu, .int .i64 p.hold, .int .i64 p.pulse, .int .i64 p.second, .int .i64 ct, .int .i64 cn, .slice ha hn hc, .slice ka kn kc, .slice sa sn sc, .slice fa fn fc, .slice na nn nc, .slice qa qn qc]] [] [view ha hc 3 1 hn (ints core), view ka kc 72 2 kn (spl links), view sa sc 70 11 sn (stal ss), view fa fc 74 3 fn (lil frs), viewsE ts, view na nc 3 1 nn (ints zs), view qa qc 9 1 qn (strs lz), blk 2 (u64s pw) 319] (fun v Ln => ∃ (rb : Nat) (W0 : Wd) (X : Nat → Ux) (Q : Qs) (M : Nat → Ms) (q1 q2 : Int), v = .pointer (some ⟨rb, 0, none⟩) ∧ Goes p gg dd S 0 { W0 with X := X, q := Q, tm := ct + (S : Int) * p.beat } M ∧ LsOf gg dd core links W0.ls ∧ (0 ≤ q1 ∧ q1 ≤ 300 * (S : Int)) ∧ (0 ≤ q2 ∧ q2 ≤ 300 * (S : Int)) ∧ Ln = [blk rb (pC p [.int .i64 ct, .int .i64 cn, .slice ha hn hc, .slice ka kn kc, .slice sa sn sc, .slice fa fn fc, .slice na nn nc, .slice qa qn qc, .pointer (some ⟨W0.gw, 0, none⟩), .int .i64 q1, .int .i64 q2]) 44, worldE p { W0 with X := X, q := Q, tm := ct + (S : Int) * p.beat }]) := by
 refine Spec.en func8 ntmps8 fun w0 => ?_
 refine G.sr fun _ K1 => ?_
 refine G.mk 1 .bx fun g1 => ?_
 refine G.M 2 ?_
 refine G.nk K1 ?_
 refine G.sr fun _ K2 => ?_
 refine G.V 5 (.lda t30 0 (vs := [.int .i64 p.n, .int .i64 p.f, .int .i64 p.d, .int .i64 p.beat, .int .i64 p.rho, .int .i64 p.delay, .int .i64 p.jitter, .int .i64 p.eps, .int .i64 p.mu, .int .i64 p.hold, .int .i64 p.pulse, .int .i64 p.second, .int .i64 ct, .int .i64 cn, .slice ha hn hc, .slice ka kn kc, .slice sa sn sc, .slice fa fn fc, .slice na nn nc, .slice qa qn qc])) ?_
 refine G.C 6 [] [0, 1, 2, 3, 4]  e24 (l_begun pw hpw p P.ok P.n7 gg dd P.hg P.g0 P.dd6 ct cn hd ha ka sa fa na qa hn hc kn kc sn sc fn fc nn nc qn qc core hcl hcn links hkl hkn ss hsl hsn ts hts frs hfl hfn) ?_
 rintro _ _ ⟨rb, W0, rfl, hW0, htm0, hls0, rfl⟩
 rw [clp_id (by omega) (by omega)] at htm0
 have hN1 := P.N.n; have hsle := P.st.le; have hnet : Net p dd (lnk W0.ls) := net_of hW0 hls0 P.hg P.g0 (by have := P.n7; have := P.dd6; omega)
 obtain ⟨⟨hS0, hS1⟩, hS2, hS3⟩ := settle_h P.ok
 refine G.M 3 ?_
 refine G.nk K2 ?_
 refine G.Z fun _ K3 => ?_
 refine G.sr fun _ K4 => ?_
 refine G.M 4 ?_
 refine G.nil ?_
 refine G.eqL [blk rb (pC p [.int .i64 ct, .int .i64 cn, .slice ha hn hc, .slice ka kn kc, .slice sa sn sc, .slice fa fn fc, .slice na nn nc, .slice qa qn qc, .pointer (some ⟨W0.gw, 0, none⟩), .int .i64 0, .int .i64 0]) 44, worldE p { W0 with X := W0.X, q := W0.q, tm := ct + ((0 : Nat) : Int) * p.beat }, blk g1 (pC p [.int .i64 ct, .int .i64 cn, .slice ha hn hc, .slice ka kn kc, .slice sa sn sc, .slice fa fn fc, .slice na nn nc, .slice qa qn qc]) 30] (congrArg (fun z => [blk rb (pC p [.int .i64 ct, .int .i64 cn, .slice ha hn hc, .slice ka kn kc, .slice sa sn sc, .slice fa fn fc, .slice na nn nc, .slice qa qn qc, .pointer (some ⟨W0.gw, 0, none⟩), .int .i64 0, .int .i64 0]) 44, z, blk g1 (pC p [.int .i64 ct, .int .i64 cn, .slice ha hn hc, .slice ka kn kc, .slice sa sn sc, .slice fa fn fc, .slice na nn nc, .slice qa qn qc]) 30]) (world_zero htm0)) ?_
 refine K4 _ _ _ ?_
 refine G.block ?_
 refine G.lpR (ι := {z : Nat × (Nat → Ux) × Qs × (Nat → Ms) × Int × Int // z.1 ≤ S ∧ Goes p gg dd z.1 0 { W0 with X := z.2.1, q := z.2.2.1, tm := ct + (z.1 : Int) * p.beat } z.2.2.2.1 ∧ (0 ≤ z.2.2.2.2.1 ∧ z.2.2.2.2.1 ≤ 300 * (z.1 : Int)) ∧ (0 ≤ z.2.2.2.2.2 ∧ z.2.2.2.2.2 ≤ 300 * (z.1 : Int))}) (fun ⟨⟨k, X, Q, M, q1, q2⟩, hj, hG, hq1, hq2⟩ => S - k) (fun ⟨⟨k, X, Q, M, q1, q2⟩, hj, hG, hq1, hq2⟩ => [(1, .pointer (some ⟨g1, 0, none⟩)), (3, .pointer (some ⟨rb, 0, none⟩)), (4, .int .i64 (k : Int))]) (fun ⟨⟨k, X, Q, M, q1, q2⟩, hj, hG, hq1, hq2⟩ => [blk rb (pC p [.int .i64 ct, .int .i64 cn, .slice ha hn hc, .slice ka kn kc, .slice sa sn sc, .slice fa fn fc, .slice na nn nc, .slice qa qn qc, .pointer (some ⟨W0.gw, 0, none⟩), .int .i64 q1, .int .i64 q2]) 44, worldE p { W0 with X := X, q := Q, tm := ct + (k : Int) * p.beat }, blk g1 (pC p [.int .i64 ct, .int .i64 cn, .slice ha hn hc, .slice ka kn kc, .slice sa sn sc, .slice fa fn fc, .slice na nn nc, .slice qa qn qc]) 30]) ?_ ?_
 exact G.at ⟨(0, W0.X, W0.q, fun _ => Ms.zero, 0, 0), Nat.zero_le _, Goes.zero (ok_zero hW0 rfl) _, ⟨Int.le_refl _, Int.le_refl _⟩, Int.le_refl _, Int.le_refl _⟩ (ts := [1, 3, 4]) rfl rfl rfl rfl
 rintro ⟨⟨k, X, Q, M, q1, q2⟩, hj, hG, hq1, hq2⟩ _ K5
 try dsimp only at K5 ⊢
 try dsimp only at hj hG hq1 hq2
 refine G.Z fun _ K6 => ?_
 refine G.sr fun _ K7 => ?_
 refine G.M 7 ?_
 refine G.V 8 (.fa f30_0 0) ?_
 refine G.V 9 (.lda t23 2 (vs := [.int .i64 p.n, .int .i64 p.f, .int .i64 p.d, .int .i64 p.beat, .int .i64 p.rho, .int .i64 p.delay, .int .i64 p.jitter, .int .i64 p.eps, .int .i64 p.mu, .int .i64 p.hold, .int .i64 p.pulse, .int .i64 p.second])) ?_
 refine G.cp 10 [] []  e20 (l_Settle p hS0 hS1 hS2 hS3) ?_
 refine G.V 11 .bin ?_
 refine G.M 12 ?_
 cases hg8 : (decide ((k : Int) < (settleV p)) : Bool)
 refine G.O2 13 14 ?_
 refine G.V 15 .pick ?_
 refine G.nk K7 ?_
 refine G.no rfl ?_
 refine G.exit ?_
 refine K3 _ _ _ ?_
 refine G.Z fun _ K9 => ?_
 have hkS : k = S := by have := of_decide_eq_false ‹decide ((k : Int) < settleV p) = false›; have := P.hS; omega
 subst hkS
 refine G.region ?_
 refine G.M2 20 2 ?_
 refine G.nk K9 ?_
 exact G.ret (G.F [0, 0] (.one Tryz.results8) ⟨rb, W0, X, Q, M, q1, q2, rfl, hG, hls0, hq1, hq2, rfl⟩)
 refine G.M 13 ?_
 refine G.V 14 (.nonil q33) ?_
 refine G.V 15 .pick ?_
 refine G.nk K7 ?_
 refine G.yes rfl ?_
 refine G.sk K6 ?_
 refine G.Z fun _ K10 => ?_
 refine G.block ?_
 have hk : k < S := by have := of_decide_eq_true ‹decide ((k : Int) < settleV p) = true›; have := P.hS; omega
 refine G.region ?_
 refine G.M 18 ?_
 refine G.C 19 [0, 0] [5, 6, 7]  e14 (g_beat P pw hpw rb { W0 with X := X, q := Q, tm := ct + (k : Int) * p.beat } ct cn q1 q2 hd ha ka sa fa na qa hn hc kn kc sn sc fn fc nn nc qn qc zs hzl hnn lz hzq hqn (by omega) (by omega) true hG hnet (time_ok P.N hct (by omega)) (by omega) (.inl ⟨rfl, rfl, rfl⟩)) ?_
 rintro _ _ ⟨rfl, n1, n2, X2, Q2, M2, hn1, hn2, hG2, hBt, rfl⟩
 simp only [tm_next] at hG2 ⊢
 refine G.nk K10 ?_
 refine G.region ?_
 refine G.M 16 ?_
 refine G.V 17 .bw ?_
 refine G.M 4 ?_
 refine G.nk K5 ?_
 exact G.ls ⟨(k + 1, X2, Q2, M2, n1, n2), hk, hG2, ⟨by dsimp only; omega, by dsimp only; omega⟩, by dsimp only; omega, by dsimp only; omega⟩
end Go.Proofs.YtbmhgopjblnfnaaGreat.S
namespace Go.Proofs.YtbmhgopjblnfnaaGreat.S
open Go Go.RowKit Tryz
def p0 : Par := ⟨1, 0, 4, 1000, 1, 100, 10, 50, 20, 6, 5000, 1000⟩
theorem p0_ok : okB p0 = true := by decide +kernel
theorem p0_num : Num p0 := num_of p0_ok
theorem alive_ls {ls : List (Int × Int)} (h : LsOf 1 1 [0] [] ls) {a b : Int} (hab : (a, b) ∈ ls) : a = 0 ∧ b = 16 := by
 obtain ⟨us, hu, rfl⟩ := h
 rw [linkJ_iff, allJ_iff] at hab
 rcases hab with ⟨i, hi, ⟨j, hj, e, hne, _⟩ | ⟨c, hc, h1, h2, e, _⟩⟩ | ⟨l, hl, _⟩
 ·exact absurd (show (i : Int) = (j : Int) by omega) hne
 ·simp only [Prod.mk.injEq] at e
  simp at hc
  omega
 ·cases hl
theorem alive_ok {W : Wd} (ok : WdOk 1 1 W) (hq : W.q = fun _ => noQ) (hnb : ∀ i, (W.X i).nb = []) (hls : LsOf 1 1 [0] [] W.ls) {X1 X2 : Nat → Ux} {M1 M2 : Nat → Ms} {Q1 Q2 : Qs} (bw1 : BeatW p0 0 W.us W.ls [] [⟨0, true, 5000⟩] W.q W.X X1 M1 Q1) (bw2 : BeatW p0 0 W.us W.ls [] [] Q1 X1 X2 M2 Q2) : ∀ i u, W.us[i]? = some u → healthV p0 (X2 i).s = 1 := by
 have N := p0_num
 have net : Net p0 1 (lnk W.ls) := net_of ok hls rfl (by decide) (by decide)
 have ok1 : WdOk 1 1 { W with X := X1, q := Q1 } := ⟨⟨ok.us.who, ok.us.kind, fun i u hu => (bw1.un i u hu).ok⟩, ok.un, ok.wn, ok.nd, ok.ends⟩
 have nd := ok.nodup (by decide)
 have hr1 : RdsOk p0 true (4000 + p0.beat) [⟨0, true, 5000⟩] := ⟨fun x hx => by simp at hx; subst hx; exact ⟨rfl, by decide, by decide⟩, fun i h1 h2 => ⟨_, List.mem_cons_self .., by have : i < 1 - 0 := h2; show (0 : Int) = i; omega⟩⟩
 have hr2 : RdsOk p0 false (5000 + p0.beat) [] → True := fun _ => trivial
 have noh : ∀ (i : Nat) (u : Uc), W.us[i]? = some u → ∀ hs ts c, InI p0 (W.q i) 48 [] hs ts c → hs = [] := fun i u hu hs ts c hI => by
  cases hs with
  | nil => rfl
  | cons h hs =>
   obtain ⟨_, k, hk, _, s, hs1, _⟩ := hI.hin h (List.mem_cons_self ..)
   rw [hq] at hs1
   cases hs1
 have qs1 : QS p0 W.us W.ls X1 M1 Q1 := qs_of ok rfl (by decide) (by decide) (by decide) (by decide) bw1 (fun x hx => nomatch hx)
 have bt1 : Beat p0 0 1 4000 true (fun _ hs => hs = []) (mkU W.us W.X M1) (mkU W.us X1 M1) := beat_of (W := { W with tm := 4000 }) ⟨ok.us, ok.un, ok.wn, ok.nd, ok.ends⟩ rfl (by decide) bw1 hr1 (by decide) _ fun i u hu hs ts c hI => noh i u hu hs ts c hI
 have said1 := beat_said (by decide) bt1
 have hT4 : TimeOK 4000 := by unfold TimeOK; omega
 have hT5 : TimeOK 5000 := by unfold TimeOK; omega
 -- the gateway behind the first beat
 have g1 : OKs 5000 (2 * p0.eps + hopN p0) 0 0 (mkU W.us X1 M1 0).s ∧ (mkU W.us X1 M1 0).s.hops = 0 := by
  obtain ⟨hs, rfl, ticks, rf, rd, ht, g, hg⟩ := bt1.1 0 ⟨by decide, by decide⟩
  obtain ⟨rfl, hrd⟩ := hg (by decide)
  obtain ⟨_, _, q, _⟩ := gate_beat N (f := 0) rfl hT4 ⟨by decide, by decide⟩ g ht hrd (fun h hh => nomatch hh)
  obtain ⟨a, b, _⟩ := q rfl (fun h hh => nomatch hh) (fun i h1 h2 h3 => by have : i < 1 - 0 := h2; omega)
  exact ⟨a, b⟩
 have heard2 : ∀ (i : Nat) (u : Uc), W.us[i]? = some u → ∀ hs ts c, InI p0 (Q1 i) 48 [] hs ts c → Heard p0 (lnk W.ls) (mkU W.us X1 M1) u.who hs := fun i u hu hs ts c hI => heard_of (W := { W with X := X1, q := Q1 }) ok1 (by decide) (by decide) qs1 hu hI
 intro i u hu
 have bu := bw2.un i u hu
 obtain ⟨_, _, tk, rf, rd, hs, ts, c, htk, hrf, hI, hU⟩ := bu
 have hh := heard2 i u hu hs ts c hI
 have key : ∃ w h0 h1, OKs 6000 w h0 h1 (X2 i).s ∧ (X2 i).s.hops = 0 ∧ h1 ≤ 1 := by
  rcases ok.mem (List.mem_of_getElem? hu) with hw | hw
  ·have hw0 : u.who = 0 := by omega
   have hG := hU.1 (by omega)
   have e := refF_off (who := u.who) (l := []) (fun x hx => nomatch hx)
   rw [e] at hrf
   simp only [Prod.mk.injEq] at hrf
   obtain ⟨rfl, rfl⟩ := hrf
   have hG : GateR p0 0 0 (X1 i).s tk false 6000 hs (X2 i).s (M2 i) := hw0 ▸ gate_norf hG
   have e1 : (mkU W.us X1 M1 0).s = (X1 i).s := by rw [← hw0]; exact mkU_at ok (by decide) hu X1 M1
   rw [e1] at g1
   obtain ⟨_, _, _, q⟩ := gate_beat N (f := 0) rfl hT5 ⟨by decide, by decide⟩ hG htk (by decide) (fun h hh1 k1 k2 k3 => by
    have := alive_ls hls (hh.1 h hh1).1
    omega)
   obtain ⟨a, b⟩ := q rfl _ _ _ (by decide) (by decide) g1.1 g1.2
   rcases b with b | ⟨_, b⟩
   ·exact ⟨_, _, _, b, a, by decide⟩
   ·exact ⟨_, _, _, b, a, by decide⟩
  ·have hw16 : u.who = 16 := by omega
   obtain ⟨hN, _, _⟩ := hU.2 (by omega)
   have hn16 : IsN 1 u.who := ⟨by omega, by omega⟩
   have hnear : Near (mkU W.us X1 M1) u.who := near_of (W := { W with X := X1, q := Q1 }) ok1 (by decide) hn16
   have e1 : (mkU W.us X1 M1 u.who).nb = [] := by
    obtain ⟨hs', rfl, t1⟩ := bt1.2 u.who hn16
    rw [t1.2.1]
    have : (mkU W.us W.X M1 u.who).nb = [] := hnb _
    rw [this]; rfl
   have hs1 : ∀ h ∈ hs, lnk W.ls h.m.src u.who := fun h hh1 => (hh.1 h hh1).1
   obtain ⟨_, kb⟩ := known_all N net hnear (fun x hx => by rw [e1] at hx; cases hx) hs1
   have eN : (mkU W.us X1 M1 u.who).nb = (X1 i).nb ∧ (mkU W.us X1 M1 u.who).c = (X1 i).c := by unfold mkU; rw [ixU_eq nd hu]; exact ⟨rfl, rfl⟩
   rw [eN.1, eN.2] at kb
   have get : ∀ h ∈ hs, h.m.src = 0 ∧ AgeOK p0 h.age ∧ SameM (mkU W.us X1 M1 0).m h.m := fun h hh1 => by
    have h0 := (alive_ls hls (hh.1 h hh1).1).1
    obtain ⟨a, b⟩ := (hh.1 h hh1).2 (.inr (by rw [h0]; decide))
    rw [h0] at a
    exact ⟨h0, b, a⟩
   have sd := said1 0 (.inl ⟨by decide, by decide⟩)
   obtain ⟨a, b, _⟩ := node_core N (f := 0) rfl (w := 2 * p0.eps + hopN p0) (h0 := 0) (h1 := 0) hT5 hN (by decide) (Int.le_refl 0) (by decide) (fun h hh1 _ _ _ => by
     have hm := (known_out u.who hs _ h hh1).elim (fun q => nomatch q) fun q => q.1
     obtain ⟨c1, c2, c3⟩ := get h hm
     exact ⟨c2, oks_m g1.1 sd c3⟩) (fun j j0 j1 => by
     have hj : j = 0 := by have : j < 1 - 0 := j1; omega
     subst hj
     obtain ⟨h, hh1, e2⟩ := hh.2 0 (by rw [hw16]; exact ls_gc hls (by decide) (by decide) (i := 0) (by decide) (c := 0) (by simp) (by decide)) (.inr (by decide))
     obtain ⟨c1, c2, c3⟩ := get h hh1
     have ek : h.m.kind = 1 := by rw [(same_get c3).1, sd.kind]; rfl
     obtain ⟨y, hy, e3⟩ := kb h hh1 (okK_iff.2 (.inl ⟨ek, by omega⟩))
     have hm := (known_out u.who hs _ y hy).elim (fun q => nomatch q) fun q => q.1
     obtain ⟨d1, d2, d3⟩ := get y hm
     exact ⟨y, hy, by rw [(same_get d3).1, sd.kind]; rfl, d1⟩)
   exact ⟨_, _, _, a, b, by decide⟩
 obtain ⟨w, h0, h1, a, b, c⟩ := key
 rw [health_ok a (by rw [b]; decide), if_neg]
 have := a.held
 show ¬ (X2 i).s.held > 6
 omega
end Go.Proofs.YtbmhgopjblnfnaaGreat.S
namespace Go.Proofs.YtbmhgopjblnfnaaGreat.S
open Go Go.Proofs Go.RowKit Go.Proofs.YtbmhgopjblnfnaaGreatW.PrintLast Tryz
theorem e12 : Is prog 12 := ⟨_, func12, by kernel_rfl, rfl⟩
theorem p23 : tplaces prog 23 = some [(0, 1), (1, 1), (2, 1), (3, 1), (4, 1), (5, 1), (6, 1), (7, 1), (8, 1), (9, 1), (10, 1), (11, 1)] := by kernel_rfl
theorem p65 : tplaces prog 65 = some [(0, 1), (1, 1), (2, 1), (3, 1), (4, 1), (5, 1), (6, 1), (7, 1)] := by kernel_rfl
theorem p0_tick : TickOK p0 p0.beat := by unfold TickOK; decide
theorem p0_age : AgeOK p0 (sbC p0.beat p0.delay) := by unfold AgeOK; decide +kernel
theorem l_alive (pw : List Int) (hpw : pw.length = 20) : Spec prog 6 [] [] [blk 2 (u64s pw) 319] (fun v Ln => v = .bool true ∧ Ln = []) := by
 refine Spec.en func6 ntmps6 fun w0 => ?_
 refine G.sr fun _ K1 => ?_
 refine G.M 0 ?_
 refine G.nk K1 ?_
 refine G.sr fun _ K2 => ?_
 refine G.V 4 (.build z23 p23 (cs := #[.int .i64 1, .int .i64 0, .int .i64 4, .int .i64 1000, .int .i64 1, .int .i64 100, .int .i64 10, .int .i64 50, .int .i64 20, .int .i64 6, .int .i64 5000, .int .i64 1000]) (hf := by kernel_rfl)) ?_
 refine G.mk 1 (.al z23) fun g1 => ?_
 refine G.sn 0 (.st t23 0) rfl ?_
 refine G.nk K2 ?_
 refine G.sr fun _ K3 => ?_
 refine G.V 6 (.lda t23 0 (vs := [.int .i64 1, .int .i64 0, .int .i64 4, .int .i64 1000, .int .i64 1, .int .i64 100, .int .i64 10, .int .i64 50, .int .i64 20, .int .i64 6, .int .i64 5000, .int .i64 1000])) ?_
 refine G.row 7 (.sl s24 z3 [.int .i64 0]) fun g7 => ?_
 refine G.asRow 0 1 1 rfl (by decide) ?_
 dsimp only [List.set]
 refine G.newRow 72 2 ?_
 refine G.C 8 [] [2, 1]  e21 ((x_New p0 p0_ok 1 1 1 rfl rfl (by decide) (by decide) (by decide) (some ⟨g7, 0, none⟩) none 1 1 0 0 [0] rfl (by decide) [] rfl (by decide)).vv) ?_
 rintro _ _ ⟨W0, rfl, hW0, htm0, hq0, hnb0, hls0, rfl⟩
 refine G.M 5 ?_
 refine G.V 9 .ext ?_
 refine G.V 10 .ext ?_
 refine G.M2 2 3 ?_
 refine G.nk K3 ?_
 refine G.Z fun _ K4 => ?_
 refine G.sr fun _ K5 => ?_
 refine G.M 11 ?_
 refine G.V 12 (.cast .bin (nf (by omega))) ?_
 refine G.nk K5 ?_
 refine G.no rfl ?_
 refine G.sk K4 ?_
 refine G.sr fun _ K6 => ?_
 refine G.M 13 ?_
 refine G.V 14 (.build z60 p60 (cs := #[.int .i64 0, .bool true, .int .i64 5000, .bool false, .slice none 0 0]) (hf := by kernel_rfl)) ?_
 refine G.row 15 (.one s61 z60 [.int .i64 0, .bool true, .int .i64 5000, .bool false, .slice none 0 0]) fun g15 => ?_
 refine G.V 16 (.build z65 p65 (cs := #[.slice none 0 0, .slice (some ⟨g15, 0, none⟩) 1 1, .slice none 0 0, .slice none 0 0, .slice none 0 0, .slice none 0 0, .slice none 0 0, .slice none 0 0]) (hf := by kernel_rfl)) ?_
 refine G.newRow 87 2 ?_
 refine G.newRow 89 3 ?_
 refine G.newRow 74 3 ?_
 refine G.asRow 3 1 5 rfl (by decide) ?_
 dsimp only [List.set]
 refine G.C 17 [4] [3, 4, 2, 1, 0]  e22 (x_Beat pw hpw p0 0 rfl (by decide) (by decide) (by decide) (by decide) W0 hW0 (by decide) (by decide) none (some ⟨g15, 0, none⟩) none none 0 0 1 1 0 0 0 0 [] [⟨0, true, 5000⟩] [] [] rfl rfl rfl (by decide) (by decide) (by decide) rfl (by decide) p0_tick p0_age (fun _ h => nomatch h) (fun _ h => nomatch h) (fun x hx => by simp at hx; subst hx; decide)) ?_
 rintro _ _ ⟨rfl, X1, M1, Q1, bw1, rfl⟩
 have hW1 : WdOk 1 1 { W0 with X := X1, q := Q1, tm := addL [W0.tm, p0.beat] } := ⟨⟨hW0.us.who, hW0.us.kind, fun i u hu => (bw1.un i u hu).ok⟩, hW0.un, hW0.wn, hW0.nd, hW0.ends⟩
 refine G.nk K6 ?_
 refine G.sr fun _ K7 => ?_
 refine G.M 18 ?_
 refine G.V 19 (.build z65 p65) ?_
 refine G.newRow 87 2 ?_
 refine G.newRow 60 5 ?_
 refine G.newRow 89 3 ?_
 refine G.newRow 74 3 ?_
 refine G.C 20 [4] [4, 3, 2, 1, 0]  e22 (x_Beat pw hpw p0 0 rfl (by decide) (by decide) (by decide) (by decide) { W0 with X := X1, q := Q1, tm := addL [W0.tm, p0.beat] } hW1 (by decide) (by decide) none none none none 0 0 0 0 0 0 0 0 [] [] [] [] rfl rfl rfl (by decide) (by decide) (by decide) rfl (by decide) p0_tick p0_age (fun _ h => nomatch h) (fun _ h => nomatch h) (fun _ h => nomatch h)) ?_
 rintro _ _ ⟨rfl, X2, M2, Q2, bw2, rfl⟩
 have hW2 : WdOk 1 1 { W0 with X := X2, q := Q2, tm := addL [addL [W0.tm, p0.beat], p0.beat] } := ⟨⟨hW0.us.who, hW0.us.kind, fun i u hu => (bw2.un i u hu).ok⟩, hW0.un, hW0.wn, hW0.nd, hW0.ends⟩
 have hal := alive_ok hW0 hq0 hnb0 hls0 bw1 bw2
 obtain ⟨i0, u0, hu0, hw0, _⟩ := hW0.ex (a := 0) (.inl (by decide))
 obtain ⟨i1, u1, hu1, hw1, _⟩ := hW0.ex (a := 16) (.inr (by decide))
 refine G.nk K7 ?_
 refine G.sr fun _ K8 => ?_
 refine G.M 21 ?_
 refine G.cp 22 [] [1]  e12 (x_Front p0 { W0 with X := X2, q := Q2, tm := addL [addL [W0.tm, p0.beat], p0.beat] } hW2 (by decide) (by decide) i0 u0 hu0 0 hw0) ?_
 refine G.cp 23 [] [1]  e19 ((x_Health (p := p0) (W := { W0 with X := X2, q := Q2, tm := addL [addL [W0.tm, p0.beat], p0.beat] }) hu0).mono (fun v Ln h => (⟨by rw [h.1]; exact congrArg (Value.int .i64) (hal i0 u0 hu0), h.2⟩ : v = .int .i64 1 ∧ Ln = []))) ?_
 refine G.V 24 (.cast .bin (et rfl)) ?_
 refine G.M2 25 26 ?_
 refine G.cp 27 [] [1]  e12 (x_Front p0 { W0 with X := X2, q := Q2, tm := addL [addL [W0.tm, p0.beat], p0.beat] } hW2 (by decide) (by decide) i1 u1 hu1 16 hw1) ?_
 refine G.cp 28 [] [1]  e19 ((x_Health (p := p0) (W := { W0 with X := X2, q := Q2, tm := addL [addL [W0.tm, p0.beat], p0.beat] }) hu1).mono (fun v Ln h => (⟨by rw [h.1]; exact congrArg (Value.int .i64) (hal i1 u1 hu1), h.2⟩ : v = .int .i64 1 ∧ Ln = []))) ?_
 refine G.V 29 (.cast .bin (et rfl)) ?_
 refine G.V 30 .pick ?_
 refine G.M 0 ?_
 refine G.nk K8 ?_
 exact G.ret (G.F [] (.one Tryz.results6) ⟨rfl, rfl⟩)
end Go.Proofs.YtbmhgopjblnfnaaGreat.S
namespace Go.Proofs.YtbmhgopjblnfnaaGreat.S
open Go Go.RowKit Tryz
section
variable {p : Par} {f gg dd S : Nat} {W : Wd} {j b : Nat} {M : Nat → Ms} {sv : List Int} {i : Nat} {u : Uc}
theorem now_ok (P : Play p f gg dd S) (hG : Goes p gg dd j b W M) (hj : S ≤ j) (hs : StepI p gg dd W.ls sv) (hu : W.us[i]? = some u) (hc : Counts p sv u.who) : healthV p (W.X i).s ≠ 0 ∧ ∃ a, Anch p dd (lnk W.ls) u.who a ∧ a ≤ j ∧ OKs W.tm (widN p b p.d) 0 (b + p.d + 1) (W.X i).s ∧ (W.X i).s.hops ≤ p.d := by
 have N := P.N
 have n7 := N.d; have h1 := P.n7; have h2 := P.hg; have h3 := P.dd6; have h4 := P.st.ge
 obtain ⟨a, ha⟩ := anch_of P hs (hG.ok.mem (List.mem_of_getElem? hu)) hc
 have hs2 := anch_small ha n7.1
 obtain ⟨k1, k2⟩ := anch_ok N (hG.inv (by omega)) ha (by omega)
 rw [mkU_at hG.ok (by omega) hu] at k1 k2
 refine ⟨?_, a, ha, by omega, k1, k2⟩
 rw [health_ok k1 k2]
 split <;> decide
theorem now_time (P : Play p f gg dd S) (hG : Goes p gg dd j b W M) (hj : S ≤ j) (hs : StepI p gg dd W.ls sv) (hu : W.us[i]? = some u) (hc : Counts p sv u.who) (hb : b = 0) (hT : TimeOK W.tm) : -1152921504606846976 ≤ (W.X i).s.time ∧ (W.X i).s.time ≤ 1152921504606846976 := by
 have N := P.N
 have n7 := N.d; have h1 := P.n7; have h2 := P.hg; have h4 := P.st.ge
 obtain ⟨_, a, ha, hle, _⟩ := now_ok P hG hj hs hu hc
 obtain ⟨he, _⟩ := settled_err N P.st hj ha
 have := hG.clk (by omega) hb u.who a ha hle
 rw [he, mkU_at hG.ok (by omega) hu] at this
 have w := wid_b N (b := 0) (h := p.d) (by omega) (by omega) n7.1 (by omega)
 unfold TimeOK at hT
 omega
theorem rate_goes (P : Play p f gg dd S) (hG : Goes p gg dd j b W M) (hj : S ≤ j) (hs : StepI p gg dd W.ls sv) (hu : W.us[i]? = some u) (hc : Counts p sv u.who) (hb : b = 0) (net : Net p dd (lnk W.ls)) (hT : TimeOK W.tm) {X2 : Nat → Ux} {M2 : Nat → Ms} (bt : Beat p f dd W.tm true (Heard p (lnk W.ls) (mkU W.us W.X M)) (mkU W.us W.X M) (mkU W.us X2 M2)) : (X2 i).s.time - (W.X i).s.time - p.beat ≤ p.rho + p.mu ∧ -p.rho - p.mu ≤ (X2 i).s.time - (W.X i).s.time - p.beat := by
 subst hb
 have N := P.N
 have n7 := N.d; have h1 := P.n7; have h2 := P.hg; have h4 := P.st.ge
 obtain ⟨_, a, ha, hle, _⟩ := now_ok P hG hj hs hu hc
 have := (rate_ok N P.hf net P.st hj (hG.inv (by omega)) hT (hG.clk (by omega) rfl) bt ha).2
 rw [mkU_at hG.ok (by omega) hu, mkU_at hG.ok (by omega) hu] at this
 exact this
end
def TabsAny (ss : List Sta) (ts : List Tb) : Prop := ∀ s ∈ ss, ∃ y ∈ ts, y.a = s.ta ∧ y.n = s.tl ∧ y.c = s.tc ∧ y.l.length = y.n
theorem tabs_in {ss : List Sta} {ts : List Tb} (h : TabsAny ss ts) (hl : ∀ s ∈ ss, s.tl ≤ 128) : TabsIn ss ts := ⟨fun s hs => by
 obtain ⟨y, hy, a, b, c, d⟩ := h s hs
 exact ⟨y, hy, a, b, c, d, by have := hl s hs; omega⟩⟩
structure Was (p : Par) (W : Wd) (sv : List Int) (X : Nat → Ux) (b k : Nat) (wl : List Int) : Prop where
 len : wl.length = 48
 bd : ∀ i, i < 48 → -1152921504606846976 ≤ wl.getD i 0 ∧ wl.getD i 0 ≤ 1152921504606846976
 now : ∀ i u, W.us[i]? = some u → Counts p sv u.who → i < k → wl.getD u.who.toNat 0 = (X i).s.time
 old : ∀ i u, W.us[i]? = some u → Counts p sv u.who → k ≤ i → b = 0 ∨ ((X i).s.time - wl.getD u.who.toNat 0 - p.beat ≤ p.rho + p.mu ∧ -p.rho - p.mu ≤ (X i).s.time - wl.getD u.who.toNat 0 - p.beat)
theorem Was.skip {p : Par} {W : Wd} {sv : List Int} {X : Nat → Ux} {b k : Nat} {wl : List Int} (h : Was p W sv X b k wl) {u : Uc} (hu : W.us[k]? = some u) (hc : ¬ Counts p sv u.who) : Was p W sv X b (k + 1) wl := ⟨h.len, h.bd, fun i v hv hcv hi => by
 by_cases e : i = k
 ·subst e; rw [hu] at hv; obtain rfl := Option.some.inj hv; exact absurd hcv hc
 ·exact h.now i v hv hcv (by omega), fun i v hv hcv hi => h.old i v hv hcv (by omega)⟩
theorem Was.set {p : Par} {n nn : Nat} {W : Wd} (ok : WdOk n nn W) (h16 : n ≤ 16) (h32 : nn ≤ 32) {sv : List Int} {X : Nat → Ux} {b k : Nat} {wl : List Int} (h : Was p W sv X b k wl) {u : Uc} (hu : W.us[k]? = some u) (ht : -1152921504606846976 ≤ (X k).s.time ∧ (X k).s.time ≤ 1152921504606846976) : Was p W sv X b (k + 1) (wl.set u.who.toNat (X k).s.time) := by
 have h48 := ok.w48 h16 h32
 have hb := h48 u (List.mem_of_getElem? hu)
 have hl := h.len
 have get : ∀ i, (wl.set u.who.toNat (X k).s.time).getD i 0 = if u.who.toNat = i then (X k).s.time else wl.getD i 0 := fun i => getD_set wl _ i _ (by omega)
 have ne : ∀ i v, W.us[i]? = some v → i ≠ k → u.who.toNat ≠ v.who.toNat := fun i v hv hi e => hi (who_ix (ok.nodup h16) h48 hv hu e.symm)
 refine ⟨by rw [List.length_set]; exact hl, fun i hi => ?_, fun i v hv hcv hi => ?_, fun i v hv hcv hi => ?_⟩
 ·rw [get]; split
  ·exact ht
  ·exact h.bd i hi
 ·rw [get]
  by_cases e : i = k
  ·subst e
   rw [hu] at hv
   obtain rfl := Option.some.inj hv
   rw [if_pos rfl]
  ·rw [if_neg (ne i v hv e)]
   exact h.now i v hv hcv (by omega)
 ·rw [get, if_neg (ne i v hv (by omega))]
  exact h.old i v hv hcv (by omega)
theorem Was.zero (p : Par) (W : Wd) (sv : List Int) (X : Nat → Ux) : Was p W sv X 0 0 (List.replicate 48 0) := ⟨by simp, fun i hi => by
 have : (List.replicate 48 (0 : Int)).getD i 0 = 0 := by rw [List.getD_eq_getElem?_getD, List.getElem?_replicate]; split <;> rfl
 rw [this]; decide, fun i u _ _ h => by omega, fun _ _ _ _ _ => .inl rfl⟩
end Go.Proofs.YtbmhgopjblnfnaaGreat.S
namespace Go.Proofs.YtbmhgopjblnfnaaGreat.S
open Go Go.Joins Go.ChangeShapes Go.WideShapes Go.RowKit Go.Deep Tryz
theorem cellsOf3 : prog.cellsOf 3 = 1 := by kernel_rfl
theorem cellsOf4 : prog.cellsOf 4 = 1 := by kernel_rfl
theorem cellsOf9 : prog.cellsOf 9 = 1 := by kernel_rfl
theorem cellsOf23 : prog.cellsOf 23 = 12 := by kernel_rfl
theorem cellsOf24 : prog.cellsOf 24 = 1 := by kernel_rfl
theorem cellsOf25 : prog.cellsOf 25 = 1 := by kernel_rfl
theorem cellsOf26 : prog.cellsOf 26 = 1 := by kernel_rfl
theorem cellsOf27 : prog.cellsOf 27 = 1 := by kernel_rfl
theorem cellsOf28 : prog.cellsOf 28 = 1 := by kernel_rfl
theorem cellsOf30 : prog.cellsOf 30 = 20 := by kernel_rfl
theorem cellsOf49 : prog.cellsOf 49 = 2 := by kernel_rfl
theorem cellsOf58 : prog.cellsOf 58 = 1 := by kernel_rfl
theorem cellsOf68 : prog.cellsOf 68 = 2 := by kernel_rfl
theorem cellsOf70 : prog.cellsOf 70 = 11 := by kernel_rfl
theorem cellsOf72 : prog.cellsOf 72 = 2 := by kernel_rfl
theorem cellsOf74 : prog.cellsOf 74 = 3 := by kernel_rfl
theorem cellsOf174 : prog.cellsOf 174 = 2 := by kernel_rfl
theorem sl_open {H : Type} {enc : TypeId × Value → H} {w : World} {base : Nat} {spare : Nat → Bool} {held : Bool} {m : Nat} {c : List Value} {y : DataW H × List MemPlace} {t e : TypeId} (ht : prog.underlying t = some (.slice e)) (h : DataW.trod enc prog w base spare held m t c = some y) : ∃ (a : Option Addr) (n k : Nat), c = [.slice a n k] := by
 rcases Go.Deep.open_slice ht h with ⟨h, _⟩ | ⟨x, l, k, m', n, D, Pl, h, _⟩
 ·exact ⟨_, _, _, h⟩
 ·exact ⟨_, _, _, h⟩
theorem tT23 {H : Type} {enc : TypeId × Value → H} {w : World} {base : Nat} {spare : Nat → Bool} {held : Bool} {m : Nat} {c : List Value} {y : DataW H × List MemPlace} (h : DataW.trod enc prog w base spare held m 23 c = some y) (hl : c.length = 12) : ∃ (a0 : Int) (a1 : Int) (a2 : Int) (a3 : Int) (a4 : Int) (a5 : Int) (a6 : Int) (a7 : Int) (a8 : Int) (a9 : Int) (a10 : Int) (a11 : Int), c = [.int .i64 a0, .int .i64 a1, .int .i64 a2, .int .i64 a3, .int .i64 a4, .int .i64 a5, .int .i64 a6, .int .i64 a7, .int .i64 a8, .int .i64 a9, .int .i64 a10, .int .i64 a11] := by
 match c, hl with
 | [c0, c1, c2, c3, c4, c5, c6, c7, c8, c9, c10, c11], _ =>
  obtain ⟨xs, m', _, _, _, hlen, hg⟩ := DataW.trod_struct underlying23 h
  match xs, hlen with
  | [y0, y1, y2, y3, y4, y5, y6, y7, y8, y9, y10, y11], _ =>
   have g0 : DataW.trod enc prog w base spare held m' 3 [c0] = some y0 := by have h_ := hg 0 _ rfl; simpa [cellsOf3] using h_
   obtain ⟨a0, e0, _⟩ := DataW.trod_int underlying3 g0
   simp only [List.cons.injEq, and_true] at e0
   subst e0
   have g1 : DataW.trod enc prog w base spare held m' 3 [c1] = some y1 := by have h_ := hg 1 _ rfl; simpa [cellsOf3] using h_
   obtain ⟨a1, e1, _⟩ := DataW.trod_int underlying3 g1
   simp only [List.cons.injEq, and_true] at e1
   subst e1
   have g2 : DataW.trod enc prog w base spare held m' 3 [c2] = some y2 := by have h_ := hg 2 _ rfl; simpa [cellsOf3] using h_
   obtain ⟨a2, e2, _⟩ := DataW.trod_int underlying3 g2
   simp only [List.cons.injEq, and_true] at e2
   subst e2
   have g3 : DataW.trod enc prog w base spare held m' 3 [c3] = some y3 := by have h_ := hg 3 _ rfl; simpa [cellsOf3] using h_
   obtain ⟨a3, e3, _⟩ := DataW.trod_int underlying3 g3
   simp only [List.cons.injEq, and_true] at e3
   subst e3
   have g4 : DataW.trod enc prog w base spare held m' 3 [c4] = some y4 := by have h_ := hg 4 _ rfl; simpa [cellsOf3] using h_
   obtain ⟨a4, e4, _⟩ := DataW.trod_int underlying3 g4
   simp only [List.cons.injEq, and_true] at e4
   subst e4
   have g5 : DataW.trod enc prog w base spare held m' 3 [c5] = some y5 := by have h_ := hg 5 _ rfl; simpa [cellsOf3] using h_
   obtain ⟨a5, e5, _⟩ := DataW.trod_int underlying3 g5
   simp only [List.cons.injEq, and_true] at e5
   subst e5
   have g6 : DataW.trod enc prog w base spare held m' 3 [c6] = some y6 := by have h_ := hg 6 _ rfl; simpa [cellsOf3] using h_
   obtain ⟨a6, e6, _⟩ := DataW.trod_int underlying3 g6
   simp only [List.cons.injEq, and_true] at e6
   subst e6
   have g7 : DataW.trod enc prog w base spare held m' 3 [c7] = some y7 := by have h_ := hg 7 _ rfl; simpa [cellsOf3] using h_
   obtain ⟨a7, e7, _⟩ := DataW.trod_int underlying3 g7
   simp only [List.cons.injEq, and_true] at e7
   subst e7
   have g8 : DataW.trod enc prog w base spare held m' 3 [c8] = some y8 := by have h_ := hg 8 _ rfl; simpa [cellsOf3] using h_
   obtain ⟨a8, e8, _⟩ := DataW.trod_int underlying3 g8
   simp only [List.cons.injEq, and_true] at e8
   subst e8
   have g9 : DataW.trod enc prog w base spare held m' 3 [c9] = some y9 := by have h_ := hg 9 _ rfl; simpa [cellsOf3] using h_
   obtain ⟨a9, e9, _⟩ := DataW.trod_int underlying3 g9
   simp only [List.cons.injEq, and_true] at e9
   subst e9
   have g10 : DataW.trod enc prog w base spare held m' 3 [c10] = some y10 := by have h_ := hg 10 _ rfl; simpa [cellsOf3] using h_
   obtain ⟨a10, e10, _⟩ := DataW.trod_int underlying3 g10
   simp only [List.cons.injEq, and_true] at e10
   subst e10
   have g11 : DataW.trod enc prog w base spare held m' 3 [c11] = some y11 := by have h_ := hg 11 _ rfl; simpa [cellsOf3] using h_
   obtain ⟨a11, e11, _⟩ := DataW.trod_int underlying3 g11
   simp only [List.cons.injEq, and_true] at e11
   subst e11
   exact ⟨_, _, _, _, _, _, _, _, _, _, _, _, rfl⟩
theorem tT30 {H : Type} {enc : TypeId × Value → H} {w : World} {base : Nat} {spare : Nat → Bool} {held : Bool} {m : Nat} {c : List Value} {y : DataW H × List MemPlace} (h : DataW.trod enc prog w base spare held m 30 c = some y) (hl : c.length = 20) : ∃ (a0 : Int) (a1 : Int) (a2 : Int) (a3 : Int) (a4 : Int) (a5 : Int) (a6 : Int) (a7 : Int) (a8 : Int) (a9 : Int) (a10 : Int) (a11 : Int) (a12 : Int) (a13 : Int) (A14 : Option Addr) (n14 k14 : Nat) (A15 : Option Addr) (n15 k15 : Nat) (A16 : Option Addr) (n16 k16 : Nat) (A17 : Option Addr) (n17 k17 : Nat) (A18 : Option Addr) (n18 k18 : Nat) (A19 : Option Addr) (n19 k19 : Nat), c = [.int .i64 a0, .int .i64 a1, .int .i64 a2, .int .i64 a3, .int .i64 a4, .int .i64 a5, .int .i64 a6, .int .i64 a7, .int .i64 a8, .int .i64 a9, .int .i64 a10, .int .i64 a11, .int .i64 a12, .int .i64 a13, .slice A14 n14 k14, .slice A15 n15 k15, .slice A16 n16 k16, .slice A17 n17 k17, .slice A18 n18 k18, .slice A19 n19 k19] ∧ (∃ m y, DataW.trod enc prog w base spare held m 24 [.slice A14 n14 k14] = some y) ∧ (∃ m y, DataW.trod enc prog w base spare held m 25 [.slice A15 n15 k15] = some y) ∧ (∃ m y, DataW.trod enc prog w base spare held m 26 [.slice A16 n16 k16] = some y) ∧ (∃ m y, DataW.trod enc prog w base spare held m 27 [.slice A17 n17 k17] = some y) ∧ (∃ m y, DataW.trod enc prog w base spare held m 24 [.slice A18 n18 k18] = some y) ∧ (∃ m y, DataW.trod enc prog w base spare held m 28 [.slice A19 n19 k19] = some y) := by
 match c, hl with
 | [c0, c1, c2, c3, c4, c5, c6, c7, c8, c9, c10, c11, c12, c13, c14, c15, c16, c17, c18, c19], _ =>
  obtain ⟨xs, m', _, _, _, hlen, hg⟩ := DataW.trod_struct underlying30 h
  match xs, hlen with
  | [y0, y1, y2, y3, y4, y5, y6, y7, y8], _ =>
   have g0 : DataW.trod enc prog w base spare held m' 23 [c0, c1, c2, c3, c4, c5, c6, c7, c8, c9, c10, c11] = some y0 := by have h_ := hg 0 _ rfl; simpa [cellsOf23] using h_
   obtain ⟨a0, a1, a2, a3, a4, a5, a6, a7, a8, a9, a10, a11, e0⟩ := tT23 g0 rfl
   simp only [List.cons.injEq, and_true] at e0
   obtain ⟨rfl, rfl, rfl, rfl, rfl, rfl, rfl, rfl, rfl, rfl, rfl, rfl⟩ := e0
   have g1 : DataW.trod enc prog w base spare held m' 3 [c12] = some y1 := by have h_ := hg 1 _ rfl; simpa [cellsOf3] using h_
   obtain ⟨a12, e1, _⟩ := DataW.trod_int underlying3 g1
   simp only [List.cons.injEq, and_true] at e1
   subst e1
   have g2 : DataW.trod enc prog w base spare held m' 3 [c13] = some y2 := by have h_ := hg 2 _ rfl; simpa [cellsOf3] using h_
   obtain ⟨a13, e2, _⟩ := DataW.trod_int underlying3 g2
   simp only [List.cons.injEq, and_true] at e2
   subst e2
   have g3 : DataW.trod enc prog w base spare held m' 24 [c14] = some y3 := by have h_ := hg 3 _ rfl; simpa [cellsOf24] using h_
   obtain ⟨A14, n14, k14, e3⟩ := sl_open underlying24 g3
   simp only [List.cons.injEq, and_true] at e3
   subst e3
   have g4 : DataW.trod enc prog w base spare held m' 25 [c15] = some y4 := by have h_ := hg 4 _ rfl; simpa [cellsOf25] using h_
   obtain ⟨A15, n15, k15, e4⟩ := sl_open underlying25 g4
   simp only [List.cons.injEq, and_true] at e4
   subst e4
   have g5 : DataW.trod enc prog w base spare held m' 26 [c16] = some y5 := by have h_ := hg 5 _ rfl; simpa [cellsOf26] using h_
   obtain ⟨A16, n16, k16, e5⟩ := sl_open underlying26 g5
   simp only [List.cons.injEq, and_true] at e5
   subst e5
   have g6 : DataW.trod enc prog w base spare held m' 27 [c17] = some y6 := by have h_ := hg 6 _ rfl; simpa [cellsOf27] using h_
   obtain ⟨A17, n17, k17, e6⟩ := sl_open underlying27 g6
   simp only [List.cons.injEq, and_true] at e6
   subst e6
   have g7 : DataW.trod enc prog w base spare held m' 24 [c18] = some y7 := by have h_ := hg 7 _ rfl; simpa [cellsOf24] using h_
   obtain ⟨A18, n18, k18, e7⟩ := sl_open underlying24 g7
   simp only [List.cons.injEq, and_true] at e7
   subst e7
   have g8 : DataW.trod enc prog w base spare held m' 28 [c19] = some y8 := by have h_ := hg 8 _ rfl; simpa [cellsOf28] using h_
   obtain ⟨A19, n19, k19, e8⟩ := sl_open underlying28 g8
   simp only [List.cons.injEq, and_true] at e8
   subst e8
   exact ⟨_, _, _, _, _, _, _, _, _, _, _, _, _, _, _, _, _, _, _, _, _, _, _, _, _, _, _, _, _, _, _, _, rfl, ⟨_, _, g3⟩, ⟨_, _, g4⟩, ⟨_, _, g5⟩, ⟨_, _, g6⟩, ⟨_, _, g7⟩, ⟨_, _, g8⟩⟩
theorem tT49 {H : Type} {enc : TypeId × Value → H} {w : World} {base : Nat} {spare : Nat → Bool} {held : Bool} {m : Nat} {c : List Value} {y : DataW H × List MemPlace} (h : DataW.trod enc prog w base spare held m 49 c = some y) (hl : c.length = 2) : ∃ (a0 : Int) (a1 : Int), c = [.int .i64 a0, .int .i64 a1] := by
 match c, hl with
 | [c0, c1], _ =>
  obtain ⟨xs, m', _, _, _, hlen, hg⟩ := DataW.trod_struct underlying49 h
  match xs, hlen with
  | [y0, y1], _ =>
   have g0 : DataW.trod enc prog w base spare held m' 3 [c0] = some y0 := by have h_ := hg 0 _ rfl; simpa [cellsOf3] using h_
   obtain ⟨a0, e0, _⟩ := DataW.trod_int underlying3 g0
   simp only [List.cons.injEq, and_true] at e0
   subst e0
   have g1 : DataW.trod enc prog w base spare held m' 3 [c1] = some y1 := by have h_ := hg 1 _ rfl; simpa [cellsOf3] using h_
   obtain ⟨a1, e1, _⟩ := DataW.trod_int underlying3 g1
   simp only [List.cons.injEq, and_true] at e1
   subst e1
   exact ⟨_, _, rfl⟩
theorem tT68 {H : Type} {enc : TypeId × Value → H} {w : World} {base : Nat} {spare : Nat → Bool} {held : Bool} {m : Nat} {c : List Value} {y : DataW H × List MemPlace} (h : DataW.trod enc prog w base spare held m 68 c = some y) (hl : c.length = 2) : ∃ (a0 : Int) (a1 : Int), c = [.int .i64 a0, .int .i64 a1] := by
 match c, hl with
 | [c0, c1], _ =>
  obtain ⟨xs, m', _, _, _, hlen, hg⟩ := DataW.trod_struct underlying68 h
  match xs, hlen with
  | [y0, y1], _ =>
   have g0 : DataW.trod enc prog w base spare held m' 3 [c0] = some y0 := by have h_ := hg 0 _ rfl; simpa [cellsOf3] using h_
   obtain ⟨a0, e0, _⟩ := DataW.trod_int underlying3 g0
   simp only [List.cons.injEq, and_true] at e0
   subst e0
   have g1 : DataW.trod enc prog w base spare held m' 3 [c1] = some y1 := by have h_ := hg 1 _ rfl; simpa [cellsOf3] using h_
   obtain ⟨a1, e1, _⟩ := DataW.trod_int underlying3 g1
   simp only [List.cons.injEq, and_true] at e1
   subst e1
   exact ⟨_, _, rfl⟩
theorem tT70 {H : Type} {enc : TypeId × Value → H} {w : World} {base : Nat} {spare : Nat → Bool} {held : Bool} {m : Nat} {c : List Value} {y : DataW H × List MemPlace} (h : DataW.trod enc prog w base spare held m 70 c = some y) (hl : c.length = 11) : ∃ (a0 : Int) (a1 : Int) (a2 : Int) (a3 : Bool) (a4 : Int) (a5 : Int) (a6 : Bool) (A7 : Option Addr) (n7 k7 : Nat) (a8 : Int) (a9 : Int) (a10 : Int), c = [.int .i64 a0, .int .i64 a1, .int .i64 a2, .bool a3, .int .i64 a4, .int .i64 a5, .bool a6, .slice A7 n7 k7, .int .i64 a8, .int .i64 a9, .int .i64 a10] ∧ (∃ m y, DataW.trod enc prog w base spare held m 58 [.slice A7 n7 k7] = some y) := by
 match c, hl with
 | [c0, c1, c2, c3, c4, c5, c6, c7, c8, c9, c10], _ =>
  obtain ⟨xs, m', _, _, _, hlen, hg⟩ := DataW.trod_struct underlying70 h
  match xs, hlen with
  | [y0, y1, y2, y3, y4, y5, y6, y7, y8], _ =>
   have g0 : DataW.trod enc prog w base spare held m' 49 [c0, c1] = some y0 := by have h_ := hg 0 _ rfl; simpa [cellsOf49] using h_
   obtain ⟨a0, a1, e0⟩ := tT49 g0 rfl
   simp only [List.cons.injEq, and_true] at e0
   obtain ⟨rfl, rfl⟩ := e0
   have g1 : DataW.trod enc prog w base spare held m' 3 [c2] = some y1 := by have h_ := hg 1 _ rfl; simpa [cellsOf3] using h_
   obtain ⟨a2, e1, _⟩ := DataW.trod_int underlying3 g1
   simp only [List.cons.injEq, and_true] at e1
   subst e1
   have g2 : DataW.trod enc prog w base spare held m' 4 [c3] = some y2 := by have h_ := hg 2 _ rfl; simpa [cellsOf4] using h_
   obtain ⟨a3, e2, _⟩ := DataW.trod_bool underlying4 g2
   simp only [List.cons.injEq, and_true] at e2
   subst e2
   have g3 : DataW.trod enc prog w base spare held m' 3 [c4] = some y3 := by have h_ := hg 3 _ rfl; simpa [cellsOf3] using h_
   obtain ⟨a4, e3, _⟩ := DataW.trod_int underlying3 g3
   simp only [List.cons.injEq, and_true] at e3
   subst e3
   have g4 : DataW.trod enc prog w base spare held m' 3 [c5] = some y4 := by have h_ := hg 4 _ rfl; simpa [cellsOf3] using h_
   obtain ⟨a5, e4, _⟩ := DataW.trod_int underlying3 g4
   simp only [List.cons.injEq, and_true] at e4
   subst e4
   have g5 : DataW.trod enc prog w base spare held m' 4 [c6] = some y5 := by have h_ := hg 5 _ rfl; simpa [cellsOf4] using h_
   obtain ⟨a6, e5, _⟩ := DataW.trod_bool underlying4 g5
   simp only [List.cons.injEq, and_true] at e5
   subst e5
   have g6 : DataW.trod enc prog w base spare held m' 58 [c7] = some y6 := by have h_ := hg 6 _ rfl; simpa [cellsOf58] using h_
   obtain ⟨A7, n7, k7, e6⟩ := sl_open underlying58 g6
   simp only [List.cons.injEq, and_true] at e6
   subst e6
   have g7 : DataW.trod enc prog w base spare held m' 68 [c8, c9] = some y7 := by have h_ := hg 7 _ rfl; simpa [cellsOf68] using h_
   obtain ⟨a8, a9, e7⟩ := tT68 g7 rfl
   simp only [List.cons.injEq, and_true] at e7
   obtain ⟨rfl, rfl⟩ := e7
   have g8 : DataW.trod enc prog w base spare held m' 3 [c10] = some y8 := by have h_ := hg 8 _ rfl; simpa [cellsOf3] using h_
   obtain ⟨a10, e8, _⟩ := DataW.trod_int underlying3 g8
   simp only [List.cons.injEq, and_true] at e8
   subst e8
   exact ⟨_, _, _, _, _, _, _, _, _, _, _, _, _, rfl, ⟨_, _, g6⟩⟩
theorem tT72 {H : Type} {enc : TypeId × Value → H} {w : World} {base : Nat} {spare : Nat → Bool} {held : Bool} {m : Nat} {c : List Value} {y : DataW H × List MemPlace} (h : DataW.trod enc prog w base spare held m 72 c = some y) (hl : c.length = 2) : ∃ (a0 : Int) (a1 : Int), c = [.int .i64 a0, .int .i64 a1] := by
 match c, hl with
 | [c0, c1], _ =>
  obtain ⟨xs, m', _, _, _, hlen, hg⟩ := DataW.trod_struct underlying72 h
  match xs, hlen with
  | [y0, y1], _ =>
   have g0 : DataW.trod enc prog w base spare held m' 3 [c0] = some y0 := by have h_ := hg 0 _ rfl; simpa [cellsOf3] using h_
   obtain ⟨a0, e0, _⟩ := DataW.trod_int underlying3 g0
   simp only [List.cons.injEq, and_true] at e0
   subst e0
   have g1 : DataW.trod enc prog w base spare held m' 3 [c1] = some y1 := by have h_ := hg 1 _ rfl; simpa [cellsOf3] using h_
   obtain ⟨a1, e1, _⟩ := DataW.trod_int underlying3 g1
   simp only [List.cons.injEq, and_true] at e1
   subst e1
   exact ⟨_, _, rfl⟩
theorem tT74 {H : Type} {enc : TypeId × Value → H} {w : World} {base : Nat} {spare : Nat → Bool} {held : Bool} {m : Nat} {c : List Value} {y : DataW H × List MemPlace} (h : DataW.trod enc prog w base spare held m 74 c = some y) (hl : c.length = 3) : ∃ (a0 : Int) (a1 : Int) (a2 : ByteArray), c = [.int .i64 a0, .int .i64 a1, .string a2] := by
 match c, hl with
 | [c0, c1, c2], _ =>
  obtain ⟨xs, m', _, _, _, hlen, hg⟩ := DataW.trod_struct underlying74 h
  match xs, hlen with
  | [y0, y1], _ =>
   have g0 : DataW.trod enc prog w base spare held m' 72 [c0, c1] = some y0 := by have h_ := hg 0 _ rfl; simpa [cellsOf72] using h_
   obtain ⟨a0, a1, e0⟩ := tT72 g0 rfl
   simp only [List.cons.injEq, and_true] at e0
   obtain ⟨rfl, rfl⟩ := e0
   have g1 : DataW.trod enc prog w base spare held m' 9 [c2] = some y1 := by have h_ := hg 1 _ rfl; simpa [cellsOf9] using h_
   obtain ⟨a2, e1, _⟩ := DataW.trod_string underlying9 g1
   simp only [List.cons.injEq, and_true] at e1
   subst e1
   exact ⟨_, _, _, rfl⟩
theorem tT174 {H : Type} {enc : TypeId × Value → H} {w : World} {base : Nat} {spare : Nat → Bool} {held : Bool} {m : Nat} {c : List Value} {y : DataW H × List MemPlace} (h : DataW.trod enc prog w base spare held m 174 c = some y) (hl : c.length = 2) : ∃ (a0 : Int) (a1 : Int), c = [.int .i64 a0, .int .i64 a1] := by
 match c, hl with
 | [c0, c1], _ =>
  obtain ⟨xs, m', _, _, _, hlen, hg⟩ := DataW.trod_struct underlying174 h
  match xs, hlen with
  | [y0, y1], _ =>
   have g0 : DataW.trod enc prog w base spare held m' 3 [c0] = some y0 := by have h_ := hg 0 _ rfl; simpa [cellsOf3] using h_
   obtain ⟨a0, e0, _⟩ := DataW.trod_int underlying3 g0
   simp only [List.cons.injEq, and_true] at e0
   subst e0
   have g1 : DataW.trod enc prog w base spare held m' 3 [c1] = some y1 := by have h_ := hg 1 _ rfl; simpa [cellsOf3] using h_
   obtain ⟨a1, e1, _⟩ := DataW.trod_int underlying3 g1
   simp only [List.cons.injEq, and_true] at e1
   subst e1
   exact ⟨_, _, rfl⟩
theorem view_of {α : Type} (f : α → List Value) {H : Type} {enc : TypeId × Value → H} {w : World} {base : Nat} {spare : Nat → Bool} {held : Bool} {m : Nat} {y : DataW H × List MemPlace} {t e sz : Nat} (hf : ∀ x, (f x).length = sz) (h0 : 0 < sz) (ht : prog.underlying t = some (.slice e)) (hc : prog.cellsOf e = sz) (op : ∀ m cs y, DataW.trod enc prog w base spare held m e cs = some y → cs.length = sz → ∃ x, cs = f x) {a : Option Addr} {len cap : Nat} (h : DataW.trod enc prog w base spare held m t [.slice a len cap] = some y) :
  ∃ l : List α, l.length = len ∧ (view a cap e sz len (l.flatMap f)).H w ∧ ∀ x ∈ l, ∃ m y, DataW.trod enc prog w base spare held m e (f x) = some y := by
 rcases Go.Deep.open_slice ht h with ⟨hcs, _⟩ | ⟨x, len', cap', k, n, D, Pl, hcs, _, hl, hm, hmm, _, hi⟩
 ·simp at hcs
  obtain ⟨rfl, rfl, rfl⟩ := hcs
  exact ⟨[], rfl, ⟨by simp, Nat.le_refl _, Nat.zero_le _, fun _ => rfl, .inl rfl⟩, fun x hx => nomatch hx⟩
 ·simp at hcs
  obtain ⟨rfl, rfl, rfl⟩ := hcs
  have hlk : len ≤ k := by rw [hmm]; split <;> omega
  rw [hc] at hi
  have key : ∀ i, i < len → ∃ z : α, w.cells? base (x.add (i * sz)) sz = some (f z) ∧ ∃ m y, DataW.trod enc prog w base spare held m e (f z) = some y := fun i him => by
   obtain ⟨cs', h1, h2⟩ := hi i (by omega)
   obtain ⟨z, rfl⟩ := op _ _ _ h2 (World.cells?_some h1).2.1
   exact ⟨z, h1, _, _, h2⟩
  have hch : ∀ k, k ≤ len → ∃ l : List α, l.length = k ∧ ∀ i z, l[i]? = some z → w.cells? base (x.add (i * sz)) sz = some (f z) ∧ ∃ m y, DataW.trod enc prog w base spare held m e (f z) = some y := fun k => by
   induction k with
   | zero => exact fun _ => ⟨[], rfl, fun i z h => by simp at h⟩
   | succ k ih =>
    intro hk
    obtain ⟨l, e1, h1⟩ := ih (by omega)
    obtain ⟨z, hz⟩ := key k hk
    refine ⟨l ++ [z], by simp [e1], fun i u hu => ?_⟩
    rcases Nat.lt_or_ge i l.length with q | q
    ·rw [List.getElem?_append_left q] at hu; exact h1 i u hu
    ·rw [List.getElem?_append_right q] at hu
     have : i - l.length = 0 := by rcases Nat.lt_or_ge (i - l.length) 1 with r | r; omega; rw [List.getElem?_eq_none (by simpa using r)] at hu; cases hu
     rw [this] at hu
     simp at hu
     subst hu
     rw [show i = k from by omega]
     exact hz
  obtain ⟨l, e1, h1⟩ := hch len (Nat.le_refl _)
  refine ⟨l, e1, ⟨by rw [flat_len (n := sz) f hf, e1], hl, hm, (fun h => nomatch h), ?_⟩, fun z hz => ?_⟩
  ·by_cases hn : len = 0
   ·exact .inl hn
   ·obtain ⟨z0, hz0⟩ : ∃ z, l[0]? = some z := ⟨_, List.getElem?_eq_getElem (by omega)⟩
    have cell : ∀ i z, l[i]? = some z → ∀ q v, (f z)[q]? = some v → w.cell? (x.add (i * sz + q)) = some v := fun i z hz q v hv => by
     have h3 := (World.cells?_some (h1 i z hz).1).2.2 q (by have := (List.getElem?_eq_some_iff.1 hv).1; rw [hf] at this; exact this)
     rw [Go.Deep.add_add] at h3
     rw [h3]; exact hv
    obtain ⟨v0, hv0⟩ : ∃ v, (f z0)[0]? = some v := ⟨_, List.getElem?_eq_getElem (by rw [hf]; exact h0)⟩
    have hx := cell 0 z0 hz0 0 v0 hv0
    rw [show 0 * sz + 0 = 0 from by omega, show x.add 0 = x from rfl] at hx
    obtain ⟨g, ob, sp⟩ := x
    have hsp : sp = none := by
     cases sp with
     | none => rfl
     | some s => simp [World.cell?] at hx; split at hx <;> simp at hx
    subst hsp
    refine .inr ⟨g, ob, rfl, ?_, fun j v hv => ?_⟩
    ·unfold World.cell? at hx
     split at hx
     ·next hq => exact lt_of_some hq
     ·cases hx
    ·have hj : j < len * sz := by have := (List.getElem?_eq_some_iff.1 hv).1; rwa [flat_len (n := sz) f hf, e1] at this
     have hd : j / sz < l.length := by rw [e1]; exact Nat.div_lt_of_lt_mul (by rw [Nat.mul_comm]; exact hj)
     have hmod := Nat.mod_lt j h0
     have h4 := flat_at f hf (List.getElem?_eq_getElem hd)
     have h5 : (f l[j / sz])[j % sz]? = some v := by
      rw [← h4, List.getElem?_take_of_lt hmod, List.getElem?_drop, Nat.mul_comm, Nat.div_add_mod]
      exact hv
     have h6 := cell _ _ (List.getElem?_eq_getElem hd) _ _ h5
     rw [add_at, Nat.mul_comm, Nat.div_add_mod] at h6
     exact h6
  ·obtain ⟨i, hi'⟩ := List.getElem?_of_mem hz
   exact (h1 i z hi').2
theorem ints_flat (l : List Int) : ints l = l.flatMap fun x => [.int .i64 x] := by unfold ints; induction l with
 | nil => rfl
 | cons x l ih => simp [ih]
theorem strs_flat (l : List ByteArray) : strs l = l.flatMap fun x => [.string x] := by unfold strs; induction l with
 | nil => rfl
 | cons x l ih => simp [ih]
def intOf : Option Value → Int
 | some (.int _ n) => n
 | _ => 0
set_option maxRecDepth 100000 in
theorem pw_of {W : World} (h : W.ShapedOpen prog) : ∃ pw : List Int, pw.length = 20 ∧ (blk 2 (u64s pw) 319).H W := by
 obtain ⟨cs, hh, hs, hr⟩ := h.1 2 (Array.replicate 20 (.int .u64 0)) 319 (of_decide_eq_true (by kernel_rfl)) (by kernel_rfl)
 obtain ⟨ts, hts, _, hall⟩ := hr (by kernel_rfl)
 rw [show prog.cellTypes prog.depth 319 = some (List.replicate 20 143) from by kernel_rfl] at hts
 cases hts
 have hs' : cs.size = 20 := hs
 have key : ∀ i, i < 20 → ∃ n : Int, cs[i]? = some (.int .u64 n) := fun i hi => by
  obtain ⟨u, hu, hok⟩ := hall i (cs[i]'(by omega)) (by simp [hs', hi])
  have hu2 : u = 143 := List.eq_of_mem_replicate (List.mem_of_getElem? hu)
  subst hu2
  have hg : cs[i]? = some (cs[i]'(by omega)) := by simp [hs', hi]
  rw [hg]
  unfold Cell.ok at hok
  rw [underlying143] at hok
  cases hv : cs[i]'(by omega) <;> rw [hv] at hok <;> simp at hok
  case int k' n => exact ⟨n, by rw [hok.1]⟩
 refine ⟨(List.range 20).map fun i => intOf cs[i]?, by simp, ?_⟩
 show W.heap[2]? = _
 rw [hh]
 congr 2
 apply Array.ext'
 apply List.ext_getElem?
 intro i
 by_cases hi : i < 20
 ·obtain ⟨n, hn⟩ := key i hi
  simp only [Array.getElem?_toList, hn, u64s, List.map_map, List.getElem?_map, List.getElem?_range hi, Option.map_some, Function.comp, intOf]
 ·rw [List.getElem?_eq_none (by simp [hs']; omega), List.getElem?_eq_none (by simp [u64s]; omega)]
theorem tabs_of {H : Type} {enc : TypeId × Value → H} {w : World} {base : Nat} {spare : Nat → Bool} {held : Bool} (ss : List Sta) (h : ∀ s ∈ ss, ∃ m y, DataW.trod enc prog w base spare held m 70 (staC s) = some y) : ∃ ts : List Tb, TabsAny ss ts ∧ (viewsE ts).H w := by
 induction ss with
 | nil => exact ⟨[], (fun s hs => nomatch hs), (fun x hx => nomatch hx)⟩
 | cons s ss ih =>
  obtain ⟨ts, h1, h2⟩ := ih fun s hs => h s (List.mem_cons_of_mem _ hs)
  obtain ⟨m, y, hy⟩ := h s List.mem_cons_self
  obtain ⟨a0, a1, a2, a3, a4, a5, a6, A7, n7, k7, a8, a9, a10, e, m', y', hs⟩ := tT70 hy rfl
  obtain ⟨l, hl, hv, _⟩ := view_of (fun x : Int × Int => [.int .i64 x.1, .int .i64 x.2]) (sz := 2) (fun _ => rfl) (by decide) underlying58 cellsOf174 (fun m cs y h hl => by obtain ⟨a, b, e⟩ := tT174 h hl; exact ⟨(a, b), e⟩) hs
  simp only [staC, List.cons.injEq, Value.slice.injEq] at e
  obtain ⟨_, _, _, _, _, _, _, ⟨e1, e2, e3⟩, _⟩ := e
  refine ⟨⟨A7, n7, k7, l⟩ :: ts, fun z hz => ?_, fun x hx => ?_⟩
  ·rcases List.mem_cons.1 hz with rfl | q
   ·exact ⟨_, List.mem_cons_self, e1.symm, e2.symm, e3.symm, hl⟩
   ·obtain ⟨x, hx, r⟩ := h1 z q
    exact ⟨x, List.mem_cons_of_mem _ hx, r⟩
  ·rcases List.mem_cons.1 hx with rfl | q
   ·exact hv
   ·exact h2 x q
set_option maxRecDepth 100000 in
theorem case_in {H : Type} {enc : TypeId × Value → H} {W : World} {base b0 : Nat} {spare : Nat → Bool} {held : Bool} {r : Reach} {v : Value} {d : DataW H} {p : List MemPlace} (hv : Value.okWide prog W r b0 30 v) (h : DataW.Trod enc prog W base spare held 30 v d p) : ∃ (p : Par) (ct cn : Int) (ha : Option Addr) (hn hc : Nat) (ka : Option Addr) (kn kc : Nat) (sa : Option Addr) (sn sc : Nat) (fa : Option Addr) (fn fc : Nat) (na : Option Addr) (nn nc : Nat) (qa : Option Addr) (qn qc : Nat), v = .agg #[.int .i64 p.n, .int .i64 p.f, .int .i64 p.d, .int .i64 p.beat, .int .i64 p.rho, .int .i64 p.delay, .int .i64 p.jitter, .int .i64 p.eps, .int .i64 p.mu, .int .i64 p.hold, .int .i64 p.pulse, .int .i64 p.second, .int .i64 ct, .int .i64 cn, .slice ha hn hc, .slice ka kn kc, .slice sa sn sc, .slice fa fn fc, .slice na nn nc, .slice qa qn qc] ∧ ∃ (core : List Int) (links : List (Int × Int)) (ss : List Sta) (ts : List Tb) (frs : List Li) (zs : List Int) (lz : List ByteArray), core.length = hn ∧ links.length = kn ∧ ss.length = sn ∧ TabsAny ss ts ∧ frs.length = fn ∧ zs.length = nn ∧ lz.length = qn ∧ (view ha hc 3 1 hn (ints core)).H W ∧ (view ka kc 72 2 kn (spl links)).H W ∧ (view sa sc 70 11 sn (stal ss)).H W ∧ (view fa fc 74 3 fn (lil frs)).H W ∧ (viewsE ts).H W ∧ (view na nc 3 1 nn (ints zs)).H W ∧ (view qa qc 9 1 qn (strs lz)).H W := by
 obtain ⟨cs, rfl, hsz⟩ := okWide_struct underlying30 hv
 obtain ⟨l⟩ := cs
 obtain ⟨fuel, hf⟩ := h
 obtain ⟨a0, a1, a2, a3, a4, a5, a6, a7, a8, a9, a10, a11, ct, cn, ha, hn, hc, ka, kn, kc, sa, sn, sc, fa, fn, fc, na, nn, nc, qa, qn, qc, e, ⟨m1, y1, h1⟩, ⟨m2, y2, h2⟩, ⟨m3, y3, h3⟩, ⟨m4, y4, h4⟩, ⟨m5, y5, h5⟩, ⟨m6, y6, h6⟩⟩ := tT30 (c := l) (by simpa [Value.cells] using hf) (by simpa [cellsOf30] using hsz)
 subst e
 obtain ⟨core, e1, v1, _⟩ := view_of (fun x : Int => [.int .i64 x]) (sz := 1) (fun _ => rfl) (by decide) underlying24 cellsOf3 (fun m cs y h hl => by obtain ⟨a, e, _⟩ := DataW.trod_int underlying3 h; exact ⟨a, e⟩) h1
 obtain ⟨links, e2, v2, _⟩ := view_of (fun x : Int × Int => [.int .i64 x.1, .int .i64 x.2]) (sz := 2) (fun _ => rfl) (by decide) underlying25 cellsOf72 (fun m cs y h hl => by obtain ⟨a, b, e⟩ := tT72 h hl; exact ⟨(a, b), e⟩) h2
 obtain ⟨ss, e3, v3, hss⟩ := view_of staC (sz := 11) (fun _ => rfl) (by decide) underlying26 cellsOf70 (fun m cs y h hl => by obtain ⟨a0, a1, a2, a3, a4, a5, a6, A7, n7, k7, a8, a9, a10, e, _⟩ := tT70 h hl; exact ⟨⟨a0, a1, a2, a3, a4, a5, a6, A7, n7, k7, a8, a9, a10⟩, e⟩) h3
 obtain ⟨frs, e4, v4, _⟩ := view_of Li.cells (sz := 3) (fun _ => rfl) (by decide) underlying27 cellsOf74 (fun m cs y h hl => by obtain ⟨a, b, s, e⟩ := tT74 h hl; exact ⟨⟨a, b, s⟩, e⟩) h4
 obtain ⟨zs, e5, v5, _⟩ := view_of (fun x : Int => [.int .i64 x]) (sz := 1) (fun _ => rfl) (by decide) underlying24 cellsOf3 (fun m cs y h hl => by obtain ⟨a, e, _⟩ := DataW.trod_int underlying3 h; exact ⟨a, e⟩) h5
 obtain ⟨lz, e6, v6, _⟩ := view_of (fun x : ByteArray => [.string x]) (sz := 1) (fun _ => rfl) (by decide) underlying28 cellsOf9 (fun m cs y h hl => by obtain ⟨a, e, _⟩ := DataW.trod_string underlying9 h; exact ⟨a, e⟩) h6
 obtain ⟨ts, hts, v7⟩ := tabs_of ss hss
 refine ⟨⟨a0, a1, a2, a3, a4, a5, a6, a7, a8, a9, a10, a11⟩, ct, cn, ha, hn, hc, ka, kn, kc, sa, sn, sc, fa, fn, fc, na, nn, nc, qa, qn, qc, rfl, core, links, ss, ts, frs, zs, lz, e1, e2, e3, hts, e4, e5, e6, ?_, v2, v3, v4, v7, ?_, ?_⟩
 ·rw [ints_flat]; exact v1
 ·rw [ints_flat]; exact v5
 ·rw [strs_flat]; exact v6
end Go.Proofs.YtbmhgopjblnfnaaGreat.S
namespace Go.Proofs.YtbmhgopjblnfnaaGreat.S
open Go Go.Proofs Go.RowKit Go.Proofs.YtbmhgopjblnfnaaGreatW.PrintLast Tryz
theorem e6 : Is prog 6 := ⟨_, func6, by kernel_rfl, rfl⟩
theorem e7 : Is prog 7 := ⟨_, func7, by kernel_rfl, rfl⟩
theorem e8 : Is prog 8 := ⟨_, func8, by kernel_rfl, rfl⟩
theorem e9 : Is prog 9 := ⟨_, func9, by kernel_rfl, rfl⟩
theorem e11 : Is prog 11 := ⟨_, func11, by kernel_rfl, rfl⟩
theorem e13 : Is prog 13 := ⟨_, func13, by kernel_rfl, rfl⟩
theorem was_set {p : Par} {n nn : Nat} {W : Wd} {X : Nat → Ux} {q : Qs} {t : Int} (ok : WdOk n nn { W with X := X, q := q, tm := t }) (h16 : n ≤ 16) (h32 : nn ≤ 32) {sv : List Int} {b k : Nat} {wl : List Int} (h : Was p W sv X b k wl) {u : Uc} (hu : W.us[k]? = some u) (ht : -1152921504606846976 ≤ (X k).s.time ∧ (X k).s.time ≤ 1152921504606846976) : Was p W sv X b (k + 1) (wl.set u.who.toNat (X k).s.time) := by
 have h' : Was p { W with X := X, q := q, tm := t } sv X b k wl := ⟨h.len, h.bd, h.now, h.old⟩
 have := h'.set ok h16 h32 hu ht
 exact ⟨this.len, this.bd, this.now, this.old⟩
theorem was_next {p : Par} {f gg dd S : Nat} (P : Play p f gg dd S) {W : Wd} {X X2 : Nat → Ux} {q : Qs} {t : Int} {j b k : Nat} {M M2 : Nat → Ms} (hG : Goes p gg dd j 0 { W with X := X, q := q, tm := t } M) (hj : S ≤ j) {sv : List Int} (hs : StepI p gg dd W.ls sv) (net : Net p dd (lnk W.ls)) (hT : TimeOK t) (bt : Beat p f dd t true (Heard p (lnk W.ls) (mkU W.us X M)) (mkU W.us X M) (mkU W.us X2 M2)) {wl : List Int} (h : Was p W sv X b k wl) (hk : ∀ i u, W.us[i]? = some u → i < k) : Was p W sv X2 (b + 1) 0 wl := ⟨h.len, h.bd, fun i u _ _ hi => by omega, fun i u hu hc _ => .inr (by
 rw [h.now i u hu hc (hk i u hu)]
 exact rate_goes P hG hj hs hu hc rfl net hT bt)⟩
theorem l_Rate (pw : List Int) (hpw : pw.length = 20) (p : Par) (ct cn beats : Int) (ha ka sa fa na qa : Option Addr) (hn hc kn kc sn sc fn fc nn nc qn qc : Nat) (core : List Int) (hcl : core.length = hn) (links : List (Int × Int)) (hkl : links.length = kn) (ss : List Sta) (hsl : ss.length = sn) (ts : List Tb) (hts : TabsAny ss ts) (frs : List Li) (hfl : frs.length = fn) (zs : List Int) (hzl : zs.length = nn) (lz : List ByteArray) (hzq : lz.length = qn) : Spec prog 3 [.agg #[.int .i64 p.n, .int .i64 p.f, .int .i64 p.d, .int .i64 p.beat, .int .i64 p.rho, .int .i64 p.delay, .int .i64 p.jitter, .int .i64 p.eps, .int .i64 p.mu, .int .i64 p.hold, .int .i64 p.pulse, .int .i64 p.second, .int .i64 ct, .int .i64 cn, .slice ha hn hc, .slice ka kn kc, .slice sa sn sc, .slice fa fn fc, .slice na nn nc, .slice qa qn qc], .int .i64 beats] [] [view ha hc 3 1 hn (ints core), view ka kc 72 2 kn (spl links), view sa sc 70 11 sn (stal ss), view fa fc 74 3 fn (lil frs), viewsE ts, view na nc 3 1 nn (ints zs), view qa qc 9 1 qn (strs lz), blk 2 (u64s pw) 319] (fun v Ln => v = .bool true ∧ Ln = []) := by
 refine Spec.en func3 ntmps3 fun w0 => ?_
 refine G.sr fun _ K1 => ?_
 refine G.mk 2 .bx fun g2 => ?_
 refine G.M 4 ?_
 refine G.nk K1 ?_
 refine G.Z fun _ K2 => ?_
 refine G.sr fun _ K3 => ?_
 refine G.cp 14 [] [7]  e6 (l_alive pw hpw) ?_
 refine G.V 15 .not ?_
 refine G.nk K3 ?_
 refine G.no rfl ?_
 refine G.sk K2 ?_
 refine G.Z fun _ K4 => ?_
 refine G.sr fun _ K5 => ?_
 refine G.V 16 (.lda t30 0 (vs := [.int .i64 p.n, .int .i64 p.f, .int .i64 p.d, .int .i64 p.beat, .int .i64 p.rho, .int .i64 p.delay, .int .i64 p.jitter, .int .i64 p.eps, .int .i64 p.mu, .int .i64 p.hold, .int .i64 p.pulse, .int .i64 p.second, .int .i64 ct, .int .i64 cn, .slice ha hn hc, .slice ka kn kc, .slice sa sn sc, .slice fa fn fc, .slice na nn nc, .slice qa qn qc])) ?_
 refine G.M 17 ?_
 refine G.C 18 [] [2, 3, 6]  e7 (l_great p ct cn beats ha ka sa fa na qa hn hc kn kc sn sc fn fc nn nc qn qc ss hsl frs hfl lz hzq) ?_
 rintro _ _ ⟨gb, rfl, hgr, rfl⟩
 refine G.nk K5 ?_
 refine G.cond rfl (fun hc18 => ?_) (fun hc18 => ?_)
 refine G.sr fun _ K6 => ?_
 refine G.M 4 ?_
 refine G.nk K6 ?_
 exact G.ret (G.F [] (.one Tryz.results3) ⟨rfl, rfl⟩)
 have hgb : gb = false := by simpa using hc18
 have hg := hgr hgb
 obtain ⟨f, gg, dd, S, hd, P⟩ := play_of hg
 have hct := hg.ct; have hbe := hg.beats; have hln := hg.len; have hd5 := P.d5; have hd0 := P.N.d; have hsle := P.st.le; have hsge := P.st.ge; have hdd := P.dd6; have hgg := P.hg; have hgg7 := P.n7; have hmu := P.N.mu; have hrho := P.N.rho; have hbt := P.N.beat; have hff := P.N.f; have hnn := hln.2.2.2.2.1; have hqn := hln.2.2.2.2.2
 refine G.sk K4 ?_
 refine G.sr fun _ K7 => ?_
 refine G.V 19 (.lda t30 0 (vs := [.int .i64 p.n, .int .i64 p.f, .int .i64 p.d, .int .i64 p.beat, .int .i64 p.rho, .int .i64 p.delay, .int .i64 p.jitter, .int .i64 p.eps, .int .i64 p.mu, .int .i64 p.hold, .int .i64 p.pulse, .int .i64 p.second, .int .i64 ct, .int .i64 cn, .slice ha hn hc, .slice ka kn kc, .slice sa sn sc, .slice fa fn fc, .slice na nn nc, .slice qa qn qc])) ?_
 refine G.C 20 [] [0, 1, 2, 3, 4, 5, 6, 7]  e8 (l_settled pw hpw p f gg dd S P ct cn hct hd ha ka sa fa na qa hn hc kn kc sn sc fn fc nn nc qn qc core hcl hln.1 links hkl hln.2.1 ss hsl hln.2.2.1 ts (tabs_in hts hg.tabs) frs hfl hln.2.2.2.1 zs hzl hnn lz hzq hqn) ?_
 rintro _ _ ⟨rb, W0, X, Q, M, q1, q2, rfl, hG, hls0, hq1, hq2, rfl⟩
 have hnet : Net p dd (lnk W0.ls) := net_of (W := { W0 with X := X, q := Q, tm := ct + (S : Int) * p.beat }) hG.ok hls0 P.hg P.g0 (by omega)
 refine G.M 5 ?_
 refine G.nk K7 ?_
 refine G.Z fun _ K8 => ?_
 refine G.sr fun _ K9 => ?_
 refine G.M 21 ?_
 refine G.V 22 (.isnil q33) ?_
 refine G.nk K9 ?_
 refine G.no rfl ?_
 refine G.sk K8 ?_
 refine G.sr fun _ K10 => ?_
 refine G.M 23 ?_
 refine G.C 24 [] [8, 0, 1]  e9 (l_steps rb W0.gw p gg dd P.hg P.g0 (by omega) (by omega) hd0.1 hd0.2 ct cn q1 q2 hd ha ka sa fa na qa hn hc kn kc sn sc fn fc nn nc qn qc core hcl (by omega) links hkl (by omega) W0.ls hls0) ?_
 rintro _ _ ⟨sv, rfl, hSt, rfl⟩
 have hsl48 := hSt.len
 refine G.mk 6 (.al z35) fun g6 => ?_
 refine G.eqL [blk g6 (ints (List.replicate 48 0)) 35, blk rb (pC p [.int .i64 ct, .int .i64 cn, .slice ha hn hc, .slice ka kn kc, .slice sa sn sc, .slice fa fn fc, .slice na nn nc, .slice qa qn qc, .pointer (some ⟨W0.gw, 0, none⟩), .int .i64 q1, .int .i64 q2]) 44, worldE p { W0 with X := X, q := Q, tm := ct + (S : Int) * p.beat }, blk g2 (pC p [.int .i64 ct, .int .i64 cn, .slice ha hn hc, .slice ka kn kc, .slice sa sn sc, .slice fa fn fc, .slice na nn nc, .slice qa qn qc]) 30] (by rfl) ?_
 refine G.sto 0 (.st t35 0 (vs := ints sv) (hv := by simp [Value.cells]) (hn := by simp [ints, hsl48]) (ho := ints_one sv) (hl := by simp [ints])) rfl ?_
 refine G.eqL [blk g6 (ints sv) 35, blk rb (pC p [.int .i64 ct, .int .i64 cn, .slice ha hn hc, .slice ka kn kc, .slice sa sn sc, .slice fa fn fc, .slice na nn nc, .slice qa qn qc, .pointer (some ⟨W0.gw, 0, none⟩), .int .i64 q1, .int .i64 q2]) 44, worldE p { W0 with X := X, q := Q, tm := ct + (S : Int) * p.beat }, blk g2 (pC p [.int .i64 ct, .int .i64 cn, .slice ha hn hc, .slice ka kn kc, .slice sa sn sc, .slice fa fn fc, .slice na nn nc, .slice qa qn qc]) 30] (by exact congrArg (fun z => [blk g6 z 35, blk rb (pC p [.int .i64 ct, .int .i64 cn, .slice ha hn hc, .slice ka kn kc, .slice sa sn sc, .slice fa fn fc, .slice na nn nc, .slice qa qn qc, .pointer (some ⟨W0.gw, 0, none⟩), .int .i64 q1, .int .i64 q2]) 44, worldE p { W0 with X := X, q := Q, tm := ct + (S : Int) * p.beat }, blk g2 (pC p [.int .i64 ct, .int .i64 cn, .slice ha hn hc, .slice ka kn kc, .slice sa sn sc, .slice fa fn fc, .slice na nn nc, .slice qa qn qc]) 30]) (ints_put (by simp) hsl48)) ?_
 refine G.nk K10 ?_
 refine G.sr fun _ K11 => ?_
 refine G.mk 7 (.al z35) fun g7 => ?_
 refine G.nil ?_
 refine G.eqL [blk g7 (ints (List.replicate 48 0)) 35, blk g6 (ints sv) 35, blk rb (pC p [.int .i64 ct, .int .i64 cn, .slice ha hn hc, .slice ka kn kc, .slice sa sn sc, .slice fa fn fc, .slice na nn nc, .slice qa qn qc, .pointer (some ⟨W0.gw, 0, none⟩), .int .i64 q1, .int .i64 q2]) 44, worldE p { W0 with X := X, q := Q, tm := ct + (S : Int) * p.beat }, blk g2 (pC p [.int .i64 ct, .int .i64 cn, .slice ha hn hc, .slice ka kn kc, .slice sa sn sc, .slice fa fn fc, .slice na nn nc, .slice qa qn qc]) 30] (by rfl) ?_
 refine K11 _ _ _ ?_
 refine G.Z fun _ K12 => ?_
 refine G.sr fun _ K13 => ?_
 refine G.M 8 ?_
 refine G.nk K13 ?_
 refine G.block ?_
 refine G.only [1, 0, 0, 0, 0] ?_
 refine G.lpR (ι := {z : Nat × (Nat → Ux) × Qs × (Nat → Ms) × Int × Int × List Int // (z.1 : Int) ≤ beats + 1 ∧ Goes p gg dd (S + z.1) 0 { W0 with X := z.2.1, q := z.2.2.1, tm := ct + ((S + z.1 : Nat) : Int) * p.beat } z.2.2.2.1 ∧ (0 ≤ z.2.2.2.2.1 ∧ z.2.2.2.2.1 ≤ 300 * ((S + z.1 : Nat) : Int)) ∧ (0 ≤ z.2.2.2.2.2.1 ∧ z.2.2.2.2.2.1 ≤ 300 * ((S + z.1 : Nat) : Int)) ∧ Was p W0 sv z.2.1 z.1 0 z.2.2.2.2.2.2}) (fun ⟨⟨b, X, Q, M, q1, q2, wl⟩, hb, hG, hq1, hq2, hW⟩ => 31 - b) (fun ⟨⟨b, X, Q, M, q1, q2, wl⟩, hb, hG, hq1, hq2, hW⟩ => [(1, .int .i64 beats), (2, .pointer (some ⟨g2, 0, none⟩)), (4, .bool false), (5, .pointer (some ⟨rb, 0, none⟩)), (6, .pointer (some ⟨g6, 0, none⟩)), (7, .pointer (some ⟨g7, 0, none⟩)), (8, .int .i64 (b : Int))]) (fun ⟨⟨b, X, Q, M, q1, q2, wl⟩, hb, hG, hq1, hq2, hW⟩ => [blk g6 (ints sv) 35, blk g7 (ints wl) 35, blk rb (pC p [.int .i64 ct, .int .i64 cn, .slice ha hn hc, .slice ka kn kc, .slice sa sn sc, .slice fa fn fc, .slice na nn nc, .slice qa qn qc, .pointer (some ⟨W0.gw, 0, none⟩), .int .i64 q1, .int .i64 q2]) 44, worldE p { W0 with X := X, q := Q, tm := ct + ((S + b : Nat) : Int) * p.beat }, blk g2 (pC p [.int .i64 ct, .int .i64 cn, .slice ha hn hc, .slice ka kn kc, .slice sa sn sc, .slice fa fn fc, .slice na nn nc, .slice qa qn qc]) 30]) ?_ ?_
 exact G.as ⟨(0, X, Q, M, q1, q2, List.replicate 48 0), by dsimp only; omega, hG, hq1, hq2, Was.zero p W0 sv X⟩
 rintro ⟨⟨b, X, Q, M, q1, q2, wl⟩, hb, hG, hq1, hq2, hW⟩ _ K14
 try dsimp only at K14 ⊢
 try dsimp only at hb hG hq1 hq2 hW
 refine G.Z fun _ K15 => ?_
 refine G.sr fun _ K16 => ?_
 refine G.M2 25 26 ?_
 refine G.V 27 .bin ?_
 refine G.nk K16 ?_
 refine G.cond rfl (fun hc27 => ?_) (fun hc27 => ?_)
 have hble : (b : Int) ≤ beats := of_decide_eq_true hc27
 refine G.sk K15 ?_
 refine G.Z fun _ K17 => ?_
 refine G.block ?_
 refine G.Z fun _ K18 => ?_
 refine G.sr fun _ K19 => ?_
 refine G.M 30 ?_
 refine G.C 31 [] [10]  e10 (l_units rb W0.gw p ct cn q1 q2 ha ka sa fa na qa hn hc kn kc sn sc fn fc nn nc qn qc gg dd hgg hd (by omega) (by omega)) ?_
 rintro _ _ ⟨ua, un, uc, rfl, hun, rfl⟩
 obtain ⟨ul, hul⟩ : ∃ l, l = gatesL gg ++ nodesL dd := ⟨_, rfl⟩
 rw [← hul]
 have hull : ul.length = un := by rw [hul, hun]; simp [gatesL, nodesL]
 have hgp := P.g0
 refine G.base 0 (show 0 < un by omega) fun ub hb_ => ?_
 subst hb_
 refine G.V 32 (.lenl s24) ?_
 refine G.M 33 ?_
 refine G.nk K19 ?_
 refine G.block ?_
 refine G.lpR (ι := {z : Nat × List Int // z.1 ≤ un ∧ Was p W0 sv X b z.1 z.2}) (fun ⟨⟨k, wl⟩, hk0, hW⟩ => un - k) (fun ⟨⟨k, wl⟩, hk0, hW⟩ => [(1, .int .i64 beats), (2, .pointer (some ⟨g2, 0, none⟩)), (4, .bool false), (5, .pointer (some ⟨rb, 0, none⟩)), (6, .pointer (some ⟨g6, 0, none⟩)), (7, .pointer (some ⟨g7, 0, none⟩)), (8, .int .i64 (b : Int)), (31, .slice (some ⟨ub, 0, none⟩) un uc), (32, .int .i64 (un : Int)), (33, .int .i64 (k : Int))]) (fun ⟨⟨k, wl⟩, hk0, hW⟩ => [row (some ⟨ub, 0, none⟩) uc 3 1 un (ints ul), blk g6 (ints sv) 35, blk g7 (ints wl) 35, blk rb (pC p [.int .i64 ct, .int .i64 cn, .slice ha hn hc, .slice ka kn kc, .slice sa sn sc, .slice fa fn fc, .slice na nn nc, .slice qa qn qc, .pointer (some ⟨W0.gw, 0, none⟩), .int .i64 q1, .int .i64 q2]) 44, worldE p { W0 with X := X, q := Q, tm := ct + ((S + b : Nat) : Int) * p.beat }, blk g2 (pC p [.int .i64 ct, .int .i64 cn, .slice ha hn hc, .slice ka kn kc, .slice sa sn sc, .slice fa fn fc, .slice na nn nc, .slice qa qn qc]) 30]) ?_ ?_
 exact G.at ⟨(0, wl), Nat.zero_le _, hW⟩ (ts := [1, 2, 4, 5, 6, 7, 8, 31, 32, 33]) rfl rfl rfl rfl
 rintro ⟨⟨k, wl⟩, hk0, hW⟩ _ K20
 try dsimp only at K20 ⊢
 try dsimp only at hk0 hW
 have hwl := hW.len
 refine G.sr fun _ K21 => ?_
 refine G.V 34 .bin ?_
 refine G.nk K21 ?_
 refine G.Z fun _ K22 => ?_
 refine G.cond rfl (fun hc34 => ?_) (fun hc34 => ?_)
 have hk : k < un := by have := of_decide_eq_true hc34; omega
 obtain ⟨c, hxc⟩ : ∃ x, ul[k]? = some x := ⟨_, List.getElem?_eq_getElem (by omega)⟩
 have hcb : (0 ≤ c ∧ c < gg) ∨ (16 ≤ c ∧ c < 16 + dd) := gn_mem.1 (hul ▸ List.mem_of_getElem? hxc)
 obtain ⟨u, hu, huw⟩ := ul_at hG.ok (hul ▸ hxc)
 refine G.sk K22 ?_
 refine G.Z fun _ K23 => ?_
 refine G.block ?_
 refine G.sr fun _ K24 => ?_
 refine G.V 35 (.is s24 k (show k < un by omega)) ?_
 refine G.V 36 (.ld t3 0 (hv := ints_at2 hxc)) ?_
 refine G.M 10 ?_
 refine G.nk K24 ?_
 refine G.Z fun _ K25 => ?_
 refine G.Z fun _ K26 => ?_
 refine G.draw 13 [1, 5] [] [] ?_
 refine D.V 0 37 1 .mv ?_
 refine D.V 1 38 3 .mv ?_
 refine D.C 2 39 7 [] [11] [1, 5] []  e11 ((l_right rb W0.gw p ct cn q1 q2 ha ka sa fa na qa hn hc kn kc sn sc fn fc nn nc qn qc c (by omega) (by omega) (by omega)).mono (fun v Ln h => (⟨_, h.1, rfl, h.2⟩ : ∃ rt : Bool, v = .bool rt ∧ rt = (decide (c ≥ 16) || decide (c < p.n - p.f)) ∧ Ln = []))) ?_
 rintro _ _ ⟨rt, rfl, hrt, rfl⟩
 refine D.V 3 40 15 .not ?_
 refine D.V 4 41 31 .mv ?_
 cases hg27 : (rt : Bool)
 refine D.off 5 42 63 ?_
 refine D.off 6 43 127 ?_
 refine D.off 7 44 255 ?_
 refine D.off 8 45 511 ?_
 refine D.off 9 46 1023 ?_
 refine D.off 10 47 2047 ?_
 refine D.off 11 48 4095 ?_
 refine D.V 12 49 8191 .pick ?_
 refine D.done ?_
 refine K26 _ _ _ ?_
 refine G.yes rfl ?_
 refine G.exit ?_
 refine K23 _ _ _ ?_
 refine G.region ?_
 refine G.V 101 .bw ?_
 refine G.M 33 ?_
 refine G.nk K20 ?_
 exact G.ls ⟨(k + 1, wl), hk, by (have hNC : ¬ Counts p sv u.who := fun h => by rw [huw] at h; first | (have h2 := hrt.symm.trans ‹rt = false›; simp at h2; have := h.1; omega) | (have := of_decide_eq_true ‹decide (sv.getD c.toNat 0 > p.d) = true›; have := h.2; omega)); exact hW.skip hu hNC⟩
 refine D.V 5 42 63 .mv ?_
 refine D.V 6 43 127 (.ia a35 c.toNat (by omega) (hi := by omega)) ?_
 refine D.V 8 45 383 (.fa f30_0 0) ?_
 refine D.V 9 46 895 (.fa f23_2 2) ?_
 refine D.T 7 44 1023 (.ld t3 0 (hv := ints_g (zs := sv) (k := c.toNat) (by omega))) [1, 5] [] ?_
 refine D.T 10 47 2047 (.ld t3 1) [1, 5] [] ?_
 refine D.V 11 48 4095 .bin ?_
 refine D.V 12 49 8191 .pick ?_
 refine D.done ?_
 refine K26 _ _ _ ?_
 refine G.cond rfl (fun hc49 => ?_) (fun hc49 => ?_)
 refine G.exit ?_
 refine K23 _ _ _ ?_
 refine G.region ?_
 refine G.V 101 .bw ?_
 refine G.M 33 ?_
 refine G.nk K20 ?_
 exact G.ls ⟨(k + 1, wl), hk, by (have hNC : ¬ Counts p sv u.who := fun h => by rw [huw] at h; first | (have h2 := hrt.symm.trans ‹rt = false›; simp at h2; have := h.1; omega) | (have := of_decide_eq_true ‹decide (sv.getD c.toNat 0 > p.d) = true›; have := h.2; omega)); exact hW.skip hu hNC⟩
 refine G.sk K25 ?_
 refine G.Z fun _ K28 => ?_
 have hCt : Counts p sv u.who := ⟨by rw [huw]; have h := hrt.symm.trans ‹rt = true›; simpa using h, by rw [huw]; have := of_decide_eq_false ‹decide (sv.getD c.toNat 0 > p.d) = false›; omega⟩
 have hSt' : StepI p gg dd ({ W0 with X := X, q := Q, tm := ct + ((S + b : Nat) : Int) * p.beat }).ls sv := hSt
 have hz : healthV p (X k).s ≠ 0 := (now_ok P hG (by omega) hSt hu hCt).1
 have htb : -1152921504606846976 ≤ (X k).s.time ∧ (X k).s.time ≤ 1152921504606846976 := now_time P hG (by omega) hSt hu hCt rfl (time_ok P.N hct (by omega))
 have hwb := hW.bd c.toNat (by omega)
 have hold : b = 0 ∨ ((X k).s.time - wl.getD u.who.toNat 0 - p.beat ≤ p.rho + p.mu ∧ -p.rho - p.mu ≤ (X k).s.time - wl.getD u.who.toNat 0 - p.beat) := hW.old k u hu hCt (Nat.le_refl k)
 rw [huw] at hold
 refine G.region ?_
 refine G.M 51 ?_
 refine G.V 52 .nc ?_
 refine G.V 53 (.fa f44_1 20) ?_
 refine G.V 54 (.ld t42 3) ?_
 refine G.M 55 ?_
 refine G.cp 56 [] [12]  e12 (x_Front p { W0 with X := X, q := Q, tm := ct + ((S + b : Nat) : Int) * p.beat } hG.ok (by omega) (by omega) k u hu c huw) ?_
 refine G.cp 57 [] [12]  e13 (x_Now (p := p) (W := { W0 with X := X, q := Q, tm := ct + ((S + b : Nat) : Int) * p.beat }) hu (err_zero hz)) ?_
 refine G.M 50 ?_
 refine G.V 58 (.ext (v := .int .i64 ((X k).s.time))) ?_
 refine G.V 59 (.ext (v := .int .i64 0)) ?_
 refine G.M2 11 12 ?_
 refine G.nk K28 ?_
 refine G.Z fun _ K29 => ?_
 refine G.draw 10 [2, 5] [] [] ?_
 refine D.V 0 60 1 .mv ?_
 refine D.V 1 61 3 .mv ?_
 refine D.V 2 62 7 (.ia a35 c.toNat (by omega) (hi := by omega)) ?_
 refine D.V 5 65 39 (.fa f30_0 0) ?_
 refine D.V 6 66 103 (.fa f23_3 3) ?_
 refine D.T 3 63 111 (.ld t3 0 (hv := ints_g (zs := wl) (k := c.toNat) (by omega))) [2, 5] [] ?_
 refine D.V 4 64 127 .bw ?_
 refine D.T 7 67 255 (.ld t3 1) [2, 5] [] ?_
 refine D.V 8 68 511 .bw ?_
 refine D.V 9 13 1023 .mv ?_
 refine D.done ?_
 refine K29 _ _ _ ?_
 refine G.Z fun _ K30 => ?_
 refine G.sr fun _ K31 => ?_
 refine G.M 69 ?_
 refine G.V 70 (.cast .bin (nf rfl)) ?_
 refine G.M2 71 72 ?_
 refine G.V 73 .bin ?_
 refine G.M 74 ?_
 cases hg32 : (decide ((b : Int) > 0) : Bool)
 refine G.O4 75 76 77 78 ?_
 refine G.O4 79 80 81 82 ?_
 refine G.O4 83 84 85 86 ?_
 refine G.O4 87 88 89 90 ?_
 refine G.O4 91 92 93 94 ?_
 refine G.O 95 ?_
 refine G.V 96 .pick ?_
 refine G.V 97 .pick ?_
 refine G.nk K31 ?_
 refine G.no rfl ?_
 refine G.sk K30 ?_
 refine G.region ?_
 refine G.M2 98 99 ?_
 refine G.V 100 (.ia a35 c.toNat (by omega) (hi := by omega)) ?_
 refine G.sto 2 (.st t3 2 (hl := ints_len1 (by omega))) rfl ?_
 refine G.eqb 2 ((ints (wl.set c.toNat ((X k).s.time)))) (ints_sets (l := wl) (k := c.toNat) ((X k).s.time)) ?_
 try dsimp only [List.set]
 refine G.nil ?_
 have hW2 := was_set hG.ok (by omega) (by omega) hW hu htb
 rw [huw] at hW2
 refine K23 _ _ _ ?_
 refine G.region ?_
 refine G.V 101 .bw ?_
 refine G.M 33 ?_
 refine G.nk K20 ?_
 exact G.ls ⟨(k + 1, wl.set c.toNat ((X k).s.time)), hk, hW2⟩
 refine G.M 75 ?_
 refine G.V 76 (.fa f30_0 0) ?_
 refine G.V 77 (.fa f23_4 4) ?_
 refine G.V 78 (.ld t3 5) ?_
 refine G.V 79 (.fa f30_0 0) ?_
 refine G.V 80 (.fa f23_8 8) ?_
 refine G.V 81 (.ld t3 5) ?_
 refine G.V 82 .bw ?_
 refine G.V 83 (.cast .bin (bf (by have := of_decide_eq_true ‹decide ((b : Int) > 0) = true›; omega))) ?_
 refine G.M2 84 85 ?_
 refine G.V 86 (.fa f30_0 0) ?_
 refine G.V 87 (.fa f23_4 4) ?_
 refine G.V 88 (.ld t3 5) ?_
 refine G.V 89 (.cast .neg (wi (by omega) (by omega))) ?_
 refine G.V 90 (.fa f30_0 0) ?_
 refine G.V 91 (.fa f23_8 8) ?_
 refine G.V 92 (.ld t3 5) ?_
 refine G.V 93 .bw ?_
 refine G.V 94 (.cast .bin (bf (by have := of_decide_eq_true ‹decide ((b : Int) > 0) = true›; omega))) ?_
 refine G.V 95 .pick ?_
 refine G.V 96 .pick ?_
 refine G.V 97 .pick ?_
 refine G.nk K31 ?_
 refine G.no rfl ?_
 refine G.sk K30 ?_
 refine G.region ?_
 refine G.M2 98 99 ?_
 refine G.V 100 (.ia a35 c.toNat (by omega) (hi := by omega)) ?_
 refine G.sto 2 (.st t3 2 (hl := ints_len1 (by omega))) rfl ?_
 refine G.eqb 2 ((ints (wl.set c.toNat ((X k).s.time)))) (ints_sets (l := wl) (k := c.toNat) ((X k).s.time)) ?_
 try dsimp only [List.set]
 refine G.nil ?_
 have hW2 := was_set hG.ok (by omega) (by omega) hW hu htb
 rw [huw] at hW2
 refine K23 _ _ _ ?_
 refine G.region ?_
 refine G.V 101 .bw ?_
 refine G.M 33 ?_
 refine G.nk K20 ?_
 exact G.ls ⟨(k + 1, wl.set c.toNat ((X k).s.time)), hk, hW2⟩
 have hkn : un = k := by have := of_decide_eq_false hc34; omega
 have hnall : ∀ i u, W0.us[i]? = some u → i < k := fun i u h => by have h1 := (List.getElem?_eq_some_iff.1 h).1; have h2 : W0.us.length = gg + dd := hG.ok.len; omega
 refine G.exit ?_
 refine K18 _ _ _ ?_
 refine G.region ?_
 refine G.M 102 ?_
 refine G.C 103 [3, 3] [5, 6, 7]  e14 (g_beat P pw hpw rb { W0 with X := X, q := Q, tm := ct + ((S + b : Nat) : Int) * p.beat } ct cn q1 q2 hd ha ka sa fa na qa hn hc kn kc sn sc fn fc nn nc qn qc zs hzl hnn lz hzq hqn (by omega) (by omega) true hG hnet (time_ok P.N hct (by omega)) (by omega) (.inl ⟨rfl, rfl, rfl⟩)) ?_
 rintro _ _ ⟨rfl, n1, n2, X2, Q2, M2, hn1, hn2, hG2, hBt, rfl⟩
 simp only [tm_next] at hG2 ⊢
 refine G.nil ?_
 have hW3 : Was p W0 sv X2 (b + 1) 0 wl := was_next P hG (by omega) hSt hnet (time_ok P.N hct (by omega)) (hBt (by omega)) hW hnall
 refine K17 _ _ _ ?_
 refine G.region ?_
 refine G.M 28 ?_
 refine G.V 29 .bw ?_
 refine G.M 8 ?_
 refine G.nil ?_
 refine G.only [3, 3, 0, 0, 1] ?_
 refine K14 _ _ _ ?_
 exact G.ls ⟨(b + 1, X2, Q2, M2, n1, n2, wl), by dsimp only; omega, hG2, ⟨by dsimp only; omega, by dsimp only; omega⟩, ⟨by dsimp only; omega, by dsimp only; omega⟩, hW3⟩
 refine G.exit ?_
 refine K12 _ _ _ ?_
 refine G.sr fun _ K33 => ?_
 refine G.M 4 ?_
 refine G.nk K33 ?_
 exact G.ret (G.F [] (.one Tryz.results3) ⟨rfl, rfl⟩)
end Go.Proofs.YtbmhgopjblnfnaaGreat.S
