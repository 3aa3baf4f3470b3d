/- The law CoreRate answers true at every input that its row names; no condition beyond the row's own. -/
import Derived.Test.YtbmhgopjblnfnaaGreatRows
import Derived.Test.YtbmhgopjblnfnaaGreatRateA5
import Derived.WalkKit
import Derived.ProofKit
import Derived.OpenShut
import Derived.ShutString
import Derived.ChangeOld
import Derived.Below
import Derived.SizedLaws
import Derived.HandedShaped
import Derived.Carry
set_option linter.unusedVariables false
set_option linter.unusedSimpArgs false
namespace Go.Proofs.YtbmhgopjblnfnaaGreat.coreRate
open Go.ChangeShapes Go.WideShapes Go.ChangeAt Go.RowKit Go.Proofs.YtbmhgopjblnfnaaGreat.S
theorem own : ownKnob Tryz.prog.godebug = none := by kernel_rfl
theorem laidOut : laidOutB Tryz.prog = true := by kernel_rfl
set_option maxRecDepth 100000 in
theorem lifted (os : Os) (started : os.Started) (H : Type) (enc : TypeId × Value → H) :
    ReturnsInHanded {} Tryz.checked os 3 .any (Rows.coreRateSpec.pre6 enc Tryz.prog Tryz.f3 Rows.coreRateRow.domain false) (Rows.coreRateSpec.post enc Tryz.prog Tryz.f3 false true false false) := by
  refine returnsInHanded_of_change_shaped (C := Tryz.checked) own started (by kernel_rfl) Tryz.func3
    (ChangeSpec.witness6 (enc := enc) (C := Tryz.checked) false ⟨#[], #[.agg #[.int .i64 0, .int .i64 0, .int .i64 0, .int .i64 0, .int .i64 0, .int .i64 0, .int .i64 0, .int .i64 0, .int .i64 0, .int .i64 0, .int .i64 0, .int .i64 0, .int .i64 0, .int .i64 0, .slice none 0 0, .slice none 0 0, .slice none 0 0, .slice none 0 0, .slice none 0 0, .slice none 0 0], .int .i64 0], []⟩ 8 (by kernel_rfl) (by kernel_rfl) (by kernel_rfl) (by kernel_rfl)) ?_
  intro W base args ds gs before hval0 hW hcnd hsz0 hsh _
  have hval : ∀ (j : Nat) t v, Tryz.f3.params[j]? = some t → args[j]? = some v → Value.okWide Tryz.prog W .any base t v := hval0
  have hW' := hW
  obtain ⟨p, q, hA0, hV, rfl, hfz, hnd⟩ := hW
  have hA : DataW.TrodAll enc Tryz.prog W 0 (fun _ => true) true Tryz.f3.params.toList args.toList ds p := hA0
  rw [Tryz.params3] at hA hval
  obtain ⟨v0, vs0, d0, ds0, p0, q0, hargs, rfl, rfl, h0, r0⟩ := trodAll_cons hA
  obtain ⟨v1, vs1, d1, ds1, p1, q1, rfl, rfl, rfl, h1, r1⟩ := trodAll_cons r0
  obtain ⟨rfl, rfl, rfl⟩ := trodAll_nil r1
  obtain rfl : args = #[v0, v1] := by cases args; simp_all
  obtain ⟨rfl, rfl⟩ := trodVars_none hV
  have lt0 : ∀ x ∈ p0, x.block < W.heap.size := by obtain ⟨m, hm⟩ := h0; exact DataW.trod_lt m _ _ _ hm
  have lt1 : ∀ x ∈ p1, x.block < W.heap.size := by obtain ⟨m, hm⟩ := h1; exact DataW.trod_lt m _ _ _ hm
  obtain ⟨pw, hpw, hpb⟩ := pw_of hsh
  obtain ⟨b, rfl, _⟩ := open_int Tryz.underlying3 (hval 1 3 v1 rfl rfl) h1
  obtain ⟨pp, ct, cn, ha, hn, hc, ka, kn, kc, sa, sn, sc, fa, fn, fc, na, nn, nc, qa, qn, qc, rfl, core, links, ss, ts, frs, zs, lz, hcl, hkl, hsl, hts, hfl, hzl, hzq, v1, v2, v3, v4, v5, v6, v7⟩ := case_in (hval 0 30 v0 rfl rfl) h0
  clear hA0 hval0 hsz0
  refine ((l_Rate pw hpw pp ct cn b ha ka sa fa na qa hn hc kn kc sn sc fn fc nn nc qn qc core hcl links hkl ss hsl ts hts frs hfl zs hzl lz hzq) W (fun e he => nomatch he) (by
    intro e he
    simp only [List.mem_cons, List.not_mem_nil, or_false] at he
    rcases he with rfl | rfl | rfl | rfl | rfl | rfl | rfl | rfl
    · exact v1
    · exact v2
    · exact v3
    · exact v4
    · exact v5
    · exact v6
    · exact v7
    · exact hpb) List.nodup_nil (fun k hk => nomatch hk)).mono fun e W' hL => ?_
  obtain ⟨v, Ln, he, ⟨hv, rfl⟩, hf, _⟩ := hL
  subst he
  subst hv
  have bel : Below W.heap.size W W' := Fr.below hf
  exact ⟨_, rfl, _, _, _, [], _, [], hW', trodAll_mk1 (shut_bool Tryz.underlying4 _), (trodAll_cons_mk (Below.trod laidOut (by kernel_rfl) (of_decide_eq_true (by kernel_rfl)) h0 bel lt0) (trodAll_cons_mk (Below.trod laidOut (by kernel_rfl) (of_decide_eq_true (by kernel_rfl)) h1 bel lt1) trodAll_mk0)), rfl, bel.frame _, fun h => by cases h⟩
theorem over : Rows.coreRateRow.holds Tryz.pinned (OpenSpec.ofChange Rows.coreRateSpec) :=
  OpenClaim.holds_of_wide 3 Tryz.f3 rfl rfl rfl rfl rfl rfl rfl ⟨rfl, rfl, rfl, rfl, rfl⟩ rfl rfl rfl rfl rfl (by kernel_rfl) Tryz.func3 (by kernel_rfl)
    (of_decide_eq_true (by kernel_rfl)) (by unfold Func.isWrapper; first | (rw [if_pos (by decide +kernel)]; kernel_rfl) | (rw [if_neg (by decide +kernel)]; exact ⟨rfl, rfl⟩))
    (fun os started H enc _ => lifted os started H enc)
theorem proved : Rows.CoreRateSaid := over
#print axioms proved
end Go.Proofs.YtbmhgopjblnfnaaGreat.coreRate
namespace Go.Proofs.YtbmhgopjblnfnaaGreat
/-- The row, under a short name, for the claim. -/
theorem coreRate_holds : Rows.CoreRateSaid := coreRate.proved
end Go.Proofs.YtbmhgopjblnfnaaGreat
