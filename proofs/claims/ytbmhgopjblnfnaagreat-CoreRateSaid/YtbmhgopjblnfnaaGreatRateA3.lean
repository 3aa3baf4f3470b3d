/- The walks, the protocol's law: part 3. -/
import Derived.Test.YtbmhgopjblnfnaaGreatRateA2
set_option linter.unusedVariables false
set_option linter.unusedSimpArgs false
set_option maxHeartbeats 4000000
set_option maxRecDepth 100000
namespace Go.Proofs.YtbmhgopjblnfnaaGreat.S
open Go Go.RowKit Go.Proofs.YtbmhgopjblnfnaaGreatW.PrintLast Tryz
def tconc (P : Program) (t : TypeId) : Bool := match P.underlying t with
 | some (.interface _) => false
 | some _ => true
 | none => false
section
variable {P : Program} {Q : Exit → Act → World → Prop} {c : Ctx} {m : Sl} {L R : List Ent} {ops : Array Oper} {o : Oper} {rest : List Oper}
theorem tconc_under {T : TypeId} (h : tconc P T = true) : ∃ d, P.underlying T = some d ∧ ∀ x, d ≠ .interface x := by
 unfold tconc at h
 split at h
 ·cases h
 ·next d hd hu => exact ⟨d, hu, fun x q => hd _ q⟩
 ·cases h
theorem Evl.mki {T : TypeId} (hT : tconc P T = true) {x : Operand} {v : Value} (hop : o.op = .makeInterface T x := by rfl) (hx : ev m x = some v := by rfl) : Evl P m L R o (.iface T v) := fun a w hs _ => by
 have he := hs.ev hx
 generalize a.eval = ρ at he
 obtain ⟨d, hu, hd⟩ := tconc_under hT
 have hr : (Instr.makeInterface T v).run P w = .ok (.iface T v) w := by
  unfold Instr.makeInterface
  rw [run_bind_ok (run_underlying hu w)]
  cases d with
  | interface q => exact absurd rfl (hd q)
  | _ => rfl
 unfold execOp
 simp only [hop, he]
 change ((Instr.makeInterface T v) >>= fun v => (pure (.value v) : Sem Next)).run P w = _
 rw [run_bind_ok hr]; rfl
theorem Evl.tas {X T : TypeId} (hT : tconc P T = true) {x : Operand} {v : Value} (hop : o.op = .typeAssert x X T true := by rfl) (hx : ev m x = some (.iface T v) := by rfl) : Evl P m L R o (.tuple #[v, .bool true]) := fun a w hs _ => by
 have he := hs.ev hx
 generalize a.eval = ρ at he
 obtain ⟨d, hu, hd⟩ := tconc_under hT
 have hr : (Instr.typeAssert (.iface T v) X T true).run P w = .ok (.tuple #[v, .bool true]) w := by
  unfold Instr.typeAssert
  rw [run_bind_ok (run_underlying hu w)]
  cases d with
  | interface q => exact absurd rfl (hd q)
  | _ => simp [go_sem]
 unfold execOp
 simp only [hop, he]
 change ((Instr.typeAssert (.iface T v) X T true) >>= fun v => (pure (.value v) : Sem Next)).run P w = _
 rw [run_bind_ok hr]; rfl
def tzv (P : Program) (t : TypeId) : Option Value := (P.info? t).bind (·.zero)
theorem Evl.tan {X T : TypeId} (hT : tconc P T = true) {z : Value} (hz : tzv P T = some z) {x : Operand} (hop : o.op = .typeAssert x X T true := by rfl) (hx : ev m x = some .nilIface := by rfl) : Evl P m L R o (.tuple #[z, .bool false]) := fun a w hs _ => by
 have he := hs.ev hx
 generalize a.eval = ρ at he
 obtain ⟨d, hu, hd⟩ := tconc_under hT
 unfold tzv at hz
 obtain ⟨i, hi, hz⟩ := Option.bind_eq_some_iff.1 hz
 have hzr : (zeroValue T).run P w = .ok z w := by simp [zeroValue, typeInfo, hi, hz, go_sem]
 have hr : (Instr.typeAssert .nilIface X T true).run P w = .ok (.tuple #[z, .bool false]) w := by
  unfold Instr.typeAssert
  rw [run_bind_ok (run_underlying hu w)]
  have h2 : ((zeroValue T) >>= fun u => (pure (.tuple #[u, .bool false]) : Sem Value)).run P w = .ok (.tuple #[z, .bool false]) w := by rw [run_bind_ok hzr]; rfl
  cases d with
  | interface q => exact absurd rfl (hd q)
  | _ => exact h2
 unfold execOp
 simp only [hop, he]
 change ((Instr.typeAssert .nilIface X T true) >>= fun v => (pure (.value v) : Sem Next)).run P w = _
 rw [run_bind_ok hr]; rfl
def tifc (P : Program) (t : TypeId) : Bool := match P.underlying t with
 | some (.interface _) => true
 | _ => false
theorem Evl.nni {T U : TypeId} (hT : tifc P T = true) {x : Operand} (hop : o.op = .binOp .neq T x (.const .nilIface) U := by rfl) (hx : ev m x = some .nilIface := by rfl) : Evl P m L R o (.bool false) := fun a w hs _ => by
 have he := hs.ev hx
 have hf : a.eval (.const .nilIface) = .nilIface := rfl
 generalize a.eval = ρ at he hf
 unfold tifc at hT
 split at hT
 ·next e hu =>
  have h1 : (Op.equal T .nilIface .nilIface).run P w = .ok true w := by
   show (Op.equalIn (9999 + 1) T .nilIface .nilIface).run P w = _
   unfold Op.equalIn
   rw [run_bind_ok (run_underlying hu w)]
   rfl
  have h2 : (binOp .neq T .nilIface .nilIface).run P w = .ok (.bool false) w := by
   show ((Op.equal T .nilIface .nilIface) >>= fun b => (pure (.bool !b) : Sem Value)).run P w = _
   rw [run_bind_ok h1]; rfl
  have h0 : (eqGuard .neq T x (.const .nilIface) .nilIface .nilIface).run P w = .ok () w := by cases x <;> rfl
  have h3 : ((eqGuard .neq T x (.const .nilIface) .nilIface .nilIface >>= fun _ => binOp .neq T .nilIface .nilIface) : Sem Value).run P w = .ok (.bool false) w := by
   rw [run_bind_ok h0]; exact h2
  unfold execOp
  simp only [hop, he, hf]
  change ((eqGuard .neq T x (.const .nilIface) .nilIface .nilIface >>= fun _ => binOp .neq T .nilIface .nilIface) >>= fun u => (pure (.value u) : Sem Next)).run P w = _
  rw [run_bind_ok h3]
  rfl
 ·cases hT
theorem G.pan {T : TypeId} {v : Value} {x : Operand} (h : G c m L R (Q (.panic [{ v := .iface T v, recovered := false }]))) (hop : o.op = .panic x := by rfl) (hx : ev m x = some (.iface T v) := by rfl) (hw : wants ops m o = some true := by rfl) : G c m L R (wpList P ops Q (o :: rest)) := fun a w ok => wpList_step fun K hK => by
 rw [wants_spec ok.m hw, if_pos rfl]
 unfold Oper.wp
 have he := ok.m.ev hx
 have hrun : (execOp a.eval o).run P w = .halt (.panic (.iface T v)) w := by
  generalize a.eval = ρ at he
  unfold execOp
  simp only [hop, he]
  rfl
 rw [hrun]
 exact h a w ok
def Dies (P : Program) (f : FuncId) (args : List Value) (chain : List PanicEntry) : Prop := ∀ w, Calls P f args.toArray w fun e w' => e = .panicked chain ∧ Fr w w' []
theorem Dies.enter {f : FuncId} {fn : Func} {x : Code} {n : Nat} {args : List Value} {chain : List PanicEntry} (hf : P.funcs[f]? = some fn) (hn : fn.ntmps = n) (hb : fn.body = some x) (hl : args.length.ble n = true)
  (h : ∀ w0, G ⟨n, [], w0, []⟩ (begin_ 0 args) [] [] (x.wp P (bodyPost P fn fun e w' => e = .panicked chain ∧ Fr w0 w' []))) : Dies P f args chain := by
 intro w
 refine calls_of_wp hf hb (h w _ w ⟨?_, rfl, ?_, ⟨Fr.refl w _, by simp, by simp, by simp [ids], by simp [ids], by simp [ids]⟩⟩)
 ·have := Nat.le_of_ble_eq_true hl; simp [hn]; omega
 ·intro t v ht
  obtain ⟨_, q⟩ := lk_begin args 0 t v ht
  rw [Nat.sub_zero] at q
  have hlt : t < args.length := by
   rcases Nat.lt_or_ge t args.length with z | z
   ·exact z
   ·rw [List.getElem?_eq_none z] at q; cases q
  show (args.toArray ++ _)[t]? = some v
  rw [Array.getElem?_append_left (by simpa using hlt)]
  simpa using q
theorem G.dead {fn : Func} {chain : List PanicEntry} (hc : c.ds = [] := by rfl) (hF : c.F = [] := by rfl) : G c m L R (bodyPost P fn (fun e w' => e = .panicked chain ∧ Fr c.w0 w' []) (.panic chain)) := fun a w ok => ⟨ok.ds.trans hc, rfl, by have := ok.st.fr; rw [hF] at this; exact this⟩
theorem G.callp {f : FuncId} {as' : Array Operand} {ts : Array TypeId} {args : List Value} {chain : List PanicEntry} (hf : Is P f) (sp : Dies P f args chain) (h : G c m L R (Q (.panic chain))) (hop : o.op = .call { callee := .value (.func f), args := as', argTypes := ts } := by rfl) (hargs : evs m as'.toList = some args := by rfl) (hw : wants ops m o = some true := by rfl) : G c m L R (wpList P ops Q (o :: rest)) := fun a w ok => wpList_step fun K hK => by
 rw [wants_spec ok.m hw, if_pos rfl]
 unfold Oper.wp
 rw [run_enter hf hop (ok.m.evs hargs) w, Oper.upon_enter]
 refine (sp w).mono fun e w' q => ?_
 obtain ⟨rfl, hfr⟩ := q
 have st := St.step (Lf := []) (Lr := L) (Ln := []) ok.st hfr (by simp) (by simp [ids]) (by simp [ids])
 exact h a w' (ok.world st)
theorem G.seq0 {x y : Code} (h : G c m L R (x.wp P (Exit.then (y.wp P Q) Q))) : G c m L R ((Code.seq x y).wp P Q) := fun a w ok => wp_seq (h a w ok)
theorem G.defer {x : Operand} {fv : Fn} {cap : Array Value} (N : Option Nat) (h : G { c with ds := { target := .fn fv cap, args := #[] } :: c.ds } m L R (wpList P ops Q rest)) (hop : o.op = .defer { callee := .value x, args := #[], argTypes := #[] } := by rfl) (hx : ev m x = some (.func fv #[] cap) := by rfl) (hd : o.dst = none := by rfl) (hw : wants ops m o = some true := by rfl) : G c m L R (wpList P ops Q (o :: rest)) := fun a w ok => wpList_step fun K hK => by
 rw [wants_spec ok.m hw, if_pos rfl]
 unfold Oper.wp
 have he := ok.m.ev hx
 have hrun : (execOp a.eval o).run P w = .ok (.defer { target := .fn fv cap, args := #[] }) w := by
  generalize a.eval = ρ at he
  unfold execOp
  simp [hop, resolve, Deferred.ofValue, he]
 rw [hrun, Oper.upon_defer, hd]
 exact hK _ _ (h _ _ ⟨ok.n, by show _ :: a.defers = _; rw [ok.ds], ok.m, ok.st⟩)
theorem Spec.enterD {f : FuncId} {fn : Func} {x : Code} {n : Nat} {args : List Value} {Lf Rf : List Ent} {post : Value → List Ent → Prop} (hf : P.funcs[f]? = some fn) (hn : fn.ntmps = n) (hb : fn.body = some x) (hl : args.length.ble n = true)
  (h : ∀ w0, G ⟨n, [], w0, ids Lf⟩ (begin_ 0 args) Lf Rf (x.wp P (bodyPostD P fn (Left w0 (ids Lf) post)))) : Spec P f args Lf Rf post := by
 intro w h1 h2 h3 h4
 refine calls_of_wp_defers hf hb (h w _ w ⟨?_, rfl, ?_, ⟨Fr.refl w _, h1, h2, h3, h4, fun k hk => .inl hk⟩⟩)
 ·have := Nat.le_of_ble_eq_true hl; simp [hn]; omega
 ·intro t v ht
  obtain ⟨_, q⟩ := lk_begin args 0 t v ht
  rw [Nat.sub_zero] at q
  have hlt : t < args.length := by
   rcases Nat.lt_or_ge t args.length with z | z
   ·exact z
   ·rw [List.getElem?_eq_none z] at q; cases q
  show (args.toArray ++ _)[t]? = some v
  rw [Array.getElem?_append_left (by simpa using hlt)]
  simpa using q
theorem G.finD {fn : Func} {v : Value} {post : Value → List Ent → Prop} {f2 : FuncId} {cap : Array Value} (hf2 : Is P f2) (hcd : ∀ w, CallsD P f2 cap .returning w fun e u' w' => e = .returned (.tuple #[]) ∧ u' = .returning ∧ Fr w w' []) (is : List Nat) {A B : List Ent} (hr : Res P m L R fn v) (hp : post v A) (hi : pick is L = some (A, B) := by rfl) (hc : c.ds = [{ target := .fn (.func f2) cap, args := #[] }] := by rfl) : G c m L R (bodyPostD P fn (Left c.w0 c.F post) .ret) := fun a w ok => by
 show Leaves P fn a.tmps _ a.defers .returning w
 rw [ok.ds, hc]
 obtain ⟨fn2, h1, h2, h3⟩ := hf2
 refine leaves_cons (f := f2) (args := cap) (by simp) ?_ ?_
 ·have := enters_ h1 h2 h3 cap w
  simp [invoke]
  simpa using this
 ·refine (hcd w).mono ?_
  rintro e u' w' ⟨rfl, rfl, hfr⟩
  have st := St.step (Lf := []) (Lr := L) (Ln := []) ok.st hfr (by simp) (by simp [ids]) (by simp [ids])
  have st2 := (st.perm (pick_perm hi)).only
  exact ⟨v, hr a w' ok.m ⟨st.l, st.r⟩, v, A, rfl, hp, st2.fr, st2.l, st2.nd, st2.own⟩
theorem G.finP {fn : Func} {v x : Value} {post : Value → List Ent → Prop} {f2 : FuncId} {cap : Array Value} {Lf Ln Lr : List Ent} (hf2 : Is P f2) (hcd : ∀ w, (∀ e ∈ Lf, e.H w) → CallsD P f2 cap (.panicking [{ v := x, recovered := false }]) w fun e u' w' => e = .returned (.tuple #[]) ∧ u' = .panicking [{ v := x, recovered := true }] ∧ Fr w w' (ids Lf) ∧ ∀ e ∈ Ln, e.H w') (is js : List Nat) {A B : List Ent} (hown : ids Ln = ids Lf) (hpk : pick is L = some (Lf, Lr)) (hr : Res P m (Ln ++ Lr) R fn v) (hp : post v A) (hi : pick js (Ln ++ Lr) = some (A, B)) (hc : c.ds = [{ target := .fn (.func f2) cap, args := #[] }] := by rfl) : G c m L R (bodyPostD P fn (Left c.w0 c.F post) (.panic [{ v := x, recovered := false }])) := fun a w ok => by
 show Leaves P fn a.tmps _ a.defers (.panicking _) w
 rw [ok.ds, hc]
 obtain ⟨fn2, h1, h2, h3⟩ := hf2
 have ok1 := ok.st.perm (pick_perm hpk)
 refine leaves_cons (f := f2) (args := cap) (by simp) ?_ ?_
 ·have := enters_ h1 h2 h3 cap w
  simp [invoke]
  simpa using this
 ·refine (hcd w (fun e he => ok1.l e (List.mem_append_left _ he))).mono ?_
  rintro e u' w' ⟨rfl, rfl, hfr, hH⟩
  have nd := ok1.nd
  rw [ids_append] at nd
  have st := St.step (Lf := Lf) (Lr := Lr) (Ln := Ln) ok1 hfr hH (by rw [hown]; exact (List.nodup_append.1 nd).1) (fun k hk => .inl (by rw [← hown]; exact hk))
  have st2 := (st.perm (pick_perm hi)).only
  exact ⟨v, hr a w' ok.m ⟨st.l, st.r⟩, v, A, rfl, hp, st2.fr, st2.l, st2.nd, st2.own⟩
end
section
variable {P : Program} {c : Ctx} {m : Sl} {L R : List Ent}
theorem slots3 {a : Act} {i j k : Nat} {x y z : Value} (h0 : a.tmps[i]? = some x) (h1 : a.tmps[j]? = some y) (h2 : a.tmps[k]? = some z) : Slots [(i, x), (j, y), (k, z)] a := by
 intro t v ht
 rw [lk_cons] at ht
 split at ht
 ·next e => cases ht; subst e; exact h0
 ·rw [lk_cons] at ht
  split at ht
  ·next e => cases ht; subst e; exact h1
  ·rw [lk_cons] at ht
   split at ht
   ·next e => cases ht; subst e; exact h2
   ·cases ht
theorem G.start {X : Act → World → Prop} {a : Act} {w : World} (g : G c m L R X) (h : Ok c m L R a w) : X a w := g a w h
theorem G.finS {fn : Func} {c₀ : Frame} {cs cs' : List Frame} {Rx : Ending → FrameMode → World → Prop} (U : FrameMode) (hr : fn.results = #[]) (hcs : cs' = { c₀ with mode := U } :: cs) (h : ∀ w, St c.w0 c.F w L R → Rx (.returned (.tuple #[])) U w) (hc : c.ds = [] := by rfl) : G c m L R (fun a w => bodyPostS P fn c₀ cs Rx .normal a cs' w) := fun a w ok =>
 ⟨ok.ds.trans hc, U, hcs, .tuple #[], by simp [results, hr, go_sem], h w ok.st⟩
end
section
variable {P : Program} {c : Ctx} {m : Sl} {L R : List Ent} {X : Act → World → Prop}
theorem Res.cells2 {fn : Func} {p q T U n g g' : Nat} {cs cs' vs : List Value} {z : Value} {e e' : Ent} (h : fn.results = #[.cell p T, .cell q U]) (hT : tsz P T = some (true, n)) (hU : tsz P U = some (false, 1)) (i j : Nat) (hp : lk m p = some (.pointer (some ⟨g, 0, none⟩)) := by rfl) (hq : lk m q = some (.pointer (some ⟨g', 0, none⟩)) := by rfl) (hi : (L ++ R)[i]? = some e := by rfl) (hj : (L ++ R)[j]? = some e' := by rfl) (hc : Cel e g cs := by first | exact Cel.blk _ _ _ | exact Cel.ro _ _ _) (hc' : Cel e' g' cs' := by first | exact Cel.blk _ _ _ | exact Cel.ro _ _ _) (hv : (cs.drop 0).take n = vs := by rfl) (hn : vs.length = n := by rfl) (hz : cs'[0]? = some z := by rfl) : Res P m L R fn (.tuple #[.agg vs.toArray, z]) := fun a w hs hd => by
 have hH : e.H w := by
  rcases List.mem_append.1 (List.mem_of_getElem? hi) with q | q
  ·exact hd.1 e q
  ·exact hd.2 e q
 have hH' : e'.H w := by
  rcases List.mem_append.1 (List.mem_of_getElem? hj) with q | q
  ·exact hd.1 e' q
  ·exact hd.2 e' q
 have hl : (loadCells ⟨g, 0, none⟩ n).run P w = .ok vs.toArray w := run_loadCells _ vs hn fun k v hk => by
  rw [add_at, hc w hH]
  subst hv
  rw [List.getElem?_take] at hk
  split at hk
  ·rw [List.getElem?_drop] at hk; exact hk
  ·cases hk
 have hl' := hc' w hH' 0 z hz
 unfold loadCells at hl
 have hq1 := hs p _ hp
 have hq2 := hs q _ hq
 simp [results, h, asAddr, hq1, hq2, run_isAgg hT, run_isAgg hU, run_sizeOf hT, hl, hl', loadVar, Sem.run_bind, Result.andThen, go_sem]
theorem G.ne {g g' : Nat} {cs cs' : List Value} {t t' : TypeId} (h : g' ≠ g → G c m (blk g cs t :: blk g' cs' t' :: L) R X) : G c m (blk g cs t :: blk g' cs' t' :: L) R X := fun a w ok => by
 have nd := ok.st.nd
 have hne : g ≠ g' := by
  simp [ids, blk] at nd
  exact nd.1.1
 exact h (fun e => hne e.symm) a w ok
end
def quietQ (Q : Exit → Act → World → Prop) : Exit → Act → World → Prop
 | .normal, a, w => Q .normal a w
 | _, _, _ => False
theorem G.quiet {P : Program} {Q : Exit → Act → World → Prop} {c : Ctx} {m : Sl} {L R : List Ent} {x : Code} (h : G c m L R (x.wp P (quietQ Q))) : G c m L R (x.wp P Q) := fun a w ok b k cs => by
 obtain ⟨e, a', w', hq, harr⟩ := h a w ok b k cs
 refine ⟨e, a', w', ?_, harr⟩
 cases e <;> first | exact hq | exact hq.elim
end Go.Proofs.YtbmhgopjblnfnaaGreat.S
namespace Go.Proofs.YtbmhgopjblnfnaaGreat.S
open Go Go.Proofs Go.RowKit Go.Proofs.YtbmhgopjblnfnaaGreatW.PrintLast Tryz
theorem f162_0 : tfield prog 162 0 = some 0 := by kernel_rfl
theorem p162 : tplaces prog 162 = some [(0, 1)] := by kernel_rfl
theorem ti20 : tifc prog 20 = true := by kernel_rfl
theorem t39 : tsz prog 39 = some (false, 1) := by kernel_rfl
theorem tc162 : tconc prog 162 = true := by kernel_rfl
theorem tv162 : tzv prog 162 = some (.agg #[.int .i64 0]) := by kernel_rfl
theorem t162 : tsz prog 162 = some (true, 1) := by kernel_rfl
theorem z162 : tzero prog 162 = some [.int .i64 0] := by kernel_rfl
theorem m_yes (e : Int) : Spec prog 73 [.bool true, .int .i64 e] [] [] (fun v Ln => v = .tuple #[] ∧ Ln = []) := by
 refine Spec.en func73 ntmps73 fun w0 => ?_
 refine G.sr fun _ K1 => ?_
 refine G.M 4 ?_
 refine G.V 5 .not ?_
 refine G.nk K1 ?_
 refine G.no rfl ?_
 refine G.skip ?_
 exact G.fin0 [] (.nil Tryz.results73) ⟨rfl, rfl⟩
theorem m_no (e : Int) : Dies prog 73 [.bool false, .int .i64 e] [{ v := .iface 162 (.agg #[.int .i64 e]), recovered := false }] := by
 refine Dies.enter func73 ntmps73 rfl rfl fun w0 => ?_
 refine G.Z fun _ K1 => ?_
 refine G.region ?_
 refine G.V 4 .mv ?_
 refine G.V 5 .not ?_
 refine G.nil ?_
 refine K1 _ _ _ ?_
 refine G.yes rfl ?_
 refine G.region ?_
 refine G.V 6 .mv ?_
 refine G.V 7 (.build z162 p162 (cs := #[.int .i64 e])) ?_
 refine G.V 8 (.mki tc162) ?_
 refine G.pan ?_
 exact G.dead
theorem d_idle (b2 b3 : Nat) (w : World) : CallsD prog 72 #[.pointer (some ⟨b2, 0, none⟩), .pointer (some ⟨b3, 0, none⟩)] .returning w fun e u' w' => e = .returned (.tuple #[]) ∧ u' = .returning ∧ Fr w w' [] := by
 refine callsD_of_wpS func72 rfl fun c₀ cs hu => ?_
 apply wpS_seq
 apply wpS_region
 simp [wpOpsS, go_sem, recoverD, hu, ntmps72, Exit.thenS]
 refine wpS_of_wp ?_
 refine G.start (c := ⟨18, [], w, ids []⟩) (m := [(0, .pointer (some ⟨b2, 0, none⟩)), (1, .pointer (some ⟨b3, 0, none⟩)), (2, .nilIface)]) (L := []) (R := []) ?_ ⟨by simp, rfl, ?_, ⟨Fr.refl w _, by simp, by simp, by simp [ids], by simp [ids], fun k hk => .inl hk⟩⟩
 rotate_left
 exact slots3 rfl rfl rfl
 refine G.Z fun _ K1 => ?_
 refine G.region ?_
 refine G.V 7 .mv ?_
 refine G.V 8 (.tan tc162 tv162) ?_
 refine G.V 6 .mv ?_
 refine G.V 9 .ext ?_
 refine G.V 10 .ext ?_
 refine G.mk 3 (.al z162) fun g3 => ?_
 refine G.sn 0 (.st t162 0) rfl ?_
 refine G.V 4 .mv ?_
 refine G.nil ?_
 refine K1 _ _ _ ?_
 refine G.Z fun _ K2 => ?_
 refine G.region ?_
 refine G.V 11 .mv ?_
 refine G.nil ?_
 refine K2 _ _ _ ?_
 refine G.no rfl ?_
 refine G.Z fun _ K3 => ?_
 refine G.region ?_
 refine G.V 15 .mv ?_
 refine G.V 16 (.nni ti20) ?_
 refine G.nil ?_
 refine K3 _ _ _ ?_
 refine G.no rfl ?_
 refine G.skip ?_
 exact G.finS .returning rfl (by cases c₀; simp_all) (fun w' st => ⟨rfl, rfl, st.fr⟩)
theorem d_took (b2 b3 : Nat) (m0 : Ms) (x e : Int) (w : World) (hne : b2 ≠ b3) (hw : ∀ q ∈ [blk b2 [.int .i64 m0.kind, .int .i64 m0.src, .int .i64 m0.lo, .int .i64 m0.hi, .int .i64 m0.held, .int .i64 m0.hops, .bool m0.good, .bool m0.ref, .int .i64 m0.slo, .int .i64 m0.shi, .int .i64 m0.pulse, .int .i64 m0.st, .int .i64 m0.sn, .slice m0.ta m0.tl m0.tc] 107, blk b3 [.int .i64 x] 39], q.H w) : CallsD prog 72 #[.pointer (some ⟨b2, 0, none⟩), .pointer (some ⟨b3, 0, none⟩)] (.panicking [{ v := .iface 162 (.agg #[.int .i64 e]), recovered := false }]) w fun en u' w' => en = .returned (.tuple #[]) ∧ u' = .panicking [{ v := .iface 162 (.agg #[.int .i64 e]), recovered := true }] ∧ Fr w w' (ids [blk b2 [.int .i64 m0.kind, .int .i64 m0.src, .int .i64 m0.lo, .int .i64 m0.hi, .int .i64 m0.held, .int .i64 m0.hops, .bool m0.good, .bool m0.ref, .int .i64 m0.slo, .int .i64 m0.shi, .int .i64 m0.pulse, .int .i64 m0.st, .int .i64 m0.sn, .slice m0.ta m0.tl m0.tc] 107, blk b3 [.int .i64 x] 39]) ∧ ∀ q ∈ [blk b2 [.int .i64 0, .int .i64 0, .int .i64 0, .int .i64 0, .int .i64 0, .int .i64 0, .bool false, .bool false, .int .i64 0, .int .i64 0, .int .i64 0, .int .i64 0, .int .i64 0, .slice none 0 0] 107, blk b3 [.int .i64 e] 39], q.H w' := by
 refine callsD_of_wpS func72 rfl fun c₀ cs hu => ?_
 apply wpS_seq
 apply wpS_region
 simp [wpOpsS, go_sem, recoverD, hu, ntmps72, Exit.thenS]
 refine wpS_of_wp ?_
 refine G.start (c := ⟨18, [], w, ids [blk b2 [.int .i64 m0.kind, .int .i64 m0.src, .int .i64 m0.lo, .int .i64 m0.hi, .int .i64 m0.held, .int .i64 m0.hops, .bool m0.good, .bool m0.ref, .int .i64 m0.slo, .int .i64 m0.shi, .int .i64 m0.pulse, .int .i64 m0.st, .int .i64 m0.sn, .slice m0.ta m0.tl m0.tc] 107, blk b3 [.int .i64 x] 39]⟩) (m := [(0, .pointer (some ⟨b2, 0, none⟩)), (1, .pointer (some ⟨b3, 0, none⟩)), (2, (.iface 162 (.agg #[.int .i64 e])))]) (L := [blk b2 [.int .i64 m0.kind, .int .i64 m0.src, .int .i64 m0.lo, .int .i64 m0.hi, .int .i64 m0.held, .int .i64 m0.hops, .bool m0.good, .bool m0.ref, .int .i64 m0.slo, .int .i64 m0.shi, .int .i64 m0.pulse, .int .i64 m0.st, .int .i64 m0.sn, .slice m0.ta m0.tl m0.tc] 107, blk b3 [.int .i64 x] 39]) (R := []) ?_ ⟨by simp, rfl, ?_, ⟨Fr.refl w _, hw, by simp, by simp [ids, blk, hne], by simp [ids], fun k hk => .inl hk⟩⟩
 rotate_left
 exact slots3 rfl rfl rfl
 refine G.Z fun _ K1 => ?_
 refine G.region ?_
 refine G.V 7 .mv ?_
 refine G.V 8 (.tas tc162) ?_
 refine G.V 6 .mv ?_
 refine G.V 9 .ext ?_
 refine G.V 10 .ext ?_
 refine G.mk 3 (.al z162) fun g3 => ?_
 refine G.sn 0 (.st t162 0) rfl ?_
 refine G.V 4 .mv ?_
 refine G.nil ?_
 refine K1 _ _ _ ?_
 refine G.Z fun _ K2 => ?_
 refine G.region ?_
 refine G.V 11 .mv ?_
 refine G.nil ?_
 refine K2 _ _ _ ?_
 refine G.yes rfl ?_
 refine G.draw 5 [0] [] [] ?_
 refine D.V 0 12 1 (.build z107 p107) ?_
 refine D.V 1 13 3 (.fa f162_0 0) ?_
 refine D.T 2 14 7 (.ld t39 0) [0] [] ?_
 refine D.sto 3 15 1 (.st t107 1) [0] []  rfl ?_
 dsimp only [List.set, sets, Value.cells, List.zipIdx, List.foldl]
 refine D.sto 4 31 2 (.st t39 2) [0] []  rfl ?_
 dsimp only [List.set, sets, Value.cells, List.zipIdx, List.foldl]
 refine D.done ?_
 exact G.finS (.panicking [{ v := .iface 162 (.agg #[.int .i64 e]), recovered := true }]) rfl (by cases c₀; simp_all) (fun w' st => ⟨rfl, rfl, st.fr, st.l _ (by simp), st.l _ (by simp)⟩)
theorem e72 : Is prog 72 := ⟨_, func72, by kernel_rfl, rfl⟩
theorem e73 : Is prog 73 := ⟨_, func73, by kernel_rfl, rfl⟩
theorem e74 : Is prog 74 := ⟨_, func74, by kernel_rfl, rfl⟩
theorem e75 : Is prog 75 := ⟨_, func75, by kernel_rfl, rfl⟩
theorem p170 : tplaces prog 170 = some [(0, 1)] := by kernel_rfl
theorem p174 : tplaces prog 174 = some [(0, 1), (1, 1)] := by kernel_rfl
theorem sb9_165 : tstrb prog 9 165 = true := by kernel_rfl
theorem z39 : tzero prog 39 = some [.int .i64 0] := by kernel_rfl
theorem z170 : tzero prog 170 = some [.slice none 0 0] := by kernel_rfl
theorem z172 : tzero prog 172 = some [.pointer none] := by kernel_rfl
def msgB (b : List Int) : Ms := ⟨b.getD 0 0, b.getD 1 0, val8 b 4, val8 b 12, val8 b 20, val8 b 28, andV .u8 (b.getD 2 0) 1 == 1, andV .u8 (b.getD 2 0) 2 == 2, val8 b 36, val8 b 44, val8 b 52, val8 b 60, val8 b 68, none, 0, 0⟩
def leapT (b : List Int) (k : Nat) : List (Int × Int) := (List.range k).map fun i => (val8 b (76 + 16 * i), val8 b (76 + 16 * i + 8))
theorem leapT_snoc (b : List Int) (k : Nat) : leapT b (k + 1) = leapT b k ++ [(val8 b (76 + 16 * k), val8 b (76 + 16 * k + 8))] := by simp [leapT, List.range_succ]
def leapB (b : List Int) : List (Int × Int) := leapT b (b.getD 3 0).toNat
def shapeB (n : Nat) (b : List Int) : Bool := decide (76 ≤ n) && (decide ((n : Int) = 76 + 16 * b.getD 3 0) && decide (b.getD 2 0 ≤ 3))
theorem shape_of {n : Nat} {b : List Int} (h : shapeB n b = true) : 76 ≤ n ∧ (n : Int) = 76 + 16 * b.getD 3 0 ∧ b.getD 2 0 ≤ 3 := by unfold shapeB at h; simpa using h
theorem shape_mk {n : Nat} {b : List Int} (h1 : 76 ≤ n) (h2 : (n : Int) = 76 + 16 * b.getD 3 0) (h3 : b.getD 2 0 ≤ 3) : shapeB n b = true := by unfold shapeB; rw [decide_eq_true h1, decide_eq_true h2, decide_eq_true h3]; rfl
def decF (s : List Int) : Option (Ms × List (Int × Int)) := if 4096 < s.length then none else (openL s).bind fun b => if shapeB b.length b = true then (if goodM (msgB b) (leapB b) = true then some (msgB b, leapB b) else none) else none
theorem dec_long {s : List Int} (h : 4096 < s.length) : decF s = none := if_pos h
theorem dec_open {s : List Int} (h : openL s = none) : decF s = none := by unfold decF; split; rfl; rw [h]; rfl
theorem dec_shape {s b : List Int} (h : openL s = some b) (q : shapeB b.length b = false) : decF s = none := by unfold decF; split; rfl; rw [h]; show (if _ then _ else _) = _; rw [if_neg (by rw [q]; decide)]
theorem dec_bad {s b : List Int} (h : openL s = some b) (q : goodM (msgB b) (leapB b) = false) : decF s = none := by
 unfold decF; split; rfl; rw [h]; show (if _ then _ else _) = _; split
 ·rw [if_neg (by rw [q]; decide)]
 ·rfl
theorem dec_ok {s b : List Int} (h0 : ¬ 4096 < s.length) (h : openL s = some b) (h1 : shapeB b.length b = true) (q : goodM (msgB b) (leapB b) = true) : decF s = some (msgB b, leapB b) := by unfold decF; rw [if_neg h0, h]; show (if _ then _ else _) = _; rw [if_pos h1, if_pos q]
theorem row_le {w : World} {a : Option Addr} {c : Nat} {e : TypeId} {sz n : Nat} {xs : List Value} (h : (row a c e sz n xs).H w) : n ≤ c := by
 rcases h.2 with ⟨he, h0⟩ | ⟨g, cap, cur, he, _, _, h1, _⟩
 ·cases he; exact Nat.le_refl _
 ·cases he; exact h1
theorem u8_g {l : List Int} {k : Nat} (h : k < l.length) : (u8s l)[k]? = some (.int .u8 (l.getD k 0)) := by simp [u8s, h]
theorem u8_h (l : List Int) : ∀ (j : Nat) (x : Int), l[j]? = some x → (u8s l)[j]? = some (Value.int .u8 x) := by intro j x h; simp [u8s, h]
theorem open_b {s l : List Int} (hs : ∀ x ∈ s, 0 ≤ x ∧ x < 256) (h : openL s = some l) (k : Nat) : 0 ≤ l.getD k 0 ∧ l.getD k 0 < 256 := by
 have hl : ∀ x ∈ l, x ∈ s := by
  unfold openL at h
  split at h
  ·cases h
  ·split at h
   ·cases h; exact fun x hx => List.mem_of_mem_take hx
   ·cases h
 rw [List.getD_eq_getElem?_getD]
 cases hk : l[k]? with
 | none => simp
 | some x => exact hs x (hl x (List.mem_of_getElem? hk))
theorem str_take (s : ByteArray) (r : List Value) : (u8s (strL s) ++ r).take s.size = u8s (strL s) := List.take_left' (by simp [u8s, strL_len])
theorem w_Decode (s : ByteArray) : Spec prog 58 [.string s] [] [] (fun v Ln => ∃ m e l, v = .tuple #[.agg #[.int .i64 m.kind, .int .i64 m.src, .int .i64 m.lo, .int .i64 m.hi, .int .i64 m.held, .int .i64 m.hops, .bool m.good, .bool m.ref, .int .i64 m.slo, .int .i64 m.shi, .int .i64 m.pulse, .int .i64 m.st, .int .i64 m.sn, .slice m.ta m.tl m.tc], .int .i64 e] ∧ l.length = m.tl ∧ ((e = 0 ∧ goodM m l = true ∧ decF (strL s) = some ({ m with ta := none, tl := 0, tc := 0 }, l)) ∨ (e ≠ 0 ∧ decF (strL s) = none)) ∧ Ln = [row m.ta m.tc 174 2 m.tl (spl l)]) := by
 refine Spec.enterD func58 ntmps58 rfl rfl fun w0 => ?_
 refine G.Z fun _ K1 => ?_
 refine G.region ?_
 refine G.mk 2 (.al z107) fun g2 => ?_
 refine G.mk 3 (.al z39) fun g3 => ?_
 refine G.nil ?_
 refine G.ne fun hne => ?_
 refine K1 _ _ _ ?_
 refine G.seq0 ?_
 refine G.region ?_
 refine G.V 8 .mf ?_
 refine G.defer none ?_
 refine G.nil ?_
 refine G.Z fun _ K2 => ?_
 refine G.region ?_
 refine G.V 9 .mv ?_
 refine G.V 10 (.lens r9) ?_
 refine G.V 11 .bin ?_
 cases hlen : (decide ((s.size : Int) ≤ 4096) : Bool)
 have dhlen := of_decide_eq_false hlen
 refine G.newRow 174 2 ?_
 refine G.callp e73 (m_no 3) ?_
 exact G.finP e72 (fun w hw => d_took g2 g3 Ms.zero 0 3 w hne hw) [2, 1] [2] rfl rfl (.cells2 Tryz.results58 t107 t39 0 1) ⟨Ms.zero, 3, [], rfl, rfl, .inr ⟨by decide, dec_long (by rw [strL_len]; omega)⟩, rfl⟩ rfl
 have dhlen := of_decide_eq_true hlen
 refine G.C 12 [] []  e73 (m_yes 3) ?_
 rintro _ _ ⟨rfl, rfl⟩
 refine G.nil ?_
 refine K2 _ _ _ ?_
 refine G.Z fun _ K3 => ?_
 refine G.region ?_
 refine G.V 14 .mv ?_
 refine G.s2b 15 sb9_165 fun g15 k15 r15 hk15 => ?_
 refine G.C 16 [] [0]  e74 (k_Open g15 s.size k15 (ro g15 (u8s (strL s) ++ r15) 5) (u8s (strL s) ++ r15) (strL s) (Cel.ro _ _ _) (str_take s r15) (strL_len s) (by omega) hk15 (by omega)) ?_
 rintro _ _ ⟨a4, n4, c4, ok4, bl, rfl, hbl, hop, rfl⟩
 refine G.V 13 .mv ?_
 refine G.V 17 .ext ?_
 refine G.V 18 .ext ?_
 refine G.V 4 .mv ?_
 refine G.V 5 .mv ?_
 refine G.nil ?_
 refine K3 _ _ _ ?_
 refine G.Z fun _ K4 => ?_
 refine G.region ?_
 refine G.V 19 .mv ?_
 cases hok : (ok4 : Bool)
 refine G.newRow 174 2 ?_
 refine G.callp e73 (m_no 5) ?_
 exact G.finP e72 (fun w hw => d_took g2 g3 Ms.zero 0 5 w hne hw) [4, 3] [2] rfl rfl (.cells2 Tryz.results58 t107 t39 0 1) ⟨Ms.zero, 5, [], rfl, rfl, .inr ⟨by decide, dec_open (by rw [hop, hok]; rfl)⟩, rfl⟩ rfl
 refine G.C 20 [] []  e73 (m_yes 5) ?_
 rintro _ _ ⟨rfl, rfl⟩
 rw [hok, if_pos rfl] at hop
 have hln : ¬ 4096 < (strL s).length := by rw [strL_len]; omega
 refine G.nil ?_
 refine K4 _ _ _ ?_
 refine G.Z fun _ K5 => ?_
 refine G.region ?_
 refine G.V 21 .mv ?_
 refine G.V 22 (.lenl s165) ?_
 refine G.V 23 .bin ?_
 refine G.V 24 .mv ?_
 cases hg6 : (decide ((n4 : Int) ≥ 76) : Bool)
 have dhg6 := of_decide_eq_false hg6
 refine G.off 25 ?_
 refine G.off 26 ?_
 refine G.off 27 ?_
 refine G.off 28 ?_
 refine G.off 29 ?_
 refine G.off 30 ?_
 refine G.off 31 ?_
 refine G.off 32 ?_
 refine G.off 33 ?_
 refine G.V 34 .pick ?_
 refine G.V 35 .mv ?_
 refine G.off 36 ?_
 refine G.off 37 ?_
 refine G.off 38 ?_
 refine G.off 39 ?_
 refine G.V 40 .pick ?_
 refine G.newRow 174 2 ?_
 refine G.callp e73 (m_no 4) ?_
 exact G.finP e72 (fun w hw => d_took g2 g3 Ms.zero 0 4 w hne hw) [4, 3] [2] rfl rfl (.cells2 Tryz.results58 t107 t39 0 1) ⟨Ms.zero, 4, [], rfl, rfl, .inr ⟨by decide, dec_shape hop (Bool.eq_false_iff.2 fun q => by have := shape_of q; omega)⟩, rfl⟩ rfl
 have dhg6 := of_decide_eq_true hg6
 refine G.base 0 (show 0 < n4 by omega) fun b7 hb_ => ?_
 subst hb_
 have hb0 := open_b (strL_b s) hop 0
 have hb1 := open_b (strL_b s) hop 1
 have hb2 := open_b (strL_b s) hop 2
 have hb3 := open_b (strL_b s) hop 3
 refine G.fact (p := n4 ≤ c4) 0 (fun w h => row_le h) fun hnc => ?_
 refine G.V 25 .mv ?_
 refine G.V 26 (.lenl s165) ?_
 refine G.V 27 .mv ?_
 refine G.V 28 (.is s165 3 (show 3 < n4 by omega)) ?_
 refine G.V 29 (.ld t5 0 (hv := u8_g (by omega))) ?_
 refine G.V 30 (.cvi (a := bl.getD 3 0) k5 k3 (wr (by omega) (by omega))) ?_
 refine G.V 31 .bw ?_
 refine G.V 32 .bw ?_
 refine G.V 33 .bin ?_
 refine G.V 34 .pick ?_
 refine G.V 35 .mv ?_
 cases hg8 : ((n4 : Int) == (76 + (16 * (bl.getD 3 0))) : Bool)
 have dhg8 := ne_of_beq_false hg8
 refine G.off 36 ?_
 refine G.off 37 ?_
 refine G.off 38 ?_
 refine G.off 39 ?_
 refine G.V 40 .pick ?_
 refine G.newRow 174 2 ?_
 refine G.callp e73 (m_no 4) ?_
 exact G.finP e72 (fun w hw => d_took g2 g3 Ms.zero 0 4 w hne hw) [4, 3] [2] rfl rfl (.cells2 Tryz.results58 t107 t39 0 1) ⟨Ms.zero, 4, [], rfl, rfl, .inr ⟨by decide, dec_shape hop (Bool.eq_false_iff.2 fun q => by have := shape_of q; omega)⟩, rfl⟩ rfl
 have dhg8 := eq_of_beq hg8
 refine G.V 36 .mv ?_
 refine G.V 37 (.is s165 2 (show 2 < n4 by omega)) ?_
 refine G.V 38 (.ld t5 0 (hv := u8_g (by omega))) ?_
 refine G.V 39 .bin ?_
 refine G.V 40 .pick ?_
 cases hshape : (decide ((bl.getD 2 0) ≤ 3) : Bool)
 have dhshape := of_decide_eq_false hshape
 refine G.newRow 174 2 ?_
 refine G.callp e73 (m_no 4) ?_
 exact G.finP e72 (fun w hw => d_took g2 g3 Ms.zero 0 4 w hne hw) [4, 3] [2] rfl rfl (.cells2 Tryz.results58 t107 t39 0 1) ⟨Ms.zero, 4, [], rfl, rfl, .inr ⟨by decide, dec_shape hop (Bool.eq_false_iff.2 fun q => by have := shape_of q; omega)⟩, rfl⟩ rfl
 have dhshape := of_decide_eq_true hshape
 refine G.C 41 [] []  e73 (m_yes 4) ?_
 rintro _ _ ⟨rfl, rfl⟩
 have hsh : shapeB bl.length bl = true := shape_mk (by omega) (by omega) (by omega)
 refine G.nil ?_
 refine K5 _ _ _ ?_
 refine G.Z fun _ K9 => ?_
 refine G.quiet ?_
 refine G.draw 20 [0] [] [] ?_
 refine D.V 0 42 1 .mv ?_
 refine D.V 1 43 3 (.is s165 0 (show 0 < n4 by omega)) ?_
 refine D.V 4 46 19 .mv ?_
 refine D.V 5 47 51 (.is s165 1 (show 1 < n4 by omega)) ?_
 refine D.V 8 50 307 .mv ?_
 refine D.V 9 51 819 (.is s165 2 (show 2 < n4 by omega)) ?_
 refine D.V 13 55 9011 .mv ?_
 refine D.V 14 56 25395 (.is s165 2 (show 2 < n4 by omega)) ?_
 refine D.T 2 44 25399 (.ld t5 0 (hv := u8_g (by omega))) [0] [] ?_
 refine D.V 3 45 25407 (.cvi (a := bl.getD 0 0) k5 k3 (wr (by omega) (by omega))) ?_
 refine D.T 6 48 25471 (.ld t5 0 (hv := u8_g (by omega))) [0] [] ?_
 refine D.V 7 49 25599 (.cvi (a := bl.getD 1 0) k5 k3 (wr (by omega) (by omega))) ?_
 refine D.T 10 52 26623 (.ld t5 0 (hv := u8_g (by omega))) [0] [] ?_
 refine D.V 11 53 28671 .bin ?_
 refine D.V 12 54 32767 .bin ?_
 refine D.T 15 57 65535 (.ld t5 0 (hv := u8_g (by omega))) [0] [] ?_
 refine D.V 16 58 131071 .bin ?_
 refine D.V 17 59 262143 .bin ?_
 refine D.V 18 60 524287 (.build z107 p107 (cs := #[.int .i64 (bl.getD 0 0), .int .i64 (bl.getD 1 0), .int .i64 0, .int .i64 0, .int .i64 0, .int .i64 0, .bool ((andV .u8 (bl.getD 2 0) 1) == 1), .bool ((andV .u8 (bl.getD 2 0) 2) == 2), .int .i64 0, .int .i64 0, .int .i64 0, .int .i64 0, .int .i64 0, .slice none 0 0])) ?_
 refine D.sto 19 1048575 3 (.st t107 3) [0] []  rfl ?_
 dsimp only [List.set, sets, Value.cells, List.zipIdx, List.foldl]
 refine D.done ?_
 refine K9 _ _ _ ?_
 refine G.Z fun _ K10 => ?_
 refine G.region ?_
 refine G.V 61 .mv ?_
 refine G.V 62 (.slo s165 4 (show 4 ≤ n4 by omega) (show 4 < c4 by omega)) ?_
 refine G.V 63 (.build z170 p170 (cs := #[.slice (some ⟨b7, 4, none⟩) (n4 - 4) (c4 - 4)])) ?_
 refine G.mk 64 .bx fun g64 => ?_
 refine G.V 6 .mv ?_
 refine G.nil ?_
 refine K10 _ _ _ ?_
 refine G.Z fun _ K11 => ?_
 refine G.region ?_
 refine G.V 65 .mv ?_
 refine G.V 66 (.fa f107_2 2) ?_
 refine G.V 67 (.fa f49_0 2) ?_
 refine G.V 68 (.fa f107_2 2) ?_
 refine G.V 69 (.fa f49_1 3) ?_
 refine G.V 70 (.fa f107_3 4) ?_
 refine G.V 71 (.fa f107_4 5) ?_
 refine G.V 72 (.fa f107_7 8) ?_
 refine G.V 73 (.fa f49_0 8) ?_
 refine G.V 74 (.fa f107_7 8) ?_
 refine G.V 75 (.fa f49_1 9) ?_
 refine G.V 76 (.fa f107_8 10) ?_
 refine G.V 77 (.fa f107_9 11) ?_
 refine G.V 78 (.fa f68_0 11) ?_
 refine G.V 79 (.fa f107_9 11) ?_
 refine G.V 80 (.fa f68_1 12) ?_
 refine G.row 81 (.sl s198 z172 [.pointer (some ⟨g2, 2, none⟩), .pointer (some ⟨g2, 3, none⟩), .pointer (some ⟨g2, 4, none⟩), .pointer (some ⟨g2, 5, none⟩), .pointer (some ⟨g2, 8, none⟩), .pointer (some ⟨g2, 9, none⟩), .pointer (some ⟨g2, 10, none⟩), .pointer (some ⟨g2, 11, none⟩), .pointer (some ⟨g2, 12, none⟩)] (hf := by kernel_rfl)) fun g81 => ?_
 refine G.C 82 [1, 4] [0, 1]  e75 (r_nums g64 b7 g81 g2 (row (some ⟨b7, 0, none⟩) c4 5 1 n4 (u8s bl)) 107 (u8s bl) [.int .i64 (bl.getD 0 0), .int .i64 (bl.getD 1 0), .int .i64 0, .int .i64 0, .int .i64 0, .int .i64 0, .bool ((andV .u8 (bl.getD 2 0) 1) == 1), .bool ((andV .u8 (bl.getD 2 0) 2) == 2), .int .i64 0, .int .i64 0, .int .i64 0, .int .i64 0, .int .i64 0, .slice none 0 0] bl [2, 3, 4, 5, 8, 9, 10, 11, 12] 4 (n4 - 4) (c4 - 4) 9 (Cel.row _ _ _ _ _ _) (u8_h bl) rfl (by decide) (show ∀ x ∈ [2, 3, 4, 5, 8, 9, 10, 11, 12], x < 14 by decide) (by omega) (by omega) (by omega)) ?_
 rintro _ _ ⟨rfl, o5, ho5, rfl⟩
 refine G.eqL [blk g64 [.slice (some ⟨b7, o5, none⟩) (n4 - 4 - 8 * 9) (c4 - 4 - 8 * 9)] 170, blk g2 [.int .i64 (bl.getD 0 0), .int .i64 (bl.getD 1 0), .int .i64 (val8 bl 4), .int .i64 (val8 bl 12), .int .i64 (val8 bl 20), .int .i64 (val8 bl 28), .bool (andV .u8 (bl.getD 2 0) 1 == 1), .bool (andV .u8 (bl.getD 2 0) 2 == 2), .int .i64 (val8 bl 36), .int .i64 (val8 bl 44), .int .i64 (val8 bl 52), .int .i64 (val8 bl 60), .int .i64 (val8 bl 68), .slice none 0 0] 107, blk g81 [.pointer (some ⟨g2, 2, none⟩), .pointer (some ⟨g2, 3, none⟩), .pointer (some ⟨g2, 4, none⟩), .pointer (some ⟨g2, 5, none⟩), .pointer (some ⟨g2, 8, none⟩), .pointer (some ⟨g2, 9, none⟩), .pointer (some ⟨g2, 10, none⟩), .pointer (some ⟨g2, 11, none⟩), .pointer (some ⟨g2, 12, none⟩)] 172, row (some ⟨b7, 0, none⟩) c4 5 1 n4 (u8s bl), ro g15 (u8s (strL s) ++ r15) 5, blk g3 [.int .i64 0] 39] (by rfl) ?_
 refine G.nil ?_
 refine K11 _ _ _ ?_
 refine G.Z fun _ K12 => ?_
 refine G.Z fun _ K13 => ?_
 refine G.region ?_
 refine G.V 83 .mv ?_
 refine G.V 84 (.is s165 3 (show 3 < n4 by omega)) ?_
 refine G.V 85 (.ld t5 3 (hv := u8_g (by omega))) ?_
 refine G.V 86 (.cvi (a := bl.getD 3 0) k5 k3 (wr (by omega) (by omega))) ?_
 refine G.V 87 .mv ?_
 refine G.nil ?_
 refine G.newRow 174 2 ?_
 refine K13 _ _ _ ?_
 refine G.block ?_
 refine G.only [0, 0, 0, 1, 2] ?_
 refine G.lpR (ι := {z : Nat × Option Addr × Nat × Nat × Nat × Nat × List (Int × Int) // (z.1 : Int) ≤ bl.getD 3 0 ∧ (z.2.2.2.2.1 = n4 - 76 - 16 * z.1 ∧ z.2.2.2.2.2.1 = c4 - 76 - 16 * z.1) ∧ (0 < z.2.2.2.2.2.1 → z.2.2.2.1 = 76 + 16 * z.1) ∧ z.2.2.2.2.2.2 = leapT bl z.1}) (fun ⟨⟨k, at1, ct1, o1, n1, k1, lt⟩, hj, hnk, ho1, hlt⟩ => (bl.getD 3 0).toNat - k) (fun ⟨⟨k, at1, ct1, o1, n1, k1, lt⟩, hj, hnk, ho1, hlt⟩ => [(2, .pointer (some ⟨g2, 0, none⟩)), (3, .pointer (some ⟨g3, 0, none⟩)), (4, .slice (some ⟨b7, 0, none⟩) n4 c4), (6, .pointer (some ⟨g64, 0, none⟩)), (86, .int .i64 (bl.getD 3 0)), (87, .int .i64 (k : Int))]) (fun ⟨⟨k, at1, ct1, o1, n1, k1, lt⟩, hj, hnk, ho1, hlt⟩ => [row at1 ct1 174 2 k (spl lt), blk g64 [.slice (some ⟨b7, o1, none⟩) n1 k1] 170, blk g2 [.int .i64 (bl.getD 0 0), .int .i64 (bl.getD 1 0), .int .i64 (val8 bl 4), .int .i64 (val8 bl 12), .int .i64 (val8 bl 20), .int .i64 (val8 bl 28), .bool (andV .u8 (bl.getD 2 0) 1 == 1), .bool (andV .u8 (bl.getD 2 0) 2 == 2), .int .i64 (val8 bl 36), .int .i64 (val8 bl 44), .int .i64 (val8 bl 52), .int .i64 (val8 bl 60), .int .i64 (val8 bl 68), .slice at1 k ct1] 107, row (some ⟨b7, 0, none⟩) c4 5 1 n4 (u8s bl), blk g3 [.int .i64 0] 39]) ?_ ?_
 exact G.as ⟨(0, none, 0, o5, n4 - 4 - 8 * 9, c4 - 4 - 8 * 9, []), by dsimp only; omega, ⟨by dsimp only; omega, by dsimp only; omega⟩, fun q => by dsimp only at q ⊢; rw [ho5 q], rfl⟩
 rintro ⟨⟨k, at1, ct1, o1, n1, k1, lt⟩, hj, hnk, ho1, hlt⟩ _ K14
 try dsimp only at K14 ⊢
 try dsimp only at hj hnk ho1 hlt
 have hll : lt.length = k := by rw [hlt]; simp [leapT]
 refine G.Z fun _ K15 => ?_
 refine G.region ?_
 refine G.V 88 .bin ?_
 refine G.nil ?_
 refine K15 _ _ _ ?_
 refine G.Z fun _ K16 => ?_
 refine G.cond rfl (fun hc88 => ?_) (fun hc88 => ?_)
 have hk : (k : Int) < bl.getD 3 0 := of_decide_eq_true hc88
 have dhc88 := of_decide_eq_true hc88
 refine G.skip ?_
 refine K16 _ _ _ ?_
 refine G.Z fun _ K17 => ?_
 refine G.block ?_
 refine G.Z fun _ K18 => ?_
 refine G.region ?_
 refine G.V 89 (.build z174 p174) ?_
 refine G.mk 7 (.al z174) fun g7 => ?_
 refine G.sn 0 (.st t174 0) rfl ?_
 refine G.nil ?_
 refine K18 _ _ _ ?_
 refine G.Z fun _ K19 => ?_
 refine G.region ?_
 refine G.V 90 .mv ?_
 refine G.V 91 (.fa f174_0 0) ?_
 refine G.V 92 (.fa f174_1 1) ?_
 refine G.row 93 (.sl s198 z172 [.pointer (some ⟨g7, 0, none⟩), .pointer (some ⟨g7, 1, none⟩)]) fun g93 => ?_
 refine G.C 94 [3, 1] [0, 3]  e75 (r_nums g64 b7 g93 g7 (row (some ⟨b7, 0, none⟩) c4 5 1 n4 (u8s bl)) 174 (u8s bl) [.int .i64 0, .int .i64 0] bl [0, 1] o1 n1 k1 2 (Cel.row _ _ _ _ _ _) (u8_h bl) rfl (by decide) (show ∀ x ∈ [0, 1], x < 2 by decide) (by omega) (by omega) (by omega)) ?_
 rintro _ _ ⟨rfl, o6, ho6, rfl⟩
 refine G.eqL [blk g64 [.slice (some ⟨b7, o6, none⟩) (n1 - 8 * 2) (k1 - 8 * 2)] 170, blk g7 [.int .i64 (val8 bl o1), .int .i64 (val8 bl (o1 + 8))] 174, blk g93 [.pointer (some ⟨g7, 0, none⟩), .pointer (some ⟨g7, 1, none⟩)] 172, row at1 ct1 174 2 k (spl lt), blk g2 [.int .i64 (bl.getD 0 0), .int .i64 (bl.getD 1 0), .int .i64 (val8 bl 4), .int .i64 (val8 bl 12), .int .i64 (val8 bl 20), .int .i64 (val8 bl 28), .bool (andV .u8 (bl.getD 2 0) 1 == 1), .bool (andV .u8 (bl.getD 2 0) 2 == 2), .int .i64 (val8 bl 36), .int .i64 (val8 bl 44), .int .i64 (val8 bl 52), .int .i64 (val8 bl 60), .int .i64 (val8 bl 68), .slice at1 k ct1] 107, row (some ⟨b7, 0, none⟩) c4 5 1 n4 (u8s bl), blk g3 [.int .i64 0] 39] (by rfl) ?_
 refine G.nil ?_
 refine K19 _ _ _ ?_
 refine G.region ?_
 refine G.V 95 (.fa f107_10 13) ?_
 refine G.V 96 (.ld t58 4) ?_
 refine G.V 97 (.lda t174 1 (vs := [.int .i64 (val8 bl o1), .int .i64 (val8 bl (o1 + 8))])) ?_
 refine G.row 98 (.sl s58 z174 [.int .i64 (val8 bl o1), .int .i64 (val8 bl (o1 + 8))]) fun g98 => ?_
 refine G.chg 99 4 (.app s58 z174 y174 4 0 (show k + 1 ≤ 1048576 by omega)) ?_
 rintro _ _ ⟨a20, c21, rfl, rfl⟩
 dsimp only [List.set]
 refine G.V 100 (.fa f107_10 13) ?_
 refine G.sn 5 (.st t58 5) rfl ?_
 refine G.nil ?_
 refine K17 _ _ _ ?_
 refine G.region ?_
 refine G.V 101 .bw ?_
 refine G.V 87 .mv ?_
 refine G.nil ?_
 refine G.only [4, 1, 3, 3, 3] ?_
 refine K14 _ _ _ ?_
 exact G.ls ⟨(k + 1, a20, c21, o6, n1 - 8 * 2, k1 - 8 * 2, lt ++ [(val8 bl o1, val8 bl (o1 + 8))]), by dsimp only; omega, ⟨by dsimp only; omega, by dsimp only; omega⟩, fun q => by dsimp only at q ⊢; rw [ho6 q, ho1 (by omega)]; omega, by dsimp only; rw [leapT_snoc, ← hlt, ho1 (by omega)]⟩ (hL := (by first | rfl | (dsimp only; rw [spl_snoc])))
 have hkn : bl.getD 3 0 = (k : Int) := by have := of_decide_eq_false hc88; omega
 have hLB : leapB bl = lt := by unfold leapB; rw [hkn, hlt]; rfl
 have dhc88 := of_decide_eq_false hc88
 refine G.exit ?_
 refine K12 _ _ _ ?_
 refine G.Z fun _ K22 => ?_
 refine G.region ?_
 refine G.V 102 (.lda t107 2 (vs := [.int .i64 (bl.getD 0 0), .int .i64 (bl.getD 1 0), .int .i64 (val8 bl 4), .int .i64 (val8 bl 12), .int .i64 (val8 bl 20), .int .i64 (val8 bl 28), .bool (andV .u8 (bl.getD 2 0) 1 == 1), .bool (andV .u8 (bl.getD 2 0) 2 == 2), .int .i64 (val8 bl 36), .int .i64 (val8 bl 44), .int .i64 (val8 bl 52), .int .i64 (val8 bl 60), .int .i64 (val8 bl 68), .slice at1 k ct1])) ?_
 refine G.cp 103 [] [0]  e76 (w_Good ⟨(bl.getD 0 0), (bl.getD 1 0), (val8 bl 4), (val8 bl 12), (val8 bl 20), (val8 bl 28), (andV .u8 (bl.getD 2 0) 1 == 1), (andV .u8 (bl.getD 2 0) 2 == 2), (val8 bl 36), (val8 bl 44), (val8 bl 52), (val8 bl 60), (val8 bl 68), at1, k, ct1⟩ lt hll (by show k ≤ 1000; omega)) ?_
 cases hgood : ((goodM ⟨(bl.getD 0 0), (bl.getD 1 0), (val8 bl 4), (val8 bl 12), (val8 bl 20), (val8 bl 28), (andV .u8 (bl.getD 2 0) 1 == 1), (andV .u8 (bl.getD 2 0) 2 == 2), (val8 bl 36), (val8 bl 44), (val8 bl 52), (val8 bl 60), (val8 bl 68), at1, k, ct1⟩ lt) : Bool)
 refine G.newRow 174 2 ?_
 refine G.callp e73 (m_no 4) ?_
 exact G.finP e72 (fun w hw => d_took g2 g3 ⟨(bl.getD 0 0), (bl.getD 1 0), (val8 bl 4), (val8 bl 12), (val8 bl 20), (val8 bl 28), (andV .u8 (bl.getD 2 0) 1 == 1), (andV .u8 (bl.getD 2 0) 2 == 2), (val8 bl 36), (val8 bl 44), (val8 bl 52), (val8 bl 60), (val8 bl 68), at1, k, ct1⟩ 0 4 w hne hw) [3, 4] [2] rfl rfl (.cells2 Tryz.results58 t107 t39 0 1) ⟨Ms.zero, 4, [], rfl, rfl, .inr ⟨by decide, dec_bad hop (by rw [hLB]; exact hgood)⟩, rfl⟩ rfl
 refine G.C 104 [] []  e73 (m_yes 4) ?_
 rintro _ _ ⟨rfl, rfl⟩
 refine G.nil ?_
 refine K22 _ _ _ ?_
 refine G.Z fun _ K23 => ?_
 refine G.region ?_
 refine G.V 105 (.lda t107 2 (vs := [.int .i64 (bl.getD 0 0), .int .i64 (bl.getD 1 0), .int .i64 (val8 bl 4), .int .i64 (val8 bl 12), .int .i64 (val8 bl 20), .int .i64 (val8 bl 28), .bool (andV .u8 (bl.getD 2 0) 1 == 1), .bool (andV .u8 (bl.getD 2 0) 2 == 2), .int .i64 (val8 bl 36), .int .i64 (val8 bl 44), .int .i64 (val8 bl 52), .int .i64 (val8 bl 60), .int .i64 (val8 bl 68), .slice at1 k ct1])) ?_
 refine G.sn 2 (.st t107 2) rfl ?_
 refine G.sn 4 (.st t39 4) rfl ?_
 refine G.nil ?_
 refine K23 _ _ _ ?_
 refine G.ret ?_
 exact G.finD e72 (fun w => d_idle g2 g3 w) [0] (.cells2 Tryz.results58 t107 t39 2 4) ⟨⟨(bl.getD 0 0), (bl.getD 1 0), (val8 bl 4), (val8 bl 12), (val8 bl 20), (val8 bl 28), (andV .u8 (bl.getD 2 0) 1 == 1), (andV .u8 (bl.getD 2 0) 2 == 2), (val8 bl 36), (val8 bl 44), (val8 bl 52), (val8 bl 60), (val8 bl 68), at1, k, ct1⟩, 0, lt, rfl, hll, .inl ⟨rfl, hgood, by rw [dec_ok hln hop hsh (by rw [hLB]; exact hgood), hLB]; rfl⟩, rfl⟩
end Go.Proofs.YtbmhgopjblnfnaaGreat.S
namespace Go.Proofs.YtbmhgopjblnfnaaGreat.S
open Go Go.RowKit Tryz
theorem u8w (n : Int) : 0 ≤ IntKind.u8.wrap n ∧ IntKind.u8.wrap n < 256 := by rw [IntKind.wrap_u8]; omega
theorem u8i {n : Int} (h : 0 ≤ n ∧ n < 256) : IntKind.u8.wrap n = n := by rw [IntKind.wrap_u8]; omega
theorem ior_add {a b : Int} (ha : 0 ≤ a) (ha2 : a < 72057594037927936) (hb : 0 ≤ b ∧ b < 256) : iorV .u64 (a * 256) b = a * 256 + b := by
 obtain ⟨A, rfl⟩ := Int.eq_ofNat_of_zero_le ha
 obtain ⟨B, rfl⟩ := Int.eq_ofNat_of_zero_le hb.1
 have hA : A < 72057594037927936 := by omega
 have hB : B < 256 := by omega
 have e1 : (BitVec.ofInt IntKind.u64.bits ((A : Int) * 256)).toNat = A * 256 := by
  rw [BitVec.toNat_ofInt]
  show (((A : Int) * 256) % ((2 ^ 64 : Nat) : Int)).toNat = _
  omega
 have e2 : (BitVec.ofInt IntKind.u64.bits (B : Int)).toNat = B := by
  rw [BitVec.toNat_ofInt]
  show ((B : Int) % ((2 ^ 64 : Nat) : Int)).toNat = _
  omega
 unfold iorV
 rw [BitVec.toNat_or, e1, e2]
 have h3 : A * 256 ||| B = A * 256 + B := by
  have := Nat.shiftLeft_add_eq_or_of_lt (i := 8) (b := B) (by omega) A
  rw [Nat.shiftLeft_eq] at this
  exact this.symm
 rw [h3, IntKind.wrap_u64]
 omega
theorem acc1_eq {a x : Int} (h0 : 0 ≤ a) (h1 : a < 72057594037927936) (hx : 0 ≤ x ∧ x < 256) : acc1 a x = a * 256 + x := by
 unfold acc1
 have e1 : shlV .u64 a 8 = a * 256 := by
  show IntKind.u64.wrap (a * 2 ^ (min 8 64)) = _
  rw [IntKind.wrap_u64]
  show (a * 256) % _ = _
  omega
 have e2 : IntKind.u64.wrap x = x := by rw [IntKind.wrap_u64]; omega
 rw [e1, e2, ior_add h0 h1 hx]
theorem byteN_eq (x : Int) {j : Nat} (hj : j < 8) : byteN x j = (x % 18446744073709551616) / (2 ^ (8 * (7 - j)) : Int) % 256 := by
 unfold byteN shrV
 rw [IntKind.wrap_u8, IntKind.wrap_u64]
 have e : min ((8 * (7 - (j : Int))).toNat) IntKind.u64.bits = 8 * (7 - j) := by
  show min _ 64 = _
  omega
 rw [e, Int.fdiv_eq_ediv_of_nonneg _ (Int.le_of_lt (Int.pow_pos (by decide)))]
theorem accB_be8 (x : Int) : accB (be8 x) = x % 18446744073709551616 := by
 have hu : 0 ≤ x % 18446744073709551616 ∧ x % 18446744073709551616 < 18446744073709551616 := by omega
 have e0 := byteN_eq x (j := 0) (by decide)
 have e1 := byteN_eq x (j := 1) (by decide)
 have e2 := byteN_eq x (j := 2) (by decide)
 have e3 := byteN_eq x (j := 3) (by decide)
 have e4 := byteN_eq x (j := 4) (by decide)
 have e5 := byteN_eq x (j := 5) (by decide)
 have e6 := byteN_eq x (j := 6) (by decide)
 have e7 := byteN_eq x (j := 7) (by decide)
 generalize x % 18446744073709551616 = u at *
 simp only [Nat.reduceSub, Nat.reduceMul, Int.reducePow] at e0 e1 e2 e3 e4 e5 e6 e7
 show acc1 (acc1 (acc1 (acc1 (acc1 (acc1 (acc1 (acc1 0 (byteN x 0)) (byteN x 1)) (byteN x 2)) (byteN x 3)) (byteN x 4)) (byteN x 5)) (byteN x 6)) (byteN x 7) = u
 rw [acc1_eq (by omega) (by omega) (by omega : 0 ≤ byteN x 0 ∧ byteN x 0 < 256)]
 rw [show 0 * 256 + byteN x 0 = u / 72057594037927936 from by omega]
 rw [acc1_eq (by omega) (by omega) (by omega : 0 ≤ byteN x 1 ∧ byteN x 1 < 256)]
 rw [show u / 72057594037927936 * 256 + byteN x 1 = u / 281474976710656 from by omega]
 rw [acc1_eq (by omega) (by omega) (by omega : 0 ≤ byteN x 2 ∧ byteN x 2 < 256)]
 rw [show u / 281474976710656 * 256 + byteN x 2 = u / 1099511627776 from by omega]
 rw [acc1_eq (by omega) (by omega) (by omega : 0 ≤ byteN x 3 ∧ byteN x 3 < 256)]
 rw [show u / 1099511627776 * 256 + byteN x 3 = u / 4294967296 from by omega]
 rw [acc1_eq (by omega) (by omega) (by omega : 0 ≤ byteN x 4 ∧ byteN x 4 < 256)]
 rw [show u / 4294967296 * 256 + byteN x 4 = u / 16777216 from by omega]
 rw [acc1_eq (by omega) (by omega) (by omega : 0 ≤ byteN x 5 ∧ byteN x 5 < 256)]
 rw [show u / 16777216 * 256 + byteN x 5 = u / 65536 from by omega]
 rw [acc1_eq (by omega) (by omega) (by omega : 0 ≤ byteN x 6 ∧ byteN x 6 < 256)]
 rw [show u / 65536 * 256 + byteN x 6 = u / 256 from by omega]
 rw [acc1_eq (by omega) (by omega) (by omega : 0 ≤ byteN x 7 ∧ byteN x 7 < 256)]
 omega
theorem back8 {x : Int} (h : -9223372036854775808 ≤ x ∧ x ≤ 9223372036854775807) : IntKind.i64.wrap (accB (be8 x)) = x := by
 rw [accB_be8, IntKind.wrap_i64]
 omega
theorem numsB_at : ∀ {zs : List Int} {i : Nat} {x : Int} (r : List Int), zs[i]? = some x → ((numsB zs ++ r).drop (8 * i)).take 8 = be8 x
 | [], i, x, r, h => by simp at h
 | z :: zs, 0, x, r, h => by
  obtain rfl : z = x := by simpa using h
  show ((be8 z ++ numsB zs) ++ r).take 8 = be8 z
  rw [List.append_assoc, List.take_left' (be8_len z)]
 | z :: zs, i + 1, x, r, h => by
  show (((be8 z ++ numsB zs) ++ r).drop (8 * (i + 1))).take 8 = be8 x
  rw [List.append_assoc, show 8 * (i + 1) = 8 + 8 * i from by omega, ← List.drop_drop, List.drop_left' (be8_len z)]
  exact numsB_at r (by simpa using h)
def pairs (l : List (Int × Int)) : List Int := l.flatMap fun x => [x.1, x.2]
theorem tabB_nums (l : List (Int × Int)) : tabB l = numsB (pairs l) := by
 unfold tabB numsB pairs
 rw [List.flatMap_assoc]
theorem frame_nums (m : Ms) (l : List (Int × Int)) : frameL m l = headB m l.length ++ numsB (numsM m ++ pairs l) := by
 unfold frameL
 rw [tabB_nums, List.append_assoc]
 unfold numsB
 rw [List.flatMap_append]
theorem val8_at {m : Ms} {l : List (Int × Int)} {i : Nat} {x : Int} (h : (numsM m ++ pairs l)[i]? = some x) (hx : -9223372036854775808 ≤ x ∧ x ≤ 9223372036854775807) : val8 (frameL m l) (4 + 8 * i) = x := by
 unfold val8
 rw [frame_nums, ← List.drop_drop, show (headB m l.length ++ numsB (numsM m ++ pairs l)).drop 4 = numsB (numsM m ++ pairs l) from List.drop_left' rfl]
 have := numsB_at [] h
 rw [List.append_nil] at this
 rw [this, back8 hx]
theorem pairs_at : ∀ {l : List (Int × Int)} {i : Nat} {x : Int × Int}, l[i]? = some x → (pairs l)[2 * i]? = some x.1 ∧ (pairs l)[2 * i + 1]? = some x.2
 | [], i, x, h => by simp at h
 | z :: l, 0, x, h => by
  obtain rfl : z = x := by simpa using h
  exact ⟨rfl, rfl⟩
 | z :: l, i + 1, x, h => by
  have := pairs_at (l := l) (i := i) (x := x) (by simpa using h)
  exact this
theorem tab_bds {l : List (Int × Int)} (h : tableB l = true) : ∀ x ∈ l, (0 ≤ x.1 ∧ x.1 ≤ 1099511627776) ∧ (-32 ≤ x.2 ∧ x.2 ≤ 32) := by
 have key : ∀ (l : List (Int × Int)) (i : Nat) (a b : Int), tabF i a b l = true → ∀ x ∈ l, (0 ≤ x.1 ∧ x.1 ≤ 1099511627776) ∧ (-32 ≤ x.2 ∧ x.2 ≤ 32) := by
  intro l
  induction l with
  | nil => intro i a b _ x hx; cases hx
  | cons y l ih =>
   intro i a b ht x hx
   unfold tabF at ht
   simp only [Bool.and_eq_true, Bool.not_eq_true'] at ht
   rcases List.mem_cons.1 hx with rfl | q
   ·have h1 := ht.1
    unfold badE at h1
    simp only [Bool.or_eq_false_iff, Bool.not_eq_false'] at h1
    exact ⟨inL1 h1.2.1, inL1 h1.2.2.1⟩
   ·exact ih _ _ _ ht.2 x q
 exact key l 0 0 0 h
theorem tab_len {l : List (Int × Int)} (h : tableB l = true) : l.length ≤ 32 := by
 have key : ∀ (l : List (Int × Int)) (i : Nat) (a b : Int), i ≤ 32 → tabF i a b l = true → i + l.length ≤ 32 := by
  intro l
  induction l with
  | nil => intro i a b hi _; simpa using hi
  | cons x l ih =>
   intro i a b hi ht
   unfold tabF at ht
   simp only [Bool.and_eq_true, Bool.not_eq_true'] at ht
   have h1 := ht.1
   unfold badE at h1
   simp only [Bool.or_eq_false_iff, decide_eq_false_iff_not] at h1
   have := ih (i + 1) x.1 x.2 (by omega) ht.2
   simp only [List.length_cons]
   omega
 have := key l 0 0 0 (by omega) h
 omega
theorem inB2 {lo hi a : Int} (h : inB a lo hi = true) : lo ≤ a ∧ a ≤ hi := inL1 (by unfold inL; simpa using h)
structure GoodN (m : Ms) (l : List (Int × Int)) : Prop where
 kind : 1 ≤ m.kind ∧ m.kind ≤ 2
 src : 0 ≤ m.src ∧ m.src ≤ 47
 lo : -2305843009213693952 ≤ m.lo ∧ m.lo ≤ 2305843009213693952
 hi : -2305843009213693952 ≤ m.hi ∧ m.hi ≤ 2305843009213693952
 slo : -2305843009213693952 ≤ m.slo ∧ m.slo ≤ 2305843009213693952
 shi : -2305843009213693952 ≤ m.shi ∧ m.shi ≤ 2305843009213693952
 pulse : -2305843009213693952 ≤ m.pulse ∧ m.pulse ≤ 2305843009213693952
 st : -2305843009213693952 ≤ m.st ∧ m.st ≤ 2305843009213693952
 held : 0 ≤ m.held ∧ m.held ≤ 1073741824
 hops : 0 ≤ m.hops ∧ m.hops ≤ 17
 sn : 0 ≤ m.sn ∧ m.sn ≤ 1073741824
 tab : tableB l = true
theorem good_n {m : Ms} {l : List (Int × Int)} (h : goodM m l = true) : GoodN m l := by
 unfold goodM at h
 simp only [Bool.and_eq_true] at h
 obtain ⟨⟨h1, h2⟩, h3, h4, h5, h6, h7⟩ := h
 unfold inL at h3
 simp only [List.all_cons, List.all_nil, Bool.and_true, Bool.and_eq_true] at h3
 obtain ⟨a, b, c, d, e, f⟩ := h3
 exact ⟨inL1 h1, inL1 h2, inB2 a, inB2 b, inB2 c, inB2 d, inB2 e, inB2 f, inL1 h4, inL1 h5, inL1 h6, h7⟩
theorem n_good {m : Ms} {l : List (Int × Int)} (h : GoodN m l) : goodM m l = true := by
 have q : ∀ {a lo hi : Int}, lo ≤ a ∧ a ≤ hi → inB a lo hi = true := by
  intro a lo hi h
  unfold inB
  rw [decide_eq_true h.1, decide_eq_true h.2]
  rfl
 unfold goodM inL
 simp only [List.all_cons, List.all_nil, Bool.and_true, Bool.and_eq_true]
 exact ⟨⟨q h.kind, q h.src⟩, ⟨q h.lo, q h.hi, q h.slo, q h.shi, q h.pulse, q h.st⟩, q h.held, q h.hops, q h.sn, h.tab⟩
theorem strL_of : ∀ (l : List Int), (∀ x ∈ l, 0 ≤ x ∧ x < 256) → strL (strOf l) = l := by
 have key : ∀ (l : List Int) (r : ByteArray), (∀ x ∈ l, 0 ≤ x ∧ x < 256) → strL (l.foldl (fun r n => r.push (UInt8.ofNat n.toNat)) r) = strL r ++ l := by
  intro l
  induction l with
  | nil => intro r _; simp
  | cons x l ih =>
   intro r h
   rw [List.foldl_cons, ih _ (fun y hy => h y (List.mem_cons_of_mem _ hy))]
   have hx := h x (List.mem_cons_self ..)
   have e : strL (r.push (UInt8.ofNat x.toNat)) = strL r ++ [x] := by
    unfold strL
    rw [ByteArray.data_push, Array.toList_push, List.map_append]
    congr 1
    simp only [List.map_cons, List.map_nil]
    congr 1
    rw [UInt8.toNat_ofNat']
    omega
   rw [e, List.append_assoc]
   rfl
 intro l h
 have := key l ByteArray.empty h
 simpa [strOf, strL] using this
theorem seal_b (m : Ms) (l : List (Int × Int)) : ∀ x ∈ sealL (frameL m l), 0 ≤ x ∧ x < 256 := by
 intro x hx
 unfold sealL at hx
 rcases List.mem_append.1 hx with q | q
 ·rw [frame_nums] at q
  rcases List.mem_append.1 q with q | q
  ·unfold headB at q
   simp only [List.mem_cons, List.not_mem_nil, or_false] at q
   rcases q with rfl | rfl | rfl | rfl <;> exact u8w _
  ·unfold numsB at q
   obtain ⟨z, _, hz⟩ := List.mem_flatMap.1 q
   unfold be8 at hz
   obtain ⟨j, _, rfl⟩ := List.mem_map.1 hz
   exact u8w _
 ·unfold tailC at q
  simp only [List.mem_cons, List.not_mem_nil, or_false] at q
  rcases q with rfl | rfl | rfl | rfl <;> exact u8w _
theorem head_get (m : Ms) (l : List (Int × Int)) (k : Nat) (hk : k < 4) : (frameL m l).getD k 0 = (headB m l.length).getD k 0 := by
 rw [frame_nums, List.getD_eq_getElem?_getD, List.getElem?_append_left (by simpa [headB] using hk), List.getD_eq_getElem?_getD]
theorem flag_bits (m : Ms) : (andV .u8 (IntKind.u8.wrap (flagV m)) 1 == 1) = m.good ∧ (andV .u8 (IntKind.u8.wrap (flagV m)) 2 == 2) = m.ref ∧ IntKind.u8.wrap (flagV m) ≤ 3 := by
 unfold flagV
 cases m.good <;> cases m.ref <;> exact ⟨by decide, by decide, by decide⟩
theorem dec_enc {m : Ms} {l : List (Int × Int)} (hg : goodM m l = true) : decF (strL (encF m l)) = some ({ m with ta := none, tl := 0, tc := 0 }, l) := by
  have h := good_n hg
  have hl := tab_len h.tab
  have hf := frame_len m l
  unfold encF
  rw [strL_of _ (seal_b m l)]
  have g0 : (frameL m l).getD 0 0 = m.kind := by rw [head_get m l 0 (by decide)]; exact u8i (by have := h.kind; omega)
  have g1 : (frameL m l).getD 1 0 = m.src := by rw [head_get m l 1 (by decide)]; exact u8i (by have := h.src; omega)
  have g2 : (frameL m l).getD 2 0 = IntKind.u8.wrap (flagV m) := head_get m l 2 (by decide)
  have g3 : (frameL m l).getD 3 0 = (l.length : Int) := by rw [head_get m l 3 (by decide)]; exact u8i (by omega)
  have fb := flag_bits m
  have v : ∀ (i : Nat) (x : Int), (numsM m)[i]? = some x → -9223372036854775808 ≤ x ∧ x ≤ 9223372036854775807 → val8 (frameL m l) (4 + 8 * i) = x := fun i x hi hx => val8_at (by rw [List.getElem?_append_left (List.getElem?_eq_some_iff.1 hi).1]; exact hi) hx
  have hb : msgB (frameL m l) = { m with ta := none, tl := 0, tc := 0 } := by
    unfold msgB
    rw [g0, g1, g2, fb.1, fb.2.1]
    have v0 := v 0 m.lo rfl (by have := h.lo; omega)
    have v1 := v 1 m.hi rfl (by have := h.hi; omega)
    have v2 := v 2 m.held rfl (by have := h.held; omega)
    have v3 := v 3 m.hops rfl (by have := h.hops; omega)
    have v4 := v 4 m.slo rfl (by have := h.slo; omega)
    have v5 := v 5 m.shi rfl (by have := h.shi; omega)
    have v6 := v 6 m.pulse rfl (by have := h.pulse; omega)
    have v7 := v 7 m.st rfl (by have := h.st; omega)
    have v8 := v 8 m.sn rfl (by have := h.sn; omega)
    simp only [Nat.reduceMul, Nat.reduceAdd] at v0 v1 v2 v3 v4 v5 v6 v7 v8
    rw [v0, v1, v2, v3, v4, v5, v6, v7, v8]
  have hlp : leapB (frameL m l) = l := by
    unfold leapB
    rw [g3, Int.toNat_natCast]
    apply List.ext_getElem?
    intro i
    unfold leapT
    rw [List.getElem?_map]
    rcases Nat.lt_or_ge i l.length with q | q
    · rw [List.getElem?_range q]
      have hx : l[i]? = some l[i] := List.getElem?_eq_getElem q
      obtain ⟨p1, p2⟩ := pairs_at hx
      have hbd := tab_bds h.tab _ (List.getElem_mem q)
      have e1 := val8_at (m := m) (l := l) (i := 9 + 2 * i) (by rw [List.getElem?_append_right (by show 9 ≤ _; omega)]; show (pairs l)[9 + 2 * i - 9]? = _; rw [Nat.add_sub_cancel_left]; exact p1) (by have := hbd.1; omega)
      have e2 := val8_at (m := m) (l := l) (i := 9 + (2 * i + 1)) (by rw [List.getElem?_append_right (by show 9 ≤ _; omega)]; show (pairs l)[9 + (2 * i + 1) - 9]? = _; rw [Nat.add_sub_cancel_left]; exact p2) (by have := hbd.2; omega)
      rw [show 4 + 8 * (9 + 2 * i) = 76 + 16 * i from by omega] at e1
      rw [show 4 + 8 * (9 + (2 * i + 1)) = 76 + 16 * i + 8 from by omega] at e2
      rw [hx]
      show some (val8 (frameL m l) (76 + 16 * i), val8 (frameL m l) (76 + 16 * i + 8)) = some l[i]
      rw [e1, e2]
    · rw [List.getElem?_eq_none (by simpa using q), List.getElem?_eq_none q]; rfl
  have ho := open_seal (frameL m l)
  rw [dec_ok (by have : (sealL (frameL m l)).length = (frameL m l).length + 4 := by simp [sealL, tailC]
                 omega) ho (shape_mk (by omega) (by rw [g3]; omega) (by rw [g2]; exact fb.2.2)) (by rw [hb, hlp]; exact hg), hb, hlp]
end Go.Proofs.YtbmhgopjblnfnaaGreat.S
namespace Go.Proofs.YtbmhgopjblnfnaaGreat.S
open Go Go.Proofs Go.RowKit Go.Proofs.YtbmhgopjblnfnaaGreatW.PrintLast Tryz
structure Row (cs : List Value) (o f : Nat) (q : List ByteArray) : Prop where
 hf : f < 64
 hn : q.length ≤ 64
 hl : o + 130 ≤ cs.length
 first : cs[o + 128]? = some (.int .i64 (f : Int))
 count : cs[o + 129]? = some (.int .i64 (q.length : Int))
 item : ∀ j s, q[j]? = some s → ∃ a : Int, cs[o + (f + j) % 64 * 2]? = some (.string s) ∧ cs[o + (f + j) % 64 * 2 + 1]? = some (.int .i64 a)
def Same (cs cs' : List Value) (o : Nat) : Prop := cs'.length = cs.length ∧ ∀ i, i < o ∨ o + 130 ≤ i → cs'[i]? = cs[i]?
theorem two_cells {cs : List Value} {p : Nat} {u v : Value} (h1 : cs[p]? = some u) (h2 : cs[p + 1]? = some v) : (cs.drop p).take 2 = [u, v] := by
 apply List.ext_getElem?
 intro i
 rw [List.getElem?_take]
 match i with
 | 0 => simpa using h1
 | 1 => simpa using h2
 | i + 2 => simp; omega
theorem lane_at (g o : Nat) (cs : List Value) (T : TypeId) (f k : Nat) (hf : cs[o + 128]? = some (.int .i64 (f : Int))) (h1 : f < 64) (h2 : k ≤ 64) : Spec prog 87 [.pointer (some ⟨g, o, none⟩), .int .i64 (k : Int)] [] [blk g cs T] (fun v Ln => v = .pointer (some ⟨g, o + (f + k) % 64 * 2, none⟩) ∧ Ln = []) := by
 refine Spec.en func87 ntmps87 fun w0 => ?_
 refine G.sr fun _ K1 => ?_
 refine G.M 4 ?_
 refine G.nk K1 ?_
 refine G.Z fun _ K2 => ?_
 refine G.draw 12 [] [0] [] ?_
 refine D.V 0 5 1 .mv ?_
 refine D.V 1 6 3 .mv ?_
 refine D.V 2 7 7 .nc ?_
 refine D.V 3 8 15 (.fa f150_1 (o + 128)) ?_
 refine D.V 5 10 47 .mv ?_
 refine D.V 8 13 303 .nc ?_
 refine D.V 9 14 815 (.fa f150_0 o) ?_
 refine D.T 4 9 831 (.ld t3 0 (hv := hf)) [] [0] ?_
 refine D.V 6 11 895 .bw ?_
 refine D.V 7 12 1023 (.cast .bin (show Value.int .i64 (Int.tmod ((f : Int) + (k : Int)) 64) = .int .i64 (((f + k) % 64 : Nat) : Int) from by rw [Int.tmod_eq_emod_of_nonneg (by omega)]; congr 1)) ?_
 refine D.V 10 15 2047 (.ia a148 ((f + k) % 64) (Nat.mod_lt _ (by decide))) ?_
 refine D.V 11 4 4095 .mv ?_
 refine D.done ?_
 refine K2 _ _ _ ?_
 exact G.ret (G.F [] (.one Tryz.results87) ⟨rfl, rfl⟩)
theorem pop_row {cs : List Value} {o f : Nat} {x : ByteArray} {q : List ByteArray} (hr : Row cs o f (x :: q)) : Row ((((cs.set (o + (f + 0) % 64 * 2) (.string ByteArray.empty)).set (o + (f + 0) % 64 * 2 + 1) (.int .i64 0)).set (o + 128) (.int .i64 (((f + 1) % 64 : Nat) : Int))).set (o + 129) (.int .i64 (q.length : Int))) o ((f + 1) % 64) q := by
 have h1 := hr.hf
 have h2 := hr.hn
 have h3 := hr.hl
 simp only [List.length_cons] at h2
 refine ⟨by omega, by omega, by simp only [List.length_set]; omega, ?_, ?_, fun j s hs => ?_⟩
 ·rw [List.getElem?_set_ne (by omega), List.getElem?_set_self (by simp only [List.length_set]; omega)]
 ·rw [List.getElem?_set_self (by simp only [List.length_set]; omega)]
 ·have hj : j < q.length := by
   rcases Nat.lt_or_ge j q.length with z | z
   ·exact z
   ·rw [List.getElem?_eq_none z] at hs; cases hs
  obtain ⟨a, e1, e2⟩ := hr.item (j + 1) s (by simpa using hs)
  refine ⟨a, ?_, ?_⟩
  ·rw [show ((f + 1) % 64 + j) % 64 = (f + (j + 1)) % 64 from by omega]
   (repeat rw [List.getElem?_set_ne (by omega)]); exact e1
  ·rw [show ((f + 1) % 64 + j) % 64 = (f + (j + 1)) % 64 from by omega]
   (repeat rw [List.getElem?_set_ne (by omega)]); exact e2
theorem pop_same {cs : List Value} {o f : Nat} {x : ByteArray} {q : List ByteArray} (hr : Row cs o f (x :: q)) : Same cs ((((cs.set (o + (f + 0) % 64 * 2) (.string ByteArray.empty)).set (o + (f + 0) % 64 * 2 + 1) (.int .i64 0)).set (o + 128) (.int .i64 (((f + 1) % 64 : Nat) : Int))).set (o + 129) (.int .i64 (q.length : Int))) o := by
 have h1 := hr.hf
 refine ⟨by simp only [List.length_set], fun i hi => ?_⟩
 (repeat rw [List.getElem?_set_ne (by omega)])
theorem lane_pop (g o : Nat) (cs : List Value) (T : TypeId) (f : Nat) (x : ByteArray) (q : List ByteArray) (a : Int) (hr : Row cs o f (x :: q)) (hx1 : cs[o + (f + 0) % 64 * 2]? = some (.string x)) (hx2 : cs[o + (f + 0) % 64 * 2 + 1]? = some (.int .i64 a)) : Spec prog 71 [.pointer (some ⟨g, o, none⟩)] [blk g cs T] [] (fun v Ln => v = .agg #[.string x, .int .i64 a] ∧ ∃ cs', Ln = [blk g cs' T] ∧ cs'.length = cs.length ∧ Row cs' o ((f + 1) % 64) q ∧ Same cs cs' o) := by
 have h1 := hr.hf
 have h2 := hr.hn
 have h3 := hr.hl
 refine Spec.en func71 ntmps71 fun w0 => ?_
 refine G.sr fun _ K1 => ?_
 refine G.mk 2 (.al z132) fun g2 => ?_
 refine G.nk K1 ?_
 refine G.sr fun _ K2 => ?_
 refine G.M 4 ?_
 refine G.cp 5 [] [1]  e87 (lane_at g o _ T f 0 (hr.first) hr.hf (by decide)) ?_
 refine G.V 6 .nc ?_
 refine G.V 7 (.lda t132 1 (hv := two_cells hx1 hx2)) ?_
 refine G.mk 3 (.al z132) fun g3 => ?_
 refine G.sn 0 (.st t132 0) rfl ?_
 refine G.nk K2 ?_
 refine G.sr fun _ K3 => ?_
 refine G.M 8 ?_
 refine G.cp 9 [] [2]  e87 (lane_at g o _ T f 0 (hr.first) hr.hf (by decide)) ?_
 refine G.V 10 (.build z132 p132) ?_
 refine G.V 11 .nc ?_
 refine G.sn 2 (.st t132 2 (hl := by (try simp only [List.length_set]); have := hr.hl; omega)) rfl ?_
 refine G.nk K3 ?_
 refine G.Z fun _ K4 => ?_
 refine G.draw 19 [2] [] [15, 18] ?_
 refine D.V 0 12 1 .mv ?_
 refine D.V 1 13 3 .mv ?_
 refine D.V 2 14 7 .mv ?_
 refine D.V 3 15 15 .nc ?_
 refine D.V 4 16 31 (.fa f150_1 (o + 128)) ?_
 refine D.V 8 20 287 .mv ?_
 refine D.V 9 21 799 .nc ?_
 refine D.V 10 22 1823 (.fa f150_2 (o + 129)) ?_
 refine D.T 5 17 1855 (.ld t3 0 (hv := by (repeat rw [List.getElem?_set_ne (by omega)]); exact hr.first)) [2] [] ?_
 refine D.V 6 18 1919 .bw ?_
 refine D.V 7 19 2047 (.cast .bin (show Value.int .i64 (Int.tmod ((f : Int) + 1) 64) = .int .i64 (((f + 1) % 64 : Nat) : Int) from by rw [Int.tmod_eq_emod_of_nonneg (by omega)]; congr 1)) ?_
 refine D.T 11 23 4095 (.ld t3 0 (hv := by (repeat rw [List.getElem?_set_ne (by omega)]); exact hr.count)) [2] [] ?_
 refine D.V 12 24 8191 (.cast (.cast .bin (wi (by omega) (by omega))) (show Value.int .i64 (((x :: q).length : Int) - 1) = .int .i64 (q.length : Int) from by simp)) ?_
 refine D.V 13 25 16383 .nc ?_
 refine D.V 14 26 32767 (.fa f150_1 (o + 128)) ?_
 refine D.last 15 65535 2 (.st t3 2 (hl := by (try simp only [List.length_set]); have := hr.hl; omega)) rfl ?_
 dsimp only [List.set, sets, Value.cells, List.zipIdx, List.foldl]
 refine D.V 16 27 131071 .nc ?_
 refine D.V 17 28 262143 (.fa f150_2 (o + 129)) ?_
 refine D.last 18 524287 2 (.st t3 2 (hl := by (try simp only [List.length_set]); have := hr.hl; omega)) rfl ?_
 dsimp only [List.set, sets, Value.cells, List.zipIdx, List.foldl]
 refine D.done ?_
 refine K4 _ _ _ ?_
 refine G.sr fun _ K5 => ?_
 refine G.V 29 (.lda t132 0) ?_
 refine G.sn 1 (.st t132 1) rfl ?_
 refine G.nk K5 ?_
 exact G.ret (G.F [2] (.cell Tryz.results71 t132 1) ⟨rfl, _, rfl, by simp only [List.length_set], pop_row hr, pop_same hr⟩)
theorem lane_row (g k : Nat) (h1 : k < 48) : Spec prog 70 [.pointer (some ⟨g, 0, none⟩), .int .i64 (k : Int)] [] [] (fun v Ln => v = .pointer (some ⟨g, 130 * k, none⟩) ∧ Ln = []) := by
 refine Spec.en func70 ntmps70 fun w0 => ?_
 refine G.sr fun _ K1 => ?_
 refine G.M 4 ?_
 refine G.nk K1 ?_
 refine G.Z fun _ K2 => ?_
 refine G.sr fun _ K3 => ?_
 refine G.M 5 ?_
 refine G.V 6 (.isnil q79) ?_
 refine G.M2 7 8 ?_
 refine G.V 9 (.cast .bin (bf (by omega))) ?_
 refine G.V 10 .pick ?_
 refine G.M2 11 12 ?_
 refine G.V 13 (.cast .bin (bf (by omega))) ?_
 refine G.V 14 .pick ?_
 refine G.nk K3 ?_
 refine G.no rfl ?_
 refine G.sk K2 ?_
 refine G.sr fun _ K4 => ?_
 refine G.M2 15 16 ?_
 refine G.V 17 .nc ?_
 refine G.V 18 (.fa f153_0 0) ?_
 refine G.V 19 (.cast (.ia a151 k h1) (show Value.pointer (some ⟨g, 0 + k * 130, none⟩) = .pointer (some ⟨g, 130 * k, none⟩) from by rw [Nat.zero_add, Nat.mul_comm])) ?_
 refine G.M 4 ?_
 refine G.nk K4 ?_
 exact G.ret (G.F [] (.one Tryz.results70) ⟨rfl, rfl⟩)
theorem push_row {cs : List Value} {o f : Nat} {q : List ByteArray} (hr : Row cs o f q) (hq : q.length < 64) (s : ByteArray) : Row ((((cs.set (o + (f + q.length) % 64 * 2) (.string s)).set (o + (f + q.length) % 64 * 2 + 1) (.int .i64 0))).set (o + 129) (.int .i64 ((q.length : Int) + 1))) o f (q ++ [s]) := by
 have h1 := hr.hf
 have h3 := hr.hl
 refine ⟨h1, by simp; omega, by simp only [List.length_set]; omega, ?_, ?_, fun j u hs => ?_⟩
 ·(repeat rw [List.getElem?_set_ne (by omega)]); exact hr.first
 ·rw [List.getElem?_set_self (by simp only [List.length_set]; omega)]; simp
 ·rcases Nat.lt_or_ge j q.length with z | z
  ·rw [List.getElem?_append_left z] at hs
   obtain ⟨a, e1, e2⟩ := hr.item j u hs
   have hd : (f + j) % 64 ≠ (f + q.length) % 64 := by omega
   exact ⟨a, by (repeat rw [List.getElem?_set_ne (by omega)]); exact e1, by (repeat rw [List.getElem?_set_ne (by omega)]); exact e2⟩
  ·have hj : j = q.length := by
    rcases Nat.lt_or_ge j (q ++ [s]).length with y | y
    ·simp at y; omega
    ·rw [List.getElem?_eq_none y] at hs; cases hs
   subst hj
   simp at hs
   subst hs
   refine ⟨0, ?_, ?_⟩
   ·rw [List.getElem?_set_ne (by omega), List.getElem?_set_ne (by omega), List.getElem?_set_self (by omega)]
   ·rw [List.getElem?_set_ne (by omega), List.getElem?_set_self (by simp only [List.length_set]; omega)]
theorem push_same {cs : List Value} {o f : Nat} {q : List ByteArray} (hr : Row cs o f q) (s : ByteArray) (n : Int) : Same cs ((((cs.set (o + (f + q.length) % 64 * 2) (.string s)).set (o + (f + q.length) % 64 * 2 + 1) (.int .i64 0))).set (o + 129) (.int .i64 n)) o := by
 have h1 := hr.hf
 refine ⟨by simp only [List.length_set], fun i hi => ?_⟩
 (repeat rw [List.getElem?_set_ne (by omega)])
theorem lane_push (g o : Nat) (cs : List Value) (T : TypeId) (f : Nat) (q : List ByteArray) (s : ByteArray) (hr : Row cs o f q) (hq : q.length < 64) : Spec prog 79 [.pointer (some ⟨g, o, none⟩), .string s] [blk g cs T] [] (fun v Ln => v = .bool true ∧ ∃ cs', Ln = [blk g cs' T] ∧ Row cs' o f (q ++ [s]) ∧ Same cs cs' o) := by
 have h1 := hr.hf
 have h3 := hr.hl
 refine Spec.en func79 ntmps79 fun w0 => ?_
 refine G.sr fun _ K1 => ?_
 refine G.M 4 ?_
 refine G.nk K1 ?_
 refine G.sr fun _ K2 => ?_
 refine G.M 6 ?_
 refine G.V 7 .nc ?_
 refine G.V 8 (.fa f150_2 (o + 129)) ?_
 refine G.V 9 (.ld t3 0 (hv := hr.count)) ?_
 refine G.V 10 (.cast .bin (ef (by omega))) ?_
 refine G.M 5 ?_
 refine G.nk K2 ?_
 refine G.Z fun _ K3 => ?_
 refine G.sr fun _ K4 => ?_
 refine G.M 11 ?_
 refine G.nk K4 ?_
 refine G.no rfl ?_
 refine G.sk K3 ?_
 refine G.sr fun _ K5 => ?_
 refine G.M2 14 15 ?_
 refine G.V 16 .nc ?_
 refine G.V 17 (.fa f150_2 (o + 129)) ?_
 refine G.V 18 (.ld t3 0 (hv := hr.count)) ?_
 refine G.cp 19 [] [0]  e87 (lane_at g o _ T f q.length hr.first hr.hf hr.hn) ?_
 refine G.M 20 ?_
 refine G.V 21 (.build z132 p132 (cs := #[.string s, .int .i64 0])) ?_
 refine G.V 22 .nc ?_
 refine G.sn 0 (.st t132 0 (hl := by (try simp only [List.length_set]); have := hr.hl; have := hr.hf; omega)) rfl ?_
 refine G.nk K5 ?_
 refine G.sr fun _ K6 => ?_
 refine G.M 23 ?_
 refine G.V 24 .nc ?_
 refine G.V 25 (.fa f150_2 (o + 129)) ?_
 refine G.V 26 (.ld t3 0 (hv := by (repeat rw [List.getElem?_set_ne (by omega)]); exact hr.count)) ?_
 refine G.V 27 .bw ?_
 refine G.V 28 .nc ?_
 refine G.V 29 (.fa f150_2 (o + 129)) ?_
 refine G.sn 0 (.st t3 0 (hl := by (try simp only [List.length_set]); have := hr.hl; have := hr.hf; omega)) rfl ?_
 refine G.nk K6 ?_
 refine G.sr fun _ K7 => ?_
 refine G.M 30 ?_
 refine G.V 31 .not ?_
 refine G.M 4 ?_
 refine G.nk K7 ?_
 exact G.ret (G.F [0] (.one Tryz.results79) ⟨rfl, _, rfl, push_row hr hq s, push_same hr s _⟩)
def upd (qs : Nat → List ByteArray) (k : Nat) (q : List ByteArray) : Nat → List ByteArray := fun j => if j = k then q else qs j
structure Lan (cs : List Value) (qs : Nat → List ByteArray) : Prop where
 hl : cs.length = 6240
 row : ∀ k, k < 48 → ∃ f, Row cs (130 * k) f (qs k)
theorem Row.same {cs cs' : List Value} {o o' f : Nat} {q : List ByteArray} (h : Row cs o f q) (s : Same cs cs' o') (ho : o + 130 ≤ o' ∨ o' + 130 ≤ o) : Row cs' o f q := by
 have h1 := h.hf
 refine ⟨h.hf, h.hn, by rw [s.1]; exact h.hl, by rw [s.2 _ (by omega)]; exact h.first, by rw [s.2 _ (by omega)]; exact h.count, fun j x hx => ?_⟩
 obtain ⟨a, e1, e2⟩ := h.item j x hx
 exact ⟨a, by rw [s.2 _ (by omega)]; exact e1, by rw [s.2 _ (by omega)]; exact e2⟩
theorem Lan.turn {cs cs' : List Value} {qs : Nat → List ByteArray} (h : Lan cs qs) {k f : Nat} (hk : k < 48) {q : List ByteArray} (hr : Row cs' (130 * k) f q) (s : Same cs cs' (130 * k)) : Lan cs' (upd qs k q) := by
 refine ⟨by rw [s.1]; exact h.hl, fun j hj => ?_⟩
 unfold upd
 by_cases e : j = k
 ·subst e; rw [if_pos rfl]; exact ⟨f, hr⟩
 ·rw [if_neg e]
  obtain ⟨g, hg⟩ := h.row j hj
  exact ⟨g, hg.same s (by omega)⟩
theorem lanes_pop_none (g k : Nat) (cs : List Value) (qs : Nat → List ByteArray) (hL : Lan cs qs) (hk : k < 48) (hq : qs k = []) : Spec prog 57 [.pointer (some ⟨g, 0, none⟩), .int .i64 (k : Int)] [blk g cs 153] [] (fun v Ln => v = .tuple #[.agg #[.string ByteArray.empty, .int .i64 0], .bool false] ∧ Ln = [blk g cs 153]) := by
 obtain ⟨f, hr⟩ := hL.row k hk
 rw [hq] at hr
 refine Spec.en func57 ntmps57 fun w0 => ?_
 refine G.sr fun _ K1 => ?_
 refine G.mk 4 (.al z132) fun g4 => ?_
 refine G.M 5 ?_
 refine G.nk K1 ?_
 refine G.sr fun _ K2 => ?_
 refine G.M2 7 8 ?_
 refine G.cp 9 [] []  e70 (lane_row g k hk) ?_
 refine G.M 6 ?_
 refine G.nk K2 ?_
 refine G.Z fun _ K3 => ?_
 refine G.sr fun _ K4 => ?_
 refine G.M 10 ?_
 refine G.V 11 (.isnil q158) ?_
 refine G.M2 12 13 ?_
 refine G.V 14 .nc ?_
 refine G.V 15 (.fa f150_2 (130 * k + 129)) ?_
 refine G.V 16 (.ld t3 1 (hv := hr.count)) ?_
 refine G.V 17 (.cast .bin (et (by rfl))) ?_
 refine G.V 18 .pick ?_
 refine G.nk K4 ?_
 refine G.yes rfl ?_
 refine G.sr fun _ K5 => ?_
 refine G.V 19 (.build z132 p132) ?_
 refine G.sn 0 (.st t132 0) rfl ?_
 refine G.M 5 ?_
 refine G.nk K5 ?_
 exact G.ret (G.F [1] (.cell1 Tryz.results57 t132 0) ⟨rfl, rfl⟩)
theorem lanes_pop_some (g k : Nat) (cs : List Value) (qs : Nat → List ByteArray) (hL : Lan cs qs) (hk : k < 48) (x : ByteArray) (q : List ByteArray) (hq : qs k = x :: q) : Spec prog 57 [.pointer (some ⟨g, 0, none⟩), .int .i64 (k : Int)] [blk g cs 153] [] (fun v Ln => ∃ a : Int, v = .tuple #[.agg #[.string x, .int .i64 a], .bool true] ∧ ∃ cs', Ln = [blk g cs' 153] ∧ Lan cs' (upd qs k q)) := by
 obtain ⟨f, hr⟩ := hL.row k hk
 rw [hq] at hr
 obtain ⟨a, e1, e2⟩ := hr.item 0 x rfl
 refine Spec.en func57 ntmps57 fun w0 => ?_
 refine G.sr fun _ K1 => ?_
 refine G.mk 4 (.al z132) fun g4 => ?_
 refine G.M 5 ?_
 refine G.nk K1 ?_
 refine G.sr fun _ K2 => ?_
 refine G.M2 7 8 ?_
 refine G.cp 9 [] []  e70 (lane_row g k hk) ?_
 refine G.M 6 ?_
 refine G.nk K2 ?_
 refine G.Z fun _ K3 => ?_
 refine G.sr fun _ K4 => ?_
 refine G.M 10 ?_
 refine G.V 11 (.isnil q158) ?_
 refine G.M2 12 13 ?_
 refine G.V 14 .nc ?_
 refine G.V 15 (.fa f150_2 (130 * k + 129)) ?_
 refine G.V 16 (.ld t3 1 (hv := hr.count)) ?_
 refine G.V 17 (.cast .bin (ef (by simp only [List.length_cons]; omega))) ?_
 refine G.V 18 .pick ?_
 refine G.nk K4 ?_
 refine G.no rfl ?_
 refine G.sk K3 ?_
 refine G.sr fun _ K5 => ?_
 refine G.M 20 ?_
 refine G.C 21 [1] []  e71 (lane_pop g (130 * k) cs 153 f x q a hr (by simpa using e1) (by simpa using e2)) ?_
 rintro _ _ ⟨rfl, cs1, rfl, hcs1, hr1, hs1⟩
 refine G.sn 1 (.st t132 1) rfl ?_
 refine G.M 5 ?_
 refine G.nk K5 ?_
 exact G.ret (G.F [0] (.cell1 Tryz.results57 t132 1) ⟨a, rfl, cs1, rfl, hL.turn hk hr1 hs1⟩)
theorem lanes_push_long (g k : Nat) (cs : List Value) (s : ByteArray) (hk : k < 48) (hs : 4096 < s.size) : Spec prog 61 [.pointer (some ⟨g, 0, none⟩), .int .i64 (k : Int), .string s] [blk g cs 153] [] (fun v Ln => v = .int .i64 3 ∧ Ln = [blk g cs 153]) := by
 refine Spec.en func61 ntmps61 fun w0 => ?_
 refine G.sr fun _ K1 => ?_
 refine G.M 6 ?_
 refine G.nk K1 ?_
 refine G.sr fun _ K2 => ?_
 refine G.M2 8 9 ?_
 refine G.cp 10 [] []  e70 (lane_row g k hk) ?_
 refine G.M 7 ?_
 refine G.nk K2 ?_
 refine G.Z fun _ K3 => ?_
 refine G.block ?_
 refine G.sr fun _ K4 => ?_
 refine G.M 12 ?_
 refine G.V 13 (.isnil q79) ?_
 refine G.M 11 ?_
 refine G.nk K4 ?_
 refine G.no rfl ?_
 refine G.sr fun _ K5 => ?_
 refine G.M 15 ?_
 refine G.V 16 (.isnil q158) ?_
 refine G.M 14 ?_
 refine G.nk K5 ?_
 refine G.no rfl ?_
 refine G.sr fun _ K6 => ?_
 refine G.M 18 ?_
 refine G.V 19 (.lens r9) ?_
 refine G.V 20 (.cast .bin (bt (by omega))) ?_
 refine G.M 17 ?_
 refine G.nk K6 ?_
 refine G.yes rfl ?_
 refine G.sr fun _ K7 => ?_
 refine G.M 6 ?_
 refine G.nk K7 ?_
 exact G.ret (G.F [0] (.one Tryz.results61) ⟨rfl, rfl⟩)
theorem lanes_push (g k : Nat) (cs : List Value) (qs : Nat → List ByteArray) (hL : Lan cs qs) (s : ByteArray) (hk : k < 48) (hs : s.size ≤ 4096) (hq : (qs k).length < 64) : Spec prog 61 [.pointer (some ⟨g, 0, none⟩), .int .i64 (k : Int), .string s] [blk g cs 153] [] (fun v Ln => v = .int .i64 0 ∧ ∃ cs', Ln = [blk g cs' 153] ∧ Lan cs' (upd qs k (qs k ++ [s]))) := by
 obtain ⟨f, hr⟩ := hL.row k hk
 refine Spec.en func61 ntmps61 fun w0 => ?_
 refine G.sr fun _ K1 => ?_
 refine G.M 6 ?_
 refine G.nk K1 ?_
 refine G.sr fun _ K2 => ?_
 refine G.M2 8 9 ?_
 refine G.cp 10 [] []  e70 (lane_row g k hk) ?_
 refine G.M 7 ?_
 refine G.nk K2 ?_
 refine G.Z fun _ K3 => ?_
 refine G.block ?_
 refine G.sr fun _ K4 => ?_
 refine G.M 12 ?_
 refine G.V 13 (.isnil q79) ?_
 refine G.M 11 ?_
 refine G.nk K4 ?_
 refine G.no rfl ?_
 refine G.sr fun _ K5 => ?_
 refine G.M 15 ?_
 refine G.V 16 (.isnil q158) ?_
 refine G.M 14 ?_
 refine G.nk K5 ?_
 refine G.no rfl ?_
 refine G.sr fun _ K6 => ?_
 refine G.M 18 ?_
 refine G.V 19 (.lens r9) ?_
 refine G.V 20 (.cast .bin (bf (by omega))) ?_
 refine G.M 17 ?_
 refine G.nk K6 ?_
 refine G.no rfl ?_
 refine G.sr fun _ K7 => ?_
 refine G.M2 22 23 ?_
 refine G.C 24 [0] []  e79 (lane_push g (130 * k) cs 153 f (qs k) s hr hq) ?_
 rintro _ _ ⟨rfl, cs1, rfl, hr1, hs1⟩
 refine G.V 25 .not ?_
 refine G.M 21 ?_
 refine G.nk K7 ?_
 refine G.no rfl ?_
 refine G.sk K3 ?_
 refine G.sr fun _ K8 => ?_
 refine G.M 6 ?_
 refine G.nk K8 ?_
 exact G.ret (G.F [0] (.one Tryz.results61) ⟨rfl, cs1, rfl, hL.turn hk hr1 hs1⟩)
theorem e51 : Is prog 51 := ⟨_, func51, by kernel_rfl, rfl⟩
theorem e52 : Is prog 52 := ⟨_, func52, by kernel_rfl, rfl⟩
theorem e53 : Is prog 53 := ⟨_, func53, by kernel_rfl, rfl⟩
theorem e67 : Is prog 67 := ⟨_, func67, by kernel_rfl, rfl⟩
theorem f81_1 : tfield prog 81 1 = some 1 := by kernel_rfl
theorem f81_2 : tfield prog 81 2 = some 2 := by kernel_rfl
theorem f93_0 : tfield prog 93 0 = some 0 := by kernel_rfl
theorem p81 : tplaces prog 81 = some [(0, 1), (1, 1), (2, 1), (3, 1)] := by kernel_rfl
theorem p84 : tplaces prog 84 = some [(0, 12), (12, 11)] := by kernel_rfl
theorem p122 : tplaces prog 122 = some [(0, 23), (23, 1)] := by kernel_rfl
theorem p127 : tplaces prog 127 = some [(0, 23), (23, 1), (24, 1)] := by kernel_rfl
theorem p153 : tplaces prog 153 = some [(0, 6240)] := by kernel_rfl
theorem t41 : tsz prog 41 = some (false, 1) := by kernel_rfl
theorem t78 : tsz prog 78 = some (false, 1) := by kernel_rfl
theorem t81 : tsz prog 81 = some (true, 4) := by kernel_rfl
theorem tc119 : tconc prog 119 = true := by kernel_rfl
theorem tc123 : tconc prog 123 = true := by kernel_rfl
theorem z81 : tzero prog 81 = some [.int .i64 0, .nilIface, .pointer none, .pointer none] := by kernel_rfl
theorem z84 : tzero prog 84 = some [.int .i64 0, .int .i64 0, .int .i64 0, .int .i64 0, .int .i64 0, .int .i64 0, .int .i64 0, .int .i64 0, .int .i64 0, .int .i64 0, .int .i64 0, .int .i64 0, .int .i64 0, .int .i64 0, .int .i64 0, .bool false, .int .i64 0, .int .i64 0, .bool false, .slice none 0 0, .int .i64 0, .int .i64 0, .int .i64 0] := by kernel_rfl
theorem z122 : tzero prog 122 = some [.int .i64 0, .int .i64 0, .int .i64 0, .int .i64 0, .int .i64 0, .int .i64 0, .int .i64 0, .int .i64 0, .int .i64 0, .int .i64 0, .int .i64 0, .int .i64 0, .int .i64 0, .int .i64 0, .int .i64 0, .bool false, .int .i64 0, .int .i64 0, .bool false, .slice none 0 0, .int .i64 0, .int .i64 0, .int .i64 0, .int .i64 0] := by kernel_rfl
theorem z127 : tzero prog 127 = some [.int .i64 0, .int .i64 0, .int .i64 0, .int .i64 0, .int .i64 0, .int .i64 0, .int .i64 0, .int .i64 0, .int .i64 0, .int .i64 0, .int .i64 0, .int .i64 0, .int .i64 0, .int .i64 0, .int .i64 0, .bool false, .int .i64 0, .int .i64 0, .bool false, .slice none 0 0, .int .i64 0, .int .i64 0, .int .i64 0, .int .i64 0, .pointer none] := by kernel_rfl
def rowZ : List Value := (List.replicate 64 [Value.string ByteArray.empty, Value.int .i64 0]).flatten ++ [.int .i64 0, .int .i64 0]
def zL : List Value := (List.replicate 48 rowZ).flatten
theorem rowZ_len : rowZ.length = 130 := by decide +kernel
theorem zL_len : zL.length = 6240 := by unfold zL; simp [rowZ_len]
theorem zL_at {k i : Nat} (hk : k < 48) (hi : i < 130) : zL[130 * k + i]? = rowZ[i]? := by
 unfold zL
 rw [reps_get rowZ 48 (130 * k + i) (by rw [rowZ_len]; omega), rowZ_len, Nat.mul_add_mod, Nat.mod_eq_of_lt hi]
theorem zL_lan : Lan zL (fun _ => []) := by
 refine ⟨zL_len, fun k hk => ⟨0, ⟨by decide, by simp, by rw [zL_len]; omega, ?_, ?_, by intro j s h; simp at h⟩⟩⟩
 ·rw [zL_at hk (by decide)]; show rowZ[128]? = some (Value.int .i64 0); kernel_rfl
 ·rw [zL_at hk (by decide)]; show rowZ[129]? = some (Value.int .i64 0); kernel_rfl
theorem zl153 : tzero prog 153 = some zL := by kernel_rfl
theorem l_New  : Spec prog 51 [] [] [] (fun v Ln => ∃ g cs, v = .pointer (some ⟨g, 0, none⟩) ∧ Ln = [blk g cs 153] ∧ Lan cs (fun _ => [])) := by
 refine Spec.en func51 ntmps51 fun w0 => ?_
 refine G.sr fun _ K1 => ?_
 refine G.M 0 ?_
 refine G.nk K1 ?_
 refine G.sr fun _ K2 => ?_
 refine G.V 1 (.build zl153 p153 (cs := zL.toArray)) ?_
 refine G.mk 2 .bx fun g2 => ?_
 refine G.M 0 ?_
 refine G.nk K2 ?_
 exact G.ret (G.F [0] (.one Tryz.results51) ⟨g2, zL, rfl, rfl, zL_lan⟩)
structure SanR (p : Par) (s s' : Sta) : Prop where
 sp : SaneS s.lo s.hi s.good s'.lo s'.hi s'.good
 time : s'.time = clp s.time
 set : s'.set = s.set
 held : s'.held = bnd s.held 0 1073741824
 hops : s'.hops = bnd s.hops 0 (addL [p.d, 1])
 st : RightS s'.st s'.sn
theorem g_New (p : Par) (me : Int) (s : Sta) (l : List (Int × Int)) (hl : l.length = s.tl) (hnl : s.tl ≤ 1000) : Spec prog 52 [.agg #[.int .i64 p.n, .int .i64 p.f, .int .i64 p.d, .int .i64 p.beat, .int .i64 p.rho, .int .i64 p.delay, .int .i64 p.jitter, .int .i64 p.eps, .int .i64 p.mu, .int .i64 p.hold, .int .i64 p.pulse, .int .i64 p.second], .int .i64 me, .agg #[.int .i64 s.lo, .int .i64 s.hi, .int .i64 s.time, .bool s.set, .int .i64 s.held, .int .i64 s.hops, .bool s.good, .slice s.ta s.tl s.tc, .int .i64 s.st, .int .i64 s.sn, .int .i64 s.life]] [] [view s.ta s.tc 174 2 s.tl (spl l)] (fun v Ln => ∃ g s' l2, v = .pointer (some ⟨g, 0, none⟩) ∧ SanR p s s' ∧ l2.length = s'.tl ∧ goodB l2 = true ∧ Ln = [blk g (pC p [.int .i64 s'.lo, .int .i64 s'.hi, .int .i64 s'.time, .bool s'.set, .int .i64 s'.held, .int .i64 s'.hops, .bool s'.good, .slice s'.ta s'.tl s'.tc, .int .i64 s'.st, .int .i64 s'.sn, .int .i64 s'.life, .int .i64 me]) 122, row s'.ta s'.tc 174 2 s'.tl (spl l2)]) := by
 refine Spec.en func52 ntmps52 fun w0 => ?_
 refine G.sr fun _ K1 => ?_
 refine G.mk 3 .bx fun g3 => ?_
 refine G.mk 5 .bx fun g5 => ?_
 refine G.M 6 ?_
 refine G.nk K1 ?_
 refine G.Z fun _ K2 => ?_
 refine G.draw 9 [0, 1] [] [] ?_
 refine D.V 5 12 32 .mv ?_
 refine D.T 0 7 33 (.lda t23 1 (vs := [.int .i64 p.n, .int .i64 p.f, .int .i64 p.d, .int .i64 p.beat, .int .i64 p.rho, .int .i64 p.delay, .int .i64 p.jitter, .int .i64 p.eps, .int .i64 p.mu, .int .i64 p.hold, .int .i64 p.pulse, .int .i64 p.second])) [0, 1] [] ?_
 refine D.T 1 8 35 (.lda t23 1 (vs := [.int .i64 p.n, .int .i64 p.f, .int .i64 p.d, .int .i64 p.beat, .int .i64 p.rho, .int .i64 p.delay, .int .i64 p.jitter, .int .i64 p.eps, .int .i64 p.mu, .int .i64 p.hold, .int .i64 p.pulse, .int .i64 p.second])) [0, 1] [] ?_
 refine D.T 2 9 39 (.lda t70 0 (vs := [.int .i64 s.lo, .int .i64 s.hi, .int .i64 s.time, .bool s.set, .int .i64 s.held, .int .i64 s.hops, .bool s.good, .slice s.ta s.tl s.tc, .int .i64 s.st, .int .i64 s.sn, .int .i64 s.life])) [0, 1] [] ?_
 refine D.C 3 10 47 [] [0] [0, 1] []  e66 (h_Sane p s l hl hnl) ?_
 rintro _ _ ⟨lo, hi, gd, ay, ny, cy, l2, t, m, rfl, hsp, hl2, hg2, hR, rfl⟩
 refine D.V 4 11 63 (.build z84 p84 (cs := #[.int .i64 p.n, .int .i64 p.f, .int .i64 p.d, .int .i64 p.beat, .int .i64 p.rho, .int .i64 p.delay, .int .i64 p.jitter, .int .i64 p.eps, .int .i64 p.mu, .int .i64 p.hold, .int .i64 p.pulse, .int .i64 p.second, .int .i64 lo, .int .i64 hi, .int .i64 (clp s.time), .bool s.set, .int .i64 (bnd s.held 0 1073741824), .int .i64 (bnd s.hops 0 (addL [p.d, 1])), .bool gd, .slice ay ny cy, .int .i64 t, .int .i64 m, .int .i64 (bnd s.life 0 2305843009213693952)]) (hf := by kernel_rfl)) ?_
 refine D.V 6 13 127 (.build z122 p122 (cs := #[.int .i64 p.n, .int .i64 p.f, .int .i64 p.d, .int .i64 p.beat, .int .i64 p.rho, .int .i64 p.delay, .int .i64 p.jitter, .int .i64 p.eps, .int .i64 p.mu, .int .i64 p.hold, .int .i64 p.pulse, .int .i64 p.second, .int .i64 lo, .int .i64 hi, .int .i64 (clp s.time), .bool s.set, .int .i64 (bnd s.held 0 1073741824), .int .i64 (bnd s.hops 0 (addL [p.d, 1])), .bool gd, .slice ay ny cy, .int .i64 t, .int .i64 m, .int .i64 (bnd s.life 0 2305843009213693952), .int .i64 me]) (hf := by kernel_rfl)) ?_
 refine D.mk 7 14 255 .bx [1, 2] []  fun g14 => ?_
 refine D.V 8 6 511 .mv ?_
 refine D.done ?_
 refine K2 _ _ _ ?_
 exact G.ret (G.F [0, 0] (.one Tryz.results52) ⟨g14, ⟨lo, hi, clp s.time, s.set, bnd s.held 0 1073741824, bnd s.hops 0 (addL [p.d, 1]), gd, ay, ny, cy, t, m, bnd s.life 0 2305843009213693952⟩, l2, rfl, ⟨hsp, rfl, rfl, rfl, rfl, hR⟩, hl2, hg2, rfl⟩)
theorem n_New (p : Par) (me : Int) (s : Sta) (l : List (Int × Int)) (hl : l.length = s.tl) (hnl : s.tl ≤ 1000) : Spec prog 53 [.agg #[.int .i64 p.n, .int .i64 p.f, .int .i64 p.d, .int .i64 p.beat, .int .i64 p.rho, .int .i64 p.delay, .int .i64 p.jitter, .int .i64 p.eps, .int .i64 p.mu, .int .i64 p.hold, .int .i64 p.pulse, .int .i64 p.second], .int .i64 me, .agg #[.int .i64 s.lo, .int .i64 s.hi, .int .i64 s.time, .bool s.set, .int .i64 s.held, .int .i64 s.hops, .bool s.good, .slice s.ta s.tl s.tc, .int .i64 s.st, .int .i64 s.sn, .int .i64 s.life]] [] [view s.ta s.tc 174 2 s.tl (spl l)] (fun v Ln => ∃ g tb r s' l2, v = .pointer (some ⟨g, 0, none⟩) ∧ SanR p s s' ∧ l2.length = s'.tl ∧ goodB l2 = true ∧ Ln = [blk g (pC p [.int .i64 s'.lo, .int .i64 s'.hi, .int .i64 s'.time, .bool s'.set, .int .i64 s'.held, .int .i64 s'.hops, .bool s'.good, .slice s'.ta s'.tl s'.tc, .int .i64 s'.st, .int .i64 s'.sn, .int .i64 s'.life, .int .i64 me, .pointer (some ⟨tb, 0, none⟩)]) 127, row s'.ta s'.tc 174 2 s'.tl (spl l2), blk tb [.map (some r)] 193, nmap r [] 0]) := by
 refine Spec.en func53 ntmps53 fun w0 => ?_
 refine G.sr fun _ K1 => ?_
 refine G.mk 3 .bx fun g3 => ?_
 refine G.mk 5 .bx fun g5 => ?_
 refine G.M 6 ?_
 refine G.nk K1 ?_
 refine G.Z fun _ K2 => ?_
 refine G.draw 10 [0, 1] [] [] ?_
 refine D.V 5 12 32 .mv ?_
 refine D.T 0 7 33 (.lda t23 1 (vs := [.int .i64 p.n, .int .i64 p.f, .int .i64 p.d, .int .i64 p.beat, .int .i64 p.rho, .int .i64 p.delay, .int .i64 p.jitter, .int .i64 p.eps, .int .i64 p.mu, .int .i64 p.hold, .int .i64 p.pulse, .int .i64 p.second])) [0, 1] [] ?_
 refine D.T 1 8 35 (.lda t23 1 (vs := [.int .i64 p.n, .int .i64 p.f, .int .i64 p.d, .int .i64 p.beat, .int .i64 p.rho, .int .i64 p.delay, .int .i64 p.jitter, .int .i64 p.eps, .int .i64 p.mu, .int .i64 p.hold, .int .i64 p.pulse, .int .i64 p.second])) [0, 1] [] ?_
 refine D.T 2 9 39 (.lda t70 0 (vs := [.int .i64 s.lo, .int .i64 s.hi, .int .i64 s.time, .bool s.set, .int .i64 s.held, .int .i64 s.hops, .bool s.good, .slice s.ta s.tl s.tc, .int .i64 s.st, .int .i64 s.sn, .int .i64 s.life])) [0, 1] [] ?_
 refine D.C 3 10 47 [] [0] [0, 1] []  e66 (h_Sane p s l hl hnl) ?_
 rintro _ _ ⟨lo, hi, gd, ay, ny, cy, l2, t, m, rfl, hsp, hl2, hg2, hR, rfl⟩
 refine D.V 4 11 63 (.build z84 p84 (cs := #[.int .i64 p.n, .int .i64 p.f, .int .i64 p.d, .int .i64 p.beat, .int .i64 p.rho, .int .i64 p.delay, .int .i64 p.jitter, .int .i64 p.eps, .int .i64 p.mu, .int .i64 p.hold, .int .i64 p.pulse, .int .i64 p.second, .int .i64 lo, .int .i64 hi, .int .i64 (clp s.time), .bool s.set, .int .i64 (bnd s.held 0 1073741824), .int .i64 (bnd s.hops 0 (addL [p.d, 1])), .bool gd, .slice ay ny cy, .int .i64 t, .int .i64 m, .int .i64 (bnd s.life 0 2305843009213693952)]) (hf := by kernel_rfl)) ?_
 refine D.C 6 13 127 [] [] [1, 2] []  e67 m_New ?_
 rintro _ _ ⟨tb, r, rfl, rfl⟩
 refine D.V 7 14 255 (.build z127 p127 (cs := #[.int .i64 p.n, .int .i64 p.f, .int .i64 p.d, .int .i64 p.beat, .int .i64 p.rho, .int .i64 p.delay, .int .i64 p.jitter, .int .i64 p.eps, .int .i64 p.mu, .int .i64 p.hold, .int .i64 p.pulse, .int .i64 p.second, .int .i64 lo, .int .i64 hi, .int .i64 (clp s.time), .bool s.set, .int .i64 (bnd s.held 0 1073741824), .int .i64 (bnd s.hops 0 (addL [p.d, 1])), .bool gd, .slice ay ny cy, .int .i64 t, .int .i64 m, .int .i64 (bnd s.life 0 2305843009213693952), .int .i64 me, .pointer (some ⟨tb, 0, none⟩)]) (hf := by kernel_rfl)) ?_
 refine D.mk 8 15 511 .bx [3, 4] []  fun g15 => ?_
 refine D.V 9 6 1023 .mv ?_
 refine D.done ?_
 refine K2 _ _ _ ?_
 exact G.ret (G.F [0, 2, 0, 0] (.one Tryz.results53) ⟨g15, tb, r, ⟨lo, hi, clp s.time, s.set, bnd s.held 0 1073741824, bnd s.hops 0 (addL [p.d, 1]), gd, ay, ny, cy, t, m, bnd s.life 0 2305843009213693952⟩, l2, rfl, ⟨hsp, rfl, rfl, rfl, rfl, hR⟩, hl2, hg2, rfl⟩)
theorem u_gate (gw : Nat) (p : Par) (tm : Int) (ua wa : Option Addr) (un uc wn wc : Nat) (who : Int) (s : Sta) (l : List (Int × Int)) (hl : l.length = s.tl) (hnl : s.tl ≤ 1000) (hw : who < 16) : Spec prog 34 [.pointer (some ⟨gw, 0, none⟩), .int .i64 who, .agg #[.int .i64 s.lo, .int .i64 s.hi, .int .i64 s.time, .bool s.set, .int .i64 s.held, .int .i64 s.hops, .bool s.good, .slice s.ta s.tl s.tc, .int .i64 s.st, .int .i64 s.sn, .int .i64 s.life]] [] [blk gw (pC p [.int .i64 tm, .slice ua un uc, .slice wa wn wc]) 93, view s.ta s.tc 174 2 s.tl (spl l)] (fun v Ln => ∃ gn lb cs s' l2, v = .agg #[.int .i64 who, .iface 119 (.pointer (some ⟨gn, 0, none⟩)), .pointer (some ⟨gn, 0, none⟩), .pointer (some ⟨lb, 0, none⟩)] ∧ SanR p s s' ∧ l2.length = s'.tl ∧ goodB l2 = true ∧ Lan cs (fun _ => []) ∧ Ln = [blk gn [.int .i64 p.n, .int .i64 p.f, .int .i64 p.d, .int .i64 p.beat, .int .i64 p.rho, .int .i64 p.delay, .int .i64 p.jitter, .int .i64 p.eps, .int .i64 p.mu, .int .i64 p.hold, .int .i64 p.pulse, .int .i64 p.second, .int .i64 s'.lo, .int .i64 s'.hi, .int .i64 s'.time, .bool s'.set, .int .i64 s'.held, .int .i64 s'.hops, .bool s'.good, .slice s'.ta s'.tl s'.tc, .int .i64 s'.st, .int .i64 s'.sn, .int .i64 s'.life, .int .i64 who] 122, row s'.ta s'.tc 174 2 s'.tl (spl l2), blk lb cs 153]) := by
 refine Spec.en func34 ntmps34 fun w0 => ?_
 refine G.sr fun _ K1 => ?_
 refine G.mk 5 .bx fun g5 => ?_
 refine G.mk 6 (.al z81) fun g6 => ?_
 refine G.nk K1 ?_
 refine G.sr fun _ K2 => ?_
 refine G.M 10 ?_
 refine G.C 11 [] []  e51 l_New ?_
 rintro _ _ ⟨lb, cs, rfl, rfl, hLan⟩
 refine G.V 12 (.build z81 p81 (cs := #[.int .i64 who, .nilIface, .pointer none, .pointer (some ⟨lb, 0, none⟩)]) (hf := by kernel_rfl)) ?_
 refine G.mk 7 (.al z81) fun g7 => ?_
 refine G.sn 0 (.st t81 0) rfl ?_
 refine G.nk K2 ?_
 refine G.Z fun _ K3 => ?_
 refine G.sr fun _ K4 => ?_
 refine G.M 13 ?_
 refine G.V 14 (.cast .bin (bt (by omega))) ?_
 refine G.nk K4 ?_
 refine G.yes rfl ?_
 refine G.Z fun _ K5 => ?_
 refine G.draw 8 [3] [0] [] ?_
 refine D.V 0 15 1 .mv ?_
 refine D.V 1 16 3 .nc ?_
 refine D.V 2 17 7 (.fa f93_0 0) ?_
 refine D.V 4 19 23 .mv ?_
 refine D.T 3 18 31 (.lda t23 1 (vs := [.int .i64 p.n, .int .i64 p.f, .int .i64 p.d, .int .i64 p.beat, .int .i64 p.rho, .int .i64 p.delay, .int .i64 p.jitter, .int .i64 p.eps, .int .i64 p.mu, .int .i64 p.hold, .int .i64 p.pulse, .int .i64 p.second])) [3] [0] ?_
 refine D.T 5 20 63 (.lda t70 0 (vs := [.int .i64 s.lo, .int .i64 s.hi, .int .i64 s.time, .bool s.set, .int .i64 s.held, .int .i64 s.hops, .bool s.good, .slice s.ta s.tl s.tc, .int .i64 s.st, .int .i64 s.sn, .int .i64 s.life])) [3] [0] ?_
 refine D.C 6 21 127 [] [1] [3] [0]  e52 (g_New p who s l hl hnl) ?_
 rintro _ _ ⟨gn, s', l2, rfl, hSR, hl2, hg2, rfl⟩
 refine D.V 7 8 255 .mv ?_
 refine D.done ?_
 refine K5 _ _ _ ?_
 refine G.Z fun _ K6 => ?_
 refine G.draw 9 [] [] [] ?_
 refine D.V 0 22 1 .mv ?_
 refine D.V 1 23 3 (.mki tc119) ?_
 refine D.V 2 24 7 .mv ?_
 refine D.V 3 25 15 .nc ?_
 refine D.V 4 26 31 (.fa f122_0 0) ?_
 refine D.V 5 27 63 (.fa f81_1 1) ?_
 refine D.sto 6 127 2 (.st t78 2) [] []  rfl ?_
 dsimp only [List.set, sets, Value.cells, List.zipIdx, List.foldl]
 refine D.V 7 28 255 (.fa f81_2 2) ?_
 refine D.sto 8 511 2 (.st t41 2) [] []  rfl ?_
 dsimp only [List.set, sets, Value.cells, List.zipIdx, List.foldl]
 refine D.done ?_
 refine K6 _ _ _ ?_
 refine G.sr fun _ K7 => ?_
 refine G.V 29 (.lda t81 2 (vs := [.int .i64 who, .iface 119 (.pointer (some ⟨gn, 0, none⟩)), .pointer (some ⟨gn, 0, none⟩), .pointer (some ⟨lb, 0, none⟩)])) ?_
 refine G.sn 4 (.st t81 4) rfl ?_
 refine G.nk K7 ?_
 exact G.ret (G.F [0, 0, 1] (.cell Tryz.results34 t81 4) ⟨gn, lb, cs, s', l2, rfl, hSR, hl2, hg2, hLan, rfl⟩)
theorem u_node (gw : Nat) (p : Par) (tm : Int) (ua wa : Option Addr) (un uc wn wc : Nat) (who : Int) (s : Sta) (l : List (Int × Int)) (hl : l.length = s.tl) (hnl : s.tl ≤ 1000) (hw : 16 ≤ who) : Spec prog 34 [.pointer (some ⟨gw, 0, none⟩), .int .i64 who, .agg #[.int .i64 s.lo, .int .i64 s.hi, .int .i64 s.time, .bool s.set, .int .i64 s.held, .int .i64 s.hops, .bool s.good, .slice s.ta s.tl s.tc, .int .i64 s.st, .int .i64 s.sn, .int .i64 s.life]] [] [blk gw (pC p [.int .i64 tm, .slice ua un uc, .slice wa wn wc]) 93, view s.ta s.tc 174 2 s.tl (spl l)] (fun v Ln => ∃ gn tb r lb cs s' l2, v = .agg #[.int .i64 who, .iface 123 (.pointer (some ⟨gn, 0, none⟩)), .pointer (some ⟨gn, 0, none⟩), .pointer (some ⟨lb, 0, none⟩)] ∧ SanR p s s' ∧ l2.length = s'.tl ∧ goodB l2 = true ∧ Lan cs (fun _ => []) ∧ Ln = [blk gn [.int .i64 p.n, .int .i64 p.f, .int .i64 p.d, .int .i64 p.beat, .int .i64 p.rho, .int .i64 p.delay, .int .i64 p.jitter, .int .i64 p.eps, .int .i64 p.mu, .int .i64 p.hold, .int .i64 p.pulse, .int .i64 p.second, .int .i64 s'.lo, .int .i64 s'.hi, .int .i64 s'.time, .bool s'.set, .int .i64 s'.held, .int .i64 s'.hops, .bool s'.good, .slice s'.ta s'.tl s'.tc, .int .i64 s'.st, .int .i64 s'.sn, .int .i64 s'.life, .int .i64 who, .pointer (some ⟨tb, 0, none⟩)] 127, row s'.ta s'.tc 174 2 s'.tl (spl l2), blk tb [.map (some r)] 193, nmap r [] 0, blk lb cs 153]) := by
 refine Spec.en func34 ntmps34 fun w0 => ?_
 refine G.sr fun _ K1 => ?_
 refine G.mk 5 .bx fun g5 => ?_
 refine G.mk 6 (.al z81) fun g6 => ?_
 refine G.nk K1 ?_
 refine G.sr fun _ K2 => ?_
 refine G.M 10 ?_
 refine G.C 11 [] []  e51 l_New ?_
 rintro _ _ ⟨lb, cs, rfl, rfl, hLan⟩
 refine G.V 12 (.build z81 p81 (cs := #[.int .i64 who, .nilIface, .pointer none, .pointer (some ⟨lb, 0, none⟩)]) (hf := by kernel_rfl)) ?_
 refine G.mk 7 (.al z81) fun g7 => ?_
 refine G.sn 0 (.st t81 0) rfl ?_
 refine G.nk K2 ?_
 refine G.Z fun _ K3 => ?_
 refine G.sr fun _ K4 => ?_
 refine G.M 13 ?_
 refine G.V 14 (.cast .bin (bf (by omega))) ?_
 refine G.nk K4 ?_
 refine G.no rfl ?_
 refine G.sk K3 ?_
 refine G.Z fun _ K5 => ?_
 refine G.draw 8 [3] [0] [] ?_
 refine D.V 0 30 1 .mv ?_
 refine D.V 1 31 3 .nc ?_
 refine D.V 2 32 7 (.fa f93_0 0) ?_
 refine D.V 4 34 23 .mv ?_
 refine D.T 3 33 31 (.lda t23 1 (vs := [.int .i64 p.n, .int .i64 p.f, .int .i64 p.d, .int .i64 p.beat, .int .i64 p.rho, .int .i64 p.delay, .int .i64 p.jitter, .int .i64 p.eps, .int .i64 p.mu, .int .i64 p.hold, .int .i64 p.pulse, .int .i64 p.second])) [3] [0] ?_
 refine D.T 5 35 63 (.lda t70 0 (vs := [.int .i64 s.lo, .int .i64 s.hi, .int .i64 s.time, .bool s.set, .int .i64 s.held, .int .i64 s.hops, .bool s.good, .slice s.ta s.tl s.tc, .int .i64 s.st, .int .i64 s.sn, .int .i64 s.life])) [3] [0] ?_
 refine D.C 6 36 127 [] [1] [3] [0]  e53 (n_New p who s l hl hnl) ?_
 rintro _ _ ⟨gn, tb, r, s', l2, rfl, hSR, hl2, hg2, rfl⟩
 refine D.V 7 9 255 .mv ?_
 refine D.done ?_
 refine K5 _ _ _ ?_
 refine G.Z fun _ K6 => ?_
 refine G.draw 9 [] [] [] ?_
 refine D.V 0 37 1 .mv ?_
 refine D.V 1 38 3 (.mki tc123) ?_
 refine D.V 2 39 7 .mv ?_
 refine D.V 3 40 15 .nc ?_
 refine D.V 4 41 31 (.fa f127_0 0) ?_
 refine D.V 5 42 63 (.fa f81_1 1) ?_
 refine D.sto 6 127 4 (.st t78 4) [] []  rfl ?_
 dsimp only [List.set, sets, Value.cells, List.zipIdx, List.foldl]
 refine D.V 7 43 255 (.fa f81_2 2) ?_
 refine D.sto 8 511 4 (.st t41 4) [] []  rfl ?_
 dsimp only [List.set, sets, Value.cells, List.zipIdx, List.foldl]
 refine D.done ?_
 refine K6 _ _ _ ?_
 refine G.sr fun _ K7 => ?_
 refine G.V 44 (.lda t81 4 (vs := [.int .i64 who, .iface 123 (.pointer (some ⟨gn, 0, none⟩)), .pointer (some ⟨gn, 0, none⟩), .pointer (some ⟨lb, 0, none⟩)])) ?_
 refine G.sn 6 (.st t81 6) rfl ?_
 refine G.nk K7 ?_
 exact G.ret (G.F [0, 0, 0, 0, 1] (.cell Tryz.results34 t81 6) ⟨gn, tb, r, lb, cs, s', l2, rfl, hSR, hl2, hg2, hLan, rfl⟩)
theorem e25 : Is prog 25 := ⟨_, func25, by kernel_rfl, rfl⟩
theorem e45 : Is prog 45 := ⟨_, func45, by kernel_rfl, rfl⟩
theorem e46 : Is prog 46 := ⟨_, func46, by kernel_rfl, rfl⟩
theorem f81_0 : tfield prog 81 0 = some 0 := by kernel_rfl
theorem f93_1 : tfield prog 93 1 = some 12 := by kernel_rfl
theorem f93_2 : tfield prog 93 2 = some 13 := by kernel_rfl
theorem q42 : tptr prog 42 = true := by kernel_rfl
theorem q75 : tptr prog 75 = true := by kernel_rfl
theorem s91 : tslice prog 91 = some (81, 4) := by kernel_rfl
theorem t91 : tsz prog 91 = some (false, 1) := by kernel_rfl
structure Uc where
 who : Int
 t : Nat
 g : Nat
 lb : Nat
def Uc.cells (u : Uc) : List Value := [.int .i64 u.who, .iface u.t (.pointer (some ⟨u.g, 0, none⟩)), .pointer (some ⟨u.g, 0, none⟩), .pointer (some ⟨u.lb, 0, none⟩)]
def ucl (us : List Uc) : List Value := us.flatMap Uc.cells
theorem ucl_at {l : List Uc} {k : Nat} {u : Uc} (h : l[k]? = some u) : ((ucl l).drop (0 + k * 4)).take 4 = u.cells := by rw [Nat.zero_add]; exact flat_at Uc.cells (fun _ => rfl) h
theorem ucl_cell {l : List Uc} {k i : Nat} {u : Uc} {v : Value} (h : l[k]? = some u) (hi : i < 4) (hv : u.cells[i]? = some v) : (ucl l)[0 + k * 4 + i]? = some v := by
 have h1 := ucl_at h
 have h2 : (((ucl l).drop (0 + k * 4)).take 4)[i]? = some v := by rw [h1]; exact hv
 rw [List.getElem?_take_of_lt hi, List.getElem?_drop] at h2
 exact h2
theorem u_is (gx : Nat) (x : Int) (u : Uc) : Spec prog 46 [.agg #[.int .i64 u.who, .iface u.t (.pointer (some ⟨u.g, 0, none⟩)), .pointer (some ⟨u.g, 0, none⟩), .pointer (some ⟨u.lb, 0, none⟩)], .pointer (some ⟨gx, 0, none⟩)] [] [blk gx [.int .i64 x] 3] (fun v Ln => v = .bool (u.who == x) ∧ Ln = []) := by
 refine Spec.en func46 ntmps46 fun w0 => ?_
 refine G.sr fun _ K1 => ?_
 refine G.mk 2 .bx fun g2 => ?_
 refine G.M 3 ?_
 refine G.nk K1 ?_
 refine G.sr fun _ K2 => ?_
 refine G.V 4 (.fa f81_0 0) ?_
 refine G.V 5 (.ld t3 0) ?_
 refine G.V 6 (.ld t3 1) ?_
 refine G.V 7 .bin ?_
 refine G.M 3 ?_
 refine G.nk K2 ?_
 exact G.ret (G.F [] (.one Tryz.results46) ⟨rfl, rfl⟩)
theorem u_Index (gx ub un uc : Nat) (x : Int) (us : List Uc) (hul : us.length = un) (hun : un ≤ 1000) : Spec prog 45 [.slice (some ⟨ub, 0, none⟩) un uc, .func (.func 46) #[] #[.pointer (some ⟨gx, 0, none⟩)]] [] [row (some ⟨ub, 0, none⟩) uc 81 4 un (ucl us), blk gx [.int .i64 x] 3] (fun v Ln => ∃ i : Int, v = .int .i64 i ∧ ((∃ (j : Nat) (u : Uc), us[j]? = some u ∧ u.who = x ∧ i = (j : Int)) ∨ (i = -1 ∧ ∀ u ∈ us, u.who ≠ x)) ∧ Ln = []) := by
 refine Spec.en func45 ntmps45 fun w0 => ?_
 refine G.sr fun _ K1 => ?_
 refine G.M 4 ?_
 refine G.nk K1 ?_
 refine G.Z fun _ K2 => ?_
 refine G.sr fun _ K3 => ?_
 refine G.M 6 ?_
 refine G.V 7 (.lenl s91) ?_
 refine G.M 8 ?_
 refine G.nk K3 ?_
 refine G.block ?_
 refine G.lpR (ι := {k : Nat // k ≤ un ∧ ∀ u ∈ us.take k, u.who ≠ x}) (fun ⟨k, hj, hno⟩ => un - k) (fun ⟨k, hj, hno⟩ => [(0, .slice (some ⟨ub, 0, none⟩) un uc), (1, .func (.func 46) #[] #[.pointer (some ⟨gx, 0, none⟩)]), (7, .int .i64 (un : Int)), (8, .int .i64 (k : Int))]) (fun ⟨k, hj, hno⟩ => []) ?_ ?_
 exact G.at ⟨0, Nat.zero_le _, by simp⟩ (ts := [0, 1, 7, 8]) rfl rfl rfl rfl
 rintro ⟨k, hj, hno⟩ _ K4
 try dsimp only at K4 ⊢
 refine G.sr fun _ K5 => ?_
 refine G.V 9 .bin ?_
 refine G.nk K5 ?_
 refine G.Z fun _ K6 => ?_
 refine G.cond rfl (fun hc9 => ?_) (fun hc9 => ?_)
 have hk : k < un := by have := of_decide_eq_true hc9; omega
 obtain ⟨u, hx⟩ : ∃ u, us[k]? = some u := ⟨_, List.getElem?_eq_getElem (by omega)⟩
 have dhc9 := of_decide_eq_true hc9
 refine G.sk K6 ?_
 refine G.Z fun _ K7 => ?_
 refine G.block ?_
 refine G.sr fun _ K8 => ?_
 refine G.M2 10 5 ?_
 refine G.nk K8 ?_
 refine G.sr fun _ K9 => ?_
 refine G.M3 11 12 13 ?_
 refine G.V 14 (.is s91 k hk) ?_
 refine G.V 15 (.lda t81 0 (hv := ucl_at hx)) ?_
 refine G.callv 16 [] [1]  e46 (u_is gx x u) ?_
 rintro _ _ ⟨rfl, rfl⟩
 refine G.nk K9 ?_
 refine G.cond rfl (fun hc16 => ?_) (fun hc16 => ?_)
 have dhg : u.who = x := eq_of_beq hc16
 have dhc16 := eq_of_beq hc16
 refine G.sr fun _ K10 => ?_
 refine G.M2 17 4 ?_
 refine G.nk K10 ?_
 exact G.ret (G.F [] (.one Tryz.results45) ⟨(k : Int), rfl, .inl ⟨k, u, hx, dhg, rfl⟩, rfl⟩)
 have dhg : u.who ≠ x := ne_of_beq_false hc16
 have dhc16 := ne_of_beq_false hc16
 refine G.sk K7 ?_
 refine G.region ?_
 refine G.V 18 .bw ?_
 refine G.M 8 ?_
 refine G.nk K4 ?_
 exact G.ls ⟨k + 1, hk, fun y hy => (List.mem_append.1 (by rw [List.take_add_one, hx] at hy; exact hy)).elim (hno y) (fun q => by simp at q; subst q; exact dhg)⟩
 have hkn : un = k := by have := of_decide_eq_false hc9; omega
 rw [show us.take k = us from by rw [← hkn, ← hul]; exact List.take_length] at hno
 have dhc9 := of_decide_eq_false hc9
 refine G.exit ?_
 refine K2 _ _ _ ?_
 refine G.sr fun _ K11 => ?_
 refine G.M 4 ?_
 refine G.nk K11 ?_
 exact G.ret (G.F [] (.one Tryz.results45) ⟨-1, rfl, .inr ⟨rfl, hno⟩, rfl⟩)
theorem w_unit (gw ub un uc wn wc : Nat) (wa : Option Addr) (p : Par) (tm : Int) (us : List Uc) (hul : us.length = un) (hun : un ≤ 1000) (who : Int) : Spec prog 25 [.pointer (some ⟨gw, 0, none⟩), .int .i64 who] [] [blk gw (pC p [.int .i64 tm, .slice (some ⟨ub, 0, none⟩) un uc, .slice wa wn wc]) 93, row (some ⟨ub, 0, none⟩) uc 81 4 un (ucl us)] (fun v Ln => ((∃ (j : Nat) (u : Uc), us[j]? = some u ∧ u.who = who ∧ v = .pointer (some ⟨ub, 0 + j * 4, none⟩)) ∨ (v = .pointer none ∧ ∀ u ∈ us, u.who ≠ who)) ∧ Ln = []) := by
 refine Spec.en func25 ntmps25 fun w0 => ?_
 refine G.sr fun _ K1 => ?_
 refine G.mk 3 .bx fun g3 => ?_
 refine G.M 4 ?_
 refine G.nk K1 ?_
 refine G.Z fun _ K2 => ?_
 refine G.sr fun _ K3 => ?_
 refine G.M 6 ?_
 refine G.V 7 (.isnil q42) ?_
 refine G.nk K3 ?_
 refine G.no rfl ?_
 refine G.sk K2 ?_
 refine G.sr fun _ K4 => ?_
 refine G.M 8 ?_
 refine G.V 9 .nc ?_
 refine G.V 10 (.fa f93_2 13) ?_
 refine G.V 11 (.ld t91 1) ?_
 refine G.V 12 .mf ?_
 refine G.C 13 [] [1, 2]  e45 (u_Index g3 ub un uc who us hul hun) ?_
 rintro _ _ ⟨i, rfl, hi, rfl⟩
 refine G.M 5 ?_
 refine G.nk K4 ?_
 refine G.Z fun _ K5 => ?_
 refine G.sr fun _ K6 => ?_
 refine G.M 14 ?_
 refine G.V 15 .bin ?_
 refine G.nk K6 ?_
 refine G.cond rfl (fun hc15 => ?_) (fun hc15 => ?_)
 have hi2 : i = -1 ∧ ∀ u ∈ us, u.who ≠ who := by have := of_decide_eq_true hc15; rcases hi with ⟨j, u, _, _, e⟩ | q; omega; exact q
 have dhc15 := of_decide_eq_true hc15
 refine G.sr fun _ K7 => ?_
 refine G.M 4 ?_
 refine G.nk K7 ?_
 exact G.ret (G.F [] (.one Tryz.results25) ⟨.inr ⟨rfl, hi2.2⟩, rfl⟩)
 obtain ⟨j, u, hx, hu, hij⟩ : ∃ (j : Nat) (u : Uc), us[j]? = some u ∧ u.who = who ∧ i = (j : Int) := by have := of_decide_eq_false hc15; rcases hi with q | ⟨q, _⟩; exact q; omega
 subst hij
 have dhc15 := of_decide_eq_false hc15
 refine G.sk K5 ?_
 refine G.sr fun _ K8 => ?_
 refine G.M 16 ?_
 refine G.V 17 .nc ?_
 refine G.V 18 (.fa f93_2 13) ?_
 refine G.V 19 (.ld t91 1) ?_
 refine G.M 20 ?_
 refine G.V 21 (.is s91 j (show j < un from by have := (List.getElem?_eq_some_iff.1 hx).1; omega)) ?_
 refine G.M 4 ?_
 refine G.nk K8 ?_
 exact G.ret (G.F [] (.one Tryz.results25) ⟨.inl ⟨j, u, hx, hu, rfl⟩, rfl⟩)
theorem who_one {us : List Uc} (h : (us.map (·.who)).Nodup) {i j : Nat} {u v : Uc} (hi : us[i]? = some u) (hj : us[j]? = some v) (e : u.who = v.who) : i = j := by
 obtain ⟨h1, rfl⟩ := List.getElem?_eq_some_iff.1 hi
 obtain ⟨h2, rfl⟩ := List.getElem?_eq_some_iff.1 hj
 have := List.nodup_iff_pairwise_ne.1 h
 rcases Nat.lt_trichotomy i j with q | q | q
 ·exact absurd e (by have := List.pairwise_iff_getElem.1 this i j (by simpa using h1) (by simpa using h2) q; simpa using this)
 ·exact q
 ·exact absurd e.symm (by have := List.pairwise_iff_getElem.1 this j i (by simpa using h2) (by simpa using h1) q; simpa using this)
theorem w_unitY (gw ub un uc wn wc : Nat) (wa : Option Addr) (p : Par) (tm : Int) (us : List Uc) (hul : us.length = un) (hun : un ≤ 1000) (who : Int) (hnd : (us.map (·.who)).Nodup) (j : Nat) (u : Uc) (hx : us[j]? = some u) (hu : u.who = who) : Spec prog 25 [.pointer (some ⟨gw, 0, none⟩), .int .i64 who] [] [blk gw (pC p [.int .i64 tm, .slice (some ⟨ub, 0, none⟩) un uc, .slice wa wn wc]) 93, row (some ⟨ub, 0, none⟩) uc 81 4 un (ucl us)] (fun v Ln => v = .pointer (some ⟨ub, 0 + j * 4, none⟩) ∧ Ln = []) := (w_unit gw ub un uc wn wc wa p tm us hul hun who).mono fun v Ln ⟨h, hl⟩ => ⟨by
 rcases h with ⟨i, y, hy, e, rfl⟩ | ⟨_, q⟩
 ·rw [who_one hnd hx hy (by rw [hu, e])]
 ·exact absurd hu (q u (List.mem_of_getElem? hx)), hl⟩
theorem w_unitN (gw ub un uc wn wc : Nat) (wa : Option Addr) (p : Par) (tm : Int) (us : List Uc) (hul : us.length = un) (hun : un ≤ 1000) (who : Int) (hno : ∀ u ∈ us, u.who ≠ who) : Spec prog 25 [.pointer (some ⟨gw, 0, none⟩), .int .i64 who] [] [blk gw (pC p [.int .i64 tm, .slice (some ⟨ub, 0, none⟩) un uc, .slice wa wn wc]) 93, row (some ⟨ub, 0, none⟩) uc 81 4 un (ucl us)] (fun v Ln => v = .pointer none ∧ Ln = []) := (w_unit gw ub un uc wn wc wa p tm us hul hun who).mono fun v Ln ⟨h, hl⟩ => ⟨by
 rcases h with ⟨i, y, hy, e, rfl⟩ | ⟨q, _⟩
 ·exact absurd e (hno y (List.mem_of_getElem? hy))
 ·exact q, hl⟩
theorem w_Front (gw ub un uc wn wc : Nat) (wa : Option Addr) (p : Par) (tm : Int) (us : List Uc) (hul : us.length = un) (hun : un ≤ 1000) (who : Int) (hnd : (us.map (·.who)).Nodup) (j : Nat) (u : Uc) (hx : us[j]? = some u) (hu : u.who = who) : Spec prog 12 [.pointer (some ⟨gw, 0, none⟩), .int .i64 who] [] [blk gw (pC p [.int .i64 tm, .slice (some ⟨ub, 0, none⟩) un uc, .slice wa wn wc]) 93, row (some ⟨ub, 0, none⟩) uc 81 4 un (ucl us)] (fun v Ln => v = .pointer (some ⟨u.g, 0, none⟩) ∧ Ln = []) := by
 refine Spec.en func12 ntmps12 fun w0 => ?_
 refine G.sr fun _ K1 => ?_
 refine G.M 4 ?_
 refine G.nk K1 ?_
 refine G.Z fun _ K2 => ?_
 refine G.sr fun _ K3 => ?_
 refine G.M2 6 7 ?_
 refine G.cp 8 [] [0, 1]  e25 (w_unitY gw ub un uc wn wc wa p tm us hul hun who hnd j u hx hu) ?_
 refine G.M 5 ?_
 refine G.nk K3 ?_
 refine G.sr fun _ K4 => ?_
 refine G.M 9 ?_
 refine G.V 10 (.nonil q75) ?_
 refine G.nk K4 ?_
 refine G.yes rfl ?_
 refine G.sr fun _ K5 => ?_
 refine G.M 11 ?_
 refine G.V 12 .nc ?_
 refine G.V 13 (.fa f81_2 (0 + j * 4 + 2)) ?_
 refine G.V 14 (.ld t41 1 (hv := ucl_cell (i := 2) hx (by decide) rfl)) ?_
 refine G.M 4 ?_
 refine G.nk K5 ?_
 exact G.ret (G.F [] (.one Tryz.results12) ⟨rfl, rfl⟩)
theorem w_Time (gw ub un uc wn wc : Nat) (wa : Option Addr) (p : Par) (tm : Int) : Spec prog 18 [.pointer (some ⟨gw, 0, none⟩)] [] [blk gw (pC p [.int .i64 tm, .slice (some ⟨ub, 0, none⟩) un uc, .slice wa wn wc]) 93] (fun v Ln => v = .int .i64 tm ∧ Ln = []) := by
 refine Spec.en func18 ntmps18 fun w0 => ?_
 refine G.sr fun _ K1 => ?_
 refine G.M 2 ?_
 refine G.nk K1 ?_
 refine G.Z fun _ K2 => ?_
 refine G.sr fun _ K3 => ?_
 refine G.M 3 ?_
 refine G.V 4 (.isnil q42) ?_
 refine G.nk K3 ?_
 refine G.no rfl ?_
 refine G.sk K2 ?_
 refine G.sr fun _ K4 => ?_
 refine G.M 5 ?_
 refine G.V 6 .nc ?_
 refine G.V 7 (.fa f93_1 12) ?_
 refine G.V 8 (.ld t3 0) ?_
 refine G.M 2 ?_
 refine G.nk K4 ?_
 exact G.ret (G.F [] (.one Tryz.results18) ⟨rfl, rfl⟩)
theorem w_Set (gw ub un uc wn wc : Nat) (wa : Option Addr) (p : Par) (tm : Int) (t : Int) : Spec prog 42 [.pointer (some ⟨gw, 0, none⟩), .int .i64 t] [blk gw (pC p [.int .i64 tm, .slice (some ⟨ub, 0, none⟩) un uc, .slice wa wn wc]) 93] [] (fun v Ln => v = .tuple #[] ∧ Ln = [blk gw (pC p [.int .i64 (clp t), .slice (some ⟨ub, 0, none⟩) un uc, .slice wa wn wc]) 93]) := by
 refine Spec.en func42 ntmps42 fun w0 => ?_
 refine G.sr fun _ K1 => ?_
 refine G.M 4 ?_
 refine G.V 5 (.nonil q42) ?_
 refine G.nk K1 ?_
 refine G.yes rfl ?_
 refine G.region ?_
 refine G.M2 6 7 ?_
 refine G.cp 8 [] []  e48 (s_Clip t) ?_
 refine G.V 9 .nc ?_
 refine G.V 10 (.fa f93_1 12) ?_
 refine G.sn 0 (.st t3 0) rfl ?_
 refine G.nil ?_
 exact G.fin0 [0] (.nil Tryz.results42) ⟨rfl, rfl⟩
end Go.Proofs.YtbmhgopjblnfnaaGreat.S
namespace Go.Proofs.YtbmhgopjblnfnaaGreat.S
open Go Go.RowKit Go.Proofs.YtbmhgopjblnfnaaGreatW.PrintLast Tryz
def teq2F (P : Program) (T : TypeId) (f h : Field) : Bool := f.name != "_" && (h.name != "_" && (f.offset == 0 && (h.offset == 1 && (tsz P f.type == some (false, 1) && (tsz P h.type == some (false, 1) && ((match P.underlying f.type, P.underlying h.type with | some (.int .i64), some (.int .i64) => true | _, _ => false) && (!P.stoodInHeld T && !P.eqGuardType P.depth T)))))))
def teq2 (P : Program) (T : TypeId) : Bool := match P.underlying T with
 | some (.struct fs) => (match fs.toList with | [f, h] => teq2F P T f h | _ => false)
 | _ => false
theorem teq2_of {P : Program} {T : TypeId} (hT : teq2 P T = true) : ∃ f h, P.underlying T = some (.struct #[f, h]) ∧ teq2F P T f h = true := by
 unfold teq2 at hT
 split at hT
 ·next fs hu =>
  split at hT
  ·next f h hl => exact ⟨f, h, by rw [hu, show fs = #[f, h] from by apply Array.ext'; simpa using hl], hT⟩
  ·cases hT
 ·cases hT
section
variable {P : Program} {m : Sl} {L R : List Ent} {o : Oper}
theorem part_one {t : TypeId} (hT : tsz P t = some (false, 1)) {xs : Array Value} {i : Nat} {v : Value} (h : xs[i]? = some v) (w : World) : (part t xs i).run P w = .ok v w := by
 simp [part, run_isAgg hT, h, go_sem]
theorem run_eq2 {T : TypeId} (hT : teq2 P T = true) (a b c d : Int) (w : World) : (Op.equal T (.agg #[.int .i64 a, .int .i64 b]) (.agg #[.int .i64 c, .int .i64 d])).run P w = .ok (a == c && b == d) w := by
 obtain ⟨f, h, hu, hT⟩ := teq2_of hT
 ·unfold teq2F at hT
  simp only [Bool.and_eq_true, bne_iff_ne, ne_eq, beq_iff_eq, Bool.not_eq_true'] at hT
  obtain ⟨n1, n2, o1, o2, s1, s2, ht, hp, _⟩ := hT
  split at ht
  ·next u1 u2 =>
   have hfo : P.fieldsOf T = #[f, h] := by unfold Program.fieldsOf; rw [hu]
   show (Op.equalIn (9999 + 1) T _ _).run P w = _
   rw [run_equalIn_struct w 9999 T _ _ (by rw [hfo]; exact hu) hp, hfo]
   have p1 : (part f.type #[Value.int .i64 a, .int .i64 b] f.offset).run P w = .ok (.int .i64 a) w := part_one s1 (by rw [o1]; rfl) w
   have p2 : (part f.type #[Value.int .i64 c, .int .i64 d] f.offset).run P w = .ok (.int .i64 c) w := part_one s1 (by rw [o1]; rfl) w
   have p3 : (part h.type #[Value.int .i64 a, .int .i64 b] h.offset).run P w = .ok (.int .i64 b) w := part_one s2 (by rw [o2]; rfl) w
   have p4 : (part h.type #[Value.int .i64 c, .int .i64 d] h.offset).run P w = .ok (.int .i64 d) w := part_one s2 (by rw [o2]; rfl) w
   have e1 := run_equalIn_int (P := P) w 9998 f.type .i64 .i64 a c u1
   have e2 := run_equalIn_int (P := P) w 9998 h.type .i64 .i64 b d u2
   show (Op.eqFields 9999 _ _ [f, h]).run P w = _
   unfold Op.eqFields
   rw [if_pos n1, run_bind_ok p1, run_bind_ok p2, run_bind_ok e1]
   cases h1 : (a == c)
   ·rfl
   ·show (Op.eqFields 9999 _ _ [h]).run P w = _
    unfold Op.eqFields
    rw [if_pos n2, run_bind_ok p3, run_bind_ok p4, run_bind_ok e2]
    cases h2 : (b == d) <;> rfl
  ·cases ht
theorem Evl.eq2 {T U : TypeId} (hT : teq2 P T = true) {x y : Operand} {a b c d : Int} (hop : o.op = .binOp .eql T x y U := by rfl) (hx : ev m x = some (.agg #[.int .i64 a, .int .i64 b]) := by rfl) (hy : ev m y = some (.agg #[.int .i64 c, .int .i64 d]) := by rfl) : Evl P m L R o (.bool (a == c && b == d)) := fun ac w hs hd => by
 have he := hs.ev hx
 have hf := hs.ev hy
 generalize ac.eval = ρ at he hf
 have h1 := run_eq2 hT a b c d w
 have hg : P.eqGuardType P.depth T = false := by
  obtain ⟨f, h, hu, hT⟩ := teq2_of hT
  unfold teq2F at hT
  simp only [Bool.and_eq_true, Bool.not_eq_true'] at hT
  exact hT.2.2.2.2.2.2.2.2
 have h2 : (binOp .eql T (.agg #[.int .i64 a, .int .i64 b]) (.agg #[.int .i64 c, .int .i64 d])).run P w = .ok (.bool (a == c && b == d)) w := by
  show ((Op.equal T _ _) >>= fun b => (pure (.bool b) : Sem Value)).run P w = _
  rw [run_bind_ok h1]; rfl
 have h0 : (eqGuard .eql T x y (.agg #[.int .i64 a, .int .i64 b]) (.agg #[.int .i64 c, .int .i64 d])).run P w = .ok () w := by
  simp [eqGuard, hg, go_sem]
 have h3 : ((eqGuard .eql T x y (.agg #[.int .i64 a, .int .i64 b]) (.agg #[.int .i64 c, .int .i64 d]) >>= fun _ => binOp .eql T (.agg #[.int .i64 a, .int .i64 b]) (.agg #[.int .i64 c, .int .i64 d])) : Sem Value).run P w = .ok (.bool (a == c && b == d)) w := by
  rw [run_bind_ok h0]; exact h2
 unfold execOp
 simp only [hop, he, hf]
 change ((eqGuard .eql T x y _ _ >>= fun _ => binOp .eql T _ _) >>= fun u => (pure (.value u) : Sem Next)).run P w = _
 rw [run_bind_ok h3]
 rfl
end
end Go.Proofs.YtbmhgopjblnfnaaGreat.S
namespace Go.Proofs.YtbmhgopjblnfnaaGreat.S
open Go Go.Proofs Go.RowKit Go.Proofs.YtbmhgopjblnfnaaGreatW.PrintLast Tryz
theorem e35 : Is prog 35 := ⟨_, func35, by kernel_rfl, rfl⟩
theorem e54 : Is prog 54 := ⟨_, func54, by kernel_rfl, rfl⟩
theorem e59 : Is prog 59 := ⟨_, func59, by kernel_rfl, rfl⟩
theorem e68 : Is prog 68 := ⟨_, func68, by kernel_rfl, rfl⟩
theorem f72_0 : tfield prog 72 0 = some 0 := by kernel_rfl
theorem f72_1 : tfield prog 72 1 = some 1 := by kernel_rfl
theorem f93_3 : tfield prog 93 3 = some 14 := by kernel_rfl
theorem p72 : tplaces prog 72 = some [(0, 1), (1, 1)] := by kernel_rfl
theorem s25 : tslice prog 25 = some (72, 2) := by kernel_rfl
theorem t25 : tsz prog 25 = some (false, 1) := by kernel_rfl
theorem t72 : tsz prog 72 = some (true, 2) := by kernel_rfl
theorem teq72 : teq2 prog 72 = true := by kernel_rfl
theorem y72 : tbytes prog 72 = some (2, 16) := by kernel_rfl
theorem z72 : tzero prog 72 = some [.int .i64 0, .int .i64 0] := by kernel_rfl
theorem i_Index0 (x : Int) : Spec prog 59 [.slice none 0 0, .int .i64 x] [] [] (fun v Ln => v = .int .i64 (-1) ∧ Ln = []) := by
 refine Spec.en func59 ntmps59 fun w0 => ?_
 refine G.sr fun _ K1 => ?_
 refine G.M 4 ?_
 refine G.nk K1 ?_
 refine G.Z fun _ K2 => ?_
 refine G.sr fun _ K3 => ?_
 refine G.M 6 ?_
 refine G.V 7 (.lenl s24) ?_
 refine G.M 8 ?_
 refine G.nk K3 ?_
 refine G.block ?_
 refine G.lpR (ι := Unit) (fun _ => 0) (fun _ => [(0, .slice none 0 0), (1, .int .i64 x), (7, .int .i64 ((0 : Nat) : Int)), (8, .int .i64 0)]) (fun _ => []) ?_ ?_
 exact G.as ()
 rintro _ _ K4
 try dsimp only at K4 ⊢
 refine G.sr fun _ K5 => ?_
 refine G.V 9 (.cast .bin (bf (by omega))) ?_
 refine G.nk K5 ?_
 refine G.Z fun _ K6 => ?_
 refine G.no rfl ?_
 refine G.exit ?_
 refine K2 _ _ _ ?_
 refine G.sr fun _ K7 => ?_
 refine G.M 4 ?_
 refine G.nk K7 ?_
 exact G.ret (G.F [] (.one Tryz.results59) ⟨rfl, rfl⟩)
theorem i_Contains0 (x : Int) : Spec prog 39 [.slice none 0 0, .int .i64 x] [] [] (fun v Ln => v = .bool false ∧ Ln = []) := by
 refine Spec.en func39 ntmps39 fun w0 => ?_
 refine G.sr fun _ K1 => ?_
 refine G.M 4 ?_
 refine G.nk K1 ?_
 refine G.sr fun _ K2 => ?_
 refine G.M2 5 6 ?_
 refine G.cp 7 [] []  e59 (i_Index0 x) ?_
 refine G.V 8 .bin ?_
 refine G.M 4 ?_
 refine G.nk K2 ?_
 exact G.ret (G.F [] (.one Tryz.results39) ⟨rfl, rfl⟩)
theorem y_Index (wa : Option Addr) (wn wc : Nat) (ls : List (Int × Int)) (hll : ls.length = wn) (hln : wn ≤ 100000) (a b : Int) : Spec prog 68 [.slice wa wn wc, .agg #[.int .i64 a, .int .i64 b]] [] [row wa wc 72 2 wn (spl ls)] (fun v Ln => ∃ i : Int, v = .int .i64 i ∧ decide (i ≥ 0) = (ls.any (fun x : Int × Int => a == x.1 && b == x.2)) ∧ Ln = []) := by
 refine Spec.en func68 ntmps68 fun w0 => ?_
 refine G.sr fun _ K1 => ?_
 refine G.mk 3 .bx fun g3 => ?_
 refine G.M 4 ?_
 refine G.nk K1 ?_
 refine G.Z fun _ K2 => ?_
 refine G.sr fun _ K3 => ?_
 refine G.M 6 ?_
 refine G.V 7 (.lenl s25) ?_
 refine G.M 8 ?_
 refine G.nk K3 ?_
 refine G.block ?_
 refine G.lpR (ι := {q : Nat × Nat // q.1 ≤ wn ∧ (ls.take q.1).any (fun x : Int × Int => a == x.1 && b == x.2) = false}) (fun ⟨⟨k, g3⟩, hj, hno⟩ => wn - k) (fun ⟨⟨k, g3⟩, hj, hno⟩ => [(0, .slice wa wn wc), (3, .pointer (some ⟨g3, 0, none⟩)), (7, .int .i64 (wn : Int)), (8, .int .i64 (k : Int))]) (fun ⟨⟨k, g3⟩, hj, hno⟩ => [blk g3 [.int .i64 a, .int .i64 b] 72]) ?_ ?_
 exact G.at ⟨(0, g3), Nat.zero_le _, rfl⟩ (ts := [0, 3, 7, 8]) rfl rfl rfl rfl
 rintro ⟨⟨k, g3⟩, hj, hno⟩ _ K4
 try dsimp only at K4 ⊢
 try dsimp only at hj hno
 refine G.sr fun _ K5 => ?_
 refine G.V 9 .bin ?_
 refine G.nk K5 ?_
 refine G.Z fun _ K6 => ?_
 refine G.cond rfl (fun hc9 => ?_) (fun hc9 => ?_)
 have hk : k < wn := by have := of_decide_eq_true hc9; omega
 obtain ⟨x, hx⟩ : ∃ x, ls[k]? = some x := ⟨_, List.getElem?_eq_getElem (by omega)⟩
 refine G.sk K6 ?_
 refine G.Z fun _ K7 => ?_
 refine G.block ?_
 refine G.sr fun _ K8 => ?_
 refine G.M2 10 5 ?_
 refine G.nk K8 ?_
 refine G.Z fun _ K9 => ?_
 refine G.base 1 (show 0 < wn by omega) fun b10 hb_ => ?_
 subst hb_
 refine G.draw 6 [0] [0] [] ?_
 refine D.V 1 12 2 .mv ?_
 refine D.V 2 13 6 .mv ?_
 refine D.V 3 14 14 (.is s25 k hk) ?_
 refine D.T 0 11 15 (.lda t72 0 (vs := [.int .i64 a, .int .i64 b])) [0] [0] ?_
 refine D.T 4 15 31 (.lda t72 1 (hv := spl_at hx)) [0] [0] ?_
 refine D.V 5 16 63 (.eq2 teq72) ?_
 refine D.done ?_
 refine K9 _ _ _ ?_
 refine G.cond rfl (fun hc16 => ?_) (fun hc16 => ?_)
 refine G.sr fun _ K11 => ?_
 refine G.M2 17 4 ?_
 refine G.nk K11 ?_
 exact G.ret (G.F [] (.one Tryz.results68) ⟨_, rfl, by rw [any_getP hx hc16]; simp, rfl⟩)
 refine G.sk K7 ?_
 refine G.region ?_
 refine G.V 18 .bw ?_
 refine G.M 8 ?_
 refine G.nk K4 ?_
 exact G.less ⟨(k + 1, g3), hk, by dsimp only; rw [any_takeP _ hx, hno]; exact hc16⟩ (ts := [0, 3, 7, 8]) (by dsimp only; omega) rfl rfl rfl rfl
 have hkn : wn = k := by have := of_decide_eq_false hc9; omega
 rw [show ls.take k = ls from by rw [← hkn, ← hll]; exact List.take_length] at hno
 refine G.exit ?_
 refine K2 _ _ _ ?_
 refine G.sr fun _ K12 => ?_
 refine G.M 4 ?_
 refine G.nk K12 ?_
 exact G.ret (G.F [] (.one Tryz.results68) ⟨_, rfl, by rw [hno]; rfl, rfl⟩)
theorem y_Contains (wa : Option Addr) (wn wc : Nat) (ls : List (Int × Int)) (hll : ls.length = wn) (hln : wn ≤ 100000) (a b : Int) : Spec prog 54 [.slice wa wn wc, .agg #[.int .i64 a, .int .i64 b]] [] [row wa wc 72 2 wn (spl ls)] (fun v Ln => v = .bool (ls.any (fun x : Int × Int => a == x.1 && b == x.2)) ∧ Ln = []) := by
 refine Spec.en func54 ntmps54 fun w0 => ?_
 refine G.sr fun _ K1 => ?_
 refine G.mk 3 .bx fun g3 => ?_
 refine G.M 4 ?_
 refine G.nk K1 ?_
 refine G.sr fun _ K2 => ?_
 refine G.M 5 ?_
 refine G.V 6 (.lda t72 0 (vs := [.int .i64 a, .int .i64 b])) ?_
 refine G.C 7 [] [0]  e68 (y_Index wa wn wc ls hll hln a b) ?_
 rintro _ _ ⟨i, rfl, hi, rfl⟩
 refine G.V 8 .bin ?_
 refine G.M 4 ?_
 refine G.nk K2 ?_
 exact G.ret (G.F [] (.one Tryz.results54) ⟨by rw [hi], rfl⟩)
def hasW (us : List Uc) (a : Int) : Bool := us.any fun u => u.who == a
def joinL (us : List Uc) (ls : List (Int × Int)) (a b : Int) : List (Int × Int) := if (a != b && (hasW us a && (hasW us b && !(ls.any fun x => a == x.1 && b == x.2)))) = true then ls ++ [(a, b)] else ls
theorem w_unitO (gw ub un uc wn wc : Nat) (wa : Option Addr) (p : Par) (tm : Int) (us : List Uc) (hul : us.length = un) (hun : un ≤ 1000) (who : Int) : Spec prog 25 [.pointer (some ⟨gw, 0, none⟩), .int .i64 who] [] [blk gw (pC p [.int .i64 tm, .slice (some ⟨ub, 0, none⟩) un uc, .slice wa wn wc]) 93, row (some ⟨ub, 0, none⟩) uc 81 4 un (ucl us)] (fun v Ln => ∃ po, v = .pointer po ∧ po.isSome = hasW us who ∧ Ln = []) := (w_unit gw ub un uc wn wc wa p tm us hul hun who).mono fun v Ln ⟨h, hl⟩ => by
 rcases h with ⟨i, y, hy, e, rfl⟩ | ⟨rfl, q⟩
 ·exact ⟨_, rfl, by unfold hasW; rw [List.any_eq_true.2 ⟨y, List.mem_of_getElem? hy, by simpa using e⟩]; rfl, hl⟩
 ·refine ⟨none, rfl, ?_, hl⟩
  unfold hasW
  refine (List.any_eq_false.2 ?_).symm
  exact fun u hu => by simpa using q u hu
theorem w_join (gw ub un uc : Nat) (p : Par) (tm : Int) (us : List Uc) (hul : us.length = un) (hun : un ≤ 1000) (wa : Option Addr) (wn wc : Nat) (ls : List (Int × Int)) (hll : ls.length = wn) (hln : wn ≤ 90000) (a b : Int) : Spec prog 35 [.pointer (some ⟨gw, 0, none⟩), .agg #[.int .i64 a, .int .i64 b]] [blk gw (pC p [.int .i64 tm, .slice (some ⟨ub, 0, none⟩) un uc, .slice wa wn wc]) 93, row wa wc 72 2 wn (spl ls)] [row (some ⟨ub, 0, none⟩) uc 81 4 un (ucl us)] (fun v Ln => v = .tuple #[] ∧ ∃ wa' wc' wn' l', l' = joinL us ls a b ∧ l'.length = wn' ∧ Ln = [blk gw (pC p [.int .i64 tm, .slice (some ⟨ub, 0, none⟩) un uc, .slice wa' wn' wc']) 93, row wa' wc' 72 2 wn' (spl l')]) := by
 refine Spec.en func35 ntmps35 fun w0 => ?_
 refine G.sr fun _ K1 => ?_
 refine G.mk 3 .bx fun g3 => ?_
 refine G.nk K1 ?_
 refine G.Z fun _ K2 => ?_
 refine G.draw 28 [0, 1] [] [] ?_
 refine D.V 0 4 1 (.fa f72_0 0) ?_
 refine D.V 2 6 5 (.fa f72_1 1) ?_
 refine D.T 1 5 7 (.ld t3 0) [0, 1] [] ?_
 refine D.T 3 7 15 (.ld t3 0) [0, 1] [] ?_
 refine D.V 4 8 31 .bin ?_
 refine D.V 5 9 63 .mv ?_
 cases hg3 : (a != b : Bool)
 refine D.off 6 10 127 ?_
 refine D.off 7 11 255 ?_
 refine D.off 8 12 511 ?_
 refine D.off 9 13 1023 ?_
 refine D.off 10 14 2047 ?_
 refine D.V 11 15 4095 .pick ?_
 refine D.V 12 16 8191 .mv ?_
 refine D.off 13 17 16383 ?_
 refine D.off 14 18 32767 ?_
 refine D.off 15 19 65535 ?_
 refine D.off 16 20 131071 ?_
 refine D.off 17 21 262143 ?_
 refine D.V 18 22 524287 .pick ?_
 refine D.V 19 23 1048575 .mv ?_
 refine D.off 20 24 2097151 ?_
 refine D.off 21 25 4194303 ?_
 refine D.off 22 26 8388607 ?_
 refine D.off 23 27 16777215 ?_
 refine D.off 24 28 33554431 ?_
 refine D.off 25 29 67108863 ?_
 refine D.off 26 30 134217727 ?_
 refine D.V 27 31 268435455 .pick ?_
 refine D.done ?_
 refine K2 _ _ _ ?_
 refine G.no rfl ?_
 refine G.skip ?_
 exact G.fin0 [1, 1] (.nil Tryz.results35) ⟨rfl, wa, wc, wn, ls, (if_neg (by first | (rw [‹(a != b) = false›]; intro h; simp at h; done) | (rw [← hp1, ‹po1.isSome = false›]; intro h; simp at h; done) | (rw [← hp2, ‹po2.isSome = false›]; intro h; simp at h; done) | (rw [‹(ls.any fun x => a == x.1 && b == x.2) = true›]; intro h; simp at h; done))).symm, hll, rfl⟩
 refine D.V 6 10 127 .mv ?_
 refine D.V 7 11 255 (.fa f72_0 0) ?_
 refine D.T 8 12 511 (.ld t3 0) [0, 1] [] ?_
 refine D.C 9 13 1023 [] [2, 0] [0, 1] []  e25 (w_unitO gw ub un uc wn wc wa p tm us hul hun a) ?_
 rintro _ _ ⟨po1, rfl, hp1, rfl⟩
 refine D.V 10 14 2047 (.nonil q75) ?_
 refine D.V 11 15 4095 .pick ?_
 refine D.V 12 16 8191 .mv ?_
 cases hg4 : (po1.isSome : Bool)
 refine D.off 13 17 16383 ?_
 refine D.off 14 18 32767 ?_
 refine D.off 15 19 65535 ?_
 refine D.off 16 20 131071 ?_
 refine D.off 17 21 262143 ?_
 refine D.V 18 22 524287 .pick ?_
 refine D.V 19 23 1048575 .mv ?_
 refine D.off 20 24 2097151 ?_
 refine D.off 21 25 4194303 ?_
 refine D.off 22 26 8388607 ?_
 refine D.off 23 27 16777215 ?_
 refine D.off 24 28 33554431 ?_
 refine D.off 25 29 67108863 ?_
 refine D.off 26 30 134217727 ?_
 refine D.V 27 31 268435455 .pick ?_
 refine D.done ?_
 refine K2 _ _ _ ?_
 refine G.no rfl ?_
 refine G.skip ?_
 exact G.fin0 [1, 1] (.nil Tryz.results35) ⟨rfl, wa, wc, wn, ls, (if_neg (by first | (rw [‹(a != b) = false›]; intro h; simp at h; done) | (rw [← hp1, ‹po1.isSome = false›]; intro h; simp at h; done) | (rw [← hp2, ‹po2.isSome = false›]; intro h; simp at h; done) | (rw [‹(ls.any fun x => a == x.1 && b == x.2) = true›]; intro h; simp at h; done))).symm, hll, rfl⟩
 refine D.V 13 17 16383 .mv ?_
 refine D.V 14 18 32767 (.fa f72_1 1) ?_
 refine D.T 15 19 65535 (.ld t3 0) [0, 1] [] ?_
 refine D.C 16 20 131071 [] [2, 0] [0, 1] []  e25 (w_unitO gw ub un uc wn wc wa p tm us hul hun b) ?_
 rintro _ _ ⟨po2, rfl, hp2, rfl⟩
 refine D.V 17 21 262143 (.nonil q75) ?_
 refine D.V 18 22 524287 .pick ?_
 refine D.V 19 23 1048575 .mv ?_
 cases hg5 : (po2.isSome : Bool)
 refine D.off 20 24 2097151 ?_
 refine D.off 21 25 4194303 ?_
 refine D.off 22 26 8388607 ?_
 refine D.off 23 27 16777215 ?_
 refine D.off 24 28 33554431 ?_
 refine D.off 25 29 67108863 ?_
 refine D.off 26 30 134217727 ?_
 refine D.V 27 31 268435455 .pick ?_
 refine D.done ?_
 refine K2 _ _ _ ?_
 refine G.no rfl ?_
 refine G.skip ?_
 exact G.fin0 [1, 1] (.nil Tryz.results35) ⟨rfl, wa, wc, wn, ls, (if_neg (by first | (rw [‹(a != b) = false›]; intro h; simp at h; done) | (rw [← hp1, ‹po1.isSome = false›]; intro h; simp at h; done) | (rw [← hp2, ‹po2.isSome = false›]; intro h; simp at h; done) | (rw [‹(ls.any fun x => a == x.1 && b == x.2) = true›]; intro h; simp at h; done))).symm, hll, rfl⟩
 refine D.V 20 24 2097151 .mv ?_
 refine D.V 21 25 4194303 .nc ?_
 refine D.V 22 26 8388607 (.fa f93_3 14) ?_
 refine D.T 23 27 16777215 (.ld t25 1) [0, 1] [] ?_
 refine D.T 24 28 33554431 (.lda t72 0 (vs := [.int .i64 a, .int .i64 b])) [0, 1] [] ?_
 refine D.C 25 29 67108863 [] [3] [0, 1] []  e54 (y_Contains wa wn wc ls hll (by omega) a b) ?_
 rintro _ _ ⟨rfl, rfl⟩
 refine D.V 26 30 134217727 .not ?_
 refine D.V 27 31 268435455 .pick ?_
 refine D.done ?_
 refine K2 _ _ _ ?_
 cases hg6 : ((ls.any (fun x : Int × Int => a == x.1 && b == x.2)) : Bool)
 refine G.yes rfl ?_
 refine G.draw 11 [0, 1] [] [10] ?_
 refine D.V 0 32 1 .mv ?_
 refine D.V 1 33 3 .mv ?_
 refine D.V 2 34 7 .nc ?_
 refine D.V 3 35 15 (.fa f93_3 14) ?_
 refine D.T 4 36 31 (.ld t25 1) [0, 1] [] ?_
 refine D.T 5 37 63 (.lda t72 0 (vs := [.int .i64 a, .int .i64 b])) [0, 1] [] ?_
 refine D.ev 6 127 ?_
 refine E.row 6 38 (.sl s25 z72 [.int .i64 a, .int .i64 b]) [0, 1] []  fun g38 => ?_
 refine D.chg 7 39 255 3 (.app s25 z72 y72 3 0 (show wn + 1 ≤ 1048576 by omega)) [1, 2] []  ?_
 rintro _ _ ⟨a7, c8, rfl, rfl⟩
 dsimp only [List.set]
 refine D.V 8 40 511 .nc ?_
 refine D.V 9 41 1023 (.fa f93_3 14) ?_
 refine D.last 10 2047 2 (.st t25 2) rfl ?_
 dsimp only [List.set, sets, Value.cells, List.zipIdx, List.foldl]
 refine D.done ?_
 exact G.fin0 [2, 2] (.nil Tryz.results35) ⟨rfl, a7, c8, wn + 1, ls ++ [(a, b)], (if_pos (by rw [← hp1, ← hp2, ‹po1.isSome = true›, ‹po2.isSome = true›, ‹(a != b) = true›, ‹(ls.any fun x => a == x.1 && b == x.2) = false›]; rfl)).symm, by simp [hll], show [blk gw (pC p [.int .i64 tm, .slice (some ⟨ub, 0, none⟩) un uc, .slice a7 (wn + 1) c8]) 93, row a7 c8 72 2 (wn + 1) ((spl ls) ++ [.int .i64 a, .int .i64 b])] = _ from by rw [spl_snoc]⟩
 refine G.no rfl ?_
 refine G.skip ?_
 exact G.fin0 [1, 1] (.nil Tryz.results35) ⟨rfl, wa, wc, wn, ls, (if_neg (by first | (rw [‹(a != b) = false›]; intro h; simp at h; done) | (rw [← hp1, ‹po1.isSome = false›]; intro h; simp at h; done) | (rw [← hp2, ‹po2.isSome = false›]; intro h; simp at h; done) | (rw [‹(ls.any fun x => a == x.1 && b == x.2) = true›]; intro h; simp at h; done))).symm, hll, rfl⟩
def bothL (us : List Uc) (ls : List (Int × Int)) (la lb : Int) : List (Int × Int) := if (decide (la ≥ 0) && (decide (lb ≥ 0) && (decide (la < 32) && decide (lb < 32)))) = true then joinL us (joinL us ls (IntKind.i64.wrap (16 + la)) (IntKind.i64.wrap (16 + lb))) (IntKind.i64.wrap (16 + lb)) (IntKind.i64.wrap (16 + la)) else ls
theorem joinL_len (us : List Uc) (ls : List (Int × Int)) (a b : Int) : (joinL us ls a b).length ≤ ls.length + 1 := by unfold joinL; split <;> simp
theorem w_both (gw ub un uc : Nat) (p : Par) (tm : Int) (us : List Uc) (hul : us.length = un) (hun : un ≤ 1000) (wa : Option Addr) (wn wc : Nat) (ls : List (Int × Int)) (hll : ls.length = wn) (hln : wn ≤ 80000) (la lb : Int) : Spec prog 36 [.pointer (some ⟨gw, 0, none⟩), .agg #[.int .i64 la, .int .i64 lb], .func (.func 35) #[] #[]] [blk gw (pC p [.int .i64 tm, .slice (some ⟨ub, 0, none⟩) un uc, .slice wa wn wc]) 93, row wa wc 72 2 wn (spl ls)] [row (some ⟨ub, 0, none⟩) uc 81 4 un (ucl us)] (fun v Ln => v = .tuple #[] ∧ ∃ wa' wc' wn' l', l' = bothL us ls la lb ∧ l'.length = wn' ∧ Ln = [blk gw (pC p [.int .i64 tm, .slice (some ⟨ub, 0, none⟩) un uc, .slice wa' wn' wc']) 93, row wa' wc' 72 2 wn' (spl l')]) := by
 refine Spec.en func36 ntmps36 fun w0 => ?_
 refine G.sr fun _ K1 => ?_
 refine G.mk 4 .bx fun g4 => ?_
 refine G.nk K1 ?_
 refine G.Z fun _ K2 => ?_
 refine G.draw 8 [0] [] [] ?_
 refine D.V 0 8 1 (.fa f72_0 0) ?_
 refine D.V 3 11 9 (.fa f72_1 1) ?_
 refine D.T 1 9 11 (.ld t3 0) [0] [] ?_
 refine D.V 2 10 15 .bin ?_
 refine D.V 6 6 79 .mv ?_
 refine D.T 4 12 95 (.ld t3 0) [0] [] ?_
 refine D.V 5 13 127 .bin ?_
 refine D.V 7 7 255 .mv ?_
 refine D.done ?_
 refine K2 _ _ _ ?_
 refine G.sr fun _ K3 => ?_
 refine G.V 14 (.fa f72_0 0) ?_
 refine G.V 15 (.ld t3 0) ?_
 refine G.V 16 .bin ?_
 refine G.M 17 ?_
 cases hg4 : (decide (la ≥ 0) : Bool)
 refine G.O3 18 19 20 ?_
 refine G.V 21 .pick ?_
 refine G.M 22 ?_
 refine G.O3 23 24 25 ?_
 refine G.V 26 .pick ?_
 refine G.M 27 ?_
 refine G.O3 28 29 30 ?_
 refine G.V 31 .pick ?_
 refine G.nk K3 ?_
 refine G.no rfl ?_
 refine G.skip ?_
 exact G.fin0 [1, 1] (.nil Tryz.results36) ⟨rfl, wa, wc, wn, ls, (if_neg (by first | (rw [‹decide (la ≥ 0) = false›]; intro h; simp at h; done) | (rw [‹decide (lb ≥ 0) = false›]; intro h; simp at h; done) | (rw [‹decide (la < 32) = false›]; intro h; simp at h; done) | (rw [‹decide (lb < 32) = false›]; intro h; simp at h; done))).symm, hll, rfl⟩
 refine G.V 18 (.fa f72_1 1) ?_
 refine G.V 19 (.ld t3 0) ?_
 refine G.V 20 .bin ?_
 refine G.V 21 .pick ?_
 refine G.M 22 ?_
 cases hg5 : (decide (lb ≥ 0) : Bool)
 refine G.O3 23 24 25 ?_
 refine G.V 26 .pick ?_
 refine G.M 27 ?_
 refine G.O3 28 29 30 ?_
 refine G.V 31 .pick ?_
 refine G.nk K3 ?_
 refine G.no rfl ?_
 refine G.skip ?_
 exact G.fin0 [1, 1] (.nil Tryz.results36) ⟨rfl, wa, wc, wn, ls, (if_neg (by first | (rw [‹decide (la ≥ 0) = false›]; intro h; simp at h; done) | (rw [‹decide (lb ≥ 0) = false›]; intro h; simp at h; done) | (rw [‹decide (la < 32) = false›]; intro h; simp at h; done) | (rw [‹decide (lb < 32) = false›]; intro h; simp at h; done))).symm, hll, rfl⟩
 refine G.V 23 (.fa f72_0 0) ?_
 refine G.V 24 (.ld t3 0) ?_
 refine G.V 25 .bin ?_
 refine G.V 26 .pick ?_
 refine G.M 27 ?_
 cases hg6 : (decide (la < 32) : Bool)
 refine G.O3 28 29 30 ?_
 refine G.V 31 .pick ?_
 refine G.nk K3 ?_
 refine G.no rfl ?_
 refine G.skip ?_
 exact G.fin0 [1, 1] (.nil Tryz.results36) ⟨rfl, wa, wc, wn, ls, (if_neg (by first | (rw [‹decide (la ≥ 0) = false›]; intro h; simp at h; done) | (rw [‹decide (lb ≥ 0) = false›]; intro h; simp at h; done) | (rw [‹decide (la < 32) = false›]; intro h; simp at h; done) | (rw [‹decide (lb < 32) = false›]; intro h; simp at h; done))).symm, hll, rfl⟩
 refine G.V 28 (.fa f72_1 1) ?_
 refine G.V 29 (.ld t3 0) ?_
 refine G.V 30 .bin ?_
 refine G.V 31 .pick ?_
 refine G.nk K3 ?_
 refine G.cond rfl (fun hc31 => ?_) (fun hc31 => ?_)
 refine G.sr fun _ K7 => ?_
 refine G.M4 32 33 34 35 ?_
 refine G.V 36 (.build z72 p72 (cs := #[.int .i64 (IntKind.i64.wrap (16 + la)), .int .i64 (IntKind.i64.wrap (16 + lb))]) (hf := by kernel_rfl)) ?_
 refine G.callv 37 [1, 1] [0]  e35 (w_join gw ub un uc p tm us hul hun wa wn wc ls hll (by omega) (IntKind.i64.wrap (16 + la)) (IntKind.i64.wrap (16 + lb))) ?_
 rintro _ _ ⟨rfl, wa1, wc1, wn1, l1, hJ1, hl1, rfl⟩
 have hb1 : wn1 ≤ wn + 1 := by have := joinL_len us ls (IntKind.i64.wrap (16 + la)) (IntKind.i64.wrap (16 + lb)); rw [← hJ1] at this; omega
 refine G.nk K7 ?_
 refine G.region ?_
 refine G.M4 38 39 40 41 ?_
 refine G.V 42 (.build z72 p72 (cs := #[.int .i64 (IntKind.i64.wrap (16 + lb)), .int .i64 (IntKind.i64.wrap (16 + la))]) (hf := by kernel_rfl)) ?_
 refine G.callv 43 [0, 0] [0]  e35 (w_join gw ub un uc p tm us hul hun wa1 wn1 wc1 l1 hl1 (by omega) (IntKind.i64.wrap (16 + lb)) (IntKind.i64.wrap (16 + la))) ?_
 rintro _ _ ⟨rfl, wa2, wc2, wn2, l2, hJ2, hl2, rfl⟩
 have hb2 : wn2 ≤ wn1 + 1 := by have := joinL_len us l1 (IntKind.i64.wrap (16 + lb)) (IntKind.i64.wrap (16 + la)); rw [← hJ2] at this; omega
 refine G.nil ?_
 exact G.fin0 [0, 0] (.nil Tryz.results36) ⟨rfl, wa2, wc2, wn2, l2, by rw [hJ2, hJ1]; exact (if_pos (by rw [‹decide (la ≥ 0) = true›, ‹decide (lb ≥ 0) = true›, ‹decide (la < 32) = true›, ‹decide (lb < 32) = true›]; rfl)).symm, hl2, rfl⟩
 refine G.skip ?_
 exact G.fin0 [1, 1] (.nil Tryz.results36) ⟨rfl, wa, wc, wn, ls, (if_neg (by first | (rw [‹decide (la ≥ 0) = false›]; intro h; simp at h; done) | (rw [‹decide (lb ≥ 0) = false›]; intro h; simp at h; done) | (rw [‹decide (la < 32) = false›]; intro h; simp at h; done) | (rw [‹decide (lb < 32) = false›]; intro h; simp at h; done))).symm, hll, rfl⟩
theorem e61 : Is prog 61 := ⟨_, func61, by kernel_rfl, rfl⟩
theorem f81_3 : tfield prog 81 3 = some 3 := by kernel_rfl
theorem t79 : tsz prog 79 = some (false, 1) := by kernel_rfl
theorem lane_rowL (g : Nat) (k : Int) (h : k < 0) : Spec prog 70 [.pointer (some ⟨g, 0, none⟩), .int .i64 k] [] [] (fun v Ln => v = .pointer none ∧ Ln = []) := by
 refine Spec.en func70 ntmps70 fun w0 => ?_
 refine G.sr fun _ K1 => ?_
 refine G.M 4 ?_
 refine G.nk K1 ?_
 refine G.Z fun _ K2 => ?_
 refine G.sr fun _ K3 => ?_
 refine G.M 5 ?_
 refine G.V 6 (.isnil q79) ?_
 refine G.M2 7 8 ?_
 refine G.V 9 (.cast .bin (bt (by omega))) ?_
 refine G.V 10 .pick ?_
 refine G.M 11 ?_
 refine G.O2 12 13 ?_
 refine G.V 14 .pick ?_
 refine G.nk K3 ?_
 refine G.yes rfl ?_
 refine G.sr fun _ K4 => ?_
 refine G.M 4 ?_
 refine G.nk K4 ?_
 exact G.ret (G.F [] (.one Tryz.results70) ⟨rfl, rfl⟩)
theorem lane_rowH (g : Nat) (k : Int) (h : 48 ≤ k) : Spec prog 70 [.pointer (some ⟨g, 0, none⟩), .int .i64 k] [] [] (fun v Ln => v = .pointer none ∧ Ln = []) := by
 refine Spec.en func70 ntmps70 fun w0 => ?_
 refine G.sr fun _ K1 => ?_
 refine G.M 4 ?_
 refine G.nk K1 ?_
 refine G.Z fun _ K2 => ?_
 refine G.sr fun _ K3 => ?_
 refine G.M 5 ?_
 refine G.V 6 (.isnil q79) ?_
 refine G.M2 7 8 ?_
 refine G.V 9 (.cast .bin (bf (by omega))) ?_
 refine G.V 10 .pick ?_
 refine G.M2 11 12 ?_
 refine G.V 13 (.cast .bin (bt (by omega))) ?_
 refine G.V 14 .pick ?_
 refine G.nk K3 ?_
 refine G.yes rfl ?_
 refine G.sr fun _ K4 => ?_
 refine G.M 4 ?_
 refine G.nk K4 ?_
 exact G.ret (G.F [] (.one Tryz.results70) ⟨rfl, rfl⟩)
theorem lane_row0 (g : Nat) (k : Int) (h : ¬ (0 ≤ k ∧ k < 48)) : Spec prog 70 [.pointer (some ⟨g, 0, none⟩), .int .i64 k] [] [] (fun v Ln => v = .pointer none ∧ Ln = []) := by
 rcases Int.lt_or_le k 0 with q | q
 ·exact lane_rowL g k q
 ·exact lane_rowH g k (by omega)
theorem lanes_push_arg (g : Nat) (k : Int) (cs : List Value) (s : ByteArray) (h : ¬ (0 ≤ k ∧ k < 48)) : Spec prog 61 [.pointer (some ⟨g, 0, none⟩), .int .i64 k, .string s] [blk g cs 153] [] (fun v Ln => v = .int .i64 1 ∧ Ln = [blk g cs 153]) := by
 refine Spec.en func61 ntmps61 fun w0 => ?_
 refine G.sr fun _ K1 => ?_
 refine G.M 6 ?_
 refine G.nk K1 ?_
 refine G.sr fun _ K2 => ?_
 refine G.M2 8 9 ?_
 refine G.cp 10 [] []  e70 (lane_row0 g k h) ?_
 refine G.M 7 ?_
 refine G.nk K2 ?_
 refine G.Z fun _ K3 => ?_
 refine G.block ?_
 refine G.sr fun _ K4 => ?_
 refine G.M 12 ?_
 refine G.V 13 (.isnil q79) ?_
 refine G.M 11 ?_
 refine G.nk K4 ?_
 refine G.no rfl ?_
 refine G.sr fun _ K5 => ?_
 refine G.M 15 ?_
 refine G.V 16 (.isnil q158) ?_
 refine G.M 14 ?_
 refine G.nk K5 ?_
 refine G.yes rfl ?_
 refine G.sr fun _ K6 => ?_
 refine G.M 6 ?_
 refine G.nk K6 ?_
 exact G.ret (G.F [0] (.one Tryz.results61) ⟨rfl, rfl⟩)
def pushQ (qs : Nat → List ByteArray) (k : Int) (s : ByteArray) : Nat → List ByteArray := if (0 ≤ k ∧ k < 48) ∧ s.size ≤ 4096 then upd qs k.toNat (qs k.toNat ++ [s]) else qs
theorem lanes_pushA (g : Nat) (k : Int) (cs : List Value) (qs : Nat → List ByteArray) (hL : Lan cs qs) (s : ByteArray) (hq : ∀ j, (qs j).length < 64) : Spec prog 61 [.pointer (some ⟨g, 0, none⟩), .int .i64 k, .string s] [blk g cs 153] [] (fun v Ln => ∃ e : Int, v = .int .i64 e ∧ ∃ cs', Ln = [blk g cs' 153] ∧ Lan cs' (pushQ qs k s)) := by
 by_cases h : 0 ≤ k ∧ k < 48
 ·obtain ⟨j, rfl⟩ := Int.eq_ofNat_of_zero_le h.1
  by_cases hs : s.size ≤ 4096
  ·refine (lanes_push g j cs qs hL s (by omega) hs (hq j)).mono fun v Ln ⟨h1, cs', h2, h3⟩ => ⟨0, h1, cs', h2, ?_⟩
   unfold pushQ
   rw [if_pos ⟨h, hs⟩]
   exact h3
  ·refine (lanes_push_long g j cs s (by omega) (by omega)).mono fun v Ln ⟨h1, h2⟩ => ⟨3, h1, cs, h2, ?_⟩
   unfold pushQ
   rw [if_neg (fun q => hs q.2)]
   exact hL
 ·refine (lanes_push_arg g k cs s h).mono fun v Ln ⟨h1, h2⟩ => ⟨1, h1, cs, h2, ?_⟩
  unfold pushQ
  rw [if_neg (fun q => h q.1)]
  exact hL
theorem w_PutY (gw ub un uc wn wc : Nat) (wa : Option Addr) (p : Par) (tm : Int) (us : List Uc) (hul : us.length = un) (hun : un ≤ 1000) (a b : Int) (s : ByteArray) (hnd : (us.map (·.who)).Nodup) (j : Nat) (u : Uc) (hx : us[j]? = some u) (hu : u.who = b) (cs : List Value) (qs : Nat → List ByteArray) (hL : Lan cs qs) (hq : ∀ j, (qs j).length < 64) : Spec prog 44 [.pointer (some ⟨gw, 0, none⟩), .agg #[.int .i64 a, .int .i64 b], .string s] [blk u.lb cs 153] [blk gw (pC p [.int .i64 tm, .slice (some ⟨ub, 0, none⟩) un uc, .slice wa wn wc]) 93, row (some ⟨ub, 0, none⟩) uc 81 4 un (ucl us)] (fun v Ln => ∃ e : Int, v = .int .i64 e ∧ ∃ cs', Ln = [blk u.lb cs' 153] ∧ Lan cs' (pushQ qs a s)) := by
 refine Spec.en func44 ntmps44 fun w0 => ?_
 refine G.sr fun _ K1 => ?_
 refine G.mk 4 .bx fun g4 => ?_
 refine G.M 6 ?_
 refine G.nk K1 ?_
 refine G.sr fun _ K2 => ?_
 refine G.M 8 ?_
 refine G.V 9 (.fa f72_1 1) ?_
 refine G.V 10 (.ld t3 0) ?_
 refine G.cp 11 [] [0, 1]  e25 (w_unitY gw ub un uc wn wc wa p tm us hul hun b hnd j u hx hu) ?_
 refine G.M 7 ?_
 refine G.nk K2 ?_
 refine G.Z fun _ K3 => ?_
 refine G.block ?_
 refine G.sr fun _ K4 => ?_
 refine G.M 13 ?_
 refine G.V 14 (.isnil q42) ?_
 refine G.M 12 ?_
 refine G.nk K4 ?_
 refine G.no rfl ?_
 refine G.sr fun _ K5 => ?_
 refine G.M 16 ?_
 refine G.V 17 (.isnil q75) ?_
 refine G.M 15 ?_
 refine G.nk K5 ?_
 refine G.no rfl ?_
 refine G.sk K3 ?_
 refine G.Z fun _ K6 => ?_
 refine G.draw 9 [0] [1] [] ?_
 refine D.V 0 18 1 .mv ?_
 refine D.V 1 19 3 .nc ?_
 refine D.V 2 20 7 (.fa f81_3 (0 + j * 4 + 3)) ?_
 refine D.V 4 22 23 (.fa f72_0 0) ?_
 refine D.V 6 24 87 .mv ?_
 refine D.T 3 21 95 (.ld t79 1 (hv := ucl_cell (i := 3) hx (by decide) rfl)) [0] [1] ?_
 refine D.T 5 23 127 (.ld t3 0) [0] [1] ?_
 refine D.C 7 25 255 [1] [] [0] [1]  e61 (lanes_pushA u.lb a cs qs hL s hq) ?_
 rintro _ _ ⟨e, rfl, cs1, rfl, hL1⟩
 refine D.V 8 6 511 .mv ?_
 refine D.done ?_
 refine K6 _ _ _ ?_
 exact G.ret (G.F [0] (.one Tryz.results44) ⟨e, rfl, cs1, rfl, hL1⟩)
theorem w_PutN (gw ub un uc wn wc : Nat) (wa : Option Addr) (p : Par) (tm : Int) (us : List Uc) (hul : us.length = un) (hun : un ≤ 1000) (a b : Int) (s : ByteArray) (hno : ∀ u ∈ us, u.who ≠ b) : Spec prog 44 [.pointer (some ⟨gw, 0, none⟩), .agg #[.int .i64 a, .int .i64 b], .string s] [] [blk gw (pC p [.int .i64 tm, .slice (some ⟨ub, 0, none⟩) un uc, .slice wa wn wc]) 93, row (some ⟨ub, 0, none⟩) uc 81 4 un (ucl us)] (fun v Ln => v = .int .i64 1 ∧ Ln = []) := by
 refine Spec.en func44 ntmps44 fun w0 => ?_
 refine G.sr fun _ K1 => ?_
 refine G.mk 4 .bx fun g4 => ?_
 refine G.M 6 ?_
 refine G.nk K1 ?_
 refine G.sr fun _ K2 => ?_
 refine G.M 8 ?_
 refine G.V 9 (.fa f72_1 1) ?_
 refine G.V 10 (.ld t3 0) ?_
 refine G.cp 11 [] [0, 1]  e25 (w_unitN gw ub un uc wn wc wa p tm us hul hun b hno) ?_
 refine G.M 7 ?_
 refine G.nk K2 ?_
 refine G.Z fun _ K3 => ?_
 refine G.block ?_
 refine G.sr fun _ K4 => ?_
 refine G.M 13 ?_
 refine G.V 14 (.isnil q42) ?_
 refine G.M 12 ?_
 refine G.nk K4 ?_
 refine G.no rfl ?_
 refine G.sr fun _ K5 => ?_
 refine G.M 16 ?_
 refine G.V 17 (.isnil q75) ?_
 refine G.M 15 ?_
 refine G.nk K5 ?_
 refine G.yes rfl ?_
 refine G.sr fun _ K6 => ?_
 refine G.M 6 ?_
 refine G.nk K6 ?_
 exact G.ret (G.F [] (.one Tryz.results44) ⟨rfl, rfl⟩)
theorem e34 : Is prog 34 := ⟨_, func34, by kernel_rfl, rfl⟩
theorem ucl_set {us : List Uc} {r : List Value} {j : Nat} (u : Uc) (h : j < us.length) : sets (ucl us ++ r) (0 + j * 4) u.cells = ucl (us.set j u) ++ r := flatr_set Uc.cells (fun _ => rfl) u h
theorem ucl_len (us : List Uc) : (ucl us).length = us.length * 4 := flat_len (n := 4) Uc.cells (fun _ => rfl) us
theorem w_BeginG (gw ub un uc wn wc : Nat) (wa : Option Addr) (p : Par) (tm : Int) (us : List Uc) (hul : us.length = un) (hun : un ≤ 1000) (who : Int) (hnd : (us.map (·.who)).Nodup) (j : Nat) (u : Uc) (hx : us[j]? = some u) (hu : u.who = who) (s : Sta) (l : List (Int × Int)) (hl : l.length = s.tl) (hnl : s.tl ≤ 1000) (hw : who < 16) : Spec prog 43 [.pointer (some ⟨gw, 0, none⟩), .int .i64 who, .agg #[.int .i64 s.lo, .int .i64 s.hi, .int .i64 s.time, .bool s.set, .int .i64 s.held, .int .i64 s.hops, .bool s.good, .slice s.ta s.tl s.tc, .int .i64 s.st, .int .i64 s.sn, .int .i64 s.life]] [row (some ⟨ub, 0, none⟩) uc 81 4 un (ucl us)] [blk gw (pC p [.int .i64 tm, .slice (some ⟨ub, 0, none⟩) un uc, .slice wa wn wc]) 93, view s.ta s.tc 174 2 s.tl (spl l)] (fun v Ln => v = .tuple #[] ∧ ∃ gn lb cs s' l2, SanR p s s' ∧ l2.length = s'.tl ∧ goodB l2 = true ∧ Lan cs (fun _ => []) ∧ Ln = [row (some ⟨ub, 0, none⟩) uc 81 4 un (ucl (us.set j ⟨who, 119, gn, lb⟩)), blk gn [.int .i64 p.n, .int .i64 p.f, .int .i64 p.d, .int .i64 p.beat, .int .i64 p.rho, .int .i64 p.delay, .int .i64 p.jitter, .int .i64 p.eps, .int .i64 p.mu, .int .i64 p.hold, .int .i64 p.pulse, .int .i64 p.second, .int .i64 s'.lo, .int .i64 s'.hi, .int .i64 s'.time, .bool s'.set, .int .i64 s'.held, .int .i64 s'.hops, .bool s'.good, .slice s'.ta s'.tl s'.tc, .int .i64 s'.st, .int .i64 s'.sn, .int .i64 s'.life, .int .i64 who] 122, row s'.ta s'.tc 174 2 s'.tl (spl l2), blk lb cs 153]) := by
 refine Spec.en func43 ntmps43 fun w0 => ?_
 refine G.sr fun _ K1 => ?_
 refine G.mk 5 .bx fun g5 => ?_
 refine G.nk K1 ?_
 refine G.sr fun _ K2 => ?_
 refine G.M2 7 8 ?_
 refine G.cp 9 [] [0, 3]  e25 (w_unitY gw ub un uc wn wc wa p tm us hul hun who hnd j u hx hu) ?_
 refine G.M 6 ?_
 refine G.nk K2 ?_
 refine G.sr fun _ K3 => ?_
 refine G.M 10 ?_
 refine G.V 11 (.nonil q75) ?_
 refine G.nk K3 ?_
 refine G.yes rfl ?_
 refine G.openF 1 fun r4 r4x r4r r4n r4m => ?_
 try dsimp only [List.set]
 refine G.region ?_
 refine G.M3 12 13 14 ?_
 refine G.V 15 (.lda t70 0 (vs := [.int .i64 s.lo, .int .i64 s.hi, .int .i64 s.time, .bool s.set, .int .i64 s.held, .int .i64 s.hops, .bool s.good, .slice s.ta s.tl s.tc, .int .i64 s.st, .int .i64 s.sn, .int .i64 s.life])) ?_
 refine G.C 16 [] [0, 1]  e34 (u_gate gw p tm (some ⟨ub, 0, none⟩) wa un uc wn wc who s l hl hnl hw) ?_
 rintro _ _ ⟨gn, lb, cs, s', l2, rfl, hSR, hl2, hg2, hLan, rfl⟩
 refine G.V 17 .nc ?_
 refine G.sto 4 (.st t81 4 (hl := flatr_len Uc.cells (fun _ => rfl) (l := us) (k := j) (List.getElem?_eq_some_iff.1 hx).1)) rfl ?_
 refine G.eqb 4 ((ucl (us.set j ⟨who, 119, gn, lb⟩) ++ r4)) (ucl_set ⟨who, 119, gn, lb⟩ (List.getElem?_eq_some_iff.1 hx).1) ?_
 try dsimp only [List.set]
 refine G.nil ?_
 refine G.close 4 un uc 4 (show (ucl (us.set j ⟨who, 119, gn, lb⟩)).length = un * 4 by rw [ucl_len, List.length_set, hul]) r4r r4n r4m ?_
 try dsimp only [List.set]
 exact G.fin0 [4, 0, 0, 0] (.nil Tryz.results43) ⟨rfl, gn, lb, cs, s', l2, hSR, hl2, hg2, hLan, rfl⟩
theorem w_BeginN (gw ub un uc wn wc : Nat) (wa : Option Addr) (p : Par) (tm : Int) (us : List Uc) (hul : us.length = un) (hun : un ≤ 1000) (who : Int) (hnd : (us.map (·.who)).Nodup) (j : Nat) (u : Uc) (hx : us[j]? = some u) (hu : u.who = who) (s : Sta) (l : List (Int × Int)) (hl : l.length = s.tl) (hnl : s.tl ≤ 1000) (hw : 16 ≤ who) : Spec prog 43 [.pointer (some ⟨gw, 0, none⟩), .int .i64 who, .agg #[.int .i64 s.lo, .int .i64 s.hi, .int .i64 s.time, .bool s.set, .int .i64 s.held, .int .i64 s.hops, .bool s.good, .slice s.ta s.tl s.tc, .int .i64 s.st, .int .i64 s.sn, .int .i64 s.life]] [row (some ⟨ub, 0, none⟩) uc 81 4 un (ucl us)] [blk gw (pC p [.int .i64 tm, .slice (some ⟨ub, 0, none⟩) un uc, .slice wa wn wc]) 93, view s.ta s.tc 174 2 s.tl (spl l)] (fun v Ln => v = .tuple #[] ∧ ∃ gn tb r lb cs s' l2, SanR p s s' ∧ l2.length = s'.tl ∧ goodB l2 = true ∧ Lan cs (fun _ => []) ∧ Ln = [row (some ⟨ub, 0, none⟩) uc 81 4 un (ucl (us.set j ⟨who, 123, gn, lb⟩)), blk gn [.int .i64 p.n, .int .i64 p.f, .int .i64 p.d, .int .i64 p.beat, .int .i64 p.rho, .int .i64 p.delay, .int .i64 p.jitter, .int .i64 p.eps, .int .i64 p.mu, .int .i64 p.hold, .int .i64 p.pulse, .int .i64 p.second, .int .i64 s'.lo, .int .i64 s'.hi, .int .i64 s'.time, .bool s'.set, .int .i64 s'.held, .int .i64 s'.hops, .bool s'.good, .slice s'.ta s'.tl s'.tc, .int .i64 s'.st, .int .i64 s'.sn, .int .i64 s'.life, .int .i64 who, .pointer (some ⟨tb, 0, none⟩)] 127, row s'.ta s'.tc 174 2 s'.tl (spl l2), blk tb [.map (some r)] 193, nmap r [] 0, blk lb cs 153]) := by
 refine Spec.en func43 ntmps43 fun w0 => ?_
 refine G.sr fun _ K1 => ?_
 refine G.mk 5 .bx fun g5 => ?_
 refine G.nk K1 ?_
 refine G.sr fun _ K2 => ?_
 refine G.M2 7 8 ?_
 refine G.cp 9 [] [0, 3]  e25 (w_unitY gw ub un uc wn wc wa p tm us hul hun who hnd j u hx hu) ?_
 refine G.M 6 ?_
 refine G.nk K2 ?_
 refine G.sr fun _ K3 => ?_
 refine G.M 10 ?_
 refine G.V 11 (.nonil q75) ?_
 refine G.nk K3 ?_
 refine G.yes rfl ?_
 refine G.openF 1 fun r4 r4x r4r r4n r4m => ?_
 try dsimp only [List.set]
 refine G.region ?_
 refine G.M3 12 13 14 ?_
 refine G.V 15 (.lda t70 0 (vs := [.int .i64 s.lo, .int .i64 s.hi, .int .i64 s.time, .bool s.set, .int .i64 s.held, .int .i64 s.hops, .bool s.good, .slice s.ta s.tl s.tc, .int .i64 s.st, .int .i64 s.sn, .int .i64 s.life])) ?_
 refine G.C 16 [] [0, 1]  e34 (u_node gw p tm (some ⟨ub, 0, none⟩) wa un uc wn wc who s l hl hnl hw) ?_
 rintro _ _ ⟨gn, tb, r, lb, cs, s', l2, rfl, hSR, hl2, hg2, hLan, rfl⟩
 refine G.V 17 .nc ?_
 refine G.sto 6 (.st t81 6 (hl := flatr_len Uc.cells (fun _ => rfl) (l := us) (k := j) (List.getElem?_eq_some_iff.1 hx).1)) rfl ?_
 refine G.eqb 6 ((ucl (us.set j ⟨who, 123, gn, lb⟩) ++ r4)) (ucl_set ⟨who, 123, gn, lb⟩ (List.getElem?_eq_some_iff.1 hx).1) ?_
 try dsimp only [List.set]
 refine G.nil ?_
 refine G.close 6 un uc 4 (show (ucl (us.set j ⟨who, 123, gn, lb⟩)).length = un * 4 by rw [ucl_len, List.length_set, hul]) r4r r4n r4m ?_
 try dsimp only [List.set]
 exact G.fin0 [6, 0, 0, 0, 0, 0] (.nil Tryz.results43) ⟨rfl, gn, tb, r, lb, cs, s', l2, hSR, hl2, hg2, hLan, rfl⟩
theorem w_Begin0 (gw ub un uc wn wc : Nat) (wa : Option Addr) (p : Par) (tm : Int) (us : List Uc) (hul : us.length = un) (hun : un ≤ 1000) (who : Int) (hno : ∀ u ∈ us, u.who ≠ who) (s : Sta) : Spec prog 43 [.pointer (some ⟨gw, 0, none⟩), .int .i64 who, .agg #[.int .i64 s.lo, .int .i64 s.hi, .int .i64 s.time, .bool s.set, .int .i64 s.held, .int .i64 s.hops, .bool s.good, .slice s.ta s.tl s.tc, .int .i64 s.st, .int .i64 s.sn, .int .i64 s.life]] [] [blk gw (pC p [.int .i64 tm, .slice (some ⟨ub, 0, none⟩) un uc, .slice wa wn wc]) 93, row (some ⟨ub, 0, none⟩) uc 81 4 un (ucl us)] (fun v Ln => v = .tuple #[] ∧ Ln = []) := by
 refine Spec.en func43 ntmps43 fun w0 => ?_
 refine G.sr fun _ K1 => ?_
 refine G.mk 5 .bx fun g5 => ?_
 refine G.nk K1 ?_
 refine G.sr fun _ K2 => ?_
 refine G.M2 7 8 ?_
 refine G.cp 9 [] [0, 1]  e25 (w_unitN gw ub un uc wn wc wa p tm us hul hun who hno) ?_
 refine G.M 6 ?_
 refine G.nk K2 ?_
 refine G.sr fun _ K3 => ?_
 refine G.M 10 ?_
 refine G.V 11 (.nonil q75) ?_
 refine G.nk K3 ?_
 refine G.no rfl ?_
 refine G.skip ?_
 exact G.fin0 [] (.nil Tryz.results43) ⟨rfl, rfl⟩
end Go.Proofs.YtbmhgopjblnfnaaGreat.S
namespace Go.Proofs.YtbmhgopjblnfnaaGreat.S
open Go Go.RowKit Go.Proofs.YtbmhgopjblnfnaaGreatW.PrintLast Tryz
def tmeth (P : Program) (t : TypeId) (name : String) : Option FuncId := match P.info? t, P.underlying t with
 | some i, some (.pointer _) => (match i.methods.find? (·.name == name) with
  | some m => (match m.path.toList, m.func with
   | [], some (f, true) => some f
   | _, _ => none)
  | none => none)
 | _, _ => none
section
variable {P : Program} {Q : Exit → Act → World → Prop} {c : Ctx} {m : Sl} {L R : List Ent} {ops : Array Oper} {o : Oper} {rest : List Oper} {Ls Rs : List Ent} {ds : List Nat} {fuel n k0 : Nat}
theorem run_meth {t : TypeId} {name : String} {f : FuncId} (h : tmeth P t name = some f) (v : Value) (w : World) : (method (P.types.size + Made.depth) t v name).run P w = .ok (f, v) w := by
 unfold tmeth at h
 split at h
 ·next i e hi hu =>
  split at h
  ·next m hm =>
   split at h
   ·next f' hp hf =>
    cases h
    show (method ((P.types.size + 99) + 1) t v name).run P w = _
    unfold method
    have ht : (typeInfo t).run P w = .ok i w := by simp [typeInfo, hi, go_sem]
    rw [run_bind_ok ht]
    simp only [hm]
    have hfo : (follow m.path.toList t (.val v)).run P w = .ok (t, .val v) w := by rw [hp]; rfl
    show ((follow m.path.toList t (.val v)) >>= _).run P w = _
    rw [run_bind_ok hfo]
    simp only [hf]
    have hre : ∀ q, (receiverAt t (.val v) true q).run P w = .ok v w := by
     intro q
     unfold receiverAt
     rw [run_bind_ok (run_underlying hu w)]
     rfl
    rw [run_bind_ok (hre _)]
    rfl
   ·cases h
  ·cases h
 ·cases h
theorem run_enteri {P : Program} {o : Oper} {f : FuncId} {t : TypeId} {name : String} {x : Operand} {ys : Array Operand} {ts : Array TypeId} {args : List Value} {v : Value} {a : Act} (hm : tmeth P t name = some f) (hf : Is P f) (hop : o.op = .call { callee := .invoke x name, args := ys, argTypes := ts }) (hx : a.eval x = .iface t v) (hargs : ys.toList.map a.eval = args) (w : World) : (execOp a.eval o).run P w = .ok (.enter f (v :: args).toArray) w := by
 obtain ⟨fn, h1, h2, h3⟩ := hf
 have he := enters_ h1 h2 h3 (v :: args).toArray w
 have ha : ys.map a.eval = args.toArray := by rw [← hargs]; apply Array.ext'; simp
 generalize a.eval = ρ at hx ha
 unfold execOp
 simp only [hop]
 have h5 : (resolve ρ { callee := .invoke x name, args := ys, argTypes := ts } o.type).run P w = .ok { target := .fn (.method name) #[], args := #[.iface t v] ++ args.toArray } w := by
  unfold resolve
  simp only [hx, ha]
  rfl
 rw [run_bind_ok h5]
 have h6 : (#[Value.iface t v] ++ args.toArray).extract 1 (#[Value.iface t v] ++ args.toArray).size = args.toArray := by
  apply Array.ext'
  simp
 have hg : (#[Value.iface t v] ++ args.toArray)[0]? = some (Value.iface t v) := by simp
 show (invoke (.fn (.method name) #[]) (#[Value.iface t v] ++ args.toArray)).run P w = _
 unfold invoke
 simp only [hg]
 rw [h6]
 unfold callMethod
 have hp : (program).run P w = .ok P w := rfl
 show ((program >>= _) : Sem Next).run P w = _
 rw [run_bind_ok hp, run_bind_ok (run_meth hm v w)]
 show (callFunc f (#[v] ++ args.toArray)).run P w = _
 rw [show #[v] ++ args.toArray = (v :: args).toArray from by apply Array.ext'; simp]
 exact he
theorem D.calli (i N k : Nat) (is qs ls rs : List Nat) {f : FuncId} {t : TypeId} {name : String} {ys : Array Operand} {ts : Array TypeId} {args all : List Value} {x : Operand} {v : Value} {Lf Lr Rf : List Ent} {post : Value → List Ent → Prop} (hm : tmeth P t name = some f) (hf : Is P f) (sp : Spec P f all Lf Rf post) (h : ∀ v Ln, post v Ln → G c ((N, v) :: m) (Ln ++ Lr) R (D P ops Q Ls Rs ds fuel n k)) (hop : (opAt ops i).op = .call { callee := .invoke x name, args := ys, argTypes := ts } := by rfl) (hx : S.ev m x = some (.iface t v) := by rfl) (hargs : evs m ys.toList = some args := by rfl) (hall : v :: args = all := by rfl) (hp : pick is L = some (Lf, Lr) := by rfl) (hR : sub (R ++ Lr) qs = some Rf := by rfl) (h1 : sub Lr ls = some Ls := by rfl) (h2 : sub R rs = some Rs := by rfl) (hi : i.blt ops.size = true := by rfl) (hd : (opAt ops i).dst = some N := by rfl) (hN : N.blt c.n = true := by rfl) (hw : wants ops m (opAt ops i) = some true := by rfl) (hc : readyB .any ops (bs n k0) (bs n k) i = true := by kernel_rfl) (hn : i ∉ ds := by decide) : G c m L R (D P ops Q Ls Rs ds (fuel + 1) n k0) := fun a w ok =>
 one_ (bs n k) (opAt_spec hi) hd hc hn fun K hK => by
  rw [if_pos (wants_yes ok.m hw)]
  unfold Oper.wp
  rw [run_enteri hm hf hop (ok.m.ev hx) (ok.m.evs hargs) w, hall, Oper.upon_enter]
  refine (St.spec sp ok.st (pick_perm hp) (fun e he => List.mem_append.1 (sub_mem hR e he))).mono fun e w' q => ?_
  obtain ⟨v, Ln, rfl, hpost, st⟩ := St.called ok.st (pick_perm hp) q
  dsimp only
  rw [hd]
  have ok' := (ok.put v (blt hN)).world st
  exact hK.out _ _ (Hd.sub h1 h2 ⟨fun e he => st.l e (List.mem_append_right _ he), st.r⟩) fun _ => h v Ln hpost _ _ ok'
end
theorem meth119 : tmeth prog 119 "Beat" = some 113 := by kernel_rfl
theorem meth123 : tmeth prog 123 "Beat" = some 173 := by kernel_rfl
def manyE (l : List Ent) : Ent where
 own := ids l
 H w := ∀ e ∈ l, e.H w
 loc w w' h hw e he := e.loc w w' (fun k hk => h k (mem_ids.2 ⟨e, he, hk⟩)) (hw e he)
 lt w hw k hk := by
  obtain ⟨e, he, hk'⟩ := mem_ids.1 hk
  exact e.lt w (hw e he) k hk'
theorem ids_many (l L : List Ent) : ids (manyE l :: L) = ids (l ++ L) := by rw [ids_cons, ids_append]; rfl
theorem St.unmany {w0 w : World} {F : List Nat} {l L R : List Ent} (h : St w0 F w (manyE l :: L) R) : St w0 F w (l ++ L) R := by
 have e := ids_many l L
 refine ⟨h.fr, fun x hx => ?_, h.r, by rw [← e]; exact h.nd, fun k hk => h.lr k (by rw [e]; exact hk), fun k hk => h.own k (by rw [e]; exact hk)⟩
 rcases List.mem_append.1 hx with q | q
 ·exact h.l (manyE l) (List.mem_cons_self ..) x q
 ·exact h.l x (List.mem_cons_of_mem _ q)
theorem St.many {w0 w : World} {F : List Nat} {l L R : List Ent} (h : St w0 F w (l ++ L) R) : St w0 F w (manyE l :: L) R := by
 have e := ids_many l L
 refine ⟨h.fr, fun x hx => ?_, h.r, by rw [e]; exact h.nd, fun k hk => h.lr k (by rw [← e]; exact hk), fun k hk => h.own k (by rw [← e]; exact hk)⟩
 rcases List.mem_cons.1 hx with rfl | q
 ·exact fun x hx => h.l x (List.mem_append_left _ hx)
 ·exact h.l x (List.mem_append_right _ q)
section
variable {c : Ctx} {m : Sl} {l L R : List Ent} {X : Act → World → Prop}
theorem G.unmany (g : G c m (l ++ L) R X) : G c m (manyE l :: L) R X := fun a w ok => g a w (ok.world ok.st.unmany)
theorem G.pull (j : Nat) {e : Ent} (hj : l[j]? = some e) (g : G c m (e :: manyE (l.eraseIdx j) :: L) R X) : G c m (manyE l :: L) R X := by
 refine G.unmany (G.perm (M := (l.eraseIdx j ++ L) ++ [e]) ?_ (G.perm (M := e :: (l.eraseIdx j ++ L)) ?_ ?_))
 ·refine ((perm_front hj).append_right L).trans ?_
  exact (List.perm_append_comm (l₁ := [e]) (l₂ := l.eraseIdx j ++ L))
 ·exact (List.perm_append_comm (l₁ := l.eraseIdx j ++ L) (l₂ := [e]))
 ·intro a w ok
  have st := ok.st
  have p : (e :: (l.eraseIdx j ++ L)).Perm (l.eraseIdx j ++ (L ++ [e])) := by
   rw [← List.append_assoc]
   exact List.perm_append_comm (l₁ := [e]) (l₂ := l.eraseIdx j ++ L)
  have st2 := (st.perm p).many
  have q : (manyE (l.eraseIdx j) :: (L ++ [e])).Perm (e :: manyE (l.eraseIdx j) :: L) := List.perm_append_comm (l₁ := manyE (l.eraseIdx j) :: L) (l₂ := [e])
  exact g a w (ok.world (st2.perm q))
theorem G.back (j : Nat) {e e' : Ent} (hj : l[j]? = some e) (g : G c m (manyE (l.set j e') :: L) R X) : G c m (e' :: manyE (l.eraseIdx j) :: L) R X := fun a w ok => by
 have q : (e' :: manyE (l.eraseIdx j) :: L).Perm (manyE (l.eraseIdx j) :: (L ++ [e'])) := List.perm_append_comm (l₁ := [e']) (l₂ := manyE (l.eraseIdx j) :: L)
 have st2 := (ok.st.perm q).unmany
 have p : (l.eraseIdx j ++ (L ++ [e'])).Perm (l.set j e' ++ L) := by
  refine (List.Perm.trans ?_ ((perm_set hj e').append_right L))
  rw [← List.append_assoc]
  exact List.perm_append_comm (l₁ := l.eraseIdx j ++ L) (l₂ := [e'])
 exact g a w (ok.world (st2.perm p).many)
end
def lanE (lb : Nat) (qs : Nat → List ByteArray) : Ent where
 own := [lb]
 H w := ∃ cs, (blk lb cs 153).H w ∧ Lan cs qs
 loc w w' h hw := by
  obtain ⟨cs, h1, h2⟩ := hw
  exact ⟨cs, (blk lb cs 153).loc w w' h h1, h2⟩
 lt w hw k hk := by
  obtain ⟨cs, h1, h2⟩ := hw
  exact (blk lb cs 153).lt w h1 k hk
section
variable {c : Ctx} {m : Sl} {L R : List Ent} {X : Act → World → Prop}
theorem G.lanOpen (i : Nat) {lb : Nat} {qs : Nat → List ByteArray} (h : ∀ cs, Lan cs qs → G c m (L.set i (blk lb cs 153)) R X) (hi : L[i]? = some (lanE lb qs) := by rfl) : G c m L R X :=
 G.alter (e := lanE lb qs) (ι := { cs : List Value // Lan cs qs }) i (fun j => blk lb j.1 153) (fun w ⟨cs, h1, h2⟩ => ⟨⟨cs, h2⟩, h1⟩) (fun _ => rfl) (fun j => h j.1 j.2) hi
theorem G.lanClose (i : Nat) {lb : Nat} {cs : List Value} {qs : Nat → List ByteArray} (hL : Lan cs qs) (h : G c m (L.set i (lanE lb qs)) R X) (hi : L[i]? = some (blk lb cs 153) := by rfl) : G c m L R X :=
 G.alter (e := blk lb cs 153) (ι := Unit) i (fun _ => lanE lb qs) (fun w h1 => ⟨(), cs, h1, hL⟩) (fun _ => rfl) (fun _ => h) hi
end
end Go.Proofs.YtbmhgopjblnfnaaGreat.S
namespace Go.Proofs.YtbmhgopjblnfnaaGreat.S
open Go Go.Proofs Go.RowKit Go.Proofs.YtbmhgopjblnfnaaGreatW.PrintLast Tryz
theorem e60 : Is prog 60 := ⟨_, func60, by kernel_rfl, rfl⟩
theorem f65_3 : tfield prog 65 3 = some 3 := by kernel_rfl
theorem f65_4 : tfield prog 65 4 = some 4 := by kernel_rfl
theorem f74_0 : tfield prog 74 0 = some 0 := by kernel_rfl
theorem f74_1 : tfield prog 74 1 = some 2 := by kernel_rfl
theorem s27 : tslice prog 27 = some (74, 3) := by kernel_rfl
theorem t27 : tsz prog 27 = some (false, 1) := by kernel_rfl
theorem t74 : tsz prog 74 = some (true, 3) := by kernel_rfl
theorem z74 : tzero prog 74 = some [.int .i64 0, .int .i64 0, .string ByteArray.empty] := by kernel_rfl
structure Li where
 a : Int
 b : Int
 s : ByteArray
def Li.cells (x : Li) : List Value := [.int .i64 x.a, .int .i64 x.b, .string x.s]
def lil (l : List Li) : List Value := l.flatMap Li.cells
theorem lil_at {l : List Li} {k : Nat} {x : Li} (h : l[k]? = some x) : ((lil l).drop (0 + k * 3)).take 3 = x.cells := by rw [Nat.zero_add]; exact flat_at Li.cells (fun _ => rfl) h
def text1 (who a b : Int) (t : ByteArray) (x : Li) : ByteArray := if ((x.a == a && x.b == b) && decide (who < 16)) = true then x.s else t
def textL (who a b : Int) (lies : List Li) (t : ByteArray) : ByteArray := lies.foldl (text1 who a b) t
theorem textL_take {who a b : Int} {lies : List Li} {t : ByteArray} {k : Nat} {x : Li} (h : lies[k]? = some x) : textL who a b (lies.take (k + 1)) t = text1 who a b (textL who a b (lies.take k) t) x := by
 unfold textL; rw [List.take_add_one, h, List.foldl_append]; rfl
abbrev Qs := Nat → Nat → List ByteArray
def lanL : List Uc → Nat → Qs → List Ent
 | [], _, _ => []
 | u :: us, j, q => lanE u.lb (q j) :: lanL us (j + 1) q
theorem lanL_at : ∀ {us : List Uc} {i j : Nat} {q : Qs} {u : Uc}, us[j]? = some u → (lanL us i q)[j]? = some (lanE u.lb (q (i + j)))
 | [], i, j, q, u, h => by simp at h
 | v :: us, i, 0, q, u, h => by
  obtain rfl : v = u := by simpa using h
  rfl
 | v :: us, i, j + 1, q, u, h => by
  have := lanL_at (us := us) (i := i + 1) (j := j) (q := q) (u := u) (by simpa using h)
  rw [show i + (j + 1) = i + 1 + j from by omega]
  exact this
theorem lanL_congr : ∀ {us : List Uc} {i : Nat} {q q' : Qs}, (∀ k, i ≤ k → q k = q' k) → lanL us i q = lanL us i q'
 | [], i, q, q', h => rfl
 | u :: us, i, q, q', h => by
  show lanE u.lb (q i) :: lanL us (i + 1) q = lanE u.lb (q' i) :: lanL us (i + 1) q'
  rw [h i (Nat.le_refl _), lanL_congr (fun k hk => h k (by omega))]
theorem lanL_set : ∀ {us : List Uc} {i j : Nat} {q : Qs} {u : Uc} (x : Nat → List ByteArray), us[j]? = some u → (lanL us i q).set j (lanE u.lb x) = lanL us i (fun k => if k = i + j then x else q k)
 | [], i, j, q, u, x, h => by simp at h
 | v :: us, i, 0, q, u, x, h => by
  obtain rfl : v = u := by simpa using h
  show lanE v.lb x :: lanL us (i + 1) q = lanE v.lb (if i = i + 0 then x else q i) :: lanL us (i + 1) _
  rw [if_pos (Nat.add_zero i).symm, lanL_congr (us := us) (i := i + 1) (q := fun k => if k = i + 0 then x else q k) (q' := q) (fun k hk => if_neg (by omega))]
 | v :: us, i, j + 1, q, u, x, h => by
  have := lanL_set (us := us) (i := i + 1) (j := j) (q := q) (u := u) x (by simpa using h)
  show lanE v.lb (q i) :: (lanL us (i + 1) q).set j (lanE u.lb x) = lanE v.lb (if i = i + (j + 1) then x else q i) :: lanL us (i + 1) _
  rw [this, if_neg (by omega), show i + 1 + j = i + (j + 1) from by omega]
def ixU (us : List Uc) (b : Int) : Nat := us.findIdx fun u => u.who == b
def send1 (us : List Uc) (who : Int) (lies : List Li) (fr : ByteArray) (q : Qs) (y : Int × Int) : Qs := if (y.1 != who) = true then q else fun k => if k = 0 + ixU us y.2 then pushQ (q (0 + ixU us y.2)) who (textL who y.1 y.2 lies fr) else q k
def sendQ (us : List Uc) (who : Int) (lies : List Li) (fr : ByteArray) (ls : List (Int × Int)) (q : Qs) : Qs := ls.foldl (send1 us who lies fr) q
theorem sendQ_take {us : List Uc} {who : Int} {lies : List Li} {fr : ByteArray} {ls : List (Int × Int)} {q : Qs} {k : Nat} {y : Int × Int} (h : ls[k]? = some y) : sendQ us who lies fr (ls.take (k + 1)) q = send1 us who lies fr (sendQ us who lies fr (ls.take k) q) y := by
 unfold sendQ; rw [List.take_add_one, h, List.foldl_append]; rfl
theorem ixU_at {us : List Uc} {b : Int} (h : hasW us b = true) : ∃ u, us[ixU us b]? = some u ∧ u.who = b := by
 have h1 : ixU us b < us.length := List.findIdx_lt_length.2 (by unfold hasW at h; simpa using h)
 exact ⟨us[ixU us b], List.getElem?_eq_getElem h1, by have := List.findIdx_getElem (w := h1); unfold ixU; simpa using this⟩
theorem w_send (gw ub un uc : Nat) (p : Par) (tm : Int) (us : List Uc) (hul : us.length = un) (hun : un ≤ 1000) (hnd : (us.map (·.who)).Nodup) (wa : Option Addr) (wn wc : Nat) (ls : List (Int × Int)) (hll : ls.length = wn) (hln : wn ≤ 90000) (who : Int) (m : Ms) (l : List (Int × Int)) (hl : l.length = m.tl) (hnl : m.tl ≤ 1000) (ta ra ga qa : Option Addr) (tn tc rn rc gn gc qn qc : Nat) (lies : List Li) (hql : lies.length = qn) (hqn : qn ≤ 100000) (q : Qs) (hreach : ∀ y ∈ ls, y.1 = who → hasW us y.2 = true) (hfit : ∀ k, k < wn → ∀ (fr : ByteArray) (b : Nat) (q1 : Qs), q1 = sendQ us who lies fr (ls.take k) q → ∀ j, (q1 b j).length < 64) : Spec prog 40 [.pointer (some ⟨gw, 0, none⟩), .int .i64 who, .agg #[.int .i64 m.kind, .int .i64 m.src, .int .i64 m.lo, .int .i64 m.hi, .int .i64 m.held, .int .i64 m.hops, .bool m.good, .bool m.ref, .int .i64 m.slo, .int .i64 m.shi, .int .i64 m.pulse, .int .i64 m.st, .int .i64 m.sn, .slice m.ta m.tl m.tc], .agg #[.slice ta tn tc, .slice ra rn rc, .slice ga gn gc, .slice none 0 0, .slice qa qn qc, .slice none 0 0, .slice none 0 0, .slice none 0 0]] [manyE (lanL us 0 q)] [blk gw (pC p [.int .i64 tm, .slice (some ⟨ub, 0, none⟩) un uc, .slice wa wn wc]) 93, row (some ⟨ub, 0, none⟩) uc 81 4 un (ucl us), row wa wc 72 2 wn (spl ls), row m.ta m.tc 174 2 m.tl (spl l), row qa qc 74 3 qn (lil lies)] (fun v Ln => v = .tuple #[] ∧ ∃ fr, (goodM m l = true → fr = encF m l ∧ True) ∧ (goodM m l = false → fr = ⟨#[]⟩ ∧ True) ∧ Ln = [manyE (lanL us 0 (sendQ us who lies fr ls q))]) := by
 refine Spec.en func40 ntmps40 fun w0 => ?_
 refine G.sr fun _ K1 => ?_
 refine G.mk 6 .bx fun g6 => ?_
 refine G.mk 7 .bx fun g7 => ?_
 refine G.nk K1 ?_
 refine G.sr fun _ K2 => ?_
 refine G.V 16 (.lda t107 1 (vs := [.int .i64 m.kind, .int .i64 m.src, .int .i64 m.lo, .int .i64 m.hi, .int .i64 m.held, .int .i64 m.hops, .bool m.good, .bool m.ref, .int .i64 m.slo, .int .i64 m.shi, .int .i64 m.pulse, .int .i64 m.st, .int .i64 m.sn, .slice m.ta m.tl m.tc])) ?_
 refine G.C 17 [] [3]  e60 (w_Encode m l hl hnl) ?_
 rintro _ _ ⟨fr, er, rfl, hfr0, hfn0, rfl⟩
 have hfr : goodM m l = true → fr = encF m l ∧ True := fun h => ⟨(hfr0 h).1, trivial⟩
 have hfn : goodM m l = false → fr = ⟨#[]⟩ ∧ True := fun h => ⟨(hfn0 h).1, trivial⟩
 refine G.M 15 ?_
 refine G.V 18 .ext ?_
 refine G.V 19 .ext ?_
 refine G.M2 8 9 ?_
 refine G.nil ?_
 refine G.newRow 72 2 ?_
 refine K2 _ _ _ ?_
 refine G.sr fun _ K3 => ?_
 refine G.M 20 ?_
 refine G.V 21 .nc ?_
 refine G.V 22 (.fa f93_3 14) ?_
 refine G.V 23 (.ld t25 4) ?_
 refine G.V 24 (.lenl s25) ?_
 refine G.M 25 ?_
 refine G.nk K3 ?_
 refine G.block ?_
 refine G.only [3, 0, 0] ?_
 refine G.lpR (ι := {z : Nat × Nat × Qs // z.1 ≤ wn ∧ z.2.2 = sendQ us who lies fr (ls.take z.1) q}) (fun ⟨⟨k, g7, q1⟩, hj, hq1⟩ => wn - k) (fun ⟨⟨k, g7, q1⟩, hj, hq1⟩ => [(0, .pointer (some ⟨gw, 0, none⟩)), (1, .int .i64 who), (7, .pointer (some ⟨g7, 0, none⟩)), (8, .string fr), (23, .slice wa wn wc), (24, .int .i64 (wn : Int)), (25, .int .i64 (k : Int))]) (fun ⟨⟨k, g7, q1⟩, hj, hq1⟩ => [manyE (lanL us 0 q1), row none 0 72 2 0 ([]), blk g7 [.slice ta tn tc, .slice ra rn rc, .slice ga gn gc, .slice none 0 0, .slice qa qn qc, .slice none 0 0, .slice none 0 0, .slice none 0 0] 65]) ?_ ?_
 exact G.at ⟨(0, g7, q), Nat.zero_le _, rfl⟩ (ts := [0, 1, 7, 8, 23, 24, 25]) rfl rfl rfl rfl
 rintro ⟨⟨k, g7, q1⟩, hj, hq1⟩ _ K4
 try dsimp only at K4 ⊢
 try dsimp only at hj hq1
 refine G.sr fun _ K5 => ?_
 refine G.V 26 .bin ?_
 refine G.nk K5 ?_
 refine G.Z fun _ K6 => ?_
 refine G.cond rfl (fun hc26 => ?_) (fun hc26 => ?_)
 have hk : k < wn := by have := of_decide_eq_true hc26; omega
 obtain ⟨y, hy⟩ : ∃ y, ls[k]? = some y := ⟨_, List.getElem?_eq_getElem (by omega)⟩
 refine G.sk K6 ?_
 refine G.Z fun _ K7 => ?_
 refine G.block ?_
 refine G.Z fun _ K8 => ?_
 refine G.base 5 (show 0 < wn by omega) fun b9 hb_ => ?_
 subst hb_
 refine G.region ?_
 refine G.V 27 (.is s25 k hk) ?_
 refine G.V 28 (.lda t72 5 (hv := spl_at hy)) ?_
 refine G.mk 11 (.al z72) fun g11 => ?_
 refine G.sn 0 (.st t72 0) rfl ?_
 refine G.nk K8 ?_
 refine G.sr fun _ K10 => ?_
 refine G.M2 29 12 ?_
 refine G.nk K10 ?_
 refine G.Z fun _ K11 => ?_
 refine G.sr fun _ K12 => ?_
 refine G.V 30 (.fa f72_0 0) ?_
 refine G.V 31 (.ld t3 0) ?_
 refine G.M 32 ?_
 refine G.V 33 .bin ?_
 refine G.M 34 ?_
 cases hg13 : (y.1 != who : Bool)
 refine G.V 35 (.fa f65_3 3) ?_
 refine G.V 36 (.ld t25 3) ?_
 refine G.V 37 (.lda t72 0 (vs := [.int .i64 y.1, .int .i64 y.2])) ?_
 refine G.cp 38 [] [7]  e54 (y_Contains none 0 0 [] rfl (by omega) y.1 y.2) ?_
 refine G.V 39 .pick ?_
 refine G.nk K12 ?_
 refine G.no rfl ?_
 refine G.sk K11 ?_
 refine G.Z fun _ K14 => ?_
 refine G.sr fun _ K15 => ?_
 refine G.V 40 (.fa f65_4 4) ?_
 refine G.V 41 (.ld t27 3) ?_
 refine G.V 42 (.lenl s27) ?_
 refine G.M 43 ?_
 refine G.nk K15 ?_
 refine G.block ?_
 refine G.only [1, 0, 0, 0] ?_
 refine G.lpR (ι := {z : Nat × Nat × Nat × ByteArray // z.1 ≤ qn ∧ z.2.2.2 = textL who y.1 y.2 (lies.take z.1) fr}) (fun ⟨⟨i, g7, g11, tx⟩, hi, htx⟩ => qn - i) (fun ⟨⟨i, g7, g11, tx⟩, hi, htx⟩ => [(0, .pointer (some ⟨gw, 0, none⟩)), (1, .int .i64 who), (7, .pointer (some ⟨g7, 0, none⟩)), (8, .string fr), (23, .slice (some ⟨b9, 0, none⟩) wn wc), (24, .int .i64 (wn : Int)), (25, .int .i64 (k : Int)), (11, .pointer (some ⟨g11, 0, none⟩)), (12, .string tx), (41, .slice qa qn qc), (42, .int .i64 (qn : Int)), (43, .int .i64 (i : Int))]) (fun ⟨⟨i, g7, g11, tx⟩, hi, htx⟩ => [manyE (lanL us 0 q1), blk g11 [.int .i64 y.1, .int .i64 y.2] 72, row none 0 72 2 0 ([]), blk g7 [.slice ta tn tc, .slice ra rn rc, .slice ga gn gc, .slice none 0 0, .slice qa qn qc, .slice none 0 0, .slice none 0 0, .slice none 0 0] 65]) ?_ ?_
 exact G.at ⟨(0, g7, g11, fr), Nat.zero_le _, rfl⟩ (ts := [0, 1, 7, 8, 23, 24, 25, 11, 12, 41, 42, 43]) rfl rfl rfl rfl
 rintro ⟨⟨i, g7, g11, tx⟩, hi, htx⟩ _ K16
 try dsimp only at K16 ⊢
 try dsimp only at hi htx
 refine G.sr fun _ K17 => ?_
 refine G.V 44 .bin ?_
 refine G.nk K17 ?_
 refine G.Z fun _ K18 => ?_
 refine G.cond rfl (fun hc44 => ?_) (fun hc44 => ?_)
 have hi2 : i < qn := by have := of_decide_eq_true hc44; omega
 obtain ⟨x, hx⟩ : ∃ x, lies[i]? = some x := ⟨_, List.getElem?_eq_getElem (by omega)⟩
 refine G.sk K18 ?_
 refine G.Z fun _ K19 => ?_
 refine G.block ?_
 refine G.Z fun _ K20 => ?_
 refine G.base 8 (show 0 < qn by omega) fun b21 hb_ => ?_
 subst hb_
 refine G.region ?_
 refine G.V 45 (.is s27 i hi2) ?_
 refine G.V 46 (.lda t74 8 (hv := lil_at hx)) ?_
 refine G.mk 14 (.al z74) fun g14 => ?_
 refine G.sn 0 (.st t74 0) rfl ?_
 refine G.nk K20 ?_
 refine G.sr fun _ K22 => ?_
 refine G.V 47 (.fa f74_0 0) ?_
 refine G.V 48 (.lda t72 0 (vs := [.int .i64 x.a, .int .i64 x.b])) ?_
 refine G.V 49 (.lda t72 2 (vs := [.int .i64 y.1, .int .i64 y.2])) ?_
 refine G.V 50 (.eq2 teq72) ?_
 refine G.M 51 ?_
 cases hg23 : ((x.a == y.1 && x.b == y.2) : Bool)
 refine G.O2 52 53 ?_
 refine G.V 54 .pick ?_
 refine G.nk K22 ?_
 refine G.no rfl ?_
 refine G.sk K19 ?_
 refine G.region ?_
 refine G.V 57 .bw ?_
 refine G.M 43 ?_
 refine G.nil ?_
 refine G.only [1, 1, 1, 1] ?_
 refine K16 _ _ _ ?_
 exact G.ls ⟨(i + 1, g7, g11, tx), hi2, by rw [textL_take hx, ← htx]; clear htx; unfold text1; simp [*]⟩
 refine G.M 52 ?_
 refine G.V 53 .bin ?_
 refine G.V 54 .pick ?_
 refine G.nk K22 ?_
 refine G.cond rfl (fun hc54 => ?_) (fun hc54 => ?_)
 refine G.region ?_
 refine G.V 55 (.fa f74_1 2) ?_
 refine G.V 56 (.ld t9 0) ?_
 refine G.M 12 ?_
 refine G.nk K19 ?_
 refine G.region ?_
 refine G.V 57 .bw ?_
 refine G.M 43 ?_
 refine G.nil ?_
 refine G.only [1, 1, 1, 1] ?_
 refine K16 _ _ _ ?_
 exact G.ls ⟨(i + 1, g7, g11, x.s), hi2, by rw [textL_take hx, ← htx]; clear htx; unfold text1; simp [*]⟩
 refine G.sk K19 ?_
 refine G.region ?_
 refine G.V 57 .bw ?_
 refine G.M 43 ?_
 refine G.nil ?_
 refine G.only [1, 1, 1, 1] ?_
 refine K16 _ _ _ ?_
 exact G.ls ⟨(i + 1, g7, g11, tx), hi2, by rw [textL_take hx, ← htx]; clear htx; unfold text1; simp [*]⟩
 have hin : qn = i := by have := of_decide_eq_false hc44; omega
 rw [show lies.take i = lies from by rw [← hin, ← hql]; exact List.take_length] at htx
 refine G.exit ?_
 refine K14 _ _ _ ?_
 obtain ⟨u, hu, huw⟩ := ixU_at (hreach y (List.mem_of_getElem? hy) (by have h := ‹(y.1 != who) = false›; simpa using h))
 refine G.region ?_
 refine G.M 58 ?_
 refine G.V 59 (.fa f72_1 1) ?_
 refine G.V 60 (.ld t3 1) ?_
 refine G.cp 61 [] [0, 1]  e25 (w_unitY gw ub un uc wn wc (some ⟨b9, 0, none⟩) p tm us hul hun y.2 hnd (ixU us y.2) u hu huw) ?_
 refine G.V 62 .nc ?_
 refine G.V 63 (.fa f81_3 (0 + ixU us y.2 * 4 + 3)) ?_
 refine G.V 64 (.ld t79 5 (hv := ucl_cell (i := 3) hu (by decide) rfl)) ?_
 refine G.M2 65 66 ?_
 refine G.pull (ixU us y.2) (lanL_at hu) ?_
 refine G.lanOpen 0 (fun cs hL => ?_)
 try dsimp only [List.set]
 refine G.C 67 [0] []  e61 (lanes_pushA u.lb who cs (q1 (0 + ixU us y.2)) hL tx (hfit k hk fr _ q1 hq1)) ?_
 rintro _ _ ⟨ep, rfl, cs1, rfl, hL1⟩
 refine G.lanClose 0 hL1 ?_
 try dsimp only [List.set]
 refine G.back (ixU us y.2) (lanL_at hu) ?_
 rw [lanL_set _ hu, htx, show (fun k => if k = 0 + ixU us y.2 then pushQ (q1 (0 + ixU us y.2)) who (textL who y.1 y.2 lies fr) else q1 k) = send1 us who lies fr q1 y from (if_neg (by rw [‹(y.1 != who) = false›]; decide)).symm]
 refine G.nk K7 ?_
 refine G.region ?_
 refine G.V 68 .bw ?_
 refine G.M 25 ?_
 refine G.nil ?_
 refine G.only [0, 1, 1] ?_
 refine K4 _ _ _ ?_
 exact G.ls ⟨(k + 1, g7, send1 us who lies fr q1 y), hk, by rw [sendQ_take hy, ← hq1]⟩
 refine G.O4 35 36 37 38 ?_
 refine G.V 39 .pick ?_
 refine G.nk K12 ?_
 refine G.yes rfl ?_
 refine G.exit ?_
 refine K7 _ _ _ ?_
 refine G.region ?_
 refine G.V 68 .bw ?_
 refine G.M 25 ?_
 refine G.nil ?_
 refine G.only [1, 1, 1] ?_
 refine K4 _ _ _ ?_
 exact G.ls ⟨(k + 1, g7, q1), hk, by rw [sendQ_take hy, ← hq1]; exact (if_pos ‹(y.1 != who) = true›).symm⟩
 have hkn : wn = k := by have := of_decide_eq_false hc26; omega
 rw [show ls.take k = ls from by rw [← hkn, ← hll]; exact List.take_length] at hq1
 refine G.exit ?_
 exact G.fin0 [0] (.nil Tryz.results40) ⟨rfl, fr, hfr, hfn, show [manyE (lanL us 0 q1)] = _ from by rw [hq1]⟩
theorem f30_0 : tfield prog 30 0 = some 0 := by kernel_rfl
theorem f30_2 : tfield prog 30 2 = some 13 := by kernel_rfl
theorem f30_7 : tfield prog 30 7 = some 18 := by kernel_rfl
theorem f44_0 : tfield prog 44 0 = some 0 := by kernel_rfl
theorem f44_2 : tfield prog 44 2 = some 21 := by kernel_rfl
theorem t24 : tsz prog 24 = some (false, 1) := by kernel_rfl
theorem l_right (rb gw : Nat) (p : Par) (ct cn r1 r2 : Int) (ha ka sa fa na qa : Option Addr) (hn hc kn kc sn sc fn fc nn nc qn qc : Nat) (who : Int) (h0 : 0 ≤ p.f) (h1 : p.f ≤ p.n) (h2 : p.n ≤ 16) : Spec prog 11 [.pointer (some ⟨rb, 0, none⟩), .int .i64 who] [] [blk rb (pC p [.int .i64 ct, .int .i64 cn, .slice ha hn hc, .slice ka kn kc, .slice sa sn sc, .slice fa fn fc, .slice na nn nc, .slice qa qn qc, .pointer (some ⟨gw, 0, none⟩), .int .i64 r1, .int .i64 r2]) 44] (fun v Ln => v = .bool (decide (who ≥ 16) || decide (who < p.n - p.f)) ∧ Ln = []) := by
 refine Spec.en func11 ntmps11 fun w0 => ?_
 refine G.sr fun _ K1 => ?_
 refine G.M 4 ?_
 refine G.nk K1 ?_
 refine G.Z fun _ K2 => ?_
 refine G.draw 20 [] [0] [] ?_
 refine D.V 0 5 1 .mv ?_
 refine D.V 1 6 3 .bin ?_
 refine D.V 2 7 7 .mv ?_
 cases hg3 : (decide (who ≥ 16) : Bool)
 refine D.V 3 8 15 .mv ?_
 refine D.V 4 9 31 .mv ?_
 refine D.V 5 10 63 .nc ?_
 refine D.V 6 11 127 (.fa f44_0 0) ?_
 refine D.V 7 12 255 (.fa f30_0 0) ?_
 refine D.V 8 13 511 (.fa f23_0 0) ?_
 refine D.V 10 15 1535 .mv ?_
 refine D.V 11 16 3583 .nc ?_
 refine D.V 12 17 7679 (.fa f44_0 0) ?_
 refine D.V 13 18 15871 (.fa f30_0 0) ?_
 refine D.V 14 19 32255 (.fa f23_1 1) ?_
 refine D.T 9 14 32767 (.ld t3 0) [] [0] ?_
 refine D.T 15 20 65535 (.ld t3 0) [] [0] ?_
 refine D.V 16 21 131071 .bw ?_
 refine D.V 17 22 262143 .bin ?_
 refine D.V 18 23 524287 .pick ?_
 refine D.V 19 4 1048575 .mv ?_
 refine D.done ?_
 refine K2 _ _ _ ?_
 exact G.ret (G.F [] (.one Tryz.results11) ⟨by simp [*], rfl⟩)
 refine D.off 3 8 15 ?_
 refine D.off 4 9 31 ?_
 refine D.off 5 10 63 ?_
 refine D.off 6 11 127 ?_
 refine D.off 7 12 255 ?_
 refine D.off 8 13 511 ?_
 refine D.off 9 14 1023 ?_
 refine D.off 10 15 2047 ?_
 refine D.off 11 16 4095 ?_
 refine D.off 12 17 8191 ?_
 refine D.off 13 18 16383 ?_
 refine D.off 14 19 32767 ?_
 refine D.off 15 20 65535 ?_
 refine D.off 16 21 131071 ?_
 refine D.off 17 22 262143 ?_
 refine D.V 18 23 524287 .pick ?_
 refine D.V 19 4 1048575 .mv ?_
 refine D.done ?_
 refine K2 _ _ _ ?_
 exact G.ret (G.F [] (.one Tryz.results11) ⟨by simp [*], rfl⟩)
theorem ints_g {zs : List Int} {k : Nat} (h : k < zs.length) : (ints zs)[0 + k * 1]? = some (.int .i64 (zs.getD k 0)) := by simp [ints, h]
theorem u64nn (x : Int) : 0 ≤ IntKind.u64.wrap x := by rw [IntKind.wrap_u64]; omega
theorem l_noise (rb gw : Nat) (p : Par) (ct cn r1 r2 : Int) (ha ka sa fa na qa : Option Addr) (hn hc kn kc sn sc fn fc nn nc qn qc : Nat) (zs : List Int) (hzl : zs.length = nn) (hnn : nn ≤ 100000) (hr : 0 ≤ r1) (hr2 : r1 ≤ 1000000000) (lo hi : Int) (hlo : -2305843009213693952 ≤ lo ∧ lo ≤ 2305843009213693952) (hhi : -2305843009213693952 ≤ hi ∧ hi ≤ 2305843009213693952) : Spec prog 27 [.pointer (some ⟨rb, 0, none⟩), .int .i64 lo, .int .i64 hi] [blk rb (pC p [.int .i64 ct, .int .i64 cn, .slice ha hn hc, .slice ka kn kc, .slice sa sn sc, .slice fa fn fc, .slice na nn nc, .slice qa qn qc, .pointer (some ⟨gw, 0, none⟩), .int .i64 r1, .int .i64 r2]) 44] [view na nc 3 1 nn (ints zs)] (fun v Ln => ∃ x r1', v = .int .i64 x ∧ (lo ≤ x ∧ (x ≤ hi ∨ x = lo)) ∧ (r1' = r1 ∨ r1' = r1 + 1) ∧ Ln = [blk rb (pC p [.int .i64 ct, .int .i64 cn, .slice ha hn hc, .slice ka kn kc, .slice sa sn sc, .slice fa fn fc, .slice na nn nc, .slice qa qn qc, .pointer (some ⟨gw, 0, none⟩), .int .i64 r1', .int .i64 r2]) 44]) := by
 refine Spec.en func27 ntmps27 fun w0 => ?_
 refine G.sr fun _ K1 => ?_
 refine G.M 6 ?_
 refine G.nk K1 ?_
 refine G.Z fun _ K2 => ?_
 refine G.sr fun _ K3 => ?_
 refine G.M 8 ?_
 refine G.V 9 .nc ?_
 refine G.V 10 (.fa f44_0 0) ?_
 refine G.V 11 (.fa f30_7 18) ?_
 refine G.V 12 (.ld t24 0) ?_
 refine G.V 13 (.lenl s24) ?_
 refine G.V 14 .bin ?_
 refine G.M 15 ?_
 cases hg4 : ((nn : Int) == 0 : Bool)
 refine G.M2 16 17 ?_
 refine G.V 18 .bin ?_
 refine G.V 19 .pick ?_
 refine G.nk K3 ?_
 refine G.cond rfl (fun hc19 => ?_) (fun hc19 => ?_)
 refine G.sr fun _ K5 => ?_
 refine G.M2 20 6 ?_
 refine G.nk K5 ?_
 exact G.ret (G.F [0] (.one Tryz.results27) ⟨_, _, rfl, ⟨Int.le_refl _, .inr rfl⟩, .inl rfl, rfl⟩)
 have hlt : lo < hi := by have h : decide (hi ≤ lo) = false := hc19; have := of_decide_eq_false h; omega
 have hnz : 0 < nn := by have h := ‹((nn : Int) == 0) = false›; simp at h; omega
 refine G.sk K2 ?_
 refine G.Z fun _ K6 => ?_
 have hm : 0 ≤ r1 % (nn : Int) ∧ r1 % (nn : Int) < nn := ⟨Int.emod_nonneg _ (by omega), Int.emod_lt_of_pos _ (by omega)⟩
 refine G.vbase 1 (show 0 < nn by omega) fun b7 ob7 hb_ => ?_
 subst hb_
 refine G.draw 19 [0] [0] [] ?_
 refine D.V 0 21 1 .mv ?_
 refine D.V 1 22 3 .nc ?_
 refine D.V 2 23 7 (.fa f44_0 0) ?_
 refine D.V 3 24 15 (.fa f30_7 18) ?_
 refine D.V 5 26 47 .mv ?_
 refine D.V 6 27 111 .nc ?_
 refine D.V 7 28 239 (.fa f44_2 21) ?_
 refine D.V 9 30 751 .mv ?_
 refine D.V 10 31 1775 .nc ?_
 refine D.V 11 32 3823 (.fa f44_0 0) ?_
 refine D.V 12 33 7919 (.fa f30_7 18) ?_
 refine D.T 4 25 7935 (.ld t24 0) [0] [0] ?_
 refine D.T 8 29 8191 (.ld t3 0) [0] [0] ?_
 refine D.T 13 34 16383 (.ld t24 0) [0] [0] ?_
 refine D.V 14 35 32767 (.lenl s24) ?_
 refine D.V 15 36 65535 (.rem (a := r1) (b := (nn : Int)) (r := r1 % (nn : Int)) (by omega) (Int.tmod_eq_emod_of_nonneg (by omega))) ?_
 refine D.V 16 37 131071 (.is s24 (r1 % (nn : Int)).toNat (show (r1 % (nn : Int)).toNat < nn by omega) (hi := by omega)) ?_
 refine D.T 17 38 262143 (.ldo t3 1 (hv := ints_g (k := (r1 % (nn : Int)).toNat) (by omega))) [0] [0] ?_
 refine D.V 18 7 524287 .mv ?_
 refine D.done ?_
 refine K6 _ _ _ ?_
 refine G.sr fun _ K8 => ?_
 refine G.M 39 ?_
 refine G.V 40 .nc ?_
 refine G.V 41 (.fa f44_2 21) ?_
 refine G.V 42 (.ld t3 0) ?_
 refine G.V 43 .bw ?_
 refine G.V 44 .nc ?_
 refine G.V 45 (.fa f44_2 21) ?_
 refine G.sn 0 (.st t3 0) rfl ?_
 refine G.nk K8 ?_
 refine G.Z fun _ K9 => ?_
 have hb : 0 ≤ (IntKind.u64.wrap (zs.getD (r1 % (nn : Int)).toNat 0) % (hi - lo + 1)) ∧ (IntKind.u64.wrap (zs.getD (r1 % (nn : Int)).toNat 0) % (hi - lo + 1)) < hi - lo + 1 := ⟨Int.emod_nonneg _ (by omega), Int.emod_lt_of_pos _ (by omega)⟩
 refine G.region ?_
 refine G.M2 46 47 ?_
 refine G.V 48 (.cvi (a := (zs.getD (r1 % (nn : Int)).toNat 0)) k3 k116 rfl) ?_
 refine G.M2 49 50 ?_
 refine G.V 51 .bw ?_
 refine G.V 52 .bw ?_
 refine G.V 53 (.cvi (a := (hi - lo) + 1) k3 k116 (wu (by omega) (by omega))) ?_
 refine G.V 54 (.rem (a := IntKind.u64.wrap (zs.getD (r1 % (nn : Int)).toNat 0)) (b := hi - lo + 1) (r := (IntKind.u64.wrap (zs.getD (r1 % (nn : Int)).toNat 0) % (hi - lo + 1))) (by omega) (Int.tmod_eq_emod_of_nonneg (u64nn _))) ?_
 refine G.V 55 (.cvi (a := (IntKind.u64.wrap (zs.getD (r1 % (nn : Int)).toNat 0) % (hi - lo + 1))) k116 k3 (wr (by omega) (by omega))) ?_
 refine G.V 56 .bw ?_
 refine G.M 6 ?_
 refine G.nk K9 ?_
 exact G.ret (G.F [0] (.one Tryz.results27) ⟨_, _, rfl, ⟨by omega, .inl (by omega)⟩, .inr rfl, rfl⟩)
 refine G.O3 16 17 18 ?_
 refine G.V 19 .pick ?_
 refine G.nk K3 ?_
 refine G.yes rfl ?_
 refine G.sr fun _ K10 => ?_
 refine G.M2 20 6 ?_
 refine G.nk K10 ?_
 exact G.ret (G.F [0] (.one Tryz.results27) ⟨_, _, rfl, ⟨Int.le_refl _, .inr rfl⟩, .inl rfl, rfl⟩)
def gatesL (n : Nat) : List Int := (List.range n).map fun i : Nat => (i : Int)
def nodesL (n : Nat) : List Int := (List.range n).map fun i : Nat => 16 + (i : Int)
theorem gatesL_snoc (n : Nat) : gatesL (n + 1) = gatesL n ++ [(n : Int)] := by simp [gatesL, List.range_succ]
theorem nodesL_snoc (n : Nat) : nodesL (n + 1) = nodesL n ++ [16 + (n : Int)] := by simp [nodesL, List.range_succ]
theorem ints_app2 (l : List Int) (x : Int) : ints (l ++ [x]) = ints l ++ [.int .i64 x] := by simp [ints]
theorem l_units (rb gw : Nat) (p : Par) (ct cn r1 r2 : Int) (ha ka sa fa na qa : Option Addr) (hn hc kn kc sn sc fn fc nn nc qn qc : Nat) (gn dn : Nat) (hg : p.n = (gn : Int)) (hd : cn = (dn : Int)) (hg2 : gn ≤ 16) (hd2 : dn ≤ 32) : Spec prog 10 [.pointer (some ⟨rb, 0, none⟩)] [] [blk rb (pC p [.int .i64 ct, .int .i64 cn, .slice ha hn hc, .slice ka kn kc, .slice sa sn sc, .slice fa fn fc, .slice na nn nc, .slice qa qn qc, .pointer (some ⟨gw, 0, none⟩), .int .i64 r1, .int .i64 r2]) 44] (fun v Ln => ∃ a' n' c', v = .slice a' n' c' ∧ n' = gn + dn ∧ Ln = [row a' c' 3 1 n' (ints (gatesL gn ++ nodesL dn))]) := by
 refine Spec.en func10 ntmps10 fun w0 => ?_
 refine G.sr fun _ K1 => ?_
 refine G.M 2 ?_
 refine G.nk K1 ?_
 refine G.sr fun _ K2 => ?_
 refine G.M 3 ?_
 refine G.nil ?_
 refine G.newRow 3 1 ?_
 refine K2 _ _ _ ?_
 refine G.Z fun _ K3 => ?_
 refine G.sr fun _ K4 => ?_
 refine G.M 4 ?_
 refine G.nk K4 ?_
 refine G.block ?_
 refine G.lpR (ι := {z : Nat × Option Addr × Nat × Nat // z.1 ≤ gn ∧ z.2.2.2 = z.1}) (fun ⟨⟨k, a3, c3, n3⟩, hj, hn3⟩ => gn - k) (fun ⟨⟨k, a3, c3, n3⟩, hj, hn3⟩ => [(0, .pointer (some ⟨rb, 0, none⟩)), (3, .slice a3 n3 c3), (4, .int .i64 (k : Int))]) (fun ⟨⟨k, a3, c3, n3⟩, hj, hn3⟩ => [row a3 c3 3 1 n3 (ints (gatesL k))]) ?_ ?_
 exact G.at ⟨(0, none, 0, 0), Nat.zero_le _, rfl⟩ (ts := [0, 3, 4]) rfl rfl rfl rfl
 rintro ⟨⟨k, a3, c3, n3⟩, hj, hn3⟩ _ K5
 try dsimp only at K5 ⊢
 try dsimp only at hj hn3
 refine G.Z fun _ K6 => ?_
 refine G.sr fun _ K7 => ?_
 refine G.M2 6 7 ?_
 refine G.V 8 .nc ?_
 refine G.V 9 (.fa f44_0 0) ?_
 refine G.V 10 (.fa f30_0 0) ?_
 refine G.V 11 (.fa f23_0 0) ?_
 refine G.V 12 (.ld t3 1) ?_
 refine G.V 13 .bin ?_
 refine G.nk K7 ?_
 refine G.cond rfl (fun hc13 => ?_) (fun hc13 => ?_)
 have hk : k < gn := by have := of_decide_eq_true hc13; omega
 refine G.sk K6 ?_
 refine G.Z fun _ K8 => ?_
 refine G.block ?_
 refine G.region ?_
 refine G.M2 16 17 ?_
 refine G.row 18 (.sl s24 z3 [.int .i64 (k : Int)]) fun g18 => ?_
 refine G.chg 19 1 (.app s24 z3 y3 1 0 (show n3 + 1 ≤ 1048576 by omega)) ?_
 rintro _ _ ⟨a9, c10, rfl, rfl⟩
 dsimp only [List.set]
 refine G.M 3 ?_
 refine G.nk K8 ?_
 refine G.region ?_
 refine G.M 14 ?_
 refine G.V 15 .bw ?_
 refine G.M 4 ?_
 refine G.nil ?_
 refine G.only [1] ?_
 refine K5 _ _ _ ?_
 exact G.ls ⟨(k + 1, a9, c10, n3 + 1), hk, by dsimp only; omega⟩ (hL := (by first | rfl | (dsimp only; rw [gatesL_snoc, ints_app2])))
 have hkn : k = gn := by have := of_decide_eq_false hc13; omega
 refine G.eqL [row a3 c3 3 1 n3 (ints (gatesL gn ++ nodesL 0))] (by rw [hkn]; simp [nodesL]) ?_
 refine G.exit ?_
 refine K3 _ _ _ ?_
 refine G.Z fun _ K11 => ?_
 refine G.sr fun _ K12 => ?_
 refine G.M 5 ?_
 refine G.nk K12 ?_
 refine G.block ?_
 refine G.lpR (ι := {z : Nat × Option Addr × Nat × Nat // z.1 ≤ dn ∧ z.2.2.2 = gn + z.1}) (fun ⟨⟨k, a3, c3, n3⟩, hj, hn3⟩ => dn - k) (fun ⟨⟨k, a3, c3, n3⟩, hj, hn3⟩ => [(0, .pointer (some ⟨rb, 0, none⟩)), (3, .slice a3 n3 c3), (5, .int .i64 (k : Int))]) (fun ⟨⟨k, a3, c3, n3⟩, hj, hn3⟩ => [row a3 c3 3 1 n3 (ints (gatesL gn ++ nodesL k))]) ?_ ?_
 exact G.at ⟨(0, a3, c3, n3), Nat.zero_le _, by dsimp only; omega⟩ (ts := [0, 3, 5]) rfl rfl rfl rfl
 rintro ⟨⟨k, a3, c3, n3⟩, hj, hn3⟩ _ K13
 try dsimp only at K13 ⊢
 try dsimp only at hj hn3
 refine G.Z fun _ K14 => ?_
 refine G.sr fun _ K15 => ?_
 refine G.M2 20 21 ?_
 refine G.V 22 .nc ?_
 refine G.V 23 (.fa f44_0 0) ?_
 refine G.V 24 (.fa f30_2 13) ?_
 refine G.V 25 (.ld t3 1) ?_
 refine G.V 26 .bin ?_
 refine G.nk K15 ?_
 refine G.cond rfl (fun hc26 => ?_) (fun hc26 => ?_)
 have hk : k < dn := by have := of_decide_eq_true hc26; omega
 refine G.sk K14 ?_
 refine G.Z fun _ K16 => ?_
 refine G.block ?_
 refine G.region ?_
 refine G.M2 29 30 ?_
 refine G.V 31 .bw ?_
 refine G.row 32 (.sl s24 z3 [.int .i64 (16 + (k : Int))]) fun g32 => ?_
 refine G.chg 33 1 (.app s24 z3 y3 1 0 (show n3 + 1 ≤ 1048576 by omega)) ?_
 rintro _ _ ⟨a17, c18, rfl, rfl⟩
 dsimp only [List.set]
 refine G.M 3 ?_
 refine G.nk K16 ?_
 refine G.region ?_
 refine G.M 27 ?_
 refine G.V 28 .bw ?_
 refine G.M 5 ?_
 refine G.nil ?_
 refine G.only [1] ?_
 refine K13 _ _ _ ?_
 exact G.ls ⟨(k + 1, a17, c18, n3 + 1), hk, by dsimp only; omega⟩ (hL := (by first | rfl | (dsimp only; rw [nodesL_snoc, ← List.append_assoc, ints_app2]) | (dsimp only; simp [nodesL]; done)))
 have hkn : k = dn := by have := of_decide_eq_false hc26; omega
 rw [hkn]
 refine G.exit ?_
 refine K11 _ _ _ ?_
 refine G.sr fun _ K19 => ?_
 refine G.M2 34 2 ?_
 refine G.nk K19 ?_
 exact G.ret (G.F [0] (.one Tryz.results10) ⟨a3, n3, c3, rfl, by omega, rfl⟩)
end Go.Proofs.YtbmhgopjblnfnaaGreat.S
namespace Go.Proofs.YtbmhgopjblnfnaaGreat.S
open Go Go.RowKit Go.Proofs.YtbmhgopjblnfnaaGreatW.PrintLast Tryz
theorem Left.conv {w : World} {F : List Nat} {post post' : Value → List Ent → Prop} {e : Ending} {w' : World} (h : Left w F post e w') (hp : ∀ v Ln, post v Ln → (∀ x ∈ Ln, x.H w') → (ids Ln).Nodup → ∃ Ln', post' v Ln' ∧ (ids Ln').Perm (ids Ln) ∧ ∀ x ∈ Ln', x.H w') : Left w F post' e w' := by
 obtain ⟨v, Ln, he, p, hf, hl, hn, ho⟩ := h
 obtain ⟨Ln', p', hi, hl'⟩ := hp v Ln p hl hn
 exact ⟨v, Ln', he, p', hf, hl', hi.nodup_iff.2 hn, fun k hk => ho k (hi.mem_iff.1 hk)⟩
theorem Spec.conv {P : Program} {f : FuncId} {args : List Value} {Lf' Rf' : List Ent} {post' : Value → List Ent → Prop} (hl : ∀ w, (∀ e ∈ Lf', e.H w) → (∀ e ∈ Rf', e.H w) → (ids Lf').Nodup → ∃ Lf, (∀ e ∈ Lf, e.H w) ∧ (ids Lf).Perm (ids Lf') ∧ ∃ Rf post, Spec P f args Lf Rf post ∧ (∀ e ∈ Rf, e.H w) ∧ (∀ k ∈ ids Rf, k ∈ ids Rf') ∧ ∀ w' v Ln, post v Ln → (∀ x ∈ Ln, x.H w') → (ids Ln).Nodup → ∃ Ln', post' v Ln' ∧ (ids Ln').Perm (ids Ln) ∧ ∀ x ∈ Ln', x.H w') : Spec P f args Lf' Rf' post' := fun w h1 h2 h3 h4 => by
 obtain ⟨Lf, a, b, Rf, post, sp, d, e, g⟩ := hl w h1 h2 h3
 have := sp w a d (b.nodup_iff.2 h3) (fun k hk hr => h4 k (b.mem_iff.1 hk) (e k hr))
 refine this.mono fun en w' q => ?_
 have q' : Left w (ids Lf') post en w' := by
  obtain ⟨v, Ln, he, p, hf, hl, hn, ho⟩ := q
  exact ⟨v, Ln, he, p, hf.mono fun x hx => b.mem_iff.1 hx, hl, hn, fun k hk => (ho k hk).imp (b.mem_iff.1 ·) id⟩
 exact q'.conv (g w')
theorem Spec.rd {P : Program} {f : FuncId} {args : List Value} {Lf Rf Rf' : List Ent} {post : Value → List Ent → Prop} (sp : Spec P f args Lf Rf post) (h : ∀ w, (∀ e ∈ Rf', e.H w) → ∀ e ∈ Rf, e.H w) (ho : ∀ k ∈ ids Rf, k ∈ ids Rf') : Spec P f args Lf Rf' post := fun w h1 h2 h3 h4 => sp w h1 (h w h2) h3 fun k hk hr => h4 k hk (ho k hr)
theorem Spec.lan {P : Program} {f : FuncId} {args : List Value} {lb : Nat} {qs : Nat → List ByteArray} {Rf : List Ent} {post : Value → (Nat → List ByteArray) → Prop} (h : ∀ cs, Lan cs qs → Spec P f args [blk lb cs 153] Rf (fun v Ln => ∃ cs' qs', Ln = [blk lb cs' 153] ∧ Lan cs' qs' ∧ post v qs')) : Spec P f args [lanE lb qs] Rf (fun v Ln => ∃ qs', post v qs' ∧ Ln = [lanE lb qs']) :=
 Spec.conv fun w h1 h2 h3 => by
  obtain ⟨cs, hb, hL⟩ := h1 _ (List.mem_cons_self ..)
  refine ⟨[blk lb cs 153], by simpa using hb, .refl _, Rf, _, h cs hL, h2, fun k hk => hk, fun w' v Ln ⟨cs', qs', e, hL', hp⟩ hl hn => ?_⟩
  subst e
  exact ⟨[lanE lb qs'], ⟨qs', hp, rfl⟩, .refl _, by intro x hx; simp at hx; subst hx; exact ⟨cs', hl _ (List.mem_cons_self ..), hL'⟩⟩
theorem lanes_popA (lb k : Nat) (hk : k < 48) (qs : Nat → List ByteArray) : Spec prog 57 [.pointer (some ⟨lb, 0, none⟩), .int .i64 (k : Int)] [lanE lb qs] [] (fun v Ln => ∃ qs', (∃ (x : ByteArray) (a : Int) (is : Bool) (q : List ByteArray), v = .tuple #[.agg #[.string x, .int .i64 a], .bool is] ∧ qs' = upd qs k q ∧ (is = true → qs k = x :: q) ∧ (is = false → qs k = [] ∧ q = [])) ∧ Ln = [lanE lb qs']) :=
 Spec.lan fun cs hL => by
  cases hq : qs k with
  | nil =>
   refine (lanes_pop_none lb k cs qs hL hk hq).mono fun v Ln ⟨h1, h2⟩ => ⟨cs, upd qs k [], h2, ?_, ByteArray.empty, 0, false, [], h1, rfl, (fun h => nomatch h), fun _ => ⟨rfl, rfl⟩⟩
   have : upd qs k [] = qs := by
    funext j
    unfold upd
    split
    ·next e => rw [e, hq]
    ·rfl
   rw [this]
   exact hL
  | cons x q => exact (lanes_pop_some lb k cs qs hL hk x q hq).mono fun v Ln ⟨a, h1, cs', h2, h3⟩ => ⟨cs', upd qs k q, h2, h3, x, a, true, q, h1, rfl, fun _ => rfl, fun h => nomatch h⟩
theorem Lan.congr {cs : List Value} {qs qs' : Nat → List ByteArray} (h : Lan cs qs) (e : ∀ k, k < 48 → qs k = qs' k) : Lan cs qs' := ⟨h.hl, fun k hk => by rw [← e k hk]; exact h.row k hk⟩
theorem lanE_le {lb : Nat} {qs : Nat → List ByteArray} {w : World} (h : (lanE lb qs).H w) : ∀ k, k < 48 → (qs k).length ≤ 64 := fun k hk => by
 obtain ⟨cs, _, hL⟩ := h
 obtain ⟨f, hr⟩ := hL.row k hk
 exact hr.hn
section
variable {c : Ctx} {m : Sl} {L R : List Ent} {X : Act → World → Prop}
theorem G.addE {e : Ent} (ho : e.own = []) (hH : ∀ w, e.H w) (g : G c m (e :: L) R X) : G c m L R X := fun a w ok => g a w (ok.world (by
 have st := ok.st
 have hi : ids (e :: L) = ids L := by rw [ids_cons, ho, List.nil_append]
 refine ⟨st.fr, ?_, st.r, by rw [hi]; exact st.nd, by rw [hi]; exact st.lr, by rw [hi]; exact st.own⟩
 intro x hx
 rcases List.mem_cons.1 hx with rfl | q
 ·exact hH w
 ·exact st.l x q))
end
end Go.Proofs.YtbmhgopjblnfnaaGreat.S
namespace Go.Proofs.YtbmhgopjblnfnaaGreat.S
open Go Go.Proofs Go.RowKit Go.Proofs.YtbmhgopjblnfnaaGreatW.PrintLast Tryz
theorem e57 : Is prog 57 := ⟨_, func57, by kernel_rfl, rfl⟩
theorem e58 : Is prog 58 := ⟨_, func58, by kernel_rfl, rfl⟩
theorem f60_0 : tfield prog 60 0 = some 0 := by kernel_rfl
theorem f60_1 : tfield prog 60 1 = some 1 := by kernel_rfl
theorem f60_2 : tfield prog 60 2 = some 2 := by kernel_rfl
theorem f60_3 : tfield prog 60 3 = some 3 := by kernel_rfl
theorem f65_0 : tfield prog 65 0 = some 0 := by kernel_rfl
theorem f65_1 : tfield prog 65 1 = some 1 := by kernel_rfl
theorem f65_2 : tfield prog 65 2 = some 2 := by kernel_rfl
theorem f87_0 : tfield prog 87 0 = some 0 := by kernel_rfl
theorem f87_1 : tfield prog 87 1 = some 1 := by kernel_rfl
theorem f89_0 : tfield prog 89 0 = some 0 := by kernel_rfl
theorem f89_1 : tfield prog 89 1 = some 2 := by kernel_rfl
theorem f132_0 : tfield prog 132 0 = some 0 := by kernel_rfl
theorem p103 : tplaces prog 103 = some [(0, 1), (1, 1), (2, 1), (3, 1), (4, 1), (5, 1)] := by kernel_rfl
theorem p138 : tplaces prog 138 = some [(0, 14), (14, 1)] := by kernel_rfl
theorem s61 : tslice prog 61 = some (60, 5) := by kernel_rfl
theorem s62 : tslice prog 62 = some (87, 2) := by kernel_rfl
theorem s63 : tslice prog 63 = some (89, 3) := by kernel_rfl
theorem t60 : tsz prog 60 = some (true, 5) := by kernel_rfl
theorem t61 : tsz prog 61 = some (false, 1) := by kernel_rfl
theorem t62 : tsz prog 62 = some (false, 1) := by kernel_rfl
theorem t63 : tsz prog 63 = some (false, 1) := by kernel_rfl
theorem t87 : tsz prog 87 = some (true, 2) := by kernel_rfl
theorem t89 : tsz prog 89 = some (true, 3) := by kernel_rfl
theorem t103 : tsz prog 103 = some (true, 6) := by kernel_rfl
theorem z60 : tzero prog 60 = some [.int .i64 0, .bool false, .int .i64 0, .bool false, .slice none 0 0] := by kernel_rfl
theorem z87 : tzero prog 87 = some [.int .i64 0, .int .i64 0] := by kernel_rfl
theorem z89 : tzero prog 89 = some [.int .i64 0, .int .i64 0, .int .i64 0] := by kernel_rfl
theorem z103 : tzero prog 103 = some [.int .i64 0, .slice none 0 0, .bool false, .int .i64 0, .bool false, .slice none 0 0] := by kernel_rfl
def AgeOK (p : Par) (a : Int) : Prop := p.beat - p.delay - p.rho ≤ a ∧ a ≤ p.beat - p.delay + p.jitter + p.rho
def TickOK (p : Par) (t : Int) : Prop := p.beat - p.rho ≤ t ∧ t ≤ p.beat + p.rho
structure Rd where
 gate : Int
 is : Bool
 rd : Int
structure Ag where
 (a b t : Int)
def Rd.cells (x : Rd) : List Value := [.int .i64 x.gate, .bool x.is, .int .i64 x.rd, .bool false, .slice none 0 0]
def rdl (l : List Rd) : List Value := l.flatMap Rd.cells
theorem rdl_at {l : List Rd} {k : Nat} {x : Rd} (h : l[k]? = some x) : ((rdl l).drop (0 + k * 5)).take 5 = x.cells := by rw [Nat.zero_add]; exact flat_at Rd.cells (fun _ => rfl) h
def Ag.cells (x : Ag) : List Value := [.int .i64 x.a, .int .i64 x.b, .int .i64 x.t]
def agl (l : List Ag) : List Value := l.flatMap Ag.cells
theorem agl_at {l : List Ag} {k : Nat} {x : Ag} (h : l[k]? = some x) : ((agl l).drop (0 + k * 3)).take 3 = x.cells := by rw [Nat.zero_add]; exact flat_at Ag.cells (fun _ => rfl) h
def stripM (m : Ms) : Ms := { m with ta := none, tl := 0, tc := 0 }
def refF (who : Int) (l : List Rd) : Bool × Int := l.foldl (fun a x => if (x.gate == who && x.is) = true then (true, x.rd) else a) (false, 0)
theorem refF_take {who : Int} {l : List Rd} {k : Nat} {x : Rd} (h : l[k]? = some x) : refF who (l.take (k + 1)) = if (x.gate == who && x.is) = true then (true, x.rd) else refF who (l.take k) := by
 unfold refF; rw [List.take_add_one, h, List.foldl_append]; rfl
structure InI (p : Par) (q : Nat → List ByteArray) (k : Nat) (d : List ByteArray) (hs : List Hr) (ts : List Tb) (hn : Nat) : Prop where
 hin : ∀ h ∈ hs, AgeOK p h.age ∧ ∃ i : Nat, i < 48 ∧ h.m.src = (i : Int) ∧ ∃ s ∈ q i, ∃ l, decF (strL s) = some (stripM h.m, l)
 hall : ∀ i, i < k → ∀ s ∈ q i, ∀ m l, decF (strL s) = some (m, l) → m.src = (i : Int) → ∃ h ∈ hs, stripM h.m = m
 now : ∀ s ∈ d, ∀ m l, decF (strL s) = some (m, l) → m.src = (k : Int) → ∃ h ∈ hs, stripM h.m = m
 len : hs.length = hn
 le : hn ≤ 64 * k + d.length
 ok : ∀ x ∈ ts, TbOk x
 hts : ∀ h ∈ hs, ∃ x ∈ ts, x.a = h.m.ta ∧ x.n = h.m.tl ∧ x.c = h.m.tc
theorem InI.start (p : Par) (q : Nat → List ByteArray) : InI p q 0 [] [] [] 0 := ⟨(fun _ h => nomatch h), fun i h => by omega, (fun _ h => nomatch h), rfl, by omega, (fun _ h => nomatch h), fun _ h => nomatch h⟩
theorem InI.next {p : Par} {q : Nat → List ByteArray} {k : Nat} {hs : List Hr} {ts : List Tb} {hn : Nat} (h : InI p q k (q k) hs ts hn) (hq : (q k).length ≤ 64) : InI p q (k + 1) [] hs ts hn := ⟨h.hin, fun i hi => by
 rcases Nat.lt_or_ge i k with z | z
 ·exact h.hall i z
 ·obtain rfl : i = k := by omega
  exact h.now, (fun _ h => nomatch h), h.len, by have := h.le; simp; omega, h.ok, h.hts⟩
theorem InI.skip {p : Par} {q : Nat → List ByteArray} {k : Nat} {d : List ByteArray} {hs : List Hr} {ts : List Tb} {hn : Nat} (h : InI p q k d hs ts hn) (x : ByteArray) (hx : ∀ m l, decF (strL x) = some (m, l) → m.src = (k : Int) → False) : InI p q k (d ++ [x]) hs ts hn := ⟨h.hin, h.hall, fun s hs1 m l hd hm => by
 rcases List.mem_append.1 hs1 with z | z
 ·exact h.now s z m l hd hm
 ·simp at z; subst z; exact (hx m l hd hm).elim, h.len, by have := h.le; simp; omega, h.ok, h.hts⟩
theorem InI.add {p : Par} {q : Nat → List ByteArray} {k : Nat} {d : List ByteArray} {hs : List Hr} {ts : List Tb} {hn : Nat} (h : InI p q k d hs ts hn) (hk : k < 48) {x : ByteArray} {m : Ms} {l : List (Int × Int)} {a : Int} (hx : x ∈ q k) (ha : AgeOK p a) (hd : decF (strL x) = some ({ m with ta := none, tl := 0, tc := 0 }, l)) (hm : m.src = (k : Int)) (hl : l.length = m.tl) (ht : tableB l = true) : InI p q k (d ++ [x]) (hs ++ [⟨m, a⟩]) (ts ++ [⟨m.ta, m.tl, m.tc, l⟩]) (hn + 1) := by
 have mem : ∀ y ∈ hs, y ∈ hs ++ [(⟨m, a⟩ : Hr)] := fun y hy => List.mem_append_left _ hy
 refine ⟨fun y hy => ?_, fun i hi s hs1 m' l' h1 h2 => ?_, fun s hs1 m' l' h1 h2 => ?_, by simp [h.len], by have := h.le; simp; omega, fun y hy => ?_, fun y hy => ?_⟩
 ·rcases List.mem_append.1 hy with z | z
  ·exact h.hin y z
  ·simp at z; subst z; exact ⟨ha, k, hk, hm, x, hx, l, hd⟩
 ·obtain ⟨y, hy, e⟩ := h.hall i hi s hs1 m' l' h1 h2
  exact ⟨y, mem y hy, e⟩
 ·rcases List.mem_append.1 hs1 with z | z
  ·obtain ⟨y, hy, e⟩ := h.now s z m' l' h1 h2
   exact ⟨y, mem y hy, e⟩
  ·simp at z; subst z
   rw [hd] at h1
   simp only [Option.some.injEq, Prod.mk.injEq] at h1
   exact ⟨⟨m, a⟩, by simp, h1.1⟩
 ·rcases List.mem_append.1 hy with z | z
  ·exact h.ok y z
  ·simp at z; subst z; exact ⟨hl, ht⟩
 ·rcases List.mem_append.1 hy with z | z
  ·obtain ⟨t, ht, e⟩ := h.hts y z
   exact ⟨t, List.mem_append_left _ ht, e⟩
  ·simp at z; subst z; exact ⟨⟨m.ta, m.tl, m.tc, l⟩, by simp, rfl, rfl, rfl⟩
theorem dec_skip {m : Ms} {e : Int} {l : List (Int × Int)} {x : ByteArray} {k : Int} (hde : (e = 0 ∧ goodM m l = true ∧ decF (strL x) = some ({ m with ta := none, tl := 0, tc := 0 }, l)) ∨ (e ≠ 0 ∧ decF (strL x) = none)) (h : ¬ (e = 0 ∧ k = m.src)) : ∀ m' l', decF (strL x) = some (m', l') → m'.src = k → False := fun m' l' h1 h2 => by
 rcases hde with ⟨a, _, b⟩ | ⟨_, b⟩
 ·rw [b] at h1
  simp only [Option.some.injEq, Prod.mk.injEq] at h1
  exact h ⟨a, by rw [← h2, ← h1.1]⟩
 ·rw [b] at h1; cases h1
theorem dec_add {m : Ms} {e : Int} {l : List (Int × Int)} {x : ByteArray} (hde : (e = 0 ∧ goodM m l = true ∧ decF (strL x) = some ({ m with ta := none, tl := 0, tc := 0 }, l)) ∨ (e ≠ 0 ∧ decF (strL x) = none)) (h : (e == 0) = true) : decF (strL x) = some ({ m with ta := none, tl := 0, tc := 0 }, l) ∧ tableB l = true := by
 rcases hde with ⟨a, c, b⟩ | ⟨a, _⟩
 ·exact ⟨b, (good_n c).tab⟩
 ·exact absurd (eq_of_beq h) a
def emptQ (q : Nat → List ByteArray) (k : Nat) : Nat → List ByteArray := fun j => if j < k then [] else q j
theorem emptQ_at (q : Nat → List ByteArray) (k : Nat) : emptQ q k k = q k := if_neg (by omega)
theorem emptQ_zero (q : Nat → List ByteArray) : emptQ q 0 = q := by funext j; exact if_neg (by omega)
theorem upd_upd (q : Nat → List ByteArray) (k : Nat) (a b : List ByteArray) : upd (upd q k a) k b = upd q k b := by funext j; unfold upd; split <;> rfl
theorem upd_at (q : Nat → List ByteArray) (k : Nat) (a : List ByteArray) : upd q k a k = a := if_pos rfl
theorem emptQ_next (q : Nat → List ByteArray) (k : Nat) : upd (emptQ q k) k [] = emptQ q (k + 1) := by
 funext j
 unfold upd emptQ
 split
 ·rw [if_pos (by omega)]
 ·split
  ·rw [if_pos (by omega)]
  ·rw [if_neg (by omega)]
theorem w_input (gw ub un uc : Nat) (p : Par) (tm : Int) (us : List Uc) (J : Nat) (u : Uc) (hu : us[J]? = some u) (wa : Option Addr) (wn wc : Nat) (ta ra ga qa : Option Addr) (tn tc rn rc gn gc qn qc : Nat) (tks : List (Int × Int)) (rds : List Rd) (ags : List Ag) (htl : tks.length = tn) (hrdl : rds.length = rn) (hgl : ags.length = gn) (htn : tn ≤ 100000) (hrn : rn ≤ 100000) (hgn : gn ≤ 100000) (hT0 : TickOK p p.beat) (hA0 : AgeOK p (sbC p.beat p.delay)) (htk : ∀ x ∈ tks, TickOK p x.2) (hag : ∀ x ∈ ags, AgeOK p x.t) (q : Nat → List ByteArray) (hq64 : ∀ k, k < 48 → (q k).length ≤ 64) : Spec prog 38 [.pointer (some ⟨gw, 0, none⟩), .pointer (some ⟨ub, 0 + J * 4, none⟩), .agg #[.slice ta tn tc, .slice ra rn rc, .slice ga gn gc, .slice none 0 0, .slice qa qn qc, .slice none 0 0, .slice none 0 0, .slice none 0 0]] [lanE u.lb q] [blk gw (pC p [.int .i64 tm, .slice (some ⟨ub, 0, none⟩) un uc, .slice wa wn wc]) 93, row (some ⟨ub, 0, none⟩) uc 81 4 un (ucl us), row ta tc 87 2 tn (spl tks), row ra rc 60 5 rn (rdl rds), row ga gc 89 3 gn (agl ags)] (fun v Ln => ∃ tk rf rd ha hc hn hs ts, v = .agg #[.int .i64 tk, .slice ha hn hc, .bool rf, .int .i64 rd, .bool false, .slice none 0 0] ∧ TickOK p tk ∧ (rf, rd) = refF u.who rds ∧ InI p q 48 [] hs ts hn ∧ Ln = [row ha hc 138 15 hn (hrl hs), tabsE ts, lanE u.lb (emptQ q 48)]) := by
 refine Spec.en func38 ntmps38 fun w0 => ?_
 refine G.sr fun _ K1 => ?_
 refine G.mk 5 .bx fun g5 => ?_
 refine G.mk 6 (.al z103) fun g6 => ?_
 refine G.nk K1 ?_
 refine G.sr fun _ K2 => ?_
 refine G.M 20 ?_
 refine G.V 21 .nc ?_
 refine G.V 22 (.fa f93_0 0) ?_
 refine G.V 23 (.fa f23_3 3) ?_
 refine G.V 24 (.ld t3 3) ?_
 refine G.V 25 (.build z103 p103 (cs := #[.int .i64 p.beat, .slice none 0 0, .bool false, .int .i64 0, .bool false, .slice none 0 0]) (hf := by kernel_rfl)) ?_
 refine G.mk 7 (.al z103) fun g7 => ?_
 refine G.sn 0 (.st t103 0) rfl ?_
 refine G.nk K2 ?_
 refine G.Z fun _ K3 => ?_
 refine G.sr fun _ K4 => ?_
 refine G.V 26 (.fa f65_0 0) ?_
 refine G.V 27 (.ld t62 2) ?_
 refine G.V 28 (.lenl s62) ?_
 refine G.M 29 ?_
 refine G.nk K4 ?_
 refine G.block ?_
 refine G.lpR (ι := {z : Nat × Nat × Nat × Nat × Int // z.1 ≤ tn ∧ TickOK p z.2.2.2.2}) (fun ⟨⟨k, g5, g6, g7, tk⟩, hj, htk0⟩ => tn - k) (fun ⟨⟨k, g5, g6, g7, tk⟩, hj, htk0⟩ => [(0, .pointer (some ⟨gw, 0, none⟩)), (1, .pointer (some ⟨ub, 0 + J * 4, none⟩)), (5, .pointer (some ⟨g5, 0, none⟩)), (6, .pointer (some ⟨g6, 0, none⟩)), (7, .pointer (some ⟨g7, 0, none⟩)), (27, .slice ta tn tc), (28, .int .i64 (tn : Int)), (29, .int .i64 (k : Int))]) (fun ⟨⟨k, g5, g6, g7, tk⟩, hj, htk0⟩ => [blk g7 [.int .i64 tk, .slice none 0 0, .bool false, .int .i64 0, .bool false, .slice none 0 0] 103, blk g6 [.int .i64 0, .slice none 0 0, .bool false, .int .i64 0, .bool false, .slice none 0 0] 103, blk g5 [.slice ta tn tc, .slice ra rn rc, .slice ga gn gc, .slice none 0 0, .slice qa qn qc, .slice none 0 0, .slice none 0 0, .slice none 0 0] 65, lanE u.lb q]) ?_ ?_
 exact G.at ⟨(0, g5, g6, g7, p.beat), Nat.zero_le _, hT0⟩ (ts := [0, 1, 5, 6, 7, 27, 28, 29]) rfl rfl rfl rfl
 rintro ⟨⟨k, g5, g6, g7, tk⟩, hj, htk0⟩ _ K5
 try dsimp only at K5 ⊢
 try dsimp only at hj htk0
 refine G.sr fun _ K6 => ?_
 refine G.V 30 .bin ?_
 refine G.nk K6 ?_
 refine G.Z fun _ K7 => ?_
 refine G.cond rfl (fun hc30 => ?_) (fun hc30 => ?_)
 have hk : k < tn := by have := of_decide_eq_true hc30; omega
 obtain ⟨x, hx⟩ : ∃ x, tks[k]? = some x := ⟨_, List.getElem?_eq_getElem (by omega)⟩
 refine G.sk K7 ?_
 refine G.Z fun _ K8 => ?_
 refine G.block ?_
 refine G.Z fun _ K9 => ?_
 refine G.base 6 (show 0 < tn by omega) fun b10 hb_ => ?_
 subst hb_
 refine G.region ?_
 refine G.V 31 (.is s62 k hk) ?_
 refine G.V 32 (.lda t87 6 (hv := spl_at hx)) ?_
 refine G.mk 9 (.al z87) fun g9 => ?_
 refine G.sn 0 (.st t87 0) rfl ?_
 refine G.nk K9 ?_
 refine G.Z fun _ K11 => ?_
 refine G.draw 7 [0] [1] [] ?_
 refine D.V 0 33 1 (.fa f87_0 0) ?_
 refine D.V 2 35 5 .mv ?_
 refine D.V 3 36 13 .nc ?_
 refine D.V 4 37 29 (.fa f81_0 (0 + J * 4)) ?_
 refine D.T 1 34 31 (.ld t3 0) [0] [1] ?_
 refine D.T 5 38 63 (.ld t3 1 (hv := ucl_cell (i := 0) hu (by decide) rfl)) [0] [1] ?_
 refine D.V 6 39 127 .bin ?_
 refine D.done ?_
 refine K11 _ _ _ ?_
 refine G.cond rfl (fun hc39 => ?_) (fun hc39 => ?_)
 refine G.region ?_
 refine G.V 40 (.fa f87_1 1) ?_
 refine G.V 41 (.ld t3 0) ?_
 refine G.V 42 (.fa f103_0 0) ?_
 refine G.sn 1 (.st t3 1) rfl ?_
 refine G.nk K8 ?_
 refine G.region ?_
 refine G.V 43 .bw ?_
 refine G.M 29 ?_
 refine G.nil ?_
 refine G.only [1, 1, 1, 1] ?_
 refine K5 _ _ _ ?_
 exact G.ls ⟨(k + 1, g5, g6, g7, x.2), hk, htk x (List.mem_of_getElem? hx)⟩
 refine G.sk K8 ?_
 refine G.region ?_
 refine G.V 43 .bw ?_
 refine G.M 29 ?_
 refine G.nil ?_
 refine G.only [1, 1, 1, 1] ?_
 refine K5 _ _ _ ?_
 exact G.ls ⟨(k + 1, g5, g6, g7, tk), hk, htk0⟩
 refine G.exit ?_
 refine K3 _ _ _ ?_
 refine G.Z fun _ K12 => ?_
 refine G.sr fun _ K13 => ?_
 refine G.V 44 (.fa f65_1 1) ?_
 refine G.V 45 (.ld t61 2) ?_
 refine G.V 46 (.lenl s61) ?_
 refine G.M 47 ?_
 refine G.nk K13 ?_
 refine G.block ?_
 refine G.lpR (ι := {z : Nat × Nat × Nat × Nat × Bool × Int // z.1 ≤ rn ∧ (z.2.2.2.2.1, z.2.2.2.2.2) = refF u.who (rds.take z.1)}) (fun ⟨⟨k, g5, g6, g7, rf, rd⟩, hj, hrf⟩ => rn - k) (fun ⟨⟨k, g5, g6, g7, rf, rd⟩, hj, hrf⟩ => [(0, .pointer (some ⟨gw, 0, none⟩)), (1, .pointer (some ⟨ub, 0 + J * 4, none⟩)), (5, .pointer (some ⟨g5, 0, none⟩)), (6, .pointer (some ⟨g6, 0, none⟩)), (7, .pointer (some ⟨g7, 0, none⟩)), (45, .slice ra rn rc), (46, .int .i64 (rn : Int)), (47, .int .i64 (k : Int))]) (fun ⟨⟨k, g5, g6, g7, rf, rd⟩, hj, hrf⟩ => [blk g7 [.int .i64 tk, .slice none 0 0, .bool rf, .int .i64 rd, .bool false, .slice none 0 0] 103, blk g6 [.int .i64 0, .slice none 0 0, .bool false, .int .i64 0, .bool false, .slice none 0 0] 103, blk g5 [.slice ta tn tc, .slice ra rn rc, .slice ga gn gc, .slice none 0 0, .slice qa qn qc, .slice none 0 0, .slice none 0 0, .slice none 0 0] 65, lanE u.lb q]) ?_ ?_
 exact G.at ⟨(0, g5, g6, g7, false, 0), Nat.zero_le _, rfl⟩ (ts := [0, 1, 5, 6, 7, 45, 46, 47]) rfl rfl rfl rfl
 rintro ⟨⟨k, g5, g6, g7, rf, rd⟩, hj, hrf⟩ _ K14
 try dsimp only at K14 ⊢
 try dsimp only at hj hrf
 refine G.sr fun _ K15 => ?_
 refine G.V 48 .bin ?_
 refine G.nk K15 ?_
 refine G.Z fun _ K16 => ?_
 refine G.cond rfl (fun hc48 => ?_) (fun hc48 => ?_)
 have hk : k < rn := by have := of_decide_eq_true hc48; omega
 obtain ⟨y, hy⟩ : ∃ x, rds[k]? = some x := ⟨_, List.getElem?_eq_getElem (by omega)⟩
 refine G.sk K16 ?_
 refine G.Z fun _ K17 => ?_
 refine G.block ?_
 refine G.Z fun _ K18 => ?_
 refine G.base 7 (show 0 < rn by omega) fun b19 hb_ => ?_
 subst hb_
 refine G.region ?_
 refine G.V 49 (.is s61 k hk) ?_
 refine G.V 50 (.lda t60 7 (hv := rdl_at hy)) ?_
 refine G.mk 11 (.al z60) fun g11 => ?_
 refine G.sn 0 (.st t60 0) rfl ?_
 refine G.nk K18 ?_
 refine G.Z fun _ K20 => ?_
 refine G.Z fun _ K21 => ?_
 refine G.draw 11 [0] [1] [] ?_
 refine D.V 0 51 1 (.fa f60_0 0) ?_
 refine D.V 2 53 5 .mv ?_
 refine D.V 3 54 13 .nc ?_
 refine D.V 4 55 29 (.fa f81_0 (0 + J * 4)) ?_
 refine D.T 1 52 31 (.ld t3 0) [0] [1] ?_
 refine D.T 5 56 63 (.ld t3 1 (hv := ucl_cell (i := 0) hu (by decide) rfl)) [0] [1] ?_
 refine D.V 6 57 127 .bin ?_
 refine D.V 7 58 255 .mv ?_
 cases hg22 : (y.gate == u.who : Bool)
 refine D.off 8 59 511 ?_
 refine D.off 9 60 1023 ?_
 refine D.V 10 61 2047 .pick ?_
 refine D.done ?_
 refine K21 _ _ _ ?_
 refine G.no rfl ?_
 refine G.sk K20 ?_
 refine G.Z fun _ K23 => ?_
 refine G.draw 11 [0] [1] [] ?_
 refine D.V 0 66 1 (.fa f60_0 0) ?_
 refine D.V 2 68 5 .mv ?_
 refine D.V 3 69 13 .nc ?_
 refine D.V 4 70 29 (.fa f81_0 (0 + J * 4)) ?_
 refine D.T 1 67 31 (.ld t3 0) [0] [1] ?_
 refine D.T 5 71 63 (.ld t3 1 (hv := ucl_cell (i := 0) hu (by decide) rfl)) [0] [1] ?_
 refine D.V 6 72 127 .bin ?_
 refine D.V 7 73 255 .mv ?_
 cases hg24 : (y.gate == u.who : Bool)
 refine D.off 8 74 511 ?_
 refine D.off 9 75 1023 ?_
 refine D.V 10 76 2047 .pick ?_
 refine D.done ?_
 refine K23 _ _ _ ?_
 refine G.no rfl ?_
 refine G.sk K17 ?_
 refine G.region ?_
 refine G.V 81 .bw ?_
 refine G.M 47 ?_
 refine G.nil ?_
 refine G.only [1, 1, 1, 1] ?_
 refine K14 _ _ _ ?_
 exact G.ls ⟨(k + 1, g5, g6, g7, rf, rd), hk, by rw [refF_take hy, ← hrf]; simp [*]⟩
 refine D.V 8 74 511 (.fa f60_3 3) ?_
 refine D.T 9 75 1023 (.ld t4 0) [0] [1] ?_
 refine D.V 10 76 2047 .pick ?_
 refine D.done ?_
 refine K23 _ _ _ ?_
 refine G.no rfl ?_
 refine G.sk K17 ?_
 refine G.region ?_
 refine G.V 81 .bw ?_
 refine G.M 47 ?_
 refine G.nil ?_
 refine G.only [1, 1, 1, 1] ?_
 refine K14 _ _ _ ?_
 exact G.ls ⟨(k + 1, g5, g6, g7, rf, rd), hk, by rw [refF_take hy, ← hrf]; simp [*]⟩
 refine D.V 8 59 511 (.fa f60_1 1) ?_
 refine D.T 9 60 1023 (.ld t4 0) [0] [1] ?_
 refine D.V 10 61 2047 .pick ?_
 refine D.done ?_
 refine K21 _ _ _ ?_
 refine G.cond rfl (fun hc61 => ?_) (fun hc61 => ?_)
 refine G.draw 6 [0] [] [] ?_
 refine D.V 0 62 1 (.fa f60_2 2) ?_
 refine D.V 2 64 5 (.fa f103_2 2) ?_
 refine D.T 1 63 7 (.ld t3 0) [0] [] ?_
 refine D.sto 3 15 1 (.st t4 1) [0] []  rfl ?_
 dsimp only [List.set, sets, Value.cells, List.zipIdx, List.foldl]
 refine D.V 4 65 31 (.fa f103_3 3) ?_
 refine D.sto 5 63 1 (.st t3 1) [0] []  rfl ?_
 dsimp only [List.set, sets, Value.cells, List.zipIdx, List.foldl]
 refine D.done ?_
 refine K20 _ _ _ ?_
 refine G.Z fun _ K25 => ?_
 refine G.draw 11 [0] [1] [] ?_
 refine D.V 0 66 1 (.fa f60_0 0) ?_
 refine D.V 2 68 5 .mv ?_
 refine D.V 3 69 13 .nc ?_
 refine D.V 4 70 29 (.fa f81_0 (0 + J * 4)) ?_
 refine D.T 1 67 31 (.ld t3 0) [0] [1] ?_
 refine D.T 5 71 63 (.ld t3 1 (hv := ucl_cell (i := 0) hu (by decide) rfl)) [0] [1] ?_
 refine D.V 6 72 127 .bin ?_
 refine D.V 7 73 255 .mv ?_
 cases hg26 : (y.gate == u.who : Bool)
 refine D.off 8 74 511 ?_
 refine D.off 9 75 1023 ?_
 refine D.V 10 76 2047 .pick ?_
 refine D.done ?_
 refine K25 _ _ _ ?_
 refine G.no rfl ?_
 refine G.sk K17 ?_
 refine G.region ?_
 refine G.V 81 .bw ?_
 refine G.M 47 ?_
 refine G.nil ?_
 refine G.only [1, 1, 1, 1] ?_
 refine K14 _ _ _ ?_
 exact G.ls ⟨(k + 1, g5, g6, g7, true, y.rd), hk, by rw [refF_take hy, ← hrf]; simp [*]⟩
 refine D.V 8 74 511 (.fa f60_3 3) ?_
 refine D.T 9 75 1023 (.ld t4 0) [0] [1] ?_
 refine D.V 10 76 2047 .pick ?_
 refine D.done ?_
 refine K25 _ _ _ ?_
 refine G.no rfl ?_
 refine G.sk K17 ?_
 refine G.region ?_
 refine G.V 81 .bw ?_
 refine G.M 47 ?_
 refine G.nil ?_
 refine G.only [1, 1, 1, 1] ?_
 refine K14 _ _ _ ?_
 exact G.ls ⟨(k + 1, g5, g6, g7, true, y.rd), hk, by rw [refF_take hy, ← hrf]; simp [*]⟩
 refine G.sk K20 ?_
 refine G.Z fun _ K27 => ?_
 refine G.draw 11 [0] [1] [] ?_
 refine D.V 0 66 1 (.fa f60_0 0) ?_
 refine D.V 2 68 5 .mv ?_
 refine D.V 3 69 13 .nc ?_
 refine D.V 4 70 29 (.fa f81_0 (0 + J * 4)) ?_
 refine D.T 1 67 31 (.ld t3 0) [0] [1] ?_
 refine D.T 5 71 63 (.ld t3 1 (hv := ucl_cell (i := 0) hu (by decide) rfl)) [0] [1] ?_
 refine D.V 6 72 127 .bin ?_
 refine D.V 7 73 255 .mv ?_
 cases hg28 : (y.gate == u.who : Bool)
 refine D.off 8 74 511 ?_
 refine D.off 9 75 1023 ?_
 refine D.V 10 76 2047 .pick ?_
 refine D.done ?_
 refine K27 _ _ _ ?_
 refine G.no rfl ?_
 refine G.sk K17 ?_
 refine G.region ?_
 refine G.V 81 .bw ?_
 refine G.M 47 ?_
 refine G.nil ?_
 refine G.only [1, 1, 1, 1] ?_
 refine K14 _ _ _ ?_
 exact G.ls ⟨(k + 1, g5, g6, g7, rf, rd), hk, by rw [refF_take hy, ← hrf]; simp [*]⟩
 refine D.V 8 74 511 (.fa f60_3 3) ?_
 refine D.T 9 75 1023 (.ld t4 0) [0] [1] ?_
 refine D.V 10 76 2047 .pick ?_
 refine D.done ?_
 refine K27 _ _ _ ?_
 refine G.no rfl ?_
 refine G.sk K17 ?_
 refine G.region ?_
 refine G.V 81 .bw ?_
 refine G.M 47 ?_
 refine G.nil ?_
 refine G.only [1, 1, 1, 1] ?_
 refine K14 _ _ _ ?_
 exact G.ls ⟨(k + 1, g5, g6, g7, rf, rd), hk, by rw [refF_take hy, ← hrf]; simp [*]⟩
 have hkn : rn = k := by have := of_decide_eq_false hc48; omega
 rw [show rds.take k = rds from by rw [← hkn, ← hrdl]; exact List.take_length] at hrf
 refine G.exit ?_
 refine K12 _ _ _ ?_
 refine G.Z fun _ K29 => ?_
 refine G.sr fun _ K30 => ?_
 refine G.M 82 ?_
 refine G.nil ?_
 refine G.newRow 138 15 ?_
 refine G.addE (e := tabsE []) rfl tabsE_nil ?_
 refine K30 _ _ _ ?_
 refine G.block ?_
 refine G.lpR (ι := {z : Nat × Nat × Nat × Nat × Option Addr × Nat × Nat × List Hr × List Tb // z.1 ≤ 48 ∧ InI p q z.1 [] z.2.2.2.2.2.2.2.1 z.2.2.2.2.2.2.2.2 z.2.2.2.2.2.2.1}) (fun ⟨⟨k, g5, g6, g7, ha, hc, hn, hs, ts⟩, hj, hI⟩ => 48 - k) (fun ⟨⟨k, g5, g6, g7, ha, hc, hn, hs, ts⟩, hj, hI⟩ => [(0, .pointer (some ⟨gw, 0, none⟩)), (1, .pointer (some ⟨ub, 0 + J * 4, none⟩)), (5, .pointer (some ⟨g5, 0, none⟩)), (6, .pointer (some ⟨g6, 0, none⟩)), (7, .pointer (some ⟨g7, 0, none⟩)), (82, .int .i64 (k : Int))]) (fun ⟨⟨k, g5, g6, g7, ha, hc, hn, hs, ts⟩, hj, hI⟩ => [tabsE ts, row ha hc 138 15 hn (hrl hs), blk g7 [.int .i64 tk, .slice ha hn hc, .bool rf, .int .i64 rd, .bool false, .slice none 0 0] 103, blk g6 [.int .i64 0, .slice none 0 0, .bool false, .int .i64 0, .bool false, .slice none 0 0] 103, blk g5 [.slice ta tn tc, .slice ra rn rc, .slice ga gn gc, .slice none 0 0, .slice qa qn qc, .slice none 0 0, .slice none 0 0, .slice none 0 0] 65, lanE u.lb (emptQ q k)]) ?_ ?_
 exact G.at ⟨(0, g5, g6, g7, none, 0, 0, [], []), Nat.zero_le _, InI.start p q⟩ (ts := [0, 1, 5, 6, 7, 82]) rfl (by first | rfl | (dsimp only; rw [emptQ_zero]; rfl)) rfl rfl
 rintro ⟨⟨k, g5, g6, g7, ha, hc, hn, hs, ts⟩, hj, hI⟩ _ K31
 try dsimp only at K31 ⊢
 try dsimp only at hj hI
 have hnb : hn ≤ 64 * k := by have := hI.le; simpa using this
 refine G.sr fun _ K32 => ?_
 refine G.V 83 .bin ?_
 refine G.nk K32 ?_
 refine G.Z fun _ K33 => ?_
 refine G.cond rfl (fun hc83 => ?_) (fun hc83 => ?_)
 have hk : k < 48 := by have := of_decide_eq_true hc83; omega
 refine G.sk K33 ?_
 refine G.Z fun _ K34 => ?_
 refine G.block ?_
 refine G.sr fun _ K35 => ?_
 refine G.M2 84 12 ?_
 refine G.nk K35 ?_
 refine G.Z fun _ K36 => ?_
 refine G.draw 12 [] [0] [] ?_
 refine D.V 0 85 1 .mv ?_
 refine D.V 1 86 3 .nc ?_
 refine D.V 2 87 7 (.fa f93_0 0) ?_
 refine D.V 3 88 15 (.fa f23_3 3) ?_
 refine D.V 5 90 47 .mv ?_
 refine D.V 6 91 111 .nc ?_
 refine D.V 7 92 239 (.fa f93_0 0) ?_
 refine D.V 8 93 495 (.fa f23_5 5) ?_
 refine D.T 4 89 511 (.ld t3 0) [] [0] ?_
 refine D.T 9 94 1023 (.ld t3 0) [] [0] ?_
 refine D.C 10 95 2047 [] [] [] [0]  e33 (s_Sub p.beat p.delay) ?_
 rintro _ _ ⟨rfl, rfl⟩
 refine D.V 11 13 4095 .mv ?_
 refine D.done ?_
 refine K36 _ _ _ ?_
 refine G.Z fun _ K37 => ?_
 refine G.sr fun _ K38 => ?_
 refine G.V 96 (.fa f65_2 2) ?_
 refine G.V 97 (.ld t63 4) ?_
 refine G.V 98 (.lenl s63) ?_
 refine G.M 99 ?_
 refine G.nk K38 ?_
 refine G.block ?_
 refine G.lpR (ι := {z : Nat × Nat × Nat × Nat × Int // z.1 ≤ gn ∧ AgeOK p z.2.2.2.2}) (fun ⟨⟨i, g5, g6, g7, ag⟩, hi, hag0⟩ => gn - i) (fun ⟨⟨i, g5, g6, g7, ag⟩, hi, hag0⟩ => [(0, .pointer (some ⟨gw, 0, none⟩)), (1, .pointer (some ⟨ub, 0 + J * 4, none⟩)), (5, .pointer (some ⟨g5, 0, none⟩)), (6, .pointer (some ⟨g6, 0, none⟩)), (7, .pointer (some ⟨g7, 0, none⟩)), (12, .int .i64 (k : Int)), (13, .int .i64 ag), (82, .int .i64 (k : Int)), (97, .slice ga gn gc), (98, .int .i64 (gn : Int)), (99, .int .i64 (i : Int))]) (fun ⟨⟨i, g5, g6, g7, ag⟩, hi, hag0⟩ => [tabsE ts, row ha hc 138 15 hn (hrl hs), blk g7 [.int .i64 tk, .slice ha hn hc, .bool rf, .int .i64 rd, .bool false, .slice none 0 0] 103, blk g6 [.int .i64 0, .slice none 0 0, .bool false, .int .i64 0, .bool false, .slice none 0 0] 103, blk g5 [.slice ta tn tc, .slice ra rn rc, .slice ga gn gc, .slice none 0 0, .slice qa qn qc, .slice none 0 0, .slice none 0 0, .slice none 0 0] 65, lanE u.lb (emptQ q k)]) ?_ ?_
 exact G.at ⟨(0, g5, g6, g7, sbC p.beat p.delay), Nat.zero_le _, hA0⟩ (ts := [0, 1, 5, 6, 7, 12, 13, 82, 97, 98, 99]) rfl rfl rfl rfl
 rintro ⟨⟨i, g5, g6, g7, ag⟩, hi, hag0⟩ _ K39
 try dsimp only at K39 ⊢
 try dsimp only at hi hag0
 refine G.sr fun _ K40 => ?_
 refine G.V 100 .bin ?_
 refine G.nk K40 ?_
 refine G.Z fun _ K41 => ?_
 refine G.cond rfl (fun hc100 => ?_) (fun hc100 => ?_)
 have hi2 : i < gn := by have := of_decide_eq_true hc100; omega
 obtain ⟨z, hz⟩ : ∃ x, ags[i]? = some x := ⟨_, List.getElem?_eq_getElem (by omega)⟩
 refine G.sk K41 ?_
 refine G.Z fun _ K42 => ?_
 refine G.block ?_
 refine G.Z fun _ K43 => ?_
 refine G.base 10 (show 0 < gn by omega) fun b44 hb_ => ?_
 subst hb_
 refine G.region ?_
 refine G.V 101 (.is s63 i hi2) ?_
 refine G.V 102 (.lda t89 10 (hv := agl_at hz)) ?_
 refine G.mk 15 (.al z89) fun g15 => ?_
 refine G.sn 0 (.st t89 0) rfl ?_
 refine G.nk K43 ?_
 refine G.Z fun _ K45 => ?_
 refine G.draw 9 [0] [1] [] ?_
 refine D.V 0 103 1 (.fa f89_0 0) ?_
 refine D.V 2 105 5 .mv ?_
 refine D.V 3 106 13 .mv ?_
 refine D.V 4 107 29 .nc ?_
 refine D.V 5 108 61 (.fa f81_0 (0 + J * 4)) ?_
 refine D.T 1 104 63 (.lda t72 0 (vs := [.int .i64 z.a, .int .i64 z.b])) [0] [1] ?_
 refine D.T 6 109 127 (.ld t3 1 (hv := ucl_cell (i := 0) hu (by decide) rfl)) [0] [1] ?_
 refine D.V 7 110 255 (.build z72 p72 (cs := #[.int .i64 (k : Int), .int .i64 u.who]) (hf := by kernel_rfl)) ?_
 refine D.V 8 111 511 (.eq2 teq72) ?_
 refine D.done ?_
 refine K45 _ _ _ ?_
 refine G.cond rfl (fun hc111 => ?_) (fun hc111 => ?_)
 refine G.region ?_
 refine G.V 112 (.fa f89_1 2) ?_
 refine G.V 113 (.ld t3 0) ?_
 refine G.M 13 ?_
 refine G.nk K42 ?_
 refine G.region ?_
 refine G.V 114 .bw ?_
 refine G.M 99 ?_
 refine G.nil ?_
 refine G.only [1, 1, 1, 1, 1, 1] ?_
 refine K39 _ _ _ ?_
 exact G.ls ⟨(i + 1, g5, g6, g7, z.t), hi2, hag z (List.mem_of_getElem? hz)⟩
 refine G.sk K42 ?_
 refine G.region ?_
 refine G.V 114 .bw ?_
 refine G.M 99 ?_
 refine G.nil ?_
 refine G.only [1, 1, 1, 1, 1, 1] ?_
 refine K39 _ _ _ ?_
 exact G.ls ⟨(i + 1, g5, g6, g7, ag), hi2, hag0⟩
 refine G.exit ?_
 refine K37 _ _ _ ?_
 refine G.sr fun _ K46 => ?_
 refine G.M 116 ?_
 refine G.V 117 .nc ?_
 refine G.V 118 (.fa f81_3 (0 + J * 4 + 3)) ?_
 refine G.V 119 (.ld t79 7 (hv := ucl_cell (i := 3) hu (by decide) rfl)) ?_
 refine G.M 120 ?_
 refine G.C 121 [5] []  e57 (lanes_popA u.lb k hk (emptQ q k)) ?_
 rintro _ _ ⟨_, ⟨x1, xa1, is1, q1, rfl, rfl, hp1, hp2⟩, rfl⟩
 rw [emptQ_at] at hp1 hp2
 refine G.M 115 ?_
 refine G.V 122 (.ext (v := .agg #[.string x1, .int .i64 xa1])) ?_
 refine G.V 123 (.ext (v := .bool is1)) ?_
 refine G.mk 16 (.al z132) fun g16 => ?_
 refine G.sn 0 (.st t132 0) rfl ?_
 refine G.M 17 ?_
 refine G.nk K46 ?_
 refine G.block ?_
 refine G.only [0, 1, 1, 1, 1, 1, 0] ?_
 refine G.lpR (ι := {z : Nat × ByteArray × Int × Bool × List ByteArray × Option Addr × Nat × Nat × List Hr × List Tb // ∃ d, q k = d ++ (if z.2.2.2.1 = true then z.2.1 :: z.2.2.2.2.1 else []) ∧ (z.2.2.2.1 = false → z.2.2.2.2.1 = []) ∧ InI p q k d z.2.2.2.2.2.2.2.2.1 z.2.2.2.2.2.2.2.2.2 z.2.2.2.2.2.2.2.1}) (fun ⟨⟨g16, x, xa, is, qr, ha, hc, hn, hs, ts⟩, hP⟩ => qr.length + (if is = true then 1 else 0)) (fun ⟨⟨g16, x, xa, is, qr, ha, hc, hn, hs, ts⟩, hP⟩ => [(0, .pointer (some ⟨gw, 0, none⟩)), (1, .pointer (some ⟨ub, 0 + J * 4, none⟩)), (5, .pointer (some ⟨g5, 0, none⟩)), (6, .pointer (some ⟨g6, 0, none⟩)), (7, .pointer (some ⟨g7, 0, none⟩)), (12, .int .i64 (k : Int)), (13, .int .i64 ag), (82, .int .i64 (k : Int)), (16, .pointer (some ⟨g16, 0, none⟩)), (17, .bool is)]) (fun ⟨⟨g16, x, xa, is, qr, ha, hc, hn, hs, ts⟩, hP⟩ => [blk g16 [.string x, .int .i64 xa] 132, tabsE ts, row ha hc 138 15 hn (hrl hs), blk g7 [.int .i64 tk, .slice ha hn hc, .bool rf, .int .i64 rd, .bool false, .slice none 0 0] 103, blk g6 [.int .i64 0, .slice none 0 0, .bool false, .int .i64 0, .bool false, .slice none 0 0] 103, blk g5 [.slice ta tn tc, .slice ra rn rc, .slice ga gn gc, .slice none 0 0, .slice qa qn qc, .slice none 0 0, .slice none 0 0, .slice none 0 0] 65, lanE u.lb (upd (emptQ q k) k qr)]) ?_ ?_
 exact G.as ⟨(g16, x1, xa1, is1, q1, ha, hc, hn, hs, ts), [], by dsimp only; rw [List.nil_append]; cases is1 with | true => exact hp1 rfl | false => exact (hp2 rfl).1, fun h => (hp2 h).2, hI⟩
 rintro ⟨⟨g16, x, xa, is, qr, ha, hc, hn, hs, ts⟩, hP⟩ _ K47
 try dsimp only at K47 ⊢
 try dsimp only at hP
 obtain ⟨d, hqd, hqe, hI⟩ := hP
 have hnb : hn ≤ 64 * k + d.length := hI.le
 have hdl : d.length ≤ 64 := by have := hq64 k hk; rw [hqd, List.length_append] at this; omega
 refine G.Z fun _ K48 => ?_
 refine G.sr fun _ K49 => ?_
 refine G.M 124 ?_
 refine G.nk K49 ?_
 refine G.cond rfl (fun hc124 => ?_) (fun hc124 => ?_)
 have hag1 := hag0
 refine G.sk K48 ?_
 refine G.Z fun _ K50 => ?_
 refine G.block ?_
 refine G.sr fun _ K51 => ?_
 refine G.V 135 (.fa f132_0 0) ?_
 refine G.V 136 (.ld t9 0) ?_
 refine G.C 137 [] []  e58 (w_Decode x) ?_
 rintro _ _ ⟨m, e, l, rfl, hlm, hde, rfl⟩
 have hxm : x ∈ q k := by rw [hqd, if_pos ‹is = true›]; simp
 refine G.M 134 ?_
 refine G.V 138 (.ext (v := .agg #[.int .i64 m.kind, .int .i64 m.src, .int .i64 m.lo, .int .i64 m.hi, .int .i64 m.held, .int .i64 m.hops, .bool m.good, .bool m.ref, .int .i64 m.slo, .int .i64 m.shi, .int .i64 m.pulse, .int .i64 m.st, .int .i64 m.sn, .slice m.ta m.tl m.tc])) ?_
 refine G.V 139 (.ext (v := .int .i64 e)) ?_
 refine G.mk 18 (.al z107) fun g18 => ?_
 refine G.sn 0 (.st t107 0) rfl ?_
 refine G.M 19 ?_
 refine G.nk K51 ?_
 refine G.sr fun _ K52 => ?_
 refine G.M 140 ?_
 refine G.V 141 .bin ?_
 refine G.M 142 ?_
 cases hg53 : (e == 0 : Bool)
 refine G.O4 143 144 145 146 ?_
 refine G.V 147 .pick ?_
 refine G.nk K52 ?_
 refine G.no rfl ?_
 refine G.sk K50 ?_
 refine G.Z fun _ K54 => ?_
 refine G.sr fun _ K55 => ?_
 refine G.V 156 (.lda t132 2 (vs := [.string x, .int .i64 xa])) ?_
 refine G.nk K55 ?_
 refine G.region ?_
 refine G.mk 16 (.al z132) fun g16 => ?_
 refine G.sn 0 (.st t132 0) rfl ?_
 refine G.nk K54 ?_
 refine G.region ?_
 refine G.M 126 ?_
 refine G.V 127 .nc ?_
 refine G.V 128 (.fa f81_3 (0 + J * 4 + 3)) ?_
 refine G.V 129 (.ld t79 11 (hv := ucl_cell (i := 3) hu (by decide) rfl)) ?_
 refine G.M 130 ?_
 refine G.C 131 [9] []  e57 (lanes_popA u.lb k hk (upd (emptQ q k) k qr)) ?_
 rintro _ _ ⟨_, ⟨x2, xa2, is2, q2, rfl, rfl, hp3, hp4⟩, rfl⟩
 rw [upd_upd]
 refine G.M 125 ?_
 refine G.V 132 (.ext (v := .agg #[.string x2, .int .i64 xa2])) ?_
 refine G.V 133 (.ext (v := .bool is2)) ?_
 refine G.sn 1 (.st t132 1) rfl ?_
 refine G.M 17 ?_
 refine G.nil ?_
 refine G.only [1, 4, 4, 4, 4, 4, 0] ?_
 refine K47 _ _ _ ?_
 exact G.ls ⟨(g16, x2, xa2, is2, q2, ha, hc, hn, hs, ts), d ++ [x], by dsimp only; rw [hqd, if_pos ‹is = true›, List.append_assoc]; cases is2 with | true => (have := hp3 rfl; rw [upd_at] at this; rw [this]; rfl) | false => (have := (hp4 rfl).1; rw [upd_at] at this; rw [this]; rfl), fun h => (hp4 h).2, hI.skip x (dec_skip hde (fun ⟨a, b⟩ => by first | (have := ‹(e == 0) = false›; rw [a] at this; cases this) | (have := ‹(m.src == (k : Int)) = false›; rw [← b] at this; simp at this)))⟩ (hlt := (by dsimp only; have he : is = true := ‹is = true›; subst he; cases is2 with | true => (have h5 := congrArg List.length ((upd_at _ _ _).symm.trans (hp3 rfl)); rw [List.length_cons] at h5; show q2.length + 1 < qr.length + 1; omega) | false => (have h5 := congrArg List.length (hp4 rfl).2; rw [List.length_nil] at h5; show q2.length + 0 < qr.length + 1; omega))) (hL := (by first | rfl | (dsimp only; rw [hrl_snoc])))
 refine G.V 143 (.fa f107_1 1) ?_
 refine G.V 144 (.ld t3 0) ?_
 refine G.M 145 ?_
 refine G.V 146 .bin ?_
 refine G.V 147 .pick ?_
 refine G.nk K52 ?_
 refine G.cond rfl (fun hc147 => ?_) (fun hc147 => ?_)
 refine G.region ?_
 refine G.V 148 (.fa f103_1 1) ?_
 refine G.V 149 (.ld t101 5) ?_
 refine G.V 150 (.lda t107 0 (vs := [.int .i64 m.kind, .int .i64 m.src, .int .i64 m.lo, .int .i64 m.hi, .int .i64 m.held, .int .i64 m.hops, .bool m.good, .bool m.ref, .int .i64 m.slo, .int .i64 m.shi, .int .i64 m.pulse, .int .i64 m.st, .int .i64 m.sn, .slice m.ta m.tl m.tc])) ?_
 refine G.M 151 ?_
 refine G.V 152 (.build z138 p138 (cs := #[.int .i64 m.kind, .int .i64 m.src, .int .i64 m.lo, .int .i64 m.hi, .int .i64 m.held, .int .i64 m.hops, .bool m.good, .bool m.ref, .int .i64 m.slo, .int .i64 m.shi, .int .i64 m.pulse, .int .i64 m.st, .int .i64 m.sn, .slice m.ta m.tl m.tc, .int .i64 ag]) (hf := by kernel_rfl)) ?_
 refine G.row 153 (.one s101 z138 [.int .i64 m.kind, .int .i64 m.src, .int .i64 m.lo, .int .i64 m.hi, .int .i64 m.held, .int .i64 m.hops, .bool m.good, .bool m.ref, .int .i64 m.slo, .int .i64 m.shi, .int .i64 m.pulse, .int .i64 m.st, .int .i64 m.sn, .slice m.ta m.tl m.tc, .int .i64 ag]) fun g153 => ?_
 refine G.chg 154 5 (.app s101 z138 y138 5 0 (show hn + 1 ≤ 1048576 by omega)) ?_
 rintro _ _ ⟨a56, c57, rfl, rfl⟩
 dsimp only [List.set]
 refine G.V 155 (.fa f103_1 1) ?_
 refine G.sn 6 (.st t101 6) rfl ?_
 refine G.nil ?_
 refine G.only [4, 2, 0, 0, 0, 0, 0, 0, 0, 0] ?_
 refine G.merge (e := tabsE (ts ++ [⟨m.ta, m.tl, m.tc, l⟩])) (fun w h1 h2 => tabsE_snoc ts ⟨m.ta, m.tl, m.tc, l⟩ w h1 h2) (.of_eq (tabsE_snoc_own ts ⟨m.ta, m.tl, m.tc, l⟩)) ?_
 refine K50 _ _ _ ?_
 refine G.Z fun _ K58 => ?_
 refine G.sr fun _ K59 => ?_
 refine G.V 156 (.lda t132 3 (vs := [.string x, .int .i64 xa])) ?_
 refine G.nk K59 ?_
 refine G.region ?_
 refine G.mk 16 (.al z132) fun g16 => ?_
 refine G.sn 0 (.st t132 0) rfl ?_
 refine G.nk K58 ?_
 refine G.region ?_
 refine G.M 126 ?_
 refine G.V 127 .nc ?_
 refine G.V 128 (.fa f81_3 (0 + J * 4 + 3)) ?_
 refine G.V 129 (.ld t79 11 (hv := ucl_cell (i := 3) hu (by decide) rfl)) ?_
 refine G.M 130 ?_
 refine G.C 131 [9] []  e57 (lanes_popA u.lb k hk (upd (emptQ q k) k qr)) ?_
 rintro _ _ ⟨_, ⟨x2, xa2, is2, q2, rfl, rfl, hp3, hp4⟩, rfl⟩
 rw [upd_upd]
 refine G.M 125 ?_
 refine G.V 132 (.ext (v := .agg #[.string x2, .int .i64 xa2])) ?_
 refine G.V 133 (.ext (v := .bool is2)) ?_
 refine G.sn 1 (.st t132 1) rfl ?_
 refine G.M 17 ?_
 refine G.nil ?_
 refine G.only [1, 1, 4, 4, 4, 4, 0] ?_
 refine K47 _ _ _ ?_
 exact G.ls ⟨(g16, x2, xa2, is2, q2, a56, c57, hn + 1, hs ++ [⟨m, ag⟩], ts ++ [⟨m.ta, m.tl, m.tc, l⟩]), d ++ [x], by dsimp only; rw [hqd, if_pos ‹is = true›, List.append_assoc]; cases is2 with | true => (have := hp3 rfl; rw [upd_at] at this; rw [this]; rfl) | false => (have := (hp4 rfl).1; rw [upd_at] at this; rw [this]; rfl), fun h => (hp4 h).2, hI.add hk hxm hag1 (dec_add hde ‹(e == 0) = true›).1 (eq_of_beq ‹(m.src == (k : Int)) = true›) hlm (dec_add hde ‹(e == 0) = true›).2⟩ (hlt := (by dsimp only; have he : is = true := ‹is = true›; subst he; cases is2 with | true => (have h5 := congrArg List.length ((upd_at _ _ _).symm.trans (hp3 rfl)); rw [List.length_cons] at h5; show q2.length + 1 < qr.length + 1; omega) | false => (have h5 := congrArg List.length (hp4 rfl).2; rw [List.length_nil] at h5; show q2.length + 0 < qr.length + 1; omega))) (hL := (by first | rfl | (dsimp only; rw [hrl_snoc])))
 refine G.sk K50 ?_
 refine G.Z fun _ K60 => ?_
 refine G.sr fun _ K61 => ?_
 refine G.V 156 (.lda t132 2 (vs := [.string x, .int .i64 xa])) ?_
 refine G.nk K61 ?_
 refine G.region ?_
 refine G.mk 16 (.al z132) fun g16 => ?_
 refine G.sn 0 (.st t132 0) rfl ?_
 refine G.nk K60 ?_
 refine G.region ?_
 refine G.M 126 ?_
 refine G.V 127 .nc ?_
 refine G.V 128 (.fa f81_3 (0 + J * 4 + 3)) ?_
 refine G.V 129 (.ld t79 11 (hv := ucl_cell (i := 3) hu (by decide) rfl)) ?_
 refine G.M 130 ?_
 refine G.C 131 [9] []  e57 (lanes_popA u.lb k hk (upd (emptQ q k) k qr)) ?_
 rintro _ _ ⟨_, ⟨x2, xa2, is2, q2, rfl, rfl, hp3, hp4⟩, rfl⟩
 rw [upd_upd]
 refine G.M 125 ?_
 refine G.V 132 (.ext (v := .agg #[.string x2, .int .i64 xa2])) ?_
 refine G.V 133 (.ext (v := .bool is2)) ?_
 refine G.sn 1 (.st t132 1) rfl ?_
 refine G.M 17 ?_
 refine G.nil ?_
 refine G.only [1, 4, 4, 4, 4, 4, 0] ?_
 refine K47 _ _ _ ?_
 exact G.ls ⟨(g16, x2, xa2, is2, q2, ha, hc, hn, hs, ts), d ++ [x], by dsimp only; rw [hqd, if_pos ‹is = true›, List.append_assoc]; cases is2 with | true => (have := hp3 rfl; rw [upd_at] at this; rw [this]; rfl) | false => (have := (hp4 rfl).1; rw [upd_at] at this; rw [this]; rfl), fun h => (hp4 h).2, hI.skip x (dec_skip hde (fun ⟨a, b⟩ => by first | (have := ‹(e == 0) = false›; rw [a] at this; cases this) | (have := ‹(m.src == (k : Int)) = false›; rw [← b] at this; simp at this)))⟩ (hlt := (by dsimp only; have he : is = true := ‹is = true›; subst he; cases is2 with | true => (have h5 := congrArg List.length ((upd_at _ _ _).symm.trans (hp3 rfl)); rw [List.length_cons] at h5; show q2.length + 1 < qr.length + 1; omega) | false => (have h5 := congrArg List.length (hp4 rfl).2; rw [List.length_nil] at h5; show q2.length + 0 < qr.length + 1; omega))) (hL := (by first | rfl | (dsimp only; rw [hrl_snoc])))
 have hI2 : InI p q k (q k) hs ts hn := by rw [hqd, if_neg (by rw [‹is = false›]; decide), List.append_nil]; exact hI
 rw [hqe ‹is = false›, emptQ_next]
 refine G.exit ?_
 refine K34 _ _ _ ?_
 refine G.region ?_
 refine G.V 157 .bw ?_
 refine G.M 82 ?_
 refine G.nil ?_
 refine G.only [1, 1, 1, 1, 1, 1] ?_
 refine K31 _ _ _ ?_
 exact G.ls ⟨(k + 1, g5, g6, g7, ha, hc, hn, hs, ts), hk, hI2.next (hq64 k hk)⟩
 have hk48 : k = 48 := by have := of_decide_eq_false hc83; omega
 subst hk48
 refine G.exit ?_
 refine K29 _ _ _ ?_
 refine G.sr fun _ K62 => ?_
 refine G.V 158 (.lda t103 2 (vs := [.int .i64 tk, .slice ha hn hc, .bool rf, .int .i64 rd, .bool false, .slice none 0 0])) ?_
 refine G.sn 3 (.st t103 3) rfl ?_
 refine G.nk K62 ?_
 exact G.ret (G.F [1, 0, 3] (.cell Tryz.results38 t103 3) ⟨tk, rf, rd, ha, hc, hn, hs, ts, rfl, htk0, hrf, hI, rfl⟩)
end Go.Proofs.YtbmhgopjblnfnaaGreat.S
namespace Go.Proofs.YtbmhgopjblnfnaaGreat.S
open Go Go.RowKit Go.Proofs.YtbmhgopjblnfnaaGreatW.PrintLast Tryz
theorem perm_of {a b : List Nat} (h : ∀ k, a.count k = b.count k) : a.Perm b := List.perm_iff_count.2 h
theorem Spec.frame {P : Program} {f : FuncId} {args : List Value} {Lf' Rf' : List Ent} {post' : Value → List Ent → Prop} (h : ∀ w, (∀ e ∈ Lf', e.H w) → (∀ e ∈ Rf', e.H w) → (ids Lf').Nodup → ∃ A B Rf post, (∀ e ∈ A, e.H w) ∧ (∀ e ∈ B, e.H w) ∧ (ids A ++ ids B).Perm (ids Lf') ∧ Spec P f args A Rf post ∧ (∀ e ∈ Rf, e.H w) ∧ (∀ k ∈ ids Rf, k ∈ ids Rf' ∨ k ∈ ids B) ∧ ∀ w' v Ln, post v Ln → (∀ x ∈ Ln, x.H w') → (∀ x ∈ B, x.H w') → ∃ Ln' D, post' v Ln' ∧ (ids Ln' ++ D).Perm (ids Ln ++ ids B) ∧ ∀ x ∈ Ln', x.H w') : Spec P f args Lf' Rf' post' := fun w h1 h2 h3 h4 => by
 obtain ⟨A, B, Rf, post, ha, hb, hp, sp, hr, hk, hf⟩ := h w h1 h2 h3
 have nd := hp.nodup_iff.2 h3
 have ndA := List.nodup_append.1 nd
 have hlt : ∀ k ∈ ids B, k < w.heap.size := fun k hk => by
  obtain ⟨e, he, hke⟩ := mem_ids.1 hk
  exact e.lt w (hb e he) k hke
 refine (sp w ha hr ndA.1 fun k hkA hkR => ?_).mono fun en w' q => ?_
 ·rcases hk k hkR with q | q
  ·exact h4 k (hp.mem_iff.1 (List.mem_append_left _ hkA)) q
  ·exact ndA.2.2 k hkA k q rfl
 ·obtain ⟨v, Ln, he, p, fr, hl, hn, ho⟩ := q
  have hb' : ∀ x ∈ B, x.H w' := fun x hx => x.loc w w' (fun k hk1 => fr.block k (x.lt w (hb x hx) k hk1) fun q => ndA.2.2 k q k (mem_ids.2 ⟨x, hx, hk1⟩) rfl) (hb x hx)
  obtain ⟨Ln', D, p', hp', hl'⟩ := hf w' v Ln p hl hb'
  have nd2 : (ids Ln ++ ids B).Nodup := List.nodup_append.2 ⟨hn, ndA.2.1, fun a ha1 b hb1 e => by
   subst e
   rcases ho a ha1 with q | q
   ·exact ndA.2.2 a q a hb1 rfl
   ·exact absurd (hlt a hb1) (Nat.not_lt.2 q)⟩
  refine ⟨v, Ln', he, p', fr.mono fun x hx => hp.mem_iff.1 (List.mem_append_left _ hx), hl', (List.nodup_append.1 (hp'.nodup_iff.2 nd2)).1, fun k hk1 => ?_⟩
  rcases List.mem_append.1 (hp'.mem_iff.1 (List.mem_append_left _ hk1)) with q | q
  ·exact (ho k q).imp (fun z => hp.mem_iff.1 (List.mem_append_left _ z)) id
  ·exact .inl (hp.mem_iff.1 (List.mem_append_right _ q))
theorem Ent.ext {a b : Ent} (h1 : a.own = b.own) (h2 : ∀ w, a.H w ↔ b.H w) : a = b := by
 obtain ⟨o, H, l, t⟩ := a
 obtain ⟨o', H', l', t'⟩ := b
 obtain rfl : o = o' := h1
 obtain rfl : H = H' := funext fun w => propext (h2 w)
 rfl
theorem lanE_eq {lb : Nat} {q q' : Nat → List ByteArray} (h : ∀ k, k < 48 → q k = q' k) : lanE lb q = lanE lb q' := Ent.ext rfl fun w => ⟨fun ⟨cs, a, b⟩ => ⟨cs, a, b.congr h⟩, fun ⟨cs, a, b⟩ => ⟨cs, a, b.congr fun k hk => (h k hk).symm⟩⟩
def noQ : Nat → List ByteArray := fun _ => []
theorem lanE_no (lb : Nat) (q : Nat → List ByteArray) : lanE lb (emptQ q 48) = lanE lb noQ := lanE_eq fun k hk => if_pos hk
structure Ux where
 s : Sta
 l : List (Int × Int)
 nb : List Nb
 c : Nat
 tb : Nat
 r : Nat
def parC (p : Par) : List Value := [.int .i64 p.n, .int .i64 p.f, .int .i64 p.d, .int .i64 p.beat, .int .i64 p.rho, .int .i64 p.delay, .int .i64 p.jitter, .int .i64 p.eps, .int .i64 p.mu, .int .i64 p.hold, .int .i64 p.pulse, .int .i64 p.second]
def staC (s : Sta) : List Value := [.int .i64 s.lo, .int .i64 s.hi, .int .i64 s.time, .bool s.set, .int .i64 s.held, .int .i64 s.hops, .bool s.good, .slice s.ta s.tl s.tc, .int .i64 s.st, .int .i64 s.sn, .int .i64 s.life]
def gateC (p : Par) (s : Sta) (who : Int) : List Value := parC p ++ staC s ++ [Value.int .i64 who]
def nodeC (p : Par) (s : Sta) (who : Int) (tb : Nat) : List Value := parC p ++ staC s ++ [Value.int .i64 who, Value.pointer (some ⟨tb, 0, none⟩)]
def frontE (p : Par) (u : Uc) (x : Ux) : Ent := if u.who < 16 then blk u.g (gateC p x.s u.who) 122 else blk u.g (nodeC p x.s u.who x.tb) 127
def tabOf (x : Ux) : Ent := row x.s.ta x.s.tc 174 2 x.s.tl (spl x.l)
def nearP (u : Uc) (x : Ux) : List Ent := if u.who < 16 then [] else [blk x.tb [.map (some x.r)] 193, nmap x.r x.nb x.c]
def unitE (p : Par) (u : Uc) (x : Ux) : Ent := manyE (frontE p u x :: tabOf x :: nearP u x)
structure UxOk (u : Uc) (x : Ux) : Prop where
 len : x.l.length = x.s.tl
 good : goodB x.l = true
 near : 16 ≤ u.who → NOk x.nb x.c ∧ NBw x.nb
def kindOf (u : Uc) : Prop := u.t = if u.who < 16 then 119 else 123
def UnR (p : Par) (f : Nat) (u : Uc) (x : Ux) (tk : Int) (rf : Bool) (rd : Int) (hs : List Hr) (x' : Ux) (m : Ms) : Prop :=
 (u.who < 16 → GateR p f u.who x.s tk rf rd hs x'.s m) ∧ (16 ≤ u.who → NodeR p f u.who x.s tk (knownL u.who hs x.nb x.c).1 x'.s m ∧ x'.nb = tickL (knownL u.who hs x.nb x.c).2.1 ∧ x'.c = (knownL u.who hs x.nb x.c).2.2)
theorem good_tab {l : List (Int × Int)} (h : goodB l = true) : tableB l = true := by
 unfold goodB at h
 simp only [Bool.and_eq_true] at h
 exact h.1
def inV (tk : Int) (ha : Option Addr) (hn hc : Nat) (rf : Bool) (rd : Int) : Value := .agg #[.int .i64 tk, .slice ha hn hc, .bool rf, .int .i64 rd, .bool false, .slice none 0 0]
def beatF (u : Uc) : FuncId := if u.who < 16 then 113 else 173
theorem meth_u {u : Uc} (h : kindOf u) : tmeth prog u.t "Beat" = some (beatF u) := by
 unfold kindOf at h
 unfold beatF
 by_cases q : u.who < 16
 ·rw [if_pos q] at h ⊢; rw [h]; exact meth119
 ·rw [if_neg q] at h ⊢; rw [h]; exact meth123
theorem is_u (u : Uc) : Is prog (beatF u) := by
 unfold beatF
 split
 ·exact ⟨_, func113, by kernel_rfl, rfl⟩
 ·exact ⟨_, func173, by kernel_rfl, rfl⟩
def msV (m : Ms) : Value := .agg #[.int .i64 m.kind, .int .i64 m.src, .int .i64 m.lo, .int .i64 m.hi, .int .i64 m.held, .int .i64 m.hops, .bool m.good, .bool m.ref, .int .i64 m.slo, .int .i64 m.shi, .int .i64 m.pulse, .int .i64 m.st, .int .i64 m.sn, .slice m.ta m.tl m.tc]
theorem u_Beat (pw : List Int) (hpw : pw.length = 20) (p : Par) (f : Nat) (hf : p.f = (f : Int)) (hp7 : p.n ≤ 7) (he : 0 ≤ p.eps) (hd1 : p.d ≤ 16) (hd0 : 0 ≤ p.d) (u : Uc) (x : Ux) (hx : UxOk u x) (tk : Int) (rf : Bool) (rd : Int) (hr1 : -1152921504606846976 ≤ rd) (hr2 : rd ≤ 1152921504606846976) (ha : Option Addr) (hn hc : Nat) (hs : List Hr) (hhl : hs.length = hn) (hhn : hn ≤ 100000) (ts : List Tb) (hok : ∀ x ∈ ts, TbOk x) (hts : ∀ h ∈ hs, ∃ x ∈ ts, x.a = h.m.ta ∧ x.n = h.m.tl ∧ x.c = h.m.tc) :
  Spec prog (beatF u) [.pointer (some ⟨u.g, 0, none⟩), inV tk ha hn hc rf rd] [unitE p u x, tabsE ts] [row ha hc 138 15 hn (hrl hs), blk 2 (u64s pw) 319] (fun v Ln => ∃ x' m, v = msV m ∧ UnR p f u x tk rf rd hs x' m ∧ UxOk u x' ∧ x'.l.length = m.tl ∧ Ln = [row m.ta m.tc 174 2 m.tl (spl x'.l), unitE p u x', tabsE ts]) := by
 have hlen := good_len hx.good
 have htl : x.s.tl ≤ 32 := by rw [← hx.len]; exact hlen
 by_cases q : u.who < 16
 ·have eF : beatF u = 113 := if_pos q
  have nP : ∀ y, nearP u y = [] := fun y => if_pos q
  rw [eF]
  refine Spec.frame fun w h1 h2 h3 => ?_
  have hU := h1 _ (List.mem_cons_self ..)
  have hT := h1 _ (List.mem_cons_of_mem _ (List.mem_cons_self ..))
  unfold unitE at hU
  rw [nP] at hU
  have fE : frontE p u x = blk u.g (gateC p x.s u.who) 122 := if_pos q
  have sp := g_Beat u.g p f hf hp7 he u.who x.s tk rf rd hr1 hr2 x.l hx.len (by omega) ha hn hc hs hhl hhn
  refine ⟨[blk u.g (gateC p x.s u.who) 122], [tabOf x, tabsE ts], [tabOf x, row ha hc 138 15 hn (hrl hs)], _, ?_, ?_, ?_, sp, ?_, ?_, ?_⟩
  rotate_left 3
  ·intro e he
   simp only [List.mem_cons, List.not_mem_nil, or_false] at he
   rcases he with rfl | rfl
   ·exact hU _ (by simp)
   ·exact h2 _ (by simp)
  ·intro k hk
   simp only [ids, List.flatMap_cons, List.flatMap_nil, List.append_nil, List.mem_append] at hk ⊢
   rcases hk with z | z
   ·exact .inr (.inl z)
   ·exact .inl (.inl z)
  ·rintro w' v Ln ⟨s', m, l2, hv, hG, hl2, hg2, rfl⟩ hl hb
   refine ⟨[row m.ta m.tc 174 2 m.tl (spl l2), unitE p u ⟨s', l2, x.nb, x.c, x.tb, x.r⟩, tabsE ts], (tabOf x).own, ⟨⟨s', l2, x.nb, x.c, x.tb, x.r⟩, m, hv, ⟨fun _ => hG, fun z => by omega⟩, ⟨hl2, hg2, hx.near⟩, by rw [hG.say.tl]; exact hl2, rfl⟩, ?_, ?_⟩
   ·refine perm_of fun k => ?_
    simp only [ids, List.flatMap_cons, List.flatMap_nil, List.append_nil, List.count_append, unitE, manyE, nP, frontE, if_pos q, tabOf, blk, List.count_cons, List.count_nil]
    omega
   ·intro y hy
    simp only [List.mem_cons, List.not_mem_nil, or_false] at hy
    rcases hy with rfl | rfl | rfl
    ·exact hl _ (by simp)
    ·intro z hz
     rw [nP] at hz
     simp only [List.mem_cons, List.not_mem_nil, or_false] at hz
     rcases hz with rfl | rfl
     ·have := hl _ (List.mem_cons_self ..)
      unfold frontE
      rw [if_pos q]
      exact this
     ·exact hl _ (List.mem_cons_of_mem _ (List.mem_cons_self ..))
    ·exact hb _ (by simp)
  ·intro e he
   simp only [List.mem_cons, List.not_mem_nil, or_false] at he
   subst he
   rw [← fE]
   exact hU _ (by simp)
  ·intro e he
   simp only [List.mem_cons, List.not_mem_nil, or_false] at he
   rcases he with rfl | rfl
   ·exact hU _ (by simp)
   ·exact hT
  ·refine perm_of fun k => ?_
   simp only [ids, List.flatMap_cons, List.flatMap_nil, List.append_nil, List.count_append, unitE, manyE, nP, ← fE]
   omega
 ·have eF : beatF u = 173 := if_neg q
  have nP : ∀ y, nearP u y = [blk y.tb [.map (some y.r)] 193, nmap y.r y.nb y.c] := fun y => if_neg q
  rw [eF]
  obtain ⟨hN, hB⟩ := hx.near (by omega)
  refine Spec.frame fun w h1 h2 h3 => ?_
  have hU := h1 _ (List.mem_cons_self ..)
  have hT := h1 _ (List.mem_cons_of_mem _ (List.mem_cons_self ..))
  unfold unitE at hU
  rw [nP] at hU
  obtain ⟨own, hown⟩ : ∃ y : Tb, y = ⟨x.s.ta, x.s.tl, x.s.tc, x.l⟩ := ⟨_, rfl⟩
  have hrow : own.row = tabOf x := by rw [hown]; rfl
  have fE : frontE p u x = blk u.g (nodeC p x.s u.who x.tb) 127 := if_neg q
  have sp := n_Beat pw hpw u.g x.tb x.r x.c p f hf hp7 hd1 hd0 x.s u.who tk x.nb hN hB ha hn hc hs hhl hhn rf rd false none 0 0 (ts ++ [own]) (fun y hy => by
    rcases List.mem_append.1 hy with z | z
    ·exact hok y z
    ·simp at z; subst z; rw [hown]; exact ⟨hx.len, good_tab hx.good⟩) (fun h hh => by
    obtain ⟨y, hy, e⟩ := hts h hh
    exact ⟨y, List.mem_append_left _ hy, e⟩) ⟨own, by simp, by rw [hown], by rw [hown], by rw [hown]⟩
  refine ⟨[blk u.g (nodeC p x.s u.who x.tb) 127, nmap x.r x.nb x.c], [tabOf x, blk x.tb [.map (some x.r)] 193, tabsE ts], [blk x.tb [.map (some x.r)] 193, row ha hc 138 15 hn (hrl hs), tabsE (ts ++ [own]), blk 2 (u64s pw) 319], _, ?_, ?_, ?_, sp, ?_, ?_, ?_⟩
  rotate_left 3
  ·intro e he
   simp only [List.mem_cons, List.not_mem_nil, or_false] at he
   rcases he with rfl | rfl | rfl | rfl
   ·exact hU _ (by simp)
   ·exact h2 _ (by simp)
   ·exact tabsE_snoc ts own w hT (by rw [hrow]; exact hU _ (by simp))
   ·exact h2 _ (by simp)
  ·intro k hk
   simp only [ids, List.flatMap_cons, List.flatMap_nil, List.append_nil, List.mem_append, tabsE_snoc_own, hrow] at hk ⊢
   rcases hk with z | z | (z | z) | z
   ·exact .inr (.inr (.inl z))
   ·exact .inl (.inl z)
   ·exact .inr (.inr (.inr z))
   ·exact .inr (.inl z)
   ·exact .inl (.inr z)
  ·rintro w' v Ln ⟨s', m, l2, hv, hG, hl2, hg2, rfl⟩ hl hb
   have hN2 := tick_ok (known_ok hN (me := u.who) hs)
   have hB2 := tick_bd (known_bd hB (me := u.who) (c := x.c) hs)
   refine ⟨[row m.ta m.tc 174 2 m.tl (spl l2), unitE p u ⟨s', l2, tickL (knownL u.who hs x.nb x.c).2.1, (knownL u.who hs x.nb x.c).2.2, x.tb, x.r⟩, tabsE ts], (tabOf x).own, ⟨⟨s', l2, tickL (knownL u.who hs x.nb x.c).2.1, (knownL u.who hs x.nb x.c).2.2, x.tb, x.r⟩, m, hv, ⟨fun z => by omega, fun _ => ⟨hG, rfl, rfl⟩⟩, ⟨hl2, hg2, fun _ => ⟨hN2, hB2⟩⟩, by rw [hG.say.tl]; exact hl2, rfl⟩, ?_, ?_⟩
   ·refine perm_of fun k => ?_
    simp only [ids, List.flatMap_cons, List.flatMap_nil, List.append_nil, List.count_append, unitE, manyE, nP, frontE, if_neg q, tabOf, blk, mapE, List.count_cons, List.count_nil]
    omega
   ·intro y hy
    simp only [List.mem_cons, List.not_mem_nil, or_false] at hy
    rcases hy with rfl | rfl | rfl
    ·exact hl _ (by simp)
    ·intro z hz
     rw [nP] at hz
     simp only [List.mem_cons, List.not_mem_nil, or_false] at hz
     rcases hz with rfl | rfl | rfl | rfl
     ·have := hl _ (List.mem_cons_self ..)
      unfold frontE
      rw [if_neg q]
      exact this
     ·exact hl _ (List.mem_cons_of_mem _ (List.mem_cons_self ..))
     ·exact hb _ (by simp)
     ·exact hl _ (by simp)
    ·exact hb _ (by simp)
  ·intro e he
   simp only [List.mem_cons, List.not_mem_nil, or_false] at he
   rcases he with rfl | rfl
   ·rw [← fE]; exact hU _ (by simp)
   ·exact hU _ (by simp)
  ·intro e he
   simp only [List.mem_cons, List.not_mem_nil, or_false] at he
   rcases he with rfl | rfl | rfl
   ·exact hU _ (by simp)
   ·exact hU _ (by simp)
   ·exact hT
  ·refine perm_of fun k => ?_
   simp only [ids, List.flatMap_cons, List.flatMap_nil, List.append_nil, List.count_append, unitE, manyE, nP, ← fE]
   omega
def unL (p : Par) : List Uc → Nat → (Nat → Ux) → List Ent
 | [], _, _ => []
 | u :: us, j, X => unitE p u (X j) :: unL p us (j + 1) X
theorem unL_at {p : Par} : ∀ {us : List Uc} {i j : Nat} {X : Nat → Ux} {u : Uc}, us[j]? = some u → (unL p us i X)[j]? = some (unitE p u (X (i + j)))
 | [], i, j, X, u, h => by simp at h
 | v :: us, i, 0, X, u, h => by
  obtain rfl : v = u := by simpa using h
  rfl
 | v :: us, i, j + 1, X, u, h => by
  have := unL_at (p := p) (us := us) (i := i + 1) (j := j) (X := X) (u := u) (by simpa using h)
  rw [show i + (j + 1) = i + 1 + j from by omega]
  exact this
theorem unL_congr {p : Par} : ∀ {us : List Uc} {i : Nat} {X X' : Nat → Ux}, (∀ k, i ≤ k → X k = X' k) → unL p us i X = unL p us i X'
 | [], i, X, X', h => rfl
 | u :: us, i, X, X', h => by
  show unitE p u (X i) :: unL p us (i + 1) X = unitE p u (X' i) :: unL p us (i + 1) X'
  rw [h i (Nat.le_refl _), unL_congr (fun k hk => h k (by omega))]
def setX {α : Type} (X : Nat → α) (j : Nat) (x : α) : Nat → α := fun k => if k = j then x else X k
theorem unL_set {p : Par} : ∀ {us : List Uc} {i j : Nat} {X : Nat → Ux} {u : Uc} (x : Ux), us[j]? = some u → (unL p us i X).set j (unitE p u x) = unL p us i (setX X (i + j) x)
 | [], i, j, X, u, x, h => by simp at h
 | v :: us, i, 0, X, u, x, h => by
  obtain rfl : v = u := by simpa using h
  show unitE p v x :: unL p us (i + 1) X = unitE p v (setX X (i + 0) x i) :: unL p us (i + 1) _
  rw [show setX X (i + 0) x i = x from if_pos (Nat.add_zero i).symm, unL_congr (us := us) (i := i + 1) (X := setX X (i + 0) x) (X' := X) (fun k hk => if_neg (by omega))]
 | v :: us, i, j + 1, X, u, x, h => by
  have := unL_set (p := p) (us := us) (i := i + 1) (j := j) (X := X) (u := u) x (by simpa using h)
  show unitE p v (X i) :: (unL p us (i + 1) X).set j (unitE p u x) = unitE p v (setX X (i + (j + 1)) x i) :: unL p us (i + 1) _
  rw [this, show setX X (i + (j + 1)) x i = X i from if_neg (by omega), show i + 1 + j = i + (j + 1) from by omega]
end Go.Proofs.YtbmhgopjblnfnaaGreat.S
namespace Go.Proofs.YtbmhgopjblnfnaaGreat.S
open Go Go.RowKit Tryz
def sentL (us : List Uc) (lies : List Li) (ls : List (Int × Int)) (who : Int) (fr : ByteArray) (b : Nat) : List ByteArray := (ls.filter fun y => y.1 == who && decide (ixU us y.2 = b)).flatMap fun y => if (textL who y.1 y.2 lies fr).size ≤ 4096 then [textL who y.1 y.2 lies fr] else []
def sent1 (us : List Uc) (lies : List Li) (who : Int) (fr : ByteArray) (b : Nat) (y : Int × Int) : List ByteArray := if (y.1 == who && decide (ixU us y.2 = b)) = true then (if (textL who y.1 y.2 lies fr).size ≤ 4096 then [textL who y.1 y.2 lies fr] else []) else []
theorem sentL_cons (us : List Uc) (lies : List Li) (ls : List (Int × Int)) (who : Int) (fr : ByteArray) (b : Nat) (y : Int × Int) : sentL us lies (y :: ls) who fr b = sent1 us lies who fr b y ++ sentL us lies ls who fr b := by
 unfold sentL sent1
 rw [List.filter_cons]
 by_cases h : (y.1 == who && decide (ixU us y.2 = b)) = true
 ·rw [if_pos h, if_pos h, List.flatMap_cons]
 ·rw [if_neg h, if_neg h, List.nil_append]
theorem send1_eq {us : List Uc} {lies : List Li} {who : Int} {fr : ByteArray} (h0 : 0 ≤ who) (h1 : who < 48) (q : Qs) (y : Int × Int) (b k : Nat) : send1 us who lies fr q y b k = q b k ++ (if k = who.toNat then sent1 us lies who fr b y else []) := by
 unfold send1 sent1
 by_cases hy : y.1 = who
 ·have c0 : ¬ (y.1 != who) = true := by simp [hy]
  rw [if_neg c0]
  by_cases hb : ixU us y.2 = b
  ·have c1 : (y.1 == who && decide (ixU us y.2 = b)) = true := by simp [hy, hb]
   have c2 : b = 0 + ixU us y.2 := by omega
   rw [if_pos c1, if_pos c2, Nat.zero_add, hb]
   unfold pushQ
   by_cases hs : (textL who y.1 y.2 lies fr).size ≤ 4096
   ·rw [if_pos ⟨⟨h0, h1⟩, hs⟩, if_pos hs]
    unfold upd
    by_cases hk : k = who.toNat
    ·rw [if_pos hk, if_pos hk, hk]
    ·rw [if_neg hk, if_neg hk, List.append_nil]
   ·rw [if_neg (fun z => hs z.2), if_neg hs]
    split <;> rw [List.append_nil]
  ·have c1 : ¬ (y.1 == who && decide (ixU us y.2 = b)) = true := by simp [hb]
   have c2 : ¬ b = 0 + ixU us y.2 := by omega
   rw [if_neg c1, if_neg c2]
   split <;> rw [List.append_nil]
 ·have c0 : (y.1 != who) = true := by simp [hy]
  have c1 : ¬ (y.1 == who && decide (ixU us y.2 = b)) = true := by simp [hy]
  rw [if_pos c0, if_neg c1]
  split <;> rw [List.append_nil]
theorem sendQ_eq {us : List Uc} {lies : List Li} {who : Int} {fr : ByteArray} (h0 : 0 ≤ who) (h1 : who < 48) : ∀ (ls : List (Int × Int)) (q : Qs) (b k : Nat), sendQ us who lies fr ls q b k = q b k ++ (if k = who.toNat then sentL us lies ls who fr b else [])
 | [], q, b, k => by
  show q b k = _
  split
  ·exact (List.append_nil _).symm
  ·exact (List.append_nil _).symm
 | y :: ls, q, b, k => by
  show sendQ us who lies fr ls (send1 us who lies fr q y) b k = _
  rw [sendQ_eq h0 h1 ls, send1_eq h0 h1, sentL_cons]
  split
  ·rw [List.append_assoc]
  ·rw [List.append_nil]
theorem ixU_inj {us : List Uc} {a b : Int} (ha : hasW us a = true) (hb : hasW us b = true) (e : ixU us a = ixU us b) : a = b := by
 obtain ⟨u, h1, rfl⟩ := ixU_at ha
 obtain ⟨v, h2, rfl⟩ := ixU_at hb
 rw [e, h2] at h1
 rw [Option.some.inj h1]
theorem nodup_one {α : Type} {l : List α} (h : l.Nodup) {a : α} (he : ∀ x ∈ l, x = a) : l = [] ∨ l = [a] := by
 match l, h, he with
 | [], _, _ => exact .inl rfl
 | [x], _, he => exact .inr (by rw [he x (List.mem_cons_self ..)])
 | x :: y :: l, h, he =>
  have h1 := he x (List.mem_cons_self ..)
  have h2 := he y (List.mem_cons_of_mem _ (List.mem_cons_self ..))
  rw [h1, h2] at h
  simp at h
theorem sent_way {us : List Uc} {ls : List (Int × Int)} (hl : ls.Nodup) {who : Int} (hr : ∀ y ∈ ls, y.1 = who → hasW us y.2 = true) (b : Nat) : (ls.filter fun y => y.1 == who && decide (ixU us y.2 = b)) = [] ∨ ∃ u, us[b]? = some u ∧ (ls.filter fun y => y.1 == who && decide (ixU us y.2 = b)) = [(who, u.who)] := by
 cases hf : ls.filter fun y => y.1 == who && decide (ixU us y.2 = b) with
 | nil => exact .inl rfl
 | cons y r =>
  refine .inr ?_
  have hall : ∀ z ∈ ls.filter fun y => y.1 == who && decide (ixU us y.2 = b), z.1 = who ∧ hasW us z.2 = true ∧ ixU us z.2 = b := fun z hz => by
   obtain ⟨z1, z2⟩ := List.mem_filter.1 hz
   simp only [Bool.and_eq_true, beq_iff_eq, decide_eq_true_eq] at z2
   exact ⟨z2.1, hr z z1 z2.1, z2.2⟩
  have hy := hall y (by rw [hf]; exact List.mem_cons_self ..)
  obtain ⟨u, h1, h2⟩ := ixU_at hy.2.1
  rw [hy.2.2] at h1
  have nd : (ls.filter fun y => y.1 == who && decide (ixU us y.2 = b)).Nodup := hl.sublist List.filter_sublist
  have := nodup_one nd (a := (who, u.who)) fun z hz => by
   obtain ⟨a, c, d⟩ := hall z hz
   have := ixU_inj c hy.2.1 (d.trans hy.2.2.symm)
   exact Prod.ext a (this.trans h2.symm)
  rw [hf] at this
  rcases this with q | q
  ·cases q
  ·exact ⟨u, h1, q⟩
theorem sent_len {us : List Uc} {lies : List Li} {ls : List (Int × Int)} (hl : ls.Nodup) {who : Int} (hr : ∀ y ∈ ls, y.1 = who → hasW us y.2 = true) (fr : ByteArray) (b : Nat) : (sentL us lies ls who fr b).length ≤ 1 := by
 unfold sentL
 rcases sent_way hl hr b with e | ⟨u, _, e⟩
 ·rw [e]; simp
 ·rw [e]
  simp only [List.flatMap_cons, List.flatMap_nil, List.append_nil]
  split <;> simp
structure SentI (us : List Uc) (lies : List Li) (ls : List (Int × Int)) (j : Nat) (F : Nat → ByteArray) (Q : Qs) : Prop where
 y : ∀ i u, i < j → us[i]? = some u → ∀ b, Q b u.who.toNat = sentL us lies ls u.who (F i) b
 n : ∀ k, (∀ i u, i < j → us[i]? = some u → u.who.toNat ≠ k) → ∀ b, Q b k = []
theorem SentI.start (us : List Uc) (lies : List Li) (ls : List (Int × Int)) : SentI us lies ls 0 (fun _ => ByteArray.empty) (fun _ => noQ) := ⟨fun i u h => by omega, fun _ _ _ => rfl⟩
section
variable {us : List Uc} {lies : List Li} {ls : List (Int × Int)} {j : Nat} {F : Nat → ByteArray} {Q : Qs} {u : Uc}
theorem who_ix (hnd : (us.map (·.who)).Nodup) (h48 : ∀ u ∈ us, 0 ≤ u.who ∧ u.who < 48) {i j : Nat} {u v : Uc} (hi : us[i]? = some u) (hj : us[j]? = some v) (e : u.who.toNat = v.who.toNat) : i = j := who_one hnd hi hj (by
 have := h48 u (List.mem_of_getElem? hi); have := h48 v (List.mem_of_getElem? hj); omega)
theorem SentI.step (h : SentI us lies ls j F Q) (hnd : (us.map (·.who)).Nodup) (h48 : ∀ u ∈ us, 0 ≤ u.who ∧ u.who < 48) (hu : us[j]? = some u) (fr : ByteArray) : SentI us lies ls (j + 1) (setX F j fr) (sendQ us u.who lies fr ls Q) := by
 have h0 := h48 u (List.mem_of_getElem? hu)
 refine ⟨fun i v hi hv b => ?_, fun k hk b => ?_⟩
 ·rw [sendQ_eq h0.1 h0.2]
  by_cases e : i = j
  ·subst e
   rw [hu] at hv
   obtain rfl := Option.some.inj hv
   rw [if_pos rfl, h.n _ (fun i' w hi' hw q => by have := who_ix hnd h48 hw hu q; omega) b, List.nil_append, show setX F i fr i = fr from if_pos rfl]
  ·rw [if_neg (fun q => e (who_ix hnd h48 hv hu q)), List.append_nil, show setX F j fr i = F i from if_neg e]
   exact h.y i v (by omega) hv b
 ·rw [sendQ_eq h0.1 h0.2, if_neg (fun q => hk j u (by omega) hu q.symm), List.append_nil]
  exact h.n k (fun i v hi hv => hk i v (by omega) hv) b
theorem SentI.fit (h : SentI us lies ls j F Q) (hnd : (us.map (·.who)).Nodup) (h48 : ∀ u ∈ us, 0 ≤ u.who ∧ u.who < 48) (hl : ls.Nodup) (hr : ∀ y ∈ ls, hasW us y.2 = true) (hu : us[j]? = some u) (k : Nat) (fr : ByteArray) (b : Nat) (q1 : Qs) (e : q1 = sendQ us u.who lies fr (ls.take k) Q) : ∀ i, (q1 b i).length < 64 := fun i => by
 have h0 := h48 u (List.mem_of_getElem? hu)
 rw [e, sendQ_eq h0.1 h0.2, List.length_append]
 by_cases q : i = u.who.toNat
 ·have := sent_len (lies := lies) (hl.sublist (List.take_sublist k ls)) (who := u.who) (us := us) (fun y hy _ => hr y (List.mem_of_mem_take hy)) fr b
  rw [if_pos q, q, h.n _ (fun i' w hi' hw q => by have := who_ix hnd h48 hw hu q; omega) b]
  simp only [List.length_nil]
  omega
 ·rw [if_neg q, List.length_nil]
  by_cases hex : ∃ i' v, i' < j ∧ us[i']? = some v ∧ v.who.toNat = i
  ·obtain ⟨i', v, a, c, rfl⟩ := hex
   rw [h.y i' v a c b]
   have := sent_len (lies := lies) hl (who := v.who) (us := us) (fun y hy _ => hr y hy) (F i') b
   omega
  ·rw [h.n i (fun i' v a c d => hex ⟨i', v, a, c, d⟩) b]
   decide
end
def curQ (q : Qs) (j : Nat) : Qs := fun i => if i < j then noQ else q i
theorem curQ_zero (q : Qs) : curQ q 0 = q := by funext i; exact if_neg (by omega)
theorem lanL_cur {us : List Uc} {q : Qs} {j : Nat} {u : Uc} (hu : us[j]? = some u) : (lanL us 0 (curQ q j))[j]? = some (lanE u.lb (q j)) := by
 have e : curQ q j (0 + j) = q j := by unfold curQ; rw [if_neg (by omega), Nat.zero_add]
 rw [lanL_at hu, e]
theorem lanL_cur_set {us : List Uc} {q : Qs} {j : Nat} {u : Uc} (hu : us[j]? = some u) : (lanL us 0 (curQ q j)).set j (lanE u.lb noQ) = lanL us 0 (curQ q (j + 1)) := by
 rw [lanL_set _ hu]
 apply lanL_congr
 intro k hk
 show (if k = 0 + j then noQ else curQ q j k) = _
 unfold curQ
 split
 ·rw [if_pos (by omega)]
 ·split
  ·rw [if_pos (by omega)]
  ·rw [if_neg (by omega)]
theorem lanL_lt : ∀ {us : List Uc} {i : Nat} {q q' : Qs}, (∀ k, i ≤ k → k < i + us.length → q k = q' k) → lanL us i q = lanL us i q'
 | [], i, q, q', h => rfl
 | u :: us, i, q, q', h => by
  show lanE u.lb (q i) :: lanL us (i + 1) q = lanE u.lb (q' i) :: lanL us (i + 1) q'
  rw [h i (Nat.le_refl _) (by simp), lanL_lt (fun k hk h2 => h k (by omega) (by simp; omega))]
theorem lanL_cur_end {us : List Uc} {q : Qs} {un : Nat} (h : us.length = un) : lanL us 0 (curQ q un) = lanL us 0 (fun _ => noQ) := lanL_lt fun k _ hk => if_pos (by omega)
structure BtU (p : Par) (f : Nat) (rds : List Rd) (q : Qs) (X0 X : Nat → Ux) (M : Nat → Ms) (i : Nat) (u : Uc) : Prop where
 ok : UxOk u (X i)
 tl : (X i).l.length = (M i).tl
 un : ∃ tk rf rd hs ts hn, TickOK p tk ∧ (rf, rd) = refF u.who rds ∧ InI p (q i) 48 [] hs ts hn ∧ UnR p f u (X0 i) tk rf rd hs (X i) (M i)
structure BeatI (p : Par) (f : Nat) (us : List Uc) (rds : List Rd) (q : Qs) (X0 : Nat → Ux) (j : Nat) (X : Nat → Ux) (M : Nat → Ms) (sts : List Tb) : Prop where
 un : ∀ i u, i < j → us[i]? = some u → BtU p f rds q X0 X M i u
 keep : ∀ i, j ≤ i → X i = X0 i
 tabs : ∀ i, i < j → ∃ y ∈ sts, y.a = (M i).ta ∧ y.n = (M i).tl ∧ y.c = (M i).tc ∧ y.l = (X i).l
theorem BeatI.start (p : Par) (f : Nat) (us : List Uc) (rds : List Rd) (q : Qs) (X0 : Nat → Ux) : BeatI p f us rds q X0 0 X0 (fun _ => Ms.zero) [] := ⟨fun i u h => by omega, fun _ _ => rfl, fun i h => by omega⟩
theorem setX_at {α : Type} (X : Nat → α) (j : Nat) (x : α) : setX X j x j = x := if_pos rfl
theorem setX_ne {α : Type} (X : Nat → α) {i j : Nat} (x : α) (h : i ≠ j) : setX X j x i = X i := if_neg h
theorem BeatI.step {p : Par} {f : Nat} {us : List Uc} {rds : List Rd} {q : Qs} {X0 : Nat → Ux} {j : Nat} {X : Nat → Ux} {M : Nat → Ms} {sts : List Tb} (h : BeatI p f us rds q X0 j X M sts) {u : Uc} (hu : us[j]? = some u) {x : Ux} {m : Ms} {tk : Int} {rf : Bool} {rd : Int} {hs : List Hr} {ts : List Tb} {hn : Nat} (ht : TickOK p tk) (hr : (rf, rd) = refF u.who rds) (hI : InI p (q j) 48 [] hs ts hn) (hU : UnR p f u (X j) tk rf rd hs x m) (ok : UxOk u x) (tl : x.l.length = m.tl) : BeatI p f us rds q X0 (j + 1) (setX X j x) (setX M j m) (sts ++ [⟨m.ta, m.tl, m.tc, x.l⟩]) := by
 refine ⟨fun i v hi hv => ?_, fun i hi => by rw [setX_ne X x (by omega)]; exact h.keep i (by omega), fun i hi => ?_⟩
 ·by_cases e : i = j
  ·subst e
   rw [hu] at hv
   obtain rfl := Option.some.inj hv
   exact ⟨by rw [setX_at]; exact ok, by rw [setX_at, setX_at]; exact tl, tk, rf, rd, hs, ts, hn, ht, hr, hI, by rw [setX_at, setX_at, ← h.keep i (Nat.le_refl _)]; exact hU⟩
  ·obtain ⟨a, b, c⟩ := h.un i v (by omega) hv
   exact ⟨by rw [setX_ne X x e]; exact a, by rw [setX_ne X x e, setX_ne M m e]; exact b, by rw [setX_ne X x e, setX_ne M m e]; exact c⟩
 ·by_cases e : i = j
  ·subst e
   exact ⟨⟨m.ta, m.tl, m.tc, x.l⟩, by simp, by rw [setX_at], by rw [setX_at], by rw [setX_at], by rw [setX_at]⟩
  ·obtain ⟨y, hy, z⟩ := h.tabs i (by omega)
   exact ⟨y, List.mem_append_left _ hy, by rw [setX_ne X x e, setX_ne M m e]; exact z⟩
def mlist (M : Nat → Ms) (n : Nat) : List Ms := (List.range n).map M
theorem mlist_len (M : Nat → Ms) (n : Nat) : (mlist M n).length = n := by simp [mlist]
theorem mlist_at (M : Nat → Ms) {n j : Nat} (h : j < n) : (mlist M n)[j]? = some (M j) := by simp [mlist, h]
theorem mlist_set (M : Nat → Ms) {n j : Nat} (m : Ms) : (mlist M n).set j m = mlist (setX M j m) n := by
 apply List.ext_getElem?
 intro i
 by_cases hi : i < n
 ·rw [mlist_at _ hi, List.getElem?_set]
  by_cases e : j = i
  ·rw [if_pos e, if_pos (by rw [mlist_len]; omega), e, setX_at]
  ·rw [if_neg e, mlist_at _ hi, setX_ne M m (fun q => e q.symm)]
 ·rw [List.getElem?_eq_none (by rw [List.length_set, mlist_len]; omega), List.getElem?_eq_none (by rw [mlist_len]; omega)]
end Go.Proofs.YtbmhgopjblnfnaaGreat.S
namespace Go.Proofs.YtbmhgopjblnfnaaGreat.S
open Go Go.Proofs Go.RowKit Go.Proofs.YtbmhgopjblnfnaaGreatW.PrintLast Tryz
theorem e38 : Is prog 38 := ⟨_, func38, by kernel_rfl, rfl⟩
theorem e39 : Is prog 39 := ⟨_, func39, by kernel_rfl, rfl⟩
theorem e40 : Is prog 40 := ⟨_, func40, by kernel_rfl, rfl⟩
theorem f65_5 : tfield prog 65 5 = some 5 := by kernel_rfl
theorem f65_6 : tfield prog 65 6 = some 6 := by kernel_rfl
theorem f65_7 : tfield prog 65 7 = some 7 := by kernel_rfl
theorem t65 : tsz prog 65 = some (true, 8) := by kernel_rfl
theorem mlist_zero (n : Nat) : msl (mlist (fun _ => Ms.zero) n) = (List.replicate n [.int .i64 0, .int .i64 0, .int .i64 0, .int .i64 0, .int .i64 0, .int .i64 0, .bool false, .bool false, .int .i64 0, .int .i64 0, .int .i64 0, .int .i64 0, .int .i64 0, .slice none 0 0]).flatten := by
 unfold msl mlist
 rw [List.flatMap_def, List.map_map]
 congr 1
 apply List.ext_getElem?
 intro i
 rw [List.getElem?_map, List.getElem?_replicate]
 by_cases h : i < n
 ·rw [List.getElem?_range h, if_pos h]; rfl
 ·rw [List.getElem?_eq_none (by simpa using h), if_neg h]; rfl
theorem msl_sets {l : List Ms} {j : Nat} (m : Ms) (h : j < l.length) : sets (msl l) (0 + j * 14) m.cells = msl (l.set j m) := by
 have := flatr_set (r := []) (n := 14) Ms.cells (fun _ => rfl) m h
 simpa [msl] using this
theorem msl_len {l : List Ms} {j : Nat} (h : j < l.length) : 0 + j * 14 + 14 ≤ (msl l).length := by
 have := flatr_len (r := []) Ms.cells (n := 14) (fun _ => rfl) h
 simpa [msl] using this
def tbAll (sts : List Tb) : Prop := ∀ y ∈ sts, y.l.length = y.n ∧ y.n ≤ 1000
structure BeatW (p : Par) (f : Nat) (us : List Uc) (ls : List (Int × Int)) (lies : List Li) (rds : List Rd) (q0 : Qs) (X X' : Nat → Ux) (M : Nat → Ms) (q' : Qs) : Prop where
 un : ∀ i u, us[i]? = some u → BtU p f rds q0 X X' M i u
 sent : ∃ F, (∀ i u, us[i]? = some u → goodM (M i) (X' i).l = true → F i = encF (M i) (X' i).l) ∧ SentI us lies ls us.length F q'
theorem refF_b {who : Int} {l : List Rd} (h : ∀ x ∈ l, -1152921504606846976 ≤ x.rd ∧ x.rd ≤ 1152921504606846976) {rf : Bool} {rd : Int} (e : (rf, rd) = refF who l) : -1152921504606846976 ≤ rd ∧ rd ≤ 1152921504606846976 := by
 have key : ∀ (l : List Rd) (a : Bool × Int), (∀ x ∈ l, -1152921504606846976 ≤ x.rd ∧ x.rd ≤ 1152921504606846976) → (-1152921504606846976 ≤ a.2 ∧ a.2 ≤ 1152921504606846976) → -1152921504606846976 ≤ (l.foldl (fun a x => if (x.gate == who && x.is) = true then (true, x.rd) else a) a).2 ∧ (l.foldl (fun a x => if (x.gate == who && x.is) = true then (true, x.rd) else a) a).2 ≤ 1152921504606846976 := by
  intro l
  induction l with
  | nil => intro a _ h; exact h
  | cons x l ih =>
   intro a h1 h2
   refine ih _ (fun y hy => h1 y (List.mem_cons_of_mem _ hy)) ?_
   dsimp only
   split
   ·exact h1 x (List.mem_cons_self ..)
   ·exact h2
 have := key l (false, 0) h (by decide)
 unfold refF at e
 rw [← e] at this
 exact this
theorem w_Beat (pw : List Int) (hpw : pw.length = 20) (gw ub un uc : Nat) (p : Par) (f : Nat) (hf : p.f = (f : Int)) (hp7 : p.n ≤ 7) (he : 0 ≤ p.eps) (hd1 : p.d ≤ 16) (hd0 : 0 ≤ p.d) (tm : Int) (us : List Uc) (hul : us.length = un) (hun : un ≤ 1000) (hnd : (us.map (·.who)).Nodup) (h48 : ∀ u ∈ us, 0 ≤ u.who ∧ u.who < 48) (hkind : ∀ u ∈ us, kindOf u) (wa : Option Addr) (wn wc : Nat) (ls : List (Int × Int)) (hll : ls.length = wn) (hln : wn ≤ 90000) (hlnd : ls.Nodup) (hreach : ∀ y ∈ ls, hasW us y.2 = true) (ta ra ga qa : Option Addr) (tn tc rn rc gn gc qn qc : Nat) (tks : List (Int × Int)) (rds : List Rd) (ags : List Ag) (lies : List Li) (htl : tks.length = tn) (hrdl : rds.length = rn) (hgl : ags.length = gn) (htn : tn ≤ 100000) (hrn : rn ≤ 100000) (hgn : gn ≤ 100000) (hql : lies.length = qn) (hqn : qn ≤ 100000) (hT0 : TickOK p p.beat) (hA0 : AgeOK p (sbC p.beat p.delay)) (htk : ∀ x ∈ tks, TickOK p x.2) (hag : ∀ x ∈ ags, AgeOK p x.t) (hrb : ∀ x ∈ rds, -1152921504606846976 ≤ x.rd ∧ x.rd ≤ 1152921504606846976) (q : Qs) (X0 : Nat → Ux) (hX0 : ∀ i u, us[i]? = some u → UxOk u (X0 i)) : Spec prog 22 [.pointer (some ⟨gw, 0, none⟩), .agg #[.slice ta tn tc, .slice ra rn rc, .slice ga gn gc, .slice none 0 0, .slice qa qn qc, .slice none 0 0, .slice none 0 0, .slice none 0 0]] [blk gw (pC p [.int .i64 tm, .slice (some ⟨ub, 0, none⟩) un uc, .slice wa wn wc]) 93, manyE (unL p us 0 X0), manyE (lanL us 0 q)] [row (some ⟨ub, 0, none⟩) uc 81 4 un (ucl us), row wa wc 72 2 wn (spl ls), row ta tc 87 2 tn (spl tks), row ra rc 60 5 rn (rdl rds), row ga gc 89 3 gn (agl ags), row qa qc 74 3 qn (lil lies), blk 2 (u64s pw) 319] (fun v Ln => v = .int .i64 0 ∧ ∃ X M Q, BeatW p f us ls lies rds q X0 X M Q ∧ Ln = [blk gw (pC p [.int .i64 (addL [tm, p.beat]), .slice (some ⟨ub, 0, none⟩) un uc, .slice wa wn wc]) 93, manyE (unL p us 0 X), manyE (lanL us 0 Q)]) := by
 refine Spec.en func22 ntmps22 fun w0 => ?_
 refine G.sr fun _ K1 => ?_
 refine G.mk 3 .bx fun g3 => ?_
 refine G.M 4 ?_
 refine G.nk K1 ?_
 refine G.Z fun _ K2 => ?_
 refine G.sr fun _ K3 => ?_
 refine G.M 15 ?_
 refine G.V 16 (.isnil q42) ?_
 refine G.nk K3 ?_
 refine G.no rfl ?_
 refine G.sk K2 ?_
 refine G.Z fun _ K4 => ?_
 refine G.draw 15 [1] [] [14] ?_
 refine D.V 0 17 1 .mv ?_
 refine D.V 1 18 3 .mv ?_
 refine D.V 2 19 7 .nc ?_
 refine D.V 3 20 15 (.fa f93_1 12) ?_
 refine D.V 5 22 47 .mv ?_
 refine D.V 6 23 111 .nc ?_
 refine D.V 7 24 239 (.fa f93_0 0) ?_
 refine D.V 8 25 495 (.fa f23_3 3) ?_
 refine D.T 4 21 511 (.ld t3 0) [1] [] ?_
 refine D.T 9 26 1023 (.ld t3 0) [1] [] ?_
 refine D.ev 10 2047 ?_
 refine E.row 10 27 (.sl s24 z3 [.int .i64 tm, .int .i64 p.beat]) [1] []  fun g27 => ?_
 refine D.C 11 28 4095 [] [7] [2] []  e29 (s_Add' g27 2 [tm, p.beat] rfl (by decide)) ?_
 rintro _ _ ⟨rfl, rfl⟩
 refine D.V 12 29 8191 .nc ?_
 refine D.V 13 30 16383 (.fa f93_1 12) ?_
 refine D.last 14 32767 2 (.st t3 2) rfl ?_
 dsimp only [List.set, sets, Value.cells, List.zipIdx, List.foldl]
 refine D.done ?_
 refine K4 _ _ _ ?_
 refine G.Z fun _ K5 => ?_
 refine G.sr fun _ K6 => ?_
 refine G.V 31 (.fa f65_6 6) ?_
 refine G.V 32 (.ld t25 1) ?_
 refine G.V 33 (.lenl s25) ?_
 refine G.M 34 ?_
 refine G.nk K6 ?_
 refine G.block ?_
 refine G.only [1, 1, 1, 1] ?_
 refine G.lpR (ι := Unit) (fun _ => 0) (fun _ => [(0, .pointer (some ⟨gw, 0, none⟩)), (3, .pointer (some ⟨g3, 0, none⟩)), (4, .int .i64 0), (33, .int .i64 ((0 : Nat) : Int)), (34, .int .i64 0)]) (fun _ => [blk g3 [.slice ta tn tc, .slice ra rn rc, .slice ga gn gc, .slice none 0 0, .slice qa qn qc, .slice none 0 0, .slice none 0 0, .slice none 0 0] 65, blk gw (pC p [.int .i64 (addL [tm, p.beat]), .slice (some ⟨ub, 0, none⟩) un uc, .slice wa wn wc]) 93, manyE (unL p us 0 X0), manyE (lanL us 0 q)]) ?_ ?_
 exact G.as ()
 rintro _ _ K7
 try dsimp only at K7 ⊢
 refine G.sr fun _ K8 => ?_
 refine G.V 35 (.cast .bin (bf (by omega))) ?_
 refine G.nk K8 ?_
 refine G.Z fun _ K9 => ?_
 refine G.no rfl ?_
 refine G.exit ?_
 refine K5 _ _ _ ?_
 refine G.Z fun _ K10 => ?_
 refine G.sr fun _ K11 => ?_
 refine G.V 42 (.fa f65_7 7) ?_
 refine G.V 43 (.ld t25 0) ?_
 refine G.V 44 (.lenl s25) ?_
 refine G.M 45 ?_
 refine G.nk K11 ?_
 refine G.block ?_
 refine G.lpR (ι := Unit) (fun _ => 0) (fun _ => [(0, .pointer (some ⟨gw, 0, none⟩)), (3, .pointer (some ⟨g3, 0, none⟩)), (4, .int .i64 0), (44, .int .i64 ((0 : Nat) : Int)), (45, .int .i64 0)]) (fun _ => [blk g3 [.slice ta tn tc, .slice ra rn rc, .slice ga gn gc, .slice none 0 0, .slice qa qn qc, .slice none 0 0, .slice none 0 0, .slice none 0 0] 65, blk gw (pC p [.int .i64 (addL [tm, p.beat]), .slice (some ⟨ub, 0, none⟩) un uc, .slice wa wn wc]) 93, manyE (unL p us 0 X0), manyE (lanL us 0 q)]) ?_ ?_
 exact G.as ()
 rintro _ _ K12
 try dsimp only at K12 ⊢
 refine G.sr fun _ K13 => ?_
 refine G.V 46 (.cast .bin (bf (by omega))) ?_
 refine G.nk K13 ?_
 refine G.Z fun _ K14 => ?_
 refine G.no rfl ?_
 refine G.exit ?_
 refine K10 _ _ _ ?_
 refine G.sr fun _ K15 => ?_
 refine G.M 53 ?_
 refine G.V 54 .nc ?_
 refine G.V 55 (.fa f93_2 13) ?_
 refine G.V 56 (.ld t91 1) ?_
 refine G.V 57 (.lenl s91) ?_
 refine G.row 58 (.mks s100 z107 y107 un (hn := by omega)) fun g58 => ?_
 refine G.eqL [blk g58 (msl (mlist (fun _ => Ms.zero) un)) 107, blk g3 [.slice ta tn tc, .slice ra rn rc, .slice ga gn gc, .slice none 0 0, .slice qa qn qc, .slice none 0 0, .slice none 0 0, .slice none 0 0] 65, blk gw (pC p [.int .i64 (addL [tm, p.beat]), .slice (some ⟨ub, 0, none⟩) un uc, .slice wa wn wc]) 93, manyE (unL p us 0 X0), manyE (lanL us 0 q)] (by rw [mlist_zero]) ?_
 refine G.M 9 ?_
 refine G.nk K15 ?_
 refine G.Z fun _ K16 => ?_
 refine G.sr fun _ K17 => ?_
 refine G.M 59 ?_
 refine G.V 60 .nc ?_
 refine G.V 61 (.fa f93_2 13) ?_
 refine G.V 62 (.ld t91 2) ?_
 refine G.V 63 (.lenl s91) ?_
 refine G.M 64 ?_
 refine G.nil ?_
 refine G.addE (e := tabsE []) rfl tabsE_nil ?_
 refine K17 _ _ _ ?_
 refine G.block ?_
 refine G.only [0, 3, 3, 0, 0, 0] ?_
 refine G.lpR (ι := {z : Nat × (Nat → Ux) × (Nat → Ms) × List Tb // z.1 ≤ un ∧ BeatI p f us rds q X0 z.1 z.2.1 z.2.2.1 z.2.2.2 ∧ tbAll z.2.2.2}) (fun ⟨⟨j, X, M, sts⟩, hj, hB, hst⟩ => un - j) (fun ⟨⟨j, X, M, sts⟩, hj, hB, hst⟩ => [(0, .pointer (some ⟨gw, 0, none⟩)), (3, .pointer (some ⟨g3, 0, none⟩)), (4, .int .i64 0), (9, .slice (some ⟨g58, 0, none⟩) un un), (62, .slice (some ⟨ub, 0, none⟩) un uc), (63, .int .i64 (un : Int)), (64, .int .i64 (j : Int))]) (fun ⟨⟨j, X, M, sts⟩, hj, hB, hst⟩ => [tabsE sts, manyE (unL p us 0 X), manyE (lanL us 0 (curQ q j)), blk g58 (msl (mlist M un)) 107, blk g3 [.slice ta tn tc, .slice ra rn rc, .slice ga gn gc, .slice none 0 0, .slice qa qn qc, .slice none 0 0, .slice none 0 0, .slice none 0 0] 65, blk gw (pC p [.int .i64 (addL [tm, p.beat]), .slice (some ⟨ub, 0, none⟩) un uc, .slice wa wn wc]) 93]) ?_ ?_
 exact G.at ⟨(0, X0, fun _ => Ms.zero, []), Nat.zero_le _, BeatI.start p f us rds q X0, fun _ h => nomatch h⟩ (ts := [0, 3, 4, 9, 62, 63, 64]) rfl (by first | rfl | (dsimp only; rw [curQ_zero]; rfl)) rfl rfl
 rintro ⟨⟨j, X, M, sts⟩, hj, hB, hst⟩ _ K18
 try dsimp only at K18 ⊢
 try dsimp only at hj hB hst
 refine G.sr fun _ K19 => ?_
 refine G.V 65 .bin ?_
 refine G.nk K19 ?_
 refine G.Z fun _ K20 => ?_
 refine G.cond rfl (fun hc65 => ?_) (fun hc65 => ?_)
 have hk : j < un := by have := of_decide_eq_true hc65; omega
 obtain ⟨u, hu⟩ : ∃ u, us[j]? = some u := ⟨_, List.getElem?_eq_getElem (by omega)⟩
 refine G.sk K20 ?_
 refine G.Z fun _ K21 => ?_
 refine G.block ?_
 refine G.sr fun _ K22 => ?_
 refine G.M2 66 10 ?_
 refine G.nk K22 ?_
 refine G.sr fun _ K23 => ?_
 refine G.M 67 ?_
 refine G.V 68 .nc ?_
 refine G.V 69 (.fa f93_2 13) ?_
 refine G.V 70 (.ld t91 5) ?_
 refine G.M 71 ?_
 refine G.V 72 (.is s91 j (show j < un from hk)) ?_
 refine G.M 11 ?_
 refine G.nk K23 ?_
 refine G.sr fun _ K24 => ?_
 refine G.M2 73 74 ?_
 refine G.V 75 (.lda t65 4 (vs := [.slice ta tn tc, .slice ra rn rc, .slice ga gn gc, .slice none 0 0, .slice qa qn qc, .slice none 0 0, .slice none 0 0, .slice none 0 0])) ?_
 refine G.only [2, 0, 0, 0, 0, 0] ?_
 refine G.pull j (lanL_cur hu) ?_
 refine G.fact (p := ∀ k, k < 48 → (q j k).length ≤ 64) 0 (fun w h => lanE_le h) fun hq64 => ?_
 refine G.C 76 [0] [12, 0, 2, 3, 4]  e38 (w_input gw ub un uc p (addL [tm, p.beat]) us j u hu wa wn wc ta ra ga qa tn tc rn rc gn gc qn qc tks rds ags htl hrdl hgl htn hrn hgn hT0 hA0 htk hag (q j) hq64) ?_
 rintro _ _ ⟨tk, rf, rd, ha, hc, hn, hs, ts, rfl, htk1, hrf, hI, rfl⟩
 have hn2 : hn ≤ 3072 := by have := hI.le; simp at this; omega
 have hrdb : -1152921504606846976 ≤ rd ∧ rd ≤ 1152921504606846976 := refF_b hrb hrf
 rw [lanE_no]
 refine G.only [2, 2, 0, 0, 0, 0, 0, 0, 0] ?_
 refine G.back j (lanL_cur hu) ?_
 rw [lanL_cur_set hu]
 refine G.mk 12 (.al z103) fun g12 => ?_
 refine G.sn 0 (.st t103 0) rfl ?_
 refine G.nk K24 ?_
 refine G.Z fun _ K25 => ?_
 refine G.draw 8 [7] [0] [] ?_
 refine D.V 0 77 1 (.fa f65_5 5) ?_
 refine D.V 2 79 5 .mv ?_
 refine D.V 3 80 13 .nc ?_
 refine D.V 4 81 29 (.fa f81_0 (0 + j * 4)) ?_
 refine D.T 1 78 31 (.ld t24 0) [7] [0] ?_
 refine D.T 5 82 63 (.ld t3 1 (hv := ucl_cell (i := 0) hu (by decide) rfl)) [7] [0] ?_
 refine D.C 6 83 127 [] [] [7] [0]  e39 (i_Contains0 u.who) ?_
 rintro _ _ ⟨rfl, rfl⟩
 refine D.V 7 84 255 .not ?_
 refine D.done ?_
 refine K25 _ _ _ ?_
 refine G.yes rfl ?_
 refine G.only [5, 0, 0, 0, 0, 0, 0, 0, 0] ?_
 refine G.pull j (show (unL p us 0 X)[j]? = some (unitE p u (X j)) from by rw [unL_at hu, Nat.zero_add]) ?_
 have hXj : UxOk u (X j) := by rw [hB.keep j (Nat.le_refl _)]; exact hX0 j u hu
 refine G.draw 10 [2] [0] [] ?_
 refine D.V 0 85 1 .mv ?_
 refine D.V 1 86 3 .mv ?_
 refine D.V 2 87 7 .mv ?_
 refine D.V 3 88 15 .nc ?_
 refine D.V 4 89 31 (.fa f81_1 (0 + j * 4 + 1)) ?_
 refine D.T 5 90 63 (.ld t78 1 (hv := ucl_cell (i := 1) hu (by decide) rfl)) [2] [0] ?_
 refine D.T 6 91 127 (.lda t103 0 (vs := [.int .i64 tk, .slice ha hn hc, .bool rf, .int .i64 rd, .bool false, .slice none 0 0])) [2] [0] ?_
 refine D.calli 7 92 255 [0, 4] [10, 6] [1] [0]  (meth_u (hkind u (List.mem_of_getElem? hu))) (is_u u) (u_Beat pw hpw p f hf hp7 he hd1 hd0 u (X j) hXj tk rf rd hrdb.1 hrdb.2 ha hn hc hs hI.len (by omega) ts hI.ok hI.hts) ?_
 rintro _ _ ⟨x1, m1, rfl, hU1, hX1, hm1, rfl⟩
 unfold msV
 refine D.V 8 93 511 (.is s100 j (show j < un from hk)) ?_
 refine D.sto 9 1023 8 (.st t107 8 (hl := msl_len (by rw [mlist_len]; exact hk))) [4] [0]  rfl ?_
 refine G.eqb 8 ((msl (mlist (setX M j m1) un))) ((msl_sets (l := mlist M un) m1 (by rw [mlist_len]; exact hk)).trans (by rw [mlist_set])) ?_
 try dsimp only [List.set]
 refine D.done ?_
 refine G.only [1, 2, 0, 0, 0, 0, 0, 0, 0, 0, 0] ?_
 refine G.back j (show (unL p us 0 X)[j]? = some (unitE p u (X j)) from by rw [unL_at hu, Nat.zero_add]) ?_
 rw [show (unL p us 0 X).set j (unitE p u x1) = unL p us 0 (setX X j x1) from by rw [unL_set x1 hu, Nat.zero_add]]
 refine G.only [6, 1, 0, 0, 0, 0, 0, 0, 0, 0] ?_
 refine G.merge (e := tabsE (sts ++ [⟨m1.ta, m1.tl, m1.tc, x1.l⟩])) (fun w h1 h2 => tabsE_snoc sts ⟨m1.ta, m1.tl, m1.tc, x1.l⟩ w h1 h2) (.of_eq (tabsE_snoc_own sts ⟨m1.ta, m1.tl, m1.tc, x1.l⟩)) ?_
 refine K21 _ _ _ ?_
 refine G.region ?_
 refine G.V 94 .bw ?_
 refine G.M 64 ?_
 refine G.nil ?_
 refine G.only [0, 0, 2, 3, 3, 3] ?_
 refine K18 _ _ _ ?_
 exact G.ls ⟨(j + 1, setX X j x1, setX M j m1, sts ++ [⟨m1.ta, m1.tl, m1.tc, x1.l⟩]), hk, hB.step hu htk1 hrf hI hU1 hX1 hm1, fun y hy => (List.mem_append.1 hy).elim (hst y) fun h => by simp at h; subst h; exact ⟨hm1, by have := good_len hX1.good; show m1.tl ≤ 1000; omega⟩⟩
 have hjn : un = j := by have := of_decide_eq_false hc65; omega
 refine G.exit ?_
 refine K16 _ _ _ ?_
 refine G.Z fun _ K26 => ?_
 refine G.Z fun _ K27 => ?_
 subst hjn
 rw [lanL_cur_end hul]
 refine G.toR ?_
 refine G.region ?_
 refine G.M 95 ?_
 refine G.V 96 .nc ?_
 refine G.V 97 (.fa f93_2 13) ?_
 refine G.V 98 (.ld t91 4) ?_
 refine G.V 99 (.lenl s91) ?_
 refine G.M 100 ?_
 refine G.nk K27 ?_
 refine G.block ?_
 refine G.only [1, 0, 0, 0, 0] ?_
 refine G.lpR (ι := {z : Nat × Qs × (Nat → ByteArray) // z.1 ≤ un ∧ SentI us lies ls z.1 z.2.2 z.2.1 ∧ ∀ i u, i < z.1 → us[i]? = some u → goodM (M i) (X i).l = true → z.2.2 i = encF (M i) (X i).l}) (fun ⟨⟨j, Q, F⟩, hj, hS, hF⟩ => un - j) (fun ⟨⟨j, Q, F⟩, hj, hS, hF⟩ => [(0, .pointer (some ⟨gw, 0, none⟩)), (3, .pointer (some ⟨g3, 0, none⟩)), (4, .int .i64 0), (9, .slice (some ⟨g58, 0, none⟩) un un), (98, .slice (some ⟨ub, 0, none⟩) un uc), (99, .int .i64 (un : Int)), (100, .int .i64 (j : Int))]) (fun ⟨⟨j, Q, F⟩, hj, hS, hF⟩ => [manyE (lanL us 0 Q), manyE (unL p us 0 X), blk g58 (msl (mlist M un)) 107, blk g3 [.slice ta tn tc, .slice ra rn rc, .slice ga gn gc, .slice none 0 0, .slice qa qn qc, .slice none 0 0, .slice none 0 0, .slice none 0 0] 65, blk gw (pC p [.int .i64 (addL [tm, p.beat]), .slice (some ⟨ub, 0, none⟩) un uc, .slice wa wn wc]) 93]) ?_ ?_
 exact G.at ⟨(0, fun _ => noQ, fun _ => ByteArray.empty), Nat.zero_le _, SentI.start us lies ls, fun i u h => by omega⟩ (ts := [0, 3, 4, 9, 98, 99, 100]) rfl rfl rfl rfl
 rintro ⟨⟨j, Q, F⟩, hj, hS, hF⟩ _ K28
 try dsimp only at K28 ⊢
 try dsimp only at hj hS hF
 refine G.sr fun _ K29 => ?_
 refine G.V 101 .bin ?_
 refine G.nk K29 ?_
 refine G.Z fun _ K30 => ?_
 refine G.cond rfl (fun hc101 => ?_) (fun hc101 => ?_)
 have hj2 : j < un := by have := of_decide_eq_true hc101; omega
 obtain ⟨u, hu⟩ : ∃ u, us[j]? = some u := ⟨_, List.getElem?_eq_getElem (by omega)⟩
 refine G.sk K30 ?_
 refine G.Z fun _ K31 => ?_
 refine G.block ?_
 refine G.sr fun _ K32 => ?_
 refine G.M 102 ?_
 refine G.V 103 (.is s91 j (show j < un from hj2)) ?_
 refine G.V 104 (.lda t81 6 (hv := ucl_at hu)) ?_
 refine G.mk 14 (.al z81) fun g14 => ?_
 refine G.M 13 ?_
 refine G.sn 0 (.st t81 0) rfl ?_
 refine G.nk K32 ?_
 refine G.sr fun _ K33 => ?_
 refine G.V 105 (.fa f65_5 5) ?_
 refine G.V 106 (.ld t24 4) ?_
 refine G.V 107 (.fa f81_0 0) ?_
 refine G.V 108 (.ld t3 0) ?_
 refine G.cp 109 [] []  e39 (i_Contains0 u.who) ?_
 refine G.V 110 .not ?_
 refine G.nk K33 ?_
 refine G.yes rfl ?_
 refine G.draw 9 [0, 3, 4] [] [] ?_
 refine D.V 0 111 1 .mv ?_
 refine D.V 1 112 3 (.fa f81_0 0) ?_
 refine D.V 3 114 11 .mv ?_
 refine D.V 4 115 27 .mv ?_
 refine D.V 5 116 59 (.is s100 j (show j < un from hj2)) ?_
 refine D.T 2 113 63 (.ld t3 0) [0, 3, 4] [] ?_
 refine D.T 6 117 127 (.lda t107 1 (hv := msl_at (mlist_at M hj2))) [0, 3, 4] [] ?_
 refine D.T 7 118 255 (.lda t65 2 (vs := [.slice ta tn tc, .slice ra rn rc, .slice ga gn gc, .slice none 0 0, .slice qa qn qc, .slice none 0 0, .slice none 0 0, .slice none 0 0])) [0, 3, 4] [] ?_
 obtain ⟨y0, hy0, e0a, e0n, e0c, e0l⟩ := hB.tabs j hj2
 refine G.moreR 0 (e := row ((M j).ta) ((M j).tc) 174 2 ((M j).tl) (spl (X j).l)) (fun w q => by rw [← e0a, ← e0n, ← e0c, ← e0l]; exact tabsE_mem hy0 w q) (by rw [← e0a, ← e0n, ← e0c]; exact tabsE_own hy0) ?_
 refine D.C 8 119 511 [1] [13, 2, 3, 0, 7] [0, 2, 3] []  e40 (w_send gw ub un uc p (addL [tm, p.beat]) us hul hun hnd wa wn wc ls hll hln u.who (M j) (X j).l ((hB.un j u hj2 hu).tl) (by rw [← e0n]; exact (hst y0 hy0).2) ta ra ga qa tn tc rn rc gn gc qn qc lies hql hqn Q (fun y hy _ => hreach y hy) (fun k hk fr b q1 e => hS.fit hnd h48 hlnd hreach hu k fr b q1 e)) ?_
 rintro _ _ ⟨rfl, fr, hfr, hfr0, rfl⟩
 refine G.lessR ?_
 refine D.done ?_
 refine K31 _ _ _ ?_
 refine G.region ?_
 refine G.V 120 .bw ?_
 refine G.M 100 ?_
 refine G.nil ?_
 refine G.only [0, 1, 1, 1, 1] ?_
 refine K28 _ _ _ ?_
 exact G.ls ⟨(j + 1, sendQ us u.who lies fr ls Q, setX F j fr), hj2, hS.step hnd h48 hu fr, fun i v hi hv hg => by
   dsimp only at hi hg ⊢
   by_cases e : i = j
   · subst e; rw [setX_at]; exact (hfr hg).1
   · rw [setX_ne F fr e]; exact hF i v (by omega) hv hg⟩
 have hjm : un = j := by have := of_decide_eq_false hc101; omega
 refine G.exit ?_
 refine K26 _ _ _ ?_
 refine G.sr fun _ K34 => ?_
 refine G.M 4 ?_
 refine G.nk K34 ?_
 exact G.ret (G.F [4, 1, 0] (.one Tryz.results22) ⟨rfl, X, M, Q, ⟨fun i u hi => hB.un i u (by have := (List.getElem?_eq_some_iff.1 hi).1; omega) hi, F, fun i u hi hg => hF i u (by have := (List.getElem?_eq_some_iff.1 hi).1; omega) hi hg, by rw [hul, hjm]; exact hS⟩, rfl⟩)
end Go.Proofs.YtbmhgopjblnfnaaGreat.S
namespace Go.Proofs.YtbmhgopjblnfnaaGreat.S
open Go Go.RowKit Go.Proofs.YtbmhgopjblnfnaaGreatW.PrintLast Tryz
theorem G.recast {c : Ctx} {m : Sl} {L R : List Ent} {X : Act → World → Prop} (A B : List Ent) (hH : ∀ w, (∀ e ∈ A, e.H w) → ∀ e ∈ B, e.H w) (ho : (ids B).Perm (ids A)) (g : G c m (B ++ L) R X) : G c m (A ++ L) R X := fun a w ok => g a w (ok.world (by
 have st := ok.st
 have hp : (ids (B ++ L)).Perm (ids (A ++ L)) := by rw [ids_append, ids_append]; exact ho.append_right _
 refine ⟨st.fr, ?_, st.r, hp.nodup_iff.2 st.nd, fun k hk => st.lr k (hp.mem_iff.1 hk), fun k hk => st.own k (hp.mem_iff.1 hk)⟩
 intro x hx
 rcases List.mem_append.1 hx with q | q
 ·exact hH w (fun e he => st.l e (List.mem_append_left _ he)) x q
 ·exact st.l x (List.mem_append_right _ q)))
theorem unitE_gate {p : Par} {u : Uc} {x : Ux} (h : u.who < 16) : unitE p u x = manyE [blk u.g (gateC p x.s u.who) 122, tabOf x] := by
 unfold unitE frontE nearP
 rw [if_pos h, if_pos h]
theorem unitE_node {p : Par} {u : Uc} {x : Ux} (h : ¬ u.who < 16) : unitE p u x = manyE [blk u.g (nodeC p x.s u.who x.tb) 127, tabOf x, blk x.tb [.map (some x.r)] 193, nmap x.r x.nb x.c] := by
 unfold unitE frontE nearP
 rw [if_neg h, if_neg h]
theorem unL_app {p : Par} : ∀ {us : List Uc} {i : Nat} {X X' : Nat → Ux} (u : Uc), (∀ k, i ≤ k → k < i + us.length → X k = X' k) → unL p (us ++ [u]) i X' = unL p us i X ++ [unitE p u (X' (i + us.length))]
 | [], i, X, X', u, h => rfl
 | v :: us, i, X, X', u, h => by
  show unitE p v (X' i) :: unL p (us ++ [u]) (i + 1) X' = unitE p v (X i) :: (unL p us (i + 1) X ++ _)
  rw [h i (Nat.le_refl _) (by simp), unL_app (us := us) (i := i + 1) (X := X) u (fun k hk h2 => h k (by omega) (by simp; omega)), show i + (v :: us).length = i + 1 + us.length from by simp; omega]
theorem lanL_app : ∀ {us : List Uc} {i : Nat} (u : Uc), lanL (us ++ [u]) i (fun _ => noQ) = lanL us i (fun _ => noQ) ++ [lanE u.lb noQ]
 | [], i, u => rfl
 | v :: us, i, u => by
  show lanE v.lb noQ :: lanL (us ++ [u]) (i + 1) (fun _ => noQ) = lanE v.lb noQ :: (lanL us (i + 1) (fun _ => noQ) ++ _)
  rw [lanL_app]
theorem many_app {w : World} {l : List Ent} {e : Ent} (h : (manyE l).H w) (he : e.H w) : (manyE (l ++ [e])).H w := fun x hx => (List.mem_append.1 hx).elim (h x) fun q => by simp at q; subst q; exact he
theorem many_own (l : List Ent) (e : Ent) : (manyE (l ++ [e])).own = (manyE l).own ++ e.own := by show ids _ = ids l ++ _; rw [ids_append]; simp [ids]
theorem G.addG {c : Ctx} {m : Sl} {L R : List Ent} {Q : Act → World → Prop} {p : Par} {us : List Uc} {X : Nat → Ux} {g lb t : Nat} {cs : List Value} {s : Sta} {l : List (Int × Int)} {who : Int} (hw : who < 16) (hL : Lan cs noQ) (h : G c m (manyE (unL p (us ++ [⟨who, t, g, lb⟩]) 0 (setX X us.length ⟨s, l, [], 0, 0, 0⟩)) :: manyE (lanL (us ++ [⟨who, t, g, lb⟩]) 0 fun _ => noQ) :: L) R Q) : G c m (blk g (gateC p s who) 122 :: S.row s.ta s.tc 174 2 s.tl (spl l) :: blk lb cs 153 :: manyE (unL p us 0 X) :: manyE (lanL us 0 fun _ => noQ) :: L) R Q := by
 have e1 : unL p (us ++ [⟨who, t, g, lb⟩]) 0 (setX X us.length ⟨s, l, [], 0, 0, 0⟩) = unL p us 0 X ++ [unitE p ⟨who, t, g, lb⟩ ⟨s, l, [], 0, 0, 0⟩] := by
  rw [unL_app (X := X) _ (fun k _ h2 => (setX_ne X _ (by omega)).symm), Nat.zero_add, setX_at]
 rw [e1, lanL_app] at h
 refine G.recast [blk g (gateC p s who) 122, S.row s.ta s.tc 174 2 s.tl (spl l), blk lb cs 153, manyE (unL p us 0 X), manyE (lanL us 0 fun _ => noQ)] [manyE (unL p us 0 X ++ [unitE p ⟨who, t, g, lb⟩ ⟨s, l, [], 0, 0, 0⟩]), manyE ((lanL us 0 fun _ => noQ) ++ [lanE lb noQ])] (fun w hA e he => ?_) ?_ h
 ·simp only [List.mem_cons, List.not_mem_nil, or_false] at he
  rcases he with rfl | rfl
  ·refine many_app (hA _ (by simp)) ?_
   rw [unitE_gate (by exact hw)]
   intro x hx
   simp only [List.mem_cons, List.not_mem_nil, or_false] at hx
   rcases hx with rfl | rfl
   ·exact hA _ (by simp)
   ·exact hA _ (by simp [tabOf])
  ·exact many_app (hA _ (by simp)) ⟨cs, hA _ (by simp), hL⟩
 ·refine perm_of fun k => ?_
  simp only [ids, List.flatMap_cons, List.flatMap_nil, List.append_nil, List.count_append, many_own, unitE_gate (show (Uc.mk who t g lb).who < 16 from hw)]
  simp only [manyE, ids, List.flatMap_cons, List.flatMap_nil, List.append_nil, List.count_append, lanE, blk, tabOf, List.count_cons, List.count_nil]
  omega
theorem G.addN {c : Ctx} {m : Sl} {L R : List Ent} {Q : Act → World → Prop} {p : Par} {us : List Uc} {X : Nat → Ux} {g lb t tb r : Nat} {cs : List Value} {s : Sta} {l : List (Int × Int)} {who : Int} (hw : 16 ≤ who) (hL : Lan cs noQ) (h : G c m (manyE (unL p (us ++ [⟨who, t, g, lb⟩]) 0 (setX X us.length ⟨s, l, [], 0, tb, r⟩)) :: manyE (lanL (us ++ [⟨who, t, g, lb⟩]) 0 fun _ => noQ) :: L) R Q) : G c m (blk g (nodeC p s who tb) 127 :: S.row s.ta s.tc 174 2 s.tl (spl l) :: blk tb [.map (some r)] 193 :: nmap r [] 0 :: blk lb cs 153 :: manyE (unL p us 0 X) :: manyE (lanL us 0 fun _ => noQ) :: L) R Q := by
 have hw' : ¬ (Uc.mk who t g lb).who < 16 := by show ¬ who < 16; omega
 have e1 : unL p (us ++ [⟨who, t, g, lb⟩]) 0 (setX X us.length ⟨s, l, [], 0, tb, r⟩) = unL p us 0 X ++ [unitE p ⟨who, t, g, lb⟩ ⟨s, l, [], 0, tb, r⟩] := by
  rw [unL_app (X := X) _ (fun k _ h2 => (setX_ne X _ (by omega)).symm), Nat.zero_add, setX_at]
 rw [e1, lanL_app] at h
 refine G.recast [blk g (nodeC p s who tb) 127, S.row s.ta s.tc 174 2 s.tl (spl l), blk tb [.map (some r)] 193, nmap r [] 0, blk lb cs 153, manyE (unL p us 0 X), manyE (lanL us 0 fun _ => noQ)] [manyE (unL p us 0 X ++ [unitE p ⟨who, t, g, lb⟩ ⟨s, l, [], 0, tb, r⟩]), manyE ((lanL us 0 fun _ => noQ) ++ [lanE lb noQ])] (fun w hA e he => ?_) ?_ h
 ·simp only [List.mem_cons, List.not_mem_nil, or_false] at he
  rcases he with rfl | rfl
  ·refine many_app (hA _ (by simp)) ?_
   rw [unitE_node hw']
   intro x hx
   simp only [List.mem_cons, List.not_mem_nil, or_false] at hx
   rcases hx with rfl | rfl | rfl | rfl
   ·exact hA _ (by simp)
   ·exact hA _ (by simp [tabOf])
   ·exact hA _ (by simp)
   ·exact hA _ (by simp)
  ·exact many_app (hA _ (by simp)) ⟨cs, hA _ (by simp), hL⟩
 ·refine perm_of fun k => ?_
  simp only [ids, List.flatMap_cons, List.flatMap_nil, List.append_nil, List.count_append, many_own, unitE_node hw']
  simp only [manyE, ids, List.flatMap_cons, List.flatMap_nil, List.append_nil, List.count_append, lanE, blk, mapE, tabOf, List.count_cons, List.count_nil]
  omega
theorem fresh_ok {u : Uc} {s : Sta} {l : List (Int × Int)} {tb r : Nat} (h1 : l.length = s.tl) (h2 : goodB l = true) : UxOk u ⟨s, l, [], 0, tb, r⟩ := ⟨h1, h2, fun _ => ⟨⟨by simp, by simp, fun _ h => nomatch h⟩, ⟨⟨fun _ h => nomatch h⟩, by simp⟩⟩⟩
def zeroS : Sta := ⟨0, 0, 0, false, 0, 0, false, none, 0, 0, 0, 0, 0⟩
structure UsI (l : List Int) (us : List Uc) (X : Nat → Ux) : Prop where
 who : us.map (·.who) = l
 kind : ∀ u ∈ us, kindOf u
 ok : ∀ i u, us[i]? = some u → UxOk u (X i)
theorem UsI.snoc {l : List Int} {us : List Uc} {X : Nat → Ux} (h : UsI l us X) (u : Uc) (x : Ux) (hk : kindOf u) (hx : UxOk u x) : UsI (l ++ [u.who]) (us ++ [u]) (setX X us.length x) := by
 refine ⟨by rw [List.map_append, h.who]; rfl, fun v hv => ?_, fun i v hv => ?_⟩
 ·rcases List.mem_append.1 hv with q | q
  ·exact h.kind v q
  ·simp at q; subst q; exact hk
 ·rcases Nat.lt_trichotomy i us.length with q | q | q
  ·rw [List.getElem?_append_left q] at hv
   rw [setX_ne X x (by omega)]
   exact h.ok i v hv
  ·subst q
   simp at hv
   subst hv
   rw [setX_at]; exact hx
  ·rw [List.getElem?_eq_none (by simp; omega)] at hv; cases hv
def UsZ (l : List Int) (us : List Uc) (X : Nat → Ux) : Prop := UsI l us X ∧ ∀ i, (X i).nb = []
theorem UsZ.snoc {l : List Int} {us : List Uc} {X : Nat → Ux} (h : UsZ l us X) (u : Uc) (x : Ux) (hk : kindOf u) (hx : UxOk u x) (hz : x.nb = []) : UsZ (l ++ [u.who]) (us ++ [u]) (setX X us.length x) := ⟨h.1.snoc u x hk hx, fun i => by
 by_cases e : i = us.length
 ·rw [e, setX_at]; exact hz
 ·rw [setX_ne X x e]; exact h.2 i⟩
theorem ucl_snoc (us : List Uc) (u : Uc) : ucl (us ++ [u]) = ucl us ++ u.cells := by simp [ucl]
def gateJ (us : List Uc) (i : Int) (k : Nat) (ls : List (Int × Int)) : List (Int × Int) := (List.range k).foldl (fun ls (j : Nat) => joinL us ls i (j : Int)) ls
def coreJ1 (us : List Uc) (i : Int) (ls : List (Int × Int)) (c : Int) : List (Int × Int) := if (decide (c ≥ 0) && decide (c < 32)) = true then joinL us ls i (16 + c) else ls
def coreJ (us : List Uc) (i : Int) (core : List Int) (ls : List (Int × Int)) : List (Int × Int) := core.foldl (coreJ1 us i) ls
def allJ (us : List Uc) (n : Nat) (core : List Int) (k : Nat) : List (Int × Int) := (List.range k).foldl (fun ls (i : Nat) => coreJ us (i : Int) core (gateJ us (i : Int) n ls)) []
def linkJ (us : List Uc) (links : List (Int × Int)) (ls : List (Int × Int)) : List (Int × Int) := links.foldl (fun ls y => bothL us ls y.1 y.2) ls
theorem gateJ_next (us : List Uc) (i : Int) (k : Nat) (ls : List (Int × Int)) : gateJ us i (k + 1) ls = joinL us (gateJ us i k ls) i (k : Int) := by unfold gateJ; rw [List.range_succ, List.foldl_append]; rfl
theorem allJ_next (us : List Uc) (n : Nat) (core : List Int) (k : Nat) : allJ us n core (k + 1) = coreJ us (k : Int) core (gateJ us (k : Int) n (allJ us n core k)) := by unfold allJ; rw [List.range_succ, List.foldl_append]; rfl
theorem coreJ_take {us : List Uc} {i : Int} {core : List Int} {ls : List (Int × Int)} {k : Nat} {c : Int} (h : core[k]? = some c) : coreJ us i (core.take (k + 1)) ls = coreJ1 us i (coreJ us i (core.take k) ls) c := by unfold coreJ; rw [List.take_add_one, h, List.foldl_append]; rfl
theorem linkJ_take {us : List Uc} {links ls : List (Int × Int)} {k : Nat} {y : Int × Int} (h : links[k]? = some y) : linkJ us (links.take (k + 1)) ls = bothL us (linkJ us (links.take k) ls) y.1 y.2 := by unfold linkJ; rw [List.take_add_one, h, List.foldl_append]; rfl
end Go.Proofs.YtbmhgopjblnfnaaGreat.S
