/- The symbolic executor is right: rounds, operations in a row, code. -/
import Derived.Test.YtinfmmofcadjgaaZs
namespace Go.Proofs.Ytinfmmofcadjgaa
open Go.RowKit

section
variable {P : Program} {ct : Ct} {lt : Lt} {ρ : Env} {σ : As}

theorem setPs_den : ∀ (ps : List Tmp) (args : List V) (vals : List Value) (tm : List V) (tv : List Value), args.length = ps.length → DL (V.den ρ σ) args vals → DL (V.den ρ σ) tm tv →
    DL (V.den ρ σ) (setPs ps args tm) ((ps.zip vals).foldl (fun (tmps : Array Value) (p : Tmp × Value) => tmps.setIfInBounds p.1 p.2) tv.toArray).toList
  | [], [], [], tm, tv, _, _, h => by simpa [setPs] using h
  | t :: ps, v :: args, u :: vals, tm, tv, hl, ⟨h1, h2⟩, h => by
    have ih := setPs_den ps args vals (tm.set t v) (tv.set t u) (by simpa using hl) h2 (h.set t h1)
    simp only [setPs, List.zip_cons_cons, List.foldl_cons]
    rw [show tv.toArray.setIfInBounds t u = (tv.set t u).toArray by simp]
    exact ih
  | [], _ :: _, _, _, _, hl, _, _ => by simp at hl
  | _ :: _, [], _, _, _, hl, _, _ => by simp at hl
  | _ :: _, _ :: _, [], _, _, _, h, _ => h.elim

theorem round_ok (n : Nat) (hcode : CodeOk P ρ ct lt n) : RoundOk P ρ ct lt (n + 1) := by
  intro lid args mem nx q h σ W vals l hr ht hargs hl ro
  simp only [round] at h
  split at h
  · rename_i pe tm ps asg body d hm
    split at h
    · rename_i hlen
      obtain ⟨l', e1, fn, tv, dd, e2, e3, e4⟩ := hr.blk _ _ hm
      rw [hl] at e1
      simp only [Option.some.injEq] at e1
      subst e1
      have hvl := hargs.length
      refine ⟨_, e4, by simp; omega, ?_⟩
      obtain ⟨p, h1, h2⟩ := T.res_bind h
      split at h2
      · rename_i pe1 tm1 ps1 asg1 body1 d1 hp1 hm1
        obtain ⟨q2, h3, h4⟩ := T.res_bind h2
        split at h4
        · rename_i s2 pe2 tm2 ps2 asg2 body2 d2 hm2
          simp only [T.res] at h4
          subst h4
          refine roundIn_of_wpIn (F := FR ro) trivial ?_
          have hrr : ∀ id, some lid = some id → ∃ l, σ id = some l := fun id e => by simp only [Option.some.injEq] at e; subst e; exact ⟨l, hl⟩
          have hF : FR ((some lid).bind σ) = (FR ro).inRound l := by simp only [Option.bind_some, hl]; rfl
          have hbeg : Beg ρ { tm := setPs ps args tm, mem, nx, df := [] } σ { tmps := ((ps.toArray.zip vals.toArray).foldl (fun tmps (p : Tmp × Value) => tmps.setIfInBounds p.1 p.2) tv.toArray), defers := [] } W := by
            refine ⟨hr, ?_, rfl⟩
            have := setPs_den (ρ := ρ) (σ := σ) ps args vals tm tv hlen hargs e2
            simpa using this
          have hc1 := hcode _ (some lid) asg _ p h1 σ _ W hbeg (ht.less (by have e := (mono n).code _ _ _ _ _ h3; exact e)) hrr
          rw [hF] at hc1
          refine hc1 _ (fun a1 W1 σ1 hf1 => ?_)
          rw [hp1]
          have hb1 := hf1.beg hr
          have hl1 : σ1 lid = some l := hf1.ext _ _ hl
          obtain ⟨l1, k1, fn1, tv1, dd1, k2, k3, k4⟩ := hb1.rel.blk _ _ hm1
          rw [hl1] at k1
          simp only [Option.some.injEq] at k1
          subst k1
          have hlt1 := hb1.rel.lt _ _ hl1
          have hs1 : Step ρ σ1 W1 [(lid, .loop .busy pe1 tm1 ps1 asg1 body1 d1)] σ1 _ := step_put hl1 hlt1 ⟨fn1, tv1, dd1, k2, k3, rfl⟩ (fun L e => by rw [k4] at e; simp only [Option.some.injEq, Obj.loop.injEq] at e; subst e; exact ⟨_, rfl, rfl, rfl, rfl, rfl⟩)
          refine ⟨_, run_beginRound k4 rfl, ?_⟩
          have hfin1 : Fin ρ σ1 W1 p.2.mem p.2.nx { p.2 with mem := (lid, .loop .busy pe1 tm1 ps1 asg1 body1 d1) :: p.2.mem } σ1 a1 _ := ⟨⟨_, rfl, hs1⟩, New.refl _ _ _, Nat.le_refl _, hb1.tm, hb1.df⟩
          have hb2 := hfin1.beg hb1.rel
          have hrr1 : ∀ id, some lid = some id → ∃ l, σ1 id = some l := fun id e => by simp only [Option.some.injEq] at e; subst e; exact ⟨l, hl1⟩
          have hF1 : FR ((some lid).bind σ1) = (FR ro).inRound l := by simp only [Option.bind_some, hl1]; rfl
          have hc2 := hcode _ (some lid) body _ q2 h3 σ1 a1 _ hb2 (ht.after hf1.le hf1.new) hrr1
          rw [hF1] at hc2
          refine hc2 _ (fun a2 W2 σ2 hf2 => ?_)
          have hf02 : Fin ρ σ W mem nx q2.2 σ2 a2 W2 := Fin.trans hr hf1 (Fin.trans hb1.rel hfin1 hf2)
          have hb3 := hf02.beg hr
          have hl2 : σ2 lid = some l := hf02.ext _ _ hl
          obtain ⟨l2, m1, fn2, tv2, dd2, m2, m3, m4⟩ := hb3.rel.blk _ _ hm2
          rw [hl2] at m1
          simp only [Option.some.injEq] at m1
          subst m1
          have hlt2 := hb3.rel.lt _ _ hl2
          have hend := fun j => run_endRound (P := P) j m4
          have hs2 : Step ρ σ2 W2 [(lid, .loop (if q2.1.jump.isNone then .ready else .done) q2.1.jump tm2 ps2 asg2 body2 d2)] σ2 _ := step_put hl2 hlt2 ⟨fn2, tv2, dd2, m2, m3, rfl⟩ (fun L e => by rw [m4] at e; simp only [Option.some.injEq, Obj.loop.injEq] at e; subst e; exact ⟨_, rfl, rfl, rfl, rfl, rfl⟩)
          have hret : RetTo ρ σ W nx (bV (.lit q2.1.jump.isNone), keepOld nx q2.2.nx (bV (.lit true)) ((lid, .loop (if q2.1.jump.isNone then .ready else .done) q2.1.jump tm2 ps2 asg2 body2 d2) :: q2.2.mem.take (q2.2.mem.length - mem.length)), q2.2.nx)
              (.returned (.bool q2.1.jump.isNone)) (W2.putObj l (.loop { state := if q2.1.jump.isNone then .ready else .done, pending := q2.1.jump, fn := fn2, tmps := tv2.toArray, params := ps2.toArray, assign := asg2, body := body2, defers := dd2 })) := by
            refine ⟨_, σ2, rfl, rfl, keepOld_step ht ?_, hf02.new⟩
            obtain ⟨ws, e, s0⟩ := hf02.step
            rw [e, take_pre]
            exact Step.trans (ws := ws) (ws' := [_]) (fun i k hi => hr.lt i k hi) hr.inj s0 hs2
          cases hj : q2.1 with
          | normal => rw [hj] at hret; exact ⟨_, _, hend none, hret⟩
          | ret => rw [hj] at hret; exact ⟨_, _, hend (some .ret), hret⟩
          | exit id => rw [hj] at hret; exact ⟨_, _, hend (some (.exit id)), hret⟩
          | goto t => rw [hj] at hret; exact ⟨_, _, hend (some (.goto t)), hret⟩
        · exact h4.elim
      · exact h2.elim
    · exact h.elim
  · exact h.elim

theorem ops_zero : OpsOk P ρ ct lt 0 := by intro r ops i st s' h; simp [opsRun, T.res] at h
theorem ops_ok (n : Nat) (hoper : OperOk P ρ ct lt n) (hops : OpsOk P ρ ct lt n) : OpsOk P ρ ct lt (n + 1) := by
  intro r ops i st s' h σ a W hbeg ht ro Q hQ
  simp only [opsRun] at h
  split at h
  · rename_i ho
    simp only [T.res] at h
    subst h
    have : ops.size - i = 0 := by
      rcases Nat.lt_or_ge i ops.size with q | q
      · rw [Array.getElem?_eq_getElem q] at ho; simp at ho
      · omega
    rw [this]
    exact hQ a W σ (Fin.refl hbeg)
  · rename_i o ho
    have hi : i < ops.size := (Array.getElem?_eq_some_iff.1 ho).1
    have er : List.range' i (ops.size - i) = i :: List.range' (i + 1) (ops.size - (i + 1)) := by
      rw [show ops.size - i = (ops.size - (i + 1)) + 1 by omega, List.range'_succ]
    rw [er]
    simp only [wpOpsIn, ho]
    split at h
    · exact h.elim
    · rename_i hw
      have hw' := wants_spec hw hbeg.tm
      rw [hw']
      simp only [Bool.false_eq_true, if_false]
      refine ⟨fun _ _ => trivial, ?_⟩
      have hbeg' : Beg ρ { st with tm := setTm st.tm o.dst V.any } σ (a.put o.dst undef) W := ⟨hbeg.rel, setTm_den hbeg.tm (show V.any.den ρ σ undef from trivial) _, by rw [put_defers]; exact hbeg.df⟩
      exact hops r ops (i + 1) _ s' h σ _ W hbeg' ht ro Q hQ
    · rename_i hw
      have hw' := wants_spec hw hbeg.tm
      rw [hw']
      simp only [if_true]
      obtain ⟨q, h1, h2⟩ := T.res_bind h
      obtain ⟨q0, h3, h4, h5⟩ := parted_spec h1
      have m1 := (mono n).oper _ _ _ _ _ h3
      have m2 := (mono n).ops _ _ _ _ _ h2
      refine hoper o _ _ _ q0 h3 σ a W hbeg.rel (ht.less (by rw [← h4]; exact m2)) (fun x _ => eval_den hbeg.tm x) ro _ Q (fun u W' σ' k1 k2 k3 => ?_)
      rw [← h4] at k2 k3 m1
      have hfin : Fin ρ σ W st.mem st.nx { st with tm := setTm st.tm o.dst q.1, mem := q.2.1 ++ st.mem, nx := q.2.2 } σ' (a.put o.dst u) W' :=
        ⟨⟨q.2.1, rfl, k2⟩, k3, m1, setTm_den (hbeg.tm.mono (V.den_ext k2.ext)) (h5 _ _ k1) _, by rw [put_defers]; exact hbeg.df.ext k2.ext⟩
      exact hops r ops (i + 1) _ s' h2 σ' _ W' (hfin.beg hbeg.rel) (ht.after m1 k3) ro Q (fun a' W2 σ2 hf => hQ _ _ _ (Fin.trans hbeg.rel hfin hf))

theorem Step.of_drew {W W' : World} {ws : Mem} {σ' : As} (h : Step ρ σ W.drew ws σ' W') : Step ρ σ W ws σ' W' :=
  ⟨h.ext, h.os, h.tape, h.output, h.size, h.frame, h.new, h.inj, h.blk, h.keep⟩
theorem Beg.drew {st : St} {a : Act} {W : World} (h : Beg ρ st σ a W) : Beg ρ st σ a W.drew := ⟨h.rel.step (Step.drew _ _ _), h.tm, h.df⟩
theorem Fin.of_drew {W W' : World} {mem : Mem} {nx : Nat} {st' : St} {σ' : As} {a' : Act} (h : Fin ρ σ W.drew mem nx st' σ' a' W') : Fin ρ σ W mem nx st' σ' a' W' := by
  obtain ⟨ws, e, s⟩ := h.step
  exact ⟨⟨ws, e, s.of_drew⟩, h.new, h.le, h.tm, h.df⟩

theorem loop_ok (n : Nat) (hc0 : CodeOk P ρ ct lt n) (hcN : ∀ N v, CodeOk P (ρ.put N v) ct lt n) (hloop : LoopOk P ρ ct lt n) : LoopOk P ρ ct lt (n + 1) := by
  intro w r b st p h
  simp only [code] at h
  split at h
  · obtain ⟨p1, h1, h2⟩ := T.res_bind h
    cases hp : p1.1 with
    | normal =>
      rw [hp] at h2
      obtain ⟨k, hk⟩ := hloop w r b p1.2 p h2
      refine ⟨k + 1, fun σ a W hbeg ht hrr Q hQ => ?_⟩
      rw [roundsIn_succ]
      refine hc0 _ r b st p1 h1 σ a W hbeg (ht.less ((mono n).code _ _ _ _ _ h2)) hrr _ (fun a1 W1 σ1 hf1 => ?_)
      rw [hp]
      have := hk σ1 a1 W1 (hf1.beg hbeg.rel) (ht.after hf1.le hf1.new) (hr_ext hrr hf1.ext) Q (fun a2 W2 σ2 hf2 => hQ _ _ _ (Fin.trans hbeg.rel hf1 hf2))
      rw [FR_ext hrr hf1.ext] at this
      exact this
    | exit id =>
      rw [hp] at h2
      obtain rfl := res_ret h2
      refine ⟨1, fun σ a W hbeg ht hrr Q hQ => ?_⟩
      rw [roundsIn_succ]
      refine hc0 _ r b st p h1 σ a W hbeg ht hrr _ (fun a1 W1 σ1 hf1 => ?_)
      have := hQ a1 W1 σ1 hf1
      rw [hp] at this ⊢
      exact this
    | goto l =>
      rw [hp] at h2
      obtain rfl := res_ret h2
      refine ⟨1, fun σ a W hbeg ht hrr Q hQ => ?_⟩
      rw [roundsIn_succ]
      refine hc0 _ r b st p h1 σ a W hbeg ht hrr _ (fun a1 W1 σ1 hf1 => ?_)
      have := hQ a1 W1 σ1 hf1
      rw [hp] at this ⊢
      exact this
    | ret =>
      rw [hp] at h2
      obtain rfl := res_ret h2
      refine ⟨1, fun σ a W hbeg ht hrr Q hQ => ?_⟩
      rw [roundsIn_succ]
      refine hc0 _ r b st p h1 σ a W hbeg ht hrr _ (fun a1 W1 σ1 hf1 => ?_)
      have := hQ a1 W1 σ1 hf1
      rw [hp] at this ⊢
      exact this
  · exact loopT_ok n hcN h

theorem run_enterLoop_in {l₀ : Nat} {r₀ : Loop} {w : World} (h : w.heap[l₀]? = some (.loop r₀)) (fn : FuncId) (tmps : Array Value) (ps : Array Tmp) (assign body : Code) :
    (Instr.enterLoop fn tmps ps assign body (some l₀)).run P w = .ok (w.heap.size, []) (w.alloc (.loop { state := .ready, pending := none, fn, tmps, params := ps, assign, body, defers := r₀.defers })) := by
  unfold Instr.enterLoop
  simp only [Sem.run_bind, run_getLoop h, run_newObj_alloc, Result.andThen, Sem.run_pure]

theorem range_call {g : Operand} {a : Act} {f : FuncId} {vs : List Value} (hg : a.eval g = .func (.func f) #[] vs.toArray) (l : Nat) (hen : Enterable P f) (W : World) :
    ∃ d, (resolve a.eval (rangeCall g l) 0).run P W = .ok d W ∧ (invoke d.target d.args).run P W = .ok (.enter f (Value.func (.yield l) #[] #[] :: vs).toArray) W := by
  refine ⟨{ target := .fn (.func f) vs.toArray, args := #[.func (.yield l) #[] #[]] }, ?_, ?_⟩
  · unfold resolve rangeCall
    simp only [hg]
    simp [Deferred.ofValue, Act.eval]
  · have := hen (Value.func (.yield l) #[] #[] :: vs).toArray W
    simp only [invoke]
    rw [← this]
    congr 2
    simp

theorem code_ok (hmix : P.follows .mixedOrders = true) (hce : CtEnter P ct) (n : Nat) (hcode : CodeOk P ρ ct lt n) (hloop : LoopOk P ρ ct lt (n + 1)) (hops : OpsOk P ρ ct lt n) (hdraw : DrawOk P ρ ct lt n) (hcall : CallOk P ρ ct lt n) (hend : RangeEndOk P ρ ct lt n) : CodeOk P ρ ct lt (n + 1) := by
  intro w r c st p h σ a W hbeg ht hrr Q hQ
  cases c with
  | skip =>
    simp only [code, T.res] at h
    subst h
    exact wpIn_skip (hQ _ _ _ (Fin.refl hbeg))
  | label l =>
    simp only [code, T.res] at h
    subst h
    exact wpIn_label (hQ _ _ _ (Fin.refl hbeg))
  | exit id =>
    simp only [code, T.res] at h
    subst h
    exact wpIn_exit (hQ _ _ _ (Fin.refl hbeg))
  | goto l =>
    simp only [code, T.res] at h
    subst h
    exact wpIn_goto (hQ _ _ _ (Fin.refl hbeg))
  | ret =>
    simp only [code, T.res] at h
    subst h
    exact wpIn_ret (hQ _ _ _ (Fin.refl hbeg))
  | seq x y =>
    simp only [code] at h
    obtain ⟨p1, h1, h2⟩ := T.res_bind h
    have hle : p1.2.nx ≤ p.2.nx := by
      split at h2
      · exact (mono n).code _ _ _ _ _ h2
      · obtain rfl := res_ret h2; exact Nat.le_refl _
    refine wpIn_seq (hcode _ r x st p1 h1 σ a W hbeg (ht.less hle) hrr _ (fun a1 W1 σ1 hf1 => ?_))
    cases hp : p1.1 with
    | normal =>
      rw [hp] at h2
      have := hcode _ r y p1.2 p h2 σ1 a1 W1 (hf1.beg hbeg.rel) (ht.after hf1.le hf1.new) (hr_ext hrr hf1.ext) Q (fun a2 W2 σ2 hf2 => hQ _ _ _ (Fin.trans hbeg.rel hf1 hf2))
      rw [FR_ext hrr hf1.ext] at this
      exact this
    | exit id =>
      rw [hp] at h2
      simp only [T.res] at h2
      subst h2
      have := hQ a1 W1 σ1 hf1
      rw [hp] at this
      exact this
    | goto l =>
      rw [hp] at h2
      simp only [T.res] at h2
      subst h2
      have := hQ a1 W1 σ1 hf1
      rw [hp] at this
      exact this
    | ret =>
      rw [hp] at h2
      simp only [T.res] at h2
      subst h2
      have := hQ a1 W1 σ1 hf1
      rw [hp] at this
      exact this
  | cond x y z =>
    simp only [code] at h
    split at h
    · rename_i b hb
      have hx := eval_den hbeg.tm x
      rw [hb] at hx
      have hx' : a.eval x = .bool (b.ev ρ) := hx
      rcases T.res_iteS h with ⟨e, h1⟩ | ⟨e, h1⟩
      · rw [e] at hx'
        exact wpIn_cond_true hx' (hcode _ r y st p h1 σ a W hbeg ht hrr Q hQ)
      · rw [e] at hx'
        exact wpIn_cond_false hx' (hcode _ r z st p h1 σ a W hbeg ht hrr Q hQ)
    · exact h.elim
  | block id b =>
    simp only [code] at h
    obtain ⟨p1, h1, h2⟩ := T.res_bind h
    have hle : p1.2.nx ≤ p.2.nx := by
      repeat' split at h2
      all_goals (obtain rfl := res_ret h2; exact Nat.le_refl _)
    refine wpIn_block (hcode _ r b st p1 h1 σ a W hbeg (ht.less hle) hrr _ (fun a1 W1 σ1 hf1 => ?_))
    cases hp : p1.1 with
    | normal =>
      rw [hp] at h2
      simp only [T.res] at h2
      subst h2
      have := hQ a1 W1 σ1 hf1
      rw [hp] at this
      exact this
    | exit id' =>
      rw [hp] at h2
      simp only at h2
      show if id' = id then Q .normal a1 W1 else Q (.exit id') a1 W1
      by_cases he : id' = id
      · rw [if_pos he] at h2 ⊢
        simp only [T.res] at h2
        subst h2
        exact hQ a1 W1 σ1 hf1
      · rw [if_neg he] at h2 ⊢
        simp only [T.res] at h2
        subst h2
        have := hQ a1 W1 σ1 hf1
        rw [hp] at this
        exact this
    | goto l =>
      rw [hp] at h2
      simp only [T.res] at h2
      subst h2
      have := hQ a1 W1 σ1 hf1
      rw [hp] at this
      exact this
    | ret =>
      rw [hp] at h2
      simp only [T.res] at h2
      subst h2
      have := hQ a1 W1 σ1 hf1
      rw [hp] at this
      exact this
  | loop b =>
    obtain ⟨k, hk⟩ := hloop w r b st p h
    exact wpIn_loop_rounds k (hk σ a W hbeg ht hrr Q hQ)
  | region id ops draw =>
    cases draw with
    | false =>
      simp only [code] at h
      obtain ⟨s1, h1, h2⟩ := T.res_bind h
      simp only [T.res] at h2
      subst h2
      refine wpIn_region ?_
      have := hops r ops 0 st s1 h1 σ a W hbeg ht (r.bind σ) Q (fun a' W' σ' hf => hQ a' W' σ' hf)
      simpa [List.range_eq_range'] using this
    | true =>
      simp only [code] at h
      obtain ⟨s1, h1, h2⟩ := T.res_bind h
      simp only [T.res] at h2
      subst h2
      refine wpIn_region_any hmix ?_
      exact hdraw r ops st s1 h1 σ a W.drew hbeg.drew ht (r.bind σ) Q (fun a' W' σ' hf => hQ a' W' σ' hf.of_drew)
  | rangeFunc g ps asg body =>
    simp only [code] at h
    split at h
    · rename_i f cap hg
      have hgd := eval_den hbeg.tm g
      rw [hg] at hgd
      obtain ⟨vs, hvs, hge⟩ := clo_den hgd
      split at h
      · -- an outermost one
        obtain ⟨q, h1, h2⟩ := T.res_bind h
        have m1 : st.nx + 2 ≤ q.2.2 := (mono n).call _ _ _ _ _ h1
        have m2 : q.2.2 ≤ p.2.nx := by have e := (mono n).rend _ _ _ _ h2; exact e
        refine wpIn_rangeFunc (fun fn _ => ?_)
        obtain ⟨s1, t1⟩ := step_new (ρ := ρ) (nx := st.nx) (ht _ (Nat.le_refl _) (by omega)) (fun i a hi => hbeg.rel.lt i a hi) (b := .dfd false) (o := .deferred (some [])) rfl
        have r1 := hbeg.rel.step s1
        have hd0 : (fun i => if i = st.nx then some W.heap.size else σ i) st.nx = some W.heap.size := by simp
        have htm1 := hbeg.tm.mono (V.den_ext s1.ext)
        have hx2 : Ext (fun i => if i = st.nx then some W.heap.size else σ i) (fun i => if i = st.nx + 1 then some (W.alloc (.deferred (some []))).heap.size else if i = st.nx then some W.heap.size else σ i) := by
          intro i b hi
          have : i ≠ st.nx + 1 := fun e => by rw [e, (ht.after (by omega) t1) _ (Nat.le_refl _) (by omega)] at hi; cases hi
          show (if i = st.nx + 1 then _ else _) = some b
          rw [if_neg this]
          exact hi
        obtain ⟨s2, t2⟩ := step_new (ρ := ρ) (nx := st.nx + 1) ((ht.after (by omega) t1) _ (Nat.le_refl _) (by omega)) (fun i a hi => r1.lt i a hi) (b := .loop .ready none st.tm ps.toList asg body st.nx)
          (o := .loop { state := .ready, pending := none, fn := fn, tmps := a.tmps, params := ps, assign := asg, body := body, defers := W.heap.size }) ⟨fn, a.tmps.toList, W.heap.size, htm1.mono (V.den_ext hx2), hx2 _ _ hd0, by simp⟩
        have r2 := r1.step s2
        have hl : (fun i => if i = st.nx + 1 then some (W.alloc (.deferred (some []))).heap.size else if i = st.nx then some W.heap.size else σ i) (st.nx + 1) = some (W.heap.size + 1) := by simp
        have hcap := hvs.mono (fun _ _ => capDen.ext (s1.ext.trans s2.ext))
        have hcc := hcall f _ _ _ q h1 _ _ (Value.func (.yield (W.heap.size + 1)) #[] #[] :: vs) r2 (((ht.after (by omega) t1).after (by omega) t2).less m2) ⟨⟨W.heap.size + 1, hl, rfl⟩, cap_den hcap⟩
        obtain ⟨d, hd1, hd2⟩ := range_call (a := a) hge (W.heap.size + 1) (call_enter hce h1) ((W.alloc (.deferred (some []))).alloc (.loop { state := .ready, pending := none, fn := fn, tmps := a.tmps, params := ps, assign := asg, body := body, defers := W.heap.size }))
        refine ⟨W.heap.size + 1, [{ target := .collected W.heap.size, args := #[] }], _, d, _, f, _, _, run_enterLoop_outer fn a.tmps ps asg body, hd1, fun _ _ => trivial, hd2, fun h => by simp [FR] at h, ?_⟩
        refine CallsIn.mono (F := FR none) (n := 0 - 1) hcc ?_
        rintro e W3 ⟨u, σ3, rfl, k1, k2, k3⟩
        have s12 := Step.trans (fun i k hi => hbeg.rel.lt i k hi) hbeg.rel.inj s1 s2
        have s123 := Step.trans (fun i k hi => hbeg.rel.lt i k hi) hbeg.rel.inj s12 k2
        have hfin : Fin ρ σ W st.mem st.nx { st with mem := q.2.1 ++ (st.nx + 1, .loop .ready none st.tm ps.toList asg body st.nx) :: (st.nx, .dfd false) :: st.mem, nx := q.2.2, df := st.nx :: st.df } σ3
            { a with defers := [{ target := .collected W.heap.size, args := #[] }] ++ a.defers } W3 := by
          refine ⟨⟨_, by simp, s123⟩, (t1.trans (by omega) (by omega) t2).trans (by omega) m1 k3, by show st.nx ≤ q.2.2; omega, hbeg.tm.mono (V.den_ext s123.ext), W.heap.size, a.defers, ?_, rfl, hbeg.df.ext s123.ext⟩
          exact k2.ext _ _ (s2.ext _ _ hd0)
        have he := hend none (st.nx + 1) _ p h2 σ3 _ W3 (W.heap.size + 1) (hfin.beg hbeg.rel) (ht.after hfin.le hfin.new) (fun id e => by simp at e) (k2.ext _ _ hl) Q (fun a' W' σ' hf => hQ _ _ _ (Fin.trans hbeg.rel hfin hf))
        exact he
      · -- one within a round
        rename_i rid
        split at h
        · rename_i s0 p0 tm0 ps0 asg0 body0 d0 hm0
          obtain ⟨q, h1, h2⟩ := T.res_bind h
          obtain ⟨l0, hl0⟩ := hrr rid rfl
          obtain ⟨l0', e1, fn0, tv0, dd0, e2, e3, e4⟩ := hbeg.rel.blk _ _ hm0
          rw [hl0] at e1
          simp only [Option.some.injEq] at e1
          subst e1
          have hFl : FR ((some rid).bind σ) = FR (some l0) := by simp only [Option.bind_some, hl0]
          rw [hFl]
          have m1 : st.nx + 1 ≤ q.2.2 := (mono n).call _ _ _ _ _ h1
          have m2 : q.2.2 ≤ p.2.nx := by have e := (mono n).rend _ _ _ _ h2; exact e
          refine wpIn_rangeFunc (fun fn _ => ?_)
          have hx2 : Ext σ (fun i => if i = st.nx then some W.heap.size else σ i) := by
            intro i b hi
            have : i ≠ st.nx := fun e => by rw [e, ht _ (Nat.le_refl _) (by omega)] at hi; cases hi
            simp [this, hi]
          obtain ⟨s2, t2⟩ := step_new (ρ := ρ) (nx := st.nx) (ht _ (Nat.le_refl _) (by omega)) (fun i a hi => hbeg.rel.lt i a hi) (b := .loop .ready none st.tm ps.toList asg body d0)
            (o := .loop { state := .ready, pending := none, fn := fn, tmps := a.tmps, params := ps, assign := asg, body := body, defers := dd0 }) ⟨fn, a.tmps.toList, dd0, hbeg.tm.mono (V.den_ext hx2), hx2 _ _ e3, by simp⟩
          have r2 := hbeg.rel.step s2
          have hl : (fun i => if i = st.nx then some W.heap.size else σ i) st.nx = some W.heap.size := by simp
          have hcap := hvs.mono (fun _ _ => capDen.ext s2.ext)
          have hcc := hcall f _ _ _ q h1 _ _ (Value.func (.yield W.heap.size) #[] #[] :: vs) r2 ((ht.after (by omega) t2).less m2) ⟨⟨W.heap.size, hl, rfl⟩, cap_den hcap⟩
          obtain ⟨d, hd1, hd2⟩ := range_call (a := a) hge W.heap.size (call_enter hce h1) (W.alloc (.loop { state := .ready, pending := none, fn := fn, tmps := a.tmps, params := ps, assign := asg, body := body, defers := dd0 }))
          refine ⟨W.heap.size, [], _, d, _, f, _, _, run_enterLoop_in e4 fn a.tmps ps asg body, hd1, fun _ _ => trivial, hd2, fun h => by simp [FR] at h, ?_⟩
          refine CallsIn.mono (F := FR none) (n := 0 - 1) hcc ?_
          rintro e W3 ⟨u, σ3, rfl, k1, k2, k3⟩
          have s123 := Step.trans (fun i k hi => hbeg.rel.lt i k hi) hbeg.rel.inj s2 k2
          have hfin : Fin ρ σ W st.mem st.nx { st with mem := q.2.1 ++ (st.nx, .loop .ready none st.tm ps.toList asg body d0) :: st.mem, nx := q.2.2 } σ3 { a with defers := [] ++ a.defers } W3 :=
            ⟨⟨_, by simp, s123⟩, t2.trans (by omega) m1 k3, by show st.nx ≤ q.2.2; omega, hbeg.tm.mono (V.den_ext s123.ext), hbeg.df.ext s123.ext⟩
          have he := hend (some rid) st.nx _ p h2 σ3 _ W3 W.heap.size (hfin.beg hbeg.rel) (ht.after hfin.le hfin.new) (hr_ext hrr s123.ext) (k2.ext _ _ hl) Q (fun a' W' σ' hf => hQ _ _ _ (Fin.trans hbeg.rel hfin hf))
          rw [FR_ext hrr s123.ext, hFl] at he
          exact he
        · exact h.elim
    · exact h.elim
  | scope b => simp [code, T.res] at h
  | refuse w => simp [code, T.res] at h
end
end Go.Proofs.Ytinfmmofcadjgaa
