/- The symbolic executor is right: calls, rounds of ranges over functions, their ends. -/
import Derived.Test.YtinfmmofcadjgaaZj
import Derived.Test.YtinfmmofcadjgaaZy
namespace Go.Proofs.Ytinfmmofcadjgaa
open Go.RowKit

section
variable {P : Program} {ct : Ct} {lt : Lt} {ρ : Env} {σ : As}

/-- A block that is no row of cells is put anew. -/
theorem step_put {W : World} {id l : Nat} {b : Blk} {o : Obj} (hl : σ id = some l) (hlt : l < W.heap.size) (hb : BDen ρ σ b (some o)) (hk : ∀ L, W.heap[l]? = some (.loop L) → ∃ L', o = .loop L' ∧ L'.params = L.params ∧ L'.assign = L.assign ∧ L'.body = L.body ∧ L'.defers = L.defers) : Step ρ σ W [(id, b)] σ (W.putObj l o) := by
  refine ⟨Ext.refl _, rfl, rfl, rfl, by simp, fun k hk hne => ?_, fun i a hi => .inl hi, fun e => e, fun i b' hi => ?_, fun k L e => ?_⟩
  · refine World.putObj_heap_other (fun e => ?_)
    subst e
    exact hne id b (by simp [Mem.get]) hl
  · simp only [Mem.get] at hi
    split at hi
    · rename_i hii
      simp only [beq_iff_eq] at hii
      subst hii
      simp only [Option.some.injEq] at hi
      subst hi
      exact ⟨l, hl, by rw [World.putObj_heap_same hlt]; exact hb⟩
    · simp at hi
  · by_cases h : k = l
    · subst h
      obtain ⟨L', rfl, q⟩ := hk L e
      exact ⟨L', World.putObj_heap_same hlt, q⟩
    · exact ⟨L, by rw [World.putObj_heap_other h]; exact e, rfl, rfl, rfl, rfl⟩

theorem get_filter (f : Nat → Bool) : ∀ (ws : Mem) (i : Nat) (b : Blk), Mem.get (ws.filter fun p => f p.1) i = some b → ws.get i = some b
  | [], i, b, h => by simp [Mem.get] at h
  | (j, c) :: ws, i, b, h => by
    simp only [List.filter_cons] at h
    split at h
    · simp only [Mem.get] at h ⊢
      split at h
      · rename_i e; simp only [e, if_true]; exact h
      · rename_i e
        have ih := get_filter f ws i b h
        simp only [e]; exact ih
    · rename_i hlt
      have ih := get_filter f ws i b h
      simp only [Mem.get]
      split
      · rename_i e
        exfalso
        simp only [beq_iff_eq] at e
        subst e
        have key : ∀ (l : Mem), Mem.get (l.filter fun p => f p.1) j = some b → f j = true := by
          intro l
          induction l with
          | nil => intro h; simp [Mem.get] at h
          | cons p l ihl =>
            obtain ⟨k, d⟩ := p
            simp only [List.filter_cons]
            split
            · rename_i hk
              simp only [Mem.get]
              split
              · rename_i e; simp only [beq_iff_eq] at e; subst e; intro _; exact hk
              · exact ihl
            · exact ihl
        exact hlt (key ws h)
      · exact ih
theorem get_filter' {f : Nat → Bool} : ∀ {ws : Mem} {i : Nat} {b : Blk}, ws.get i = some b → f i = true → Mem.get (ws.filter fun p => f p.1) i = some b
  | [], i, b, h, _ => by simp [Mem.get] at h
  | (j, c) :: ws, i, b, h, hi => by
    simp only [Mem.get] at h
    split at h
    · rename_i e
      simp only [beq_iff_eq] at e
      subst e
      simp only [List.filter_cons, hi, if_true, Mem.get, beq_self_eq_true]
      exact h
    · rename_i e
      have ih := get_filter' h hi
      simp only [List.filter_cons]
      split
      · simp only [Mem.get, e]; exact ih
      · exact ih
theorem keepOld_step {W W' : World} {ws : Mem} {σ' : As} {nx nx' : Nat} {v : V} (hn : Fr nx nx' σ) (h : Step ρ σ W ws σ' W') : Step ρ σ W (keepOld nx nx' v ws) σ' W' := by
  have key : Step ρ σ W (ws.filter fun p => decide (p.1 < nx) || decide (nx' ≤ p.1)) σ' W' := by
    refine ⟨h.ext, h.os, h.tape, h.output, h.size, fun k hk hne => h.frame k hk (fun i b hi he => ?_), h.new, h.inj, fun i b hi => h.blk i b (get_filter (fun i => decide (i < nx) || decide (nx' ≤ i)) ws i b hi), h.keep⟩
    refine hne i b (get_filter' (f := fun i => decide (i < nx) || decide (nx' ≤ i)) hi ?_) he
    simp only [Bool.or_eq_true, decide_eq_true_eq]
    rcases Nat.lt_or_ge i nx with q | q
    · exact .inl q
    · rcases Nat.lt_or_ge i nx' with q' | q'
      · rw [hn i q q'] at he; cases he
      · exact .inr q'
  unfold keepOld
  simp only
  split
  · exact key
  · exact h

theorem take_pre (ws m : Mem) : (ws ++ m).take ((ws ++ m).length - m.length) = ws := by
  rw [List.length_append, Nat.add_sub_cancel, List.take_append_of_le_length (Nat.le_refl _), List.take_length]

/-! ### Results -/
def resF (tmps : Array Value) : ResultVar → Sem Value
  | .tmp t => pure (tmps.getD t undef)
  | .cell a t => do loadVar t (← asAddr (tmps.getD a undef))
theorem results_eq (fn : Func) (tmps : Array Value) : results fn tmps = (do let vs ← fn.results.mapM (resF tmps); pure (if h : vs.size = 1 then vs[0] else .tuple vs)) := rfl
theorem resultS_sound {st : St} {a : Act} {W : World} (hr : RelM ρ σ st.mem W) (ht : DL (V.den ρ σ) st.tm a.tmps.toList) : ∀ (l : List ResultVar) (r : List V2), resultS P st l = some r →
    ∃ vs : List Value, DL (V2.den ρ σ) r vs ∧ (l.mapM (resF a.tmps)).run P W = .ok vs W
  | [], r, h => by
    simp only [resultS, Option.some.injEq] at h
    subst h
    exact ⟨[], trivial, by simp⟩
  | .tmp t :: l, r, h => by
    simp only [resultS] at h
    split at h
    · rename_i x r' hx hr'
      simp only [Option.some.injEq] at h
      subst h
      obtain ⟨vs, h1, h2⟩ := resultS_sound hr ht l r' hr'
      have hd := eval_den ht (.tmp t)
      simp only [opV] at hd
      rw [hx] at hd
      have e0 : (resF a.tmps (.tmp t)).run P W = .ok (a.eval (.tmp t)) W := rfl
      exact ⟨_ :: vs, ⟨hd, h1⟩, by simp only [List.mapM_cons, Sem.run_bind, e0, h2, Result.andThen_ok, Sem.run_pure]⟩
    · simp at h
  | .cell b t :: l, r, h => by
    simp only [resultS] at h
    split at h
    · rename_i x r' hx hr'
      simp only [Option.some.injEq] at h
      subst h
      obtain ⟨vs, h1, h2⟩ := resultS_sound hr ht l r' hr'
      have hd := eval_den ht (.tmp b)
      simp only [opV] at hd
      obtain ⟨u, h3, h4⟩ := loadS_sound hx hd hr
      have e0 : (resF a.tmps (.cell b t)).run P W = .ok u W := by
        show (do loadVar t (← asAddr (a.eval (.tmp b))) : Sem Value).run P W = .ok u W
        simp only [Instr.loadAt, Sem.run_bind] at h3 ⊢
        cases hp : a.eval (.tmp b) with
        | pointer q =>
          cases q with
          | some q => rw [hp] at h3; exact h3
          | none => rw [hp] at h3; simp [Instr.sureAddr, stuck, Sem.run, Result.andThen] at h3
        | _ => rw [hp] at h3; simp [Instr.sureAddr, stuck, Sem.run, Result.andThen] at h3
      exact ⟨u :: vs, ⟨h4, h1⟩, by simp only [List.mapM_cons, Sem.run_bind, e0, h2, Result.andThen_ok, Sem.run_pure]⟩
    · simp at h

theorem results_run {fn : Func} {st : St} {a : Act} {W : World} (hr : RelM ρ σ st.mem W) (ht : DL (V.den ρ σ) st.tm a.tmps.toList) {r : List V2} (h : resultS P st fn.results.toList = some r) :
    ∃ u, (results fn a.tmps).run P W = .ok u W ∧ (resultV r).den ρ σ u := by
  obtain ⟨vs, h1, h2⟩ := resultS_sound hr ht _ r h
  have e : (fn.results.mapM (resF a.tmps)).run P W = .ok vs.toArray W := by
    rw [Array.mapM_eq_mapM_toList]
    simp [h2]
  have e' : (results fn a.tmps).run P W = .ok (if h : vs.toArray.size = 1 then vs.toArray[0] else .tuple vs.toArray) W := by
    rw [results_eq]
    simp only [Sem.run_bind, e, Result.andThen_ok, Sem.run_pure]
  refine ⟨_, e', ?_⟩
  have hlen := h1.length
  unfold resultV
  split
  · rename_i x
    obtain ⟨v, vs', rfl, h3, h4⟩ := DL.cons_inv h1
    rw [DL.nil_inv h4]
    exact h3
  · rename_i l hne
    have : ¬ (vs.toArray.size = 1) := by
      simp only [List.size_toArray]
      intro hv
      rw [hv] at hlen
      match r, hlen with
      | [x], _ => exact hne x rfl
    rw [dif_neg this]
    exact ⟨vs, h1, rfl⟩

/-! ### Leaving a function -/
theorem leaves_ok {fn : Func} {R : Ending → World → Prop} {a : Act} : ∀ (df : List Nat) (ds : List Deferred) (mem : Mem) (W : World), Dfr σ df ds → RelM ρ σ mem W → dfOk mem df = true →
    (∀ W', Step ρ σ W (shutAll df) σ W' → RelM ρ σ (shutAll df ++ mem) W' → ∃ v, (results fn a.tmps).run P W' = .ok v W' ∧ R (.returned v) W') →
    LeavesInM (FR none) 0 P fn a.tmps R ds .returning W
  | [], ds, mem, W, hd, hr, _, h => by
    have hd : ds = [] := hd
    subst hd
    exact h W (Step.refl _ _ _) hr
  | d :: df, ds, mem, W, hd, hr, hok, h => by
    obtain ⟨r, ds', h1, rfl, h3⟩ := hd
    simp only [dfOk, Bool.and_eq_true, Bool.not_eq_true'] at hok
    obtain ⟨⟨o1, o2⟩, o3⟩ := hok
    have hm : mem.get d = some (.dfd false) := by
      split at o1
      · assumption
      · simp at o1
    obtain ⟨r', h4, h5⟩ := hr.blk _ _ hm
    rw [h1] at h4
    simp only [Option.some.injEq] at h4
    subst h4
    have h5 : W.heap[r]? = some (.deferred (some [])) := h5
    have hrun := run_takeDeferred (P := P) h5
    have hlt := hr.lt _ _ h1
    have hs : Step ρ σ W [(d, .dfd true)] σ (W.putObj r (.deferred none)) := step_put h1 hlt rfl (fun L e => by rw [h5] at e; cases e)
    have hr' := hr.step hs
    refine ⟨by simp, .inl ⟨r, _, rfl, hrun, leaves_ok df ds' _ _ h3 hr' ?_ (fun W' s hr2 => ?_)⟩⟩
    · -- still open
      have key : ∀ l : List Nat, l.contains d = false → dfOk mem l = true → dfOk ([(d, .dfd true)] ++ mem) l = true := by
        intro l
        induction l with
        | nil => intro _ _; rfl
        | cons x l ih =>
          intro hc hk
          simp only [List.contains_cons, Bool.or_eq_false_iff] at hc
          simp only [dfOk, Bool.and_eq_true, Bool.not_eq_true'] at hk ⊢
          refine ⟨⟨?_, hk.1.2⟩, ih hc.2 hk.2⟩
          have hx : (d == x) = false := hc.1
          have : Mem.get ([(d, .dfd true)] ++ mem) x = mem.get x := by
            show Mem.get ((d, .dfd true) :: mem) x = _
            simp only [Mem.get, hx]; rfl
          rw [this]
          exact hk.1.1
      exact key df o2 o3
    · refine h W' ?_ ?_
      · exact Step.trans (fun i k hi => hr.lt i k hi) hr.inj hs s
      · simp only [shutAll]
        rw [List.append_assoc]
        exact hr2

theorem Step.mem_eq {W W' : World} {ws ws' : Mem} {σ' : As} (h : Step ρ σ W ws σ' W') (e : ws = ws') : Step ρ σ W ws' σ' W' := by rw [← e]; exact h

theorem call_ok (hct : CtOk P ρ ct) (n : Nat) (hcode : CodeOk P ρ ct lt n) : CallOk P ρ ct lt (n + 1) := by
  intro f args mem nx q h σ W vals hr ht hargs
  simp only [call] at h
  split at h
  · rename_i c hc
    obtain ⟨v, h1, h2⟩ := T.res_bind h
    unfold ctTidy at h2
    split at h2
    · rename_i hle
      obtain rfl := res_ret h2
      exact hct f c hc args mem nx q h1 hle σ W vals hr ht hargs
    · exact h2.elim
  · split at h
    · exact h.elim
    · rename_i fn hf
      split at h
      · exact h.elim
      · split at h
        · exact h.elim
        · rename_i c hb
          obtain ⟨p, h1, h2⟩ := T.res_bind h
          split at h2
          · rename_i hend
            simp only [Bool.and_eq_true] at hend
            obtain ⟨hend, hok⟩ := hend
            split at h2
            · rename_i l hl
              simp only [T.res] at h2
              subst h2
              have hlen := hargs.length
              refine callsIn_of_wp_marks (F := FR none) hf hb trivial ?_
              have hbeg : Beg ρ { tm := args ++ List.replicate (fn.ntmps - args.length) V.any, mem, nx, df := [] } σ { tmps := vals.toArray ++ Array.replicate (fn.ntmps - vals.toArray.size) undef, defers := [] } W := by
                refine ⟨hr, ?_, rfl⟩
                simp only [Array.toList_append, Array.toList_replicate, List.size_toArray]
                rw [hlen]
                exact hargs.append (DL.replicate _ trivial)
              have hc := hcode _ none c _ p h1 σ _ W hbeg ht (fun id e => by simp at e)
              refine hc _ (fun a' W' σ' hfin => ?_)
              have key : LeavesInM (FR none) 0 P fn a'.tmps (RetTo ρ σ W nx (resultV l, keepOld nx p.2.nx (resultV l) (shutAll p.2.df ++ p.2.mem.take (p.2.mem.length - mem.length)), p.2.nx)) a'.defers .returning W' := by
                have hb2 := hfin.beg hr
                refine leaves_ok (ρ := ρ) (σ := σ') p.2.df a'.defers p.2.mem W' hfin.df hb2.rel hok (fun W2 s hr2 => ?_)
                obtain ⟨u, h3, h4⟩ := results_run (a := a') (st := { p.2 with mem := shutAll p.2.df ++ p.2.mem }) hr2 hfin.tm hl
                refine ⟨u, h3, u, σ', rfl, h4, ?_, hfin.new⟩
                obtain ⟨ws, e, s0⟩ := hfin.step
                refine keepOld_step ht ?_
                have e' : p.2.mem.take (p.2.mem.length - mem.length) = ws := by
                  have e : p.2.mem = ws ++ mem := e
                  rw [e, take_pre]
                rw [e']
                exact Step.trans (fun i k hi => hr.lt i k hi) hr.inj s0 s
              cases hp : p.1 with
              | normal => exact key
              | ret => exact key
              | exit id => rw [hp] at hend; simp [Ex.isEnd] at hend
              | goto l => rw [hp] at hend; simp [Ex.isEnd] at hend
            · exact h2.elim
          · exact h2.elim

theorem rangeEnd_ok (n : Nat) (hcode : CodeOk P ρ ct lt n) : RangeEndOk P ρ ct lt (n + 1) := by
  intro r lid st p h σ a W l hbeg ht hrr hl Q hQ
  simp only [rangeEnd] at h
  split at h
  · rename_i s pe tm ps asg body d hm
    obtain ⟨l', h1, fn, tv, dd, h2, h3, h4⟩ := hbeg.rel.blk _ _ hm
    rw [hl] at h1
    simp only [Option.some.injEq] at h1
    subst h1
    have hlt := hbeg.rel.lt _ _ hl
    have main : s ≠ .busy → (match pe with
        | none => T.ret (Ex.normal, { st with mem := (lid, .loop .exhausted pe tm ps asg body d) :: st.mem })
        | some c => code P ct lt n none r c { st with mem := (lid, .loop .exhausted pe tm ps asg body d) :: st.mem }).res ρ p →
        ∃ jump W4, (Instr.endLoop l).run P W = .ok jump W4 ∧ (match jump with | none => Q .normal a W4 | some c => c.wpIn (FR (r.bind σ)) 0 P Q a W4) := by
      intro hs h
      have hend := run_endLoop (P := P) h4 hs
      have hst : Step ρ σ W [(lid, .loop .exhausted pe tm ps asg body d)] σ _ := step_put hl hlt ⟨fn, tv, dd, h2, h3, rfl⟩ (fun L e => by rw [h4] at e; simp only [Option.some.injEq, Obj.loop.injEq] at e; subst e; exact ⟨_, rfl, rfl, rfl, rfl, rfl⟩)
      refine ⟨_, _, hend, ?_⟩
      have hfin0 : Fin ρ σ W st.mem st.nx { st with mem := (lid, .loop .exhausted pe tm ps asg body d) :: st.mem } σ a _ := ⟨⟨_, rfl, hst⟩, New.refl _ _ _, Nat.le_refl _, hbeg.tm, hbeg.df⟩
      cases pe with
      | none =>
        simp only [T.res] at h
        subst h
        exact hQ _ _ _ hfin0
      | some c =>
        simp only at h ⊢
        have hb2 := hfin0.beg hbeg.rel
        exact hcode _ r c _ p h σ a _ hb2 ht hrr Q (fun a' W' σ' hf => hQ _ _ _ (Fin.trans hbeg.rel hfin0 hf))
    split at h
    · exact h.elim
    · rename_i hs
      exact main (fun e => hs e) h
  · exact h.elim
end
end Go.Proofs.Ytinfmmofcadjgaa
