/- The symbolic executor is right: operations, given calls and rounds. -/
import Derived.Test.YtinfmmofcadjgaaZi
namespace Go.Proofs.Ytinfmmofcadjgaa
open Go.RowKit

section
variable {P : Program} {ct : Ct} {lt : Lt} {ρ : Env} {σ : As}

theorem run_callFunc {f : FuncId} {fn : Func} (hf : P.funcs[f]? = some fn) (hn : (fn.name == "runtime.NumGoroutine") = false) {c : Code} (hb : fn.body = some c) (args : Array Value) (W : World) :
    (callFunc f args).run P W = .ok (.enter f args) W := by
  have hn' : ¬ fn.name = "runtime.NumGoroutine" := by simpa using hn
  simp [callFunc, hf, hn', hb]

/-- A function that the executor enters, or knows by a contract, is one that can be entered. -/
def Enterable (P : Program) (f : FuncId) : Prop := ∀ args W, (callFunc f args).run P W = .ok (.enter f args) W
def CtEnter (P : Program) (ct : Ct) : Prop := ∀ f c, ct.find f = some c → Enterable P f
theorem call_enter (hce : CtEnter P ct) : ∀ {n : Nat} {f : FuncId} {args : List V} {mem : Mem} {nx : Nat} {q : OpR}, (call P ct lt n f args mem nx).res ρ q → Enterable P f
  | 0, _, _, _, _, _, h => by simp [call, T.res] at h
  | n + 1, f, args, mem, nx, q, h => by
    simp only [call] at h
    split at h
    · rename_i c hc
      exact hce f c hc
    · split at h
      · exact h.elim
      · rename_i fn hf
        split at h
        · exact h.elim
        · rename_i hn
          split at h
          · exact h.elim
          · rename_i c hb
            intro args W
            exact run_callFunc hf (by simpa using hn) hb args W

theorem clo_den {f : FuncId} {cap : List (Nat × Nat)} {u : Value} (h : (V.s0 (.clo f cap)).den ρ σ u) : ∃ vs, DL (capDen σ) cap vs ∧ u = .func (.func f) #[] vs.toArray := h
theorem cap_den {cap : List (Nat × Nat)} : ∀ {vs : List Value}, DL (capDen σ) cap vs → DL (V.den ρ σ) (cap.map fun p => .s0 (.ptr p.1 p.2)) vs := by
  induction cap with
  | nil => intro vs h; rw [DL.nil_inv h]; trivial
  | cons p cap ih =>
    intro vs h
    obtain ⟨v, vs', rfl, h1, h2⟩ := DL.cons_inv h
    exact ⟨h1, ih h2⟩

theorem methodS_sound {t : TypeId} {name : String} {f : FuncId} (h : methodS P t name = some f) (n : Nat) (v : Value) (W : World) : (method (n + 1) t v name).run P W = .ok (f, v) W := by
  unfold methodS at h
  split at h
  · rename_i i d hi hu
    split at h
    · rename_i m hm
      split at h
      · rename_i hp
        simp only [Array.isEmpty_iff] at hp
        have hti : (typeInfo t).run P W = .ok i W := by simp [typeInfo, hi]
        split at h
        · rename_i f' pr hf
          split at h
          · rename_i hpr
            simp only [Option.some.injEq] at h
            subst h
            have e1 : (receiverAt t (.val v) pr (some ((name.splitOn ".").getLastD name))).run P W = .ok v W := by
              subst hpr
              cases d <;> simp [receiverAt, run_underlying hu, Place.get, isPtrT]
            simp [method, hti, hm, hp, follow, hf]
            simp at e1
            rw [e1]
            rfl
          · simp at h
        · simp at h
      · simp at h
    · simp at h
  · simp at h

theorem res_ret' {α : Type} {x y : α} (h : (T.ret x).res ρ y) : y = x := by simp only [T.res] at h; exact h
theorem oper_ok (hce : CtEnter P ct) (n : Nat) (hcall : CallOk P ρ ct lt n) (hround : RoundOk P ρ ct lt n) : OperOk P ρ ct lt (n + 1) := by
  intro o g mem nx q h σ a W hr ht hg ro K Q hK
  have hpure : ∀ obs v, pureOp P g o.op = some (obs, v) → (∀ o ∈ obs, o.ok ρ) → q = (v, [], nx) → (∀ c, o.op ≠ .defer c) → o.wpIn (FR ro) 0 P a W K Q := by
    intro obs v h1 h2 h3 hd
    subst h3
    obtain ⟨u, h4, h5⟩ := pureOp_sound (σ := σ) (ev := a.eval) h1 h2 hg W
    exact uponIn_put hd h4 (hK u W σ h5 (Step.refl _ _ _) (New.refl _ _ _))
  simp only [oper] at h
  split at h
  · -- alloc
    rename_i t ho
    split at h
    · rename_i z hz
      simp only [T.res] at h
      subst h
      unfold zeroCells at hz
      split at hz
      · rename_i i hi
        simp only [Option.map_eq_some_iff] at hz
        obtain ⟨zv, hzv, rfl⟩ := hz
        have hrun : (execOp a.eval o).run P W = .ok (.value (.pointer (some ⟨W.heap.size, 0, none⟩))) (W.alloc (.cells zv.cells t)) := by
          obtain ⟨dst, op, ty, pos, after, guard⟩ := o
          simp only at ho
          subst ho
          refine (run_vv ?_)
          simp [Instr.alloc, zeroValue, typeInfo, hi, hzv, newVar, newRow, run_newObj_alloc]
        obtain ⟨s1, s2⟩ := step_new (ρ := ρ) (nx := nx) (ht nx (Nat.le_refl _) (Nat.lt_succ_self _)) (fun i a hi => hr.lt i a hi) (b := .cells t (cV2 zv).cells) (o := .cells zv.cells t) ⟨zv.cells.toList, cells_cV2 zv, by simp⟩
        exact uponIn_put (by rw [ho]; simp) hrun (hK _ _ _ ⟨W.heap.size, by simp, rfl⟩ s1 s2)
      · simp at hz
    · exact h.elim
  · -- box
    rename_i t x ho
    split at h
    · rename_i v hv
      split at h
      · rename_i hs
        simp only [T.res] at h
        subst h
        have hx := hg x (by rw [ho]; simp [Op.operands])
        rw [hv] at hx
        have hrun : (execOp a.eval o).run P W = .ok (.value (.pointer (some ⟨W.heap.size, 0, none⟩))) (W.alloc (.cells (a.eval x).cells t)) := by
          obtain ⟨dst, op, ty, pos, after, guard⟩ := o
          simp only at ho
          subst ho
          refine (run_vv ?_)
          simp [Instr.box, newVar, newRow, run_newObj_alloc]
        have hext : Ext σ (fun i => if i = nx then some W.heap.size else σ i) := by
          intro i b hi
          have : i ≠ nx := fun e => by rw [e, ht nx (Nat.le_refl _) (Nat.lt_succ_self _)] at hi; cases hi
          simp [this, hi]
        obtain ⟨s1, s2⟩ := step_new (ρ := ρ) (nx := nx) (ht nx (Nat.le_refl _) (Nat.lt_succ_self _)) (fun i a hi => hr.lt i a hi) (b := .cells t v.cells) (o := .cells (a.eval x).cells t) ⟨(a.eval x).cells.toList, (cells_den hs hx).mono (S.den_ext hext), by simp⟩
        exact uponIn_put (by rw [ho]; simp) hrun (hK _ _ _ ⟨W.heap.size, by simp, rfl⟩ s1 s2)
      · exact h.elim
    · exact h.elim
  · -- load
    rename_i t x ho
    obtain ⟨obs, v, h1, h2, rfl⟩ := mkPR_spec h
    obtain ⟨u, h3, h4⟩ := loadS_sound h1 (hg x (by rw [ho]; simp [Op.operands])) hr
    have hrun : (execOp a.eval o).run P W = .ok (.value u) W := by
      obtain ⟨dst, op, ty, pos, after, guard⟩ := o
      simp only at ho
      subst ho
      exact run_v h3
    exact uponIn_put (by rw [ho]; simp) hrun (hK u W σ h4 (Step.refl _ _ _) (New.refl _ _ _))
  · -- store
    rename_i t x y ho
    obtain ⟨W', h1, h2, h3, h4⟩ := storeS_sound h (hg x (by rw [ho]; simp [Op.operands])) (hg y (by rw [ho]; simp [Op.operands])) hr
    have hrun : (execOp a.eval o).run P W = .ok .skip W' := by
      obtain ⟨dst, op, ty, pos, after, guard⟩ := o
      simp only at ho
      subst ho
      simp [execOp, h1]
    exact uponIn_skip' (by rw [ho]; simp) hrun (hK undef W' σ (by rw [h2]; trivial) h3 (New.refl _ _ _))
  · -- pick
    rename_i c x y ho
    split at h
    · rename_i b hb
      have hc := hg c (by rw [ho]; simp [Op.operands])
      rw [hb] at hc
      have hc' : a.eval c = .bool (b.ev ρ) := hc
      have hrun : (execOp a.eval o).run P W = .ok (.value (if b.ev ρ then a.eval x else a.eval y)) W := by
        obtain ⟨dst, op, ty, pos, after, guard⟩ := o
        simp only at ho
        subst ho
        simp [execOp, hc', asBool]
      rcases T.res_iteS h with ⟨hb, e⟩ | ⟨hb, e⟩
      · simp only [T.res] at e
        subst e
        exact uponIn_put (by rw [ho]; simp) hrun (hK _ W σ (by rw [hb]; exact hg x (by rw [ho]; simp [Op.operands])) (Step.refl _ _ _) (New.refl _ _ _))
      · simp only [T.res] at e
        subst e
        exact uponIn_put (by rw [ho]; simp) hrun (hK _ W σ (by rw [hb]; exact hg y (by rw [ho]; simp [Op.operands])) (Step.refl _ _ _) (New.refl _ _ _))
    · exact h.elim
  · -- buildSlice
    rename_i t len parts ho
    unfold rowS at h
    split at h
    · rename_i e hu
      split at h
      · rename_i ie hie
        split at h
        · rename_i z ps hz hps
          split at h
          · exact h.elim
          · rename_i hsm
            simp only [Bool.or_eq_true, decide_eq_true_eq, not_or, Bool.not_eq_true] at hsm
            obtain ⟨hsmall, hne⟩ := hsm
            split at h
            · rename_i cs hf
              obtain rfl := res_ret' h
              have hp : PD ρ σ ps (parts.toList.map fun p => (p.1, a.eval p.2)) := toV2s_den hps (by simp) (fun k p q h1 h2 => by
                simp only [List.getElem?_map, Option.map_eq_some_iff] at h1 h2
                obtain ⟨x, hx, rfl⟩ := h1
                obtain ⟨y, hy, rfl⟩ := h2
                rw [hx] at hy
                simp only [Option.some.injEq] at hy
                subst hy
                refine ⟨rfl, hg _ ?_⟩
                have := List.mem_of_getElem? hx
                rw [ho]
                simp only [Op.operands, List.mem_toArray]
                exact List.mem_map.2 ⟨x, this, rfl⟩)
              have hz0 : DL (S.den ρ σ) (rowZero (cV2 z).cells (len * ie.size)) ((List.range (len * ie.size)).map fun i => z.cells[i % z.cells.size]!) := by
                have hc := cells_cV2 (ρ := ρ) (σ := σ) z
                have hlen := hc.length
                have hpos : 0 < (cV2 z).cells.length := by
                  cases hcc : (cV2 z).cells with
                  | nil => rw [hcc] at hne; simp at hne
                  | cons x l => simp
                unfold rowZero
                have key : ∀ l : List Nat, DL (S.den ρ σ) (l.map fun i => (cV2 z).cells.getD (i % (cV2 z).cells.length) (.z .any)) (l.map fun i => z.cells[i % z.cells.size]!) := by
                  intro l
                  induction l with
                  | nil => trivial
                  | cons i l ih =>
                    refine ⟨?_, ih⟩
                    have hi := Nat.mod_lt i hpos
                    obtain ⟨v, h1, h2⟩ := hc.get (List.getElem?_eq_getElem hi)
                    have hsz : z.cells.size = (cV2 z).cells.length := by rw [hlen]; simp
                    simp only
                    rw [List.getD_eq_getElem?_getD, List.getElem?_eq_getElem hi, hsz, getElem!_def, ← Array.getElem?_toList, h1]
                    exact h2
                exact key _
              obtain ⟨ws, h1, h2⟩ := fillS_sound _ ps _ _ _ cs hf hp hz0
              have hrun : (execOp a.eval o).run P W = .ok (.value (.slice (some ⟨W.heap.size, 0, none⟩) len len)) (W.alloc (.cells ws.toArray e)) := by
                obtain ⟨dst, op, ty, pos, after, guard⟩ := o
                simp only at ho
                subst ho
                refine run_vv ?_
                have h1' : Instr.fill (fun i => some (i * ie.size, ie.size)) ((Array.range (len * ie.size)).map fun i => z.cells[i % z.cells.size]!) (parts.map fun (p : Nat × Operand) => (p.1, a.eval p.2)).toList = some ws.toArray := by
                  rw [← h1]
                  congr 1
                  · rw [← Array.toArray_toList (xs := Array.map _ _)]; simp
                  · simp
                by_cases h0 : len * ie.size = 0
                · have hz' : (if len * ie.size = 0 then (#[] : Array Value) else z.cells) = #[] := by simp [h0]
                  have e0 : ((Array.range (len * ie.size)).map fun i => z.cells[i % z.cells.size]!) = ((Array.range (len * ie.size)).map fun i => (#[] : Array Value)[i % (#[] : Array Value).size]!) := by rw [h0]; simp
                  rw [e0] at h1'
                  unfold Instr.buildSlice
                  simp only [Sem.run_bind, run_underlying hu, Result.andThen_ok, sizeOf, typeInfo, run_program, hie, Sem.run_pure, if_neg hsmall, if_pos h0, h1', newRow, run_newObj_alloc]
                · simp [Instr.buildSlice, run_underlying hu, sizeOf, typeInfo, zeroValue, hie, hz, hsmall, h0, newRow] at h1' ⊢
                  simp [h1', run_newObj_alloc]
              have hext : Ext σ (fun i => if i = nx then some W.heap.size else σ i) := by
                intro i b hi
                have : i ≠ nx := fun e => by rw [e, ht nx (Nat.le_refl _) (Nat.lt_succ_self _)] at hi; cases hi
                simp [this, hi]
              obtain ⟨s1, s2⟩ := step_new (ρ := ρ) (nx := nx) (ht nx (Nat.le_refl _) (Nat.lt_succ_self _)) (fun i a hi => hr.lt i a hi) (b := .cells e cs) (o := .cells ws.toArray e) ⟨ws, h2.mono (S.den_ext hext), rfl⟩
              exact uponIn_put (by rw [ho]; simp) hrun (hK _ _ _ ⟨W.heap.size, by simp, rfl⟩ s1 s2)
            · exact h.elim
        · exact h.elim
      · exact h.elim
    · exact h.elim
  · -- a call of a function value
    rename_i fv args ats ho
    have hfv := hg fv (by rw [ho]; simp [Op.operands, Call.operands])
    have hargs : DL (V.den ρ σ) (args.toList.map g) (args.toList.map a.eval) := DL_map_ev _ (fun x hx => hg x (by rw [ho]; simp only [Op.operands, Call.operands]; simp; exact .inr (by simpa using hx)))
    split at h
    · rename_i f cap hf
      rw [hf] at hfv
      obtain ⟨vs, hvs, hfe⟩ := clo_den hfv
      have hcc := hcall f _ mem nx q h σ W _ hr ht (hargs.append (cap_den hvs))
      have hrun : (execOp a.eval o).run P W = .ok (.enter f (args.toList.map a.eval ++ vs).toArray) W := by
        obtain ⟨dst, op, ty, pos, after, guard⟩ := o
        simp only at ho
        subst ho
        have := call_enter hce h ((args.toList.map a.eval ++ vs).toArray) W
        simp only [execOp, resolve, hfe, Deferred.ofValue, Sem.run_bind, Sem.run_pure, Result.andThen_ok, invoke]
        rw [← this]
        congr 2
        simp [map_arr]
      exact uponIn_call (by rw [ho]; simp) hrun hcc hK
    · rename_i lid hf
      rw [hf] at hfv
      obtain ⟨l, hl, hfe⟩ := hfv
      obtain ⟨rec, h1, h2, h3⟩ := hround lid _ mem nx q h σ W _ l hr ht hargs hl ro
      have hrun : (execOp a.eval o).run P W = .ok (.round l rec.fn ((rec.params.zip (args.toList.map a.eval).toArray).foldl (fun tmps (p : Tmp × Value) => tmps.setIfInBounds p.1 p.2) rec.tmps) rec.assign rec.body) W := by
        obtain ⟨dst, op, ty, pos, after, guard⟩ := o
        simp only at ho
        subst ho
        have := run_yield (P := P) (args := (args.toList.map a.eval).toArray) h1 (by simpa using h2)
        simp only [execOp, resolve, hfe, Deferred.ofValue, Sem.run_bind, Sem.run_pure, Result.andThen_ok, invoke]
        rw [← this]
        congr 2
        simp [map_arr]
      exact uponIn_round (by rw [ho]; simp) hrun h3 hK
    · rename_i nm t agg cs hf
      rw [hf] at hfv
      obtain ⟨iv, hiv, hfe⟩ := meth_den.1 hfv
      split at h
      · rename_i f v hm hu
        obtain ⟨u, hxe, hu2⟩ := unface_den hu hiv
        have hcc := hcall f _ mem nx q h σ W (u :: args.toList.map a.eval) hr ht ⟨hu2, hargs⟩
        have hrun : (execOp a.eval o).run P W = .ok (.enter f (u :: args.toList.map a.eval).toArray) W := by
          obtain ⟨dst, op, ty, pos, after, guard⟩ := o
          simp only at ho
          subst ho
          have := call_enter hce h (u :: args.toList.map a.eval).toArray W
          have hmm := methodS_sound hm (P.types.size + Made.depth - 1) u W
          rw [show P.types.size + Made.depth - 1 + 1 = P.types.size + Made.depth by simp [Made.depth]] at hmm
          have e2 : List.take args.size (List.map a.eval args.toList) = List.map a.eval args.toList := List.take_of_length_le (by simp)
          rw [← this]
          simp [execOp, resolve, hfe, hxe, Deferred.ofValue, invoke, callMethod, run_program, hmm, e2, map_arr]
        exact uponIn_call (by rw [ho]; simp) hrun hcc hK
      · exact h.elim
    · exact h.elim
  · -- a method of an interface value
    rename_i x name args ats ho
    have hx := hg x (by rw [ho]; simp [Op.operands, Call.operands])
    have hargs : DL (V.den ρ σ) (args.toList.map g) (args.toList.map a.eval) := DL_map_ev _ (fun y hy => hg y (by rw [ho]; simp only [Op.operands, Call.operands]; simp; exact .inr (by simpa using hy)))
    split at h
    · rename_i t agg cs hf
      rw [hf] at hx
      split at h
      · rename_i f v hm hu
        obtain ⟨u, hxe, hu2⟩ := unface_den hu hx
        have hcc := hcall f _ mem nx q h σ W (u :: args.toList.map a.eval) hr ht ⟨hu2, hargs⟩
        have hrun : (execOp a.eval o).run P W = .ok (.enter f (u :: args.toList.map a.eval).toArray) W := by
          obtain ⟨dst, op, ty, pos, after, guard⟩ := o
          simp only at ho
          subst ho
          have := call_enter hce h (u :: args.toList.map a.eval).toArray W
          have hmm := methodS_sound hm (P.types.size + Made.depth - 1) u W
          rw [show P.types.size + Made.depth - 1 + 1 = P.types.size + Made.depth by simp [Made.depth]] at hmm
          have e2 : List.take args.size (List.map a.eval args.toList) = List.map a.eval args.toList := List.take_of_length_le (by simp)
          rw [← this]
          simp [execOp, resolve, hxe, invoke, callMethod, run_program, hmm, e2, map_arr]
        exact uponIn_call (by rw [ho]; simp) hrun hcc hK
      · exact h.elim
    · exact h.elim
  · -- the rest
    split at h
    case h_2 => exact h.elim
    rename_i r hr1
    obtain ⟨obs, v, h1, h2, h3⟩ := mkPR_spec h
    rw [← hr1] at h1
    refine hpure obs v h1 h2 h3 ?_
    intro c e
    rw [e] at h1
    simp [pureOp] at h1
end
end Go.Proofs.Ytinfmmofcadjgaa
