/- The symbolic executor is right: what is to be shown of each of its functions; single operations. -/
import Derived.Test.YtinfmmofcadjgaaZh
import Derived.LoopNIn
import Derived.RangeFuncRecord
namespace Go.Proofs.Ytinfmmofcadjgaa
open Go.RowKit

def FR (r : Option Nat) : Fence := { fn := fun _ => True, depth := none, alive := false, round := r }

/-- The marks of ranges over functions among the deferred calls. -/
def Dfr (σ : As) : List Nat → List Deferred → Prop
  | [], ds => ds = []
  | d :: l, ds => ∃ r ds', σ d = some r ∧ ds = { target := .collected r, args := #[] } :: ds' ∧ Dfr σ l ds'
theorem Dfr.ext {σ σ' : As} (h : Ext σ σ') : ∀ {l : List Nat} {ds : List Deferred}, Dfr σ l ds → Dfr σ' l ds
  | [], _, e => e
  | _ :: _, _, ⟨r, ds', h1, h2, h3⟩ => ⟨r, ds', h _ _ h1, h2, Dfr.ext h h3⟩

structure Beg (ρ : Env) (st : St) (σ : As) (a : Act) (W : World) : Prop where
  rel : RelM ρ σ st.mem W
  tm : DL (V.den ρ σ) st.tm a.tmps.toList
  df : Dfr σ st.df a.defers
structure Fin (ρ : Env) (σ : As) (W : World) (mem : Mem) (nx : Nat) (st' : St) (σ' : As) (a' : Act) (W' : World) : Prop where
  step : ∃ ws, st'.mem = ws ++ mem ∧ Step ρ σ W ws σ' W'
  new : New nx st'.nx σ σ'
  le : nx ≤ st'.nx
  tm : DL (V.den ρ σ') st'.tm a'.tmps.toList
  df : Dfr σ' st'.df a'.defers

section
variable {P : Program} {ρ : Env} {σ σ' σ'' : As}
theorem New.refl (nx n : Nat) (σ : As) : New nx n σ σ := fun _ _ h => .inl h
theorem New.trans {a b c : Nat} (h : New a b σ σ') (hab : a ≤ b) (hbc : b ≤ c) (k : New b c σ' σ'') : New a c σ σ'' := by
  intro i x hi
  rcases k i x hi with h1 | ⟨h1, h2⟩
  · rcases h i x h1 with h3 | ⟨h3, h4⟩
    · exact .inl h3
    · exact .inr ⟨h3, by omega⟩
  · exact .inr ⟨by omega, h2⟩
theorem Fr.after {a b c : Nat} (h : Fr a c σ) (hab : a ≤ b) (k : New a b σ σ') : Fr b c σ' := by
  intro i h1 h2
  cases hi : σ' i with
  | none => rfl
  | some x =>
    rcases k i x hi with h3 | ⟨_, h4⟩
    · rw [h i (by omega) h2] at h3; cases h3
    · omega
theorem Fr.less {a b c : Nat} (h : Fr a c σ) (hbc : b ≤ c) : Fr a b σ := fun i h1 h2 => h i h1 (by omega)
theorem Fin.beg {W W' : World} {mem : Mem} {nx : Nat} {st' : St} {a' : Act} (hr : RelM ρ σ mem W) (h : Fin ρ σ W mem nx st' σ' a' W') : Beg ρ st' σ' a' W' := by
  obtain ⟨ws, e, s⟩ := h.step
  exact ⟨by rw [e]; exact hr.step s, h.tm, h.df⟩
theorem Fin.trans {W W1 W2 : World} {mem : Mem} {nx : Nat} {s1 s2 : St} {a1 a2 : Act} (hr : RelM ρ σ mem W) (h : Fin ρ σ W mem nx s1 σ' a1 W1) (k : Fin ρ σ' W1 s1.mem s1.nx s2 σ'' a2 W2) : Fin ρ σ W mem nx s2 σ'' a2 W2 := by
  obtain ⟨ws, e, s⟩ := h.step
  obtain ⟨ws', e', s'⟩ := k.step
  exact ⟨⟨ws' ++ ws, by rw [e', e, List.append_assoc], Step.trans (fun i k hi => hr.lt i k hi) hr.inj s s'⟩, h.new.trans h.le k.le k.new, Nat.le_trans h.le k.le, k.tm, k.df⟩
theorem Fin.refl {W : World} {st : St} {a : Act} (h : Beg ρ st σ a W) : Fin ρ σ W st.mem st.nx st σ a W :=
  ⟨⟨[], rfl, Step.refl _ _ _⟩, New.refl _ _ _, Nat.le_refl _, h.tm, h.df⟩
theorem Fin.ext {W W' : World} {mem : Mem} {nx : Nat} {st' : St} {a' : Act} (h : Fin ρ σ W mem nx st' σ' a' W') : Ext σ σ' := by
  obtain ⟨ws, _, s⟩ := h.step
  exact s.ext
theorem FR_ext {r : Option Nat} (hr : ∀ id, r = some id → ∃ l, σ id = some l) (h : Ext σ σ') : FR (r.bind σ') = FR (r.bind σ) := by
  cases r with
  | none => rfl
  | some id =>
    obtain ⟨l, hl⟩ := hr id rfl
    simp only [Option.bind_some, hl, h _ _ hl]
theorem hr_ext {r : Option Nat} (hr : ∀ id, r = some id → ∃ l, σ id = some l) (h : Ext σ σ') : ∀ id, r = some id → ∃ l, σ' id = some l :=
  fun id e => let ⟨l, hl⟩ := hr id e; ⟨l, h _ _ hl⟩

theorem eval_den {tm : List V} {a : Act} (h : DL (V.den ρ σ) tm a.tmps.toList) (x : Operand) : (opV tm x).den ρ σ (a.eval x) := by
  cases x with
  | tmp t =>
    simp only [opV, Act.eval]
    rcases Nat.lt_or_ge t tm.length with q | q
    · obtain ⟨v, h1, h2⟩ := h.get (List.getElem?_eq_getElem q)
      rw [List.getD_eq_getElem?_getD, List.getElem?_eq_getElem q]
      have : a.tmps.getD t undef = v := by
        rw [Array.getD_eq_getD_getElem?, ← Array.getElem?_toList, h1]; rfl
      rw [this]
      exact h2
    · rw [List.getD_eq_getElem?_getD, List.getElem?_eq_none q]
      trivial
  | const v => exact cV2_den v
  | global g => trivial
  | func f => exact ⟨[], trivial, rfl⟩
theorem setTm_den {tm : List V} {a : Act} {v : V} {u : Value} (h : DL (V.den ρ σ) tm a.tmps.toList) (hv : v.den ρ σ u) (d : Option Tmp) : DL (V.den ρ σ) (setTm tm d v) (a.put d u).tmps.toList := by
  cases d with
  | none => exact h
  | some d =>
    simp only [setTm, Act.put, Array.toList_setIfInBounds]
    exact h.set d hv
theorem put_defers (a : Act) (d : Option Tmp) (u : Value) : (a.put d u).defers = a.defers := by cases d <;> rfl

theorem wants_spec {ops : Array Oper} {tm : List V} {o : Oper} {c : Bool} {a : Act} (h : wants ops tm o = some c) (ht : DL (V.den ρ σ) tm a.tmps.toList) : Region.wanted o (yielded ops a.tmps) = c := by
  unfold wants at h
  unfold Region.wanted
  split at h
  · rename_i hg
    simp only [Option.some.injEq] at h
    rw [hg, ← h]
  · rename_i j want hg
    rw [hg]
    split at h
    · rename_i d hd
      split at h
      · rename_i b hb
        simp only [Option.some.injEq] at h
        obtain ⟨v, h1, h2⟩ := ht.get hb
        obtain rfl : v = .bool b := h2
        have : yielded ops a.tmps j = some b := by
          unfold yielded
          rw [hd]
          simp only [Option.bind_some]
          rw [← Array.getElem?_toList, h1]
        show (yielded ops a.tmps j == some want) = c
        rw [this, ← h]
        cases b <;> cases want <;> rfl
      · simp at h
    · simp at h

theorem parted_spec {g : Bool} {t : T OpR} {q : OpR} (h : (t.bind (parted g)).res ρ q) : ∃ q0, t.res ρ q0 ∧ q.2 = q0.2 ∧ ∀ (σ : As) (u : Value), q0.1.den ρ σ u → q.1.den ρ σ u := by
  obtain ⟨q0, h1, h2⟩ := T.res_bind h
  refine ⟨q0, h1, ?_⟩
  unfold parted at h2
  split at h2
  · rename_i b ws nx
    rcases T.res_iteS h2 with ⟨hb, e⟩ | ⟨hb, e⟩
    · simp only [T.res] at e
      subst e
      refine ⟨rfl, fun σ u hu => ?_⟩
      obtain rfl : u = .bool (b.ev ρ) := hu
      exact bV_den hb.symm
    · simp only [T.res] at e
      subst e
      refine ⟨rfl, fun σ u hu => ?_⟩
      obtain rfl : u = .bool (b.ev ρ) := hu
      exact bV_den hb.symm
  · simp only [T.res] at h2
    subst h2
    exact ⟨rfl, fun _ _ h => h⟩

theorem mkPR_spec {nx : Nat} {r : PR} {q : OpR} (h : (mkPR nx r).res ρ q) : ∃ obs v, r = some (obs, v) ∧ (∀ o ∈ obs, o.ok ρ) ∧ q = (v, [], nx) := by
  cases r with
  | none => exact h.elim
  | some p =>
    obtain ⟨obs, v⟩ := p
    obtain ⟨h1, h2⟩ := T.res_obs h
    exact ⟨obs, v, rfl, h1, h2⟩

section
variable (P : Program) (ρ : Env) (ct : Ct) (lt : Lt)
def CodeOk (n : Nat) : Prop := ∀ h r c st p, (code P ct lt n h r c st).res ρ p → ∀ σ a W, Beg ρ st σ a W → Fr st.nx p.2.nx σ → (∀ id, r = some id → ∃ l, σ id = some l) →
  ∀ Q : Exit → Act → World → Prop, (∀ a' W' σ', Fin ρ σ W st.mem st.nx p.2 σ' a' W' → Q p.1.toExit a' W') → c.wpIn (FR (r.bind σ)) 0 P Q a W
def LoopOk (n : Nat) : Prop := ∀ h r b st p, (code P ct lt n h r (.loop b) st).res ρ p → ∃ k, ∀ σ a W, Beg ρ st σ a W → Fr st.nx p.2.nx σ → (∀ id, r = some id → ∃ l, σ id = some l) →
  ∀ Q : Exit → Act → World → Prop, (∀ a' W' σ', Fin ρ σ W st.mem st.nx p.2 σ' a' W' → Q p.1.toExit a' W') → Code.roundsIn (FR (r.bind σ)) 0 P b Q k a W
def RangeEndOk (n : Nat) : Prop := ∀ r lid st p, (rangeEnd P ct lt n r lid st).res ρ p → ∀ σ a W l, Beg ρ st σ a W → Fr st.nx p.2.nx σ → (∀ id, r = some id → ∃ l, σ id = some l) → σ lid = some l →
  ∀ Q : Exit → Act → World → Prop, (∀ a' W' σ', Fin ρ σ W st.mem st.nx p.2 σ' a' W' → Q p.1.toExit a' W') →
  ∃ jump W4, (Instr.endLoop l).run P W = .ok jump W4 ∧ (match jump with | none => Q .normal a W4 | some c => c.wpIn (FR (r.bind σ)) 0 P Q a W4)
def OpsOk (n : Nat) : Prop := ∀ r ops i st s', (opsRun P ct lt n r ops i st).res ρ s' → ∀ σ a W, Beg ρ st σ a W → Fr st.nx s'.nx σ →
  ∀ (ro : Option Nat) (Q : Exit → Act → World → Prop), (∀ a' W' σ', Fin ρ σ W st.mem st.nx s' σ' a' W' → Q .normal a' W') → wpOpsIn (FR ro) 0 P ops Q (List.range' i (ops.size - i)) a W
def DrawOk (n : Nat) : Prop := ∀ r ops st s', (opsDraw P ct lt n r ops 0 st []).res ρ s' → ∀ σ a W, Beg ρ st σ a W → Fr st.nx s'.nx σ →
  ∀ (ro : Option Nat) (Q : Exit → Act → World → Prop), (∀ a' W' σ', Fin ρ σ W st.mem st.nx s' σ' a' W' → Q .normal a' W') → wpAnyIn (FR ro) 0 P .any ops Q ops.size (Array.replicate ops.size false) a W
def OperOk (n : Nat) : Prop := ∀ o g mem nx q, (oper P ct lt n o g mem nx).res ρ q → ∀ σ a W, RelM ρ σ mem W → Fr nx q.2.2 σ → (∀ x ∈ o.op.operands, (g x).den ρ σ (a.eval x)) →
  ∀ (ro : Option Nat) (K : Act → World → Prop) (Q : Exit → Act → World → Prop), (∀ u W' σ', q.1.den ρ σ' u → Step ρ σ W q.2.1 σ' W' → New nx q.2.2 σ σ' → K (a.put o.dst u) W') → o.wpIn (FR ro) 0 P a W K Q
def RetTo (σ : As) (W : World) (nx : Nat) (q : OpR) (e : Ending) (W' : World) : Prop := ∃ u σ', e = .returned u ∧ q.1.den ρ σ' u ∧ Step ρ σ W q.2.1 σ' W' ∧ New nx q.2.2 σ σ'
def RoundOk (n : Nat) : Prop := ∀ lid args mem nx q, (round P ct lt n lid args mem nx).res ρ q → ∀ σ W vals l, RelM ρ σ mem W → Fr nx q.2.2 σ → DL (V.den ρ σ) args vals → σ lid = some l → ∀ ro : Option Nat,
  ∃ rec : Loop, W.heap[l]? = some (.loop rec) ∧ vals.length = rec.params.size ∧
    RoundIn (FR ro) 0 P l rec.fn ((rec.params.zip vals.toArray).foldl (fun tmps (p : Tmp × Value) => tmps.setIfInBounds p.1 p.2) rec.tmps) rec.assign rec.body W (RetTo ρ σ W nx q)
/-- A contract holds. -/
def CtOne (f : FuncId) (c : List V → Mem → Nat → T OpR) : Prop := ∀ args mem nx q, (c args mem nx).res ρ q → nx ≤ q.2.2 → ∀ σ W vals, RelM ρ σ mem W → Fr nx q.2.2 σ → DL (V.den ρ σ) args vals →
  CallsIn (FR none) 0 P f vals.toArray W (RetTo ρ σ W nx q)
/-- The contracts hold. -/
def CtOk : Prop := ∀ f c, ct.find f = some c → CtOne P ρ f c
def CallOk (n : Nat) : Prop := ∀ f args mem nx q, (call P ct lt n f args mem nx).res ρ q → ∀ σ W vals, RelM ρ σ mem W → Fr nx q.2.2 σ → DL (V.den ρ σ) args vals →
  CallsIn (FR none) 0 P f vals.toArray W (RetTo ρ σ W nx q)
end

/-! ### Single operations -/
theorem uponIn_put {o : Oper} {a : Act} {W W' : World} {K : Act → World → Prop} {Q : Exit → Act → World → Prop} {ro : Option Nat} {u : Value} (hd : ∀ c, o.op ≠ .defer c) (h : (execOp a.eval o).run P W = .ok (.value u) W') (hk : K (a.put o.dst u) W') :
    o.wpIn (FR ro) 0 P a W K Q := by
  refine ⟨fun _ _ => trivial, ?_⟩
  rw [Oper.semAt_eq _ _ _ hd]
  show o.uponIn _ _ _ _ _ _ ((execOp a.eval o).run P W)
  rw [h]
  exact hk
theorem uponIn_skip' {o : Oper} {a : Act} {W W' : World} {K : Act → World → Prop} {Q : Exit → Act → World → Prop} {ro : Option Nat} (hd : ∀ c, o.op ≠ .defer c) (h : (execOp a.eval o).run P W = .ok .skip W') (hk : K (a.put o.dst undef) W') :
    o.wpIn (FR ro) 0 P a W K Q := by
  refine ⟨fun _ _ => trivial, ?_⟩
  rw [Oper.semAt_eq _ _ _ hd]
  show o.uponIn _ _ _ _ _ _ ((execOp a.eval o).run P W)
  rw [h]
  exact hk
theorem uponIn_call {o : Oper} {a : Act} {W W' : World} {K : Act → World → Prop} {Q : Exit → Act → World → Prop} {ro : Option Nat} {f : FuncId} {args : Array Value} (hd : ∀ c, o.op ≠ .defer c) (h : (execOp a.eval o).run P W = .ok (.enter f args) W') {nx : Nat} {q : OpR}
    (hc : CallsIn (FR none) 0 P f args W' (RetTo ρ σ W nx q)) (hk : ∀ u W' σ', q.1.den ρ σ' u → Step ρ σ W q.2.1 σ' W' → New nx q.2.2 σ σ' → K (a.put o.dst u) W') :
    o.wpIn (FR ro) 0 P a W K Q := by
  refine ⟨fun _ _ => trivial, ?_⟩
  rw [Oper.semAt_eq _ _ _ hd]
  show o.uponIn _ _ _ _ _ _ ((execOp a.eval o).run P W)
  rw [h]
  refine ⟨fun h => by simp [FR] at h, ?_⟩
  have hc' : CallsIn (FR ro) (0 - 1) P f args W' (RetTo ρ σ W nx q) := hc
  refine hc'.mono ?_
  rintro e w ⟨u, σ', rfl, h1, h2, h3⟩
  exact hk u w σ' h1 h2 h3
theorem uponIn_round {o : Oper} {a : Act} {W W' : World} {K : Act → World → Prop} {Q : Exit → Act → World → Prop} {ro : Option Nat} {l : Nat} {f : FuncId} {tmps : Array Value} {asg body : Code} (hd : ∀ c, o.op ≠ .defer c)
    (h : (execOp a.eval o).run P W = .ok (.round l f tmps asg body) W') {nx : Nat} {q : OpR}
    (hc : RoundIn (FR ro) 0 P l f tmps asg body W' (RetTo ρ σ W nx q)) (hk : ∀ u W' σ', q.1.den ρ σ' u → Step ρ σ W q.2.1 σ' W' → New nx q.2.2 σ σ' → K (a.put o.dst u) W') :
    o.wpIn (FR ro) 0 P a W K Q := by
  refine ⟨fun _ _ => trivial, ?_⟩
  rw [Oper.semAt_eq _ _ _ hd]
  show o.uponIn _ _ _ _ _ _ ((execOp a.eval o).run P W)
  rw [h]
  refine ⟨fun h => by simp [FR] at h, ?_⟩
  refine RoundIn.mono (n := 0 - 1) hc ?_
  rintro e w ⟨u, σ', rfl, h1, h2, h3⟩
  exact hk u w σ' h1 h2 h3
end
end Go.Proofs.Ytinfmmofcadjgaa
