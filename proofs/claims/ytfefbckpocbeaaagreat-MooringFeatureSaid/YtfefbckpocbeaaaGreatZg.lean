/- The symbolic executor is right: all operations that neither look at memory nor turn it, together. -/
import Derived.Test.YtfefbckpocbeaaaGreatZf
namespace Go.Proofs.YtfefbckpocbeaaaGreat
open Go.RowKit

section
variable {P : Program} {ρ : Env} {σ : As}

/-- Where a bound may be left out. -/
def ODen (ρ : Env) (σ : As) : Option V → Option Value → Prop
  | none, none => True
  | some p, some a => p.den ρ σ a
  | _, _ => False
theorem boundN_sound {d l : Nat} {o : Option V} {a : Option Value} (h : boundN d o = some l) (ha : ODen ρ σ o a) : (a = none ∧ l = d) ∨ ∃ (k : IntKind), a = some (.int k (l : Int)) := by
  unfold boundN at h
  split at h
  · cases a with
    | none => simp at h; exact .inl ⟨rfl, h.symm⟩
    | some a => exact ha.elim
  · rename_i k n
    split at h
    · simp only [Option.some.injEq] at h
      subst h
      cases a with
      | none => exact ha.elim
      | some a =>
        obtain rfl : a = .int k n := ha
        exact .inr ⟨k, by congr 2; omega⟩
    · simp at h
  · simp at h
theorem boundE_sound {d l : E} {o : Option V} {a : Option Value} (h : boundE d o = some l) (ha : ODen ρ σ o a) : (a = none ∧ l = d) ∨ ∃ (k : IntKind), a = some (.int k (l.ev ρ)) := by
  unfold boundE at h
  split at h
  · cases a with
    | none => simp at h; exact .inl ⟨rfl, h.symm⟩
    | some a => exact ha.elim
  · rename_i k n
    simp only [Option.some.injEq] at h
    subst h
    cases a with
    | none => exact ha.elim
    | some a => obtain rfl : a = .int k (n.ev ρ) := ha; exact .inr ⟨k, rfl⟩
  · simp at h

theorem bounds_run {len cap l h : Nat} {lo hi : Option Value} (hl : (lo = none ∧ l = 0) ∨ ∃ k : IntKind, lo = some (.int k (l : Int))) (hh : (hi = none ∧ h = len) ∨ ∃ k : IntKind, hi = some (.int k (h : Int)))
    (h1 : l ≤ h) (h2 : h ≤ cap) (W : World) : (Instr.sliceBounds true len cap lo hi none).run P W = .ok (l, h, cap) W := by
  have e2 : ((h : Int)) ≤ (cap : Int) := by omega
  have e1 : ((l : Int)) ≤ (h : Int) := by omega
  rcases hl with ⟨rfl, rfl⟩ | ⟨k, rfl⟩ <;> rcases hh with ⟨rfl, rfl⟩ | ⟨k', rfl⟩ <;> simp [Instr.sliceBounds, Instr.sliceBound, asIntOf, h1, h2, e1, e2]

theorem sliceS_sound {t : TypeId} {p : V} {lo hi mx : Option V} {obs : List Ob} {v : V} (h : sliceS P t p lo hi mx = some (obs, v)) (ho : ∀ o ∈ obs, o.ok ρ) {a : Value} (ha : p.den ρ σ a) {l' h' m' : Option Value}
    (hl : ODen ρ σ lo l') (hh : ODen ρ σ hi h') (hm : ODen ρ σ mx m') (W : World) :
    ∃ u, (Instr.sliceAt t a l' h' m').run P W = .ok u W ∧ v.den ρ σ u := by
  unfold sliceS at h
  split at h
  · rename_i e id off len c hu
    cases m' with
    | some m => exact hm.elim
    | none =>
      split at h
      · rename_i l hh0 e1 e2
        split at h
        · rename_i hc
          simp only [Bool.and_eq_true, decide_eq_true_eq] at hc
          obtain ⟨⟨⟨c1, c2⟩, c3⟩, c4⟩ := hc
          obtain ⟨i, hi'⟩ := Option.isSome_iff_exists.1 c4
          simp only [okV, Option.some.injEq, Prod.mk.injEq] at h
          obtain ⟨rfl, rfl⟩ := h
          obtain ⟨x, h1, rfl⟩ := ha
          have hb := bounds_run (P := P) (boundN_sound e1 hl) (boundN_sound e2 hh) c1 c2 W
          refine ⟨.slice (some ⟨x, off + l * P.cellsOf e, none⟩) (hh0 - l) (c - l), ?_, x, h1, rfl⟩
          have hne : ¬ (c = l) := by omega
          simp [Instr.sliceAt, Instr.slice, run_underlying hu, hb, run_sizeOf hi', hne, add_none]
        · simp at h
      · simp at h
  · rename_i n e id off hu
    cases m' with
    | some m => exact hm.elim
    | none =>
      split at h
      · split at h
        · rename_i hc
          simp only [Bool.and_eq_true, decide_eq_true_eq] at hc
          obtain ⟨c1, c4⟩ := hc
          obtain ⟨i, hi'⟩ := Option.isSome_iff_exists.1 c4
          simp only [okV, Option.some.injEq, Prod.mk.injEq] at h
          obtain ⟨rfl, rfl⟩ := h
          obtain ⟨x, h1, rfl⟩ := ha
          cases l' with
          | some _ => exact hl.elim
          | none =>
            cases h' with
            | some _ => exact hh.elim
            | none =>
              refine ⟨.slice (some ⟨x, off, none⟩) n n, ?_, x, h1, rfl⟩
              have hne : ¬ (n = 0) := by omega
              simp [Instr.sliceAt, run_underlying hu, Instr.sureAddr, Instr.sliceBounds, run_sizeOf hi', hne, Addr.add]
        · simp at h
      · simp at h
  · rename_i e x hu
    cases m' with
    | some m => exact hm.elim
    | none =>
      split at h
      · rename_i l hh0 e1 e2
        split at h
        · rename_i c4
          obtain ⟨i, hi'⟩ := Option.isSome_iff_exists.1 c4
          simp only [Option.some.injEq, Prod.mk.injEq] at h
          obtain ⟨rfl, rfl⟩ := h
          obtain ⟨b, n, c, hx, hnc⟩ := ho _ (List.mem_cons_self ..)
          have o1 := ho _ (List.mem_cons_of_mem _ (List.mem_cons_self ..))
          have o2 := ho _ (List.mem_cons_of_mem _ (List.mem_cons_of_mem _ (List.mem_cons_self ..)))
          have o3 := ho _ (List.mem_cons_of_mem _ (List.mem_cons_of_mem _ (List.mem_cons_of_mem _ (List.mem_cons_self ..))))
          replace o1 : (0 : Int) ≤ l.ev ρ := of_decide_eq_true (by have := o1; simp only [Ob.ok, B.cmpS_ev] at this; exact this)
          replace o2 : l.ev ρ ≤ hh0.ev ρ := of_decide_eq_true (by have := o2; simp only [Ob.ok, B.cmpS_ev] at this; exact this)
          replace o3 : hh0.ev ρ ≤ (vCap (x.ev ρ) : Int) := of_decide_eq_true (by have := o3; simp only [Ob.ok, B.cmpS_ev] at this; exact this)
          rw [hx] at o3
          replace o3 : hh0.ev ρ ≤ (c : Int) := o3
          obtain ⟨ha1, _⟩ := ha
          rw [hx] at ha1
          subst ha1
          have k1 : (l' = none ∧ (l.ev ρ).toNat = 0) ∨ ∃ k : IntKind, l' = some (.int k ((l.ev ρ).toNat : Int)) := by
            rcases boundE_sound e1 hl with ⟨q1, q2⟩ | ⟨k, q⟩
            · left; refine ⟨q1, ?_⟩; rw [q2]; rfl
            · right; exact ⟨k, by rw [q]; congr 2; omega⟩
          have k2 : (h' = none ∧ (hh0.ev ρ).toNat = n) ∨ ∃ k : IntKind, h' = some (.int k ((hh0.ev ρ).toNat : Int)) := by
            rcases boundE_sound e2 hh with ⟨q1, q2⟩ | ⟨k, q⟩
            · left; refine ⟨q1, ?_⟩; rw [q2]; simp only [E.ev]; rw [hx]; simp [vLen]
            · right; exact ⟨k, by rw [q]; congr 2; omega⟩
          have hb := bounds_run (P := P) (cap := c) k1 k2 (by omega) (by omega) W
          refine ⟨_, ?_, rfl, ?_⟩
          · simp only [X.ev, E.ev]
            rw [hx]
            simp [Instr.sliceAt, Instr.slice, run_underlying hu, hb, run_sizeOf hi', subOf, vCap]
            rfl
          · simp only [X.ev]
            rw [hx]
            rfl
        · simp at h
      · simp at h
  · simp at h

theorem ptrs_den : ∀ {l : List V} {r : List (Nat × Nat)} {vs : List Value}, ptrs l = some r → DL (V.den ρ σ) l vs → DL (capDen σ) r vs
  | [], r, [], h, _ => by simp only [ptrs, Option.some.injEq] at h; subst h; trivial
  | x :: l, r, v :: vs, h, ⟨h1, h2⟩ => by
    unfold ptrs at h
    split at h
    · rename_i e; simp at e
    · rename_i id off l' e
      simp only [List.cons.injEq] at e
      obtain ⟨rfl, rfl⟩ := e
      simp only [Option.map_eq_some_iff] at h
      obtain ⟨r', hr, rfl⟩ := h
      exact ⟨h1, ptrs_den hr h2⟩
    · simp at h

theorem DL_map_ev {g : Operand → V} {ev : Operand → Value} : ∀ (l : List Operand), (∀ x ∈ l, (g x).den ρ σ (ev x)) → DL (V.den ρ σ) (l.map g) (l.map ev)
  | [], _ => trivial
  | x :: l, h => ⟨h x (List.mem_cons_self ..), DL_map_ev l (fun y hy => h y (List.mem_cons_of_mem _ hy))⟩

theorem run_vv {P : Program} {s : Sem Value} {u : Value} {W W' : World} (h : s.run P W = .ok u W') : (do pure (Next.value (← s)) : Sem Next).run P W = .ok (.value u) W' := by simp [h]
theorem map_arr {α β : Type} (f : α → β) (a : Array α) : a.map f = (a.toList.map f).toArray := by rw [← Array.toList_map, Array.toArray_toList]
theorem run_v {s : Sem Value} {u : Value} {W : World} (h : s.run P W = .ok u W) : (do pure (Next.value (← s)) : Sem Next).run P W = .ok (.value u) W := by simp [h]

/-- **All operations that neither look at memory nor turn it.** -/
theorem pureOp_sound {o : Oper} {g : Operand → V} {ev : Operand → Value} {obs : List Ob} {v : V} (h : pureOp P g o.op = some (obs, v)) (ho : ∀ o ∈ obs, o.ok ρ)
    (hg : ∀ x ∈ o.op.operands, (g x).den ρ σ (ev x)) (W : World) : ∃ u, (execOp ev o).run P W = .ok (.value u) W ∧ v.den ρ σ u := by
  obtain ⟨dst, op, ty, pos, after, guard⟩ := o
  simp only at h hg
  cases op <;> simp only [pureOp, Op.operands, reduceCtorEq] at h hg
  case move x =>
    simp only [okV, Option.some.injEq, Prod.mk.injEq] at h
    obtain ⟨rfl, rfl⟩ := h
    exact ⟨ev x, rfl, hg x (by simp)⟩
  case assign x =>
    simp only [okV, Option.some.injEq, Prod.mk.injEq] at h
    obtain ⟨rfl, rfl⟩ := h
    exact ⟨ev x, rfl, hg x (by simp)⟩
  case build t parts =>
    simp only [Option.bind_eq_some_iff, Option.map_eq_some_iff, Prod.mk.injEq] at h
    obtain ⟨l, hl, cs, hc, rfl, rfl⟩ := h
    have hp : PD ρ σ l (parts.toList.map fun p => (p.1, ev p.2)) := toV2s_den hl (by simp) (fun k p q h1 h2 => by
      simp only [List.getElem?_map, Option.map_eq_some_iff] at h1 h2
      obtain ⟨a, ha, rfl⟩ := h1
      obtain ⟨b, hb, rfl⟩ := h2
      rw [ha] at hb
      simp only [Option.some.injEq] at hb
      subst hb
      refine ⟨rfl, hg _ ?_⟩
      have := List.mem_of_getElem? ha
      simp only [List.mem_toArray, List.mem_map]
      exact ⟨a, this, rfl⟩)
    obtain ⟨ws, h1, h2⟩ := builtS_sound hc hp
    refine ⟨.agg ws.toArray, ?_, ws, h2, rfl⟩
    refine run_v (run_build W t _ ws.toArray ?_)
    rw [← h1]
    simp
  case nilCheck x =>
    split at h
    · rename_i v' hm
      simp only [okV, Option.some.injEq, Prod.mk.injEq] at h
      obtain ⟨rfl, rfl⟩ := h
      obtain ⟨h1, nm, t, u, e, h2⟩ := nilCheckM_sound hm (hg x (by simp))
      refine ⟨ev x, ?_, h1⟩
      have h3 := h2 (P.types.size + Made.depth - 1) W
      rw [show P.types.size + Made.depth - 1 + 1 = P.types.size + Made.depth by simp [Made.depth]] at h3
      simp [execOp, e, run_program, h3]
    · obtain ⟨h1, h2⟩ := nilCheckS_sound h (hg x (by simp))
      refine ⟨ev x, ?_, h1⟩
      rcases h2 with ⟨y, e⟩ | ⟨f, c, e⟩ | ⟨t, u, e⟩ <;> simp [execOp, e]
  case binOp o t x y yt =>
    obtain ⟨u, h1, h2⟩ := binS_sound h ho (hg x (by simp)) (hg y (by simp)) x y W
    exact ⟨u, run_v h1, h2⟩
  case unOp o t x =>
    obtain ⟨u, h1, h2⟩ := unS_sound h (hg x (by simp)) W
    exact ⟨u, run_v h1, h2⟩
  case convert a b x =>
    obtain ⟨u, h1, h2⟩ := convS_sound h (hg x (by simp)) W
    exact ⟨u, run_v h1, h2⟩
  case makeInterface t x =>
    obtain ⟨u, h1, h2⟩ := makeIfaceS_sound h (hg x (by simp)) W
    exact ⟨u, run_v h1, h2⟩
  case makeFunc fn first cap =>
    cases fn with
    | func f =>
      simp only at h
      split at h
      · rename_i hf
        simp only [Option.map_eq_some_iff, Prod.mk.injEq] at h
        obtain ⟨l, hl, rfl, rfl⟩ := h
        simp only [Array.isEmpty_iff] at hf
        subst hf
        refine ⟨.func (.func f) #[] (cap.map ev), by simp [execOp, Instr.makeFunc], cap.toList.map ev, ptrs_den hl (DL_map_ev _ (fun x hx => hg x (by simpa using hx))), ?_⟩
        rw [map_arr]
      · simp at h
    | method nm =>
      simp only at h
      split at h
      · rename_i x hx hc
        unfold methS at h
        split at h
        · rename_i t b c hgx
          simp only [okV, Option.some.injEq, Prod.mk.injEq] at h
          obtain ⟨rfl, rfl⟩ := h
          have hd := hg x (by
            have : x ∈ first.toList := by rw [hx]; simp
            simp; exact .inl (by simpa using this))
          rw [hgx] at hd
          have e1 : first.map ev = #[ev x] := by
            have : first = #[x] := by rw [← Array.toArray_toList (xs := first), hx]
            rw [this]; simp
          have e2 : cap = #[] := by simpa using hc
          exact ⟨.func (.method nm) #[ev x] #[], by simp [execOp, Instr.makeFunc, e1, e2], meth_den.2 ⟨_, hd, rfl⟩⟩
        · simp at h
      · simp at h
    | methodOf t n => simp at h
    | via t p f b => simp at h
    | yield l => simp at h
  case slice t x lo hi mx =>
    have ob : ∀ (q : Option Operand), (∀ y, q = some y → (g y).den ρ σ (ev y)) → ODen ρ σ (q.map g) (q.map ev) := by
      intro q hq
      cases q with
      | none => trivial
      | some y => exact hq y rfl
    obtain ⟨u, h1, h2⟩ := sliceS_sound h ho (hg x (by simp)) (ob lo (fun y hy => hg y (by simp [hy]))) (ob hi (fun y hy => hg y (by simp [hy]))) (ob mx (fun y hy => hg y (by simp [hy]))) W
    exact ⟨u, run_v h1, h2⟩
  case fieldAddr t x f =>
    obtain ⟨u, h1, h2⟩ := fieldAddrS_sound h (hg x (by simp)) W
    exact ⟨u, run_v h1, h2⟩
  case field t x f =>
    obtain ⟨u, h1, h2⟩ := fieldS_sound h (hg x (by simp)) W
    exact ⟨u, run_v h1, h2⟩
  case indexAddr t x i =>
    obtain ⟨u, h1, h2⟩ := indexAddrS_sound h ho (hg x (by simp)) (hg i (by simp)) W
    exact ⟨u, run_v h1, h2⟩
  case index t x i =>
    obtain ⟨u, h1, h2⟩ := indexS_sound h (hg x (by simp)) (hg i (by simp)) W
    exact ⟨u, run_v h1, h2⟩
  case typeAssert x xt t ok =>
    obtain ⟨u, h1, h2⟩ := typeAssertS_sound (xt := xt) h (hg x (by simp)) W
    exact ⟨u, run_v h1, h2⟩
  case extract x i =>
    have hx := hg x (by simp)
    split at h
    · rename_i l hl
      rw [hl] at hx
      simp only [Option.map_eq_some_iff, Prod.mk.injEq] at h
      obtain ⟨y, hy, rfl, rfl⟩ := h
      obtain ⟨vs, h1, h2⟩ := hx
      obtain ⟨u, h3, h4⟩ := h1.get hy
      exact ⟨u, run_v (by simp [Instr.extract, h2, h3]), h4⟩
    · simp at h
  case call c =>
    obtain ⟨callee, args, ats⟩ := c
    cases callee with
    | value f => simp at h
    | invoke r m => simp at h
    | builtin b =>
      simp only at h
      obtain ⟨u, h1, h2⟩ := builtinS_sound h ho (DL_map_ev args.toList (fun x hx => hg x (by simpa [Call.operands] using hx))) ty (args.map fun | .const _ => true | _ => false) W
      refine ⟨u, ?_, h2⟩
      simp only [execOp, resolve, Sem.run_bind, Sem.run_pure, Result.andThen_ok, invoke]
      rw [← map_arr] at h1
      exact h1
end
end Go.Proofs.YtfefbckpocbeaaaGreat
