/- The symbolic executor is right: all operations that neither look at memory nor turn it, together. -/
import Derived.Test.YtinfmmofcadjgaaZf
namespace Go.Proofs.Ytinfmmofcadjgaa
open Go.RowKit

section
variable {P : Program} {ρ : Env} {σ : As}

/-- Where a bound may be left out. -/
def ODen (ρ : Env) (σ : As) : Option V → Option Value → Prop
  | none, none => True
  | some p, some a => p.den ρ σ a
  | _, _ => False
theorem boundN_sound {d l : Nat} {o : Option V} {a : Option Value} (h : boundN d o = some l) (ha : ODen ρ σ o a) : (a = none ∧ l = d) ∨ ∃ (k : IntKind), a = some (.int k (l : Int)) := by
  unfold boundN at h
  split at h
  · cases a with
    | none => simp at h; exact .inl ⟨rfl, h.symm⟩
    | some a => exact ha.elim
  · rename_i k n
    split at h
    · simp only [Option.some.injEq] at h
      subst h
      cases a with
      | none => exact ha.elim
      | some a =>
        obtain rfl : a = .int k n := ha
        exact .inr ⟨k, by congr 2; omega⟩
    · simp at h
  · simp at h
theorem boundE_sound {d l : E} {o : Option V} {a : Option Value} (h : boundE d o = some l) (ha : ODen ρ σ o a) : (a = none ∧ l = d) ∨ ∃ (k : IntKind), a = some (.int k (l.ev ρ)) := by
  unfold boundE at h
  split at h
  · cases a with
    | none => simp at h; exact .inl ⟨rfl, h.symm⟩
    | some a => exact ha.elim
  · rename_i k n
    simp only [Option.some.injEq] at h
    subst h
    cases a with
    | none => exact ha.elim
    | some a => obtain rfl : a = .int k (n.ev ρ) := ha; exact .inr ⟨k, rfl⟩
  · simp at h

theorem bounds_run {len cap l h m : Nat} {lo hi mx : Option Value} (hl : (lo = none ∧ l = 0) ∨ ∃ k : IntKind, lo = some (.int k (l : Int))) (hh : (hi = none ∧ h = len) ∨ ∃ k : IntKind, hi = some (.int k (h : Int)))
    (hm : (mx = none ∧ m = cap) ∨ ∃ k : IntKind, mx = some (.int k (m : Int))) (hx : mx = none ∨ hi ≠ none) (h1 : l ≤ h) (h2 : h ≤ m) (h3 : m ≤ cap) (W : World) : (Instr.sliceBounds true len cap lo hi mx).run P W = .ok (l, h, m) W := by
  have e2 : ((h : Int)) ≤ (m : Int) := by omega
  have e1 : ((l : Int)) ≤ (h : Int) := by omega
  have e3 : ((m : Int)) ≤ (cap : Int) := by omega
  rcases hl with ⟨rfl, rfl⟩ | ⟨k, rfl⟩ <;> rcases hh with ⟨rfl, rfl⟩ | ⟨k', rfl⟩ <;> rcases hm with ⟨rfl, rfl⟩ | ⟨k'', rfl⟩ <;> first | (simp at hx; done) | simp [Instr.sliceBounds, Instr.sliceBound, asIntOf, h1, h2, h3, e1, e2, e3]
theorem isZero_sound {o : Option V} {a : Option Value} (h : isZero o = true) (ha : ODen ρ σ o a) : (a = none ∧ (0 : Nat) = 0) ∨ ∃ k : IntKind, a = some (.int k ((0 : Nat) : Int)) := by
  unfold isZero at h
  split at h
  · cases a with
    | none => exact .inl ⟨rfl, rfl⟩
    | some a => exact ha.elim
  · rename_i k
    cases a with
    | none => exact ha.elim
    | some a => obtain rfl : a = .int k 0 := ha; exact .inr ⟨k, rfl⟩
  · simp at h
/-- A part of a slice. -/
theorem SlAt.sub {w : World} {ks : List CK} {a : Option Addr} {n c : Nat} {r : Rows} (h : SlAt w ks a n c r) {l m cc : Nat} (hl : l ≤ m) (hm : m ≤ n) (hc : m ≤ cc) (hcc : cc ≤ c) :
    SlAt w ks (if cc = l then a else a.map (·.add (l * ks.length))) (m - l) (cc - l) (subR r l m) := by
  have hlen := h.len
  refine ⟨by simp [subR, hlen]; omega, by omega, by have := h.big; omega, fun h0 => ?_, fun b hb => ?_⟩
  · have := h.there (by omega)
    split <;> simp [this]
  · have hrow : ∀ (i : Nat) (row : List D), (subR r l m)[i]? = some row → i < m - l ∧ r[l + i]? = some row := by
      intro i row hi
      have h1 : i < (subR r l m).length := (List.getElem?_eq_some_iff.1 hi).1
      simp only [subR, List.length_take, List.length_drop] at h1
      simp only [subR] at hi
      rw [List.getElem?_take_of_lt (by omega), List.getElem?_drop] at hi
      exact ⟨by omega, by simpa using hi⟩
    split at hb
    · rename_i he
      intro i row hi
      have := (hrow i row hi).1
      omega
    · simp only [Option.map_eq_some_iff] at hb
      obtain ⟨b0, hb0, rfl⟩ := hb
      intro i row hi
      obtain ⟨vs, h3, h4⟩ := h.cell b0 hb0 _ _ (hrow i row hi).2
      refine ⟨vs, h3, fun j v hj => ?_⟩
      rw [add_add, ← h4 j v hj]
      congr 2
      rw [Nat.add_mul]; omega

theorem ODen.some_of {o : Option V} {a : Option Value} (h : ODen ρ σ o a) : (o = none ↔ a = none) := by cases o <;> cases a <;> simp [ODen] at h ⊢
theorem ODen.bounds {o o' : Option V} {a a' : Option Value} (h : ODen ρ σ o a) (h' : ODen ρ σ o' a') (q : (o'.isNone || o.isSome) = true) : a' = none ∨ a ≠ none := by
  have h1 := h.some_of
  have h2 := h'.some_of
  cases o <;> cases o' <;> cases a <;> cases a' <;> simp at q h1 h2 ⊢
theorem sliceS_sound {t : TypeId} {p : V} {lo hi mx : Option V} {obs : List Ob} {v : V} (h : sliceS P t p lo hi mx = some (obs, v)) (ho : ∀ o ∈ obs, o.ok ρ) {a : Value} (ha : p.den ρ σ a) {l' h' m' : Option Value}
    (hl : ODen ρ σ lo l') (hh : ODen ρ σ hi h') (hm : ODen ρ σ mx m') (W : World) :
    ∃ u, (Instr.sliceAt t a l' h' m').run P W = .ok u W ∧ v.den ρ σ u := by
  unfold sliceS at h
  split at h
  · rename_i e id off len c hu
    split at h
    · rename_i l hh0 m e1 e2 e3
      split at h
      · rename_i hc
        simp only [Bool.and_eq_true, decide_eq_true_eq] at hc
        obtain ⟨⟨⟨⟨c1, c2⟩, c3⟩, c4⟩, c5⟩ := hc
        obtain ⟨i, hi'⟩ := Option.isSome_iff_exists.1 c4
        simp only [okV, Option.some.injEq, Prod.mk.injEq] at h
        obtain ⟨rfl, rfl⟩ := h
        obtain ⟨x, h1, rfl⟩ := ha
        have hb := bounds_run (P := P) (boundN_sound e1 hl) (boundN_sound e2 hh) (boundN_sound e3 hm) (hh.bounds hm c5) c1 c2 c3 W
        refine ⟨.slice (some ⟨x, if l = m then off else off + l * P.cellsOf e, none⟩) (hh0 - l) (m - l), ?_, x, h1, rfl⟩
        by_cases hne : m = l
        · subst hne
          simp [Instr.sliceAt, Instr.slice, run_underlying hu, hb, run_sizeOf hi']
        · simp [Instr.sliceAt, Instr.slice, run_underlying hu, hb, run_sizeOf hi', hne, Ne.symm hne, add_none]
      · simp at h
    · simp at h
  · rename_i n e id off hu
    split at h
    · cases m' with
      | some m => exact hm.elim
      | none =>
        split at h
        · rename_i hc
          simp only [Bool.and_eq_true, decide_eq_true_eq] at hc
          obtain ⟨c1, c4⟩ := hc
          obtain ⟨i, hi'⟩ := Option.isSome_iff_exists.1 c4
          simp only [okV, Option.some.injEq, Prod.mk.injEq] at h
          obtain ⟨rfl, rfl⟩ := h
          obtain ⟨x, h1, rfl⟩ := ha
          cases l' with
          | some _ => exact hl.elim
          | none =>
            cases h' with
            | some _ => exact hh.elim
            | none =>
              refine ⟨.slice (some ⟨x, off, none⟩) n n, ?_, x, h1, rfl⟩
              have hne : ¬ (n = 0) := by omega
              simp [Instr.sliceAt, run_underlying hu, Instr.sureAddr, Instr.sliceBounds, run_sizeOf hi', hne, Addr.add]
        · simp at h
    · simp at h
  · rename_i e hu
    split at h
    · rename_i hc
      simp only [Bool.and_eq_true] at hc
      obtain ⟨⟨⟨⟨c1, c2⟩, c3⟩, c4⟩, c5⟩ := hc
      obtain ⟨i, hi'⟩ := Option.isSome_iff_exists.1 c4
      simp only [okV, Option.some.injEq, Prod.mk.injEq] at h
      obtain ⟨rfl, rfl⟩ := h
      obtain rfl : a = .slice none 0 0 := ha
      have hb := bounds_run (P := P) (len := 0) (cap := 0) (l := 0) (h := 0) (m := 0) (isZero_sound c1 hl) (isZero_sound c2 hh) (isZero_sound c3 hm) (hh.bounds hm c5) (Nat.le_refl _) (Nat.le_refl _) (Nat.le_refl _) W
      exact ⟨.slice none 0 0, by simp [Instr.sliceAt, Instr.slice, run_underlying hu, hb, run_sizeOf hi'], rfl⟩
    · simp at h
  · rename_i e ks x f hu
    split at h
    · rename_i l hh0 e1 e2
      split at h
      · rename_i c4
        simp only [Bool.and_eq_true, Bool.or_eq_true] at c4
        obtain ⟨⟨c4, c5⟩, c6⟩ := c4
        have c5 := natb c5
        have c7 : (mx.isNone || hi.isSome) = true := by rcases c6 with h | h <;> simp [h]
        obtain ⟨i, hi'⟩ := Option.isSome_iff_exists.1 c4
        simp only [Option.some.injEq, Prod.mk.injEq] at h
        obtain ⟨rfl, rfl⟩ := h
        obtain ⟨b, n, c, rfl, hs, hfull⟩ := ha
        have hsl := hs.len
        have hsc := hs.cap
        have o1 := ho _ (List.mem_cons_self ..)
        have o2 := ho _ (List.mem_cons_of_mem _ (List.mem_cons_self ..))
        have o3 := ho _ (List.mem_cons_of_mem _ (List.mem_cons_of_mem _ (List.mem_cons_self ..)))
        replace o1 : (0 : Int) ≤ l.ev ρ := of_decide_eq_true (by have := o1; simp only [Ob.ok, B.cmpS_ev] at this; exact this)
        replace o2 : l.ev ρ ≤ hh0.ev ρ := of_decide_eq_true (by have := o2; simp only [Ob.ok, B.cmpS_ev] at this; exact this)
        replace o3 : hh0.ev ρ ≤ ((x.ev ρ).length : Nat) := of_decide_eq_true (by have := o3; simp only [Ob.ok, B.cmpS_ev] at this; exact this)
        rw [hsl] at o3
        have k1 : (l' = none ∧ (l.ev ρ).toNat = 0) ∨ ∃ k : IntKind, l' = some (.int k ((l.ev ρ).toNat : Int)) := by
          rcases boundE_sound e1 hl with ⟨q1, q2⟩ | ⟨k, q⟩
          · left; refine ⟨q1, ?_⟩; rw [q2]; rfl
          · right; exact ⟨k, by rw [q]; congr 2; omega⟩
        have k2 : (h' = none ∧ (hh0.ev ρ).toNat = n) ∨ ∃ k : IntKind, h' = some (.int k ((hh0.ev ρ).toNat : Int)) := by
          rcases boundE_sound e2 hh with ⟨q1, q2⟩ | ⟨k, q⟩
          · left; refine ⟨q1, ?_⟩; rw [q2]; simp only [E.ev]; omega
          · right; exact ⟨k, by rw [q]; congr 2; omega⟩
        have k3 : ∃ cc, ((m' = none ∧ cc = c) ∨ ∃ k : IntKind, m' = some (.int k (cc : Int))) ∧ (hh0.ev ρ).toNat ≤ cc ∧ cc ≤ c ∧ (mx.isSome = true → cc = (hh0.ev ρ).toNat) ∧ (mx.isSome = false → cc = c) := by
          cases mx with
          | none =>
            cases m' with
            | none => exact ⟨c, .inl ⟨rfl, rfl⟩, by omega, Nat.le_refl _, by simp, by simp⟩
            | some m => exact hm.elim
          | some mv =>
            cases m' with
            | none => exact hm.elim
            | some m =>
              refine ⟨(hh0.ev ρ).toNat, .inr ?_, Nat.le_refl _, by omega, by simp, by simp⟩
              simp only [Option.isNone_some, Bool.false_eq_true, false_or] at c6
              replace c6 := c6.2
              unfold sameE at c6
              split at c6
              · rename_i k q heq
                simp only [Option.some.injEq] at heq
                subst heq
                obtain rfl : m = .int k (q.ev ρ) := hm
                rw [E.same_eq _ _ c6]
                exact ⟨k, by congr 2; omega⟩
              · simp at c6
        obtain ⟨cc, q1, q2, q3, q4, q5⟩ := k3
        have hb := bounds_run (P := P) k1 k2 q1 (hh.bounds hm c7) (by omega) q2 q3 W
        refine ⟨.slice (if cc = (l.ev ρ).toNat then b else b.map (·.add ((l.ev ρ).toNat * ks.length))) ((hh0.ev ρ).toNat - (l.ev ρ).toNat) (cc - (l.ev ρ).toNat), ?_, ?_⟩
        · rw [c5]
          simp [Instr.sliceAt, Instr.slice, run_underlying hu, hb, run_sizeOf hi']
        · refine ⟨_, _, _, rfl, ?_, fun hf => ?_⟩
          · have := hs.sub (l := (l.ev ρ).toNat) (m := (hh0.ev ρ).toNat) (cc := cc) (by omega) (by omega) q2 q3
            simp only [X.ev]
            have e1 : subR (x.ev ρ) ((l.ev ρ).toNat : Int) ((hh0.ev ρ).toNat : Int) = subR (x.ev ρ) (l.ev ρ) (hh0.ev ρ) := by
              simp only [subR, Int.toNat_natCast]
            rw [e1] at this
            exact this
          · simp only [Bool.or_eq_true, Bool.and_eq_true] at hf
            rcases hf with hf | ⟨hf1, hf2⟩
            · rw [q4 hf]
            · have := hfull hf1
              have e3 : hh0.ev ρ = ((x.ev ρ).length : Nat) := by rw [E.same_eq _ _ hf2]; rfl
              cases hmx : mx.isSome with
              | true => rw [q4 hmx]
              | false => rw [q5 hmx]; omega
      · simp at h
    · simp at h
  · simp at h

theorem ptrs_den : ∀ {l : List V} {r : List (Nat × Nat)} {vs : List Value}, ptrs l = some r → DL (V.den ρ σ) l vs → DL (capDen σ) r vs
  | [], r, [], h, _ => by simp only [ptrs, Option.some.injEq] at h; subst h; trivial
  | x :: l, r, v :: vs, h, ⟨h1, h2⟩ => by
    unfold ptrs at h
    split at h
    · rename_i e; simp at e
    · rename_i id off l' e
      simp only [List.cons.injEq] at e
      obtain ⟨rfl, rfl⟩ := e
      simp only [Option.map_eq_some_iff] at h
      obtain ⟨r', hr, rfl⟩ := h
      exact ⟨h1, ptrs_den hr h2⟩
    · simp at h

theorem DL_map_ev {g : Operand → V} {ev : Operand → Value} : ∀ (l : List Operand), (∀ x ∈ l, (g x).den ρ σ (ev x)) → DL (V.den ρ σ) (l.map g) (l.map ev)
  | [], _ => trivial
  | x :: l, h => ⟨h x (List.mem_cons_self ..), DL_map_ev l (fun y hy => h y (List.mem_cons_of_mem _ hy))⟩

theorem run_vv {P : Program} {s : Sem Value} {u : Value} {W W' : World} (h : s.run P W = .ok u W') : (do pure (Next.value (← s)) : Sem Next).run P W = .ok (.value u) W' := by simp [h]
theorem map_arr {α β : Type} (f : α → β) (a : Array α) : a.map f = (a.toList.map f).toArray := by rw [← Array.toList_map, Array.toArray_toList]
theorem run_v {s : Sem Value} {u : Value} {W : World} (h : s.run P W = .ok u W) : (do pure (Next.value (← s)) : Sem Next).run P W = .ok (.value u) W := by simp [h]

/-- **All operations that neither look at memory nor turn it.** -/
theorem pureOp_sound {o : Oper} {g : Operand → V} {ev : Operand → Value} {obs : List Ob} {v : V} (h : pureOp P g o.op = some (obs, v)) (ho : ∀ o ∈ obs, o.ok ρ)
    (hg : ∀ x ∈ o.op.operands, (g x).den ρ σ (ev x)) (W : World) : ∃ u, (execOp ev o).run P W = .ok (.value u) W ∧ v.den ρ σ u := by
  obtain ⟨dst, op, ty, pos, after, guard⟩ := o
  simp only at h hg
  cases op <;> simp only [pureOp, Op.operands, reduceCtorEq] at h hg
  case move x =>
    simp only [okV, Option.some.injEq, Prod.mk.injEq] at h
    obtain ⟨rfl, rfl⟩ := h
    exact ⟨ev x, rfl, hg x (by simp)⟩
  case assign x =>
    simp only [okV, Option.some.injEq, Prod.mk.injEq] at h
    obtain ⟨rfl, rfl⟩ := h
    exact ⟨ev x, rfl, hg x (by simp)⟩
  case build t parts =>
    simp only [Option.bind_eq_some_iff, Option.map_eq_some_iff, Prod.mk.injEq] at h
    obtain ⟨l, hl, cs, hc, rfl, rfl⟩ := h
    have hp : PD ρ σ l (parts.toList.map fun p => (p.1, ev p.2)) := toV2s_den hl (by simp) (fun k p q h1 h2 => by
      simp only [List.getElem?_map, Option.map_eq_some_iff] at h1 h2
      obtain ⟨a, ha, rfl⟩ := h1
      obtain ⟨b, hb, rfl⟩ := h2
      rw [ha] at hb
      simp only [Option.some.injEq] at hb
      subst hb
      refine ⟨rfl, hg _ ?_⟩
      have := List.mem_of_getElem? ha
      simp only [List.mem_toArray, List.mem_map]
      exact ⟨a, this, rfl⟩)
    obtain ⟨ws, h1, h2⟩ := builtS_sound hc hp
    refine ⟨.agg ws.toArray, ?_, ws, h2, rfl⟩
    refine run_v (run_build W t _ ws.toArray ?_)
    rw [← h1]
    simp
  case nilCheck x =>
    split at h
    · rename_i v' hm
      simp only [okV, Option.some.injEq, Prod.mk.injEq] at h
      obtain ⟨rfl, rfl⟩ := h
      obtain ⟨h1, nm, t, u, e, h2⟩ := nilCheckM_sound hm (hg x (by simp))
      refine ⟨ev x, ?_, h1⟩
      have h3 := h2 (P.types.size + Made.depth - 1) W
      rw [show P.types.size + Made.depth - 1 + 1 = P.types.size + Made.depth by simp [Made.depth]] at h3
      simp [execOp, e, run_program, h3]
    · obtain ⟨h1, h2⟩ := nilCheckS_sound h (hg x (by simp))
      refine ⟨ev x, ?_, h1⟩
      rcases h2 with ⟨y, e⟩ | ⟨f, c, e⟩ | ⟨t, u, e⟩ <;> simp [execOp, e]
  case binOp o t x y yt =>
    obtain ⟨u, h1, h2⟩ := binS_sound h ho (hg x (by simp)) (hg y (by simp)) x y W
    exact ⟨u, run_v h1, h2⟩
  case unOp o t x =>
    obtain ⟨u, h1, h2⟩ := unS_sound h (hg x (by simp)) W
    exact ⟨u, run_v h1, h2⟩
  case convert a b x =>
    obtain ⟨u, h1, h2⟩ := convS_sound h (hg x (by simp)) W
    exact ⟨u, run_v h1, h2⟩
  case makeInterface t x =>
    obtain ⟨u, h1, h2⟩ := makeIfaceS_sound h (hg x (by simp)) W
    exact ⟨u, run_v h1, h2⟩
  case makeFunc fn first cap =>
    cases fn with
    | func f =>
      simp only at h
      split at h
      · rename_i hf
        simp only [Option.map_eq_some_iff, Prod.mk.injEq] at h
        obtain ⟨l, hl, rfl, rfl⟩ := h
        simp only [Array.isEmpty_iff] at hf
        subst hf
        refine ⟨.func (.func f) #[] (cap.map ev), by simp [execOp, Instr.makeFunc], cap.toList.map ev, ptrs_den hl (DL_map_ev _ (fun x hx => hg x (by simpa using hx))), ?_⟩
        rw [map_arr]
      · simp at h
    | method nm =>
      simp only at h
      split at h
      · rename_i x hx hc
        unfold methS at h
        split at h
        · rename_i t b c hgx
          simp only [okV, Option.some.injEq, Prod.mk.injEq] at h
          obtain ⟨rfl, rfl⟩ := h
          have hd := hg x (by
            have : x ∈ first.toList := by rw [hx]; simp
            simp; exact .inl (by simpa using this))
          rw [hgx] at hd
          have e1 : first.map ev = #[ev x] := by
            have : first = #[x] := by rw [← Array.toArray_toList (xs := first), hx]
            rw [this]; simp
          have e2 : cap = #[] := by simpa using hc
          exact ⟨.func (.method nm) #[ev x] #[], by simp [execOp, Instr.makeFunc, e1, e2], meth_den.2 ⟨_, hd, rfl⟩⟩
        · simp at h
      · simp at h
    | methodOf t n => simp at h
    | via t p f b => simp at h
    | yield l => simp at h
  case slice t x lo hi mx =>
    have ob : ∀ (q : Option Operand), (∀ y, q = some y → (g y).den ρ σ (ev y)) → ODen ρ σ (q.map g) (q.map ev) := by
      intro q hq
      cases q with
      | none => trivial
      | some y => exact hq y rfl
    obtain ⟨u, h1, h2⟩ := sliceS_sound h ho (hg x (by simp)) (ob lo (fun y hy => hg y (by simp [hy]))) (ob hi (fun y hy => hg y (by simp [hy]))) (ob mx (fun y hy => hg y (by simp [hy]))) W
    exact ⟨u, run_v h1, h2⟩
  case fieldAddr t x f =>
    obtain ⟨u, h1, h2⟩ := fieldAddrS_sound h (hg x (by simp)) W
    exact ⟨u, run_v h1, h2⟩
  case field t x f =>
    obtain ⟨u, h1, h2⟩ := fieldS_sound h (hg x (by simp)) W
    exact ⟨u, run_v h1, h2⟩
  case indexAddr t x i =>
    obtain ⟨u, h1, h2⟩ := indexAddrS_sound h ho (hg x (by simp)) (hg i (by simp)) W
    exact ⟨u, run_v h1, h2⟩
  case index t x i =>
    obtain ⟨u, h1, h2⟩ := indexS_sound h (hg x (by simp)) (hg i (by simp)) W
    exact ⟨u, run_v h1, h2⟩
  case typeAssert x xt t ok =>
    obtain ⟨u, h1, h2⟩ := typeAssertS_sound (xt := xt) h (hg x (by simp)) W
    exact ⟨u, run_v h1, h2⟩
  case extract x i =>
    have hx := hg x (by simp)
    split at h
    · rename_i l hl
      rw [hl] at hx
      simp only [Option.map_eq_some_iff, Prod.mk.injEq] at h
      obtain ⟨y, hy, rfl, rfl⟩ := h
      obtain ⟨vs, h1, h2⟩ := hx
      obtain ⟨u, h3, h4⟩ := h1.get hy
      exact ⟨u, run_v (by simp [Instr.extract, h2, h3]), h4⟩
    · simp at h
  case call c =>
    obtain ⟨callee, args, ats⟩ := c
    cases callee with
    | value f => simp at h
    | invoke r m => simp at h
    | builtin b =>
      simp only at h
      obtain ⟨u, h1, h2⟩ := builtinS_sound h (DL_map_ev args.toList (fun x hx => hg x (by simpa [Call.operands] using hx))) ty (args.map fun | .const _ => true | _ => false) W
      refine ⟨u, ?_, h2⟩
      simp only [execOp, resolve, Sem.run_bind, Sem.run_pure, Result.andThen_ok, invoke]
      rw [← map_arr] at h1
      exact h1
end
end Go.Proofs.Ytinfmmofcadjgaa
