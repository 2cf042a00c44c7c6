/- Contracts for the symbolic executor: functions of integers, truth values, slices of data, structs of them. -/
import Derived.Test.YtinfmmofcadjgaaZn
namespace Go.Proofs.Ytinfmmofcadjgaa
open Go.RowKit

/-! ### Values that lead to no block of the call's own -/
def S0.val (ρ : Env) : S0 → Value | .bool b => .bool (b.ev ρ) | .int k e => .int k (e.ev ρ) | .const v => v | _ => undef
def S0.plain : S0 → Bool | .bool _ | .int _ _ | .const _ => true | _ => false
def S.val (ρ : Env) : S → Value | .z s => s.val ρ | _ => undef
def S.plain : S → Bool | .z s => s.plain | _ => false
def V2.val (ρ : Env) : V2 → Value | .one s => s.val ρ | .agg cs => .agg (cs.map (S.val ρ)).toArray
def V2.plain : V2 → Bool | .one s => s.plain | .agg cs => cs.all S.plain
def V.val (ρ : Env) : V → Value | .v x => x.val ρ | .tup l => .tuple (l.map (V2.val ρ)).toArray
def V.plain : V → Bool | .v x => x.plain | .tup l => l.all V2.plain
section
variable {ρ : Env} {σ : As}
theorem S.val_den {s : S} (h : s.plain = true) : s.den ρ σ (s.val ρ) := by
  cases s with
  | z s => cases s <;> first | rfl | simp [S.plain, S0.plain] at h
  | iface t a cs => simp [S.plain] at h
  | meth n t a cs => simp [S.plain] at h
theorem DL_val {α : Type} {R : α → Value → Prop} {f : α → Value} {p : α → Bool} (hp : ∀ x, p x = true → R x (f x)) : ∀ {l : List α}, l.all p = true → DL R l (l.map f)
  | [], _ => trivial
  | x :: l, h => by
    simp only [List.all_cons, Bool.and_eq_true] at h
    exact ⟨hp x h.1, DL_val hp h.2⟩
theorem V2.val_den {s : V2} (h : s.plain = true) : s.den ρ σ (s.val ρ) := by
  cases s with
  | one s => exact S.val_den h
  | agg cs => exact ⟨_, DL_val (fun _ => S.val_den) h, rfl⟩
theorem V.val_den {s : V} (h : s.plain = true) : s.den ρ σ (s.val ρ) := by
  cases s with
  | v s => exact V2.val_den h
  | tup cs => exact ⟨_, DL_val (fun _ => V2.val_den) h, rfl⟩
/-- What a plain value's denotation is. -/
theorem S.den_val {s : S} (h : s.plain = true) {v : Value} (hd : s.den ρ σ v) : v = s.val ρ := by
  cases s with
  | z s => cases s <;> first | exact hd | simp [S.plain, S0.plain] at h
  | iface t a cs => simp [S.plain] at h
  | meth n t a cs => simp [S.plain] at h
theorem val_DL {α : Type} {R : α → Value → Prop} {f : α → Value} {p : α → Bool} (hp : ∀ x v, p x = true → R x v → v = f x) : ∀ {l : List α} {vs : List Value}, l.all p = true → DL R l vs → vs = l.map f
  | [], vs, _, hd => DL.nil_inv hd
  | x :: l, vs, h, hd => by
    simp only [List.all_cons, Bool.and_eq_true] at h
    obtain ⟨v, vs', rfl, h1, h2⟩ := DL.cons_inv hd
    rw [hp x v h.1 h1, val_DL hp h.2 h2]
    rfl
theorem V2.den_val {s : V2} (h : s.plain = true) {v : Value} (hd : s.den ρ σ v) : v = s.val ρ := by
  cases s with
  | one s => exact S.den_val h hd
  | agg cs =>
    obtain ⟨vs, h1, rfl⟩ := hd
    rw [val_DL (f := S.val ρ) (fun x v hp hd => S.den_val hp hd) h h1]
    rfl
theorem V.den_val {s : V} (h : s.plain = true) {v : Value} (hd : s.den ρ σ v) : v = s.val ρ := by
  cases s with
  | v s => exact V2.den_val h hd
  | tup cs =>
    obtain ⟨vs, h1, rfl⟩ := hd
    rw [val_DL (f := V2.val ρ) (fun x v hp hd => V2.den_val hp hd) h h1]
    rfl
end

/-! ### Arguments and their data -/
inductive Sh where | one (k : CK) | agg (ks : List CK)
def Sh.rep (w : World) : Sh → Value → List D → Prop
  | .one k, v, ds => ∃ d, ds = [d] ∧ CK.rep w k v d
  | .agg ks, v, ds => ∃ vs, v = .agg vs.toArray ∧ CK.reps w ks vs ds
def repSh (w : World) : List Sh → List Value → List D → Prop
  | [], vs, ds => vs = [] ∧ ds = []
  | s :: sh, vs, ds => ∃ v vs' d ds', vs = v :: vs' ∧ ds = d ++ ds' ∧ s.rep w v d ∧ repSh w sh vs' ds'

/-- Terms for the cells of an argument. -/
def AL.app : AL → AL → AL
  | .nil, q => q
  | .i e r, q => .i e (AL.app r q)
  | .b e r, q => .b e (AL.app r q)
  | .x e r, q => .x e (AL.app r q)
theorem AL.app_ev (ρ : Env) : ∀ a q : AL, (AL.app a q).ev ρ = a.ev ρ ++ q.ev ρ
  | .nil, q => by simp [AL.app, AL.ev]
  | .i e r, q => by simp [AL.app, AL.ev, AL.app_ev ρ r q]
  | .b e r, q => by simp [AL.app, AL.ev, AL.app_ev ρ r q]
  | .x e r, q => by simp [AL.app, AL.ev, AL.app_ev ρ r q]
section
variable (mem : Mem)
/-- A cell's term: (no slices of the call's own) -/
def cellA0 (k : CK) (s : S) : Option AL := match k, s with
  | .int k, .z (.int k' e) => if k = k' then some (.i e .nil) else none
  | .bool, .z (.bool e) => some (.b e .nil)
  | .sl ks, .z (.ext ks' x _) => if CK.sameL ks ks' then some (.x x .nil) else none
  | .sl _, .z (.const (.slice none 0 0)) => some (.x .nil .nil)
  | _, _ => none
def rowA (f : CK → S → Option AL) : List CK → List S → Option AL
  | [], [] => some .nil
  | k :: ks, s :: ss => match f k s, rowA f ks ss with | some a, some b => some (a.app b) | _, _ => none
  | _, _ => none
def rowsA (f : CK → S → Option AL) (ks : List CK) : Nat → List S → Option X
  | 0, _ => some .nil
  | n + 1, cs => match rowA f ks (cs.take ks.length), rowsA f ks n (cs.drop ks.length) with | some a, some x => some (.app (.row a) x) | _, _ => none
/-- .. with slices of the call's own whose cells are known -/
def cellA1 (f : CK → S → Option AL) (k : CK) (s : S) : Option AL := match f k s with
  | some a => some a
  | none => match k, s with
    | .sl ks, .z (.sl id off len (some c)) => match mem.get id with
      | some (.cells _ cs) => if decide (len ≤ c) && decide (len ≤ 1000000) && decide (off + len * ks.length ≤ cs.length) then (rowsA f ks len (cs.drop off)).map fun x => .x x .nil else none
      | _ => none
    | _, _ => none
def cellA (k : CK) (s : S) : Option AL := cellA1 mem (cellA1 mem cellA0) k s
def argA (sh : Sh) (v : V) : Option AL := match sh, v with
  | .one k, .v (.one s) => cellA mem k s
  | .agg ks, .v (.agg cs) => rowA (cellA mem) ks cs
  | _, _ => none
def argsA : List Sh → List V → Option AL
  | [], [] => some .nil
  | s :: sh, v :: vs => match argA mem s v, argsA sh vs with | some a, some b => some (a.app b) | _, _ => none
  | _, _ => none
end

section
variable {ρ : Env} {σ : As} {mem : Mem} {W : World}
/-- What is right of a cell's term. -/
def CellOk (ρ : Env) (σ : As) (W : World) (f : CK → S → Option AL) : Prop := ∀ (k : CK) (s : S) (a : AL), f k s = some a → ∀ v, s.den ρ σ v → ∃ d, a.ev ρ = [d] ∧ CK.rep W k v d
mutual
theorem CK.rep_below {w W : World} (hb : Below w.heap.size w W) : ∀ (k : CK) (v : Value) (d : D), CK.rep w k v d → CK.rep W k v d
  | .int _, v, d, h => by unfold CK.rep at h ⊢; exact h
  | .bool, v, d, h => by unfold CK.rep at h ⊢; exact h
  | .sl ks, v, d, h => by
    unfold CK.rep at h ⊢
    obtain ⟨r, a, n, c, e1, e2, h1, h2, h3, h4, h5⟩ := h
    refine ⟨r, a, n, c, e1, e2, h1, h2, h3, h4, fun b hb' i row hi => ?_⟩
    obtain ⟨vs, g1, g2⟩ := h5 b hb' i row hi
    exact ⟨vs, CK.reps_below hb ks vs row g1, fun j u hj => by
      have := g2 j u hj
      rw [hb.cell (World.block_lt_of_cell? _ _ this)]
      exact this⟩
theorem CK.reps_below {w W : World} (hb : Below w.heap.size w W) : ∀ (ks : List CK) (vs : List Value) (ds : List D), CK.reps w ks vs ds → CK.reps W ks vs ds
  | [], vs, ds, h => by unfold CK.reps at h ⊢; exact h
  | k :: ks, vs, ds, h => by
    unfold CK.reps at h ⊢
    obtain ⟨v, vs', d, ds', e1, e2, h1, h2⟩ := h
    exact ⟨v, vs', d, ds', e1, e2, CK.rep_below hb k v d h1, CK.reps_below hb ks vs' ds' h2⟩
end
theorem Sl.below {w W : World} {ks : List CK} {v : Value} {r : Rows} {f : Bool} (hb : Below w.heap.size w W) (h : Sl w ks v r f) : Sl W ks v r f := by
  obtain ⟨a, n, c, rfl, ⟨h1, h2, h3, h4, h5⟩, h6⟩ := h
  refine ⟨a, n, c, rfl, ⟨h1, h2, h3, h4, fun b hb' i row hi => ?_⟩, h6⟩
  obtain ⟨vs, g1, g2⟩ := h5 b hb' i row hi
  exact ⟨vs, CK.reps_below hb ks vs row g1, fun j u hj => by
    have := g2 j u hj
    rw [hb.cell (World.block_lt_of_cell? _ _ this)]
    exact this⟩
theorem Sl.weak {w : World} {ks : List CK} {v : Value} {r : Rows} {f : Bool} (h : Sl w ks v r f) : Sl w ks v r false := by
  obtain ⟨a, n, c, h1, h2, _⟩ := h
  exact ⟨a, n, c, h1, h2, by simp⟩
theorem nil_sl (w : World) (ks : List CK) : Sl w ks (.slice none 0 0) [] false := ⟨none, 0, 0, rfl, ⟨rfl, Nat.le_refl _, by omega, by omega, fun b h => by simp at h⟩, by simp⟩
theorem cellA0_ok (hb : Below ρ.w.heap.size ρ.w W) : CellOk ρ σ W cellA0 := by
  intro k s a h v hd
  unfold cellA0 at h
  split at h
  · rename_i k k' e
    split at h
    · rename_i hk
      subst hk
      simp only [Option.some.injEq] at h
      subst h
      obtain rfl : v = .int k (e.ev ρ) := hd
      exact ⟨.i (e.ev ρ), by simp [AL.ev], by unfold CK.rep; exact ⟨_, rfl, rfl⟩⟩
    · cases h
  · rename_i e
    simp only [Option.some.injEq] at h
    subst h
    obtain rfl : v = .bool (e.ev ρ) := hd
    exact ⟨.b (e.ev ρ), by simp [AL.ev], by unfold CK.rep; exact ⟨_, rfl, rfl⟩⟩
  · rename_i ks ks' x f
    split at h
    · rename_i hk
      obtain rfl := CK.sameL_eq _ _ hk
      simp only [Option.some.injEq] at h
      subst h
      have hd : Sl ρ.w ks v (x.ev ρ) f := hd
      exact ⟨.l (x.ev ρ), by simp [AL.ev], rep_sl.2 ⟨_, rfl, (hd.below hb).weak⟩⟩
    · cases h
  · rename_i ks
    simp only [Option.some.injEq] at h
    subst h
    obtain rfl : v = .slice none 0 0 := hd
    exact ⟨.l [], by simp [AL.ev, X.ev], rep_sl.2 ⟨_, rfl, nil_sl W ks⟩⟩
  · cases h
theorem rowA_ok {f : CK → S → Option AL} (hf : CellOk ρ σ W f) : ∀ (ks : List CK) (ss : List S) (a : AL), rowA f ks ss = some a → ∀ vs, DL (S.den ρ σ) ss vs → CK.reps W ks vs (a.ev ρ)
  | [], [], a, h, vs, hd => by
    simp only [rowA, Option.some.injEq] at h
    subst h
    rw [DL.nil_inv hd]
    unfold CK.reps
    simp [AL.ev]
  | k :: ks, s :: ss, a, h, vs, hd => by
    simp only [rowA] at h
    split at h
    · rename_i a1 a2 h1 h2
      simp only [Option.some.injEq] at h
      subst h
      obtain ⟨v, vs', rfl, e1, e2⟩ := DL.cons_inv hd
      obtain ⟨d, e3, e4⟩ := hf k s a1 h1 v e1
      unfold CK.reps
      exact ⟨v, vs', d, a2.ev ρ, rfl, by rw [AL.app_ev, e3]; rfl, e4, rowA_ok hf ks ss a2 h2 vs' e2⟩
    · cases h
  | [], _ :: _, a, h, _, _ => by simp [rowA] at h
  | _ :: _, [], a, h, _, _ => by simp [rowA] at h
theorem rowsA_ok {f : CK → S → Option AL} (hf : CellOk ρ σ W f) (ks : List CK) : ∀ (n : Nat) (ss : List S) (x : X), rowsA f ks n ss = some x → ∀ vs, DL (S.den ρ σ) ss vs → n * ks.length ≤ ss.length →
    (x.ev ρ).length = n ∧ ∀ (i : Nat) (row : List D), (x.ev ρ)[i]? = some row → CK.reps W ks ((vs.drop (i * ks.length)).take ks.length) row
  | 0, ss, x, h, vs, _, _ => by
    simp only [rowsA, Option.some.injEq] at h
    subst h
    simp [X.ev]
  | n + 1, ss, x, h, vs, hd, hl => by
    simp only [rowsA] at h
    split at h
    · rename_i a y h1 h2
      simp only [Option.some.injEq] at h
      subst h
      have e1 := rowA_ok hf ks _ a h1 _ (hd.take ks.length)
      obtain ⟨e2, e3⟩ := rowsA_ok hf ks n _ y h2 _ (hd.drop ks.length) (by rw [List.length_drop]; rw [Nat.succ_mul] at hl; omega)
      simp only [X.ev]
      refine ⟨by simp [e2], fun i row hi => ?_⟩
      cases i with
      | zero =>
        simp only [List.cons_append, List.nil_append, List.getElem?_cons_zero, Option.some.injEq] at hi
        subst hi
        simpa using e1
      | succ i =>
        simp only [List.cons_append, List.nil_append, List.getElem?_cons_succ] at hi
        have := e3 i row hi
        rw [List.drop_drop] at this
        rw [show (i + 1) * ks.length = ks.length + i * ks.length by rw [Nat.succ_mul]; omega]
        exact this
    · cases h
theorem cellA1_ok (hr : RelM ρ σ mem W) {f : CK → S → Option AL} (hf : CellOk ρ σ W f) : CellOk ρ σ W (cellA1 mem f) := by
  intro k s a h v hd
  unfold cellA1 at h
  split at h
  · rename_i a' h1
    simp only [Option.some.injEq] at h
    subst h
    exact hf k s _ h1 v hd
  · split at h
    · rename_i ks id off len c _
      split at h
      · rename_i t cs hm
        split at h
        · rename_i hc
          simp only [Bool.and_eq_true, decide_eq_true_eq] at hc
          obtain ⟨⟨c1, c2⟩, c3⟩ := hc
          simp only [Option.map_eq_some_iff] at h
          obtain ⟨x, hx, rfl⟩ := h
          obtain ⟨b, h1, rfl⟩ := hd
          obtain ⟨b', h2, vs, h3, h4⟩ := hr.blk _ _ hm
          rw [h1] at h2
          simp only [Option.some.injEq] at h2
          subst h2
          obtain ⟨e1, e2⟩ := rowsA_ok hf ks len _ x hx _ (h3.drop off) (by rw [List.length_drop]; omega)
          refine ⟨.l (x.ev ρ), by simp [AL.ev], rep_sl.2 ⟨_, rfl, some ⟨b, off, none⟩, len, c, rfl, ⟨e1, c1, by omega, fun _ => rfl, fun q hq => ?_⟩, by simp⟩⟩
          simp only [Option.some.injEq] at hq
          subst hq
          intro i row hi
          refine ⟨_, e2 i row hi, fun j u hj => ?_⟩
          rw [add_none, cell_at h4]
          have hj' : j < ks.length := by
            rcases Nat.lt_or_ge j ks.length with q | q
            · exact q
            · rw [List.getElem?_eq_none (by simp; omega)] at hj; simp at hj
          rw [List.getElem?_take_of_lt hj', List.getElem?_drop, List.getElem?_drop] at hj
          simp only [List.getElem?_toArray]
          rw [← hj]

        · cases h
      · cases h
    · cases h
theorem cellA_ok (hr : RelM ρ σ mem W) : CellOk ρ σ W (cellA mem) := cellA1_ok hr (cellA1_ok hr (cellA0_ok hr.base))
theorem argsA_ok (hr : RelM ρ σ mem W) : ∀ (sh : List Sh) (args : List V) (a : AL), argsA mem sh args = some a → ∀ vals, DL (V.den ρ σ) args vals → repSh W sh vals (a.ev ρ)
  | [], [], a, h, vals, hd => by
    simp only [argsA, Option.some.injEq] at h
    subst h
    exact ⟨DL.nil_inv hd, by simp [AL.ev]⟩
  | s :: sh, v :: vs, a, h, vals, hd => by
    simp only [argsA] at h
    split at h
    · rename_i a1 a2 h1 h2
      simp only [Option.some.injEq] at h
      subst h
      obtain ⟨u, us, rfl, e1, e2⟩ := DL.cons_inv hd
      refine ⟨u, us, a1.ev ρ, a2.ev ρ, rfl, AL.app_ev _ _ _, ?_, argsA_ok hr sh vs a2 h2 us e2⟩
      unfold argA at h1
      split at h1
      · obtain ⟨d, e3, e4⟩ := cellA_ok hr _ _ _ h1 u e1
        exact ⟨d, e3, e4⟩
      · obtain ⟨ws, e3, rfl⟩ := e1
        exact ⟨ws, rfl, rowA_ok (cellA_ok hr) _ _ _ h1 ws e3⟩
      · cases h1
    · cases h
  | [], _ :: _, a, h, _, _ => by simp [argsA] at h
  | _ :: _, [], a, h, _, _ => by simp [argsA] at h
end

/-! ### Contracts of functions that only read -/
def ctD (sh : List Sh) (out : AL → T V) (args : List V) (mem : Mem) (nx : Nat) : T OpR := match argsA mem sh args with
  | some al => (out al).bind fun v => .ret (v, [], nx)
  | none => .stuck "contract"
/-- What a function answers, in plain words. -/
def Gives (P : Program) (f : FuncId) (sh : List Sh) (g : List D → Value) : Prop := ∀ (W : World) (vals : List Value) (ds : List D), repSh W sh vals ds → Calls P f vals.toArray W (fun e W' => e = .returned (g ds) ∧ Below W.heap.size W W')
/-- .. if the data are so -/
def GivesIf (P : Program) (f : FuncId) (sh : List Sh) (ok : List D → Prop) (g : List D → Value) : Prop := ∀ (W : World) (vals : List Value) (ds : List D), repSh W sh vals ds → ok ds → Calls P f vals.toArray W (fun e W' => e = .returned (g ds) ∧ Below W.heap.size W W')
section
variable {P : Program} {ct : Ct} {lt : Lt} {ρ : Env}
theorem CtOk.nil : CtOk P ρ [] := fun f c h => by simp [Ct.find] at h
theorem CtOk.cons {f : FuncId} {c : List V → Mem → Nat → T OpR} (h : CtOne P ρ f c) (hs : CtOk P ρ ct) : CtOk P ρ ((f, c) :: ct) := by
  intro g d hd
  simp only [Ct.find] at hd
  split at hd
  · rename_i e
    simp only [beq_iff_eq] at e
    subst e
    simp only [Option.some.injEq] at hd
    subst hd
    exact h
  · exact hs g d hd
theorem ctD_if {f : FuncId} {sh : List Sh} {out : AL → T V} {ok : List D → Prop} {g : List D → Value} (hg : GivesIf P f sh ok g) (h : ∀ al v, (out al).res ρ v → v.plain = true ∧ ok (al.ev ρ) ∧ v.val ρ = g (al.ev ρ)) : CtOne P ρ f (ctD sh out) := by
  intro args mem nx q hq hle σ W vals hr hfr hd
  unfold ctD at hq
  split at hq
  · rename_i al ha
    obtain ⟨v, h1, h2⟩ := T.res_bind hq
    obtain rfl := res_ret h2
    obtain ⟨h3, h4, h5⟩ := h al v h1
    have hc := hg W vals (al.ev ρ) (argsA_ok hr sh args al ha vals hd) h4
    have hw : CallsIn Fence.wide 0 P f vals.toArray W _ := callsIn_wide.2 hc
    refine CallsIn.mono (F := FR none) hw ?_
    rintro e W' ⟨rfl, hb⟩
    exact ⟨_, σ, rfl, by rw [← h5]; exact V.val_den h3, Step.below hb, New.refl _ _ _⟩
  · exact hq.elim
theorem ctD_ok {f : FuncId} {sh : List Sh} {out : AL → V} {g : List D → Value} (hg : Gives P f sh g) (hp : ∀ al, (out al).plain = true) (h : ∀ al, (out al).val ρ = g (al.ev ρ)) : CtOne P ρ f (ctD sh fun al => .ret (out al)) :=
  ctD_if (ok := fun _ => True) (fun W vals ds hr _ => hg W vals ds hr) (fun al v hv => by obtain rfl := res_ret hv; exact ⟨hp al, trivial, h al⟩)

/-- A function of the program that has a body and is not the one that counts goroutines. -/
def entersB (P : Program) (f : FuncId) : Bool := match P.funcs[f]? with | some fn => !(fn.name == "runtime.NumGoroutine") && fn.body.isSome | none => false
theorem enterable_of {f : FuncId} (h : entersB P f = true) : Enterable P f := by
  unfold entersB at h
  split at h
  · rename_i fn hf
    simp only [Bool.and_eq_true, Bool.not_eq_true'] at h
    obtain ⟨h1, h2⟩ := h
    obtain ⟨c, hc⟩ := Option.isSome_iff_exists.1 h2
    intro args W
    exact run_callFunc hf h1 hc args W
  · simp at h
theorem ctEnter_of (h : ct.all (fun p => entersB P p.1) = true) : CtEnter P ct := by
  induction ct with
  | nil => intro f c hf; simp [Ct.find] at hf
  | cons p ct ih =>
    obtain ⟨g, c⟩ := p
    simp only [List.all_cons, Bool.and_eq_true] at h
    intro f d hf
    simp only [Ct.find] at hf
    split at hf
    · rename_i e
      simp only [beq_iff_eq] at e
      subst e
      exact enterable_of h.1
    · exact ih h.2 f d hf

/-! ### A function run on variables -/
def symCell (j : Nat) : CK → S
  | .int k => .z (.int k (.var j))
  | .bool => .z (.bool (.var j))
  | .sl ks => .z (.ext ks (.var j) false)
def symCells : Nat → List CK → List S
  | _, [] => []
  | j, k :: ks => symCell j k :: symCells (j + 1) ks
def symArgs : Nat → List Sh → List V
  | _, [] => []
  | j, .one k :: r => .v (.one (symCell j k)) :: symArgs (j + 1) r
  | j, .agg ks :: r => .v (.agg (symCells j ks)) :: symArgs (j + ks.length) r
/-- What the symbols stand for. -/
structure Interp where
  fi : Nat → List D → Int
  fb : Nat → List D → Bool
  fd : Nat → List D → Rows
def envOf (I : Interp) (W : World) (ds : List D) : Env := { i := fun k => (ds.getD k (.i 0)).int, b := fun k => (ds.getD k (.i 0)).bool, d := fun k => (ds.getD k (.i 0)).rows, fi := I.fi, fb := I.fb, fd := I.fd, w := W }
def Env.has (ρ : Env) (I : Interp) : Prop := ρ.fi = I.fi ∧ ρ.fb = I.fb ∧ ρ.fd = I.fd
theorem symCell_den {W : World} {ds : List D} {I : Interp} {ρ : Env} {c : Nat} (ha : Agree c (envOf I W ds) ρ) {σ : As} {j : Nat} (hj : j < c) {k : CK} {v : Value} {d : D} (hd : ds[j]? = some d) (h : CK.rep W k v d) : (symCell j k).den ρ σ v := by
  have e : ds.getD j (.i 0) = d := by simp [List.getD_eq_getElem?_getD, hd]
  cases k with
  | int k =>
    unfold CK.rep at h
    obtain ⟨n, rfl, rfl⟩ := h
    show Value.int k n = .int k _
    simp only [E.ev, ← ha.i j hj]
    simp only [envOf, e, D.int]
  | bool =>
    unfold CK.rep at h
    obtain ⟨n, rfl, rfl⟩ := h
    show Value.bool n = .bool _
    simp only [B.ev, ← ha.b j hj]
    simp only [envOf, e, D.bool]
  | sl ks =>
    rw [rep_sl] at h
    obtain ⟨r, rfl, h⟩ := h
    show Sl ρ.w ks v _ false
    simp only [X.ev, ← ha.d j hj, ← ha.w]
    simp only [envOf, e, D.rows]
    exact h
theorem symCells_den {W : World} {ds : List D} {I : Interp} {ρ : Env} {c : Nat} (ha : Agree c (envOf I W ds) ρ) {σ : As} : ∀ (ks : List CK) (j : Nat) (vs : List Value) (pre row post : List D), ds = pre ++ row ++ post → pre.length = j → j + ks.length ≤ c → CK.reps W ks vs row → DL (S.den ρ σ) (symCells j ks) vs
  | [], j, vs, pre, row, post, _, _, _, h => by unfold CK.reps at h; rw [h.1]; trivial
  | k :: ks, j, vs, pre, row, post, hds, hj, hc, h => by
    unfold CK.reps at h
    obtain ⟨v, vs', d, row', rfl, rfl, h1, h2⟩ := h
    simp only [List.length_cons] at hc
    refine ⟨symCell_den ha (by omega) (d := d) ?_ h1, symCells_den ha ks (j + 1) vs' (pre ++ [d]) row' post (by simp [hds]) (by simp [hj]) (by omega) h2⟩
    rw [hds, ← hj]
    simp
def shLen : List Sh → Nat
  | [] => 0
  | .one _ :: r => shLen r + 1
  | .agg ks :: r => ks.length + shLen r
theorem symArgs_den {W : World} {ds : List D} {I : Interp} {ρ : Env} {c : Nat} (ha : Agree c (envOf I W ds) ρ) {σ : As} : ∀ (sh : List Sh) (j : Nat) (vs : List Value) (pre row : List D), ds = pre ++ row → pre.length = j → j + shLen sh ≤ c → repSh W sh vs row → DL (V.den ρ σ) (symArgs j sh) vs
  | [], j, vs, pre, row, _, _, _, h => by rw [h.1]; trivial
  | .one k :: sh, j, vs, pre, row, hds, hj, hc, h => by
    obtain ⟨v, vs', d, row', rfl, rfl, ⟨d0, rfl, h1⟩, h2⟩ := h
    simp only [shLen] at hc
    refine ⟨symCell_den ha (by omega) (d := d0) ?_ h1, symArgs_den ha sh (j + 1) vs' (pre ++ [d0]) row' (by simp [hds]) (by simp [hj]) (by omega) h2⟩
    rw [hds, ← hj]
    simp
  | .agg ks :: sh, j, vs, pre, row, hds, hj, hc, h => by
    obtain ⟨v, vs', d, row', rfl, rfl, ⟨us, rfl, h1⟩, h2⟩ := h
    simp only [shLen] at hc
    have hl := (reps_len h1).2
    refine ⟨⟨us, symCells_den ha ks j us pre d row' (by simp [hds]) hj (by omega) h1, rfl⟩, symArgs_den ha sh (j + ks.length) vs' (pre ++ d) row' (by simp [hds]) (by simp [hj, hl]) (by omega) h2⟩
/-- **What a function answers, by the tree that the executor makes of it.** -/
theorem fn_gives (I : Interp) (hmix : P.follows .mixedOrders = true) (hct : ∀ ρ, ρ.has I → CtOk P ρ ct) (hce : ct.all (fun p => entersB P p.1) = true) {n : Nat} {f : FuncId} {sh : List Sh} {tr : TT OpR} (he : T.norm 0 (call P ct lt n f (symArgs 0 sh) [] 0) TT.ret = tr)
    (hlow : tr.low 1000 = true) (hsh : shLen sh ≤ 1000) {ok : List D → Prop} {g : List D → Value} (hs : ∀ W vals ds, repSh W sh vals ds → ok ds → tr.sat (envOf I W ds) (fun ρ q => q.1.plain = true ∧ q.1.val ρ = g ds) (fun _ _ => False)) : GivesIf P f sh ok g := by
  intro W vals ds hr hok
  obtain ⟨ρ', q, h1, ⟨h2, h3⟩, _, h5⟩ := exec_flat (lt := lt) hmix (fun ρ' ha => hct ρ' ⟨ha.fi.symm, ha.fb.symm, ha.fd.symm⟩) (ctEnter_of hce) he hlow (hs W vals ds hr hok) (σ := fun _ => none) (W := W) (vals := vals)
    (fun ρ' ha => ⟨fun id b h => by simp [Mem.get] at h, fun i j a h => by simp at h, fun i a h => by simp at h, fun i a h => by simp at h, by rw [← ha.w]; exact Below.refl _ _⟩) (fun _ _ => rfl) (fun ρ' ha => symArgs_den ha sh 0 vals [] ds rfl rfl (by omega) hr)
  refine (callsIn_wide (n := 0)).1 ?_
  have h' : CallsIn Fence.wide 0 P f vals.toArray W (RetTo ρ' (fun _ => none) W 0 q) := h5
  refine CallsIn.mono h' ?_
  rintro e W' ⟨u, σ', rfl, e1, e2, e3⟩
  refine ⟨by rw [V.den_val h2 e1, h3], ?_⟩
  exact ⟨e2.os, e2.tape, e2.output, e2.size, fun k hk => e2.frame k hk (fun i b _ e => by simp at e)⟩
theorem GivesIf.all {f : FuncId} {sh : List Sh} {g : List D → Value} (h : GivesIf P f sh (fun _ => True) g) : Gives P f sh g := fun W vals ds hr => h W vals ds hr trivial
end
end Go.Proofs.Ytinfmmofcadjgaa
