/- Contracts for the symbolic executor: functions of integers and structs of integers. -/
import Derived.Test.YtfefbckpocbeaaaGreatZn
namespace Go.Proofs.YtfefbckpocbeaaaGreat
open Go.RowKit

inductive Sh where | i | agg (n : Nat)
def cellE : S → Option E | .z (.int .i64 e) => some e | _ => none
def cellsE : List S → Option (List E)
  | [] => some []
  | s :: r => match cellE s, cellsE r with | some e, some l => some (e :: l) | _, _ => none
def argE : List Sh → List V → Option (List E)
  | [], [] => some []
  | .i :: r, .v (.one s) :: vs => match cellE s, argE r vs with | some e, some l => some (e :: l) | _, _ => none
  | .agg n :: r, .v (.agg cs) :: vs => match cellsE cs, argE r vs with | some es, some l => if es.length = n then some (es ++ l) else none | _, _ => none
  | _, _ => none
def shLen : List Sh → Nat
  | [] => 0
  | .i :: r => shLen r + 1
  | .agg n :: r => n + shLen r
def valsSh : List Sh → List Int → List Value
  | [], _ => []
  | .i :: r, l => .int .i64 (l.headD 0) :: valsSh r l.tail
  | .agg n :: r, l => .agg ((l.take n).map (Value.int .i64)).toArray :: valsSh r (l.drop n)
def alE (es : List E) : AL := es.foldr AL.i .nil
/-- A contract of a function of integers and structs of integers. -/
def ctI (sh : List Sh) (out : List E → T V) (args : List V) : T V := match argE sh args with | some es => out es | none => .stuck "contract"

/-- .. with one way out. -/
def ctR (sh : List Sh) (out : AL → V) : List V → T V := ctI sh (fun es => .ret (out (alE es)))

section
variable {P : Program} {ct : Ct} {ρ : Env} {σ : As}
theorem cellE_den {s : S} {e : E} (h : cellE s = some e) {v : Value} (hd : s.den ρ σ v) : v = .int .i64 (e.ev ρ) := by
  unfold cellE at h
  split at h
  · simp only [Option.some.injEq] at h; subst h; exact hd
  · simp at h
theorem cellsE_den : ∀ {l : List S} {es : List E}, cellsE l = some es → ∀ {vs : List Value}, DL (S.den ρ σ) l vs → vs = es.map (fun e => .int .i64 (e.ev ρ))
  | [], es, h, vs, hd => by simp only [cellsE, Option.some.injEq] at h; subst h; rw [DL.nil_inv hd]; rfl
  | s :: l, es, h, vs, hd => by
    simp only [cellsE] at h
    split at h
    · rename_i e l' h1 h2
      simp only [Option.some.injEq] at h
      subst h
      obtain ⟨v, vs', rfl, h3, h4⟩ := DL.cons_inv hd
      rw [cellE_den h1 h3, cellsE_den h2 h4]
      rfl
    · simp at h
theorem argE_den : ∀ (sh : List Sh) (args : List V) (es : List E), argE sh args = some es → ∀ vals, DL (V.den ρ σ) args vals → vals = valsSh sh (es.map (E.ev ρ)) ∧ es.length = shLen sh
  | [], [], es, h, vals, hd => by simp only [argE, Option.some.injEq] at h; subst h; rw [DL.nil_inv hd]; exact ⟨rfl, rfl⟩
  | .i :: r, .v (.one s) :: vs, es, h, vals, hd => by
    simp only [argE] at h
    split at h
    · rename_i e l h1 h2
      simp only [Option.some.injEq] at h
      subst h
      obtain ⟨v, vs', rfl, h3, h4⟩ := DL.cons_inv hd
      obtain ⟨i1, i2⟩ := argE_den r vs l h2 vs' h4
      exact ⟨by rw [cellE_den h1 h3, i1]; rfl, by simp [shLen, i2]⟩
    · simp at h
  | .agg n :: r, .v (.agg cs) :: vs, es, h, vals, hd => by
    simp only [argE] at h
    split at h
    · rename_i es' l h1 h2
      split at h
      · rename_i hn
        simp only [Option.some.injEq] at h
        subst h
        obtain ⟨v, vs', rfl, ⟨us, h3, rfl⟩, h4⟩ := DL.cons_inv hd
        obtain ⟨i1, i2⟩ := argE_den r vs l h2 vs' h4
        refine ⟨?_, by simp [shLen, i2, hn]⟩
        rw [cellsE_den h1 h3, i1]
        simp only [valsSh, List.map_append]
        rw [List.take_left' (by simp [hn]), List.drop_left' (by simp [hn])]
        simp [Function.comp_def]
      · simp at h
    · simp at h
  | [], _ :: _, _, h, _, _ => by simp [argE] at h
  | .i :: _, [], _, h, _, _ => by simp [argE] at h
  | .i :: _, .tup _ :: _, _, h, _, _ => by simp [argE] at h
  | .i :: _, .v (.agg _) :: _, _, h, _, _ => by simp [argE] at h
  | .agg _ :: _, [], _, h, _, _ => by simp [argE] at h
  | .agg _ :: _, .tup _ :: _, _, h, _, _ => by simp [argE] at h
  | .agg _ :: _, .v (.one _) :: _, _, h, _, _ => by simp [argE] at h

/-! Values that lead to no block of the call's own -/
def S0.val (ρ : Env) : S0 → Value | .bool b => .bool (b.ev ρ) | .int k e => .int k (e.ev ρ) | .const v => v | _ => undef
def S0.plain : S0 → Bool | .bool _ | .int _ _ | .const _ => true | _ => false
def S.val (ρ : Env) : S → Value | .z s => s.val ρ | _ => undef
def S.plain : S → Bool | .z s => s.plain | _ => false
def V2.val (ρ : Env) : V2 → Value | .one s => s.val ρ | .agg cs => .agg (cs.map (S.val ρ)).toArray
def V2.plain : V2 → Bool | .one s => s.plain | .agg cs => cs.all S.plain
def V.val (ρ : Env) : V → Value | .v x => x.val ρ | .tup l => .tuple (l.map (V2.val ρ)).toArray
def V.plain : V → Bool | .v x => x.plain | .tup l => l.all V2.plain
theorem S.val_den {s : S} (h : s.plain = true) : s.den ρ σ (s.val ρ) := by
  cases s with
  | z s => cases s <;> first | rfl | simp [S.plain, S0.plain] at h
  | iface t a cs => simp [S.plain] at h
  | meth n t a cs => simp [S.plain] at h
theorem DL_val {α : Type} {R : α → Value → Prop} {f : α → Value} {p : α → Bool} (hp : ∀ x, p x = true → R x (f x)) : ∀ {l : List α}, l.all p = true → DL R l (l.map f)
  | [], _ => trivial
  | x :: l, h => by
    simp only [List.all_cons, Bool.and_eq_true] at h
    exact ⟨hp x h.1, DL_val hp h.2⟩
theorem V2.val_den {s : V2} (h : s.plain = true) : s.den ρ σ (s.val ρ) := by
  cases s with
  | one s => exact S.val_den h
  | agg cs => exact ⟨_, DL_val (fun _ => S.val_den) h, rfl⟩
theorem V.val_den {s : V} (h : s.plain = true) : s.den ρ σ (s.val ρ) := by
  cases s with
  | v s => exact V2.val_den h
  | tup cs => exact ⟨_, DL_val (fun _ => V2.val_den) h, rfl⟩
/-- What a plain value's denotation is. -/
theorem S.den_val {s : S} (h : s.plain = true) {v : Value} (hd : s.den ρ σ v) : v = s.val ρ := by
  cases s with
  | z s => cases s <;> first | exact hd | simp [S.plain, S0.plain] at h
  | iface t a cs => simp [S.plain] at h
  | meth n t a cs => simp [S.plain] at h
theorem val_DL {α : Type} {R : α → Value → Prop} {f : α → Value} {p : α → Bool} (hp : ∀ x v, p x = true → R x v → v = f x) : ∀ {l : List α} {vs : List Value}, l.all p = true → DL R l vs → vs = l.map f
  | [], vs, _, hd => DL.nil_inv hd
  | x :: l, vs, h, hd => by
    simp only [List.all_cons, Bool.and_eq_true] at h
    obtain ⟨v, vs', rfl, h1, h2⟩ := DL.cons_inv hd
    rw [hp x v h.1 h1, val_DL hp h.2 h2]
    rfl
theorem V2.den_val {s : V2} (h : s.plain = true) {v : Value} (hd : s.den ρ σ v) : v = s.val ρ := by
  cases s with
  | one s => exact S.den_val h hd
  | agg cs =>
    obtain ⟨vs, h1, rfl⟩ := hd
    rw [val_DL (f := S.val ρ) (fun x v hp hd => S.den_val hp hd) h h1]
    rfl
theorem V.den_val {s : V} (h : s.plain = true) {v : Value} (hd : s.den ρ σ v) : v = s.val ρ := by
  cases s with
  | v s => exact V2.den_val h hd
  | tup cs =>
    obtain ⟨vs, h1, rfl⟩ := hd
    rw [val_DL (f := V2.val ρ) (fun x v hp hd => V2.den_val hp hd) h h1]
    rfl

def CtOne (P : Program) (ρ : Env) (f : FuncId) (c : List V → T V) : Prop :=
  ∀ (args : List V) (v : V), (c args).res ρ v → ∀ (σ : As) (vals : List Value) (W : World), DL (V.den ρ σ) args vals → Below ρ.w.heap.size ρ.w W →
    Calls P f vals.toArray W (fun e W' => ∃ u, e = .returned u ∧ v.den ρ σ u ∧ Below W.heap.size W W')
theorem CtOk.nil : CtOk P [] ρ := fun f c h => by simp [Ct.find] at h
theorem CtOk.cons {f : FuncId} {c : List V → T V} (h : CtOne P ρ f c) (hs : CtOk P ct ρ) : CtOk P ((f, c) :: ct) ρ := by
  intro g d hd
  simp only [Ct.find] at hd
  split at hd
  · rename_i e
    simp only [beq_iff_eq] at e
    subst e
    simp only [Option.some.injEq] at hd
    subst hd
    exact h
  · exact hs g d hd
theorem ctI_ok {f : FuncId} {sh : List Sh} {out : List E → T V} (h : ∀ es : List E, es.length = shLen sh → ∀ v, (out es).res ρ v → v.plain = true ∧ ∀ (W : World), Calls P f (valsSh sh (es.map (E.ev ρ))).toArray W (fun e W' => e = .returned (v.val ρ) ∧ Below W.heap.size W W')) : CtOne P ρ f (ctI sh out) := by
  intro args v hc σ vals W hd hb
  unfold ctI at hc
  split at hc
  · rename_i es he
    obtain ⟨rfl, h2⟩ := argE_den sh args es he vals hd
    obtain ⟨h3, h4⟩ := h es h2 v hc
    refine Calls.mono (h4 W) ?_
    rintro e W' ⟨rfl, hb⟩
    exact ⟨_, rfl, V.val_den h3, hb⟩
  · exact hc.elim
/-- One way out. -/
theorem ctI_one {f : FuncId} {sh : List Sh} {out : AL → V} (hp : ∀ l, (out l).plain = true) (h : ∀ es : List E, es.length = shLen sh → ∀ (W : World), Calls P f (valsSh sh (es.map (E.ev ρ))).toArray W (fun e W' => e = .returned ((out (alE es)).val ρ) ∧ Below W.heap.size W W')) : CtOne P ρ f (ctR sh out) :=
  ctI_ok fun es hl v hv => by obtain rfl := res_ret hv; exact ⟨hp _, h es hl⟩

/-- A function of the program that has a body and is not the one that counts goroutines. -/
def entersB (P : Program) (f : FuncId) : Bool := match P.funcs[f]? with | some fn => !(fn.name == "runtime.NumGoroutine") && fn.body.isSome | none => false
theorem enterable_of {f : FuncId} (h : entersB P f = true) : Enterable P f := by
  unfold entersB at h
  split at h
  · rename_i fn hf
    simp only [Bool.and_eq_true, Bool.not_eq_true'] at h
    obtain ⟨h1, h2⟩ := h
    obtain ⟨c, hc⟩ := Option.isSome_iff_exists.1 h2
    intro args W
    exact run_callFunc hf h1 hc args W
  · simp at h
theorem ctEnter_of (h : ct.all (fun p => entersB P p.1) = true) : CtEnter P ct := by
  induction ct with
  | nil => intro f c hf; simp [Ct.find] at hf
  | cons p ct ih =>
    obtain ⟨g, c⟩ := p
    simp only [List.all_cons, Bool.and_eq_true] at h
    intro f d hf
    simp only [Ct.find] at hf
    split at hf
    · rename_i e
      simp only [beq_iff_eq] at e
      subst e
      exact enterable_of h.1
    · exact ih h.2 f d hf
end
/-- A call whose every way out is a plain value. -/
def plainR (v : V) : Bool := v.plain
theorem exec_plain {P : Program} {ρ : Env} {ct : Ct} (hmix : P.follows .mixedOrders = true) (hct : CtOk P ct ρ) (hce : CtEnter P ct) {n : Nat} {f : FuncId} {args : List V} {t : T OpR} (he : call P ct n f args [] 0 = t) {vals : List Value} {W : World}
    (hb : Below ρ.w.heap.size ρ.w W) (ha : DL (V.den ρ (fun _ => none)) args vals) {v : Value} (hs : t.sat ρ (fun q => q.1.plain = true ∧ q.1.val ρ = v)) :
    Calls P f vals.toArray W (fun e W' => e = .returned v ∧ Below W.heap.size W W') := by
  have key : ∀ {t : T OpR} {K K' : OpR → Prop}, (∀ q, K q → K' q) → t.sat ρ K → t.sat ρ K' := by
    intro t K K' hk
    induction t with
    | ret a => exact hk a
    | ite b t e i1 i2 => exact fun h => ⟨fun q => i1 (h.1 q), fun q => i2 (h.2 q)⟩
    | ob o t ih => exact fun h => ⟨h.1, ih h.2⟩
    | stuck w => exact fun h => h
  refine Calls.mono (exec_calls hmix hct hce he hb ha (K := fun u => u = v) (key (fun q hq u σ' hu => by rw [V.den_val hq.1 hu, hq.2]) hs)) ?_
  rintro e W' ⟨u, rfl, rfl, hb⟩
  exact ⟨rfl, hb⟩
/-- The same for plain arguments. -/
theorem exec_args {P : Program} {ρ : Env} {ct : Ct} (hmix : P.follows .mixedOrders = true) (hct : CtOk P ct ρ) (hce : CtEnter P ct) {n : Nat} {f : FuncId} {args : List V} {t : T OpR} (he : call P ct n f args [] 0 = t) {W : World}
    (hb : Below ρ.w.heap.size ρ.w W) (ha : args.all V.plain = true) {v : Value} (hs : t.sat ρ (fun q => q.1.plain = true ∧ q.1.val ρ = v)) :
    Calls P f (args.map (V.val ρ)).toArray W (fun e W' => e = .returned v ∧ Below W.heap.size W W') :=
  exec_plain hmix hct hce he hb (DL_val (fun _ => V.val_den) ha) hs
def vi (i : Nat) : S := .z (.int .i64 (.var i))
end Go.Proofs.YtfefbckpocbeaaaGreat
