/- A symbolic executor for the program's form: its expressions, its values, its memory, its runs. (The proofs that it is right: the texts Zb and on.) -/
import Derived.RangeFuncLeaves
import Derived.OrdersIn
import Derived.Below
import Derived.WalkKit
import Derived.WalkSpells
import Derived.WalkLawsBesides
import Derived.Handy
import Derived.Lib.Hide
namespace Go.Proofs.YtfefbckpocbeaaaGreat
open Go.RowKit

/-! ### Expressions: integers, values of the caller's memory, truth values -/
mutual
inductive E where
  | lit (n : Int) | var (i : Nat) | ar (o : BinOp) (k : IntKind) (a b : E) | wr (k : IntKind) (a : E) | mx (a b : E) | mn (a b : E)
  | fn (s : Nat) (l : AL) | len (x : X) | cap (x : X) | rd (x : X) (i : E) (sz off : Nat)
inductive X where
  | var (i : Nat) | rd (x : X) (i : E) (sz off : Nat) | sub (x : X) (lo hi mx : E) (sz : Nat)
inductive AL where
  | nil | i (e : E) (r : AL) | x (v : X) (r : AL)
end
inductive B where
  | lit (b : Bool) | var (i : Nat) | cmp (o : BinOp) (a b : E) | not (a : B) | eqb (a b : B) | and (a b : B) | fn (s : Nat) (l : AL) | rd (x : X) (i : E) (sz off : Nat) | isnil (x : X)

inductive Arg where | i (n : Int) | x (v : Value)
structure Env where
  i : Nat → Int
  b : Nat → Bool
  x : Nat → Value
  fi : Nat → List Arg → Int
  fb : Nat → List Arg → Bool
  w : World

def arEv (o : BinOp) (k : IntKind) (a b : Int) : Int :=
  match o with
  | .add => k.wrap (a + b) | .sub => k.wrap (a - b) | .mul => k.wrap (a * b) | .quo => k.wrap (a.tdiv b) | .rem => a.tmod b | _ => 0
def cmpEv (o : BinOp) (a b : Int) : Bool :=
  match o with
  | .eql => a == b | .neq => a != b | .lss => decide (a < b) | .leq => decide (a ≤ b) | .gtr => decide (a > b) | .geq => decide (a ≥ b) | _ => false
def vLen : Value → Nat | .slice _ n _ => n | _ => 0
def vCap : Value → Nat | .slice _ _ c => c | _ => 0
def vNil : Value → Bool | .slice none _ _ => true | .pointer none => true | _ => false
def vAddr : Value → Option Addr | .slice a _ _ => a | .pointer a => a | _ => none
/-- The place off cells behind the start of the element i (of sz cells) of a slice, or of what a pointer leads to. -/
def placeOf (v : Value) (i : Int) (sz off : Nat) : Option Addr := (vAddr v).map fun a => ⟨a.block, a.off + i.toNat * sz + off, none⟩
def cellOf (w : World) (v : Value) (i : Int) (sz off : Nat) : Option Value := (placeOf v i sz off).bind w.cell?
def intIn : Option Value → Int | some (.int _ n) => n | _ => 0
def boolIn : Option Value → Bool | some (.bool b) => b | _ => false
def subOf (v : Value) (lo hi mx : Int) (sz : Nat) : Value :=
  match v with
  | .slice a _ _ => .slice (if mx.toNat = lo.toNat then a else a.map (·.add (lo.toNat * sz))) (hi.toNat - lo.toNat) (mx.toNat - lo.toNat)
  | v => v

mutual
def E.ev (ρ : Env) : E → Int
  | .lit n => n
  | .var i => ρ.i i
  | .ar o k a b => arEv o k (a.ev ρ) (b.ev ρ)
  | .wr k a => k.wrap (a.ev ρ)
  | .mx a b => max (a.ev ρ) (b.ev ρ)
  | .mn a b => min (a.ev ρ) (b.ev ρ)
  | .fn s l => ρ.fi s (l.ev ρ)
  | .len x => vLen (x.ev ρ)
  | .cap x => vCap (x.ev ρ)
  | .rd x i sz off => intIn (cellOf ρ.w (x.ev ρ) (i.ev ρ) sz off)
def X.ev (ρ : Env) : X → Value
  | .var i => ρ.x i
  | .rd x i sz off => (cellOf ρ.w (x.ev ρ) (i.ev ρ) sz off).getD undef
  | .sub x lo hi mx sz => subOf (x.ev ρ) (lo.ev ρ) (hi.ev ρ) (mx.ev ρ) sz
def AL.ev (ρ : Env) : AL → List Arg
  | .nil => []
  | .i e r => .i (e.ev ρ) :: r.ev ρ
  | .x v r => .x (v.ev ρ) :: r.ev ρ
end
def B.ev (ρ : Env) : B → Bool
  | .lit b => b
  | .var i => ρ.b i
  | .cmp o a b => cmpEv o (a.ev ρ) (b.ev ρ)
  | .not a => !a.ev ρ
  | .eqb a b => a.ev ρ == b.ev ρ
  | .and a b => a.ev ρ && b.ev ρ
  | .fn s l => ρ.fb s (l.ev ρ)
  | .rd x i sz off => boolIn (cellOf ρ.w (x.ev ρ) (i.ev ρ) sz off)
  | .isnil x => vNil (x.ev ρ)

/-! The same term -/
mutual
def E.same : E → E → Bool
  | .lit a, b => match b with | .lit a' => decide (a = a') | _ => false
  | .var a, b => match b with | .var a' => decide (a = a') | _ => false
  | .ar o k a c, b => match b with | .ar o' k' a' c' => decide (o = o') && decide (k = k') && E.same a a' && E.same c c' | _ => false
  | .wr k a, b => match b with | .wr k' a' => decide (k = k') && E.same a a' | _ => false
  | .mx a c, b => match b with | .mx a' c' => E.same a a' && E.same c c' | _ => false
  | .mn a c, b => match b with | .mn a' c' => E.same a a' && E.same c c' | _ => false
  | .fn s l, b => match b with | .fn s' l' => decide (s = s') && AL.same l l' | _ => false
  | .len x, b => match b with | .len x' => X.same x x' | _ => false
  | .cap x, b => match b with | .cap x' => X.same x x' | _ => false
  | .rd x i z o, b => match b with | .rd x' i' z' o' => X.same x x' && E.same i i' && decide (z = z') && decide (o = o') | _ => false
def X.same : X → X → Bool
  | .var a, b => match b with | .var a' => decide (a = a') | _ => false
  | .rd x i z o, b => match b with | .rd x' i' z' o' => X.same x x' && E.same i i' && decide (z = z') && decide (o = o') | _ => false
  | .sub x a c d z, b => match b with | .sub x' a' c' d' z' => X.same x x' && E.same a a' && E.same c c' && E.same d d' && decide (z = z') | _ => false
def AL.same : AL → AL → Bool
  | .nil, b => match b with | .nil => true | _ => false
  | .i e r, b => match b with | .i e' r' => E.same e e' && AL.same r r' | _ => false
  | .x e r, b => match b with | .x e' r' => X.same e e' && AL.same r r' | _ => false
end
def B.same : B → B → Bool
  | .lit a, b => match b with | .lit a' => decide (a = a') | _ => false
  | .var a, b => match b with | .var a' => decide (a = a') | _ => false
  | .cmp o a c, b => match b with | .cmp o' a' c' => decide (o = o') && E.same a a' && E.same c c' | _ => false
  | .not a, b => match b with | .not a' => B.same a a' | _ => false
  | .eqb a c, b => match b with | .eqb a' c' => B.same a a' && B.same c c' | _ => false
  | .and a c, b => match b with | .and a' c' => B.same a a' && B.same c c' | _ => false
  | .fn s l, b => match b with | .fn s' l' => decide (s = s') && AL.same l l' | _ => false
  | .rd x i z o, b => match b with | .rd x' i' z' o' => X.same x x' && E.same i i' && decide (z = z') && decide (o = o') | _ => false
  | .isnil x, b => match b with | .isnil x' => X.same x x' | _ => false
mutual
theorem E.same_eq : ∀ (a b : E), E.same a b = true → a = b
  | .lit a, b, h => by cases b <;> simp [E.same] at h; rw [h]
  | .var a, b, h => by cases b <;> simp [E.same] at h; rw [h]
  | .ar o k a c, b, h => by cases b <;> simp [E.same] at h; rw [h.1.1.1, h.1.1.2, E.same_eq _ _ h.1.2, E.same_eq _ _ h.2]
  | .wr k a, b, h => by cases b <;> simp [E.same] at h; rw [h.1, E.same_eq _ _ h.2]
  | .mx a c, b, h => by cases b <;> simp [E.same] at h; rw [E.same_eq _ _ h.1, E.same_eq _ _ h.2]
  | .mn a c, b, h => by cases b <;> simp [E.same] at h; rw [E.same_eq _ _ h.1, E.same_eq _ _ h.2]
  | .fn s l, b, h => by cases b <;> simp [E.same] at h; rw [h.1, AL.same_eq _ _ h.2]
  | .len x, b, h => by cases b <;> simp [E.same] at h; rw [X.same_eq _ _ h]
  | .cap x, b, h => by cases b <;> simp [E.same] at h; rw [X.same_eq _ _ h]
  | .rd x i z o, b, h => by cases b <;> simp [E.same] at h; rw [X.same_eq _ _ h.1.1.1, E.same_eq _ _ h.1.1.2, h.1.2, h.2]
theorem X.same_eq : ∀ (a b : X), X.same a b = true → a = b
  | .var a, b, h => by cases b <;> simp [X.same] at h; rw [h]
  | .rd x i z o, b, h => by cases b <;> simp [X.same] at h; rw [X.same_eq _ _ h.1.1.1, E.same_eq _ _ h.1.1.2, h.1.2, h.2]
  | .sub x a c d z, b, h => by cases b <;> simp [X.same] at h; rw [X.same_eq _ _ h.1.1.1.1, E.same_eq _ _ h.1.1.1.2, E.same_eq _ _ h.1.1.2, E.same_eq _ _ h.1.2, h.2]
theorem AL.same_eq : ∀ (a b : AL), AL.same a b = true → a = b
  | .nil, b, h => by cases b <;> simp [AL.same] at h; rfl
  | .i e r, b, h => by cases b <;> simp [AL.same] at h; rw [E.same_eq _ _ h.1, AL.same_eq _ _ h.2]
  | .x e r, b, h => by cases b <;> simp [AL.same] at h; rw [X.same_eq _ _ h.1, AL.same_eq _ _ h.2]
end
theorem B.same_eq : ∀ (a b : B), B.same a b = true → a = b
  | .lit a, b, h => by cases b <;> simp [B.same] at h; rw [h]
  | .var a, b, h => by cases b <;> simp [B.same] at h; rw [h]
  | .cmp o a c, b, h => by cases b <;> simp [B.same] at h; rw [h.1.1, E.same_eq _ _ h.1.2, E.same_eq _ _ h.2]
  | .not a, b, h => by cases b <;> simp [B.same] at h; rw [B.same_eq _ _ h]
  | .eqb a c, b, h => by cases b <;> simp [B.same] at h; rw [B.same_eq _ _ h.1, B.same_eq _ _ h.2]
  | .and a c, b, h => by cases b <;> simp [B.same] at h; rw [B.same_eq _ _ h.1, B.same_eq _ _ h.2]
  | .fn s l, b, h => by cases b <;> simp [B.same] at h; rw [h.1, AL.same_eq _ _ h.2]
  | .rd x i z o, b, h => by cases b <;> simp [B.same] at h; rw [X.same_eq _ _ h.1.1.1, E.same_eq _ _ h.1.1.2, h.1.2, h.2]
  | .isnil x, b, h => by cases b <;> simp [B.same] at h; rw [X.same_eq _ _ h]

/-! Constructors that reckon with what is known -/
def E.arS (o : BinOp) (k : IntKind) : E → E → E
  | .lit a, .lit b => .lit (arEv o k a b)
  | a, b => .ar o k a b
def E.wrS (k : IntKind) : E → E
  | .lit a => .lit (k.wrap a)
  | a => .wr k a
def E.mxS : E → E → E
  | .lit a, .lit b => .lit (max a b)
  | a, b => .mx a b
def E.mnS : E → E → E
  | .lit a, .lit b => .lit (min a b)
  | a, b => .mn a b
def B.cmpS (o : BinOp) : E → E → B
  | .lit a, .lit b => .lit (cmpEv o a b)
  | a, b => if a.same b then .lit (cmpEv o 0 0) else .cmp o a b
def B.notS : B → B
  | .lit b => .lit (!b)
  | .not a => a
  | a => .not a
def B.eqS : B → B → B
  | .lit a, .lit b => .lit (a == b)
  | .lit true, b => b
  | b, .lit true => b
  | .lit false, b => b.notS
  | b, .lit false => b.notS
  | a, b => if a.same b then .lit true else .eqb a b
def B.andS : B → B → B
  | .lit true, b => b
  | .lit false, _ => .lit false
  | a, .lit true => a
  | a, b => .and a b

/-! ### Values. A value names blocks of the call's own by numbers of the executor's ('ids') -/
inductive S0 where
  | bool (b : B) | int (k : IntKind) (e : E)
  | ptr (id off : Nat)
  | sl (id off len : Nat) (cap : Option Nat)
  | ext (x : X)
  | eptr (x : X) (i : E) (sz off : Nat)
  | clo (f : FuncId) (cap : List (Nat × Nat))
  | yl (id : Nat)
  | const (v : Value)
  | any
inductive S where
  | z (s : S0)
  | iface (t : TypeId) (agg : Bool) (cs : List S0)
  | meth (name : String) (t : TypeId) (agg : Bool) (cs : List S0)
inductive V2 where
  | one (s : S)
  | agg (cs : List S)
inductive V where
  | v (x : V2)
  | tup (l : List V2)
def V2.cells : V2 → List S
  | .one s => [s]
  | .agg cs => cs
def V.any : V := .v (.one (.z .any))
def V.s0 (s : S0) : V := .v (.one (.z s))
def bV (b : B) : V := .s0 (.bool b)
def iV (k : IntKind) (e : E) : V := .s0 (.int k e)

def cS0 : Value → S0
  | .bool b => .bool (.lit b)
  | .int k n => .int k (.lit n)
  | v => .const v
def cV2 : Value → V2
  | .agg cs => .agg (cs.toList.map fun c => .z (cS0 c))
  | v => .one (.z (cS0 v))

/-! ### Memory of the call's own -/
inductive Blk where
  | cells (t : TypeId) (cs : List S)
  | row (t : TypeId) (cs : List S)          -- these cells, and perhaps more behind them
  | loop (st : LoopState) (pend : Option Code) (tm : List V) (ps : List Tmp) (asg body : Code) (df : Nat)
  | dfd (shut : Bool)
  | gone
abbrev Mem := List (Nat × Blk)
def Mem.get : Mem → Nat → Option Blk
  | [], _ => none
  | (i, b) :: m, id => if i == id then some b else Mem.get m id

structure St where
  tm : List V
  mem : Mem
  nx : Nat
  df : List Nat
inductive Ex where | normal | exit (id : Nat) | goto (l : Nat) | ret
def Ex.jump : Ex → Option Code
  | .normal => none
  | .exit id => some (.exit id)
  | .goto l => some (.goto l)
  | .ret => some .ret
def Ex.toExit : Ex → Exit
  | .normal => .normal
  | .exit id => .exit id
  | .goto l => .goto l
  | .ret => .ret

/-! ### Trees of runs -/
inductive CK where | int (k : IntKind) | bool | val
inductive Ob where
  | tru (c : B)                                          -- this is true
  | cells (x : X) (i : E) (sz off : Nat) (ks : List CK)      -- these cells are there, of these kinds
  | place (x : X) (i : E)                                -- the slice has an element with this index
  | slice (x : X)                                        -- this is a slice
inductive T (α : Type) where
  | ret (a : α)
  | ite (b : B) (t e : T α)
  | ob (o : Ob) (t : T α)
  | stuck (why : String)
def T.bind {α β : Type} (f : α → T β) : T α → T β
  | .ret a => f a
  | .ite b t e => .ite b (t.bind f) (e.bind f)
  | .ob o t => .ob o (t.bind f)
  | .stuck s => .stuck s
def T.map {α β : Type} (f : α → β) (t : T α) : T β := t.bind fun a => .ret (f a)
def T.obs {α : Type} : List Ob → T α → T α
  | [], t => t
  | o :: l, t => .ob o (T.obs l t)
def T.opt {α β : Type} (why : String) (o : Option α) (f : α → T β) : T β := match o with | some a => f a | none => .stuck why
/-- A test that may be known. -/
def T.iteS {α : Type} (b : B) (t e : T α) : T α :=
  match b with
  | .lit true => t
  | .lit false => e
  | b => .ite b t e

def scalar : Value → Bool | .agg _ | .tuple _ => false | _ => true
def CK.ok : CK → Value → Prop
  | .int k, v => ∃ n, v = .int k n
  | .bool, v => ∃ b, v = .bool b
  | .val, v => scalar v = true
def Ob.ok (ρ : Env) : Ob → Prop
  | .tru c => c.ev ρ = true
  | .cells x i sz off ks => ∀ (j : Nat) (k : CK), ks[j]? = some k → ∃ v, cellOf ρ.w (x.ev ρ) (i.ev ρ) sz (off + j) = some v ∧ k.ok v
  | .slice x => ∃ a n c, x.ev ρ = .slice a n c ∧ n ≤ c
  | .place x i => 0 ≤ i.ev ρ ∧ i.ev ρ < vLen (x.ev ρ) ∧ ∃ a n c, x.ev ρ = .slice (some a) n c ∧ a.spot = none
/-- What the run comes to. -/
def T.res {α : Type} (ρ : Env) : T α → α → Prop
  | .ret a, x => x = a
  | .ite b t e, x => if b.ev ρ then t.res ρ x else e.res ρ x
  | .ob o t, x => o.ok ρ ∧ t.res ρ x
  | .stuck _, _ => False
/-- Wherever the run comes to, K holds of it. -/
def T.sat {α : Type} (ρ : Env) : T α → (α → Prop) → Prop
  | .ret a, K => K a
  | .ite b t e, K => (b.ev ρ = true → t.sat ρ K) ∧ (b.ev ρ = false → e.sat ρ K)
  | .ob o t, K => o.ok ρ ∧ t.sat ρ K
  | .stuck _, _ => False

theorem T.res_of_sat {α : Type} {ρ : Env} {K : α → Prop} : ∀ {t : T α}, t.sat ρ K → ∃ x, t.res ρ x ∧ K x
  | .ret a, h => ⟨a, rfl, h⟩
  | .ite b t e, h => by
    cases hb : b.ev ρ
    · obtain ⟨x, h1, h2⟩ := T.res_of_sat (h.2 hb)
      exact ⟨x, by simp only [T.res, hb]; exact h1, h2⟩
    · obtain ⟨x, h1, h2⟩ := T.res_of_sat (h.1 hb)
      exact ⟨x, by simp only [T.res, hb]; exact h1, h2⟩
  | .ob o t, h => by
    obtain ⟨x, h1, h2⟩ := T.res_of_sat h.2
    exact ⟨x, ⟨h.1, h1⟩, h2⟩
  | .stuck _, h => h.elim
theorem T.res_bind {α β : Type} {ρ : Env} {f : α → T β} {y : β} : ∀ {t : T α}, (t.bind f).res ρ y → ∃ x, t.res ρ x ∧ (f x).res ρ y
  | .ret a, h => ⟨a, rfl, h⟩
  | .ite b t e, h => by
    simp only [T.bind, T.res] at h
    cases hb : b.ev ρ
    · rw [hb] at h
      obtain ⟨x, h1, h2⟩ := T.res_bind (t := e) h
      exact ⟨x, by simp only [T.res, hb]; exact h1, h2⟩
    · rw [hb] at h
      obtain ⟨x, h1, h2⟩ := T.res_bind (t := t) h
      exact ⟨x, by simp only [T.res, hb]; exact h1, h2⟩
  | .ob o t, h => by
    obtain ⟨x, h1, h2⟩ := T.res_bind h.2
    exact ⟨x, ⟨h.1, h1⟩, h2⟩
  | .stuck _, h => h.elim
theorem T.res_obs {α : Type} {ρ : Env} {t : T α} {x : α} : ∀ {l : List Ob}, (T.obs l t).res ρ x → (∀ o ∈ l, o.ok ρ) ∧ t.res ρ x
  | [], h => ⟨fun _ h => by simp at h, h⟩
  | o :: l, h => by
    obtain ⟨h1, h2⟩ := T.res_obs (l := l) h.2
    exact ⟨fun p hp => by
      rcases List.mem_cons.1 hp with e | hp
      · rw [e]; exact h.1
      · exact h1 p hp, h2⟩
theorem T.res_opt {α β : Type} {ρ : Env} {why : String} {o : Option α} {f : α → T β} {y : β} (h : (T.opt why o f).res ρ y) : ∃ a, o = some a ∧ (f a).res ρ y := by
  cases o with
  | none => exact h.elim
  | some a => exact ⟨a, rfl, h⟩
theorem T.res_iteS {α : Type} {ρ : Env} {b : B} {t e : T α} {x : α} (h : (T.iteS b t e).res ρ x) : (b.ev ρ = true ∧ t.res ρ x) ∨ (b.ev ρ = false ∧ e.res ρ x) := by
  have key : (T.ite b t e).res ρ x → (b.ev ρ = true ∧ t.res ρ x) ∨ (b.ev ρ = false ∧ e.res ρ x) := by
    intro h
    simp only [T.res] at h
    cases hb : b.ev ρ <;> rw [hb] at h
    · exact .inr ⟨rfl, h⟩
    · exact .inl ⟨rfl, h⟩
  unfold T.iteS at h
  split at h
  · exact .inl ⟨rfl, h⟩
  · exact .inr ⟨rfl, h⟩
  · exact key h

/-! The constructors that reckon are right -/
theorem E.arS_ev (ρ : Env) (o : BinOp) (k : IntKind) (a b : E) : (E.arS o k a b).ev ρ = arEv o k (a.ev ρ) (b.ev ρ) := by
  unfold E.arS; split <;> simp [E.ev]
theorem E.wrS_ev (ρ : Env) (k : IntKind) (a : E) : (E.wrS k a).ev ρ = k.wrap (a.ev ρ) := by
  unfold E.wrS; split <;> simp [E.ev]
theorem E.mxS_ev (ρ : Env) (a b : E) : (E.mxS a b).ev ρ = max (a.ev ρ) (b.ev ρ) := by
  unfold E.mxS; split <;> simp [E.ev]
theorem E.mnS_ev (ρ : Env) (a b : E) : (E.mnS a b).ev ρ = min (a.ev ρ) (b.ev ρ) := by
  unfold E.mnS; split <;> simp [E.ev]
theorem B.cmpS_ev (ρ : Env) (o : BinOp) (a b : E) : (B.cmpS o a b).ev ρ = cmpEv o (a.ev ρ) (b.ev ρ) := by
  unfold B.cmpS
  split
  · simp [B.ev, E.ev]
  · split
    · rename_i h
      rw [E.same_eq _ _ h]
      cases o <;> simp [B.ev, cmpEv]
    · rfl
theorem B.notS_ev (ρ : Env) (a : B) : (B.notS a).ev ρ = !a.ev ρ := by
  unfold B.notS; split <;> simp [B.ev]
theorem B.eqS_ev (ρ : Env) (a b : B) : (B.eqS a b).ev ρ = (a.ev ρ == b.ev ρ) := by
  unfold B.eqS
  split
  all_goals try (simp [B.ev, B.notS_ev]; done)
  split
  · rename_i h
    rw [B.same_eq _ _ h]
    simp [B.ev]
  · simp [B.ev]
theorem B.andS_ev (ρ : Env) (a b : B) : (B.andS a b).ev ρ = (a.ev ρ && b.ev ρ) := by
  unfold B.andS; split <;> simp [B.ev]
end Go.Proofs.YtfefbckpocbeaaaGreat
