/- A symbolic executor for the program's form: its expressions, its values, its memory, its runs. (The proofs that it is right: the texts Zb and on.) -/
import Derived.RangeFuncLeaves
import Derived.OrdersIn
import Derived.Below
import Derived.WalkKit
import Derived.WalkSpells
import Derived.WalkLawsBesides
import Derived.Handy
import Derived.Lib.Hide
namespace Go.Proofs.Ytinfmmofcadjgaa
open Go.RowKit


/-! ### Data: what the caller's memory holds -/
inductive D where | i (n : Int) | b (b : Bool) | l (rows : List (List D))
abbrev Rows := List (List D)
def D.int : D → Int | .i n => n | _ => 0
def D.bool : D → Bool | .b x => x | _ => false
def D.rows : D → Rows | .l r => r | _ => []
def cellAt (r : Rows) (i : Int) (j : Nat) : D := ((r[i.toNat]?).getD [])[j]?.getD (.i 0)
/-- Kinds of cells; of a slice, the kinds of its elements' cells. -/
inductive CK where | int (k : IntKind) | bool | sl (ks : List CK)
mutual
def CK.same : CK → CK → Bool
  | .int k, b => match b with | .int k' => decide (k = k') | _ => false
  | .bool, b => match b with | .bool => true | _ => false
  | .sl l, b => match b with | .sl l' => CK.sameL l l' | _ => false
def CK.sameL : List CK → List CK → Bool
  | [], b => match b with | [] => true | _ => false
  | a :: l, b => match b with | a' :: l' => CK.same a a' && CK.sameL l l' | _ => false
end
mutual
theorem CK.same_eq : ∀ (a b : CK), CK.same a b = true → a = b
  | .int k, b, h => by cases b <;> simp [CK.same] at h; rw [h]
  | .bool, b, h => by cases b <;> simp [CK.same] at h; rfl
  | .sl l, b, h => by cases b <;> simp [CK.same] at h; rw [CK.sameL_eq _ _ h]
theorem CK.sameL_eq : ∀ (a b : List CK), CK.sameL a b = true → a = b
  | [], b, h => by cases b <;> simp [CK.sameL] at h; rfl
  | a :: l, b, h => by cases b <;> simp [CK.sameL] at h; rw [CK.same_eq _ _ h.1, CK.sameL_eq _ _ h.2]
end

/-! ### Expressions: integers, truth values, data -/
mutual
inductive E where
  | lit (n : Int) | var (i : Nat) | ar (o : BinOp) (k : IntKind) (a b : E) | wr (k : IntKind) (a : E) | mx (a b : E) | mn (a b : E)
  | fn (s : Nat) (l : AL) | len (x : X) | rd (x : X) (i : E) (j : Nat) | plus (a b : E)
inductive X where
  | var (i : Nat) | nil | rd (x : X) (i : E) (j : Nat) | sub (x : X) (lo hi : E) | app (x y : X) | row (l : AL) | upd (x : X) (i : E) (j : Nat) (l : AL) | fn (s : Nat) (l : AL)
inductive AL where
  | nil | i (e : E) (r : AL) | b (b : B) (r : AL) | x (v : X) (r : AL)
inductive B where
  | lit (b : Bool) | var (i : Nat) | cmp (o : BinOp) (a b : E) | not (a : B) | eqb (a b : B) | and (a b : B) | fn (s : Nat) (l : AL) | rd (x : X) (i : E) (j : Nat)
end

structure Env where
  i : Nat → Int
  b : Nat → Bool
  d : Nat → Rows
  fi : Nat → List D → Int
  fb : Nat → List D → Bool
  fd : Nat → List D → Rows
  w : World

def arEv (o : BinOp) (k : IntKind) (a b : Int) : Int :=
  match o with
  | .add => k.wrap (a + b) | .sub => k.wrap (a - b) | .mul => k.wrap (a * b) | .quo => k.wrap (a.tdiv b) | .rem => a.tmod b | .shr => a.fdiv (2 ^ min b.toNat k.bits) | _ => 0
def cmpEv (o : BinOp) (a b : Int) : Bool :=
  match o with
  | .eql => a == b | .neq => a != b | .lss => decide (a < b) | .leq => decide (a ≤ b) | .gtr => decide (a > b) | .geq => decide (a ≥ b) | _ => false
def subR (r : Rows) (lo hi : Int) : Rows := (r.drop lo.toNat).take (hi.toNat - lo.toNat)
def updR (r : Rows) (i : Int) (j : Nat) (l : List D) : Rows := r.modify i.toNat fun c => c.take j ++ l ++ c.drop (j + l.length)

mutual
def E.ev (ρ : Env) : E → Int
  | .lit n => n
  | .var i => ρ.i i
  | .ar o k a b => arEv o k (a.ev ρ) (b.ev ρ)
  | .wr k a => k.wrap (a.ev ρ)
  | .mx a b => max (a.ev ρ) (b.ev ρ)
  | .mn a b => min (a.ev ρ) (b.ev ρ)
  | .fn s l => ρ.fi s (l.ev ρ)
  | .len x => ((x.ev ρ).length : Nat)
  | .rd x i j => (cellAt (x.ev ρ) (i.ev ρ) j).int
  | .plus a b => a.ev ρ + b.ev ρ
def X.ev (ρ : Env) : X → Rows
  | .var i => ρ.d i
  | .nil => []
  | .rd x i j => (cellAt (x.ev ρ) (i.ev ρ) j).rows
  | .sub x lo hi => subR (x.ev ρ) (lo.ev ρ) (hi.ev ρ)
  | .app x y => x.ev ρ ++ y.ev ρ
  | .row l => [l.ev ρ]
  | .upd x i j l => updR (x.ev ρ) (i.ev ρ) j (l.ev ρ)
  | .fn s l => ρ.fd s (l.ev ρ)
def AL.ev (ρ : Env) : AL → List D
  | .nil => []
  | .i e r => .i (e.ev ρ) :: r.ev ρ
  | .b e r => .b (e.ev ρ) :: r.ev ρ
  | .x v r => .l (v.ev ρ) :: r.ev ρ
def B.ev (ρ : Env) : B → Bool
  | .lit b => b
  | .var i => ρ.b i
  | .cmp o a b => cmpEv o (a.ev ρ) (b.ev ρ)
  | .not a => !a.ev ρ
  | .eqb a b => a.ev ρ == b.ev ρ
  | .and a b => a.ev ρ && b.ev ρ
  | .fn s l => ρ.fb s (l.ev ρ)
  | .rd x i j => (cellAt (x.ev ρ) (i.ev ρ) j).bool
end

/-! The same term -/
mutual
def E.same : E → E → Bool
  | .lit a, b => match b with | .lit a' => decide (a = a') | _ => false
  | .var a, b => match b with | .var a' => Nat.beq a a' | _ => false
  | .ar o k a c, b => match b with | .ar o' k' a' c' => decide (o = o') && decide (k = k') && E.same a a' && E.same c c' | _ => false
  | .wr k a, b => match b with | .wr k' a' => decide (k = k') && E.same a a' | _ => false
  | .mx a c, b => match b with | .mx a' c' => E.same a a' && E.same c c' | _ => false
  | .mn a c, b => match b with | .mn a' c' => E.same a a' && E.same c c' | _ => false
  | .fn s l, b => match b with | .fn s' l' => Nat.beq s s' && AL.same l l' | _ => false
  | .len x, b => match b with | .len x' => X.same x x' | _ => false
  | .rd x i o, b => match b with | .rd x' i' o' => X.same x x' && E.same i i' && Nat.beq o o' | _ => false
  | .plus a c, b => match b with | .plus a' c' => E.same a a' && E.same c c' | _ => false
def X.same : X → X → Bool
  | .var a, b => match b with | .var a' => Nat.beq a a' | _ => false
  | .nil, b => match b with | .nil => true | _ => false
  | .rd x i o, b => match b with | .rd x' i' o' => X.same x x' && E.same i i' && Nat.beq o o' | _ => false
  | .sub x a c, b => match b with | .sub x' a' c' => X.same x x' && E.same a a' && E.same c c' | _ => false
  | .app x y, b => match b with | .app x' y' => X.same x x' && X.same y y' | _ => false
  | .row l, b => match b with | .row l' => AL.same l l' | _ => false
  | .upd x i o l, b => match b with | .upd x' i' o' l' => X.same x x' && E.same i i' && Nat.beq o o' && AL.same l l' | _ => false
  | .fn s l, b => match b with | .fn s' l' => Nat.beq s s' && AL.same l l' | _ => false
def AL.same : AL → AL → Bool
  | .nil, b => match b with | .nil => true | _ => false
  | .i e r, b => match b with | .i e' r' => E.same e e' && AL.same r r' | _ => false
  | .b e r, b => match b with | .b e' r' => B.same e e' && AL.same r r' | _ => false
  | .x e r, b => match b with | .x e' r' => X.same e e' && AL.same r r' | _ => false
def B.same : B → B → Bool
  | .lit a, b => match b with | .lit a' => decide (a = a') | _ => false
  | .var a, b => match b with | .var a' => Nat.beq a a' | _ => false
  | .cmp o a c, b => match b with | .cmp o' a' c' => decide (o = o') && E.same a a' && E.same c c' | _ => false
  | .not a, b => match b with | .not a' => B.same a a' | _ => false
  | .eqb a c, b => match b with | .eqb a' c' => B.same a a' && B.same c c' | _ => false
  | .and a c, b => match b with | .and a' c' => B.same a a' && B.same c c' | _ => false
  | .fn s l, b => match b with | .fn s' l' => Nat.beq s s' && AL.same l l' | _ => false
  | .rd x i o, b => match b with | .rd x' i' o' => X.same x x' && E.same i i' && Nat.beq o o' | _ => false
end
theorem natb {a b : Nat} (h : Nat.beq a b = true) : a = b := Nat.eq_of_beq_eq_true h
mutual
theorem E.same_eq : ∀ (a b : E), E.same a b = true → a = b
  | .lit a, b, h => by cases b <;> simp [E.same] at h; rw [h]
  | .var a, b, h => by cases b <;> simp only [E.same, Bool.false_eq_true] at h; rw [natb h]
  | .ar o k a c, b, h => by cases b <;> simp [E.same] at h; rw [h.1.1.1, h.1.1.2, E.same_eq _ _ h.1.2, E.same_eq _ _ h.2]
  | .wr k a, b, h => by cases b <;> simp [E.same] at h; rw [h.1, E.same_eq _ _ h.2]
  | .mx a c, b, h => by cases b <;> simp [E.same] at h; rw [E.same_eq _ _ h.1, E.same_eq _ _ h.2]
  | .mn a c, b, h => by cases b <;> simp [E.same] at h; rw [E.same_eq _ _ h.1, E.same_eq _ _ h.2]
  | .plus a c, b, h => by cases b <;> simp [E.same] at h; rw [E.same_eq _ _ h.1, E.same_eq _ _ h.2]
  | .fn s l, b, h => by cases b <;> simp only [E.same, Bool.false_eq_true, Bool.and_eq_true] at h; rw [natb h.1, AL.same_eq _ _ h.2]
  | .len x, b, h => by cases b <;> simp [E.same] at h; rw [X.same_eq _ _ h]
  | .rd x i o, b, h => by cases b <;> simp only [E.same, Bool.false_eq_true, Bool.and_eq_true] at h; rw [X.same_eq _ _ h.1.1, E.same_eq _ _ h.1.2, natb h.2]
theorem X.same_eq : ∀ (a b : X), X.same a b = true → a = b
  | .var a, b, h => by cases b <;> simp only [X.same, Bool.false_eq_true] at h; rw [natb h]
  | .nil, b, h => by cases b <;> simp [X.same] at h; rfl
  | .rd x i o, b, h => by cases b <;> simp only [X.same, Bool.false_eq_true, Bool.and_eq_true] at h; rw [X.same_eq _ _ h.1.1, E.same_eq _ _ h.1.2, natb h.2]
  | .sub x a c, b, h => by cases b <;> simp [X.same] at h; rw [X.same_eq _ _ h.1.1, E.same_eq _ _ h.1.2, E.same_eq _ _ h.2]
  | .app x y, b, h => by cases b <;> simp [X.same] at h; rw [X.same_eq _ _ h.1, X.same_eq _ _ h.2]
  | .row l, b, h => by cases b <;> simp [X.same] at h; rw [AL.same_eq _ _ h]
  | .upd x i o l, b, h => by cases b <;> simp only [X.same, Bool.false_eq_true, Bool.and_eq_true] at h; rw [X.same_eq _ _ h.1.1.1, E.same_eq _ _ h.1.1.2, natb h.1.2, AL.same_eq _ _ h.2]
  | .fn s l, b, h => by cases b <;> simp only [X.same, Bool.false_eq_true, Bool.and_eq_true] at h; rw [natb h.1, AL.same_eq _ _ h.2]
theorem AL.same_eq : ∀ (a b : AL), AL.same a b = true → a = b
  | .nil, b, h => by cases b <;> simp [AL.same] at h; rfl
  | .i e r, b, h => by cases b <;> simp [AL.same] at h; rw [E.same_eq _ _ h.1, AL.same_eq _ _ h.2]
  | .b e r, b, h => by cases b <;> simp [AL.same] at h; rw [B.same_eq _ _ h.1, AL.same_eq _ _ h.2]
  | .x e r, b, h => by cases b <;> simp [AL.same] at h; rw [X.same_eq _ _ h.1, AL.same_eq _ _ h.2]
theorem B.same_eq : ∀ (a b : B), B.same a b = true → a = b
  | .lit a, b, h => by cases b <;> simp [B.same] at h; rw [h]
  | .var a, b, h => by cases b <;> simp only [B.same, Bool.false_eq_true] at h; rw [natb h]
  | .cmp o a c, b, h => by cases b <;> simp [B.same] at h; rw [h.1.1, E.same_eq _ _ h.1.2, E.same_eq _ _ h.2]
  | .not a, b, h => by cases b <;> simp [B.same] at h; rw [B.same_eq _ _ h]
  | .eqb a c, b, h => by cases b <;> simp [B.same] at h; rw [B.same_eq _ _ h.1, B.same_eq _ _ h.2]
  | .and a c, b, h => by cases b <;> simp [B.same] at h; rw [B.same_eq _ _ h.1, B.same_eq _ _ h.2]
  | .fn s l, b, h => by cases b <;> simp only [B.same, Bool.false_eq_true, Bool.and_eq_true] at h; rw [natb h.1, AL.same_eq _ _ h.2]
  | .rd x i o, b, h => by cases b <;> simp only [B.same, Bool.false_eq_true, Bool.and_eq_true] at h; rw [X.same_eq _ _ h.1.1, E.same_eq _ _ h.1.2, natb h.2]
end

/-! Constructors that reckon with what is known -/
def E.arS (o : BinOp) (k : IntKind) : E → E → E
  | .lit a, .lit b => .lit (arEv o k a b)
  | a, b => .ar o k a b
def E.wrS (k : IntKind) : E → E
  | .lit a => .lit (k.wrap a)
  | a => .wr k a
def E.mxS : E → E → E
  | .lit a, .lit b => .lit (max a b)
  | a, b => .mx a b
def E.mnS : E → E → E
  | .lit a, .lit b => .lit (min a b)
  | a, b => .mn a b
def E.plusS : E → E → E
  | .lit a, .lit b => .lit (a + b)
  | .lit 0, b => b
  | a, .lit 0 => a
  | a, b => .plus a b
def B.cmpS (o : BinOp) : E → E → B
  | .lit a, .lit b => .lit (cmpEv o a b)
  | a, b => if a.same b then .lit (cmpEv o 0 0) else .cmp o a b
def B.notS : B → B
  | .lit b => .lit (!b)
  | .not a => a
  | a => .not a
def B.eqS : B → B → B
  | .lit a, .lit b => .lit (a == b)
  | .lit true, b => b
  | b, .lit true => b
  | .lit false, b => b.notS
  | b, .lit false => b.notS
  | a, b => if a.same b then .lit true else .eqb a b
def B.andS : B → B → B
  | .lit true, b => b
  | .lit false, _ => .lit false
  | a, .lit true => a
  | a, b => .and a b

/-! ### Values. A value names blocks of the call's own by numbers of the executor's ('ids') -/
inductive S0 where
  | bool (b : B) | int (k : IntKind) (e : E)
  | ptr (id off : Nat)
  | sl (id off len : Nat) (cap : Option Nat)
  | ext (ks : List CK) (x : X) (full : Bool)      -- a slice in the caller's memory; full: it has no room beyond its length
  | eptr (ks : List CK) (x : X) (i : E) (off : Nat)    -- a place in an element of one
  | clo (f : FuncId) (cap : List (Nat × Nat))
  | yl (id : Nat)
  | const (v : Value)
  | any
inductive S where
  | z (s : S0)
  | iface (t : TypeId) (agg : Bool) (cs : List S0)
  | meth (name : String) (t : TypeId) (agg : Bool) (cs : List S0)
inductive V2 where
  | one (s : S)
  | agg (cs : List S)
inductive V where
  | v (x : V2)
  | tup (l : List V2)
def V2.cells : V2 → List S
  | .one s => [s]
  | .agg cs => cs
def V.any : V := .v (.one (.z .any))
def V.s0 (s : S0) : V := .v (.one (.z s))
def bV (b : B) : V := .s0 (.bool b)
def iV (k : IntKind) (e : E) : V := .s0 (.int k e)

def cS0 : Value → S0
  | .bool b => .bool (.lit b)
  | .int k n => .int k (.lit n)
  | v => .const v
def cV2 : Value → V2
  | .agg cs => .agg (cs.toList.map fun c => .z (cS0 c))
  | v => .one (.z (cS0 v))

/-! ### Memory of the call's own -/
inductive Blk where
  | cells (t : TypeId) (cs : List S)
  | row (t : TypeId) (cs : List S)          -- these cells, and perhaps more behind them
  | loop (st : LoopState) (pend : Option Code) (tm : List V) (ps : List Tmp) (asg body : Code) (df : Nat)
  | dfd (shut : Bool)
  | gone
abbrev Mem := List (Nat × Blk)
def Mem.get : Mem → Nat → Option Blk
  | [], _ => none
  | (i, b) :: m, id => if i == id then some b else Mem.get m id

structure St where
  tm : List V
  mem : Mem
  nx : Nat
  df : List Nat
inductive Ex where | normal | exit (id : Nat) | goto (l : Nat) | ret
def Ex.jump : Ex → Option Code
  | .normal => none
  | .exit id => some (.exit id)
  | .goto l => some (.goto l)
  | .ret => some .ret
def Ex.toExit : Ex → Exit
  | .normal => .normal
  | .exit id => .exit id
  | .goto l => .goto l
  | .ret => .ret


/-! ### Terms that don't name the variables from N on -/
mutual
def E.low (N : Nat) : E → Bool
  | .lit _ => true | .var i => Nat.blt i N | .ar _ _ a b => E.low N a && E.low N b | .wr _ a => E.low N a | .mx a b => E.low N a && E.low N b | .mn a b => E.low N a && E.low N b
  | .fn _ l => AL.low N l | .len x => X.low N x | .rd x i _ => X.low N x && E.low N i | .plus a b => E.low N a && E.low N b
def X.low (N : Nat) : X → Bool
  | .var i => Nat.blt i N | .nil => true | .rd x i _ => X.low N x && E.low N i | .sub x a b => X.low N x && E.low N a && E.low N b | .app x y => X.low N x && X.low N y
  | .row l => AL.low N l | .upd x i _ l => X.low N x && E.low N i && AL.low N l | .fn _ l => AL.low N l
def AL.low (N : Nat) : AL → Bool
  | .nil => true | .i e r => E.low N e && AL.low N r | .b e r => B.low N e && AL.low N r | .x v r => X.low N v && AL.low N r
def B.low (N : Nat) : B → Bool
  | .lit _ => true | .var i => Nat.blt i N | .cmp _ a b => E.low N a && E.low N b | .not a => B.low N a | .eqb a b => B.low N a && B.low N b | .and a b => B.low N a && B.low N b
  | .fn _ l => AL.low N l | .rd x i _ => X.low N x && E.low N i
end
/-- Two environments that agree on the variables below N. -/
structure Agree (N : Nat) (ρ ρ' : Env) : Prop where
  i : ∀ k, k < N → ρ.i k = ρ'.i k
  b : ∀ k, k < N → ρ.b k = ρ'.b k
  d : ∀ k, k < N → ρ.d k = ρ'.d k
  fi : ρ.fi = ρ'.fi
  fb : ρ.fb = ρ'.fb
  fd : ρ.fd = ρ'.fd
  w : ρ.w = ρ'.w
theorem blt_lt {a b : Nat} (h : Nat.blt a b = true) : a < b := by simpa [Nat.blt_eq] using h
section
variable {ρ ρ' : Env} {N : Nat}
mutual
theorem E.low_ev (h : Agree N ρ ρ') : ∀ e : E, E.low N e = true → e.ev ρ = e.ev ρ'
  | .lit _, _ => by simp [E.ev]
  | .var i, q => by simp only [E.low] at q; simp only [E.ev]; exact h.i _ (blt_lt q)
  | .ar o k a b, q => by simp only [E.low, Bool.and_eq_true] at q; simp only [E.ev, E.low_ev h a q.1, E.low_ev h b q.2]
  | .wr k a, q => by simp only [E.low] at q; simp only [E.ev, E.low_ev h a q]
  | .mx a b, q => by simp only [E.low, Bool.and_eq_true] at q; simp only [E.ev, E.low_ev h a q.1, E.low_ev h b q.2]
  | .mn a b, q => by simp only [E.low, Bool.and_eq_true] at q; simp only [E.ev, E.low_ev h a q.1, E.low_ev h b q.2]
  | .plus a b, q => by simp only [E.low, Bool.and_eq_true] at q; simp only [E.ev, E.low_ev h a q.1, E.low_ev h b q.2]
  | .fn s l, q => by simp only [E.low] at q; simp only [E.ev, AL.low_ev h l q, h.fi]
  | .len x, q => by simp only [E.low] at q; simp only [E.ev, X.low_ev h x q]
  | .rd x i _, q => by simp only [E.low, Bool.and_eq_true] at q; simp only [E.ev, X.low_ev h x q.1, E.low_ev h i q.2]
theorem X.low_ev (h : Agree N ρ ρ') : ∀ e : X, X.low N e = true → e.ev ρ = e.ev ρ'
  | .var i, q => by simp only [X.low] at q; simp only [X.ev]; exact h.d _ (blt_lt q)
  | .nil, _ => by simp [X.ev]
  | .rd x i _, q => by simp only [X.low, Bool.and_eq_true] at q; simp only [X.ev, X.low_ev h x q.1, E.low_ev h i q.2]
  | .sub x a b, q => by simp only [X.low, Bool.and_eq_true] at q; simp only [X.ev, X.low_ev h x q.1.1, E.low_ev h a q.1.2, E.low_ev h b q.2]
  | .app x y, q => by simp only [X.low, Bool.and_eq_true] at q; simp only [X.ev, X.low_ev h x q.1, X.low_ev h y q.2]
  | .row l, q => by simp only [X.low] at q; simp only [X.ev, AL.low_ev h l q]
  | .upd x i _ l, q => by simp only [X.low, Bool.and_eq_true] at q; simp only [X.ev, X.low_ev h x q.1.1, E.low_ev h i q.1.2, AL.low_ev h l q.2]
  | .fn s l, q => by simp only [X.low] at q; simp only [X.ev, AL.low_ev h l q, h.fd]
theorem AL.low_ev (h : Agree N ρ ρ') : ∀ e : AL, AL.low N e = true → e.ev ρ = e.ev ρ'
  | .nil, _ => by simp [AL.ev]
  | .i e r, q => by simp only [AL.low, Bool.and_eq_true] at q; simp only [AL.ev, E.low_ev h e q.1, AL.low_ev h r q.2]
  | .b e r, q => by simp only [AL.low, Bool.and_eq_true] at q; simp only [AL.ev, B.low_ev h e q.1, AL.low_ev h r q.2]
  | .x e r, q => by simp only [AL.low, Bool.and_eq_true] at q; simp only [AL.ev, X.low_ev h e q.1, AL.low_ev h r q.2]
theorem B.low_ev (h : Agree N ρ ρ') : ∀ e : B, B.low N e = true → e.ev ρ = e.ev ρ'
  | .lit _, _ => by simp [B.ev]
  | .var i, q => by simp only [B.low] at q; simp only [B.ev]; exact h.b _ (blt_lt q)
  | .cmp _ a b, q => by simp only [B.low, Bool.and_eq_true] at q; simp only [B.ev, E.low_ev h a q.1, E.low_ev h b q.2]
  | .not a, q => by simp only [B.low] at q; simp only [B.ev, B.low_ev h a q]
  | .eqb a b, q => by simp only [B.low, Bool.and_eq_true] at q; simp only [B.ev, B.low_ev h a q.1, B.low_ev h b q.2]
  | .and a b, q => by simp only [B.low, Bool.and_eq_true] at q; simp only [B.ev, B.low_ev h a q.1, B.low_ev h b q.2]
  | .fn s l, q => by simp only [B.low] at q; simp only [B.ev, AL.low_ev h l q, h.fb]
  | .rd x i _, q => by simp only [B.low, Bool.and_eq_true] at q; simp only [B.ev, X.low_ev h x q.1, E.low_ev h i q.2]
end
end
/-- Values of a loop's variables. -/
structure LV where
  i : Nat → Int
  b : Nat → Bool
  d : Nat → Rows
def Env.put (ρ : Env) (N : Nat) (v : LV) : Env :=
  { ρ with i := fun k => if k < N then ρ.i k else v.i (k - N), b := fun k => if k < N then ρ.b k else v.b (k - N), d := fun k => if k < N then ρ.d k else v.d (k - N) }
theorem Env.put_put (ρ : Env) (N : Nat) (v v' : LV) : (ρ.put N v).put N v' = ρ.put N v' := by
  unfold Env.put
  congr 1 <;> (funext k; by_cases h : k < N <;> simp [h])
theorem Env.put_agree (ρ : Env) (N : Nat) (v : LV) : Agree N (ρ.put N v) ρ := ⟨fun k h => by simp [Env.put, h], fun k h => by simp [Env.put, h], fun k h => by simp [Env.put, h], rfl, rfl, rfl, rfl⟩
theorem Env.put_congr {ρ ρ' : Env} {N : Nat} (h : Agree N ρ ρ') (v : LV) : ρ.put N v = ρ'.put N v := by
  unfold Env.put
  obtain ⟨i, b, d, fi, fb, fd, w⟩ := ρ
  obtain ⟨i', b', d', fi', fb', fd', w'⟩ := ρ'
  obtain ⟨h1, h2, h3, h4, h5, h6, h7⟩ := h
  simp only at h1 h2 h3 h4 h5 h6 h7
  subst h4 h5 h6 h7
  congr 1
  · funext k; by_cases h : k < N <;> simp [h, h1]
  · funext k; by_cases h : k < N <;> simp [h, h2]
  · funext k; by_cases h : k < N <;> simp [h, h3]
/-- What an environment says of the variables from N on. -/
def Env.from (ρ : Env) (N : Nat) : LV := ⟨fun k => ρ.i (N + k), fun k => ρ.b (N + k), fun k => ρ.d (N + k)⟩
theorem Env.put_from {ρ ρ' : Env} {N : Nat} (h : Agree N ρ ρ') : ρ.put N (ρ'.from N) = ρ' := by
  unfold Env.put Env.from
  obtain ⟨i, b, d, fi, fb, fd, w⟩ := ρ
  obtain ⟨i', b', d', fi', fb', fd', w'⟩ := ρ'
  obtain ⟨h1, h2, h3, h4, h5, h6, h7⟩ := h
  simp only at h1 h2 h3 h4 h5 h6 h7
  subst h4 h5 h6 h7
  congr 1
  · funext k; by_cases h : k < N
    · simp [h, h1]
    · simp only [h, if_false]; congr 1; omega
  · funext k; by_cases h : k < N
    · simp [h, h2]
    · simp only [h, if_false]; congr 1; omega
  · funext k; by_cases h : k < N
    · simp [h, h3]
    · simp only [h, if_false]; congr 1; omega

/-! ### Patterns: a state whose terms name variables from N on -/
structure Asg where
  i : List (Nat × E)
  b : List (Nat × B)
  d : List (Nat × X)
def Asg.nil : Asg := ⟨[], [], []⟩
def Asg.join (a b : Asg) : Asg := ⟨a.i ++ b.i, a.b ++ b.b, a.d ++ b.d⟩
def aget {α : Type} : List (Nat × α) → Nat → Option α
  | [], _ => none
  | (k, x) :: r, j => if k == j then some x else aget r j
def Asg.val (ρ : Env) (m : Asg) : LV :=
  { i := fun j => match aget m.i j with | some e => e.ev ρ | none => 0, b := fun j => match aget m.b j with | some e => e.ev ρ | none => false, d := fun j => match aget m.d j with | some e => e.ev ρ | none => [] }
/-- The values v are those of m, where m says any. -/
structure Asg.fits (m : Asg) (ρ : Env) (v : LV) : Prop where
  i : ∀ j e, aget m.i j = some e → v.i j = e.ev ρ
  b : ∀ j e, aget m.b j = some e → v.b j = e.ev ρ
  d : ∀ j e, aget m.d j = some e → v.d j = e.ev ρ
theorem Asg.val_fits (m : Asg) (ρ : Env) : m.fits ρ (m.val ρ) := ⟨fun j e h => by simp [Asg.val, h], fun j e h => by simp [Asg.val, h], fun j e h => by simp [Asg.val, h]⟩

section
variable (N nx : Nat) (m : Asg)
def okE (p e : E) : Bool := match p with
  | .var j => if Nat.ble N j then (match aget m.i (j - N) with | some e' => E.same e' e | none => false) else E.same (.var j) e
  | p => E.low N p && E.same p e
def okB (p e : B) : Bool := match p with
  | .var j => if Nat.ble N j then (match aget m.b (j - N) with | some e' => B.same e' e | none => false) else B.same (.var j) e
  | p => B.low N p && B.same p e
def okX (p e : X) : Bool := match p with
  | .var j => if Nat.ble N j then (match aget m.d (j - N) with | some e' => X.same e' e | none => false) else X.same (.var j) e
  | p => X.low N p && X.same p e
def sameC : Value → Value → Bool
  | .slice none 0 0, .slice none 0 0 => true
  | .pointer none, .pointer none => true
  | .nilIface, .nilIface => true
  | _, _ => false
def sameCap : List (Nat × Nat) → List (Nat × Nat) → Bool
  | [], [] => true
  | (i, o) :: l, (i', o') :: l' => Nat.beq i i' && Nat.beq o o' && Nat.blt i nx && sameCap l l'
  | _, _ => false
def okS0 (p s : S0) : Bool := match p, s with
  | .any, _ => true
  | .int k p, .int k' e => decide (k = k') && okE N m p e
  | .bool p, .bool e => okB N m p e
  | .ext K x f, .ext K' y f' => CK.sameL K K' && okX N m x y && (!f || f')
  | .eptr K x i o, .eptr K' x' i' o' => CK.sameL K K' && okX N m x x' && okE N m i i' && Nat.beq o o'
  | .ptr i o, .ptr i' o' => Nat.beq i i' && Nat.beq o o' && Nat.blt i nx
  | .sl i o l c, .sl i' o' l' c' => Nat.beq i i' && Nat.beq o o' && Nat.beq l l' && decide (c = c') && Nat.blt i nx
  | .clo f c, .clo f' c' => Nat.beq f f' && sameCap nx c c'
  | .yl i, .yl i' => Nat.beq i i' && Nat.blt i nx
  | .const c, .const c' => sameC c c'
  | _, _ => false
def okS0s : List S0 → List S0 → Bool
  | [], [] => true
  | p :: ps, s :: ss => okS0 N nx m p s && okS0s ps ss
  | _, _ => false
def okS (p s : S) : Bool := match p, s with
  | .z .any, _ => true
  | .z p, .z s => okS0 N nx m p s
  | .iface t a cs, .iface t' a' cs' => Nat.beq t t' && (a == a') && okS0s N nx m cs cs'
  | _, _ => false
def okSs : List S → List S → Bool
  | [], [] => true
  | p :: ps, s :: ss => okS N nx m p s && okSs ps ss
  | _, _ => false
def okV2 : V2 → V2 → Bool
  | .one p, .one s => okS N nx m p s
  | .agg ps, .agg ss => okSs N nx m ps ss
  | _, _ => false
def isAny : V → Bool | .v (.one (.z .any)) => true | _ => false
def fitV (p v : V) : Bool := isAny p || match p, v with | .v p, .v s => okV2 N nx m p s | _, _ => false
def fitVs : List V → List V → Bool
  | [], [] => true
  | p :: ps, v :: vs => fitV N nx m p v && fitVs ps vs
  | _, _ => false
def okBlk : Blk → Blk → Bool
  | .cells t cs, .cells t' cs' => Nat.beq t t' && okSs N nx m cs cs'
  | .row t cs, .row t' cs' => Nat.beq t t' && okSs N nx m cs cs'
  | .loop s pe tm _ _ _ df, .loop s' pe' tm' _ _ _ df' => decide (s = s') && pe.isNone && pe'.isNone && fitVs N nx m tm tm' && Nat.beq df df' && Nat.blt df nx
  | .dfd s, .dfd s' => s == s'
  | .gone, _ => true
  | _, _ => false
def okMem : Mem → Mem → Bool
  | [], _ => true
  | (i, b) :: l, mm => Nat.blt i nx && (match mm.get i with | some b' => okBlk N nx m b b' | none => false) && okMem l mm
end
/-! What the pattern's variables are, taken from a state -/
section
variable (N : Nat)
def getE (p e : E) : Asg := match p with | .var j => if Nat.ble N j then ⟨[(j - N, e)], [], []⟩ else .nil | _ => .nil
def getB (p e : B) : Asg := match p with | .var j => if Nat.ble N j then ⟨[], [(j - N, e)], []⟩ else .nil | _ => .nil
def getX (p e : X) : Asg := match p with | .var j => if Nat.ble N j then ⟨[], [], [(j - N, e)]⟩ else .nil | _ => .nil
def getS0 (p s : S0) : Asg := match p, s with
  | .int _ p, .int _ e => getE N p e
  | .bool p, .bool e => getB N p e
  | .ext _ x _, .ext _ y _ => getX N x y
  | .eptr _ x i _, .eptr _ y e _ => (getX N x y).join (getE N i e)
  | _, _ => .nil
def getS0s : List S0 → List S0 → Asg
  | p :: ps, s :: ss => (getS0 N p s).join (getS0s ps ss)
  | _, _ => .nil
def getS (p s : S) : Asg := match p, s with
  | .z p, .z s => getS0 N p s
  | .iface _ _ ps, .iface _ _ ss => getS0s N ps ss
  | _, _ => .nil
def getSs : List S → List S → Asg
  | p :: ps, s :: ss => (getS N p s).join (getSs ps ss)
  | _, _ => .nil
def getV (p v : V) : Asg := match p, v with
  | .v (.one p), .v (.one s) => getS N p s
  | .v (.agg p), .v (.agg s) => getSs N p s
  | _, _ => .nil
def getVs : List V → List V → Asg
  | p :: ps, v :: vs => (getV N p v).join (getVs ps vs)
  | _, _ => .nil
def getBlk (p b : Blk) : Asg := match p, b with
  | .cells _ ps, .cells _ ss => getSs N ps ss
  | .row _ ps, .row _ ss => getSs N ps ss
  | .loop _ _ tm _ _ _ _, .loop _ _ tm' _ _ _ _ => getVs N tm tm'
  | _, _ => .nil
def getMem : Mem → Mem → Asg
  | [], _ => .nil
  | (i, b) :: l, mm => (match mm.get i with | some b' => getBlk N b b' | none => .nil).join (getMem l mm)
end
def eqNats : List Nat → List Nat → Bool
  | [], [] => true
  | a :: l, b :: r => Nat.beq a b && eqNats l r
  | _, _ => false
theorem eqNats_eq : ∀ {l r : List Nat}, eqNats l r = true → l = r
  | [], [], _ => rfl
  | a :: l, b :: r, h => by simp only [eqNats, Bool.and_eq_true] at h; rw [natb h.1, eqNats_eq h.2]
  | [], _ :: _, h => by simp [eqNats] at h
  | _ :: _, [], h => by simp [eqNats] at h
/-- The pattern's variables, if the state fits it; whatever else it has written is its own. -/
def matchSt (N : Nat) (pat st : St) : Option Asg :=
  let m := (getVs N pat.tm st.tm).join (getMem N pat.mem st.mem)
  if fitVs N pat.nx m pat.tm st.tm && okMem N pat.nx m pat.mem st.mem && eqNats pat.df st.df && st.mem.all (fun q => (pat.mem.get q.1).isSome || Nat.ble pat.nx q.1 && Nat.blt q.1 st.nx) then some m else none

/-! ### Trees of runs -/
inductive Ob where
  | tru (c : B)                                          -- this is true
inductive T : Type → Type 1 where
  | ret {α : Type} (a : α) : T α
  | ite {α : Type} (b : B) (t e : T α) : T α
  | ob {α : Type} (o : Ob) (t : T α) : T α
  | stuck {α : Type} (why : String) : T α
  | loop {α : Type} (N : Nat) (pat : St) (init : Asg) (body : T (Ex × St)) (k : Ex × St → T α) : T α
def T.bind {α β : Type} (f : α → T β) : T α → T β
  | .ret a => f a
  | .ite b t e => .ite b (T.bind f t) (T.bind f e)
  | .ob o t => .ob o (T.bind f t)
  | .stuck s => .stuck s
  | .loop N pat init body k => .loop N pat init body (fun p => T.bind f (k p))
def T.map {α β : Type} (f : α → β) (t : T α) : T β := t.bind fun a => .ret (f a)
def T.obs {α : Type} : List Ob → T α → T α
  | [], t => t
  | o :: l, t => .ob o (T.obs l t)
def T.opt {α β : Type} (why : String) (o : Option α) (f : α → T β) : T β := match o with | some a => f a | none => .stuck why
/-- A test that may be known. -/
def T.iteS {α : Type} (b : B) (t e : T α) : T α :=
  match b with
  | .lit true => t
  | .lit false => e
  | b => .ite b t e

def scalar : Value → Bool | .agg _ | .tuple _ => false | _ => true
def Ob.ok (ρ : Env) : Ob → Prop
  | .tru c => c.ev ρ = true
/-- The rounds of a loop: the values of its variables at the begin of one, and what the last one ends with. The environment knows the last round's values. -/
inductive Rounds (N : Nat) (pat : St) (R : Env → Ex × St → Prop) (ρ : Env) : LV → Ex × St → Prop
  | last {v p} : ρ.put N v = ρ → R ρ p → p.1 ≠ .normal → Rounds N pat R ρ v p
  | next {v p m v' q} : R (ρ.put N v) p → p.1 = .normal → matchSt N pat p.2 = some m → m.fits (ρ.put N v) v' → Rounds N pat R ρ v' q → Rounds N pat R ρ v q
/-- What the run comes to. -/
def T.res {α : Type} (t : T α) (ρ : Env) (x : α) : Prop :=
  match t with
  | .ret a => x = a
  | .ite b t e => if b.ev ρ then T.res t ρ x else T.res e ρ x
  | .ob o t => o.ok ρ ∧ T.res t ρ x
  | .stuck _ => False
  | .loop N pat init body k => ∃ v p, init.fits ρ v ∧ Rounds N pat (fun ρ' p => T.res body ρ' p) ρ v p ∧ T.res (k p) ρ x

theorem T.res_bind {α β : Type} {ρ : Env} {f : α → T β} {y : β} {t : T α} (h : (t.bind f).res ρ y) : ∃ x, t.res ρ x ∧ (f x).res ρ y := by
  induction t with
  | ret a => exact ⟨a, rfl, h⟩
  | ite b t e i1 i2 =>
    simp only [T.bind, T.res] at h
    cases hb : b.ev ρ
    · rw [hb] at h
      obtain ⟨x, h1, h2⟩ := i2 h
      exact ⟨x, by simp only [T.res, hb]; exact h1, h2⟩
    · rw [hb] at h
      obtain ⟨x, h1, h2⟩ := i1 h
      exact ⟨x, by simp only [T.res, hb]; exact h1, h2⟩
  | ob o t ih =>
    obtain ⟨x, h1, h2⟩ := ih h.2
    exact ⟨x, ⟨h.1, h1⟩, h2⟩
  | stuck s => exact h.elim
  | loop N pat init body k _ ih =>
    obtain ⟨v, p, h1, h2, h3⟩ := h
    obtain ⟨x, h4, h5⟩ := ih p h3
    exact ⟨x, ⟨v, p, h1, h2, h4⟩, h5⟩
theorem T.res_obs {α : Type} {ρ : Env} {t : T α} {x : α} : ∀ {l : List Ob}, (T.obs l t).res ρ x → (∀ o ∈ l, o.ok ρ) ∧ t.res ρ x
  | [], h => ⟨fun _ h => by simp at h, h⟩
  | o :: l, h => by
    obtain ⟨h1, h2⟩ := T.res_obs (l := l) h.2
    exact ⟨fun p hp => by
      rcases List.mem_cons.1 hp with e | hp
      · rw [e]; exact h.1
      · exact h1 p hp, h2⟩
theorem T.res_opt {α β : Type} {ρ : Env} {why : String} {o : Option α} {f : α → T β} {y : β} (h : (T.opt why o f).res ρ y) : ∃ a, o = some a ∧ (f a).res ρ y := by
  cases o with
  | none => exact h.elim
  | some a => exact ⟨a, rfl, h⟩
theorem T.res_iteS {α : Type} {ρ : Env} {b : B} {t e : T α} {x : α} (h : (T.iteS b t e).res ρ x) : (b.ev ρ = true ∧ t.res ρ x) ∨ (b.ev ρ = false ∧ e.res ρ x) := by
  have key : (T.ite b t e).res ρ x → (b.ev ρ = true ∧ t.res ρ x) ∨ (b.ev ρ = false ∧ e.res ρ x) := by
    intro h
    simp only [T.res] at h
    cases hb : b.ev ρ <;> rw [hb] at h
    · exact .inr ⟨rfl, h⟩
    · exact .inl ⟨rfl, h⟩
  unfold T.iteS at h
  split at h
  · exact .inl ⟨by simp [B.ev], h⟩
  · exact .inr ⟨by simp [B.ev], h⟩
  · exact key h
theorem res_ret {α : Type} {ρ : Env} {x y : α} (h : (T.ret x).res ρ y) : y = x := by simp only [T.res] at h; exact h

/-! The constructors that reckon are right -/
theorem E.arS_ev (ρ : Env) (o : BinOp) (k : IntKind) (a b : E) : (E.arS o k a b).ev ρ = arEv o k (a.ev ρ) (b.ev ρ) := by
  unfold E.arS; split <;> simp [E.ev]
theorem E.wrS_ev (ρ : Env) (k : IntKind) (a : E) : (E.wrS k a).ev ρ = k.wrap (a.ev ρ) := by
  unfold E.wrS; split <;> simp [E.ev]
theorem E.mxS_ev (ρ : Env) (a b : E) : (E.mxS a b).ev ρ = max (a.ev ρ) (b.ev ρ) := by
  unfold E.mxS; split <;> simp [E.ev]
theorem E.mnS_ev (ρ : Env) (a b : E) : (E.mnS a b).ev ρ = min (a.ev ρ) (b.ev ρ) := by
  unfold E.mnS; split <;> simp [E.ev]
theorem E.plusS_ev (ρ : Env) (a b : E) : (E.plusS a b).ev ρ = a.ev ρ + b.ev ρ := by
  unfold E.plusS; split <;> simp [E.ev]
theorem B.cmpS_ev (ρ : Env) (o : BinOp) (a b : E) : (B.cmpS o a b).ev ρ = cmpEv o (a.ev ρ) (b.ev ρ) := by
  unfold B.cmpS
  split
  · simp [B.ev, E.ev]
  · split
    · rename_i h
      rw [E.same_eq _ _ h]
      cases o <;> simp [B.ev, cmpEv]
    · rfl
theorem B.notS_ev (ρ : Env) (a : B) : (B.notS a).ev ρ = !a.ev ρ := by
  unfold B.notS; split <;> simp [B.ev]
theorem B.eqS_ev (ρ : Env) (a b : B) : (B.eqS a b).ev ρ = (a.ev ρ == b.ev ρ) := by
  unfold B.eqS
  split
  all_goals try (simp [B.ev, B.notS_ev]; done)
  split
  · rename_i h
    rw [B.same_eq _ _ h]
    simp [B.ev]
  · simp [B.ev]
theorem B.andS_ev (ρ : Env) (a b : B) : (B.andS a b).ev ρ = (a.ev ρ && b.ev ρ) := by
  unfold B.andS; split <;> simp [B.ev]
end Go.Proofs.Ytinfmmofcadjgaa
