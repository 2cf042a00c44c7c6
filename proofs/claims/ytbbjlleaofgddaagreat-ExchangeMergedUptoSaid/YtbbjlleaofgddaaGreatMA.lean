/- MA, merged: Za, Zb, Zc, Zd, Ze, Zf, Zg. -/
import Derived.RangeFuncLeaves
import Derived.OrdersIn
import Derived.Below
import Derived.WalkKit
import Derived.WalkSpells
import Derived.WalkLawsBesides
import Derived.Handy
import Derived.Lib.Hide
import Derived.Laws.OwnMore
import Derived.ArgAppend
import Derived.ChangeKeysEq
set_option linter.unusedSimpArgs false
set_option linter.unusedVariables false
namespace Go.Proofs.YtbbjlleaofgddaaGreat
open Go.RowKit
inductive D where | i (n:Int) | b (b:Bool) | l (rows:List (List D))
abbrev Rows:=List (List D)
def D.int:D→Int | .i n=>n | _=>0
def D.bool:D→Bool | .b x=>x | _=>false
def D.rows:D→Rows | .l r=>r | _=>[]
def o5(r:Rows)(i:Int)(j:Nat):D:=((r[i.toNat]?).getD [])[j]?.getD (.i 0)
inductive CK where | int (k:IntKind) | bool | sl (ks:List CK)
mutual
def CK.same:CK→CK→Bool
 | .int k,b=>match b with | .int k'=>decide (k=k') | _=>false
 | .bool,b=>match b with | .bool=>true | _=>false
 | .sl l,b=>match b with | .sl l'=>CK.sameL l l' | _=>false
def CK.sameL:List CK→List CK→Bool
 | [],b=>match b with | []=>true | _=>false
 | a::l,b=>match b with | a'::l'=>CK.same a a'&&CK.sameL l l' | _=>false
end
mutual
theorem CK.same_eq:∀(a b:CK),CK.same a b=true→a=b
 | .int k,b,h=>by cases b<;>simp [CK.same] at h;rw[h]
 | .bool,b,h=>by cases b<;>simp [CK.same] at h;rfl
 | .sl l,b,h=>by cases b<;>simp [CK.same] at h;rw[CK.sameL_eq _ _ h]
theorem CK.sameL_eq:∀(a b:List CK),CK.sameL a b=true→a=b
 | [],b,h=>by cases b<;>simp [CK.sameL] at h;rfl
 | a::l,b,h=>by cases b<;>simp [CK.sameL] at h;rw[CK.same_eq _ _ h.1,CK.sameL_eq _ _ h.2]
end
mutual
inductive E where
 | lit (n:Int) | var (i:Nat) | ar (o:BinOp) (k:IntKind) (a b:E) | wr (k:IntKind) (a:E) | mx (a b:E) | mn (a b:E)
 | fn (s:Nat) (l:AL) | len (x:X) | rd (x:X) (i:E) (j:Nat) | plus (a b:E)
inductive X where
 | var (i:Nat) | nil | rd (x:X) (i:E) (j:Nat) | sub (x:X) (lo hi:E) | app (x y:X) | row (l:AL) | upd (x:X) (i:E) (j:Nat) (l:AL) | fn (s:Nat) (l:AL) | rep (n:E) (l:AL)
inductive AL where
 | nil | i (e:E) (r:AL) | b (b:B) (r:AL) | x (v:X) (r:AL)
inductive B where
 | lit (b:Bool) | var (i:Nat) | cmp (o:BinOp) (a b:E) | not (a:B) | eqb (a b:B) | and (a b:B) | fn (s:Nat) (l:AL) | rd (x:X) (i:E) (j:Nat)
end
structure Env where
 i:Nat→Int
 b:Nat→Bool
 d:Nat→Rows
 fi:Nat→List D→Int
 fb:Nat→List D→Bool
 fd:Nat→List D→Rows
 w:World
def B4(o:BinOp)(k:IntKind)(a b:Int):Int:=
 match o with
 | .and=>k.wrap (BitVec.ofInt k.bits a &&& BitVec.ofInt k.bits b).toNat
 | .or=>k.wrap (BitVec.ofInt k.bits a ||| BitVec.ofInt k.bits b).toNat
 | .xor=>k.wrap (BitVec.ofInt k.bits a ^^^ BitVec.ofInt k.bits b).toNat
 | .andNot=>k.wrap (BitVec.ofInt k.bits a &&& ~~~BitVec.ofInt k.bits b).toNat
 | _=>0
def u4(o:BinOp)(k:IntKind)(a b:Int):Int:=
 match o with
 | .add=>k.wrap (a+b) | .sub=>k.wrap (a-b) | .mul=>k.wrap (a*b) | .quo=>k.wrap (a.tdiv b) | .rem=>a.tmod b | .shr=>a.fdiv (2^min b.toNat k.bits)
 | .shl=>k.wrap (a*2^min b.toNat k.bits) | .and=>B4 .and k a b | .or=>B4 .or k a b | .xor=>B4 .xor k a b | .andNot=>B4 .andNot k a b | _=>0
def s7(o:BinOp)(a b:Int):Bool:=
 match o with
 | .eql=>a == b | .neq=>a != b | .lss=>decide (a<b) | .leq=>decide (a≤b) | .gtr=>decide (a>b) | .geq=>decide (a≥b) | _=>false
def k5(r:Rows)(lo hi:Int):Rows:=(r.drop lo.toNat).take (hi.toNat-lo.toNat)
def z9(r:Rows)(i:Int)(j:Nat)(l:List D):Rows:=r.modify i.toNat fun c=>c.take j++l++c.drop (j+l.length)
mutual
def E.ev(ρ:Env):E→Int
 | .lit n=>n
 | .var i=>ρ.i i
 | .ar o k a b=>u4 o k (a.ev ρ) (b.ev ρ)
 | .wr k a=>k.wrap (a.ev ρ)
 | .mx a b=>max (a.ev ρ) (b.ev ρ)
 | .mn a b=>min (a.ev ρ) (b.ev ρ)
 | .fn s l=>ρ.fi s (l.ev ρ)
 | .len x=>((x.ev ρ).length:Nat)
 | .rd x i j=>(o5 (x.ev ρ) (i.ev ρ) j).int
 | .plus a b=>a.ev ρ+b.ev ρ
def X.ev(ρ:Env):X→Rows
 | .var i=>ρ.d i
 | .nil=>[]
 | .rd x i j=>(o5 (x.ev ρ) (i.ev ρ) j).rows
 | .sub x lo hi=>k5 (x.ev ρ) (lo.ev ρ) (hi.ev ρ)
 | .app x y=>x.ev ρ++y.ev ρ
 | .row l=>[l.ev ρ]
 | .upd x i j l=>z9 (x.ev ρ) (i.ev ρ) j (l.ev ρ)
 | .fn s l=>ρ.fd s (l.ev ρ)
 | .rep n l=>List.replicate (n.ev ρ).toNat (l.ev ρ)
def AL.ev(ρ:Env):AL→List D
 | .nil=>[]
 | .i e r=> .i (e.ev ρ)::r.ev ρ
 | .b e r=> .b (e.ev ρ)::r.ev ρ
 | .x v r=> .l (v.ev ρ)::r.ev ρ
def B.ev(ρ:Env):B→Bool
 | .lit b=>b
 | .var i=>ρ.b i
 | .cmp o a b=>s7 o (a.ev ρ) (b.ev ρ)
 | .not a=> !a.ev ρ
 | .eqb a b=>a.ev ρ == b.ev ρ
 | .and a b=>a.ev ρ&&b.ev ρ
 | .fn s l=>ρ.fb s (l.ev ρ)
 | .rd x i j=>(o5 (x.ev ρ) (i.ev ρ) j).bool
end
mutual
def E.same:E→E→Bool
 | .lit a,b=>match b with | .lit a'=>decide (a=a') | _=>false
 | .var a,b=>match b with | .var a'=>Nat.beq a a' | _=>false
 | .ar o k a c,b=>match b with | .ar o' k' a' c'=>decide (o=o')&&decide (k=k')&&E.same a a'&&E.same c c' | _=>false
 | .wr k a,b=>match b with | .wr k' a'=>decide (k=k')&&E.same a a' | _=>false
 | .mx a c,b=>match b with | .mx a' c'=>E.same a a'&&E.same c c' | _=>false
 | .mn a c,b=>match b with | .mn a' c'=>E.same a a'&&E.same c c' | _=>false
 | .fn s l,b=>match b with | .fn s' l'=>Nat.beq s s'&&AL.same l l' | _=>false
 | .len x,b=>match b with | .len x'=>X.same x x' | _=>false
 | .rd x i o,b=>match b with | .rd x' i' o'=>X.same x x'&&E.same i i'&&Nat.beq o o' | _=>false
 | .plus a c,b=>match b with | .plus a' c'=>E.same a a'&&E.same c c' | _=>false
def X.same:X→X→Bool
 | .var a,b=>match b with | .var a'=>Nat.beq a a' | _=>false
 | .nil,b=>match b with | .nil=>true | _=>false
 | .rd x i o,b=>match b with | .rd x' i' o'=>X.same x x'&&E.same i i'&&Nat.beq o o' | _=>false
 | .sub x a c,b=>match b with | .sub x' a' c'=>X.same x x'&&E.same a a'&&E.same c c' | _=>false
 | .app x y,b=>match b with | .app x' y'=>X.same x x'&&X.same y y' | _=>false
 | .row l,b=>match b with | .row l'=>AL.same l l' | _=>false
 | .upd x i o l,b=>match b with | .upd x' i' o' l'=>X.same x x'&&E.same i i'&&Nat.beq o o'&&AL.same l l' | _=>false
 | .fn s l,b=>match b with | .fn s' l'=>Nat.beq s s'&&AL.same l l' | _=>false
 | .rep n l,b=>match b with | .rep n' l'=>E.same n n'&&AL.same l l' | _=>false
def AL.same:AL→AL→Bool
 | .nil,b=>match b with | .nil=>true | _=>false
 | .i e r,b=>match b with | .i e' r'=>E.same e e'&&AL.same r r' | _=>false
 | .b e r,b=>match b with | .b e' r'=>B.same e e'&&AL.same r r' | _=>false
 | .x e r,b=>match b with | .x e' r'=>X.same e e'&&AL.same r r' | _=>false
def B.same:B→B→Bool
 | .lit a,b=>match b with | .lit a'=>decide (a=a') | _=>false
 | .var a,b=>match b with | .var a'=>Nat.beq a a' | _=>false
 | .cmp o a c,b=>match b with | .cmp o' a' c'=>decide (o=o')&&E.same a a'&&E.same c c' | _=>false
 | .not a,b=>match b with | .not a'=>B.same a a' | _=>false
 | .eqb a c,b=>match b with | .eqb a' c'=>B.same a a'&&B.same c c' | _=>false
 | .and a c,b=>match b with | .and a' c'=>B.same a a'&&B.same c c' | _=>false
 | .fn s l,b=>match b with | .fn s' l'=>Nat.beq s s'&&AL.same l l' | _=>false
 | .rd x i o,b=>match b with | .rd x' i' o'=>X.same x x'&&E.same i i'&&Nat.beq o o' | _=>false
end
theorem i9{a b:Nat}(h:Nat.beq a b=true):a=b:=Nat.eq_of_beq_eq_true h
mutual
theorem E.same_eq:∀(a b:E),E.same a b=true→a=b
 | .lit a,b,h=>by cases b<;>simp [E.same] at h;rw[h]
 | .var a,b,h=>by cases b<;>simp only[E.same,Bool.false_eq_true] at h;rw[i9 h]
 | .ar o k a c,b,h=>by cases b<;>simp [E.same] at h;rw[h.1.1.1,h.1.1.2,E.same_eq _ _ h.1.2,E.same_eq _ _ h.2]
 | .wr k a,b,h=>by cases b<;>simp [E.same] at h;rw[h.1,E.same_eq _ _ h.2]
 | .mx a c,b,h=>by cases b<;>simp [E.same] at h;rw[E.same_eq _ _ h.1,E.same_eq _ _ h.2]
 | .mn a c,b,h=>by cases b<;>simp [E.same] at h;rw[E.same_eq _ _ h.1,E.same_eq _ _ h.2]
 | .plus a c,b,h=>by cases b<;>simp [E.same] at h;rw[E.same_eq _ _ h.1,E.same_eq _ _ h.2]
 | .fn s l,b,h=>by cases b<;>simp only[E.same,Bool.false_eq_true,Bool.and_eq_true] at h;rw[i9 h.1,AL.same_eq _ _ h.2]
 | .len x,b,h=>by cases b<;>simp [E.same] at h;rw[X.same_eq _ _ h]
 | .rd x i o,b,h=>by cases b<;>simp only[E.same,Bool.false_eq_true,Bool.and_eq_true] at h;rw[X.same_eq _ _ h.1.1,E.same_eq _ _ h.1.2,i9 h.2]
theorem X.same_eq:∀(a b:X),X.same a b=true→a=b
 | .var a,b,h=>by cases b<;>simp only[X.same,Bool.false_eq_true] at h;rw[i9 h]
 | .nil,b,h=>by cases b<;>simp [X.same] at h;rfl
 | .rd x i o,b,h=>by cases b<;>simp only[X.same,Bool.false_eq_true,Bool.and_eq_true] at h;rw[X.same_eq _ _ h.1.1,E.same_eq _ _ h.1.2,i9 h.2]
 | .sub x a c,b,h=>by cases b<;>simp [X.same] at h;rw[X.same_eq _ _ h.1.1,E.same_eq _ _ h.1.2,E.same_eq _ _ h.2]
 | .app x y,b,h=>by cases b<;>simp [X.same] at h;rw[X.same_eq _ _ h.1,X.same_eq _ _ h.2]
 | .row l,b,h=>by cases b<;>simp [X.same] at h;rw[AL.same_eq _ _ h]
 | .upd x i o l,b,h=>by cases b<;>simp only[X.same,Bool.false_eq_true,Bool.and_eq_true] at h;rw[X.same_eq _ _ h.1.1.1,E.same_eq _ _ h.1.1.2,i9 h.1.2,AL.same_eq _ _ h.2]
 | .fn s l,b,h=>by cases b<;>simp only[X.same,Bool.false_eq_true,Bool.and_eq_true] at h;rw[i9 h.1,AL.same_eq _ _ h.2]
 | .rep n l,b,h=>by cases b<;>simp only[X.same,Bool.false_eq_true,Bool.and_eq_true] at h;rw[E.same_eq _ _ h.1,AL.same_eq _ _ h.2]
theorem AL.same_eq:∀(a b:AL),AL.same a b=true→a=b
 | .nil,b,h=>by cases b<;>simp [AL.same] at h;rfl
 | .i e r,b,h=>by cases b<;>simp [AL.same] at h;rw[E.same_eq _ _ h.1,AL.same_eq _ _ h.2]
 | .b e r,b,h=>by cases b<;>simp [AL.same] at h;rw[B.same_eq _ _ h.1,AL.same_eq _ _ h.2]
 | .x e r,b,h=>by cases b<;>simp [AL.same] at h;rw[X.same_eq _ _ h.1,AL.same_eq _ _ h.2]
theorem B.same_eq:∀(a b:B),B.same a b=true→a=b
 | .lit a,b,h=>by cases b<;>simp [B.same] at h;rw[h]
 | .var a,b,h=>by cases b<;>simp only[B.same,Bool.false_eq_true] at h;rw[i9 h]
 | .cmp o a c,b,h=>by cases b<;>simp [B.same] at h;rw[h.1.1,E.same_eq _ _ h.1.2,E.same_eq _ _ h.2]
 | .not a,b,h=>by cases b<;>simp [B.same] at h;rw[B.same_eq _ _ h]
 | .eqb a c,b,h=>by cases b<;>simp [B.same] at h;rw[B.same_eq _ _ h.1,B.same_eq _ _ h.2]
 | .and a c,b,h=>by cases b<;>simp [B.same] at h;rw[B.same_eq _ _ h.1,B.same_eq _ _ h.2]
 | .fn s l,b,h=>by cases b<;>simp only[B.same,Bool.false_eq_true,Bool.and_eq_true] at h;rw[i9 h.1,AL.same_eq _ _ h.2]
 | .rd x i o,b,h=>by cases b<;>simp only[B.same,Bool.false_eq_true,Bool.and_eq_true] at h;rw[X.same_eq _ _ h.1.1,E.same_eq _ _ h.1.2,i9 h.2]
end
def E.arS(o:BinOp)(k:IntKind):E→E→E
 | .lit a,.lit b=> .lit (u4 o k a b)
 | a,b=> .ar o k a b
def E.wrS(k:IntKind):E→E
 | .lit a=> .lit (k.wrap a)
 | a=> .wr k a
def E.mxS:E→E→E
 | .lit a,.lit b=> .lit (max a b)
 | a,b=> .mx a b
def E.mnS:E→E→E
 | .lit a,.lit b=> .lit (min a b)
 | a,b=> .mn a b
def E.plusS:E→E→E
 | .lit a,.lit b=> .lit (a+b)
 | .lit 0,b=>b
 | a,.lit 0=>a
 | a,b=> .plus a b
def B.cmpS(o:BinOp):E→E→B
 | .lit a,.lit b=> .lit (s7 o a b)
 | a,b=>if a.same b then .lit (s7 o 0 0) else .cmp o a b
def B.notS:B→B
 | .lit b=> .lit (!b)
 | .not a=>a
 | a=> .not a
def B.eqS:B→B→B
 | .lit a,.lit b=> .lit (a == b)
 | .lit true,b=>b
 | b,.lit true=>b
 | .lit false,b=>b.notS
 | b,.lit false=>b.notS
 | a,b=>if a.same b then .lit true else .eqb a b
def B.andS:B→B→B
 | .lit true,b=>b
 | .lit false,_=> .lit false
 | a,.lit true=>a
 | a,b=> .and a b
inductive S0 where
 | bool (b:B) | int (k:IntKind) (e:E)
 | ptr (id off:Nat)
 | sl (id off len:Nat) (cap:Option Nat)
 | ext (ks:List CK) (x:X) (full:Bool)
 | eptr (ks:List CK) (x:X) (i:E) (off:Nat)
 | clo (f:FuncId) (cap:List (Nat×Nat))
 | own (id:Nat) (ver:E)
 | ovw (id:Nat) (ver:E) (k:Nat) (lo hi:E) (full:Bool)
 | optr (id:Nat) (ver:E) (k:Nat) (i:E) (off:Nat)
 | yl (id:Nat)
 | chn (id:Nat)
 | bptr (id:Nat) (ver:E) (off:Nat)
 | const (v:Value)
 | any
inductive S where
 | z (s:S0)
 | iface (t:TypeId) (agg:Bool) (cs:List S0)
 | meth (name:String) (t:TypeId) (agg:Bool) (cs:List S0)
 | via (t:Option TypeId) (f:FuncId) (agg:Bool) (cs:List S0)
inductive V2 where
 | one (s:S)
 | agg (cs:List S)
inductive V where
 | v (x:V2)
 | tup (l:List V2)
def V2.cells:V2→List S
 | .one s=>[s]
 | .agg cs=>cs
def V.any:V:= .v (.one (.z .any))
def V.s0(s:S0):V:= .v (.one (.z s))
def bV(b:B):V:= .s0 (.bool b)
def iV(k:IntKind)(e:E):V:= .s0 (.int k e)
def cS0:Value→S0
 | .bool b=> .bool (.lit b)
 | .int k n=> .int k (.lit n)
 | v=> .const v
def E6:Value→V2
 | .agg cs=> .agg (cs.toList.map fun c=> .z (cS0 c))
 | v=> .one (.z (cS0 v))
def j5:Nat:=1000000000
def M4(d:Nat):Nat:=if Nat.ble j5 d then d-j5 else d
inductive Blk where
 | cells (t:TypeId) (cs:List S)
 | row (t:TypeId) (cs:List S)
 | own (t:TypeId) (ks:List CK) (x:X) (ver:E)
 | loop (st:LoopState) (pend:Option Code) (tm:List V) (ps:List Tmp) (asg body:Code) (df:Nat)
 | dfd (shut:Bool)
 | dfm
 | vbox (t:TypeId) (cs:List S) (ver:E)
 | chn (k:IntKind) (x:X) (cap:E)
 | gone
abbrev Mem:=List (Nat×Blk)
def Mem.get:Mem→Nat→Option Blk
 | [],_=>none
 | (i,b)::m,id=>if i == id then some b else Mem.get m id
structure St where
 tm:List V
 mem:Mem
 nx:Nat
 df:List Nat
inductive Ex where | normal | exit (id:Nat) | goto (l:Nat) | ret
def Ex.jump:Ex→Option Code
 | .normal=>none
 | .exit id=>some (.exit id)
 | .goto l=>some (.goto l)
 | .ret=>some .ret
def Ex.toExit:Ex→Exit
 | .normal=> .normal
 | .exit id=> .exit id
 | .goto l=> .goto l
 | .ret=> .ret
mutual
def E.low(N:Nat):E→Bool
 | .lit _=>true | .var i=>Nat.blt i N | .ar _ _ a b=>E.low N a&&E.low N b | .wr _ a=>E.low N a | .mx a b=>E.low N a&&E.low N b | .mn a b=>E.low N a&&E.low N b
 | .fn _ l=>AL.low N l | .len x=>X.low N x | .rd x i _=>X.low N x&&E.low N i | .plus a b=>E.low N a&&E.low N b
def X.low(N:Nat):X→Bool
 | .var i=>Nat.blt i N | .nil=>true | .rd x i _=>X.low N x&&E.low N i | .sub x a b=>X.low N x&&E.low N a&&E.low N b | .app x y=>X.low N x&&X.low N y
 | .row l=>AL.low N l | .upd x i _ l=>X.low N x&&E.low N i&&AL.low N l | .fn _ l=>AL.low N l | .rep n l=>E.low N n&&AL.low N l
def AL.low(N:Nat):AL→Bool
 | .nil=>true | .i e r=>E.low N e&&AL.low N r | .b e r=>B.low N e&&AL.low N r | .x v r=>X.low N v&&AL.low N r
def B.low(N:Nat):B→Bool
 | .lit _=>true | .var i=>Nat.blt i N | .cmp _ a b=>E.low N a&&E.low N b | .not a=>B.low N a | .eqb a b=>B.low N a&&B.low N b | .and a b=>B.low N a&&B.low N b
 | .fn _ l=>AL.low N l | .rd x i _=>X.low N x&&E.low N i
end
structure Agree (N:Nat) (ρ ρ':Env):Prop where
 i:∀k,k<N→ρ.i k=ρ'.i k
 b:∀k,k<N→ρ.b k=ρ'.b k
 d:∀k,k<N→ρ.d k=ρ'.d k
 fi:ρ.fi=ρ'.fi
 fb:ρ.fb=ρ'.fb
 fd:ρ.fd=ρ'.fd
 w:ρ.w=ρ'.w
theorem o7{a b:Nat}(h:Nat.blt a b=true):a<b:=by simpa [Nat.blt_eq] using h
section
variable {ρ ρ':Env} {N:Nat}
mutual
theorem E.low_ev(h:Agree N ρ ρ'):∀e:E,E.low N e=true→e.ev ρ=e.ev ρ'
 | .lit _,_=>by simp [E.ev]
 | .var i,q=>by simp only[E.low] at q;simp only[E.ev];exact h.i _ (o7 q)
 | .ar o k a b,q=>by simp only[E.low,Bool.and_eq_true] at q;simp only[E.ev,E.low_ev h a q.1,E.low_ev h b q.2]
 | .wr k a,q=>by simp only[E.low] at q;simp only[E.ev,E.low_ev h a q]
 | .mx a b,q=>by simp only[E.low,Bool.and_eq_true] at q;simp only[E.ev,E.low_ev h a q.1,E.low_ev h b q.2]
 | .mn a b,q=>by simp only[E.low,Bool.and_eq_true] at q;simp only[E.ev,E.low_ev h a q.1,E.low_ev h b q.2]
 | .plus a b,q=>by simp only[E.low,Bool.and_eq_true] at q;simp only[E.ev,E.low_ev h a q.1,E.low_ev h b q.2]
 | .fn s l,q=>by simp only[E.low] at q;simp only[E.ev,AL.low_ev h l q,h.fi]
 | .len x,q=>by simp only[E.low] at q;simp only[E.ev,X.low_ev h x q]
 | .rd x i _,q=>by simp only[E.low,Bool.and_eq_true] at q;simp only[E.ev,X.low_ev h x q.1,E.low_ev h i q.2]
theorem X.low_ev(h:Agree N ρ ρ'):∀e:X,X.low N e=true→e.ev ρ=e.ev ρ'
 | .var i,q=>by simp only[X.low] at q;simp only[X.ev];exact h.d _ (o7 q)
 | .nil,_=>by simp [X.ev]
 | .rd x i _,q=>by simp only[X.low,Bool.and_eq_true] at q;simp only[X.ev,X.low_ev h x q.1,E.low_ev h i q.2]
 | .sub x a b,q=>by simp only[X.low,Bool.and_eq_true] at q;simp only[X.ev,X.low_ev h x q.1.1,E.low_ev h a q.1.2,E.low_ev h b q.2]
 | .app x y,q=>by simp only[X.low,Bool.and_eq_true] at q;simp only[X.ev,X.low_ev h x q.1,X.low_ev h y q.2]
 | .row l,q=>by simp only[X.low] at q;simp only[X.ev,AL.low_ev h l q]
 | .upd x i _ l,q=>by simp only[X.low,Bool.and_eq_true] at q;simp only[X.ev,X.low_ev h x q.1.1,E.low_ev h i q.1.2,AL.low_ev h l q.2]
 | .fn s l,q=>by simp only[X.low] at q;simp only[X.ev,AL.low_ev h l q,h.fd]
 | .rep n l,q=>by simp only[X.low,Bool.and_eq_true] at q;simp only[X.ev,E.low_ev h n q.1,AL.low_ev h l q.2]
theorem AL.low_ev(h:Agree N ρ ρ'):∀e:AL,AL.low N e=true→e.ev ρ=e.ev ρ'
 | .nil,_=>by simp [AL.ev]
 | .i e r,q=>by simp only[AL.low,Bool.and_eq_true] at q;simp only[AL.ev,E.low_ev h e q.1,AL.low_ev h r q.2]
 | .b e r,q=>by simp only[AL.low,Bool.and_eq_true] at q;simp only[AL.ev,B.low_ev h e q.1,AL.low_ev h r q.2]
 | .x e r,q=>by simp only[AL.low,Bool.and_eq_true] at q;simp only[AL.ev,X.low_ev h e q.1,AL.low_ev h r q.2]
theorem B.low_ev(h:Agree N ρ ρ'):∀e:B,B.low N e=true→e.ev ρ=e.ev ρ'
 | .lit _,_=>by simp [B.ev]
 | .var i,q=>by simp only[B.low] at q;simp only[B.ev];exact h.b _ (o7 q)
 | .cmp _ a b,q=>by simp only[B.low,Bool.and_eq_true] at q;simp only[B.ev,E.low_ev h a q.1,E.low_ev h b q.2]
 | .not a,q=>by simp only[B.low] at q;simp only[B.ev,B.low_ev h a q]
 | .eqb a b,q=>by simp only[B.low,Bool.and_eq_true] at q;simp only[B.ev,B.low_ev h a q.1,B.low_ev h b q.2]
 | .and a b,q=>by simp only[B.low,Bool.and_eq_true] at q;simp only[B.ev,B.low_ev h a q.1,B.low_ev h b q.2]
 | .fn s l,q=>by simp only[B.low] at q;simp only[B.ev,AL.low_ev h l q,h.fb]
 | .rd x i _,q=>by simp only[B.low,Bool.and_eq_true] at q;simp only[B.ev,X.low_ev h x q.1,E.low_ev h i q.2]
end
end
structure LV where
 i:Nat→Int
 b:Nat→Bool
 d:Nat→Rows
def Env.put(ρ:Env)(N:Nat)(v:LV):Env:=
 { ρ with i:=fun k=>if k<N then ρ.i k else v.i (k-N),b:=fun k=>if k<N then ρ.b k else v.b (k-N),d:=fun k=>if k<N then ρ.d k else v.d (k-N) }
theorem Env.put_put(ρ:Env)(N:Nat)(v v':LV):(ρ.put N v).put N v'=ρ.put N v':=by
 unfold Env.put
 congr 1<;>(funext k;by_cases h:k<N<;>simp [h])
theorem Env.put_agree(ρ:Env)(N:Nat)(v:LV):Agree N (ρ.put N v) ρ:=⟨fun k h=>by simp [Env.put,h],fun k h=>by simp [Env.put,h],fun k h=>by simp [Env.put,h],rfl,rfl,rfl,rfl⟩
theorem Env.put_congr{ρ ρ':Env}{N:Nat}(h:Agree N ρ ρ')(v:LV):ρ.put N v=ρ'.put N v:=by
 unfold Env.put
 obtain⟨i,b,d,fi,fb,fd,w⟩:=ρ
 obtain⟨i',b',d',fi',fb',fd',w'⟩:=ρ'
 obtain⟨h1,h2,h3,h4,h5,h6,h7⟩:=h
 simp only at h1 h2 h3 h4 h5 h6 h7
 subst h4 h5 h6 h7
 congr 1
 ·funext k;by_cases h:k<N<;>simp [h,h1]
 ·funext k;by_cases h:k<N<;>simp [h,h2]
 ·funext k;by_cases h:k<N<;>simp [h,h3]
def Env.from(ρ:Env)(N:Nat):LV:=⟨fun k=>ρ.i (N+k),fun k=>ρ.b (N+k),fun k=>ρ.d (N+k)⟩
theorem Env.put_from{ρ ρ':Env}{N:Nat}(h:Agree N ρ ρ'):ρ.put N (ρ'.from N)=ρ':=by
 unfold Env.put Env.from
 obtain⟨i,b,d,fi,fb,fd,w⟩:=ρ
 obtain⟨i',b',d',fi',fb',fd',w'⟩:=ρ'
 obtain⟨h1,h2,h3,h4,h5,h6,h7⟩:=h
 simp only at h1 h2 h3 h4 h5 h6 h7
 subst h4 h5 h6 h7
 congr 1
 ·funext k;by_cases h:k<N
  ·simp [h,h1]
  ·simp only[h,if_false];congr 1;omega
 ·funext k;by_cases h:k<N
  ·simp [h,h2]
  ·simp only[h,if_false];congr 1;omega
 ·funext k;by_cases h:k<N
  ·simp [h,h3]
  ·simp only[h,if_false];congr 1;omega
structure Asg where
 i:List (Nat×E)
 b:List (Nat×B)
 d:List (Nat×X)
def Asg.nil:Asg:=⟨[],[],[]⟩
def Asg.join(a b:Asg):Asg:=⟨a.i++b.i,a.b++b.b,a.d++b.d⟩
def j6{α:Type}:List (Nat×α)→Nat→Option α
 | [],_=>none
 | (k,x)::r,j=>if k == j then some x else j6 r j
def Asg.val(ρ:Env)(m:Asg):LV:=
 { i:=fun j=>match j6 m.i j with | some e=>e.ev ρ | none=>0,b:=fun j=>match j6 m.b j with | some e=>e.ev ρ | none=>false,d:=fun j=>match j6 m.d j with | some e=>e.ev ρ | none=>[] }
structure Asg.fits (m:Asg) (ρ:Env) (v:LV):Prop where
 i:∀j e,j6 m.i j=some e→v.i j=e.ev ρ
 b:∀j e,j6 m.b j=some e→v.b j=e.ev ρ
 d:∀j e,j6 m.d j=some e→v.d j=e.ev ρ
section
variable (N nx:Nat) (m:Asg)
def Y5(p e:E):Bool:=match p with
 | .var j=>if Nat.ble N j then(match j6 m.i (j-N) with | some e'=>E.same e' e | none=>false) else E.same (.var j) e
 | p=>E.low N p&&E.same p e
def okB(p e:B):Bool:=match p with
 | .var j=>if Nat.ble N j then(match j6 m.b (j-N) with | some e'=>B.same e' e | none=>false) else B.same (.var j) e
 | p=>B.low N p&&B.same p e
def okX(p e:X):Bool:=match p with
 | .var j=>if Nat.ble N j then(match j6 m.d (j-N) with | some e'=>X.same e' e | none=>false) else X.same (.var j) e
 | p=>X.low N p&&X.same p e
def b1F:Value→Value→Bool
 | .slice none 0 0,.slice none 0 0=>true
 | .pointer none,.pointer none=>true
 | .nilIface,.nilIface=>true
 | _,_=>false
def U0:List (Nat×Nat)→List (Nat×Nat)→Bool
 | [],[]=>true
 | (i,o)::l,(i',o')::l'=>Nat.beq i i'&&Nat.beq o o'&&Nat.blt i nx&&U0 l l'
 | _,_=>false
def a5m(p s:S0):Bool:=match p,s with
 | .any,_=>true
 | .int k p,.int k' e=>decide (k=k')&&Y5 N m p e
 | .bool p,.bool e=>okB N m p e
 | .ext K x f,.ext K' y f'=>CK.sameL K K'&&okX N m x y&&(!f||f')
 | .eptr K x i o,.eptr K' x' i' o'=>CK.sameL K K'&&okX N m x x'&&Y5 N m i i'&&Nat.beq o o'
 | .ptr i o,.ptr i' o'=>Nat.beq i i'&&Nat.beq o o'&&Nat.blt i nx
 | .sl i o l c,.sl i' o' l' c'=>Nat.beq i i'&&Nat.beq o o'&&Nat.beq l l'&&decide (c=c')&&Nat.blt i nx
 | .clo f c,.clo f' c'=>Nat.beq f f'&&U0 nx c c'
 | .own i v,.own i' v'=>Nat.beq i i'&&Nat.blt i nx&&Y5 N m v v'
 | .ovw i v k a b f,.ovw i' v' k' a' b' f'=>Nat.beq i i'&&Nat.blt i nx&&Y5 N m v v'&&Nat.beq k k'&&Y5 N m a a'&&Y5 N m b b'&&(f == f')
 | .optr i v k e o,.optr i' v' k' e' o'=>Nat.beq i i'&&Nat.blt i nx&&Y5 N m v v'&&Nat.beq k k'&&Y5 N m e e'&&Nat.beq o o'
 | .yl i,.yl i'=>Nat.beq i i'&&Nat.blt i nx
 | .chn i,.chn i'=>Nat.beq i i'&&Nat.blt i nx
 | .bptr i v o,.bptr i' v' o'=>Nat.beq i i'&&Nat.blt i nx&&Y5 N m v v'&&Nat.beq o o'
 | .const c,.const c'=>b1F c c'
 | _,_=>false
def a0T:List S0→List S0→Bool
 | [],[]=>true
 | p::ps,s::ss=>a5m N nx m p s&&a0T ps ss
 | _,_=>false
def okS(p s:S):Bool:=match p,s with
 | .z .any,_=>true
 | .z p,.z s=>a5m N nx m p s
 | .iface t a cs,.iface t' a' cs'=>Nat.beq t t'&&(a == a')&&a0T N nx m cs cs'
 | .via t f a cs,.via t' f' a' cs'=>(match t,t' with | none,none=>true | some t,some t'=>Nat.beq t t' | _,_=>false)&&Nat.beq f f'&&(a == a')&&a0T N nx m cs cs'
 | _,_=>false
def a1h:List S→List S→Bool
 | [],[]=>true
 | p::ps,s::ss=>okS N nx m p s&&a1h ps ss
 | _,_=>false
def b8e:V2→V2→Bool
 | .one p,.one s=>okS N nx m p s
 | .agg ps,.agg ss=>a1h N nx m ps ss
 | _,_=>false
def b2d:V→Bool | .v (.one (.z .any))=>true | _=>false
def a8W(p v:V):Bool:=b2d p||match p,v with | .v p,.v s=>b8e N nx m p s | _,_=>false
def B6:List V→List V→Bool
 | [],[]=>true
 | p::ps,v::vs=>a8W N nx m p v&&B6 ps vs
 | _,_=>false
def a6W:Blk→Blk→Bool
 | .cells t cs,.cells t' cs'=>Nat.beq t t'&&a1h N nx m cs cs'
 | .row t cs,.row t' cs'=>Nat.beq t t'&&a1h N nx m cs cs'
 | .own t ks x v,.own t' ks' x' v'=>Nat.beq t t'&&CK.sameL ks ks'&&okX N m x x'&&Y5 N m v v'
 | .loop s pe tm _ _ _ df,.loop s' pe' tm' _ _ _ df'=>decide (s=s')&&pe.isNone&&pe'.isNone&&B6 N nx m tm tm'&&Nat.beq df df'&&Nat.blt df nx
 | .dfd s,.dfd s'=>s == s'
 | .dfm,.dfm=>true
 | .chn k x c,.chn k' x' c'=>decide (k=k')&&okX N m x x'&&Y5 N m c c'
 | .vbox t cs v,.vbox t' cs' v'=>Nat.beq t t'&&a1h N nx m cs cs'&&Y5 N m v v'
 | .gone,_=>true
 | _,_=>false
def a4N:Mem→Mem→Bool
 | [],_=>true
 | (i,b)::l,mm=>Nat.blt i nx&&(match mm.get i with | some b'=>a6W N nx m b b' | none=>false)&&a4N l mm
end
section
variable (N:Nat)
def S3(p e:E):Asg:=match p with | .var j=>if Nat.ble N j then⟨[(j-N,e)],[],[]⟩ else .nil | _=> .nil
def c6L(p e:B):Asg:=match p with | .var j=>if Nat.ble N j then⟨[],[(j-N,e)],[]⟩ else .nil | _=> .nil
def b1z(p e:X):Asg:=match p with | .var j=>if Nat.ble N j then⟨[],[],[(j-N,e)]⟩ else .nil | _=> .nil
def b9M(p s:S0):Asg:=match p,s with
 | .int _ p,.int _ e=>S3 N p e
 | .bool p,.bool e=>c6L N p e
 | .ext _ x _,.ext _ y _=>b1z N x y
 | .eptr _ x i _,.eptr _ y e _=>(b1z N x y).join (S3 N i e)
 | .own _ v,.own _ v'=>S3 N v v'
 | .ovw _ v _ a b _,.ovw _ v' _ a' b' _=>(S3 N v v').join ((S3 N a a').join (S3 N b b'))
 | .optr _ v _ e _,.optr _ v' _ e' _=>(S3 N v v').join (S3 N e e')
 | .bptr _ v _,.bptr _ v' _=>S3 N v v'
 | _,_=> .nil
def b3R:List S0→List S0→Asg
 | p::ps,s::ss=>(b9M N p s).join (b3R ps ss)
 | _,_=> .nil
def c2H(p s:S):Asg:=match p,s with
 | .z p,.z s=>b9M N p s
 | .iface _ _ ps,.iface _ _ ss=>b3R N ps ss
 | _,_=> .nil
def a4k:List S→List S→Asg
 | p::ps,s::ss=>(c2H N p s).join (a4k ps ss)
 | _,_=> .nil
def c6u(p v:V):Asg:=match p,v with
 | .v (.one p),.v (.one s)=>c2H N p s
 | .v (.agg p),.v (.agg s)=>a4k N p s
 | _,_=> .nil
def b1V:List V→List V→Asg
 | p::ps,v::vs=>(c6u N p v).join (b1V ps vs)
 | _,_=> .nil
def c1W(p b:Blk):Asg:=match p,b with
 | .cells _ ps,.cells _ ss=>a4k N ps ss
 | .row _ ps,.row _ ss=>a4k N ps ss
 | .own _ _ x v,.own _ _ x' v'=>(b1z N x x').join (S3 N v v')
 | .chn _ x c,.chn _ x' c'=>(b1z N x x').join (S3 N c c')
 | .vbox _ ps v,.vbox _ ss v'=>(a4k N ps ss).join (S3 N v v')
 | .loop _ _ tm _ _ _ _,.loop _ _ tm' _ _ _ _=>b1V N tm tm'
 | _,_=> .nil
def b3W:Mem→Mem→Asg
 | [],_=> .nil
 | (i,b)::l,mm=>(match mm.get i with | some b'=>c1W N b b' | none=> .nil).join (b3W l mm)
end
def H0:List Nat→List Nat→Bool
 | [],[]=>true
 | a::l,b::r=>Nat.beq a b&&H0 l r
 | _,_=>false
theorem J7:∀ {l r:List Nat},H0 l r=true→l=r
 | [],[],_=>rfl
 | a::l,b::r,h=>by simp only[H0,Bool.and_eq_true] at h;rw[i9 h.1,J7 h.2]
 | [],_::_,h=>by simp [H0] at h
 | _::_,[],h=>by simp [H0] at h
def a1q(nx top:Nat)(mm:Mem)(d:Nat)(l:List Nat):List Nat→Bool
 | []=>false
 | x::s=>(Nat.beq x d&&H0 l s)||(Nat.ble nx x&&Nat.blt x top&&Nat.blt x j5&&(match mm.get x with | some (.dfd false)=>true | _=>false)&& !s.contains x&&a1q nx top mm d l s)
def a0z:Option Blk→Bool | some .dfm=>true | _=>false
def a7j(pat st:St):Bool:=H0 pat.df st.df||(match pat.df with | d::l=>Nat.ble j5 d&&a0z (pat.mem.get (d-j5))&&a1q pat.nx st.nx st.mem d l st.df | []=>false)
def v7(N:Nat)(pat st:St):Option Asg:=
 let m:=(b1V N pat.tm st.tm).join (b3W N pat.mem st.mem)
 if B6 N pat.nx m pat.tm st.tm&&a4N N pat.nx m pat.mem st.mem&&a7j pat st&&st.mem.all (fun q=>(pat.mem.get q.1).isSome||Nat.ble pat.nx q.1&&Nat.blt q.1 st.nx) then some m else none
inductive Ob where
 | tru (c:B)
inductive T:Type→Type 1 where
 | ret {α:Type} (a:α):T α
 | ite {α:Type} (b:B) (t e:T α):T α
 | ob {α:Type} (o:Ob) (t:T α):T α
 | stuck {α:Type} (why:String):T α
 | loop {α:Type} (N:Nat) (pat:St) (init:Asg) (body:T (Ex×St)) (k:Ex×St→T α):T α
def T.bind{α β:Type}(f:α→T β):T α→T β
 | .ret a=>f a
 | .ite b t e=> .ite b (T.bind f t) (T.bind f e)
 | .ob o t=> .ob o (T.bind f t)
 | .stuck s=> .stuck s
 | .loop N pat init body k=> .loop N pat init body (fun p=>T.bind f (k p))
def T.map{α β:Type}(f:α→β)(t:T α):T β:=t.bind fun a=> .ret (f a)
def T.obs{α:Type}:List Ob→T α→T α
 | [],t=>t
 | o::l,t=> .ob o (T.obs l t)
def T.iteS{α:Type}(b:B)(t e:T α):T α:=
 match b with
 | .lit true=>t
 | .lit false=>e
 | b=> .ite b t e
def G9:Value→Bool | .agg _ | .tuple _=>false | _=>true
def Ob.ok(ρ:Env):Ob→Prop
 | .tru c=>c.ev ρ=true
inductive Rounds (N:Nat) (pat:St) (R:Env→Ex×St→Prop) (ρ:Env):LV→Ex×St→Prop
 | last {v p}:ρ.put N v=ρ→R ρ p→p.1≠ .normal→Rounds N pat R ρ v p
 | next {v p m v' q}:R (ρ.put N v) p→p.1= .normal→v7 N pat p.2=some m→m.fits (ρ.put N v) v'→Rounds N pat R ρ v' q→Rounds N pat R ρ v q
def T.res{α:Type}(t:T α)(ρ:Env)(x:α):Prop:=
 match t with
 | .ret a=>x=a
 | .ite b t e=>if b.ev ρ then T.res t ρ x else T.res e ρ x
 | .ob o t=>o.ok ρ∧T.res t ρ x
 | .stuck _=>False
 | .loop N pat init body k=>∃v p,init.fits ρ v∧Rounds N pat (fun ρ' p=>T.res body ρ' p) ρ v p∧T.res (k p) ρ x
theorem T.res_bind{α β:Type}{ρ:Env}{f:α→T β}{y:β}{t:T α}(h:(t.bind f).res ρ y):∃x,t.res ρ x∧(f x).res ρ y:=by
 induction t with
 | ret a=>exact⟨a,rfl,h⟩
 | ite b t e i1 i2=>
   simp only[T.bind,T.res] at h
   cases hb:b.ev ρ
   ·rw[hb] at h
    obtain⟨x,h1,h2⟩:=i2 h
    exact⟨x,by simp only[T.res,hb];exact h1,h2⟩
   ·rw[hb] at h
    obtain⟨x,h1,h2⟩:=i1 h
    exact⟨x,by simp only[T.res,hb];exact h1,h2⟩
 | ob o t ih=>
   obtain⟨x,h1,h2⟩:=ih h.2
   exact⟨x,⟨h.1,h1⟩,h2⟩
 | stuck s=>exact h.elim
 | loop N pat init body k _ ih=>
   obtain⟨v,p,h1,h2,h3⟩:=h
   obtain⟨x,h4,h5⟩:=ih p h3
   exact⟨x,⟨v,p,h1,h2,h4⟩,h5⟩
theorem T.res_obs{α:Type}{ρ:Env}{t:T α}{x:α}:∀ {l:List Ob},(T.obs l t).res ρ x→(∀o∈l,o.ok ρ)∧t.res ρ x
 | [],h=>⟨fun _ h=>by simp at h,h⟩
 | o::l,h=>by
   obtain⟨h1,h2⟩:=T.res_obs (l:=l) h.2
   exact⟨fun p hp=>by
    rcases List.mem_cons.1 hp with e | hp
    ·rw[e];exact h.1
    ·exact h1 p hp,h2⟩
theorem T.res_iteS{α:Type}{ρ:Env}{b:B}{t e:T α}{x:α}(h:(T.iteS b t e).res ρ x):(b.ev ρ=true∧t.res ρ x)∨(b.ev ρ=false∧e.res ρ x):=by
 have key:(T.ite b t e).res ρ x→(b.ev ρ=true∧t.res ρ x)∨(b.ev ρ=false∧e.res ρ x):=by
  intro h
  simp only[T.res] at h
  cases hb:b.ev ρ<;>rw[hb] at h
  ·exact .inr ⟨rfl,h⟩
  ·exact .inl ⟨rfl,h⟩
 unfold T.iteS at h
 split at h
 ·exact .inl ⟨by simp [B.ev],h⟩
 ·exact .inr ⟨by simp [B.ev],h⟩
 ·exact key h
theorem g9{α:Type}{ρ:Env}{x y:α}(h:(T.ret x).res ρ y):y=x:=by simp only[T.res] at h;exact h
theorem E.arS_ev(ρ:Env)(o:BinOp)(k:IntKind)(a b:E):(E.arS o k a b).ev ρ=u4 o k (a.ev ρ) (b.ev ρ):=by
 unfold E.arS;split<;>simp [E.ev]
theorem E.wrS_ev(ρ:Env)(k:IntKind)(a:E):(E.wrS k a).ev ρ=k.wrap (a.ev ρ):=by
 unfold E.wrS;split<;>simp [E.ev]
theorem E.mxS_ev(ρ:Env)(a b:E):(E.mxS a b).ev ρ=max (a.ev ρ) (b.ev ρ):=by
 unfold E.mxS;split<;>simp [E.ev]
theorem E.mnS_ev(ρ:Env)(a b:E):(E.mnS a b).ev ρ=min (a.ev ρ) (b.ev ρ):=by
 unfold E.mnS;split<;>simp [E.ev]
theorem E.plusS_ev(ρ:Env)(a b:E):(E.plusS a b).ev ρ=a.ev ρ+b.ev ρ:=by
 unfold E.plusS;split<;>simp [E.ev]
theorem B.cmpS_ev(ρ:Env)(o:BinOp)(a b:E):(B.cmpS o a b).ev ρ=s7 o (a.ev ρ) (b.ev ρ):=by
 unfold B.cmpS
 split
 ·simp [B.ev,E.ev]
 ·split
  ·rename_i h
   rw[E.same_eq _ _ h]
   cases o<;>simp [B.ev,s7]
  ·rfl
theorem B.notS_ev(ρ:Env)(a:B):(B.notS a).ev ρ= !a.ev ρ:=by
 unfold B.notS;split<;>simp [B.ev]
theorem B.eqS_ev(ρ:Env)(a b:B):(B.eqS a b).ev ρ=(a.ev ρ == b.ev ρ):=by
 unfold B.eqS
 split
 all_goals try (simp [B.ev,B.notS_ev];done)
 split
 ·rename_i h
  rw[B.same_eq _ _ h]
  simp [B.ev]
 ·simp [B.ev]
theorem B.andS_ev(ρ:Env)(a b:B):(B.andS a b).ev ρ=(a.ev ρ&&b.ev ρ):=by
 unfold B.andS;split<;>simp [B.ev]
end Go.Proofs.YtbbjlleaofgddaaGreat
namespace Go.Proofs.YtbbjlleaofgddaaGreat
open Go.RowKit
def S0.ids:S0→List Nat
 | .ptr id _=>[id] | .sl id _ _ _=>[id] | .clo _ cap=>cap.map (·.1) | .yl id=>[id] | .chn id=>[id] | .bptr id _ _=>[id] | .own id _=>[id] | .ovw id _ _ _ _ _=>[id] | .optr id _ _ _ _=>[id] | _=>[]
def S.ids:S→List Nat
 | .z s=>s.ids
 | .iface _ _ cs=>cs.flatMap S0.ids
 | .meth _ _ _ cs=>cs.flatMap S0.ids
 | .via _ _ _ cs=>cs.flatMap S0.ids
def V2.ids:V2→List Nat
 | .one s=>s.ids
 | .agg cs=>cs.flatMap S.ids
def V.ids:V→List Nat
 | .v x=>x.ids
 | .tup l=>l.flatMap V2.ids
def Blk.ids:Blk→List Nat
 | .cells _ cs=>cs.flatMap S.ids
 | .row _ cs=>cs.flatMap S.ids
 | .vbox _ cs _=>cs.flatMap S.ids
 | .loop _ _ tm _ _ _ df=>df::tm.flatMap V.ids
 | _=>[]
def S0.solid:S0→Bool
 | .any=>false
 | .const v=>G9 v
 | _=>true
def S.solid:S→Bool
 | .z s=>s.solid
 | .iface _ _ _=>true
 | .meth _ _ _ _=>true
 | .via _ _ _ _=>true
def V2.solid:V2→Bool
 | .one s=>s.solid
 | .agg cs=>cs.all S.solid
def G2(tm:List V):Operand→V
 | .tmp t=>tm.getD t V.any
 | .const v=> .v (E6 v)
 | .func f=> .s0 (.clo f [])
 | .global _=>V.any
def R2(f:TypeId→Option (List CK)):List Field→Option (List CK)
 | []=>some []
 | x::r=>match f x.type,R2 f r with
   | some a,some b=>some (a++b)
   | _,_=>none
def A4(P:Program):Nat→TypeId→Option (List CK)
 | 0,_=>none
 | n+1,t=>match P.underlying t with
   | some (.int k)=>some [.int k]
   | some .bool=>some [.bool]
   | some (.slice e)=>(A4 P n e).map fun l=>[.sl l]
   | some (.struct fs)=>R2 (A4 P n) fs.toList
   | some (.array m e)=>(A4 P n e).map fun l=>(List.replicate m l).flatten
   | _=>none
def M9(P:Program)(t:TypeId):Option (List CK):=match A4 P 20 t with | some ks=>if Nat.beq ks.length (P.cellsOf t) then some ks else none | none=>none
def v6(P:Program)(t:TypeId):Bool:=match P.underlying t with | some (.struct _) | some (.array _ _)=>true | _=>false
def c2f(x:X)(i:E)(off:Nat):CK→S
 | .int k=> .z (.int k (.rd x i off))
 | .bool=> .z (.bool (.rd x i off))
 | .sl ks=> .z (.ext ks (.rd x i off) false)
def AL.cat:AL→AL→AL
 | .nil,q=>q
 | .i e r,q=> .i e (AL.cat r q)
 | .b e r,q=> .b e (AL.cat r q)
 | .x e r,q=> .x e (AL.cat r q)
def AL.takeA:AL→Nat→AL
 | _,0=> .nil
 | .nil,_=> .nil
 | .i e r,n+1=> .i e (AL.takeA r n)
 | .b e r,n+1=> .b e (AL.takeA r n)
 | .x e r,n+1=> .x e (AL.takeA r n)
def AL.dropA:AL→Nat→AL
 | l,0=>l
 | .nil,_=> .nil
 | .i _ r,n+1=>AL.dropA r n
 | .b _ r,n+1=>AL.dropA r n
 | .x _ r,n+1=>AL.dropA r n
def AL.lenA:AL→Nat
 | .nil=>0
 | .i _ r=>AL.lenA r+1
 | .b _ r=>AL.lenA r+1
 | .x _ r=>AL.lenA r+1
def X.lenN:X→Option Nat
 | .nil=>some 0
 | .row _=>some 1
 | .app x y=>match X.lenN x,X.lenN y with | some a,some b=>some (a+b) | _,_=>none
 | .upd x _ _ _=>X.lenN x
 | .rep (.lit n) _=>some n.toNat
 | .sub x (.lit a) (.lit b)=>match X.lenN x with | some n=>some (min (b.toNat-a.toNat) (n-a.toNat)) | none=>none
 | _=>none
def E.lenS(x:X):E:=match x.lenN with | some n=> .lit n | none=> .len x
inductive AC where | i (e:E) | b (b:B) | x (x:X)
def AL.at:AL→Nat→Option AC
 | .nil,_=>none
 | .i e r,n=>match n with | 0=>some (.i e) | n+1=>AL.at r n
 | .b e r,n=>match n with | 0=>some (.b e) | n+1=>AL.at r n
 | .x e r,n=>match n with | 0=>some (.x e) | n+1=>AL.at r n
def X.at:X→Nat→Option AL
 | .row l,n=>match n with | 0=>some l | _=>none
 | .app x y,n=>match X.lenN x with | some m=>if n<m then X.at x n else X.at y (n-m) | none=>none
 | .rep (.lit m) l,n=>if n<m.toNat then some l else none
 | .upd x (.lit i) j l,n=>if n=i.toNat then(X.at x n).map fun r=>((r.takeA j).cat l).cat (r.dropA (j+l.lenA)) else X.at x n
 | .sub x (.lit a) (.lit b),n=>if n<b.toNat-a.toNat then X.at x (a.toNat+n) else none
 | _,_=>none
def X.cell(x:X)(i:E)(off:Nat):Option AC:=match i with
 | .lit n=>if 0≤n then(x.at n.toNat).bind fun l=>l.at off else none
 | _=>none
def rdS(x:X)(i:E)(off:Nat)(k:CK):S:=match k,x.cell i off with
 | .int k,some (.i e)=> .z (.int k e)
 | .bool,some (.b b)=> .z (.bool b)
 | .sl ks,some (.x y)=> .z (.ext ks y false)
 | k,_=>c2f x i off k
def rdL(x:X)(i:E):Nat→List CK→List S
 | _,[]=>[]
 | off,k::ks=>rdS x i off k::rdL x i (off+1) ks
def E0(P:Program)(t:TypeId)(cs:List S)(off:Nat):Option V2:=
 match P.underlying t with
 | none=>none
 | some _=>if v6 P t then(if off+P.cellsOf t≤cs.length then some (.agg ((cs.drop off).take (P.cellsOf t))) else none)
   else(cs[off]?).map .one
def a9r(P:Program)(f:TypeId→V2→V2→Option B)(xs ys:List S):List Field→Option B
 | []=>some (.lit true)
 | fd::r=>if fd.name= "_" then none else
   match E0 P fd.type xs fd.offset,E0 P fd.type ys fd.offset with
   | some p,some q=>match f fd.type p q,a9r P f xs ys r with
     | some a,some b=>some (.andS a b)
     | _,_=>none
   | _,_=>none
def a8i(P:Program)(f:V2→V2→Option B)(e:TypeId)(xs ys:List S):List Nat→Option B
 | []=>some (.lit true)
 | i::r=>match E0 P e xs (i*P.cellsOf e),E0 P e ys (i*P.cellsOf e) with
   | some p,some q=>match f p q,a8i P f e xs ys r with
     | some a,some b=>some (.andS a b)
     | _,_=>none
   | _,_=>none
def a3u(P:Program):Nat→TypeId→V2→V2→Option B
 | 0,_,_,_=>none
 | n+1,t,x,y=>match P.underlying t,x,y with
   | some (.int _),.one (.z (.int j a)),.one (.z (.int k b))=>if j=k then some (.cmpS .eql a b) else none
   | some .bool,.one (.z (.bool a)),.one (.z (.bool b))=>some (.eqS a b)
   | some (.struct fs),.agg xs,.agg ys=>if P.stoodInHeld t then none else a9r P (a3u P n) xs ys fs.toList
   | some (.array m e),.agg xs,.agg ys=>if (P.info? e).isSome&&Nat.ble m 64 then a8i P (a3u P n e) e xs ys (List.range m) else none
   | _,_,_=>none
def I5(cs:List S)(off:Nat)(new:List S):List S:=cs.take off++new++cs.drop (off+new.length)
def a0F(place:Nat→Option (Nat×Nat))(cells:List S):List (Nat×V2)→Option (List S)
 | []=>some cells
 | (i,v)::rest=>match place i with
   | none=>none
   | some (off,size)=>if v.cells.length≠size||off+v.cells.length>cells.length|| !v.solid then none else a0F place (I5 cells off v.cells) rest
def a7w(P:Program)(t:TypeId)(parts:List (Nat×V2)):Option (List S):=
 match P.info? t,P.underlying t with
 | some it,some (.array _ e)=>
   match it.zero,P.info? e with
   | some z,some ie=>a0F (fun i=>some (i*ie.size,ie.size)) (E6 z).cells parts
   | _,_=>none
 | some it,some (.struct fields)=>
   match it.zero,fields.toList.mapM (fun f=>(P.info? f.type).map fun i=>(f.offset,i.size)) with
   | some z,some places=>a0F (places.toArray[·]?) (E6 z).cells parts
   | _,_=>none
 | _,_=>none
def a0I:List (Nat×V)→Option (List (Nat×V2))
 | []=>some []
 | (i,.v x)::r=>(a0I r).map ((i,x)::·)
 | _=>none
def S0s:List S→Option (List S0)
 | []=>some []
 | .z s::r=>(S0s r).map (s::·)
 | _=>none
def a8B:List V→Option (List (Nat×Nat))
 | []=>some []
 | .v (.one (.z (.ptr id off)))::r=>(a8B r).map ((id,off)::·)
 | _=>none
abbrev PR:=Option (List Ob×V)
def k9(v:V):PR:=some ([],v)
def b7W(k:IntKind)(a b:E):PR:=match b with
 | .lit n=>if 0≤n then k9 (iV k (.arS .shr k a (.lit n))) else none
 | _=>none
def b8D(k:IntKind)(a b:E):PR:=match b with
 | .lit n=>if 0≤n then k9 (iV k (.arS .shl k a (.lit n))) else none
 | _=>none
def a0a(P:Program)(o:BinOp)(t:TypeId):V→V→PR
 | .v (.one (.z (.int k a))),.v (.one (.z (.int k' b)))=>
   if o= .shr then b7W k a b else if o= .shl then b8D k a b else if k=k' then match o with
    | .and | .or | .xor | .andNot=>k9 (iV k (.arS o k a b))
    | .add | .sub | .mul=>k9 (iV k (.arS o k a b))
    | .quo | .rem=>match B.cmpS .neq b (.lit 0) with
      | .lit true=>k9 (iV k (.arS o k a b))
      | .lit false=>none
      | c=>some ([.tru c],iV k (.arS o k a b))
    | .eql | .neq | .lss | .leq | .gtr | .geq=>k9 (bV (.cmpS o a b))
    | _=>none
   else none
 | .v (.one (.z (.bool a))),.v (.one (.z (.bool b)))=>
   match P.underlying t,o with
   | some .bool,.eql=>k9 (bV (.eqS a b))
   | some .bool,.neq=>k9 (bV (B.eqS a b).notS)
   | _,_=>none
 | .v (.agg xs),.v (.agg ys)=>
   if !P.eqGuardType P.depth t then match o with
    | .eql=>(a3u P 20 t (.agg xs) (.agg ys)).map fun b=>([],bV b)
    | .neq=>(a3u P 20 t (.agg xs) (.agg ys)).map fun b=>([],bV b.notS)
    | _=>none
   else none
 | _,_=>none
def unS(o:UnOp):V→PR
 | .v (.one (.z (.int k a)))=>match o with | .neg=>k9 (iV k (.arS .sub k (.lit 0) a)) | _=>none
 | .v (.one (.z (.bool b)))=>match o with | .not=>k9 (bV b.notS) | _=>none
 | _=>none
def b2u(P:Program)(src dst:TypeId):V→PR
 | .v (.one (.z (.int _ a)))=>match P.underlying src,P.underlying dst with | some _,some (.int k)=>k9 (iV k (.wrS k a)) | _,_=>none
 | _=>none
def a0O(P:Program)(t:TypeId)(f:Nat)(v:V):PR:=
 match P.underlying t with
 | some (.struct fs)=>match fs[f]? with
   | some fd=>if P.cellsOf fd.type=0 then none else match P.info? fd.type,v with
     | some _,.v (.one (.z (.ptr id off)))=>k9 (.s0 (.ptr id (off+fd.offset)))
     | some _,.v (.one (.z (.eptr ks x i off)))=>k9 (.s0 (.eptr ks x i (off+fd.offset)))
     | some _,.v (.one (.z (.optr id v k i off)))=>k9 (.s0 (.optr id v k i (off+fd.offset)))
     | _,_=>none
   | none=>none
 | _=>none
def a9d(P:Program)(t:TypeId)(f:Nat)(v:V):PR:=
 match P.underlying t with
 | some (.struct fs)=>match fs[f]?,v with
   | some fd,.v (.agg cs)=>(E0 P fd.type cs fd.offset).map fun x=>([],.v x)
   | _,_=>none
 | _=>none
def a1e(P:Program)(t:TypeId)(v:V)(i:V):PR:=
 match P.underlying t,v,i with
 | some (.slice e),.v (.one (.z (.sl id off len _))),.v (.one (.z (.int _ (.lit n))))=>
   if (P.info? e).isSome&&decide (0≤n)&&decide (n<(len:Int)) then k9 (.s0 (.ptr id (off+n.toNat*P.cellsOf e))) else none
 | some (.slice e),.v (.one (.z (.ext ks x _))),.v (.one (.z (.int _ n)))=>
   if (P.info? e).isSome&&Nat.beq ks.length (P.cellsOf e) then some ([.tru (.cmpS .leq (.lit 0) n),.tru (.cmpS .lss n (.len x))],.s0 (.eptr ks x n 0)) else none
 | some (.array m e),.v (.one (.z (.ptr id off))),.v (.one (.z (.int _ (.lit n))))=>
   if (P.info? e).isSome&&decide (0≤n)&&decide (n<(m:Int)) then k9 (.s0 (.ptr id (off+n.toNat*P.cellsOf e))) else none
 | _,_,_=>none
def a7p(P:Program)(t:TypeId)(v:V)(i:V):PR:=
 match P.underlying t,v,i with
 | some (.array m e),.v (.agg cs),.v (.one (.z (.int _ (.lit n))))=>
   if (P.info? e).isSome&&decide (0≤n)&&decide (n<(m:Int)) then(E0 P e cs (n.toNat*P.cellsOf e)).map fun x=>([],.v x) else none
 | _,_,_=>none
def a0K(P:Program)(t:TypeId)(v:V):PR:=
 match P.underlying t,v with
 | some (.interface _),_=>none
 | some _,.v (.one (.z s))=>k9 (.v (.one (.iface t false [s])))
 | some _,.v (.agg cs)=>(S0s cs).map fun l=>([],.v (.one (.iface t true l)))
 | _,_=>none
def a0r(agg:Bool)(cs:List S0):Option V2:=
 if agg then some (.agg (cs.map .z)) else match cs with | [s]=>some (.one (.z s)) | _=>none
def a0b(P:Program)(asserted:TypeId)(ok:Bool)(v:V):PR:=
 match P.underlying asserted,v with
 | some (.interface _),_=>none
 | some _,.v (.one (.iface t agg cs))=>
   if t=asserted then(a0r agg cs).map fun x=>([],if ok then .tup [x,.one (.z (.bool (.lit true)))] else .v x)
   else if ok then match P.info? asserted with
    | some i=>i.zero.map fun z=>([],.tup [E6 z,.one (.z (.bool (.lit false)))])
    | none=>none
   else none
 | _,_=>none
def a1L:TypeDesc→Bool | .pointer _=>true | _=>false
def M5(P:Program)(t:TypeId)(name:String):Option FuncId:=
 match P.info? t,P.underlying t with
 | some i,some d=>match i.methods.find? (·.name == name) with
   | some m=>if m.path.isEmpty then match m.func with
     | some (f,pr)=>if pr=a1L d then some f else none
     | none=>none
     else none
   | none=>none
 | _,_=>none
def a1t(P:Program)(v:V):Option V:=
 match v with
 | .v (.one (.meth nm t _ _))=>if (M5 P t nm).isSome then some v else none
 | _=>none
def b2Z(P:Program)(t:TypeId):Bool:=match P.underlying t with | some d=> !a1L d | none=>false
def a7K(P:Program):Option TypeId→Bool | some t=>b2Z P t | none=>true
def b3f(P:Program)(t:Option TypeId)(f:FuncId):V→PR
 | .v (.one (.z s))=>if a7K P t then k9 (.v (.one (.via t f false [s]))) else none
 | .v (.agg cs)=>match S0s cs with | some l=>if a7K P t then k9 (.v (.one (.via t f true l))) else none | none=>none
 | _=>none
def b9c(nm:String):V→PR
 | .v (.one (.iface t a c))=>k9 (.v (.one (.meth nm t a c)))
 | _=>none
def a1O:V→PR
 | .v (.one (.z (.ptr id off)))=>k9 (.s0 (.ptr id off))
 | .v (.one (.z (.eptr ks x i off)))=>k9 (.s0 (.eptr ks x i off))
 | .v (.one (.z (.optr id v k i off)))=>k9 (.s0 (.optr id v k i off))
 | .v (.one (.z (.clo f c)))=>k9 (.s0 (.clo f c))
 | .v (.one (.iface t a c))=>k9 (.v (.one (.iface t a c)))
 | _=>none
def lenS(P:Program)(t:TypeId)(v:V):PR:=
 match P.underlying t,v with
 | some (.slice _),.v (.one (.z (.sl _ _ len _)))=>k9 (iV .i64 (.lit len))
 | some (.slice _),.v (.one (.z (.const (.slice _ n _))))=>k9 (iV .i64 (.lit n))
 | some (.slice _),.v (.one (.z (.ext _ x _)))=>k9 (iV .i64 (.lenS x))
 | some (.array n _),_=>k9 (iV .i64 (.lit n))
 | _,_=>none
def b8G(P:Program)(t:TypeId)(v:V):PR:=
 match P.underlying t,v with
 | some (.slice _),.v (.one (.z (.sl _ _ _ (some c))))=>k9 (iV .i64 (.lit c))
 | some (.slice _),.v (.one (.z (.const (.slice _ _ c))))=>k9 (iV .i64 (.lit c))
 | some (.slice _),.v (.one (.z (.ext _ x true)))=>k9 (iV .i64 (.len x))
 | _,_=>none
def a2k(f:E→E→E)(k:IntKind):E→List V→PR
 | a,[]=>k9 (iV k a)
 | a,.v (.one (.z (.int k' b)))::r=>if k=k' then a2k f k (f a b) r else none
 | _,_=>none
def a3g(P:Program)(b:Builtin)(ts:Array TypeId)(vs:List V):PR:=
 match b,vs with
 | .len,[v]=>(ts[0]?).bind fun t=>lenS P t v
 | .cap,[v]=>(ts[0]?).bind fun t=>b8G P t v
 | .max,.v (.one (.z (.int k a)))::r=>a2k .mxS k a r
 | .min,.v (.one (.z (.int k a)))::r=>a2k .mnS k a r
 | _,_=>none
def a1Z(d:Nat):Option V→Option Nat
 | none=>some d
 | some (.v (.one (.z (.int _ (.lit n)))))=>if 0≤n then some n.toNat else none
 | _=>none
def a0u(d:E):Option V→Option E
 | none=>some d
 | some (.v (.one (.z (.int _ n))))=>some n
 | _=>none
def a1x(o:Option V):Bool:=match o with | none=>true | some (.v (.one (.z (.int _ (.lit 0)))))=>true | _=>false
def a6Z(o:Option V)(h:E):Bool:=match o with | some (.v (.one (.z (.int _ n))))=>n.same h | _=>false
def a8C(P:Program)(t:TypeId)(v:V)(lo hi mx:Option V):PR:=
 match P.underlying t,v with
 | some (.slice e),.v (.one (.z (.sl id off len (some c))))=>
   match a1Z 0 lo,a1Z len hi,a1Z c mx with
   | some l,some h,some m=>if decide (l≤h)&&decide (h≤m)&&decide (m≤c)&&(P.info? e).isSome&&(mx.isNone||hi.isSome) then k9 (.s0 (.sl id (if l=m then off else off+l*P.cellsOf e) (h-l) (some (m-l)))) else none
   | _,_,_=>none
 | some (.array n e),.v (.one (.z (.ptr id off)))=>
   match lo,hi,mx with
   | none,none,none=>if decide (0<n)&&(P.info? e).isSome then k9 (.s0 (.sl id off n (some n))) else none
   | _,_,_=>none
 | some (.slice e),.v (.one (.z (.const (.slice none 0 0))))=>if a1x lo&&a1x hi&&a1x mx&&(P.info? e).isSome&&(mx.isNone||hi.isSome) then k9 (.s0 (.const (.slice none 0 0))) else none
 | some (.slice e),.v (.one (.z (.ext ks x f)))=>
   match a0u (.lit 0) lo,a0u (.len x) hi with
   | some l,some h=>if (P.info? e).isSome&&Nat.beq ks.length (P.cellsOf e)&&(mx.isNone||hi.isSome&&a6Z mx h) then
    some ([.tru (.cmpS .leq (.lit 0) l),.tru (.cmpS .leq l h),.tru (.cmpS .leq h (.len x))],.s0 (.ext ks (.sub x l h) (mx.isSome||f&&h.same (.len x)))) else none
   | _,_=>none
 | _,_=>none
def a1R(P:Program)(g:Operand→V):Op→PR
 | .move x=>k9 (g x)
 | .assign x=>k9 (g x)
 | .build t parts=>(a0I (parts.toList.map fun(i,x)=>(i,g x))).bind fun l=>(a7w P t l).map fun cs=>([],.v (.agg cs))
 | .nilCheck x=>match a1t P (g x) with | some v=>k9 v | none=>a1O (g x)
 | .binOp o t x y _=>a0a P o t (g x) (g y)
 | .unOp o _ x=>unS o (g x)
 | .convert src dst x=>b2u P src dst (g x)
 | .makeInterface t x=>a0K P t (g x)
 | .makeFunc (.func f) first cap=>if first.isEmpty then(a8B (cap.toList.map g)).map fun l=>([],.s0 (.clo f l)) else match first.toList,cap.isEmpty with | [x],true=>b3f P none f (g x) | _,_=>none
 | .makeFunc (.method nm) first cap=>match first.toList,cap.isEmpty with | [x],true=>b9c nm (g x) | _,_=>none
 | .makeFunc (.via t path f ptr) first cap=>if path.isEmpty&& !ptr&&cap.isEmpty then match first.toList with | [x]=>b3f P (some t) f (g x) | _=>none else none
 | .fieldAddr t x f=>a0O P t f (g x)
 | .field t x f=>a9d P t f (g x)
 | .indexAddr t x i=>a1e P t (g x) (g i)
 | .index t x i=>a7p P t (g x) (g i)
 | .slice t x lo hi mx=>a8C P t (g x) (lo.map g) (hi.map g) (mx.map g)
 | .typeAssert x _ t ok=>a0b P t ok (g x)
 | .extract x i=>match g x with | .tup l=>(l[i]?).map fun v=>([],.v v) | _=>none
 | .call { callee:= .builtin b,args,argTypes }=>a3g P b argTypes (args.toList.map g)
 | _=>none
abbrev i8:=V×Mem×Nat
def b2O(nx:Nat):PR→T i8
 | some (obs,v)=> .obs obs (.ret (v,[],nx))
 | none=> .stuck "operation"
def c2P:Op→String
 | .move _=> "move" | .assign _=> "assign" | .build _ _=> "build" | .buildSlice _ _ _=> "buildSlice" | .nilCheck _=> "nilCheck" | .binOp o _ _ _ _=> "binOp " ++ (match o with | .eql=> "eql" | .neq=> "neq" | .shl=> "shl" | .shr=> "shr" | .quo=> "quo" | .rem=> "rem" | _=> "")
 | .unOp _ _ _=> "unOp" | .convert _ _ _=> "convert" | .makeInterface _ _=> "makeInterface" | .makeFunc _ _ _=> "makeFunc" | .makeMap _ _=> "makeMap" | .makeChan _ _=> "makeChan" | .makeSlice _ _ _=> "makeSlice" | .slice _ _ _ _ _=> "slice"
 | .fieldAddr _ _ _=> "fieldAddr" | .field _ _ _=> "field" | .indexAddr _ _ _=> "indexAddr" | .index _ _ _=> "index" | .lookup _ _ _ _=> "lookup" | .typeAssert _ _ _ _=> "typeAssert" | .extract _ _=> "extract"
 | .call { callee:= .builtin _,.. }=> "builtin" | .call _=> "call" | .ready _=> "ready" | .waits _=> "waits" | .defer _=> "defer" | _=> "operation"
def AL.app:AL→AL→AL
 | .nil,q=>q
 | .i e r,q=> .i e (AL.app r q)
 | .b e r,q=> .b e (AL.app r q)
 | .x e r,q=> .x e (AL.app r q)
def B7(k:CK)(s:S):Option AL:=match k,s with
 | .int k,.z (.int k' e)=>if k=k' then some (.i e .nil) else none
 | .bool,.z (.bool e)=>some (.b e .nil)
 | .sl ks,.z (.ext ks' x _)=>if CK.sameL ks ks' then some (.x x .nil) else none
 | .sl _,.z (.const (.slice none 0 0))=>some (.x .nil .nil)
 | _,_=>none
def L3(f:CK→S→Option AL):List CK→List S→Option AL
 | [],[]=>some .nil
 | k::ks,s::ss=>match f k s,L3 f ks ss with | some a,some b=>some (a.app b) | _,_=>none
 | _,_=>none
def X0(f:CK→S→Option AL)(ks:List CK):Nat→List S→Option X
 | 0,_=>some .nil
 | n+1,cs=>match L3 f ks (cs.take ks.length),X0 f ks n (cs.drop ks.length) with | some a,some x=>some (.app (.row a) x) | _,_=>none
structure Cur where
 id:Nat
 ver:E
 t:TypeId
 ks:List CK
 x:X
 lo:E
def C0(mem:Mem):S0→Option Cur
 | .own id ver=>match mem.get id with
   | some (.own t ks x v)=>if E.same ver v then some ⟨id,ver,t,ks,x,.lit 0⟩ else none
   | _=>none
 | .ovw id ver k lo hi _=>match mem.get id with
   | some (.own t ks x v)=>if E.same ver v&&Nat.beq k ks.length then some ⟨id,ver,t,ks,.sub x lo hi,lo⟩ else none
   | _=>none
 | _=>none
def X.appS:X→X→X
 | .nil,y=>y
 | x,.nil=>x
 | x,y=> .app x y
def a5i(mem:Mem)(ks:List CK):S0→Option X
 | .ext ks' x _=>if CK.sameL ks ks' then some x else none
 | .const (.slice none 0 0)=>some .nil
 | .sl id off len (some c)=>match mem.get id with
   | some (.cells _ cs)=>if decide (len≤c)&&decide (len≤1000000)&&decide (off+len*ks.length≤cs.length) then X0 B7 ks len (cs.drop off) else none
   | _=>none
 | s=>match C0 mem s with
   | some q=>if CK.sameL ks q.ks then some q.x else none
   | none=>none
def b1w:S0→Bool
 | .ext _ _ f=>f
 | .sl _ _ len (some c)=>Nat.beq len c
 | .ovw _ _ _ _ _ f=>f
 | _=>false
def a8r:S0→Bool
 | .const (.slice none 0 0)=>true
 | .ext _ (.sub _ (.lit a) (.lit b)) f=>f&&decide (b≤a)
 | .ext _ .nil f=>f
 | .sl _ _ 0 (some 0)=>true
 | _=>false
def Y0(x:X):Ob:= .tru (.cmpS .leq (.lenS x) (.lit 1000000))
def X.over(y:X)(lo:E)(z:X):X:= .app (.app (.sub y (.lit 0) lo) z) (.sub y (.plusS lo (.lenS z)) (.lenS y))
def a3t(mem:Mem)(e:TypeId)(ks:List CK):S0→Option (Nat×E)
 | .ovw id ver _ lo hi true=>match ks with
   | [.int .u8]=>match mem.get id with
     | some (.own t k' x v)=>if Nat.beq t e&&CK.sameL ks k'&&E.same ver v&&E.same lo (.lit 0)&&E.same hi (.lenS x) then some (id,ver) else none
     | _=>none
   | _=>none
 | _=>none
def a0h(P:Program)(mem:Mem)(nx:Nat)(e:TypeId)(s x:S0):T (V×Mem×Nat):=
 match P.info? e,M9 P e with
 | some i,some ks=>match i.zero with
   | some z=>if Nat.beq z.cells.size ks.length&&Nat.beq i.size ks.length&&Nat.blt 0 ks.length&&Nat.ble (1000000*i.bytes) 140737488355328 then match a5i mem ks x with
     | some y=>match s with
       | .own id ver=>match C0 mem (.own id ver) with
         | some q=>if Nat.beq q.t e&&CK.sameL ks q.ks then .obs [Y0 (.appS q.x y)] (.ret (.s0 (.own id (.plusS ver (.lit 1))),[(id,.own e ks (.appS q.x y) (.plusS ver (.lit 1)))],nx)) else .stuck "append: type"
         | none=> .stuck "append: old list"
       | .ovw id ver k lo hi false=>match C0 mem (.ovw id ver k lo hi false) with
         | some q=>if Nat.beq q.t e&&CK.sameL ks q.ks&&E.same lo (.lit 0) then match mem.get id with
           | some (.own _ _ x0 _)=> .iteS (.cmpS .leq (.plusS hi (.lenS y)) (.lenS x0)) (.ret (.s0 (.ovw id ver k lo (.plusS hi (.lenS y)) false),[(id,.own e ks (.over x0 hi y) ver)],nx))
             (.obs [Y0 (.appS q.x y)] (.ret (.s0 (.own id (.plusS ver (.lit 1))),[(id,.own e ks (.appS q.x y) (.plusS ver (.lit 1)))],nx)))
           | _=> .stuck "append: part"
           else .stuck "append: part"
         | none=> .stuck "append: old list"
       | s=>if a8r s then .obs [Y0 y] (.ret (.s0 (.own nx (.lit 0)),[(nx,.own e ks y (.lit 0))],nx+1)) else
         if b1w s then match a5i mem ks s with
          | some x0=> .iteS (.cmpS .lss (.lit 0) (.lenS y)) (.obs [Y0 (.appS x0 y)] (match a3t mem e ks s with | some p=> .ret (.s0 (.own p.1 (.plusS p.2 (.lit 1))),[(p.1,.own e ks (.appS x0 y) (.plusS p.2 (.lit 1)))],nx) | none=> .ret (.s0 (.own nx (.lit 0)),[(nx,.own e ks (.appS x0 y) (.lit 0))],nx+1))) (.ret (.s0 s,[],nx))
          | none=> .stuck "append: onto"
         else .stuck "append: room"
     | none=> .stuck "append: what"
     else .stuck "append: size"
   | none=> .stuck "append: zero"
 | _,_=> .stuck "append: kinds"
def a9c:S0→Bool
 | .ovw _ _ _ _ _ f=>f
 | _=>false
def a0G(P:Program)(mem:Mem)(nx:Nat)(t:TypeId)(v:S0)(lo hi mx:Option V):Option (T (V×Mem×Nat)):=
 match C0 mem v with
 | none=>none
 | some q=>match P.underlying t with
   | some (.slice e)=>match a0u (.lit 0) lo,a0u (.lenS q.x) hi with
     | some l,some h=>if (P.info? e).isSome&&Nat.beq q.ks.length (P.cellsOf e)&&(mx.isNone||hi.isSome&&a6Z mx h)&&(mx.isSome|| !a9c v) then
      some (.obs [.tru (.cmpS .leq (.lit 0) l),.tru (.cmpS .leq l h),.tru (.cmpS .leq h (.lenS q.x))] (.ret (.s0 (.ovw q.id q.ver q.ks.length (.plusS q.lo l) (.plusS q.lo h) mx.isSome),[],nx))) else none
     | _,_=>none
   | _=>none
def a6T(P:Program)(e:TypeId)(ks:List CK):Option AL:=match P.info? e with | some i=>i.zero.bind fun z=>if (E6 z).solid then L3 B7 ks (E6 z).cells else none | none=>none
def a3K(P:Program)(mem:Mem)(nx:Nat)(t:TypeId)(s:S0):Option (T (V×Mem×Nat)):=match P.underlying t with
 | some (.slice e)=>match s with
   | .const (.slice none 0 0)=>some (.ret (V.any,[],nx))
   | s=>match C0 mem s with
     | some q=>if Nat.beq q.t e&&Nat.blt 0 q.ks.length then match mem.get q.id,a6T P e q.ks with
       | some (.own _ _ y _),some a=>some (.ret (V.any,[(q.id,.own q.t q.ks (.over y q.lo (.rep (.lenS q.x) a)) q.ver)],nx))
       | _,_=>none
       else none
     | none=>none
 | _=>none
def a7b(P:Program)(mem:Mem)(nx:Nat)(t:TypeId)(s x:S0):Option (T (V×Mem×Nat)):=match P.underlying t with
 | some (.slice e)=>match C0 mem s with
   | some q=>if Nat.beq q.t e&&Nat.beq q.ks.length (P.cellsOf e)&&(P.info? e).isSome then match mem.get q.id,a5i mem q.ks x with
     | some (.own _ _ y _),some z=>some (.ret (iV .i64 (.mnS (.lenS q.x) (.lenS z)),[(q.id,.own q.t q.ks (.over y q.lo (.sub z (.lit 0) (.mnS (.lenS q.x) (.lenS z)))) q.ver)],nx))
     | _,_=>none
     else none
   | none=>none
 | _=>none
def a6X(P:Program)(nx:Nat)(t:TypeId)(l c:V):Option (T (V×Mem×Nat)):=match P.underlying t,l,c with
 | some (.slice e),.v (.one (.z (.int _ l))),.v (.one (.z (.int _ c)))=>if E.same l c then match P.info? e,M9 P e with
   | some i,some ks=>match a6T P e ks with
     | some a=>if Nat.beq i.size ks.length&&Nat.blt 0 ks.length&&Nat.ble (1000000*i.bytes) 140737488355328 then
      some (.obs [.tru (.cmpS .leq (.lit 0) l),.tru (.cmpS .leq l (.lit 1000000))] (.ret (.s0 (.own nx (.lit 0)),[(nx,.own e ks (.rep l a) (.lit 0))],nx+1))) else none
     | none=>none
   | _,_=>none
   else none
 | _,_,_=>none
def a0p(n:E)(f:Nat→T (V×Mem×Nat)):Nat→Nat→T (V×Mem×Nat)
 | 0,_=> .stuck "index"
 | k+1,j=> .iteS (.cmpS .eql n (.lit j)) (f j) (a0p n f k (j+1))
def b5M:E→Bool | .lit _=>true | _=>false
def a4B(P:Program)(mem:Mem)(nx:Nat)(g:Operand→V):Op→Option (T (V×Mem×Nat))
 | .index t x i=>match P.underlying t,g x,g i with
   | some (.array m e),.v (.agg cs),.v (.one (.z (.int _ n)))=>if !b5M n&&Nat.ble m 16&&(P.info? e).isSome then
    some (a0p n (fun j=>match E0 P e cs (j*P.cellsOf e) with | some x=> .ret (.v x,[],nx) | none=> .stuck "index") m 0) else none
   | _,_,_=>none
 | .indexAddr t x i=>match P.underlying t,g x,g i with
   | some (.array m e),.v (.one (.z (.ptr id off))),.v (.one (.z (.int _ n)))=>if !b5M n&&Nat.ble m 16&&(P.info? e).isSome then
    some (a0p n (fun j=> .ret (.s0 (.ptr id (off+j*P.cellsOf e)),[],nx)) m 0) else none
   | some (.slice e),.v (.one (.z s)),.v (.one (.z (.int _ n)))=>match C0 mem s with
     | some q=>if (P.info? e).isSome&&Nat.beq q.ks.length (P.cellsOf e) then some (.obs [.tru (.cmpS .leq (.lit 0) n),.tru (.cmpS .lss n (.lenS q.x))] (.ret (.s0 (.optr q.id q.ver q.ks.length (.plusS q.lo n) 0),[],nx))) else none
     | none=>none
   | _,_,_=>none
 | .slice t x lo hi mx=>match g x with
   | .v (.one (.z s))=>a0G P mem nx t s (lo.map g) (hi.map g) (mx.map g)
   | _=>none
 | .call { callee:= .builtin .len,args,argTypes }=>match args.toList.map g,argTypes[0]? with
   | [.v (.one (.z s))],some t=>match P.underlying t,C0 mem s with
     | some (.slice _),some q=>some (.ret (iV .i64 (.lenS q.x),[],nx))
     | _,_=>none
   | _,_=>none
 | .call { callee:= .builtin .append,args,argTypes }=>match args.toList.map g,argTypes.toList with
   | [.v (.one (.z s)),.v (.one (.z x))],[t,t']=>if Nat.beq t t' then match P.underlying t with
     | some (.slice e)=>some (a0h P mem nx e s x)
     | _=>none
     else none
   | _,_=>none
 | .call { callee:= .builtin .clear,args,argTypes }=>match args.toList.map g,argTypes.toList with
   | [.v (.one (.z s))],[t]=>a3K P mem nx t s
   | _,_=>none
 | .call { callee:= .builtin .copy,args,argTypes }=>match args.toList.map g,argTypes.toList with
   | [.v (.one (.z s)),.v (.one (.z x))],[t,_]=>a7b P mem nx t s x
   | _,_=>none
 | .makeSlice t l c=>a6X P nx t (g l) (g c)
 | _=>none
def a1B(P:Program)(mem:Mem)(nx:Nat)(g:Operand→V):Op→Option (T (V×Mem×Nat))
 | .makeChan t n=>match P.underlying t,g n with
   | some (.chan _ e),.v (.one (.z (.int _ n)))=>match P.underlying e,P.info? e with
     | some (.int k),some i=>if Nat.ble (1000000*i.bytes) 140737488355328 then some (.obs [.tru (.cmpS .leq (.lit 0) n),.tru (.cmpS .leq n (.lit 1000000))] (.ret (.s0 (.chn nx),[(nx,.chn k .nil n)],nx+1))) else none
     | _,_=>none
   | _,_=>none
 | .call { callee:= .builtin .len,args,argTypes }=>match args.toList.map g,argTypes[0]? with
   | [.v (.one (.z (.chn id)))],some t=>match P.underlying t,mem.get id with
     | some (.chan _ _),some (.chn _ x _)=>some (.ret (iV .i64 (.lenS x),[],nx))
     | _,_=>none
   | _,_=>none
 | _=>none
def a4s(P:Program)(mem:Mem)(nx:Nat)(g:Operand→V):Op→Option (T (V×Mem×Nat))
 | .send c x=>some (match g c,g x with
   | .v (.one (.z (.chn id))),.v (.one (.z (.int k e)))=>match mem.get id with
     | some (.chn k' y cap)=>if k=k' then .obs [.tru (.cmpS .lss (.lenS y) cap)] (.ret (.tup [],[(id,.chn k (.appS y (.row (.i e .nil))) cap)],nx)) else .stuck "send"
     | _=> .stuck "send"
   | _,_=> .stuck "send")
 | .recv t c false=>some (match P.underlying t,g c with
   | some (.chan _ e),.v (.one (.z (.chn id)))=>match (P.info? e).bind (·.zero),mem.get id with
     | some _,some (.chn k y cap)=> .obs [.tru (.cmpS .lss (.lit 0) (.lenS y))] (.ret (.v (.one (rdS y (.lit 0) 0 (.int k))),[(id,.chn k (.sub y (.lit 1) (.lenS y)) cap)],nx))
     | _,_=> .stuck "receive"
   | _,_=> .stuck "receive")
 | _=>none
def a5d(z:List S)(n:Nat):List S:=(List.range n).map fun i=>z.getD (i % z.length) (.z .any)
def a5E(P:Program)(nx:Nat)(t:TypeId)(len:Nat)(parts:List (Nat×V)):T i8:=
 match P.underlying t with
 | some (.slice e)=>match P.info? e with
   | some ie=>match ie.zero,a0I parts with
     | some z,some ps=>if decide (len*ie.size>2^24)||(E6 z).cells.isEmpty then .stuck "buildSlice" else match a0F (fun i=>some (i*ie.size,ie.size)) (a5d (E6 z).cells (len*ie.size)) ps with
       | some cs=> .ret (.s0 (.sl nx 0 len (some len)),[(nx,.cells e cs)],nx+1)
       | none=> .stuck "buildSlice"
     | _,_=> .stuck "buildSlice"
   | none=> .stuck "buildSlice"
 | _=> .stuck "buildSlice"
def c0I(P:Program)(nx:Nat)(t:TypeId)(len:Nat)(parts:List (Nat×V)):T i8:=(a5E P nx t len parts).bind fun q=>match q with
 | (_,[(id,.cells e cs)],nx')=>match M9 P e with
   | some ks=>if Nat.blt 0 len&&Nat.ble len 1000000&&Nat.blt 0 ks.length&&Nat.beq cs.length (len*ks.length) then match X0 B7 ks len cs with
     | some x=> .ret (.s0 (.own id (.lit 0)),[(id,.own e ks x (.lit 0))],nx')
     | none=> .stuck "literal list"
     else .stuck "literal list"
   | none=> .stuck "literal list"
 | _=> .stuck "literal list"
def zeroCells(P:Program)(t:TypeId):Option V2:=match P.info? t with | some i=>i.zero.map E6 | none=>none
def a7k(P:Program)(mem:Mem)(t:TypeId):V→PR
 | .v (.one (.z (.ptr id off)))=>match mem.get id with
   | some (.cells _ cs) | some (.row _ cs)=>match P.info? t with
     | some _=>(E0 P t cs off).map fun x=>([],.v x)
     | none=>none
   | _=>none
 | .v (.one (.z (.eptr K x i off)))=>match M9 P t,P.info? t with
   | some ks,some inf=>if CK.sameL ((K.drop off).take ks.length) ks&&(v6 P t||Nat.beq inf.size 1) then k9 (.v (if v6 P t then .agg (rdL x i off ks) else .one ((rdL x i off ks).headD (.z .any)))) else none
   | _,_=>none
 | .v (.one (.z (.optr id ver k i off)))=>match mem.get id with
   | some (.own _ K x v)=>if E.same ver v&&Nat.beq k K.length then match M9 P t,P.info? t with
     | some ks,some inf=>if CK.sameL ((K.drop off).take ks.length) ks&&(v6 P t||Nat.beq inf.size 1) then k9 (.v (if v6 P t then .agg (rdL x i off ks) else .one ((rdL x i off ks).headD (.z .any)))) else none
     | _,_=>none
     else none
   | _=>none
 | .v (.one (.z (.bptr id ver off)))=>match mem.get id with
   | some (.vbox _ cs v)=>if E.same ver v then match P.info? t with
     | some _=>(E0 P t cs off).map fun x=>([],.v x)
     | none=>none
     else none
   | _=>none
 | _=>none
def a1o(P:Program)(mem:Mem)(nx:Nat)(t:TypeId):V→V→T i8
 | .v (.one (.z (.ptr id off))),.v x=>match mem.get id with
   | some (.cells t' cs)=>if x.solid&&x.cells.length == P.cellsOf t&&off+x.cells.length≤cs.length&&(P.info? t).isSome then .ret (V.any,[(id,.cells t' (I5 cs off x.cells))],nx) else .stuck "store"
   | _=> .stuck "store: block"
 | .v (.one (.z (.optr id ver k i off))),.v x=>match mem.get id with
   | some (.own t' K y v)=>if E.same ver v&&Nat.beq k K.length&&x.solid&&x.cells.length == P.cellsOf t&&(P.info? t).isSome&&Nat.ble (off+x.cells.length) K.length then match L3 B7 ((K.drop off).take x.cells.length) x.cells with
     | some l=> .ret (V.any,[(id,.own t' K (.upd y i off l) v)],nx)
     | none=> .stuck "store: list"
     else .stuck "store: list"
   | _=> .stuck "store: list"
 | .v (.one (.z (.bptr id ver off))),.v x=>match mem.get id with
   | some (.vbox t' cs v)=>if E.same ver v&&x.solid&&x.cells.length == P.cellsOf t&&off+x.cells.length≤cs.length&&(P.info? t).isSome then .ret (V.any,[(id,.vbox t' (I5 cs off x.cells) v)],nx) else .stuck "store"
   | _=> .stuck "store: block"
 | _,_=> .stuck "store: address"
abbrev Ct:=List (FuncId×(List V→Mem→Nat→T i8))
def Ct.find:Ct→FuncId→Option (List V→Mem→Nat→T i8)
 | [],_=>none
 | (g,c)::l,f=>if g == f then some c else Ct.find l f
def a2f(nx:Nat)(q:i8):T i8:=if nx≤q.2.2 then .ret q else .stuck "contract: numbers"
def Mem.reach(m:Mem):Nat→List Nat→List Nat
 | 0,l=>l
 | n+1,l=>Mem.reach m n (l++(l.flatMap fun id=>match m.get id with | some b=>b.ids.filter (!l.contains ·) | none=>[]).eraseDups)
def J4(nx nx':Nat)(v:V)(ws:Mem):Mem:=
 let old:=ws.filter fun p=>decide (p.1<nx)||decide (nx'≤p.1)
 let ids:=v.ids++old.flatMap fun p=>p.2.ids
 if ids.all fun i=>decide (i<nx)||decide (nx'≤i) then old else
  let r:=Mem.reach ws 12 ids
  ws.filter fun p=>(decide (p.1<nx)||decide (nx'≤p.1))||r.contains p.1
def F8(P:Program)(st:St):List ResultVar→Option (List V2)
 | []=>some []
 | .tmp t::r=>match st.tm.getD t V.any,F8 P st r with
   | .v x,some l=>some (x::l)
   | _,_=>none
 | .cell a t::r=>match a7k P st.mem t (st.tm.getD a V.any),F8 P st r with
   | some ([],.v x),some l=>some (x::l)
   | _,_=>none
def D4:List V2→V
 | [x]=> .v x
 | l=> .tup l
def v9:List Nat→Mem
 | []=>[]
 | d::ds=>v9 ds++[if Nat.ble j5 d then(d-j5,.gone) else(d,.dfd true)]
def Ex.isEnd:Ex→Bool | .normal | .ret=>true | _=>false
def a2b(m:Mem):List Nat→Bool
 | []=>true
 | d::ds=>(if Nat.ble j5 d then a0z (m.get (d-j5)) else(match m.get d with | some (.dfd false)=>true | _=>false))&& !ds.contains d&&a2b m ds
def B5(tm:List V)(d:Option Tmp)(v:V):List V:=match d with | some d=>tm.set d v | none=>tm
def b1f(ops:Array Oper)(j:Nat):Bool:=ops.any fun o=>match o.guard with | some (j',_)=>j' == j | none=>false
def Z7(ops:Array Oper)(tm:List V)(o:Oper):Option Bool:=
 match o.guard with
 | none=>some true
 | some (j,want)=>match (ops[j]?).bind (·.dst) with
   | some d=>match tm[d]? with
     | some (.v (.one (.z (.bool (.lit b)))))=>some (b == want)
     | some (.tup [])=>some false
     | _=>none
   | none=>none
def a4p(g:Bool)(r:i8):T i8:=
 match g,r with
 | true,(.v (.one (.z (.bool b))),ws,nx)=> .iteS b (.ret (bV (.lit true),ws,nx)) (.ret (bV (.lit false),ws,nx))
 | _,r=> .ret r
structure Info where
 rd:List Nat
 wr:List Nat
def Mem.sub(m:Mem)(ids:List Nat):Mem:=m.filter fun p=>ids.contains p.1
def Mem.grow(m:Mem):Nat→List Nat→List Nat
 | 0,l=>l
 | n+1,l=>Mem.grow m n (l++(l.flatMap fun id=>match m.get id with | some b=>b.ids.filter (!l.contains ·) | none=>[]).eraseDups)
def Op.isCall:Op→Bool | .call { callee:= .builtin _,.. }=>false | .call _=>true | _=>false
def a6a(m:Mem)(g:Operand→V)(o:Oper):List Nat:=
 match o.op with
 | .move _=>[]
 | _=>
   let l:=o.op.operands.toList.flatMap fun x=>(g x).ids
   if Op.isCall o.op then m.grow 12 l else l
def N6(ops:Array Oper):List (List Nat):=
 ops.toList.foldl (fun acc o=>acc++[o.after.toList.flatMap fun e=>if Region.binds .any e then e.on::acc.getD e.on [] else []]) []
def b2p(a b:List Nat):Bool:=a.any fun i=>b.contains i
def b9y(ops:Array Oper)(log:List Info)(i j:Nat):Bool:=
 (match ops[i]?,ops[j]? with | some x,some y=> !Oper.apart ops x y | _,_=>true)||
 (match log[i]?,log[j]? with | some x,some y=>b2p x.wr (y.rd++y.wr)||b2p x.rd y.wr | _,_=>true)
def a1H(ops:Array Oper)(log:List Info):Bool:=
 let an:=N6 ops
 (ops.all fun o=>o.after.all fun e=> !Region.binds .any e||decide (e.on<ops.size))&&log.length == ops.size&&
 (List.range ops.size).all fun j=>(an.getD j []).all (fun i=>decide (i<j))&&(List.range j).all fun i=> !b9y ops log i j||(an.getD j []).contains i
def a2s:List Tmp→List V→List V→List V
 | t::ts,v::vs,tm=>a2s ts vs (tm.set t v)
 | _,_,tm=>tm
def D1:Code→Nat
 | .seq a b=>D1 a+D1 b
 | .cond _ a b=>D1 a+D1 b
 | .block _ b=>D1 b
 | .scope b=>D1 b
 | .loop b=>D1 b+1
 | _=>0
abbrev Where:=Option (FuncId×Nat)
def Where.skip(h:Where)(n:Nat):Where:=h.map fun p=>(p.1,p.2+n)
structure Lt where
 un:List (FuncId×Nat)
 pats:List (Nat×St)
 jpats:List (FuncId×Nat×Nat×St)
def Lt.of(l:List (FuncId×Nat)):Lt:=⟨l,[],[]⟩
def Lt.hasL:List (FuncId×Nat)→Where→Bool
 | [],_=>false
 | _,none=>false
 | (g,k)::l,some f=>g == f.1&&k == f.2||Lt.hasL l (some f)
def Lt.has(lt:Lt)(h:Where):Bool:=Lt.hasL lt.un h
def Lt.verBox(lt:Lt)(d:Option Tmp):Bool:=match d with | some d=>lt.un.any (fun p=>Nat.beq p.2 (7000000+d)) | none=>false
def a1f(mem:Mem)(nx:Nat)(t:TypeId)(z:List S)(cur:V):T i8:=match cur with
 | .v (.one (.z (.bptr id _ _)))=>match mem.get id with
   | some (.vbox t' _ v)=>if Nat.beq t t' then .ret (.s0 (.bptr id (.plusS v (.lit 1)) 0),[(id,.vbox t z (.plusS v (.lit 1)))],nx) else .stuck "box"
   | _=> .stuck "box"
 | _=> .ret (.s0 (.bptr nx (.lit 0) 0),[(nx,.vbox t z (.lit 0))],nx+1)
def Lt.ownLit(lt:Lt)(d:Option Tmp):Bool:=match d with | some d=>lt.un.any (fun p=>Nat.beq p.2 (6000000+d)) | none=>false
def Mem.likeOwn(p m:Mem):Bool:=(m.all fun b=>match b.2 with | .own _ _ _ _=>(match p.get b.1 with | some (.own _ _ _ _)=>true | some .gone=>true | _=>false) | _=>true)&&
 p.all fun b=>match b.2 with | .own _ _ _ _=>(match m.get b.1 with | some (.own _ _ _ _)=>true | _=>false) | _=>true
def Lt.jhintL:List (FuncId×Nat×Nat×St)→Nat→Nat→St→Option St
 | [],_,_,_=>none
 | (g,k,m,q)::l,f,j,st=>if Nat.beq m st.nx&&Nat.beq k j&&Nat.beq g f&&Mem.likeOwn q.mem st.mem then some q else Lt.jhintL l f j st
def T.single{α:Type}:T α→Bool
 | .ret _=>true
 | .ob _ t=>T.single t
 | .stuck _=>true
 | _=>false
def T.ends{α:Type}(t:T α):List α:=
 match t with
 | .ret a=>[a]
 | .ite _ t e=>T.ends t++T.ends e
 | .ob _ t=>T.ends t
 | .stuck _=>[]
 | .loop _ _ _ body k=>(T.ends body).flatMap fun p=>match p.1 with | .normal=>[] | _=>T.ends (k p)
structure JC where
 n:Nat
 mm:Mem
 me:List (E×E×Nat)
 tq:List (Nat×Nat)
 tk:Mem
 nx:Nat
def b8S:List (E×E×Nat)→E→E→Option Nat
 | [],_,_=>none
 | (a,b,n)::l,p,s=>if E.same a p&&E.same b s then some n else b8S l p s
section
variable (N nx:Nat)
def a0U(c:JC)(p s:E):E×JC:=match p with
 | .var j=>if Nat.ble N j then(if Nat.blt j (N+1000) then(.var j,c) else(.var (N+c.n),{ c with n:=c.n+1 })) else if E.same (.var j) s then(.var j,c) else(.var (N+c.n),{ c with n:=c.n+1 })
 | p=>if E.same p s&&E.low N p then(p,c) else(.var (N+c.n),{ c with n:=c.n+1 })
def W5(c:JC)(p s:E):E×JC:=
 let new:E×JC:=match b8S c.me p s with
  | some j=>(.var (N+j),c)
  | none=>(.var (N+c.n),{ c with n:=c.n+1,me:=(p,s,c.n)::c.me })
 match p with
 | .var j=>if Nat.ble N j then(if Nat.blt j (N+1000) then(.var j,c) else new) else if E.same (.var j) s then(.var j,c) else new
 | p=>if E.same p s&&E.low N p then(p,c) else new
def c4y(c:JC)(p s:B):B×JC:=match p with
 | .var j=>if Nat.ble N j then(if Nat.blt j (N+1000) then(.var j,c) else(.var (N+c.n),{ c with n:=c.n+1 })) else if B.same (.var j) s then(.var j,c) else(.var (N+c.n),{ c with n:=c.n+1 })
 | p=>if B.same p s&&B.low N p then(p,c) else(.var (N+c.n),{ c with n:=c.n+1 })
def a2B(c:JC)(p s:X):X×JC:=match p with
 | .var j=>if Nat.ble N j then(if Nat.blt j (N+1000) then(.var j,c) else(.var (N+c.n),{ c with n:=c.n+1 })) else if X.same (.var j) s then(.var j,c) else(.var (N+c.n),{ c with n:=c.n+1 })
 | p=>if X.same p s&&X.low N p then(p,c) else(.var (N+c.n),{ c with n:=c.n+1 })
def b0U(c:JC)(q:Nat):S0×JC:=match j6 c.tq q with
 | some P=>match c.tk.get P with
   | some (.own _ _ _ v)=>(.own P v,c)
   | _=>(.any,c)
 | none=>match c.mm.get q with
   | some (.own t ks _ _)=>(.own c.nx (.var (N+c.n)),{ c with n:=c.n+2,tq:=(q,c.nx)::c.tq,tk:=(c.nx,.own t ks (.var (N+c.n+1)) (.var (N+c.n)))::c.tk,nx:=c.nx+1 })
   | _=>(.any,c)
def c3u(c:JC)(p s:S0):S0×JC:=match p,s with
 | .int k p,.int k' e=>if k=k' then let q:=a0U N c p e;(.int k q.1,q.2) else(.any,c)
 | .bool p,.bool e=>let q:=c4y N c p e;(.bool q.1,q.2)
 | .ext K x f,.ext K' y f'=>if CK.sameL K K' then let q:=a2B N c x y;(.ext K q.1 (f&&f'),q.2) else(.any,c)
 | .eptr K x i o,.eptr K' x' i' o'=>if CK.sameL K K'&&Nat.beq o o' then let q:=a2B N c x x';let r:=a0U N q.2 i i';(.eptr K q.1 r.1 o,r.2) else(.any,c)
 | .const (.slice none 0 0),.own q _=>b0U N c q
 | .const (.slice none 0 0),.ovw q _ k _ _ false=>match b0U N c q with
   | (.own i v,c)=>(.ovw i v k (.var (N+c.n)) (.var (N+c.n+1)) false,{ c with n:=c.n+2 })
   | r=>r
 | .ovw i v k a b false,.const (.slice none 0 0)=>(.ovw i v k a b false,c)
 | .const (.slice none 0 0),.ext K y f=>let q:=a2B N c .nil y;(.ext K q.1 f,q.2)
 | .ext K x f,.const (.slice none 0 0)=>let q:=a2B N c x .nil;(.ext K q.1 f,q.2)
 | .own i v,.const (.slice none 0 0)=>(.own i v,c)
 | .bptr i v o,.bptr i' v' o'=>if Nat.beq i i'&&Nat.beq o o' then let q:=W5 N c v v';(.bptr i q.1 o,q.2) else(.any,c)
 | .own i v,.own i' v'=>if Nat.beq i i' then let q:=W5 N c v v';(.own i q.1,q.2) else if (c.tk.get i).isSome then(.own i v,c) else(.any,c)
 | .own i v,.ovw i' v' k _ _ f=>if Nat.beq i i' then let q:=W5 N c v v';(.ovw i q.1 k (.var (N+q.2.n)) (.var (N+q.2.n+1)) f,{ q.2 with n:=q.2.n+2 }) else if (c.tk.get i).isSome&& !f then(.ovw i v k (.var (N+c.n)) (.var (N+c.n+1)) false,{ c with n:=c.n+2 }) else(.any,c)
 | .ovw i v k a b false,.own i' v'=>if Nat.beq i i' then let q:=W5 N c v v';let r:=a0U N q.2 a (.lit 0);let t:=a0U N r.2 b (.lit (-1));(.ovw i q.1 k r.1 t.1 false,t.2) else if (c.tk.get i).isSome then(.ovw i v k a b false,c) else(.any,c)
 | .ovw i v k a b f,.ovw i' v' k' a' b' f'=>if Nat.beq i i'&&Nat.beq k k'&&(f == f') then let q:=W5 N c v v';let r:=a0U N q.2 a a';let t:=a0U N r.2 b b';(.ovw i q.1 k r.1 t.1 f,t.2) else if (c.tk.get i).isSome&&Nat.beq k k'&&(f == f') then(.ovw i v k a b f,c) else(.any,c)
 | p,s=>if a5m N nx .nil p s then(p,c) else(.any,c)
def b9F(c:JC)(p s:S):S×JC:=match p,s with
 | .z p,.z s=>let q:=c3u N nx c p s;(.z q.1,q.2)
 | p,s=>if okS N nx .nil p s then(p,c) else(.z .any,c)
def a2h:JC→List S→List S→List S×JC
 | c,p::ps,s::ss=>let q:=b9F N nx c p s;let r:=a2h q.2 ps ss;(q.1::r.1,r.2)
 | c,ps,_=>(ps,c)
def c4x(c:JC)(p s:V):V×JC:=match p,s with
 | .v (.one p),.v (.one s)=>let q:=b9F N nx c p s;(.v (.one q.1),q.2)
 | .v (.agg ps),.v (.agg ss)=>if Nat.beq ps.length ss.length then let q:=a2h N nx c ps ss;(.v (.agg q.1),q.2) else(V.any,c)
 | _,_=>(V.any,c)
def a9e:JC→List V→List V→List V×JC
 | c,p::ps,s::ss=>let q:=c4x N nx c p s;let r:=a9e q.2 ps ss;(q.1::r.1,r.2)
 | c,ps,_=>(ps,c)
def c0e(c:JC)(p b:Blk):Blk×JC:=match p,b with
 | .cells t ps,.cells _ ss=>let q:=a2h N nx c ps ss;(.cells t q.1,q.2)
 | .row t ps,.row _ ss=>let q:=a2h N nx c ps ss;(.row t q.1,q.2)
 | .own t ks x v,.own _ _ x' v'=>let q:=a2B N c x x';let r:=W5 N q.2 v v';(.own t ks q.1 r.1,r.2)
 | .chn k x cp,.chn _ x' cp'=>let q:=a2B N c x x';let r:=a0U N q.2 cp cp';(.chn k q.1 r.1,r.2)
 | .vbox t ps v,.vbox _ ss v'=>let q:=a2h N nx c ps ss;let r:=W5 N q.2 v v';(.vbox t q.1 r.1,r.2)
 | .loop s pe tm ps asg body df,.loop _ _ tm' _ _ _ _=>let q:=a9e N nx c tm tm';(.loop s pe q.1 ps asg body df,q.2)
 | p,_=>(p,c)
def b0r:JC→Mem→Mem→Mem×JC
 | c,[],_=>([],c)
 | c,(i,b)::l,mm=>let q:=(match mm.get i with | some b'=>c0e N nx c b b' | none=>(b,c));let r:=b0r q.2 l mm;((i,q.1)::r.1,r.2)
def b3L(p:St×JC)(s:St):St×JC:=
 let q:=a9e N nx { p.2 with mm:=s.mem } p.1.tm s.tm
 let r:=b0r N nx q.2 p.1.mem s.mem
 ({ p.1 with tm:=q.1,mem:=r.1 },r.2)
end
def a3J(l:List S):Nat:=l.foldl (fun n s=>match s with | .z .any=>n+1 | _=>n) 0
def b5N(l:List V):Nat:=l.foldl (fun n v=>match v with | .v (.one (.z .any))=>n+1 | .v (.agg cs)=>n+a3J cs | _=>n) 0
def b4m(st:St):Nat:=b5N st.tm+st.mem.foldl (fun n b=>match b.2 with | .cells _ cs=>n+a3J cs | .row _ cs=>n+a3J cs | .vbox _ cs _=>n+a3J cs | .loop _ _ tm _ _ _ _=>n+b5N tm | _=>n) 0
def b3p(run:St→T (Ex×St))(N:Nat):Nat→St→Nat→St
 | 0,pat,_=>pat
 | f+1,pat,c=>
   let ends:=(run pat).ends.flatMap fun p=>match p.1 with | .normal=>[p.2] | _=>[]
   let q:=ends.foldl (b3L N pat.nx) (pat,⟨c,[],[],[],[],pat.nx⟩)
   if (match pat.df with | d::_=> !Nat.ble j5 d | []=>true)&&ends.any (fun s=> !H0 s.df pat.df) then b3p run N f { q.1 with mem:=(q.2.nx,.dfm)::(q.2.tk++q.1.mem),nx:=q.2.nx+1,df:=(j5+q.2.nx)::pat.df } q.2.n else
   if Nat.beq q.2.n c&&q.2.tk.isEmpty&&Nat.beq (b4m q.1) (b4m pat) then pat else b3p run N f { q.1 with mem:=q.2.tk++q.1.mem,nx:=q.2.nx } q.2.n
def Mem.nub:Mem→List Nat→Mem
 | [],_=>[]
 | (i,b)::l,seen=>if seen.contains i then Mem.nub l seen else(i,b)::Mem.nub l (i::seen)
def b4i(mm:Mem)(i:Nat):Blk→Blk
 | .loop s pe tm _ _ _ df=>match mm.get i with
   | some (.loop _ _ _ ps asg body _)=> .loop s pe tm ps asg body df
   | _=> .gone
 | b=>b
def a1U(l mm:Mem):Mem:=l.map fun p=>(p.1,b4i mm p.1 p.2)
def c4u(q st:St):List Nat:=match q.df with
 | d::_=>if Nat.ble j5 d&&a0z (q.mem.get (d-j5))&&(st.mem.get (d-j5)).isNone then d::st.df else st.df
 | []=>st.df
def a5x(q st:St):St:= { tm:=q.tm,mem:=a1U q.mem st.mem,nx:=max (st.nx+1) q.nx,df:=c4u q st }
def u7(hint:Option St)(run:St→T (Ex×St))(st:St):St:=
 a5x (match hint with | some q=>q | none=>b3p run (1000*(st.nx+1)) 8 { st with mem:=st.mem.nub [],nx:=st.nx+1 } 0) st
section
variable (mm:Mem) (new:Nat→Bool)
def b2E(p s:S0):S0:=match p,s with
 | .own i _,.const (.slice none 0 0)=>if new i then .own i (.lit 0) else s
 | .ovw i _ k _ _ false,.const (.slice none 0 0)=>if new i then .ovw i (.lit 0) k (.lit 0) (.lit 0) false else s
 | .ext K _ _,.const (.slice none 0 0)=> .ext K .nil true
 | .ovw i _ k _ _ false,.own i' v=>if Nat.beq i i' then match mm.get i' with
   | some (.own _ ks x v')=>if E.same v v'&&Nat.beq ks.length k then .ovw i' v k (.lit 0) (.len x) false else s
   | _=>s
   else s
 | _,s=>s
def b2S(p s:S):S:=match p,s with
 | .z p,.z s=> .z (b2E mm new p s)
 | _,s=>s
def a1d:List S→List S→List S
 | p::ps,s::ss=>b2S mm new p s::a1d ps ss
 | _,ss=>ss
def b7I(p s:V):V:=match p,s with
 | .v (.one p),.v (.one s)=> .v (.one (b2S mm new p s))
 | .v (.agg ps),.v (.agg ss)=> .v (.agg (a1d mm new ps ss))
 | _,s=>s
def a2r:List V→List V→List V
 | p::ps,s::ss=>b7I mm new p s::a2r ps ss
 | _,ss=>ss
def a3R(p b:Blk):Blk:=match p,b with
 | .cells _ ps,.cells t ss=> .cells t (a1d mm new ps ss)
 | .row _ ps,.row t ss=> .row t (a1d mm new ps ss)
 | .loop _ _ tm _ _ _ _,.loop s pe tm' ps asg body df=> .loop s pe (a2r mm new tm tm') ps asg body df
 | _,b=>b
end
def B0(pat:Mem)(st:St):Mem:=pat.filterMap fun p=>match p.2 with
 | .own t ks _ _=>if Nat.blt st.nx p.1&&(st.mem.get p.1).isNone then some (p.1,.own t ks .nil (.lit 0)) else none
 | .dfm=>if Nat.blt st.nx p.1&&(st.mem.get p.1).isNone then some (p.1,.dfm) else none
 | _=>none
def b1y(pat st:St)(nw:Mem):List Nat:=match pat.df with
 | d::_=>if Nat.ble j5 d&&a0z (nw.get (d-j5)) then d::st.df else st.df
 | []=>st.df
def Y2(pat st:St):St:=
 let nw:=B0 pat.mem st
 let new:=fun i=>(nw.get i).isSome
 { st with tm:=a2r st.mem new pat.tm st.tm,mem:=nw++st.mem.map fun p=>(p.1,match pat.mem.get p.1 with | some b=>a3R st.mem new b p.2 | none=>p.2),df:=b1y pat st nw }
def Lt.hintL:List (Nat×St)→St→Option St
 | [],_=>none
 | (m,q)::l,st=>if Nat.beq m st.nx&&(v7 (1000*(st.nx+1)) (a5x q st) (Y2 (a5x q st) st)).isSome then some q else Lt.hintL l st
def Lt.hint(lt:Lt)(st:St):Option St:=Lt.hintL lt.pats st
def H5(t:T (Ex×St)):Nat:=t.ends.foldl (fun n p=>max n p.2.nx) 0
def c0h(run:St→T (Ex×St))(st:St):Bool:= !((run (u7 none run st)).ends.any fun p=>match p.1 with | .normal=>true | _=>false)||(v7 (1000*(st.nx+1)) (u7 none run st) (Y2 (u7 none run st) st)).isNone
def a6Y(hint:Option St)(run:St→T (Ex×St))(st:St):T (Ex×St):=
 match v7 (1000*(st.nx+1)) (u7 hint run st) (Y2 (u7 hint run st) st) with
 | some m=>if H0 (u7 hint run st).df (Y2 (u7 hint run st) st).df&&(u7 hint run st).df.all (fun d=>Nat.blt (M4 d) (u7 hint run st).nx) then .loop (1000*(st.nx+1)) (u7 hint run st) m (run (u7 hint run st)) (fun p=> .ret (p.1,{ p.2 with mem:=p.2.mem++st.mem,nx:=H5 (run (u7 hint run st)) })) else .stuck "loop: marks"
 | none=> .stuck "loop: pattern"
def W6:Nat:=61
def Ex.isJoin:Ex→Bool | .exit id=>Nat.beq id W6 | _=>false
def b1O(df:List Nat)(p:Ex×St):T (Ex×St):=match p.1 with
 | .normal=>if H0 p.2.df df then .ret (.normal,{ p.2 with tm:=p.2.tm++[V.v (.one (.z (.bool (.lit true))))] }) else .stuck "join: marks"
 | .exit id=>if Nat.beq id W6 then .stuck "join" else .ret p
 | _=> .ret p
def c3i(nx:Nat)(m:Mem)(l:List St):Nat:=m.foldl (fun k p=>match p.2 with
 | .own _ _ _ _=>if Nat.ble nx p.1&&l.all (fun s=>match s.mem.get p.1 with | some (.own _ _ _ _)=>true | _=>false) then max k (p.1+1) else k
 | _=>k) nx
def c0Z(nx top:Nat)(m:Mem):Mem:=(m.filter fun p=>Nat.blt p.1 top).map fun p=>(p.1,if Nat.blt p.1 nx then p.2 else match p.2 with | .own t ks x v=> .own t ks x v | _=> .gone)
def s6(hint:Option St)(N:Nat)(st:St)(t:T (Ex×St)):St:=
 match hint with
 | some q=> { tm:=q.tm,mem:=a1U q.mem st.mem,nx:=max (st.nx+1) q.nx,df:=st.df }
 | none=>match t.ends.flatMap fun p=>match p.1 with | .normal=>[p.2] | _=>[] with
   | []=> { st with mem:=[],nx:=st.nx+1 }
   | s::l=>
     let m:=Mem.nub s.mem []
     let top:=c3i st.nx m l
     let q:=(s::l).foldl (b3L N (max (st.nx+1) top)) ({ s with mem:=c0Z st.nx top m },⟨1,[],[],[],[],max (st.nx+1) top⟩)
     { tm:=q.1.tm,mem:=a1U q.1.mem st.mem,nx:=max (st.nx+1) top,df:=st.df }
def a2t:V→V
 | .v (.one (.z s))=> .v (.one (.z s))
 | .v (.one (.iface t a cs))=> .v (.one (.iface t a cs))
 | .v (.agg cs)=> .v (.agg cs)
 | _=>V.any
def S4(st:St):St:= { st with tm:=st.tm.map a2t,nx:=st.nx+1 }
def a7d(N:Nat)(st:St):Bool:=match v7 N { S4 st with mem:=st.mem.nub [] } (S4 st) with
 | some ⟨[],[],[]⟩=>true
 | _=>false
def Z0(hint:Option St)(st:St)(t:T (Ex×St)):T (Ex×St):=
 if a7d (1000*(st.nx+1)) st then
  .loop (1000*(st.nx+1)) { s6 hint (1000*(st.nx+1)) st t with tm:=(s6 hint (1000*(st.nx+1)) st t).tm++[V.v (.one (.z (.bool (.var (1000*(st.nx+1))))))] } ⟨[],[(0,.lit false)],[]⟩
   (.ite (.var (1000*(st.nx+1))) (.ret (.exit W6,{ s6 hint (1000*(st.nx+1)) st t with mem:=(s6 hint (1000*(st.nx+1)) st t).mem++st.mem,nx:=H5 t })) (t.bind (b1O st.df)))
   (fun p=>if p.1.isJoin then .ret (.normal,p.2) else .ret p)
 else .stuck "join"
def Lt.joins(lt:Lt)(h:Where)(k:Nat):Bool:=match h with
 | none=>false
 | some (f,_)=>Lt.hasL lt.un (some (f,k))
def Lt.jhint(lt:Lt)(h:Where)(k:Nat)(st:St):Option St:=match h with
 | none=>none
 | some (f,_)=>Lt.jhintL lt.jpats f k st
def b1o:Operand→Nat | .tmp t=>1000000+t | _=>1000000
def a3Q(ops:Array Oper):Nat:=match ops[0]? with | some o=>2000000+o.dst.getD 0 | none=>2000000
section
variable (P:Program) (ct:Ct) (lt:Lt)
mutual
def code:Nat→Where→Option Nat→Code→St→T (Ex×St)
 | 0,_,_,_,_=> .stuck "fuel"
 | n+1,h,r,c,st=>
   match c with
   | .skip=> .ret (.normal,st)
   | .label _=> .ret (.normal,st)
   | .exit id=> .ret (.exit id,st)
   | .goto l=> .ret (.goto l,st)
   | .ret=> .ret (.ret,st)
   | .seq a b=>(code n h r a st).bind fun p=>match p.1 with | .normal=>code n (h.skip (D1 a)) r b p.2 | _=> .ret p
   | .cond x a b=>match G2 st.tm x with
     | .v (.one (.z (.bool c)))=>if lt.joins h (b1o x) then Z0 (lt.jhint h (b1o x) st) st (.iteS c (code n h r a (S4 st)) (code n (h.skip (D1 a)) r b (S4 st))) else .iteS c (code n h r a st) (code n (h.skip (D1 a)) r b st)
     | _=> .stuck "cond"
   | .block id b=>if lt.joins h (4000000+id) then Z0 (lt.jhint h (4000000+id) st) st ((code n h r b (S4 st)).bind fun p=>match p.1 with | .exit id'=>if id'=id then .ret (.normal,p.2) else .ret p | _=> .ret p) else(code n h r b st).bind fun p=>match p.1 with | .exit id'=>if id'=id then .ret (.normal,p.2) else .ret p | _=> .ret p
   | .loop b=>if lt.has h||((lt.hint st).isNone&&((code n (h.skip 1) r b st).single||(lt.joins h 5000000&&c0h (code n (h.skip 1) r b) st))) then(code n (h.skip 1) r b st).bind fun p=>match p.1 with | .normal=>code n h r (.loop b) p.2 | _=> .ret p
     else a6Y (lt.hint st) (code n (h.skip 1) r b) st
   | .region _ ops false=>if lt.joins h (a3Q ops) then Z0 (lt.jhint h (a3Q ops) st) st ((G8 n r ops 0 (S4 st)).bind fun st=> .ret (.normal,st)) else(G8 n r ops 0 st).bind fun st=> .ret (.normal,st)
   | .region _ ops true=>if lt.joins h (a3Q ops) then Z0 (lt.jhint h (a3Q ops) st) st ((A3 n r ops 0 (S4 st) []).bind fun st=> .ret (.normal,st)) else(A3 n r ops 0 st []).bind fun st=> .ret (.normal,st)
   | .rangeFunc g ps asg body=>match G2 st.tm g with
     | .v (.one (.z (.clo f cap)))=>
       match r with
       | none=>if Nat.ble j5 st.nx then .stuck "numbers" else(call n f (.s0 (.yl (st.nx+1))::cap.map fun p=> .s0 (.ptr p.1 p.2)) ((st.nx+1,.loop .ready none st.tm ps.toList asg body st.nx)::(st.nx,.dfd false)::st.mem) (st.nx+2)).bind fun q=>
         E7 n r (st.nx+1) { st with mem:=q.2.1++(st.nx+1,.loop .ready none st.tm ps.toList asg body st.nx)::(st.nx,.dfd false)::st.mem,nx:=q.2.2,df:=st.nx::st.df }
       | some rid=>match st.mem.get rid with
         | some (.loop _ _ _ _ _ _ d)=>(call n f (.s0 (.yl st.nx)::cap.map fun p=> .s0 (.ptr p.1 p.2)) ((st.nx,.loop .ready none st.tm ps.toList asg body d)::st.mem) (st.nx+1)).bind fun q=>
           E7 n r st.nx { st with mem:=q.2.1++(st.nx,.loop .ready none st.tm ps.toList asg body d)::st.mem,nx:=q.2.2 }
         | _=> .stuck "round"
     | _=> .stuck "range over a function"
   | .scope b=>(code n h r b st).bind fun p=>match p.1 with | .goto _=> .stuck "goto" | _=> .ret p
   | _=> .stuck "code"
def E7:Nat→Option Nat→Nat→St→T (Ex×St)
 | 0,_,_,_=> .stuck "fuel"
 | n+1,r,lid,st=>match st.mem.get lid with
   | some (.loop s p tm ps asg body d)=>match s with
     | .busy=> .stuck "busy"
     | _=>match p with
       | none=> .ret (.normal,{ st with mem:=(lid,.loop .exhausted p tm ps asg body d)::st.mem })
       | some c=>code n none r c { st with mem:=(lid,.loop .exhausted p tm ps asg body d)::st.mem }
   | _=> .stuck "record"
def G8:Nat→Option Nat→Array Oper→Nat→St→T St
 | 0,_,_,_,_=> .stuck "fuel"
 | n+1,r,ops,i,st=>
   match ops[i]? with
   | none=> .ret st
   | some o=>match Z7 ops st.tm o with
     | none=> .stuck "guard"
     | some false=>G8 n r ops (i+1) { st with tm:=B5 st.tm o.dst (.tup []) }
     | some true=>(match a4s P st.mem st.nx (G2 st.tm) o.op with | some t=>t | none=>(oper n o (G2 st.tm) st.mem st.nx).bind (a4p (b1f ops i)):T i8).bind fun q=>
       G8 n r ops (i+1) { st with tm:=B5 st.tm o.dst q.1,mem:=q.2.1++st.mem,nx:=q.2.2 }
def A3:Nat→Option Nat→Array Oper→Nat→St→List Info→T St
 | 0,_,_,_,_,_=> .stuck "fuel"
 | n+1,r,ops,i,st,log=>
   match ops[i]? with
   | none=>if a1H ops log then .ret st else .stuck "draws"
   | some o=>match Z7 ops st.tm o with
     | none=> .stuck "guard"
     | some false=>A3 n r ops (i+1) { st with tm:=B5 st.tm o.dst (.tup []) } (log++[⟨[],[]⟩])
     | some true=>((oper n o (G2 st.tm) (st.mem.sub (a6a st.mem (G2 st.tm) o)) st.nx).bind (a4p (b1f ops i))).bind fun q=>
       A3 n r ops (i+1) { st with tm:=B5 st.tm o.dst q.1,mem:=q.2.1++st.mem,nx:=q.2.2 } (log++[⟨a6a st.mem (G2 st.tm) o,q.2.1.map (·.1)⟩])
def oper:Nat→Oper→(Operand→V)→Mem→Nat→T i8
 | 0,_,_,_,_=> .stuck "fuel"
 | n+1,o,g,mem,nx=>
   match o.op with
   | .alloc t=>match zeroCells P t with
     | some z=>if lt.verBox o.dst then a1f mem nx t z.cells (match o.dst with | some d=>g (.tmp d) | none=>V.any) else .ret (.s0 (.ptr nx 0),[(nx,.cells t z.cells)],nx+1)
     | none=> .stuck "alloc"
   | .box t x=>match g x with
     | .v v=>if v.solid then .ret (.s0 (.ptr nx 0),[(nx,.cells t v.cells)],nx+1) else .stuck "box"
     | _=> .stuck "box"
   | .load t x=>b2O nx (a7k P mem t (g x))
   | .store t x y=>a1o P mem nx t (g x) (g y)
   | .pick c a b=>match g c with
     | .v (.one (.z (.bool c)))=> .iteS c (.ret (g a,[],nx)) (.ret (g b,[],nx))
     | _=> .stuck "pick"
   | .buildSlice t len parts=>if lt.ownLit o.dst then c0I P nx t len (parts.toList.map fun(i,x)=>(i,g x)) else a5E P nx t len (parts.toList.map fun(i,x)=>(i,g x))
   | .call { callee:= .value fv,args,.. }=>match g fv with
     | .v (.one (.z (.clo f cap)))=>call n f (args.toList.map g++cap.map fun p=> .s0 (.ptr p.1 p.2)) mem nx
     | .v (.one (.z (.yl lid)))=>round n lid (args.toList.map g) mem nx
     | .v (.one (.meth nm t agg cs))=>match M5 P t nm,a0r agg cs with
       | some f,some v=>call n f (.v v::args.toList.map g) mem nx
       | _,_=> .stuck "method"
     | .v (.one (.via t f agg cs))=>if a7K P t then match a0r agg cs with | some v=>call n f (.v v::args.toList.map g) mem nx | none=> .stuck "method" else .stuck "method"
     | _=> .stuck "call"
   | .call { callee:= .invoke x name,args,.. }=>match g x with
     | .v (.one (.iface t agg cs))=>match M5 P t name,a0r agg cs with
       | some f,some v=>call n f (.v v::args.toList.map g) mem nx
       | _,_=> .stuck "method"
     | _=> .stuck "invoke"
   | op=>match a4B P mem nx g op with
     | some t=>t
     | none=>match a1B P mem nx g op with
       | some t=>t
       | none=>match a1R P g op with | some r=>b2O nx (some r) | none=> .stuck (c2P op)
def round:Nat→Nat→List V→Mem→Nat→T i8
 | 0,_,_,_,_=> .stuck "fuel"
 | n+1,lid,args,mem,nx=>match mem.get lid with
   | some (.loop .ready _ tm ps asg body _)=>
     if args.length=ps.length then
      (code n none (some lid) asg { tm:=a2s ps args tm,mem,nx,df:=[] }).bind fun p=>match p.1,p.2.mem.get lid with
       | .normal,some (.loop .ready pe tm' ps' asg' body' d')=>
         (code n none (some lid) body { p.2 with mem:=(lid,.loop .busy pe tm' ps' asg' body' d')::p.2.mem }).bind fun q=>match q.2.mem.get lid with
          | some (.loop _ _ tm2 ps2 asg2 body2 d2)=>
            .ret (bV (.lit q.1.jump.isNone),J4 nx q.2.nx (bV (.lit true)) ((lid,.loop (if q.1.jump.isNone then .ready else .done) q.1.jump tm2 ps2 asg2 body2 d2)::q.2.mem.take (q.2.mem.length-mem.length)),q.2.nx)
          | _=> .stuck "record"
       | _,_=> .stuck "round"
     else .stuck "yield"
   | _=> .stuck "record"
def call:Nat→FuncId→List V→Mem→Nat→T i8
 | 0,_,_,_,_=> .stuck "fuel"
 | n+1,f,args,mem,nx=>
   match ct.find f with
   | some c=>(c args mem nx).bind (a2f nx)
   | none=>match P.funcs[f]? with
     | none=> .stuck "no function"
     | some fn=>if fn.name == "runtime.NumGoroutine" then .stuck "NumGoroutine" else match fn.body with
       | none=> .stuck "no body"
       | some c=>(code n (some (f,0)) none c { tm:=args++List.replicate (fn.ntmps-args.length) V.any,mem,nx,df:=[] }).bind fun p=>
         if p.1.isEnd&&a2b p.2.mem p.2.df then match F8 P { p.2 with mem:=v9 p.2.df++p.2.mem } fn.results.toList with
          | some l=> .ret (D4 l,J4 nx p.2.nx (D4 l) (v9 p.2.df++p.2.mem.take (p.2.mem.length-mem.length)),p.2.nx)
          | none=> .stuck "results"
         else .stuck "left"
end
end
end Go.Proofs.YtbbjlleaofgddaaGreat
namespace Go.Proofs.YtbbjlleaofgddaaGreat
open Go.RowKit
structure As where
 f:Nat→Option Nat
 h:Nat→Int→Option Value
instance:CoeFun As (fun _=>Nat→Option Nat):=⟨As.f⟩
def j9:Value→Option Nat | .slice (some a) _ (_+1)=>some a.block | _=>none
def As.own(σ:As)(i k:Nat):Prop:=σ i=some k∨∃n v,σ.h i n=some v∧j9 v=some k
def As.has(σ:As)(i:Nat):Prop:=(∃a,σ i=some a)∨∃n v,σ.h i n=some v
theorem As.own_has{σ:As}{i k:Nat}(h:σ.own i k):σ.has i:=h.elim (fun h=> .inl ⟨_,h⟩) (fun⟨n,v,h,_⟩=> .inr ⟨n,v,h⟩)
theorem AL.cat_ev(ρ:Env):∀a q:AL,(AL.cat a q).ev ρ=a.ev ρ++q.ev ρ
 | .nil,q=>by simp [AL.cat,AL.ev]
 | .i e r,q=>by simp [AL.cat,AL.ev,AL.cat_ev ρ r q]
 | .b e r,q=>by simp [AL.cat,AL.ev,AL.cat_ev ρ r q]
 | .x e r,q=>by simp [AL.cat,AL.ev,AL.cat_ev ρ r q]
theorem AL.takeA_ev(ρ:Env):∀(a:AL) (n:Nat),(AL.takeA a n).ev ρ=(a.ev ρ).take n
 | .nil,0=>by simp [AL.takeA,AL.ev]
 | .i _ _,0=>by simp [AL.takeA,AL.ev]
 | .b _ _,0=>by simp [AL.takeA,AL.ev]
 | .x _ _,0=>by simp [AL.takeA,AL.ev]
 | .nil,n+1=>by simp [AL.takeA,AL.ev]
 | .i e r,n+1=>by simp [AL.takeA,AL.ev,AL.takeA_ev ρ r n]
 | .b e r,n+1=>by simp [AL.takeA,AL.ev,AL.takeA_ev ρ r n]
 | .x e r,n+1=>by simp [AL.takeA,AL.ev,AL.takeA_ev ρ r n]
theorem AL.dropA_ev(ρ:Env):∀(a:AL) (n:Nat),(AL.dropA a n).ev ρ=(a.ev ρ).drop n
 | .nil,0=>by simp [AL.dropA]
 | .i _ _,0=>by simp [AL.dropA]
 | .b _ _,0=>by simp [AL.dropA]
 | .x _ _,0=>by simp [AL.dropA]
 | .nil,n+1=>by simp [AL.dropA,AL.ev]
 | .i e r,n+1=>by simp [AL.dropA,AL.ev,AL.dropA_ev ρ r n]
 | .b e r,n+1=>by simp [AL.dropA,AL.ev,AL.dropA_ev ρ r n]
 | .x e r,n+1=>by simp [AL.dropA,AL.ev,AL.dropA_ev ρ r n]
theorem AL.lenA_ev(ρ:Env):∀a:AL,(a.ev ρ).length=a.lenA
 | .nil=>by simp [AL.lenA,AL.ev]
 | .i e r=>by simp [AL.lenA,AL.ev,AL.lenA_ev ρ r]
 | .b e r=>by simp [AL.lenA,AL.ev,AL.lenA_ev ρ r]
 | .x e r=>by simp [AL.lenA,AL.ev,AL.lenA_ev ρ r]
theorem X.lenN_ev(ρ:Env):∀ {x:X} {n:Nat},x.lenN=some n→(x.ev ρ).length=n
 | .nil,n,h=>by simp only[X.lenN,Option.some.injEq] at h;subst h;simp [X.ev]
 | .row l,n,h=>by simp only[X.lenN,Option.some.injEq] at h;subst h;simp [X.ev]
 | .app x y,n,h=>by
   simp only[X.lenN] at h
   split at h
   ·rename_i a b h1 h2
    simp only[Option.some.injEq] at h
    simp only[X.ev,List.length_append,X.lenN_ev ρ h1,X.lenN_ev ρ h2]
    exact h
   ·cases h
 | .upd x i j l,n,h=>by
   simp only[X.lenN] at h
   simp only[X.ev,z9,List.length_modify]
   exact X.lenN_ev ρ h
 | .var _,n,h=>by simp [X.lenN] at h
 | .rd _ _ _,n,h=>by simp [X.lenN] at h
 | .sub x a b,n,h=>by
   cases a<;>try (simp [X.lenN] at h;done)
   cases b<;>try (simp [X.lenN] at h;done)
   simp only[X.lenN] at h
   split at h
   ·rename_i m hm
    simp only[Option.some.injEq] at h
    subst h
    have:=X.lenN_ev ρ hm
    simp only[X.ev,E.ev,k5,List.length_take,List.length_drop,this]
   ·cases h
 | .fn _ _,n,h=>by simp [X.lenN] at h
 | .rep e l,n,h=>by
   cases e<;>simp only[X.lenN,reduceCtorEq,Option.some.injEq] at h
   subst h
   simp [X.ev,E.ev]
theorem E.lenS_ev(ρ:Env)(x:X):(E.lenS x).ev ρ=((x.ev ρ).length:Nat):=by
 unfold E.lenS
 split
 ·rename_i n h
  simp only[E.ev,X.lenN_ev ρ h]
 ·simp only[E.ev]
def AC.ev(ρ:Env)(c:AC):D:=match c with | AC.i e=>D.i (e.ev ρ) | AC.b e=>D.b (e.ev ρ) | AC.x e=>D.l (e.ev ρ)
theorem AL.at_ev(ρ:Env):∀ {l:AL} {n:Nat} {c:AC},l.at n=some c→(l.ev ρ)[n]? = some (c.ev ρ)
 | .nil,n,c,h=>by simp [AL.at] at h
 | .i e r,0,c,h=>by simp only[AL.at,Option.some.injEq] at h;subst h;simp [AL.ev,AC.ev]
 | .b e r,0,c,h=>by simp only[AL.at,Option.some.injEq] at h;subst h;simp [AL.ev,AC.ev]
 | .x e r,0,c,h=>by simp only[AL.at,Option.some.injEq] at h;subst h;simp [AL.ev,AC.ev]
 | .i e r,n+1,c,h=>by simp only[AL.at] at h;simp only[AL.ev,List.getElem?_cons_succ];exact AL.at_ev ρ h
 | .b e r,n+1,c,h=>by simp only[AL.at] at h;simp only[AL.ev,List.getElem?_cons_succ];exact AL.at_ev ρ h
 | .x e r,n+1,c,h=>by simp only[AL.at] at h;simp only[AL.ev,List.getElem?_cons_succ];exact AL.at_ev ρ h
theorem X.at_ev(ρ:Env):∀ {x:X} {n:Nat} {l:AL},x.at n=some l→(x.ev ρ)[n]? = some (l.ev ρ)
 | .row r,0,l,h=>by simp only[X.at,Option.some.injEq] at h;subst h;simp [X.ev]
 | .row r,n+1,l,h=>by simp [X.at] at h
 | .app x y,n,l,h=>by
   simp only[X.at] at h
   split at h
   ·rename_i m hm
    have hl:=X.lenN_ev ρ hm
    simp only[X.ev]
    split at h
    ·rw[List.getElem?_append_left (by omega)]
     exact X.at_ev ρ h
    ·rw[List.getElem?_append_right (by omega),hl]
     exact X.at_ev ρ h
   ·cases h
 | .nil,n,l,h=>by simp [X.at] at h
 | .var _,n,l,h=>by simp [X.at] at h
 | .rd _ _ _,n,l,h=>by simp [X.at] at h
 | .sub x a b,n,l,h=>by
   cases a<;>try (simp [X.at] at h;done)
   cases b<;>try (simp [X.at] at h;done)
   simp only[X.at] at h
   split at h
   ·rename_i hn
    have:=X.at_ev ρ h
    simp only[X.ev,E.ev,k5]
    rw[List.getElem?_take_of_lt hn,List.getElem?_drop]
    exact this
   ·cases h
 | .upd x e j r,n,l,h=>by
   cases e<;>try (simp [X.at] at h;done)
   simp only[X.at] at h
   simp only[X.ev,E.ev,z9,List.getElem?_modify]
   split at h
   ·rename_i hn
    rw[Option.map_eq_some_iff] at h
    obtain⟨q,hq,rfl⟩:=h
    rw[X.at_ev ρ hq]
    simp [hn,AL.cat_ev,AL.takeA_ev,AL.dropA_ev,AL.lenA_ev]
   ·rename_i hn
    rw[X.at_ev ρ h]
    simp [Ne.symm hn]
 | .fn _ _,n,l,h=>by simp [X.at] at h
 | .rep e r,n,l,h=>by
   cases e<;>simp only[X.at,reduceCtorEq] at h
   split at h
   ·rename_i hn
    simp only[Option.some.injEq] at h
    subst h
    simp only[X.ev,E.ev,List.getElem?_replicate,if_pos hn]
   ·cases h
theorem X.cell_ev(ρ:Env){x:X}{i:E}{off:Nat}{c:AC}(h:x.cell i off=some c):o5 (x.ev ρ) (i.ev ρ) off=c.ev ρ:=by
 unfold X.cell at h
 split at h
 ·rename_i n
  split at h
  ·cases hl:x.at n.toNat with
   | none=>rw[hl] at h;cases h
   | some l=>
     rw[hl] at h
     have h:l.at off=some c:=h
     unfold o5
     simp only[E.ev]
     rw[X.at_ev ρ hl]
     simp only[Option.getD_some]
     rw[AL.at_ev ρ h]
     rfl
  ·cases h
 ·cases h
def DL{α:Type}(R:α→Value→Prop):List α→List Value→Prop
 | [],[]=>True
 | a::l,v::vs=>R a v∧DL R l vs
 | _,_=>False
mutual
def CK.rep(w:World):CK→Value→D→Prop
 | .int k,v,d=>∃n,v= .int k n∧d= .i n
 | .bool,v,d=>∃b,v= .bool b∧d= .b b
 | .sl ks,v,d=>∃r a n c,d= .l r∧v= .slice a n c∧r.length=n∧n≤c∧n≤281474976710656∧(0<n→a.isSome=true)∧∀b,a=some b→
  ∀(i:Nat) (row:List D),r[i]? = some row→∃vs,CK.reps w ks vs row∧∀(j:Nat) (v:Value),vs[j]? = some v→w.cell? (b.add (i*ks.length+j))=some v
def CK.reps(w:World):List CK→List Value→List D→Prop
 | [],vs,ds=>vs=[]∧ds=[]
 | k::ks,vs,ds=>∃v vs' d ds',vs=v::vs'∧ds=d::ds'∧CK.rep w k v d∧CK.reps w ks vs' ds'
end
structure SlAt (w:World) (ks:List CK) (a:Option Addr) (n c:Nat) (r:Rows):Prop where
 len:r.length=n
 cap:n≤c
 big:n≤281474976710656
 there:0<n→a.isSome=true
 cell:∀b,a=some b→∀(i:Nat) (row:List D),r[i]? = some row→∃vs,CK.reps w ks vs row∧∀(j:Nat) (v:Value),vs[j]? = some v→w.cell? (b.add (i*ks.length+j))=some v
def Sl(w:World)(ks:List CK)(v:Value)(r:Rows)(full:Bool):Prop:=∃a n c,v= .slice a n c∧SlAt w ks a n c r∧(full=true→c=n)
theorem x9{w:World}{ks:List CK}{v:Value}{d:D}:CK.rep w (.sl ks) v d↔∃r,d= .l r∧Sl w ks v r false:=by
 unfold CK.rep
 constructor
 ·rintro⟨r,a,n,c,rfl,rfl,h1,h2,h3,h4,h5⟩
  exact⟨r,rfl,a,n,c,rfl,⟨h1,h2,h3,h4,h5⟩,by simp⟩
 ·rintro⟨r,rfl,a,n,c,rfl,⟨h1,h2,h3,h4,h5⟩,_⟩
  exact⟨r,a,n,c,rfl,rfl,h1,h2,h3,h4,h5⟩
theorem w9{w:World}:∀ {ks:List CK} {vs:List Value} {ds:List D},CK.reps w ks vs ds→vs.length=ks.length∧ds.length=ks.length
 | [],vs,ds,h=>by unfold CK.reps at h;obtain⟨rfl,rfl⟩:=h;exact⟨rfl,rfl⟩
 | k::ks,vs,ds,h=>by
   unfold CK.reps at h
   obtain⟨v,vs',d,ds',rfl,rfl,_,h⟩:=h
   obtain⟨h1,h2⟩:=w9 h
   simp [h1,h2]
theorem F5{w:World}:∀ {ks:List CK} {vs:List Value} {ds:List D} {j:Nat} {k:CK},CK.reps w ks vs ds→ks[j]? = some k→∃v d,vs[j]? = some v∧ds[j]? = some d∧CK.rep w k v d
 | [],vs,ds,j,k,_,hj=>by simp at hj
 | k0::ks,vs,ds,j,k,h,hj=>by
   unfold CK.reps at h
   obtain⟨v,vs',d,ds',rfl,rfl,h0,h⟩:=h
   cases j with
   | zero=>simp at hj;subst hj;exact⟨v,d,rfl,rfl,h0⟩
   | succ j=>simpa using F5 h (by simpa using hj)
def capDen(σ:As)(p:Nat×Nat)(v:Value):Prop:=∃a,σ p.1=some a∧v= .pointer (some ⟨a,p.2,none⟩)
def C6(r:Nat):Value:= .slice (some ⟨r,0,none⟩) 0 1
def S0.den(ρ:Env)(σ:As):S0→Value→Prop
 | .bool b,v=>v= .bool (b.ev ρ)
 | .int k e,v=>v= .int k (e.ev ρ)
 | .ptr id off,v=>∃a,σ id=some a∧v= .pointer (some ⟨a,off,none⟩)
 | .sl id off len (some c),v=>∃a,σ id=some a∧v= .slice (some ⟨a,off,none⟩) len c
 | .sl id off len none,v=>∃a c,σ id=some a∧len≤c∧v= .slice (some ⟨a,off,none⟩) len c
 | .ext ks x f,v=>Sl ρ.w ks v (x.ev ρ) f
 | .eptr ks x i off,v=>∃b n c,SlAt ρ.w ks (some b) n c (x.ev ρ)∧0≤i.ev ρ∧i.ev ρ<(n:Int)∧v= .pointer (some (b.add ((i.ev ρ).toNat*ks.length+off)))
 | .clo f cap,v=>∃vs,DL (capDen σ) cap vs∧v= .func (.func f) #[] vs.toArray
 | .own id ver,v=>(∃a n c,v= .slice a n c)∧σ.h id (ver.ev ρ)=some v
 | .ovw id ver k lo hi full,v=>∃a n c b c',σ.h id (ver.ev ρ)=some (.slice a n c)∧0≤lo.ev ρ∧lo.ev ρ≤hi.ev ρ∧hi.ev ρ≤(n:Int)∧v= .slice b ((hi.ev ρ).toNat-(lo.ev ρ).toNat) c'∧(hi.ev ρ).toNat-(lo.ev ρ).toNat≤c'∧
  (lo.ev ρ<hi.ev ρ→∃q,a=some q∧b=some (q.add ((lo.ev ρ).toNat*k)))∧(full=true→c'=(hi.ev ρ).toNat-(lo.ev ρ).toNat)∧(lo.ev ρ=0→full=false→b=a∧c'=c)
 | .optr id ver k i off,v=>∃a n c,σ.h id (ver.ev ρ)=some (.slice (some a) n c)∧0≤i.ev ρ∧i.ev ρ<(n:Int)∧v= .pointer (some (a.add ((i.ev ρ).toNat*k+off)))
 | .yl id,v=>∃a,σ id=some a∧v= .func (.yield a) #[] #[]
 | .chn id,v=>∃a,σ id=some a∧v= .chan (some a)
 | .bptr id ver off,v=>∃a,σ.h id (ver.ev ρ)=some (C6 a)∧v= .pointer (some ⟨a,off,none⟩)
 | .const c,v=>v=c
 | .any,_=>True
def a5s(t:Option TypeId)(f:FuncId)(u:Value):Value:=match t with | some t=> .func (.via t #[] f false) #[u] #[] | none=> .func (.func f) #[u] #[]
def S.den(ρ:Env)(σ:As):S→Value→Prop
 | .z s,v=>s.den ρ σ v
 | .iface t true cs,v=>∃vs,DL (S0.den ρ σ) cs vs∧v= .iface t (.agg vs.toArray)
 | .iface t false cs,v=>∃u,DL (S0.den ρ σ) cs [u]∧v= .iface t u
 | .meth nm t true cs,v=>∃vs,DL (S0.den ρ σ) cs vs∧v= .func (.method nm) #[.iface t (.agg vs.toArray)] #[]
 | .meth nm t false cs,v=>∃u,DL (S0.den ρ σ) cs [u]∧v= .func (.method nm) #[.iface t u] #[]
 | .via t f true cs,v=>∃vs,DL (S0.den ρ σ) cs vs∧v=a5s t f (.agg vs.toArray)
 | .via t f false cs,v=>∃u,DL (S0.den ρ σ) cs [u]∧v=a5s t f u
def V2.den(ρ:Env)(σ:As):V2→Value→Prop
 | .one s,v=>s.den ρ σ v
 | .agg cs,v=>∃vs,DL (S.den ρ σ) cs vs∧v= .agg vs.toArray
def V.den(ρ:Env)(σ:As):V→Value→Prop
 | .v x,u=>x.den ρ σ u
 | .tup l,u=>∃vs,DL (V2.den ρ σ) l vs∧u= .tuple vs.toArray
def BDen(ρ:Env)(σ:As):Blk→Option Obj→Prop
 | .cells t cs,o=>∃vs,DL (S.den ρ σ) cs vs∧o=some (.cells vs.toArray t (0,0))
 | .row t cs,o=>∃vs ex,DL (S.den ρ σ) cs vs∧o=some (.cells (vs++ex).toArray t (0,0))
 | .loop st pend tm ps asg body df,o=>∃fn tv d,DL (V.den ρ σ) tm tv∧σ df=some d∧
  o=some (.loop { state:=st,pending:=pend,fn:=fn,tmps:=tv.toArray,params:=ps.toArray,assign:=asg,body:=body,defers:=d })
 | .dfd shut,o=>o=some (.deferred (if shut then none else some []))
 | .chn k x c,o=>∃(ns:List Int) (s r:Nat),x.ev ρ=ns.map (fun n=>[D.i n])∧0≤c.ev ρ∧o=some (.chan (c.ev ρ).toNat (ns.map (Value.int k)).toArray false s r false)
 | .own _ _ _ _,_=>False
 | .dfm,_=>False
 | .vbox _ _ _,_=>False
 | .gone,_=>True
def OwnRow(W:World)(base:Nat)(e:TypeId)(size:Nat)(v:Value)(n:Nat)(xs:List Value):Prop:=
 W.ownsRow base e size v n xs∨(n=0∧xs=[]∧∃a,v= .slice a 0 0)
structure OwnRel (ρ:Env) (σ:As) (id:Nat) (t:TypeId) (ks:List CK) (x:X) (ver:E) (W:World) (v:Value) (xs:List Value):Prop where
 now:σ.h id (ver.ev ρ)=some v
 last:∀u,ver.ev ρ<u→σ.h id u=none
 row:OwnRow W ρ.w.heap.size t ks.length v (x.ev ρ).length xs
 reps:∀(i:Nat) (row:List D),(x.ev ρ)[i]? = some row→CK.reps ρ.w ks ((xs.drop (i*ks.length)).take ks.length) row
 big:(x.ev ρ).length≤281474976710656
def BlkRel(ρ:Env)(σ:As)(id:Nat)(W:World):Blk→Prop
 | .own t ks x ver=>∃v xs,OwnRel ρ σ id t ks x ver W v xs
 | .gone=>True
 | .cells t cs=>∃a,σ id=some a∧BDen ρ σ (.cells t cs) W.heap[a]?
 | .row t cs=>∃a,σ id=some a∧BDen ρ σ (.row t cs) W.heap[a]?
 | .loop st pend tm ps asg body df=>∃a,σ id=some a∧BDen ρ σ (.loop st pend tm ps asg body df) W.heap[a]?
 | .dfd shut=>∃a,σ id=some a∧BDen ρ σ (.dfd shut) W.heap[a]?
 | .dfm=>σ.h id 0=some (.slice none 0 0)∧∀n v,n≠0→σ.h id n=some v→∃r:Nat,n=(r:Int)+1∧v=C6 r∧W.heap[r]? = some (.deferred (some []))
 | .chn k x c=>∃a,σ id=some a∧BDen ρ σ (.chn k x c) W.heap[a]?
 | .vbox t cs ver=>∃a,σ.h id (ver.ev ρ)=some (C6 a)∧(∀u,ver.ev ρ<u→σ.h id u=none)∧BDen ρ σ (.cells t cs) W.heap[a]?
section
variable {α:Type} {R R':α→Value→Prop}
theorem DL.mono(h:∀a v,R a v→R' a v):∀ {l:List α} {vs:List Value},DL R l vs→DL R' l vs
 | [],[],_=>trivial
 | _::_,_::_,⟨h1,h2⟩=>⟨h _ _ h1,DL.mono h h2⟩
theorem DL.length:∀ {l:List α} {vs:List Value},DL R l vs→l.length=vs.length
 | [],[],_=>rfl
 | _::_,_::_,⟨_,h⟩=>by simp [DL.length h]
theorem DL.get:∀ {l:List α} {vs:List Value} {i:Nat} {a:α},DL R l vs→l[i]? = some a→∃v,vs[i]? = some v∧R a v
 | [],[],i,a,_,h=>by simp at h
 | x::l,v::vs,0,a,h,h'=>by simp at h';subst h';exact⟨v,rfl,h.1⟩
 | x::l,v::vs,i+1,a,h,h'=>by
   simp only[List.getElem?_cons_succ] at h' ⊢
   exact DL.get h.2 h'
theorem DL.append:∀ {l l':List α} {vs vs':List Value},DL R l vs→DL R l' vs'→DL R (l++l') (vs++vs')
 | [],_,[],_,_,h=>h
 | _::_,_,_::_,_,⟨h1,h2⟩,h=>⟨h1,DL.append h2 h⟩
theorem DL.take:∀ {l:List α} {vs:List Value} (n:Nat),DL R l vs→DL R (l.take n) (vs.take n)
 | _,_,0,_=>by simp [DL]
 | [],[],_+1,_=>by simp [DL]
 | _::_,_::_,n+1,⟨h1,h2⟩=>⟨h1,DL.take n h2⟩
theorem DL.drop:∀ {l:List α} {vs:List Value} (n:Nat),DL R l vs→DL R (l.drop n) (vs.drop n)
 | _,_,0,h=>h
 | [],[],_+1,_=>by simp [DL]
 | _::_,_::_,n+1,⟨_,h2⟩=>DL.drop n h2
theorem DL.set:∀ {l:List α} {vs:List Value} (i:Nat) {a:α} {v:Value},DL R l vs→R a v→DL R (l.set i a) (vs.set i v)
 | [],[],_,_,_,_,_=>by simp [DL]
 | _::_,_::_,0,_,_,⟨_,h2⟩,h=>⟨h,h2⟩
 | _::_,_::_,i+1,_,_,⟨h1,h2⟩,h=>⟨h1,DL.set i h2 h⟩
theorem DL.replicate(n:Nat){a:α}{v:Value}(h:R a v):DL R (List.replicate n a) (List.replicate n v):=by
 induction n with
 | zero=>simp [DL]
 | succ n ih=>exact⟨h,ih⟩
theorem DL.map{β:Type}{S:β→Value→Prop}(f:α→β)(h:∀a v,R a v→S (f a) v):∀ {l:List α} {vs:List Value},DL R l vs→DL S (l.map f) vs
 | [],[],_=>trivial
 | _::_,_::_,⟨h1,h2⟩=>⟨h _ _ h1,DL.map f h h2⟩
theorem DL.cons_inv{a:α}{l:List α}{vs:List Value}(h:DL R (a::l) vs):∃v vs',vs=v::vs'∧R a v∧DL R l vs':=by
 cases vs with
 | nil=>exact h.elim
 | cons v vs'=>exact⟨v,vs',rfl,h.1,h.2⟩
theorem DL.nil_inv{vs:List Value}(h:DL R ([]:List α) vs):vs=[]:=by
 cases vs with
 | nil=>rfl
 | cons v vs'=>exact h.elim
theorem DL.append_inv:∀ {l l':List α} {vs:List Value},DL R (l++l') vs→∃us us',vs=us++us'∧DL R l us∧DL R l' us'
 | [],l',vs,h=>⟨[],vs,rfl,trivial,h⟩
 | a::l,l',vs,h=>by
   obtain⟨v,vs',rfl,h1,h2⟩:=DL.cons_inv h
   obtain⟨us,us',rfl,h3,h4⟩:=DL.append_inv h2
   exact⟨v::us,us',rfl,⟨h1,h3⟩,h4⟩
end
structure Ext (σ σ':As):Prop where
 f:∀i a,σ i=some a→σ' i=some a
 h:∀i n v,σ.h i n=some v→σ'.h i n=some v
theorem Ext.refl(σ:As):Ext σ σ:=⟨fun _ _ h=>h,fun _ _ _ h=>h⟩
theorem Ext.trans{a b c:As}(h:Ext a b)(k:Ext b c):Ext a c:=⟨fun _ _ e=>k.f _ _ (h.f _ _ e),fun _ _ _ e=>k.h _ _ _ (h.h _ _ _ e)⟩
theorem Ext.own{a b:As}(h:Ext a b){i k:Nat}:a.own i k→b.own i k:=fun q=>q.elim (fun q=> .inl (h.f _ _ q)) (fun⟨n,v,q,r⟩=> .inr ⟨n,v,h.h _ _ _ q,r⟩)
section
variable {ρ:Env} {σ σ':As} (hx:Ext σ σ')
include hx
theorem capDen.ext{p:Nat×Nat}{v:Value}:capDen σ p v→capDen σ' p v:=fun⟨a,h1,h2⟩=>⟨a,hx.f _ _ h1,h2⟩
theorem S0.den_ext:∀(s:S0) (v:Value),s.den ρ σ v→s.den ρ σ' v
 | .bool _,_,h=>h
 | .int _ _,_,h=>h
 | .ptr _ _,_,⟨a,h1,h2⟩=>⟨a,hx.f _ _ h1,h2⟩
 | .sl _ _ _ (some _),_,⟨a,h1,h2⟩=>⟨a,hx.f _ _ h1,h2⟩
 | .sl _ _ _ none,_,⟨a,c,h1,h2⟩=>⟨a,c,hx.f _ _ h1,h2⟩
 | .ext _ _ _,_,h=>h
 | .eptr _ _ _ _,_,h=>h
 | .clo _ _,_,⟨vs,h1,h2⟩=>⟨vs,h1.mono (fun _ _=>capDen.ext hx),h2⟩
 | .own _ _,_,h=>⟨h.1,hx.h _ _ _ h.2⟩
 | .ovw _ _ _ _ _ _,_,⟨a,n,c,b,c',h1,h2⟩=>⟨a,n,c,b,c',hx.h _ _ _ h1,h2⟩
 | .optr _ _ _ _ _,_,⟨a,n,c,h1,h2⟩=>⟨a,n,c,hx.h _ _ _ h1,h2⟩
 | .yl _,_,⟨a,h1,h2⟩=>⟨a,hx.f _ _ h1,h2⟩
 | .chn _,_,⟨a,h1,h2⟩=>⟨a,hx.f _ _ h1,h2⟩
 | .bptr _ _ _,_,⟨a,h1,h2⟩=>⟨a,hx.h _ _ _ h1,h2⟩
 | .const _,_,h=>h
 | .any,_,_=>trivial
theorem S.den_ext:∀(s:S) (v:Value),s.den ρ σ v→s.den ρ σ' v
 | .z s,v,h=>S0.den_ext hx s v h
 | .iface _ true _,_,⟨vs,h1,h2⟩=>⟨vs,h1.mono (S0.den_ext hx),h2⟩
 | .iface _ false _,_,⟨u,h1,h2⟩=>⟨u,h1.mono (S0.den_ext hx),h2⟩
 | .meth _ _ true _,_,⟨vs,h1,h2⟩=>⟨vs,h1.mono (S0.den_ext hx),h2⟩
 | .meth _ _ false _,_,⟨u,h1,h2⟩=>⟨u,h1.mono (S0.den_ext hx),h2⟩
 | .via _ _ true _,_,⟨vs,h1,h2⟩=>⟨vs,h1.mono (S0.den_ext hx),h2⟩
 | .via _ _ false _,_,⟨u,h1,h2⟩=>⟨u,h1.mono (S0.den_ext hx),h2⟩
theorem V2.den_ext:∀(s:V2) (v:Value),s.den ρ σ v→s.den ρ σ' v
 | .one s,v,h=>S.den_ext hx s v h
 | .agg _,_,⟨vs,h1,h2⟩=>⟨vs,h1.mono (S.den_ext hx),h2⟩
theorem V.den_ext:∀(s:V) (v:Value),s.den ρ σ v→s.den ρ σ' v
 | .v s,u,h=>V2.den_ext hx s u h
 | .tup _,_,⟨vs,h1,h2⟩=>⟨vs,h1.mono (V2.den_ext hx),h2⟩
theorem BDen.ext:∀(b:Blk) (o:Option Obj),BDen ρ σ b o→BDen ρ σ' b o
 | .cells _ _,_,⟨vs,h1,h2⟩=>⟨vs,h1.mono (S.den_ext hx),h2⟩
 | .row _ _,_,⟨vs,ex,h1,h2⟩=>⟨vs,ex,h1.mono (S.den_ext hx),h2⟩
 | .loop ..,_,⟨fn,tv,d,h1,h2,h3⟩=>⟨fn,tv,d,h1.mono (V.den_ext hx),hx.f _ _ h2,h3⟩
 | .dfd _,_,h=>h
 | .chn _ _ _,_,h=>h
 | .own _ _ _ _,_,h=>h.elim
 | .dfm,_,h=>h.elim
 | .vbox _ _ _,_,h=>h.elim
 | .gone,_,_=>trivial
end
theorem b2j{v:Value}{k:Nat}(h:j9 v=some k):v.ownBlock=some k:=by
 unfold j9 at h
 split at h
 ·exact h
 ·cases h
theorem OwnRow.kept{W W':World}{base:Nat}{e:TypeId}{size:Nat}{v:Value}{n:Nat}{xs:List Value}(h:OwnRow W base e size v n xs)(hk:∀k,j9 v=some k→W'.heap[k]? = W.heap[k]?):OwnRow W' base e size v n xs:=by
 rcases h with ⟨h1,h2⟩ | h
 ·rcases h2 with ⟨rfl,rfl⟩ | ⟨g,cap,cur,rfl,hb,hg,r1,r2,r3,r4⟩
  ·exact .inl ⟨h1,.inl ⟨rfl,rfl⟩⟩
  ·cases cap with
   | zero=>
     obtain rfl:n=0:=by omega
     refine .inr ⟨rfl,?_,_,rfl⟩
     exact List.eq_nil_of_length_eq_zero (by rw[h1,Nat.zero_mul])
   | succ cap=>
     refine .inl ⟨h1,.inr ⟨g,cap+1,cur,rfl,hb,?_,r1,r2,r3,r4⟩⟩
     rw[hk g rfl]
     exact hg
 ·exact .inr h
theorem OwnRow.lt{W:World}{base:Nat}{e:TypeId}{size:Nat}{v:Value}{n:Nat}{xs:List Value}(h:OwnRow W base e size v n xs){k:Nat}(hk:j9 v=some k):base≤k∧k<W.heap.size:=by
 rcases h with h | ⟨_,_,a,rfl⟩
 ·exact h.lt k (b2j hk)
 ·unfold j9 at hk;cases a<;>cases hk
theorem BlkRel.later{ρ:Env}{σ σ':As}{id:Nat}{W W':World}{b:Blk}(h:BlkRel ρ σ id W b)(hx:Ext σ σ')(hh:(∃n v,σ.h id n=some v)→σ'.h id=σ.h id)(hk:∀k,σ.own id k→W'.heap[k]? = W.heap[k]?):BlkRel ρ σ' id W' b:=by
 cases b with
 | own t ks x ver=>
   obtain⟨v,xs,h⟩:=h
   have e:=hh ⟨_,_,h.now⟩
   exact⟨v,xs,by rw[e];exact h.now,by rw[e];exact h.last,h.row.kept (fun k q=>hk k (.inr ⟨_,_,h.now,q⟩)),h.reps,h.big⟩
 | dfm=>
   obtain⟨h1,h2⟩:=h
   have e:=hh ⟨_,_,h1⟩
   refine⟨by rw[e];exact h1,fun n v hn hv=> ?_⟩
   rw[e] at hv
   obtain⟨r,e1,e2,e3⟩:=h2 n v hn hv
   exact⟨r,e1,e2,by rw[hk r (.inr ⟨n,v,hv,by rw[e2];rfl⟩)];exact e3⟩
 | vbox t cs ver=>
   obtain⟨a,h1,h2,h3⟩:=h
   have e:=hh ⟨_,_,h1⟩
   exact⟨a,by rw[e];exact h1,by rw[e];exact h2,by rw[hk a (.inr ⟨_,_,h1,rfl⟩)];exact BDen.ext hx _ _ h3⟩
 | gone=>trivial
 | cells t cs=>obtain⟨a,h1,h2⟩:=h;exact⟨a,hx.f _ _ h1,by rw[hk a (.inl h1)];exact BDen.ext hx _ _ h2⟩
 | row t cs=>obtain⟨a,h1,h2⟩:=h;exact⟨a,hx.f _ _ h1,by rw[hk a (.inl h1)];exact BDen.ext hx _ _ h2⟩
 | loop st pe tm ps asg body df=>obtain⟨a,h1,h2⟩:=h;exact⟨a,hx.f _ _ h1,by rw[hk a (.inl h1)];exact BDen.ext hx _ _ h2⟩
 | dfd s=>obtain⟨a,h1,h2⟩:=h;exact⟨a,hx.f _ _ h1,by rw[hk a (.inl h1)];exact BDen.ext hx _ _ h2⟩
 | chn k x c=>obtain⟨a,h1,h2⟩:=h;exact⟨a,hx.f _ _ h1,by rw[hk a (.inl h1)];exact BDen.ext hx _ _ h2⟩
theorem Mem.get_append(ws m:Mem)(id:Nat):(ws++m).get id=(ws.get id).or (m.get id):=by
 induction ws with
 | nil=>rfl
 | cons p ws ih=>
   obtain⟨i,b⟩:=p
   show Mem.get ((i,b)::(ws++m)) id=_
   simp only[Mem.get]
   split
   ·rfl
   ·exact ih
structure RelM (ρ:Env) (σ:As) (m:Mem) (W:World):Prop where
 blk:∀id b,m.get id=some b→BlkRel ρ σ id W b
 inj:∀i j a,σ.own i a→σ.own j a→i=j
 lt:∀i a,σ.own i a→a<W.heap.size
 above:∀i a,σ.own i a→ρ.w.heap.size≤a
 base:Below ρ.w.heap.size ρ.w W
def Keep(W W':World):Prop:=∀(k:Nat) (L:Loop),W.heap[k]? = some (.loop L)→∃L',W'.heap[k]? = some (.loop L')∧L'.params=L.params∧L'.assign=L.assign∧L'.body=L.body∧L'.defers=L.defers
theorem Keep.refl(W:World):Keep W W:=fun _ L h=>⟨L,h,rfl,rfl,rfl,rfl⟩
theorem Keep.trans{W W1 W2:World}(h:Keep W W1)(k:Keep W1 W2):Keep W W2:=fun i L e=>by
 obtain⟨L1,e1,a1,a2,a3,a4⟩:=h i L e
 obtain⟨L2,e2,b1,b2,b3,b4⟩:=k i L1 e1
 exact⟨L2,e2,b1.trans a1,b2.trans a2,b3.trans a3,b4.trans a4⟩
theorem C5{W:World}{k:Nat}{o:Obj}(h:W.heap[k]? = some o):k<W.heap.size:=(Array.getElem?_eq_some_iff.1 h).1
theorem Keep.of_eq{W W':World}(h:∀k,k<W.heap.size→W'.heap[k]? = W.heap[k]?):Keep W W':=fun k L e=>⟨L,by rw[h k (C5 e)];exact e,rfl,rfl,rfl,rfl⟩
structure Step (ρ:Env) (σ:As) (W:World) (ws:Mem) (σ':As) (W':World):Prop where
 ext:Ext σ σ'
 os:W'.os=W.os
 tape:W'.tape=W.tape
 output:W'.output=W.output
 size:W.heap.size≤W'.heap.size
 frame:∀k,k<W.heap.size→(∀i b,ws.get i=some b→¬σ.own i k)→W'.heap[k]? = W.heap[k]?
 hist:∀i,ws.get i=none→(∃n v,σ.h i n=some v)→σ'.h i=σ.h i
 new:∀i a,σ'.own i a→σ.own i a∨(W.heap.size≤a∧a<W'.heap.size)
 inj:(∀i j a,σ.own i a→σ.own j a→i=j)→∀i j a,σ'.own i a→σ'.own j a→i=j
 blk:∀i b,ws.get i=some b→BlkRel ρ σ' i W' b
 keep:Keep W W'
theorem RelM.step{ρ:Env}{σ σ':As}{m ws:Mem}{W W':World}(h:RelM ρ σ m W)(s:Step ρ σ W ws σ' W'):RelM ρ σ' (ws++m) W' where
 blk:=by
  intro id b hb
  rw[Mem.get_append] at hb
  cases hw:ws.get id with
  | some b'=>
    rw[hw] at hb
    simp at hb
    subst hb
    exact s.blk id b' hw
  | none=>
    rw[hw] at hb
    simp at hb
    refine(h.blk id b hb).later s.ext (s.hist id hw) (fun k hk=>s.frame k (h.lt _ _ hk) (fun i b' hi he=> ?_))
    have:=h.inj i id k he hk
    subst this
    rw[hw] at hi;cases hi
 inj:=s.inj h.inj
 lt:=by
  intro i a hi
  rcases s.new i a hi with h1 | ⟨_,h2⟩
  ·exact Nat.lt_of_lt_of_le (h.lt _ _ h1) s.size
  ·exact h2
 above:=by
  intro i a hi
  rcases s.new i a hi with h1 | ⟨h1,_⟩
  ·exact h.above _ _ h1
  ·exact Nat.le_trans h.base.size h1
 base:=h.base.trans ⟨s.os,s.tape,s.output,s.size,fun k hk=>s.frame k (Nat.lt_of_lt_of_le hk h.base.size) (fun i b _ he=>by
  have:=h.above i k he;omega)⟩
theorem Step.refl(ρ:Env)(σ:As)(W:World):Step ρ σ W [] σ W:=
 ⟨Ext.refl _,rfl,rfl,rfl,Nat.le_refl _,fun _ _ _=>rfl,fun _ _ _=>rfl,fun _ _ h=> .inl h,fun h=>h,fun _ _ h=>by simp [Mem.get] at h,Keep.refl _⟩
theorem Step.below{ρ:Env}{σ:As}{W W':World}(h:Below W.heap.size W W'):Step ρ σ W [] σ W':=
 ⟨Ext.refl _,h.os,h.tape,h.output,h.size,fun k hk _=>h.block k hk,fun _ _ _=>rfl,fun _ _ h=> .inl h,fun h=>h,fun _ _ h=>by simp [Mem.get] at h,Keep.of_eq (fun k hk=>h.block k hk)⟩
theorem Step.drew(ρ:Env)(σ:As)(W:World):Step ρ σ W [] σ W.drew:=Step.below (Below.refl _ _).drew
theorem Step.trans{ρ:Env}{a b c:As}{W W1 W2:World}{ws ws':Mem}(hlt:∀i k,a.own i k→k<W.heap.size)
 (hinj:∀i j k,a.own i k→a.own j k→i=j) (h:Step ρ a W ws b W1) (k:Step ρ b W1 ws' c W2):Step ρ a W (ws'++ws) c W2 where
 ext:=h.ext.trans k.ext
 os:=k.os.trans h.os
 tape:=k.tape.trans h.tape
 output:=k.output.trans h.output
 size:=Nat.le_trans h.size k.size
 frame:=by
  intro j hj hn
  have h1:W1.heap[j]? = W.heap[j]? := h.frame j hj (fun i b' hi he=>by
   cases hw:ws'.get i with
   | none=>exact hn i b' (by rw[Mem.get_append,hw,hi];rfl) he
   | some b2=>exact hn i b2 (by rw[Mem.get_append,hw];rfl) he)
  rw[←h1]
  refine k.frame j (Nat.lt_of_lt_of_le hj h.size) (fun i b' hi he=> ?_)
  rcases h.new i j he with h2 | ⟨h2,_⟩
  ·exact hn i b' (by rw[Mem.get_append,hi];rfl) h2
  ·omega
 hist:=by
  intro i hi hh
  rw[Mem.get_append,Option.or_eq_none_iff] at hi
  have e1:=h.hist i hi.2 hh
  have e2:=k.hist i hi.1 (by rw[e1];exact hh)
  rw[e2,e1]
 new:=by
  intro i x hi
  rcases k.new i x hi with h1 | ⟨h1,h2⟩
  ·rcases h.new i x h1 with h3 | ⟨h3,h4⟩
   ·exact .inl h3
   ·exact .inr ⟨h3,Nat.lt_of_lt_of_le h4 k.size⟩
  ·exact .inr ⟨Nat.le_trans h.size h1,h2⟩
 inj:=fun e=>k.inj (h.inj e)
 blk:=by
  intro i b' hi
  rw[Mem.get_append] at hi
  cases hw:ws'.get i with
  | some b2=>
    rw[hw] at hi;simp at hi;subst hi
    exact k.blk i b2 hw
  | none=>
    rw[hw] at hi;simp at hi
    refine(h.blk i b' hi).later k.ext (k.hist i hw) (fun x h1=> ?_)
    have hx:x<W1.heap.size:=by
     rcases h.new i x h1 with h3 | ⟨_,h4⟩
     ·exact Nat.lt_of_lt_of_le (hlt _ _ h3) h.size
     ·exact h4
    refine k.frame x hx (fun j b2 hj he=> ?_)
    have:=h.inj hinj i j x h1 he
    subst this
    rw[hw] at hj;cases hj
 keep:=h.keep.trans k.keep
end Go.Proofs.YtbbjlleaofgddaaGreat
namespace Go.Proofs.YtbbjlleaofgddaaGreat
open Go.RowKit
section
variable {P:Program} {ρ:Env} {σ:As}
theorem p9{k:IntKind}{e:E}{n:Int}(h:e.ev ρ=n):(iV k e).den ρ σ (.int k n):=by
 show Value.int k n= .int k (e.ev ρ);rw[h]
theorem C1{b:B}{c:Bool}(h:b.ev ρ=c):(bV b).den ρ σ (.bool c):=by
 show Value.bool c= .bool (b.ev ρ);rw[h]
theorem F3{t:TypeId}{d:TypeDesc}(h:P.underlying t=some d):∃i,P.info? t=some i:=by
 unfold Program.underlying at h
 cases hi:P.info? t with
 | none=>rw[hi] at h;simp at h
 | some i=>exact⟨i,rfl⟩
theorem X6{t:TypeId}{d:TypeDesc}(h:P.underlying t=some d)(W:World):(isAgg t).run P W= .ok (v6 P t) W:=by
 unfold v6
 rw[h]
 cases d<;>simp [isAgg,run_underlying h]
theorem j7{t:TypeId}{i:TypeInfo}(h:P.info? t=some i)(W:World):(sizeOf t).run P W= .ok (P.cellsOf t) W:=by
 simp [sizeOf,typeInfo,h,Program.cellsOf]
theorem C3{t:TypeId}{cs:List S}{off:Nat}{x:V2}{vs:List Value}(h:E0 P t cs off=some x)(hd:DL (S.den ρ σ) cs vs)(W:World):
 ∃u,(part t vs.toArray off).run P W= .ok u W∧x.den ρ σ u:=by
 unfold E0 at h
 split at h
 ·simp at h
 ·rename_i d hu
  obtain⟨i,hi⟩:=F3 hu
  by_cases ha:v6 P t=true
  ·rw[if_pos ha] at h
   split at h
   ·simp only[Option.some.injEq] at h
    subst h
    refine⟨_,by simp [part,X6 hu,ha,j7 hi];rfl,(vs.drop off).take (P.cellsOf t),(hd.drop _).take _,?_⟩
    simp [List.take_drop,Nat.add_comm]
   ·simp at h
  ·rw[if_neg ha] at h
   simp only[Option.map_eq_some_iff] at h
   obtain⟨a,h1,rfl⟩:=h
   obtain⟨v,h2,h3⟩:=hd.get h1
   refine⟨v,?_,h3⟩
   simp only[Bool.not_eq_true] at ha
   simp [part,X6 hu,ha,h2]
theorem a3P{f:TypeId→V2→V2→Option B}(d:Nat)(W:World)
 (hf:∀t x y b u v,f t x y=some b→x.den ρ σ u→y.den ρ σ v→(Op.equalIn d t u v).run P W= .ok (b.ev ρ) W)
 {xs ys:List S} {us vs:List Value} (h1:DL (S.den ρ σ) xs us) (h2:DL (S.den ρ σ) ys vs):∀(fs:List Field) (b:B),a9r P f xs ys fs=some b→
 (Op.eqFields d us.toArray vs.toArray fs).run P W= .ok (b.ev ρ) W
 | [],b,h=>by
   simp only[a9r,Option.some.injEq] at h
   subst h
   simp [Op.eqFields,B.ev]
 | fd::r,b,h=>by
   simp only[a9r] at h
   split at h
   ·simp at h
   ·rename_i hn
    split at h
    ·rename_i p q hp hq
     split at h
     ·rename_i a c ha hc
      simp only[Option.some.injEq] at h
      subst h
      obtain⟨u,hu1,hu2⟩:=C3 hp h1 W
      obtain⟨v,hv1,hv2⟩:=C3 hq h2 W
      have e:=hf _ _ _ _ _ _ ha hu2 hv2
      have ih:=a3P d W hf h1 h2 r c hc
      rw[B.andS_ev]
      simp only[Op.eqFields,ne_eq,hn,not_false_eq_true,if_true,Sem.run_bind,hu1,hv1,e,Result.andThen_ok]
      cases a.ev ρ<;>simp [ih]
     ·simp at h
    ·simp at h
theorem a4j{f:V2→V2→Option B}(d:Nat)(W:World){e:TypeId}
 (hf:∀x y b u v,f x y=some b→x.den ρ σ u→y.den ρ σ v→(Op.equalIn d e u v).run P W= .ok (b.ev ρ) W)
 {xs ys:List S} {us vs:List Value} (h1:DL (S.den ρ σ) xs us) (h2:DL (S.den ρ σ) ys vs):∀(is:List Nat) (b:B),a8i P f e xs ys is=some b→
 (Op.eqItems d e (P.cellsOf e) us.toArray vs.toArray is).run P W= .ok (b.ev ρ) W
 | [],b,h=>by
   simp only[a8i,Option.some.injEq] at h
   subst h
   simp [Op.eqItems,B.ev]
 | i::r,b,h=>by
   simp only[a8i] at h
   split at h
   ·rename_i p q hp hq
    split at h
    ·rename_i a c ha hc
     simp only[Option.some.injEq] at h
     subst h
     obtain⟨u,hu1,hu2⟩:=C3 hp h1 W
     obtain⟨v,hv1,hv2⟩:=C3 hq h2 W
     have e:=hf _ _ _ _ _ ha hu2 hv2
     have ih:=a4j d W hf h1 h2 r c hc
     rw[B.andS_ev]
     simp only[Op.eqItems,Sem.run_bind,hu1,hv1,e,Result.andThen_ok]
     cases a.ev ρ<;>simp [ih]
    ·simp at h
   ·simp at h
theorem T8(W:World):∀(n d:Nat),n≤d→∀(t:TypeId) (x y:V2) (b:B) (u v:Value),a3u P n t x y=some b→x.den ρ σ u→y.den ρ σ v→
 (Op.equalIn d t u v).run P W= .ok (b.ev ρ) W
 | 0,_,_,_,_,_,_,_,_,h,_,_=>by simp [a3u] at h
 | n+1,0,hd,_,_,_,_,_,_,_,_,_=>by omega
 | n+1,d+1,hd,t,x,y,b,u,v,h,hx,hy=>by
   simp only[a3u] at h
   split at h
   ·rename_i hu
    split at h
    ·rename_i hk
     subst hk
     simp only[Option.some.injEq] at h
     subst h
     rename_i k0 j p q
     have e1:u= .int j (p.ev ρ):=hx
     have e2:v= .int j (q.ev ρ):=hy
     subst e1;subst e2
     rw[B.cmpS_ev,run_equalIn_int W d t _ _ _ _ hu]
     rfl
    ·simp at h
   ·rename_i hu
    simp only[Option.some.injEq] at h
    subst h
    rename_i p q
    have e1:u= .bool (p.ev ρ):=hx
    have e2:v= .bool (q.ev ρ):=hy
    subst e1;subst e2
    rw[B.eqS_ev,run_equalIn_bool' W d t _ _ hu]
   ·rename_i fs xs ys hu
    split at h
    ·simp at h
    ·rename_i hs
     simp only[Bool.not_eq_true] at hs
     obtain⟨us,h1,rfl⟩:=hx
     obtain⟨vs,h2,rfl⟩:=hy
     have hfs:P.fieldsOf t=fs:=by simp [Program.fieldsOf,hu]
     rw[run_equalIn_struct W d t _ _ (by rw[hfs];exact hu) hs,hfs]
     exact a3P d W (fun t x y b u v hf hx hy=>T8 W n d (by omega) t x y b u v hf hx hy) h1 h2 fs.toList b h
   ·rename_i m e xs ys hu
    split at h
    ·rename_i hc
     simp only[Bool.and_eq_true] at hc
     obtain⟨i,hi⟩:=Option.isSome_iff_exists.1 hc.1
     obtain⟨us,h1,rfl⟩:=hx
     obtain⟨vs,h2,rfl⟩:=hy
     rw[run_equalIn_array W d _ _ hu hi]
     exact a4j d W (fun x y b u v hf hx hy=>T8 W n d (by omega) e x y b u v hf hx hy) h1 h2 _ b h
    ·simp at h
   ·simp at h
theorem b1j{o:BinOp}(hq:o= .quo∨o= .rem){t:TypeId}{k:IntKind}{a b:E}{obs:List Ob}{v:V}
 (h:(match B.cmpS .neq b (.lit 0) with | .lit true=>some ([],V.v (.one (.z (.int k (.arS o k a b))))) | .lit false=>none | c=>some ([.tru c],V.v (.one (.z (.int k (.arS o k a b))))))=some (obs,v))
 (ho:∀o∈obs,o.ok ρ) (x y:Operand) (W:World):
 ∃u,(eqGuard o t x y (.int k (a.ev ρ)) (.int k (b.ev ρ)) >>= fun _=>binOp o t (.int k (a.ev ρ)) (.int k (b.ev ρ))).run P W= .ok u W∧v.den ρ σ u:=by
 have hne:b.ev ρ≠0:=by
  have hc:=B.cmpS_ev ρ .neq b (.lit 0)
  simp only[s7,E.ev] at hc
  split at h
  ·rename_i e;rw[e] at hc;simpa [B.ev] using hc.symm
  ·simp at h
  ·simp only[Option.some.injEq,Prod.mk.injEq] at h
   obtain⟨rfl,_⟩:=h
   have:=ho _ (List.mem_singleton.2 rfl)
   simp only[Ob.ok] at this
   rw[this] at hc
   simpa using hc.symm
 have hv:v=iV k (.arS o k a b):=by
  split at h
  ·simp only[Option.some.injEq,Prod.mk.injEq] at h;exact h.2.symm
  ·simp at h
  ·simp only[Option.some.injEq,Prod.mk.injEq] at h;exact h.2.symm
 subst hv
 rcases hq with rfl | rfl
 ·exact⟨_,by simp [eqGuard,binOp,Op.intDiv,hne];rfl,p9 (E.arS_ev _ _ _ _ _)⟩
 ·exact⟨_,by simp [eqGuard,binOp,Op.intDiv,hne];rfl,p9 (E.arS_ev _ _ _ _ _)⟩
theorem b0Z{t:TypeId}{k k':IntKind}{a b:E}{obs:List Ob}{v:V}(h:b7W k a b=some (obs,v))(x y:Operand)(W:World):
 ∃u,(eqGuard .shr t x y (.int k (a.ev ρ)) (.int k' (b.ev ρ)) >>= fun _=>binOp .shr t (.int k (a.ev ρ)) (.int k' (b.ev ρ))).run P W= .ok u W∧v.den ρ σ u:=by
 unfold b7W at h
 split at h
 ·rename_i n
  split at h
  ·rename_i hn
   simp only[k9,Option.some.injEq,Prod.mk.injEq] at h
   obtain⟨_,rfl⟩:=h
   have hn':¬n<0:=by omega
   refine⟨.int k ((a.ev ρ).fdiv (2^min n.toNat k.bits)),by simp [eqGuard,binOp,Op.shift,E.ev,hn'],p9 ?_⟩
   rw[E.arS_ev]
   simp [u4,E.ev]
  ·simp at h
 ·simp at h
theorem b0X{t:TypeId}{k k':IntKind}{a b:E}{obs:List Ob}{v:V}(h:b8D k a b=some (obs,v))(x y:Operand)(W:World):
 ∃u,(eqGuard .shl t x y (.int k (a.ev ρ)) (.int k' (b.ev ρ)) >>= fun _=>binOp .shl t (.int k (a.ev ρ)) (.int k' (b.ev ρ))).run P W= .ok u W∧v.den ρ σ u:=by
 unfold b8D at h
 split at h
 ·rename_i n
  split at h
  ·rename_i hn
   simp only[k9,Option.some.injEq,Prod.mk.injEq] at h
   obtain⟨_,rfl⟩:=h
   have hn':¬n<0:=by omega
   refine⟨.int k (k.wrap ((a.ev ρ)*2^min n.toNat k.bits)),by simp [eqGuard,binOp,Op.shift,E.ev,hn'],p9 ?_⟩
   rw[E.arS_ev]
   simp [u4,E.ev]
  ·simp at h
 ·simp at h
theorem c0p{o:BinOp}{t:TypeId}{k:IntKind}{a b:E}{obs:List Ob}{v:V}(h:a0a P o t (iV k a) (iV k b)=some (obs,v))(ho:∀o∈obs,o.ok ρ)(x y:Operand)(W:World):
 ∃u,(eqGuard o t x y (.int k (a.ev ρ)) (.int k (b.ev ρ)) >>= fun _=>binOp o t (.int k (a.ev ρ)) (.int k (b.ev ρ))).run P W= .ok u W∧v.den ρ σ u:=by
 have hb:a0a P o t (iV k a) (iV k b)=some (obs,v):=h
 cases o<;>simp [a0a,iV,V.s0,k9] at h
 case add=>obtain⟨rfl,rfl⟩:=h;exact⟨_,by simp [eqGuard,binOp,Op.intArith];rfl,p9 (E.arS_ev _ _ _ _ _)⟩
 case sub=>obtain⟨rfl,rfl⟩:=h;exact⟨_,by simp [eqGuard,binOp,Op.intArith];rfl,p9 (E.arS_ev _ _ _ _ _)⟩
 case mul=>obtain⟨rfl,rfl⟩:=h;exact⟨_,by simp [eqGuard,binOp,Op.intArith];rfl,p9 (E.arS_ev _ _ _ _ _)⟩
 case eql=>obtain⟨rfl,rfl⟩:=h;exact⟨_,by simp [eqGuard,binOp,Op.intCmp];rfl,C1 (B.cmpS_ev _ _ _ _)⟩
 case neq=>obtain⟨rfl,rfl⟩:=h;exact⟨_,by simp [eqGuard,binOp,Op.intCmp];rfl,C1 (B.cmpS_ev _ _ _ _)⟩
 case lss=>obtain⟨rfl,rfl⟩:=h;exact⟨_,by simp [eqGuard,binOp,Op.intCmp];rfl,C1 (B.cmpS_ev _ _ _ _)⟩
 case leq=>obtain⟨rfl,rfl⟩:=h;exact⟨_,by simp [eqGuard,binOp,Op.intCmp];rfl,C1 (B.cmpS_ev _ _ _ _)⟩
 case gtr=>obtain⟨rfl,rfl⟩:=h;exact⟨_,by simp [eqGuard,binOp,Op.intCmp];rfl,C1 (B.cmpS_ev _ _ _ _)⟩
 case geq=>obtain⟨rfl,rfl⟩:=h;exact⟨_,by simp [eqGuard,binOp,Op.intCmp];rfl,C1 (B.cmpS_ev _ _ _ _)⟩
 case quo=>exact b1j (.inl rfl) h ho x y W
 case rem=>exact b1j (.inr rfl) h ho x y W
 case shr=>exact b0Z h x y W
 case shl=>exact b0X h x y W
 case and=>obtain⟨rfl,rfl⟩:=h;exact⟨.int k (B4 .and k (a.ev ρ) (b.ev ρ)),by simp [eqGuard,binOp,Op.intBits,B4],p9 (by rw[E.arS_ev];rfl)⟩
 case or=>obtain⟨rfl,rfl⟩:=h;exact⟨.int k (B4 .or k (a.ev ρ) (b.ev ρ)),by simp [eqGuard,binOp,Op.intBits,B4],p9 (by rw[E.arS_ev];rfl)⟩
 case xor=>obtain⟨rfl,rfl⟩:=h;exact⟨.int k (B4 .xor k (a.ev ρ) (b.ev ρ)),by simp [eqGuard,binOp,Op.intBits,B4],p9 (by rw[E.arS_ev];rfl)⟩
 case andNot=>obtain⟨rfl,rfl⟩:=h;exact⟨.int k (B4 .andNot k (a.ev ρ) (b.ev ρ)),by simp [eqGuard,binOp,Op.intBits,B4],p9 (by rw[E.arS_ev];rfl)⟩
theorem b7P{o:BinOp}{t:TypeId}{a b:B}{obs:List Ob}{v:V}(h:a0a P o t (bV a) (bV b)=some (obs,v))(x y:Operand)(W:World):
 ∃u,(eqGuard o t x y (.bool (a.ev ρ)) (.bool (b.ev ρ)) >>= fun _=>binOp o t (.bool (a.ev ρ)) (.bool (b.ev ρ))).run P W= .ok u W∧v.den ρ σ u:=by
 simp only[a0a,bV,V.s0,k9] at h
 split at h
 ·rename_i hu
  simp only[Option.some.injEq,Prod.mk.injEq] at h
  obtain⟨rfl,rfl⟩:=h
  exact⟨.bool (a.ev ρ == b.ev ρ),by simp [eqGuard,run_eql_bool W t _ _ hu],C1 (B.eqS_ev _ _ _)⟩
 ·rename_i hu
  simp only[Option.some.injEq,Prod.mk.injEq] at h
  obtain⟨rfl,rfl⟩:=h
  exact⟨.bool (!(a.ev ρ == b.ev ρ)),by simp [eqGuard,run_neq_bool W t _ _ hu],C1 (by rw[B.notS_ev,B.eqS_ev])⟩
 ·simp at h
theorem c0g{o:BinOp}{t:TypeId}{xs ys:List S}{obs:List Ob}{v:V}(h:a0a P o t (.v (.agg xs)) (.v (.agg ys))=some (obs,v)){us vs:List Value}(h1:DL (S.den ρ σ) xs us)(h2:DL (S.den ρ σ) ys vs)(x y:Operand)(W:World):
 ∃u,(eqGuard o t x y (.agg us.toArray) (.agg vs.toArray) >>= fun _=>binOp o t (.agg us.toArray) (.agg vs.toArray)).run P W= .ok u W∧v.den ρ σ u:=by
 simp only[a0a] at h
 split at h
 ·rename_i hg
  simp only[Bool.not_eq_true'] at hg
  split at h
  ·simp only[Option.map_eq_some_iff,Prod.mk.injEq] at h
   obtain⟨b,hb,rfl,rfl⟩:=h
   have e:=T8 (ρ:=ρ) (σ:=σ) W 20 10000 (by omega) t _ _ b _ _ hb ⟨us,h1,rfl⟩ ⟨vs,h2,rfl⟩
   exact⟨.bool (b.ev ρ),by simp [run_eqGuard_agg W _ _ _ _ _ _ hg,run_eql_struct,e],C1 rfl⟩
  ·simp only[Option.map_eq_some_iff,Prod.mk.injEq] at h
   obtain⟨b,hb,rfl,rfl⟩:=h
   have e:=T8 (ρ:=ρ) (σ:=σ) W 20 10000 (by omega) t _ _ b _ _ hb ⟨us,h1,rfl⟩ ⟨vs,h2,rfl⟩
   exact⟨.bool (!b.ev ρ),by simp [run_eqGuard_agg W _ _ _ _ _ _ hg,run_neq_struct,e],C1 (B.notS_ev _ _)⟩
  ·simp at h
 ·simp at h
theorem b3a{o:BinOp}{t:TypeId}{p q:V}{obs:List Ob}{v:V}(h:a0a P o t p q=some (obs,v))(ho:∀o∈obs,o.ok ρ){a b:Value}(ha:p.den ρ σ a)(hb:q.den ρ σ b)(x y:Operand)(W:World):
 ∃u,(eqGuard o t x y a b >>= fun _=>binOp o t a b).run P W= .ok u W∧v.den ρ σ u:=by
 have h0:=h
 unfold a0a at h
 split at h
 ·rename_i k a' k' b'
  split at h
  ·rename_i ho
   subst ho
   obtain rfl:a= .int k (a'.ev ρ):=ha
   obtain rfl:b= .int k' (b'.ev ρ):=hb
   exact b0Z h x y W
  ·split at h
   ·rename_i ho
    subst ho
    obtain rfl:a= .int k (a'.ev ρ):=ha
    obtain rfl:b= .int k' (b'.ev ρ):=hb
    exact b0X h x y W
   split at h
   ·rename_i hk
    subst hk
    obtain rfl:a= .int k (a'.ev ρ):=ha
    obtain rfl:b= .int k (b'.ev ρ):=hb
    exact c0p h0 ho x y W
   ·simp at h
 ·rename_i a' b'
  obtain rfl:a= .bool (a'.ev ρ):=ha
  obtain rfl:b= .bool (b'.ev ρ):=hb
  exact b7P h0 x y W
 ·obtain⟨us,h1,rfl⟩:=ha
  obtain⟨vs,h2,rfl⟩:=hb
  exact c0g h0 h1 h2 x y W
 ·simp at h
end
end Go.Proofs.YtbbjlleaofgddaaGreat
namespace Go.Proofs.YtbbjlleaofgddaaGreat
open Go.RowKit
section
variable {P:Program} {ρ:Env} {σ:As}
theorem a2v(v:Value):(cS0 v).den ρ σ v:=by cases v<;>simp [cS0,S0.den,B.ev,E.ev]
theorem a4T(v:Value):(E6 v).den ρ σ v:=by
 unfold E6
 split
 ·rename_i cs
  refine⟨cs.toList,?_,by simp⟩
  generalize cs.toList=l
  induction l with
  | nil=>trivial
  | cons a l ih=>exact⟨a2v a,ih⟩
 ·exact a2v v
theorem b5G{o:UnOp}{p:V}{obs:List Ob}{v:V}(h:unS o p=some (obs,v)){a:Value}(ha:p.den ρ σ a)(W:World):
 ∃u,(Op.unary o a).run P W= .ok u W∧v.den ρ σ u:=by
 unfold unS at h
 split at h
 ·rename_i k a'
  obtain rfl:a= .int k (a'.ev ρ):=ha
  split at h
  ·simp only[k9,Option.some.injEq,Prod.mk.injEq] at h
   obtain⟨rfl,rfl⟩:=h
   exact⟨.int k (k.wrap (0-a'.ev ρ)),by simp [Op.unary,Op.intArith],p9 (by rw[E.arS_ev];rfl)⟩
  ·simp at h
 ·rename_i b'
  obtain rfl:a= .bool (b'.ev ρ):=ha
  split at h
  ·simp only[k9,Option.some.injEq,Prod.mk.injEq] at h
   obtain⟨rfl,rfl⟩:=h
   exact⟨.bool (!b'.ev ρ),by simp [Op.unary],C1 (B.notS_ev _ _)⟩
  ·simp at h
 ·simp at h
theorem b0e{src dst:TypeId}{p:V}{obs:List Ob}{v:V}(h:b2u P src dst p=some (obs,v)){a:Value}(ha:p.den ρ σ a)(W:World):
 ∃u,(convert src dst a).run P W= .ok u W∧v.den ρ σ u:=by
 unfold b2u at h
 split at h
 ·rename_i k a'
  obtain rfl:a= .int k (a'.ev ρ):=ha
  split at h
  ·rename_i k' h1 h2
   simp only[k9,Option.some.injEq,Prod.mk.injEq] at h
   obtain⟨rfl,rfl⟩:=h
   exact⟨.int k' (k'.wrap (a'.ev ρ)),by simp [convert,run_underlying h1,run_underlying h2,Conv.intToInt],p9 (E.wrS_ev _ _ _)⟩
  ·simp at h
 ·simp at h
theorem m9(a off n:Nat):(Addr.mk a off none).add n=⟨a,off+n,none⟩:=by
 unfold Addr.add;split
 ·subst n;rfl
 ·rfl
theorem J5(a:Addr)(m n:Nat):(a.add m).add n=a.add (m+n):=by
 by_cases h1:m=0<;>by_cases h2:n=0<;>simp [Addr.add,h1,h2,Nat.add_assoc]
theorem a3c{t:TypeId}{f:Nat}{p:V}{obs:List Ob}{v:V}(h:a0O P t f p=some (obs,v)){a:Value}(ha:p.den ρ σ a)(W:World):
 ∃u,(Instr.fieldAt t a f).run P W= .ok u W∧v.den ρ σ u:=by
 unfold a0O at h
 split at h
 ·rename_i fs hu
  split at h
  ·rename_i fd hf
   split at h
   ·simp at h
   ·rename_i hz
    split at h
    ·rename_i i id off hi
     simp only[k9,Option.some.injEq,Prod.mk.injEq] at h
     obtain⟨rfl,rfl⟩:=h
     obtain⟨b,h1,rfl⟩:=ha
     exact⟨.pointer (some ⟨b,off+fd.offset,none⟩),by simp [Instr.fieldAt,run_underlying hu,hf,Instr.sureAddr,fieldPlace,j7 hi,hz,m9],b,h1,rfl⟩
    ·rename_i i ks x e off hi
     simp only[k9,Option.some.injEq,Prod.mk.injEq] at h
     obtain⟨rfl,rfl⟩:=h
     obtain⟨q,n,c,h1,h2,h3,rfl⟩:=ha
     exact⟨.pointer (some ((q.add ((e.ev ρ).toNat*ks.length+off)).add fd.offset)),by simp [Instr.fieldAt,run_underlying hu,hf,Instr.sureAddr,fieldPlace,j7 hi,hz],q,n,c,h1,h2,h3,by rw[J5];simp only[Nat.add_assoc]⟩
    ·rename_i i id ver k e off hi
     simp only[k9,Option.some.injEq,Prod.mk.injEq] at h
     obtain⟨rfl,rfl⟩:=h
     obtain⟨q,n,c,h1,h2,h3,rfl⟩:=ha
     exact⟨.pointer (some ((q.add ((e.ev ρ).toNat*k+off)).add fd.offset)),by simp [Instr.fieldAt,run_underlying hu,hf,Instr.sureAddr,fieldPlace,j7 hi,hz],q,n,c,h1,h2,h3,by rw[J5];simp only[Nat.add_assoc]⟩
    ·simp at h
  ·simp at h
 ·simp at h
theorem a9h{t:TypeId}{f:Nat}{p:V}{obs:List Ob}{v:V}(h:a9d P t f p=some (obs,v)){a:Value}(ha:p.den ρ σ a)(W:World):
 ∃u,(Instr.field t a f).run P W= .ok u W∧v.den ρ σ u:=by
 unfold a9d at h
 split at h
 ·rename_i fs hu
  split at h
  ·rename_i fd cs hf
   simp only[Option.map_eq_some_iff,Prod.mk.injEq] at h
   obtain⟨x,hx,rfl,rfl⟩:=h
   obtain⟨vs,h1,rfl⟩:=ha
   obtain⟨u,h2,h3⟩:=C3 hx h1 W
   exact⟨u,by simp [Instr.field,run_underlying hu,hf,asAgg,h2],h3⟩
  ·simp at h
 ·simp at h
theorem a3C{t:TypeId}{p q:V}{obs:List Ob}{v:V}(h:a1e P t p q=some (obs,v))(ho:∀o∈obs,o.ok ρ){a b:Value}(ha:p.den ρ σ a)(hb:q.den ρ σ b)(W:World):
 ∃u,(Instr.indexAt t a b).run P W= .ok u W∧v.den ρ σ u:=by
 unfold a1e at h
 split at h
 ·rename_i e id off len cap k n hu
  split at h
  ·rename_i hc
   simp only[Bool.and_eq_true,decide_eq_true_eq] at hc
   obtain⟨⟨hc1,hc2⟩,hc3⟩:=hc
   obtain⟨i,hi⟩:=Option.isSome_iff_exists.1 hc1
   simp only[k9,Option.some.injEq,Prod.mk.injEq] at h
   obtain⟨rfl,rfl⟩:=h
   obtain rfl:b= .int k n:=hb
   have key:∀(x c:Nat),(Instr.indexAt t (.slice (some ⟨x,off,none⟩) len c) (.int k n)).run P W= .ok (.pointer (some ⟨x,off+n.toNat*P.cellsOf e,none⟩)) W:=by
    intro x c
    simp [Instr.indexAt,asIntOf,run_underlying hu,hc2,hc3,j7 hi,m9]
   cases cap with
   | some c=>obtain⟨x,h1,rfl⟩:=ha;exact⟨_,key x c,x,h1,rfl⟩
   | none=>obtain⟨x,c,h1,_,rfl⟩:=ha;exact⟨_,key x c,x,h1,rfl⟩
  ·simp at h
 ·rename_i e ks x f k n hu
  split at h
  ·rename_i hc1
   simp only[Bool.and_eq_true] at hc1
   obtain⟨hc1,hc2⟩:=hc1
   have hc2:=i9 hc2
   obtain⟨i,hi⟩:=Option.isSome_iff_exists.1 hc1
   simp only[Option.some.injEq,Prod.mk.injEq] at h
   obtain⟨rfl,rfl⟩:=h
   obtain rfl:b= .int k (n.ev ρ):=hb
   obtain⟨a',m,c,rfl,hs,_⟩:=ha
   have o1:(0:Int)≤n.ev ρ:=of_decide_eq_true (by have:=ho _ (List.mem_cons_self ..);simp only[Ob.ok,B.cmpS_ev] at this;exact this)
   have o2:n.ev ρ<((x.ev ρ).length:Nat):=of_decide_eq_true (by have:=ho _ (List.mem_cons_of_mem _ (List.mem_cons_self ..));simp only[Ob.ok,B.cmpS_ev] at this;exact this)
   rw[hs.len] at o2
   obtain⟨y,rfl⟩:=Option.isSome_iff_exists.1 (hs.there (by omega))
   refine⟨.pointer (some (y.add ((n.ev ρ).toNat*P.cellsOf e))),?_,y,m,c,hs,o1,o2,by rw[hc2];rfl⟩
   simp [Instr.indexAt,asIntOf,run_underlying hu,o1,o2,j7 hi]
  ·simp at h
 ·rename_i m e id off k n hu
  split at h
  ·rename_i hc
   simp only[Bool.and_eq_true,decide_eq_true_eq] at hc
   obtain⟨⟨hc1,hc2⟩,hc3⟩:=hc
   obtain⟨i,hi⟩:=Option.isSome_iff_exists.1 hc1
   simp only[k9,Option.some.injEq,Prod.mk.injEq] at h
   obtain⟨rfl,rfl⟩:=h
   obtain rfl:b= .int k n:=hb
   obtain⟨x,h1,rfl⟩:=ha
   exact⟨.pointer (some ⟨x,off+n.toNat*P.cellsOf e,none⟩),by simp [Instr.indexAt,asIntOf,run_underlying hu,Instr.sureAddr,hc2,hc3,j7 hi,m9],x,h1,rfl⟩
  ·simp at h
 ·simp at h
theorem a7y{t:TypeId}{p q:V}{obs:List Ob}{v:V}(h:a7p P t p q=some (obs,v)){a b:Value}(ha:p.den ρ σ a)(hb:q.den ρ σ b)(W:World):
 ∃u,(Instr.index t a b).run P W= .ok u W∧v.den ρ σ u:=by
 unfold a7p at h
 split at h
 ·rename_i m e cs k n hu
  split at h
  ·rename_i hc
   simp only[Bool.and_eq_true,decide_eq_true_eq] at hc
   obtain⟨⟨hc1,hc2⟩,hc3⟩:=hc
   obtain⟨i,hi⟩:=Option.isSome_iff_exists.1 hc1
   simp only[Option.map_eq_some_iff,Prod.mk.injEq] at h
   obtain⟨x,hx,rfl,rfl⟩:=h
   obtain rfl:b= .int k n:=hb
   obtain⟨vs,h1,rfl⟩:=ha
   obtain⟨u,h2,h3⟩:=C3 hx h1 W
   exact⟨u,by simp [Instr.index,asIntOf,run_underlying hu,hc2,hc3,j7 hi,h2],h3⟩
  ·simp at h
 ·simp at h
theorem a4X:∀ {cs:List S} {l:List S0} {vs:List Value},S0s cs=some l→DL (S.den ρ σ) cs vs→DL (S0.den ρ σ) l vs
 | [],l,[],h,_=>by simp only[S0s,Option.some.injEq] at h;subst h;trivial
 | .z s::cs,l,v::vs,h,⟨h1,h2⟩=>by
   simp only[S0s,Option.map_eq_some_iff] at h
   obtain⟨r,hr,rfl⟩:=h
   exact⟨h1,a4X hr h2⟩
 | .iface t a c::cs,l,vs,h,_=>by simp [S0s] at h
 | .meth n t a c::cs,l,vs,h,_=>by simp [S0s] at h
 | .via t f a c::cs,l,vs,h,_=>by simp [S0s] at h
theorem c2C:∀ {cs:List S0} {vs:List Value},DL (S0.den ρ σ) cs vs→DL (S.den ρ σ) (cs.map .z) vs
 | [],[],_=>trivial
 | _::_,_::_,⟨h1,h2⟩=>⟨h1,c2C h2⟩
theorem a3i{t:TypeId}{p:V}{obs:List Ob}{v:V}(h:a0K P t p=some (obs,v)){a:Value}(ha:p.den ρ σ a)(W:World):
 ∃u,(Instr.makeInterface t a).run P W= .ok u W∧v.den ρ σ u:=by
 unfold a0K at h
 split at h
 ·simp at h
 ·rename_i d s hd hu
  simp only[k9,Option.some.injEq,Prod.mk.injEq] at h
  obtain⟨rfl,rfl⟩:=h
  refine⟨.iface t a,?_,a,⟨ha,trivial⟩,rfl⟩
  cases d<;>first | (simp [Instr.makeInterface,run_underlying hu];done) | exact absurd rfl (hd _)
 ·rename_i d cs hd hu
  simp only[Option.map_eq_some_iff,Prod.mk.injEq] at h
  obtain⟨l,hl,rfl,rfl⟩:=h
  obtain⟨vs,h1,rfl⟩:=ha
  refine⟨.iface t (.agg vs.toArray),?_,vs,a4X hl h1,rfl⟩
  cases d<;>first | (simp [Instr.makeInterface,run_underlying hu];done) | exact absurd rfl (hd _)
 ·simp at h
theorem T7{t:TypeId}{agg:Bool}{cs:List S0}{x:V2}(h:a0r agg cs=some x){a:Value}(ha:(S.iface t agg cs).den ρ σ a):∃u,a= .iface t u∧x.den ρ σ u:=by
 unfold a0r at h
 cases agg with
 | true=>
   simp only[if_true,Option.some.injEq] at h
   subst h
   obtain⟨vs,h1,rfl⟩:=ha
   exact⟨_,rfl,vs,c2C h1,rfl⟩
 | false=>
   simp only[Bool.false_eq_true,if_false] at h
   split at h
   ·simp only[Option.some.injEq] at h
    subst h
    obtain⟨u,h1,rfl⟩:=ha
    exact⟨u,rfl,h1.1⟩
   ·simp at h
theorem a0R{nm:String}{t:TypeId}{agg:Bool}{cs:List S0}{a:Value}:(S.meth nm t agg cs).den ρ σ a↔∃u,(S.iface t agg cs).den ρ σ u∧a= .func (.method nm) #[u] #[]:=by
 cases agg
 ·exact⟨fun⟨u,h1,h2⟩=>⟨_,⟨u,h1,rfl⟩,h2⟩,fun⟨_,⟨u,h1,h2⟩,h3⟩=>⟨u,h1,by rw[h3,h2]⟩⟩
 ·exact⟨fun⟨u,h1,h2⟩=>⟨_,⟨u,h1,rfl⟩,h2⟩,fun⟨_,⟨u,h1,h2⟩,h3⟩=>⟨u,h1,by rw[h3,h2]⟩⟩
theorem b0N{t:Option TypeId}{f:FuncId}{agg:Bool}{cs:List S0}{a:Value}:(S.via t f agg cs).den ρ σ a↔∃u,(S.iface 0 agg cs).den ρ σ (.iface 0 u)∧a=a5s t f u:=by
 cases agg
 ·exact⟨fun⟨u,h1,h2⟩=>⟨_,⟨u,h1,rfl⟩,h2⟩,fun⟨_,⟨u,h1,h2⟩,h3⟩=>⟨u,h1,by cases h2;exact h3⟩⟩
 ·exact⟨fun⟨u,h1,h2⟩=>⟨_,⟨u,h1,rfl⟩,h2⟩,fun⟨_,⟨u,h1,h2⟩,h3⟩=>⟨u,h1,by cases h2;exact h3⟩⟩
theorem X7{t:TypeId}{agg:Bool}{cs:List S0}{a:Value}(ha:(S.iface t agg cs).den ρ σ a):∃u,a= .iface t u:=by
 cases agg with
 | true=>obtain⟨vs,_,rfl⟩:=ha;exact⟨_,rfl⟩
 | false=>obtain⟨u,_,rfl⟩:=ha;exact⟨_,rfl⟩
theorem a2J{xt t:TypeId}{ok:Bool}{p:V}{obs:List Ob}{v:V}(h:a0b P t ok p=some (obs,v)){a:Value}(ha:p.den ρ σ a)(W:World):
 ∃u,(Instr.typeAssert a xt t ok).run P W= .ok u W∧v.den ρ σ u:=by
 unfold a0b at h
 split at h
 ·simp at h
 ·rename_i d dt agg cs hd hu
  obtain⟨i,hi⟩:=F3 hu
  split at h
  ·rename_i he
   simp only[Option.map_eq_some_iff,Prod.mk.injEq] at h
   obtain⟨x,hx,rfl,rfl⟩:=h
   obtain⟨u,rfl,h2⟩:=T7 hx ha
   subst he
   cases ok with
   | true=>
     refine⟨.tuple #[u,.bool true],?_,[u,.bool true],⟨h2,rfl,trivial⟩,rfl⟩
     cases d<;>first | (simp [Instr.typeAssert,run_underlying hu];done) | exact absurd rfl (hd _)
   | false=>
     refine⟨u,?_,h2⟩
     cases d<;>first | (simp [Instr.typeAssert,run_underlying hu];done) | exact absurd rfl (hd _)
  ·rename_i he
   split at h
   ·rename_i hok
    subst hok
    split at h
    ·rename_i i' hi'
     simp only[Option.map_eq_some_iff,Prod.mk.injEq] at h
     obtain⟨z,hz,rfl,rfl⟩:=h
     obtain⟨u,rfl⟩:=X7 ha
     refine⟨.tuple #[z,.bool false],?_,[z,.bool false],⟨a4T z,rfl,trivial⟩,rfl⟩
     cases d<;>first | (simp [Instr.typeAssert,run_underlying hu,he,zeroValue,typeInfo,hi',hz];done) | exact absurd rfl (hd _)
    ·simp at h
   ·simp at h
 ·simp at h
end
end Go.Proofs.YtbbjlleaofgddaaGreat
namespace Go.Proofs.YtbbjlleaofgddaaGreat
open Go.RowKit
section
variable {P:Program} {ρ:Env} {σ:As}
theorem b7c{s:S0}{v:Value}(h:s.solid=true)(hd:s.den ρ σ v):G9 v=true:=by
 cases s with
 | bool b=>obtain rfl:v= .bool _:=hd;rfl
 | int k e=>obtain rfl:v= .int k _:=hd;rfl
 | ptr i o=>obtain⟨a,_,rfl⟩:=hd;rfl
 | sl i o l c=>
   cases c with
   | none=>obtain⟨a,c,_,_,rfl⟩:=hd;rfl
   | some c=>obtain⟨a,_,rfl⟩:=hd;rfl
 | ext ks x f=>obtain⟨a,n,c,rfl,_⟩:=hd;rfl
 | eptr ks x i off=>obtain⟨a,n,c,_,_,_,rfl⟩:=hd;rfl
 | clo f c=>obtain⟨vs,_,rfl⟩:=hd;rfl
 | own id ver=>obtain⟨⟨a,n,c,rfl⟩,_⟩:=hd;rfl
 | ovw id ver k lo hi f=>obtain⟨a,n,c,b,c',_,_,_,_,rfl,_⟩:=hd;rfl
 | optr id ver k i off=>obtain⟨a,n,c,_,_,_,rfl⟩:=hd;rfl
 | yl i=>obtain⟨a,_,rfl⟩:=hd;rfl
 | chn i=>obtain⟨a,_,rfl⟩:=hd;rfl
 | bptr i v o=>obtain⟨a,_,rfl⟩:=hd;rfl
 | const c=>obtain rfl:v=c:=hd;exact h
 | any=>simp [S0.solid] at h
theorem a4Z{s:S}{v:Value}(h:s.solid=true)(hd:s.den ρ σ v):G9 v=true:=by
 cases s with
 | z s=>exact b7c h hd
 | iface t a c=>obtain⟨u,rfl⟩:=X7 hd;rfl
 | meth n t a c=>obtain⟨u,_,rfl⟩:=a0R.1 hd;rfl
 | via t f a c=>obtain⟨u,_,rfl⟩:=b0N.1 hd;cases t<;>rfl
theorem a2g{v:Value}(h:G9 v=true):v.cells= #[v]:=by cases v<;>simp [G9] at h<;>rfl
theorem J2{x:V2}{v:Value}(h:x.solid=true)(hd:x.den ρ σ v):DL (S.den ρ σ) x.cells v.cells.toList:=by
 cases x with
 | one s=>
   rw[a2g (a4Z h hd)]
   exact⟨hd,trivial⟩
 | agg cs=>
   obtain⟨vs,h1,rfl⟩:=hd
   simpa [Value.cells,V2.cells] using h1
theorem J8(z:Value):DL (S.den ρ σ) (E6 z).cells z.cells.toList:=by
 unfold E6
 split
 ·rename_i cs
  show DL _ (cs.toList.map _) cs.toList
  generalize cs.toList=l
  induction l with
  | nil=>trivial
  | cons a l ih=>exact⟨a2v a,ih⟩
 ·rename_i h
  have:z.cells= #[z]:=by cases z<;>first | rfl | exact absurd rfl (h _)
  rw[this]
  exact⟨a2v z,trivial⟩
theorem a6o(off:Nat):∀(vs:List Value) (k:Nat) (us:List Value),off+k+vs.length≤us.length→
 ((vs.zipIdx k).foldl (fun(c:Array Value) (p:Value×Nat)=>c.setIfInBounds (off+p.2) p.1) us.toArray).toList=us.take (off+k)++vs++us.drop (off+k+vs.length)
 | [],k,us,_=>by simp
 | v::vs,k,us,h=>by
   simp only[List.zipIdx_cons,List.foldl_cons,List.length_cons] at h ⊢
   have hk:off+k<us.length:=by omega
   rw[show us.toArray.setIfInBounds (off+k) v=(us.set (off+k) v).toArray by simp]
   have ih:=a6o off vs (k+1) (us.set (off+k) v) (by simp;omega)
   rw[ih]
   have e1:(us.set (off+k) v).take (off+(k+1))=us.take (off+k)++[v]:=by
    rw[show off+(k+1)=(off+k)+1 by omega,List.take_succ_eq_append_getElem (by simp;omega),List.take_set_of_le (Nat.le_refl _)]
    simp
   have e2:(us.set (off+k) v).drop (off+(k+1)+vs.length)=us.drop (off+k+(vs.length+1)):=by
    rw[List.drop_set_of_lt (by omega)]
    congr 1;omega
   rw[e1,e2]
   simp
theorem V4{cs new:List S}{us vs:List Value}{off:Nat}(h1:DL (S.den ρ σ) cs us)(h2:DL (S.den ρ σ) new vs):
 DL (S.den ρ σ) (I5 cs off new) (us.take off++vs++us.drop (off+vs.length)):=by
 unfold I5
 rw[←h2.length]
 exact((h1.take _).append h2).append (h1.drop _)
def PD(ρ:Env)(σ:As):List (Nat×V2)→List (Nat×Value)→Prop
 | [],[]=>True
 | (i,x)::l,(j,v)::r=>i=j∧x.den ρ σ v∧PD ρ σ l r
 | _,_=>False
theorem P7(place:Nat→Option (Nat×Nat)):∀(parts:List (Nat×V2)) (vparts:List (Nat×Value)) (cells:List S) (us:List Value) (cs:List S),
 a0F place cells parts=some cs→PD ρ σ parts vparts→DL (S.den ρ σ) cells us→∃ws,Instr.fill place us.toArray vparts=some ws.toArray∧DL (S.den ρ σ) cs ws
 | [],[],cells,us,cs,h,_,hd=>by
   simp only[a0F,Option.some.injEq] at h
   subst h
   exact⟨us,rfl,hd⟩
 | (i,x)::l,(j,v)::r,cells,us,cs,h,⟨hij,hx,hp⟩,hd=>by
   subst hij
   simp only[a0F] at h
   split at h
   ·simp at h
   ·rename_i off size hpl
    split at h
    ·simp at h
    ·rename_i hc
     simp only[Bool.or_eq_true,decide_eq_true_eq,Bool.not_eq_true',not_or,Bool.not_eq_false] at hc
     obtain⟨⟨hc1,hc2⟩,hc3⟩:=hc
     have hv:=J2 hc3 hx
     have hlen:=hv.length
     have hlen2:=hd.length
     simp only[ne_eq,Decidable.not_not] at hc1
     have e:=a6o off v.cells.toList 0 us (by simp only[Nat.add_zero];omega)
     simp only[Nat.add_zero] at e
     have e':(v.cells.zipIdx.foldl (fun(cs:Array Value) (p:Value×Nat)=>cs.setIfInBounds (off+p.2) p.1) us.toArray)=(us.take off++v.cells.toList++us.drop (off+v.cells.toList.length)).toArray:=by
      rw[←e,Array.toArray_toList,←Array.foldl_toList,Array.toList_zipIdx]
     obtain⟨ws,h1,h2⟩:=P7 place l r _ _ cs h hp (V4 (off:=off) hd hv)
     refine⟨ws,?_,h2⟩
     simp only[Instr.fill,hpl]
     rw[if_neg (by
      simp only[Bool.or_eq_true,decide_eq_true_eq,not_or,ne_eq,Decidable.not_not]
      have:v.cells.size=v.cells.toList.length:=by simp
      constructor
      ·omega
      ·simp only[List.size_toArray];omega)]
     rw[←h1]
     congr 1
theorem a1X:∀ {l:List (Nat×V)} {r:List (Nat×V2)} {vs:List (Nat×Value)},a0I l=some r→
 l.length=vs.length→(∀(k:Nat) p q,l[k]? = some p→vs[k]? = some q→p.1=q.1∧p.2.den ρ σ q.2)→PD ρ σ r vs
 | [],r,[],h,_,_=>by simp only[a0I,Option.some.injEq] at h;subst h;trivial
 | (i,.v x)::l,r,(j,v)::vs,h,hlen,hd=>by
   simp only[a0I,Option.map_eq_some_iff] at h
   obtain⟨r',hr,rfl⟩:=h
   have h0:=hd 0 _ _ rfl rfl
   exact⟨h0.1,h0.2,a1X hr (by simpa using hlen) (fun k p q h1 h2=>hd (k+1) p q (by simpa using h1) (by simpa using h2))⟩
 | (i,.tup x)::l,r,vs,h,_,_=>by simp [a0I] at h
theorem a8E{t:TypeId}{parts:List (Nat×V2)}{cs:List S}(h:a7w P t parts=some cs){vparts:List (Nat×Value)}(hp:PD ρ σ parts vparts):
 ∃ws,P.built t vparts=some ws.toArray∧DL (S.den ρ σ) cs ws:=by
 unfold a7w at h
 split at h
 ·rename_i it n e hi hu
  split at h
  ·rename_i z ie hz hie
   obtain⟨ws,h1,h2⟩:=P7 _ parts vparts _ _ cs h hp (J8 z)
   refine⟨ws,?_,h2⟩
   simp only[Program.built,hi,hu,hz,hie]
   simpa using h1
  ·simp at h
 ·rename_i it fields hi hu
  split at h
  ·rename_i z places hz hpl
   obtain⟨ws,h1,h2⟩:=P7 _ parts vparts _ _ cs h hp (J8 z)
   refine⟨ws,?_,h2⟩
   simp only[Program.built,hi,hu,hz,hpl]
   simpa using h1
  ·simp at h
 ·simp at h
theorem a6b{t:TypeId}{name:String}{f:FuncId}(h:M5 P t name=some f)(n:Nat)(v:Value)(W:World):(nilAhead (n+1) t v name).run P W= .ok (some false) W:=by
 unfold M5 at h
 split at h
 ·rename_i i d hi hu
  split at h
  ·rename_i m hm
   split at h
   ·rename_i hp
    simp only[Array.isEmpty_iff] at hp
    have hti:(typeInfo t).run P W= .ok i W:=by simp [typeInfo,hi]
    split at h
    ·rename_i f' pr hf
     split at h
     ·rename_i hpr
      subst hpr
      cases d<;>simp [nilAhead,hti,hm,hp,followBlind,hf,a1L,run_underlying hu]
     ·simp at h
    ·simp at h
   ·simp at h
  ·simp at h
 ·simp at h
theorem a3H{p v:V}(h:a1t P p=some v){a:Value}(ha:p.den ρ σ a):
 v.den ρ σ a∧∃nm t u,a= .func (.method nm) #[.iface t u] #[]∧∀n W,(nilAhead (n+1) t u nm).run P W= .ok (some false) W:=by
 unfold a1t at h
 split at h
 ·rename_i nm t b c
  split at h
  ·rename_i hm
   simp only[Option.some.injEq] at h
   subst h
   obtain⟨f,hf⟩:=Option.isSome_iff_exists.1 hm
   refine⟨ha,?_⟩
   obtain⟨u,h1,rfl⟩:=a0R.1 ha
   obtain⟨x,rfl⟩:=X7 h1
   exact⟨nm,t,x,rfl,fun n W=>a6b hf n x W⟩
  ·simp at h
 ·simp at h
theorem a4l{p:V}{obs:List Ob}{v:V}(h:a1O p=some (obs,v)){a:Value}(ha:p.den ρ σ a):
 v.den ρ σ a∧((∃x,a= .pointer (some x))∨(∃f c,a= .func (.func f) #[] c)∨∃t u,a= .iface t u):=by
 unfold a1O at h
 split at h<;>simp only[k9,Option.some.injEq,Prod.mk.injEq,reduceCtorEq] at h<;>obtain⟨rfl,rfl⟩:=h
 ·have ha':=ha
  obtain⟨x,_,rfl⟩:=ha
  exact⟨ha',.inl ⟨_,rfl⟩⟩
 ·have ha':=ha
  obtain⟨x,n,c,_,_,_,rfl⟩:=ha
  exact⟨ha',.inl ⟨_,rfl⟩⟩
 ·have ha':=ha
  obtain⟨x,n,c,_,_,_,rfl⟩:=ha
  exact⟨ha',.inl ⟨_,rfl⟩⟩
 ·have ha':=ha
  obtain⟨x,_,rfl⟩:=ha
  exact⟨ha',.inr (.inl ⟨_,_,rfl⟩)⟩
 ·have ha':=ha
  obtain⟨u,rfl⟩:=X7 ha
  exact⟨ha',.inr (.inr ⟨_,_,rfl⟩)⟩
theorem c3s{id off len:Nat}{cap:Option Nat}{a:Value}(h:(S0.sl id off len cap).den ρ σ a):∃x c,σ id=some x∧a= .slice (some ⟨x,off,none⟩) len c∧(∀n,cap=some n→n=c):=by
 cases cap with
 | none=>obtain⟨x,c,h1,h2,rfl⟩:=h;exact⟨x,c,h1,rfl,fun n hn=>by simp at hn⟩
 | some n=>obtain⟨x,h1,rfl⟩:=h;exact⟨x,n,h1,rfl,fun m hm=>by simpa using hm.symm⟩
theorem b3z{t:TypeId}{p:V}{obs:List Ob}{v:V}(h:lenS P t p=some (obs,v)){a:Value}(ha:p.den ρ σ a)(ts:Array TypeId)(ht:ts[0]? = some t)(ty:TypeId)(W:World):
 ∃u,(Builtin.len_ ts ty #[a]).run P W= .ok u W∧v.den ρ σ u:=by
 unfold lenS at h
 split at h
 ·rename_i e id off len cap hu
  simp only[k9,Option.some.injEq,Prod.mk.injEq] at h
  obtain⟨rfl,rfl⟩:=h
  obtain⟨x,c,h1,rfl,_⟩:=c3s ha
  exact⟨.int .i64 len,by simp [Builtin.len_,ht,run_underlying hu,goInt],p9 rfl⟩
 ·rename_i e b n c hu
  simp only[k9,Option.some.injEq,Prod.mk.injEq] at h
  obtain⟨rfl,rfl⟩:=h
  obtain rfl:a= .slice b n c:=ha
  exact⟨.int .i64 n,by simp [Builtin.len_,ht,run_underlying hu,goInt],p9 rfl⟩
 ·rename_i e ks x f hu
  simp only[k9,Option.some.injEq,Prod.mk.injEq] at h
  obtain⟨rfl,rfl⟩:=h
  obtain⟨b,n,c,rfl,hs,_⟩:=ha
  exact⟨.int .i64 n,by simp [Builtin.len_,ht,run_underlying hu,goInt],p9 (by rw[E.lenS_ev,hs.len])⟩
 ·rename_i n e hu
  simp only[k9,Option.some.injEq,Prod.mk.injEq] at h
  obtain⟨rfl,rfl⟩:=h
  exact⟨.int .i64 n,by simp [Builtin.len_,ht,run_underlying hu,goInt],p9 rfl⟩
 ·simp at h
theorem b1v{t:TypeId}{p:V}{obs:List Ob}{v:V}(h:b8G P t p=some (obs,v)){a:Value}(ha:p.den ρ σ a)(ts:Array TypeId)(ht:ts[0]? = some t)(ty:TypeId)(W:World):
 ∃u,(Builtin.cap_ ts ty #[a]).run P W= .ok u W∧v.den ρ σ u:=by
 unfold b8G at h
 split at h
 ·rename_i e id off len cap hu
  simp only[k9,Option.some.injEq,Prod.mk.injEq] at h
  obtain⟨rfl,rfl⟩:=h
  obtain⟨x,h1,rfl⟩:=ha
  exact⟨.int .i64 cap,by simp [Builtin.cap_,ht,run_underlying hu,goInt],p9 rfl⟩
 ·rename_i e b n c hu
  simp only[k9,Option.some.injEq,Prod.mk.injEq] at h
  obtain⟨rfl,rfl⟩:=h
  obtain rfl:a= .slice b n c:=ha
  exact⟨.int .i64 c,by simp [Builtin.cap_,ht,run_underlying hu,goInt],p9 rfl⟩
 ·rename_i e ks x hu
  simp only[k9,Option.some.injEq,Prod.mk.injEq] at h
  obtain⟨rfl,rfl⟩:=h
  obtain⟨b,n,c,rfl,hs,hf⟩:=ha
  obtain rfl:=hf rfl
  exact⟨.int .i64 c,by simp [Builtin.cap_,ht,run_underlying hu,goInt],p9 (by simp only[E.ev];rw[hs.len])⟩
 ·simp at h
theorem a0g(f:E→E→E)(g:Value→Value→Sem Value)(hg:∀(k:IntKind) (a b:E) (W:World),(g (.int k (a.ev ρ)) (.int k (b.ev ρ))).run P W= .ok (.int k ((f a b).ev ρ)) W)(k:IntKind)(W:World):
 ∀(r:List V) (a:E) (vs:List Value) (obs:List Ob) (v:V),a2k f k a r=some (obs,v)→DL (V.den ρ σ) r vs→∃u,(vs.foldlM g (.int k (a.ev ρ))).run P W= .ok u W∧v.den ρ σ u
 | [],a,[],obs,v,h,_=>by
   simp only[a2k,k9,Option.some.injEq,Prod.mk.injEq] at h
   obtain⟨_,rfl⟩:=h
   exact⟨.int k (a.ev ρ),by simp,p9 rfl⟩
 | x::r,a,y::vs,obs,v,h,⟨hx,hr⟩=>by
   unfold a2k at h
   split at h
   ·rename_i e;simp at e
   ·rename_i k' b r' e
    simp only[List.cons.injEq] at e
    obtain⟨rfl,rfl⟩:=e
    split at h
    ·rename_i hk
     subst hk
     obtain rfl:y= .int k (b.ev ρ):=hx
     obtain⟨u,h1,h2⟩:=a0g f g hg k W r (f _ b) vs obs v h hr
     exact⟨u,by simp [List.foldlM_cons,hg,h1],h2⟩
    ·simp at h
   ·simp at h
theorem a5W{b:Builtin}{ts:Array TypeId}{l:List V}{obs:List Ob}{v:V}(h:a3g P b ts l=some (obs,v)){vs:List Value}(hd:DL (V.den ρ σ) l vs)(ty:TypeId)(cs:Array Bool)(W:World):
 ∃u,(builtin b ts ty cs vs.toArray).run P W= .ok (.value u) W∧v.den ρ σ u:=by
 unfold a3g at h
 split at h
 ·rename_i p
  simp only[Option.bind_eq_some_iff] at h
  obtain⟨t,ht,h⟩:=h
  obtain⟨a,vs',rfl,h1,h2⟩:=DL.cons_inv hd
  rw[DL.nil_inv h2]
  obtain⟨u,h3,h4⟩:=b3z h h1 ts ht ty W
  exact⟨u,by simp [builtin,h3],h4⟩
 ·rename_i p
  simp only[Option.bind_eq_some_iff] at h
  obtain⟨t,ht,h⟩:=h
  obtain⟨a,vs',rfl,h1,h2⟩:=DL.cons_inv hd
  rw[DL.nil_inv h2]
  obtain⟨u,h3,h4⟩:=b1v h h1 ts ht ty W
  exact⟨u,by simp [builtin,h3],h4⟩
 ·rename_i k a r
  obtain⟨y,vs',rfl,h1,h2⟩:=DL.cons_inv hd
  obtain rfl:y= .int k (a.ev ρ):=h1
  obtain⟨u,h3,h4⟩:=a0g (P:=P) E.mxS Builtin.max2 (fun k a b W=>by
   rw[E.mxS_ev]
   simp only[Builtin.max2,Sem.run_pure]
   congr 2;split<;>omega) k W r a vs' obs v h h2
  exact⟨u,by simp [builtin,Builtin.max_,h3],h4⟩
 ·rename_i k a r
  obtain⟨y,vs',rfl,h1,h2⟩:=DL.cons_inv hd
  obtain rfl:y= .int k (a.ev ρ):=h1
  obtain⟨u,h3,h4⟩:=a0g (P:=P) E.mnS Builtin.min2 (fun k a b W=>by
   rw[E.mnS_ev]
   simp only[Builtin.min2,Sem.run_pure]
   congr 2;split<;>omega) k W r a vs' obs v h h2
  exact⟨u,by simp [builtin,Builtin.min_,h3],h4⟩
 ·simp at h
end
end Go.Proofs.YtbbjlleaofgddaaGreat
namespace Go.Proofs.YtbbjlleaofgddaaGreat
open Go.RowKit
section
variable {P:Program} {ρ:Env} {σ:As}
def ODen(ρ:Env)(σ:As):Option V→Option Value→Prop
 | none,none=>True
 | some p,some a=>p.den ρ σ a
 | _,_=>False
theorem V8{d l:Nat}{o:Option V}{a:Option Value}(h:a1Z d o=some l)(ha:ODen ρ σ o a):(a=none∧l=d)∨∃(k:IntKind),a=some (.int k (l:Int)):=by
 unfold a1Z at h
 split at h
 ·cases a with
  | none=>simp at h;exact .inl ⟨rfl,h.symm⟩
  | some a=>exact ha.elim
 ·rename_i k n
  split at h
  ·simp only[Option.some.injEq] at h
   subst h
   cases a with
   | none=>exact ha.elim
   | some a=>
     obtain rfl:a= .int k n:=ha
     exact .inr ⟨k,by congr 2;omega⟩
  ·simp at h
 ·simp at h
theorem L8{d l:E}{o:Option V}{a:Option Value}(h:a0u d o=some l)(ha:ODen ρ σ o a):(a=none∧l=d)∨∃(k:IntKind),a=some (.int k (l.ev ρ)):=by
 unfold a0u at h
 split at h
 ·cases a with
  | none=>simp at h;exact .inl ⟨rfl,h.symm⟩
  | some a=>exact ha.elim
 ·rename_i k n
  simp only[Option.some.injEq] at h
  subst h
  cases a with
  | none=>exact ha.elim
  | some a=>obtain rfl:a= .int k (n.ev ρ):=ha;exact .inr ⟨k,rfl⟩
 ·simp at h
theorem T1{len cap l h m:Nat}{lo hi mx:Option Value}(hl:(lo=none∧l=0)∨∃k:IntKind,lo=some (.int k (l:Int)))(hh:(hi=none∧h=len)∨∃k:IntKind,hi=some (.int k (h:Int)))
 (hm:(mx=none∧m=cap)∨∃k:IntKind,mx=some (.int k (m:Int))) (hx:mx=none∨hi≠none) (h1:l≤h) (h2:h≤m) (h3:m≤cap) (W:World):(Instr.sliceBounds true len cap lo hi mx).run P W= .ok (l,h,m) W:=by
 have e2:((h:Int))≤(m:Int):=by omega
 have e1:((l:Int))≤(h:Int):=by omega
 have e3:((m:Int))≤(cap:Int):=by omega
 rcases hl with ⟨rfl,rfl⟩ | ⟨k,rfl⟩<;>rcases hh with ⟨rfl,rfl⟩ | ⟨k',rfl⟩<;>rcases hm with ⟨rfl,rfl⟩ | ⟨k'',rfl⟩<;>first | (simp at hx;done) | simp [Instr.sliceBounds,Instr.sliceBound,asIntOf,h1,h2,h3,e1,e2,e3]
theorem U3{o:Option V}{a:Option Value}(h:a1x o=true)(ha:ODen ρ σ o a):(a=none∧(0:Nat)=0)∨∃k:IntKind,a=some (.int k ((0:Nat):Int)):=by
 unfold a1x at h
 split at h
 ·cases a with
  | none=>exact .inl ⟨rfl,rfl⟩
  | some a=>exact ha.elim
 ·rename_i k
  cases a with
  | none=>exact ha.elim
  | some a=>obtain rfl:a= .int k 0:=ha;exact .inr ⟨k,rfl⟩
 ·simp at h
theorem SlAt.sub{w:World}{ks:List CK}{a:Option Addr}{n c:Nat}{r:Rows}(h:SlAt w ks a n c r){l m cc:Nat}(hl:l≤m)(hm:m≤n)(hc:m≤cc)(hcc:cc≤c):
 SlAt w ks (if cc=l then a else a.map (·.add (l*ks.length))) (m-l) (cc-l) (k5 r l m):=by
 have hlen:=h.len
 refine⟨by simp [k5,hlen];omega,by omega,by have:=h.big;omega,fun h0=> ?_,fun b hb=> ?_⟩
 ·have:=h.there (by omega)
  split<;>simp [this]
 ·have hrow:∀(i:Nat) (row:List D),(k5 r l m)[i]? = some row→i<m-l∧r[l+i]? = some row:=by
   intro i row hi
   have h1:i<(k5 r l m).length:=(List.getElem?_eq_some_iff.1 hi).1
   simp only[k5,List.length_take,List.length_drop] at h1
   simp only[k5] at hi
   rw[List.getElem?_take_of_lt (by omega),List.getElem?_drop] at hi
   exact⟨by omega,by simpa using hi⟩
  split at hb
  ·rename_i he
   intro i row hi
   have:=(hrow i row hi).1
   omega
  ·simp only[Option.map_eq_some_iff] at hb
   obtain⟨b0,hb0,rfl⟩:=hb
   intro i row hi
   obtain⟨vs,h3,h4⟩:=h.cell b0 hb0 _ _ (hrow i row hi).2
   refine⟨vs,h3,fun j v hj=> ?_⟩
   rw[J5,←h4 j v hj]
   congr 2
   rw[Nat.add_mul];omega
theorem ODen.some_of{o:Option V}{a:Option Value}(h:ODen ρ σ o a):(o=none↔a=none):=by cases o<;>cases a<;>simp [ODen] at h ⊢
theorem ODen.bounds{o o':Option V}{a a':Option Value}(h:ODen ρ σ o a)(h':ODen ρ σ o' a')(q:(o'.isNone||o.isSome)=true):a'=none∨a≠none:=by
 have h1:=h.some_of
 have h2:=h'.some_of
 cases o<;>cases o'<;>cases a<;>cases a'<;>simp at q h1 h2 ⊢
theorem a8z{t:TypeId}{p:V}{lo hi mx:Option V}{obs:List Ob}{v:V}(h:a8C P t p lo hi mx=some (obs,v))(ho:∀o∈obs,o.ok ρ){a:Value}(ha:p.den ρ σ a){l' h' m':Option Value}
 (hl:ODen ρ σ lo l') (hh:ODen ρ σ hi h') (hm:ODen ρ σ mx m') (W:World):
 ∃u,(Instr.sliceAt t a l' h' m').run P W= .ok u W∧v.den ρ σ u:=by
 unfold a8C at h
 split at h
 ·rename_i e id off len c hu
  split at h
  ·rename_i l hh0 m e1 e2 e3
   split at h
   ·rename_i hc
    simp only[Bool.and_eq_true,decide_eq_true_eq] at hc
    obtain⟨⟨⟨⟨c1,c2⟩,c3⟩,c4⟩,c5⟩:=hc
    obtain⟨i,hi'⟩:=Option.isSome_iff_exists.1 c4
    simp only[k9,Option.some.injEq,Prod.mk.injEq] at h
    obtain⟨rfl,rfl⟩:=h
    obtain⟨x,h1,rfl⟩:=ha
    have hb:=T1 (P:=P) (V8 e1 hl) (V8 e2 hh) (V8 e3 hm) (hh.bounds hm c5) c1 c2 c3 W
    refine⟨.slice (some ⟨x,if l=m then off else off+l*P.cellsOf e,none⟩) (hh0-l) (m-l),?_,x,h1,rfl⟩
    by_cases hne:m=l
    ·subst hne
     simp [Instr.sliceAt,Instr.slice,run_underlying hu,hb,j7 hi']
    ·simp [Instr.sliceAt,Instr.slice,run_underlying hu,hb,j7 hi',hne,Ne.symm hne,m9]
   ·simp at h
  ·simp at h
 ·rename_i n e id off hu
  split at h
  ·cases m' with
   | some m=>exact hm.elim
   | none=>
     split at h
     ·rename_i hc
      simp only[Bool.and_eq_true,decide_eq_true_eq] at hc
      obtain⟨c1,c4⟩:=hc
      obtain⟨i,hi'⟩:=Option.isSome_iff_exists.1 c4
      simp only[k9,Option.some.injEq,Prod.mk.injEq] at h
      obtain⟨rfl,rfl⟩:=h
      obtain⟨x,h1,rfl⟩:=ha
      cases l' with
      | some _=>exact hl.elim
      | none=>
        cases h' with
        | some _=>exact hh.elim
        | none=>
          refine⟨.slice (some ⟨x,off,none⟩) n n,?_,x,h1,rfl⟩
          have hne:¬(n=0):=by omega
          simp [Instr.sliceAt,run_underlying hu,Instr.sureAddr,Instr.sliceBounds,j7 hi',hne,Addr.add]
     ·simp at h
  ·simp at h
 ·rename_i e hu
  split at h
  ·rename_i hc
   simp only[Bool.and_eq_true] at hc
   obtain⟨⟨⟨⟨c1,c2⟩,c3⟩,c4⟩,c5⟩:=hc
   obtain⟨i,hi'⟩:=Option.isSome_iff_exists.1 c4
   simp only[k9,Option.some.injEq,Prod.mk.injEq] at h
   obtain⟨rfl,rfl⟩:=h
   obtain rfl:a= .slice none 0 0:=ha
   have hb:=T1 (P:=P) (len:=0) (cap:=0) (l:=0) (h:=0) (m:=0) (U3 c1 hl) (U3 c2 hh) (U3 c3 hm) (hh.bounds hm c5) (Nat.le_refl _) (Nat.le_refl _) (Nat.le_refl _) W
   exact⟨.slice none 0 0,by simp [Instr.sliceAt,Instr.slice,run_underlying hu,hb,j7 hi'],rfl⟩
  ·simp at h
 ·rename_i e ks x f hu
  split at h
  ·rename_i l hh0 e1 e2
   split at h
   ·rename_i c4
    simp only[Bool.and_eq_true,Bool.or_eq_true] at c4
    obtain⟨⟨c4,c5⟩,c6⟩:=c4
    have c5:=i9 c5
    have c7:(mx.isNone||hi.isSome)=true:=by rcases c6 with h | h<;>simp [h]
    obtain⟨i,hi'⟩:=Option.isSome_iff_exists.1 c4
    simp only[Option.some.injEq,Prod.mk.injEq] at h
    obtain⟨rfl,rfl⟩:=h
    obtain⟨b,n,c,rfl,hs,hfull⟩:=ha
    have hsl:=hs.len
    have hsc:=hs.cap
    have o1:=ho _ (List.mem_cons_self ..)
    have o2:=ho _ (List.mem_cons_of_mem _ (List.mem_cons_self ..))
    have o3:=ho _ (List.mem_cons_of_mem _ (List.mem_cons_of_mem _ (List.mem_cons_self ..)))
    replace o1:(0:Int)≤l.ev ρ:=of_decide_eq_true (by have:=o1;simp only[Ob.ok,B.cmpS_ev] at this;exact this)
    replace o2:l.ev ρ≤hh0.ev ρ:=of_decide_eq_true (by have:=o2;simp only[Ob.ok,B.cmpS_ev] at this;exact this)
    replace o3:hh0.ev ρ≤((x.ev ρ).length:Nat):=of_decide_eq_true (by have:=o3;simp only[Ob.ok,B.cmpS_ev] at this;exact this)
    rw[hsl] at o3
    have k1:(l'=none∧(l.ev ρ).toNat=0)∨∃k:IntKind,l'=some (.int k ((l.ev ρ).toNat:Int)):=by
     rcases L8 e1 hl with ⟨q1,q2⟩ | ⟨k,q⟩
     ·left;refine⟨q1,?_⟩;rw[q2];rfl
     ·right;exact⟨k,by rw[q];congr 2;omega⟩
    have k2:(h'=none∧(hh0.ev ρ).toNat=n)∨∃k:IntKind,h'=some (.int k ((hh0.ev ρ).toNat:Int)):=by
     rcases L8 e2 hh with ⟨q1,q2⟩ | ⟨k,q⟩
     ·left;refine⟨q1,?_⟩;rw[q2];simp only[E.ev];omega
     ·right;exact⟨k,by rw[q];congr 2;omega⟩
    have k3:∃cc,((m'=none∧cc=c)∨∃k:IntKind,m'=some (.int k (cc:Int)))∧(hh0.ev ρ).toNat≤cc∧cc≤c∧(mx.isSome=true→cc=(hh0.ev ρ).toNat)∧(mx.isSome=false→cc=c):=by
     cases mx with
     | none=>
       cases m' with
       | none=>exact⟨c,.inl ⟨rfl,rfl⟩,by omega,Nat.le_refl _,by simp,by simp⟩
       | some m=>exact hm.elim
     | some mv=>
       cases m' with
       | none=>exact hm.elim
       | some m=>
         refine⟨(hh0.ev ρ).toNat,.inr ?_,Nat.le_refl _,by omega,by simp,by simp⟩
         simp only[Option.isNone_some,Bool.false_eq_true,false_or] at c6
         replace c6:=c6.2
         unfold a6Z at c6
         split at c6
         ·rename_i k q heq
          simp only[Option.some.injEq] at heq
          subst heq
          obtain rfl:m= .int k (q.ev ρ):=hm
          rw[E.same_eq _ _ c6]
          exact⟨k,by congr 2;omega⟩
         ·simp at c6
    obtain⟨cc,q1,q2,q3,q4,q5⟩:=k3
    have hb:=T1 (P:=P) k1 k2 q1 (hh.bounds hm c7) (by omega) q2 q3 W
    refine⟨.slice (if cc=(l.ev ρ).toNat then b else b.map (·.add ((l.ev ρ).toNat*ks.length))) ((hh0.ev ρ).toNat-(l.ev ρ).toNat) (cc-(l.ev ρ).toNat),?_,?_⟩
    ·rw[c5]
     simp [Instr.sliceAt,Instr.slice,run_underlying hu,hb,j7 hi']
    ·refine⟨_,_,_,rfl,?_,fun hf=> ?_⟩
     ·have:=hs.sub (l:=(l.ev ρ).toNat) (m:=(hh0.ev ρ).toNat) (cc:=cc) (by omega) (by omega) q2 q3
      simp only[X.ev]
      have e1:k5 (x.ev ρ) ((l.ev ρ).toNat:Int) ((hh0.ev ρ).toNat:Int)=k5 (x.ev ρ) (l.ev ρ) (hh0.ev ρ):=by
       simp only[k5,Int.toNat_natCast]
      rw[e1] at this
      exact this
     ·simp only[Bool.or_eq_true,Bool.and_eq_true] at hf
      rcases hf with hf | ⟨hf1,hf2⟩
      ·rw[q4 hf]
      ·have:=hfull hf1
       have e3:hh0.ev ρ=((x.ev ρ).length:Nat):=by rw[E.same_eq _ _ hf2];rfl
       cases hmx:mx.isSome with
       | true=>rw[q4 hmx]
       | false=>rw[q5 hmx];omega
   ·simp at h
  ·simp at h
 ·simp at h
theorem a7r:∀ {l:List V} {r:List (Nat×Nat)} {vs:List Value},a8B l=some r→DL (V.den ρ σ) l vs→DL (capDen σ) r vs
 | [],r,[],h,_=>by simp only[a8B,Option.some.injEq] at h;subst h;trivial
 | x::l,r,v::vs,h,⟨h1,h2⟩=>by
   unfold a8B at h
   split at h
   ·rename_i e;simp at e
   ·rename_i id off l' e
    simp only[List.cons.injEq] at e
    obtain⟨rfl,rfl⟩:=e
    simp only[Option.map_eq_some_iff] at h
    obtain⟨r',hr,rfl⟩:=h
    exact⟨h1,a7r hr h2⟩
   ·simp at h
theorem R4{g:Operand→V}{ev:Operand→Value}:∀(l:List Operand),(∀x∈l,(g x).den ρ σ (ev x))→DL (V.den ρ σ) (l.map g) (l.map ev)
 | [],_=>trivial
 | x::l,h=>⟨h x (List.mem_cons_self ..),R4 l (fun y hy=>h y (List.mem_cons_of_mem _ hy))⟩
theorem a4E{P:Program}{s:Sem Value}{u:Value}{W W':World}(h:s.run P W= .ok u W'):(do pure (Next.value (←s)):Sem Next).run P W= .ok (.value u) W':=by simp [h]
theorem J6{α β:Type}(f:α→β)(a:Array α):a.map f=(a.toList.map f).toArray:=by rw[←Array.toList_map,Array.toArray_toList]
theorem A7{s:Sem Value}{u:Value}{W:World}(h:s.run P W= .ok u W):(do pure (Next.value (←s)):Sem Next).run P W= .ok (.value u) W:=by simp [h]
theorem a7U{P:Program}{t:Option TypeId}{f:FuncId}{x:V}{obs:List Ob}{v:V}(h:b3f P t f x=some (obs,v)){u:Value}(hd:x.den ρ σ u):obs=[]∧v.den ρ σ (a5s t f u):=by
 unfold b3f at h
 split at h
 ·split at h
  ·simp only[k9,Option.some.injEq,Prod.mk.injEq] at h
   obtain⟨rfl,rfl⟩:=h
   exact⟨rfl,u,⟨hd,trivial⟩,rfl⟩
  ·simp at h
 ·split at h
  ·rename_i l hl
   split at h
   ·simp only[k9,Option.some.injEq,Prod.mk.injEq] at h
    obtain⟨rfl,rfl⟩:=h
    obtain⟨vs,h1,h2⟩:=hd
    exact⟨rfl,vs,a4X hl h1,by rw[h2]⟩
   ·simp at h
  ·simp at h
 ·simp at h
theorem a7S{o:Oper}{g:Operand→V}{ev:Operand→Value}{obs:List Ob}{v:V}(h:a1R P g o.op=some (obs,v))(ho:∀o∈obs,o.ok ρ)
 (hg:∀x∈o.op.operands,(g x).den ρ σ (ev x)) (W:World):∃u,(execOp ev o).run P W= .ok (.value u) W∧v.den ρ σ u:=by
 obtain⟨dst,op,ty,pos,after,guard⟩:=o
 simp only at h hg
 cases op<;>simp only[a1R,Op.operands,reduceCtorEq] at h hg
 case move x=>
  simp only[k9,Option.some.injEq,Prod.mk.injEq] at h
  obtain⟨rfl,rfl⟩:=h
  exact⟨ev x,rfl,hg x (by simp)⟩
 case assign x=>
  simp only[k9,Option.some.injEq,Prod.mk.injEq] at h
  obtain⟨rfl,rfl⟩:=h
  exact⟨ev x,rfl,hg x (by simp)⟩
 case build t parts=>
  simp only[Option.bind_eq_some_iff,Option.map_eq_some_iff,Prod.mk.injEq] at h
  obtain⟨l,hl,cs,hc,rfl,rfl⟩:=h
  have hp:PD ρ σ l (parts.toList.map fun p=>(p.1,ev p.2)):=a1X hl (by simp) (fun k p q h1 h2=>by
   simp only[List.getElem?_map,Option.map_eq_some_iff] at h1 h2
   obtain⟨a,ha,rfl⟩:=h1
   obtain⟨b,hb,rfl⟩:=h2
   rw[ha] at hb
   simp only[Option.some.injEq] at hb
   subst hb
   refine⟨rfl,hg _ ?_⟩
   have:=List.mem_of_getElem? ha
   simp only[List.mem_toArray,List.mem_map]
   exact⟨a,this,rfl⟩)
  obtain⟨ws,h1,h2⟩:=a8E hc hp
  refine⟨.agg ws.toArray,?_,ws,h2,rfl⟩
  refine A7 (run_build W t _ ws.toArray ?_)
  rw[←h1]
  simp
 case nilCheck x=>
  split at h
  ·rename_i v' hm
   simp only[k9,Option.some.injEq,Prod.mk.injEq] at h
   obtain⟨rfl,rfl⟩:=h
   obtain⟨h1,nm,t,u,e,h2⟩:=a3H hm (hg x (by simp))
   refine⟨ev x,?_,h1⟩
   have h3:=h2 (P.types.size+Made.depth-1) W
   rw[show P.types.size+Made.depth-1+1=P.types.size+Made.depth by simp [Made.depth]] at h3
   simp [execOp,e,run_program,h3]
  ·obtain⟨h1,h2⟩:=a4l h (hg x (by simp))
   refine⟨ev x,?_,h1⟩
   rcases h2 with ⟨y,e⟩ | ⟨f,c,e⟩ | ⟨t,u,e⟩<;>simp [execOp,e]
 case binOp o t x y yt=>
  obtain⟨u,h1,h2⟩:=b3a h ho (hg x (by simp)) (hg y (by simp)) x y W
  exact⟨u,A7 h1,h2⟩
 case unOp o t x=>
  obtain⟨u,h1,h2⟩:=b5G h (hg x (by simp)) W
  exact⟨u,A7 h1,h2⟩
 case convert a b x=>
  obtain⟨u,h1,h2⟩:=b0e h (hg x (by simp)) W
  exact⟨u,A7 h1,h2⟩
 case makeInterface t x=>
  obtain⟨u,h1,h2⟩:=a3i h (hg x (by simp)) W
  exact⟨u,A7 h1,h2⟩
 case makeFunc fn first cap=>
  cases fn with
  | func f=>
    simp only at h
    split at h
    ·rename_i hf
     simp only[Option.map_eq_some_iff,Prod.mk.injEq] at h
     obtain⟨l,hl,rfl,rfl⟩:=h
     simp only[Array.isEmpty_iff] at hf
     subst hf
     refine⟨.func (.func f) #[] (cap.map ev),by simp [execOp,Instr.makeFunc],cap.toList.map ev,a7r hl (R4 _ (fun x hx=>hg x (by simpa using hx))),?_⟩
     rw[J6]
    ·split at h
     ·rename_i x hx hc
      have hd:=hg x (by
       have:x∈first.toList:=by rw[hx];simp
       simp;exact .inl (by simpa using this))
      have e1:first.map ev= #[ev x]:=by
       have:first= #[x]:=by rw[←Array.toArray_toList (xs:=first),hx]
       rw[this];simp
      have e2:cap= #[]:=by simpa using hc
      obtain⟨rfl,h2⟩:=a7U h hd
      exact⟨.func (.func f) #[ev x] #[],by simp [execOp,Instr.makeFunc,e1,e2],h2⟩
     ·simp at h
  | method nm=>
    simp only at h
    split at h
    ·rename_i x hx hc
     unfold b9c at h
     split at h
     ·rename_i t b c hgx
      simp only[k9,Option.some.injEq,Prod.mk.injEq] at h
      obtain⟨rfl,rfl⟩:=h
      have hd:=hg x (by
       have:x∈first.toList:=by rw[hx];simp
       simp;exact .inl (by simpa using this))
      rw[hgx] at hd
      have e1:first.map ev= #[ev x]:=by
       have:first= #[x]:=by rw[←Array.toArray_toList (xs:=first),hx]
       rw[this];simp
      have e2:cap= #[]:=by simpa using hc
      exact⟨.func (.method nm) #[ev x] #[],by simp [execOp,Instr.makeFunc,e1,e2],a0R.2 ⟨_,hd,rfl⟩⟩
     ·simp at h
    ·simp at h
  | methodOf t n=>simp at h
  | via t p f b=>
    simp only at h
    split at h
    ·rename_i hc
     simp only[Bool.and_eq_true,Bool.not_eq_true',Array.isEmpty_iff] at hc
     obtain⟨⟨hp,hb⟩,hc⟩:=hc
     subst hp hb hc
     split at h
     ·rename_i x hx
      have hd:=hg x (by
       have:x∈first.toList:=by rw[hx];simp
       simp;exact(by simpa using this))
      have e1:first.map ev= #[ev x]:=by
       have:first= #[x]:=by rw[←Array.toArray_toList (xs:=first),hx]
       rw[this];simp
      obtain⟨rfl,h2⟩:=a7U h hd
      exact⟨.func (.via t #[] f false) #[ev x] #[],by simp [execOp,Instr.makeFunc,e1],h2⟩
     ·simp at h
    ·simp at h
  | yield l=>simp at h
 case slice t x lo hi mx=>
  have ob:∀(q:Option Operand),(∀y,q=some y→(g y).den ρ σ (ev y))→ODen ρ σ (q.map g) (q.map ev):=by
   intro q hq
   cases q with
   | none=>trivial
   | some y=>exact hq y rfl
  obtain⟨u,h1,h2⟩:=a8z h ho (hg x (by simp)) (ob lo (fun y hy=>hg y (by simp [hy]))) (ob hi (fun y hy=>hg y (by simp [hy]))) (ob mx (fun y hy=>hg y (by simp [hy]))) W
  exact⟨u,A7 h1,h2⟩
 case fieldAddr t x f=>
  obtain⟨u,h1,h2⟩:=a3c h (hg x (by simp)) W
  exact⟨u,A7 h1,h2⟩
 case field t x f=>
  obtain⟨u,h1,h2⟩:=a9h h (hg x (by simp)) W
  exact⟨u,A7 h1,h2⟩
 case indexAddr t x i=>
  obtain⟨u,h1,h2⟩:=a3C h ho (hg x (by simp)) (hg i (by simp)) W
  exact⟨u,A7 h1,h2⟩
 case index t x i=>
  obtain⟨u,h1,h2⟩:=a7y h (hg x (by simp)) (hg i (by simp)) W
  exact⟨u,A7 h1,h2⟩
 case typeAssert x xt t ok=>
  obtain⟨u,h1,h2⟩:=a2J (xt:=xt) h (hg x (by simp)) W
  exact⟨u,A7 h1,h2⟩
 case extract x i=>
  have hx:=hg x (by simp)
  split at h
  ·rename_i l hl
   rw[hl] at hx
   simp only[Option.map_eq_some_iff,Prod.mk.injEq] at h
   obtain⟨y,hy,rfl,rfl⟩:=h
   obtain⟨vs,h1,h2⟩:=hx
   obtain⟨u,h3,h4⟩:=h1.get hy
   exact⟨u,A7 (by simp [Instr.extract,h2,h3]),h4⟩
  ·simp at h
 case call c=>
  obtain⟨callee,args,ats⟩:=c
  cases callee with
  | value f=>simp at h
  | invoke r m=>simp at h
  | builtin b=>
    simp only at h
    obtain⟨u,h1,h2⟩:=a5W h (R4 args.toList (fun x hx=>hg x (by simpa [Call.operands] using hx))) ty (args.map fun | .const _=>true | _=>false) W
    refine⟨u,?_,h2⟩
    simp only[execOp,resolve,Sem.run_bind,Sem.run_pure,Result.andThen_ok,invoke]
    rw[←J6] at h1
    exact h1
end
end Go.Proofs.YtbbjlleaofgddaaGreat
