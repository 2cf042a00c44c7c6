/- MC, merged: Ba, Bm, Ca, TCb, Cb, Cc0, TCc, Cc, Cd, Ce0, TCe, Ce, Cf0, TCf, Cf. -/
import Derived.Test.YtbbjlleaofgddaaGreatProg
import Derived.WalkKit
import Derived.WalkSpells
import Derived.WalkLawsBesides
import Derived.Handy
import Derived.Lib.Hide
import Derived.Deep.RegionHeld3
import Derived.Shelf.Bits.Mul64
import Derived.Test.YtbbjlleaofgddaaGreatMK
set_option linter.unusedSimpArgs false
set_option linter.unusedVariables false
namespace Go.Proofs.YtbbjlleaofgddaaGreat
open Go.RowKit
theorem b8K{P:Program}(w:World)(ts:Array TypeId)(t:TypeId)(k k':IntKind)(x y:Int):(Builtin.max_ ts t #[.int k x,.int k' y]).run P w= .ok (.int k (max x y)) w:=by
 rw[run_max_int2];congr 2;split<;>omega
theorem b6z{P:Program}(w:World)(ts:Array TypeId)(t:TypeId)(k k':IntKind)(x y:Int):(Builtin.min_ ts t #[.int k x,.int k' y]).run P w= .ok (.int k (min x y)) w:=by
 rw[run_min_int2];congr 2;split<;>omega
attribute [local go_sem high] b8K b6z
end Go.Proofs.YtbbjlleaofgddaaGreat
namespace Go.Proofs.YtbbjlleaofgddaaGreat
open Go.RowKit
def ct0:Ct:=[]
def pt:Sh:= .agg [.int .i64,.int .i64]
def it:Sh:= .one (.int .i64)
def a5e:TT i8:=
(.ite (.cmp .leq (.mx (.var 0) (.var 1)) (.lit 1000000))
 (.ret ((.v (.one (.z (.bool (.cmp .geq (.mn (.var 0) (.var 1)) (.lit (-1000000))))))),[],1))
 (.ret ((.v (.one (.z (.bool (.lit false))))),[],1)))
set_option maxRecDepth 100000 in
theorem b1A:T.norm 0 (call Tryz.prog ct0 (Lt.of []) 100 126 (i5 0 [pt]) [] 0) TT.ret=a5e:=by kernel_rfl
theorem b0d:a5e.low 1000=true:=by kernel_rfl
def a4U:TT i8:=
(.ite (.cmp .lss (.ar .sub .i64 (.ar .mul .i64 (.ar .sub .i64 (.var 2) (.var 0)) (.ar .sub .i64 (.var 5) (.var 1))) (.ar .mul .i64 (.ar .sub .i64 (.var 3) (.var 1)) (.ar .sub .i64 (.var 4) (.var 0)))) (.lit 0))
 (.ret ((.v (.one (.z (.int .i64 (.lit (-1)))))),[],11))
 (.ite (.cmp .gtr (.ar .sub .i64 (.ar .mul .i64 (.ar .sub .i64 (.var 2) (.var 0)) (.ar .sub .i64 (.var 5) (.var 1))) (.ar .mul .i64 (.ar .sub .i64 (.var 3) (.var 1)) (.ar .sub .i64 (.var 4) (.var 0)))) (.lit 0))
 (.ret ((.v (.one (.z (.int .i64 (.lit 1))))),[],11))
 (.ret ((.v (.one (.z (.int .i64 (.lit 0))))),[],11))))
set_option maxRecDepth 100000 in
theorem b2J:T.norm 0 (call Tryz.prog ct0 (Lt.of []) 100 174 (i5 0 [pt,pt,pt]) [] 0) TT.ret=a4U:=by kernel_rfl
theorem a9E:a4U.low 1000=true:=by kernel_rfl
def a9(ds:List D)(k:Nat):Int:=(ds.getD k (.i 0)).int
def bAt(ds:List D)(k:Nat):Bool:=(ds.getD k (.i 0)).bool
def f8(ds:List D)(k:Nat):Rows:=(ds.getD k (.i 0)).rows
theorem b9U(I:Interp)(W:World)(ds:List D)(k:Nat):(g8 I W ds).i k=a9 ds k:=rfl
theorem b9Z(I:Interp)(W:World)(ds:List D)(k:Nat):(g8 I W ds).b k=bAt ds k:=rfl
theorem a5Q(I:Interp)(W:World)(ds:List D)(k:Nat):(g8 I W ds).d k=f8 ds k:=rfl
theorem c5e(a b:Bool):((a&&b)=false)=¬(a=true∧b=true):=by cases a<;>cases b<;>simp
def lg(r:Rows)(i:Int)(j:Nat):Int:=(o5 r i j).int
def lb(r:Rows)(i:Int)(j:Nat):Bool:=(o5 r i j).bool
def lr(r:Rows)(i:Int)(j:Nat):Rows:=(o5 r i j).rows
theorem c0H(r:Rows)(i:Int)(j:Nat):(o5 r i j).int=lg r i j:=rfl
theorem c1b(r:Rows)(i:Int)(j:Nat):(o5 r i j).bool=lb r i j:=rfl
theorem c0v(r:Rows)(i:Int)(j:Nat):(o5 r i j).rows=lr r i j:=rfl
def v5(o:BinOp)(a b:Int):Prop:=
 match o with
 | .eql=>a=b | .neq=>a≠b | .lss=>a<b | .leq=>a≤b | .gtr=>b<a | .geq=>b≤a | _=>False
theorem Z8(o:BinOp)(a b:Int):(s7 o a b=true)=v5 o a b:=by cases o<;>simp [s7,v5]
theorem c4T(o:BinOp)(a b:Int):(s7 o a b=false)=¬v5 o a b:=by cases o<;>simp [s7,v5]
def b1P:List D→Bool
 | [.i a,.i b,.i c,.i d]=>decide (a*b≤c*d)
 | _=>false
def I0:Interp:= { fi:=fun _ _=>0,fb:=fun n l=>match n with | 0=>b1P l | _=>false,fd:=fun _ _=>[] }
theorem g7:
(∀ {p:Type} {q:Env→p→Prop} {r:Nat→LV→Prop} {t:Env} {u:p},TT.sat (TT.ret u) t q r=q t u)∧
(∀ {p:Type} {q:Env→p→Prop} {r:Nat→LV→Prop} {t:Env} {u:B} {w y:TT p},TT.sat (TT.ite u w y) t q r=((B.ev t u=true→TT.sat w t q r)∧(B.ev t u=false→TT.sat y t q r)))∧
(∀ {p:Type} {q:Env→p→Prop} {r:Nat→LV→Prop} {t:Env} {u:Ob} {w:TT p},TT.sat (TT.ob u w) t q r=(Ob.ok t u∧TT.sat w t q r))∧
(∀ {p:Type} {q:Env→p→Prop} {r:Nat→LV→Prop} {t:Env} {u:Nat} {w:Asg},TT.sat (TT.next u w) t q r=r u (Asg.val t w))∧
(∀ {p:Type} {q:Env→p→Prop} {r:Nat→LV→Prop} {t:Env} {u:String},TT.sat (TT.stuck u) t q r=False)∧
(∀ {p:Env} (q:Nat) (r:LV) (t:Nat),(Env.put p q r).i t=if t<q then p.i t else r.i (t-q))∧
(∀ {p:Env} (q:Nat) (r:LV) (t:Nat),(Env.put p q r).b t=if t<q then p.b t else r.b (t-q))∧
(∀ {p:Env} (q:Nat) (r:LV) (t:Nat),(Env.put p q r).d t=if t<q then p.d t else r.d (t-q))∧
(∀ {p:Env} (q:Nat) (r:LV),(Env.put p q r).fi=p.fi)∧
(∀ {p:Env} (q:Nat) (r:LV),(Env.put p q r).fb=p.fb)∧
(∀ {p:Env} (q:Nat) (r:LV),(Env.put p q r).fd=p.fd)∧
(∀(p:Env) (q:B),Ob.ok p (Ob.tru q)=(B.ev p q=true))∧
(∀(p:Env) (q:Bool),B.ev p (B.lit q)=q)∧
(∀(p:Env) (q:Nat),B.ev p (B.var q)=p.b q)∧
(∀(p:Env) (q:BinOp) (r t:E),B.ev p (B.cmp q r t)=s7 q (E.ev p r) (E.ev p t))∧
(∀(p:Env) (q:B),B.ev p (B.not q)= !B.ev p q)∧
(∀(p:Env) (q r:B),B.ev p (B.eqb q r)=(B.ev p q == B.ev p r))∧
(∀(p:Env) (q r:B),B.ev p (B.and q r)=(B.ev p q&&B.ev p r))∧
(∀(p:Env) (q:Nat) (r:AL),B.ev p (B.fn q r)=p.fb q (AL.ev p r))∧
(∀(p:Env) (q:X) (r:E) (t:Nat),B.ev p (B.rd q r t)=D.bool (o5 (X.ev p q) (E.ev p r) t))∧
(∀(p:Env) (q:Int),E.ev p (E.lit q)=q)∧
(∀(p:Env) (q:Nat),E.ev p (E.var q)=p.i q)∧
(∀(p:Env) (q:BinOp) (r:IntKind) (t u:E),E.ev p (E.ar q r t u)=u4 q r (E.ev p t) (E.ev p u))∧
(∀(p:Env) (q:IntKind) (r:E),E.ev p (E.wr q r)=IntKind.wrap q (E.ev p r))∧
(∀(p:Env) (q r:E),E.ev p (E.mx q r)=max (E.ev p q) (E.ev p r))∧
(∀(p:Env) (q r:E),E.ev p (E.mn q r)=min (E.ev p q) (E.ev p r))∧
(∀(p:Env) (q:Nat) (r:AL),E.ev p (E.fn q r)=p.fi q (AL.ev p r))∧
(∀(p:Env) (q:X),E.ev p (E.len q)=(↑(List.length (X.ev p q)):Int))∧
(∀(p:Env) (q:X) (r:E) (t:Nat),E.ev p (E.rd q r t)=D.int (o5 (X.ev p q) (E.ev p r) t))∧
(∀(p:Env) (q r:E),E.ev p (E.plus q r)=E.ev p q+E.ev p r)∧
(∀(p:Env) (q:Nat),X.ev p (X.var q)=p.d q)∧
(∀(p:Env),X.ev p X.nil=[])∧
(∀(p:Env) (q:X) (r:E) (t:Nat),X.ev p (X.rd q r t)=D.rows (o5 (X.ev p q) (E.ev p r) t))∧
(∀(p:Env) (q:X) (r t:E),X.ev p (X.sub q r t)=k5 (X.ev p q) (E.ev p r) (E.ev p t))∧
(∀(p:Env) (q r:X),X.ev p (X.app q r)=X.ev p q++X.ev p r)∧
(∀(p:Env) (q:AL),X.ev p (X.row q)=[AL.ev p q])∧
(∀(p:Env) (q:X) (r:E) (t:Nat) (u:AL),X.ev p (X.upd q r t u)=z9 (X.ev p q) (E.ev p r) t (AL.ev p u))∧
(∀(p:Env) (q:Nat) (r:AL),X.ev p (X.fn q r)=p.fd q (AL.ev p r))∧
(∀(p:Env) (q:E) (r:AL),X.ev p (X.rep q r)=List.replicate (Int.toNat (E.ev p q)) (AL.ev p r))∧
(∀(p:Env),AL.ev p AL.nil=[])∧
(∀(p:Env) (q:E) (r:AL),AL.ev p (AL.i q r)=D.i (E.ev p q)::AL.ev p r)∧
(∀(p:Env) (q:B) (r:AL),AL.ev p (AL.b q r)=D.b (B.ev p q)::AL.ev p r)∧
(∀(p:Env) (q:X) (r:AL),AL.ev p (AL.x q r)=D.l (X.ev p q)::AL.ev p r)∧
(∀(p:BinOp) (q r:Int),(s7 p q r=true)=v5 p q r)∧
(∀(p:BinOp) (q r:Int),(s7 p q r=false)=¬v5 p q r)∧
(∀(p:IntKind) (q r:Int),u4 BinOp.add p q r=IntKind.wrap p (q+r))∧
(∀(p:IntKind) (q r:Int),u4 BinOp.sub p q r=IntKind.wrap p (q-r))∧
(∀(p:IntKind) (q r:Int),u4 BinOp.mul p q r=IntKind.wrap p (q*r))∧
(∀(p:IntKind) (q r:Int),u4 BinOp.quo p q r=IntKind.wrap p (Int.tdiv q r))∧
(∀(p:IntKind) (q r:Int),u4 BinOp.rem p q r=Int.tmod q r)∧
(∀(p:IntKind) (q r:Int),u4 BinOp.shr p q r=Int.fdiv q (2^min (Int.toNat r) (IntKind.bits p)))∧
(∀(p:IntKind) (q r:Int),u4 BinOp.shl p q r=IntKind.wrap p (q*2^min (Int.toNat r) (IntKind.bits p)))∧
(∀(p:IntKind) (q r:Int),u4 BinOp.and p q r=B4 BinOp.and p q r)∧
(∀(p:IntKind) (q r:Int),u4 BinOp.or p q r=B4 BinOp.or p q r)∧
(∀(p:IntKind) (q r:Int),u4 BinOp.xor p q r=B4 BinOp.xor p q r)∧
(∀(p:IntKind) (q r:Int),u4 BinOp.andNot p q r=B4 BinOp.andNot p q r)∧
(∀(p:BinOp) (q:IntKind) (r t:Int),(p=BinOp.add→False)→(p=BinOp.sub→False)→(p=BinOp.mul→False)→(p=BinOp.quo→False)→(p=BinOp.rem→False)→(p=BinOp.shr→False)→(p=BinOp.shl→False)→(p=BinOp.and→False)→(p=BinOp.or→False)→(p=BinOp.xor→False)→(p=BinOp.andNot→False)→u4 p q r t=0)∧
(∀(p:V2),V.plain (V.v p)=V2.plain p)∧
(∀(p:List V2),V.plain (V.tup p)=List.all p V2.plain)∧
(∀(p:S),V2.plain (V2.one p)=S.plain p)∧
(∀(p:List S),V2.plain (V2.agg p)=List.all p S.plain)∧
(∀(p:S0),S.plain (S.z p)=S0.plain p)∧
(∀(p:S),(∀(s:S0),p=S.z s→False)→S.plain p=false)∧
(∀(p:B),S0.plain (S0.bool p)=true)∧
(∀(p:IntKind) (q:E),S0.plain (S0.int p q)=true)∧
(∀(p:Value),S0.plain (S0.const p)=true)∧
(∀(p:S0),(∀(b:B),p=S0.bool b→False)→(∀(k:IntKind) (e:E),p=S0.int k e→False)→(∀(v:Value),p=S0.const v→False)→S0.plain p=false)∧
(∀(p:Env) (q:V2),V.val p (V.v q)=V2.val p q)∧
(∀(p:Env) (q:List V2),V.val p (V.tup q)=Value.tuple (List.toArray (List.map (V2.val p) q)))∧
(∀(p:Env) (q:S),V2.val p (V2.one q)=S.val p q)∧
(∀(p:Env) (q:List S),V2.val p (V2.agg q)=Value.agg (List.toArray (List.map (S.val p) q)))∧
(∀(p:Env) (q:S0),S.val p (S.z q)=S0.val p q)∧
(∀(p:Env) (q:S),(∀(s:S0),q=S.z s→False)→S.val p q=undef)∧
(∀(p:Env) (q:B),S0.val p (S0.bool q)=Value.bool (B.ev p q))∧
(∀(p:Env) (q:IntKind) (r:E),S0.val p (S0.int q r)=Value.int q (E.ev p r))∧
(∀(p:Env) (q:Value),S0.val p (S0.const q)=q)∧
(∀(p:Env) (q:S0),(∀(b:B),q=S0.bool b→False)→(∀(k:IntKind) (e:E),q=S0.int k e→False)→(∀(v:Value),q=S0.const v→False)→S0.val p q=undef)∧
(∀(p:B),bV p=V.s0 (S0.bool p))∧
(∀(p:IntKind) (q:E),iV p q=V.s0 (S0.int p q))∧
(∀ {p:Type} {q:p} {r:List p} {t:p→Bool},List.all (q::r) t=(t q&&List.all r t))∧
(∀ {p:Type} {q:p→Bool},List.all [] q=true)∧
(∀(p:Bool),(p&&true)=p)∧
(∀(p:Bool),(p&&p)=p)∧
(∀(p:Interp) (q:World) (r:List D) (t:Nat),(g8 p q r).i t=a9 r t)∧
(∀(p:Interp) (q:World) (r:List D) (t:Nat),(g8 p q r).b t=bAt r t)∧
(∀(p:Interp) (q:World) (r:List D) (t:Nat),(g8 p q r).d t=f8 r t)∧
(∀ {p q:Type} {r:p→q} {t:p} {u:List p},List.map r (t::u)=r t::List.map r u)∧
(∀ {p q:Type} {r:p→q},List.map r []=[])∧
(∀(p:Prop),(True∧p)=p)∧
(∀(p:Bool),((!p)=true)=(p=false))∧
(∀(p:Bool),((!p)=false)=(p=true))∧
(∀(p:Bool),(!!p)=p)∧
(∀(p q:Bool),((p&&q)=true)=(p=true∧q=true))∧
(∀(p q:Bool),((p&&q)=false)=¬(p=true∧q=true))∧
(∀(p:Go.Proofs.YtbbjlleaofgddaaGreat.Rows) (q:Int) (r:Nat),D.int (o5 p q r)=lg p q r)∧
(∀(p:Go.Proofs.YtbbjlleaofgddaaGreat.Rows) (q:Int) (r:Nat),D.bool (o5 p q r)=lb p q r)∧
(∀(p:Go.Proofs.YtbbjlleaofgddaaGreat.Rows) (q:Int) (r:Nat),D.rows (o5 p q r)=lr p q r)∧
(∀(p q:Int),v5 BinOp.eql p q=(p=q))∧
(∀(p q:Int),v5 BinOp.neq p q=(p≠q))∧
(∀(p q:Int),v5 BinOp.lss p q=(p<q))∧
(∀(p q:Int),v5 BinOp.leq p q=(p≤q))∧
(∀(p q:Int),v5 BinOp.gtr p q=(q<p))∧
(∀(p q:Int),v5 BinOp.geq p q=(q≤p))∧
(∀(p:BinOp) (q r:Int),(p=BinOp.eql→False)→(p=BinOp.neq→False)→(p=BinOp.lss→False)→(p=BinOp.leq→False)→(p=BinOp.gtr→False)→(p=BinOp.geq→False)→v5 p q r=False)∧
(∀ {p:Env} (q:Asg) (r:Nat),(Asg.val p q).i r=match j6 q.i r with | some e=>E.ev p e | none=>0)∧
(∀ {p:Env} (q:Asg) (r:Nat),(Asg.val p q).b r=match j6 q.b r with | some e=>B.ev p e | none=>false)∧
(∀ {p:Env} (q:Asg) (r:Nat),(Asg.val p q).d r=match j6 q.d r with | some e=>X.ev p e | none=>[])∧
(∀ {p:Type} (q:Nat),j6 ([]:List (Nat×p)) q=none)∧
(∀ {p:Type} (q r:Nat) (t:p) (u:List (Nat×p)),j6 ((r,t)::u) q=if (r == q)=true then some t else j6 u q)∧
(∀ {p:Type} [q:BEq p] [r:ReflBEq p] (t:p),(t == t)=true)∧
((false=true)=False)∧
(∀ {p:Type} {q:Decidable True} (r t:p),(if True then r else t)=r)∧
(∀ {p:Type} {q:Decidable False} (r t:p),(if False then r else t)=t)∧
(∀(p:Nat),p-p=0)∧
(∀(p:Nat),¬p<p):=
⟨TT.sat_ret,TT.sat_ite,TT.sat_ob,TT.sat_next,TT.sat_stuck,c5s,c4v,p7,c3b,c3m,c1o,Ob.ok.eq_1,B.ev.eq_1,B.ev.eq_2,B.ev.eq_3,B.ev.eq_4,B.ev.eq_5,B.ev.eq_6,B.ev.eq_7,B.ev.eq_8,E.ev.eq_1,E.ev.eq_2,E.ev.eq_3,E.ev.eq_4,E.ev.eq_5,E.ev.eq_6,E.ev.eq_7,E.ev.eq_8,E.ev.eq_9,E.ev.eq_10,X.ev.eq_1,X.ev.eq_2,X.ev.eq_3,X.ev.eq_4,X.ev.eq_5,X.ev.eq_6,X.ev.eq_7,X.ev.eq_8,X.ev.eq_9,AL.ev.eq_1,AL.ev.eq_2,AL.ev.eq_3,AL.ev.eq_4,Z8,c4T,u4.eq_1,u4.eq_2,u4.eq_3,u4.eq_4,u4.eq_5,u4.eq_6,u4.eq_7,u4.eq_8,u4.eq_9,u4.eq_10,u4.eq_11,u4.eq_12,V.plain.eq_1,V.plain.eq_2,V2.plain.eq_1,V2.plain.eq_2,S.plain.eq_1,S.plain.eq_2,S0.plain.eq_1,S0.plain.eq_2,S0.plain.eq_3,S0.plain.eq_4,V.val.eq_1,V.val.eq_2,V2.val.eq_1,V2.val.eq_2,S.val.eq_1,S.val.eq_2,S0.val.eq_1,S0.val.eq_2,S0.val.eq_3,S0.val.eq_4,bV.eq_1,iV.eq_1,List.all_cons,List.all_nil,Bool.and_true,Bool.and_self,b9U,b9Z,a5Q,List.map_cons,List.map_nil,true_and,Bool.not_eq_true',Bool.not_eq_false',Bool.not_not,Bool.and_eq_true,c5e,c0H,c1b,c0v,v5.eq_1,v5.eq_2,v5.eq_3,v5.eq_4,v5.eq_5,v5.eq_6,v5.eq_7,o6,c5b,Y8,j6.eq_1,j6.eq_2,beq_self_eq_true,Bool.false_eq_true,if_true,if_false,Nat.sub_self,Nat.lt_irrefl⟩
def j8(x y:Int):Bool:=decide (-1000000≤x∧x≤1000000∧ -1000000≤y∧y≤1000000)
theorem b5e{ρ:Env}(h:ρ.has I0):CtOk Tryz.prog ρ ct0:= .nil
theorem b5K:k8 Tryz.prog 126 [pt] (fun ds=> .bool (j8 (a9 ds 0) (a9 ds 1))):=by
 refine GivesIf.all (i6 I0 (by kernel_rfl) (fun ρ h=>b5e h) (by kernel_rfl) b1A b0d (by decide) (fun W vals ds _ _=> ?_))
 simp only[a5e,g7,Nat.reduceBEq,Nat.reduceLT,Nat.reduceSub]
 refine⟨fun h=>congrArg Value.bool ?_,fun h=>congrArg Value.bool ?_⟩
 ·rw[Bool.eq_iff_iff,Z8]
  simp only[v5,j8,decide_eq_true_eq]
  omega
 ·rw[Bool.eq_iff_iff]
  simp only[j8,decide_eq_true_eq,Bool.false_eq_true,false_iff]
  omega
def a3T(ax ay bx by' cx cy:Int):Int:=(bx-ax)*(cy-ay)-(by'-ay)*(cx-ax)
def sgn(n:Int):Int:=if n<0 then -1 else if n>0 then 1 else 0
def F6(ax ay bx by' cx cy:Int):Int:=sgn (a3T ax ay bx by' cx cy)
theorem f9(n:Int)(h1: -9223372036854775808≤n)(h2:n<9223372036854775808):IntKind.i64.wrap n=n:=IntWalk.i64_in _ (by omega)
theorem b1b{a b A B:Int}(ha: -A≤a)(ha':a≤A)(hb: -B≤b)(hb':b≤B): -(A*B)≤a*b∧a*b≤A*B:=by
 have hA:0≤A:=by omega
 have hB:0≤B:=by omega
 have h1:0≤(A-a)*(B+b):=Int.mul_nonneg (by omega) (by omega)
 have h2:0≤(A+a)*(B-b):=Int.mul_nonneg (by omega) (by omega)
 have h3:0≤(A-a)*(B-b):=Int.mul_nonneg (by omega) (by omega)
 have h4:0≤(A+a)*(B+b):=Int.mul_nonneg (by omega) (by omega)
 simp only[Int.sub_mul,Int.add_mul,Int.mul_sub,Int.mul_add] at h1 h2 h3 h4
 omega
theorem a7a{a b:Int}(ha: -1000000≤a∧a≤1000000)(hb: -1000000≤b∧b≤1000000):IntKind.i64.wrap (a-b)=a-b:=f9 _ (by omega) (by omega)
theorem a2l{a b c d:Int}(ha: -1000000≤a∧a≤1000000)(hb: -1000000≤b∧b≤1000000)(hc: -1000000≤c∧c≤1000000)(hd: -1000000≤d∧d≤1000000):
 IntKind.i64.wrap ((a-b)*(c-d))=(a-b)*(c-d)∧ -4000000000000≤(a-b)*(c-d)∧(a-b)*(c-d)≤4000000000000:=by
 have:=b1b (a:=a-b) (b:=c-d) (A:=2000000) (B:=2000000) (by omega) (by omega) (by omega) (by omega)
 exact⟨f9 _ (by omega) (by omega),by omega,by omega⟩
def c3n(ax ay bx by' cx cy:Int):Int:=(bx-ax)*(cx-ax)+(by'-ay)*(cy-ay)
def a2w(ax ay bx by':Int):Int:=(bx-ax)*(bx-ax)+(by'-ay)*(by'-ay)
def a4r(px py ax ay bx by' d:Int):Bool:=
 if c3n ax ay bx by' px py≤0 then decide (a2w ax ay px py≤d*d)
 else if a2w ax ay bx by'≤c3n ax ay bx by' px py then decide (a2w bx by' px py≤d*d)
 else decide (a3T ax ay bx by' px py*a3T ax ay bx by' px py≤d*d*a2w ax ay bx by')
def six(ds:List D):Prop:=(-1000000≤a9 ds 0∧a9 ds 0≤1000000)∧(-1000000≤a9 ds 1∧a9 ds 1≤1000000)∧(-1000000≤a9 ds 2∧a9 ds 2≤1000000)∧(-1000000≤a9 ds 3∧a9 ds 3≤1000000)∧(-1000000≤a9 ds 4∧a9 ds 4≤1000000)∧(-1000000≤a9 ds 5∧a9 ds 5≤1000000)
theorem b4c:GivesIf Tryz.prog 174 [pt,pt,pt] six (fun ds=> .int .i64 (F6 (a9 ds 0) (a9 ds 1) (a9 ds 2) (a9 ds 3) (a9 ds 4) (a9 ds 5))):=by
 refine i6 I0 (by kernel_rfl) (fun ρ h=>b5e h) (by kernel_rfl) b2J a9E (by decide) (fun W vals ds _ hok=> ?_)
 obtain⟨h0,h1,h2,h3,h4,h5⟩:=hok
 simp only[a4U,g7,Nat.reduceBEq,Nat.reduceLT,Nat.reduceSub]
 rw[a7a h2 h0,a7a h5 h1,a7a h3 h1,a7a h4 h0,(a2l h2 h0 h5 h1).1,(a2l h3 h1 h4 h0).1,f9 _ (by have:=a2l h2 h0 h5 h1;have:=a2l h3 h1 h4 h0;omega) (by have:=a2l h2 h0 h5 h1;have:=a2l h3 h1 h4 h0;omega)]
 refine⟨fun h=> ?_,fun h=>⟨fun h'=> ?_,fun h'=> ?_⟩⟩
 all_goals
  simp only[F6,sgn,a3T]
  congr 1
  (repeat' split)<;>omega
def y9(ds:List D):Bool:=j8 (a9 ds 0) (a9 ds 1)&&j8 (a9 ds 2) (a9 ds 3)&&j8 (a9 ds 4) (a9 ds 5)
def D9(ds:List D):Int:=F6 (a9 ds 0) (a9 ds 1) (a9 ds 2) (a9 ds 3) (a9 ds 4) (a9 ds 5)
def b2U(ds:List D):Bool:=a4r (a9 ds 0) (a9 ds 1) (a9 ds 2) (a9 ds 3) (a9 ds 4) (a9 ds 5) (a9 ds 6)
def z7(ds:List D):Bool:=j8 (a9 ds 0) (a9 ds 1)
def I1:Interp:= { fi:=fun n l=>match n with | 0=>D9 l | _=>0,fb:=fun n l=>match n with | 0=>b1P l | 1=>y9 l | 2=>b2U l | 3=>z7 l | _=>false,fd:=fun _ _=>[] }
def c3U(al:AL):T V:= .ob (.tru (.fn 1 al)) (.ret (iV .i64 (.fn 0 al)))
def b4S:=o9 [pt,pt,pt] c3U
def b5p:=o9 [pt] fun al=> .ret (bV (.fn 3 al))
theorem a0V{x y:Int}:j8 x y=true↔(-1000000≤x∧x≤1000000)∧ -1000000≤y∧y≤1000000:=by simp only[j8,decide_eq_true_eq];omega
theorem b6s{ds:List D}(h:y9 ds=true):six ds:=by
 simp only[y9,Bool.and_eq_true,a0V] at h
 exact⟨h.1.1.1,h.1.1.2,h.1.2.1,h.1.2.2,h.2.1,h.2.2⟩
theorem b6y{ρ:Env}(h1:∀l,ρ.fb 1 l=y9 l)(h0:∀l,ρ.fi 0 l=D9 l):i4 Tryz.prog ρ 174 b4S:=by
 refine a0t b4c (fun al v hv=> ?_)
 obtain⟨ho,hv⟩:=hv
 obtain rfl:=g9 hv
 have ho:ρ.fb 1 (al.ev ρ)=true:=by simpa only[Ob.ok,B.ev] using ho
 rw[h1] at ho
 refine⟨rfl,b6s ho,?_⟩
 simp only[iV,V.s0,V.val,V2.val,S.val,S0.val,E.ev,h0,D9]
theorem b4R{ρ:Env}(h:∀l,ρ.fb 3 l=z7 l):i4 Tryz.prog ρ 126 b5p:=
 j4 b5K (fun _=>rfl) (fun al=>by simp only[bV,V.s0,V.val,V2.val,S.val,S0.val,B.ev,h,z7])
def ct1:Ct:=[(174,b4S),(126,b5p)]
def lt1:Lt:=Lt.of [(173,0)]
theorem b5A{ρ:Env}(h:ρ.has I1):CtOk Tryz.prog ρ ct1:=
 .cons (b6y (fun l=>by rw[h.2.1];rfl) (fun l=>by rw[h.1];rfl))<| .cons (b4R (fun l=>by rw[h.2.1];rfl)) .nil
def a8Y:TT i8:=
(.ite (.not (.fn 3 (.i (.var 0) (.i (.var 1) .nil))))
 (.ret ((.tup [(.one (.z (.int .i64 (.lit 0)))),(.one (.z (.int .i64 (.lit 1))))]),[],5))
 (.ite (.not (.fn 3 (.i (.var 2) (.i (.var 3) .nil))))
 (.ret ((.tup [(.one (.z (.int .i64 (.lit 0)))),(.one (.z (.int .i64 (.lit 1))))]),[],6))
 (.ite (.not (.fn 3 (.i (.var 4) (.i (.var 5) .nil))))
 (.ret ((.tup [(.one (.z (.int .i64 (.lit 0)))),(.one (.z (.int .i64 (.lit 1))))]),[],7))
 (.ob (.tru (.fn 1 (.i (.var 0) (.i (.var 1) (.i (.var 2) (.i (.var 3) (.i (.var 4) (.i (.var 5) .nil))))))))
 (.ret ((.tup [(.one (.z (.int .i64 (.fn 0 (.i (.var 0) (.i (.var 1) (.i (.var 2) (.i (.var 3) (.i (.var 4) (.i (.var 5) .nil)))))))))),(.one (.z (.int .i64 (.lit 0))))]),[],7))))))
set_option maxRecDepth 100000 in
theorem b3Q:T.norm 0 (call Tryz.prog ct1 lt1 100 161 (i5 0 [pt,pt,pt]) [] 0) TT.ret=a8Y:=by kernel_rfl
theorem b1R:a8Y.low 1000=true:=by kernel_rfl
def b3r:TT i8:=
(.ob (.tru (.fn 1 (.i (.var 2) (.i (.var 3) (.i (.var 4) (.i (.var 5) (.i (.var 0) (.i (.var 1) .nil))))))))
(.ite (.cmp .eql (.fn 0 (.i (.var 2) (.i (.var 3) (.i (.var 4) (.i (.var 5) (.i (.var 0) (.i (.var 1) .nil))))))) (.lit 0))
 (.ite (.cmp .leq (.mn (.var 2) (.var 4)) (.var 0))
 (.ite (.cmp .leq (.var 0) (.mx (.var 2) (.var 4)))
 (.ite (.cmp .leq (.mn (.var 3) (.var 5)) (.var 1))
 (.ret ((.v (.one (.z (.bool (.cmp .leq (.var 1) (.mx (.var 3) (.var 5))))))),[],3))
 (.ret ((.v (.one (.z (.bool (.lit false))))),[],3)))
 (.ret ((.v (.one (.z (.bool (.lit false))))),[],3)))
 (.ret ((.v (.one (.z (.bool (.lit false))))),[],3)))
 (.ret ((.v (.one (.z (.bool (.lit false))))),[],3))))
set_option maxRecDepth 100000 in
theorem b8I:T.norm 0 (call Tryz.prog ct1 lt1 100 182 (i5 0 [pt,pt,pt]) [] 0) TT.ret=b3r:=by kernel_rfl
theorem b5V:b3r.low 1000=true:=by kernel_rfl
theorem b8P(W:World)(ds l:List D):(g8 I1 W ds).fb 3 l=z7 l:=rfl
theorem b8V(W:World)(ds l:List D):(g8 I1 W ds).fb 1 l=y9 l:=rfl
theorem b9K(W:World)(ds l:List D):(g8 I1 W ds).fi 0 l=D9 l:=rfl
theorem a4D(a b:Int):z7 [.i a,.i b]=j8 a b:=rfl
theorem a2z(a b c d e f:Int):y9 [.i a,.i b,.i c,.i d,.i e,.i f]=(j8 a b&&j8 c d&&j8 e f):=rfl
theorem a3v(a b c d e f:Int):D9 [.i a,.i b,.i c,.i d,.i e,.i f]=F6 a b c d e f:=rfl
def a7l(ds:List D):Value:=if y9 ds then .tuple #[.int .i64 (D9 ds),.int .i64 0] else .tuple #[.int .i64 0,.int .i64 1]
theorem b9w:k8 Tryz.prog 161 [pt,pt,pt] a7l:=by
 refine GivesIf.all (i6 I1 (by kernel_rfl) (fun ρ h=>b5A h) (by kernel_rfl) b3Q b1R (by decide) (fun W vals ds _ _=> ?_))
 simp only[a8Y,g7,Nat.reduceBEq,Nat.reduceLT,Nat.reduceSub,b8P,b8V,b9K,a4D,a2z,a3v]
 simp only[a7l,y9,D9]
 refine⟨fun h=> ?_,fun h=>⟨fun h'=> ?_,fun h'=>⟨fun h''=> ?_,fun h''=> ?_⟩⟩⟩<;>simp [*]
def onB(px py ax ay bx by':Int):Bool:=decide (F6 ax ay bx by' px py=0∧min ax bx≤px∧px≤max ax bx∧min ay by'≤py∧py≤max ay by')
def onL(ds:List D):Bool:=onB (a9 ds 0) (a9 ds 1) (a9 ds 2) (a9 ds 3) (a9 ds 4) (a9 ds 5)
theorem c6e:GivesIf Tryz.prog 182 [pt,pt,pt] (fun ds=>y9 ds=true) (fun ds=> .bool (onL ds)):=by
 refine i6 I1 (by kernel_rfl) (fun ρ h=>b5A h) (by kernel_rfl) b8I b5V (by decide) (fun W vals ds _ hok=> ?_)
 simp only[y9,Bool.and_eq_true] at hok
 simp only[b3r,g7,Nat.reduceBEq,Nat.reduceLT,Nat.reduceSub,b8P,b8V,b9K,a2z,a3v]
 simp only[onL,onB,hok,and_self,Value.bool.injEq,true_and]
 refine⟨fun h=>⟨fun h1=>⟨fun h2=>⟨fun h3=> ?_,fun h3=> ?_⟩,fun h2=> ?_⟩,fun h1=> ?_⟩,fun h=> ?_⟩
 all_goals first
  | (rw[Bool.eq_iff_iff,Z8];simp only[v5,decide_eq_true_eq];omega)
  | (rw[Bool.eq_iff_iff];simp only[decide_eq_true_eq,Bool.false_eq_true,false_iff];omega)
def c1f(ok:Bool)(b:Bool):Value:= .tuple #[.bool (ok&&b),.int .i64 (if ok then 0 else 1)]
def b9h(d:Int):Bool:=decide (0≤d∧d≤3000000)
def b9d:Nat→Int→Int→Int
 | 0,r,_=>r
 | k+1,r,n=>b9d k (if (r+((2^k:Nat):Int))*(r+((2^k:Nat):Int))≤n then r+((2^k:Nat):Int) else r) n
def c5z(n:Int):Int:=b9d 23 0 n
def a1T(ax ay bx by':Int):Int:=c5z (a2w ax ay bx by')
def c2n(ax ay bx by':Int):Int:=if a1T ax ay bx by'*a1T ax ay bx by'=a2w ax ay bx by' then a1T ax ay bx by' else a1T ax ay bx by'+1
def b3y(ds:List D):Bool:=j8 (a9 ds 0) (a9 ds 1)&&j8 (a9 ds 2) (a9 ds 3)
def b4P(ds:List D):Int:=if b3y ds then a1T (a9 ds 0) (a9 ds 1) (a9 ds 2) (a9 ds 3) else 0
def b5B(ds:List D):Int:=if b3y ds then c2n (a9 ds 0) (a9 ds 1) (a9 ds 2) (a9 ds 3) else 0
def c4a(ds:List D):Int:=if b3y ds then 0 else 1
def c6S(r:Rows)(i:Int):Bool:=j8 (lg r i 0) (lg r i 1)&&j8 (lg r i 2) (lg r i 3)&&decide (¬(lg r i 0=lg r i 2∧lg r i 1=lg r i 3)∧1≤lg r i 4∧lg r i 4≤lg r i 5∧lg r i 5≤2000)
def a7z(r:Rows):Nat→Nat→Int→Int→Bool
 | 0,_,_,_=>true
 | f+1,i,x,y=>c6S r i&&decide (lg r i 0=x∧lg r i 1=y)&&a7z r f (i+1) (lg r i 2) (lg r i 3)
def T0(t:Int):Bool:=decide (0≤t∧t≤10000000)
def a3s(lo hi off:Int)(r:Rows):Bool:=T0 lo&&T0 hi&&decide (lo≤hi∧0≤off∧off≤100000∧1≤r.length∧r.length≤40)&&a7z r r.length 0 (lg r 0 0) (lg r 0 1)
def c6k(ds:List D):Bool:=a3s (a9 ds 0) (a9 ds 1) (a9 ds 2) (f8 ds 3)
def dl(r:Rows)(i:Int):List D:=[.i (lg r i 0),.i (lg r i 1),.i (lg r i 2),.i (lg r i 3)]
def c4g(r:Rows)(i:Int):Int:=(b4P (dl r i)).tdiv (lg r i 5)
def c4h(r:Rows)(i:Int):Int:=(b5B (dl r i)+lg r i 4-1).tdiv (lg r i 4)
def tLo(r:Rows)(lo:Int):Nat→Int | 0=>lo | k+1=>tLo r lo k+c4g r k
def tHi(r:Rows)(hi:Int):Nat→Int | 0=>hi | k+1=>tHi r hi k+c4h r k
def b9v(r:Rows)(hi t:Int):Nat→Nat→Int×Int
 | 0,k=>(k,0)
 | f+1,k=>if 10000000<tHi r hi (k+1) then(0,3) else if t≤tHi r hi (k+1) then(k,0) else b9v r hi t f (k+1)
def b9x(ds:List D):Int×Int:=if a3s (a9 ds 0) (a9 ds 1) (a9 ds 2) (f8 ds 3)∧T0 (a9 ds 4) then b9v (f8 ds 3) (a9 ds 1) (a9 ds 4) (f8 ds 3).length 0 else(0,1)
end Go.Proofs.YtbbjlleaofgddaaGreat
