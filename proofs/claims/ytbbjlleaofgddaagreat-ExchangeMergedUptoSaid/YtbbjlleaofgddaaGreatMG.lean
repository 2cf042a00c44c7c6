/- MG, merged: TCv, Cv, TCw, Cw, TCx, Cx, TCy, Cy, TCz, Cz. -/
import Derived.Test.YtbbjlleaofgddaaGreatMF
set_option linter.unusedSimpArgs false
set_option linter.unusedVariables false
namespace Go.Proofs.YtbbjlleaofgddaaGreat
open Go.RowKit
def X8:Sh:= .agg [.int .i64,.int .i64]
def a5F:List CK:=[.int .i64,.int .i64,.int .i64,.int .i64,.int .i64,.int .i64]
def sec:Sh:= .agg a5F
def a1N:TT i8:=
(.ite (.cmp .gtr (.var 1) (.lit 0))
 (.ite (.cmp .gtr (.var 3) (.lit 0))
 (.ite (.cmp .gtr (.ar .sub .i64 (.ar .mul .i64 (.var 0) (.var 3)) (.ar .mul .i64 (.var 1) (.var 2))) (.lit 0))
 (.ret ((.v (.one (.z (.int .i64 (.lit (-1)))))),[],6))
 (.ite (.cmp .lss (.ar .sub .i64 (.ar .mul .i64 (.var 0) (.var 3)) (.ar .mul .i64 (.var 1) (.var 2))) (.lit 0))
 (.ret ((.v (.one (.z (.int .i64 (.lit 1))))),[],8))
 (.ret ((.v (.one (.z (.int .i64 (.lit 0))))),[],8))))
 (.ite (.cmp .eql (.var 3) (.lit 0))
 (.ite (.not (.cmp .gtr (.var 2) (.lit 0)))
 (.ite (.cmp .gtr (.var 1) (.lit 0))
 (.ret ((.v (.one (.z (.int .i64 (.lit (-1)))))),[],5))
 (.ite (.cmp .eql (.var 1) (.lit 0))
 (.ite (.cmp .gtr (.var 0) (.lit 0))
 (.ret ((.v (.one (.z (.int .i64 (.lit (-1)))))),[],5))
 (.ret ((.v (.one (.z (.int .i64 (.lit 1))))),[],5)))
 (.ret ((.v (.one (.z (.int .i64 (.lit 1))))),[],5))))
 (.ite (.cmp .gtr (.ar .sub .i64 (.ar .mul .i64 (.var 0) (.var 3)) (.ar .mul .i64 (.var 1) (.var 2))) (.lit 0))
 (.ret ((.v (.one (.z (.int .i64 (.lit (-1)))))),[],6))
 (.ite (.cmp .lss (.ar .sub .i64 (.ar .mul .i64 (.var 0) (.var 3)) (.ar .mul .i64 (.var 1) (.var 2))) (.lit 0))
 (.ret ((.v (.one (.z (.int .i64 (.lit 1))))),[],8))
 (.ret ((.v (.one (.z (.int .i64 (.lit 0))))),[],8)))))
 (.ite (.cmp .gtr (.var 1) (.lit 0))
 (.ret ((.v (.one (.z (.int .i64 (.lit (-1)))))),[],5))
 (.ite (.cmp .eql (.var 1) (.lit 0))
 (.ite (.cmp .gtr (.var 0) (.lit 0))
 (.ret ((.v (.one (.z (.int .i64 (.lit (-1)))))),[],5))
 (.ret ((.v (.one (.z (.int .i64 (.lit 1))))),[],5)))
 (.ret ((.v (.one (.z (.int .i64 (.lit 1))))),[],5))))))
 (.ite (.cmp .eql (.var 1) (.lit 0))
 (.ite (.cmp .gtr (.var 3) (.lit 0))
 (.ite (.not (.cmp .gtr (.var 0) (.lit 0)))
 (.ite (.cmp .gtr (.var 1) (.lit 0))
 (.ret ((.v (.one (.z (.int .i64 (.lit (-1)))))),[],5))
 (.ite (.cmp .eql (.var 1) (.lit 0))
 (.ite (.cmp .gtr (.var 0) (.lit 0))
 (.ret ((.v (.one (.z (.int .i64 (.lit (-1)))))),[],5))
 (.ret ((.v (.one (.z (.int .i64 (.lit 1))))),[],5)))
 (.ret ((.v (.one (.z (.int .i64 (.lit 1))))),[],5))))
 (.ite (.cmp .gtr (.ar .sub .i64 (.ar .mul .i64 (.var 0) (.var 3)) (.ar .mul .i64 (.var 1) (.var 2))) (.lit 0))
 (.ret ((.v (.one (.z (.int .i64 (.lit (-1)))))),[],6))
 (.ite (.cmp .lss (.ar .sub .i64 (.ar .mul .i64 (.var 0) (.var 3)) (.ar .mul .i64 (.var 1) (.var 2))) (.lit 0))
 (.ret ((.v (.one (.z (.int .i64 (.lit 1))))),[],8))
 (.ret ((.v (.one (.z (.int .i64 (.lit 0))))),[],8)))))
 (.ite (.cmp .eql (.var 3) (.lit 0))
 (.ite (.not (.eqb (.cmp .gtr (.var 0) (.lit 0)) (.cmp .gtr (.var 2) (.lit 0))))
 (.ite (.cmp .gtr (.var 1) (.lit 0))
 (.ret ((.v (.one (.z (.int .i64 (.lit (-1)))))),[],5))
 (.ite (.cmp .eql (.var 1) (.lit 0))
 (.ite (.cmp .gtr (.var 0) (.lit 0))
 (.ret ((.v (.one (.z (.int .i64 (.lit (-1)))))),[],5))
 (.ret ((.v (.one (.z (.int .i64 (.lit 1))))),[],5)))
 (.ret ((.v (.one (.z (.int .i64 (.lit 1))))),[],5))))
 (.ite (.cmp .gtr (.ar .sub .i64 (.ar .mul .i64 (.var 0) (.var 3)) (.ar .mul .i64 (.var 1) (.var 2))) (.lit 0))
 (.ret ((.v (.one (.z (.int .i64 (.lit (-1)))))),[],6))
 (.ite (.cmp .lss (.ar .sub .i64 (.ar .mul .i64 (.var 0) (.var 3)) (.ar .mul .i64 (.var 1) (.var 2))) (.lit 0))
 (.ret ((.v (.one (.z (.int .i64 (.lit 1))))),[],8))
 (.ret ((.v (.one (.z (.int .i64 (.lit 0))))),[],8)))))
 (.ite (.cmp .gtr (.var 0) (.lit 0))
 (.ite (.cmp .gtr (.var 1) (.lit 0))
 (.ret ((.v (.one (.z (.int .i64 (.lit (-1)))))),[],5))
 (.ite (.cmp .eql (.var 1) (.lit 0))
 (.ite (.cmp .gtr (.var 0) (.lit 0))
 (.ret ((.v (.one (.z (.int .i64 (.lit (-1)))))),[],5))
 (.ret ((.v (.one (.z (.int .i64 (.lit 1))))),[],5)))
 (.ret ((.v (.one (.z (.int .i64 (.lit 1))))),[],5))))
 (.ite (.cmp .gtr (.ar .sub .i64 (.ar .mul .i64 (.var 0) (.var 3)) (.ar .mul .i64 (.var 1) (.var 2))) (.lit 0))
 (.ret ((.v (.one (.z (.int .i64 (.lit (-1)))))),[],6))
 (.ite (.cmp .lss (.ar .sub .i64 (.ar .mul .i64 (.var 0) (.var 3)) (.ar .mul .i64 (.var 1) (.var 2))) (.lit 0))
 (.ret ((.v (.one (.z (.int .i64 (.lit 1))))),[],8))
 (.ret ((.v (.one (.z (.int .i64 (.lit 0))))),[],8)))))))
 (.ite (.cmp .gtr (.var 3) (.lit 0))
 (.ite (.cmp .gtr (.var 1) (.lit 0))
 (.ret ((.v (.one (.z (.int .i64 (.lit (-1)))))),[],5))
 (.ite (.cmp .eql (.var 1) (.lit 0))
 (.ite (.cmp .gtr (.var 0) (.lit 0))
 (.ret ((.v (.one (.z (.int .i64 (.lit (-1)))))),[],5))
 (.ret ((.v (.one (.z (.int .i64 (.lit 1))))),[],5)))
 (.ret ((.v (.one (.z (.int .i64 (.lit 1))))),[],5))))
 (.ite (.cmp .eql (.var 3) (.lit 0))
 (.ite (.cmp .gtr (.var 2) (.lit 0))
 (.ite (.cmp .gtr (.var 1) (.lit 0))
 (.ret ((.v (.one (.z (.int .i64 (.lit (-1)))))),[],5))
 (.ite (.cmp .eql (.var 1) (.lit 0))
 (.ite (.cmp .gtr (.var 0) (.lit 0))
 (.ret ((.v (.one (.z (.int .i64 (.lit (-1)))))),[],5))
 (.ret ((.v (.one (.z (.int .i64 (.lit 1))))),[],5)))
 (.ret ((.v (.one (.z (.int .i64 (.lit 1))))),[],5))))
 (.ite (.cmp .gtr (.ar .sub .i64 (.ar .mul .i64 (.var 0) (.var 3)) (.ar .mul .i64 (.var 1) (.var 2))) (.lit 0))
 (.ret ((.v (.one (.z (.int .i64 (.lit (-1)))))),[],6))
 (.ite (.cmp .lss (.ar .sub .i64 (.ar .mul .i64 (.var 0) (.var 3)) (.ar .mul .i64 (.var 1) (.var 2))) (.lit 0))
 (.ret ((.v (.one (.z (.int .i64 (.lit 1))))),[],8))
 (.ret ((.v (.one (.z (.int .i64 (.lit 0))))),[],8)))))
 (.ite (.cmp .gtr (.ar .sub .i64 (.ar .mul .i64 (.var 0) (.var 3)) (.ar .mul .i64 (.var 1) (.var 2))) (.lit 0))
 (.ret ((.v (.one (.z (.int .i64 (.lit (-1)))))),[],6))
 (.ite (.cmp .lss (.ar .sub .i64 (.ar .mul .i64 (.var 0) (.var 3)) (.ar .mul .i64 (.var 1) (.var 2))) (.lit 0))
 (.ret ((.v (.one (.z (.int .i64 (.lit 1))))),[],8))
 (.ret ((.v (.one (.z (.int .i64 (.lit 0))))),[],8))))))))
set_option maxRecDepth 100000 in
theorem a7u:T.norm 0 (call Tryz.prog ctB (Lt.of []) 100 165 (i5 0 [X8,X8]) [] 0) TT.ret=a1N:=by kernel_rfl
theorem a6L:a1N.low 1000=true:=by kernel_rfl
def a8D:TT i8:=
(.ite (.not (.and (.cmp .eql (.var 0) (.lit 0)) (.cmp .eql (.var 1) (.lit 0))))
 (.ite (.cmp .leq (.mx (.var 0) (.var 1)) (.lit 1000000))
 (.ite (.cmp .geq (.mn (.var 0) (.var 1)) (.lit (-1000000)))
 (.ite (.not (.and (.cmp .eql (.var 2) (.lit 0)) (.cmp .eql (.var 3) (.lit 0))))
 (.ite (.cmp .leq (.mx (.var 2) (.var 3)) (.lit 1000000))
 (.ite (.cmp .geq (.mn (.var 2) (.var 3)) (.lit (-1000000)))
 (.ite (.cmp .geq (.var 4) (.lit 1))
 (.ite (.cmp .leq (.var 4) (.lit 3))
 (.ite (.cmp .geq (.var 5) (.lit 1))
 (.ret ((.v (.one (.z (.bool (.cmp .leq (.var 5) (.lit 3000000)))))),[],3))
 (.ret ((.v (.one (.z (.bool (.lit false))))),[],3)))
 (.ret ((.v (.one (.z (.bool (.lit false))))),[],3)))
 (.ret ((.v (.one (.z (.bool (.lit false))))),[],3)))
 (.ret ((.v (.one (.z (.bool (.lit false))))),[],3)))
 (.ret ((.v (.one (.z (.bool (.lit false))))),[],3)))
 (.ret ((.v (.one (.z (.bool (.lit false))))),[],3)))
 (.ret ((.v (.one (.z (.bool (.lit false))))),[],2)))
 (.ret ((.v (.one (.z (.bool (.lit false))))),[],2)))
 (.ret ((.v (.one (.z (.bool (.lit false))))),[],2)))
set_option maxRecDepth 100000 in
theorem b4n:T.norm 0 (call Tryz.prog ctB (Lt.of []) 100 151 (i5 0 [sec]) [] 0) TT.ret=a8D:=by kernel_rfl
theorem b2a:a8D.low 1000=true:=by kernel_rfl
def c2l(ds:List D):Bool:=j8 (a9 ds 0) (a9 ds 1)&&H7 (f8 ds 2)
def b7i(ds:List D):Int:=if c2l ds then a8Z (f8 ds 2) (a9 ds 0) (a9 ds 1) (f8 ds 2).length 0 false else 0
def c2d(ds:List D):Int:=if c2l ds then 0 else 1
theorem b8r(r:Rows):X4 [.l r]=H7 r:=rfl
theorem c0o(o o':BinOp)(a b c d:Int):(s7 o a b=s7 o' c d)=(v5 o a b↔v5 o' c d):=by rw[Bool.eq_iff_iff,Z8,Z8]
def a5I(a b c d:Int):Int:=IntKind.i64.wrap (IntKind.i64.wrap (a*d)-IntKind.i64.wrap (b*c))
def T4(a b c d:Int):Int:=if 0<b∨(b=0∧0<a) then(if 0<d∨(d=0∧0<c) then(if 0<a5I a b c d then -1 else if a5I a b c d<0 then 1 else 0) else -1)
 else(if 0<d∨(d=0∧0<c) then 1 else(if 0<a5I a b c d then -1 else if a5I a b c d<0 then 1 else 0))
def a1i(ds:List D):Int:=T4 (a9 ds 0) (a9 ds 1) (a9 ds 2) (a9 ds 3)
set_option maxHeartbeats 1000000 in
theorem b7S:k8 Tryz.prog 165 [X8,X8] (fun ds=> .int .i64 (a1i ds)):=by
 refine GivesIf.all (i6 KB (by kernel_rfl) (fun ρ h=>a8V (Sees.of h 70)) (by kernel_rfl) a7u a6L (by decide) (fun W vals ds hr _=> ?_))
 simp only[a1N,g7,Nat.reduceBEq,Nat.reduceLT,Nat.reduceSub]
 simp only[a1i,T4]
 rw[show IntKind.i64.wrap (IntKind.i64.wrap (a9 ds 0*a9 ds 3)-IntKind.i64.wrap (a9 ds 1*a9 ds 2))=a5I (a9 ds 0) (a9 ds 1) (a9 ds 2) (a9 ds 3) from rfl]
 generalize a5I (a9 ds 0) (a9 ds 1) (a9 ds 2) (a9 ds 3)=z
 generalize a9 ds 0=a
 generalize a9 ds 1=b
 generalize a9 ds 2=c
 generalize a9 ds 3=d
 repeat' (first | (intro h;skip) | (refine And.intro ?_ ?_))
 all_goals (congr 1;(try simp only[Bool.not_eq_true',Bool.not_eq_false',beq_iff_eq,beq_eq_false_iff_ne,ne_eq,c0o,v5] at *);(repeat' split)<;>omega)
def b3t(a b c d e f:Int):Bool:=decide (¬(a=0∧b=0)∧(-1000000≤a∧a≤1000000)∧(-1000000≤b∧b≤1000000)∧¬(c=0∧d=0)∧(-1000000≤c∧c≤1000000)∧(-1000000≤d∧d≤1000000)∧(1≤e∧e≤3)∧1≤f∧f≤3000000)
def a3r(ds:List D):Bool:=b3t (a9 ds 0) (a9 ds 1) (a9 ds 2) (a9 ds 3) (a9 ds 4) (a9 ds 5)
theorem c3Z:k8 Tryz.prog 151 [sec] (fun ds=> .bool (a3r ds)):=by
 refine GivesIf.all (i6 KB (by kernel_rfl) (fun ρ h=>a8V (Sees.of h 70)) (by kernel_rfl) b4n b2a (by decide) (fun W vals ds hr _=> ?_))
 simp only[a8D,g7,Nat.reduceBEq,Nat.reduceLT,Nat.reduceSub]
 simp only[a3r,b3t]
 repeat' (first | (intro h;skip) | (refine And.intro ?_ ?_))
 all_goals (congr 1;rw[Bool.eq_iff_iff];try rw[Z8])
 all_goals (simp only[v5,decide_eq_true_eq,Bool.false_eq_true,false_iff];omega)
def KC:Interp where
 fi n l:=match n with | 70=>b7i l | 71=>c2d l | 72=>a1i l | n=>KB.fi n l
 fb n l:=match n with | 73=>a3r l | n=>KB.fb n l
 fd _ _:=[]
theorem c5a{ρ:Env}(h:Sees ρ KC 74):Sees ρ KB 70:=h.trans (by decide) fun n l hn=>by
 refine⟨?_,?_⟩
 ·
  simp only[KC]
  split<;>first | omega | rfl
 ·
  simp only[KC]
  split<;>first | omega | rfl
def a8c:=o9 [X8,X8] fun al=> .ret (iV .i64 (iF 72 a1i al))
theorem a9V{ρ:Env}(h:Sees ρ KC 74):i4 Tryz.prog ρ 165 a8c:=
 j4 b7S (fun _=>rfl) (fun al=>by simp only[iV,bV,V.s0,V.val,V2.val,S.val,S0.val,O7 (s:=72) (f:=a1i) (fun l=>by rw[(h 72 l (by decide)).1];simp only[KC])];try rfl)
def b4O:=o9 [sec] fun al=> .ret (bV (bF 73 a3r al))
theorem b5E{ρ:Env}(h:Sees ρ KC 74):i4 Tryz.prog ρ 151 b4O:=
 j4 c3Z (fun _=>rfl) (fun al=>by simp only[iV,bV,V.s0,V.val,V2.val,S.val,S0.val,o8 (s:=73) (f:=a3r) (fun l=>by rw[(h 73 l (by decide)).2];simp only[KC])];try rfl)
def ctC:Ct:=(165,a8c)::(151,b4O)::ctB
theorem b4Q{ρ:Env}(h:Sees ρ KC 74):CtOk Tryz.prog ρ ctC:= .cons (a9V h)<| .cons (b5E h) (a8V (c5a h))
def Z9:Sh:= .one (.sl a5F)
def b2r:TT i8:=
(.ite (.cmp .eql (.fn 72 (.i (.var 0) (.i (.var 1) (.i (.var 2) (.i (.var 3) .nil))))) (.lit (-1)))
 (.ite (.cmp .leq (.fn 72 (.i (.var 0) (.i (.var 1) (.i (.var 6) (.i (.var 7) .nil))))) (.lit 0))
 (.ret ((.v (.one (.z (.bool (.not (.cmp .leq (.fn 72 (.i (.var 2) (.i (.var 3) (.i (.var 6) (.i (.var 7) .nil))))) (.lit 0))))))),[],4))
 (.ret ((.v (.one (.z (.bool (.lit false))))),[],4)))
 (.ite (.cmp .eql (.fn 72 (.i (.var 0) (.i (.var 1) (.i (.var 2) (.i (.var 3) .nil))))) (.lit 1))
 (.ite (.cmp .leq (.fn 72 (.i (.var 0) (.i (.var 1) (.i (.var 6) (.i (.var 7) .nil))))) (.lit 0))
 (.ret ((.v (.one (.z (.bool (.lit true))))),[],4))
 (.ret ((.v (.one (.z (.bool (.not (.cmp .leq (.fn 72 (.i (.var 2) (.i (.var 3) (.i (.var 6) (.i (.var 7) .nil))))) (.lit 0))))))),[],4)))
 (.ret ((.v (.one (.z (.bool (.lit true))))),[],4))))
set_option maxRecDepth 100000 in
theorem b7L:T.norm 0 (call Tryz.prog ctC (Lt.of []) 100 152 (i5 0 [sec,X8]) [] 0) TT.ret=b2r:=by kernel_rfl
theorem b4J:b2r.low 1000=true:=by kernel_rfl
def a8u(a b c d x y:Int):Bool:=if T4 a b c d= -1 then decide (T4 a b x y≤0)&& !decide (T4 c d x y≤0)
 else if T4 a b c d=1 then decide (T4 a b x y≤0)|| !decide (T4 c d x y≤0) else true
def hasL(ds:List D):Bool:=a8u (a9 ds 0) (a9 ds 1) (a9 ds 2) (a9 ds 3) (a9 ds 6) (a9 ds 7)
theorem c4A(W:World)(ds l:List D):(g8 KC W ds).fi 72 l=a1i l:=by simp only[g8,KC]
theorem b5D(a b c d:Int):a1i [.i a,.i b,.i c,.i d]=T4 a b c d:=rfl
theorem c6H:k8 Tryz.prog 152 [sec,X8] (fun ds=> .bool (hasL ds)):=by
 refine GivesIf.all (i6 KC (by kernel_rfl) (fun ρ h=>b4Q (Sees.of h 74)) (by kernel_rfl) b7L b4J (by decide) (fun W vals ds hr _=> ?_))
 simp only[b2r,g7,Nat.reduceBEq,Nat.reduceLT,Nat.reduceSub,c4A,b5D]
 simp only[hasL,a8u]
 refine⟨fun h=>⟨fun h'=> ?_,fun h'=> ?_⟩,fun h=>⟨fun h1=>⟨fun h'=> ?_,fun h'=> ?_⟩,fun h1=> ?_⟩⟩
 all_goals simp [*,s7]
def KD:Interp where
 fi n l:=KC.fi n l
 fb n l:=match n with | 74=>hasL l | n=>KC.fb n l
 fd _ _:=[]
theorem c5w{ρ:Env}(h:Sees ρ KD 75):Sees ρ KC 74:=h.trans (by decide) fun n l hn=>by
 refine⟨?_,?_⟩
 ·
  rfl
 ·
  simp only[KD]
  split<;>first | omega | rfl
def c1x:=o9 [sec,X8] fun al=> .ret (bV (bF 74 hasL al))
theorem c0S{ρ:Env}(h:Sees ρ KD 75):i4 Tryz.prog ρ 152 c1x:=
 j4 c6H (fun _=>rfl) (fun al=>by simp only[iV,bV,V.s0,V.val,V2.val,S.val,S0.val,o8 (s:=74) (f:=hasL) (fun l=>by rw[(h 74 l (by decide)).2];simp only[KD])];try rfl)
def b8f:Ct:=(152,c1x)::ctC
theorem b1g{ρ:Env}(h:Sees ρ KD 75):CtOk Tryz.prog ρ b8f:= .cons (c0S h) (b4Q (c5w h))
def a8k:TT i8:=
(.loop 0 1000 ⟨[(0,(.lit 0))],[],[]⟩
 (.ite (.cmp .lss (.var 1000) (.len (.var 0)))
 (.ob (.tru (.cmp .leq (.lit 0) (.var 1000)))
 (.ob (.tru (.cmp .lss (.var 1000) (.len (.var 0))))
 (.ite (.not (.fn 73 (.i (.rd (.var 0) (.var 1000) 0) (.i (.rd (.var 0) (.var 1000) 1) (.i (.rd (.var 0) (.var 1000) 2) (.i (.rd (.var 0) (.var 1000) 3) (.i (.rd (.var 0) (.var 1000) 4) (.i (.rd (.var 0) (.var 1000) 5) .nil))))))))
 (.ret ((.v (.one (.z (.bool (.lit false))))),[],4))
 (.ob (.tru (.lit true))
 (.ob (.tru (.cmp .leq (.lit 0) (.var 1000)))
 (.ob (.tru (.cmp .leq (.var 1000) (.len (.var 0))))
 (.loop 1 3000 ⟨[(0,(.lit 0))],[],[]⟩
 (.ite (.cmp .lss (.var 3000) (.len (.sub (.var 0) (.lit 0) (.var 1000))))
 (.ob (.tru (.cmp .leq (.lit 0) (.var 3000)))
 (.ob (.tru (.cmp .lss (.var 3000) (.len (.sub (.var 0) (.lit 0) (.var 1000)))))
 (.ite (.fn 74 (.i (.rd (.var 0) (.var 1000) 0) (.i (.rd (.var 0) (.var 1000) 1) (.i (.rd (.var 0) (.var 1000) 2) (.i (.rd (.var 0) (.var 1000) 3) (.i (.rd (.var 0) (.var 1000) 4) (.i (.rd (.var 0) (.var 1000) 5) (.i (.rd (.sub (.var 0) (.lit 0) (.var 1000)) (.var 3000) 0) (.i (.rd (.sub (.var 0) (.lit 0) (.var 1000)) (.var 3000) 1) .nil)))))))))
 (.ret ((.v (.one (.z (.bool (.lit false))))),[],4))
 (.ite (.fn 74 (.i (.rd (.sub (.var 0) (.lit 0) (.var 1000)) (.var 3000) 0) (.i (.rd (.sub (.var 0) (.lit 0) (.var 1000)) (.var 3000) 1) (.i (.rd (.sub (.var 0) (.lit 0) (.var 1000)) (.var 3000) 2) (.i (.rd (.sub (.var 0) (.lit 0) (.var 1000)) (.var 3000) 3) (.i (.rd (.sub (.var 0) (.lit 0) (.var 1000)) (.var 3000) 4) (.i (.rd (.sub (.var 0) (.lit 0) (.var 1000)) (.var 3000) 5) (.i (.rd (.var 0) (.var 1000) 0) (.i (.rd (.var 0) (.var 1000) 1) .nil)))))))))
 (.ret ((.v (.one (.z (.bool (.lit false))))),[],4))
 (.next 1 ⟨[(0,(.ar .add .i64 (.var 3000) (.lit 1)))],[],[]⟩)))))
 (.next 0 ⟨[(0,(.ar .add .i64 (.var 1000) (.lit 1)))],[],[]⟩)))))))))
 (.ret ((.v (.one (.z (.bool (.cmp .leq (.len (.var 0)) (.lit 12)))))),[],4))))
set_option maxRecDepth 100000 in
theorem b3P:T.norm 0 (call Tryz.prog b8f (Lt.of []) 100 136 (i5 0 [Z9]) [] 0) TT.ret=a8k:=by kernel_rfl
theorem b1U:a8k.low 1000=true:=by kernel_rfl
theorem b7b(r:Rows){b:Nat}(h:b≤r.length):(k5 r 0 (b:Int)).length=b:=by
 simp only[k5,List.length_take,List.length_drop]
 simp
 omega
theorem c0Y(r:Rows){b i:Nat}(j:Nat)(h:i<b):lg (k5 r 0 (b:Int)) (i:Int) j=lg r (i:Int) j:=by
 have:o5 (k5 r 0 (b:Int)) (i:Int) j=o5 r (i:Int) j:=by
  simp only[o5,k5]
  simp [List.getD_eq_getElem?_getD,List.getElem?_take,h]
 rw[lg,lg,this]
def a7x(r:Rows)(i:Nat):Bool:=b3t (lg r i 0) (lg r i 1) (lg r i 2) (lg r i 3) (lg r i 4) (lg r i 5)
def b6u(r:Rows)(i k:Nat):Bool:=a8u (lg r i 0) (lg r i 1) (lg r i 2) (lg r i 3) (lg r k 0) (lg r k 1)||a8u (lg r k 0) (lg r k 1) (lg r k 2) (lg r k 3) (lg r i 0) (lg r i 1)
def a8P(r:Rows)(i:Nat):Nat→Nat→Bool
 | 0,_=>true
 | f+1,k=> !b6u r i k&&a8P r i f (k+1)
def a5p(r:Rows):Nat→Nat→Bool
 | 0,_=>true
 | f+1,i=>(a7x r i&&a8P r i i 0)&&a5p r f (i+1)
def a2u(r:Rows):Bool:=a5p r r.length 0&&decide (r.length≤12)
def Y7(ds:List D):Bool:=a2u (f8 ds 0)
theorem b8W(W:World)(ds l:List D):(g8 KD W ds).fb 73 l=a3r l:=by simp only[g8,KD,KC]
theorem b9B(W:World)(ds l:List D):(g8 KD W ds).fb 74 l=hasL l:=by simp only[g8,KD]
theorem b0A(a b c d e f:Int):a3r [.i a,.i b,.i c,.i d,.i e,.i f]=b3t a b c d e f:=rfl
theorem a6z(a b c d e f x y:Int):hasL [.i a,.i b,.i c,.i d,.i e,.i f,.i x,.i y]=a8u a b c d x y:=rfl
theorem b8j{W:World}{vals:List Value}{ds:List D}{sh:List Sh}(h:D8 W (Z9::sh) vals ds):(f8 ds 0).length≤281474976710656:=by
 obtain⟨v,vs',d,ds',rfl,rfl,⟨d,rfl,h⟩,_⟩:=h
 rw[x9] at h
 obtain⟨r,rfl,a,n,c,_,hs,_⟩:=h
 have e1:=hs.len
 have e2:=hs.big
 show r.length≤_
 omega
theorem c4W:k8 Tryz.prog 136 [Z9] (fun ds=> .bool (Y7 ds)):=by
 refine GivesIf.all (i6 KD (by kernel_rfl) (fun ρ h=>b1g (Sees.of h 75)) (by kernel_rfl) b3P b1U (by decide) (fun W vals ds hr _=> ?_))
 have hlen:=b8j hr
 simp only[a8k]
 generalize hr0:f8 ds 0=r at hlen
 have hP:Y7 ds=a2u r:=by rw[Y7,hr0]
 rw[hP]
 refine TT.sat_loop (fun v=>∃i:Nat,v.i 0=i∧i≤r.length∧(a5p r (r.length-i) i&&decide (r.length≤12))=a2u r) (fun v=>r.length-(v.i 0).toNat)
  ⟨0,by simp [o6,j6,E.ev],by omega,rfl⟩ (fun v hv=> ?_)
 obtain⟨i,i0,i1,i2⟩:=hv
 simp only[g7,Nat.reduceBEq,Nat.reduceLT,Nat.reduceSub,i0,hr0,b8W,b9B,b0A,a6z]
 refine⟨fun hc=> ?_,fun hc=> ?_⟩
 ·have hi:i<r.length:=by omega
  obtain⟨f,hf⟩:∃f,r.length-i=f+1:=⟨r.length-i-1,by omega⟩
  rw[hf,a5p] at i2
  have hsub:=b7b r (show i≤r.length by omega)
  refine⟨by omega,by omega,fun p=> ?_,fun p=>⟨by omega,by omega,?_⟩⟩
  ·rw[←i2,a7x,p];rfl
  refine TT.sat_loop (fun v=>∃k:Nat,v.i 0=k∧k≤i∧((a8P r i (i-k) k&&a5p r f (i+1))&&decide (r.length≤12))=a2u r) (fun v=>i-(v.i 0).toNat)
   ⟨0,by simp [o6,j6,E.ev],by omega,by rw[←i2,a7x,p];rfl⟩ (fun u hu=> ?_)
  obtain⟨k,k0,k1,k2⟩:=hu
  simp only[g7,Nat.reduceBEq,Nat.reduceLT,Nat.reduceSub,i0,k0,hr0,hsub,b8W,b9B,b0A,a6z]
  refine⟨fun hk=> ?_,fun hk=> ?_⟩
  ·have hki:k<i:=by omega
   obtain⟨g,hg⟩:∃g,i-k=g+1:=⟨i-k-1,by omega⟩
   rw[hg,a8P,b6u] at k2
   simp only[c0Y r _ hki]
   refine⟨by omega,by omega,fun q=> ?_,fun q=>⟨fun q'=> ?_,fun q'=>⟨⟨k+1,?_,by omega,?_⟩,?_⟩⟩⟩
   ·rw[←k2,q];rfl
   ·rw[←k2,q,q'];rfl
   ·rw[f9 _ (by omega) (by omega)];rfl
   ·rw[show i-(k+1)=g by omega,←k2,q,q'];rfl
   ·rw[f9 _ (by omega) (by omega)];omega
  ·have:i-k=0:=by omega
   rw[this,a8P,Bool.true_and] at k2
   refine⟨⟨i+1,?_,by omega,?_⟩,?_⟩
   ·rw[f9 _ (by omega) (by omega)];rfl
   ·rw[show r.length-(i+1)=f by omega];exact k2
   ·rw[f9 _ (by omega) (by omega)];omega
 ·have:r.length-i=0:=by omega
  rw[this,a5p,Bool.true_and] at i2
  rw[←i2]
  congr 1
  rw[Bool.eq_iff_iff,Z8,decide_eq_true_eq]
  simp only[v5]
  omega
def KE:Interp where
 fi n l:=KD.fi n l
 fb n l:=match n with | 75=>Y7 l | n=>KD.fb n l
 fd _ _:=[]
theorem c4N{ρ:Env}(h:Sees ρ KE 76):Sees ρ KD 75:=h.trans (by decide) fun n l hn=>by
 refine⟨?_,?_⟩
 ·
  rfl
 ·
  simp only[KE]
  split<;>first | omega | rfl
def b8T:=o9 [Z9] fun al=> .ret (bV (bF 75 Y7 al))
theorem b6U{ρ:Env}(h:Sees ρ KE 76):i4 Tryz.prog ρ 136 b8T:=
 j4 c4W (fun _=>rfl) (fun al=>by simp only[iV,bV,V.s0,V.val,V2.val,S.val,S0.val,o8 (s:=75) (f:=Y7) (fun l=>by rw[(h 75 l (by decide)).2];simp only[KE])];try rfl)
def ctE:Ct:=(136,b8T)::b8f
theorem c1y{ρ:Env}(h:Sees ρ KE 76):CtOk Tryz.prog ρ ctE:= .cons (b6U h) (b1g (c4N h))
def E5:Sh:= .agg [.int .i64,.int .i64,.int .i64,.int .i64,.int .i64,.sl ptK,.int .i64,.int .i64,.sl a5F]
def a5g:TT i8:=
(.ite (.cmp .lss (.var 0) (.lit 1))
 (.ret ((.v (.one (.z (.bool (.lit false))))),[],1))
 (.ite (.cmp .gtr (.var 0) (.lit 100000))
 (.ret ((.v (.one (.z (.bool (.lit false))))),[],1))
 (.ite (.cmp .lss (.var 7) (.lit 0))
 (.ret ((.v (.one (.z (.bool (.lit false))))),[],1))
 (.ite (.cmp .gtr (.var 7) (.lit 999))
 (.ret ((.v (.one (.z (.bool (.lit false))))),[],1))
 (.ite (.cmp .lss (.var 6) (.lit 0))
 (.ret ((.v (.one (.z (.bool (.lit false))))),[],1))
 (.ite (.cmp .gtr (.var 6) (.lit 100000))
 (.ret ((.v (.one (.z (.bool (.lit false))))),[],1))
 (.ite (.cmp .lss (.var 4) (.lit 0))
 (.ret ((.v (.one (.z (.bool (.lit false))))),[],1))
 (.ite (.cmp .gtr (.var 4) (.lit 100000))
 (.ret ((.v (.one (.z (.bool (.lit false))))),[],1))
 (.ite (.cmp .eql (.var 1) (.lit 1))
 (.ite (.cmp .eql (.var 1) (.lit 1))
 (.ite (.fn 3 (.i (.var 2) (.i (.var 3) .nil)))
 (.ite (.fn 3 (.i (.ar .sub .i64 (.var 2) (.var 4)) (.i (.ar .sub .i64 (.var 3) (.var 4)) .nil)))
 (.ite (.fn 3 (.i (.ar .add .i64 (.var 2) (.var 4)) (.i (.ar .add .i64 (.var 3) (.var 4)) .nil)))
 (.ite (.cmp .eql (.len (.var 5)) (.lit 0))
 (.ret ((.v (.one (.z (.bool (.cmp .eql (.len (.var 8)) (.lit 0)))))),[],2))
 (.ret ((.v (.one (.z (.bool (.lit false))))),[],2)))
 (.ret ((.v (.one (.z (.bool (.lit false))))),[],2)))
 (.ret ((.v (.one (.z (.bool (.lit false))))),[],2)))
 (.ret ((.v (.one (.z (.bool (.lit false))))),[],1)))
 (.ite (.cmp .eql (.var 1) (.lit 6))
 (.ite (.cmp .gtr (.var 6) (.lit 0))
 (.ret ((.v (.one (.z (.bool (.lit false))))),[],1))
 (.ite (.fn 69 (.x (.var 5) .nil))
 (.ite (.and (.cmp .eql (.var 2) (.lit 0)) (.cmp .eql (.var 3) (.lit 0)))
 (.ite (.cmp .eql (.var 4) (.lit 0))
 (.ret ((.v (.one (.z (.bool (.cmp .eql (.len (.var 8)) (.lit 0)))))),[],1))
 (.ret ((.v (.one (.z (.bool (.lit false))))),[],1)))
 (.ret ((.v (.one (.z (.bool (.lit false))))),[],1)))
 (.ret ((.v (.one (.z (.bool (.lit false))))),[],1))))
 (.ite (.cmp .eql (.var 1) (.lit 3))
 (.ite (.fn 69 (.x (.var 5) .nil))
 (.ite (.and (.cmp .eql (.var 2) (.lit 0)) (.cmp .eql (.var 3) (.lit 0)))
 (.ite (.cmp .eql (.var 4) (.lit 0))
 (.ret ((.v (.one (.z (.bool (.cmp .eql (.len (.var 8)) (.lit 0)))))),[],1))
 (.ret ((.v (.one (.z (.bool (.lit false))))),[],1)))
 (.ret ((.v (.one (.z (.bool (.lit false))))),[],1)))
 (.ret ((.v (.one (.z (.bool (.lit false))))),[],1)))
 (.ite (.cmp .eql (.var 1) (.lit 4))
 (.ite (.fn 3 (.i (.var 2) (.i (.var 3) .nil)))
 (.ite (.fn 75 (.x (.var 8) .nil))
 (.ite (.cmp .eql (.var 4) (.lit 0))
 (.ite (.cmp .eql (.var 6) (.lit 0))
 (.ret ((.v (.one (.z (.bool (.cmp .eql (.len (.var 5)) (.lit 0)))))),[],1))
 (.ret ((.v (.one (.z (.bool (.lit false))))),[],1)))
 (.ret ((.v (.one (.z (.bool (.lit false))))),[],1)))
 (.ret ((.v (.one (.z (.bool (.lit false))))),[],1)))
 (.ret ((.v (.one (.z (.bool (.lit false))))),[],1)))
 (.ret ((.v (.one (.z (.bool (.lit false))))),[],1))))))
 (.ite (.cmp .eql (.var 1) (.lit 2))
 (.ite (.cmp .eql (.var 1) (.lit 2))
 (.ite (.fn 3 (.i (.var 2) (.i (.var 3) .nil)))
 (.ite (.fn 3 (.i (.ar .sub .i64 (.var 2) (.var 4)) (.i (.ar .sub .i64 (.var 3) (.var 4)) .nil)))
 (.ite (.fn 3 (.i (.ar .add .i64 (.var 2) (.var 4)) (.i (.ar .add .i64 (.var 3) (.var 4)) .nil)))
 (.ite (.cmp .eql (.len (.var 5)) (.lit 0))
 (.ret ((.v (.one (.z (.bool (.cmp .eql (.len (.var 8)) (.lit 0)))))),[],2))
 (.ret ((.v (.one (.z (.bool (.lit false))))),[],2)))
 (.ret ((.v (.one (.z (.bool (.lit false))))),[],2)))
 (.ret ((.v (.one (.z (.bool (.lit false))))),[],2)))
 (.ret ((.v (.one (.z (.bool (.lit false))))),[],1)))
 (.ite (.cmp .eql (.var 1) (.lit 6))
 (.ite (.cmp .gtr (.var 6) (.lit 0))
 (.ret ((.v (.one (.z (.bool (.lit false))))),[],1))
 (.ite (.fn 69 (.x (.var 5) .nil))
 (.ite (.and (.cmp .eql (.var 2) (.lit 0)) (.cmp .eql (.var 3) (.lit 0)))
 (.ite (.cmp .eql (.var 4) (.lit 0))
 (.ret ((.v (.one (.z (.bool (.cmp .eql (.len (.var 8)) (.lit 0)))))),[],1))
 (.ret ((.v (.one (.z (.bool (.lit false))))),[],1)))
 (.ret ((.v (.one (.z (.bool (.lit false))))),[],1)))
 (.ret ((.v (.one (.z (.bool (.lit false))))),[],1))))
 (.ite (.cmp .eql (.var 1) (.lit 3))
 (.ite (.fn 69 (.x (.var 5) .nil))
 (.ite (.and (.cmp .eql (.var 2) (.lit 0)) (.cmp .eql (.var 3) (.lit 0)))
 (.ite (.cmp .eql (.var 4) (.lit 0))
 (.ret ((.v (.one (.z (.bool (.cmp .eql (.len (.var 8)) (.lit 0)))))),[],1))
 (.ret ((.v (.one (.z (.bool (.lit false))))),[],1)))
 (.ret ((.v (.one (.z (.bool (.lit false))))),[],1)))
 (.ret ((.v (.one (.z (.bool (.lit false))))),[],1)))
 (.ite (.cmp .eql (.var 1) (.lit 4))
 (.ite (.fn 3 (.i (.var 2) (.i (.var 3) .nil)))
 (.ite (.fn 75 (.x (.var 8) .nil))
 (.ite (.cmp .eql (.var 4) (.lit 0))
 (.ite (.cmp .eql (.var 6) (.lit 0))
 (.ret ((.v (.one (.z (.bool (.cmp .eql (.len (.var 5)) (.lit 0)))))),[],1))
 (.ret ((.v (.one (.z (.bool (.lit false))))),[],1)))
 (.ret ((.v (.one (.z (.bool (.lit false))))),[],1)))
 (.ret ((.v (.one (.z (.bool (.lit false))))),[],1)))
 (.ret ((.v (.one (.z (.bool (.lit false))))),[],1)))
 (.ret ((.v (.one (.z (.bool (.lit false))))),[],1))))))
 (.ite (.cmp .eql (.var 1) (.lit 5))
 (.ite (.fn 3 (.i (.var 2) (.i (.var 3) .nil)))
 (.ite (.fn 3 (.i (.ar .sub .i64 (.var 2) (.var 4)) (.i (.ar .sub .i64 (.var 3) (.var 4)) .nil)))
 (.ite (.fn 3 (.i (.ar .add .i64 (.var 2) (.var 4)) (.i (.ar .add .i64 (.var 3) (.var 4)) .nil)))
 (.ite (.cmp .eql (.len (.var 5)) (.lit 0))
 (.ret ((.v (.one (.z (.bool (.cmp .eql (.len (.var 8)) (.lit 0)))))),[],2))
 (.ret ((.v (.one (.z (.bool (.lit false))))),[],2)))
 (.ret ((.v (.one (.z (.bool (.lit false))))),[],2)))
 (.ret ((.v (.one (.z (.bool (.lit false))))),[],2)))
 (.ret ((.v (.one (.z (.bool (.lit false))))),[],1)))
 (.ite (.cmp .eql (.var 1) (.lit 6))
 (.ite (.cmp .gtr (.var 6) (.lit 0))
 (.ret ((.v (.one (.z (.bool (.lit false))))),[],1))
 (.ite (.fn 69 (.x (.var 5) .nil))
 (.ite (.and (.cmp .eql (.var 2) (.lit 0)) (.cmp .eql (.var 3) (.lit 0)))
 (.ite (.cmp .eql (.var 4) (.lit 0))
 (.ret ((.v (.one (.z (.bool (.cmp .eql (.len (.var 8)) (.lit 0)))))),[],1))
 (.ret ((.v (.one (.z (.bool (.lit false))))),[],1)))
 (.ret ((.v (.one (.z (.bool (.lit false))))),[],1)))
 (.ret ((.v (.one (.z (.bool (.lit false))))),[],1))))
 (.ite (.cmp .eql (.var 1) (.lit 3))
 (.ite (.fn 69 (.x (.var 5) .nil))
 (.ite (.and (.cmp .eql (.var 2) (.lit 0)) (.cmp .eql (.var 3) (.lit 0)))
 (.ite (.cmp .eql (.var 4) (.lit 0))
 (.ret ((.v (.one (.z (.bool (.cmp .eql (.len (.var 8)) (.lit 0)))))),[],1))
 (.ret ((.v (.one (.z (.bool (.lit false))))),[],1)))
 (.ret ((.v (.one (.z (.bool (.lit false))))),[],1)))
 (.ret ((.v (.one (.z (.bool (.lit false))))),[],1)))
 (.ite (.cmp .eql (.var 1) (.lit 4))
 (.ite (.fn 3 (.i (.var 2) (.i (.var 3) .nil)))
 (.ite (.fn 75 (.x (.var 8) .nil))
 (.ite (.cmp .eql (.var 4) (.lit 0))
 (.ite (.cmp .eql (.var 6) (.lit 0))
 (.ret ((.v (.one (.z (.bool (.cmp .eql (.len (.var 5)) (.lit 0)))))),[],1))
 (.ret ((.v (.one (.z (.bool (.lit false))))),[],1)))
 (.ret ((.v (.one (.z (.bool (.lit false))))),[],1)))
 (.ret ((.v (.one (.z (.bool (.lit false))))),[],1)))
 (.ret ((.v (.one (.z (.bool (.lit false))))),[],1)))
 (.ret ((.v (.one (.z (.bool (.lit false))))),[],1))))))))))))))))
set_option maxRecDepth 100000 in
theorem b3I:T.norm 0 (call Tryz.prog ctE (Lt.of []) 100 125 (i5 0 [E5]) [] 0) TT.ret=a5g:=by kernel_rfl
theorem a9Y:a5g.low 1000=true:=by kernel_rfl
def a7g(id kind x y rad:Int)(area:Rows)(depth sym:Int)(sc:Rows):Prop:=
 (1≤id∧id≤100000)∧(0≤sym∧sym≤999)∧(0≤depth∧depth≤100000)∧(0≤rad∧rad≤100000)∧
 (((kind=1∨kind=2∨kind=5)∧j8 x y=true∧j8 (x-rad) (y-rad)=true∧j8 (x+rad) (y+rad)=true∧(area.length:Int)=0∧(sc.length:Int)=0)∨
  ((kind=3∨(kind=6∧depth=0))∧H7 area=true∧x=0∧y=0∧rad=0∧(sc.length:Int)=0)∨
  (kind=4∧j8 x y=true∧a2u sc=true∧rad=0∧depth=0∧(area.length:Int)=0))
instance (id kind x y rad:Int) (area:Rows) (depth sym:Int) (sc:Rows):Decidable (a7g id kind x y rad area depth sym sc):=by unfold a7g;infer_instance
def a4O(id kind x y rad:Int)(area:Rows)(depth sym:Int)(sc:Rows):Bool:=decide (a7g id kind x y rad area depth sym sc)
def a4t(ds:List D):Bool:=a4O (a9 ds 0) (a9 ds 1) (a9 ds 2) (a9 ds 3) (a9 ds 4) (f8 ds 5) (a9 ds 6) (a9 ds 7) (f8 ds 8)
theorem c6J(W:World)(ds l:List D):(g8 KE W ds).fb 3 l=z7 l:=by simp only[g8,KE,KD,KC,KB,KA,K9,K8,K7,K6,K5,K]
theorem c4K(W:World)(ds l:List D):(g8 KE W ds).fb 69 l=X4 l:=by simp only[g8,KE,KD,KC,KB]
theorem c4Y(W:World)(ds l:List D):(g8 KE W ds).fb 75 l=Y7 l:=by simp only[g8,KE]
theorem b7r(r:Rows):Y7 [.l r]=a2u r:=rfl
set_option maxHeartbeats 2000000 in
theorem c2x:k8 Tryz.prog 125 [E5] (fun ds=> .bool (a4t ds)):=by
 refine GivesIf.all (i6 KE (by kernel_rfl) (fun ρ h=>c1y (Sees.of h 76)) (by kernel_rfl) b3I a9Y (by decide) (fun W vals ds hr _=> ?_))
 simp only[a5g,g7,Nat.reduceBEq,Nat.reduceLT,Nat.reduceSub,c6J,c4K,c4Y,a1z,b8r,b7r]
 simp only[a4t,a4O]
 generalize a9 ds 0=id
 generalize a9 ds 1=kind
 generalize a9 ds 2=x
 generalize a9 ds 3=y
 generalize a9 ds 4=rad
 generalize f8 ds 5=area
 generalize a9 ds 6=depth
 generalize a9 ds 7=sym
 generalize f8 ds 8=sc
 have W1:j8 x y=true→0≤rad→rad≤100000→j8 (IntKind.i64.wrap (x-rad)) (IntKind.i64.wrap (y-rad))=j8 (x-rad) (y-rad):=fun h _ _=>by
  rw[a0V] at h;rw[f9 (x-rad) (by omega) (by omega),f9 (y-rad) (by omega) (by omega)]
 have W2:j8 x y=true→0≤rad→rad≤100000→j8 (IntKind.i64.wrap (x+rad)) (IntKind.i64.wrap (y+rad))=j8 (x+rad) (y+rad):=fun h _ _=>by
  rw[a0V] at h;rw[f9 (x+rad) (by omega) (by omega),f9 (y+rad) (by omega) (by omega)]
 repeat' (first | (intro h;skip) | (refine And.intro ?_ ?_))
 all_goals (refine congrArg Value.bool ?_;rw[Bool.eq_iff_iff];simp only[Z8,v5,decide_eq_true_eq,Bool.false_eq_true,false_iff,a7g])
 all_goals clear hr
 all_goals grind
def KF:Interp where
 fi n l:=KE.fi n l
 fb n l:=match n with | 76=>a4t l | n=>KE.fb n l
 fd _ _:=[]
def b5d:=o9 [E5] fun al=> .ret (bV (bF 76 a4t al))
theorem b5C{ρ:Env}(h:Sees ρ KF 77):i4 Tryz.prog ρ 125 b5d:=
 j4 c2x (fun _=>rfl) (fun al=>by simp only[iV,bV,V.s0,V.val,V2.val,S.val,S0.val,o8 (s:=76) (f:=a4t) (fun l=>by rw[(h 76 l (by decide)).2];simp only[KF])];try rfl)
def c2z(r a:Rows)(k off:Int):Nat→Nat→Bool
 | 0,_=>false
 | f+1,i=>a0s [.i (lg r k 0),.i (lg r k 1),.i (lg r k 2),.i (lg r k 3),.i (lg a (prv a.length i) 0),.i (lg a (prv a.length i) 1),.i (lg a i 0),.i (lg a i 1),.i off]||c2z r a k off f (i+1)
def b6c(ds:List D):Bool:=a3s (a9 ds 0) (a9 ds 1) (a9 ds 2) (f8 ds 3)&&(decide (0≤a9 ds 4∧a9 ds 4<(f8 ds 3).length)&&a4O (a9 ds 5) (a9 ds 6) (a9 ds 7) (a9 ds 8) (a9 ds 9) (f8 ds 10) (a9 ds 11) (a9 ds 12) (f8 ds 13))
def c4P(r:Rows)(k off kind x y rad:Int)(area:Rows):Bool:=
 if kind=4 then false else if kind=3∨kind=6 then decide (0≤b7i [.i (lg r k 0),.i (lg r k 1),.l area])||c2z r area k off area.length 0
 else a7f [.i x,.i y,.i (lg r k 0),.i (lg r k 1),.i (lg r k 2),.i (lg r k 3),.i (rad+off)]
def c1J(r:Rows)(k off kind x y rad:Int):Int:=
 if kind=4∨kind=3∨kind=6 then 0 else b3k [.i x,.i y,.i (lg r k 0),.i (lg r k 1),.i (lg r k 2),.i (lg r k 3),.i (rad+off)]
def c2w(ds:List D):Bool:=b6c ds&&c4P (f8 ds 3) (a9 ds 4) (a9 ds 2) (a9 ds 6) (a9 ds 7) (a9 ds 8) (a9 ds 9) (f8 ds 10)
def c3k(ds:List D):Int:=if b6c ds then c1J (f8 ds 3) (a9 ds 4) (a9 ds 2) (a9 ds 6) (a9 ds 7) (a9 ds 8) (a9 ds 9) else 1
def c1r(ds:List D):Bool:=a4O (a9 ds 0) (a9 ds 1) (a9 ds 2) (a9 ds 3) (a9 ds 4) (f8 ds 5) (a9 ds 6) (a9 ds 7) (f8 ds 8)&&j8 (a9 ds 9) (a9 ds 10)
def c6n(kind x y rad:Int)(area:Rows)(px py:Int):Bool:=
 if kind=4 then false else if kind=3∨kind=6 then decide (c2d [.i px,.i py,.l area]=0∧0≤b7i [.i px,.i py,.l area])
 else decide (b3k [.i px,.i py,.i x,.i y,.i x,.i y,.i rad]=0)&&a7f [.i px,.i py,.i x,.i y,.i x,.i y,.i rad]
def c6A(ds:List D):Bool:=c1r ds&&c6n (a9 ds 1) (a9 ds 2) (a9 ds 3) (a9 ds 4) (f8 ds 5) (a9 ds 9) (a9 ds 10)
def c6W(ds:List D):Int:=if c1r ds then 0 else 1
def KG:Interp where
 fi n l:=match n with | 77=>c3k l | 78=>c6W l | n=>KF.fi n l
 fb n l:=match n with | 77=>c2w l | 78=>c6A l | n=>KF.fb n l
 fd _ _:=[]
theorem c4Q{ρ:Env}(h:Sees ρ KG 80):Sees ρ KF 77:=h.trans (by decide) fun n l hn=>by
 refine⟨?_,?_⟩
 ·
  simp only[KG]
  split<;>first | omega | rfl
 ·
  simp only[KG]
  split<;>first | omega | rfl
end Go.Proofs.YtbbjlleaofgddaaGreat
