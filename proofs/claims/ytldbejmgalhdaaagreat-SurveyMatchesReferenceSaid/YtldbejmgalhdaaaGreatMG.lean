/- MG, merged: TCv, Cv, TCw, Cw, TCx, Cx, TCy, Cy, TCz, Cz. -/
import Derived.Test.YtldbejmgalhdaaaGreatMF
set_option linter.unusedSimpArgs false
set_option linter.unusedVariables false
namespace Go.Proofs.YtldbejmgalhdaaaGreat
open Go.RowKit
def O6:Sh:= .agg [.int .i64,.int .i64]
def b1T:List CK:=[.int .i64,.int .i64,.int .i64,.int .i64,.int .i64,.int .i64]
def sec:Sh:= .agg b1T
def b7a:TT j6:=
(.ite (.not (.fn 3 (.i (.var 0) (.i (.var 1) .nil))))
 (.ret ((.tup [(.one (.z (.int .i64 (.lit 0)))),(.one (.z (.int .i64 (.lit 1))))]),[],1))
 (.ite (.not (.fn 69 (.x (.var 2) .nil)))
 (.ret ((.tup [(.one (.z (.int .i64 (.lit 0)))),(.one (.z (.int .i64 (.lit 1))))]),[],1))
 (.ret ((.tup [(.one (.z (.int .i64 (.fn 67 (.x (.var 2) (.i (.var 0) (.i (.var 1) .nil))))))),(.one (.z (.int .i64 (.lit 0))))]),[],1))))
set_option maxRecDepth 100000 in
theorem c5D:T.norm 0 (call Tryz.prog ctB (Lt.of []) 100 188 (i6 0 [pt,v9]) [] 0) TT.ret=b7a:=by kernel_rfl
theorem c1w:b7a.low 1000=true:=by kernel_rfl
def a5V:TT j6:=
(.ite (.cmp .gtr (.var 1) (.lit 0))
 (.ite (.cmp .gtr (.var 3) (.lit 0))
 (.ite (.cmp .gtr (.ar .sub .i64 (.ar .mul .i64 (.var 0) (.var 3)) (.ar .mul .i64 (.var 1) (.var 2))) (.lit 0))
 (.ret ((.v (.one (.z (.int .i64 (.lit (-1)))))),[],6))
 (.ite (.cmp .lss (.ar .sub .i64 (.ar .mul .i64 (.var 0) (.var 3)) (.ar .mul .i64 (.var 1) (.var 2))) (.lit 0))
 (.ret ((.v (.one (.z (.int .i64 (.lit 1))))),[],8))
 (.ret ((.v (.one (.z (.int .i64 (.lit 0))))),[],8))))
 (.ite (.cmp .eql (.var 3) (.lit 0))
 (.ite (.not (.cmp .gtr (.var 2) (.lit 0)))
 (.ite (.cmp .gtr (.var 1) (.lit 0))
 (.ret ((.v (.one (.z (.int .i64 (.lit (-1)))))),[],5))
 (.ite (.cmp .eql (.var 1) (.lit 0))
 (.ite (.cmp .gtr (.var 0) (.lit 0))
 (.ret ((.v (.one (.z (.int .i64 (.lit (-1)))))),[],5))
 (.ret ((.v (.one (.z (.int .i64 (.lit 1))))),[],5)))
 (.ret ((.v (.one (.z (.int .i64 (.lit 1))))),[],5))))
 (.ite (.cmp .gtr (.ar .sub .i64 (.ar .mul .i64 (.var 0) (.var 3)) (.ar .mul .i64 (.var 1) (.var 2))) (.lit 0))
 (.ret ((.v (.one (.z (.int .i64 (.lit (-1)))))),[],6))
 (.ite (.cmp .lss (.ar .sub .i64 (.ar .mul .i64 (.var 0) (.var 3)) (.ar .mul .i64 (.var 1) (.var 2))) (.lit 0))
 (.ret ((.v (.one (.z (.int .i64 (.lit 1))))),[],8))
 (.ret ((.v (.one (.z (.int .i64 (.lit 0))))),[],8)))))
 (.ite (.cmp .gtr (.var 1) (.lit 0))
 (.ret ((.v (.one (.z (.int .i64 (.lit (-1)))))),[],5))
 (.ite (.cmp .eql (.var 1) (.lit 0))
 (.ite (.cmp .gtr (.var 0) (.lit 0))
 (.ret ((.v (.one (.z (.int .i64 (.lit (-1)))))),[],5))
 (.ret ((.v (.one (.z (.int .i64 (.lit 1))))),[],5)))
 (.ret ((.v (.one (.z (.int .i64 (.lit 1))))),[],5))))))
 (.ite (.cmp .eql (.var 1) (.lit 0))
 (.ite (.cmp .gtr (.var 3) (.lit 0))
 (.ite (.not (.cmp .gtr (.var 0) (.lit 0)))
 (.ite (.cmp .gtr (.var 1) (.lit 0))
 (.ret ((.v (.one (.z (.int .i64 (.lit (-1)))))),[],5))
 (.ite (.cmp .eql (.var 1) (.lit 0))
 (.ite (.cmp .gtr (.var 0) (.lit 0))
 (.ret ((.v (.one (.z (.int .i64 (.lit (-1)))))),[],5))
 (.ret ((.v (.one (.z (.int .i64 (.lit 1))))),[],5)))
 (.ret ((.v (.one (.z (.int .i64 (.lit 1))))),[],5))))
 (.ite (.cmp .gtr (.ar .sub .i64 (.ar .mul .i64 (.var 0) (.var 3)) (.ar .mul .i64 (.var 1) (.var 2))) (.lit 0))
 (.ret ((.v (.one (.z (.int .i64 (.lit (-1)))))),[],6))
 (.ite (.cmp .lss (.ar .sub .i64 (.ar .mul .i64 (.var 0) (.var 3)) (.ar .mul .i64 (.var 1) (.var 2))) (.lit 0))
 (.ret ((.v (.one (.z (.int .i64 (.lit 1))))),[],8))
 (.ret ((.v (.one (.z (.int .i64 (.lit 0))))),[],8)))))
 (.ite (.cmp .eql (.var 3) (.lit 0))
 (.ite (.not (.eqb (.cmp .gtr (.var 0) (.lit 0)) (.cmp .gtr (.var 2) (.lit 0))))
 (.ite (.cmp .gtr (.var 1) (.lit 0))
 (.ret ((.v (.one (.z (.int .i64 (.lit (-1)))))),[],5))
 (.ite (.cmp .eql (.var 1) (.lit 0))
 (.ite (.cmp .gtr (.var 0) (.lit 0))
 (.ret ((.v (.one (.z (.int .i64 (.lit (-1)))))),[],5))
 (.ret ((.v (.one (.z (.int .i64 (.lit 1))))),[],5)))
 (.ret ((.v (.one (.z (.int .i64 (.lit 1))))),[],5))))
 (.ite (.cmp .gtr (.ar .sub .i64 (.ar .mul .i64 (.var 0) (.var 3)) (.ar .mul .i64 (.var 1) (.var 2))) (.lit 0))
 (.ret ((.v (.one (.z (.int .i64 (.lit (-1)))))),[],6))
 (.ite (.cmp .lss (.ar .sub .i64 (.ar .mul .i64 (.var 0) (.var 3)) (.ar .mul .i64 (.var 1) (.var 2))) (.lit 0))
 (.ret ((.v (.one (.z (.int .i64 (.lit 1))))),[],8))
 (.ret ((.v (.one (.z (.int .i64 (.lit 0))))),[],8)))))
 (.ite (.cmp .gtr (.var 0) (.lit 0))
 (.ite (.cmp .gtr (.var 1) (.lit 0))
 (.ret ((.v (.one (.z (.int .i64 (.lit (-1)))))),[],5))
 (.ite (.cmp .eql (.var 1) (.lit 0))
 (.ite (.cmp .gtr (.var 0) (.lit 0))
 (.ret ((.v (.one (.z (.int .i64 (.lit (-1)))))),[],5))
 (.ret ((.v (.one (.z (.int .i64 (.lit 1))))),[],5)))
 (.ret ((.v (.one (.z (.int .i64 (.lit 1))))),[],5))))
 (.ite (.cmp .gtr (.ar .sub .i64 (.ar .mul .i64 (.var 0) (.var 3)) (.ar .mul .i64 (.var 1) (.var 2))) (.lit 0))
 (.ret ((.v (.one (.z (.int .i64 (.lit (-1)))))),[],6))
 (.ite (.cmp .lss (.ar .sub .i64 (.ar .mul .i64 (.var 0) (.var 3)) (.ar .mul .i64 (.var 1) (.var 2))) (.lit 0))
 (.ret ((.v (.one (.z (.int .i64 (.lit 1))))),[],8))
 (.ret ((.v (.one (.z (.int .i64 (.lit 0))))),[],8)))))))
 (.ite (.cmp .gtr (.var 3) (.lit 0))
 (.ite (.cmp .gtr (.var 1) (.lit 0))
 (.ret ((.v (.one (.z (.int .i64 (.lit (-1)))))),[],5))
 (.ite (.cmp .eql (.var 1) (.lit 0))
 (.ite (.cmp .gtr (.var 0) (.lit 0))
 (.ret ((.v (.one (.z (.int .i64 (.lit (-1)))))),[],5))
 (.ret ((.v (.one (.z (.int .i64 (.lit 1))))),[],5)))
 (.ret ((.v (.one (.z (.int .i64 (.lit 1))))),[],5))))
 (.ite (.cmp .eql (.var 3) (.lit 0))
 (.ite (.cmp .gtr (.var 2) (.lit 0))
 (.ite (.cmp .gtr (.var 1) (.lit 0))
 (.ret ((.v (.one (.z (.int .i64 (.lit (-1)))))),[],5))
 (.ite (.cmp .eql (.var 1) (.lit 0))
 (.ite (.cmp .gtr (.var 0) (.lit 0))
 (.ret ((.v (.one (.z (.int .i64 (.lit (-1)))))),[],5))
 (.ret ((.v (.one (.z (.int .i64 (.lit 1))))),[],5)))
 (.ret ((.v (.one (.z (.int .i64 (.lit 1))))),[],5))))
 (.ite (.cmp .gtr (.ar .sub .i64 (.ar .mul .i64 (.var 0) (.var 3)) (.ar .mul .i64 (.var 1) (.var 2))) (.lit 0))
 (.ret ((.v (.one (.z (.int .i64 (.lit (-1)))))),[],6))
 (.ite (.cmp .lss (.ar .sub .i64 (.ar .mul .i64 (.var 0) (.var 3)) (.ar .mul .i64 (.var 1) (.var 2))) (.lit 0))
 (.ret ((.v (.one (.z (.int .i64 (.lit 1))))),[],8))
 (.ret ((.v (.one (.z (.int .i64 (.lit 0))))),[],8)))))
 (.ite (.cmp .gtr (.ar .sub .i64 (.ar .mul .i64 (.var 0) (.var 3)) (.ar .mul .i64 (.var 1) (.var 2))) (.lit 0))
 (.ret ((.v (.one (.z (.int .i64 (.lit (-1)))))),[],6))
 (.ite (.cmp .lss (.ar .sub .i64 (.ar .mul .i64 (.var 0) (.var 3)) (.ar .mul .i64 (.var 1) (.var 2))) (.lit 0))
 (.ret ((.v (.one (.z (.int .i64 (.lit 1))))),[],8))
 (.ret ((.v (.one (.z (.int .i64 (.lit 0))))),[],8))))))))
set_option maxRecDepth 100000 in
theorem b6A:T.norm 0 (call Tryz.prog ctB (Lt.of []) 100 146 (i6 0 [O6,O6]) [] 0) TT.ret=a5V:=by kernel_rfl
theorem b3C:a5V.low 1000=true:=by kernel_rfl
def b4g:TT j6:=
(.ite (.not (.and (.cmp .eql (.var 0) (.lit 0)) (.cmp .eql (.var 1) (.lit 0))))
 (.ite (.cmp .leq (.mx (.var 0) (.var 1)) (.lit 1000000))
 (.ite (.cmp .geq (.mn (.var 0) (.var 1)) (.lit (-1000000)))
 (.ite (.not (.and (.cmp .eql (.var 2) (.lit 0)) (.cmp .eql (.var 3) (.lit 0))))
 (.ite (.cmp .leq (.mx (.var 2) (.var 3)) (.lit 1000000))
 (.ite (.cmp .geq (.mn (.var 2) (.var 3)) (.lit (-1000000)))
 (.ite (.cmp .geq (.var 4) (.lit 1))
 (.ite (.cmp .leq (.var 4) (.lit 3))
 (.ite (.cmp .geq (.var 5) (.lit 1))
 (.ret ((.v (.one (.z (.bool (.cmp .leq (.var 5) (.lit 3000000)))))),[],3))
 (.ret ((.v (.one (.z (.bool (.lit false))))),[],3)))
 (.ret ((.v (.one (.z (.bool (.lit false))))),[],3)))
 (.ret ((.v (.one (.z (.bool (.lit false))))),[],3)))
 (.ret ((.v (.one (.z (.bool (.lit false))))),[],3)))
 (.ret ((.v (.one (.z (.bool (.lit false))))),[],3)))
 (.ret ((.v (.one (.z (.bool (.lit false))))),[],3)))
 (.ret ((.v (.one (.z (.bool (.lit false))))),[],2)))
 (.ret ((.v (.one (.z (.bool (.lit false))))),[],2)))
 (.ret ((.v (.one (.z (.bool (.lit false))))),[],2)))
set_option maxRecDepth 100000 in
theorem c4O:T.norm 0 (call Tryz.prog ctB (Lt.of []) 100 124 (i6 0 [sec]) [] 0) TT.ret=b4g:=by kernel_rfl
theorem c2t:b4g.low 1000=true:=by kernel_rfl
def a3A(ds:List D):Bool:=g9 (c9 ds 0) (c9 ds 1)&&n7 (d9 ds 2)
def O3(ds:List D):Int:=if a3A ds then t3 (d9 ds 2) (c9 ds 0) (c9 ds 1) (d9 ds 2).length 0 false else 0
def P8(ds:List D):Int:=if a3A ds then 0 else 1
theorem d8j(W:World)(ds l:List D):(f0 KB W ds).fb 3 l=s9 l:=by simp only[f0,KB,KA,K9,K8,K7,K6,K5,K]
theorem d6C(W:World)(ds l:List D):(f0 KB W ds).fb 69 l=H3 l:=by simp only[f0,KB]
theorem d7K(W:World)(ds l:List D):(f0 KB W ds).fi 67 l=a2B l:=by simp only[f0,KB,KA,K9,K8,K7,K6,K5,K]
theorem Y4(r:Rows):H3 [.l r]=n7 r:=rfl
theorem a0v(r:Rows)(x y:Int):a2B [.l r,.i x,.i y]=t3 r x y r.length 0 false:=rfl
theorem d7N:k8 Tryz.prog 188 [pt,v9] (fun ds=> .tuple #[.int .i64 (O3 ds),.int .i64 (P8 ds)]):=by
 refine GivesIf.all (i7 KB (by kernel_rfl) (fun ρ h=>a9B (Sees.of h 70)) (by kernel_rfl) c5D c1w (by decide) (fun W vals ds hr _=> ?_))
 simp only[b7a,g8,Nat.reduceBEq,Nat.reduceLT,Nat.reduceSub,d8j,d6C,d7K,E5,Y4,a0v]
 refine⟨fun h=> ?_,fun h=>⟨fun h'=> ?_,fun h'=> ?_⟩⟩
 ·simp [O3,P8,a3A,h]
 ·simp [O3,P8,a3A,h']
 ·simp [O3,P8,a3A,h,h']
theorem d2v(o o':BinOp)(a b c d:Int):(u7 o a b=u7 o' c d)=(p6 o a b↔p6 o' c d):=by rw[Bool.eq_iff_iff,x7,x7]
def a5F(a b c d:Int):Int:=IntKind.i64.wrap (IntKind.i64.wrap (a*d)-IntKind.i64.wrap (b*c))
def u6(a b c d:Int):Int:=if 0<b∨(b=0∧0<a) then(if 0<d∨(d=0∧0<c) then(if 0<a5F a b c d then -1 else if a5F a b c d<0 then 1 else 0) else -1)
 else(if 0<d∨(d=0∧0<c) then 1 else(if 0<a5F a b c d then -1 else if a5F a b c d<0 then 1 else 0))
def a4W(ds:List D):Int:=u6 (c9 ds 0) (c9 ds 1) (c9 ds 2) (c9 ds 3)
set_option maxHeartbeats 1000000 in
theorem c9A:k8 Tryz.prog 146 [O6,O6] (fun ds=> .int .i64 (a4W ds)):=by
 refine GivesIf.all (i7 KB (by kernel_rfl) (fun ρ h=>a9B (Sees.of h 70)) (by kernel_rfl) b6A b3C (by decide) (fun W vals ds hr _=> ?_))
 simp only[a5V,g8,Nat.reduceBEq,Nat.reduceLT,Nat.reduceSub]
 simp only[a4W,u6]
 rw[show IntKind.i64.wrap (IntKind.i64.wrap (c9 ds 0*c9 ds 3)-IntKind.i64.wrap (c9 ds 1*c9 ds 2))=a5F (c9 ds 0) (c9 ds 1) (c9 ds 2) (c9 ds 3) from rfl]
 generalize a5F (c9 ds 0) (c9 ds 1) (c9 ds 2) (c9 ds 3)=z
 generalize c9 ds 0=a
 generalize c9 ds 1=b
 generalize c9 ds 2=c
 generalize c9 ds 3=d
 repeat' (first | (intro h;skip) | (refine And.intro ?_ ?_))
 all_goals (congr 1;(try simp only[Bool.not_eq_true',Bool.not_eq_false',beq_iff_eq,beq_eq_false_iff_ne,ne_eq,d2v,p6] at *);(repeat' split)<;>omega)
def a7V(a b c d e f:Int):Bool:=decide (¬(a=0∧b=0)∧(-1000000≤a∧a≤1000000)∧(-1000000≤b∧b≤1000000)∧¬(c=0∧d=0)∧(-1000000≤c∧c≤1000000)∧(-1000000≤d∧d≤1000000)∧(1≤e∧e≤3)∧1≤f∧f≤3000000)
def a1F(ds:List D):Bool:=a7V (c9 ds 0) (c9 ds 1) (c9 ds 2) (c9 ds 3) (c9 ds 4) (c9 ds 5)
theorem d5E:k8 Tryz.prog 124 [sec] (fun ds=> .bool (a1F ds)):=by
 refine GivesIf.all (i7 KB (by kernel_rfl) (fun ρ h=>a9B (Sees.of h 70)) (by kernel_rfl) c4O c2t (by decide) (fun W vals ds hr _=> ?_))
 simp only[b4g,g8,Nat.reduceBEq,Nat.reduceLT,Nat.reduceSub]
 simp only[a1F,a7V]
 repeat' (first | (intro h;skip) | (refine And.intro ?_ ?_))
 all_goals (congr 1;rw[Bool.eq_iff_iff];try rw[x7])
 all_goals (simp only[p6,decide_eq_true_eq,Bool.false_eq_true,false_iff];omega)
def KC:Interp where
 fi n l:=match n with | 70=>O3 l | 71=>P8 l | 72=>a4W l | n=>KB.fi n l
 fb n l:=match n with | 73=>a1F l | n=>KB.fb n l
 fd _ _:=[]
theorem d7B{ρ:Env}(h:Sees ρ KC 74):Sees ρ KB 70:=h.trans (by decide) fun n l hn=>by
 refine⟨?_,?_⟩
 ·
  simp only[KC]
  split<;>first | omega | rfl
 ·
  simp only[KC]
  split<;>first | omega | rfl
def d0O:=o7 [pt,v9] fun al=> .ret (.tup [.one (w6 70 O3 al),.one (w6 71 P8 al)])
theorem c8w{ρ:Env}(h:Sees ρ KC 74):i9 Tryz.prog ρ 188 d0O:=
 k5 d7N (fun _=>rfl) (fun al=>by simp only[V.val,V2.val,S.val,S0.val,w6,G8,List.map_cons,List.map_nil,o6 (s:=70) (f:=O3) (fun l=>by rw[(h 70 l (by decide)).1];simp only[KC]),o6 (s:=71) (f:=P8) (fun l=>by rw[(h 71 l (by decide)).1];simp only[KC])];try rfl)
def b5f:=o7 [O6,O6] fun al=> .ret (iV .i64 (iF 72 a4W al))
theorem b8O{ρ:Env}(h:Sees ρ KC 74):i9 Tryz.prog ρ 146 b5f:=
 k5 c9A (fun _=>rfl) (fun al=>by simp only[iV,bV,V.s0,V.val,V2.val,S.val,S0.val,o6 (s:=72) (f:=a4W) (fun l=>by rw[(h 72 l (by decide)).1];simp only[KC])];try rfl)
def c6j:=o7 [sec] fun al=> .ret (bV (bF 73 a1F al))
theorem c4L{ρ:Env}(h:Sees ρ KC 74):i9 Tryz.prog ρ 124 c6j:=
 k5 d5E (fun _=>rfl) (fun al=>by simp only[iV,bV,V.s0,V.val,V2.val,S.val,S0.val,k7 (s:=73) (f:=a1F) (fun l=>by rw[(h 73 l (by decide)).2];simp only[KC])];try rfl)
def ctC:Ct:=(188,d0O)::(146,b5f)::(124,c6j)::ctB
theorem c5v{ρ:Env}(h:Sees ρ KC 74):CtOk Tryz.prog ρ ctC:= .cons (c8w h)<| .cons (b8O h)<| .cons (c4L h) (a9B (d7B h))
def a8x:Sh:= .one (.sl b1T)
def c2g:TT j6:=
(.ite (.cmp .eql (.fn 72 (.i (.var 0) (.i (.var 1) (.i (.var 2) (.i (.var 3) .nil))))) (.lit (-1)))
 (.ite (.cmp .leq (.fn 72 (.i (.var 0) (.i (.var 1) (.i (.var 6) (.i (.var 7) .nil))))) (.lit 0))
 (.ret ((.v (.one (.z (.bool (.not (.cmp .leq (.fn 72 (.i (.var 2) (.i (.var 3) (.i (.var 6) (.i (.var 7) .nil))))) (.lit 0))))))),[],4))
 (.ret ((.v (.one (.z (.bool (.lit false))))),[],4)))
 (.ite (.cmp .eql (.fn 72 (.i (.var 0) (.i (.var 1) (.i (.var 2) (.i (.var 3) .nil))))) (.lit 1))
 (.ite (.cmp .leq (.fn 72 (.i (.var 0) (.i (.var 1) (.i (.var 6) (.i (.var 7) .nil))))) (.lit 0))
 (.ret ((.v (.one (.z (.bool (.lit true))))),[],4))
 (.ret ((.v (.one (.z (.bool (.not (.cmp .leq (.fn 72 (.i (.var 2) (.i (.var 3) (.i (.var 6) (.i (.var 7) .nil))))) (.lit 0))))))),[],4)))
 (.ret ((.v (.one (.z (.bool (.lit true))))),[],4))))
set_option maxRecDepth 100000 in
theorem c7I:T.norm 0 (call Tryz.prog ctC (Lt.of []) 100 125 (i6 0 [sec,O6]) [] 0) TT.ret=c2g:=by kernel_rfl
theorem c4b:c2g.low 1000=true:=by kernel_rfl
def a2k(a b c d x y:Int):Bool:=if u6 a b c d= -1 then decide (u6 a b x y≤0)&& !decide (u6 c d x y≤0)
 else if u6 a b c d=1 then decide (u6 a b x y≤0)|| !decide (u6 c d x y≤0) else true
def hasL(ds:List D):Bool:=a2k (c9 ds 0) (c9 ds 1) (c9 ds 2) (c9 ds 3) (c9 ds 6) (c9 ds 7)
theorem d7y(W:World)(ds l:List D):(f0 KC W ds).fi 72 l=a4W l:=by simp only[f0,KC]
theorem c5d(a b c d:Int):a4W [.i a,.i b,.i c,.i d]=u6 a b c d:=rfl
theorem d8U:k8 Tryz.prog 125 [sec,O6] (fun ds=> .bool (hasL ds)):=by
 refine GivesIf.all (i7 KC (by kernel_rfl) (fun ρ h=>c5v (Sees.of h 74)) (by kernel_rfl) c7I c4b (by decide) (fun W vals ds hr _=> ?_))
 simp only[c2g,g8,Nat.reduceBEq,Nat.reduceLT,Nat.reduceSub,d7y,c5d]
 simp only[hasL,a2k]
 refine⟨fun h=>⟨fun h'=> ?_,fun h'=> ?_⟩,fun h=>⟨fun h1=>⟨fun h'=> ?_,fun h'=> ?_⟩,fun h1=> ?_⟩⟩
 all_goals simp [*,u7]
def KD:Interp where
 fi n l:=KC.fi n l
 fb n l:=match n with | 74=>hasL l | n=>KC.fb n l
 fd _ _:=[]
theorem d7z{ρ:Env}(h:Sees ρ KD 75):Sees ρ KC 74:=h.trans (by decide) fun n l hn=>by
 refine⟨?_,?_⟩
 ·
  rfl
 ·
  simp only[KD]
  split<;>first | omega | rfl
def d5e:=o7 [sec,O6] fun al=> .ret (bV (bF 74 hasL al))
theorem d3i{ρ:Env}(h:Sees ρ KD 75):i9 Tryz.prog ρ 125 d5e:=
 k5 d8U (fun _=>rfl) (fun al=>by simp only[iV,bV,V.s0,V.val,V2.val,S.val,S0.val,k7 (s:=74) (f:=hasL) (fun l=>by rw[(h 74 l (by decide)).2];simp only[KD])];try rfl)
def c7E:Ct:=(125,d5e)::ctC
theorem b9A{ρ:Env}(h:Sees ρ KD 75):CtOk Tryz.prog ρ c7E:= .cons (d3i h) (c5v (d7z h))
def b6t:TT j6:=
(.loop 0 1000 ⟨[(0,(.lit 0))],[],[]⟩
 (.ite (.cmp .lss (.var 1000) (.len (.var 0)))
 (.ob (.tru (.cmp .leq (.lit 0) (.var 1000)))
 (.ob (.tru (.cmp .lss (.var 1000) (.len (.var 0))))
 (.ite (.not (.fn 73 (.i (.rd (.var 0) (.var 1000) 0) (.i (.rd (.var 0) (.var 1000) 1) (.i (.rd (.var 0) (.var 1000) 2) (.i (.rd (.var 0) (.var 1000) 3) (.i (.rd (.var 0) (.var 1000) 4) (.i (.rd (.var 0) (.var 1000) 5) .nil))))))))
 (.ret ((.v (.one (.z (.bool (.lit false))))),[],4))
 (.ob (.tru (.lit true))
 (.ob (.tru (.cmp .leq (.lit 0) (.var 1000)))
 (.ob (.tru (.cmp .leq (.var 1000) (.len (.var 0))))
 (.loop 1 3000 ⟨[(0,(.lit 0))],[],[]⟩
 (.ite (.cmp .lss (.var 3000) (.len (.sub (.var 0) (.lit 0) (.var 1000))))
 (.ob (.tru (.cmp .leq (.lit 0) (.var 3000)))
 (.ob (.tru (.cmp .lss (.var 3000) (.len (.sub (.var 0) (.lit 0) (.var 1000)))))
 (.ite (.fn 74 (.i (.rd (.var 0) (.var 1000) 0) (.i (.rd (.var 0) (.var 1000) 1) (.i (.rd (.var 0) (.var 1000) 2) (.i (.rd (.var 0) (.var 1000) 3) (.i (.rd (.var 0) (.var 1000) 4) (.i (.rd (.var 0) (.var 1000) 5) (.i (.rd (.sub (.var 0) (.lit 0) (.var 1000)) (.var 3000) 0) (.i (.rd (.sub (.var 0) (.lit 0) (.var 1000)) (.var 3000) 1) .nil)))))))))
 (.ret ((.v (.one (.z (.bool (.lit false))))),[],4))
 (.ite (.fn 74 (.i (.rd (.sub (.var 0) (.lit 0) (.var 1000)) (.var 3000) 0) (.i (.rd (.sub (.var 0) (.lit 0) (.var 1000)) (.var 3000) 1) (.i (.rd (.sub (.var 0) (.lit 0) (.var 1000)) (.var 3000) 2) (.i (.rd (.sub (.var 0) (.lit 0) (.var 1000)) (.var 3000) 3) (.i (.rd (.sub (.var 0) (.lit 0) (.var 1000)) (.var 3000) 4) (.i (.rd (.sub (.var 0) (.lit 0) (.var 1000)) (.var 3000) 5) (.i (.rd (.var 0) (.var 1000) 0) (.i (.rd (.var 0) (.var 1000) 1) .nil)))))))))
 (.ret ((.v (.one (.z (.bool (.lit false))))),[],4))
 (.next 1 ⟨[(0,(.ar .add .i64 (.var 3000) (.lit 1)))],[],[]⟩)))))
 (.next 0 ⟨[(0,(.ar .add .i64 (.var 1000) (.lit 1)))],[],[]⟩)))))))))
 (.ret ((.v (.one (.z (.bool (.cmp .leq (.len (.var 0)) (.lit 12)))))),[],4))))
set_option maxRecDepth 100000 in
theorem c6t:T.norm 0 (call Tryz.prog c7E (Lt.of []) 100 95 (i6 0 [a8x]) [] 0) TT.ret=b6t:=by kernel_rfl
theorem c2N:b6t.low 1000=true:=by kernel_rfl
theorem c9k(r:Rows){b:Nat}(h:b≤r.length):(m8 r 0 (b:Int)).length=b:=by
 simp only[m8,List.length_take,List.length_drop]
 simp
 omega
theorem d2d(r:Rows){b i:Nat}(j:Nat)(h:i<b):lg (m8 r 0 (b:Int)) (i:Int) j=lg r (i:Int) j:=by
 have:w8 (m8 r 0 (b:Int)) (i:Int) j=w8 r (i:Int) j:=by
  simp only[w8,m8]
  simp [List.getD_eq_getElem?_getD,List.getElem?_take,h]
 rw[lg,lg,this]
def a3P(r:Rows)(i:Nat):Bool:=a7V (lg r i 0) (lg r i 1) (lg r i 2) (lg r i 3) (lg r i 4) (lg r i 5)
def b7q(r:Rows)(i k:Nat):Bool:=a2k (lg r i 0) (lg r i 1) (lg r i 2) (lg r i 3) (lg r k 0) (lg r k 1)||a2k (lg r k 0) (lg r k 1) (lg r k 2) (lg r k 3) (lg r i 0) (lg r i 1)
def a5J(r:Rows)(i:Nat):Nat→Nat→Bool
 | 0,_=>true
 | f+1,k=> !b7q r i k&&a5J r i f (k+1)
def a0C(r:Rows):Nat→Nat→Bool
 | 0,_=>true
 | f+1,i=>(a3P r i&&a5J r i i 0)&&a0C r f (i+1)
def X9(r:Rows):Bool:=a0C r r.length 0&&decide (r.length≤12)
def R7(ds:List D):Bool:=X9 (d9 ds 0)
theorem d0G(W:World)(ds l:List D):(f0 KD W ds).fb 73 l=a1F l:=by simp only[f0,KD,KC]
theorem d0b(W:World)(ds l:List D):(f0 KD W ds).fb 74 l=hasL l:=by simp only[f0,KD]
theorem a6X(a b c d e f:Int):a1F [.i a,.i b,.i c,.i d,.i e,.i f]=a7V a b c d e f:=rfl
theorem b2B(a b c d e f x y:Int):hasL [.i a,.i b,.i c,.i d,.i e,.i f,.i x,.i y]=a2k a b c d x y:=rfl
theorem b5m{W:World}{vals:List Value}{ds:List D}{sh:List Sh}(h:A4 W (a8x::sh) vals ds):(d9 ds 0).length≤281474976710656:=by
 obtain⟨v,vs',d,ds',rfl,rfl,⟨d,rfl,h⟩,_⟩:=h
 rw[y7] at h
 obtain⟨r,rfl,a,n,c,_,hs,_⟩:=h
 have e1:=hs.len
 have e2:=hs.big
 show r.length≤_
 omega
theorem d6z:k8 Tryz.prog 95 [a8x] (fun ds=> .bool (R7 ds)):=by
 refine GivesIf.all (i7 KD (by kernel_rfl) (fun ρ h=>b9A (Sees.of h 75)) (by kernel_rfl) c6t c2N (by decide) (fun W vals ds hr _=> ?_))
 have hlen:=b5m hr
 simp only[b6t]
 generalize hr0:d9 ds 0=r at hlen
 have hP:R7 ds=X9 r:=by rw[R7,hr0]
 rw[hP]
 refine TT.sat_loop (fun v=>∃i:Nat,v.i 0=i∧i≤r.length∧(a0C r (r.length-i) i&&decide (r.length≤12))=X9 r) (fun v=>r.length-(v.i 0).toNat)
  ⟨0,by simp [j7,i8,E.ev],by omega,rfl⟩ (fun v hv=> ?_)
 obtain⟨i,i0,i1,i2⟩:=hv
 simp only[g8,Nat.reduceBEq,Nat.reduceLT,Nat.reduceSub,i0,hr0,d0G,d0b,a6X,b2B]
 refine⟨fun hc=> ?_,fun hc=> ?_⟩
 ·have hi:i<r.length:=by omega
  obtain⟨f,hf⟩:∃f,r.length-i=f+1:=⟨r.length-i-1,by omega⟩
  rw[hf,a0C] at i2
  have hsub:=c9k r (show i≤r.length by omega)
  refine⟨by omega,by omega,fun p=> ?_,fun p=>⟨by omega,by omega,?_⟩⟩
  ·rw[←i2,a3P,p];rfl
  refine TT.sat_loop (fun v=>∃k:Nat,v.i 0=k∧k≤i∧((a5J r i (i-k) k&&a0C r f (i+1))&&decide (r.length≤12))=X9 r) (fun v=>i-(v.i 0).toNat)
   ⟨0,by simp [j7,i8,E.ev],by omega,by rw[←i2,a3P,p];rfl⟩ (fun u hu=> ?_)
  obtain⟨k,k0,k1,k2⟩:=hu
  simp only[g8,Nat.reduceBEq,Nat.reduceLT,Nat.reduceSub,i0,k0,hr0,hsub,d0G,d0b,a6X,b2B]
  refine⟨fun hk=> ?_,fun hk=> ?_⟩
  ·have hki:k<i:=by omega
   obtain⟨g,hg⟩:∃g,i-k=g+1:=⟨i-k-1,by omega⟩
   rw[hg,a5J,b7q] at k2
   simp only[d2d r _ hki]
   refine⟨by omega,by omega,fun q=> ?_,fun q=>⟨fun q'=> ?_,fun q'=>⟨⟨k+1,?_,by omega,?_⟩,?_⟩⟩⟩
   ·rw[←k2,q];rfl
   ·rw[←k2,q,q'];rfl
   ·rw[f8 _ (by omega) (by omega)];rfl
   ·rw[show i-(k+1)=g by omega,←k2,q,q'];rfl
   ·rw[f8 _ (by omega) (by omega)];omega
  ·have:i-k=0:=by omega
   rw[this,a5J,Bool.true_and] at k2
   refine⟨⟨i+1,?_,by omega,?_⟩,?_⟩
   ·rw[f8 _ (by omega) (by omega)];rfl
   ·rw[show r.length-(i+1)=f by omega];exact k2
   ·rw[f8 _ (by omega) (by omega)];omega
 ·have:r.length-i=0:=by omega
  rw[this,a0C,Bool.true_and] at i2
  rw[←i2]
  congr 1
  rw[Bool.eq_iff_iff,x7,decide_eq_true_eq]
  simp only[p6]
  omega
def KE:Interp where
 fi n l:=KD.fi n l
 fb n l:=match n with | 75=>R7 l | n=>KD.fb n l
 fd _ _:=[]
theorem d6p{ρ:Env}(h:Sees ρ KE 76):Sees ρ KD 75:=h.trans (by decide) fun n l hn=>by
 refine⟨?_,?_⟩
 ·
  rfl
 ·
  simp only[KE]
  split<;>first | omega | rfl
def d0c:=o7 [a8x] fun al=> .ret (bV (bF 75 R7 al))
theorem c9z{ρ:Env}(h:Sees ρ KE 76):i9 Tryz.prog ρ 95 d0c:=
 k5 d6z (fun _=>rfl) (fun al=>by simp only[iV,bV,V.s0,V.val,V2.val,S.val,S0.val,k7 (s:=75) (f:=R7) (fun l=>by rw[(h 75 l (by decide)).2];simp only[KE])];try rfl)
def ctE:Ct:=(95,d0c)::c7E
theorem c7l{ρ:Env}(h:Sees ρ KE 76):CtOk Tryz.prog ρ ctE:= .cons (c9z h) (b9A (d6p h))
def v5:Sh:= .agg [.int .i64,.int .i64,.int .i64,.int .i64,.int .i64,.sl ptK,.int .i64,.int .i64,.sl b1T]
def b1u:TT j6:=
(.ite (.cmp .lss (.var 0) (.lit 1))
 (.ret ((.v (.one (.z (.bool (.lit false))))),[],1))
 (.ite (.cmp .gtr (.var 0) (.lit 100000))
 (.ret ((.v (.one (.z (.bool (.lit false))))),[],1))
 (.ite (.cmp .lss (.var 7) (.lit 0))
 (.ret ((.v (.one (.z (.bool (.lit false))))),[],1))
 (.ite (.cmp .gtr (.var 7) (.lit 999))
 (.ret ((.v (.one (.z (.bool (.lit false))))),[],1))
 (.ite (.cmp .lss (.var 6) (.lit 0))
 (.ret ((.v (.one (.z (.bool (.lit false))))),[],1))
 (.ite (.cmp .gtr (.var 6) (.lit 100000))
 (.ret ((.v (.one (.z (.bool (.lit false))))),[],1))
 (.ite (.cmp .lss (.var 4) (.lit 0))
 (.ret ((.v (.one (.z (.bool (.lit false))))),[],1))
 (.ite (.cmp .gtr (.var 4) (.lit 100000))
 (.ret ((.v (.one (.z (.bool (.lit false))))),[],1))
 (.ite (.cmp .eql (.var 1) (.lit 1))
 (.ite (.cmp .eql (.var 1) (.lit 1))
 (.ite (.fn 3 (.i (.var 2) (.i (.var 3) .nil)))
 (.ite (.fn 3 (.i (.ar .sub .i64 (.var 2) (.var 4)) (.i (.ar .sub .i64 (.var 3) (.var 4)) .nil)))
 (.ite (.fn 3 (.i (.ar .add .i64 (.var 2) (.var 4)) (.i (.ar .add .i64 (.var 3) (.var 4)) .nil)))
 (.ite (.cmp .eql (.len (.var 5)) (.lit 0))
 (.ret ((.v (.one (.z (.bool (.cmp .eql (.len (.var 8)) (.lit 0)))))),[],2))
 (.ret ((.v (.one (.z (.bool (.lit false))))),[],2)))
 (.ret ((.v (.one (.z (.bool (.lit false))))),[],2)))
 (.ret ((.v (.one (.z (.bool (.lit false))))),[],2)))
 (.ret ((.v (.one (.z (.bool (.lit false))))),[],1)))
 (.ite (.cmp .eql (.var 1) (.lit 6))
 (.ite (.cmp .gtr (.var 6) (.lit 0))
 (.ret ((.v (.one (.z (.bool (.lit false))))),[],1))
 (.ite (.fn 69 (.x (.var 5) .nil))
 (.ite (.and (.cmp .eql (.var 2) (.lit 0)) (.cmp .eql (.var 3) (.lit 0)))
 (.ite (.cmp .eql (.var 4) (.lit 0))
 (.ret ((.v (.one (.z (.bool (.cmp .eql (.len (.var 8)) (.lit 0)))))),[],1))
 (.ret ((.v (.one (.z (.bool (.lit false))))),[],1)))
 (.ret ((.v (.one (.z (.bool (.lit false))))),[],1)))
 (.ret ((.v (.one (.z (.bool (.lit false))))),[],1))))
 (.ite (.cmp .eql (.var 1) (.lit 3))
 (.ite (.fn 69 (.x (.var 5) .nil))
 (.ite (.and (.cmp .eql (.var 2) (.lit 0)) (.cmp .eql (.var 3) (.lit 0)))
 (.ite (.cmp .eql (.var 4) (.lit 0))
 (.ret ((.v (.one (.z (.bool (.cmp .eql (.len (.var 8)) (.lit 0)))))),[],1))
 (.ret ((.v (.one (.z (.bool (.lit false))))),[],1)))
 (.ret ((.v (.one (.z (.bool (.lit false))))),[],1)))
 (.ret ((.v (.one (.z (.bool (.lit false))))),[],1)))
 (.ite (.cmp .eql (.var 1) (.lit 4))
 (.ite (.fn 3 (.i (.var 2) (.i (.var 3) .nil)))
 (.ite (.fn 75 (.x (.var 8) .nil))
 (.ite (.cmp .eql (.var 4) (.lit 0))
 (.ite (.cmp .eql (.var 6) (.lit 0))
 (.ret ((.v (.one (.z (.bool (.cmp .eql (.len (.var 5)) (.lit 0)))))),[],1))
 (.ret ((.v (.one (.z (.bool (.lit false))))),[],1)))
 (.ret ((.v (.one (.z (.bool (.lit false))))),[],1)))
 (.ret ((.v (.one (.z (.bool (.lit false))))),[],1)))
 (.ret ((.v (.one (.z (.bool (.lit false))))),[],1)))
 (.ret ((.v (.one (.z (.bool (.lit false))))),[],1))))))
 (.ite (.cmp .eql (.var 1) (.lit 2))
 (.ite (.cmp .eql (.var 1) (.lit 2))
 (.ite (.fn 3 (.i (.var 2) (.i (.var 3) .nil)))
 (.ite (.fn 3 (.i (.ar .sub .i64 (.var 2) (.var 4)) (.i (.ar .sub .i64 (.var 3) (.var 4)) .nil)))
 (.ite (.fn 3 (.i (.ar .add .i64 (.var 2) (.var 4)) (.i (.ar .add .i64 (.var 3) (.var 4)) .nil)))
 (.ite (.cmp .eql (.len (.var 5)) (.lit 0))
 (.ret ((.v (.one (.z (.bool (.cmp .eql (.len (.var 8)) (.lit 0)))))),[],2))
 (.ret ((.v (.one (.z (.bool (.lit false))))),[],2)))
 (.ret ((.v (.one (.z (.bool (.lit false))))),[],2)))
 (.ret ((.v (.one (.z (.bool (.lit false))))),[],2)))
 (.ret ((.v (.one (.z (.bool (.lit false))))),[],1)))
 (.ite (.cmp .eql (.var 1) (.lit 6))
 (.ite (.cmp .gtr (.var 6) (.lit 0))
 (.ret ((.v (.one (.z (.bool (.lit false))))),[],1))
 (.ite (.fn 69 (.x (.var 5) .nil))
 (.ite (.and (.cmp .eql (.var 2) (.lit 0)) (.cmp .eql (.var 3) (.lit 0)))
 (.ite (.cmp .eql (.var 4) (.lit 0))
 (.ret ((.v (.one (.z (.bool (.cmp .eql (.len (.var 8)) (.lit 0)))))),[],1))
 (.ret ((.v (.one (.z (.bool (.lit false))))),[],1)))
 (.ret ((.v (.one (.z (.bool (.lit false))))),[],1)))
 (.ret ((.v (.one (.z (.bool (.lit false))))),[],1))))
 (.ite (.cmp .eql (.var 1) (.lit 3))
 (.ite (.fn 69 (.x (.var 5) .nil))
 (.ite (.and (.cmp .eql (.var 2) (.lit 0)) (.cmp .eql (.var 3) (.lit 0)))
 (.ite (.cmp .eql (.var 4) (.lit 0))
 (.ret ((.v (.one (.z (.bool (.cmp .eql (.len (.var 8)) (.lit 0)))))),[],1))
 (.ret ((.v (.one (.z (.bool (.lit false))))),[],1)))
 (.ret ((.v (.one (.z (.bool (.lit false))))),[],1)))
 (.ret ((.v (.one (.z (.bool (.lit false))))),[],1)))
 (.ite (.cmp .eql (.var 1) (.lit 4))
 (.ite (.fn 3 (.i (.var 2) (.i (.var 3) .nil)))
 (.ite (.fn 75 (.x (.var 8) .nil))
 (.ite (.cmp .eql (.var 4) (.lit 0))
 (.ite (.cmp .eql (.var 6) (.lit 0))
 (.ret ((.v (.one (.z (.bool (.cmp .eql (.len (.var 5)) (.lit 0)))))),[],1))
 (.ret ((.v (.one (.z (.bool (.lit false))))),[],1)))
 (.ret ((.v (.one (.z (.bool (.lit false))))),[],1)))
 (.ret ((.v (.one (.z (.bool (.lit false))))),[],1)))
 (.ret ((.v (.one (.z (.bool (.lit false))))),[],1)))
 (.ret ((.v (.one (.z (.bool (.lit false))))),[],1))))))
 (.ite (.cmp .eql (.var 1) (.lit 5))
 (.ite (.fn 3 (.i (.var 2) (.i (.var 3) .nil)))
 (.ite (.fn 3 (.i (.ar .sub .i64 (.var 2) (.var 4)) (.i (.ar .sub .i64 (.var 3) (.var 4)) .nil)))
 (.ite (.fn 3 (.i (.ar .add .i64 (.var 2) (.var 4)) (.i (.ar .add .i64 (.var 3) (.var 4)) .nil)))
 (.ite (.cmp .eql (.len (.var 5)) (.lit 0))
 (.ret ((.v (.one (.z (.bool (.cmp .eql (.len (.var 8)) (.lit 0)))))),[],2))
 (.ret ((.v (.one (.z (.bool (.lit false))))),[],2)))
 (.ret ((.v (.one (.z (.bool (.lit false))))),[],2)))
 (.ret ((.v (.one (.z (.bool (.lit false))))),[],2)))
 (.ret ((.v (.one (.z (.bool (.lit false))))),[],1)))
 (.ite (.cmp .eql (.var 1) (.lit 6))
 (.ite (.cmp .gtr (.var 6) (.lit 0))
 (.ret ((.v (.one (.z (.bool (.lit false))))),[],1))
 (.ite (.fn 69 (.x (.var 5) .nil))
 (.ite (.and (.cmp .eql (.var 2) (.lit 0)) (.cmp .eql (.var 3) (.lit 0)))
 (.ite (.cmp .eql (.var 4) (.lit 0))
 (.ret ((.v (.one (.z (.bool (.cmp .eql (.len (.var 8)) (.lit 0)))))),[],1))
 (.ret ((.v (.one (.z (.bool (.lit false))))),[],1)))
 (.ret ((.v (.one (.z (.bool (.lit false))))),[],1)))
 (.ret ((.v (.one (.z (.bool (.lit false))))),[],1))))
 (.ite (.cmp .eql (.var 1) (.lit 3))
 (.ite (.fn 69 (.x (.var 5) .nil))
 (.ite (.and (.cmp .eql (.var 2) (.lit 0)) (.cmp .eql (.var 3) (.lit 0)))
 (.ite (.cmp .eql (.var 4) (.lit 0))
 (.ret ((.v (.one (.z (.bool (.cmp .eql (.len (.var 8)) (.lit 0)))))),[],1))
 (.ret ((.v (.one (.z (.bool (.lit false))))),[],1)))
 (.ret ((.v (.one (.z (.bool (.lit false))))),[],1)))
 (.ret ((.v (.one (.z (.bool (.lit false))))),[],1)))
 (.ite (.cmp .eql (.var 1) (.lit 4))
 (.ite (.fn 3 (.i (.var 2) (.i (.var 3) .nil)))
 (.ite (.fn 75 (.x (.var 8) .nil))
 (.ite (.cmp .eql (.var 4) (.lit 0))
 (.ite (.cmp .eql (.var 6) (.lit 0))
 (.ret ((.v (.one (.z (.bool (.cmp .eql (.len (.var 5)) (.lit 0)))))),[],1))
 (.ret ((.v (.one (.z (.bool (.lit false))))),[],1)))
 (.ret ((.v (.one (.z (.bool (.lit false))))),[],1)))
 (.ret ((.v (.one (.z (.bool (.lit false))))),[],1)))
 (.ret ((.v (.one (.z (.bool (.lit false))))),[],1)))
 (.ret ((.v (.one (.z (.bool (.lit false))))),[],1))))))))))))))))
set_option maxRecDepth 100000 in
theorem c3k:T.norm 0 (call Tryz.prog ctE (Lt.of []) 100 66 (i6 0 [v5]) [] 0) TT.ret=b1u:=by kernel_rfl
theorem b7V:b1u.low 1000=true:=by kernel_rfl
def a7a(id kind x y rad:Int)(area:Rows)(depth sym:Int)(sc:Rows):Prop:=
 (1≤id∧id≤100000)∧(0≤sym∧sym≤999)∧(0≤depth∧depth≤100000)∧(0≤rad∧rad≤100000)∧
 (((kind=1∨kind=2∨kind=5)∧g9 x y=true∧g9 (x-rad) (y-rad)=true∧g9 (x+rad) (y+rad)=true∧(area.length:Int)=0∧(sc.length:Int)=0)∨
  ((kind=3∨(kind=6∧depth=0))∧n7 area=true∧x=0∧y=0∧rad=0∧(sc.length:Int)=0)∨
  (kind=4∧g9 x y=true∧X9 sc=true∧rad=0∧depth=0∧(area.length:Int)=0))
instance (id kind x y rad:Int) (area:Rows) (depth sym:Int) (sc:Rows):Decidable (a7a id kind x y rad area depth sym sc):=by unfold a7a;infer_instance
def z6(id kind x y rad:Int)(area:Rows)(depth sym:Int)(sc:Rows):Bool:=decide (a7a id kind x y rad area depth sym sc)
def G2(ds:List D):Bool:=z6 (c9 ds 0) (c9 ds 1) (c9 ds 2) (c9 ds 3) (c9 ds 4) (d9 ds 5) (c9 ds 6) (c9 ds 7) (d9 ds 8)
theorem d9d(W:World)(ds l:List D):(f0 KE W ds).fb 3 l=s9 l:=by simp only[f0,KE,KD,KC,KB,KA,K9,K8,K7,K6,K5,K]
theorem d7M(W:World)(ds l:List D):(f0 KE W ds).fb 69 l=H3 l:=by simp only[f0,KE,KD,KC,KB]
theorem d6R(W:World)(ds l:List D):(f0 KE W ds).fb 75 l=R7 l:=by simp only[f0,KE]
theorem b5E(r:Rows):R7 [.l r]=X9 r:=rfl
set_option maxHeartbeats 2000000 in
theorem d5h:k8 Tryz.prog 66 [v5] (fun ds=> .bool (G2 ds)):=by
 refine GivesIf.all (i7 KE (by kernel_rfl) (fun ρ h=>c7l (Sees.of h 76)) (by kernel_rfl) c3k b7V (by decide) (fun W vals ds hr _=> ?_))
 simp only[b1u,g8,Nat.reduceBEq,Nat.reduceLT,Nat.reduceSub,d9d,d7M,d6R,E5,Y4,b5E]
 simp only[G2,z6]
 generalize c9 ds 0=id
 generalize c9 ds 1=kind
 generalize c9 ds 2=x
 generalize c9 ds 3=y
 generalize c9 ds 4=rad
 generalize d9 ds 5=area
 generalize c9 ds 6=depth
 generalize c9 ds 7=sym
 generalize d9 ds 8=sc
 have W1:g9 x y=true→0≤rad→rad≤100000→g9 (IntKind.i64.wrap (x-rad)) (IntKind.i64.wrap (y-rad))=g9 (x-rad) (y-rad):=fun h _ _=>by
  rw[t9] at h;rw[f8 (x-rad) (by omega) (by omega),f8 (y-rad) (by omega) (by omega)]
 have W2:g9 x y=true→0≤rad→rad≤100000→g9 (IntKind.i64.wrap (x+rad)) (IntKind.i64.wrap (y+rad))=g9 (x+rad) (y+rad):=fun h _ _=>by
  rw[t9] at h;rw[f8 (x+rad) (by omega) (by omega),f8 (y+rad) (by omega) (by omega)]
 repeat' (first | (intro h;skip) | (refine And.intro ?_ ?_))
 all_goals (refine congrArg Value.bool ?_;rw[Bool.eq_iff_iff];simp only[x7,p6,decide_eq_true_eq,Bool.false_eq_true,false_iff,a7a])
 all_goals clear hr
 all_goals grind
def KF:Interp where
 fi n l:=KE.fi n l
 fb n l:=match n with | 76=>G2 l | n=>KE.fb n l
 fd _ _:=[]
theorem d6V{ρ:Env}(h:Sees ρ KF 77):Sees ρ KE 76:=h.trans (by decide) fun n l hn=>by
 refine⟨?_,?_⟩
 ·
  rfl
 ·
  simp only[KF]
  split<;>first | omega | rfl
def c4o:=o7 [v5] fun al=> .ret (bV (bF 76 G2 al))
theorem c5E{ρ:Env}(h:Sees ρ KF 77):i9 Tryz.prog ρ 66 c4o:=
 k5 d5h (fun _=>rfl) (fun al=>by simp only[iV,bV,V.s0,V.val,V2.val,S.val,S0.val,k7 (s:=76) (f:=G2) (fun l=>by rw[(h 76 l (by decide)).2];simp only[KF])];try rfl)
theorem d8e{ρ:Env}(h:Sees ρ KF 77):Sees ρ K 30:=h.trans (by decide) fun n l hn=>by
 have e:n<30:=hn
 refine⟨?_,?_⟩
 ·simp only[KF,KE,KD,KC,KB,KA,K9,K8,K7,K6,K5]
  (repeat' split)<;>first | omega | rfl
 ·simp only[KF,KE,KD,KC,KB,KA,K9,K8,K7,K6,K5]
  (repeat' split)<;>first | omega | rfl
def ctF:Ct:=(66,c4o)::(193,c5W)::ctE
theorem c4M{ρ:Env}(h:Sees ρ KF 77):CtOk Tryz.prog ρ ctF:= .cons (c5E h)<| .cons (c4J (d8e h))<|(c7l (d6V h))
def a7Z:TT j6:=
(.ite (.not (.fn 76 (.i (.var 0) (.i (.var 1) (.i (.var 2) (.i (.var 3) (.i (.var 4) (.x (.var 5) (.i (.var 6) (.i (.var 7) (.x (.var 8) .nil)))))))))))
 (.ret ((.tup [(.one (.z (.bool (.lit false)))),(.one (.z (.int .i64 (.lit 1))))]),[],2))
 (.ite (.not (.fn 3 (.i (.var 9) (.i (.var 10) .nil))))
 (.ret ((.tup [(.one (.z (.bool (.lit false)))),(.one (.z (.int .i64 (.lit 1))))]),[],2))
 (.ite (.cmp .eql (.var 1) (.lit 4))
 (.ret ((.tup [(.one (.z (.bool (.lit false)))),(.one (.z (.int .i64 (.lit 0))))]),[],5))
 (.ite (.cmp .eql (.var 1) (.lit 3))
 (.ite (.cmp .eql (.var 1) (.lit 3))
 (.ite (.cmp .eql (.fn 71 (.i (.var 9) (.i (.var 10) (.x (.var 5) .nil)))) (.lit 0))
 (.ret ((.tup [(.one (.z (.bool (.cmp .geq (.fn 70 (.i (.var 9) (.i (.var 10) (.x (.var 5) .nil)))) (.lit 0))))),(.one (.z (.int .i64 (.lit 0))))]),[],4))
 (.ret ((.tup [(.one (.z (.bool (.lit false)))),(.one (.z (.int .i64 (.lit 0))))]),[],4)))
 (.ite (.cmp .eql (.fn 13 (.i (.var 9) (.i (.var 10) (.i (.var 2) (.i (.var 3) (.i (.var 2) (.i (.var 3) (.i (.var 4) .nil)))))))) (.lit 0))
 (.ret ((.tup [(.one (.z (.bool (.fn 7 (.i (.var 9) (.i (.var 10) (.i (.var 2) (.i (.var 3) (.i (.var 2) (.i (.var 3) (.i (.var 4) .nil))))))))))),(.one (.z (.int .i64 (.lit 0))))]),[],5))
 (.ret ((.tup [(.one (.z (.bool (.lit false)))),(.one (.z (.int .i64 (.lit 0))))]),[],5))))
 (.ite (.cmp .eql (.var 1) (.lit 6))
 (.ite (.cmp .eql (.fn 71 (.i (.var 9) (.i (.var 10) (.x (.var 5) .nil)))) (.lit 0))
 (.ret ((.tup [(.one (.z (.bool (.cmp .geq (.fn 70 (.i (.var 9) (.i (.var 10) (.x (.var 5) .nil)))) (.lit 0))))),(.one (.z (.int .i64 (.lit 0))))]),[],4))
 (.ret ((.tup [(.one (.z (.bool (.lit false)))),(.one (.z (.int .i64 (.lit 0))))]),[],4)))
 (.ite (.cmp .eql (.fn 13 (.i (.var 9) (.i (.var 10) (.i (.var 2) (.i (.var 3) (.i (.var 2) (.i (.var 3) (.i (.var 4) .nil)))))))) (.lit 0))
 (.ret ((.tup [(.one (.z (.bool (.fn 7 (.i (.var 9) (.i (.var 10) (.i (.var 2) (.i (.var 3) (.i (.var 2) (.i (.var 3) (.i (.var 4) .nil))))))))))),(.one (.z (.int .i64 (.lit 0))))]),[],5))
 (.ret ((.tup [(.one (.z (.bool (.lit false)))),(.one (.z (.int .i64 (.lit 0))))]),[],5))))))))
set_option maxRecDepth 100000 in
theorem b8k:T.norm 0 (call Tryz.prog ctF (Lt.of []) 100 36 (i6 0 [v5,pt]) [] 0) TT.ret=a7Z:=by kernel_rfl
theorem b4n:a7Z.low 1000=true:=by kernel_rfl
def d3M(r a:Rows)(k off:Int):Nat→Nat→Bool
 | 0,_=>false
 | f+1,i=>a3S [.i (lg r k 0),.i (lg r k 1),.i (lg r k 2),.i (lg r k 3),.i (lg a (X2 a.length i) 0),.i (lg a (X2 a.length i) 1),.i (lg a i 0),.i (lg a i 1),.i off]||d3M r a k off f (i+1)
def c4X(ds:List D):Bool:=a7T (c9 ds 0) (c9 ds 1) (c9 ds 2) (d9 ds 3)&&(decide (0≤c9 ds 4∧c9 ds 4<(d9 ds 3).length)&&z6 (c9 ds 5) (c9 ds 6) (c9 ds 7) (c9 ds 8) (c9 ds 9) (d9 ds 10) (c9 ds 11) (c9 ds 12) (d9 ds 13))
def d6w(r:Rows)(k off kind x y rad:Int)(area:Rows):Bool:=
 if kind=4 then false else if kind=3∨kind=6 then decide (0≤O3 [.i (lg r k 0),.i (lg r k 1),.l area])||d3M r area k off area.length 0
 else L6 [.i x,.i y,.i (lg r k 0),.i (lg r k 1),.i (lg r k 2),.i (lg r k 3),.i (rad+off)]
def d4n(r:Rows)(k off kind x y rad:Int):Int:=
 if kind=4∨kind=3∨kind=6 then 0 else R4 [.i x,.i y,.i (lg r k 0),.i (lg r k 1),.i (lg r k 2),.i (lg r k 3),.i (rad+off)]
def d5d(ds:List D):Bool:=c4X ds&&d6w (d9 ds 3) (c9 ds 4) (c9 ds 2) (c9 ds 6) (c9 ds 7) (c9 ds 8) (c9 ds 9) (d9 ds 10)
def d4v(ds:List D):Int:=if c4X ds then d4n (d9 ds 3) (c9 ds 4) (c9 ds 2) (c9 ds 6) (c9 ds 7) (c9 ds 8) (c9 ds 9) else 1
theorem d6P(W:World)(ds l:List D):(f0 KF W ds).fb 76 l=G2 l:=by simp only[f0,KF]
theorem d7f(W:World)(ds l:List D):(f0 KF W ds).fi 70 l=O3 l:=by simp only[f0,KF,KE,KD,KC]
theorem d6O(W:World)(ds l:List D):(f0 KF W ds).fi 71 l=P8 l:=by simp only[f0,KF,KE,KD,KC]
theorem d8P(W:World)(ds l:List D):(f0 KF W ds).fb 7 l=L6 l:=by simp only[f0,KF,KE,KD,KC,KB,KA,K9,K8,K7,K6,K5,K]
theorem d7d(W:World)(ds l:List D):(f0 KF W ds).fi 13 l=R4 l:=by simp only[f0,KF,KE,KD,KC,KB,KA,K9,K8,K7,K6,K5,K]
theorem d8H(W:World)(ds l:List D):(f0 KF W ds).fb 3 l=s9 l:=by simp only[f0,KF,KE,KD,KC,KB,KA,K9,K8,K7,K6,K5,K]
theorem O9(a b c d e f g:Int)(r s:Rows):G2 [.i a,.i b,.i c,.i d,.i e,.l r,.i f,.i g,.l s]=z6 a b c d e r f g s:=rfl
theorem a1w{id kind x y rad depth sym:Int}{area sc:Rows}:z6 id kind x y rad area depth sym sc=true↔a7a id kind x y rad area depth sym sc:=by
 unfold z6;exact decide_eq_true_iff
theorem O7{r:Rows}(h:n7 r=true):3≤r.length∧r.length≤24:=by
 simp only[n7,Bool.and_eq_true,decide_eq_true_eq] at h
 exact h.1
def a8v(ds:List D):Bool:=z6 (c9 ds 0) (c9 ds 1) (c9 ds 2) (c9 ds 3) (c9 ds 4) (d9 ds 5) (c9 ds 6) (c9 ds 7) (d9 ds 8)&&g9 (c9 ds 9) (c9 ds 10)
def F9(kind x y rad:Int)(area:Rows)(px py:Int):Bool:=
 if kind=4 then false else if kind=3∨kind=6 then decide (P8 [.i px,.i py,.l area]=0∧0≤O3 [.i px,.i py,.l area])
 else decide (R4 [.i px,.i py,.i x,.i y,.i x,.i y,.i rad]=0)&&L6 [.i px,.i py,.i x,.i y,.i x,.i y,.i rad]
def W7(ds:List D):Bool:=a8v ds&&F9 (c9 ds 1) (c9 ds 2) (c9 ds 3) (c9 ds 4) (d9 ds 5) (c9 ds 9) (c9 ds 10)
def a6c(ds:List D):Int:=if a8v ds then 0 else 1
theorem d2A:k8 Tryz.prog 36 [v5,pt] (fun ds=> .tuple #[.bool (W7 ds),.int .i64 (a6c ds)]):=by
 refine GivesIf.all (i7 KF (by kernel_rfl) (fun ρ h=>c4M (Sees.of h 77)) (by kernel_rfl) b8k b4n (by decide) (fun W vals ds hr _=> ?_))
 simp only[a7Z,g8,Nat.reduceBEq,Nat.reduceLT,Nat.reduceSub,d6P,d8H,d7f,d6O,d7d,d8P,O9,E5]
 have F:a8v ds=false→Value.tuple #[.bool false,.int .i64 1]=Value.tuple #[.bool (W7 ds),.int .i64 (a6c ds)]:=fun h=>by simp [W7,a6c,h]
 refine⟨fun h=>F ?_,fun h1=>⟨fun h=>F ?_,fun h2=> ?_⟩⟩
 ·simp only[a8v,h,Bool.false_and]
 ·simp only[a8v,h,Bool.and_false]
 have hO:a8v ds=true:=by rw[a8v,h1,h2];rfl
 have T:∀b,F9 (c9 ds 1) (c9 ds 2) (c9 ds 3) (c9 ds 4) (d9 ds 5) (c9 ds 9) (c9 ds 10)=b→Value.tuple #[.bool b,.int .i64 0]=Value.tuple #[.bool (W7 ds),.int .i64 (a6c ds)]:=fun b h=>by rw[W7,a6c,hO,h];rfl
 refine⟨fun k4=>T _ (by rw[F9,if_pos k4]),fun n4=>⟨fun k3=>⟨fun _=>⟨fun q=>T _ ?_,fun q=>T _ ?_⟩,fun h=>absurd k3 h⟩,fun n3=>⟨fun k6=>⟨fun q=>T _ ?_,fun q=>T _ ?_⟩,fun n6=>⟨fun q=>T _ ?_,fun q=>T _ ?_⟩⟩⟩⟩
 ·rw[F9,if_neg n4,if_pos (.inl k3)];simp [q,u7]
 ·rw[F9,if_neg n4,if_pos (.inl k3)];simp [q]
 ·rw[F9,if_neg n4,if_pos (.inr k6)];simp [q,u7]
 ·rw[F9,if_neg n4,if_pos (.inr k6)];simp [q]
 ·rw[F9,if_neg n4,if_neg (by omega)];simp [q]
 ·rw[F9,if_neg n4,if_neg (by omega)];simp [q]
def KG:Interp where
 fi n l:=match n with | 77=>d4v l | 78=>a6c l | n=>KF.fi n l
 fb n l:=match n with | 77=>d5d l | 78=>W7 l | n=>KF.fb n l
 fd _ _:=[]
theorem d7F{ρ:Env}(h:Sees ρ KG 80):Sees ρ KF 77:=h.trans (by decide) fun n l hn=>by
 refine⟨?_,?_⟩
 ·
  simp only[KG]
  split<;>first | omega | rfl
 ·
  simp only[KG]
  split<;>first | omega | rfl
def c0a:=o7 [v5,pt] fun al=> .ret (.tup [.one (G8 78 W7 al),.one (w6 78 a6c al)])
theorem c3H{ρ:Env}(h:Sees ρ KG 80):i9 Tryz.prog ρ 36 c0a:=
 k5 d2A (fun _=>rfl) (fun al=>by simp only[V.val,V2.val,S.val,S0.val,w6,G8,List.map_cons,List.map_nil,k7 (s:=78) (f:=W7) (fun l=>by rw[(h 78 l (by decide)).2];simp only[KG]),o6 (s:=78) (f:=a6c) (fun l=>by rw[(h 78 l (by decide)).1];simp only[KG])];try rfl)
end Go.Proofs.YtldbejmgalhdaaaGreat
