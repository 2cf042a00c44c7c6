/- SF, merged: TU8, U8. -/
import Derived.Test.YtbbjlleaofgddaaGreatSE
set_option linter.unusedSimpArgs false
set_option linter.unusedVariables false
namespace Go.Proofs.YtbbjlleaofgddaaGreat
open Go.RowKit
def a6g:TT i8:=
(.ite (.not (.fn 202 (.x (.var 0) .nil)))
 (.ret ((.tup [(.one (.z (.const (.slice none 0 0)))),(.one (.z (.int .i64 (.lit 1))))]),[],0))
 (.loop 0 1000 ⟨[(0,(.lit 0)),(2,(.lit 0)),(0,(.lit 0))],[],[(1,.nil)]⟩
 (.ite (.cmp .lss (.var 1002) (.len (.var 0)))
 (.ob (.tru (.cmp .leq (.lit 0) (.var 1002)))
 (.ob (.tru (.cmp .lss (.var 1002) (.len (.var 0))))
 (.ob (.tru (.cmp .leq (.lit 0) (.ar .add .i64 (.var 1002) (.lit 1))))
 (.ob (.tru (.cmp .leq (.ar .add .i64 (.var 1002) (.lit 1)) (.len (.var 0))))
 (.ob (.tru (.lit true))
 (.loop 1 4000 ⟨[(0,(.var 1000)),(1,(.lit 0)),(0,(.var 1000))],[],[(2,(.var 1001))]⟩
 (.ite (.cmp .lss (.var 4001) (.len (.sub (.var 0) (.ar .add .i64 (.var 1002) (.lit 1)) (.len (.var 0)))))
 (.ob (.tru (.cmp .leq (.lit 0) (.var 4001)))
 (.ob (.tru (.cmp .lss (.var 4001) (.len (.sub (.var 0) (.ar .add .i64 (.var 1002) (.lit 1)) (.len (.var 0))))))
 (.ite (.cmp .eql (.rd (.var 0) (.var 1002) 0) (.rd (.sub (.var 0) (.ar .add .i64 (.var 1002) (.lit 1)) (.len (.var 0))) (.var 4001) 0))
 (.ite (.cmp .eql (.rd (.var 0) (.var 1002) 1) (.rd (.sub (.var 0) (.ar .add .i64 (.var 1002) (.lit 1)) (.len (.var 0))) (.var 4001) 1))
 (.ite (.not (.fn 190 (.i (.rd (.var 0) (.var 1002) 0) (.i (.rd (.var 0) (.var 1002) 1) (.i (.rd (.var 0) (.var 1002) 2) (.i (.rd (.var 0) (.var 1002) 3) (.i (.rd (.var 0) (.var 1002) 4) (.i (.rd (.var 0) (.var 1002) 5) (.x (.rd (.var 0) (.var 1002) 6) (.i (.rd (.sub (.var 0) (.ar .add .i64 (.var 1002) (.lit 1)) (.len (.var 0))) (.var 4001) 0) (.i (.rd (.sub (.var 0) (.ar .add .i64 (.var 1002) (.lit 1)) (.len (.var 0))) (.var 4001) 1) (.i (.rd (.sub (.var 0) (.ar .add .i64 (.var 1002) (.lit 1)) (.len (.var 0))) (.var 4001) 2) (.i (.rd (.sub (.var 0) (.ar .add .i64 (.var 1002) (.lit 1)) (.len (.var 0))) (.var 4001) 3) (.i (.rd (.sub (.var 0) (.ar .add .i64 (.var 1002) (.lit 1)) (.len (.var 0))) (.var 4001) 4) (.i (.rd (.sub (.var 0) (.ar .add .i64 (.var 1002) (.lit 1)) (.len (.var 0))) (.var 4001) 5) (.x (.rd (.sub (.var 0) (.ar .add .i64 (.var 1002) (.lit 1)) (.len (.var 0))) (.var 4001) 6) .nil))))))))))))))))
 (.ob (.tru (.cmp .leq (.len (.app (.var 4002) (.app (.row (.i (.var 1002) (.i (.ar .add .i64 (.ar .add .i64 (.var 1002) (.lit 1)) (.var 4001)) .nil))) .nil))) (.lit 1000000)))
 (.next 1 ⟨[(0,(.plus (.var 4000) (.lit 1))),(1,(.ar .add .i64 (.var 4001) (.lit 1))),(0,(.plus (.var 4000) (.lit 1)))],[],[(2,(.app (.var 4002) (.app (.row (.i (.var 1002) (.i (.ar .add .i64 (.ar .add .i64 (.var 1002) (.lit 1)) (.var 4001)) .nil))) .nil)))]⟩))
 (.next 1 ⟨[(0,(.var 4000)),(1,(.ar .add .i64 (.var 4001) (.lit 1))),(0,(.var 4000))],[],[(2,(.var 4002))]⟩))
 (.next 1 ⟨[(0,(.var 4000)),(1,(.ar .add .i64 (.var 4001) (.lit 1))),(0,(.var 4000))],[],[(2,(.var 4002))]⟩))
 (.next 1 ⟨[(0,(.var 4000)),(1,(.ar .add .i64 (.var 4001) (.lit 1))),(0,(.var 4000))],[],[(2,(.var 4002))]⟩))))
 (.next 0 ⟨[(0,(.var 4000)),(2,(.ar .add .i64 (.var 1002) (.lit 1))),(0,(.var 4000))],[],[(1,(.var 4002))]⟩))))))))
 (.ret ((.tup [(.one (.z (.own 1 (.var 1000)))),(.one (.z (.int .i64 (.lit 0))))]),[(1,(.own 70 [(.int .i64),(.int .i64)] (.var 1001) (.var 1000)))],6)))))
def b6i:List (Nat×St):=[
(0,⟨(List.append [(.v (.one (.z (.ext f7 (.var 0) false)))),(.v (.one (.z .any))),(.v (.one (.z (.const (.slice none 0 0))))),(.v (.one (.z (.int .i64 (.lit 0))))),(.v (.one (.z (.own 1 (.var 1000)))))] (List.append (List.replicate 4 V.any) (List.append [(.v (.one (.z (.ext f7 (.var 0) false)))),(.v (.one (.z (.bool (.fn 202 (.x (.var 0) .nil)))))),(.v (.one (.z (.bool (.not (.fn 202 (.x (.var 0) .nil))))))),(.v (.one (.z (.ext f7 (.var 0) false)))),(.v (.one (.z (.int .i64 (.len (.var 0)))))),(.v (.one (.z (.int .i64 (.var 1002)))))] (List.replicate 44 V.any)))),[(1,(.own 70 [(.int .i64),(.int .i64)] (.var 1001) (.var 1000)))],2,[]⟩),
(3,⟨(List.append [(.v (.one (.z (.ext f7 (.var 0) false)))),(.v (.one (.z .any))),(.v (.one (.z (.const (.slice none 0 0))))),(.v (.one (.z (.int .i64 (.lit 0))))),(.v (.one (.z (.own 1 (.var 4000))))),(.v (.one (.z (.int .i64 (.var 1002))))),(.v (.one (.z (.ptr 2 0)))),(.v (.one (.z .any))),(.v (.one (.z .any))),(.v (.one (.z (.ext f7 (.var 0) false)))),(.v (.one (.z (.bool (.fn 202 (.x (.var 0) .nil)))))),(.v (.one (.z (.bool (.not (.fn 202 (.x (.var 0) .nil))))))),(.v (.one (.z (.ext f7 (.var 0) false)))),(.v (.one (.z (.int .i64 (.len (.var 0)))))),(.v (.one (.z (.int .i64 (.var 1002))))),(.v (.one (.z (.bool (.cmp .lss (.var 1002) (.len (.var 0))))))),(.v (.one (.z (.int .i64 (.var 1002))))),(.v (.one (.z (.eptr f7 (.var 0) (.var 1002) 0)))),(.v (.agg [(.z (.int .i64 (.rd (.var 0) (.var 1002) 0))),(.z (.int .i64 (.rd (.var 0) (.var 1002) 1))),(.z (.int .i64 (.rd (.var 0) (.var 1002) 2))),(.z (.int .i64 (.rd (.var 0) (.var 1002) 3))),(.z (.int .i64 (.rd (.var 0) (.var 1002) 4))),(.z (.int .i64 (.rd (.var 0) (.var 1002) 5))),(.z (.ext k6 (.rd (.var 0) (.var 1002) 6) false))])),(.v (.one (.z (.ext f7 (.var 0) false)))),(.v (.one (.z (.int .i64 (.var 1002))))),(.v (.one (.z (.int .i64 (.ar .add .i64 (.var 1002) (.lit 1)))))),(.v (.one (.z (.ext f7 (.sub (.var 0) (.ar .add .i64 (.var 1002) (.lit 1)) (.len (.var 0))) false)))),(.v (.one (.z (.int .i64 (.len (.sub (.var 0) (.ar .add .i64 (.var 1002) (.lit 1)) (.len (.var 0)))))))),(.v (.one (.z (.int .i64 (.var 4001)))))] (List.replicate 34 V.any)),[(2,(.cells 29 [(.z (.int .i64 (.rd (.var 0) (.var 1002) 0))),(.z (.int .i64 (.rd (.var 0) (.var 1002) 1))),(.z (.int .i64 (.rd (.var 0) (.var 1002) 2))),(.z (.int .i64 (.rd (.var 0) (.var 1002) 3))),(.z (.int .i64 (.rd (.var 0) (.var 1002) 4))),(.z (.int .i64 (.rd (.var 0) (.var 1002) 5))),(.z (.ext k6 (.rd (.var 0) (.var 1002) 6) false))])),(1,(.own 70 [(.int .i64),(.int .i64)] (.var 4002) (.var 4000)))],4,[]⟩)]
def b5r:List (FuncId×Nat×Nat×St):=[
]
set_option maxRecDepth 100000 in
theorem b1x:T.norm 0 (call Tryz.prog b3n ⟨Lt.un (Lt.of []),b6i,b5r⟩ 100 29 (i5 0 [z0]) [] 0) TT.ret=a6g:=by kernel_rfl
theorem b0j:a6g.low 1000=true:=by kernel_rfl
def a0X(x y:List D):Bool:=decide (cI x 0=cI y 0∧cI x 1=cI y 1)&& !C7 x y
def O2(l:Rows)(i:Nat):Nat→Rows
 | 0=>[]
 | m+1=>O2 l i m++if a0X (l.getD i []) (l.getD (i+1+m) []) then [[.i (i:Int),.i ((i+1+m:Nat):Int)]] else []
def M7(l:Rows):Nat→Rows
 | 0=>[]
 | n+1=>M7 l n++O2 l n (l.length-n-1)
def a0e(ds:List D):Rows:=if u9 (f8 ds 0) then M7 (f8 ds 0) (f8 ds 0).length else []
def M1(ds:List D):Int:=if u9 (f8 ds 0) then 0 else 1
def a0D:NL:=⟨70,[.int .i64,.int .i64],6,a0e⟩
def b5I(ds:List D)(v:Value):Value:= .tuple #[v,.int .i64 (M1 ds)]
theorem a3p(l:Rows)(i:Nat):∀m,(O2 l i m).length≤m
 | 0=>Nat.le_refl _
 | m+1=>by
   have:=a3p l i m
   rw[O2,List.length_append]
   split<;>simp only[List.length_cons,List.length_nil]<;>omega
theorem a7N(l:Rows)(hl:l.length≤200):∀n,(M7 l n).length≤200*n
 | 0=>Nat.le_refl _
 | n+1=>by
   have h1:=a7N l hl n
   have h2:=a3p l n (l.length-n-1)
   rw[M7,List.length_append]
   omega
theorem b5W{α:Type}{a b:List α}:a++b≠[]↔a≠[]∨b≠[]:=by
 rw[ne_eq,List.append_eq_nil_iff]
 cases a<;>cases b<;>simp
theorem c6F(r:Rows):O6 [.l r]=u9 r:=rfl
theorem b7N(r:Rows)(k i j:Nat):lg (r.drop k) i j=lg r (k+i:Nat) j:=by
 unfold lg o5
 rw[Int.toNat_natCast,Int.toNat_natCast,List.getElem?_drop]
theorem b7t(r:Rows)(k i j:Nat):lr (r.drop k) i j=lr r (k+i:Nat) j:=by
 unfold lr o5
 rw[Int.toNat_natCast,Int.toNat_natCast,List.getElem?_drop]
theorem b0x{l:Rows}{i:Nat}:∀ {m:Nat},O2 l i m≠[]↔∃k,k<m∧a0X (l.getD i []) (l.getD (i+1+k) [])=true
 | 0=>by simp [O2]
 | m+1=>by
   rw[O2,b5W,b0x (m:=m)]
   constructor
   ·rintro(⟨k,h1,h2⟩ | h)
    ·exact⟨k,by omega,h2⟩
    ·split at h
     ·rename_i h';exact⟨m,by omega,h'⟩
     ·exact absurd rfl h
   ·rintro⟨k,h1,h2⟩
    by_cases e:k=m
    ·subst e;right;rw[if_pos h2];simp
    ·exact .inl ⟨k,by omega,h2⟩
theorem b0F{l:Rows}:∀ {n:Nat},n≤l.length→(M7 l n≠[]↔∃i k,i<n∧i<k∧k<l.length∧a0X (l.getD i []) (l.getD k [])=true)
 | 0,_=>by simp [M7]
 | n+1,hn=>by
   rw[M7,b5W,b0F (n:=n) (by omega),b0x]
   constructor
   ·rintro(⟨i,k,h1,h2,h3,h4⟩ | ⟨k,h1,h2⟩)
    ·exact⟨i,k,by omega,h2,h3,h4⟩
    ·exact⟨n,n+1+k,by omega,by omega,by omega,h2⟩
   ·rintro⟨i,k,h1,h2,h3,h4⟩
    by_cases e:i=n
    ·subst e;exact .inr ⟨k-i-1,by omega,by rw[show i+1+(k-i-1)=k by omega];exact h4⟩
    ·exact .inl ⟨i,k,by omega,h2,h3,h4⟩
theorem c2Z(W:World)(ds l:List D):(g8 QC W ds).fb 202 l=O6 l:=by simp only[g8,QC,QB,QA,Q9,Q8,Q7,Q5,Q4,Q3]
theorem c1X(W:World)(ds l:List D):(g8 QC W ds).fb 190 l=v4 l:=by simp only[g8,QC,QB,QA,Q9,Q8,Q7,Q5,Q4,Q3,Q2]
theorem a8y{r:Rows}(hr:∀row∈r,m6 row){i:Nat}(hi:i<r.length):[D.i (lg r (i:Int) 0),.i (lg r (i:Int) 1),.i (lg r (i:Int) 2),.i (lg r (i:Int) 3),.i (lg r (i:Int) 4),.i (lg r (i:Int) 5),.l (lr r (i:Int) 6)]=k7 (r.getD i []) 0:=by
 rw[List.getD_eq_getElem?_getD,List.getElem?_eq_getElem hi]
 exact a8d hi
set_option maxHeartbeats 1000000 in
theorem c1s:a8H Tryz.prog 29 [z0] [a0D] (fun _=>True) (fun _ ds vs u=>∃v,vs=[v]∧u=b5I ds v):=by
 refine b3O QC (by kernel_rfl) (fun ρ h=>a8v (Sees.of h 290) (SeesD.of h 6)) (by kernel_rfl) b1x b0j (by decide) (fun w0 vals ds hr _=> ?_)
 have hwR:=m7 (m8 hr) (j:=0) rfl
 have hbig:=hwR.1
 have hwf:∀row∈f8 ds 0,m6 row:=fun row hrow=>J9 (hwR.2 row hrow)
 have hR:a0D.rows ds=a0e ds:=rfl
 have hE:M1 ds=M1 ds:=rfl
 conv at hE=>rhs;unfold M1
 unfold a0e at hR
 clear hr hwR
 simp only[a6g,g7,Nat.reduceBEq,Nat.reduceLT,Nat.reduceSub,c2Z,c6F]
 generalize e0:f8 ds 0=r at*
 have REST:∀ {ρ:Env} {s:S0} {x:X} {e:E} {m:Mem} {n:Nat},a2A m a0D.e a0D.ks s=some x→x.ev ρ=a0D.rows ds→e.ev ρ=M1 ds→∃ss,LsAre ρ (.tup [.one (.z s),.one (.z (.int .i64 e))],m,n) [a0D] ds ss∧∀(σ:As) u,ρ.w=w0→V.den ρ σ (.tup [.one (.z s),.one (.z (.int .i64 e))]) u→∃vs,DL (S0.den ρ σ) ss vs∧∃v,vs=[v]∧u=b5I ds v:=fun h1 h2 h3=>
  ⟨[_],b4Y h1 h2,fun σ u _ hu=>by
    obtain⟨v,g1,g2⟩:=I2 hu
    exact⟨[v],⟨g1,trivial⟩,v,rfl,by rw[g2,h3];rfl⟩⟩
 refine⟨fun hN=> ?_,fun hY=> ?_⟩
 ·rw[if_neg (by rw[hN];decide)] at hR hE
  exact REST rfl (by rw[hR];rfl) (by rw[hE];rfl)
 have hl:r.length≤200:=by
  unfold u9 at hY
  rw[Bool.and_eq_true,decide_eq_true_eq] at hY
  exact hY.1
 rw[if_pos hY] at hR hE
 refine TT.sat_loop (fun v=>∃n:Nat,v.i 2=n∧n≤r.length∧v.d 1=M7 r n) (fun v=>r.length-(v.i 2).toNat) ⟨0,by simp only[g7,Nat.reduceBEq,Nat.reduceLT,Nat.reduceSub];rfl,by omega,by simp only[g7,Nat.reduceBEq,Nat.reduceLT,Nat.reduceSub];rfl⟩ (fun v hv=> ?_)
 obtain⟨n,n0,n1,n2⟩:=hv
 simp only[g7,Nat.reduceBEq,Nat.reduceLT,Nat.reduceSub,n0,e0]
 refine⟨fun hc=> ?_,fun hc=> ?_⟩
 ·have hn:n<r.length:=by omega
  have hw1:IntKind.i64.wrap ((n:Int)+1)=((n+1:Nat):Int):=by rw[f9 _ (by omega) (by omega)];rfl
  rw[hw1]
  refine⟨by omega,by omega,by omega,by omega,?_⟩
  refine TT.sat_loop (fun u=>∃m:Nat,u.i 1=m∧m≤r.length-n-1∧u.d 2=M7 r n++O2 r n m) (fun u=>r.length-(u.i 1).toNat) ⟨0,by simp only[g7,Nat.reduceBEq,Nat.reduceLT,Nat.reduceSub];rfl,by omega,by simp only[g7,Nat.reduceBEq,Nat.reduceLT,Nat.reduceSub,n2,O2];rw[List.append_nil]⟩ (fun u hu=> ?_)
  obtain⟨m,m0,m1,m2⟩:=hu
  simp only[g7,Nat.reduceBEq,Nat.reduceLT,Nat.reduceSub,n0,m0,m2,e0,hw1,c1X,a7X,Int.toNat_natCast,List.length_drop,b7N,b7t]
  refine⟨fun hm=> ?_,fun hm=> ?_⟩
  ·have hk:n+1+m<r.length:=by omega
   have hw2:IntKind.i64.wrap ((m:Int)+1)=((m+1:Nat):Int):=by rw[f9 _ (by omega) (by omega)];rfl
   have hw3:IntKind.i64.wrap (((n+1:Nat):Int)+(m:Int))=((n+1+m:Nat):Int):=by rw[f9 _ (by omega) (by omega)];rfl
   have a1:=a8y hwf hn
   have a2:=a8y hwf hk
   have hx:∀j,lg r (n:Int) j=cI (r.getD n []) j:=fun j=>by rw[q7 hn,List.getD_eq_getElem?_getD,List.getElem?_eq_getElem hn];rfl
   have hy:∀j,lg r ((n+1+m:Nat):Int) j=cI (r.getD (n+1+m) []) j:=fun j=>by rw[q7 hk,List.getD_eq_getElem?_getD,List.getElem?_eq_getElem hk];rfl
   have hcc:[D.i (lg r (n:Int) 0),.i (lg r (n:Int) 1),.i (lg r (n:Int) 2),.i (lg r (n:Int) 3),.i (lg r (n:Int) 4),.i (lg r (n:Int) 5),.l (lr r (n:Int) 6)]++[D.i (lg r ((n+1+m:Nat):Int) 0),.i (lg r ((n+1+m:Nat):Int) 1),.i (lg r ((n+1+m:Nat):Int) 2),.i (lg r ((n+1+m:Nat):Int) 3),.i (lg r ((n+1+m:Nat):Int) 4),.i (lg r ((n+1+m:Nat):Int) 5),.l (lr r ((n+1+m:Nat):Int) 6)]=k7 (r.getD n []) 0++k7 (r.getD (n+1+m) []) 0:=by rw[a1,a2]
   simp only[List.cons_append,List.nil_append] at hcc
   have hns:v4 (k7 (r.getD n []) 0++k7 (r.getD (n+1+m) []) 0)=C7 (r.getD n []) (r.getD (n+1+m) []):=rfl
   have hcs:O2 r n (m+1)=O2 r n m++if a0X (r.getD n []) (r.getD (n+1+m) []) then [[.i (n:Int),.i ((n+1+m:Nat):Int)]] else []:=rfl
   have z1:=a3p r n m
   have z2:=a7N r hl n
   rw[hw2,hw3,hcc,hns]
   have NO:a0X (r.getD n []) (r.getD (n+1+m) [])=false→(∃m':Nat,((m+1:Nat):Int)=m'∧m'≤r.length-n-1∧M7 r n++O2 r n m=M7 r n++O2 r n m'):=fun h=>⟨m+1,rfl,by omega,by rw[hcs,h,if_neg (by decide),List.append_nil]⟩
   have LB:a0X (r.getD n []) (r.getD (n+1+m) [])=(decide (lg r (n:Int) 0=lg r ((n+1+m:Nat):Int) 0∧lg r (n:Int) 1=lg r ((n+1+m:Nat):Int) 1)&& !C7 (r.getD n []) (r.getD (n+1+m) [])):=by rw[hx,hy,hx,hy];rfl
   refine⟨by omega,by omega,fun q0=>⟨fun q1=>⟨fun q2=>⟨?_,⟨m+1,rfl,by omega,?_⟩,by omega⟩,fun q2=>⟨NO (by rw[LB,q2];exact Bool.and_false _),by omega⟩⟩,fun q1=>⟨NO (by rw[LB,decide_eq_false (fun q=>q1 q.2)];rfl),by omega⟩⟩,fun q0=>⟨NO (by rw[LB,decide_eq_false (fun q=>q0 q.1)];rfl),by omega⟩⟩
   ·simp only[List.length_append,List.length_cons,List.length_nil];omega
   ·rw[hcs,if_pos (by rw[LB,q2,decide_eq_true ⟨q0,q1⟩];rfl),List.append_nil,List.append_assoc]
  ·have hm':m=r.length-n-1:=by omega
   exact⟨⟨n+1,rfl,by omega,by rw[hm'];rfl⟩,by omega⟩
 ·have hn:n=r.length:=by omega
  refine REST (x:= .var 1001) (by kernel_rfl) ?_ (by rw[hE];rfl)
  rw[hR]
  simp only[X.ev,p7,g7,Nat.reduceBEq,Nat.reduceLT,Nat.reduceSub,n2,hn]
def QD:Interp where
 fi n l:=match n with | 290=>M1 l | n=>QC.fi n l
 fb n l:=QC.fb n l
 fd n l:=match n with | 6=>a0e l | n=>QC.fd n l
theorem c2O{ρ:Env}(h:SeesD ρ QD 7):SeesD ρ QC 6:=fun n l hn=>by
 rw[h n l (by omega)]
 simp only[QD]
 split<;>first | omega | rfl
theorem c4o{ρ:Env}(h:Sees ρ QD 300):Sees ρ QC 290:=h.trans (by decide) fun n l hn=>by
 refine⟨?_,?_⟩
 ·
  simp only[QD]
  split<;>first | omega | rfl
 ·
  rfl
def c3B(al:AL)(nx:Nat):V:= .tup [.one (.z (.own nx (.lit 0))),.one (.z (.int .i64 (.fn 290 al)))]
def b4A:=b1Q [z0] a0D (fun _=>[]) c3B
theorem b5z{ρ:Env}(h:Sees ρ QD 300)(hd:SeesD ρ QD 7):i4 Tryz.prog ρ 29 b4A:=
 b6C c1s (by decide) (fun _ _=>trivial) (fun a=>(hd 6 a (by decide)).trans rfl) (fun al nx σ' v hv=>⟨[v,.int .i64 (M1 (al.ev ρ))],⟨hv,by
  show Value.int .i64 (M1 (al.ev ρ))=Value.int .i64 ((E.fn 290 al).ev ρ)
  simp only[E.ev]
  rw[(h 290 _ (by decide)).1];rfl,trivial⟩,rfl⟩)
def b9z:Ct:=(29,b4A)::b3n
theorem b7g{ρ:Env}(h:Sees ρ QD 300)(hd:SeesD ρ QD 7):CtOk Tryz.prog ρ b9z:= .cons (b5z h hd)<|a8v (c4o h) (c2O hd)
end Go.Proofs.YtbbjlleaofgddaaGreat
