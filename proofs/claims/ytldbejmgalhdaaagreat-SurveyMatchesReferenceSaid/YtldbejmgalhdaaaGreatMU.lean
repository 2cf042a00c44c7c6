/- MU, merged: TEd, Ed, TEe, Ee, Fa. -/
import Derived.Test.YtldbejmgalhdaaaGreatMT
import Derived.Test.YtldbejmgalhdaaaGreatMP
set_option linter.unusedSimpArgs false
set_option linter.unusedVariables false
namespace Go.Proofs.YtldbejmgalhdaaaGreat
open Go.RowKit
def b5F:TT j6:=
(.ite (.cmp .lss (.fn 67 (.x (.var 0) (.i (.var 1) (.i (.var 2) .nil)))) (.lit 0))
 (.ret ((.v (.one (.z (.bool (.lit false))))),[],4))
 (.ite (.cmp .lss (.fn 67 (.x (.var 0) (.i (.var 3) (.i (.var 4) .nil)))) (.lit 0))
 (.ret ((.v (.one (.z (.bool (.lit false))))),[],4))
 (.ite (.not (.fn 116 (.x (.var 0) (.i (.var 1) (.i (.var 2) (.i (.var 3) (.i (.var 4) .nil)))))))
 (.ret ((.v (.one (.z (.bool (.lit false))))),[],4))
 (.ite (.not (.fn 116 (.x (.var 0) (.i (.var 3) (.i (.var 4) (.i (.var 1) (.i (.var 2) .nil)))))))
 (.ret ((.v (.one (.z (.bool (.lit false))))),[],4))
 (.loop 0 8000 ⟨[(0,(.lit 0))],[],[]⟩
 (.ite (.cmp .lss (.var 8000) (.len (.var 0)))
 (.ob (.tru (.cmp .leq (.lit 0) (.var 8000)))
 (.ob (.tru (.cmp .lss (.var 8000) (.len (.var 0))))
 (.ob (.tru (.cmp .neq (.len (.var 0)) (.lit 0)))
 (.ob (.tru (.cmp .leq (.lit 0) (.ar .rem .i64 (.ar .add .i64 (.ar .add .i64 (.var 8000) (.lit 1)) (.len (.var 0))) (.len (.var 0)))))
 (.ob (.tru (.cmp .lss (.ar .rem .i64 (.ar .add .i64 (.ar .add .i64 (.var 8000) (.lit 1)) (.len (.var 0))) (.len (.var 0))) (.len (.var 0))))
 (.ite (.cmp .lss (.ar .mul .i64 (.fn 15 (.i (.var 1) (.i (.var 2) (.i (.var 3) (.i (.var 4) (.i (.rd (.var 0) (.var 8000) 0) (.i (.rd (.var 0) (.var 8000) 1) .nil))))))) (.fn 15 (.i (.var 1) (.i (.var 2) (.i (.var 3) (.i (.var 4) (.i (.rd (.var 0) (.ar .rem .i64 (.ar .add .i64 (.ar .add .i64 (.var 8000) (.lit 1)) (.len (.var 0))) (.len (.var 0))) 0) (.i (.rd (.var 0) (.ar .rem .i64 (.ar .add .i64 (.ar .add .i64 (.var 8000) (.lit 1)) (.len (.var 0))) (.len (.var 0))) 1) .nil)))))))) (.lit 0))
 (.ite (.cmp .lss (.ar .mul .i64 (.fn 15 (.i (.rd (.var 0) (.var 8000) 0) (.i (.rd (.var 0) (.var 8000) 1) (.i (.rd (.var 0) (.ar .rem .i64 (.ar .add .i64 (.ar .add .i64 (.var 8000) (.lit 1)) (.len (.var 0))) (.len (.var 0))) 0) (.i (.rd (.var 0) (.ar .rem .i64 (.ar .add .i64 (.ar .add .i64 (.var 8000) (.lit 1)) (.len (.var 0))) (.len (.var 0))) 1) (.i (.var 1) (.i (.var 2) .nil))))))) (.fn 15 (.i (.rd (.var 0) (.var 8000) 0) (.i (.rd (.var 0) (.var 8000) 1) (.i (.rd (.var 0) (.ar .rem .i64 (.ar .add .i64 (.ar .add .i64 (.var 8000) (.lit 1)) (.len (.var 0))) (.len (.var 0))) 0) (.i (.rd (.var 0) (.ar .rem .i64 (.ar .add .i64 (.ar .add .i64 (.var 8000) (.lit 1)) (.len (.var 0))) (.len (.var 0))) 1) (.i (.var 3) (.i (.var 4) .nil)))))))) (.lit 0))
 (.ret ((.v (.one (.z (.bool (.lit false))))),[],28))
 (.ite (.not (.and (.cmp .eql (.rd (.var 0) (.var 8000) 0) (.var 1)) (.cmp .eql (.rd (.var 0) (.var 8000) 1) (.var 2))))
 (.ite (.not (.and (.cmp .eql (.rd (.var 0) (.var 8000) 0) (.var 3)) (.cmp .eql (.rd (.var 0) (.var 8000) 1) (.var 4))))
 (.ite (.fn 61 (.i (.rd (.var 0) (.var 8000) 0) (.i (.rd (.var 0) (.var 8000) 1) (.i (.var 1) (.i (.var 2) (.i (.var 3) (.i (.var 4) .nil)))))))
 (.ob (.tru (.cmp .leq (.lit 0) (.var 8000)))
 (.ob (.tru (.cmp .lss (.var 8000) (.len (.var 0))))
 (.ite (.fn 115 (.x (.var 0) (.i (.var 8000) (.i (.var 1) (.i (.var 2) .nil)))))
 (.ob (.tru (.cmp .leq (.lit 0) (.var 8000)))
 (.ob (.tru (.cmp .lss (.var 8000) (.len (.var 0))))
 (.ite (.not (.fn 115 (.x (.var 0) (.i (.var 8000) (.i (.var 3) (.i (.var 4) .nil))))))
 (.ret ((.v (.one (.z (.bool (.lit false))))),[],28))
 (.next 0 ⟨[(0,(.ar .add .i64 (.var 8000) (.lit 1)))],[],[]⟩))))
 (.ret ((.v (.one (.z (.bool (.lit false))))),[],28)))))
 (.next 0 ⟨[(0,(.ar .add .i64 (.var 8000) (.lit 1)))],[],[]⟩))
 (.next 0 ⟨[(0,(.ar .add .i64 (.var 8000) (.lit 1)))],[],[]⟩))
 (.next 0 ⟨[(0,(.ar .add .i64 (.var 8000) (.lit 1)))],[],[]⟩)))
 (.ite (.not (.and (.cmp .eql (.rd (.var 0) (.var 8000) 0) (.var 1)) (.cmp .eql (.rd (.var 0) (.var 8000) 1) (.var 2))))
 (.ite (.not (.and (.cmp .eql (.rd (.var 0) (.var 8000) 0) (.var 3)) (.cmp .eql (.rd (.var 0) (.var 8000) 1) (.var 4))))
 (.ite (.fn 61 (.i (.rd (.var 0) (.var 8000) 0) (.i (.rd (.var 0) (.var 8000) 1) (.i (.var 1) (.i (.var 2) (.i (.var 3) (.i (.var 4) .nil)))))))
 (.ob (.tru (.cmp .leq (.lit 0) (.var 8000)))
 (.ob (.tru (.cmp .lss (.var 8000) (.len (.var 0))))
 (.ite (.fn 115 (.x (.var 0) (.i (.var 8000) (.i (.var 1) (.i (.var 2) .nil)))))
 (.ob (.tru (.cmp .leq (.lit 0) (.var 8000)))
 (.ob (.tru (.cmp .lss (.var 8000) (.len (.var 0))))
 (.ite (.not (.fn 115 (.x (.var 0) (.i (.var 8000) (.i (.var 3) (.i (.var 4) .nil))))))
 (.ret ((.v (.one (.z (.bool (.lit false))))),[],28))
 (.next 0 ⟨[(0,(.ar .add .i64 (.var 8000) (.lit 1)))],[],[]⟩))))
 (.ret ((.v (.one (.z (.bool (.lit false))))),[],28)))))
 (.next 0 ⟨[(0,(.ar .add .i64 (.var 8000) (.lit 1)))],[],[]⟩))
 (.next 0 ⟨[(0,(.ar .add .i64 (.var 8000) (.lit 1)))],[],[]⟩))
 (.next 0 ⟨[(0,(.ar .add .i64 (.var 8000) (.lit 1)))],[],[]⟩))))))))
 (.ret ((.v (.one (.z (.bool (.lit true))))),[],28))))))))
set_option maxRecDepth 100000 in
theorem c7o:T.norm 0 (call Tryz.prog c8R (Lt.of []) 100 195 (i6 0 [v9,pt,pt]) [] 0) TT.ret=b5F:=by kernel_rfl
theorem c2G:b5F.low 1000=true:=by kernel_rfl
def tur(a b c d e f:Int):Int:=A6 [.i a,.i b,.i c,.i d,.i e,.i f]
def phC(r:Rows)(ax ay bx by':Int)(i:Nat):Bool:=
 decide (tur ax ay bx by' (lg r i 0) (lg r i 1)*tur ax ay bx by' (lg r (nxt r.length i) 0) (lg r (nxt r.length i) 1)<0∧
  tur (lg r i 0) (lg r i 1) (lg r (nxt r.length i) 0) (lg r (nxt r.length i) 1) ax ay*tur (lg r i 0) (lg r i 1) (lg r (nxt r.length i) 0) (lg r (nxt r.length i) 1) bx by'<0)
def phI(r:Rows)(ax ay bx by':Int)(i:Nat):Bool:=
 !phC r ax ay bx by' i&&(decide ((lg r i 0=ax∧lg r i 1=ay)∨(lg r i 0=bx∧lg r i 1=by'))||(!onR [.i (lg r i 0),.i (lg r i 1),.i ax,.i ay,.i bx,.i by']||(opB r i ax ay&&opB r i bx by')))
def phN(r:Rows)(ax ay bx by':Int):Nat→Nat→Bool
 | 0,_=>true
 | f+1,i=>phI r ax ay bx by' i&&phN r ax ay bx by' f (i+1)
def phB(r:Rows)(ax ay bx by':Int):Bool:=
 decide (0≤t3 r ax ay r.length 0 false)&&(decide (0≤t3 r bx by' r.length 0 false)&&(leN r ax ay bx by' r.length 0&&(leN r bx by' ax ay r.length 0&&phN r ax ay bx by' r.length 0)))
def phL(ds:List D):Bool:=phB (d9 ds 0) (c9 ds 1) (c9 ds 2) (c9 ds 3) (c9 ds 4)
theorem b9F(l:List D):A6 l= -1∨A6 l=0∨A6 l=1:=by
 unfold A6 H5 A5 J2
 split
 ·split
  ·exact .inl rfl
  ·split
   ·exact .inr (.inr rfl)
   ·exact .inr (.inl rfl)
 ·exact .inr (.inl rfl)
theorem b2R(a b:List D):IntKind.i64.wrap (A6 a*A6 b)=A6 a*A6 b:=by
 rcases b9F a with h | h | h<;>rcases b9F b with h' | h' | h'<;>rw[h,h']<;>rfl
theorem d6f(W:World)(ds l:List D):(f0 C6 W ds).fb 61 l=onR l:=by simp only[f0,C6,z9,w9,KI,KH,KG,KF,KE,KD,KC,KB,KA,K9,K8,K7,K6,K5,K]
theorem d3j(W:World)(ds l:List D):(f0 C6 W ds).fb 115 l=opL l:=by simp only[f0,C6,z9]
theorem d4u(W:World)(ds l:List D):(f0 C6 W ds).fi 15 l=A6 l:=by simp only[f0,C6,z9,w9,KI,KH,KG,KF,KE,KD,KC,KB,KA,K9,K8,K7,K6,K5,K]
theorem d2o(W:World)(ds l:List D):(f0 C6 W ds).fb 116 l=leL l:=by simp only[f0,C6]
theorem d3F(W:World)(ds l:List D):(f0 C6 W ds).fi 67 l=a2B l:=by simp only[f0,C6,z9,w9,KI,KH,KG,KF,KE,KD,KC,KB,KA,K9,K8,K7,K6,K5,K]
theorem d1V(r:Rows)(a b c d:Int):leL [.l r,.i a,.i b,.i c,.i d]=leN r a b c d r.length 0:=rfl
set_option maxHeartbeats 2000000 in
theorem d6K:k8 Tryz.prog 195 [v9,pt,pt] (fun ds=> .bool (phL ds)):=by
 refine GivesIf.all (i7 C6 (by kernel_rfl) (fun ρ h=>b9r (Sees.of h 117)) (by kernel_rfl) c7o c2G (by decide) (fun W vals ds hr _=> ?_))
 have hlen:=Q5 hr
 simp only[b5F,g8,Nat.reduceBEq,Nat.reduceLT,Nat.reduceSub,d3F,d2o,a0v,d1V]
 have hP:phL ds=phB (d9 ds 0) (c9 ds 1) (c9 ds 2) (c9 ds 3) (c9 ds 4):=rfl
 rw[hP]
 clear hP hr
 generalize e0:d9 ds 0=r at*
 generalize e1:c9 ds 1=x at*
 generalize e2:c9 ds 2=y at*
 generalize e3:c9 ds 3=s at*
 generalize e4:c9 ds 4=t at*
 refine⟨fun h=> ?_,fun h1=>⟨fun h=> ?_,fun h2=>⟨fun h=> ?_,fun h3=>⟨fun h=> ?_,fun h4=> ?_⟩⟩⟩⟩
 ·rw[phB,decide_eq_false (p:=0≤t3 r x y r.length 0 false) (by omega)];rfl
 ·rw[phB,decide_eq_false (p:=0≤t3 r s t r.length 0 false) (by omega),Bool.false_and,Bool.and_false]
 ·rw[phB,h];simp
 ·rw[phB,h];simp
 have hG:phN r x y s t r.length 0=phB r x y s t:=by
  rw[phB,decide_eq_true (p:=0≤t3 r x y r.length 0 false) (by omega),decide_eq_true (p:=0≤t3 r s t r.length 0 false) (by omega),h3,h4];rfl
 generalize hg:phB r x y s t=G at*
 refine TT.sat_loop (fun v=>∃i:Nat,v.i 0=i∧i≤r.length∧phN r x y s t (r.length-i) i=G) (fun v=>r.length-(v.i 0).toNat)
  ⟨0,by simp [j7,i8,E.ev],by omega,hG⟩ (fun v hv=> ?_)
 obtain⟨i,i0,i1,i2⟩:=hv
 simp only[g8,Nat.reduceBEq,Nat.reduceLT,Nat.reduceSub,i0,e0,e1,e2,e3,e4,d3j,c0H,d4u,d6f]
 refine⟨fun hc=> ?_,fun hc=> ?_⟩
 ·have hi:i<r.length:=by omega
  have hn:=u0 hi
  obtain⟨f,hf⟩:∃f,r.length-i=f+1:=⟨r.length-i-1,by omega⟩
  rw[hf,phN] at i2
  have hf':r.length-(i+1)=f:=by omega
  rw[f8 ((i:Int)+1) (by omega) (by omega)]
  have hw:(IntKind.i64.wrap ((i:Int)+1+(r.length:Int))).tmod (r.length:Int)=(nxt r.length i:Int):=by
   have:=D6 hi hlen
   rwa [f8 ((i:Int)+1) (by omega) (by omega)] at this
  rw[hw,b2R,b2R]
  have N:phI r x y s t i=true→(∃j:Nat,(i:Int)+1=j∧j≤r.length∧phN r x y s t (r.length-j) j=G)∧r.length-((i:Int)+1).toNat<r.length-(i:Int).toNat:=
   fun h=>⟨⟨i+1,rfl,by omega,by rw[hf',←i2,h];rfl⟩,by omega⟩
  have B:phI r x y s t i=false→Value.bool false=Value.bool G:=fun h=>by rw[←i2,h];rfl
  have C:∀ {b:Bool},phC r x y s t i=b→phI r x y s t i=(!b&&(decide ((lg r i 0=x∧lg r i 1=y)∨(lg r i 0=s∧lg r i 1=t))||(!onR [.i (lg r i 0),.i (lg r i 1),.i x,.i y,.i s,.i t]||(opB r i x y&&opB r i s t)))):=fun h=>by rw[phI,h]
  have C1:tur x y s t (lg r i 0) (lg r i 1)*tur x y s t (lg r (nxt r.length i) 0) (lg r (nxt r.length i) 1)<0→tur (lg r i 0) (lg r i 1) (lg r (nxt r.length i) 0) (lg r (nxt r.length i) 1) x y*tur (lg r i 0) (lg r i 1) (lg r (nxt r.length i) 0) (lg r (nxt r.length i) 1) s t<0→phC r x y s t i=true:=
   fun a b=>decide_eq_true ⟨a,b⟩
  have C2:¬(tur x y s t (lg r i 0) (lg r i 1)*tur x y s t (lg r (nxt r.length i) 0) (lg r (nxt r.length i) 1)<0∧tur (lg r i 0) (lg r i 1) (lg r (nxt r.length i) 0) (lg r (nxt r.length i) 1) x y*tur (lg r i 0) (lg r i 1) (lg r (nxt r.length i) 0) (lg r (nxt r.length i) 1) s t<0)→phC r x y s t i=false:=
   fun a=>decide_eq_false a
  refine⟨by omega,by omega,by omega,by omega,by omega,fun a=>⟨fun b=> ?_,fun b=> ?_⟩,fun a=> ?_⟩
  ·exact B (by rw[C (C1 a b)];rfl)
  ·have c:=C (C2 (fun q=>b q.2))
   clear C C1 C2
   generalize onR [.i (lg r i 0),.i (lg r i 1),.i x,.i y,.i s,.i t]=o at*
   generalize opB r i x y=o1 at*
   generalize opB r i s t=o2 at*
   refine⟨fun d=>⟨fun e=>⟨fun k=>⟨by omega,by omega,fun k1=>⟨by omega,by omega,fun k2=>B ?_,fun k2=>N ?_⟩,fun k1=>B ?_⟩,fun k=>N ?_⟩,fun e=>N ?_⟩,fun d=>N ?_⟩
   all_goals (rw[c];clear B N c i2;simp [*])
  ·have c:=C (C2 (fun q=>a q.1))
   clear C C1 C2
   generalize onR [.i (lg r i 0),.i (lg r i 1),.i x,.i y,.i s,.i t]=o at*
   generalize opB r i x y=o1 at*
   generalize opB r i s t=o2 at*
   refine⟨fun d=>⟨fun e=>⟨fun k=>⟨by omega,by omega,fun k1=>⟨by omega,by omega,fun k2=>B ?_,fun k2=>N ?_⟩,fun k1=>B ?_⟩,fun k=>N ?_⟩,fun e=>N ?_⟩,fun d=>N ?_⟩
   all_goals (rw[c];clear B N c i2;simp [*])
 ·have:r.length-i=0:=by omega
  rw[this,phN] at i2
  rw[←i2]
def G1:Interp where
 fi n l:=C6.fi n l
 fb n l:=match n with | 117=>phL l | n=>C6.fb n l
 fd _ _:=[]
theorem b8T{ρ:Env}(h:Sees ρ G1 118):Sees ρ C6 117:=h.trans (by decide) fun n l hn=>by
 refine⟨?_,?_⟩
 ·
  rfl
 ·
  simp only[G1]
  split<;>first | omega | rfl
def d0Q:=o7 [v9,pt,pt] fun al=> .ret (bV (bF 117 phL al))
theorem c7u{ρ:Env}(h:Sees ρ G1 118):i9 Tryz.prog ρ 195 d0Q:=
 k5 d6K (fun _=>rfl) (fun al=>by simp only[iV,bV,V.s0,V.val,V2.val,S.val,S0.val,k7 (s:=117) (f:=phL) (fun l=>by rw[(h 117 l (by decide)).2];simp only[G1])];try rfl)
def c9c:Ct:=(195,d0Q)::c8R
theorem c0t{ρ:Env}(h:Sees ρ G1 118):CtOk Tryz.prog ρ c9c:= .cons (c7u h) (b9r (b8T h))
def a5H:TT j6:=
(.ite (.not (.fn 69 (.x (.var 0) .nil)))
 (.ret ((.tup [(.one (.z (.bool (.lit false)))),(.one (.z (.int .i64 (.lit 1))))]),[],2))
 (.ite (.not (.fn 69 (.x (.var 1) .nil)))
 (.ret ((.tup [(.one (.z (.bool (.lit false)))),(.one (.z (.int .i64 (.lit 1))))]),[],2))
 (.loop 0 7000 ⟨[(0,(.lit 0))],[],[]⟩
 (.ite (.cmp .lss (.var 7000) (.len (.var 1)))
 (.ob (.tru (.cmp .leq (.lit 0) (.var 7000)))
 (.ob (.tru (.cmp .lss (.var 7000) (.len (.var 1))))
 (.ob (.tru (.cmp .neq (.len (.var 1)) (.lit 0)))
 (.ob (.tru (.cmp .leq (.lit 0) (.ar .rem .i64 (.ar .add .i64 (.ar .add .i64 (.var 7000) (.lit 1)) (.len (.var 1))) (.len (.var 1)))))
 (.ob (.tru (.cmp .lss (.ar .rem .i64 (.ar .add .i64 (.ar .add .i64 (.var 7000) (.lit 1)) (.len (.var 1))) (.len (.var 1))) (.len (.var 1))))
 (.ite (.not (.fn 117 (.x (.var 0) (.i (.rd (.var 1) (.var 7000) 0) (.i (.rd (.var 1) (.var 7000) 1) (.i (.rd (.var 1) (.ar .rem .i64 (.ar .add .i64 (.ar .add .i64 (.var 7000) (.lit 1)) (.len (.var 1))) (.len (.var 1))) 0) (.i (.rd (.var 1) (.ar .rem .i64 (.ar .add .i64 (.ar .add .i64 (.var 7000) (.lit 1)) (.len (.var 1))) (.len (.var 1))) 1) .nil)))))))
 (.ret ((.tup [(.one (.z (.bool (.lit false)))),(.one (.z (.int .i64 (.lit 0))))]),[],10))
 (.next 0 ⟨[(0,(.ar .add .i64 (.var 7000) (.lit 1)))],[],[]⟩)))))))
 (.ret ((.tup [(.one (.z (.bool (.lit true)))),(.one (.z (.int .i64 (.lit 0))))]),[],10))))))
set_option maxRecDepth 100000 in
theorem b4N:T.norm 0 (call Tryz.prog c9c (Lt.of []) 100 190 (i6 0 [v9,v9]) [] 0) TT.ret=a5H:=by kernel_rfl
theorem b3t:a5H.low 1000=true:=by kernel_rfl
def hoN(p q:Rows):Nat→Nat→Bool
 | 0,_=>true
 | f+1,i=>phB p (lg q i 0) (lg q i 1) (lg q (nxt q.length i) 0) (lg q (nxt q.length i) 1)&&hoN p q f (i+1)
def hoX(p q:Rows):Bool:=hoN p q q.length 0
def hoR(ds:List D):Bool:=a1y ds&&hoX (d9 ds 0) (d9 ds 1)
theorem d4f(W:World)(ds l:List D):(f0 G1 W ds).fb 69 l=H3 l:=by simp only[f0,G1,C6,z9,w9,KI,KH,KG,KF,KE,KD,KC,KB]
theorem d2N(W:World)(ds l:List D):(f0 G1 W ds).fb 117 l=phL l:=by simp only[f0,G1]
theorem d2F(r:Rows)(a b c d:Int):phL [.l r,.i a,.i b,.i c,.i d]=phB r a b c d:=rfl
theorem c9p:k8 Tryz.prog 190 [v9,v9] (fun ds=> .tuple #[.bool (hoR ds),.int .i64 (O4 ds)]):=by
 refine GivesIf.all (i7 G1 (by kernel_rfl) (fun ρ h=>c0t (Sees.of h 118)) (by kernel_rfl) b4N b3t (by decide) (fun W vals ds hr _=> ?_))
 simp only[a5H,g8,Nat.reduceBEq,Nat.reduceLT,Nat.reduceSub,d4f,Y4]
 have F:a1y ds=false→Value.tuple #[.bool false,.int .i64 1]=Value.tuple #[.bool (hoR ds),.int .i64 (O4 ds)]:=fun h=>by simp [hoR,O4,h]
 refine⟨fun h=>F ?_,fun h1=>⟨fun h=>F ?_,fun h2=> ?_⟩⟩
 ·simp only[a1y,h,Bool.false_and]
 ·simp only[a1y,h,Bool.and_false]
 have T:∀b,hoX (d9 ds 0) (d9 ds 1)=b→Value.tuple #[.bool b,.int .i64 0]=Value.tuple #[.bool (hoR ds),.int .i64 (O4 ds)]:=fun b h=>by simp [hoR,O4,a1y,h1,h2,h]
 clear F hr
 have l1:=O7 h1
 have l2:=O7 h2
 generalize hp:d9 ds 0=p at*
 generalize hq:d9 ds 1=q at*
 refine TT.sat_loop (fun v=>∃i:Nat,v.i 0=i∧i≤q.length∧hoN p q (q.length-i) i=hoX p q) (fun v=>q.length-(v.i 0).toNat)
  ⟨0,by simp [j7,i8,E.ev],by omega,rfl⟩ (fun v hv=> ?_)
 obtain⟨i,i0,i1,i2⟩:=hv
 simp only[g8,Nat.reduceBEq,Nat.reduceLT,Nat.reduceSub,i0,hp,hq,d2N,d2F]
 refine⟨fun hc=> ?_,fun hc=> ?_⟩
 ·have hi:i<q.length:=by omega
  have hn:=u0 hi
  obtain⟨f,hf⟩:∃f,q.length-i=f+1:=⟨q.length-i-1,by omega⟩
  rw[hf,hoN] at i2
  have hf':q.length-(i+1)=f:=by omega
  rw[D6 hi (by omega),f8 ((i:Int)+1) (by omega) (by omega)]
  refine⟨by omega,by omega,by omega,by omega,by omega,fun h=>T _ ?_,fun h=>⟨⟨i+1,rfl,by omega,?_⟩,by omega⟩⟩
  ·rw[←i2,h];rfl
  ·rw[hf',←i2,h];rfl
 ·have:q.length-i=0:=by omega
  rw[this,hoN] at i2
  exact T _ i2.symm
def C0:Interp where
 fi n l:=G1.fi n l
 fb n l:=match n with | 118=>hoR l | n=>G1.fb n l
 fd _ _:=[]
theorem c0g{ρ:Env}(h:Sees ρ C0 119):Sees ρ G1 118:=h.trans (by decide) fun n l hn=>by
 refine⟨?_,?_⟩
 ·
  rfl
 ·
  simp only[C0]
  split<;>first | omega | rfl
def b5h:=o7 [v9,v9] fun al=> .ret (.tup [.one (G8 118 hoR al),.one (w6 112 O4 al)])
theorem b7X{ρ:Env}(h:Sees ρ C0 119):i9 Tryz.prog ρ 190 b5h:=
 k5 c9p (fun _=>rfl) (fun al=>by simp only[V.val,V2.val,S.val,S0.val,w6,G8,List.map_cons,List.map_nil,k7 (s:=118) (f:=hoR) (fun l=>by rw[(h 118 l (by decide)).2];simp only[C0]),o6 (s:=112) (f:=O4) (fun l=>by rw[(h 112 l (by decide)).1];simp only[C0,G1,C6,z9])];try rfl)
def c1H:Ct:=(190,b5h)::c9c
theorem b2l{ρ:Env}(h:Sees ρ C0 119):CtOk Tryz.prog ρ c1H:= .cons (b7X h) (c0t (c0g h))
end Go.Proofs.YtldbejmgalhdaaaGreat
