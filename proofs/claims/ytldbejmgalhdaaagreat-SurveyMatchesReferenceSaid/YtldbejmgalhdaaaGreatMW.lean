/- MW, merged: Gr, TEk, Ek, TEl, El, TEm, Em, TEh, Eh, En, TEs, Es. -/
import Derived.Test.YtldbejmgalhdaaaGreatMK
import Derived.Test.YtldbejmgalhdaaaGreatMV
import Derived.OwnWalk
import Derived.Maps.AppendAt
set_option linter.unusedSimpArgs false
set_option linter.unusedVariables false
namespace Go.Proofs.YtldbejmgalhdaaaGreat
open Go.RowKit
def d4g:Ct:=d5Q
def shI(r:Rows)(x y:Int):Nat→Nat→Nat
 | 0,i=>i
 | f+1,i=>if a2k (lg r i 0) (lg r i 1) (lg r i 2) (lg r i 3) x y=true then i else shI r x y f (i+1)
def shC(r:Rows)(x y:Int):Int:=if shI r x y r.length 0<r.length then lg r (shI r x y r.length 0) 4 else 0
def shR(r:Rows)(x y:Int):Int:=if shI r x y r.length 0<r.length then lg r (shI r x y r.length 0) 5 else 0
def d8N(ds:List D):Int:=shC (d9 ds 0) (c9 ds 1) (c9 ds 2)
def d8y(ds:List D):Int:=shR (d9 ds 0) (c9 ds 1) (c9 ds 2)
theorem d2M{ρ:Env}(h:Sees ρ M4 122):CtOk Tryz.prog ρ d4g:=(d1y h)
def Z7:Interp where
 fi n l:=match n with | 122=>d8N l | 123=>d8y l | n=>M4.fi n l
 fb n l:=M4.fb n l
 fd _ _:=[]
theorem b9e{ρ:Env}(h:Sees ρ Z7 126):Sees ρ M4 122:=h.trans (by decide) fun n l hn=>by
 refine⟨?_,?_⟩
 ·
  simp only[Z7]
  split<;>first | omega | rfl
 ·
  rfl
def d5O:Ct:=d4g
theorem d3m{ρ:Env}(h:Sees ρ Z7 126):CtOk Tryz.prog ρ d5O:=(d2M (b9e h))
def wrD(x y:Rows)(dx dy:Int):Bool:=decide (shC x dx dy=1)&&(decide (¬shC y dx dy=1)||decide (shR y dx dy<shR x dx dy))
def sfN(x y l:Rows):Nat→Nat→Bool
 | 0,_=>false
 | f+1,i=>wrD x y (lg l i 0) (lg l i 1)||(wrD x y (lg l i 2) (lg l i 3)||sfN x y l f (i+1))
def c6g(a b:Rows):Bool:=sfN b a (b++a) (b++a).length 0
def saO(ds:List D):Bool:=X9 (d9 ds 0)&&X9 (d9 ds 1)
def saR(ds:List D):Bool:=saO ds&&c6g (d9 ds 0) (d9 ds 1)
def saE(ds:List D):Int:=if saO ds then 0 else 1
def V0:Interp where
 fi n l:=match n with | 126=>saE l | n=>Z7.fi n l
 fb n l:=match n with | 126=>saR l | n=>Z7.fb n l
 fd _ _:=[]
theorem b9K{ρ:Env}(h:Sees ρ V0 128):Sees ρ Z7 126:=h.trans (by decide) fun n l hn=>by
 refine⟨?_,?_⟩
 ·
  simp only[V0]
  split<;>first | omega | rfl
 ·
  simp only[V0]
  split<;>first | omega | rfl
def c1f:Ct:=d5O
theorem b6w{ρ:Env}(h:Sees ρ V0 128):CtOk Tryz.prog ρ c1f:=(d3m (b9K h))
def a8E:TT j6:=
(.ite (.cmp .eql (.var 0) (.var 9))
 (.ite (.cmp .eql (.var 1) (.var 10))
 (.ite (.and (.cmp .eql (.var 2) (.var 11)) (.cmp .eql (.var 3) (.var 12)))
 (.ite (.cmp .eql (.var 4) (.var 13))
 (.ite (.cmp .eql (.var 6) (.var 15))
 (.ite (.cmp .eql (.var 7) (.var 16))
 (.ite (.cmp .neq (.len (.var 5)) (.len (.var 14)))
 (.ret ((.v (.one (.z (.bool (.lit false))))),[],2))
 (.loop 0 3000 ⟨[(0,(.lit 0))],[],[]⟩
 (.ite (.cmp .lss (.var 3000) (.len (.var 5)))
 (.ob (.tru (.cmp .leq (.lit 0) (.var 3000)))
 (.ob (.tru (.cmp .lss (.var 3000) (.len (.var 5))))
 (.ob (.tru (.cmp .leq (.lit 0) (.var 3000)))
 (.ob (.tru (.cmp .lss (.var 3000) (.len (.var 14))))
 (.ite (.not (.and (.cmp .eql (.rd (.var 5) (.var 3000) 0) (.rd (.var 14) (.var 3000) 0)) (.cmp .eql (.rd (.var 5) (.var 3000) 1) (.rd (.var 14) (.var 3000) 1))))
 (.ret ((.v (.one (.z (.bool (.lit false))))),[],3))
 (.next 0 ⟨[(0,(.ar .add .i64 (.var 3000) (.lit 1)))],[],[]⟩))))))
 (.ite (.cmp .neq (.len (.var 8)) (.len (.var 17)))
 (.ret ((.v (.one (.z (.bool (.lit false))))),[],3))
 (.loop 1 4000 ⟨[(0,(.lit 0))],[],[]⟩
 (.ite (.cmp .lss (.var 4000) (.len (.var 8)))
 (.ob (.tru (.cmp .leq (.lit 0) (.var 4000)))
 (.ob (.tru (.cmp .lss (.var 4000) (.len (.var 8))))
 (.ob (.tru (.cmp .leq (.lit 0) (.var 4000)))
 (.ob (.tru (.cmp .lss (.var 4000) (.len (.var 17))))
 (.ite (.not (.and (.and (.cmp .eql (.rd (.var 8) (.var 4000) 0) (.rd (.var 17) (.var 4000) 0)) (.cmp .eql (.rd (.var 8) (.var 4000) 1) (.rd (.var 17) (.var 4000) 1))) (.and (.and (.cmp .eql (.rd (.var 8) (.var 4000) 2) (.rd (.var 17) (.var 4000) 2)) (.cmp .eql (.rd (.var 8) (.var 4000) 3) (.rd (.var 17) (.var 4000) 3))) (.and (.cmp .eql (.rd (.var 8) (.var 4000) 4) (.rd (.var 17) (.var 4000) 4)) (.cmp .eql (.rd (.var 8) (.var 4000) 5) (.rd (.var 17) (.var 4000) 5))))))
 (.ret ((.v (.one (.z (.bool (.lit false))))),[],4))
 (.next 1 ⟨[(0,(.ar .add .i64 (.var 4000) (.lit 1)))],[],[]⟩))))))
 (.ret ((.v (.one (.z (.bool (.lit true))))),[],4))))))))
 (.ret ((.v (.one (.z (.bool (.lit false))))),[],2)))
 (.ret ((.v (.one (.z (.bool (.lit false))))),[],2)))
 (.ret ((.v (.one (.z (.bool (.lit false))))),[],2)))
 (.ret ((.v (.one (.z (.bool (.lit false))))),[],2)))
 (.ret ((.v (.one (.z (.bool (.lit false))))),[],2)))
 (.ret ((.v (.one (.z (.bool (.lit false))))),[],2)))
set_option maxRecDepth 100000 in
theorem b7D:T.norm 0 (call Tryz.prog c1f (Lt.of []) 100 35 (i6 0 [v5,v5]) [] 0) TT.ret=a8E:=by kernel_rfl
theorem b5o:a8E.low 1000=true:=by kernel_rfl
def d4P(k2 x2 y2 r2:Int)(a2:Rows)(d2:Int)(t2:Rows)(k1 x1 y1 r1:Int)(a1:Rows)(d1:Int)(t1:Rows):Bool:=
 if k2≠4 then decide (d1≤d2)&&M5 k1 x1 y1 r1 a1 k2 x2 y2 r2 a2
 else decide (k1=4∧x1=x2∧y1=y2)&& !c6g t2 t1
def d7H(ds:List D):Bool:=W5 ds&&d4P (c9 ds 1) (c9 ds 2) (c9 ds 3) (c9 ds 4) (d9 ds 5) (c9 ds 6) (d9 ds 8) (c9 ds 10) (c9 ds 11) (c9 ds 12) (c9 ds 13) (d9 ds 14) (c9 ds 15) (d9 ds 17)
def eqC(r s:Rows)(i:Nat):Nat→Bool
 | 0=>true
 | c+1=>eqC r s i c&&decide (lg r i c=lg s i c)
def R5(c:Nat)(r s:Rows):Nat→Nat→Bool
 | 0,_=>true
 | f+1,i=>eqC r s i c&&R5 c r s f (i+1)
def X4(c:Nat)(r s:Rows):Bool:=decide (r.length=s.length)&&R5 c r s r.length 0
def a0m(i1 k1 x1 y1 r1:Int)(a1:Rows)(d1 s1:Int)(t1:Rows)(i2 k2 x2 y2 r2:Int)(a2:Rows)(d2 s2:Int)(t2:Rows):Bool:=
 decide ((i1=i2∧k1=k2∧x1=x2∧y1=y2)∧r1=r2∧d1=d2∧s1=s2)&&(X4 2 a1 a2&&X4 6 t1 t2)
def sameL(ds:List D):Bool:=a0m (c9 ds 0) (c9 ds 1) (c9 ds 2) (c9 ds 3) (c9 ds 4) (d9 ds 5) (c9 ds 6) (c9 ds 7) (d9 ds 8) (c9 ds 9) (c9 ds 10) (c9 ds 11) (c9 ds 12) (c9 ds 13) (d9 ds 14) (c9 ds 15) (c9 ds 16) (d9 ds 17)
theorem b9a{c:Nat}{r s:Rows}:∀(f i:Nat),R5 c r s f i=true↔∀k,i≤k→k<i+f→eqC r s k c=true
 | 0,i=>⟨fun _ k h1 h2=>(by omega),fun _=>rfl⟩
 | f+1,i=>by
   rw[R5,Bool.and_eq_true,b9a f (i+1)]
   constructor
   ·rintro⟨h1,h2⟩ k hk hk'
    by_cases e:k=i
    ·subst e;exact h1
    ·exact h2 k (by omega) (by omega)
   ·exact fun h=>⟨h i (by omega) (by omega),fun k h1 h2=>h k (by omega) (by omega)⟩
theorem a1X{r s:Rows}{i:Nat}:∀c,eqC r s i c=true↔∀j,j<c→lg r i j=lg s i j
 | 0=>⟨fun _ j h=>(by omega),fun _=>rfl⟩
 | c+1=>by
   rw[eqC,Bool.and_eq_true,a1X c,decide_eq_true_eq]
   constructor
   ·rintro⟨h1,h2⟩ j hj
    by_cases e:j=c
    ·subst e;exact h2
    ·exact h1 j (by omega)
   ·exact fun h=>⟨fun j hj=>h j (by omega),h c (by omega)⟩
theorem b1h{c:Nat}{r s:Rows}:X4 c r s=true↔r.length=s.length∧∀k,k<r.length→∀j,j<c→lg r k j=lg s k j:=by
 rw[X4,Bool.and_eq_true,decide_eq_true_eq,b9a]
 simp only[a1X]
 exact⟨fun h=>⟨h.1,fun k hk=>h.2 k (by omega) (by omega)⟩,fun h=>⟨h.1,fun k _ hk=>h.2 k (by omega)⟩⟩
theorem a6x{w:World}:∀ {ks:List CK} {vs:List Value} {ds:List D},CK.reps w ks vs ds→ds.length=ks.length
 | [],vs,ds,h=>by
   unfold CK.reps at h
   obtain⟨rfl,rfl⟩:=h
   rfl
 | k::ks,vs,ds,h=>by
   unfold CK.reps at h
   obtain⟨v,vs',d,ds',rfl,rfl,h1,h2⟩:=h
   simp [a6x h2]
theorem a4E{w:World}{ks:List CK}{v:Value}{d:D}(h:CK.rep w (.sl ks) v d):d.rows.length≤281474976710656:=by
 rw[y7] at h
 obtain⟨r,rfl,a,n,c,_,hs,_⟩:=h
 have e1:=hs.len
 have e2:=hs.big
 show r.length≤_
 omega
theorem b4L(W:World)(vals:List Value)(ds:List D)(sh:List Sh)(hr:A4 W (v5::v5::sh) vals ds):((d9 ds 5).length≤281474976710656∧(d9 ds 8).length≤281474976710656)∧(d9 ds 14).length≤281474976710656∧(d9 ds 17).length≤281474976710656:=by
 obtain⟨v1,vs1,d1,ds1,rfl,rfl,⟨u1,_,h1⟩,v2,vs2,d2,ds2,rfl,rfl,⟨u2,_,h2⟩,_⟩:=hr
 have e1:d1.length=9:=a6x h1
 have e2:d2.length=9:=a6x h2
 obtain⟨_,x5,_,p5,q5⟩:=x9 (j:=5) h1 rfl
 obtain⟨_,x8,_,p8,q8⟩:=x9 (j:=8) h1 rfl
 obtain⟨_,y5,_,r5,t5⟩:=x9 (j:=5) h2 rfl
 obtain⟨_,y8,_,r8,t8⟩:=x9 (j:=8) h2 rfl
 have a5:(d1++(d2++ds2))[5]? = some x5:=by rw[List.getElem?_append_left (by omega)];exact p5
 have a8:(d1++(d2++ds2))[8]? = some x8:=by rw[List.getElem?_append_left (by omega)];exact p8
 have a14:(d1++(d2++ds2))[14]? = some y5:=by rw[List.getElem?_append_right (by omega),e1,List.getElem?_append_left (by omega)];exact r5
 have a17:(d1++(d2++ds2))[17]? = some y8:=by rw[List.getElem?_append_right (by omega),e1,List.getElem?_append_left (by omega)];exact r8
 have gd:∀(l:List D) (i:Nat) (d:D),l[i]? = some d→l.getD i (.i 0)=d:=fun l i d h=>by rw[List.getD_eq_getElem?_getD,h];rfl
 unfold d9
 rw[gd _ _ _ a5,gd _ _ _ a8,gd _ _ _ a14,gd _ _ _ a17]
 exact⟨⟨a4E q5,a4E q8⟩,a4E t5,a4E t8⟩
set_option maxHeartbeats 1000000 in
theorem d2X:k8 Tryz.prog 35 [v5,v5] (fun ds=> .bool (sameL ds)):=by
 refine GivesIf.all (i7 V0 (by kernel_rfl) (fun ρ h=>b6w (Sees.of h 128)) (by kernel_rfl) b7D b5o (by decide) (fun W vals ds hr _=> ?_))
 obtain⟨⟨n5,n8⟩,n14,n17⟩:=b4L W vals ds _ hr
 simp only[a8E,g8,Nat.reduceBEq,Nat.reduceLT,Nat.reduceSub]
 have F:∀b,sameL ds=b→Value.bool b=Value.bool (sameL ds):=fun b h=>by rw[h]
 have N:¬((c9 ds 0=c9 ds 9∧c9 ds 1=c9 ds 10∧c9 ds 2=c9 ds 11∧c9 ds 3=c9 ds 12)∧c9 ds 4=c9 ds 13∧c9 ds 6=c9 ds 15∧c9 ds 7=c9 ds 16)→Value.bool false=Value.bool (sameL ds):=fun h=>F _ (by rw[sameL,a0m,decide_eq_false h,Bool.false_and])
 refine⟨fun h0=>⟨fun h1=>⟨fun h2=>⟨fun h3=>⟨fun h4=>⟨fun h5=> ?_,fun h=>N (by omega)⟩,fun h=>N (by omega)⟩,fun h=>N (by omega)⟩,fun h=>N (by omega)⟩,fun h=>N (by omega)⟩,fun h=>N (by omega)⟩
 have hS:sameL ds=(X4 2 (d9 ds 5) (d9 ds 14)&&X4 6 (d9 ds 8) (d9 ds 17)):=by
  rw[sameL,a0m,decide_eq_true (by omega),Bool.true_and]
 rw[hS]
 clear N F hS hr
 generalize e5:d9 ds 5=a at*
 generalize e14:d9 ds 14=b at*
 generalize e8:d9 ds 8=s at*
 generalize e17:d9 ds 17=t at*
 refine⟨fun h=> ?_,fun h=> ?_⟩
 ·rw[X4,decide_eq_false (by omega)];rfl
 have hab:a.length=b.length:=by omega
 have hX:X4 2 a b=R5 2 a b a.length 0:=by rw[X4,decide_eq_true hab];rfl
 rw[hX]
 refine TT.sat_loop (fun v=>∃i:Nat,v.i 0=i∧i≤a.length∧R5 2 a b (a.length-i) i=R5 2 a b a.length 0) (fun v=>a.length-(v.i 0).toNat)
  ⟨0,by simp [j7,i8,E.ev],by omega,rfl⟩ (fun v hv=> ?_)
 obtain⟨i,i0,i1,i2⟩:=hv
 simp only[g8,Nat.reduceBEq,Nat.reduceLT,Nat.reduceSub,i0,e5,e14,e8,e17]
 refine⟨fun hc=> ?_,fun hc=> ?_⟩
 ·have hi:i<a.length:=by omega
  obtain⟨f,hf⟩:∃f,a.length-i=f+1:=⟨a.length-i-1,by omega⟩
  have hf':a.length-(i+1)=f:=by omega
  rw[hf,R5] at i2
  rw[f8 ((i:Int)+1) (by omega) (by omega)]
  refine⟨by omega,by omega,by omega,by omega,fun q=> ?_,fun q=>⟨⟨i+1,rfl,by omega,?_⟩,by omega⟩⟩
  ·rw[←i2,show eqC a b i 2=false by rw[←Bool.not_eq_true,a1X];exact fun g=>q ⟨g 0 (by omega),g 1 (by omega)⟩];rfl
  ·rw[hf',←i2,show eqC a b i 2=true by
    simp only[eqC,decide_eq_true_eq,Bool.and_eq_true,Bool.true_and]
    exact q];rfl
 ·have h0:a.length-i=0:=by omega
  rw[h0,R5] at i2
  rw[←i2,Bool.true_and]
  refine⟨fun h=> ?_,fun h=> ?_⟩
  ·rw[X4,decide_eq_false (by omega)];rfl
  have hst:s.length=t.length:=by omega
  have hX:X4 6 s t=R5 6 s t s.length 0:=by rw[X4,decide_eq_true hst];rfl
  rw[hX]
  refine TT.sat_loop (fun v=>∃i:Nat,v.i 0=i∧i≤s.length∧R5 6 s t (s.length-i) i=R5 6 s t s.length 0) (fun v=>s.length-(v.i 0).toNat)
   ⟨0,by simp [j7,i8,E.ev],by omega,rfl⟩ (fun u hu=> ?_)
  obtain⟨j,j0,j1,j2⟩:=hu
  simp only[g8,Nat.reduceBEq,Nat.reduceLT,Nat.reduceSub,j0,e5,e14,e8,e17]
  refine⟨fun hc=> ?_,fun hc=> ?_⟩
  ·have hj:j<s.length:=by omega
   obtain⟨f,hf⟩:∃f,s.length-j=f+1:=⟨s.length-j-1,by omega⟩
   have hf':s.length-(j+1)=f:=by omega
   rw[hf,R5] at j2
   rw[f8 ((j:Int)+1) (by omega) (by omega)]
   refine⟨by omega,by omega,by omega,by omega,fun q=> ?_,fun q=>⟨⟨j+1,rfl,by omega,?_⟩,by omega⟩⟩
   ·rw[←j2,show eqC s t j 6=false by rw[←Bool.not_eq_true,a1X];exact fun g=>q ⟨⟨g 0 (by omega),g 1 (by omega)⟩,⟨g 2 (by omega),g 3 (by omega)⟩,g 4 (by omega),g 5 (by omega)⟩];rfl
   ·rw[hf',←j2,show eqC s t j 6=true by
     simp only[eqC,decide_eq_true_eq,Bool.and_eq_true,Bool.true_and]
     omega];rfl
  ·have h0:s.length-j=0:=by omega
   rw[h0,R5] at j2
   rw[←j2]
def F4:Interp where
 fi n l:=V0.fi n l
 fb n l:=match n with | 128=>d7H l | 129=>sameL l | n=>V0.fb n l
 fd _ _:=[]
theorem b9S{ρ:Env}(h:Sees ρ F4 132):Sees ρ V0 128:=h.trans (by decide) fun n l hn=>by
 refine⟨?_,?_⟩
 ·
  rfl
 ·
  simp only[F4]
  split<;>first | omega | rfl
def b8Y:=o7 [v5,v5] fun al=> .ret (bV (bF 129 sameL al))
theorem c3P{ρ:Env}(h:Sees ρ F4 132):i9 Tryz.prog ρ 35 b8Y:=
 k5 d2X (fun _=>rfl) (fun al=>by simp only[iV,bV,V.s0,V.val,V2.val,S.val,S0.val,k7 (s:=129) (f:=sameL) (fun l=>by rw[(h 129 l (by decide)).2];simp only[F4])];try rfl)
def b3N:Ct:=(35,b8Y)::c1f
theorem a8m{ρ:Env}(h:Sees ρ F4 132):CtOk Tryz.prog ρ b3N:= .cons (c3P h) (b6w (b9S h))
def r6:List CK:=[.int .i64,.int .i64,.int .i64,.int .i64,.int .i64,.sl ptK,.int .i64,.int .i64,.sl b1T]
def B7:Sh:= .one (.sl r6)
def b5S:TT j6:=
(.loop 0 1000 ⟨[(0,(.lit 0)),(1,(.lit 0))],[],[]⟩
 (.ite (.cmp .lss (.var 1001) (.len (.var 0)))
 (.ob (.tru (.cmp .leq (.lit 0) (.var 1001)))
 (.ob (.tru (.cmp .lss (.var 1001) (.len (.var 0))))
 (.ite (.not (.fn 76 (.i (.rd (.var 0) (.var 1001) 0) (.i (.rd (.var 0) (.var 1001) 1) (.i (.rd (.var 0) (.var 1001) 2) (.i (.rd (.var 0) (.var 1001) 3) (.i (.rd (.var 0) (.var 1001) 4) (.x (.rd (.var 0) (.var 1001) 5) (.i (.rd (.var 0) (.var 1001) 6) (.i (.rd (.var 0) (.var 1001) 7) (.x (.rd (.var 0) (.var 1001) 8) .nil)))))))))))
 (.ret ((.v (.one (.z (.bool (.lit false))))),[],2))
 (.ite (.cmp .leq (.rd (.var 0) (.var 1001) 0) (.var 1000))
 (.ret ((.v (.one (.z (.bool (.lit false))))),[],2))
 (.next 0 ⟨[(0,(.rd (.var 0) (.var 1001) 0)),(1,(.ar .add .i64 (.var 1001) (.lit 1)))],[],[]⟩)))))
 (.ret ((.v (.one (.z (.bool (.cmp .leq (.len (.var 0)) (.lit 300)))))),[],2))))
set_option maxRecDepth 100000 in
theorem c7i:T.norm 0 (call Tryz.prog b3N (Lt.of []) 100 34 (i6 0 [B7]) [] 0) TT.ret=b5S:=by kernel_rfl
theorem c3O:b5S.low 1000=true:=by kernel_rfl
def a6z:TT j6:=
(.loop 0 2000 ⟨[(0,(.lit 0)),(1,(.lit 0))],[],[]⟩
 (.ite (.cmp .lss (.var 2001) (.len (.var 0)))
 (.ob (.tru (.cmp .leq (.lit 0) (.var 2001)))
 (.ob (.tru (.cmp .lss (.var 2001) (.len (.var 0))))
 (.ite (.not (.fn 76 (.i (.rd (.var 0) (.var 2001) 0) (.i (.rd (.var 0) (.var 2001) 1) (.i (.rd (.var 0) (.var 2001) 2) (.i (.rd (.var 0) (.var 2001) 3) (.i (.rd (.var 0) (.var 2001) 4) (.x (.rd (.var 0) (.var 2001) 5) (.i (.rd (.var 0) (.var 2001) 6) (.i (.rd (.var 0) (.var 2001) 7) (.x (.rd (.var 0) (.var 2001) 8) .nil)))))))))))
 (.ret ((.tup [(.one (.z (.int .i64 (.lit 0)))),(.one (.z (.int .i64 (.lit 1))))]),[],3))
 (.ite (.cmp .leq (.rd (.var 0) (.var 2001) 0) (.var 2000))
 (.ret ((.tup [(.one (.z (.int .i64 (.lit 0)))),(.one (.z (.int .i64 (.lit 1))))]),[],3))
 (.next 0 ⟨[(0,(.rd (.var 0) (.var 2001) 0)),(1,(.ar .add .i64 (.var 2001) (.lit 1)))],[],[]⟩)))))
 (.ite (.not (.cmp .leq (.len (.var 0)) (.lit 300)))
 (.ret ((.tup [(.one (.z (.int .i64 (.lit 0)))),(.one (.z (.int .i64 (.lit 1))))]),[],3))
 (.ite (.not (.fn 3 (.i (.var 1) (.i (.var 2) .nil))))
 (.ret ((.tup [(.one (.z (.int .i64 (.lit 0)))),(.one (.z (.int .i64 (.lit 1))))]),[],3))
 (.loop 1 4000 ⟨[(1,(.lit 100000)),(0,(.lit 0))],[],[]⟩
 (.ite (.cmp .lss (.var 4000) (.len (.var 0)))
 (.ob (.tru (.cmp .leq (.lit 0) (.var 4000)))
 (.ob (.tru (.cmp .lss (.var 4000) (.len (.var 0))))
 (.ite (.cmp .lss (.rd (.var 0) (.var 4000) 6) (.var 4001))
 (.ite (.cmp .eql (.rd (.var 0) (.var 4000) 1) (.lit 4))
 (.next 1 ⟨[(1,(.var 4001)),(0,(.ar .add .i64 (.var 4000) (.lit 1)))],[],[]⟩)
 (.ite (.cmp .eql (.rd (.var 0) (.var 4000) 1) (.lit 3))
 (.ite (.cmp .eql (.rd (.var 0) (.var 4000) 1) (.lit 3))
 (.ite (.cmp .eql (.fn 71 (.i (.var 1) (.i (.var 2) (.x (.rd (.var 0) (.var 4000) 5) .nil)))) (.lit 0))
 (.ite (.cmp .geq (.fn 70 (.i (.var 1) (.i (.var 2) (.x (.rd (.var 0) (.var 4000) 5) .nil)))) (.lit 0))
 (.next 1 ⟨[(1,(.rd (.var 0) (.var 4000) 6)),(0,(.ar .add .i64 (.var 4000) (.lit 1)))],[],[]⟩)
 (.next 1 ⟨[(1,(.var 4001)),(0,(.ar .add .i64 (.var 4000) (.lit 1)))],[],[]⟩))
 (.next 1 ⟨[(1,(.var 4001)),(0,(.ar .add .i64 (.var 4000) (.lit 1)))],[],[]⟩))
 (.ite (.cmp .eql (.fn 13 (.i (.var 1) (.i (.var 2) (.i (.rd (.var 0) (.var 4000) 2) (.i (.rd (.var 0) (.var 4000) 3) (.i (.rd (.var 0) (.var 4000) 2) (.i (.rd (.var 0) (.var 4000) 3) (.i (.rd (.var 0) (.var 4000) 4) .nil)))))))) (.lit 0))
 (.ite (.fn 7 (.i (.var 1) (.i (.var 2) (.i (.rd (.var 0) (.var 4000) 2) (.i (.rd (.var 0) (.var 4000) 3) (.i (.rd (.var 0) (.var 4000) 2) (.i (.rd (.var 0) (.var 4000) 3) (.i (.rd (.var 0) (.var 4000) 4) .nil))))))))
 (.next 1 ⟨[(1,(.rd (.var 0) (.var 4000) 6)),(0,(.ar .add .i64 (.var 4000) (.lit 1)))],[],[]⟩)
 (.next 1 ⟨[(1,(.var 4001)),(0,(.ar .add .i64 (.var 4000) (.lit 1)))],[],[]⟩))
 (.next 1 ⟨[(1,(.var 4001)),(0,(.ar .add .i64 (.var 4000) (.lit 1)))],[],[]⟩)))
 (.ite (.cmp .eql (.rd (.var 0) (.var 4000) 1) (.lit 6))
 (.ite (.cmp .eql (.fn 71 (.i (.var 1) (.i (.var 2) (.x (.rd (.var 0) (.var 4000) 5) .nil)))) (.lit 0))
 (.ite (.cmp .geq (.fn 70 (.i (.var 1) (.i (.var 2) (.x (.rd (.var 0) (.var 4000) 5) .nil)))) (.lit 0))
 (.next 1 ⟨[(1,(.rd (.var 0) (.var 4000) 6)),(0,(.ar .add .i64 (.var 4000) (.lit 1)))],[],[]⟩)
 (.next 1 ⟨[(1,(.var 4001)),(0,(.ar .add .i64 (.var 4000) (.lit 1)))],[],[]⟩))
 (.next 1 ⟨[(1,(.var 4001)),(0,(.ar .add .i64 (.var 4000) (.lit 1)))],[],[]⟩))
 (.ite (.cmp .eql (.fn 13 (.i (.var 1) (.i (.var 2) (.i (.rd (.var 0) (.var 4000) 2) (.i (.rd (.var 0) (.var 4000) 3) (.i (.rd (.var 0) (.var 4000) 2) (.i (.rd (.var 0) (.var 4000) 3) (.i (.rd (.var 0) (.var 4000) 4) .nil)))))))) (.lit 0))
 (.ite (.fn 7 (.i (.var 1) (.i (.var 2) (.i (.rd (.var 0) (.var 4000) 2) (.i (.rd (.var 0) (.var 4000) 3) (.i (.rd (.var 0) (.var 4000) 2) (.i (.rd (.var 0) (.var 4000) 3) (.i (.rd (.var 0) (.var 4000) 4) .nil))))))))
 (.next 1 ⟨[(1,(.rd (.var 0) (.var 4000) 6)),(0,(.ar .add .i64 (.var 4000) (.lit 1)))],[],[]⟩)
 (.next 1 ⟨[(1,(.var 4001)),(0,(.ar .add .i64 (.var 4000) (.lit 1)))],[],[]⟩))
 (.next 1 ⟨[(1,(.var 4001)),(0,(.ar .add .i64 (.var 4000) (.lit 1)))],[],[]⟩)))))
 (.next 1 ⟨[(1,(.var 4001)),(0,(.ar .add .i64 (.var 4000) (.lit 1)))],[],[]⟩))))
 (.ret ((.tup [(.one (.z (.int .i64 (.var 4001)))),(.one (.z (.int .i64 (.lit 0))))]),[],8))))))))
set_option maxRecDepth 100000 in
theorem b4R:T.norm 0 (call Tryz.prog b3N (Lt.of []) 100 52 (i6 0 [B7,pt]) [] 0) TT.ret=a6z:=by kernel_rfl
theorem b3D:a6z.low 1000=true:=by kernel_rfl
def Z8(r:Rows)(i:Nat):Bool:=z6 (lg r i 0) (lg r i 1) (lg r i 2) (lg r i 3) (lg r i 4) (lr r i 5) (lg r i 6) (lg r i 7) (lr r i 8)
def E6(r:Rows):Nat→Nat→Int→Bool
 | 0,_,_=>true
 | f+1,i,last=>(Z8 r i&&decide (last<lg r i 0))&&E6 r f (i+1) (lg r i 0)
def G3(r:Rows):Bool:=E6 r r.length 0 0&&decide (r.length≤300)
def X7(ds:List D):Bool:=G3 (d9 ds 0)
def S5(r:Rows)(i:Nat)(px py:Int):Bool:=F9 (lg r i 1) (lg r i 2) (lg r i 3) (lg r i 4) (lr r i 5) px py
def W8(r:Rows)(px py:Int):Nat→Nat→Int→Int
 | 0,_,m=>m
 | f+1,i,m=>W8 r px py f (i+1) (if lg r i 6<m∧S5 r i px py=true then lg r i 6 else m)
def T5(ds:List D):Bool:=G3 (d9 ds 0)&&g9 (c9 ds 1) (c9 ds 2)
def C9(ds:List D):Int:=if T5 ds then W8 (d9 ds 0) (c9 ds 1) (c9 ds 2) (d9 ds 0).length 0 100000 else 0
def C8(ds:List D):Int:=if T5 ds then 0 else 1
theorem a2X{W:World}{vals:List Value}{ds:List D}{sh:List Sh}(h:A4 W (B7::sh) vals ds):(d9 ds 0).length≤281474976710656:=by
 obtain⟨v,vs',d,ds',rfl,rfl,⟨d,rfl,h⟩,_⟩:=h
 rw[y7] at h
 obtain⟨r,rfl,a,n,c,_,hs,_⟩:=h
 have e1:=hs.len
 have e2:=hs.big
 show r.length≤_
 omega
theorem c6b(W:World)(ds l:List D):(f0 F4 W ds).fb 76 l=G2 l:=by simp only[f0,F4,V0,Z7,M4,C0,G1,C6,z9,w9,KI,KH,KG,KF]
theorem d6N(W:World)(ds l:List D):(f0 F4 W ds).fb 3 l=s9 l:=by simp only[f0,F4,V0,Z7,M4,C0,G1,C6,z9,w9,KI,KH,KG,KF,KE,KD,KC,KB,KA,K9,K8,K7,K6,K5,K]
theorem d5a(W:World)(ds l:List D):(f0 F4 W ds).fi 70 l=O3 l:=by simp only[f0,F4,V0,Z7,M4,C0,G1,C6,z9,w9,KI,KH,KG,KF,KE,KD,KC]
theorem d4F(W:World)(ds l:List D):(f0 F4 W ds).fi 71 l=P8 l:=by simp only[f0,F4,V0,Z7,M4,C0,G1,C6,z9,w9,KI,KH,KG,KF,KE,KD,KC]
theorem d4Z(W:World)(ds l:List D):(f0 F4 W ds).fi 13 l=R4 l:=by simp only[f0,F4,V0,Z7,M4,C0,G1,C6,z9,w9,KI,KH,KG,KF,KE,KD,KC,KB,KA,K9,K8,K7,K6,K5,K]
theorem d7P(W:World)(ds l:List D):(f0 F4 W ds).fb 7 l=L6 l:=by simp only[f0,F4,V0,Z7,M4,C0,G1,C6,z9,w9,KI,KH,KG,KF,KE,KD,KC,KB,KA,K9,K8,K7,K6,K5,K]
theorem a4M(r:Rows)(i:Nat):z6 (lg r i 0) (lg r i 1) (lg r i 2) (lg r i 3) (lg r i 4) (lr r i 5) (lg r i 6) (lg r i 7) (lr r i 8)=Z8 r i:=rfl
set_option maxHeartbeats 2000000 in
theorem c8G:k8 Tryz.prog 52 [B7,pt] (fun ds=> .tuple #[.int .i64 (C9 ds),.int .i64 (C8 ds)]):=by
 refine GivesIf.all (i7 F4 (by kernel_rfl) (fun ρ h=>a8m (Sees.of h 132)) (by kernel_rfl) b4R b3D (by decide) (fun W vals ds hr _=> ?_))
 have hlen:=a2X hr
 simp only[a6z]
 have F:T5 ds=false→Value.tuple #[.int .i64 0,.int .i64 1]=Value.tuple #[.int .i64 (C9 ds),.int .i64 (C8 ds)]:=fun h=>by simp [C9,C8,h]
 have T:T5 ds=true→∀m,W8 (d9 ds 0) (c9 ds 1) (c9 ds 2) (d9 ds 0).length 0 100000=m→Value.tuple #[.int .i64 m,.int .i64 0]=Value.tuple #[.int .i64 (C9 ds),.int .i64 (C8 ds)]:=fun h m h'=>by simp [C9,C8,h,h']
 have hO:T5 ds=(G3 (d9 ds 0)&&g9 (c9 ds 1) (c9 ds 2)):=rfl
 clear hr
 generalize e0:d9 ds 0=r at*
 generalize e1:c9 ds 1=px at*
 generalize e2:c9 ds 2=py at*
 refine TT.sat_loop (fun v=>∃i:Nat,v.i 1=i∧i≤r.length∧(E6 r (r.length-i) i (v.i 0)&&decide (r.length≤300))=G3 r) (fun v=>r.length-(v.i 1).toNat)
  ⟨0,by simp [j7,i8,E.ev],by omega,rfl⟩ (fun v hv=> ?_)
 obtain⟨i,i0,i1,i2⟩:=hv
 simp only[g8,Nat.reduceBEq,Nat.reduceLT,Nat.reduceSub,i0,e0,e1,e2,c6b,d6N,O9,E5,a4M]
 refine⟨fun hc=> ?_,fun hc=> ?_⟩
 ·have hi:i<r.length:=by omega
  obtain⟨f,hf⟩:∃f,r.length-i=f+1:=⟨r.length-i-1,by omega⟩
  have hf':r.length-(i+1)=f:=by omega
  rw[hf,E6] at i2
  rw[f8 ((i:Int)+1) (by omega) (by omega)]
  refine⟨by omega,by omega,fun h=>F ?_,fun h=>⟨fun g=>F ?_,fun g=>⟨⟨i+1,rfl,by omega,?_⟩,by omega⟩⟩⟩
  ·rw[hO,←i2,h];rfl
  ·rw[hO,←i2,h,decide_eq_false (by omega)];rfl
  ·rw[hf',←i2,h,decide_eq_true (p:=v.i 0<lg r i 0) (by omega)];rfl
 ·have h0:r.length-i=0:=by omega
  rw[h0,E6,Bool.true_and] at i2
  refine⟨fun h=>F ?_,fun h=>⟨fun g=>F ?_,fun g=> ?_⟩⟩
  ·rw[hO,←i2,decide_eq_false (by omega)];rfl
  ·rw[hO,g,Bool.and_false]
  have hO':T5 ds=true:=by rw[hO,←i2,g,decide_eq_true (by omega)];rfl
  replace T:=T hO'
  clear F hO hO' i2
  refine TT.sat_loop (fun v=>∃i:Nat,v.i 0=i∧i≤r.length∧W8 r px py (r.length-i) i (v.i 1)=W8 r px py r.length 0 100000) (fun v=>r.length-(v.i 0).toNat)
   ⟨0,by simp [j7,i8,E.ev],by omega,rfl⟩ (fun u hu=> ?_)
  obtain⟨j,j0,j1,j2⟩:=hu
  simp only[g8,Nat.reduceBEq,Nat.reduceLT,Nat.reduceSub,j0,e0,e1,e2,d5a,d4F,d4Z,d7P]
  refine⟨fun hc=> ?_,fun hc=> ?_⟩
  ·have hj:j<r.length:=by omega
   obtain⟨f,hf⟩:∃f,r.length-j=f+1:=⟨r.length-j-1,by omega⟩
   have hf':r.length-(j+1)=f:=by omega
   rw[hf,W8] at j2
   have hw:IntKind.i64.wrap ((j:Int)+1)=(j:Int)+1:=f8 _ (by omega) (by omega)
   simp only[hw]
   have N:∀m,(if lg r j 6<u.i 1∧S5 r j px py=true then lg r j 6 else u.i 1)=m→∃i:Nat,(j:Int)+1=i∧i≤r.length∧W8 r px py (r.length-i) i m=W8 r px py r.length 0 100000:=
    fun m h=>⟨j+1,rfl,by omega,by rw[hf',←j2,h]⟩
   have hm:r.length-((j:Int)+1).toNat<r.length-(j:Int).toNat:=by omega
   have C4:lg r j 1=4→S5 r j px py=false:=fun h=>by unfold S5 F9;rw[if_pos h]
   have CA:(lg r j 1=3∨lg r j 1=6)→S5 r j px py=decide (P8 [.i px,.i py,.l (lr r j 5)]=0∧0≤O3 [.i px,.i py,.l (lr r j 5)]):=fun h=>by unfold S5 F9;rw[if_neg (by omega),if_pos h]
   have CD:lg r j 1≠4→lg r j 1≠3→lg r j 1≠6→S5 r j px py=(decide (R4 [.i px,.i py,.i (lg r j 2),.i (lg r j 3),.i (lg r j 2),.i (lg r j 3),.i (lg r j 4)]=0)&&L6 [.i px,.i py,.i (lg r j 2),.i (lg r j 3),.i (lg r j 2),.i (lg r j 3),.i (lg r j 4)]):=fun h1 h2 h3=>by unfold S5 F9;rw[if_neg h1,if_neg (by omega)]
   refine⟨by omega,by omega,?_⟩
   clear hc hf hf' j2 T e0 e1 e2
   repeat' (first | (intro h;skip) | (refine And.intro ?_ ?_))
   all_goals first
    | exact hm
    | omega
    | (refine N _ (if_neg ?_);omega)
    | (refine N _ (if_neg ?_);rw[C4 (by omega)];simp)
    | (refine N _ (if_neg ?_);rw[CA (by omega),decide_eq_true_eq];omega)
    | (refine N _ (if_pos ⟨by omega,?_⟩);rw[CA (by omega),decide_eq_true_eq];omega)
    | (refine N _ (if_pos ⟨by omega,?_⟩);rw[CD (by omega) (by omega) (by omega)];simp [*];done)
    | (refine N _ (if_neg (fun q=> ?_));have q2:=q.2;rw[CD (by omega) (by omega) (by omega),Bool.and_eq_true,decide_eq_true_eq] at q2;simp_all;done)
  ·have h0:r.length-j=0:=by omega
   rw[h0,W8] at j2
   exact T _ j2.symm
def I4:Interp where
 fi n l:=match n with | 132=>C9 l | 133=>C8 l | n=>F4.fi n l
 fb n l:=F4.fb n l
 fd _ _:=[]
theorem c0d{ρ:Env}(h:Sees ρ I4 134):Sees ρ F4 132:=h.trans (by decide) fun n l hn=>by
 refine⟨?_,?_⟩
 ·
  simp only[I4]
  split<;>first | omega | rfl
 ·
  rfl
def b4T:=o7 [B7,pt] fun al=> .ret (.tup [.one (w6 132 C9 al),.one (w6 133 C8 al)])
theorem b8g{ρ:Env}(h:Sees ρ I4 134):i9 Tryz.prog ρ 52 b4T:=
 k5 c8G (fun _=>rfl) (fun al=>by simp only[V.val,V2.val,S.val,S0.val,w6,G8,List.map_cons,List.map_nil,o6 (s:=132) (f:=C9) (fun l=>by rw[(h 132 l (by decide)).1];simp only[I4]),o6 (s:=133) (f:=C8) (fun l=>by rw[(h 133 l (by decide)).1];simp only[I4])];try rfl)
def b3T:Ct:=(52,b4T)::b3N
theorem a7M{ρ:Env}(h:Sees ρ I4 134):CtOk Tryz.prog ρ b3T:= .cons (b8g h) (a8m (c0d h))
end Go.Proofs.YtldbejmgalhdaaaGreat
