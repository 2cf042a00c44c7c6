/- NA, merged: Lm0, TNa, Na, TNb, Nb. -/
import Derived.Test.YtbbjlleaofgddaaGreatMG
import Derived.Test.YtbbjlleaofgddaaGreatMD
import Derived.Test.YtbbjlleaofgddaaGreatMY
set_option linter.unusedSimpArgs false
set_option linter.unusedVariables false
namespace Go.Proofs.YtbbjlleaofgddaaGreat
open Go.RowKit
theorem c5h{ρ:Env}(h:Sees ρ KG 80):Sees ρ K7 61:=h.trans (by decide) fun n l hn=>by
 have e:n<61:=hn
 refine⟨?_,?_⟩
 ·simp only[KG,KF,KE,KD,KC,KB,KA,K9,K8]
  (repeat' split)<;>first | omega | rfl
 ·simp only[KG,KF,KE,KD,KC,KB,KA,K9,K8]
  (repeat' split)<;>first | omega | rfl
def a2Y:TT i8:=
(.ite (.cmp .eql (.var 0) (.var 9))
 (.ite (.cmp .eql (.var 1) (.var 10))
 (.ite (.and (.cmp .eql (.var 2) (.var 11)) (.cmp .eql (.var 3) (.var 12)))
 (.ite (.cmp .eql (.var 4) (.var 13))
 (.ite (.cmp .eql (.var 6) (.var 15))
 (.ite (.cmp .eql (.var 7) (.var 16))
 (.ite (.cmp .neq (.len (.var 5)) (.len (.var 14)))
 (.ret ((.v (.one (.z (.bool (.lit false))))),[],2))
 (.loop 0 3000 ⟨[(0,(.lit 0))],[],[]⟩
 (.ite (.cmp .lss (.var 3000) (.len (.var 5)))
 (.ob (.tru (.cmp .leq (.lit 0) (.var 3000)))
 (.ob (.tru (.cmp .lss (.var 3000) (.len (.var 5))))
 (.ob (.tru (.cmp .leq (.lit 0) (.var 3000)))
 (.ob (.tru (.cmp .lss (.var 3000) (.len (.var 14))))
 (.ite (.not (.and (.cmp .eql (.rd (.var 5) (.var 3000) 0) (.rd (.var 14) (.var 3000) 0)) (.cmp .eql (.rd (.var 5) (.var 3000) 1) (.rd (.var 14) (.var 3000) 1))))
 (.ret ((.v (.one (.z (.bool (.lit false))))),[],3))
 (.next 0 ⟨[(0,(.ar .add .i64 (.var 3000) (.lit 1)))],[],[]⟩))))))
 (.ite (.cmp .neq (.len (.var 8)) (.len (.var 17)))
 (.ret ((.v (.one (.z (.bool (.lit false))))),[],3))
 (.loop 1 4000 ⟨[(0,(.lit 0))],[],[]⟩
 (.ite (.cmp .lss (.var 4000) (.len (.var 8)))
 (.ob (.tru (.cmp .leq (.lit 0) (.var 4000)))
 (.ob (.tru (.cmp .lss (.var 4000) (.len (.var 8))))
 (.ob (.tru (.cmp .leq (.lit 0) (.var 4000)))
 (.ob (.tru (.cmp .lss (.var 4000) (.len (.var 17))))
 (.ite (.not (.and (.and (.cmp .eql (.rd (.var 8) (.var 4000) 0) (.rd (.var 17) (.var 4000) 0)) (.cmp .eql (.rd (.var 8) (.var 4000) 1) (.rd (.var 17) (.var 4000) 1))) (.and (.and (.cmp .eql (.rd (.var 8) (.var 4000) 2) (.rd (.var 17) (.var 4000) 2)) (.cmp .eql (.rd (.var 8) (.var 4000) 3) (.rd (.var 17) (.var 4000) 3))) (.and (.cmp .eql (.rd (.var 8) (.var 4000) 4) (.rd (.var 17) (.var 4000) 4)) (.cmp .eql (.rd (.var 8) (.var 4000) 5) (.rd (.var 17) (.var 4000) 5))))))
 (.ret ((.v (.one (.z (.bool (.lit false))))),[],4))
 (.next 1 ⟨[(0,(.ar .add .i64 (.var 4000) (.lit 1)))],[],[]⟩))))))
 (.ret ((.v (.one (.z (.bool (.lit true))))),[],4))))))))
 (.ret ((.v (.one (.z (.bool (.lit false))))),[],2)))
 (.ret ((.v (.one (.z (.bool (.lit false))))),[],2)))
 (.ret ((.v (.one (.z (.bool (.lit false))))),[],2)))
 (.ret ((.v (.one (.z (.bool (.lit false))))),[],2)))
 (.ret ((.v (.one (.z (.bool (.lit false))))),[],2)))
 (.ret ((.v (.one (.z (.bool (.lit false))))),[],2)))
set_option maxRecDepth 100000 in
theorem a9P:T.norm 0 (call Tryz.prog [] (Lt.of []) 100 109 (i5 0 [E5,E5]) [] 0) TT.ret=a2Y:=by kernel_rfl
theorem a7V:a2Y.low 1000=true:=by kernel_rfl
def htB(lo hi:Int):Bool:=a7c lo hi&&decide (-100000≤lo∧hi≤100000)
def htL(ds:List D):Bool:=htB (a9 ds 0) (a9 ds 1)
def b7l(ds:List D):Bool:=a7c (a9 ds 0) (a9 ds 1)&&a7c (a9 ds 2) (a9 ds 3)
def sjA(ds:List D):Int:=if b7l ds then min (a9 ds 0) (a9 ds 2) else 0
def sjB(ds:List D):Int:=if b7l ds then max (a9 ds 1) (a9 ds 3) else 0
def sjE(ds:List D):Int:=if b7l ds then 0 else 1
def b9k(r:Rows):Nat→Bool
 | 0=>true
 | i+1=>decide (lg r i 0≤lg r (i+1) 0)&&b9k r i
def c3r(d m:Int)(r:Rows):Bool:=decide (1≤d∧d≤1000∧0≤m∧m≤1000∧1≤r.length∧r.length≤20)&&(b9k r (r.length-1)&&decide (0≤lg r 0 0∧lg r ((r.length:Int)-1) 0≤1000))
def c6y(ds:List D):Bool:=c3r (a9 ds 0) (a9 ds 1) (f8 ds 2)
def c4b(a b c d e f s:Int):Bool:=decide ((-2000000≤a∧a≤2000000)∧(-2000000≤b∧b≤2000000)∧(-2000000≤d∧d≤2000000)∧(-2000000≤e∧e≤2000000))&&decide (250000000000≤a*e-b*d∧(-100000≤c∧c≤100000)∧(-100000≤f∧f≤100000)∧0≤s∧s≤1000)
def c6z(ds:List D):Bool:=c4b (a9 ds 0) (a9 ds 1) (a9 ds 2) (a9 ds 3) (a9 ds 4) (a9 ds 5) (a9 ds 6)
def b9W(r:Rows)(i:Nat):Bool:=a4O (lg r i 0) (lg r i 1) (lg r i 2) (lg r i 3) (lg r i 4) (lr r i 5) (lg r i 6) (lg r i 7) (lr r i 8)
def c2c(r:Rows):Nat→Nat→Int→Bool
 | 0,_,_=>true
 | f+1,i,last=>(b9W r i&&decide (last<lg r i 0))&&c2c r f (i+1) (lg r i 0)
def b9E(r:Rows):Bool:=c2c r r.length 0 0&&decide (r.length≤300)
def c4B(ds:List D):Bool:=b9E (f8 ds 0)
def eqC(r s:Rows)(i:Nat):Nat→Bool
 | 0=>true
 | c+1=>eqC r s i c&&decide (lg r i c=lg s i c)
def Y1(c:Nat)(r s:Rows):Nat→Nat→Bool
 | 0,_=>true
 | f+1,i=>eqC r s i c&&Y1 c r s f (i+1)
def R5(c:Nat)(r s:Rows):Bool:=decide (r.length=s.length)&&Y1 c r s r.length 0
def a0B(i1 k1 x1 y1 r1:Int)(a1:Rows)(d1 s1:Int)(t1:Rows)(i2 k2 x2 y2 r2:Int)(a2:Rows)(d2 s2:Int)(t2:Rows):Bool:=
 decide ((i1=i2∧k1=k2∧x1=x2∧y1=y2)∧r1=r2∧d1=d2∧s1=s2)&&(R5 2 a1 a2&&R5 6 t1 t2)
def sameL(ds:List D):Bool:=a0B (a9 ds 0) (a9 ds 1) (a9 ds 2) (a9 ds 3) (a9 ds 4) (f8 ds 5) (a9 ds 6) (a9 ds 7) (f8 ds 8) (a9 ds 9) (a9 ds 10) (a9 ds 11) (a9 ds 12) (a9 ds 13) (f8 ds 14) (a9 ds 15) (a9 ds 16) (f8 ds 17)
theorem b1d{c:Nat}{r s:Rows}:∀(f i:Nat),Y1 c r s f i=true↔∀k,i≤k→k<i+f→eqC r s k c=true
 | 0,i=>⟨fun _ k h1 h2=>(by omega),fun _=>rfl⟩
 | f+1,i=>by
   rw[Y1,Bool.and_eq_true,b1d f (i+1)]
   constructor
   ·rintro⟨h1,h2⟩ k hk hk'
    by_cases e:k=i
    ·subst e;exact h1
    ·exact h2 k (by omega) (by omega)
   ·exact fun h=>⟨h i (by omega) (by omega),fun k h1 h2=>h k (by omega) (by omega)⟩
theorem a2G{r s:Rows}{i:Nat}:∀c,eqC r s i c=true↔∀j,j<c→lg r i j=lg s i j
 | 0=>⟨fun _ j h=>(by omega),fun _=>rfl⟩
 | c+1=>by
   rw[eqC,Bool.and_eq_true,a2G c,decide_eq_true_eq]
   constructor
   ·rintro⟨h1,h2⟩ j hj
    by_cases e:j=c
    ·subst e;exact h2
    ·exact h1 j (by omega)
   ·exact fun h=>⟨fun j hj=>h j (by omega),h c (by omega)⟩
theorem c0r{c:Nat}{r s:Rows}:R5 c r s=true↔r.length=s.length∧∀k,k<r.length→∀j,j<c→lg r k j=lg s k j:=by
 rw[R5,Bool.and_eq_true,decide_eq_true_eq,b1d]
 simp only[a2G]
 exact⟨fun h=>⟨h.1,fun k hk=>h.2 k (by omega) (by omega)⟩,fun h=>⟨h.1,fun k _ hk=>h.2 k (by omega)⟩⟩
theorem a1S{w:World}:∀ {ks:List CK} {vs:List Value} {ds:List D},CK.reps w ks vs ds→ds.length=ks.length
 | [],vs,ds,h=>by
   unfold CK.reps at h
   obtain⟨rfl,rfl⟩:=h
   rfl
 | k::ks,vs,ds,h=>by
   unfold CK.reps at h
   obtain⟨v,vs',d,ds',rfl,rfl,h1,h2⟩:=h
   simp [a1S h2]
theorem a0E{w:World}{ks:List CK}{v:Value}{d:D}(h:CK.rep w (.sl ks) v d):d.rows.length≤281474976710656:=by
 rw[x9] at h
 obtain⟨r,rfl,a,n,c,_,hs,_⟩:=h
 have e1:=hs.len
 have e2:=hs.big
 show r.length≤_
 omega
theorem b8L(W:World)(vals:List Value)(ds:List D)(sh:List Sh)(hr:D8 W (E5::E5::sh) vals ds):((f8 ds 5).length≤281474976710656∧(f8 ds 8).length≤281474976710656)∧(f8 ds 14).length≤281474976710656∧(f8 ds 17).length≤281474976710656:=by
 obtain⟨v1,vs1,d1,ds1,rfl,rfl,⟨u1,_,h1⟩,v2,vs2,d2,ds2,rfl,rfl,⟨u2,_,h2⟩,_⟩:=hr
 have e1:d1.length=9:=a1S h1
 have e2:d2.length=9:=a1S h2
 obtain⟨_,x5,_,p5,q5⟩:=F5 (j:=5) h1 rfl
 obtain⟨_,x8,_,p8,q8⟩:=F5 (j:=8) h1 rfl
 obtain⟨_,y5,_,r5,t5⟩:=F5 (j:=5) h2 rfl
 obtain⟨_,y8,_,r8,t8⟩:=F5 (j:=8) h2 rfl
 have a5:(d1++(d2++ds2))[5]? = some x5:=by rw[List.getElem?_append_left (by omega)];exact p5
 have a8:(d1++(d2++ds2))[8]? = some x8:=by rw[List.getElem?_append_left (by omega)];exact p8
 have a14:(d1++(d2++ds2))[14]? = some y5:=by rw[List.getElem?_append_right (by omega),e1,List.getElem?_append_left (by omega)];exact r5
 have a17:(d1++(d2++ds2))[17]? = some y8:=by rw[List.getElem?_append_right (by omega),e1,List.getElem?_append_left (by omega)];exact r8
 have gd:∀(l:List D) (i:Nat) (d:D),l[i]? = some d→l.getD i (.i 0)=d:=fun l i d h=>by rw[List.getD_eq_getElem?_getD,h];rfl
 unfold f8
 rw[gd _ _ _ a5,gd _ _ _ a8,gd _ _ _ a14,gd _ _ _ a17]
 exact⟨⟨a0E q5,a0E q8⟩,a0E t5,a0E t8⟩
set_option maxHeartbeats 1000000 in
theorem c0f:k8 Tryz.prog 109 [E5,E5] (fun ds=> .bool (sameL ds)):=by
 refine GivesIf.all (i6 I0 (by kernel_rfl) (fun ρ _=>CtOk.nil) (by kernel_rfl) a9P a7V (by decide) (fun W vals ds hr _=> ?_))
 obtain⟨⟨n5,n8⟩,n14,n17⟩:=b8L W vals ds _ hr
 simp only[a2Y,g7,Nat.reduceBEq,Nat.reduceLT,Nat.reduceSub]
 have F:∀b,sameL ds=b→Value.bool b=Value.bool (sameL ds):=fun b h=>by rw[h]
 have N:¬((a9 ds 0=a9 ds 9∧a9 ds 1=a9 ds 10∧a9 ds 2=a9 ds 11∧a9 ds 3=a9 ds 12)∧a9 ds 4=a9 ds 13∧a9 ds 6=a9 ds 15∧a9 ds 7=a9 ds 16)→Value.bool false=Value.bool (sameL ds):=fun h=>F _ (by rw[sameL,a0B,decide_eq_false h,Bool.false_and])
 refine⟨fun h0=>⟨fun h1=>⟨fun h2=>⟨fun h3=>⟨fun h4=>⟨fun h5=> ?_,fun h=>N (by omega)⟩,fun h=>N (by omega)⟩,fun h=>N (by omega)⟩,fun h=>N (by omega)⟩,fun h=>N (by omega)⟩,fun h=>N (by omega)⟩
 have hS:sameL ds=(R5 2 (f8 ds 5) (f8 ds 14)&&R5 6 (f8 ds 8) (f8 ds 17)):=by
  rw[sameL,a0B,decide_eq_true (by omega),Bool.true_and]
 rw[hS]
 clear N F hS hr
 generalize e5:f8 ds 5=a at*
 generalize e14:f8 ds 14=b at*
 generalize e8:f8 ds 8=s at*
 generalize e17:f8 ds 17=t at*
 refine⟨fun h=> ?_,fun h=> ?_⟩
 ·rw[R5,decide_eq_false (by omega)];rfl
 have hab:a.length=b.length:=by omega
 have hX:R5 2 a b=Y1 2 a b a.length 0:=by rw[R5,decide_eq_true hab];rfl
 rw[hX]
 refine TT.sat_loop (fun v=>∃i:Nat,v.i 0=i∧i≤a.length∧Y1 2 a b (a.length-i) i=Y1 2 a b a.length 0) (fun v=>a.length-(v.i 0).toNat)
  ⟨0,by simp [o6,j6,E.ev],by omega,rfl⟩ (fun v hv=> ?_)
 obtain⟨i,i0,i1,i2⟩:=hv
 simp only[g7,Nat.reduceBEq,Nat.reduceLT,Nat.reduceSub,i0,e5,e14,e8,e17]
 refine⟨fun hc=> ?_,fun hc=> ?_⟩
 ·have hi:i<a.length:=by omega
  obtain⟨f,hf⟩:∃f,a.length-i=f+1:=⟨a.length-i-1,by omega⟩
  have hf':a.length-(i+1)=f:=by omega
  rw[hf,Y1] at i2
  rw[f9 ((i:Int)+1) (by omega) (by omega)]
  refine⟨by omega,by omega,by omega,by omega,fun q=> ?_,fun q=>⟨⟨i+1,rfl,by omega,?_⟩,by omega⟩⟩
  ·rw[←i2,show eqC a b i 2=false by rw[←Bool.not_eq_true,a2G];exact fun g=>q ⟨g 0 (by omega),g 1 (by omega)⟩];rfl
  ·rw[hf',←i2,show eqC a b i 2=true by
    simp only[eqC,decide_eq_true_eq,Bool.and_eq_true,Bool.true_and]
    exact q];rfl
 ·have h0:a.length-i=0:=by omega
  rw[h0,Y1] at i2
  rw[←i2,Bool.true_and]
  refine⟨fun h=> ?_,fun h=> ?_⟩
  ·rw[R5,decide_eq_false (by omega)];rfl
  have hst:s.length=t.length:=by omega
  have hX:R5 6 s t=Y1 6 s t s.length 0:=by rw[R5,decide_eq_true hst];rfl
  rw[hX]
  refine TT.sat_loop (fun v=>∃i:Nat,v.i 0=i∧i≤s.length∧Y1 6 s t (s.length-i) i=Y1 6 s t s.length 0) (fun v=>s.length-(v.i 0).toNat)
   ⟨0,by simp [o6,j6,E.ev],by omega,rfl⟩ (fun u hu=> ?_)
  obtain⟨j,j0,j1,j2⟩:=hu
  simp only[g7,Nat.reduceBEq,Nat.reduceLT,Nat.reduceSub,j0,e5,e14,e8,e17]
  refine⟨fun hc=> ?_,fun hc=> ?_⟩
  ·have hj:j<s.length:=by omega
   obtain⟨f,hf⟩:∃f,s.length-j=f+1:=⟨s.length-j-1,by omega⟩
   have hf':s.length-(j+1)=f:=by omega
   rw[hf,Y1] at j2
   rw[f9 ((j:Int)+1) (by omega) (by omega)]
   refine⟨by omega,by omega,by omega,by omega,fun q=> ?_,fun q=>⟨⟨j+1,rfl,by omega,?_⟩,by omega⟩⟩
   ·rw[←j2,show eqC s t j 6=false by rw[←Bool.not_eq_true,a2G];exact fun g=>q ⟨⟨g 0 (by omega),g 1 (by omega)⟩,⟨g 2 (by omega),g 3 (by omega)⟩,g 4 (by omega),g 5 (by omega)⟩];rfl
   ·rw[hf',←j2,show eqC s t j 6=true by
     simp only[eqC,decide_eq_true_eq,Bool.and_eq_true,Bool.true_and]
     omega];rfl
  ·have h0:s.length-j=0:=by omega
   rw[h0,Y1] at j2
   rw[←j2]
def N1:Interp where
 fi n l:=match n with | 141=>sjA l | 142=>sjB l | 143=>sjE l | n=>KG.fi n l
 fb n l:=match n with | 140=>htL l | 144=>c6y l | 145=>c6z l | 146=>c4B l | 147=>sameL l | n=>KG.fb n l
 fd _ _:=[]
theorem c4l{ρ:Env}(h:Sees ρ N1 150):Sees ρ KG 80:=h.trans (by decide) fun n l hn=>by
 refine⟨?_,?_⟩
 ·
  simp only[N1]
  split<;>first | omega | rfl
 ·
  simp only[N1]
  split<;>first | omega | rfl
def b0Y:=o9 [E5,E5] fun al=> .ret (bV (bF 147 sameL al))
theorem b3g{ρ:Env}(h:Sees ρ N1 150):i4 Tryz.prog ρ 109 b0Y:=
 j4 c0f (fun _=>rfl) (fun al=>by simp only[iV,bV,V.s0,V.val,V2.val,S.val,S0.val,o8 (s:=147) (f:=sameL) (fun l=>by rw[(h 147 l (by decide)).2];simp only[N1])];try rfl)
def b7D:Ct:=(109,b0Y)::(125,b5d)::ct7
theorem b0H{ρ:Env}(h:Sees ρ N1 150):CtOk Tryz.prog ρ b7D:=
 have g:=c4l h
 .cons (b3g h)<| .cons (b5C (c4Q g))<|(c1Z (c5h g))
def B3:List CK:=[.int .i64,.int .i64,.int .i64,.int .i64,.int .i64,.int .i64,.int .i64,.sl ptK,.int .i64,.int .i64,.sl a5F,.int .i64,.int .i64,.int .i64,.int .i64,.int .i64]
def V6:Sh:= .agg B3
def b1G:TT i8:=
(.ite (.cmp .lss (.var 1) (.lit 1))
 (.ret ((.v (.one (.z (.bool (.lit false))))),[],1))
 (.ite (.cmp .gtr (.var 1) (.lit 100000))
 (.ret ((.v (.one (.z (.bool (.lit false))))),[],1))
 (.ite (.cmp .eql (.var 0) (.lit 1))
 (.ite (.and (.cmp .eql (.var 11) (.lit 0)) (.cmp .eql (.var 12) (.lit 0)))
 (.ite (.cmp .eql (.var 13) (.lit 0))
 (.ite (.cmp .eql (.var 14) (.lit 0))
 (.ite (.cmp .eql (.var 15) (.lit 0))
 (.ite (.cmp .eql (.var 0) (.lit 1))
 (.ite (.cmp .eql (.var 2) (.var 1))
 (.ret ((.v (.one (.z (.bool (.fn 76 (.i (.var 2) (.i (.var 3) (.i (.var 4) (.i (.var 5) (.i (.var 6) (.x (.var 7) (.i (.var 8) (.i (.var 9) (.x (.var 10) .nil)))))))))))))),[],5))
 (.ret ((.v (.one (.z (.bool (.lit false))))),[],5)))
 (.ite (.cmp .eql (.var 0) (.lit 2))
 (.ret ((.v (.one (.z (.bool (.lit true))))),[],5))
 (.ite (.cmp .eql (.var 0) (.lit 3))
 (.ite (.cmp .geq (.var 13) (.lit 0))
 (.ite (.cmp .leq (.var 13) (.lit 100000))
 (.ite (.fn 3 (.i (.var 11) (.i (.var 12) .nil)))
 (.ite (.fn 3 (.i (.ar .sub .i64 (.var 11) (.var 13)) (.i (.ar .sub .i64 (.var 12) (.var 13)) .nil)))
 (.ret ((.v (.one (.z (.bool (.fn 3 (.i (.ar .add .i64 (.var 11) (.var 13)) (.i (.ar .add .i64 (.var 12) (.var 13)) .nil))))))),[],6))
 (.ret ((.v (.one (.z (.bool (.lit false))))),[],6)))
 (.ret ((.v (.one (.z (.bool (.lit false))))),[],5)))
 (.ret ((.v (.one (.z (.bool (.lit false))))),[],5)))
 (.ret ((.v (.one (.z (.bool (.lit false))))),[],5)))
 (.ite (.cmp .eql (.var 0) (.lit 4))
 (.ite (.cmp .geq (.var 14) (.lit 0))
 (.ret ((.v (.one (.z (.bool (.cmp .leq (.var 14) (.lit 100000)))))),[],5))
 (.ret ((.v (.one (.z (.bool (.lit false))))),[],5)))
 (.ite (.cmp .eql (.var 0) (.lit 5))
 (.ite (.cmp .geq (.var 15) (.lit 0))
 (.ret ((.v (.one (.z (.bool (.cmp .leq (.var 15) (.lit 999)))))),[],5))
 (.ret ((.v (.one (.z (.bool (.lit false))))),[],5)))
 (.ret ((.v (.one (.z (.bool (.lit false))))),[],5)))))))
 (.ret ((.v (.one (.z (.bool (.lit false))))),[],5)))
 (.ret ((.v (.one (.z (.bool (.lit false))))),[],5)))
 (.ret ((.v (.one (.z (.bool (.lit false))))),[],5)))
 (.ret ((.v (.one (.z (.bool (.lit false))))),[],5)))
 (.ite (.cmp .eql (.var 0) (.lit 3))
 (.ite (.cmp .eql (.var 14) (.lit 0))
 (.ite (.cmp .eql (.var 15) (.lit 0))
 (.ite (.not (.fn 147 (.i (.var 2) (.i (.var 3) (.i (.var 4) (.i (.var 5) (.i (.var 6) (.x (.var 7) (.i (.var 8) (.i (.var 9) (.x (.var 10) (.i (.lit 0) (.i (.lit 0) (.i (.lit 0) (.i (.lit 0) (.i (.lit 0) (.x .nil (.i (.lit 0) (.i (.lit 0) (.x .nil .nil))))))))))))))))))))
 (.ret ((.v (.one (.z (.bool (.lit false))))),[],5))
 (.ite (.cmp .eql (.var 0) (.lit 1))
 (.ite (.cmp .eql (.var 2) (.var 1))
 (.ret ((.v (.one (.z (.bool (.fn 76 (.i (.var 2) (.i (.var 3) (.i (.var 4) (.i (.var 5) (.i (.var 6) (.x (.var 7) (.i (.var 8) (.i (.var 9) (.x (.var 10) .nil)))))))))))))),[],5))
 (.ret ((.v (.one (.z (.bool (.lit false))))),[],5)))
 (.ite (.cmp .eql (.var 0) (.lit 2))
 (.ret ((.v (.one (.z (.bool (.lit true))))),[],5))
 (.ite (.cmp .eql (.var 0) (.lit 3))
 (.ite (.cmp .geq (.var 13) (.lit 0))
 (.ite (.cmp .leq (.var 13) (.lit 100000))
 (.ite (.fn 3 (.i (.var 11) (.i (.var 12) .nil)))
 (.ite (.fn 3 (.i (.ar .sub .i64 (.var 11) (.var 13)) (.i (.ar .sub .i64 (.var 12) (.var 13)) .nil)))
 (.ret ((.v (.one (.z (.bool (.fn 3 (.i (.ar .add .i64 (.var 11) (.var 13)) (.i (.ar .add .i64 (.var 12) (.var 13)) .nil))))))),[],6))
 (.ret ((.v (.one (.z (.bool (.lit false))))),[],6)))
 (.ret ((.v (.one (.z (.bool (.lit false))))),[],5)))
 (.ret ((.v (.one (.z (.bool (.lit false))))),[],5)))
 (.ret ((.v (.one (.z (.bool (.lit false))))),[],5)))
 (.ite (.cmp .eql (.var 0) (.lit 4))
 (.ite (.cmp .geq (.var 14) (.lit 0))
 (.ret ((.v (.one (.z (.bool (.cmp .leq (.var 14) (.lit 100000)))))),[],5))
 (.ret ((.v (.one (.z (.bool (.lit false))))),[],5)))
 (.ite (.cmp .eql (.var 0) (.lit 5))
 (.ite (.cmp .geq (.var 15) (.lit 0))
 (.ret ((.v (.one (.z (.bool (.cmp .leq (.var 15) (.lit 999)))))),[],5))
 (.ret ((.v (.one (.z (.bool (.lit false))))),[],5)))
 (.ret ((.v (.one (.z (.bool (.lit false))))),[],5))))))))
 (.ret ((.v (.one (.z (.bool (.lit false))))),[],5)))
 (.ret ((.v (.one (.z (.bool (.lit false))))),[],5)))
 (.ite (.cmp .eql (.var 0) (.lit 4))
 (.ite (.and (.cmp .eql (.var 11) (.lit 0)) (.cmp .eql (.var 12) (.lit 0)))
 (.ite (.cmp .eql (.var 13) (.lit 0))
 (.ite (.cmp .eql (.var 15) (.lit 0))
 (.ite (.not (.fn 147 (.i (.var 2) (.i (.var 3) (.i (.var 4) (.i (.var 5) (.i (.var 6) (.x (.var 7) (.i (.var 8) (.i (.var 9) (.x (.var 10) (.i (.lit 0) (.i (.lit 0) (.i (.lit 0) (.i (.lit 0) (.i (.lit 0) (.x .nil (.i (.lit 0) (.i (.lit 0) (.x .nil .nil))))))))))))))))))))
 (.ret ((.v (.one (.z (.bool (.lit false))))),[],5))
 (.ite (.cmp .eql (.var 0) (.lit 1))
 (.ite (.cmp .eql (.var 2) (.var 1))
 (.ret ((.v (.one (.z (.bool (.fn 76 (.i (.var 2) (.i (.var 3) (.i (.var 4) (.i (.var 5) (.i (.var 6) (.x (.var 7) (.i (.var 8) (.i (.var 9) (.x (.var 10) .nil)))))))))))))),[],5))
 (.ret ((.v (.one (.z (.bool (.lit false))))),[],5)))
 (.ite (.cmp .eql (.var 0) (.lit 2))
 (.ret ((.v (.one (.z (.bool (.lit true))))),[],5))
 (.ite (.cmp .eql (.var 0) (.lit 3))
 (.ite (.cmp .geq (.var 13) (.lit 0))
 (.ite (.cmp .leq (.var 13) (.lit 100000))
 (.ite (.fn 3 (.i (.var 11) (.i (.var 12) .nil)))
 (.ite (.fn 3 (.i (.ar .sub .i64 (.var 11) (.var 13)) (.i (.ar .sub .i64 (.var 12) (.var 13)) .nil)))
 (.ret ((.v (.one (.z (.bool (.fn 3 (.i (.ar .add .i64 (.var 11) (.var 13)) (.i (.ar .add .i64 (.var 12) (.var 13)) .nil))))))),[],6))
 (.ret ((.v (.one (.z (.bool (.lit false))))),[],6)))
 (.ret ((.v (.one (.z (.bool (.lit false))))),[],5)))
 (.ret ((.v (.one (.z (.bool (.lit false))))),[],5)))
 (.ret ((.v (.one (.z (.bool (.lit false))))),[],5)))
 (.ite (.cmp .eql (.var 0) (.lit 4))
 (.ite (.cmp .geq (.var 14) (.lit 0))
 (.ret ((.v (.one (.z (.bool (.cmp .leq (.var 14) (.lit 100000)))))),[],5))
 (.ret ((.v (.one (.z (.bool (.lit false))))),[],5)))
 (.ite (.cmp .eql (.var 0) (.lit 5))
 (.ite (.cmp .geq (.var 15) (.lit 0))
 (.ret ((.v (.one (.z (.bool (.cmp .leq (.var 15) (.lit 999)))))),[],5))
 (.ret ((.v (.one (.z (.bool (.lit false))))),[],5)))
 (.ret ((.v (.one (.z (.bool (.lit false))))),[],5))))))))
 (.ret ((.v (.one (.z (.bool (.lit false))))),[],5)))
 (.ret ((.v (.one (.z (.bool (.lit false))))),[],5)))
 (.ret ((.v (.one (.z (.bool (.lit false))))),[],5)))
 (.ite (.cmp .eql (.var 0) (.lit 5))
 (.ite (.and (.cmp .eql (.var 11) (.lit 0)) (.cmp .eql (.var 12) (.lit 0)))
 (.ite (.cmp .eql (.var 13) (.lit 0))
 (.ite (.cmp .eql (.var 14) (.lit 0))
 (.ite (.not (.fn 147 (.i (.var 2) (.i (.var 3) (.i (.var 4) (.i (.var 5) (.i (.var 6) (.x (.var 7) (.i (.var 8) (.i (.var 9) (.x (.var 10) (.i (.lit 0) (.i (.lit 0) (.i (.lit 0) (.i (.lit 0) (.i (.lit 0) (.x .nil (.i (.lit 0) (.i (.lit 0) (.x .nil .nil))))))))))))))))))))
 (.ret ((.v (.one (.z (.bool (.lit false))))),[],5))
 (.ite (.cmp .eql (.var 0) (.lit 1))
 (.ite (.cmp .eql (.var 2) (.var 1))
 (.ret ((.v (.one (.z (.bool (.fn 76 (.i (.var 2) (.i (.var 3) (.i (.var 4) (.i (.var 5) (.i (.var 6) (.x (.var 7) (.i (.var 8) (.i (.var 9) (.x (.var 10) .nil)))))))))))))),[],5))
 (.ret ((.v (.one (.z (.bool (.lit false))))),[],5)))
 (.ite (.cmp .eql (.var 0) (.lit 2))
 (.ret ((.v (.one (.z (.bool (.lit true))))),[],5))
 (.ite (.cmp .eql (.var 0) (.lit 3))
 (.ite (.cmp .geq (.var 13) (.lit 0))
 (.ite (.cmp .leq (.var 13) (.lit 100000))
 (.ite (.fn 3 (.i (.var 11) (.i (.var 12) .nil)))
 (.ite (.fn 3 (.i (.ar .sub .i64 (.var 11) (.var 13)) (.i (.ar .sub .i64 (.var 12) (.var 13)) .nil)))
 (.ret ((.v (.one (.z (.bool (.fn 3 (.i (.ar .add .i64 (.var 11) (.var 13)) (.i (.ar .add .i64 (.var 12) (.var 13)) .nil))))))),[],6))
 (.ret ((.v (.one (.z (.bool (.lit false))))),[],6)))
 (.ret ((.v (.one (.z (.bool (.lit false))))),[],5)))
 (.ret ((.v (.one (.z (.bool (.lit false))))),[],5)))
 (.ret ((.v (.one (.z (.bool (.lit false))))),[],5)))
 (.ite (.cmp .eql (.var 0) (.lit 4))
 (.ite (.cmp .geq (.var 14) (.lit 0))
 (.ret ((.v (.one (.z (.bool (.cmp .leq (.var 14) (.lit 100000)))))),[],5))
 (.ret ((.v (.one (.z (.bool (.lit false))))),[],5)))
 (.ite (.cmp .eql (.var 0) (.lit 5))
 (.ite (.cmp .geq (.var 15) (.lit 0))
 (.ret ((.v (.one (.z (.bool (.cmp .leq (.var 15) (.lit 999)))))),[],5))
 (.ret ((.v (.one (.z (.bool (.lit false))))),[],5)))
 (.ret ((.v (.one (.z (.bool (.lit false))))),[],5))))))))
 (.ret ((.v (.one (.z (.bool (.lit false))))),[],5)))
 (.ret ((.v (.one (.z (.bool (.lit false))))),[],5)))
 (.ret ((.v (.one (.z (.bool (.lit false))))),[],5)))
 (.ite (.and (.cmp .eql (.var 11) (.lit 0)) (.cmp .eql (.var 12) (.lit 0)))
 (.ite (.cmp .eql (.var 13) (.lit 0))
 (.ite (.cmp .eql (.var 14) (.lit 0))
 (.ite (.cmp .eql (.var 15) (.lit 0))
 (.ite (.not (.fn 147 (.i (.var 2) (.i (.var 3) (.i (.var 4) (.i (.var 5) (.i (.var 6) (.x (.var 7) (.i (.var 8) (.i (.var 9) (.x (.var 10) (.i (.lit 0) (.i (.lit 0) (.i (.lit 0) (.i (.lit 0) (.i (.lit 0) (.x .nil (.i (.lit 0) (.i (.lit 0) (.x .nil .nil))))))))))))))))))))
 (.ret ((.v (.one (.z (.bool (.lit false))))),[],5))
 (.ite (.cmp .eql (.var 0) (.lit 1))
 (.ite (.cmp .eql (.var 2) (.var 1))
 (.ret ((.v (.one (.z (.bool (.fn 76 (.i (.var 2) (.i (.var 3) (.i (.var 4) (.i (.var 5) (.i (.var 6) (.x (.var 7) (.i (.var 8) (.i (.var 9) (.x (.var 10) .nil)))))))))))))),[],5))
 (.ret ((.v (.one (.z (.bool (.lit false))))),[],5)))
 (.ite (.cmp .eql (.var 0) (.lit 2))
 (.ret ((.v (.one (.z (.bool (.lit true))))),[],5))
 (.ite (.cmp .eql (.var 0) (.lit 3))
 (.ite (.cmp .geq (.var 13) (.lit 0))
 (.ite (.cmp .leq (.var 13) (.lit 100000))
 (.ite (.fn 3 (.i (.var 11) (.i (.var 12) .nil)))
 (.ite (.fn 3 (.i (.ar .sub .i64 (.var 11) (.var 13)) (.i (.ar .sub .i64 (.var 12) (.var 13)) .nil)))
 (.ret ((.v (.one (.z (.bool (.fn 3 (.i (.ar .add .i64 (.var 11) (.var 13)) (.i (.ar .add .i64 (.var 12) (.var 13)) .nil))))))),[],6))
 (.ret ((.v (.one (.z (.bool (.lit false))))),[],6)))
 (.ret ((.v (.one (.z (.bool (.lit false))))),[],5)))
 (.ret ((.v (.one (.z (.bool (.lit false))))),[],5)))
 (.ret ((.v (.one (.z (.bool (.lit false))))),[],5)))
 (.ite (.cmp .eql (.var 0) (.lit 4))
 (.ite (.cmp .geq (.var 14) (.lit 0))
 (.ret ((.v (.one (.z (.bool (.cmp .leq (.var 14) (.lit 100000)))))),[],5))
 (.ret ((.v (.one (.z (.bool (.lit false))))),[],5)))
 (.ite (.cmp .eql (.var 0) (.lit 5))
 (.ite (.cmp .geq (.var 15) (.lit 0))
 (.ret ((.v (.one (.z (.bool (.cmp .leq (.var 15) (.lit 999)))))),[],5))
 (.ret ((.v (.one (.z (.bool (.lit false))))),[],5)))
 (.ret ((.v (.one (.z (.bool (.lit false))))),[],5))))))))
 (.ret ((.v (.one (.z (.bool (.lit false))))),[],5)))
 (.ret ((.v (.one (.z (.bool (.lit false))))),[],5)))
 (.ret ((.v (.one (.z (.bool (.lit false))))),[],5)))
 (.ret ((.v (.one (.z (.bool (.lit false))))),[],5)))))))))
set_option maxRecDepth 100000 in
theorem b8s:T.norm 0 (call Tryz.prog b7D (Lt.of []) 100 112 (i5 0 [V6]) [] 0) TT.ret=b1G:=by kernel_rfl
theorem b5L:b1G.low 1000=true:=by kernel_rfl
def b9p(r:Rows):Nat→Nat→Bool
 | 0,_=>true
 | f+1,i=>htB (lg r i 0) (lg r i 1)&&b9p r f (i+1)
def b9t(s p:Int)(r:Rows):Int:=s+((r.length:Int)-1)*p
def c4G(s p:Int)(r:Rows):Bool:=T0 s&&(decide (1≤p∧p≤1000∧1≤r.length∧r.length≤200)&&(T0 (b9t s p r)&&b9p r r.length 0))
def b9o(ds:List D):Bool:=c4G (a9 ds 0) (a9 ds 1) (f8 ds 2)
def doN(r:Rows):Nat→Nat→Int→Bool
 | 0,_,_=>true
 | f+1,i,last=>decide (last<lg r i 0∧lg r i 0≤10000)&&doN r f (i+1) (lg r i 0)
def c2G(ds:List D):Bool:=doN (f8 ds 11) (f8 ds 11).length 0 0&&(decide ((f8 ds 11).length≤200∧(1≤a9 ds 0∧a9 ds 0≤1000)∧(1≤a9 ds 1∧a9 ds 1≤1000)∧(1≤a9 ds 2∧a9 ds 2≤1000)∧1≤a9 ds 10∧a9 ds 10≤100000)&&
 (c4b (a9 ds 3) (a9 ds 4) (a9 ds 5) (a9 ds 6) (a9 ds 7) (a9 ds 8) (a9 ds 9)&&b9E (f8 ds 12)))
def opL(ds:List D):Bool:=b1G.evB (g8 N1 W00 ds)
theorem c6R:k8 Tryz.prog 112 [V6] (fun ds=> .bool (opL ds)):=
 a7s N1 (by kernel_rfl) (fun ρ h=>b0H (Sees.of h 150)) (by kernel_rfl) b8s b5L (by decide) (by kernel_rfl)
def N2:Interp where
 fi n l:=N1.fi n l
 fb n l:=match n with | 150=>b9o l | 151=>c2G l | 152=>opL l | n=>N1.fb n l
 fd _ _:=[]
theorem c4M{ρ:Env}(h:Sees ρ N2 160):Sees ρ N1 150:=h.trans (by decide) fun n l hn=>by
 refine⟨?_,?_⟩
 ·
  rfl
 ·
  simp only[N2]
  split<;>first | omega | rfl
def c2s:=o9 [V6] fun al=> .ret (bV (bF 152 opL al))
theorem c0i{ρ:Env}(h:Sees ρ N2 160):i4 Tryz.prog ρ 112 c2s:=
 j4 c6R (fun _=>rfl) (fun al=>by simp only[iV,bV,V.s0,V.val,V2.val,S.val,S0.val,o8 (s:=152) (f:=opL) (fun l=>by rw[(h 152 l (by decide)).2];simp only[N2])];try rfl)
def b3A:Ct:=(112,c2s)::b7D
theorem a5h{ρ:Env}(h:Sees ρ N2 160):CtOk Tryz.prog ρ b3A:= .cons (c0i h) (b0H (c4M h))
end Go.Proofs.YtbbjlleaofgddaaGreat
