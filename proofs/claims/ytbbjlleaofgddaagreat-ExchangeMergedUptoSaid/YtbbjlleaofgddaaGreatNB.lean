/- NB, merged: TNc, Nc, TNd, Nd. -/
import Derived.Test.YtbbjlleaofgddaaGreatNA
set_option linter.unusedSimpArgs false
set_option linter.unusedVariables false
namespace Go.Proofs.YtbbjlleaofgddaaGreat
open Go.RowKit
def k6:List CK:=[.int .i64,.sl [.int .i64],.sl B3]
def b8i:Sh:= .agg k6
def f7:List CK:=[.int .i64,.int .i64,.int .i64,.int .i64,.int .i64,.int .i64,.sl k6]
def notS:Sh:= .agg f7
def z0:Sh:= .one (.sl f7)
def a8n:TT i8:=
(.ite (.cmp .eql (.var 2) (.lit 1))
 (.ite (.cmp .eql (.var 2) (.lit 1))
 (.ite (.cmp .eql (.var 4) (.lit 0))
 (.ret ((.v (.one (.z (.bool (.cmp .eql (.var 5) (.lit 0)))))),[],1))
 (.ret ((.v (.one (.z (.bool (.lit false))))),[],1)))
 (.ite (.cmp .eql (.var 2) (.lit 2))
 (.ite (.cmp .gtr (.var 4) (.var 3))
 (.ite (.cmp .geq (.var 4) (.lit 0))
 (.ite (.cmp .leq (.var 4) (.lit 10000000))
 (.ret ((.v (.one (.z (.bool (.cmp .eql (.var 5) (.lit 0)))))),[],1))
 (.ret ((.v (.one (.z (.bool (.lit false))))),[],1)))
 (.ret ((.v (.one (.z (.bool (.lit false))))),[],1)))
 (.ret ((.v (.one (.z (.bool (.lit false))))),[],1)))
 (.ite (.cmp .eql (.var 2) (.lit 4))
 (.ite (.cmp .eql (.var 4) (.lit 0))
 (.ite (.cmp .geq (.var 5) (.lit 1))
 (.ite (.cmp .lss (.var 5) (.var 1))
 (.ret ((.v (.one (.z (.bool (.cmp .eql (.len (.var 6)) (.lit 0)))))),[],1))
 (.ret ((.v (.one (.z (.bool (.lit false))))),[],1)))
 (.ret ((.v (.one (.z (.bool (.lit false))))),[],1)))
 (.ret ((.v (.one (.z (.bool (.lit false))))),[],1)))
 (.ret ((.v (.one (.z (.bool (.lit false))))),[],1)))))
 (.ite (.cmp .eql (.var 2) (.lit 3))
 (.ite (.cmp .eql (.var 4) (.lit 0))
 (.ret ((.v (.one (.z (.bool (.cmp .eql (.var 5) (.lit 0)))))),[],1))
 (.ret ((.v (.one (.z (.bool (.lit false))))),[],1)))
 (.ite (.cmp .eql (.var 2) (.lit 2))
 (.ite (.cmp .gtr (.var 4) (.var 3))
 (.ite (.cmp .geq (.var 4) (.lit 0))
 (.ite (.cmp .leq (.var 4) (.lit 10000000))
 (.ret ((.v (.one (.z (.bool (.cmp .eql (.var 5) (.lit 0)))))),[],1))
 (.ret ((.v (.one (.z (.bool (.lit false))))),[],1)))
 (.ret ((.v (.one (.z (.bool (.lit false))))),[],1)))
 (.ret ((.v (.one (.z (.bool (.lit false))))),[],1)))
 (.ite (.cmp .eql (.var 2) (.lit 4))
 (.ite (.cmp .eql (.var 4) (.lit 0))
 (.ite (.cmp .geq (.var 5) (.lit 1))
 (.ite (.cmp .lss (.var 5) (.var 1))
 (.ret ((.v (.one (.z (.bool (.cmp .eql (.len (.var 6)) (.lit 0)))))),[],1))
 (.ret ((.v (.one (.z (.bool (.lit false))))),[],1)))
 (.ret ((.v (.one (.z (.bool (.lit false))))),[],1)))
 (.ret ((.v (.one (.z (.bool (.lit false))))),[],1)))
 (.ret ((.v (.one (.z (.bool (.lit false))))),[],1))))))
set_option maxRecDepth 100000 in
theorem b4z:T.norm 0 (call Tryz.prog b3A (Lt.of []) 100 77 (i5 0 [notS]) [] 0) TT.ret=a8n:=by kernel_rfl
theorem b1N:a8n.low 1000=true:=by kernel_rfl
def a9B:TT i8:=
(.ite (.cmp .lss (.var 0) (.lit 1))
 (.ret ((.v (.one (.z (.bool (.lit false))))),[],1))
 (.ite (.cmp .gtr (.var 0) (.lit 1000))
 (.ret ((.v (.one (.z (.bool (.lit false))))),[],1))
 (.ite (.cmp .gtr (.len (.var 1)) (.lit 100))
 (.ret ((.v (.one (.z (.bool (.lit false))))),[],1))
 (.ite (.cmp .gtr (.len (.var 2)) (.lit 100))
 (.ret ((.v (.one (.z (.bool (.lit false))))),[],1))
 (.loop 0 2000 ⟨[(0,(.lit 0)),(1,(.lit 0))],[],[]⟩
 (.ite (.cmp .lss (.var 2001) (.len (.var 1)))
 (.ob (.tru (.cmp .leq (.lit 0) (.var 2001)))
 (.ob (.tru (.cmp .lss (.var 2001) (.len (.var 1))))
 (.ite (.cmp .leq (.rd (.var 1) (.var 2001) 0) (.var 2000))
 (.ret ((.v (.one (.z (.bool (.lit false))))),[],2))
 (.ite (.cmp .geq (.rd (.var 1) (.var 2001) 0) (.var 3))
 (.ret ((.v (.one (.z (.bool (.lit false))))),[],2))
 (.next 0 ⟨[(0,(.rd (.var 1) (.var 2001) 0)),(1,(.ar .add .i64 (.var 2001) (.lit 1)))],[],[]⟩)))))
 (.loop 1 3000 ⟨[(0,(.lit 0))],[],[]⟩
 (.ite (.cmp .lss (.var 3000) (.len (.var 2)))
 (.ob (.tru (.cmp .leq (.lit 0) (.var 3000)))
 (.ob (.tru (.cmp .lss (.var 3000) (.len (.var 2))))
 (.ite (.not (.fn 152 (.i (.rd (.var 2) (.var 3000) 0) (.i (.rd (.var 2) (.var 3000) 1) (.i (.rd (.var 2) (.var 3000) 2) (.i (.rd (.var 2) (.var 3000) 3) (.i (.rd (.var 2) (.var 3000) 4) (.i (.rd (.var 2) (.var 3000) 5) (.i (.rd (.var 2) (.var 3000) 6) (.x (.rd (.var 2) (.var 3000) 7) (.i (.rd (.var 2) (.var 3000) 8) (.i (.rd (.var 2) (.var 3000) 9) (.x (.rd (.var 2) (.var 3000) 10) (.i (.rd (.var 2) (.var 3000) 11) (.i (.rd (.var 2) (.var 3000) 12) (.i (.rd (.var 2) (.var 3000) 13) (.i (.rd (.var 2) (.var 3000) 14) (.i (.rd (.var 2) (.var 3000) 15) .nil))))))))))))))))))
 (.ret ((.v (.one (.z (.bool (.not (.cmp .geq (.var 3000) (.lit 0))))))),[],4))
 (.next 1 ⟨[(0,(.ar .add .i64 (.var 3000) (.lit 1)))],[],[]⟩))))
 (.ret ((.v (.one (.z (.bool (.lit true))))),[],4))))))))))
set_option maxRecDepth 100000 in
theorem b4X:T.norm 0 (call Tryz.prog b3A (Lt.of []) 100 78 (i5 0 [b8i,it]) [] 0) TT.ret=a9B:=by kernel_rfl
theorem b2z:a9B.low 1000=true:=by kernel_rfl
def a0J(ds:List D):Bool:=a8n.evB (g8 N2 W00 ds)
theorem c5r:k8 Tryz.prog 77 [notS] (fun ds=> .bool (a0J ds)):=
 a7s N2 (by kernel_rfl) (fun ρ h=>a5h (Sees.of h 160)) (by kernel_rfl) b4z b1N (by decide) (by kernel_rfl)
def afN(r:Rows)(n:Int):Nat→Nat→Int→Bool
 | 0,_,_=>true
 | f+1,i,last=>decide (last<lg r i 0∧lg r i 0<n)&&afN r n f (i+1) (lg r i 0)
def b2n(r:Rows)(i:Nat):Bool:=opL [.i (lg r i 0),.i (lg r i 1),.i (lg r i 2),.i (lg r i 3),.i (lg r i 4),.i (lg r i 5),.i (lg r i 6),.l (lr r i 7),.i (lg r i 8),.i (lg r i 9),.l (lr r i 10),.i (lg r i 11),.i (lg r i 12),.i (lg r i 13),.i (lg r i 14),.i (lg r i 15)]
def a3q(r:Rows):Nat→Nat→Bool
 | 0,_=>true
 | f+1,i=>b2n r i&&a3q r f (i+1)
def b8B(c:Int)(a o:Rows)(n:Int):Bool:=decide (1≤c∧c≤1000∧a.length≤100∧o.length≤100)&&(afN a n a.length 0 0&&a3q o o.length 0)
def a1Q(ds:List D):Bool:=b8B (a9 ds 0) (f8 ds 1) (f8 ds 2) (a9 ds 3)
theorem c3X(W:World)(ds l:List D):(g8 N2 W ds).fb 152 l=opL l:=by simp only[g8,N2]
theorem c5y:k8 Tryz.prog 78 [b8i,it] (fun ds=> .bool (a1Q ds)):=by
 refine GivesIf.all (i6 N2 (by kernel_rfl) (fun ρ h=>a5h (Sees.of h 160)) (by kernel_rfl) b4X b2z (by decide) (fun W vals ds hr _=> ?_))
 simp only[a9B,g7,Nat.reduceBEq,Nat.reduceLT,Nat.reduceSub]
 have e:a1Q ds=(decide (1≤a9 ds 0∧a9 ds 0≤1000∧(f8 ds 1).length≤100∧(f8 ds 2).length≤100)&&(afN (f8 ds 1) (a9 ds 3) (f8 ds 1).length 0 0&&a3q (f8 ds 2) (f8 ds 2).length 0)):=rfl
 have F:¬(1≤a9 ds 0∧a9 ds 0≤1000∧(f8 ds 1).length≤100∧(f8 ds 2).length≤100)→Value.bool false=Value.bool (a1Q ds):=fun h=>by rw[e,decide_eq_false h];rfl
 refine⟨fun _=>F (by omega),fun _=>⟨fun _=>F (by omega),fun _=>⟨fun _=>F (by omega),fun _=>⟨fun _=>F (by omega),fun _=> ?_⟩⟩⟩⟩
 rw[decide_eq_true (by omega),Bool.true_and] at e
 rw[e]
 clear F e hr
 generalize e1:f8 ds 1=a at*
 generalize e2:f8 ds 2=o at*
 generalize e3:a9 ds 3=n at*
 refine TT.sat_loop (fun v=>∃i:Nat,v.i 1=i∧i≤a.length∧afN a n (a.length-i) i (v.i 0)=afN a n a.length 0 0) (fun v=>a.length-(v.i 1).toNat) ⟨0,by simp [o6,j6,E.ev],by omega,rfl⟩ (fun v hv=> ?_)
 obtain⟨i,i0,i1,i2⟩:=hv
 simp only[g7,Nat.reduceBEq,Nat.reduceLT,Nat.reduceSub,i0,e1,e2,e3]
 refine⟨fun hc=> ?_,fun hc=> ?_⟩
 ·obtain⟨f,hf⟩:∃f,a.length-i=f+1:=⟨a.length-i-1,by omega⟩
  have hf':a.length-(i+1)=f:=by omega
  rw[hf,afN] at i2
  rw[f9 ((i:Int)+1) (by omega) (by omega)]
  refine⟨by omega,by omega,fun h=> ?_,fun h=>⟨fun g=> ?_,fun g=>⟨⟨i+1,rfl,by omega,?_⟩,by omega⟩⟩⟩
  ·rw[←i2,decide_eq_false (by omega)];rfl
  ·rw[←i2,decide_eq_false (by omega)];rfl
  ·rw[hf',←i2,decide_eq_true (by omega),Bool.true_and]
 ·have h0:a.length-i=0:=by omega
  rw[h0,afN] at i2
  rw[←i2,Bool.true_and]
  refine TT.sat_loop (fun v=>∃i:Nat,v.i 0=i∧i≤o.length∧a3q o (o.length-i) i=a3q o o.length 0) (fun v=>o.length-(v.i 0).toNat) ⟨0,by simp [o6,j6,E.ev],by omega,rfl⟩ (fun u hu=> ?_)
  obtain⟨j,j0,j1,j2⟩:=hu
  simp only[g7,Nat.reduceBEq,Nat.reduceLT,Nat.reduceSub,j0,e2,c3X]
  refine⟨fun hc=> ?_,fun hc=> ?_⟩
  ·obtain⟨f,hf⟩:∃f,o.length-j=f+1:=⟨o.length-j-1,by omega⟩
   have hf':o.length-(j+1)=f:=by omega
   rw[hf,a3q] at j2
   rw[f9 ((j:Int)+1) (by omega) (by omega)]
   refine⟨by omega,by omega,fun h=> ?_,fun h=>⟨⟨j+1,rfl,by omega,?_⟩,by omega⟩⟩
   ·rw[←j2,show b2n o j=false from h]
    simp [s7]
   ·rw[hf',←j2,show b2n o j=true from h,Bool.true_and]
  ·have h0:o.length-j=0:=by omega
   rw[h0,a3q] at j2
   rw[←j2]
structure Hgt where
 (some:Bool) (lo hi:Int)
def Hgt.upd(fr un:Int)(st:Hgt)(a b lo hi:Int):Hgt:=
 if b<fr then st else if un<a then st else if st.some then⟨true,sjA [.i st.lo,.i st.hi,.i lo,.i hi],sjB [.i st.lo,.i st.hi,.i lo,.i hi]⟩ else⟨true,lo,hi⟩
def Hgt.round(r:Rows)(s p fr un:Int)(k:Nat)(st:Hgt):Hgt:=
 Hgt.upd fr un (if (0:Int)<k then(if 1<p then Hgt.upd fr un st (s+k*p-p+1) (s+k*p-1) (sjA [.i (lg r ((k:Int)-1) 0),.i (lg r ((k:Int)-1) 1),.i (lg r k 0),.i (lg r k 1)]) (sjB [.i (lg r ((k:Int)-1) 0),.i (lg r ((k:Int)-1) 1),.i (lg r k 0),.i (lg r k 1)]) else st) else st)
  (s+k*p) (s+k*p) (lg r k 0) (lg r k 1)
def c1j(r:Rows)(s p fr un:Int):Nat→Hgt
 | 0=>⟨false,0,0⟩
 | k+1=>Hgt.round r s p fr un k (c1j r s p fr un k)
def heO(ds:List D):Bool:=b9o ds&&(T0 (a9 ds 3)&&(T0 (a9 ds 4)&&decide (a9 ds 3≤a9 ds 4)))
def heX(ds:List D):Bool:=heO ds&&decide (a9 ds 0≤a9 ds 3∧a9 ds 4≤b9t (a9 ds 0) (a9 ds 1) (f8 ds 2))
def heN(ds:List D):Hgt:=c1j (f8 ds 2) (a9 ds 0) (a9 ds 1) (a9 ds 3) (a9 ds 4) (f8 ds 2).length
def heA(ds:List D):Int:=if heX ds then(heN ds).lo else 0
def heB(ds:List D):Int:=if heX ds then(heN ds).hi else 0
def heE(ds:List D):Int:=if heX ds then 0 else if heO ds then 4 else 1
def N3:Interp where
 fi n l:=match n with | 162=>heA l | 163=>heB l | 164=>heE l | n=>N2.fi n l
 fb n l:=match n with | 160=>a0J l | 161=>a1Q l | n=>N2.fb n l
 fd _ _:=[]
theorem c5p{ρ:Env}(h:Sees ρ N3 170):Sees ρ N2 160:=h.trans (by decide) fun n l hn=>by
 refine⟨?_,?_⟩
 ·
  simp only[N3]
  split<;>first | omega | rfl
 ·
  simp only[N3]
  split<;>first | omega | rfl
def b9g:=o9 [notS] fun al=> .ret (bV (bF 160 a0J al))
theorem b6X{ρ:Env}(h:Sees ρ N3 170):i4 Tryz.prog ρ 77 b9g:=
 j4 c5r (fun _=>rfl) (fun al=>by simp only[iV,bV,V.s0,V.val,V2.val,S.val,S0.val,o8 (s:=160) (f:=a0J) (fun l=>by rw[(h 160 l (by decide)).2];simp only[N3])];try rfl)
def b9A:=o9 [b8i,it] fun al=> .ret (bV (bF 161 a1Q al))
theorem b6N{ρ:Env}(h:Sees ρ N3 170):i4 Tryz.prog ρ 78 b9A:=
 j4 c5y (fun _=>rfl) (fun al=>by simp only[iV,bV,V.s0,V.val,V2.val,S.val,S0.val,o8 (s:=161) (f:=a1Q) (fun l=>by rw[(h 161 l (by decide)).2];simp only[N3])];try rfl)
def b7Z:Ct:=(77,b9g)::(78,b9A)::b3A
theorem b0T{ρ:Env}(h:Sees ρ N3 170):CtOk Tryz.prog ρ b7Z:= .cons (b6X h)<| .cons (b6N h)<|(a5h (c5p h))
def b1W:TT i8:=
(.ite (.cmp .lss (.var 0) (.lit 1))
 (.ret ((.v (.one (.z (.bool (.lit false))))),[],1))
 (.ite (.cmp .gtr (.var 0) (.lit 20))
 (.ret ((.v (.one (.z (.bool (.lit false))))),[],1))
 (.ite (.cmp .lss (.var 1) (.lit 1))
 (.ret ((.v (.one (.z (.bool (.lit false))))),[],1))
 (.ite (.cmp .gtr (.var 1) (.lit 10000))
 (.ret ((.v (.one (.z (.bool (.lit false))))),[],1))
 (.ite (.cmp .geq (.var 3) (.lit 0))
 (.ite (.not (.cmp .leq (.var 3) (.lit 10000000)))
 (.ret ((.v (.one (.z (.bool (.lit false))))),[],1))
 (.ite (.not (.fn 160 (.i (.var 0) (.i (.var 1) (.i (.var 2) (.i (.var 3) (.i (.var 4) (.i (.var 5) (.x (.var 6) .nil)))))))))
 (.ret ((.v (.one (.z (.bool (.lit false))))),[],1))
 (.ite (.cmp .gtr (.len (.var 6)) (.lit 20))
 (.ret ((.v (.one (.z (.bool (.lit false))))),[],1))
 (.loop 0 2000 ⟨[(0,(.lit 0)),(1,(.lit 0))],[],[]⟩
 (.ite (.cmp .lss (.var 2001) (.len (.var 6)))
 (.ob (.tru (.cmp .leq (.lit 0) (.var 2001)))
 (.ob (.tru (.cmp .lss (.var 2001) (.len (.var 6))))
 (.ite (.cmp .leq (.rd (.var 6) (.var 2001) 0) (.var 2000))
 (.ret ((.v (.one (.z (.bool (.lit false))))),[],3))
 (.ite (.not (.fn 161 (.i (.rd (.var 6) (.var 2001) 0) (.x (.rd (.var 6) (.var 2001) 1) (.x (.rd (.var 6) (.var 2001) 2) (.i (.var 1) .nil))))))
 (.ret ((.v (.one (.z (.bool (.lit false))))),[],3))
 (.next 0 ⟨[(0,(.rd (.var 6) (.var 2001) 0)),(1,(.ar .add .i64 (.var 2001) (.lit 1)))],[],[]⟩)))))
 (.ret ((.v (.one (.z (.bool (.lit true))))),[],3)))))))
 (.ret ((.v (.one (.z (.bool (.lit false))))),[],1)))))))
set_option maxRecDepth 100000 in
theorem b7s:T.norm 0 (call Tryz.prog b7Z (Lt.of []) 100 39 (i5 0 [notS]) [] 0) TT.ret=b1W:=by kernel_rfl
theorem b4k:b1W.low 1000=true:=by kernel_rfl
def a3w(r:Rows)(n:Int):Nat→Nat→Int→Bool
 | 0,_,_=>true
 | f+1,i,last=>(decide (last<lg r i 0)&&b8B (lg r i 0) (lr r i 1) (lr r i 2) n)&&a3w r n f (i+1) (lg r i 0)
def y6(ds:List D):Bool:=decide ((1≤a9 ds 0∧a9 ds 0≤20)∧(1≤a9 ds 1∧a9 ds 1≤10000)∧0≤a9 ds 3∧a9 ds 3≤10000000)&&(a0J [.i (a9 ds 0),.i (a9 ds 1),.i (a9 ds 2),.i (a9 ds 3),.i (a9 ds 4),.i (a9 ds 5),.l (f8 ds 6)]&&(decide ((f8 ds 6).length≤20)&&a3w (f8 ds 6) (a9 ds 1) (f8 ds 6).length 0 0))
theorem b8X(c:Int)(a o:Rows)(n:Int):a1Q [.i c,.l a,.l o,.i n]=b8B c a o n:=rfl
theorem c1D(W:World)(ds l:List D):(g8 N3 W ds).fb 160 l=a0J l:=by simp only[g8,N3]
theorem b5h(W:World)(ds l:List D):(g8 N3 W ds).fb 161 l=a1Q l:=by simp only[g8,N3]
theorem c6i:k8 Tryz.prog 39 [notS] (fun ds=> .bool (y6 ds)):=by
 refine GivesIf.all (i6 N3 (by kernel_rfl) (fun ρ h=>b0T (Sees.of h 170)) (by kernel_rfl) b7s b4k (by decide) (fun W vals ds hr _=> ?_))
 simp only[b1W,g7,Nat.reduceBEq,Nat.reduceLT,Nat.reduceSub,c1D,b5h,b8X]
 have e:y6 ds=(decide ((1≤a9 ds 0∧a9 ds 0≤20)∧(1≤a9 ds 1∧a9 ds 1≤10000)∧0≤a9 ds 3∧a9 ds 3≤10000000)&&(a0J [.i (a9 ds 0),.i (a9 ds 1),.i (a9 ds 2),.i (a9 ds 3),.i (a9 ds 4),.i (a9 ds 5),.l (f8 ds 6)]&&(decide ((f8 ds 6).length≤20)&&a3w (f8 ds 6) (a9 ds 1) (f8 ds 6).length 0 0))):=rfl
 have F:¬((1≤a9 ds 0∧a9 ds 0≤20)∧(1≤a9 ds 1∧a9 ds 1≤10000)∧0≤a9 ds 3∧a9 ds 3≤10000000)→Value.bool false=Value.bool (y6 ds):=fun h=>by rw[e,decide_eq_false h];rfl
 refine⟨fun _=>F (by omega),fun _=>⟨fun _=>F (by omega),fun _=>⟨fun _=>F (by omega),fun _=>⟨fun _=>F (by omega),fun _=>⟨fun _=>⟨fun _=>F (by omega),fun _=>⟨fun h=> ?_,fun h=>⟨fun h1=> ?_,fun h1=> ?_⟩⟩⟩,fun _=>F (by omega)⟩⟩⟩⟩⟩
 ·rw[e,h,Bool.false_and,Bool.and_false]
 ·rw[e,decide_eq_false (p:=(f8 ds 6).length≤20) (by omega),Bool.false_and,Bool.and_false,Bool.and_false]
 rw[decide_eq_true (by omega),Bool.true_and,h,Bool.true_and,decide_eq_true (by omega),Bool.true_and] at e
 rw[e]
 clear F e hr h
 generalize e6:f8 ds 6=r at*
 generalize e1:a9 ds 1=n at*
 refine TT.sat_loop (fun v=>∃i:Nat,v.i 1=i∧i≤r.length∧a3w r n (r.length-i) i (v.i 0)=a3w r n r.length 0 0) (fun v=>r.length-(v.i 1).toNat) ⟨0,by simp [o6,j6,E.ev],by omega,rfl⟩ (fun v hv=> ?_)
 obtain⟨i,i0,i1,i2⟩:=hv
 simp only[g7,Nat.reduceBEq,Nat.reduceLT,Nat.reduceSub,i0,e6,e1,b5h,b8X]
 refine⟨fun hc=> ?_,fun hc=> ?_⟩
 ·obtain⟨f,hf⟩:∃f,r.length-i=f+1:=⟨r.length-i-1,by omega⟩
  have hf':r.length-(i+1)=f:=by omega
  rw[hf,a3w] at i2
  rw[f9 ((i:Int)+1) (by omega) (by omega)]
  refine⟨by omega,by omega,fun h=> ?_,fun h=>⟨fun g=> ?_,fun g=>⟨⟨i+1,rfl,by omega,?_⟩,by omega⟩⟩⟩
  ·rw[←i2,decide_eq_false (by omega)];rfl
  ·rw[←i2,g,Bool.and_false];rfl
  ·rw[hf',←i2,g,decide_eq_true (by omega),Bool.true_and,Bool.true_and]
 ·have h0:r.length-i=0:=by omega
  rw[h0,a3w] at i2
  rw[←i2]
def heD(ds:List D):List D:=[.i (a9 ds 3),.i (a9 ds 4),.l (f8 ds 5),.i (a9 ds 8),.i (a9 ds 9)]
def deO(ds:List D):Bool:=decide (0≤a9 ds 6∧a9 ds 6≤100000)&&(c3r (a9 ds 0) (a9 ds 1) (f8 ds 2)&&(decide (0≤a9 ds 7∧a9 ds 7≤2000)&& !decide (heE (heD ds)=1)))
def deE(ds:List D):Int:=if deO ds then(if a9 ds 7≤100*(f8 ds 2).length then heE (heD ds) else 3) else 1
def c4H(d m:Int)(r:Rows)(v:Int):Int:=d+m+(if v=0 then 0 else lg r ((v-1).tdiv 100) 0)
def deR(ds:List D):Bool:=decide (deE ds=0)&&decide (c4H (a9 ds 0) (a9 ds 1) (f8 ds 2) (a9 ds 7)-heA (heD ds)≤a9 ds 6)
def N4:Interp where
 fi n l:=match n with | 171=>deE l | n=>N3.fi n l
 fb n l:=match n with | 170=>y6 l | 171=>deR l | n=>N3.fb n l
 fd _ _:=[]
theorem c5v{ρ:Env}(h:Sees ρ N4 180):Sees ρ N3 170:=h.trans (by decide) fun n l hn=>by
 refine⟨?_,?_⟩
 ·
  simp only[N4]
  split<;>first | omega | rfl
 ·
  simp only[N4]
  split<;>first | omega | rfl
def b8p:=o9 [notS] fun al=> .ret (bV (bF 170 y6 al))
theorem b1k{ρ:Env}(h:Sees ρ N4 180):i4 Tryz.prog ρ 39 b8p:=
 j4 c6i (fun _=>rfl) (fun al=>by simp only[iV,bV,V.s0,V.val,V2.val,S.val,S0.val,o8 (s:=170) (f:=y6) (fun l=>by rw[(h 170 l (by decide)).2];simp only[N4])];try rfl)
def b7d:Ct:=(39,b8p)::b7Z
theorem b0w{ρ:Env}(h:Sees ρ N4 180):CtOk Tryz.prog ρ b7d:= .cons (b1k h)<|(b0T (c5v h))
end Go.Proofs.YtbbjlleaofgddaaGreat
