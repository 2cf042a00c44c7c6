/- LEqu, merged: TVx, Vx, TVy, Vy. -/
import Derived.Test.YtldbejmgalhdaaaGreatLLea
import Derived.Test.YtldbejmgalhdaaaGreatLMod
set_option linter.unusedSimpArgs false
set_option linter.unusedVariables false
namespace Go.Proofs.YtldbejmgalhdaaaGreat
open Go.RowKit
def idl:Sh:= .one (.sl [.int .i64])
def prl:Sh:= .one (.sl [.int .i64,.int .i64])
def a8p:TT j6:=
(.ite (.cmp .neq (.len (.var 0)) (.len (.var 1)))
 (.ret ((.v (.one (.z (.bool (.lit false))))),[],0))
 (.loop 0 1000 ⟨[(0,(.lit 0))],[],[]⟩
 (.ite (.cmp .lss (.var 1000) (.len (.var 0)))
 (.ob (.tru (.cmp .leq (.lit 0) (.var 1000)))
 (.ob (.tru (.cmp .lss (.var 1000) (.len (.var 0))))
 (.ob (.tru (.cmp .leq (.lit 0) (.var 1000)))
 (.ob (.tru (.cmp .lss (.var 1000) (.len (.var 1))))
 (.ite (.cmp .neq (.rd (.var 0) (.var 1000) 0) (.rd (.var 1) (.var 1000) 0))
 (.ret ((.v (.one (.z (.bool (.lit false))))),[],1))
 (.next 0 ⟨[(0,(.ar .add .i64 (.var 1000) (.lit 1)))],[],[]⟩))))))
 (.ret ((.v (.one (.z (.bool (.lit true))))),[],1)))))
set_option maxRecDepth 100000 in
theorem b7I:T.norm 0 (call Tryz.prog b5c (Lt.of []) 150 17 (i6 0 [idl,idl]) [] 0) TT.ret=a8p:=by kernel_rfl
theorem b4u:a8p.low 1000=true:=by kernel_rfl
def a6m:TT j6:=
(.ite (.cmp .neq (.len (.var 0)) (.len (.var 1)))
 (.ret ((.v (.one (.z (.bool (.lit false))))),[],0))
 (.loop 0 1000 ⟨[(0,(.lit 0))],[],[]⟩
 (.ite (.cmp .lss (.var 1000) (.len (.var 0)))
 (.ob (.tru (.cmp .leq (.lit 0) (.var 1000)))
 (.ob (.tru (.cmp .lss (.var 1000) (.len (.var 0))))
 (.ob (.tru (.cmp .leq (.lit 0) (.var 1000)))
 (.ob (.tru (.cmp .lss (.var 1000) (.len (.var 1))))
 (.ite (.not (.and (.cmp .eql (.rd (.var 0) (.var 1000) 0) (.rd (.var 1) (.var 1000) 0)) (.cmp .eql (.rd (.var 0) (.var 1000) 1) (.rd (.var 1) (.var 1000) 1))))
 (.ret ((.v (.one (.z (.bool (.lit false))))),[],1))
 (.next 0 ⟨[(0,(.ar .add .i64 (.var 1000) (.lit 1)))],[],[]⟩))))))
 (.ret ((.v (.one (.z (.bool (.lit true))))),[],1)))))
set_option maxRecDepth 100000 in
theorem b6c:T.norm 0 (call Tryz.prog b5c (Lt.of []) 150 27 (i6 0 [prl,prl]) [] 0) TT.ret=a6m:=by kernel_rfl
theorem b3u:a6m.low 1000=true:=by kernel_rfl
def a8j:TT j6:=
(.ite (.cmp .neq (.var 0) (.var 9))
 (.ret ((.v (.one (.z (.bool (.lit false))))),[],2))
 (.ite (.cmp .neq (.var 1) (.var 10))
 (.ret ((.v (.one (.z (.bool (.lit false))))),[],2))
 (.ite (.not (.and (.cmp .eql (.var 2) (.var 11)) (.cmp .eql (.var 3) (.var 12))))
 (.ret ((.v (.one (.z (.bool (.lit false))))),[],2))
 (.ite (.cmp .neq (.var 4) (.var 13))
 (.ret ((.v (.one (.z (.bool (.lit false))))),[],2))
 (.ite (.cmp .neq (.var 6) (.var 15))
 (.ret ((.v (.one (.z (.bool (.lit false))))),[],2))
 (.ite (.cmp .neq (.var 7) (.var 16))
 (.ret ((.v (.one (.z (.bool (.lit false))))),[],2))
 (.ite (.cmp .neq (.len (.var 5)) (.len (.var 14)))
 (.ret ((.v (.one (.z (.bool (.lit false))))),[],2))
 (.loop 0 3000 ⟨[(0,(.lit 0))],[],[]⟩
 (.ite (.cmp .lss (.var 3000) (.len (.var 5)))
 (.ob (.tru (.cmp .leq (.lit 0) (.var 3000)))
 (.ob (.tru (.cmp .lss (.var 3000) (.len (.var 5))))
 (.ob (.tru (.cmp .leq (.lit 0) (.var 3000)))
 (.ob (.tru (.cmp .lss (.var 3000) (.len (.var 14))))
 (.ite (.not (.and (.cmp .eql (.rd (.var 5) (.var 3000) 0) (.rd (.var 14) (.var 3000) 0)) (.cmp .eql (.rd (.var 5) (.var 3000) 1) (.rd (.var 14) (.var 3000) 1))))
 (.ret ((.v (.one (.z (.bool (.lit false))))),[],3))
 (.next 0 ⟨[(0,(.ar .add .i64 (.var 3000) (.lit 1)))],[],[]⟩))))))
 (.ite (.cmp .neq (.len (.var 8)) (.len (.var 17)))
 (.ret ((.v (.one (.z (.bool (.lit false))))),[],3))
 (.loop 1 4000 ⟨[(0,(.lit 0))],[],[]⟩
 (.ite (.cmp .lss (.var 4000) (.len (.var 8)))
 (.ob (.tru (.cmp .leq (.lit 0) (.var 4000)))
 (.ob (.tru (.cmp .lss (.var 4000) (.len (.var 8))))
 (.ob (.tru (.cmp .leq (.lit 0) (.var 4000)))
 (.ob (.tru (.cmp .lss (.var 4000) (.len (.var 17))))
 (.ite (.not (.and (.and (.cmp .eql (.rd (.var 8) (.var 4000) 0) (.rd (.var 17) (.var 4000) 0)) (.cmp .eql (.rd (.var 8) (.var 4000) 1) (.rd (.var 17) (.var 4000) 1))) (.and (.and (.cmp .eql (.rd (.var 8) (.var 4000) 2) (.rd (.var 17) (.var 4000) 2)) (.cmp .eql (.rd (.var 8) (.var 4000) 3) (.rd (.var 17) (.var 4000) 3))) (.and (.cmp .eql (.rd (.var 8) (.var 4000) 4) (.rd (.var 17) (.var 4000) 4)) (.cmp .eql (.rd (.var 8) (.var 4000) 5) (.rd (.var 17) (.var 4000) 5))))))
 (.ret ((.v (.one (.z (.bool (.lit false))))),[],4))
 (.next 1 ⟨[(0,(.ar .add .i64 (.var 4000) (.lit 1)))],[],[]⟩))))))
 (.ret ((.v (.one (.z (.bool (.lit true))))),[],4))))))))))))))
set_option maxRecDepth 100000 in
theorem b7W:T.norm 0 (call Tryz.prog b5c (Lt.of []) 150 51 (i6 0 [v5,v5]) [] 0) TT.ret=a8j:=by kernel_rfl
theorem b7f:a8j.low 1000=true:=by kernel_rfl
set_option maxHeartbeats 1000000 in
theorem d1l:k8 Tryz.prog 51 [v5,v5] (fun ds=> .bool (sameL ds)):=by
 refine GivesIf.all (i7 B1 (by kernel_rfl) (fun ρ h=>a6J (Sees.of h 190) (SeesD.of h 4)) (by kernel_rfl) b7W b7f (by decide) (fun W vals ds hr _=> ?_))
 obtain⟨⟨n5,n8⟩,n14,n17⟩:=b4L W vals ds _ hr
 simp only[a8j,g8,Nat.reduceBEq,Nat.reduceLT,Nat.reduceSub]
 have F:∀b,sameL ds=b→Value.bool b=Value.bool (sameL ds):=fun b h=>by rw[h]
 have N:¬((c9 ds 0=c9 ds 9∧c9 ds 1=c9 ds 10∧c9 ds 2=c9 ds 11∧c9 ds 3=c9 ds 12)∧c9 ds 4=c9 ds 13∧c9 ds 6=c9 ds 15∧c9 ds 7=c9 ds 16)→Value.bool false=Value.bool (sameL ds):=fun h=>F _ (by rw[sameL,a0m,decide_eq_false h,Bool.false_and])
 refine⟨fun h=>N (by omega),fun h0=>⟨fun h=>N (by omega),fun h1=>⟨fun h=>N (by omega),fun h2=>⟨fun h=>N (by omega),fun h3=>⟨fun h=>N (by omega),fun h4=>⟨fun h=>N (by omega),fun h5=> ?_⟩⟩⟩⟩⟩⟩
 have hS:sameL ds=(X4 2 (d9 ds 5) (d9 ds 14)&&X4 6 (d9 ds 8) (d9 ds 17)):=by
  rw[sameL,a0m,decide_eq_true (by omega),Bool.true_and]
 rw[hS]
 clear N F hS hr
 generalize e5:d9 ds 5=a at*
 generalize e14:d9 ds 14=b at*
 generalize e8:d9 ds 8=s at*
 generalize e17:d9 ds 17=t at*
 refine⟨fun h=> ?_,fun h=> ?_⟩
 ·rw[X4,decide_eq_false (by omega)];rfl
 have hab:a.length=b.length:=by omega
 have hX:X4 2 a b=R5 2 a b a.length 0:=by rw[X4,decide_eq_true hab];rfl
 rw[hX]
 refine TT.sat_loop (fun v=>∃i:Nat,v.i 0=i∧i≤a.length∧R5 2 a b (a.length-i) i=R5 2 a b a.length 0) (fun v=>a.length-(v.i 0).toNat)
  ⟨0,by simp [j7,i8,E.ev],by omega,rfl⟩ (fun v hv=> ?_)
 obtain⟨i,i0,i1,i2⟩:=hv
 simp only[g8,Nat.reduceBEq,Nat.reduceLT,Nat.reduceSub,i0,e5,e14,e8,e17]
 refine⟨fun hc=> ?_,fun hc=> ?_⟩
 ·have hi:i<a.length:=by omega
  obtain⟨f,hf⟩:∃f,a.length-i=f+1:=⟨a.length-i-1,by omega⟩
  have hf':a.length-(i+1)=f:=by omega
  rw[hf,R5] at i2
  rw[f8 ((i:Int)+1) (by omega) (by omega)]
  refine⟨by omega,by omega,by omega,by omega,fun q=> ?_,fun q=>⟨⟨i+1,rfl,by omega,?_⟩,by omega⟩⟩
  ·rw[←i2,show eqC a b i 2=false by rw[←Bool.not_eq_true,a1X];exact fun g=>q ⟨g 0 (by omega),g 1 (by omega)⟩];rfl
  ·rw[hf',←i2,show eqC a b i 2=true by
    simp only[eqC,decide_eq_true_eq,Bool.and_eq_true,Bool.true_and]
    exact q];rfl
 ·have h0:a.length-i=0:=by omega
  rw[h0,R5] at i2
  rw[←i2,Bool.true_and]
  refine⟨fun h=> ?_,fun h=> ?_⟩
  ·rw[X4,decide_eq_false (by omega)];rfl
  have hst:s.length=t.length:=by omega
  have hX:X4 6 s t=R5 6 s t s.length 0:=by rw[X4,decide_eq_true hst];rfl
  rw[hX]
  refine TT.sat_loop (fun v=>∃i:Nat,v.i 0=i∧i≤s.length∧R5 6 s t (s.length-i) i=R5 6 s t s.length 0) (fun v=>s.length-(v.i 0).toNat)
   ⟨0,by simp [j7,i8,E.ev],by omega,rfl⟩ (fun u hu=> ?_)
  obtain⟨j,j0,j1,j2⟩:=hu
  simp only[g8,Nat.reduceBEq,Nat.reduceLT,Nat.reduceSub,j0,e5,e14,e8,e17]
  refine⟨fun hc=> ?_,fun hc=> ?_⟩
  ·have hj:j<s.length:=by omega
   obtain⟨f,hf⟩:∃f,s.length-j=f+1:=⟨s.length-j-1,by omega⟩
   have hf':s.length-(j+1)=f:=by omega
   rw[hf,R5] at j2
   rw[f8 ((j:Int)+1) (by omega) (by omega)]
   refine⟨by omega,by omega,by omega,by omega,fun q=> ?_,fun q=>⟨⟨j+1,rfl,by omega,?_⟩,by omega⟩⟩
   ·rw[←j2,show eqC s t j 6=false by rw[←Bool.not_eq_true,a1X];exact fun g=>q ⟨⟨g 0 (by omega),g 1 (by omega)⟩,⟨g 2 (by omega),g 3 (by omega)⟩,g 4 (by omega),g 5 (by omega)⟩];rfl
   ·rw[hf',←j2,show eqC s t j 6=true by
     simp only[eqC,decide_eq_true_eq,Bool.and_eq_true,Bool.true_and]
     omega];rfl
  ·have h0:s.length-j=0:=by omega
   rw[h0,R5] at j2
   rw[←j2]
mutual
def D.eqb:D→D→Bool
 | .i a,b=>match b with | .i c=>decide (a=c) | _=>false
 | .b a,b=>match b with | .b c=>a == c | _=>false
 | .l a,b=>match b with | .l c=>x6 a c | _=>false
def x6:List (List D)→List (List D)→Bool
 | [],b=>match b with | []=>true | _=>false
 | r::a,b=>match b with | r'::b'=>a1q r r'&&x6 a b' | _=>false
def a1q:List D→List D→Bool
 | [],b=>match b with | []=>true | _=>false
 | d::a,b=>match b with | d'::b'=>D.eqb d d'&&a1q a b' | _=>false
end
mutual
theorem D.eqb_eq:∀(a b:D),D.eqb a b=true→a=b
 | .i a,b,h=>by cases b<;>simp [D.eqb] at h;rw[h]
 | .b a,b,h=>by cases b<;>simp [D.eqb] at h;rw[h]
 | .l a,b,h=>by cases b<;>simp [D.eqb] at h;rw[Q0 _ _ h]
theorem Q0:∀(a b:List (List D)),x6 a b=true→a=b
 | [],b,h=>by cases b<;>simp [x6] at h;rfl
 | r::a,b,h=>by cases b<;>simp [x6] at h;rw[b2P _ _ h.1,Q0 _ _ h.2]
theorem b2P:∀(a b:List D),a1q a b=true→a=b
 | [],b,h=>by cases b<;>simp [a1q] at h;rfl
 | r::a,b,h=>by cases b<;>simp [a1q] at h;rw[D.eqb_eq _ _ h.1,b2P _ _ h.2]
end
mutual
theorem D.eqb_self:∀(a:D),D.eqb a a=true
 | .i a=>by simp [D.eqb]
 | .b a=>by simp [D.eqb]
 | .l a=>by simp [D.eqb,N2 a]
theorem N2:∀(a:List (List D)),x6 a a=true
 | []=>by simp [x6]
 | r::a=>by simp [x6,a7B r,N2 a]
theorem a7B:∀(a:List D),a1q a a=true
 | []=>by simp [a1q]
 | r::a=>by simp [a1q,D.eqb_self r,a7B a]
end
def a4j(ds:List D):Bool:=x6 (d9 ds 0) (d9 ds 1)
theorem c8c(a b:Rows):a4j [.l a,.l b]=x6 a b:=rfl
theorem a7g{W:World}{vals:List Value}{ds:List D}{ks:List CK}{sh:List Sh}(h:A4 W (.one (.sl ks)::sh) vals ds):(d9 ds 0).length≤281474976710656:=by
 obtain⟨v,vs',d,ds',rfl,rfl,⟨d,rfl,h⟩,_⟩:=h
 rw[y7] at h
 obtain⟨r,rfl,a,n,c,_,hs,_⟩:=h
 have e1:=hs.len
 have e2:=hs.big
 show r.length≤_
 omega
theorem c0s:GivesIf Tryz.prog 17 [idl,idl] (fun ds=>a4j ds=true) (fun _=> .bool true):=by
 refine i7 B1 (by kernel_rfl) (fun ρ h=>a6J (Sees.of h 190) (SeesD.of h 4)) (by kernel_rfl) b7I b4u (by decide) (fun W vals ds hr hok=> ?_)
 have hl:=a7g hr
 have e1:=Q0 _ _ hok
 simp only[a8p,g8,Nat.reduceBEq,Nat.reduceLT,Nat.reduceSub,←e1]
 clear hr hok
 generalize e0:d9 ds 0=r at*
 refine⟨fun h=>absurd rfl h,fun _=> ?_⟩
 refine TT.sat_loop (fun v=>∃i:Nat,v.i 0=i∧i≤r.length) (fun v=>r.length-(v.i 0).toNat) ⟨0,by simp [j7,i8,E.ev],by omega⟩ (fun v hv=> ?_)
 obtain⟨i,i0,i1⟩:=hv
 simp only[g8,Nat.reduceBEq,Nat.reduceLT,Nat.reduceSub,i0,e0,←e1]
 refine⟨fun hc=> ?_,fun _=>trivial⟩
 rw[f8 ((i:Int)+1) (by omega) (by omega)]
 exact⟨by omega,by omega,by omega,by omega,fun h=>absurd rfl h,fun _=>⟨⟨i+1,rfl,by omega⟩,by omega⟩⟩
theorem b6o:GivesIf Tryz.prog 27 [prl,prl] (fun ds=>a4j ds=true) (fun _=> .bool true):=by
 refine i7 B1 (by kernel_rfl) (fun ρ h=>a6J (Sees.of h 190) (SeesD.of h 4)) (by kernel_rfl) b6c b3u (by decide) (fun W vals ds hr hok=> ?_)
 have hl:=a7g hr
 have e1:=Q0 _ _ hok
 simp only[a6m,g8,Nat.reduceBEq,Nat.reduceLT,Nat.reduceSub,←e1]
 clear hr hok
 generalize e0:d9 ds 0=r at*
 refine⟨fun h=>absurd rfl h,fun _=> ?_⟩
 refine TT.sat_loop (fun v=>∃i:Nat,v.i 0=i∧i≤r.length) (fun v=>r.length-(v.i 0).toNat) ⟨0,by simp [j7,i8,E.ev],by omega⟩ (fun v hv=> ?_)
 obtain⟨i,i0,i1⟩:=hv
 simp only[g8,Nat.reduceBEq,Nat.reduceLT,Nat.reduceSub,i0,e0,←e1]
 refine⟨fun hc=> ?_,fun _=>trivial⟩
 rw[f8 ((i:Int)+1) (by omega) (by omega)]
 exact⟨by omega,by omega,by omega,by omega,fun h=>absurd trivial h,fun _=>⟨⟨i+1,rfl,by omega⟩,by omega⟩⟩
def y3:Interp where
 fi n l:=B1.fi n l
 fb n l:=match n with | 190=>a4j l | n=>B1.fb n l
 fd n l:=B1.fd n l
theorem b4v{ρ:Env}(h:SeesD ρ y3 4):SeesD ρ B1 4:=fun n l hn=>by
 rw[h n l (by omega)]
 rfl
theorem a2a{ρ:Env}(h:Sees ρ y3 200):Sees ρ B1 190:=h.trans (by decide) fun n l hn=>by
 refine⟨?_,?_⟩
 ·
  rfl
 ·
  simp only[y3]
  split<;>first | omega | rfl
def a7N:=o7 [v5,v5] fun al=> .ret (bV (bF 129 sameL al))
theorem a7s{ρ:Env}(h:Sees ρ F4 132):i9 Tryz.prog ρ 51 a7N:=
 k5 d1l (fun _=>rfl) (fun al=>by simp only[iV,bV,V.s0,V.val,V2.val,S.val,S0.val,k7 (s:=129) (f:=sameL) (fun l=>by rw[(h 129 l (by decide)).2];simp only[F4])];try rfl)
def b0r(sh:List Sh):=o7 sh fun al=> .ob (.tru (.fn 190 al)) (.ret (bV (.lit true)))
theorem a3J{ρ:Env}(h:Sees ρ y3 200){f:FuncId}{sh:List Sh}(g:GivesIf Tryz.prog f sh (fun ds=>a4j ds=true) (fun _=> .bool true)):i9 Tryz.prog ρ f (b0r sh):=by
 refine A0 g (fun al v hv=> ?_)
 obtain⟨ho,hv⟩:=hv
 obtain rfl:=g7 hv
 refine⟨rfl,?_,rfl⟩
 have h1:(B.fn 190 al).ev ρ=true:=ho
 simp only[B.ev] at h1
 rw[(h 190 _ (by decide)).2] at h1
 simp only[y3] at h1
 exact h1
def d3U:Ct:=(51,a7N)::(17,b0r [idl,idl])::(27,b0r [prl,prl])::b5c
theorem b0A{ρ:Env}(h:Sees ρ y3 200):Sees ρ F4 132:=c0d (b0t (b1i (c0w (b0Z (a6R (a2a h))))))
theorem d1O{ρ:Env}(h:Sees ρ y3 200)(hd:SeesD ρ y3 4):CtOk Tryz.prog ρ d3U:= .cons (a7s (b0A h))<| .cons (a3J h c0s)<| .cons (a3J h b6o)<|a6J (a2a h) (b4v hd)
def b7o:TT j6:=
(.ite (.cmp .neq (.len (.var 0)) (.len (.var 1)))
 (.ret ((.v (.one (.z (.bool (.lit false))))),[],0))
 (.loop 0 1000 ⟨[(0,(.lit 0))],[],[]⟩
 (.ite (.cmp .lss (.var 1000) (.len (.var 0)))
 (.ob (.tru (.cmp .leq (.lit 0) (.var 1000)))
 (.ob (.tru (.cmp .lss (.var 1000) (.len (.var 0))))
 (.ob (.tru (.cmp .leq (.lit 0) (.var 1000)))
 (.ob (.tru (.cmp .lss (.var 1000) (.len (.var 1))))
 (.ite (.not (.fn 129 (.i (.rd (.var 0) (.var 1000) 0) (.i (.rd (.var 0) (.var 1000) 1) (.i (.rd (.var 0) (.var 1000) 2) (.i (.rd (.var 0) (.var 1000) 3) (.i (.rd (.var 0) (.var 1000) 4) (.x (.rd (.var 0) (.var 1000) 5) (.i (.rd (.var 0) (.var 1000) 6) (.i (.rd (.var 0) (.var 1000) 7) (.x (.rd (.var 0) (.var 1000) 8) (.i (.rd (.var 1) (.var 1000) 0) (.i (.rd (.var 1) (.var 1000) 1) (.i (.rd (.var 1) (.var 1000) 2) (.i (.rd (.var 1) (.var 1000) 3) (.i (.rd (.var 1) (.var 1000) 4) (.x (.rd (.var 1) (.var 1000) 5) (.i (.rd (.var 1) (.var 1000) 6) (.i (.rd (.var 1) (.var 1000) 7) (.x (.rd (.var 1) (.var 1000) 8) .nil))))))))))))))))))))
 (.ret ((.v (.one (.z (.bool (.lit false))))),[],1))
 (.next 0 ⟨[(0,(.ar .add .i64 (.var 1000) (.lit 1)))],[],[]⟩))))))
 (.ret ((.v (.one (.z (.bool (.lit true))))),[],1)))))
set_option maxRecDepth 100000 in
theorem c5z:T.norm 0 (call Tryz.prog d3U (Lt.of []) 150 20 (i6 0 [B7,B7]) [] 0) TT.ret=b7o:=by kernel_rfl
theorem c1V:b7o.low 1000=true:=by kernel_rfl
theorem d2B(W:World)(ds l:List D):(f0 y3 W ds).fb 129 l=sameL l:=by simp only[f0,y3,B1,t6,p9,v8,t7,I4,F4]
theorem d6s:GivesIf Tryz.prog 20 [B7,B7] (fun ds=>a4j ds=true) (fun _=> .bool true):=by
 refine i7 y3 (by kernel_rfl) (fun ρ h=>d1O (Sees.of h 200) (SeesD.of h 4)) (by kernel_rfl) c5z c1V (by decide) (fun W vals ds hr hok=> ?_)
 have hl:=a7g hr
 have e1:=Q0 _ _ hok
 simp only[b7o,g8,Nat.reduceBEq,Nat.reduceLT,Nat.reduceSub,←e1]
 clear hr hok
 generalize e0:d9 ds 0=r at*
 refine⟨fun h=>absurd rfl h,fun _=> ?_⟩
 refine TT.sat_loop (fun v=>∃i:Nat,v.i 0=i∧i≤r.length) (fun v=>r.length-(v.i 0).toNat) ⟨0,by simp [j7,i8,E.ev],by omega⟩ (fun v hv=> ?_)
 obtain⟨i,i0,i1⟩:=hv
 simp only[g8,Nat.reduceBEq,Nat.reduceLT,Nat.reduceSub,i0,e0,←e1,d2B,b0D]
 refine⟨fun hc=> ?_,fun _=>trivial⟩
 have hi:i<r.length:=by omega
 simp only[j8 hi,I7 hi]
 have:=a9J r[i]
 unfold L3 at this
 rw[f8 ((i:Int)+1) (by omega) (by omega),this]
 exact⟨by omega,by omega,by omega,by omega,⟨fun h=>(by cases h),fun _=>⟨⟨i+1,rfl,by omega⟩,by omega⟩⟩⟩
def c2H:Ct:=(20,b0r [B7,B7])::(17,b0r [idl,idl])::(27,b0r [prl,prl])::(21,a2d)::(23,a8c)::(25,a7i)::b1e
theorem b1p{ρ:Env}(h:Sees ρ y3 200)(hd:SeesD ρ y3 4):CtOk Tryz.prog ρ c2H:=
 have h1:=a6R (a2a h)
 have hd1:=b4m (b4v hd)
 .cons (a3J h d6s)<| .cons (a3J h c0s)<| .cons (a3J h b6o)<| .cons (a8L (a2a h))<| .cons (a7p h1)<| .cons (a9W h1 hd1)<|a4c (b0Z h1) (b5b hd1)
end Go.Proofs.YtldbejmgalhdaaaGreat
