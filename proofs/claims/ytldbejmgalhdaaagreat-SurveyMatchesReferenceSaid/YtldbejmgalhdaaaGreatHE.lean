/- HE, merged: TVa, Va, TVb, Vb, Vc. -/
import Derived.Test.YtldbejmgalhdaaaGreatHA
import Derived.Test.YtldbejmgalhdaaaGreatMY
import Derived.Test.YtldbejmgalhdaaaGreatMW
set_option linter.unusedSimpArgs false
set_option linter.unusedVariables false
namespace Go.Proofs.YtldbejmgalhdaaaGreat
open Go.RowKit
def snd:Sh:= .agg G7
def a4r:Sh:= .one (.sl G7)
def d8D:List CK:=[.sl G7,.sl r6]
def o0:Sh:= .agg d8D
def b4h:List Ag:=[.d B7,.f 43,.d it]
def b6u:List Ag:=[.d a4r,.f 59,.d it]
def c3F:TT j6:=
(.ite (.cmp .lss (.var 0) (.var 1))
 (.ret ((.v (.one (.z (.int .i64 (.lit (-1)))))),[],0))
 (.ite (.cmp .gtr (.var 0) (.var 1))
 (.ret ((.v (.one (.z (.int .i64 (.lit 1))))),[],0))
 (.ret ((.v (.one (.z (.int .i64 (.lit 0))))),[],0))))
set_option maxRecDepth 100000 in
theorem c8l:T.norm 0 (call Tryz.prog [] (Lt.of []) 150 73 (i6 0 [it,it]) [] 0) TT.ret=c3F:=by kernel_rfl
theorem c6z:c3F.low 1000=true:=by kernel_rfl
def b0s:TT j6:=
(.loop 0 2000 ⟨[(0,(.lit 0)),(1,(.len (.var 0)))],[],[]⟩
 (.ite (.cmp .lss (.var 2000) (.var 2001))
 (.ob (.tru (.cmp .leq (.lit 0) (.wr .i64 (.ar .shr .u64 (.wr .u64 (.ar .add .i64 (.var 2000) (.var 2001))) (.lit 1)))))
 (.ob (.tru (.cmp .lss (.wr .i64 (.ar .shr .u64 (.wr .u64 (.ar .add .i64 (.var 2000) (.var 2001))) (.lit 1))) (.len (.var 0))))
 (.ite (.cmp .lss (.rd (.var 0) (.wr .i64 (.ar .shr .u64 (.wr .u64 (.ar .add .i64 (.var 2000) (.var 2001))) (.lit 1))) 0) (.var 1))
 (.next 0 ⟨[(0,(.ar .add .i64 (.wr .i64 (.ar .shr .u64 (.wr .u64 (.ar .add .i64 (.var 2000) (.var 2001))) (.lit 1))) (.lit 1))),(1,(.var 2001))],[],[]⟩)
 (.ite (.cmp .gtr (.rd (.var 0) (.wr .i64 (.ar .shr .u64 (.wr .u64 (.ar .add .i64 (.var 2000) (.var 2001))) (.lit 1))) 0) (.var 1))
 (.next 0 ⟨[(0,(.var 2000)),(1,(.wr .i64 (.ar .shr .u64 (.wr .u64 (.ar .add .i64 (.var 2000) (.var 2001))) (.lit 1))))],[],[]⟩)
 (.next 0 ⟨[(0,(.var 2000)),(1,(.wr .i64 (.ar .shr .u64 (.wr .u64 (.ar .add .i64 (.var 2000) (.var 2001))) (.lit 1))))],[],[]⟩)))))
 (.ite (.cmp .lss (.var 2000) (.len (.var 0)))
 (.ob (.tru (.cmp .leq (.lit 0) (.var 2000)))
 (.ob (.tru (.cmp .lss (.var 2000) (.len (.var 0))))
 (.ite (.cmp .lss (.rd (.var 0) (.var 2000) 0) (.var 1))
 (.ret ((.tup [(.one (.z (.int .i64 (.var 2000)))),(.one (.z (.bool (.lit false))))]),[],6))
 (.ite (.cmp .gtr (.rd (.var 0) (.var 2000) 0) (.var 1))
 (.ret ((.tup [(.one (.z (.int .i64 (.var 2000)))),(.one (.z (.bool (.lit false))))]),[],6))
 (.ret ((.tup [(.one (.z (.int .i64 (.var 2000)))),(.one (.z (.bool (.lit true))))]),[],6))))))
 (.ret ((.tup [(.one (.z (.int .i64 (.var 2000)))),(.one (.z (.bool (.lit false))))]),[],4)))))
set_option maxRecDepth 100000 in
theorem c3g:T.norm 0 (call Tryz.prog [] (Lt.of []) 150 42 (Q3 0 0 b4h) (a1b 0 0 b4h) (agN b4h)) TT.ret=b0s:=by kernel_rfl
theorem b8p:b0s.low 1000=true:=by kernel_rfl
def b1y:TT j6:=
(.loop 0 2000 ⟨[(0,(.lit 0)),(1,(.len (.var 0)))],[],[]⟩
 (.ite (.cmp .lss (.var 2000) (.var 2001))
 (.ob (.tru (.cmp .leq (.lit 0) (.wr .i64 (.ar .shr .u64 (.wr .u64 (.ar .add .i64 (.var 2000) (.var 2001))) (.lit 1)))))
 (.ob (.tru (.cmp .lss (.wr .i64 (.ar .shr .u64 (.wr .u64 (.ar .add .i64 (.var 2000) (.var 2001))) (.lit 1))) (.len (.var 0))))
 (.ite (.cmp .lss (.rd (.var 0) (.wr .i64 (.ar .shr .u64 (.wr .u64 (.ar .add .i64 (.var 2000) (.var 2001))) (.lit 1))) 0) (.var 1))
 (.next 0 ⟨[(0,(.ar .add .i64 (.wr .i64 (.ar .shr .u64 (.wr .u64 (.ar .add .i64 (.var 2000) (.var 2001))) (.lit 1))) (.lit 1))),(1,(.var 2001))],[],[]⟩)
 (.ite (.cmp .gtr (.rd (.var 0) (.wr .i64 (.ar .shr .u64 (.wr .u64 (.ar .add .i64 (.var 2000) (.var 2001))) (.lit 1))) 0) (.var 1))
 (.next 0 ⟨[(0,(.var 2000)),(1,(.wr .i64 (.ar .shr .u64 (.wr .u64 (.ar .add .i64 (.var 2000) (.var 2001))) (.lit 1))))],[],[]⟩)
 (.next 0 ⟨[(0,(.var 2000)),(1,(.wr .i64 (.ar .shr .u64 (.wr .u64 (.ar .add .i64 (.var 2000) (.var 2001))) (.lit 1))))],[],[]⟩)))))
 (.ite (.cmp .lss (.var 2000) (.len (.var 0)))
 (.ob (.tru (.cmp .leq (.lit 0) (.var 2000)))
 (.ob (.tru (.cmp .lss (.var 2000) (.len (.var 0))))
 (.ite (.cmp .lss (.rd (.var 0) (.var 2000) 0) (.var 1))
 (.ret ((.tup [(.one (.z (.int .i64 (.var 2000)))),(.one (.z (.bool (.lit false))))]),[],6))
 (.ite (.cmp .gtr (.rd (.var 0) (.var 2000) 0) (.var 1))
 (.ret ((.tup [(.one (.z (.int .i64 (.var 2000)))),(.one (.z (.bool (.lit false))))]),[],6))
 (.ret ((.tup [(.one (.z (.int .i64 (.var 2000)))),(.one (.z (.bool (.lit true))))]),[],6))))))
 (.ret ((.tup [(.one (.z (.int .i64 (.var 2000)))),(.one (.z (.bool (.lit false))))]),[],4)))))
set_option maxRecDepth 100000 in
theorem c0O:T.norm 0 (call Tryz.prog [] (Lt.of []) 150 89 (Q3 0 0 b6u) (a1b 0 0 b6u) (agN b6u)) TT.ret=b1y:=by kernel_rfl
theorem b8l:b1y.low 1000=true:=by kernel_rfl
def c2P:TT j6:=
(.ite (.fn 76 (.i (.var 0) (.i (.lit 1) (.i (.var 1) (.i (.var 2) (.i (.var 3) (.x .nil (.i (.var 4) (.i (.lit 0) (.x .nil .nil))))))))))
 (.ite (.cmp .leq (.var 4) (.var 5))
 (.ite (.cmp .leq (.var 5) (.lit 100000))
 (.ite (.cmp .geq (.var 6) (.lit 0))
 (.ret ((.v (.one (.z (.bool (.cmp .leq (.var 6) (.lit 10000000)))))),[],3))
 (.ret ((.v (.one (.z (.bool (.lit false))))),[],3)))
 (.ret ((.v (.one (.z (.bool (.lit false))))),[],3)))
 (.ret ((.v (.one (.z (.bool (.lit false))))),[],3)))
 (.ret ((.v (.one (.z (.bool (.lit false))))),[],3)))
set_option maxRecDepth 100000 in
theorem c7W:T.norm 0 (call Tryz.prog b3T (Lt.of []) 150 44 (i6 0 [snd]) [] 0) TT.ret=c2P:=by kernel_rfl
theorem c4m:c2P.low 1000=true:=by kernel_rfl
def a7R(a b:Int):Int:=if a<b then -1 else if b<a then 1 else 0
def a8z(ds:List D):Int:=a7R (c9 ds 0) (c9 ds 1)
theorem d8Q:k8 Tryz.prog 73 [it,it] (fun ds=> .int .i64 (a8z ds)):=by
 refine GivesIf.all (i7 I4 (by kernel_rfl) (fun ρ _=>CtOk.nil) (by kernel_rfl) c8l c6z (by decide) (fun W vals ds hr _=> ?_))
 simp only[c3F,g8,Nat.reduceBEq,Nat.reduceLT,Nat.reduceSub]
 simp only[a8z,a7R]
 refine⟨fun h=>by rw[if_pos h],fun h=>⟨fun h'=>by rw[if_neg h,if_pos (by omega)],fun h'=>by rw[if_neg h,if_neg (by omega)]⟩⟩
def c1S(r:Rows):Nat→Nat→Bool
 | 0,_=>true
 | f+1,i=>decide (lg r i 0<lg r (i+1:Nat) 0)&&c1S r f (i+1)
def V9(r:Rows):Bool:=c1S r (r.length-1) 0
def a3s(r:Rows)(n:Int):Nat→Nat→Nat
 | 0,i=>i
 | f+1,i=>if lg r i 0<n then a3s r n f (i+1) else i
def y6(r:Rows)(n:Int):Nat:=a3s r n r.length 0
def D3(r:Rows)(n:Int):Bool:=decide (y6 r n<r.length∧lg r (y6 r n) 0=n)
def a1H(ds:List D):Int:=y6 (d9 ds 0) (c9 ds 1)
def isL(ds:List D):Bool:=D3 (d9 ds 0) (c9 ds 1)
def a5a(ds:List D):Bool:=V9 (d9 ds 0)
theorem a8d{r:Rows}:∀(f i:Nat),c1S r f i=true↔∀k,i≤k→k<i+f→lg r k 0<lg r (k+1:Nat) 0
 | 0,i=>⟨fun _ k h1 h2=>by omega,fun _=>rfl⟩
 | f+1,i=>by
   rw[c1S,Bool.and_eq_true,decide_eq_true_eq,a8d f (i+1)]
   constructor
   ·rintro⟨h1,h2⟩ k hk hk'
    by_cases e:k=i
    ·subst e;exact h1
    ·exact h2 k (by omega) (by omega)
   ·exact fun h=>⟨h i (by omega) (by omega),fun k h1 h2=>h k (by omega) (by omega)⟩
theorem a2u{r:Rows}(h:V9 r=true):∀ {i j:Nat},i<j→j<r.length→lg r i 0<lg r j 0:=by
 have h1:=(a8d _ _).mp h
 have key:∀(d i:Nat),i+d+1<r.length→lg r i 0<lg r (i+d+1:Nat) 0:=by
  intro d
  induction d with
  | zero=>intro i hi;exact h1 i (by omega) (by omega)
  | succ d ih=>
    intro i hi
    have a:=ih i (by omega)
    have b:=h1 (i+d+1) (by omega) (by omega)
    rw[show i+(d+1)+1=i+d+1+1 by omega]
    omega
 intro i j hij hj
 have:=key (j-i-1) i (by omega)
 rw[show i+(j-i-1)+1=j by omega] at this
 exact this
theorem b5d{r:Rows}(h:∀i:Nat,i+1<r.length→lg r i 0<lg r (i+1:Nat) 0):V9 r=true:=(a8d _ _).mpr (fun k _ hk=>h k (by omega))
theorem b3m{r:Rows}{n:Int}:∀(f i:Nat),i≤a3s r n f i∧a3s r n f i≤i+f∧(∀k:Nat,i≤k→k<a3s r n f i→lg r k 0<n)∧(a3s r n f i<i+f→¬lg r (a3s r n f i) 0<n)
 | 0,i=>⟨Nat.le_refl _,Nat.le_refl _,fun k h1 h2=>by rw[a3s] at h2;omega,fun h=>by rw[a3s] at h;omega⟩
 | f+1,i=>by
   obtain⟨a,b,c,d⟩:=b3m (r:=r) (n:=n) f (i+1)
   rw[a3s]
   split
   ·rename_i h
    refine⟨by omega,by omega,fun k h1 h2=> ?_,fun h=>d (by omega)⟩
    by_cases e:k=i
    ·subst e;assumption
    ·exact c k (by omega) h2
   ·rename_i h
    exact⟨Nat.le_refl _,by omega,fun k h1 h2=>by omega,fun _=>h⟩
theorem D0(r:Rows)(n:Int):y6 r n≤r.length∧(∀k:Nat,k<y6 r n→lg r k 0<n)∧(y6 r n<r.length→¬lg r (y6 r n) 0<n):=by
 obtain⟨_,b,c,d⟩:=b3m (r:=r) (n:=n) r.length 0
 exact⟨by unfold y6;omega,fun k hk=>c k (by omega) hk,fun h=>d (by unfold y6 at h;omega)⟩
theorem Y7{r:Rows}{n:Int}{i:Nat}(hi:i≤r.length)(h1:∀k:Nat,k<i→lg r k 0<n)(h2:i<r.length→¬lg r i 0<n):i=y6 r n:=by
 obtain⟨a,b,c⟩:=D0 r n
 rcases Nat.lt_trichotomy i (y6 r n) with h | h | h
 ·exact absurd (b i h) (h2 (by omega))
 ·exact h
 ·exact absurd (h1 _ h) (c (by omega))
theorem d3t{r:Rows}(hr:V9 r=true){n:Int}:D3 r n=true↔∃k:Nat,k<r.length∧lg r k 0=n:=by
 unfold D3
 rw[decide_eq_true_eq]
 constructor
 ·exact fun h=>⟨_,h.1,h.2⟩
 ·rintro⟨k,hk,h⟩
  have:k=y6 r n:=Y7 (by omega) (fun j hj=>by have:=a2u hr hj hk;omega) (fun _=>by omega)
  rw[←this]
  exact⟨hk,h⟩
theorem b6s{i j:Nat}(hj:i+j≤562949953421312):IntKind.i64.wrap ((IntKind.u64.wrap (IntKind.i64.wrap ((i:Int)+(j:Int)))).fdiv (2^min (1:Int).toNat IntKind.u64.bits))=(((i+j)/2:Nat):Int):=by
 rw[f8 ((i:Int)+(j:Int)) (by omega) (by omega)]
 have w:∀x:Int,IntKind.u64.wrap x=x % 18446744073709551616:=fun x=>rfl
 have e:IntKind.u64.wrap ((i:Int)+(j:Int))=(i:Int)+(j:Int):=by
  rw[w];omega
 rw[e,show(2:Int)^min (1:Int).toNat IntKind.u64.bits=2 from rfl,Int.fdiv_eq_ediv_of_nonneg _ (by omega),show((i:Int)+(j:Int))/2=(((i+j)/2:Nat):Int) by omega,f8 _ (by omega) (by omega)]
theorem c5L{w0 W:World}{vals:List Value}{ds:List D}{bs:List Nat}{ks:List CK}{l:List Ag}(h:U0 w0 W (.d (.one (.sl ks))::l) vals ds bs):(d9 ds 0).length≤281474976710656:=by
 obtain⟨v,vs',d,ds',rfl,rfl,⟨d,rfl,h⟩,_⟩:=h
 rw[y7] at h
 obtain⟨r,rfl,a,n,c,_,hs,_⟩:=h
 have e1:=hs.len
 have e2:=hs.big
 show r.length≤_
 omega
theorem d4c:a5S Tryz.prog 42 b4h (fun ds=>V9 (d9 ds 0)=true) (fun ds=> .tuple #[.int .i64 (a1H ds),.bool (isL ds)]):=by
 refine b3d I4 (by kernel_rfl) (fun ρ _=>CtOk.nil) (by kernel_rfl) c3g b8p (by decide) (fun w0 W vals ds bs hr hok=> ?_)
 have hlen:=c5L hr
 simp only[b0s]
 unfold a1H isL
 clear hr
 generalize e0:d9 ds 0=r at*
 generalize e1:c9 ds 1=n at*
 refine TT.sat_loop (fun v=>∃i j:Nat,v.i 0=i∧v.i 1=j∧i≤j∧j≤r.length∧(∀k:Nat,k<i→lg r k 0<n)∧∀k:Nat,j≤k→k<r.length→n≤lg r k 0) (fun v=>(v.i 1).toNat-(v.i 0).toNat)
  ⟨0,r.length,by simp [j7,i8,E.ev],by simp [j7,i8,E.ev,X.ev,J8,e0],by omega,by omega,fun k hk=>by omega,fun k h1 h2=>by omega⟩ (fun v hv=> ?_)
 obtain⟨i,j,i0,j0,hij,hj,h1,h2⟩:=hv
 simp only[g8,Nat.reduceBEq,Nat.reduceLT,Nat.reduceSub,i0,j0,e0,e1]
 refine⟨fun hc=> ?_,fun hc=> ?_⟩
 ·rw[b6s (by omega)]
  have hm:i≤(i+j)/2∧(i+j)/2<j:=by omega
  generalize (i+j)/2=m at*
  rw[f8 ((m:Int)+1) (by omega) (by omega)]
  refine⟨by omega,by omega,fun a=>⟨⟨m+1,j,rfl,rfl,by omega,hj,fun k hk=> ?_,h2⟩,by omega⟩,fun a=>⟨fun b=>⟨⟨i,m,rfl,rfl,by omega,by omega,h1,fun k g1 g2=> ?_⟩,by omega⟩,fun b=>⟨⟨i,m,rfl,rfl,by omega,by omega,h1,fun k g1 g2=> ?_⟩,by omega⟩⟩⟩
  ·by_cases e:k=m
   ·subst e;exact a
   ·have:=a2u hok (i:=k) (j:=m) (by omega) (by omega)
    omega
  all_goals
   by_cases e:k=m
   ·subst e;omega
   ·have:=a2u hok (i:=m) (j:=k) (by omega) g2
    omega
 ·have hi:i=j:=by omega
  subst hi
  have hl:i=y6 r n:=Y7 hj h1 (fun h=>by have:=h2 i (Nat.le_refl _) h;omega)
  have hB:D3 r n=decide (i<r.length∧lg r i 0=n):=by unfold D3;rw[←hl]
  rw[hB,←hl]
  refine⟨fun a=>⟨by omega,by omega,fun b=> ?_,fun b=>⟨fun c=> ?_,fun c=> ?_⟩⟩,fun a=> ?_⟩
  ·rw[decide_eq_false (by omega)];exact⟨rfl,trivial⟩
  ·rw[decide_eq_false (by omega)];exact⟨rfl,trivial⟩
  ·rw[decide_eq_true (by omega)];exact⟨rfl,trivial⟩
  ·rw[decide_eq_false (by omega)];exact⟨rfl,trivial⟩
theorem d4d:a5S Tryz.prog 89 b6u (fun ds=>V9 (d9 ds 0)=true) (fun ds=> .tuple #[.int .i64 (a1H ds),.bool (isL ds)]):=by
 refine b3d I4 (by kernel_rfl) (fun ρ _=>CtOk.nil) (by kernel_rfl) c0O b8l (by decide) (fun w0 W vals ds bs hr hok=> ?_)
 have hlen:=c5L hr
 simp only[b1y]
 unfold a1H isL
 clear hr
 generalize e0:d9 ds 0=r at*
 generalize e1:c9 ds 1=n at*
 refine TT.sat_loop (fun v=>∃i j:Nat,v.i 0=i∧v.i 1=j∧i≤j∧j≤r.length∧(∀k:Nat,k<i→lg r k 0<n)∧∀k:Nat,j≤k→k<r.length→n≤lg r k 0) (fun v=>(v.i 1).toNat-(v.i 0).toNat)
  ⟨0,r.length,by simp [j7,i8,E.ev],by simp [j7,i8,E.ev,X.ev,J8,e0],by omega,by omega,fun k hk=>by omega,fun k h1 h2=>by omega⟩ (fun v hv=> ?_)
 obtain⟨i,j,i0,j0,hij,hj,h1,h2⟩:=hv
 simp only[g8,Nat.reduceBEq,Nat.reduceLT,Nat.reduceSub,i0,j0,e0,e1]
 refine⟨fun hc=> ?_,fun hc=> ?_⟩
 ·rw[b6s (by omega)]
  have hm:i≤(i+j)/2∧(i+j)/2<j:=by omega
  generalize (i+j)/2=m at*
  rw[f8 ((m:Int)+1) (by omega) (by omega)]
  refine⟨by omega,by omega,fun a=>⟨⟨m+1,j,rfl,rfl,by omega,hj,fun k hk=> ?_,h2⟩,by omega⟩,fun a=>⟨fun b=>⟨⟨i,m,rfl,rfl,by omega,by omega,h1,fun k g1 g2=> ?_⟩,by omega⟩,fun b=>⟨⟨i,m,rfl,rfl,by omega,by omega,h1,fun k g1 g2=> ?_⟩,by omega⟩⟩⟩
  ·by_cases e:k=m
   ·subst e;exact a
   ·have:=a2u hok (i:=k) (j:=m) (by omega) (by omega)
    omega
  all_goals
   by_cases e:k=m
   ·subst e;omega
   ·have:=a2u hok (i:=m) (j:=k) (by omega) g2
    omega
 ·have hi:i=j:=by omega
  subst hi
  have hl:i=y6 r n:=Y7 hj h1 (fun h=>by have:=h2 i (Nat.le_refl _) h;omega)
  have hB:D3 r n=decide (i<r.length∧lg r i 0=n):=by unfold D3;rw[←hl]
  rw[hB,←hl]
  refine⟨fun a=>⟨by omega,by omega,fun b=> ?_,fun b=>⟨fun c=> ?_,fun c=> ?_⟩⟩,fun a=> ?_⟩
  ·rw[decide_eq_false (by omega)];exact⟨rfl,trivial⟩
  ·rw[decide_eq_false (by omega)];exact⟨rfl,trivial⟩
  ·rw[decide_eq_true (by omega)];exact⟨rfl,trivial⟩
  ·rw[decide_eq_false (by omega)];exact⟨rfl,trivial⟩
theorem d3B:k8 Tryz.prog 34 [B7] (fun ds=> .bool (X7 ds)):=by
 refine GivesIf.all (i7 F4 (by kernel_rfl) (fun ρ h=>a8m (Sees.of h 132)) (by kernel_rfl) c7i c3O (by decide) (fun W vals ds hr _=> ?_))
 have hlen:=a2X hr
 simp only[b5S]
 have hO:X7 ds=G3 (d9 ds 0):=rfl
 rw[hO]
 clear hr
 generalize e0:d9 ds 0=r at*
 refine TT.sat_loop (fun v=>∃i:Nat,v.i 1=i∧i≤r.length∧(E6 r (r.length-i) i (v.i 0)&&decide (r.length≤300))=G3 r) (fun v=>r.length-(v.i 1).toNat)
  ⟨0,by simp [j7,i8,E.ev],by omega,rfl⟩ (fun v hv=> ?_)
 obtain⟨i,i0,i1,i2⟩:=hv
 simp only[g8,Nat.reduceBEq,Nat.reduceLT,Nat.reduceSub,i0,e0,c6b,O9,a4M]
 refine⟨fun hc=> ?_,fun hc=> ?_⟩
 ·have hi:i<r.length:=by omega
  obtain⟨f,hf⟩:∃f,r.length-i=f+1:=⟨r.length-i-1,by omega⟩
  have hf':r.length-(i+1)=f:=by omega
  rw[hf,E6] at i2
  rw[f8 ((i:Int)+1) (by omega) (by omega)]
  refine⟨by omega,by omega,fun h=> ?_,fun h=>⟨fun g=> ?_,fun g=>⟨⟨i+1,rfl,by omega,?_⟩,by omega⟩⟩⟩
  ·rw[←i2,h];rfl
  ·rw[←i2,h,decide_eq_false (by omega)];rfl
  ·rw[hf',←i2,h,decide_eq_true (p:=v.i 0<lg r i 0) (by omega)];rfl
 ·have h0:r.length-i=0:=by omega
  rw[h0,E6,Bool.true_and] at i2
  rw[←i2]
  refine congrArg Value.bool ?_
  rw[Bool.eq_iff_iff]
  simp only[x7,p6,decide_eq_true_eq]
  omega
def a6H(id x y r lo hi t:Int):Bool:=z6 id 1 x y r [] lo 0 []&&decide ((lo≤hi∧hi≤100000)∧0≤t∧t≤10000000)
def a1x(ds:List D):Bool:=a6H (c9 ds 0) (c9 ds 1) (c9 ds 2) (c9 ds 3) (c9 ds 4) (c9 ds 5) (c9 ds 6)
theorem d3A(W:World)(ds l:List D):(f0 I4 W ds).fb 76 l=G2 l:=by simp only[f0,I4,F4,V0,Z7,M4,C0,G1,C6,z9,w9,KI,KH,KG,KF]
theorem d8i:k8 Tryz.prog 44 [snd] (fun ds=> .bool (a1x ds)):=by
 refine GivesIf.all (i7 I4 (by kernel_rfl) (fun ρ h=>a7M (Sees.of h 134)) (by kernel_rfl) c7W c4m (by decide) (fun W vals ds hr _=> ?_))
 simp only[c2P,g8,Nat.reduceBEq,Nat.reduceLT,Nat.reduceSub,d3A,O9]
 simp only[a1x,a6H]
 refine⟨fun h=>⟨fun h1=>⟨fun h2=>⟨fun h3=> ?_,fun h3=> ?_⟩,fun h2=> ?_⟩,fun h1=> ?_⟩,fun h=> ?_⟩
 ·rw[h,Bool.true_and]
  refine congrArg Value.bool ?_
  rw[Bool.eq_iff_iff,x7,decide_eq_true_eq]
  simp only[p6]
  omega
 ·rw[h,decide_eq_false (by omega)];rfl
 ·rw[h,decide_eq_false (by omega)];rfl
 ·rw[h,decide_eq_false (by omega)];rfl
 ·rw[h];rfl
def t7:Interp where
 fi n l:=match n with | 134=>a8z l | 135=>a1H l | n=>I4.fi n l
 fb n l:=match n with | 135=>isL l | 136=>a5a l | 137=>X7 l | 138=>a1x l | n=>I4.fb n l
 fd _ _:=[]
theorem b0t{ρ:Env}(h:Sees ρ t7 150):Sees ρ I4 134:=h.trans (by decide) fun n l hn=>by
 refine⟨?_,?_⟩
 ·
  simp only[t7]
  split<;>first | omega | rfl
 ·
  simp only[t7]
  split<;>first | omega | rfl
def d4o:=o7 [it,it] fun al=> .ret (iV .i64 (iF 134 a8z al))
theorem d1p{ρ:Env}(h:Sees ρ t7 150):i9 Tryz.prog ρ 73 d4o:=
 k5 d8Q (fun _=>rfl) (fun al=>by simp only[iV,bV,V.s0,V.val,V2.val,S.val,S0.val,o6 (s:=134) (f:=a8z) (fun l=>by rw[(h 134 l (by decide)).1];simp only[t7])];try rfl)
def b5L:=o7 [B7] fun al=> .ret (bV (bF 137 X7 al))
theorem b8K{ρ:Env}(h:Sees ρ t7 150):i9 Tryz.prog ρ 34 b5L:=
 k5 d3B (fun _=>rfl) (fun al=>by simp only[iV,bV,V.s0,V.val,V2.val,S.val,S0.val,k7 (s:=137) (f:=X7) (fun l=>by rw[(h 137 l (by decide)).2];simp only[t7])];try rfl)
def d5D:=o7 [snd] fun al=> .ret (bV (bF 138 a1x al))
theorem d2q{ρ:Env}(h:Sees ρ t7 150):i9 Tryz.prog ρ 44 d5D:=
 k5 d8i (fun _=>rfl) (fun al=>by simp only[iV,bV,V.s0,V.val,V2.val,S.val,S0.val,k7 (s:=138) (f:=a1x) (fun l=>by rw[(h 138 l (by decide)).2];simp only[t7])];try rfl)
def b3P(al:AL):T V:=match al with
 | .x r (.i n .nil)=>T.obs [.tru (bF 136 a5a (.x r .nil))] (.ret (.tup [.one (w6 135 a1H al),.one (G8 135 isL al)]))
 | _=> .stuck "find"
theorem c0o{ρ:Env}(h:Sees ρ t7 150){f:FuncId}{l:List Ag}(g:a5S Tryz.prog f l (fun ds=>V9 (d9 ds 0)=true) (fun ds=> .tuple #[.int .i64 (a1H ds),.bool (isL ds)])):i9 Tryz.prog ρ f (b7e l b3P):=by
 refine d1N g (fun al v hv=> ?_)
 unfold b3P at hv
 split at hv
 ·rename_i r n
  obtain⟨ho,hv⟩:=T.res_obs hv
  obtain rfl:=g7 hv
  have o1:=ho _ (List.mem_cons_self ..)
  replace o1:(bF 136 a5a (.x r .nil)).ev ρ=true:=o1
  rw[k7 (s:=136) (f:=a5a) (fun l=>by rw[(h 136 l (by decide)).2];simp only[t7])] at o1
  refine⟨rfl,o1,?_⟩
  simp only[V.val,V2.val,S.val,S0.val,w6,G8,List.map_cons,List.map_nil,o6 (s:=135) (f:=a1H) (fun l=>by rw[(h 135 l (by decide)).1];simp only[t7]),k7 (s:=135) (f:=isL) (fun l=>by rw[(h 135 l (by decide)).2];simp only[t7])]
  try rfl
 ·exact hv.elim
def c6T:=b7e b4h b3P
def c7e:=b7e b6u b3P
theorem c4i{ρ:Env}(h:Sees ρ t7 150):i9 Tryz.prog ρ 42 c6T:=c0o h d4c
theorem c6v{ρ:Env}(h:Sees ρ t7 150):i9 Tryz.prog ρ 89 c7e:=c0o h d4d
def c1c:Ct:=(73,d4o)::(34,b5L)::(44,d5D)::(42,c6T)::(89,c7e)::(77,a2P)::b3T
theorem b1c{ρ:Env}(h:Sees ρ t7 150):CtOk Tryz.prog ρ c1c:= .cons (d1p h)<| .cons (b8K h)<| .cons (d2q h)<| .cons (c4i h)<| .cons (c6v h)<| .cons a2s (a7M (b0t h))
def b7z:TT j6:=
(.ite (.not (.fn 137 (.x (.var 1) .nil)))
 (.ret ((.v (.one (.z (.bool (.lit false))))),[],1))
 (.ite (.cmp .gtr (.ar .add .i64 (.len (.var 0)) (.len (.var 1))) (.lit 300))
 (.ret ((.v (.one (.z (.bool (.lit false))))),[],1))
 (.loop 0 2000 ⟨[(0,(.lit 0)),(1,(.lit 0))],[],[]⟩
 (.ite (.cmp .lss (.var 2001) (.len (.var 0)))
 (.ob (.tru (.cmp .leq (.lit 0) (.var 2001)))
 (.ob (.tru (.cmp .lss (.var 2001) (.len (.var 0))))
 (.ob (.tru (.fn 136 (.x (.var 1) .nil)))
 (.ite (.fn 135 (.x (.var 1) (.i (.rd (.var 0) (.var 2001) 0) .nil)))
 (.ret ((.v (.one (.z (.bool (.lit false))))),[],3))
 (.ite (.not (.fn 138 (.i (.rd (.var 0) (.var 2001) 0) (.i (.rd (.var 0) (.var 2001) 1) (.i (.rd (.var 0) (.var 2001) 2) (.i (.rd (.var 0) (.var 2001) 3) (.i (.rd (.var 0) (.var 2001) 4) (.i (.rd (.var 0) (.var 2001) 5) (.i (.rd (.var 0) (.var 2001) 6) .nil)))))))))
 (.ret ((.v (.one (.z (.bool (.lit false))))),[],3))
 (.ite (.cmp .leq (.rd (.var 0) (.var 2001) 0) (.var 2000))
 (.ret ((.v (.one (.z (.bool (.lit false))))),[],3))
 (.next 0 ⟨[(0,(.rd (.var 0) (.var 2001) 0)),(1,(.ar .add .i64 (.var 2001) (.lit 1)))],[],[]⟩)))))))
 (.ret ((.v (.one (.z (.bool (.lit true))))),[],3))))))
set_option maxRecDepth 100000 in
theorem c4N:T.norm 0 (call Tryz.prog c1c (Lt.of []) 150 13 (i6 0 [o0]) [] 0) TT.ret=b7z:=by kernel_rfl
theorem c3n:b7z.low 1000=true:=by kernel_rfl
def b4S:TT j6:=
(.ob (.tru (.cmp .leq (.len (.var 0)) (.lit 1000000)))
(.loop 0 3000 ⟨[(0,(.lit 0))],[],[]⟩
 (.ite (.cmp .lss (.var 3000) (.len (.var 0)))
 (.ob (.tru (.cmp .leq (.lit 0) (.var 3000)))
 (.ob (.tru (.cmp .lss (.var 3000) (.len (.var 0))))
 (.loop 1 10000 ⟨[(0,(.lit 0))],[],[]⟩
 (.ite (.cmp .lss (.var 10000) (.len (.var 0)))
 (.ob (.tru (.cmp .leq (.lit 0) (.var 10000)))
 (.ob (.tru (.cmp .lss (.var 10000) (.len (.var 0))))
 (.ite (.cmp .neq (.fn 134 (.i (.rd (.var 0) (.var 10000) 6) (.i (.rd (.var 0) (.var 3000) 6) .nil))) (.lit 0))
 (.ite (.cmp .gtr (.fn 134 (.i (.rd (.var 0) (.var 10000) 6) (.i (.rd (.var 0) (.var 3000) 6) .nil))) (.lit 0))
 (.ite (.fn 119 (.i (.rd (.var 0) (.var 10000) 0) (.i (.lit 1) (.i (.rd (.var 0) (.var 10000) 1) (.i (.rd (.var 0) (.var 10000) 2) (.i (.rd (.var 0) (.var 10000) 3) (.x .nil (.i (.rd (.var 0) (.var 10000) 4) (.i (.lit 0) (.x .nil (.i (.rd (.var 0) (.var 3000) 0) (.i (.lit 1) (.i (.rd (.var 0) (.var 3000) 1) (.i (.rd (.var 0) (.var 3000) 2) (.i (.rd (.var 0) (.var 3000) 3) (.x .nil (.i (.rd (.var 0) (.var 3000) 4) (.i (.lit 0) (.x .nil .nil)))))))))))))))))))
 (.ite (.cmp .eql (.var 3000) (.lit (-1)))
 (.ret ((.v (.one (.z (.own 1 (.lit 0))))),[(1,(.own 53 [(.int .i64),(.int .i64),(.int .i64),(.int .i64),(.int .i64),(.int .i64),(.int .i64)] (.var 0) (.lit 0))),(1,(.own 53 [(.int .i64),(.int .i64),(.int .i64),(.int .i64),(.int .i64),(.int .i64),(.int .i64)] (.var 0) (.lit 0))),(1,(.own 53 [(.int .i64),(.int .i64),(.int .i64),(.int .i64),(.int .i64),(.int .i64),(.int .i64)] (.var 0) (.lit 0)))],17))
 (.loop 1 18000 ⟨[(1,(.var 3000)),(0,(.ar .add .i64 (.var 3000) (.lit 1)))],[],[(2,(.var 0))]⟩
 (.ite (.cmp .lss (.var 18000) (.len (.var 18002)))
 (.ob (.tru (.cmp .leq (.lit 0) (.var 18000)))
 (.ob (.tru (.cmp .lss (.var 18000) (.len (.var 18002))))
 (.loop 2 26000 ⟨[(0,(.lit 0))],[],[]⟩
 (.ite (.cmp .lss (.var 26000) (.len (.var 0)))
 (.ob (.tru (.cmp .leq (.lit 0) (.var 26000)))
 (.ob (.tru (.cmp .lss (.var 26000) (.len (.var 0))))
 (.ite (.cmp .neq (.fn 134 (.i (.rd (.var 0) (.var 26000) 6) (.i (.rd (.var 18002) (.var 18000) 6) .nil))) (.lit 0))
 (.ite (.cmp .gtr (.fn 134 (.i (.rd (.var 0) (.var 26000) 6) (.i (.rd (.var 18002) (.var 18000) 6) .nil))) (.lit 0))
 (.ite (.fn 119 (.i (.rd (.var 0) (.var 26000) 0) (.i (.lit 1) (.i (.rd (.var 0) (.var 26000) 1) (.i (.rd (.var 0) (.var 26000) 2) (.i (.rd (.var 0) (.var 26000) 3) (.x .nil (.i (.rd (.var 0) (.var 26000) 4) (.i (.lit 0) (.x .nil (.i (.rd (.var 18002) (.var 18000) 0) (.i (.lit 1) (.i (.rd (.var 18002) (.var 18000) 1) (.i (.rd (.var 18002) (.var 18000) 2) (.i (.rd (.var 18002) (.var 18000) 3) (.x .nil (.i (.rd (.var 18002) (.var 18000) 4) (.i (.lit 0) (.x .nil .nil)))))))))))))))))))
 (.next 1 ⟨[(1,(.var 18001)),(0,(.ar .add .i64 (.var 18000) (.lit 1)))],[],[(2,(.var 18002))]⟩)
 (.next 2 ⟨[(0,(.ar .add .i64 (.var 26000) (.lit 1)))],[],[]⟩))
 (.next 2 ⟨[(0,(.ar .add .i64 (.var 26000) (.lit 1)))],[],[]⟩))
 (.ite (.cmp .neq (.fn 134 (.i (.rd (.var 0) (.var 26000) 0) (.i (.rd (.var 18002) (.var 18000) 0) .nil))) (.lit 0))
 (.ite (.cmp .gtr (.fn 134 (.i (.rd (.var 0) (.var 26000) 0) (.i (.rd (.var 18002) (.var 18000) 0) .nil))) (.lit 0))
 (.ite (.fn 119 (.i (.rd (.var 0) (.var 26000) 0) (.i (.lit 1) (.i (.rd (.var 0) (.var 26000) 1) (.i (.rd (.var 0) (.var 26000) 2) (.i (.rd (.var 0) (.var 26000) 3) (.x .nil (.i (.rd (.var 0) (.var 26000) 4) (.i (.lit 0) (.x .nil (.i (.rd (.var 18002) (.var 18000) 0) (.i (.lit 1) (.i (.rd (.var 18002) (.var 18000) 1) (.i (.rd (.var 18002) (.var 18000) 2) (.i (.rd (.var 18002) (.var 18000) 3) (.x .nil (.i (.rd (.var 18002) (.var 18000) 4) (.i (.lit 0) (.x .nil .nil)))))))))))))))))))
 (.next 1 ⟨[(1,(.var 18001)),(0,(.ar .add .i64 (.var 18000) (.lit 1)))],[],[(2,(.var 18002))]⟩)
 (.next 2 ⟨[(0,(.ar .add .i64 (.var 26000) (.lit 1)))],[],[]⟩))
 (.next 2 ⟨[(0,(.ar .add .i64 (.var 26000) (.lit 1)))],[],[]⟩))
 (.next 2 ⟨[(0,(.ar .add .i64 (.var 26000) (.lit 1)))],[],[]⟩)))))
 (.ob (.tru (.cmp .leq (.lit 0) (.var 18001)))
 (.ob (.tru (.cmp .lss (.var 18001) (.len (.var 18002))))
 (.next 1 ⟨[(1,(.ar .add .i64 (.var 18001) (.lit 1))),(0,(.ar .add .i64 (.var 18000) (.lit 1)))],[],[(2,(.upd (.var 18002) (.var 18001) 0 (.i (.rd (.var 18002) (.var 18000) 0) (.i (.rd (.var 18002) (.var 18000) 1) (.i (.rd (.var 18002) (.var 18000) 2) (.i (.rd (.var 18002) (.var 18000) 3) (.i (.rd (.var 18002) (.var 18000) 4) (.i (.rd (.var 18002) (.var 18000) 5) (.i (.rd (.var 18002) (.var 18000) 6) .nil)))))))))]⟩)))))))
 (.ob (.tru (.cmp .leq (.lit 0) (.var 18001)))
 (.ob (.tru (.cmp .leq (.var 18001) (.len (.var 18002))))
 (.ob (.tru (.lit true))
 (.ob (.tru (.lit true))
 (.ob (.tru (.cmp .leq (.lit 0) (.var 18001)))
 (.ob (.tru (.cmp .leq (.var 18001) (.len (.app (.app (.sub (.var 18002) (.lit 0) (.var 18001)) (.rep (.len (.sub (.var 18002) (.var 18001) (.len (.var 18002)))) (.i (.lit 0) (.i (.lit 0) (.i (.lit 0) (.i (.lit 0) (.i (.lit 0) (.i (.lit 0) (.i (.lit 0) .nil))))))))) (.sub (.var 18002) (.plus (.var 18001) (.len (.rep (.len (.sub (.var 18002) (.var 18001) (.len (.var 18002)))) (.i (.lit 0) (.i (.lit 0) (.i (.lit 0) (.i (.lit 0) (.i (.lit 0) (.i (.lit 0) (.i (.lit 0) .nil)))))))))) (.len (.var 18002)))))))
 (.ret ((.v (.one (.z (.ovw 1 (.lit 0) 7 (.lit 0) (.var 18001) false)))),[(1,(.own 53 [(.int .i64),(.int .i64),(.int .i64),(.int .i64),(.int .i64),(.int .i64),(.int .i64)] (.app (.app (.sub (.var 18002) (.lit 0) (.var 18001)) (.rep (.len (.sub (.var 18002) (.var 18001) (.len (.var 18002)))) (.i (.lit 0) (.i (.lit 0) (.i (.lit 0) (.i (.lit 0) (.i (.lit 0) (.i (.lit 0) (.i (.lit 0) .nil))))))))) (.sub (.var 18002) (.plus (.var 18001) (.len (.rep (.len (.sub (.var 18002) (.var 18001) (.len (.var 18002)))) (.i (.lit 0) (.i (.lit 0) (.i (.lit 0) (.i (.lit 0) (.i (.lit 0) (.i (.lit 0) (.i (.lit 0) .nil)))))))))) (.len (.var 18002)))) (.lit 0))),(1,(.own 53 [(.int .i64),(.int .i64),(.int .i64),(.int .i64),(.int .i64),(.int .i64),(.int .i64)] (.var 18002) (.lit 0))),(1,(.own 53 [(.int .i64),(.int .i64),(.int .i64),(.int .i64),(.int .i64),(.int .i64),(.int .i64)] (.var 0) (.lit 0))),(1,(.own 53 [(.int .i64),(.int .i64),(.int .i64),(.int .i64),(.int .i64),(.int .i64),(.int .i64)] (.var 0) (.lit 0))),(1,(.own 53 [(.int .i64),(.int .i64),(.int .i64),(.int .i64),(.int .i64),(.int .i64),(.int .i64)] (.var 0) (.lit 0)))],33)))))))))))
 (.next 1 ⟨[(0,(.ar .add .i64 (.var 10000) (.lit 1)))],[],[]⟩))
 (.next 1 ⟨[(0,(.ar .add .i64 (.var 10000) (.lit 1)))],[],[]⟩))
 (.ite (.cmp .neq (.fn 134 (.i (.rd (.var 0) (.var 10000) 0) (.i (.rd (.var 0) (.var 3000) 0) .nil))) (.lit 0))
 (.ite (.cmp .gtr (.fn 134 (.i (.rd (.var 0) (.var 10000) 0) (.i (.rd (.var 0) (.var 3000) 0) .nil))) (.lit 0))
 (.ite (.fn 119 (.i (.rd (.var 0) (.var 10000) 0) (.i (.lit 1) (.i (.rd (.var 0) (.var 10000) 1) (.i (.rd (.var 0) (.var 10000) 2) (.i (.rd (.var 0) (.var 10000) 3) (.x .nil (.i (.rd (.var 0) (.var 10000) 4) (.i (.lit 0) (.x .nil (.i (.rd (.var 0) (.var 3000) 0) (.i (.lit 1) (.i (.rd (.var 0) (.var 3000) 1) (.i (.rd (.var 0) (.var 3000) 2) (.i (.rd (.var 0) (.var 3000) 3) (.x .nil (.i (.rd (.var 0) (.var 3000) 4) (.i (.lit 0) (.x .nil .nil)))))))))))))))))))
 (.ite (.cmp .eql (.var 3000) (.lit (-1)))
 (.ret ((.v (.one (.z (.own 1 (.lit 0))))),[(1,(.own 53 [(.int .i64),(.int .i64),(.int .i64),(.int .i64),(.int .i64),(.int .i64),(.int .i64)] (.var 0) (.lit 0))),(1,(.own 53 [(.int .i64),(.int .i64),(.int .i64),(.int .i64),(.int .i64),(.int .i64),(.int .i64)] (.var 0) (.lit 0))),(1,(.own 53 [(.int .i64),(.int .i64),(.int .i64),(.int .i64),(.int .i64),(.int .i64),(.int .i64)] (.var 0) (.lit 0)))],17))
 (.loop 1 18000 ⟨[(1,(.var 3000)),(0,(.ar .add .i64 (.var 3000) (.lit 1)))],[],[(2,(.var 0))]⟩
 (.ite (.cmp .lss (.var 18000) (.len (.var 18002)))
 (.ob (.tru (.cmp .leq (.lit 0) (.var 18000)))
 (.ob (.tru (.cmp .lss (.var 18000) (.len (.var 18002))))
 (.loop 2 26000 ⟨[(0,(.lit 0))],[],[]⟩
 (.ite (.cmp .lss (.var 26000) (.len (.var 0)))
 (.ob (.tru (.cmp .leq (.lit 0) (.var 26000)))
 (.ob (.tru (.cmp .lss (.var 26000) (.len (.var 0))))
 (.ite (.cmp .neq (.fn 134 (.i (.rd (.var 0) (.var 26000) 6) (.i (.rd (.var 18002) (.var 18000) 6) .nil))) (.lit 0))
 (.ite (.cmp .gtr (.fn 134 (.i (.rd (.var 0) (.var 26000) 6) (.i (.rd (.var 18002) (.var 18000) 6) .nil))) (.lit 0))
 (.ite (.fn 119 (.i (.rd (.var 0) (.var 26000) 0) (.i (.lit 1) (.i (.rd (.var 0) (.var 26000) 1) (.i (.rd (.var 0) (.var 26000) 2) (.i (.rd (.var 0) (.var 26000) 3) (.x .nil (.i (.rd (.var 0) (.var 26000) 4) (.i (.lit 0) (.x .nil (.i (.rd (.var 18002) (.var 18000) 0) (.i (.lit 1) (.i (.rd (.var 18002) (.var 18000) 1) (.i (.rd (.var 18002) (.var 18000) 2) (.i (.rd (.var 18002) (.var 18000) 3) (.x .nil (.i (.rd (.var 18002) (.var 18000) 4) (.i (.lit 0) (.x .nil .nil)))))))))))))))))))
 (.next 1 ⟨[(1,(.var 18001)),(0,(.ar .add .i64 (.var 18000) (.lit 1)))],[],[(2,(.var 18002))]⟩)
 (.next 2 ⟨[(0,(.ar .add .i64 (.var 26000) (.lit 1)))],[],[]⟩))
 (.next 2 ⟨[(0,(.ar .add .i64 (.var 26000) (.lit 1)))],[],[]⟩))
 (.ite (.cmp .neq (.fn 134 (.i (.rd (.var 0) (.var 26000) 0) (.i (.rd (.var 18002) (.var 18000) 0) .nil))) (.lit 0))
 (.ite (.cmp .gtr (.fn 134 (.i (.rd (.var 0) (.var 26000) 0) (.i (.rd (.var 18002) (.var 18000) 0) .nil))) (.lit 0))
 (.ite (.fn 119 (.i (.rd (.var 0) (.var 26000) 0) (.i (.lit 1) (.i (.rd (.var 0) (.var 26000) 1) (.i (.rd (.var 0) (.var 26000) 2) (.i (.rd (.var 0) (.var 26000) 3) (.x .nil (.i (.rd (.var 0) (.var 26000) 4) (.i (.lit 0) (.x .nil (.i (.rd (.var 18002) (.var 18000) 0) (.i (.lit 1) (.i (.rd (.var 18002) (.var 18000) 1) (.i (.rd (.var 18002) (.var 18000) 2) (.i (.rd (.var 18002) (.var 18000) 3) (.x .nil (.i (.rd (.var 18002) (.var 18000) 4) (.i (.lit 0) (.x .nil .nil)))))))))))))))))))
 (.next 1 ⟨[(1,(.var 18001)),(0,(.ar .add .i64 (.var 18000) (.lit 1)))],[],[(2,(.var 18002))]⟩)
 (.next 2 ⟨[(0,(.ar .add .i64 (.var 26000) (.lit 1)))],[],[]⟩))
 (.next 2 ⟨[(0,(.ar .add .i64 (.var 26000) (.lit 1)))],[],[]⟩))
 (.next 2 ⟨[(0,(.ar .add .i64 (.var 26000) (.lit 1)))],[],[]⟩)))))
 (.ob (.tru (.cmp .leq (.lit 0) (.var 18001)))
 (.ob (.tru (.cmp .lss (.var 18001) (.len (.var 18002))))
 (.next 1 ⟨[(1,(.ar .add .i64 (.var 18001) (.lit 1))),(0,(.ar .add .i64 (.var 18000) (.lit 1)))],[],[(2,(.upd (.var 18002) (.var 18001) 0 (.i (.rd (.var 18002) (.var 18000) 0) (.i (.rd (.var 18002) (.var 18000) 1) (.i (.rd (.var 18002) (.var 18000) 2) (.i (.rd (.var 18002) (.var 18000) 3) (.i (.rd (.var 18002) (.var 18000) 4) (.i (.rd (.var 18002) (.var 18000) 5) (.i (.rd (.var 18002) (.var 18000) 6) .nil)))))))))]⟩)))))))
 (.ob (.tru (.cmp .leq (.lit 0) (.var 18001)))
 (.ob (.tru (.cmp .leq (.var 18001) (.len (.var 18002))))
 (.ob (.tru (.lit true))
 (.ob (.tru (.lit true))
 (.ob (.tru (.cmp .leq (.lit 0) (.var 18001)))
 (.ob (.tru (.cmp .leq (.var 18001) (.len (.app (.app (.sub (.var 18002) (.lit 0) (.var 18001)) (.rep (.len (.sub (.var 18002) (.var 18001) (.len (.var 18002)))) (.i (.lit 0) (.i (.lit 0) (.i (.lit 0) (.i (.lit 0) (.i (.lit 0) (.i (.lit 0) (.i (.lit 0) .nil))))))))) (.sub (.var 18002) (.plus (.var 18001) (.len (.rep (.len (.sub (.var 18002) (.var 18001) (.len (.var 18002)))) (.i (.lit 0) (.i (.lit 0) (.i (.lit 0) (.i (.lit 0) (.i (.lit 0) (.i (.lit 0) (.i (.lit 0) .nil)))))))))) (.len (.var 18002)))))))
 (.ret ((.v (.one (.z (.ovw 1 (.lit 0) 7 (.lit 0) (.var 18001) false)))),[(1,(.own 53 [(.int .i64),(.int .i64),(.int .i64),(.int .i64),(.int .i64),(.int .i64),(.int .i64)] (.app (.app (.sub (.var 18002) (.lit 0) (.var 18001)) (.rep (.len (.sub (.var 18002) (.var 18001) (.len (.var 18002)))) (.i (.lit 0) (.i (.lit 0) (.i (.lit 0) (.i (.lit 0) (.i (.lit 0) (.i (.lit 0) (.i (.lit 0) .nil))))))))) (.sub (.var 18002) (.plus (.var 18001) (.len (.rep (.len (.sub (.var 18002) (.var 18001) (.len (.var 18002)))) (.i (.lit 0) (.i (.lit 0) (.i (.lit 0) (.i (.lit 0) (.i (.lit 0) (.i (.lit 0) (.i (.lit 0) .nil)))))))))) (.len (.var 18002)))) (.lit 0))),(1,(.own 53 [(.int .i64),(.int .i64),(.int .i64),(.int .i64),(.int .i64),(.int .i64),(.int .i64)] (.var 18002) (.lit 0))),(1,(.own 53 [(.int .i64),(.int .i64),(.int .i64),(.int .i64),(.int .i64),(.int .i64),(.int .i64)] (.var 0) (.lit 0))),(1,(.own 53 [(.int .i64),(.int .i64),(.int .i64),(.int .i64),(.int .i64),(.int .i64),(.int .i64)] (.var 0) (.lit 0))),(1,(.own 53 [(.int .i64),(.int .i64),(.int .i64),(.int .i64),(.int .i64),(.int .i64),(.int .i64)] (.var 0) (.lit 0)))],33)))))))))))
 (.next 1 ⟨[(0,(.ar .add .i64 (.var 10000) (.lit 1)))],[],[]⟩))
 (.next 1 ⟨[(0,(.ar .add .i64 (.var 10000) (.lit 1)))],[],[]⟩))
 (.next 1 ⟨[(0,(.ar .add .i64 (.var 10000) (.lit 1)))],[],[]⟩)))))
 (.next 0 ⟨[(0,(.ar .add .i64 (.var 3000) (.lit 1)))],[],[]⟩)))))
 (.ret ((.v (.one (.z (.own 1 (.lit 0))))),[(1,(.own 53 [(.int .i64),(.int .i64),(.int .i64),(.int .i64),(.int .i64),(.int .i64),(.int .i64)] (.var 0) (.lit 0))),(1,(.own 53 [(.int .i64),(.int .i64),(.int .i64),(.int .i64),(.int .i64),(.int .i64),(.int .i64)] (.var 0) (.lit 0)))],17)))))
set_option maxRecDepth 100000 in
theorem c4d:T.norm 0 (call Tryz.prog c1c (Lt.of [(101,0)]) 150 46 (i6 0 [o0]) [] 0) TT.ret=b4S:=by kernel_rfl
theorem c3N:b4S.low 1000=true:=by kernel_rfl
theorem b9d(a b:Int):a8z [.i a,.i b]=a7R a b:=rfl
theorem G5{a b:Int}:a7R a b>0↔b<a:=by unfold a7R;split<;>(try split)<;>omega
theorem J5{a b:Int}:a7R a b≠0↔a≠b:=by unfold a7R;split<;>(try split)<;>omega
def a3I(s:Rows)(i:Nat):Bool:=a6H (lg s i 0) (lg s i 1) (lg s i 2) (lg s i 3) (lg s i 4) (lg s i 5) (lg s i 6)
def a4w(F s:Rows):Nat→Nat→Int→Bool
 | 0,_,_=>true
 | f+1,i,last=>(!D3 F (lg s i 0)&&(a3I s i&&decide (last<lg s i 0)))&&a4w F s f (i+1) (lg s i 0)
def q9(s F:Rows):Bool:=G3 F&&(decide ((s.length:Int)+F.length≤300)&&a4w F s s.length 0 0)
def I6(ds:List D):Bool:=q9 (d9 ds 0) (d9 ds 1)
theorem b4B{r:Rows}:∀(f i:Nat) (last:Int),E6 r f i last=true→∀k:Nat,i≤k→k+1<i+f→lg r k 0<lg r (k+1:Nat) 0
 | 0,_,_,_,k,h1,h2=>by omega
 | f+1,i,last,h,k,h1,h2=>by
   rw[E6,Bool.and_eq_true,Bool.and_eq_true] at h
   by_cases e:k=i
   ·subst e
    obtain⟨g,hg⟩:∃g,f=g+1:=⟨f-1,by omega⟩
    have h3:=h.2
    rw[hg,E6,Bool.and_eq_true,Bool.and_eq_true,decide_eq_true_eq] at h3
    exact h3.1.2
   ·exact b4B f (i+1) _ h.2 k (by omega) (by omega)
theorem c7Q{r:Rows}(h:G3 r=true):V9 r=true:=by
 unfold G3 at h
 rw[Bool.and_eq_true] at h
 exact b5d (fun i hi=>b4B _ _ _ h.1 i (by omega) (by omega))
theorem a3E{W:World}{vals:List Value}{ds:List D}{sh:List Sh}(h:A4 W (o0::sh) vals ds):(d9 ds 0).length≤281474976710656∧(d9 ds 1).length≤281474976710656:=by
 obtain⟨v,vs',d,ds',rfl,rfl,⟨us,rfl,h⟩,_⟩:=h
 have e1:d.length=2:=(u9 h).2
 obtain⟨_,x0,_,p0,q0⟩:=x9 (j:=0) h rfl
 obtain⟨_,x1,_,p1,q1⟩:=x9 (j:=1) h rfl
 have a0:(d++ds')[0]? = some x0:=by rw[List.getElem?_append_left (by omega)];exact p0
 have a1:(d++ds')[1]? = some x1:=by rw[List.getElem?_append_left (by omega)];exact p1
 have gd:∀(l:List D) (i:Nat) (d:D),l[i]? = some d→l.getD i (.i 0)=d:=fun l i d h=>by rw[List.getD_eq_getElem?_getD,h];rfl
 have lr:∀ {k:List CK} {v:Value} {d:D},CK.rep W (.sl k) v d→d.rows.length≤281474976710656:=fun {k v d} h=>by
  rw[y7] at h
  obtain⟨r,rfl,a,n,c,_,hs,_⟩:=h
  have e1:=hs.len
  have e2:=hs.big
  show r.length≤_
  omega
 unfold d9
 rw[gd _ _ _ a0,gd _ _ _ a1]
 exact⟨lr q0,lr q1⟩
theorem b9Z(W:World)(ds l:List D):(f0 t7 W ds).fi 134 l=a8z l:=by simp only[f0,t7]
theorem d3d(W:World)(ds l:List D):(f0 t7 W ds).fb 135 l=isL l:=by simp only[f0,t7]
theorem d2h(W:World)(ds l:List D):(f0 t7 W ds).fb 136 l=a5a l:=by simp only[f0,t7]
theorem d2E(W:World)(ds l:List D):(f0 t7 W ds).fb 137 l=X7 l:=by simp only[f0,t7]
theorem d1S(W:World)(ds l:List D):(f0 t7 W ds).fb 138 l=a1x l:=by simp only[f0,t7]
theorem b9H(W:World)(ds l:List D):(f0 t7 W ds).fb 119 l=a0y l:=by simp only[f0,t7,I4,F4,V0,Z7,M4]
theorem a8O(r:Rows)(n:Int):isL [.l r,.i n]=D3 r n:=rfl
theorem a0H(r:Rows):a5a [.l r]=V9 r:=rfl
theorem b2J(r:Rows):X7 [.l r]=G3 r:=rfl
theorem b2D(a b c d e f g:Int):a1x [.i a,.i b,.i c,.i d,.i e,.i f,.i g]=a6H a b c d e f g:=rfl
set_option maxHeartbeats 1000000 in
theorem d6H:k8 Tryz.prog 13 [o0] (fun ds=> .bool (I6 ds)):=by
 refine GivesIf.all (i7 t7 (by kernel_rfl) (fun ρ h=>b1c (Sees.of h 150)) (by kernel_rfl) c4N c3n (by decide) (fun W vals ds hr _=> ?_))
 obtain⟨n0,n1⟩:=a3E hr
 simp only[b7z,g8,Nat.reduceBEq,Nat.reduceLT,Nat.reduceSub,d2E,b2J]
 have hO:I6 ds=q9 (d9 ds 0) (d9 ds 1):=rfl
 rw[hO]
 clear hO hr
 generalize e0:d9 ds 0=s at*
 generalize e1:d9 ds 1=F at*
 rw[f8 ((s.length:Int)+F.length) (by omega) (by omega)]
 refine⟨fun h=>by rw[q9,h];rfl,fun hL=>⟨fun h=>by rw[q9,decide_eq_false (p:=(s.length:Int)+F.length≤300) (by omega)];simp,fun h300=> ?_⟩⟩
 have hr:=c7Q hL
 have hS:q9 s F=a4w F s s.length 0 0:=by rw[q9,hL,decide_eq_true (p:=(s.length:Int)+F.length≤300) (by omega)];rfl
 rw[hS]
 generalize hG:a4w F s s.length 0 0=G
 refine TT.sat_loop (fun v=>∃i:Nat,v.i 1=i∧i≤s.length∧a4w F s (s.length-i) i (v.i 0)=G) (fun v=>s.length-(v.i 1).toNat)
  ⟨0,by simp [j7,i8,E.ev],by omega,hG⟩ (fun v hv=> ?_)
 obtain⟨i,i0,i1,i2⟩:=hv
 simp only[g8,Nat.reduceBEq,Nat.reduceLT,Nat.reduceSub,i0,e0,e1,d3d,d2h,d1S,a8O,a0H,b2D]
 refine⟨fun hc=> ?_,fun hc=> ?_⟩
 ·have hi:i<s.length:=by omega
  obtain⟨f,hf⟩:∃f,s.length-i=f+1:=⟨s.length-i-1,by omega⟩
  have hf':s.length-(i+1)=f:=by omega
  rw[hf,a4w] at i2
  rw[f8 ((i:Int)+1) (by omega) (by omega)]
  refine⟨by omega,by omega,hr,fun a=> ?_,fun a=>⟨fun b=> ?_,fun b=>⟨fun c=> ?_,fun c=>⟨⟨i+1,rfl,by omega,?_⟩,by omega⟩⟩⟩⟩
  ·rw[←i2,a];rfl
  ·rw[←i2,a,a3I,b];rfl
  ·rw[←i2,a,a3I,b,decide_eq_false (by omega)];rfl
  ·rw[hf',←i2,a,a3I,b,decide_eq_true (p:=v.i 0<lg s i 0) (by omega)];rfl
 ·have h0:s.length-i=0:=by omega
  rw[h0,a4w] at i2
  rw[←i2]
def cI(row:List D)(j:Nat):Int:=(row[j]?.getD (.i 0)).int
theorem j8{r:Rows}{i:Nat}(h:i<r.length)(j:Nat):lg r i j=cI r[i] j:=by
 unfold lg w8 cI
 rw[Int.toNat_natCast,List.getElem?_eq_getElem h]
 rfl
def V8(row:List D):Prop:=row=[.i (cI row 0),.i (cI row 1),.i (cI row 2),.i (cI row 3),.i (cI row 4),.i (cI row 5),.i (cI row 6)]
theorem b3b{w:World}{us:List Value}{row:List D}(h:CK.reps w G7 us row):V8 row:=by
 have hl:row.length=7:=(u9 h).2
 have hi:∀j,j<7→row[j]? = some (.i (cI row j)):=fun j hj=>by
  obtain⟨v,d,_,h1,h2⟩:=x9 (j:=j) (k:= .int .i64) h (by
   rcases(show j=0∨j=1∨j=2∨j=3∨j=4∨j=5∨j=6 by omega) with e | e | e | e | e | e | e<;>subst e<;>rfl)
  unfold CK.rep at h2
  obtain⟨n,_,rfl⟩:=h2
  rw[h1]
  unfold cI
  rw[h1]
  rfl
 unfold V8
 refine List.ext_getElem? (fun j=> ?_)
 rcases Nat.lt_or_ge j 7 with q | q
 ·rw[hi j q]
  rcases(show j=0∨j=1∨j=2∨j=3∨j=4∨j=5∨j=6 by omega) with e | e | e | e | e | e | e<;>subst e<;>rfl
 ·rw[List.getElem?_eq_none (by omega),List.getElem?_eq_none (by simp;omega)]
theorem a0G{W:World}{vals:List Value}{ds:List D}{sh:List Sh}(h:A4 W (o0::sh) vals ds):∀row∈d9 ds 0,V8 row:=by
 obtain⟨v,vs',d,ds',rfl,rfl,⟨us,rfl,h⟩,_⟩:=h
 have e1:d.length=2:=(u9 h).2
 obtain⟨_,x0,_,p0,q0⟩:=x9 (j:=0) h rfl
 have a0:(d++ds')[0]? = some x0:=by rw[List.getElem?_append_left (by omega)];exact p0
 have gd:(d++ds').getD 0 (.i 0)=x0:=by rw[List.getD_eq_getElem?_getD,a0];rfl
 intro row hrow
 unfold d9 at hrow
 rw[gd,y7] at*
 obtain⟨r,rfl,a,n,c,_,hs,_⟩:=q0
 obtain⟨i,hi,rfl⟩:=List.getElem_of_mem hrow
 obtain⟨b,hb⟩:=Option.isSome_iff_exists.1 (hs.there (by have:=hs.len;have:i<r.length:=hi;omega))
 obtain⟨vs,g1,_⟩:=hs.cell b hb i r[i] (List.getElem?_eq_getElem hi)
 exact b3b g1
def H6(row:List D):List D:=[.i (cI row 0),.i 1,.i (cI row 1),.i (cI row 2),.i (cI row 3),.l [],.i (cI row 4),.i 0,.l []]
def a5N(y x:List D):Bool:=decide (cI x 6<cI y 6∨(cI y 6=cI x 6∧cI x 0<cI y 0))
def V3(y x:List D):Bool:=a5N y x&&a0y (H6 y++H6 x)
def z5(s:Rows)(x:List D):Bool:=s.any fun y=>V3 y x
def j5(s:Rows):Rows:=s.filter fun x=> !z5 s x
theorem b0P{s:Rows}{x:List D}(h:∀(k:Nat) (hk:k<s.length),V3 s[k] x=false):z5 s x=false:=by
 unfold z5
 rw[List.any_eq_false]
 intro y hy
 obtain⟨k,hk,rfl⟩:=List.getElem_of_mem hy
 rw[h k hk];decide
theorem a7O{s:Rows}{x:List D}{k:Nat}(hk:k<s.length)(h:V3 s[k] x=true):z5 s x=true:=by
 unfold z5
 rw[List.any_eq_true]
 exact⟨s[k],List.getElem_mem hk,h⟩
theorem a7w{s:Rows}{p:List D→Bool}{j:Nat}(hj:j<s.length):(s.take (j+1)).filter p=(s.take j).filter p++(if p s[j] then [s[j]] else []):=by
 rw[List.take_succ_eq_append_getElem hj,List.filter_append]
 congr 1
 by_cases h:p s[j]=true
 ·rw[if_pos h];simp [h]
 ·rw[if_neg h];simp [h]
def a0Y:NL:= { e:=53,ks:=G7,s:=0,rows:=fun ds=>j5 (d9 ds 0) }
theorem d1a{y x:List D}{b:Bool}(hb:a0y [.i (cI y 0),.i 1,.i (cI y 1),.i (cI y 2),.i (cI y 3),.l [],.i (cI y 4),.i 0,.l [],.i (cI x 0),.i 1,.i (cI x 1),.i (cI x 2),.i (cI x 3),.l [],.i (cI x 4),.i 0,.l []]=b):
 (cI x 6<cI y 6∨(cI y 6=cI x 6∧cI x 0<cI y 0)→V3 y x=b)∧(¬(cI x 6<cI y 6∨(cI y 6=cI x 6∧cI x 0<cI y 0))→V3 y x=false):=by
 refine⟨fun h=> ?_,fun h=> ?_⟩
 ·have:V3 y x=(a5N y x&&b):=by rw[←hb];rfl
  rw[this,a5N,decide_eq_true h,Bool.true_and]
 ·unfold V3
  rw[a5N,decide_eq_false h,Bool.false_and]
theorem b4E{row:List D}(h:V8 row):row.length=7:=by rw[h];rfl
theorem a9j{s:Rows}{p:List D→Bool}(h:∀(k:Nat) (hk:k<s.length),p s[k]=true):s.filter p=s:=by
 rw[List.filter_eq_self]
 intro a ha
 obtain⟨k,hk,rfl⟩:=List.getElem_of_mem ha
 exact h k hk
theorem d1x{x:Rows}{i:Nat}{l:List D}(hi:i<x.length)(h:x[i].length≤l.length):a0A x (i:Int) 0 l=x.set i l:=by
 unfold a0A
 rw[Int.toNat_natCast]
 refine List.ext_getElem? (fun k=> ?_)
 rw[List.getElem?_modify,List.getElem?_set]
 by_cases e:i=k
 ·subst e
  simp [hi,List.getElem?_eq_getElem hi,List.drop_eq_nil_of_le h]
 ·simp [e]
def b3h:TT j6:=
(.loop 1 18000 ⟨[(1,(.var 3000)),(0,(.ar .add .i64 (.var 3000) (.lit 1)))],[],[(2,(.var 0))]⟩
 (.ite (.cmp .lss (.var 18000) (.len (.var 18002)))
 (.ob (.tru (.cmp .leq (.lit 0) (.var 18000)))
 (.ob (.tru (.cmp .lss (.var 18000) (.len (.var 18002))))
 (.loop 2 26000 ⟨[(0,(.lit 0))],[],[]⟩
 (.ite (.cmp .lss (.var 26000) (.len (.var 0)))
 (.ob (.tru (.cmp .leq (.lit 0) (.var 26000)))
 (.ob (.tru (.cmp .lss (.var 26000) (.len (.var 0))))
 (.ite (.cmp .neq (.fn 134 (.i (.rd (.var 0) (.var 26000) 6) (.i (.rd (.var 18002) (.var 18000) 6) .nil))) (.lit 0))
 (.ite (.cmp .gtr (.fn 134 (.i (.rd (.var 0) (.var 26000) 6) (.i (.rd (.var 18002) (.var 18000) 6) .nil))) (.lit 0))
 (.ite (.fn 119 (.i (.rd (.var 0) (.var 26000) 0) (.i (.lit 1) (.i (.rd (.var 0) (.var 26000) 1) (.i (.rd (.var 0) (.var 26000) 2) (.i (.rd (.var 0) (.var 26000) 3) (.x .nil (.i (.rd (.var 0) (.var 26000) 4) (.i (.lit 0) (.x .nil (.i (.rd (.var 18002) (.var 18000) 0) (.i (.lit 1) (.i (.rd (.var 18002) (.var 18000) 1) (.i (.rd (.var 18002) (.var 18000) 2) (.i (.rd (.var 18002) (.var 18000) 3) (.x .nil (.i (.rd (.var 18002) (.var 18000) 4) (.i (.lit 0) (.x .nil .nil)))))))))))))))))))
 (.next 1 ⟨[(1,(.var 18001)),(0,(.ar .add .i64 (.var 18000) (.lit 1)))],[],[(2,(.var 18002))]⟩)
 (.next 2 ⟨[(0,(.ar .add .i64 (.var 26000) (.lit 1)))],[],[]⟩))
 (.next 2 ⟨[(0,(.ar .add .i64 (.var 26000) (.lit 1)))],[],[]⟩))
 (.ite (.cmp .neq (.fn 134 (.i (.rd (.var 0) (.var 26000) 0) (.i (.rd (.var 18002) (.var 18000) 0) .nil))) (.lit 0))
 (.ite (.cmp .gtr (.fn 134 (.i (.rd (.var 0) (.var 26000) 0) (.i (.rd (.var 18002) (.var 18000) 0) .nil))) (.lit 0))
 (.ite (.fn 119 (.i (.rd (.var 0) (.var 26000) 0) (.i (.lit 1) (.i (.rd (.var 0) (.var 26000) 1) (.i (.rd (.var 0) (.var 26000) 2) (.i (.rd (.var 0) (.var 26000) 3) (.x .nil (.i (.rd (.var 0) (.var 26000) 4) (.i (.lit 0) (.x .nil (.i (.rd (.var 18002) (.var 18000) 0) (.i (.lit 1) (.i (.rd (.var 18002) (.var 18000) 1) (.i (.rd (.var 18002) (.var 18000) 2) (.i (.rd (.var 18002) (.var 18000) 3) (.x .nil (.i (.rd (.var 18002) (.var 18000) 4) (.i (.lit 0) (.x .nil .nil)))))))))))))))))))
 (.next 1 ⟨[(1,(.var 18001)),(0,(.ar .add .i64 (.var 18000) (.lit 1)))],[],[(2,(.var 18002))]⟩)
 (.next 2 ⟨[(0,(.ar .add .i64 (.var 26000) (.lit 1)))],[],[]⟩))
 (.next 2 ⟨[(0,(.ar .add .i64 (.var 26000) (.lit 1)))],[],[]⟩))
 (.next 2 ⟨[(0,(.ar .add .i64 (.var 26000) (.lit 1)))],[],[]⟩)))))
 (.ob (.tru (.cmp .leq (.lit 0) (.var 18001)))
 (.ob (.tru (.cmp .lss (.var 18001) (.len (.var 18002))))
 (.next 1 ⟨[(1,(.ar .add .i64 (.var 18001) (.lit 1))),(0,(.ar .add .i64 (.var 18000) (.lit 1)))],[],[(2,(.upd (.var 18002) (.var 18001) 0 (.i (.rd (.var 18002) (.var 18000) 0) (.i (.rd (.var 18002) (.var 18000) 1) (.i (.rd (.var 18002) (.var 18000) 2) (.i (.rd (.var 18002) (.var 18000) 3) (.i (.rd (.var 18002) (.var 18000) 4) (.i (.rd (.var 18002) (.var 18000) 5) (.i (.rd (.var 18002) (.var 18000) 6) .nil)))))))))]⟩)))))))
 (.ob (.tru (.cmp .leq (.lit 0) (.var 18001)))
 (.ob (.tru (.cmp .leq (.var 18001) (.len (.var 18002))))
 (.ob (.tru (.lit true))
 (.ob (.tru (.lit true))
 (.ob (.tru (.cmp .leq (.lit 0) (.var 18001)))
 (.ob (.tru (.cmp .leq (.var 18001) (.len (.app (.app (.sub (.var 18002) (.lit 0) (.var 18001)) (.rep (.len (.sub (.var 18002) (.var 18001) (.len (.var 18002)))) (.i (.lit 0) (.i (.lit 0) (.i (.lit 0) (.i (.lit 0) (.i (.lit 0) (.i (.lit 0) (.i (.lit 0) .nil))))))))) (.sub (.var 18002) (.plus (.var 18001) (.len (.rep (.len (.sub (.var 18002) (.var 18001) (.len (.var 18002)))) (.i (.lit 0) (.i (.lit 0) (.i (.lit 0) (.i (.lit 0) (.i (.lit 0) (.i (.lit 0) (.i (.lit 0) .nil)))))))))) (.len (.var 18002)))))))
 (.ret ((.v (.one (.z (.ovw 1 (.lit 0) 7 (.lit 0) (.var 18001) false)))),[(1,(.own 53 [(.int .i64),(.int .i64),(.int .i64),(.int .i64),(.int .i64),(.int .i64),(.int .i64)] (.app (.app (.sub (.var 18002) (.lit 0) (.var 18001)) (.rep (.len (.sub (.var 18002) (.var 18001) (.len (.var 18002)))) (.i (.lit 0) (.i (.lit 0) (.i (.lit 0) (.i (.lit 0) (.i (.lit 0) (.i (.lit 0) (.i (.lit 0) .nil))))))))) (.sub (.var 18002) (.plus (.var 18001) (.len (.rep (.len (.sub (.var 18002) (.var 18001) (.len (.var 18002)))) (.i (.lit 0) (.i (.lit 0) (.i (.lit 0) (.i (.lit 0) (.i (.lit 0) (.i (.lit 0) (.i (.lit 0) .nil)))))))))) (.len (.var 18002)))) (.lit 0))),(1,(.own 53 [(.int .i64),(.int .i64),(.int .i64),(.int .i64),(.int .i64),(.int .i64),(.int .i64)] (.var 18002) (.lit 0))),(1,(.own 53 [(.int .i64),(.int .i64),(.int .i64),(.int .i64),(.int .i64),(.int .i64),(.int .i64)] (.var 0) (.lit 0))),(1,(.own 53 [(.int .i64),(.int .i64),(.int .i64),(.int .i64),(.int .i64),(.int .i64),(.int .i64)] (.var 0) (.lit 0))),(1,(.own 53 [(.int .i64),(.int .i64),(.int .i64),(.int .i64),(.int .i64),(.int .i64),(.int .i64)] (.var 0) (.lit 0)))],33))))))))))
theorem d9g{j n:Nat}(h:j<n):n-((j:Int)+1).toNat<n-(j:Int).toNat:=by omega
theorem c1o{ws:Mem}{e e':TypeId}{ks ks':List CK}{id k:Nat}{ver v lo hi:E}{x:X}(h:ws.get id=some (.own e' ks' x v))(hc:(Nat.beq e e'&&CK.sameL ks ks'&&E.same ver v&&Nat.beq k ks.length&&E.same lo (.lit 0)&& !false)=true):K3 ws e ks (.ovw id ver k lo hi false)=some (.sub x (.lit 0) hi):=by
 simp only[K3,h]
 rw[if_pos hc]
set_option maxHeartbeats 1000000 in
theorem b4D{w0:World}{ds:List D}{s:Rows}(e0:d9 ds 0=s)(hl:s.length≤1000000)(ws:∀(k:Nat) (hk:k<s.length),V8 s[k]){v u:LV}{i:Nat}(i0:v.i 0=i)(hi:i<s.length)(i2:∀(k:Nat) (hk:k<s.length),k<i→z5 s s[k]=false)(hrep:z5 s s[i]=true)
 {J:Nat→LV→Prop}:b3h.sat (((f0 t7 w0 ds).put 3000 v).put 10000 u) (fun ρ q=>∃a x,K3 q.2.1 a0Y.e a0Y.ks a=some x∧x.ev ρ=a0Y.rows ds∧∀(σ:As) z,ρ.w=w0→q.1.den ρ σ z→∃b,a.den ρ σ b∧z=b) J:=by
 have hR:a0Y.rows ds=s.filter fun x=> !z5 s x:=by rw[←e0];rfl
 have st:∀(j:Nat) (hj:j<s.length),(s.take (j+1)).filter (fun x=> !z5 s x)=(s.take j).filter (fun x=> !z5 s x)++(if z5 s s[j]=false then [s[j]] else []):=fun j hj=>by
  rw[a7w hj]
  congr 1
  cases z5 s s[j]<;>rfl
 unfold b3h
 refine TT.sat_loop (fun p=>∃m j:Nat,p.i 1=m∧p.i 0=j∧m<j∧j≤s.length∧(p.d 2).length=s.length∧(p.d 2).take m=(s.take j).filter (fun x=> !z5 s x)∧(p.d 2).drop j=s.drop j∧∀row∈p.d 2,row.length=7) (fun p=>s.length-(p.i 0).toNat)
  ⟨i,i+1,?_,?_,by omega,by omega,?_,?_,?_,?_⟩ (fun p hp=> ?_)
 ·simp [j7,i8,E.ev,a0W,i0]
 ·show(E.ar .add .i64 (.var 3000) (.lit 1)).ev _=_
  simp only[E.ev,B5,a0W,Nat.reduceLT,if_true,if_false,Nat.lt_irrefl,Nat.sub_self,i0]
  rw[f8 _ (by omega) (by omega)];rfl
 ·simp [D4,i8,X.ev,B6,J8,e0]
 ·have:(s.take i).filter (fun x=> !z5 s x)=s.take i:=a9j (fun k hk=>by
   have hk':k<s.length:=by rw[List.length_take] at hk;omega
   rw[List.getElem_take,i2 k hk' (by rw[List.length_take] at hk;omega)];rfl)
  rw[st i hi,this,hrep]
  simp [D4,i8,X.ev,B6,J8,e0]
 ·simp [D4,i8,X.ev,B6,J8,e0]
 ·intro row hrow
  have hrow:row∈s:=by simpa [D4,i8,X.ev,B6,J8,e0] using hrow
  obtain⟨k,hk,rfl⟩:=List.getElem_of_mem hrow
  exact b4E (ws k hk)
 obtain⟨m,j,m0,j0,hmj,hj,hxl,hpre,hsuf,h7⟩:=hp
 obtain⟨x,hx⟩:∃x,p.d 2=x:=⟨_,rfl⟩
 rw[hx] at hxl hpre hsuf h7
 simp only[g8,Nat.reduceBEq,Nat.reduceLT,Nat.reduceSub,m0,j0,hx,e0]
 refine⟨fun hc=> ?_,fun hc=> ?_⟩
 ·have hj':j<s.length:=by omega
  have hjx:j<x.length:=by omega
  have hxj:x[j]=s[j]:=by
   have h1:(x.drop j)[0]? = (s.drop j)[0]? := by rw[hsuf]
   rw[List.getElem?_drop,List.getElem?_drop,Nat.add_zero,List.getElem?_eq_getElem hjx,List.getElem?_eq_getElem hj'] at h1
   exact Option.some.inj h1
  have hdrop:x.drop (j+1)=s.drop (j+1):=by
   have h1:=congrArg (List.drop 1) hsuf
   rwa [List.drop_drop,List.drop_drop] at h1
  refine⟨by omega,by omega,?_⟩
  refine TT.sat_loop (fun t=>∃k:Nat,t.i 0=k∧k≤s.length∧∀(n:Nat) (hn:n<s.length),n<k→V3 s[n] s[j]=false) (fun t=>s.length-(t.i 0).toNat)
   ⟨0,by simp [j7,i8,E.ev],by omega,fun n hn h=>by omega⟩ (fun t ht=> ?_)
  obtain⟨k,k0,k1,k2⟩:=ht
  simp only[g8,Nat.reduceBEq,Nat.reduceLT,Nat.reduceSub,m0,j0,k0,hx,e0,b9Z,b9H,b9d]
  refine⟨fun hk=> ?_,fun hk=> ?_⟩
  ·have hk':k<s.length:=by omega
   simp only[j8 hk',j8 hjx,hxj]
   have E1:= @d1a s[k] s[j]
   have hw1:IntKind.i64.wrap ((k:Int)+1)=(k:Int)+1:=f8 _ (by omega) (by omega)
   have hw2:IntKind.i64.wrap ((j:Int)+1)=(j:Int)+1:=f8 _ (by omega) (by omega)
   simp only[hw1,hw2]
   have NK:V3 s[k] s[j]=false→(∃q:Nat,(k:Int)+1=q∧q≤s.length∧∀(n:Nat) (hn:n<s.length),n<q→V3 s[n] s[j]=false)∧s.length-((k:Int)+1).toNat<s.length-(k:Int).toNat:=fun h=>
    ⟨⟨k+1,rfl,by omega,fun n hn hnk=>by
      by_cases e:n=k
      ·subst e;exact h
      ·exact k2 n hn (by omega)⟩,by omega⟩
   have NJ:V3 s[k] s[j]=true→(∃m' j':Nat,(m:Int)=m'∧(j:Int)+1=j'∧m'<j'∧j'≤s.length∧x.length=s.length∧x.take m'=(s.take j').filter (fun x=> !z5 s x)∧x.drop j'=s.drop j'∧∀row∈x,row.length=7)∧s.length-((j:Int)+1).toNat<s.length-(j:Int).toNat:=fun h=>
    ⟨⟨m,j+1,rfl,rfl,by omega,by omega,hxl,by rw[st j hj',a7O hk' h];simpa using hpre,hdrop,h7⟩,by omega⟩
   refine⟨by omega,by omega,fun c1=>⟨fun c2=>⟨fun h=>NJ ((E1 h).1 (.inl (G5.mp c2))),fun h=>NK ((E1 h).1 (.inl (G5.mp c2)))⟩,fun c2=>NK ((E1 rfl).2 ?_)⟩,fun c1=>⟨fun c3=>⟨fun c4=>⟨fun h=>NJ ((E1 h).1 (.inr ⟨?_,G5.mp c4⟩)),fun h=>NK ((E1 h).1 (.inr ⟨?_,G5.mp c4⟩))⟩,fun c4=>NK ((E1 rfl).2 ?_)⟩,fun c3=>NK ((E1 rfl).2 ?_)⟩⟩
   ·have g1:=J5 (a:=cI s[k] 6) (b:=cI s[j] 6)
    have g2:=G5 (a:=cI s[k] 6) (b:=cI s[j] 6)
    omega
   ·have g1:=J5 (a:=cI s[k] 6) (b:=cI s[j] 6)
    omega
   ·have g1:=J5 (a:=cI s[k] 6) (b:=cI s[j] 6)
    omega
   ·have g1:=J5 (a:=cI s[k] 6) (b:=cI s[j] 6)
    have g2:=G5 (a:=cI s[k] 0) (b:=cI s[j] 0)
    omega
   ·have g1:=J5 (a:=cI s[k] 6) (b:=cI s[j] 6)
    have g2:=J5 (a:=cI s[k] 0) (b:=cI s[j] 0)
    omega
  ·have hk':k=s.length:=by omega
   have hno:z5 s s[j]=false:=b0P (fun n hn=>k2 n hn (by omega))
   have hw1:IntKind.i64.wrap ((m:Int)+1)=(m:Int)+1:=f8 _ (by omega) (by omega)
   have hw2:IntKind.i64.wrap ((j:Int)+1)=(j:Int)+1:=f8 _ (by omega) (by omega)
   simp only[j8 hjx,hxj,hw1,hw2]
   have hmx:m<x.length:=by omega
   have hset:a0A x (m:Int) 0 [.i (cI s[j] 0),.i (cI s[j] 1),.i (cI s[j] 2),.i (cI s[j] 3),.i (cI s[j] 4),.i (cI s[j] 5),.i (cI s[j] 6)]=x.set m s[j]:=by
    rw[d1x hmx (by rw[h7 _ (List.getElem_mem hmx)];exact Nat.le_refl _)]
    congr 1
    exact(ws j hj').symm
   rw[hset]
   refine⟨by omega,by omega,⟨m+1,j+1,rfl,rfl,by omega,by omega,by simpa using hxl,?_,?_,fun row hrow=> ?_⟩,d9g hj'⟩
   ·rw[st j hj',hno,if_pos rfl,←hpre]
    refine List.ext_getElem? (fun n=> ?_)
    rcases Nat.lt_trichotomy n m with e | e | e
    ·rw[List.getElem?_take_of_lt (by omega),List.getElem?_set_ne (by omega),List.getElem?_append_left (by rw[List.length_take];omega),List.getElem?_take_of_lt e]
    ·subst e
     rw[List.getElem?_take_of_lt (by omega),List.getElem?_set_self hmx,List.getElem?_append_right (by rw[List.length_take];omega),List.length_take,Nat.min_eq_left (by omega),Nat.sub_self];rfl
    ·rw[List.getElem?_eq_none (by rw[List.length_take,List.length_set];omega),List.getElem?_eq_none (by simp only[List.length_append,List.length_take,List.length_cons,List.length_nil];omega)]
   ·rw[List.drop_set_of_lt (by omega)]
    exact hdrop
   ·rcases List.mem_or_eq_of_mem_set hrow with h | h
    ·exact h7 _ h
    ·rw[h];exact b4E (ws j hj')
 ·have hjl:j=s.length:=by omega
  subst hjl
  have hlen:(m8 x 0 (m:Int)).length=m:=by simp only[m8,Int.toNat_zero,List.drop_zero,Nat.sub_zero,Int.toNat_natCast,List.length_take];omega
  refine⟨by omega,by omega,by omega,Int.ofNat_le.mpr ?_,?_⟩
  ·rw[List.length_append,List.length_append,hlen];omega
  ·refine⟨.ovw 1 (.lit 0) 7 (.lit 0) (.var 18001) false,_,c1o rfl (by kernel_rfl),?_,fun σ z hw hz=>⟨z,hz,rfl⟩⟩
   simp only[g8,Nat.reduceBEq,Nat.reduceLT,Nat.reduceSub,m0,j0,hx,e0]
   rw[List.take_length] at hpre
   rw[hR,←hpre]
   simp only[m8,Int.toNat_zero,List.drop_zero,Nat.sub_zero,Int.toNat_natCast]
   rw[List.append_assoc,List.take_append_of_le_length (by rw[List.length_take];omega),List.take_take,Nat.min_self]
set_option maxHeartbeats 1000000 in
theorem d6m:B9 Tryz.prog 46 [o0] [a0Y] (fun ds=>(d9 ds 0).length≤1000000) (fun _ _ vs u=>∃v,vs=[v]∧u=v):=by
 refine H0 t7 (by kernel_rfl) (fun ρ h=>b1c (Sees.of h 150)) (by kernel_rfl) c4d c3N (by decide) (fun w0 vals ds hr hok=> ?_)
 have hw:=a0G hr
 simp only[b4S]
 have hR:a0Y.rows ds=j5 (d9 ds 0):=rfl
 clear hr
 generalize e0:d9 ds 0=s at*
 refine⟨by simp only[g8,Nat.reduceBEq,Nat.reduceLT,Nat.reduceSub,e0];omega,?_⟩
 have ws:∀(k:Nat) (hk:k<s.length),V8 s[k]:=fun k hk=>hw _ (List.getElem_mem hk)
 refine TT.sat_loop (fun v=>∃i:Nat,v.i 0=i∧i≤s.length∧∀(k:Nat) (hk:k<s.length),k<i→z5 s s[k]=false) (fun v=>s.length-(v.i 0).toNat)
  ⟨0,by simp [j7,i8,E.ev],by omega,fun k hk h=>by omega⟩ (fun v hv=> ?_)
 obtain⟨i,i0,i1,i2⟩:=hv
 simp only[g8,Nat.reduceBEq,Nat.reduceLT,Nat.reduceSub,i0,e0]
 refine⟨fun hc=>⟨by omega,by omega,?_⟩,fun hc=> ?_⟩
 ·have hi:i<s.length:=by omega
  refine TT.sat_loop (fun t=>∃k:Nat,t.i 0=k∧k≤s.length∧∀(n:Nat) (hn:n<s.length),n<k→V3 s[n] s[i]=false) (fun t=>s.length-(t.i 0).toNat)
   ⟨0,by simp [j7,i8,E.ev],by omega,fun n hn h=>by omega⟩ (fun t ht=> ?_)
  obtain⟨k,k0,k1,k2⟩:=ht
  simp only[g8,Nat.reduceBEq,Nat.reduceLT,Nat.reduceSub,i0,k0,e0,b9Z,b9H,b9d]
  refine⟨fun hk=> ?_,fun hk=> ?_⟩
  ·have hk':k<s.length:=by omega
   simp only[j8 hk',j8 hi]
   have E1:= @d1a s[k] s[i]
   have hw1:IntKind.i64.wrap ((k:Int)+1)=(k:Int)+1:=f8 _ (by omega) (by omega)
   simp only[hw1]
   have NK:V3 s[k] s[i]=false→(∃q:Nat,(k:Int)+1=q∧q≤s.length∧∀(n:Nat) (hn:n<s.length),n<q→V3 s[n] s[i]=false)∧s.length-((k:Int)+1).toNat<s.length-(k:Int).toNat:=fun h=>
    ⟨⟨k+1,rfl,by omega,fun n hn hnk=>by
      by_cases e:n=k
      ·subst e;exact h
      ·exact k2 n hn (by omega)⟩,by omega⟩
   refine⟨by omega,by omega,fun c1=>⟨fun c2=>⟨fun h=>⟨fun e=>by omega,fun _=>b4D e0 hok ws i0 hi i2 (a7O hk' ((E1 h).1 (.inl (G5.mp c2))))⟩,fun h=>NK ((E1 h).1 (.inl (G5.mp c2)))⟩,fun c2=>NK ((E1 rfl).2 ?_)⟩,fun c1=>⟨fun c3=>⟨fun c4=>⟨fun h=>⟨fun e=>by omega,fun _=>b4D e0 hok ws i0 hi i2 (a7O hk' ((E1 h).1 (.inr ⟨?_,G5.mp c4⟩)))⟩,fun h=>NK ((E1 h).1 (.inr ⟨?_,G5.mp c4⟩))⟩,fun c4=>NK ((E1 rfl).2 ?_)⟩,fun c3=>NK ((E1 rfl).2 ?_)⟩⟩
   ·have g1:=J5 (a:=cI s[k] 6) (b:=cI s[i] 6)
    have g2:=G5 (a:=cI s[k] 6) (b:=cI s[i] 6)
    omega
   ·have g1:=J5 (a:=cI s[k] 6) (b:=cI s[i] 6)
    omega
   ·have g1:=J5 (a:=cI s[k] 6) (b:=cI s[i] 6)
    omega
   ·have g1:=J5 (a:=cI s[k] 6) (b:=cI s[i] 6)
    have g2:=G5 (a:=cI s[k] 0) (b:=cI s[i] 0)
    omega
   ·have g1:=J5 (a:=cI s[k] 6) (b:=cI s[i] 6)
    have g2:=J5 (a:=cI s[k] 0) (b:=cI s[i] 0)
    omega
  ·have hk':k=s.length:=by omega
   have hno:z5 s s[i]=false:=b0P (fun n hn=>k2 n hn (by omega))
   rw[f8 ((i:Int)+1) (by omega) (by omega)]
   exact⟨⟨i+1,rfl,by omega,fun n hn hni=>by
    by_cases e:n=i
    ·subst e;exact hno
    ·exact i2 n hn (by omega)⟩,by omega⟩
 ·have hi:i=s.length:=by omega
  have hall:j5 s=s:=a9j (fun k hk=>by rw[i2 k hk (by omega)];rfl)
  refine⟨.own 1 (.lit 0),.var 0,by kernel_rfl,?_,fun σ u hw hu=>⟨u,hu,rfl⟩⟩
  rw[hR,hall]
  simp [X.ev,B6,J8,e0]
end Go.Proofs.YtldbejmgalhdaaaGreat
