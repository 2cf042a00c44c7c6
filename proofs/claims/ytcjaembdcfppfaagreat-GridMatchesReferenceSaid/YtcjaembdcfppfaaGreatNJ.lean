/- NJ, merged: J1, TJ8, J8, TI9, I9. -/
import Derived.Test.YtcjaembdcfppfaaGreatNM
import Derived.Test.YtcjaembdcfppfaaGreatMT
set_option linter.unusedSimpArgs false
set_option linter.unusedVariables false
namespace Go.Proofs.YtcjaembdcfppfaaGreat
open Go.RowKit
section
variable {x y s:Int}
theorem a7P(h:o8 x (x+s) y (y+s)=true):∀k:Nat,k<(u5 x y s).length→f9 (lg (u5 x y s) k 0) (lg (u5 x y s) k 1)=true:=fun k hk=>by
 have hk:k<4:=hk
 unfold o8 at h
 have h:=of_decide_eq_true h
 have:k=0∨k=1∨k=2∨k=3:=by omega
 rcases this with rfl | rfl | rfl | rfl
 ·show f9 x y=true
  unfold f9;exact decide_eq_true (by omega)
 ·show f9 (x+s) y=true
  unfold f9;exact decide_eq_true (by omega)
 ·show f9 (x+s) (y+s)=true
  unfold f9;exact decide_eq_true (by omega)
 ·show f9 x (y+s)=true
  unfold f9;exact decide_eq_true (by omega)
theorem c3Q{s:Int}(hs:1≤s):0<s*s:=Int.mul_pos (by omega) (by omega)
theorem c2t(h:o8 x (x+s) y (y+s)=true)(hs:1≤s):V7 (u5 x y s) 4 0=true:=by
 have hp:=c3Q hs
 refine(a0V 4 0).2 fun k _ hk=> ?_
 have hk:k<(u5 x y s).length:=hk
 refine(a1E (a7P h) hk).2 ?_
 have hk:k<4:=hk
 have ne:∀a b c d e f:Int,a8 a b c d e f=s*s→z6 a b c d e f≠0:=fun a b c d e f q=>by
  unfold z6
  rw[q,Ne,b2M]
  omega
 have:k=0∨k=1∨k=2∨k=3:=by omega
 rcases this with rfl | rfl | rfl | rfl
 ·exact⟨fun q=>by omega,ne x (y+s) x y (x+s) y (by unfold a8;grind)⟩
 ·refine⟨fun _=> ?_,ne x y (x+s) y (x+s) (y+s) (by unfold a8;grind)⟩
  show Q8 x y (x+s) y=true
  unfold Q8;exact decide_eq_true (by omega)
 ·refine⟨fun _=> ?_,ne (x+s) y (x+s) (y+s) x (y+s) (by unfold a8;grind)⟩
  show Q8 x y (x+s) (y+s)=true
  unfold Q8;exact decide_eq_true (by omega)
 ·refine⟨fun _=> ?_,ne (x+s) (y+s) x (y+s) x y (by unfold a8;grind)⟩
  show Q8 x y x (y+s)=true
  unfold Q8;exact decide_eq_true (by omega)
theorem c3h{a b c d e f g h:Int}(h1:b<f)(h2:b<h)(h3:d<f)(h4:d<h):n9 a b c d e f g h=false:=by
 rw[Bool.eq_false_iff,Ne,V0]
 rintro⟨k,u,v,hk,q1,q2⟩
 have p1:=a0U (I7 q1) (M:=max b d) (by omega) (by omega)
 have p2:=a1b (I7 q2) (M:=min f h) (by omega) (by omega)
 have:k*(max b d)<k*(min f h):=Int.mul_lt_mul_of_pos_left (by omega) hk
 omega
theorem c3n{a b c d e f g h:Int}(h1:e<a)(h2:g<a)(h3:e<c)(h4:g<c):n9 a b c d e f g h=false:=by
 rw[Bool.eq_false_iff,Ne,V0]
 rintro⟨k,u,v,hk,q1,q2⟩
 have p1:=a1b q1 (M:=min a c) (by omega) (by omega)
 have p2:=a0U q2 (M:=max e g) (by omega) (by omega)
 have:k*(max e g)<k*(min a c):=Int.mul_lt_mul_of_pos_left (by omega) hk
 omega
theorem a6U{a b c d e f g h:Int}(q:n9 a b c d e f g h=false):T5 [.i a,.i b,.i c,.i d,.i e,.i f,.i g,.i h]=false:=by
 have:T5 [.i a,.i b,.i c,.i d,.i e,.i f,.i g,.i h]=(D9 [.i a,.i b,.i c,.i d,.i e,.i f,.i g,.i h]&&n9 a b c d e f g h):=rfl
 rw[this,q,Bool.and_false]
theorem b5o(hs:1≤s):t9 (u5 x y s) 4 0=true:=by
 have e1:∀i k,(k≤i+1∨(i=0∧k+1=4))→A3 (u5 x y s) i k=true:=fun i k q=>by
  unfold A3
  have q:k≤i+1∨(i=0∧k+1=(u5 x y s).length):=q
  rw[decide_eq_true q,Bool.true_or]
 have m1:a2d (u5 x y s) 0 2=false:=by
  show T5 [.i x,.i y,.i (x+s),.i y,.i (x+s),.i (y+s),.i x,.i (y+s)]=false
  exact a6U (c3h (by omega) (by omega) (by omega) (by omega))
 have m2:a2d (u5 x y s) 1 3=false:=by
  show T5 [.i (x+s),.i y,.i (x+s),.i (y+s),.i x,.i (y+s),.i x,.i y]=false
  exact a6U (c3n (by omega) (by omega) (by omega) (by omega))
 have e2:A3 (u5 x y s) 0 2=true:=by unfold A3;rw[m1];simp
 have e3:A3 (u5 x y s) 1 3=true:=by unfold A3;rw[m2];simp
 have el:(u5 x y s).length=4:=rfl
 simp only[t9,S7,el]
 simp only[e2,e3,e1 0 0 (by omega),e1 0 1 (by omega),e1 0 3 (by omega),e1 1 0 (by omega),e1 1 1 (by omega),e1 1 2 (by omega),e1 2 0 (by omega),e1 2 1 (by omega),e1 2 2 (by omega),e1 2 3 (by omega),e1 3 0 (by omega),e1 3 1 (by omega),e1 3 2 (by omega),e1 3 3 (by omega),Bool.and_self,Nat.zero_add]
theorem b7z(h:o8 x (x+s) y (y+s)=true)(hs:1≤s):E8 (u5 x y s) 4 0 0=2*(s*s):=by
 unfold o8 at h
 have h:=of_decide_eq_true h
 have bd:∀a b:Int,-1000000≤a→a≤1000000→ -1000000≤b→b≤1000000→ -1000000000000≤a*b∧a*b≤1000000000000:=fun a b h1 h2 h3 h4=>by
  have:=N8 (A:=1000000) (B:=1000000) h1 h2 h3 h4
  omega
 have b1:=bd x y (by omega) (by omega) (by omega) (by omega)
 have b2:=bd (x+s) y (by omega) (by omega) (by omega) (by omega)
 have b3:=bd (x+s) (y+s) (by omega) (by omega) (by omega) (by omega)
 have b4:=bd x (y+s) (by omega) (by omega) (by omega) (by omega)
 have c1:y*(x+s)=(x+s)*y:=Int.mul_comm _ _
 have c2:y*x=x*y:=Int.mul_comm _ _
 have c3:(y+s)*x=x*(y+s):=Int.mul_comm _ _
 have c4:(y+s)*(x+s)=(x+s)*(y+s):=Int.mul_comm _ _
 show IntKind.i64.wrap (IntKind.i64.wrap (IntKind.i64.wrap (IntKind.i64.wrap (0+IntKind.i64.wrap (IntKind.i64.wrap (x*y)-IntKind.i64.wrap (y*(x+s))))+IntKind.i64.wrap (IntKind.i64.wrap ((x+s)*(y+s))-IntKind.i64.wrap (y*(x+s))))+IntKind.i64.wrap (IntKind.i64.wrap ((x+s)*(y+s))-IntKind.i64.wrap ((y+s)*x)))+IntKind.i64.wrap (IntKind.i64.wrap (x*y)-IntKind.i64.wrap ((y+s)*x)))=2*(s*s)
 rw[c1,c3]
 have r1:(x+s)*(y+s)=x*y+x*s+s*y+s*s:=by grind
 have r2:(x+s)*y=x*y+s*y:=by grind
 have r3:x*(y+s)=x*y+x*s:=by grind
 rw[b8 (x*y) (by omega) (by omega),b8 ((x+s)*y) (by omega) (by omega),b8 ((x+s)*(y+s)) (by omega) (by omega),b8 (x*(y+s)) (by omega) (by omega)]
 rw[b8 (x*y-(x+s)*y) (by omega) (by omega),b8 ((x+s)*(y+s)-(x+s)*y) (by omega) (by omega),b8 ((x+s)*(y+s)-x*(y+s)) (by omega) (by omega),b8 (x*y-x*(y+s)) (by omega) (by omega)]
 rw[b8 (0+(x*y-(x+s)*y)) (by omega) (by omega),b8 (0+(x*y-(x+s)*y)+((x+s)*(y+s)-(x+s)*y)) (by omega) (by omega),b8 (0+(x*y-(x+s)*y)+((x+s)*(y+s)-(x+s)*y)+((x+s)*(y+s)-x*(y+s))) (by omega) (by omega),b8 _ (by omega) (by omega)]
 omega
theorem c3g(h:o8 x (x+s) y (y+s)=true)(hs:1≤s):j6 (u5 x y s)=true:=by
 have el:(u5 x y s).length=4:=rfl
 unfold j6
 rw[el,c2t h hs,b5o hs,b7z h hs,(a6p 4 0).2 (fun k _ hk=>a7P h k (by rw[el];omega))]
 have:=c3Q hs
 rw[decide_eq_true (by omega:0<2*(s*s))]
 rfl
end
end Go.Proofs.YtcjaembdcfppfaaGreat
namespace Go.Proofs.YtcjaembdcfppfaaGreat
open Go.RowKit
def a5C:TT j4:=
(.ite (.cmp .geq (.var 0) (.lit (-1000000)))
 (.ite (.cmp .leq (.var 0) (.lit 1000000))
 (.ite (.cmp .geq (.var 1) (.lit (-1000000)))
 (.ite (.not (.cmp .leq (.var 1) (.lit 1000000)))
 (.ret ((.v (.one (.z (.bool (.lit false))))),[],3))
 (.ite (.cmp .lss (.var 2) (.lit 1))
 (.ret ((.v (.one (.z (.bool (.lit false))))),[],3))
 (.ite (.cmp .gtr (.var 2) (.lit 100000))
 (.ret ((.v (.one (.z (.bool (.lit false))))),[],3))
 (.ite (.cmp .lss (.var 3) (.lit 1))
 (.ret ((.v (.one (.z (.bool (.lit false))))),[],3))
 (.ite (.cmp .gtr (.var 3) (.lit 64))
 (.ret ((.v (.one (.z (.bool (.lit false))))),[],3))
 (.ite (.cmp .lss (.var 4) (.lit 1))
 (.ret ((.v (.one (.z (.bool (.lit false))))),[],3))
 (.ite (.cmp .gtr (.var 4) (.lit 64))
 (.ret ((.v (.one (.z (.bool (.lit false))))),[],3))
 (.ite (.cmp .leq (.ar .add .i64 (.var 0) (.ar .mul .i64 (.var 2) (.var 3))) (.lit 1000000))
 (.ite (.not (.cmp .leq (.ar .add .i64 (.var 1) (.ar .mul .i64 (.var 2) (.var 4))) (.lit 1000000)))
 (.ret ((.v (.one (.z (.bool (.lit false))))),[],3))
 (.ite (.cmp .neq (.len (.var 5)) (.ar .mul .i64 (.var 3) (.var 4)))
 (.ret ((.v (.one (.z (.bool (.lit false))))),[],3))
 (.loop 0 4000 ⟨[(0,(.lit 0))],[],[]⟩
 (.ite (.cmp .lss (.var 4000) (.len (.var 5)))
 (.ob (.tru (.cmp .leq (.lit 0) (.var 4000)))
 (.ob (.tru (.cmp .lss (.var 4000) (.len (.var 5))))
 (.ite (.cmp .lss (.rd (.var 5) (.var 4000) 0) (.lit 0))
 (.ret ((.v (.one (.z (.bool (.lit false))))),[],4))
 (.ob (.tru (.cmp .leq (.lit 0) (.var 4000)))
 (.ob (.tru (.cmp .lss (.var 4000) (.len (.var 5))))
 (.ite (.cmp .gtr (.rd (.var 5) (.var 4000) 0) (.lit 100000))
 (.ret ((.v (.one (.z (.bool (.lit false))))),[],4))
 (.next 0 ⟨[(0,(.ar .add .i64 (.var 4000) (.lit 1)))],[],[]⟩)))))))
 (.ret ((.v (.one (.z (.bool (.lit true))))),[],4))))))
 (.ret ((.v (.one (.z (.bool (.lit false))))),[],3))))))))))
 (.ret ((.v (.one (.z (.bool (.lit false))))),[],3)))
 (.ret ((.v (.one (.z (.bool (.lit false))))),[],3)))
 (.ret ((.v (.one (.z (.bool (.lit false))))),[],3)))
def b5T:List (Nat×St):=[
(3,⟨(List.append [(.v (.agg [(.z (.int .i64 (.var 0))),(.z (.int .i64 (.var 1))),(.z (.int .i64 (.var 2))),(.z (.int .i64 (.var 3))),(.z (.int .i64 (.var 4))),(.z (.ext [(.int .i64)] (.var 5) false))])),(.v (.one (.z (.ptr 0 0)))),(.v (.one (.z (.bool (.lit false))))),(.v (.one (.z (.bool (.cmp .leq (.ar .add .i64 (.var 1) (.ar .mul .i64 (.var 2) (.var 4))) (.lit 1000000)))))),(.v (.one (.z (.int .i64 (.var 4000))))),(.v (.one (.z (.ptr 0 0)))),(.v (.agg [(.z (.int .i64 (.var 0))),(.z (.int .i64 (.var 1)))])),(.v (.one (.z (.ptr 0 2)))),(.v (.one (.z (.int .i64 (.var 2))))),(.v (.one (.z (.ptr 0 3)))),(.v (.one (.z (.int .i64 (.var 3))))),(.v (.one (.z (.ptr 0 4)))),(.v (.one (.z (.int .i64 (.var 4))))),(.v (.one (.z (.bool (.cmp .leq (.ar .add .i64 (.var 1) (.ar .mul .i64 (.var 2) (.var 4))) (.lit 1000000)))))),(.v (.one (.z (.bool (.cmp .leq (.ar .add .i64 (.var 1) (.ar .mul .i64 (.var 2) (.var 4))) (.lit 1000000)))))),(.v (.one (.z (.bool (.not (.cmp .leq (.ar .add .i64 (.var 1) (.ar .mul .i64 (.var 2) (.var 4))) (.lit 1000000))))))),(.v (.one (.z (.bool (.lit false))))),(.v (.one (.z (.ptr 0 5)))),(.v (.one (.z (.ext [(.int .i64)] (.var 5) false)))),(.v (.one (.z (.int .i64 (.len (.var 5)))))),(.v (.one (.z (.ptr 0 3)))),(.v (.one (.z (.int .i64 (.var 3))))),(.v (.one (.z (.ptr 0 4)))),(.v (.one (.z (.int .i64 (.var 4))))),(.v (.one (.z (.int .i64 (.ar .mul .i64 (.var 3) (.var 4)))))),(.v (.one (.z (.bool (.cmp .neq (.len (.var 5)) (.ar .mul .i64 (.var 3) (.var 4))))))),(.v (.one (.z (.bool (.cmp .neq (.len (.var 5)) (.ar .mul .i64 (.var 3) (.var 4)))))))] (List.replicate 21 V.any)),[(0,(.cells 27 [(.z (.int .i64 (.var 0))),(.z (.int .i64 (.var 1))),(.z (.int .i64 (.var 2))),(.z (.int .i64 (.var 3))),(.z (.int .i64 (.var 4))),(.z (.ext [(.int .i64)] (.var 5) false))]))],4,[]⟩)]
def b5u:List (FuncId×Nat×Nat×St):=[
]
set_option maxRecDepth 100000 in
theorem b4O:T.norm 0 (call Tryz.prog c4K ⟨Lt.un (Lt.of []),b5T,b5u⟩ 200 9 (g7 0 [l8]) [] 0) TT.ret=a5C:=by kernel_rfl
theorem b1D:a5C.low 1000=true:=by kernel_rfl
theorem c5q:m8 Tryz.prog 9 [l8] (fun ds=> .bool (Z3 ds)):=by
 refine GivesIf.all (i7 B9 (by kernel_rfl) (fun ρ h=>b6d (Sees.of h 200) (SeesD.of h 7)) (by kernel_rfl) b4O b1D (by decide) (fun W vals ds hr _=> ?_))
 have hlen:=(N9 (C3 hr) (j:=5) rfl).1
 have e:Z3 ds=F5 (a7 ds 0) (a7 ds 1) (a7 ds 2) (a7 ds 3) (a7 ds 4) (b9 ds 5):=rfl
 simp only[a5C,g9,Nat.reduceBEq,Nat.reduceLT,Nat.reduceSub]
 rw[e]
 clear hr e
 generalize e0:a7 ds 0=x at*
 generalize e1:a7 ds 1=y at*
 generalize e2:a7 ds 2=s at*
 generalize e3:a7 ds 3=w at*
 generalize e4:a7 ds 4=h at*
 generalize e5:b9 ds 5=r at*
 have N:¬s8 x y s w h→Value.bool false=Value.bool (F5 x y s w h r):=fun q=>by unfold F5;rw[decide_eq_false q,Bool.false_and]
 have NL:(r.length:Int)≠w*h→Value.bool false=Value.bool (F5 x y s w h r):=fun q=>by unfold F5;rw[decide_eq_false q,Bool.false_and,Bool.and_false]
 refine⟨fun q1=>⟨fun q2=>⟨fun q3=>⟨fun q=>N (fun k=> ?_),fun q4=>⟨fun q=>N (fun k=>by unfold s8 at k;omega),fun q5=>⟨fun q=>N (fun k=>by unfold s8 at k;omega),fun q6=>⟨fun q=>N (fun k=>by unfold s8 at k;omega),fun q7=>⟨fun q=>N (fun k=>by unfold s8 at k;omega),fun q8=>⟨fun q=>N (fun k=>by unfold s8 at k;omega),fun q9=>⟨fun q=>N (fun k=>by unfold s8 at k;omega),fun q10=> ?_⟩⟩⟩⟩⟩⟩⟩,fun q=>N (fun k=> ?_)⟩,fun q=>N (fun k=> ?_)⟩,fun q=>N (fun k=> ?_)⟩
 ·unfold s8 at k
  have p2:=o5 (a:=h) (b:=s) (m:=64) (n:=100000) (by omega) (by omega) (by omega) (by omega)
  omega
 ·have p1:=o5 (a:=w) (b:=s) (m:=64) (n:=100000) (by omega) (by omega) (by omega) (by omega)
  have p2:=o5 (a:=h) (b:=s) (m:=64) (n:=100000) (by omega) (by omega) (by omega) (by omega)
  have p3:=o5 (a:=w) (b:=h) (m:=64) (n:=64) (by omega) (by omega) (by omega) (by omega)
  rw[Int.mul_comm s w,Int.mul_comm s h,b8 (w*s) (by omega) (by omega),b8 (h*s) (by omega) (by omega),b8 (x+w*s) (by omega) (by omega),b8 (y+h*s) (by omega) (by omega),b8 (w*h) (by omega) (by omega)]
  refine⟨fun g1=>⟨fun g=>N (fun k=>by unfold s8 at k;omega),fun g2=>⟨fun g=>NL g,fun g3=> ?_⟩⟩,fun g=>N (fun k=>by unfold s8 at k;omega)⟩
  have hf:s8 x y s w h:=by unfold s8;omega
  refine TT.sat_loop (fun v=>∃i:Nat,v.i 0=i∧i≤r.length∧∀k (hk:k<r.length),k<i→0≤cI r[k] 0∧cI r[k] 0≤100000) (fun v=>r.length-(v.i 0).toNat)
   ⟨0,by simp [j5,i8,E.ev],by omega,fun k hk h=>by omega⟩ (fun v hv=> ?_)
  obtain⟨i,i0,i1,i2⟩:=hv
  simp only[g9,Nat.reduceBEq,Nat.reduceLT,Nat.reduceSub,i0,e5]
  refine⟨fun hc=> ?_,fun hc=> ?_⟩
  ·have hi:i<r.length:=by omega
   have NO:¬(0≤cI r[i] 0∧cI r[i] 0≤100000)→Value.bool false=Value.bool (F5 x y s w h r):=fun k=>by
    unfold F5
    have:(r.all fun q=>decide (0≤cI q 0∧cI q 0≤100000))=false:=by
     rw[List.all_eq_false]
     exact⟨_,List.getElem_mem hi,by simp only[decide_eq_true_eq];exact k⟩
    rw[this,Bool.and_false,Bool.and_false]
   have ew:IntKind.i64.wrap ((i:Int)+1)=((i+1:Nat):Int):=by rw[b8 _ (by omega) (by omega)];omega
   rw[ew]
   simp only[a8G hi]
   refine⟨by omega,by omega,fun q=>NO (by omega),fun q=>⟨by omega,by omega,fun q'=>NO (by omega),fun q'=>⟨⟨i+1,rfl,by omega,fun k hk hki=> ?_⟩,by rw[Int.toNat_natCast,Int.toNat_natCast];omega⟩⟩⟩
   by_cases e:k=i
   ·subst e;omega
   ·exact i2 k hk (by omega)
  ·have:F5 x y s w h r=true:=by
    unfold F5
    rw[decide_eq_true hf,decide_eq_true (by omega),Bool.true_and,Bool.true_and,List.all_eq_true]
    intro q hq
    obtain⟨k,hk,rfl⟩:=List.getElem_of_mem hq
    exact decide_eq_true (i2 k hk (by omega))
   rw[this]
 ·unfold s8 at k
  have p2:=o5 (a:=h) (b:=s) (m:=64) (n:=100000) (by omega) (by omega) (by omega) (by omega)
  omega
 ·unfold s8 at k
  have p1:=o5 (a:=w) (b:=s) (m:=64) (n:=100000) (by omega) (by omega) (by omega) (by omega)
  omega
 ·unfold s8 at k
  have p1:=o5 (a:=w) (b:=s) (m:=64) (n:=100000) (by omega) (by omega) (by omega) (by omega)
  omega
def b3L:=u7 [l8] fun al=> .ret (bV (bF 150 Z3 al))
theorem b4Z{ρ:Env}(h:Sees ρ B9 200):i9 Tryz.prog ρ 9 b3L:=
 j7 c5q (fun _=>rfl) (fun al=>by simp only[iV,bV,V.s0,V.val,V2.val,S.val,S0.val,m9 (s:=150) (f:=Z3) (fun l=>by rw[(h 150 l (by decide)).2];simp only[B9,y6,B4,B3])])
def c5C:Ct:=(9,b3L)::c4K
theorem b6i{ρ:Env}(h:Sees ρ B9 200)(hd:SeesD ρ B9 7):CtOk Tryz.prog ρ c5C:= .cons (b4Z h) (b6d h hd)
def a9O:TT j4:=
(.ite (.cmp .geq (.var 6) (.var 3))
 (.ob (.tru (.lit true))
 (.ob (.tru (.cmp .neq (.var 3) (.lit 0)))
 (.ite (.cmp .gtr (.ar .rem .i64 (.var 6) (.var 3)) (.lit 0))
 (.ob (.tru (.lit true))
 (.ob (.tru (.cmp .neq (.var 3) (.lit 0)))
 (.ite (.cmp .lss (.ar .rem .i64 (.var 6) (.var 3)) (.ar .sub .i64 (.var 3) (.lit 1)))
 (.ob (.tru (.lit true))
 (.ite (.cmp .lss (.ar .add .i64 (.var 6) (.var 3)) (.len (.var 5)))
 (.ob (.tru (.lit true))
 (.ret ((.v (.one (.z (.own 2 (.lit 3))))),[(2,(.own 3 [(.int .i64)] (.app (.app (.app (.app (.row (.i (.ar .sub .i64 (.var 6) (.var 3)) .nil)) .nil) (.app (.row (.i (.ar .sub .i64 (.var 6) (.lit 1)) .nil)) .nil)) (.app (.row (.i (.ar .add .i64 (.var 6) (.lit 1)) .nil)) .nil)) (.app (.row (.i (.ar .add .i64 (.var 6) (.var 3)) .nil)) .nil)) (.lit 3))),(2,(.own 3 [(.int .i64)] (.app (.app (.app (.row (.i (.ar .sub .i64 (.var 6) (.var 3)) .nil)) .nil) (.app (.row (.i (.ar .sub .i64 (.var 6) (.lit 1)) .nil)) .nil)) (.app (.row (.i (.ar .add .i64 (.var 6) (.lit 1)) .nil)) .nil)) (.lit 2))),(2,(.own 3 [(.int .i64)] (.app (.app (.row (.i (.ar .sub .i64 (.var 6) (.var 3)) .nil)) .nil) (.app (.row (.i (.ar .sub .i64 (.var 6) (.lit 1)) .nil)) .nil)) (.lit 1))),(2,(.own 3 [(.int .i64)] (.app (.row (.i (.ar .sub .i64 (.var 6) (.var 3)) .nil)) .nil) (.lit 0)))],6)))
 (.ret ((.v (.one (.z (.own 2 (.lit 2))))),[(2,(.own 3 [(.int .i64)] (.app (.app (.app (.row (.i (.ar .sub .i64 (.var 6) (.var 3)) .nil)) .nil) (.app (.row (.i (.ar .sub .i64 (.var 6) (.lit 1)) .nil)) .nil)) (.app (.row (.i (.ar .add .i64 (.var 6) (.lit 1)) .nil)) .nil)) (.lit 2))),(2,(.own 3 [(.int .i64)] (.app (.app (.row (.i (.ar .sub .i64 (.var 6) (.var 3)) .nil)) .nil) (.app (.row (.i (.ar .sub .i64 (.var 6) (.lit 1)) .nil)) .nil)) (.lit 1))),(2,(.own 3 [(.int .i64)] (.app (.row (.i (.ar .sub .i64 (.var 6) (.var 3)) .nil)) .nil) (.lit 0)))],5))))
 (.ite (.cmp .lss (.ar .add .i64 (.var 6) (.var 3)) (.len (.var 5)))
 (.ob (.tru (.lit true))
 (.ret ((.v (.one (.z (.own 2 (.lit 2))))),[(2,(.own 3 [(.int .i64)] (.app (.app (.app (.row (.i (.ar .sub .i64 (.var 6) (.var 3)) .nil)) .nil) (.app (.row (.i (.ar .sub .i64 (.var 6) (.lit 1)) .nil)) .nil)) (.app (.row (.i (.ar .add .i64 (.var 6) (.var 3)) .nil)) .nil)) (.lit 2))),(2,(.own 3 [(.int .i64)] (.app (.app (.row (.i (.ar .sub .i64 (.var 6) (.var 3)) .nil)) .nil) (.app (.row (.i (.ar .sub .i64 (.var 6) (.lit 1)) .nil)) .nil)) (.lit 1))),(2,(.own 3 [(.int .i64)] (.app (.row (.i (.ar .sub .i64 (.var 6) (.var 3)) .nil)) .nil) (.lit 0)))],5)))
 (.ret ((.v (.one (.z (.own 2 (.lit 1))))),[(2,(.own 3 [(.int .i64)] (.app (.app (.row (.i (.ar .sub .i64 (.var 6) (.var 3)) .nil)) .nil) (.app (.row (.i (.ar .sub .i64 (.var 6) (.lit 1)) .nil)) .nil)) (.lit 1))),(2,(.own 3 [(.int .i64)] (.app (.row (.i (.ar .sub .i64 (.var 6) (.var 3)) .nil)) .nil) (.lit 0)))],4))))))
 (.ob (.tru (.cmp .neq (.var 3) (.lit 0)))
 (.ite (.cmp .lss (.ar .rem .i64 (.var 6) (.var 3)) (.ar .sub .i64 (.var 3) (.lit 1)))
 (.ob (.tru (.lit true))
 (.ite (.cmp .lss (.ar .add .i64 (.var 6) (.var 3)) (.len (.var 5)))
 (.ob (.tru (.lit true))
 (.ret ((.v (.one (.z (.own 2 (.lit 2))))),[(2,(.own 3 [(.int .i64)] (.app (.app (.app (.row (.i (.ar .sub .i64 (.var 6) (.var 3)) .nil)) .nil) (.app (.row (.i (.ar .add .i64 (.var 6) (.lit 1)) .nil)) .nil)) (.app (.row (.i (.ar .add .i64 (.var 6) (.var 3)) .nil)) .nil)) (.lit 2))),(2,(.own 3 [(.int .i64)] (.app (.app (.row (.i (.ar .sub .i64 (.var 6) (.var 3)) .nil)) .nil) (.app (.row (.i (.ar .add .i64 (.var 6) (.lit 1)) .nil)) .nil)) (.lit 1))),(2,(.own 3 [(.int .i64)] (.app (.row (.i (.ar .sub .i64 (.var 6) (.var 3)) .nil)) .nil) (.lit 0)))],5)))
 (.ret ((.v (.one (.z (.own 2 (.lit 1))))),[(2,(.own 3 [(.int .i64)] (.app (.app (.row (.i (.ar .sub .i64 (.var 6) (.var 3)) .nil)) .nil) (.app (.row (.i (.ar .add .i64 (.var 6) (.lit 1)) .nil)) .nil)) (.lit 1))),(2,(.own 3 [(.int .i64)] (.app (.row (.i (.ar .sub .i64 (.var 6) (.var 3)) .nil)) .nil) (.lit 0)))],4))))
 (.ite (.cmp .lss (.ar .add .i64 (.var 6) (.var 3)) (.len (.var 5)))
 (.ob (.tru (.lit true))
 (.ret ((.v (.one (.z (.own 2 (.lit 1))))),[(2,(.own 3 [(.int .i64)] (.app (.app (.row (.i (.ar .sub .i64 (.var 6) (.var 3)) .nil)) .nil) (.app (.row (.i (.ar .add .i64 (.var 6) (.var 3)) .nil)) .nil)) (.lit 1))),(2,(.own 3 [(.int .i64)] (.app (.row (.i (.ar .sub .i64 (.var 6) (.var 3)) .nil)) .nil) (.lit 0)))],4)))
 (.ret ((.v (.one (.z (.own 2 (.lit 0))))),[(2,(.own 3 [(.int .i64)] (.app (.row (.i (.ar .sub .i64 (.var 6) (.var 3)) .nil)) .nil) (.lit 0)))],3))))))))
 (.ob (.tru (.cmp .neq (.var 3) (.lit 0)))
 (.ite (.cmp .gtr (.ar .rem .i64 (.var 6) (.var 3)) (.lit 0))
 (.ob (.tru (.lit true))
 (.ob (.tru (.cmp .neq (.var 3) (.lit 0)))
 (.ite (.cmp .lss (.ar .rem .i64 (.var 6) (.var 3)) (.ar .sub .i64 (.var 3) (.lit 1)))
 (.ob (.tru (.lit true))
 (.ite (.cmp .lss (.ar .add .i64 (.var 6) (.var 3)) (.len (.var 5)))
 (.ob (.tru (.lit true))
 (.ret ((.v (.one (.z (.own 2 (.lit 2))))),[(2,(.own 3 [(.int .i64)] (.app (.app (.app (.row (.i (.ar .sub .i64 (.var 6) (.lit 1)) .nil)) .nil) (.app (.row (.i (.ar .add .i64 (.var 6) (.lit 1)) .nil)) .nil)) (.app (.row (.i (.ar .add .i64 (.var 6) (.var 3)) .nil)) .nil)) (.lit 2))),(2,(.own 3 [(.int .i64)] (.app (.app (.row (.i (.ar .sub .i64 (.var 6) (.lit 1)) .nil)) .nil) (.app (.row (.i (.ar .add .i64 (.var 6) (.lit 1)) .nil)) .nil)) (.lit 1))),(2,(.own 3 [(.int .i64)] (.app (.row (.i (.ar .sub .i64 (.var 6) (.lit 1)) .nil)) .nil) (.lit 0)))],5)))
 (.ret ((.v (.one (.z (.own 2 (.lit 1))))),[(2,(.own 3 [(.int .i64)] (.app (.app (.row (.i (.ar .sub .i64 (.var 6) (.lit 1)) .nil)) .nil) (.app (.row (.i (.ar .add .i64 (.var 6) (.lit 1)) .nil)) .nil)) (.lit 1))),(2,(.own 3 [(.int .i64)] (.app (.row (.i (.ar .sub .i64 (.var 6) (.lit 1)) .nil)) .nil) (.lit 0)))],4))))
 (.ite (.cmp .lss (.ar .add .i64 (.var 6) (.var 3)) (.len (.var 5)))
 (.ob (.tru (.lit true))
 (.ret ((.v (.one (.z (.own 2 (.lit 1))))),[(2,(.own 3 [(.int .i64)] (.app (.app (.row (.i (.ar .sub .i64 (.var 6) (.lit 1)) .nil)) .nil) (.app (.row (.i (.ar .add .i64 (.var 6) (.var 3)) .nil)) .nil)) (.lit 1))),(2,(.own 3 [(.int .i64)] (.app (.row (.i (.ar .sub .i64 (.var 6) (.lit 1)) .nil)) .nil) (.lit 0)))],4)))
 (.ret ((.v (.one (.z (.own 2 (.lit 0))))),[(2,(.own 3 [(.int .i64)] (.app (.row (.i (.ar .sub .i64 (.var 6) (.lit 1)) .nil)) .nil) (.lit 0)))],3))))))
 (.ob (.tru (.cmp .neq (.var 3) (.lit 0)))
 (.ite (.cmp .lss (.ar .rem .i64 (.var 6) (.var 3)) (.ar .sub .i64 (.var 3) (.lit 1)))
 (.ob (.tru (.lit true))
 (.ite (.cmp .lss (.ar .add .i64 (.var 6) (.var 3)) (.len (.var 5)))
 (.ob (.tru (.lit true))
 (.ret ((.v (.one (.z (.own 2 (.lit 1))))),[(2,(.own 3 [(.int .i64)] (.app (.app (.row (.i (.ar .add .i64 (.var 6) (.lit 1)) .nil)) .nil) (.app (.row (.i (.ar .add .i64 (.var 6) (.var 3)) .nil)) .nil)) (.lit 1))),(2,(.own 3 [(.int .i64)] (.app (.row (.i (.ar .add .i64 (.var 6) (.lit 1)) .nil)) .nil) (.lit 0)))],4)))
 (.ret ((.v (.one (.z (.own 2 (.lit 0))))),[(2,(.own 3 [(.int .i64)] (.app (.row (.i (.ar .add .i64 (.var 6) (.lit 1)) .nil)) .nil) (.lit 0)))],3))))
 (.ite (.cmp .lss (.ar .add .i64 (.var 6) (.var 3)) (.len (.var 5)))
 (.ob (.tru (.lit true))
 (.ret ((.v (.one (.z (.own 2 (.lit 0))))),[(2,(.own 3 [(.int .i64)] (.app (.row (.i (.ar .add .i64 (.var 6) (.var 3)) .nil)) .nil) (.lit 0)))],3)))
 (.ret ((.v (.one (.z (.const (.slice none 0 0))))),[],1))))))))
set_option maxRecDepth 100000 in
theorem b8k:T.norm 0 (call Tryz.prog c5C (Lt.of []) 200 52 (g7 0 [l8,it]) [] 0) TT.ret=a9O:=by kernel_rfl
theorem b5C:a9O.low 1000=true:=by kernel_rfl
def d5B(ds:List D):Prop:=Z3 ds=true∧0≤a7 ds 6∧a7 ds 6<((b9 ds 5).length:Nat)
def rnR(ds:List D):Rows:=g0 (k7 (Grid.near (a7 ds 3).toNat (a7 ds 4).toNat (a7 ds 6).toNat))
def N5:NL:=⟨3,[.int .i64],7,rnR⟩
theorem c9q{ws:Mem}{X:X}:A0 ((2,.own 3 [.int .i64] X (.lit 0))::ws) N5.e N5.ks (.own 2 (.lit 0))=some X:=by kernel_rfl
theorem c9v{ws:Mem}{X:X}:A0 ((2,.own 3 [.int .i64] X (.lit 1))::ws) N5.e N5.ks (.own 2 (.lit 1))=some X:=by kernel_rfl
theorem c9b{ws:Mem}{X:X}:A0 ((2,.own 3 [.int .i64] X (.lit 2))::ws) N5.e N5.ks (.own 2 (.lit 2))=some X:=by kernel_rfl
theorem c9x{ws:Mem}{X:X}:A0 ((2,.own 3 [.int .i64] X (.lit 3))::ws) N5.e N5.ks (.own 2 (.lit 3))=some X:=by kernel_rfl
theorem Y8{ρ:Env}{l:NL}{ds:List D}{w0:World}{ws:Mem}{s:S0}{x:X}(h1:A0 ws l.e l.ks s=some x)(h2:x.ev ρ=l.rows ds):
 ∃s' x',A0 ws l.e l.ks s'=some x'∧x'.ev ρ=l.rows ds∧∀(σ:As) u,ρ.w=w0→(V.v (.one (.z s))).den ρ σ u→∃v,s'.den ρ σ v∧u=v:=⟨s,x,h1,h2,fun σ u _ hu=>⟨u,hu,rfl⟩⟩
set_option maxHeartbeats 2000000 in
theorem d2x:B2 Tryz.prog 52 [l8,it] [N5] d5B (fun _ _ vs u=>∃v,vs=[v]∧u=v):=by
 refine A4 B9 (by kernel_rfl) (fun ρ h=>b6i (Sees.of h 200) (SeesD.of h 7)) (by kernel_rfl) b8k b5C (by decide) (fun w0 vals ds hr hok=> ?_)
 have hR:N5.rows ds=g0 (k7 (Grid.near (a7 ds 3).toNat (a7 ds 4).toNat (a7 ds 6).toNat)):=rfl
 obtain⟨hg,h0,h1⟩:=hok
 have hg:F5 (a7 ds 0) (a7 ds 1) (a7 ds 2) (a7 ds 3) (a7 ds 4) (b9 ds 5)=true:=hg
 obtain⟨hf,hl,hcell⟩:=z9 hg
 clear hr hg
 simp only[a9O,g9,Nat.reduceBEq,Nat.reduceLT,Nat.reduceSub]
 generalize e3:a7 ds 3=w at*
 generalize e4:a7 ds 4=h at*
 generalize e5:b9 ds 5=r at*
 generalize e6:a7 ds 6=c at*
 unfold s8 at hf
 obtain⟨⟨_,hw,hh⟩,_⟩:=hf
 obtain⟨W,rfl⟩:=Int.eq_ofNat_of_zero_le (a:=w) (by omega)
 obtain⟨H,rfl⟩:=Int.eq_ofNat_of_zero_le (a:=h) (by omega)
 obtain⟨c,rfl⟩:=Int.eq_ofNat_of_zero_le h0
 have hn:r.length=W*H:=by
  have:(r.length:Int)=((W*H:Nat):Int):=by rw[hl];simp
  omega
 have hWH:W*H≤64*64:=Nat.mul_le_mul (by omega) (by omega)
 simp only[Int.toNat_natCast] at hR
 have hW:0<W:=by omega
 have hcn:c<W*H:=by omega
 have nA:c/W=0↔¬(W:Int)≤(c:Int):=by rw[Nat.div_eq_zero_iff];omega
 have nD:c/W<H-1↔((c+W:Nat):Int)<(W*H:Nat):=by
  have e:c/W<H-1↔c/W+1<H:=by generalize c/W=q;omega
  have e2:c/W+1=(c+W)/W:=by rw[Nat.add_div_right _ hW]
  rw[e,e2,Nat.div_lt_iff_lt_mul hW,Nat.mul_comm H W]
  omega
 have tm:(c:Int).tmod (W:Int)=((c % W:Nat):Int):=rfl
 have w1:IntKind.i64.wrap ((W:Int)-1)=((W-1:Nat):Int):=by rw[b8 _ (by omega) (by omega)];omega
 have w2:IntKind.i64.wrap ((c:Int)+(W:Int))=((c+W:Nat):Int):=by rw[b8 _ (by omega) (by omega)];omega
 have w3:IntKind.i64.wrap ((c:Int)+1)=((c+1:Nat):Int):=by rw[b8 _ (by omega) (by omega)];omega
 have w4:(W:Int)≤(c:Int)→IntKind.i64.wrap ((c:Int)-(W:Int))=((c-W:Nat):Int):=fun q=>by rw[b8 _ (by omega) (by omega)];omega
 have w5:0<((c % W:Nat):Int)→IntKind.i64.wrap ((c:Int)-1)=((c-1:Nat):Int):=fun q=>by
  have:0<c:=by
   rcases Nat.eq_zero_or_pos c with k | k
   ·subst k;simp at q
   ·exact k
  rw[b8 _ (by omega) (by omega)];omega
 have md:c % W<W:=Nat.mod_lt _ hW
 have nB:c % W=0↔¬0<((c % W:Nat):Int):=by omega
 have nC:c % W=W-1↔¬((c % W:Nat):Int)<((W-1:Nat):Int):=by omega
 have near_eq:Grid.near W H c=(if (W:Int)≤(c:Int) then [c-W] else [])++(if 0<((c % W:Nat):Int) then [c-1] else [])++(if ((c % W:Nat):Int)<((W-1:Nat):Int) then [c+1] else [])++(if ((c+W:Nat):Int)<(W*H:Nat) then [c+W] else []):=by
  unfold Grid.near
  simp only[nA,nB,nC,nD,ite_not]
 rw[near_eq] at hR
 rw[tm,w1,w2,hn]
 have i6:(a9 B9 w0 ds).i 6=(c:Int):=by rw[w6];exact e6
 have i3:(a9 B9 w0 ds).i 3=(W:Int):=by rw[w6];exact e3
 clear nA nB nC nD near_eq
 by_cases a:(W:Int)≤(c:Int)<;>by_cases b:0<((c % W:Nat):Int)<;>by_cases d:((c % W:Nat):Int)<((W-1:Nat):Int)<;>by_cases e:((c+W:Nat):Int)<(W*H:Nat)<;>
  simp only[a,b,d,e,if_true,if_false,not_true_eq_false,not_false_eq_true,true_implies,false_implies,true_and,and_true,List.nil_append,List.append_nil,List.cons_append] at hR ⊢
 all_goals (try (refine⟨by omega,?_⟩))
 all_goals (try (refine⟨by omega,?_⟩))
 all_goals (first | refine Y8 c9q ?_ | refine Y8 c9v ?_ | refine Y8 c9b ?_ | refine Y8 c9x ?_ | refine Y8 (x:= .nil) rfl ?_)
 all_goals (rw[hR];simp [X.ev,AL.ev,E.ev,y9,i6,i3,w2,w3,w4,w5,a,b,k7,g0]<;>exact w5 b)
def B7:Interp where
 fi n l:=B9.fi n l
 fb n l:=B9.fb n l
 fd n l:=match n with | 7=>rnR l | n=>B9.fd n l
theorem c4X{ρ:Env}(h:SeesD ρ B7 8):SeesD ρ B9 7:=fun n l hn=>by
 rw[h n l (by omega)]
 simp only[B7]
 split<;>first | omega | rfl
theorem a9k{ρ:Env}(h:Sees ρ B7 210):Sees ρ B9 200:=h.trans (by decide) fun n l hn=>by
 refine⟨?_,?_⟩
 ·
  rfl
 ·
  rfl
def c3i(al:AL):List Ob:=match al with
 | .i x (.i y (.i s (.i w (.i h (.x r (.i c .nil))))))=>[.tru (.fn 150 (.i x (.i y (.i s (.i w (.i h (.x r .nil))))))),.tru (.cmpS .leq (.lit 0) c),.tru (.cmpS .lss c (.len r))]
 | _=>[.tru (.lit false)]
def c3k:=a7S [l8,it] N5 c3i
theorem c3A{ρ:Env}(h:Sees ρ B7 210)(hd:SeesD ρ B7 8):i9 Tryz.prog ρ 52 c3k:=by
 refine a7d d2x (by decide) (fun al ho=> ?_) (fun a=>(hd 7 a (by decide)).trans rfl)
 unfold c3i at ho
 split at ho
 ·rename_i x y s w h' r c
  have o1:=ho _ (List.mem_cons_self ..)
  have o2:=ho _ (List.mem_cons_of_mem _ (List.mem_cons_self ..))
  have o3:=ho _ (List.mem_cons_of_mem _ (List.mem_cons_of_mem _ (List.mem_cons_self ..)))
  simp only[Ob.ok,B.cmpS_ev,n8,j8,E.ev,B.ev] at o1 o2 o3
  rw[(h 150 _ (by decide)).2] at o1
  simp only[B7,B9,y6,B4,B3] at o1
  exact⟨o1,o2,o3⟩
 ·have:=ho _ (List.mem_cons_self ..)
  simp [Ob.ok,B.ev] at this
def c5V:Ct:=(52,c3k)::c5C
theorem b7f{ρ:Env}(h:Sees ρ B7 210)(hd:SeesD ρ B7 8):CtOk Tryz.prog ρ c5V:= .cons (c3A h hd) (b6i (a9k h) (c4X hd))
end Go.Proofs.YtcjaembdcfppfaaGreat
