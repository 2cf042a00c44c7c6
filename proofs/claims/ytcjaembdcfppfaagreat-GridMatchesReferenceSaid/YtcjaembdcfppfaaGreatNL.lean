/- NL, merged: TL1, L1, L2, TL4, TL3, L3, L4. -/
import Derived.Test.YtcjaembdcfppfaaGreatNJ
set_option linter.unusedSimpArgs false
set_option linter.unusedVariables false
namespace Go.Proofs.YtcjaembdcfppfaaGreat
open Go.RowKit
def a7J:TT j4:=
(.ob (.tru (.cmp .leq (.lit 0) (.len (.var 5))))
(.ob (.tru (.cmp .leq (.len (.var 5)) (.lit 1000000)))
(.loop 0 3000 ⟨[(0,(.lit 0))],[],[(1,(.rep (.len (.var 5)) (.i (.lit 0) .nil)))]⟩
 (.ite (.cmp .lss (.var 3000) (.len (.var 3001)))
 (.ob (.tru (.cmp .leq (.lit 0) (.var 3000)))
 (.ob (.tru (.cmp .lss (.var 3000) (.len (.var 3001))))
 (.next 0 ⟨[(0,(.ar .add .i64 (.var 3000) (.lit 1)))],[],[(1,(.upd (.var 3001) (.var 3000) 0 (.i (.lit (-1)) .nil)))]⟩)))
 (.ob (.tru (.cmp .leq (.lit 0) (.var 7)))
 (.ob (.tru (.cmp .lss (.var 7) (.len (.var 3001))))
 (.loop 1 5000 ⟨[(0,(.lit 0)),(1,(.lit 0)),(0,(.lit 0))],[],[(2,(.app (.row (.i (.var 7) .nil)) .nil)),(3,(.upd (.var 3001) (.var 7) 0 (.i (.lit 0) .nil)))]⟩
 (.ite (.cmp .lss (.var 5001) (.len (.var 5002)))
 (.ob (.tru (.cmp .leq (.lit 0) (.var 5001)))
 (.ob (.tru (.cmp .lss (.var 5001) (.len (.var 5002))))
 (.ob (.tru (.fn 150 (.i (.var 0) (.i (.var 1) (.i (.var 2) (.i (.var 3) (.i (.var 4) (.x (.var 5) .nil))))))))
 (.ob (.tru (.cmp .leq (.lit 0) (.rd (.var 5002) (.var 5001) 0)))
 (.ob (.tru (.cmp .lss (.rd (.var 5002) (.var 5001) 0) (.len (.var 5))))
 (.loop 2 7000 ⟨[(0,(.var 5000)),(1,(.lit 0)),(0,(.var 5000))],[],[(2,(.var 5002)),(3,(.var 5003))]⟩
 (.ite (.cmp .lss (.var 7001) (.len (.fn 7 (.i (.var 0) (.i (.var 1) (.i (.var 2) (.i (.var 3) (.i (.var 4) (.x (.var 5) (.i (.rd (.var 5002) (.var 5001) 0) .nil))))))))))
 (.ob (.tru (.cmp .leq (.lit 0) (.var 7001)))
 (.ob (.tru (.cmp .lss (.var 7001) (.len (.fn 7 (.i (.var 0) (.i (.var 1) (.i (.var 2) (.i (.var 3) (.i (.var 4) (.x (.var 5) (.i (.rd (.var 5002) (.var 5001) 0) .nil)))))))))))
 (.ob (.tru (.cmp .leq (.lit 0) (.rd (.fn 7 (.i (.var 0) (.i (.var 1) (.i (.var 2) (.i (.var 3) (.i (.var 4) (.x (.var 5) (.i (.rd (.var 5002) (.var 5001) 0) .nil)))))))) (.var 7001) 0)))
 (.ob (.tru (.cmp .lss (.rd (.fn 7 (.i (.var 0) (.i (.var 1) (.i (.var 2) (.i (.var 3) (.i (.var 4) (.x (.var 5) (.i (.rd (.var 5002) (.var 5001) 0) .nil)))))))) (.var 7001) 0) (.len (.var 7003))))
 (.ite (.cmp .lss (.rd (.var 7003) (.rd (.fn 7 (.i (.var 0) (.i (.var 1) (.i (.var 2) (.i (.var 3) (.i (.var 4) (.x (.var 5) (.i (.rd (.var 5002) (.var 5001) 0) .nil)))))))) (.var 7001) 0) 0) (.lit 0))
 (.ob (.tru (.cmp .leq (.lit 0) (.var 7001)))
 (.ob (.tru (.cmp .lss (.var 7001) (.len (.fn 7 (.i (.var 0) (.i (.var 1) (.i (.var 2) (.i (.var 3) (.i (.var 4) (.x (.var 5) (.i (.rd (.var 5002) (.var 5001) 0) .nil)))))))))))
 (.ob (.tru (.cmp .leq (.lit 0) (.rd (.fn 7 (.i (.var 0) (.i (.var 1) (.i (.var 2) (.i (.var 3) (.i (.var 4) (.x (.var 5) (.i (.rd (.var 5002) (.var 5001) 0) .nil)))))))) (.var 7001) 0)))
 (.ob (.tru (.cmp .lss (.rd (.fn 7 (.i (.var 0) (.i (.var 1) (.i (.var 2) (.i (.var 3) (.i (.var 4) (.x (.var 5) (.i (.rd (.var 5002) (.var 5001) 0) .nil)))))))) (.var 7001) 0) (.len (.var 5))))
 (.ite (.cmp .geq (.rd (.var 5) (.rd (.fn 7 (.i (.var 0) (.i (.var 1) (.i (.var 2) (.i (.var 3) (.i (.var 4) (.x (.var 5) (.i (.rd (.var 5002) (.var 5001) 0) .nil)))))))) (.var 7001) 0) 0) (.var 6))
 (.ob (.tru (.cmp .leq (.lit 0) (.var 7001)))
 (.ob (.tru (.cmp .lss (.var 7001) (.len (.fn 7 (.i (.var 0) (.i (.var 1) (.i (.var 2) (.i (.var 3) (.i (.var 4) (.x (.var 5) (.i (.rd (.var 5002) (.var 5001) 0) .nil)))))))))))
 (.ob (.tru (.cmp .leq (.lit 0) (.var 5001)))
 (.ob (.tru (.cmp .lss (.var 5001) (.len (.var 7002))))
 (.ob (.tru (.cmp .leq (.lit 0) (.rd (.var 7002) (.var 5001) 0)))
 (.ob (.tru (.cmp .lss (.rd (.var 7002) (.var 5001) 0) (.len (.var 7003))))
 (.ob (.tru (.cmp .leq (.lit 0) (.rd (.fn 7 (.i (.var 0) (.i (.var 1) (.i (.var 2) (.i (.var 3) (.i (.var 4) (.x (.var 5) (.i (.rd (.var 5002) (.var 5001) 0) .nil)))))))) (.var 7001) 0)))
 (.ob (.tru (.cmp .lss (.rd (.fn 7 (.i (.var 0) (.i (.var 1) (.i (.var 2) (.i (.var 3) (.i (.var 4) (.x (.var 5) (.i (.rd (.var 5002) (.var 5001) 0) .nil)))))))) (.var 7001) 0) (.len (.var 7003))))
 (.ob (.tru (.cmp .leq (.lit 0) (.var 7001)))
 (.ob (.tru (.cmp .lss (.var 7001) (.len (.fn 7 (.i (.var 0) (.i (.var 1) (.i (.var 2) (.i (.var 3) (.i (.var 4) (.x (.var 5) (.i (.rd (.var 5002) (.var 5001) 0) .nil)))))))))))
 (.ob (.tru (.cmp .leq (.len (.app (.var 7002) (.app (.row (.i (.rd (.fn 7 (.i (.var 0) (.i (.var 1) (.i (.var 2) (.i (.var 3) (.i (.var 4) (.x (.var 5) (.i (.rd (.var 5002) (.var 5001) 0) .nil)))))))) (.var 7001) 0) .nil)) .nil))) (.lit 1000000)))
 (.next 2 ⟨[(0,(.plus (.var 7000) (.lit 1))),(1,(.ar .add .i64 (.var 7001) (.lit 1))),(0,(.plus (.var 7000) (.lit 1)))],[],[(2,(.app (.var 7002) (.app (.row (.i (.rd (.fn 7 (.i (.var 0) (.i (.var 1) (.i (.var 2) (.i (.var 3) (.i (.var 4) (.x (.var 5) (.i (.rd (.var 5002) (.var 5001) 0) .nil)))))))) (.var 7001) 0) .nil)) .nil))),(3,(.upd (.var 7003) (.rd (.fn 7 (.i (.var 0) (.i (.var 1) (.i (.var 2) (.i (.var 3) (.i (.var 4) (.x (.var 5) (.i (.rd (.var 5002) (.var 5001) 0) .nil)))))))) (.var 7001) 0) 0 (.i (.ar .add .i64 (.rd (.var 7003) (.rd (.var 7002) (.var 5001) 0) 0) (.lit 1)) .nil)))]⟩))))))))))))
 (.next 2 ⟨[(0,(.var 7000)),(1,(.ar .add .i64 (.var 7001) (.lit 1))),(0,(.var 7000))],[],[(2,(.var 7002)),(3,(.var 7003))]⟩))))))
 (.next 2 ⟨[(0,(.var 7000)),(1,(.ar .add .i64 (.var 7001) (.lit 1))),(0,(.var 7000))],[],[(2,(.var 7002)),(3,(.var 7003))]⟩))))))
 (.next 1 ⟨[(0,(.var 7000)),(1,(.ar .add .i64 (.var 5001) (.lit 1))),(0,(.var 7000))],[],[(2,(.var 7002)),(3,(.var 7003))]⟩))))))))
 (.ret ((.v (.one (.z (.own 1 (.lit 0))))),[(1,(.own 3 [(.int .i64)] (.var 5003) (.lit 0))),(1,(.own 3 [(.int .i64)] (.upd (.var 3001) (.var 7) 0 (.i (.lit 0) .nil)) (.lit 0))),(1,(.own 3 [(.int .i64)] (.var 3001) (.lit 0))),(1,(.own 3 [(.int .i64)] (.rep (.len (.var 5)) (.i (.lit 0) .nil)) (.lit 0)))],8))))))))))
def b7H:List (Nat×St):=[
(2,⟨(List.append [(.v (.agg [(.z (.int .i64 (.var 0))),(.z (.int .i64 (.var 1))),(.z (.int .i64 (.var 2))),(.z (.int .i64 (.var 3))),(.z (.int .i64 (.var 4))),(.z (.ext [(.int .i64)] (.var 5) false))])),(.v (.one (.z (.int .i64 (.var 6))))),(.v (.one (.z (.int .i64 (.var 7))))),(.v (.one (.z (.ptr 0 0)))),(.v (.one (.z .any))),(.v (.one (.z .any))),(.v (.one (.z (.const (.slice none 0 0))))),(.v (.one (.z (.own 1 (.lit 0))))),(.v (.one (.z (.int .i64 (.var 3000)))))] (List.append (List.replicate 4 V.any) (List.append [(.v (.one (.z (.ptr 0 5)))),(.v (.one (.z (.ext [(.int .i64)] (.var 5) false)))),(.v (.one (.z (.int .i64 (.len (.var 5)))))),(.v (.one (.z (.own 1 (.lit 0)))))] (List.replicate 74 V.any)))),[(1,(.own 3 [(.int .i64)] (.var 3001) (.lit 0))),(0,(.cells 27 [(.z (.int .i64 (.var 0))),(.z (.int .i64 (.var 1))),(.z (.int .i64 (.var 2))),(.z (.int .i64 (.var 3))),(.z (.int .i64 (.var 4))),(.z (.ext [(.int .i64)] (.var 5) false))]))],3,[]⟩),
(4,⟨(List.append [(.v (.agg [(.z (.int .i64 (.var 0))),(.z (.int .i64 (.var 1))),(.z (.int .i64 (.var 2))),(.z (.int .i64 (.var 3))),(.z (.int .i64 (.var 4))),(.z (.ext [(.int .i64)] (.var 5) false))])),(.v (.one (.z (.int .i64 (.var 6))))),(.v (.one (.z (.int .i64 (.var 7))))),(.v (.one (.z (.ptr 0 0)))),(.v (.one (.z .any))),(.v (.one (.z .any))),(.v (.one (.z (.const (.slice none 0 0))))),(.v (.one (.z (.own 1 (.lit 0))))),(.v (.one (.z (.int .i64 (.var 3000))))),(.v (.one (.z (.own 3 (.var 5000))))),(.v (.one (.z (.int .i64 (.var 5001))))),(.v (.one (.z .any))),(.v (.one (.z .any))),(.v (.one (.z (.ptr 0 5)))),(.v (.one (.z (.ext [(.int .i64)] (.var 5) false)))),(.v (.one (.z (.int .i64 (.len (.var 5)))))),(.v (.one (.z (.own 1 (.lit 0))))),(.v (.one (.z (.int .i64 (.var 3000))))),(.v (.one (.z (.own 1 (.lit 0))))),(.v (.one (.z (.int .i64 (.len (.var 3001)))))),(.v (.one (.z (.bool (.cmp .lss (.var 3000) (.len (.var 3001)))))))] (List.append (List.replicate 5 V.any) (List.append [(.v (.one (.z (.own 1 (.lit 0))))),(.v (.one (.z (.int .i64 (.var 7))))),(.v (.one (.z (.optr 1 (.lit 0) 1 (.var 7) 0)))),(.v (.one (.z (.int .i64 (.var 7))))),(.v (.one (.z (.own 3 (.lit 0)))))] (List.replicate 60 V.any)))),[(3,(.own 3 [(.int .i64)] (.var 5002) (.var 5000))),(1,(.own 3 [(.int .i64)] (.var 5003) (.lit 0))),(0,(.cells 27 [(.z (.int .i64 (.var 0))),(.z (.int .i64 (.var 1))),(.z (.int .i64 (.var 2))),(.z (.int .i64 (.var 3))),(.z (.int .i64 (.var 4))),(.z (.ext [(.int .i64)] (.var 5) false))]))],5,[]⟩),
(6,⟨(List.append [(.v (.agg [(.z (.int .i64 (.var 0))),(.z (.int .i64 (.var 1))),(.z (.int .i64 (.var 2))),(.z (.int .i64 (.var 3))),(.z (.int .i64 (.var 4))),(.z (.ext [(.int .i64)] (.var 5) false))])),(.v (.one (.z (.int .i64 (.var 6))))),(.v (.one (.z (.int .i64 (.var 7))))),(.v (.one (.z (.ptr 0 0)))),(.v (.one (.z .any))),(.v (.one (.z .any))),(.v (.one (.z (.const (.slice none 0 0))))),(.v (.one (.z (.own 1 (.lit 0))))),(.v (.one (.z (.int .i64 (.var 3000))))),(.v (.one (.z (.own 3 (.var 7000))))),(.v (.one (.z (.int .i64 (.var 5001))))),(.v (.one (.z (.own 5 (.lit 0))))),(.v (.one (.z (.int .i64 (.var 7001))))),(.v (.one (.z (.ptr 0 5)))),(.v (.one (.z (.ext [(.int .i64)] (.var 5) false)))),(.v (.one (.z (.int .i64 (.len (.var 5)))))),(.v (.one (.z (.own 1 (.lit 0))))),(.v (.one (.z (.int .i64 (.var 3000))))),(.v (.one (.z (.own 1 (.lit 0))))),(.v (.one (.z (.int .i64 (.len (.var 3001)))))),(.v (.one (.z (.bool (.cmp .lss (.var 3000) (.len (.var 3001)))))))] (List.append (List.replicate 5 V.any) (List.append [(.v (.one (.z (.own 1 (.lit 0))))),(.v (.one (.z (.int .i64 (.var 7))))),(.v (.one (.z (.optr 1 (.lit 0) 1 (.var 7) 0)))),(.v (.one (.z (.int .i64 (.var 7))))),(.v (.one (.z (.own 3 (.lit 0))))),(.v (.one (.z (.int .i64 (.var 5001))))),(.v (.one (.z (.own 3 (.var 5000))))),(.v (.one (.z (.int .i64 (.len (.var 5002)))))),(.v (.one (.z (.bool (.cmp .lss (.var 5001) (.len (.var 5002))))))),(.v (.one (.z .any))),(.v (.one (.z .any))),(.v (.agg [(.z (.int .i64 (.var 0))),(.z (.int .i64 (.var 1))),(.z (.int .i64 (.var 2))),(.z (.int .i64 (.var 3))),(.z (.int .i64 (.var 4))),(.z (.ext [(.int .i64)] (.var 5) false))])),(.v (.one (.z (.own 3 (.var 5000))))),(.v (.one (.z (.int .i64 (.var 5001))))),(.v (.one (.z (.optr 3 (.var 5000) 1 (.var 5001) 0)))),(.v (.one (.z (.int .i64 (.rd (.var 5002) (.var 5001) 0))))),(.v (.one (.z (.own 5 (.lit 0)))))] (List.replicate 48 V.any)))),[(5,(.own 3 [(.int .i64)] (.fn 7 (.i (.var 0) (.i (.var 1) (.i (.var 2) (.i (.var 3) (.i (.var 4) (.x (.var 5) (.i (.rd (.var 5002) (.var 5001) 0) .nil)))))))) (.lit 0))),(3,(.own 3 [(.int .i64)] (.var 7002) (.var 7000))),(1,(.own 3 [(.int .i64)] (.var 7003) (.lit 0))),(0,(.cells 27 [(.z (.int .i64 (.var 0))),(.z (.int .i64 (.var 1))),(.z (.int .i64 (.var 2))),(.z (.int .i64 (.var 3))),(.z (.int .i64 (.var 4))),(.z (.ext [(.int .i64)] (.var 5) false))]))],7,[]⟩)]
def b9t:List (FuncId×Nat×Nat×St):=[
]
set_option maxRecDepth 100000 in
theorem b5t:T.norm 0 (call Tryz.prog c5V ⟨Lt.un (Lt.of [(0,6000030)]),b7H,b9t⟩ 200 50 (g7 0 [l8,it,it]) [] 0) TT.ret=a7J:=by kernel_rfl
theorem b3a:a7J.low 1000=true:=by kernel_rfl
theorem c5k(n:Nat):G7 (List.replicate n (-1))=n:=by
 induction n with
 | zero=>rfl
 | succ n ih=>rw[List.replicate_succ,G7,ih,if_pos (by decide)];omega
theorem b2R(w h c:Nat):(Grid.near w h c).length≤4:=by
 unfold Grid.near
 simp only[List.length_append]
 (repeat' split)<;>simp
theorem c7n(a b c d e f:Int)(r:Rows):rnR [.i a,.i b,.i c,.i d,.i e,.l r,.i f]=g0 (k7 (Grid.near d.toNat e.toNat f.toNat)):=rfl
theorem a0a(W:World)(ds l:List D):(a9 B7 W ds).fb 150 l=Z3 l:=by simp only[a9,B7,B9,y6,B4,B3]
theorem c7G(W:World)(ds l:List D):(a9 B7 W ds).fd 7 l=rnR l:=by simp only[a9,B7]
set_option maxHeartbeats 4000000 in
theorem c9a:B2 Tryz.prog 50 [l8,it,it] [a1K] b6P (fun _ _ vs u=>∃v,vs=[v]∧u=v):=by
 refine A4 B7 (by kernel_rfl) (fun ρ h=>b7f (Sees.of h 210) (SeesD.of h 8)) (by kernel_rfl) b5t b3a (by decide) (fun w0 vals ds hr hok=> ?_)
 have hwf:=N9 (C3 hr) (j:=5) rfl
 have hR:a1K.rows ds=g0 (Grid.stepsF (a7 ds 3).toNat (a7 ds 4).toNat (g8 (b9 ds 5)) (a7 ds 6) (a7 ds 7).toNat):=rfl
 obtain⟨hg,hto0,hto1⟩:=hok
 have hg:F5 (a7 ds 0) (a7 ds 1) (a7 ds 2) (a7 ds 3) (a7 ds 4) (b9 ds 5)=true:=hg
 obtain⟨hf,hl,hcell⟩:=z9 hg
 clear hr
 simp only[a7J]
 generalize e0:a7 ds 0=x at*
 generalize e1:a7 ds 1=y at*
 generalize e2:a7 ds 2=s at*
 generalize e3:a7 ds 3=w at*
 generalize e4:a7 ds 4=h at*
 generalize e5:b9 ds 5=r at*
 generalize e6:a7 ds 6=need at*
 generalize e7:a7 ds 7=to at*
 unfold s8 at hf
 obtain⟨⟨_,hw,hh⟩,_⟩:=hf
 obtain⟨W,rfl⟩:=Int.eq_ofNat_of_zero_le (a:=w) (by omega)
 obtain⟨H,rfl⟩:=Int.eq_ofNat_of_zero_le (a:=h) (by omega)
 obtain⟨a,rfl⟩:=Int.eq_ofNat_of_zero_le hto0
 have hn:r.length=W*H:=by
  have:(r.length:Int)=((W*H:Nat):Int):=by rw[hl];simp
  omega
 have hWH:W*H≤64*64:=Nat.mul_le_mul (by omega) (by omega)
 have hW:0<W:=by omega
 have ha:a<W*H:=by omega
 have hrep:List.replicate (W*H) [D.i 0]=g0 (List.replicate (W*H) 0):=a1i _ _
 simp only[Int.toNat_natCast] at hR
 simp only[g9,Nat.reduceBEq,Nat.reduceLT,Nat.reduceSub,e5,e6,e7,hn]
 refine⟨by omega,by omega,?_⟩
 refine TT.sat_loop (fun v=>∃(i:Nat) (o:List Int),v.i 0=i∧i≤W*H∧v.d 1=g0 o∧o.length=W*H∧∀j,j<i→Grid.at_ o j= -1) (fun v=>W*H-(v.i 0).toNat)
  ⟨0,List.replicate (W*H) 0,by simp [j5,i8,E.ev],by omega,?_,by simp,fun j hj=>by omega⟩ (fun v hv=> ?_)
 ·simp only[D4,i8,beq_self_eq_true,if_true,X.ev,AL.ev,E.ev,Z9,e5,hn,Int.toNat_natCast,hrep]
 obtain⟨i,o,i0,i1,i2,i3,i4⟩:=hv
 simp only[g9,Nat.reduceBEq,Nat.reduceLT,Nat.reduceSub,i0,i2,e5,e7,s7,i3]
 refine⟨fun hc=> ?_,fun hc=> ?_⟩
 ·have ew:IntKind.i64.wrap ((i:Int)+1)=((i+1:Nat):Int):=by rw[b8 _ (by omega) (by omega)];omega
  rw[ew,P6]
  refine⟨by omega,by omega,⟨i+1,_,rfl,by omega,rfl,by simpa using i3,fun j hj=> ?_⟩,by rw[Int.toNat_natCast,Int.toNat_natCast];omega⟩
  rw[Grid.at_set (by omega)]
  split
  ·rfl
  ·exact i4 j (by omega)
 ·have hi:i=W*H:=by omega
  have ho:o=List.replicate (W*H) (-1):=Grid.list_at (by simp [i3]) (fun j hj=>by rw[i4 j (by omega)];simp [Grid.at_,show j<W*H by omega])
  refine⟨by omega,by omega,?_⟩
  refine TT.sat_loop (fun v=>∃(i:Nat) (Q:List Nat) (out:List Int),v.i 1=i∧i≤Q.length∧v.d 2=g0 (k7 Q)∧v.d 3=g0 out∧G7 out+Q.length=W*H∧Grid.Wait W H (Grid.Deep (g8 r) need) a out (Q.drop i)) (fun v=>W*H-(v.i 1).toNat)
   ⟨0,[a],(List.replicate (W*H) (-1)).set a 0,by simp [j5,i8,E.ev],by simp,?_,?_,?_,Grid.Wait.begin ha⟩ (fun u hu=> ?_)
  ·simp [D4,i8,X.ev,AL.ev,E.ev,F6,w6,e7,k7,g0]
  ·simp only[D4,i8,show((2:Nat) == 3)=false from rfl,beq_self_eq_true,if_true,Bool.false_eq_true,if_false,X.ev,AL.ev,E.ev,x7,F6,g9,Nat.reduceBEq,Nat.reduceLT,Nat.reduceSub,i2,w6,e7,ho]
   exact P6 _ _ _
  ·have h1:=a3T (List.replicate (W*H) (-1)) a 0 (by simpa using ha) (by simp [Grid.at_,ha]) (by decide)
   rw[c5k] at h1
   simp only[List.length_singleton]
   omega
  obtain⟨k,Q,out,k0,k1,k2,k3,k4,k5⟩:=hu
  simp only[g9,Nat.reduceBEq,Nat.reduceLT,Nat.reduceSub,k0,k2,k3,e0,e1,e2,e3,e4,e5,e6,e7,a0a,I5,s7,B5,hn]
  refine⟨fun hc=> ?_,fun hc=> ?_⟩
  ·have hk:k<Q.length:=by omega
   have hdrop:Q.drop k=Q[k]::Q.drop (k+1):=List.drop_eq_getElem_cons hk
   rw[hdrop] at k5
   have hmid:=k5.take
   have eq0:lg (g0 (k7 Q)) (k:Int) 0=((Q[k]:Nat):Int):=by
    rw[y8 (by rw[B5];exact hk)]
    simp [Grid.at_,k7,hk]
   have hcl:=hmid.cl
   rw[eq0]
   refine⟨by omega,by omega,hg,by omega,by omega,?_⟩
   refine TT.sat_loop (fun t=>∃(m:Nat) (Q':List Nat) (out':List Int),t.i 1=m∧m≤(Grid.near W H Q[k]).length∧t.d 2=g0 (k7 Q')∧t.d 3=g0 out'∧k<Q'.length∧Q'[k]? = some Q[k]∧G7 out'+Q'.length=W*H∧Grid.Mid W H (Grid.Deep (g8 r) need) a Q[k] ((Grid.near W H Q[k]).take m) out' (Q'.drop (k+1))) (fun t=>(Grid.near W H Q[k]).length-(t.i 1).toNat)
    ⟨0,Q,out,by simp [j5,i8,E.ev],by omega,?_,?_,hk,List.getElem?_eq_getElem hk,k4,by simpa using hmid⟩ (fun t ht=> ?_)
   ·simp [D4,i8,X.ev,x7,k2]
   ·simp [D4,i8,X.ev,x7,k3]
   obtain⟨m,Q',out',m0,m1,m2,m3,m4,m5,m6,m7⟩:=ht
   have hl':=m7.len
   simp only[g9,Nat.reduceBEq,Nat.reduceLT,Nat.reduceSub,k0,k2,k3,m0,m2,m3,e0,e1,e2,e3,e4,e5,e6,e7,a0a,c7G,c7n,I5,s7,B5,hn,eq0,Int.toNat_natCast,hl',show((1:Nat)=2)=False from by simp,if_false]
   have hQ'n:Q'.length≤W*H:=by omega
   have ek:IntKind.i64.wrap ((k:Int)+1)=((k+1:Nat):Int):=by rw[b8 _ (by omega) (by omega)];omega
   refine⟨fun hm=> ?_,fun hm=> ?_⟩
   ·have hml:m<(Grid.near W H Q[k]).length:=by omega
    have ed:lg (g0 (k7 (Grid.near W H Q[k]))) (m:Int) 0=(((Grid.near W H Q[k])[m]:Nat):Int):=by
     rw[y8 (by rw[B5];exact hml)]
     simp [Grid.at_,k7,hml]
    have eq1:lg (g0 (k7 Q')) (k:Int) 0=((Q[k]:Nat):Int):=by
     rw[y8 (by rw[B5];exact m4)]
     unfold Grid.at_ k7
     rw[List.getElem?_map,m5];rfl
    have nl:=b2R W H Q[k]
    have em:IntKind.i64.wrap ((m:Int)+1)=((m+1:Nat):Int):=by rw[b8 _ (by omega) (by omega)];omega
    have hdn:(Grid.near W H Q[k])[m]∈Grid.near W H Q[k]:=List.getElem_mem hml
    have htk:(Grid.near W H Q[k]).take m++[(Grid.near W H Q[k])[m]]=(Grid.near W H Q[k]).take (m+1):=(List.take_append_getElem hml)
    rw[ed,eq1,em]
    generalize (Grid.near W H Q[k])[m]=d at*
    generalize hN:Grid.near W H Q[k]=N at*
    have hcl:Q[k]<W*H:=hmid.cl
    have hdl:d<W*H:=by rw[←hN] at hdn;exact Grid.near_lt hW hcl hdn
    have hdn':d∈Grid.near W H Q[k]:=by rw[hN];exact hdn
    have hsm:=b0L hW ha m7
    have hc0:=m7.c0
    generalize Q[k]=c at*
    have dec:N.length-(((m+1:Nat):Int)).toNat<N.length-((m:Int)).toNat:=by rw[Int.toNat_natCast,Int.toNat_natCast];omega
    rw[y8 (show d<out'.length by omega),y8 (show c<out'.length by omega),C6 (show d<r.length by omega),b8 (Grid.at_ out' c+1) (by omega) (by omega),P6,List.append_nil,K0]
    have eN:k7 Q'++[(d:Int)]=k7 (Q'++[d]):=by simp [k7]
    rw[eN,s7,B5]
    simp only[List.length_append,List.length_singleton]
    refine⟨by omega,by omega,by omega,by omega,fun g1=>⟨by omega,by omega,by omega,by omega,fun g2=>⟨by omega,by omega,by omega,by omega,by omega,by omega,by omega,by omega,by omega,by omega,?_,⟨m+1,Q'++[d],_,rfl,by omega,rfl,rfl,by simp;omega,?_,?_,?_⟩,dec⟩,fun g2=>⟨⟨m+1,Q',out',rfl,by omega,rfl,rfl,m4,m5,m6,?_⟩,dec⟩⟩,fun g1=>⟨⟨m+1,Q',out',rfl,by omega,rfl,rfl,m4,m5,m6,?_⟩,dec⟩⟩
    ·omega
    ·rw[List.getElem?_append_left (by omega)];exact m5
    ·have:=a3T out' d (Grid.at_ out' c+1) (by omega) g1 (by omega)
     simp only[List.length_append,List.length_singleton]
     omega
    ·rw[←htk,List.drop_append_of_le_length (by omega)]
     exact m7.push hW ha hdn' g2 g1
    ·rw[←htk];exact m7.more (fun q=>absurd q g2)
    ·rw[←htk];exact m7.more (fun _=>by omega)
   ·have hmN:m=(Grid.near W H Q[k]).length:=by omega
    rw[hmN,List.take_length] at m7
    rw[ek]
    exact⟨⟨k+1,Q',out',rfl,by omega,rfl,rfl,m6,m7.end_⟩,by rw[Int.toNat_natCast];omega⟩
  ·have hkQ:k=Q.length:=by omega
   rw[hkQ,List.drop_length] at k5
   refine Y8 (x:= .var 5003) (by kernel_rfl) ?_
   rw[hR,←Grid.stepsF_eq hW ha (k5.dist_end hW ha)]
   simp only[X.ev,x7,g9,Nat.reduceBEq,Nat.reduceLT,Nat.reduceSub,k3]
def b6y:=a7S [l8,it,it] a1K a8k
theorem b9G{ρ:Env}(h:Sees ρ B7 210)(hd:SeesD ρ B7 8):i9 Tryz.prog ρ 50 b6y:=by
 refine a7d c9a (by decide) (fun al ho=> ?_) (fun a=>(hd 1 a (by decide)).trans rfl)
 unfold a8k at ho
 split at ho
 ·rename_i x y s w h' r need to
  have o1:=ho _ (List.mem_cons_self ..)
  have o2:=ho _ (List.mem_cons_of_mem _ (List.mem_cons_self ..))
  have o3:=ho _ (List.mem_cons_of_mem _ (List.mem_cons_of_mem _ (List.mem_cons_self ..)))
  simp only[Ob.ok,B.cmpS_ev,n8,j8,E.ev,B.ev] at o1 o2 o3
  rw[(h 150 _ (by decide)).2] at o1
  simp only[B7,B9,y6,B4,B3] at o1
  exact⟨o1,o2,o3⟩
 ·have:=ho _ (List.mem_cons_self ..)
  simp [Ob.ok,B.ev] at this
def a9t:Ct:=(50,b6y)::c5V
theorem a3e{ρ:Env}(h:Sees ρ B7 210)(hd:SeesD ρ B7 8):CtOk Tryz.prog ρ a9t:= .cons (b9G h hd) (b7f h hd)
def b0a:TT j4:=
(.ite (.fn 150 (.i (.var 0) (.i (.var 1) (.i (.var 2) (.i (.var 3) (.i (.var 4) (.x (.var 5) .nil)))))))
 (.ite (.cmp .geq (.var 6) (.lit 0))
 (.ite (.not (.cmp .leq (.var 6) (.lit 100000)))
 (.ret ((.tup [(.one (.z (.const (.slice none 0 0)))),(.one (.z (.int .i64 (.lit 1))))]),[],2))
 (.ite (.cmp .lss (.var 7) (.lit 0))
 (.ret ((.tup [(.one (.z (.const (.slice none 0 0)))),(.one (.z (.int .i64 (.lit 1))))]),[],2))
 (.ite (.cmp .geq (.var 7) (.len (.var 5)))
 (.ret ((.tup [(.one (.z (.const (.slice none 0 0)))),(.one (.z (.int .i64 (.lit 1))))]),[],2))
 (.ite (.cmp .lss (.var 8) (.lit 0))
 (.ret ((.tup [(.one (.z (.const (.slice none 0 0)))),(.one (.z (.int .i64 (.lit 1))))]),[],2))
 (.ite (.cmp .geq (.var 8) (.len (.var 5)))
 (.ret ((.tup [(.one (.z (.const (.slice none 0 0)))),(.one (.z (.int .i64 (.lit 1))))]),[],2))
 (.ob (.tru (.cmp .leq (.lit 0) (.var 7)))
 (.ob (.tru (.cmp .lss (.var 7) (.len (.var 5))))
 (.ite (.cmp .lss (.rd (.var 5) (.var 7) 0) (.var 6))
 (.ret ((.tup [(.one (.z (.const (.slice none 0 0)))),(.one (.z (.int .i64 (.lit 4))))]),[],2))
 (.ob (.tru (.cmp .leq (.lit 0) (.var 8)))
 (.ob (.tru (.cmp .lss (.var 8) (.len (.var 5))))
 (.ite (.cmp .lss (.rd (.var 5) (.var 8) 0) (.var 6))
 (.ret ((.tup [(.one (.z (.const (.slice none 0 0)))),(.one (.z (.int .i64 (.lit 4))))]),[],2))
 (.ob (.tru (.fn 150 (.i (.var 0) (.i (.var 1) (.i (.var 2) (.i (.var 3) (.i (.var 4) (.x (.var 5) .nil))))))))
 (.ob (.tru (.cmp .leq (.lit 0) (.var 8)))
 (.ob (.tru (.cmp .lss (.var 8) (.len (.var 5))))
 (.ob (.tru (.cmp .leq (.lit 0) (.var 7)))
 (.ob (.tru (.cmp .lss (.var 7) (.len (.fn 1 (.i (.var 0) (.i (.var 1) (.i (.var 2) (.i (.var 3) (.i (.var 4) (.x (.var 5) (.i (.var 6) (.i (.var 8) .nil))))))))))))
 (.ite (.cmp .lss (.rd (.fn 1 (.i (.var 0) (.i (.var 1) (.i (.var 2) (.i (.var 3) (.i (.var 4) (.x (.var 5) (.i (.var 6) (.i (.var 8) .nil))))))))) (.var 7) 0) (.lit 0))
 (.ret ((.tup [(.one (.z (.const (.slice none 0 0)))),(.one (.z (.int .i64 (.lit 4))))]),[],3))
 (.loop 0 5000 ⟨[(0,(.lit 0)),(1,(.var 7)),(0,(.lit 0))],[],[(2,(.app (.row (.i (.var 7) .nil)) .nil))]⟩
 (.ite (.cmp .neq (.var 5001) (.var 8))
 (.ob (.tru (.fn 150 (.i (.var 0) (.i (.var 1) (.i (.var 2) (.i (.var 3) (.i (.var 4) (.x (.var 5) .nil))))))))
 (.ob (.tru (.cmp .leq (.lit 0) (.var 5001)))
 (.ob (.tru (.cmp .lss (.var 5001) (.len (.var 5))))
 (.loop 1 7000 ⟨[(0,(.lit (-1))),(1,(.lit 0))],[],[]⟩
 (.ite (.cmp .lss (.var 7001) (.len (.fn 7 (.i (.var 0) (.i (.var 1) (.i (.var 2) (.i (.var 3) (.i (.var 4) (.x (.var 5) (.i (.var 5001) .nil))))))))))
 (.ite (.cmp .lss (.var 7000) (.lit 0))
 (.ob (.tru (.cmp .leq (.lit 0) (.var 7001)))
 (.ob (.tru (.cmp .lss (.var 7001) (.len (.fn 7 (.i (.var 0) (.i (.var 1) (.i (.var 2) (.i (.var 3) (.i (.var 4) (.x (.var 5) (.i (.var 5001) .nil)))))))))))
 (.ob (.tru (.cmp .leq (.lit 0) (.rd (.fn 7 (.i (.var 0) (.i (.var 1) (.i (.var 2) (.i (.var 3) (.i (.var 4) (.x (.var 5) (.i (.var 5001) .nil)))))))) (.var 7001) 0)))
 (.ob (.tru (.cmp .lss (.rd (.fn 7 (.i (.var 0) (.i (.var 1) (.i (.var 2) (.i (.var 3) (.i (.var 4) (.x (.var 5) (.i (.var 5001) .nil)))))))) (.var 7001) 0) (.len (.fn 1 (.i (.var 0) (.i (.var 1) (.i (.var 2) (.i (.var 3) (.i (.var 4) (.x (.var 5) (.i (.var 6) (.i (.var 8) .nil))))))))))))
 (.ob (.tru (.cmp .leq (.lit 0) (.var 5001)))
 (.ob (.tru (.cmp .lss (.var 5001) (.len (.fn 1 (.i (.var 0) (.i (.var 1) (.i (.var 2) (.i (.var 3) (.i (.var 4) (.x (.var 5) (.i (.var 6) (.i (.var 8) .nil))))))))))))
 (.ite (.cmp .eql (.rd (.fn 1 (.i (.var 0) (.i (.var 1) (.i (.var 2) (.i (.var 3) (.i (.var 4) (.x (.var 5) (.i (.var 6) (.i (.var 8) .nil))))))))) (.rd (.fn 7 (.i (.var 0) (.i (.var 1) (.i (.var 2) (.i (.var 3) (.i (.var 4) (.x (.var 5) (.i (.var 5001) .nil)))))))) (.var 7001) 0) 0) (.ar .sub .i64 (.rd (.fn 1 (.i (.var 0) (.i (.var 1) (.i (.var 2) (.i (.var 3) (.i (.var 4) (.x (.var 5) (.i (.var 6) (.i (.var 8) .nil))))))))) (.var 5001) 0) (.lit 1)))
 (.ob (.tru (.cmp .leq (.lit 0) (.var 7001)))
 (.ob (.tru (.cmp .lss (.var 7001) (.len (.fn 7 (.i (.var 0) (.i (.var 1) (.i (.var 2) (.i (.var 3) (.i (.var 4) (.x (.var 5) (.i (.var 5001) .nil)))))))))))
 (.next 1 ⟨[(0,(.rd (.fn 7 (.i (.var 0) (.i (.var 1) (.i (.var 2) (.i (.var 3) (.i (.var 4) (.x (.var 5) (.i (.var 5001) .nil)))))))) (.var 7001) 0)),(1,(.ar .add .i64 (.var 7001) (.lit 1)))],[],[]⟩)))
 (.next 1 ⟨[(0,(.var 7000)),(1,(.ar .add .i64 (.var 7001) (.lit 1)))],[],[]⟩))))))))
 (.next 1 ⟨[(0,(.var 7000)),(1,(.ar .add .i64 (.var 7001) (.lit 1)))],[],[]⟩))
 (.ob (.tru (.cmp .leq (.len (.app (.var 5002) (.app (.row (.i (.var 7000) .nil)) .nil))) (.lit 1000000)))
 (.next 0 ⟨[(0,(.plus (.var 5000) (.lit 1))),(1,(.var 7000)),(0,(.plus (.var 5000) (.lit 1)))],[],[(2,(.app (.var 5002) (.app (.row (.i (.var 7000) .nil)) .nil)))]⟩)))))))
 (.ret ((.tup [(.one (.z (.own 3 (.var 5000)))),(.one (.z (.int .i64 (.lit 0))))]),[(3,(.own 3 [(.int .i64)] (.var 5002) (.var 5000))),(3,(.own 3 [(.int .i64)] (.app (.row (.i (.var 7) .nil)) .nil) (.lit 0)))],8)))))))))))))))))))))
 (.ret ((.tup [(.one (.z (.const (.slice none 0 0)))),(.one (.z (.int .i64 (.lit 1))))]),[],2)))
 (.ret ((.tup [(.one (.z (.const (.slice none 0 0)))),(.one (.z (.int .i64 (.lit 1))))]),[],2)))
def c2v:List (Nat×St):=[
(4,⟨(List.append [(.v (.agg [(.z (.int .i64 (.var 0))),(.z (.int .i64 (.var 1))),(.z (.int .i64 (.var 2))),(.z (.int .i64 (.var 3))),(.z (.int .i64 (.var 4))),(.z (.ext [(.int .i64)] (.var 5) false))])),(.v (.one (.z (.int .i64 (.var 6))))),(.v (.one (.z (.int .i64 (.var 7))))),(.v (.one (.z (.int .i64 (.var 8))))),(.v (.one (.z (.ptr 0 0)))),(.v (.one (.z .any))),(.v (.one (.z .any))),(.v (.one (.z .any))),(.v (.one (.z (.const (.slice none 0 0))))),(.v (.one (.z (.int .i64 (.lit 0))))),(.v (.one (.z (.bool (.cmp .leq (.var 6) (.lit 100000)))))),(.v (.one (.z (.own 2 (.lit 0))))),(.v (.one (.z (.own 3 (.var 5000))))),(.v (.one (.z (.int .i64 (.var 5001))))),(.v (.one (.z .any))),(.v (.one (.z .any))),(.v (.one (.z .any))),(.v (.agg [(.z (.int .i64 (.var 0))),(.z (.int .i64 (.var 1))),(.z (.int .i64 (.var 2))),(.z (.int .i64 (.var 3))),(.z (.int .i64 (.var 4))),(.z (.ext [(.int .i64)] (.var 5) false))])),(.v (.one (.z (.int .i64 (.var 6))))),(.v (.one (.z (.bool (.cmp .leq (.var 6) (.lit 100000)))))),(.v (.one (.z (.bool (.cmp .leq (.var 6) (.lit 100000)))))),(.v (.one (.z (.bool (.not (.cmp .leq (.var 6) (.lit 100000))))))),(.v (.one (.z (.bool (.lit false))))),(.v (.one (.z (.int .i64 (.var 7))))),(.v (.one (.z (.bool (.cmp .lss (.var 7) (.lit 0)))))),(.v (.one (.z (.bool (.cmp .lss (.var 7) (.lit 0)))))),(.v (.one (.z (.bool (.lit false))))),(.v (.one (.z (.int .i64 (.var 7))))),(.v (.one (.z (.ptr 0 5)))),(.v (.one (.z (.ext [(.int .i64)] (.var 5) false)))),(.v (.one (.z (.int .i64 (.len (.var 5)))))),(.v (.one (.z (.bool (.cmp .geq (.var 7) (.len (.var 5))))))),(.v (.one (.z (.bool (.cmp .geq (.var 7) (.len (.var 5))))))),(.v (.one (.z (.bool (.lit false))))),(.v (.one (.z (.int .i64 (.var 8))))),(.v (.one (.z (.bool (.cmp .lss (.var 8) (.lit 0)))))),(.v (.one (.z (.bool (.cmp .lss (.var 8) (.lit 0)))))),(.v (.one (.z (.bool (.lit false))))),(.v (.one (.z (.int .i64 (.var 8))))),(.v (.one (.z (.ptr 0 5)))),(.v (.one (.z (.ext [(.int .i64)] (.var 5) false)))),(.v (.one (.z (.int .i64 (.len (.var 5)))))),(.v (.one (.z (.bool (.cmp .geq (.var 8) (.len (.var 5))))))),(.v (.one (.z (.bool (.cmp .geq (.var 8) (.len (.var 5))))))),(.v (.one (.z (.ptr 0 5)))),(.v (.one (.z (.ext [(.int .i64)] (.var 5) false)))),(.v (.one (.z (.int .i64 (.var 7))))),(.v (.one (.z (.eptr [(.int .i64)] (.var 5) (.var 7) 0)))),(.v (.one (.z (.int .i64 (.rd (.var 5) (.var 7) 0))))),(.v (.one (.z (.int .i64 (.var 6))))),(.v (.one (.z (.bool (.cmp .lss (.rd (.var 5) (.var 7) 0) (.var 6)))))),(.v (.one (.z (.bool (.lit false))))),(.v (.one (.z (.ptr 0 5)))),(.v (.one (.z (.ext [(.int .i64)] (.var 5) false)))),(.v (.one (.z (.int .i64 (.var 8))))),(.v (.one (.z (.eptr [(.int .i64)] (.var 5) (.var 8) 0)))),(.v (.one (.z (.int .i64 (.rd (.var 5) (.var 8) 0))))),(.v (.one (.z (.int .i64 (.var 6))))),(.v (.one (.z (.bool (.cmp .lss (.rd (.var 5) (.var 8) 0) (.var 6)))))),(.v (.one (.z (.bool (.cmp .lss (.rd (.var 5) (.var 8) 0) (.var 6)))))),(.v (.agg [(.z (.int .i64 (.var 0))),(.z (.int .i64 (.var 1))),(.z (.int .i64 (.var 2))),(.z (.int .i64 (.var 3))),(.z (.int .i64 (.var 4))),(.z (.ext [(.int .i64)] (.var 5) false))])),(.v (.one (.z (.int .i64 (.var 6))))),(.v (.one (.z (.int .i64 (.var 8))))),(.v (.one (.z (.own 2 (.lit 0))))),(.v (.one (.z (.own 2 (.lit 0))))),(.v (.one (.z (.int .i64 (.var 7))))),(.v (.one (.z (.optr 2 (.lit 0) 1 (.var 7) 0)))),(.v (.one (.z (.int .i64 (.rd (.fn 1 (.i (.var 0) (.i (.var 1) (.i (.var 2) (.i (.var 3) (.i (.var 4) (.x (.var 5) (.i (.var 6) (.i (.var 8) .nil))))))))) (.var 7) 0))))),(.v (.one (.z (.bool (.cmp .lss (.rd (.fn 1 (.i (.var 0) (.i (.var 1) (.i (.var 2) (.i (.var 3) (.i (.var 4) (.x (.var 5) (.i (.var 6) (.i (.var 8) .nil))))))))) (.var 7) 0) (.lit 0)))))),(.v (.one (.z (.int .i64 (.var 7))))),(.v (.one (.z (.own 3 (.lit 0))))),(.v (.one (.z (.int .i64 (.var 7)))))] (List.replicate 39 V.any)),[(3,(.own 3 [(.int .i64)] (.var 5002) (.var 5000))),(2,(.own 3 [(.int .i64)] (.fn 1 (.i (.var 0) (.i (.var 1) (.i (.var 2) (.i (.var 3) (.i (.var 4) (.x (.var 5) (.i (.var 6) (.i (.var 8) .nil))))))))) (.lit 0))),(0,(.cells 27 [(.z (.int .i64 (.var 0))),(.z (.int .i64 (.var 1))),(.z (.int .i64 (.var 2))),(.z (.int .i64 (.var 3))),(.z (.int .i64 (.var 4))),(.z (.ext [(.int .i64)] (.var 5) false))]))],5,[]⟩),
(6,⟨(List.append [(.v (.agg [(.z (.int .i64 (.var 0))),(.z (.int .i64 (.var 1))),(.z (.int .i64 (.var 2))),(.z (.int .i64 (.var 3))),(.z (.int .i64 (.var 4))),(.z (.ext [(.int .i64)] (.var 5) false))])),(.v (.one (.z (.int .i64 (.var 6))))),(.v (.one (.z (.int .i64 (.var 7))))),(.v (.one (.z (.int .i64 (.var 8))))),(.v (.one (.z (.ptr 0 0)))),(.v (.one (.z .any))),(.v (.one (.z .any))),(.v (.one (.z .any))),(.v (.one (.z (.const (.slice none 0 0))))),(.v (.one (.z (.int .i64 (.lit 0))))),(.v (.one (.z (.bool (.cmp .leq (.var 6) (.lit 100000)))))),(.v (.one (.z (.own 2 (.lit 0))))),(.v (.one (.z (.own 3 (.var 5000))))),(.v (.one (.z (.int .i64 (.var 5001))))),(.v (.one (.z (.own 5 (.lit 0))))),(.v (.one (.z (.int .i64 (.var 7000))))),(.v (.one (.z (.int .i64 (.var 7001))))),(.v (.agg [(.z (.int .i64 (.var 0))),(.z (.int .i64 (.var 1))),(.z (.int .i64 (.var 2))),(.z (.int .i64 (.var 3))),(.z (.int .i64 (.var 4))),(.z (.ext [(.int .i64)] (.var 5) false))])),(.v (.one (.z (.int .i64 (.var 6))))),(.v (.one (.z (.bool (.cmp .leq (.var 6) (.lit 100000)))))),(.v (.one (.z (.bool (.cmp .leq (.var 6) (.lit 100000)))))),(.v (.one (.z (.bool (.not (.cmp .leq (.var 6) (.lit 100000))))))),(.v (.one (.z (.bool (.lit false))))),(.v (.one (.z (.int .i64 (.var 7))))),(.v (.one (.z (.bool (.cmp .lss (.var 7) (.lit 0)))))),(.v (.one (.z (.bool (.cmp .lss (.var 7) (.lit 0)))))),(.v (.one (.z (.bool (.lit false))))),(.v (.one (.z (.int .i64 (.var 7))))),(.v (.one (.z (.ptr 0 5)))),(.v (.one (.z (.ext [(.int .i64)] (.var 5) false)))),(.v (.one (.z (.int .i64 (.len (.var 5)))))),(.v (.one (.z (.bool (.cmp .geq (.var 7) (.len (.var 5))))))),(.v (.one (.z (.bool (.cmp .geq (.var 7) (.len (.var 5))))))),(.v (.one (.z (.bool (.lit false))))),(.v (.one (.z (.int .i64 (.var 8))))),(.v (.one (.z (.bool (.cmp .lss (.var 8) (.lit 0)))))),(.v (.one (.z (.bool (.cmp .lss (.var 8) (.lit 0)))))),(.v (.one (.z (.bool (.lit false))))),(.v (.one (.z (.int .i64 (.var 8))))),(.v (.one (.z (.ptr 0 5)))),(.v (.one (.z (.ext [(.int .i64)] (.var 5) false)))),(.v (.one (.z (.int .i64 (.len (.var 5)))))),(.v (.one (.z (.bool (.cmp .geq (.var 8) (.len (.var 5))))))),(.v (.one (.z (.bool (.cmp .geq (.var 8) (.len (.var 5))))))),(.v (.one (.z (.ptr 0 5)))),(.v (.one (.z (.ext [(.int .i64)] (.var 5) false)))),(.v (.one (.z (.int .i64 (.var 7))))),(.v (.one (.z (.eptr [(.int .i64)] (.var 5) (.var 7) 0)))),(.v (.one (.z (.int .i64 (.rd (.var 5) (.var 7) 0))))),(.v (.one (.z (.int .i64 (.var 6))))),(.v (.one (.z (.bool (.cmp .lss (.rd (.var 5) (.var 7) 0) (.var 6)))))),(.v (.one (.z (.bool (.lit false))))),(.v (.one (.z (.ptr 0 5)))),(.v (.one (.z (.ext [(.int .i64)] (.var 5) false)))),(.v (.one (.z (.int .i64 (.var 8))))),(.v (.one (.z (.eptr [(.int .i64)] (.var 5) (.var 8) 0)))),(.v (.one (.z (.int .i64 (.rd (.var 5) (.var 8) 0))))),(.v (.one (.z (.int .i64 (.var 6))))),(.v (.one (.z (.bool (.cmp .lss (.rd (.var 5) (.var 8) 0) (.var 6)))))),(.v (.one (.z (.bool (.cmp .lss (.rd (.var 5) (.var 8) 0) (.var 6)))))),(.v (.agg [(.z (.int .i64 (.var 0))),(.z (.int .i64 (.var 1))),(.z (.int .i64 (.var 2))),(.z (.int .i64 (.var 3))),(.z (.int .i64 (.var 4))),(.z (.ext [(.int .i64)] (.var 5) false))])),(.v (.one (.z (.int .i64 (.var 6))))),(.v (.one (.z (.int .i64 (.var 8))))),(.v (.one (.z (.own 2 (.lit 0))))),(.v (.one (.z (.own 2 (.lit 0))))),(.v (.one (.z (.int .i64 (.var 7))))),(.v (.one (.z (.optr 2 (.lit 0) 1 (.var 7) 0)))),(.v (.one (.z (.int .i64 (.rd (.fn 1 (.i (.var 0) (.i (.var 1) (.i (.var 2) (.i (.var 3) (.i (.var 4) (.x (.var 5) (.i (.var 6) (.i (.var 8) .nil))))))))) (.var 7) 0))))),(.v (.one (.z (.bool (.cmp .lss (.rd (.fn 1 (.i (.var 0) (.i (.var 1) (.i (.var 2) (.i (.var 3) (.i (.var 4) (.x (.var 5) (.i (.var 6) (.i (.var 8) .nil))))))))) (.var 7) 0) (.lit 0)))))),(.v (.one (.z (.int .i64 (.var 7))))),(.v (.one (.z (.own 3 (.lit 0))))),(.v (.one (.z (.int .i64 (.var 7))))),(.v (.one (.z (.int .i64 (.var 5001))))),(.v (.one (.z (.int .i64 (.var 8))))),(.v (.one (.z (.bool (.cmp .neq (.var 5001) (.var 8)))))),(.v (.agg [(.z (.int .i64 (.var 0))),(.z (.int .i64 (.var 1))),(.z (.int .i64 (.var 2))),(.z (.int .i64 (.var 3))),(.z (.int .i64 (.var 4))),(.z (.ext [(.int .i64)] (.var 5) false))])),(.v (.one (.z (.int .i64 (.var 5001))))),(.v (.one (.z (.own 5 (.lit 0)))))] (List.replicate 33 V.any)),[(5,(.own 3 [(.int .i64)] (.fn 7 (.i (.var 0) (.i (.var 1) (.i (.var 2) (.i (.var 3) (.i (.var 4) (.x (.var 5) (.i (.var 5001) .nil)))))))) (.lit 0))),(3,(.own 3 [(.int .i64)] (.var 5002) (.var 5000))),(2,(.own 3 [(.int .i64)] (.fn 1 (.i (.var 0) (.i (.var 1) (.i (.var 2) (.i (.var 3) (.i (.var 4) (.x (.var 5) (.i (.var 6) (.i (.var 8) .nil))))))))) (.lit 0))),(0,(.cells 27 [(.z (.int .i64 (.var 0))),(.z (.int .i64 (.var 1))),(.z (.int .i64 (.var 2))),(.z (.int .i64 (.var 3))),(.z (.int .i64 (.var 4))),(.z (.ext [(.int .i64)] (.var 5) false))]))],7,[]⟩)]
def c2O:List (FuncId×Nat×Nat×St):=[
]
set_option maxRecDepth 100000 in
theorem b8b:T.norm 0 (call Tryz.prog a9t ⟨Lt.un (Lt.of [(0,6000070)]),c2v,c2O⟩ 200 23 (g7 0 [l8,it,it,it]) [] 0) TT.ret=b0a:=by kernel_rfl
theorem b5a:b0a.low 1000=true:=by kernel_rfl
def a7f:TT j4:=
(.ite (.fn 150 (.i (.var 0) (.i (.var 1) (.i (.var 2) (.i (.var 3) (.i (.var 4) (.x (.var 5) .nil)))))))
 (.ite (.cmp .geq (.var 6) (.lit 0))
 (.ite (.not (.cmp .leq (.var 6) (.lit 100000)))
 (.ret ((.tup [(.one (.z (.const (.slice none 0 0)))),(.one (.z (.int .i64 (.lit 1))))]),[],2))
 (.loop 0 3000 ⟨[(0,(.lit 0)),(2,(.lit 0)),(0,(.lit 0))],[],[(1,.nil)]⟩
 (.ite (.cmp .lss (.var 3002) (.len (.var 5)))
 (.ob (.tru (.cmp .leq (.lit 0) (.var 3002)))
 (.ob (.tru (.cmp .lss (.var 3002) (.len (.var 5))))
 (.ite (.cmp .lss (.rd (.var 5) (.var 3002) 0) (.var 6))
 (.ob (.tru (.cmp .leq (.len (.app (.var 3001) (.app (.row (.i (.var 3002) .nil)) .nil))) (.lit 1000000)))
 (.next 0 ⟨[(0,(.plus (.var 3000) (.lit 1))),(2,(.ar .add .i64 (.var 3002) (.lit 1))),(0,(.plus (.var 3000) (.lit 1)))],[],[(1,(.app (.var 3001) (.app (.row (.i (.var 3002) .nil)) .nil)))]⟩))
 (.next 0 ⟨[(0,(.var 3000)),(2,(.ar .add .i64 (.var 3002) (.lit 1))),(0,(.var 3000))],[],[(1,(.var 3001))]⟩))))
 (.ret ((.tup [(.one (.z (.own 3 (.var 3000)))),(.one (.z (.int .i64 (.lit 0))))]),[(3,(.own 3 [(.int .i64)] (.var 3001) (.var 3000)))],5)))))
 (.ret ((.tup [(.one (.z (.const (.slice none 0 0)))),(.one (.z (.int .i64 (.lit 1))))]),[],2)))
 (.ret ((.tup [(.one (.z (.const (.slice none 0 0)))),(.one (.z (.int .i64 (.lit 1))))]),[],2)))
set_option maxRecDepth 100000 in
theorem b5Q:T.norm 0 (call Tryz.prog a9t (Lt.of []) 200 18 (g7 0 [l8,it]) [] 0) TT.ret=a7f:=by kernel_rfl
theorem b3f:a7f.low 1000=true:=by kernel_rfl
def a7M:TT j4:=
(.ite (.fn 150 (.i (.var 0) (.i (.var 1) (.i (.var 2) (.i (.var 3) (.i (.var 4) (.x (.var 5) .nil)))))))
 (.ite (.cmp .geq (.var 6) (.lit 0))
 (.ite (.not (.cmp .leq (.var 6) (.lit 100000)))
 (.ret ((.tup [(.one (.z (.const (.slice none 0 0)))),(.one (.z (.int .i64 (.lit 1))))]),[],2))
 (.ob (.tru (.cmp .leq (.lit 0) (.len (.var 5))))
 (.ob (.tru (.cmp .leq (.len (.var 5)) (.lit 1000000)))
 (.loop 0 4000 ⟨[(1,(.lit 0)),(0,(.lit 0))],[],[(2,(.rep (.len (.var 5)) (.i (.lit 0) .nil)))]⟩
 (.ite (.cmp .lss (.var 4000) (.len (.var 4002)))
 (.ob (.tru (.cmp .leq (.lit 0) (.var 4000)))
 (.ob (.tru (.cmp .lss (.var 4000) (.len (.var 5))))
 (.ite (.cmp .lss (.rd (.var 5) (.var 4000) 0) (.var 6))
 (.next 0 ⟨[(1,(.var 4001)),(0,(.ar .add .i64 (.var 4000) (.lit 1)))],[],[(2,(.var 4002))]⟩)
 (.ob (.tru (.cmp .leq (.lit 0) (.var 4000)))
 (.ob (.tru (.cmp .lss (.var 4000) (.len (.var 4002))))
 (.ite (.cmp .gtr (.rd (.var 4002) (.var 4000) 0) (.lit 0))
 (.next 0 ⟨[(1,(.var 4001)),(0,(.ar .add .i64 (.var 4000) (.lit 1)))],[],[(2,(.var 4002))]⟩)
 (.ob (.tru (.fn 150 (.i (.var 0) (.i (.var 1) (.i (.var 2) (.i (.var 3) (.i (.var 4) (.x (.var 5) .nil))))))))
 (.ob (.tru (.cmp .leq (.lit 0) (.var 4000)))
 (.ob (.tru (.cmp .lss (.var 4000) (.len (.var 5))))
 (.loop 1 6000 ⟨[(0,(.lit 0))],[],[(1,(.var 4002))]⟩
 (.ite (.cmp .lss (.var 6000) (.len (.var 6001)))
 (.ob (.tru (.cmp .leq (.lit 0) (.var 6000)))
 (.ob (.tru (.cmp .lss (.var 6000) (.len (.fn 1 (.i (.var 0) (.i (.var 1) (.i (.var 2) (.i (.var 3) (.i (.var 4) (.x (.var 5) (.i (.var 6) (.i (.var 4000) .nil))))))))))))
 (.ite (.cmp .geq (.rd (.fn 1 (.i (.var 0) (.i (.var 1) (.i (.var 2) (.i (.var 3) (.i (.var 4) (.x (.var 5) (.i (.var 6) (.i (.var 4000) .nil))))))))) (.var 6000) 0) (.lit 0))
 (.ob (.tru (.cmp .leq (.lit 0) (.var 6000)))
 (.ob (.tru (.cmp .lss (.var 6000) (.len (.var 6001))))
 (.next 1 ⟨[(0,(.ar .add .i64 (.var 6000) (.lit 1)))],[],[(1,(.upd (.var 6001) (.var 6000) 0 (.i (.ar .add .i64 (.var 4001) (.lit 1)) .nil)))]⟩)))
 (.next 1 ⟨[(0,(.ar .add .i64 (.var 6000) (.lit 1)))],[],[(1,(.var 6001))]⟩))))
 (.next 0 ⟨[(1,(.ar .add .i64 (.var 4001) (.lit 1))),(0,(.ar .add .i64 (.var 4000) (.lit 1)))],[],[(2,(.var 6001))]⟩))))))))))))
 (.ret ((.tup [(.one (.z (.own 2 (.lit 0)))),(.one (.z (.int .i64 (.lit 0))))]),[(2,(.own 3 [(.int .i64)] (.var 4002) (.lit 0))),(2,(.own 3 [(.int .i64)] (.rep (.len (.var 5)) (.i (.lit 0) .nil)) (.lit 0)))],6)))))))
 (.ret ((.tup [(.one (.z (.const (.slice none 0 0)))),(.one (.z (.int .i64 (.lit 1))))]),[],2)))
 (.ret ((.tup [(.one (.z (.const (.slice none 0 0)))),(.one (.z (.int .i64 (.lit 1))))]),[],2)))
set_option maxRecDepth 100000 in
theorem b5G:T.norm 0 (call Tryz.prog a9t (Lt.of []) 200 21 (g7 0 [l8,it]) [] 0) TT.ret=a7M:=by kernel_rfl
theorem b3D:a7M.low 1000=true:=by kernel_rfl
def a4Q:TT j4:=
(.ite (.not (.fn 150 (.i (.var 0) (.i (.var 1) (.i (.var 2) (.i (.var 3) (.i (.var 4) (.x (.var 5) .nil))))))))
 (.ret ((.tup [(.agg [(.z (.int .i64 (.lit 0))),(.z (.int .i64 (.lit 0))),(.z (.int .i64 (.lit 0))),(.z (.int .i64 (.lit 0))),(.z (.int .i64 (.lit 0))),(.z (.const (.slice none 0 0)))]),(.one (.z (.int .i64 (.lit 1))))]),[],2))
 (.ite (.cmp .lss (.var 6) (.lit 1))
 (.ret ((.tup [(.agg [(.z (.int .i64 (.lit 0))),(.z (.int .i64 (.lit 0))),(.z (.int .i64 (.lit 0))),(.z (.int .i64 (.lit 0))),(.z (.int .i64 (.lit 0))),(.z (.const (.slice none 0 0)))]),(.one (.z (.int .i64 (.lit 1))))]),[],2))
 (.ite (.cmp .gtr (.var 6) (.lit 64))
 (.ret ((.tup [(.agg [(.z (.int .i64 (.lit 0))),(.z (.int .i64 (.lit 0))),(.z (.int .i64 (.lit 0))),(.z (.int .i64 (.lit 0))),(.z (.int .i64 (.lit 0))),(.z (.const (.slice none 0 0)))]),(.one (.z (.int .i64 (.lit 1))))]),[],2))
 (.ob (.tru (.cmp .neq (.var 6) (.lit 0)))
 (.ite (.cmp .neq (.ar .rem .i64 (.var 3) (.var 6)) (.lit 0))
 (.ret ((.tup [(.agg [(.z (.int .i64 (.lit 0))),(.z (.int .i64 (.lit 0))),(.z (.int .i64 (.lit 0))),(.z (.int .i64 (.lit 0))),(.z (.int .i64 (.lit 0))),(.z (.const (.slice none 0 0)))]),(.one (.z (.int .i64 (.lit 1))))]),[],2))
 (.ob (.tru (.cmp .neq (.var 6) (.lit 0)))
 (.ite (.cmp .neq (.ar .rem .i64 (.var 4) (.var 6)) (.lit 0))
 (.ret ((.tup [(.agg [(.z (.int .i64 (.lit 0))),(.z (.int .i64 (.lit 0))),(.z (.int .i64 (.lit 0))),(.z (.int .i64 (.lit 0))),(.z (.int .i64 (.lit 0))),(.z (.const (.slice none 0 0)))]),(.one (.z (.int .i64 (.lit 1))))]),[],2))
 (.ite (.cmp .gtr (.ar .mul .i64 (.var 6) (.var 2)) (.lit 100000))
 (.ret ((.tup [(.agg [(.z (.int .i64 (.lit 0))),(.z (.int .i64 (.lit 0))),(.z (.int .i64 (.lit 0))),(.z (.int .i64 (.lit 0))),(.z (.int .i64 (.lit 0))),(.z (.const (.slice none 0 0)))]),(.one (.z (.int .i64 (.lit 1))))]),[],2))
 (.ob (.tru (.cmp .neq (.var 6) (.lit 0)))
 (.ob (.tru (.cmp .neq (.var 6) (.lit 0)))
 (.loop 0 4000 ⟨[(0,(.lit 0)),(1,(.lit 0)),(1,(.lit 0))],[],[(2,.nil)]⟩
 (.ite (.cmp .lss (.var 4000) (.ar .mul .i64 (.ar .quo .i64 (.var 3) (.var 6)) (.ar .quo .i64 (.var 4) (.var 6))))
 (.loop 1 6000 ⟨[(0,(.lit 100000)),(1,(.lit 0))],[],[]⟩
 (.ite (.cmp .lss (.var 6001) (.var 6))
 (.loop 2 7000 ⟨[(0,(.var 6000)),(1,(.lit 0))],[],[]⟩
 (.ite (.cmp .lss (.var 7001) (.var 6))
 (.ob (.tru (.cmp .neq (.ar .quo .i64 (.var 3) (.var 6)) (.lit 0)))
 (.ob (.tru (.cmp .neq (.ar .quo .i64 (.var 3) (.var 6)) (.lit 0)))
 (.ob (.tru (.cmp .leq (.lit 0) (.ar .add .i64 (.ar .add .i64 (.ar .mul .i64 (.ar .rem .i64 (.var 4000) (.ar .quo .i64 (.var 3) (.var 6))) (.var 6)) (.var 7001)) (.ar .mul .i64 (.var 3) (.ar .add .i64 (.ar .mul .i64 (.ar .quo .i64 (.var 4000) (.ar .quo .i64 (.var 3) (.var 6))) (.var 6)) (.var 6001))))))
 (.ob (.tru (.cmp .lss (.ar .add .i64 (.ar .add .i64 (.ar .mul .i64 (.ar .rem .i64 (.var 4000) (.ar .quo .i64 (.var 3) (.var 6))) (.var 6)) (.var 7001)) (.ar .mul .i64 (.var 3) (.ar .add .i64 (.ar .mul .i64 (.ar .quo .i64 (.var 4000) (.ar .quo .i64 (.var 3) (.var 6))) (.var 6)) (.var 6001)))) (.len (.var 5))))
 (.next 2 ⟨[(0,(.mn (.var 7000) (.rd (.var 5) (.ar .add .i64 (.ar .add .i64 (.ar .mul .i64 (.ar .rem .i64 (.var 4000) (.ar .quo .i64 (.var 3) (.var 6))) (.var 6)) (.var 7001)) (.ar .mul .i64 (.var 3) (.ar .add .i64 (.ar .mul .i64 (.ar .quo .i64 (.var 4000) (.ar .quo .i64 (.var 3) (.var 6))) (.var 6)) (.var 6001)))) 0))),(1,(.ar .add .i64 (.var 7001) (.lit 1)))],[],[]⟩)))))
 (.next 1 ⟨[(0,(.var 7000)),(1,(.ar .add .i64 (.var 6001) (.lit 1)))],[],[]⟩)))
 (.ob (.tru (.cmp .leq (.len (.app (.var 4002) (.app (.row (.i (.var 6000) .nil)) .nil))) (.lit 1000000)))
 (.next 0 ⟨[(0,(.ar .add .i64 (.var 4000) (.lit 1))),(1,(.plus (.var 4001) (.lit 1))),(1,(.plus (.var 4001) (.lit 1)))],[],[(2,(.app (.var 4002) (.app (.row (.i (.var 6000) .nil)) .nil)))]⟩))))
 (.ret ((.tup [(.agg [(.z (.int .i64 (.var 0))),(.z (.int .i64 (.var 1))),(.z (.int .i64 (.ar .mul .i64 (.var 6) (.var 2)))),(.z (.int .i64 (.ar .quo .i64 (.var 3) (.var 6)))),(.z (.int .i64 (.ar .quo .i64 (.var 4) (.var 6)))),(.z (.own 4 (.var 4001)))]),(.one (.z (.int .i64 (.lit 0))))]),[(4,(.own 3 [(.int .i64)] (.var 4002) (.var 4001)))],8))))))))))))))
set_option maxRecDepth 100000 in
theorem b4B:T.norm 0 (call Tryz.prog a9t (Lt.of []) 200 14 (g7 0 [l8,it]) [] 0) TT.ret=a4Q:=by kernel_rfl
theorem b1z:a4Q.low 1000=true:=by kernel_rfl
theorem b1R(W:World)(ds l:List D):(a9 B7 W ds).fd 1 l=a5M l:=by simp only[a9,B7,B9,y6,B4,B3]
set_option maxHeartbeats 1000000 in
theorem c9W:B2 Tryz.prog 18 [l8,it] [O1] (fun _=>True) (fun _ ds vs u=>∃v,vs=[v]∧u= .tuple #[v,.int .i64 (V3 ds)]):=by
 refine A4 B7 (by kernel_rfl) (fun ρ h=>a3e (Sees.of h 210) (SeesD.of h 8)) (by kernel_rfl) b5Q b3f (by decide) (fun w0 vals ds hr _=> ?_)
 have hwf:=N9 (C3 hr) (j:=5) rfl
 have hR:O1.rows ds=if U9 ds=true then g0 (k7 (a5H (g8 (b9 ds 5)) (a7 ds 6))) else []:=rfl
 have hE:V3 ds=if U9 ds=true then 0 else 1:=rfl
 have hO:U9 ds=(F5 (a7 ds 0) (a7 ds 1) (a7 ds 2) (a7 ds 3) (a7 ds 4) (b9 ds 5)&&decide (0≤a7 ds 6∧a7 ds 6≤100000)):=rfl
 have bad:∀ {ρ:Env} {ws:Mem},U9 ds=false→∃s' x',A0 ws O1.e O1.ks s'=some x'∧x'.ev ρ=O1.rows ds∧∀(σ:As) u,ρ.w=w0→(V.tup [.one (.z (.const (.slice none 0 0))),.one (.z (.int .i64 (.lit 1)))]).den ρ σ u→∃v,s'.den ρ σ v∧u= .tuple #[v,.int .i64 (V3 ds)]:=fun h=>by
  rw[h] at hR hE
  exact D8 (x:= .nil) rfl (by rw[hR];rfl) (by rw[hE];rfl)
 clear hr
 simp only[a7f,g9,Nat.reduceBEq,Nat.reduceLT,Nat.reduceSub,a0a,I5]
 generalize e5:b9 ds 5=r at*
 generalize e6:a7 ds 6=need at*
 refine⟨fun hg=>⟨fun h1=>⟨fun h2=>bad ?_,fun h2=> ?_⟩,fun h1=>bad ?_⟩,fun hg=>bad ?_⟩
 ·rw[hO,decide_eq_false (by omega),Bool.and_false]
 ·have hok:U9 ds=true:=by rw[hO,hg,decide_eq_true (by omega)];rfl
  rw[if_pos hok] at hR hE
  obtain⟨hf,hl,hcell⟩:=z9 hg
  have hn:r.length≤64*64:=by
   have hf:=hf
   unfold s8 at hf
   have:=o5 (a:=a7 ds 3) (b:=a7 ds 4) (m:=64) (n:=64) (by omega) (by omega) (by omega) (by omega)
   omega
  have hcl:(g8 r).length=r.length:=a4x r
  refine TT.sat_loop (fun v=>∃i:Nat,v.i 2=i∧i≤r.length∧v.d 1=g0 (k7 ((List.range i).filter fun c=>decide (Grid.at_ (g8 r) c<need)))) (fun v=>r.length-(v.i 2).toNat)
   ⟨0,by simp [j5,i8,E.ev],by omega,by simp [D4,i8,X.ev,k7,g0]⟩ (fun v hv=> ?_)
  obtain⟨i,i0,i1,i2⟩:=hv
  simp only[g9,Nat.reduceBEq,Nat.reduceLT,Nat.reduceSub,i0,i2,e5,e6]
  have hlf:=List.length_filter_le (fun c=>decide (Grid.at_ (g8 r) c<need)) (List.range i)
  rw[List.length_range] at hlf
  refine⟨fun hc=> ?_,fun hc=> ?_⟩
  ·have hi:i<r.length:=by omega
   rw[b8 ((i:Int)+1) (by omega) (by omega),C6 hi,List.length_append,List.length_append,s7,B5]
   simp only[List.length_singleton,List.length_nil]
   have hs:= @List.range_succ i
   refine⟨by omega,by omega,fun h3=>⟨by omega,⟨i+1,by omega,by omega,?_⟩,by omega⟩,fun h3=>⟨⟨i+1,by omega,by omega,?_⟩,by omega⟩⟩
   ·rw[hs,List.filter_append,List.append_nil,K0]
    simp [k7,h3]
   ·rw[hs,List.filter_append]
    simp [h3]
  ·have hi:i=r.length:=by omega
   refine D8 (x:= .var 3001) (by kernel_rfl) ?_ (by rw[hE];rfl)
   rw[hR]
   simp only[X.ev,x7,g9,Nat.reduceBEq,Nat.reduceLT,Nat.reduceSub,i2]
   unfold a5H
   rw[hcl,←hi]
 ·rw[hO,decide_eq_false (by omega),Bool.and_false]
 ·rw[hO,hg,Bool.false_and]
set_option maxHeartbeats 2000000 in
theorem c9e:B2 Tryz.prog 21 [l8,it] [N3] (fun _=>True) (fun _ ds vs u=>∃v,vs=[v]∧u= .tuple #[v,.int .i64 (V3 ds)]):=by
 refine A4 B7 (by kernel_rfl) (fun ρ h=>a3e (Sees.of h 210) (SeesD.of h 8)) (by kernel_rfl) b5G b3D (by decide) (fun w0 vals ds hr _=> ?_)
 have hwf:=N9 (C3 hr) (j:=5) rfl
 have hR:N3.rows ds=if U9 ds=true then g0 (Grid.waterF (a7 ds 3).toNat (a7 ds 4).toNat (g8 (b9 ds 5)) (a7 ds 6)) else []:=rfl
 have hE:V3 ds=if U9 ds=true then 0 else 1:=rfl
 have hO:U9 ds=(F5 (a7 ds 0) (a7 ds 1) (a7 ds 2) (a7 ds 3) (a7 ds 4) (b9 ds 5)&&decide (0≤a7 ds 6∧a7 ds 6≤100000)):=rfl
 have bad:∀ {ρ:Env} {ws:Mem},U9 ds=false→∃s' x',A0 ws N3.e N3.ks s'=some x'∧x'.ev ρ=N3.rows ds∧∀(σ:As) u,ρ.w=w0→(V.tup [.one (.z (.const (.slice none 0 0))),.one (.z (.int .i64 (.lit 1)))]).den ρ σ u→∃v,s'.den ρ σ v∧u= .tuple #[v,.int .i64 (V3 ds)]:=fun h=>by
  rw[h] at hR hE
  exact D8 (x:= .nil) rfl (by rw[hR];rfl) (by rw[hE];rfl)
 clear hr
 simp only[a7M,g9,Nat.reduceBEq,Nat.reduceLT,Nat.reduceSub,a0a,I5]
 generalize e0:a7 ds 0=x at*
 generalize e1:a7 ds 1=y at*
 generalize e2:a7 ds 2=s at*
 generalize e3:a7 ds 3=w at*
 generalize e4:a7 ds 4=h at*
 generalize e5:b9 ds 5=r at*
 generalize e6:a7 ds 6=need at*
 refine⟨fun hg=>⟨fun h1=>⟨fun h2=>bad ?_,fun h2=> ?_⟩,fun h1=>bad ?_⟩,fun hg=>bad ?_⟩
 ·rw[hO,decide_eq_false (by omega),Bool.and_false]
 ·have hok:U9 ds=true:=by rw[hO,hg,decide_eq_true (by omega)];rfl
  rw[if_pos hok] at hR hE
  obtain⟨hf,hl,hcell⟩:=z9 hg
  unfold s8 at hf
  obtain⟨⟨_,hw,hh⟩,_⟩:=hf
  obtain⟨W,rfl⟩:=Int.eq_ofNat_of_zero_le (a:=w) (by omega)
  obtain⟨H,rfl⟩:=Int.eq_ofNat_of_zero_le (a:=h) (by omega)
  have hn:r.length=W*H:=by
   have:(r.length:Int)=((W*H:Nat):Int):=by rw[hl];simp
   omega
  have hWH:W*H≤64*64:=Nat.mul_le_mul (by omega) (by omega)
  have hW:0<W:=by omega
  have hrep:List.replicate (W*H) [D.i 0]=g0 (List.replicate (W*H) 0):=a1i _ _
  simp only[Int.toNat_natCast] at hR
  refine⟨by omega,by omega,?_⟩
  refine TT.sat_loop (fun v=>∃c:Nat,v.i 0=c∧c≤W*H∧v.i 1=(Grid.waterN W H (g8 r) need c).2∧v.d 2=g0 (Grid.waterN W H (g8 r) need c).1) (fun v=>W*H-(v.i 0).toNat)
   ⟨0,by simp [j5,i8,E.ev],by omega,by simp [j5,i8,E.ev,Grid.waterN],?_⟩ (fun v hv=> ?_)
  ·simp only[D4,i8,beq_self_eq_true,if_true,X.ev,AL.ev,E.ev,Z9,e5,hn,Int.toNat_natCast,hrep]
   rfl
  obtain⟨c,c0,c1,c2,c3⟩:=hv
  obtain⟨m0,m1,m2⟩:=a4W W H (g8 r) need c
  have hstep:c<W*H→Grid.waterN W H (g8 r) need (c+1)=Grid.waterStep W H (g8 r) need (Grid.waterN W H (g8 r) need c) c:=fun _=>rfl
  generalize hst:Grid.waterN W H (g8 r) need c=st at*
  obtain⟨out,num⟩:=st
  simp only at c2 c3 m0 m1 m2 hstep
  simp only[g9,Nat.reduceBEq,Nat.reduceLT,Nat.reduceSub,c0,c2,c3,e0,e1,e2,e3,e4,e5,e6,hn,a0a,b1R,I5,H5,Int.toNat_natCast,s7,m2]
  refine⟨fun hc=> ?_,fun hc=> ?_⟩
  ·have hcl:c<W*H:=by omega
   have hws:=hstep hcl
   have hw1:IntKind.i64.wrap ((c:Int)+1)=((c+1:Nat):Int):=by rw[b8 _ (by omega) (by omega)];omega
   have hw2:IntKind.i64.wrap (num+1)=num+1:=b8 _ (by omega) (by omega)
   have same:Grid.at_ (g8 r) c<need∨0<Grid.at_ out c→Grid.waterN W H (g8 r) need (c+1)=(out,num):=fun q=>by rw[hws,Grid.waterStep,if_pos q]
   have new:¬(Grid.at_ (g8 r) c<need∨0<Grid.at_ out c)→Grid.waterN W H (g8 r) need (c+1)=(Grid.fillF (Grid.stepsF W H (g8 r) need c) (num+1) out,num+1):=fun q=>by rw[hws,Grid.waterStep,if_neg q]
   have hS:=Grid.stepsF_is (D:=g8 r) (need:=need) hW hcl
   rw[C6 (by omega),y8 (by omega),hw1]
   refine⟨by omega,by omega,fun q1=>⟨⟨c+1,rfl,by omega,by rw[same (.inl q1)],by rw[same (.inl q1)]⟩,by omega⟩,fun q1=>⟨by omega,by omega,fun q2=>⟨⟨c+1,rfl,by omega,by rw[same (.inr q2)],by rw[same (.inr q2)]⟩,by omega⟩,fun q2=>⟨hg,by omega,by omega,?_⟩⟩⟩
   generalize hs:Grid.stepsF W H (g8 r) need c=sl at*
   have hSl:=hS.len
   refine TT.sat_loop (fun u=>∃(k:Nat) (o:List Int),u.i 0=k∧k≤W*H∧u.d 1=g0 o∧o.length=W*H∧∀j,j<W*H→Grid.at_ o j=if j<k∧0≤Grid.at_ sl j then num+1 else Grid.at_ out j) (fun u=>W*H-(u.i 0).toNat)
    ⟨0,out,by simp [j5,i8,E.ev],by omega,by simp [D4,i8,X.ev,x7,c3],m2,fun j _=>by rw[if_neg (by omega)]⟩ (fun u hu=> ?_)
   obtain⟨k,o,k0,k1,k2,k3,k4⟩:=hu
   simp only[g9,Nat.reduceBEq,Nat.reduceLT,Nat.reduceSub,k0,k2,c0,c2,c3,e0,e1,e2,e3,e4,e5,e6,b1R,H5,Int.toNat_natCast,hs,s7,hSl,k3]
   have hk1:k<W*H→IntKind.i64.wrap ((k:Int)+1)=((k+1:Nat):Int):=fun q=>by rw[b8 _ (by omega) (by omega)];omega
   refine⟨fun q3=> ?_,fun q3=> ?_⟩
   ·have hkl:k<W*H:=by omega
    rw[hk1 hkl,y8 (by omega),hw2,P6]
    refine⟨by omega,by omega,fun q4=>⟨by omega,by omega,⟨k+1,_,rfl,by omega,rfl,by simpa using k3,fun j hj=> ?_⟩,by omega⟩,fun q4=>⟨⟨k+1,_,rfl,by omega,rfl,k3,fun j hj=> ?_⟩,by omega⟩⟩
    ·rw[Grid.at_set (by omega)]
     by_cases e:j=k
     ·subst e;rw[if_pos rfl,if_pos (by omega)]
     ·rw[if_neg e,k4 j hj]
      by_cases q:j<k∧0≤Grid.at_ sl j
      ·rw[if_pos q,if_pos (by omega)]
      ·rw[if_neg q,if_neg (by omega)]
    ·rw[k4 j hj]
     by_cases q:j<k∧0≤Grid.at_ sl j
     ·rw[if_pos q,if_pos (by omega)]
     ·have:¬(j<k+1∧0≤Grid.at_ sl j):=fun⟨g1,g2⟩=>by
       by_cases e:j=k
       ·subst e;omega
       ·exact q ⟨by omega,g2⟩
      rw[if_neg q,if_neg this]
   ·have hkn:k=W*H:=by omega
    have ho:o=Grid.fillF sl (num+1) out:=Grid.list_at (by rw[Grid.fill_len,k3,m2]) (fun j hj=>by
     rw[k3] at hj
     rw[k4 j hj,Grid.at_fill (by omega)]
     by_cases q:0≤Grid.at_ sl j
     ·rw[if_pos (by omega),if_pos q]
     ·rw[if_neg (by omega),if_neg q])
    have hnw:=new (by omega)
    rw[←ho] at hnw
    rw[hw1,hw2]
    exact⟨⟨c+1,rfl,by omega,by rw[hnw],by rw[hnw]⟩,by omega⟩
  ·have hcn:c=W*H:=by omega
   refine D8 (x:= .var 4002) (by kernel_rfl) ?_ (by rw[hE];rfl)
   rw[hR]
   simp only[X.ev,x7,g9,Nat.reduceBEq,Nat.reduceLT,Nat.reduceSub,c3]
   unfold Grid.waterF
   rw[←hcn,hst]
 ·rw[hO,decide_eq_false (by omega),Bool.and_false]
 ·rw[hO,hg,Bool.false_and]
set_option maxHeartbeats 2000000 in
theorem d1U:B2 Tryz.prog 23 [l8,it,it,it] [G0] (fun _=>True) (fun _ ds vs u=>∃v,vs=[v]∧u= .tuple #[v,.int .i64 (C5 ds)]):=by
 refine A4 B7 (by kernel_rfl) (fun ρ h=>a3e (Sees.of h 210) (SeesD.of h 8)) (by kernel_rfl) b8b b5a (by decide) (fun w0 vals ds hr _=> ?_)
 have hwf:=N9 (C3 hr) (j:=5) rfl
 have hR:G0.rows ds=if C5 ds=0 then g0 (k7 (Grid.wayF (a7 ds 3).toNat (a7 ds 4).toNat (a0K ds) (a7 ds 7).toNat)) else []:=rfl
 have hE:C5 ds=if a1A ds=true then(if a1H ds=true then 4 else 0) else 1:=rfl
 have hO:a1A ds=(F5 (a7 ds 0) (a7 ds 1) (a7 ds 2) (a7 ds 3) (a7 ds 4) (b9 ds 5)&&decide (0≤a7 ds 6∧a7 ds 6≤100000∧0≤a7 ds 7∧a7 ds 7<((b9 ds 5).length:Nat)∧0≤a7 ds 8∧a7 ds 8<((b9 ds 5).length:Nat))):=rfl
 have hN:a1H ds=decide (Grid.at_ (g8 (b9 ds 5)) (a7 ds 7).toNat<a7 ds 6∨Grid.at_ (g8 (b9 ds 5)) (a7 ds 8).toNat<a7 ds 6∨Grid.at_ (a0K ds) (a7 ds 7).toNat<0):=rfl
 have hL:a0K ds=Grid.stepsF (a7 ds 3).toNat (a7 ds 4).toNat (g8 (b9 ds 5)) (a7 ds 6) (a7 ds 8).toNat:=rfl
 have leaf:∀ {ρ:Env} {ws:Mem} (z:Int),C5 ds=z→z≠0→∃s' x',A0 ws G0.e G0.ks s'=some x'∧x'.ev ρ=G0.rows ds∧∀(σ:As) u,ρ.w=w0→(V.tup [.one (.z (.const (.slice none 0 0))),.one (.z (.int .i64 (.lit z)))]).den ρ σ u→∃v,s'.den ρ σ v∧u= .tuple #[v,.int .i64 (C5 ds)]:=fun z h h'=>by
  rw[h,if_neg h'] at hR
  exact D8 (x:= .nil) rfl (by rw[hR];rfl) (by rw[h];rfl)
 have bad:∀ {ρ:Env} {ws:Mem},a1A ds=false→∃s' x',A0 ws G0.e G0.ks s'=some x'∧x'.ev ρ=G0.rows ds∧∀(σ:As) u,ρ.w=w0→(V.tup [.one (.z (.const (.slice none 0 0))),.one (.z (.int .i64 (.lit 1)))]).den ρ σ u→∃v,s'.den ρ σ v∧u= .tuple #[v,.int .i64 (C5 ds)]:=fun h=>leaf 1 (by rw[hE,h];rfl) (by decide)
 clear hr
 simp only[b0a,g9,Nat.reduceBEq,Nat.reduceLT,Nat.reduceSub,a0a,b1R,I5,H5]
 generalize e0:a7 ds 0=x at*
 generalize e1:a7 ds 1=y at*
 generalize e2:a7 ds 2=s at*
 generalize e3:a7 ds 3=w at*
 generalize e4:a7 ds 4=h at*
 generalize e5:b9 ds 5=r at*
 generalize e6:a7 ds 6=need at*
 generalize e7:a7 ds 7=fr at*
 generalize e8:a7 ds 8=to at*
 refine⟨fun hg=>⟨fun h1=>⟨fun h2=>bad ?_,fun h2=>⟨fun h3=>bad ?_,fun h3=>⟨fun h4=>bad ?_,fun h4=>⟨fun h5=>bad ?_,fun h5=>⟨fun h6=>bad ?_,fun h6=> ?_⟩⟩⟩⟩⟩,fun h1=>bad ?_⟩,fun hg=>bad ?_⟩
 ·rw[hO,decide_eq_false (by omega),Bool.and_false]
 ·rw[hO,decide_eq_false (by omega),Bool.and_false]
 ·rw[hO,decide_eq_false (by omega),Bool.and_false]
 ·rw[hO,decide_eq_false (by omega),Bool.and_false]
 ·rw[hO,decide_eq_false (by omega),Bool.and_false]
 ·have hok:a1A ds=true:=by rw[hO,hg,decide_eq_true (by omega)];rfl
  rw[if_pos hok] at hE
  obtain⟨hf,hl,hcell⟩:=z9 hg
  unfold s8 at hf
  obtain⟨⟨_,hw,hh⟩,_⟩:=hf
  obtain⟨W,rfl⟩:=Int.eq_ofNat_of_zero_le (a:=w) (by omega)
  obtain⟨H,rfl⟩:=Int.eq_ofNat_of_zero_le (a:=h) (by omega)
  obtain⟨a,rfl⟩:=Int.eq_ofNat_of_zero_le (a:=fr) (by omega)
  obtain⟨b,rfl⟩:=Int.eq_ofNat_of_zero_le (a:=to) (by omega)
  have hn:r.length=W*H:=by
   have:(r.length:Int)=((W*H:Nat):Int):=by rw[hl];simp
   omega
  have hWH:W*H≤64*64:=Nat.mul_le_mul (by omega) (by omega)
  have hW:0<W:=by omega
  have ha:a<W*H:=by omega
  have hb:b<W*H:=by omega
  simp only[Int.toNat_natCast] at hN hR hL ⊢
  have hD:=Grid.stepsF_is (D:=g8 r) (need:=need) hW hb
  rw[←hL] at hD ⊢
  generalize a0K ds=sl at*
  have hsl:=hD.len
  rw[C6 (by omega),C6 (by omega),y8 (by omega),s7,hsl]
  have neg:a1H ds=true→C5 ds=4:=fun k=>by rw[hE,if_pos k]
  refine⟨by omega,by omega,fun g1=>leaf 4 (neg (by rw[hN];exact decide_eq_true (.inl g1))) (by decide),fun g1=>⟨by omega,by omega,fun g2=>leaf 4 (neg (by rw[hN];exact decide_eq_true (.inr (.inl g2)))) (by decide),fun g2=>⟨hg,by omega,by omega,by omega,by omega,fun g3=>leaf 4 (neg (by rw[hN];exact decide_eq_true (.inr (.inr g3)))) (by decide),fun g3=> ?_⟩⟩⟩
  have hNf:a1H ds=false:=by rw[hN];exact decide_eq_false (by omega)
  have hE0:C5 ds=0:=by rw[hE,hNf];rfl
  rw[if_pos hE0] at hR
  have hsa:=a1F hW hb hD ha (by omega)
  refine TT.sat_loop (fun v=>∃(c:Nat) (pre:List Nat),v.i 1=c∧c<W*H∧0≤Grid.at_ sl c∧v.d 2=g0 (k7 pre)∧pre++Grid.pathF W H sl (Grid.at_ sl c).toNat c=Grid.wayF W H sl a) (fun v=>(Grid.at_ sl (v.i 1).toNat).toNat)
   ⟨a,[a],?_,ha,by omega,?_,rfl⟩ (fun v hv=> ?_)
  ·simp [j5,i8,E.ev,w6,e7]
  ·simp [D4,i8,X.ev,AL.ev,E.ev,w6,e7,k7,g0]
  obtain⟨c,pre,c0,c1,c2,c3,c4⟩:=hv
  have hsc:=a1F hW hb hD c1 c2
  have hlen:=congrArg List.length c4
  rw[List.length_append,Grid.path_len,Grid.way_len] at hlen
  simp only[g9,Nat.reduceBEq,Nat.reduceLT,Nat.reduceSub,c0,c3,e0,e1,e2,e3,e4,e5,e6,e7,e8]
  refine⟨fun q=>⟨hg,by omega,by omega,?_⟩,fun q=> ?_⟩
  ·have hpos:0<Grid.at_ sl c:=by
    rcases Int.lt_or_le 0 (Grid.at_ sl c) with k | k
    ·exact k
    ·have hz:Grid.at_ sl c=0:=by omega
     have h1:=(hD.some c c1 c2).1
     rw[hz] at h1
     cases h1
     exact absurd rfl q
   obtain⟨n1,n2,_⟩:=Grid.next_spec hD hW hb c1 hpos
   have n3:=Grid.near_lt hW c1 n1
   have hsome:((Grid.near W H c).find? fun d=>Grid.at_ sl d == Grid.at_ sl c-1)=some (Grid.nextF W H sl c):=by
    cases hf:(Grid.near W H c).find? fun d=>Grid.at_ sl d == Grid.at_ sl c-1 with
    | none=>exact absurd (List.find?_eq_none.1 hf _ n1) (by simp [n2])
    | some e=>unfold Grid.nextF;rw[hf];rfl
   refine TT.sat_loop (fun t=>∃m:Nat,t.i 1=m∧m≤(Grid.near W H c).length∧t.i 0=match ((Grid.near W H c).take m).find? (fun d=>Grid.at_ sl d == Grid.at_ sl c-1) with | none=> -1 | some d=>(d:Int)) (fun t=>(Grid.near W H c).length-(t.i 1).toNat)
    ⟨0,by simp [j5,i8,E.ev],by omega,by simp [j5,i8,E.ev]⟩ (fun t ht=> ?_)
   obtain⟨m,m0,m1,m2⟩:=ht
   simp only[g9,Nat.reduceBEq,Nat.reduceLT,Nat.reduceSub,c0,c3,m0,e0,e1,e2,e3,e4,e5,e6,e7,e8,a0a,c7G,b1R,c7n,H5,I5,s7,B5,Int.toNat_natCast,←hL,hsl,show((0:Nat)=1)=False from by simp,if_false]
   have nl:=b2R W H c
   have wl:IntKind.i64.wrap (lg (g0 sl) (c:Int) 0-1)=Grid.at_ sl c-1:=by rw[y8 (by omega),b8 _ (by omega) (by omega)]
   rw[wl]
   refine⟨fun hm=> ?_,fun hm=> ?_⟩
   ·have hml:m<(Grid.near W H c).length:=by omega
    have ed:lg (g0 (k7 (Grid.near W H c))) (m:Int) 0=(((Grid.near W H c)[m]:Nat):Int):=by
     rw[y8 (by rw[B5];exact hml)]
     simp [Grid.at_,k7,hml]
    have em:IntKind.i64.wrap ((m:Int)+1)=((m+1:Nat):Int):=by rw[b8 _ (by omega) (by omega)];omega
    have hdl:=Grid.near_lt hW c1 (List.getElem_mem hml)
    have htk:(Grid.near W H c).take (m+1)=(Grid.near W H c).take m++[(Grid.near W H c)[m]]:=(List.take_append_getElem hml).symm
    have hfs:((Grid.near W H c).take (m+1)).find? (fun d=>Grid.at_ sl d == Grid.at_ sl c-1)=(((Grid.near W H c).take m).find? (fun d=>Grid.at_ sl d == Grid.at_ sl c-1)).or (if Grid.at_ sl (Grid.near W H c)[m]=Grid.at_ sl c-1 then some (Grid.near W H c)[m] else none):=by
     rw[htk,List.find?_append]
     congr 1
     by_cases z:Grid.at_ sl (Grid.near W H c)[m]=Grid.at_ sl c-1
     ·rw[if_pos z];simp [z]
     ·rw[if_neg z];simp [z]
    rw[ed,em,y8 (show(Grid.near W H c)[m]<sl.length by omega)]
    have dec:(Grid.near W H c).length-(((m+1:Nat):Int)).toNat<(Grid.near W H c).length-m:=by rw[Int.toNat_natCast];omega
    cases hp:((Grid.near W H c).take m).find? (fun d=>Grid.at_ sl d == Grid.at_ sl c-1) with
    | none=>
      rw[hp] at m2 hfs
      rw[Option.none_or] at hfs
      refine⟨fun _=>⟨by omega,by omega,by omega,by omega,by omega,by omega,fun z=>⟨by omega,by omega,⟨m+1,rfl,by omega,?_⟩,dec⟩,fun z=>⟨⟨m+1,rfl,by omega,?_⟩,dec⟩⟩,fun z=> ?_⟩
      ·rw[hfs,if_pos z]
      ·rw[hfs,if_neg z];exact m2
      ·have m2:t.i 0= -1:=m2
       omega
    | some d=>
      rw[hp] at m2 hfs
      rw[Option.some_or] at hfs
      have m2:t.i 0=(d:Int):=m2
      refine⟨fun z=>by omega,fun _=>⟨⟨m+1,rfl,by omega,?_⟩,dec⟩⟩
      rw[hfs];exact m2
   ·have hmN:m=(Grid.near W H c).length:=by omega
    rw[hmN,List.take_length,hsome] at m2
    have m2:t.i 0=((Grid.nextF W H sl c:Nat):Int):=m2
    have eN:k7 pre++[((Grid.nextF W H sl c:Nat):Int)]=k7 (pre++[Grid.nextF W H sl c]):=by simp [k7]
    rw[m2,List.append_nil,K0,eN,s7,B5,Int.toNat_natCast,n2]
    simp only[List.length_append,List.length_singleton]
    refine⟨by omega,⟨Grid.nextF W H sl c,pre++[Grid.nextF W H sl c],rfl,n3,by omega,rfl,?_⟩,by omega⟩
    rw[←c4,n2]
    obtain⟨k,hk⟩:∃k,(Grid.at_ sl c).toNat=k+1:=⟨(Grid.at_ sl c).toNat-1,by omega⟩
    rw[show(Grid.at_ sl c-1).toNat=k by omega,hk]
    simp [Grid.pathF]
  ·have hcb:c=b:=by omega
   subst hcb
   have hz:=(hD.le hb Grid.Walk.zero).2
   have hz:Grid.at_ sl c=0:=by omega
   refine D8 (x:= .var 5002) (by kernel_rfl) ?_ (by rw[hE0];rfl)
   rw[hR]
   simp only[X.ev,x7,g9,Nat.reduceBEq,Nat.reduceLT,Nat.reduceSub,c3]
   rw[←c4,hz]
   simp [Grid.pathF]
 ·rw[hO,decide_eq_false (by omega),Bool.and_false]
 ·rw[hO,hg,Bool.false_and]
end Go.Proofs.YtcjaembdcfppfaaGreat
