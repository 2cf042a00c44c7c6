/- PA, merged: TP1, P1, TP2, P2. -/
import Derived.Test.YtldbejmgalhdaaaGreatLJoi
import Derived.Test.YtldbejmgalhdaaaGreatMQ
set_option linter.unusedSimpArgs false
set_option linter.unusedVariables false
namespace Go.Proofs.YtldbejmgalhdaaaGreat
open Go.RowKit
theorem b4I{ρ:Env}(h:Sees ρ B0 220):Sees ρ KG 80:=c1M (c2a (b6a (c0i (b9O (b8T (c0g (b9T (b9e (b9K (b9S (b0A (a4d (a6W h)))))))))))))
def b2h:Ct:=(70,d5u)::(86,c9y)::(55,c9C)::[]
theorem a4b{ρ:Env}(h:Sees ρ B0 220):CtOk Tryz.prog ρ b2h:= .cons (d2Z (b4I h))<| .cons (b9W (b4I h))<| .cons (b9b (b4I h)) .nil
def b7y:TT j6:=
(.ite (.cmp .gtr (.len (.var 0)) (.lit 300))
 (.ret ((.v (.one (.z (.bool (.lit false))))),[],0))
 (.loop 0 1000 ⟨[(0,(.lit 0))],[],[]⟩
 (.ite (.cmp .lss (.var 1000) (.len (.var 0)))
 (.ob (.tru (.cmp .leq (.lit 0) (.var 1000)))
 (.ob (.tru (.cmp .lss (.var 1000) (.len (.var 0))))
 (.ite (.not (.fn 76 (.i (.rd (.var 0) (.var 1000) 0) (.i (.rd (.var 0) (.var 1000) 1) (.i (.rd (.var 0) (.var 1000) 2) (.i (.rd (.var 0) (.var 1000) 3) (.i (.rd (.var 0) (.var 1000) 4) (.x (.rd (.var 0) (.var 1000) 5) (.i (.rd (.var 0) (.var 1000) 6) (.i (.rd (.var 0) (.var 1000) 7) (.x (.rd (.var 0) (.var 1000) 8) .nil)))))))))))
 (.ret ((.v (.one (.z (.bool (.lit false))))),[],1))
 (.ite (.cmp .gtr (.var 1000) (.lit 0))
 (.ob (.tru (.cmp .leq (.lit 0) (.var 1000)))
 (.ob (.tru (.cmp .lss (.var 1000) (.len (.var 0))))
 (.ob (.tru (.cmp .leq (.lit 0) (.ar .sub .i64 (.var 1000) (.lit 1))))
 (.ob (.tru (.cmp .lss (.ar .sub .i64 (.var 1000) (.lit 1)) (.len (.var 0))))
 (.ite (.cmp .leq (.rd (.var 0) (.var 1000) 0) (.rd (.var 0) (.ar .sub .i64 (.var 1000) (.lit 1)) 0))
 (.ret ((.v (.one (.z (.bool (.lit false))))),[],1))
 (.next 0 ⟨[(0,(.ar .add .i64 (.var 1000) (.lit 1)))],[],[]⟩))))))
 (.next 0 ⟨[(0,(.ar .add .i64 (.var 1000) (.lit 1)))],[],[]⟩)))))
 (.ret ((.v (.one (.z (.bool (.lit true))))),[],1)))))
def c8u:List (Nat×St):=[
(0,⟨(List.append [(.v (.one (.z (.ext [(.int .i64),(.int .i64),(.int .i64),(.int .i64),(.int .i64),(.sl [(.int .i64),(.int .i64)]),(.int .i64),(.int .i64),(.sl [(.int .i64),(.int .i64),(.int .i64),(.int .i64),(.int .i64),(.int .i64)])] (.var 0) false)))),(.v (.one (.z .any))),(.v (.one (.z (.bool (.lit false))))),(.v (.one (.z (.int .i64 (.var 1000))))),(.v (.one (.z (.ext [(.int .i64),(.int .i64),(.int .i64),(.int .i64),(.int .i64),(.sl [(.int .i64),(.int .i64)]),(.int .i64),(.int .i64),(.sl [(.int .i64),(.int .i64),(.int .i64),(.int .i64),(.int .i64),(.int .i64)])] (.var 0) false)))),(.v (.one (.z (.int .i64 (.len (.var 0)))))),(.v (.one (.z (.bool (.cmp .gtr (.len (.var 0)) (.lit 300))))))] (List.replicate 30 V.any)),[],1,[]⟩)]
def c9U:List (FuncId×Nat×Nat×St):=[
]
set_option maxRecDepth 100000 in
theorem c6J:T.norm 0 (call Tryz.prog b2h ⟨Lt.un (Lt.of []),c8u,c9U⟩ 150 45 (i6 0 [B7]) [] 0) TT.ret=b7y:=by kernel_rfl
theorem c0W:b7y.low 1000=true:=by kernel_rfl
def b1N:TT j6:=
(.ite (.cmp .eql (.var 1) (.lit 1))
 (.ret ((.v (.one (.z (.bool (.cmp .leq (.ar .add .i64 (.ar .mul .i64 (.ar .sub .i64 (.var 9) (.var 2)) (.ar .sub .i64 (.var 9) (.var 2))) (.ar .mul .i64 (.ar .sub .i64 (.var 10) (.var 3)) (.ar .sub .i64 (.var 10) (.var 3)))) (.ar .mul .i64 (.var 4) (.var 4))))))),[],12))
 (.ite (.cmp .eql (.var 1) (.lit 2))
 (.ret ((.v (.one (.z (.bool (.cmp .leq (.ar .add .i64 (.ar .mul .i64 (.ar .sub .i64 (.var 9) (.var 2)) (.ar .sub .i64 (.var 9) (.var 2))) (.ar .mul .i64 (.ar .sub .i64 (.var 10) (.var 3)) (.ar .sub .i64 (.var 10) (.var 3)))) (.ar .mul .i64 (.var 4) (.var 4))))))),[],12))
 (.ite (.cmp .eql (.var 1) (.lit 5))
 (.ret ((.v (.one (.z (.bool (.cmp .leq (.ar .add .i64 (.ar .mul .i64 (.ar .sub .i64 (.var 9) (.var 2)) (.ar .sub .i64 (.var 9) (.var 2))) (.ar .mul .i64 (.ar .sub .i64 (.var 10) (.var 3)) (.ar .sub .i64 (.var 10) (.var 3)))) (.ar .mul .i64 (.var 4) (.var 4))))))),[],12))
 (.ite (.cmp .eql (.var 1) (.lit 3))
 (.ret ((.v (.one (.z (.bool (.cmp .geq (.fn 70 (.i (.var 9) (.i (.var 10) (.x (.var 5) .nil)))) (.lit 0)))))),[],2))
 (.ite (.cmp .eql (.var 1) (.lit 6))
 (.ret ((.v (.one (.z (.bool (.cmp .geq (.fn 70 (.i (.var 9) (.i (.var 10) (.x (.var 5) .nil)))) (.lit 0)))))),[],2))
 (.ret ((.v (.one (.z (.bool (.lit false))))),[],2)))))))
set_option maxRecDepth 100000 in
theorem c3D:T.norm 0 (call Tryz.prog b2h (Lt.of []) 150 56 (i6 0 [v5,pt]) [] 0) TT.ret=b1N:=by kernel_rfl
theorem b8j:b1N.low 1000=true:=by kernel_rfl
def b1w:TT j6:=
(.ite (.fn 76 (.i (.var 0) (.i (.lit 1) (.i (.var 1) (.i (.var 2) (.i (.var 3) (.x .nil (.i (.var 4) (.i (.lit 0) (.x .nil .nil))))))))))
 (.ite (.cmp .leq (.var 4) (.var 5))
 (.ite (.cmp .leq (.var 5) (.lit 100000))
 (.ite (.cmp .geq (.var 6) (.lit 0))
 (.ret ((.v (.one (.z (.bool (.cmp .leq (.var 6) (.lit 10000000)))))),[],3))
 (.ret ((.v (.one (.z (.bool (.lit false))))),[],3)))
 (.ret ((.v (.one (.z (.bool (.lit false))))),[],3)))
 (.ret ((.v (.one (.z (.bool (.lit false))))),[],3)))
 (.ret ((.v (.one (.z (.bool (.lit false))))),[],3)))
set_option maxRecDepth 100000 in
theorem c2j:T.norm 0 (call Tryz.prog b2h (Lt.of []) 150 38 (i6 0 [snd]) [] 0) TT.ret=b1w:=by kernel_rfl
theorem b7O:b1w.low 1000=true:=by kernel_rfl
def b0n:TT j6:=
(.ite (.cmp .lss (.var 6) (.var 13))
 (.ret ((.v (.one (.z (.bool (.lit false))))),[],2))
 (.ite (.cmp .eql (.var 6) (.var 13))
 (.ite (.cmp .leq (.var 0) (.var 7))
 (.ret ((.v (.one (.z (.bool (.lit false))))),[],2))
 (.ite (.cmp .leq (.var 10) (.var 3))
 (.ret ((.v (.one (.z (.bool (.cmp .leq (.ar .add .i64 (.ar .mul .i64 (.ar .sub .i64 (.var 1) (.var 8)) (.ar .sub .i64 (.var 1) (.var 8))) (.ar .mul .i64 (.ar .sub .i64 (.var 2) (.var 9)) (.ar .sub .i64 (.var 2) (.var 9)))) (.ar .mul .i64 (.ar .sub .i64 (.var 3) (.var 10)) (.ar .sub .i64 (.var 3) (.var 10)))))))),[],20))
 (.ret ((.v (.one (.z (.bool (.lit false))))),[],10))))
 (.ite (.cmp .leq (.var 10) (.var 3))
 (.ret ((.v (.one (.z (.bool (.cmp .leq (.ar .add .i64 (.ar .mul .i64 (.ar .sub .i64 (.var 1) (.var 8)) (.ar .sub .i64 (.var 1) (.var 8))) (.ar .mul .i64 (.ar .sub .i64 (.var 2) (.var 9)) (.ar .sub .i64 (.var 2) (.var 9)))) (.ar .mul .i64 (.ar .sub .i64 (.var 3) (.var 10)) (.ar .sub .i64 (.var 3) (.var 10)))))))),[],20))
 (.ret ((.v (.one (.z (.bool (.lit false))))),[],10)))))
set_option maxRecDepth 100000 in
theorem c3M:T.norm 0 (call Tryz.prog b2h (Lt.of []) 150 78 (i6 0 [snd,snd]) [] 0) TT.ret=b0n:=by kernel_rfl
theorem b8x:b0n.low 1000=true:=by kernel_rfl
theorem c6Q(W:World)(ds l:List D):(f0 B0 W ds).fb 76 l=G2 l:=by simp only[f0,B0,u5,y3,B1,t6,p9,v8,t7,I4,F4,V0,Z7,M4,C0,G1,C6,z9,w9,KI,KH,KG,KF]
theorem d4z(W:World)(ds l:List D):(f0 B0 W ds).fi 70 l=O3 l:=by simp only[f0,B0,u5,y3,B1,t6,p9,v8,t7,I4,F4,V0,Z7,M4,C0,G1,C6,z9,w9,KI,KH,KG,KF,KE,KD,KC]
theorem c2E{r:Rows}{i:Nat}(h:Z8 r i=true):1≤lg r i 0:=(a1w.mp h).1.1
set_option maxHeartbeats 1000000 in
theorem d6Q:k8 Tryz.prog 45 [B7] (fun ds=> .bool (X7 ds)):=by
 refine GivesIf.all (i7 B0 (by kernel_rfl) (fun ρ h=>a4b (Sees.of h 220)) (by kernel_rfl) c6J c0W (by decide) (fun W vals ds hr _=> ?_))
 have hlen:=a2X hr
 simp only[b7y,g8,Nat.reduceBEq,Nat.reduceLT,Nat.reduceSub]
 have hO:X7 ds=G3 (d9 ds 0):=rfl
 rw[hO]
 clear hO hr
 generalize e0:d9 ds 0=r at*
 refine⟨fun h=>by rw[G3,decide_eq_false (p:=r.length≤300) (by omega),Bool.and_false],fun h300=> ?_⟩
 have hL:G3 r=E6 r r.length 0 0:=by rw[G3,decide_eq_true (p:=r.length≤300) (by omega),Bool.and_true]
 rw[hL]
 refine TT.sat_loop (fun v=>∃i:Nat,v.i 0=i∧i≤r.length∧(if i=0 then E6 r r.length 0 0 else E6 r (r.length-i) i (lg r (i-1:Nat) 0))=E6 r r.length 0 0) (fun v=>r.length-(v.i 0).toNat)
  ⟨0,by simp [j7,i8,E.ev],by omega,rfl⟩ (fun v hv=> ?_)
 obtain⟨i,i0,i1,i2⟩:=hv
 simp only[g8,Nat.reduceBEq,Nat.reduceLT,Nat.reduceSub,i0,e0,c6Q,O9,a4M]
 refine⟨fun hc=> ?_,fun hc=> ?_⟩
 ·have hi:i<r.length:=by omega
  obtain⟨f,hf⟩:∃f,r.length-i=f+1:=⟨r.length-i-1,by omega⟩
  have hf':r.length-(i+1)=f:=by omega
  have N:E6 r f (i+1) (lg r i 0)=E6 r r.length 0 0→(∃j:Nat,IntKind.i64.wrap ((i:Int)+1)=j∧j≤r.length∧(if j=0 then E6 r r.length 0 0 else E6 r (r.length-j) j (lg r (j-1:Nat) 0))=E6 r r.length 0 0)∧r.length-(IntKind.i64.wrap ((i:Int)+1)).toNat<r.length-(i:Int).toNat:=fun h=>by
   rw[f8 ((i:Int)+1) (by omega) (by omega)]
   exact⟨⟨i+1,rfl,by omega,by rw[if_neg (by omega),hf',Nat.add_sub_cancel];exact h⟩,by omega⟩
  by_cases z:i=0
  ·subst z
   have hf0:r.length=f+1:=by omega
   have e:E6 r r.length 0 0=((Z8 r 0&&decide (0<lg r (0:Nat) 0))&&E6 r f 1 (lg r (0:Nat) 0)):=by rw[hf0,E6]
   refine⟨by omega,by omega,fun h=> ?_,fun h=>⟨fun g=>by omega,fun _=>N ?_⟩⟩
   ·rw[e,h];rfl
   ·rw[e,h,decide_eq_true (by have:=c2E h;omega)];rfl
  ·rw[if_neg z,hf,E6] at i2
   have ew:IntKind.i64.wrap ((i:Int)-1)=((i-1:Nat):Int):=by rw[f8 ((i:Int)-1) (by omega) (by omega)];omega
   rw[ew]
   refine⟨by omega,by omega,fun h=> ?_,fun h=>⟨fun _=>⟨by omega,by omega,by omega,by omega,fun g=> ?_,fun g=>N ?_⟩,fun g=>by omega⟩⟩
   ·rw[←i2,h];rfl
   ·rw[←i2,h,decide_eq_false (by omega)];rfl
   ·rw[←i2,h,decide_eq_true (p:=lg r (i-1:Nat) 0<lg r i 0) (by omega)];rfl
 ·have hi:i=r.length:=by omega
  subst hi
  rw[Nat.sub_self] at i2
  split at i2
  ·rename_i z
   rw[←i2,z];rfl
  ·rw[←i2];rfl
theorem b4j(px py x y r:Int):B8 px py x y x y r=decide (p7 x y px py≤r*r):=by
 have h:T0 x y x y px py=0:=by unfold T0;grind
 unfold B8
 rw[if_pos (by omega)]
theorem c5e{id1 k1 x1 y1 r1 d1 s1:Int}{a1 t1:Rows}(h:z6 id1 k1 x1 y1 r1 a1 d1 s1 t1=true):k1=1∨k1=2∨k1=3∨k1=4∨k1=5∨k1=6:=by
 have:=(a1w.mp h).2.2.2.2
 omega
theorem d4H{id1 k1 x1 y1 r1 d1 s1 px py:Int}{a1 t1:Rows}(h:z6 id1 k1 x1 y1 r1 a1 d1 s1 t1=true)(hp:g9 px py=true)(hk:k1=1∨k1=2∨k1=5):F9 k1 x1 y1 r1 a1 px py=decide (p7 x1 y1 px py≤r1*r1):=by
 have hd:=H7 h (by omega) (by omega)
 have:=a8H (x2:=px) (y2:=py) hd.1 hp (r:=r1) (by omega)
 unfold F9
 rw[if_neg (by omega),if_neg (by omega),this.1,this.2,b4j]
 simp
theorem d4C{id1 k1 x1 y1 r1 d1 s1 px py:Int}{a1 t1:Rows}(h:z6 id1 k1 x1 y1 r1 a1 d1 s1 t1=true)(hp:g9 px py=true)(hk:k1=3∨k1=6):F9 k1 x1 y1 r1 a1 px py=u7 BinOp.geq (O3 [.i px,.i py,.l a1]) 0:=by
 have ha:=a1n h hk
 have hE:P8 [.i px,.i py,.l a1]=0:=by
  have:a3A [.i px,.i py,.l a1]=true:=by show(g9 px py&&n7 a1)=true;rw[hp,ha];rfl
  unfold P8;rw[this];rfl
 unfold F9
 rw[if_neg (by omega),if_pos hk,hE,Bool.eq_iff_iff,x7,decide_eq_true_eq]
 simp only[p6,ge_iff_le,true_and]
def a4L(ds:List D):Bool:=F9 (c9 ds 1) (c9 ds 2) (c9 ds 3) (c9 ds 4) (d9 ds 5) (c9 ds 9) (c9 ds 10)
def a3c(ds:List D):Bool:=z6 (c9 ds 0) (c9 ds 1) (c9 ds 2) (c9 ds 3) (c9 ds 4) (d9 ds 5) (c9 ds 6) (c9 ds 7) (d9 ds 8)&&g9 (c9 ds 9) (c9 ds 10)
theorem d4O:GivesIf Tryz.prog 56 [v5,pt] (fun ds=>a3c ds=true) (fun ds=> .bool (a4L ds)):=by
 refine i7 B0 (by kernel_rfl) (fun ρ h=>a4b (Sees.of h 220)) (by kernel_rfl) c3D b8j (by decide) (fun W vals ds hr hok=> ?_)
 rw[a3c,Bool.and_eq_true] at hok
 obtain⟨hF,hp⟩:=hok
 simp only[b1N,g8,Nat.reduceBEq,Nat.reduceLT,Nat.reduceSub,d4z]
 have hk:=c5e hF
 have HD:=d4H hF hp
 have HA:=d4C hF hp
 have hd:=H7 hF
 have hL:a4L ds=F9 (c9 ds 1) (c9 ds 2) (c9 ds 3) (c9 ds 4) (d9 ds 5) (c9 ds 9) (c9 ds 10):=rfl
 rw[hL]
 clear hr hL hF
 have DD:c9 ds 1=1∨c9 ds 1=2∨c9 ds 1=5→Value.bool (u7 BinOp.leq (IntKind.i64.wrap (IntKind.i64.wrap (IntKind.i64.wrap (c9 ds 9-c9 ds 2)*IntKind.i64.wrap (c9 ds 9-c9 ds 2))+IntKind.i64.wrap (IntKind.i64.wrap (c9 ds 10-c9 ds 3)*IntKind.i64.wrap (c9 ds 10-c9 ds 3)))) (IntKind.i64.wrap (c9 ds 4*c9 ds 4)))=Value.bool (F9 (c9 ds 1) (c9 ds 2) (c9 ds 3) (c9 ds 4) (d9 ds 5) (c9 ds 9) (c9 ds 10)):=fun h=>by
  rw[HD h]
  obtain⟨q,r0,r1⟩:=hd (by omega) (by omega)
  rw[t9] at q hp
  have d1:=n9 hp.1 q.1 hp.1 q.1
  have d2:=n9 hp.2 q.2 hp.2 q.2
  have d3:=b6q (d:=c9 ds 4) (by omega)
  simp only[m6 hp.1 q.1,m6 hp.2 q.2,d1.1,d2.1,M8 hp.1 q.1 hp.1 q.1 hp.2 q.2 hp.2 q.2,d3.1]
  rfl
 refine⟨fun h=>DD (by omega),fun h1=>⟨fun h=>DD (by omega),fun h2=>⟨fun h=>DD (by omega),fun h5=>⟨fun h=>by rw[HA (by omega)],fun h3=>⟨fun h=>by rw[HA (by omega)],fun h6=> ?_⟩⟩⟩⟩⟩
 have h4:c9 ds 1=4:=by omega
 unfold F9
 rw[if_pos h4]
theorem b6Q(a b c d e:Int)(r:Rows)(f g:Int)(s:Rows)(x y:Int):a4L [.i a,.i b,.i c,.i d,.i e,.l r,.i f,.i g,.l s,.i x,.i y]=F9 b c d e r x y:=rfl
theorem b2c(a b c d e:Int)(r:Rows)(f g:Int)(s:Rows)(x y:Int):a3c [.i a,.i b,.i c,.i d,.i e,.l r,.i f,.i g,.l s,.i x,.i y]=(z6 a b c d e r f g s&&g9 x y):=rfl
theorem d6b:k8 Tryz.prog 38 [snd] (fun ds=> .bool (a1x ds)):=by
 refine GivesIf.all (i7 B0 (by kernel_rfl) (fun ρ h=>a4b (Sees.of h 220)) (by kernel_rfl) c2j b7O (by decide) (fun W vals ds hr _=> ?_))
 simp only[b1w,g8,Nat.reduceBEq,Nat.reduceLT,Nat.reduceSub,c6Q,O9]
 have hL:a1x ds=(z6 (c9 ds 0) 1 (c9 ds 1) (c9 ds 2) (c9 ds 3) [] (c9 ds 4) 0 []&&decide ((c9 ds 4≤c9 ds 5∧c9 ds 5≤100000)∧0≤c9 ds 6∧c9 ds 6≤10000000)):=rfl
 rw[hL]
 refine⟨fun h=> ?_,fun h=>by rw[h];rfl⟩
 rw[h,Bool.true_and]
 refine⟨fun a=>⟨fun b=>⟨fun c=>congrArg Value.bool ?_,fun c=>by rw[decide_eq_false (by omega)]⟩,fun b=>by rw[decide_eq_false (by omega)]⟩,fun a=>by rw[decide_eq_false (by omega)]⟩
 rw[Bool.eq_iff_iff]
 simp only[x7,p6,decide_eq_true_eq]
 omega
def a6C(ds:List D):Bool:=a6H (c9 ds 0) (c9 ds 1) (c9 ds 2) (c9 ds 3) (c9 ds 4) (c9 ds 5) (c9 ds 6)&&a6H (c9 ds 7) (c9 ds 8) (c9 ds 9) (c9 ds 10) (c9 ds 11) (c9 ds 12) (c9 ds 13)
def a4f(a b c d e f g:Int):List D:=[.i a,.i b,.i c,.i d,.i e,.i f,.i g]
def a8B(ds:List D):Bool:=V3 (a4f (c9 ds 0) (c9 ds 1) (c9 ds 2) (c9 ds 3) (c9 ds 4) (c9 ds 5) (c9 ds 6)) (a4f (c9 ds 7) (c9 ds 8) (c9 ds 9) (c9 ds 10) (c9 ds 11) (c9 ds 12) (c9 ds 13))
theorem d4M:GivesIf Tryz.prog 78 [snd,snd] (fun ds=>a6C ds=true) (fun ds=> .bool (a8B ds)):=by
 refine i7 B0 (by kernel_rfl) (fun ρ h=>a4b (Sees.of h 220)) (by kernel_rfl) c3M b8x (by decide) (fun W vals ds hr hok=> ?_)
 simp only[b0n,g8,Nat.reduceBEq,Nat.reduceLT,Nat.reduceSub]
 unfold a6C at hok
 obtain⟨h1,h2⟩:=Bool.and_eq_true_iff.1 hok
 have hB:a8B ds=(decide (c9 ds 13<c9 ds 6∨(c9 ds 6=c9 ds 13∧c9 ds 7<c9 ds 0))&&a0U (c9 ds 8) (c9 ds 9) (c9 ds 10) (c9 ds 1) (c9 ds 2) (c9 ds 3)):=by
  rw[Bool.eq_iff_iff,Bool.and_eq_true,decide_eq_true_eq]
  have hl:=d1v (y:=a4f (c9 ds 0) (c9 ds 1) (c9 ds 2) (c9 ds 3) (c9 ds 4) (c9 ds 5) (c9 ds 6)) (x:=a4f (c9 ds 7) (c9 ds 8) (c9 ds 9) (c9 ds 10) (c9 ds 11) (c9 ds 12) (c9 ds 13)) h1 h2
  rw[d3l] at hl
  exact hl
 rw[hB]
 have f1:=(R8 (x:=a4f (c9 ds 0) (c9 ds 1) (c9 ds 2) (c9 ds 3) (c9 ds 4) (c9 ds 5) (c9 ds 6)) h1).1
 have f2:=(R8 (x:=a4f (c9 ds 7) (c9 ds 8) (c9 ds 9) (c9 ds 10) (c9 ds 11) (c9 ds 12) (c9 ds 13)) h2).1
 obtain⟨p1,r1⟩:=H7 f1 (by decide) (by decide)
 obtain⟨p2,r2⟩:=H7 f2 (by decide) (by decide)
 have p1:g9 (c9 ds 1) (c9 ds 2)=true:=p1
 have p2:g9 (c9 ds 8) (c9 ds 9)=true:=p2
 have r1:0≤c9 ds 3∧c9 ds 3≤100000:=r1
 have r2:0≤c9 ds 10∧c9 ds 10≤100000:=r2
 rw[t9] at p1 p2
 have c1:=n9 p1.1 p2.1 p1.1 p2.1
 have c2:=n9 p1.2 p2.2 p1.2 p2.2
 have c3:=N7 (a:=c9 ds 3-c9 ds 10) (b:=c9 ds 3-c9 ds 10) (A:=100000) (B:=100000) (by omega) (by omega) (by omega) (by omega)
 have hd:(c9 ds 1-c9 ds 8)*(c9 ds 1-c9 ds 8)+(c9 ds 2-c9 ds 9)*(c9 ds 2-c9 ds 9)=p7 (c9 ds 8) (c9 ds 9) (c9 ds 1) (c9 ds 2):=by unfold p7;grind
 rw[m6 p1.1 p2.1,m6 p1.2 p2.2,c1.1,c2.1,M8 p1.1 p2.1 p1.1 p2.1 p1.2 p2.2 p1.2 p2.2,f8 (c9 ds 3-c9 ds 10) (by omega) (by omega),f8 ((c9 ds 3-c9 ds 10)*(c9 ds 3-c9 ds 10)) (by omega) (by omega),hd]
 clear hr hB hok h1 h2 f1 f2 c1 c2 c3 hd
 unfold a0U
 have F:∀ {P:Prop} [Decidable P] {b:Bool},¬P→Value.bool false=Value.bool (decide P&&b):=fun h=>by rw[decide_eq_false h];rfl
 have G:∀ {P:Prop} [Decidable P],P→c9 ds 10≤c9 ds 3→Value.bool (u7 BinOp.leq (p7 (c9 ds 8) (c9 ds 9) (c9 ds 1) (c9 ds 2)) ((c9 ds 3-c9 ds 10)*(c9 ds 3-c9 ds 10)))=Value.bool (decide P&&decide (c9 ds 10≤c9 ds 3∧p7 (c9 ds 8) (c9 ds 9) (c9 ds 1) (c9 ds 2)≤(c9 ds 3-c9 ds 10)*(c9 ds 3-c9 ds 10))):=fun h g=>by
  rw[decide_eq_true h,Bool.true_and]
  refine congrArg Value.bool ?_
  rw[Bool.eq_iff_iff,x7,decide_eq_true_eq]
  exact⟨fun q=>⟨g,q⟩,fun q=>q.2⟩
 have H:∀ {b:Bool} {Q:Prop} [Decidable Q],¬Q→Value.bool false=Value.bool (b&&decide Q):=fun h=>by rw[decide_eq_false h,Bool.and_false]
 exact⟨fun a=>F (by omega),fun a=>⟨fun b=>⟨fun c=>F (by omega),fun c=>⟨fun d=>G (by omega) d,fun d=>H (fun q=>d q.1)⟩⟩,fun b=>⟨fun d=>G (by omega) d,fun d=>H (fun q=>d q.1)⟩⟩⟩
def m9:Interp where
 fi n l:=B0.fi n l
 fb n l:=match n with | 220=>a8B l | 221=>a6C l | 222=>a4L l | 223=>a3c l | n=>B0.fb n l
 fd n l:=B0.fd n l
theorem a3T{ρ:Env}(h:Sees ρ m9 230):Sees ρ B0 220:=h.trans (by decide) fun n l hn=>by
 refine⟨?_,?_⟩
 ·
  rfl
 ·
  simp only[m9]
  split<;>first | omega | rfl
def d0M:=o7 [B7] fun al=> .ret (bV (bF 137 X7 al))
theorem c9r{ρ:Env}(h:Sees ρ m9 230):i9 Tryz.prog ρ 45 d0M:=
 k5 d6Q (fun _=>rfl) (fun al=>by simp only[iV,bV,V.s0,V.val,V2.val,S.val,S0.val,k7 (s:=137) (f:=X7) (fun l=>by rw[(h 137 l (by decide)).2];simp only[m9,B0,u5,y3,B1,t6,p9,v8,t7])];try rfl)
def c4Z:=o7 [snd] fun al=> .ret (bV (bF 138 a1x al))
theorem c4E{ρ:Env}(h:Sees ρ m9 230):i9 Tryz.prog ρ 38 c4Z:=
 k5 d6b (fun _=>rfl) (fun al=>by simp only[iV,bV,V.s0,V.val,V2.val,S.val,S0.val,k7 (s:=138) (f:=a1x) (fun l=>by rw[(h 138 l (by decide)).2];simp only[m9,B0,u5,y3,B1,t6,p9,v8,t7])];try rfl)
def c4B:=o7 [v5,pt] fun al=> .ob (.tru (bF 223 a3c al)) (.ret (bV (bF 222 a4L al)))
theorem c5U{ρ:Env}(h:Sees ρ m9 230):i9 Tryz.prog ρ 56 c4B:=by
 refine A0 d4O (fun al v hv=> ?_)
 obtain⟨ho,hv⟩:=hv
 obtain rfl:=g7 hv
 refine⟨rfl,?_,?_⟩
 ·have h1:(bF 223 a3c al).ev ρ=true:=ho
  rw[k7 (s:=223) (f:=a3c) (fun l=>by rw[(h 223 l (by decide)).2];simp only[m9])] at h1
  exact h1
 ·simp only[iV,bV,V.s0,V.val,V2.val,S.val,S0.val,k7 (s:=222) (f:=a4L) (fun l=>by rw[(h 222 l (by decide)).2];simp only[m9])];try rfl
def c6E:=o7 [snd,snd] fun al=> .ob (.tru (bF 221 a6C al)) (.ret (bV (bF 220 a8B al)))
theorem c6e{ρ:Env}(h:Sees ρ m9 230):i9 Tryz.prog ρ 78 c6E:=by
 refine A0 d4M (fun al v hv=> ?_)
 obtain⟨ho,hv⟩:=hv
 obtain rfl:=g7 hv
 refine⟨rfl,?_,?_⟩
 ·have h1:(bF 221 a6C al).ev ρ=true:=ho
  rw[k7 (s:=221) (f:=a6C) (fun l=>by rw[(h 221 l (by decide)).2];simp only[m9])] at h1
  exact h1
 ·simp only[iV,bV,V.s0,V.val,V2.val,S.val,S0.val,k7 (s:=220) (f:=a8B) (fun l=>by rw[(h 220 l (by decide)).2];simp only[m9])];try rfl
def b5K:Ct:=(45,d0M)::(56,c4B)::(38,c4Z)::(78,c6E)::b2h
theorem a6N{ρ:Env}(h:Sees ρ m9 230):CtOk Tryz.prog ρ b5K:= .cons (c9r h)<| .cons (c5U h)<| .cons (c4E h)<| .cons (c6e h)<|a4b (a3T h)
def b1m:TT j6:=
(.ite (.not (.fn 137 (.x (.var 1) .nil)))
 (.ret ((.v (.one (.z (.bool (.lit false))))),[],1))
 (.ite (.cmp .gtr (.ar .add .i64 (.len (.var 0)) (.len (.var 1))) (.lit 300))
 (.ret ((.v (.one (.z (.bool (.lit false))))),[],1))
 (.loop 0 2000 ⟨[(0,(.lit 0))],[],[]⟩
 (.ite (.cmp .lss (.var 2000) (.len (.var 0)))
 (.ob (.tru (.cmp .leq (.lit 0) (.var 2000)))
 (.ob (.tru (.cmp .lss (.var 2000) (.len (.var 0))))
 (.ite (.not (.fn 138 (.i (.rd (.var 0) (.var 2000) 0) (.i (.rd (.var 0) (.var 2000) 1) (.i (.rd (.var 0) (.var 2000) 2) (.i (.rd (.var 0) (.var 2000) 3) (.i (.rd (.var 0) (.var 2000) 4) (.i (.rd (.var 0) (.var 2000) 5) (.i (.rd (.var 0) (.var 2000) 6) .nil)))))))))
 (.ret ((.v (.one (.z (.bool (.lit false))))),[],3))
 (.ite (.cmp .gtr (.var 2000) (.lit 0))
 (.ob (.tru (.cmp .leq (.lit 0) (.var 2000)))
 (.ob (.tru (.cmp .lss (.var 2000) (.len (.var 0))))
 (.ob (.tru (.cmp .leq (.lit 0) (.ar .sub .i64 (.var 2000) (.lit 1))))
 (.ob (.tru (.cmp .lss (.ar .sub .i64 (.var 2000) (.lit 1)) (.len (.var 0))))
 (.ite (.cmp .leq (.rd (.var 0) (.var 2000) 0) (.rd (.var 0) (.ar .sub .i64 (.var 2000) (.lit 1)) 0))
 (.ret ((.v (.one (.z (.bool (.lit false))))),[],3))
 (.loop 1 3000 ⟨[(0,(.lit 0))],[],[]⟩
 (.ite (.cmp .lss (.var 3000) (.len (.var 1)))
 (.ob (.tru (.cmp .leq (.lit 0) (.var 3000)))
 (.ob (.tru (.cmp .lss (.var 3000) (.len (.var 1))))
 (.ob (.tru (.cmp .leq (.lit 0) (.var 2000)))
 (.ob (.tru (.cmp .lss (.var 2000) (.len (.var 0))))
 (.ite (.cmp .eql (.rd (.var 1) (.var 3000) 0) (.rd (.var 0) (.var 2000) 0))
 (.ret ((.v (.one (.z (.bool (.lit false))))),[],3))
 (.next 1 ⟨[(0,(.ar .add .i64 (.var 3000) (.lit 1)))],[],[]⟩))))))
 (.next 0 ⟨[(0,(.ar .add .i64 (.var 2000) (.lit 1)))],[],[]⟩))))))))
 (.loop 1 3000 ⟨[(0,(.lit 0))],[],[]⟩
 (.ite (.cmp .lss (.var 3000) (.len (.var 1)))
 (.ob (.tru (.cmp .leq (.lit 0) (.var 3000)))
 (.ob (.tru (.cmp .lss (.var 3000) (.len (.var 1))))
 (.ob (.tru (.cmp .leq (.lit 0) (.var 2000)))
 (.ob (.tru (.cmp .lss (.var 2000) (.len (.var 0))))
 (.ite (.cmp .eql (.rd (.var 1) (.var 3000) 0) (.rd (.var 0) (.var 2000) 0))
 (.ret ((.v (.one (.z (.bool (.lit false))))),[],3))
 (.next 1 ⟨[(0,(.ar .add .i64 (.var 3000) (.lit 1)))],[],[]⟩))))))
 (.next 0 ⟨[(0,(.ar .add .i64 (.var 2000) (.lit 1)))],[],[]⟩)))))))
 (.ret ((.v (.one (.z (.bool (.lit true))))),[],3))))))
set_option maxRecDepth 100000 in
theorem c1F:T.norm 0 (call Tryz.prog b5K (Lt.of []) 150 14 (i6 0 [o0]) [] 0) TT.ret=b1m:=by kernel_rfl
theorem b7K:b1m.low 1000=true:=by kernel_rfl
def b1C:TT j6:=
(.loop 0 2000 ⟨[(0,(.lit 0)),(2,(.lit 0)),(0,(.lit 0))],[],[(1,.nil)]⟩
 (.ite (.cmp .lss (.var 2002) (.len (.var 0)))
 (.loop 1 4000 ⟨[(1,(.lit 0))],[(0,(.lit true))],[]⟩
 (.ite (.cmp .lss (.var 4001) (.len (.var 0)))
 (.ite (.var 4000)
 (.ob (.tru (.cmp .leq (.lit 0) (.var 4001)))
 (.ob (.tru (.cmp .lss (.var 4001) (.len (.var 0))))
 (.ob (.tru (.cmp .leq (.lit 0) (.var 2002)))
 (.ob (.tru (.cmp .lss (.var 2002) (.len (.var 0))))
 (.ob (.tru (.fn 221 (.i (.rd (.var 0) (.var 4001) 0) (.i (.rd (.var 0) (.var 4001) 1) (.i (.rd (.var 0) (.var 4001) 2) (.i (.rd (.var 0) (.var 4001) 3) (.i (.rd (.var 0) (.var 4001) 4) (.i (.rd (.var 0) (.var 4001) 5) (.i (.rd (.var 0) (.var 4001) 6) (.i (.rd (.var 0) (.var 2002) 0) (.i (.rd (.var 0) (.var 2002) 1) (.i (.rd (.var 0) (.var 2002) 2) (.i (.rd (.var 0) (.var 2002) 3) (.i (.rd (.var 0) (.var 2002) 4) (.i (.rd (.var 0) (.var 2002) 5) (.i (.rd (.var 0) (.var 2002) 6) .nil))))))))))))))))
 (.next 1 ⟨[(1,(.ar .add .i64 (.var 4001) (.lit 1)))],[(0,(.not (.fn 220 (.i (.rd (.var 0) (.var 4001) 0) (.i (.rd (.var 0) (.var 4001) 1) (.i (.rd (.var 0) (.var 4001) 2) (.i (.rd (.var 0) (.var 4001) 3) (.i (.rd (.var 0) (.var 4001) 4) (.i (.rd (.var 0) (.var 4001) 5) (.i (.rd (.var 0) (.var 4001) 6) (.i (.rd (.var 0) (.var 2002) 0) (.i (.rd (.var 0) (.var 2002) 1) (.i (.rd (.var 0) (.var 2002) 2) (.i (.rd (.var 0) (.var 2002) 3) (.i (.rd (.var 0) (.var 2002) 4) (.i (.rd (.var 0) (.var 2002) 5) (.i (.rd (.var 0) (.var 2002) 6) .nil)))))))))))))))))],[]⟩))))))
 (.next 1 ⟨[(1,(.ar .add .i64 (.var 4001) (.lit 1)))],[(0,(.lit false))],[]⟩))
 (.ite (.var 4000)
 (.ob (.tru (.cmp .leq (.lit 0) (.var 2002)))
 (.ob (.tru (.cmp .lss (.var 2002) (.len (.var 0))))
 (.ob (.tru (.cmp .leq (.len (.app (.var 2001) (.app (.row (.i (.rd (.var 0) (.var 2002) 0) (.i (.rd (.var 0) (.var 2002) 1) (.i (.rd (.var 0) (.var 2002) 2) (.i (.rd (.var 0) (.var 2002) 3) (.i (.rd (.var 0) (.var 2002) 4) (.i (.rd (.var 0) (.var 2002) 5) (.i (.rd (.var 0) (.var 2002) 6) .nil)))))))) .nil))) (.lit 1000000)))
 (.next 0 ⟨[(0,(.plus (.var 2000) (.lit 1))),(2,(.ar .add .i64 (.var 2002) (.lit 1))),(0,(.plus (.var 2000) (.lit 1)))],[],[(1,(.app (.var 2001) (.app (.row (.i (.rd (.var 0) (.var 2002) 0) (.i (.rd (.var 0) (.var 2002) 1) (.i (.rd (.var 0) (.var 2002) 2) (.i (.rd (.var 0) (.var 2002) 3) (.i (.rd (.var 0) (.var 2002) 4) (.i (.rd (.var 0) (.var 2002) 5) (.i (.rd (.var 0) (.var 2002) 6) .nil)))))))) .nil)))]⟩))))
 (.next 0 ⟨[(0,(.var 2000)),(2,(.ar .add .i64 (.var 2002) (.lit 1))),(0,(.var 2000))],[],[(1,(.var 2001))]⟩))))
 (.ret ((.v (.one (.z (.own 2 (.var 2000))))),[(2,(.own 53 [(.int .i64),(.int .i64),(.int .i64),(.int .i64),(.int .i64),(.int .i64),(.int .i64)] (.var 2001) (.var 2000)))],5))))
set_option maxRecDepth 100000 in
theorem c3q:T.norm 0 (call Tryz.prog b5K (Lt.of []) 150 47 (i6 0 [o0]) [] 0) TT.ret=b1C:=by kernel_rfl
theorem b7Z:b1C.low 1000=true:=by kernel_rfl
def b5Z:TT j6:=
(.ite (.not (.fn 137 (.x (.var 0) .nil)))
 (.ret ((.tup [(.one (.z (.int .i64 (.lit 0)))),(.one (.z (.int .i64 (.lit 1))))]),[],1))
 (.ite (.not (.fn 3 (.i (.var 1) (.i (.var 2) .nil))))
 (.ret ((.tup [(.one (.z (.int .i64 (.lit 0)))),(.one (.z (.int .i64 (.lit 1))))]),[],1))
 (.loop 0 2000 ⟨[(0,(.lit 100000)),(1,(.lit 0))],[],[]⟩
 (.ite (.cmp .lss (.var 2001) (.len (.var 0)))
 (.ob (.tru (.cmp .leq (.lit 0) (.var 2001)))
 (.ob (.tru (.cmp .lss (.var 2001) (.len (.var 0))))
 (.ob (.tru (.fn 223 (.i (.rd (.var 0) (.var 2001) 0) (.i (.rd (.var 0) (.var 2001) 1) (.i (.rd (.var 0) (.var 2001) 2) (.i (.rd (.var 0) (.var 2001) 3) (.i (.rd (.var 0) (.var 2001) 4) (.x (.rd (.var 0) (.var 2001) 5) (.i (.rd (.var 0) (.var 2001) 6) (.i (.rd (.var 0) (.var 2001) 7) (.x (.rd (.var 0) (.var 2001) 8) (.i (.var 1) (.i (.var 2) .nil)))))))))))))
 (.ite (.fn 222 (.i (.rd (.var 0) (.var 2001) 0) (.i (.rd (.var 0) (.var 2001) 1) (.i (.rd (.var 0) (.var 2001) 2) (.i (.rd (.var 0) (.var 2001) 3) (.i (.rd (.var 0) (.var 2001) 4) (.x (.rd (.var 0) (.var 2001) 5) (.i (.rd (.var 0) (.var 2001) 6) (.i (.rd (.var 0) (.var 2001) 7) (.x (.rd (.var 0) (.var 2001) 8) (.i (.var 1) (.i (.var 2) .nil))))))))))))
 (.ob (.tru (.cmp .leq (.lit 0) (.var 2001)))
 (.ob (.tru (.cmp .lss (.var 2001) (.len (.var 0))))
 (.next 0 ⟨[(0,(.mn (.var 2000) (.rd (.var 0) (.var 2001) 6))),(1,(.ar .add .i64 (.var 2001) (.lit 1)))],[],[]⟩)))
 (.next 0 ⟨[(0,(.var 2000)),(1,(.ar .add .i64 (.var 2001) (.lit 1)))],[],[]⟩)))))
 (.ret ((.tup [(.one (.z (.int .i64 (.var 2000)))),(.one (.z (.int .i64 (.lit 0))))]),[],2))))))
set_option maxRecDepth 100000 in
theorem c6M:T.norm 0 (call Tryz.prog b5K (Lt.of []) 150 53 (i6 0 [B7,pt]) [] 0) TT.ret=b5Z:=by kernel_rfl
theorem c3i:b5Z.low 1000=true:=by kernel_rfl
theorem d0s(W:World)(ds l:List D):(f0 m9 W ds).fb 3 l=s9 l:=by simp only[f0,m9,B0,u5,y3,B1,t6,p9,v8,t7,I4,F4,V0,Z7,M4,C0,G1,C6,z9,w9,KI,KH,KG,KF,KE,KD,KC,KB,KA,K9,K8,K7,K6,K5,K]
theorem b9u(W:World)(ds l:List D):(f0 m9 W ds).fb 137 l=X7 l:=by simp only[f0,m9,B0,u5,y3,B1,t6,p9,v8,t7]
theorem d1Y(W:World)(ds l:List D):(f0 m9 W ds).fb 138 l=a1x l:=by simp only[f0,m9,B0,u5,y3,B1,t6,p9,v8,t7]
theorem d3e(W:World)(ds l:List D):(f0 m9 W ds).fb 220 l=a8B l:=by simp only[f0,m9]
theorem d3k(W:World)(ds l:List D):(f0 m9 W ds).fb 221 l=a6C l:=by simp only[f0,m9]
theorem b1W(W:World)(ds l:List D):(f0 m9 W ds).fb 222 l=a4L l:=by simp only[f0,m9]
theorem b1d(W:World)(ds l:List D):(f0 m9 W ds).fb 223 l=a3c l:=by simp only[f0,m9]
theorem b4s{r:Rows}:∀(f i:Nat) (last:Int),E6 r f i last=true→∀k,i≤k→k<i+f→Z8 r k=true
 | 0,_,_,_,k,h1,h2=>by omega
 | f+1,i,last,h,k,h1,h2=>by
   rw[E6,Bool.and_eq_true,Bool.and_eq_true] at h
   by_cases e:k=i
   ·subst e;exact h.1.1
   ·exact b4s f (i+1) _ h.2 k (by omega) (by omega)
theorem d7n:k8 Tryz.prog 53 [B7,pt] (fun ds=> .tuple #[.int .i64 (C9 ds),.int .i64 (C8 ds)]):=by
 refine GivesIf.all (i7 m9 (by kernel_rfl) (fun ρ h=>a6N (Sees.of h 230)) (by kernel_rfl) c6M c3i (by decide) (fun W vals ds hr _=> ?_))
 have hlen:=a2X hr
 simp only[b5Z,g8,Nat.reduceBEq,Nat.reduceLT,Nat.reduceSub,b9u,d0s,E5]
 have F:T5 ds=false→Value.tuple #[.int .i64 0,.int .i64 1]=Value.tuple #[.int .i64 (C9 ds),.int .i64 (C8 ds)]:=fun h=>by simp [C9,C8,h]
 refine⟨fun h=>F (by rw[T5,show G3 (d9 ds 0)=false from h];rfl),fun hl=>⟨fun h=>F (by rw[T5,h,Bool.and_false]),fun hp=> ?_⟩⟩
 have hl:G3 (d9 ds 0)=true:=hl
 have hO:T5 ds=true:=by rw[T5,hl,hp];rfl
 have T:∀m,W8 (d9 ds 0) (c9 ds 1) (c9 ds 2) (d9 ds 0).length 0 100000=m→Value.tuple #[.int .i64 m,.int .i64 0]=Value.tuple #[.int .i64 (C9 ds),.int .i64 (C8 ds)]:=fun m h'=>by simp [C9,C8,hO,h']
 have hrow:∀k,k<(d9 ds 0).length→Z8 (d9 ds 0) k=true:=fun k hk=>by
  unfold G3 at hl
  rw[Bool.and_eq_true] at hl
  exact b4s _ _ _ hl.1 k (by omega) (by omega)
 clear F hr hO hl
 generalize e0:d9 ds 0=r at*
 generalize e1:c9 ds 1=px at*
 generalize e2:c9 ds 2=py at*
 refine TT.sat_loop (fun v=>∃i:Nat,v.i 1=i∧i≤r.length∧W8 r px py (r.length-i) i (v.i 0)=W8 r px py r.length 0 100000) (fun v=>r.length-(v.i 1).toNat)
  ⟨0,by simp [j7,i8,E.ev],by omega,rfl⟩ (fun v hv=> ?_)
 obtain⟨i,i0,i1,i2⟩:=hv
 simp only[g8,Nat.reduceBEq,Nat.reduceLT,Nat.reduceSub,i0,e0,e1,e2,b1W,b1d,b6Q,b2c]
 refine⟨fun hc=> ?_,fun hc=> ?_⟩
 ·have hi:i<r.length:=by omega
  obtain⟨f,hf⟩:∃f,r.length-i=f+1:=⟨r.length-i-1,by omega⟩
  have hf':r.length-(i+1)=f:=by omega
  rw[hf,W8] at i2
  rw[f8 ((i:Int)+1) (by omega) (by omega)]
  have hfr:z6 (lg r i 0) (lg r i 1) (lg r i 2) (lg r i 3) (lg r i 4) (lr r i 5) (lg r i 6) (lg r i 7) (lr r i 8)=true:=hrow i hi
  have N:∀m,(if lg r i 6<v.i 0∧S5 r i px py=true then lg r i 6 else v.i 0)=m→(∃j:Nat,(i:Int)+1=j∧j≤r.length∧W8 r px py (r.length-j) j m=W8 r px py r.length 0 100000)∧r.length-((i:Int)+1).toNat<r.length-(i:Int).toNat:=
   fun m h=>⟨⟨i+1,rfl,by omega,by rw[hf',←i2,h]⟩,by omega⟩
  rw[hfr,hp]
  refine⟨by omega,by omega,by simp,fun c=>⟨by omega,by omega,N _ ?_⟩,fun c=>N _ ?_⟩
  ·have hcv:S5 r i px py=true:=c
   rw[hcv]
   simp only[and_true]
   have m1:=Int.min_def (v.i 0) (lg r i 6)
   rw[m1]
   split<;>split<;>omega
  ·have hcv:S5 r i px py=false:=c
   rw[hcv]
   simp
 ·have h0:r.length-i=0:=by omega
  rw[h0,W8] at i2
  exact T _ i2.symm
theorem b2x{ρ:Env}{l:NL}{ds:List D}{w0:World}{ws:Mem}{s:S0}{x:X}(h1:K3 ws l.e l.ks s=some x)(h2:x.ev ρ=l.rows ds):
 ∃s' x',K3 ws l.e l.ks s'=some x'∧x'.ev ρ=l.rows ds∧∀(σ:As) u,ρ.w=w0→(V.v (.one (.z s))).den ρ σ u→∃v,s'.den ρ σ v∧u=v:=⟨s,x,h1,h2,fun σ u _ hu=>⟨u,hu,rfl⟩⟩
set_option maxHeartbeats 1000000 in
theorem d4l:k8 Tryz.prog 14 [o0] (fun ds=> .bool (I6 ds)):=by
 refine GivesIf.all (i7 m9 (by kernel_rfl) (fun ρ h=>a6N (Sees.of h 230)) (by kernel_rfl) c1F b7K (by decide) (fun W vals ds hr _=> ?_))
 obtain⟨n0,n1⟩:=a3E hr
 simp only[b1m,g8,Nat.reduceBEq,Nat.reduceLT,Nat.reduceSub,b9u,b2J]
 have hO:I6 ds=q9 (d9 ds 0) (d9 ds 1):=rfl
 rw[hO]
 clear hO hr
 generalize e0:d9 ds 0=s at*
 generalize e1:d9 ds 1=F at*
 have N:¬q9 s F=true→Value.bool false=Value.bool (q9 s F):=fun h=>by rw[Bool.eq_false_iff.2 h]
 rw[f8 ((s.length:Int)+F.length) (by omega) (by omega)]
 refine⟨fun h=>N (fun q=>by rw[(z7.1 q).1.1] at h;cases h),fun hL=>⟨fun h=>N (fun q=>by have:=(z7.1 q).1.2;omega),fun h300=> ?_⟩⟩
 refine TT.sat_loop (fun v=>∃i:Nat,v.i 0=i∧i≤s.length∧(∀k (hk:k<s.length),k<i→P0 s[k]=true∧∀f∈F,cI f 0≠cI s[k] 0)∧∀k (hk:k+1<s.length),k+1<i→cI s[k] 0<cI s[k+1] 0) (fun v=>s.length-(v.i 0).toNat)
  ⟨0,by simp [j7,i8,E.ev],by omega,fun k hk h=>by omega,fun k hk h=>by omega⟩ (fun v hv=> ?_)
 obtain⟨i,i0,i1,i2,i3⟩:=hv
 simp only[g8,Nat.reduceBEq,Nat.reduceLT,Nat.reduceSub,i0,e0,e1,d1Y,b2D]
 refine⟨fun hc=> ?_,fun hc=> ?_⟩
 ·have hi:i<s.length:=by omega
  simp only[j8 hi]
  refine⟨by omega,by omega,fun q=>N (fun b=> ?_),fun hs=>⟨fun h0=>⟨by omega,by omega,?_⟩,fun h0=> ?_⟩⟩
  ·have:=((z7.1 b).2.1 _ (List.getElem_mem hi)).1
   unfold P0 at this
   rw[this] at q
   cases q
  ·obtain⟨j,hj⟩:∃j,i=j+1:=⟨i-1,by omega⟩
   have ew:IntKind.i64.wrap ((i:Int)-1)=(j:Int):=by rw[f8 _ (by omega) (by omega)];omega
   have hjs:j<s.length:=by omega
   rw[ew]
   simp only[j8 hjs]
   refine⟨by omega,by omega,fun q=>N (fun b=> ?_),fun q=> ?_⟩
   ·have h1:=List.pairwise_iff_getElem.1 (z7.1 b).2.2.1 j i hjs hi (by omega)
    omega
   have h3:∀k (hk:k+1<s.length),k+1<i+1→cI s[k] 0<cI s[k+1] 0:=fun k hk hki=>by
    by_cases e:k=j
    ·subst e
     have:s[i]=s[k+1]:=by congr 1
     rw[←this]
     omega
    ·exact i3 k hk (by omega)
   refine TT.sat_loop (fun u=>∃j:Nat,u.i 0=j∧j≤F.length∧∀k (hk:k<F.length),k<j→cI F[k] 0≠cI s[i] 0) (fun u=>F.length-(u.i 0).toNat)
    ⟨0,by simp [j7,i8,E.ev],by omega,fun k hk h=>by omega⟩ (fun u hu=> ?_)
   obtain⟨j,j0,j1,j2⟩:=hu
   simp only[g8,Nat.reduceBEq,Nat.reduceLT,Nat.reduceSub,i0,j0,e0,e1,show((0:Nat)=1)=False from by simp,if_false]
   refine⟨fun hj=> ?_,fun hj=> ?_⟩
   ·have hjF:j<F.length:=by omega
    simp only[j8 hi,j8 hjF]
    refine⟨by omega,by omega,by omega,by omega,fun q=>N (fun b=>(z7.1 b).2.2.2 _ (List.getElem_mem hi) _ (List.getElem_mem hjF) q),fun q=>⟨⟨j+1,by rw[f8 _ (by omega) (by omega)];omega,by omega,fun k hk hkj=> ?_⟩,by rw[f8 ((j:Int)+1) (by omega) (by omega)];omega⟩⟩
    by_cases e:k=j
    ·subst e;exact q
    ·exact j2 k hk (by omega)
   ·have hjF:j=F.length:=by omega
    rw[f8 ((i:Int)+1) (by omega) (by omega)]
    refine⟨⟨i+1,rfl,by omega,fun k hk hki=> ?_,h3⟩,by omega⟩
    by_cases e:k=i
    ·subst e
     refine⟨hs,fun f hf=> ?_⟩
     obtain⟨m,hm,rfl⟩:=List.getElem_of_mem hf
     exact j2 m hm (by omega)
    ·exact i2 k hk (by omega)
  ·have h3:∀k (hk:k+1<s.length),k+1<i+1→cI s[k] 0<cI s[k+1] 0:=fun k hk hki=>by omega
   refine TT.sat_loop (fun u=>∃j:Nat,u.i 0=j∧j≤F.length∧∀k (hk:k<F.length),k<j→cI F[k] 0≠cI s[i] 0) (fun u=>F.length-(u.i 0).toNat)
    ⟨0,by simp [j7,i8,E.ev],by omega,fun k hk h=>by omega⟩ (fun u hu=> ?_)
   obtain⟨j,j0,j1,j2⟩:=hu
   simp only[g8,Nat.reduceBEq,Nat.reduceLT,Nat.reduceSub,i0,j0,e0,e1,show((0:Nat)=1)=False from by simp,if_false]
   refine⟨fun hj=> ?_,fun hj=> ?_⟩
   ·have hjF:j<F.length:=by omega
    simp only[j8 hi,j8 hjF]
    refine⟨by omega,by omega,by omega,by omega,fun q=>N (fun b=>(z7.1 b).2.2.2 _ (List.getElem_mem hi) _ (List.getElem_mem hjF) q),fun q=>⟨⟨j+1,by rw[f8 _ (by omega) (by omega)];omega,by omega,fun k hk hkj=> ?_⟩,by rw[f8 ((j:Int)+1) (by omega) (by omega)];omega⟩⟩
    by_cases e:k=j
    ·subst e;exact q
    ·exact j2 k hk (by omega)
   ·have hjF:j=F.length:=by omega
    rw[f8 ((i:Int)+1) (by omega) (by omega)]
    refine⟨⟨i+1,rfl,by omega,fun k hk hki=> ?_,h3⟩,by omega⟩
    by_cases e:k=i
    ·subst e
     refine⟨hs,fun f hf=> ?_⟩
     obtain⟨m,hm,rfl⟩:=List.getElem_of_mem hf
     exact j2 m hm (by omega)
    ·exact i2 k hk (by omega)
 ·have hi:i=s.length:=by omega
  have hS:q9 s F=true:=by
   refine z7.2 ⟨⟨hL,by omega⟩,fun x hx=> ?_,I5.1 (b5d fun k hk=> ?_),fun x hx=> ?_⟩
   ·obtain⟨k,hk,rfl⟩:=List.getElem_of_mem hx
    have h1:=(i2 k hk (by omega)).1
    exact⟨h1,by have:=(a1w.1 (R8 h1).1).1.1;omega⟩
   ·rw[j8 (show k<s.length by omega),j8 hk]
    exact i3 k hk (by omega)
   ·obtain⟨k,hk,rfl⟩:=List.getElem_of_mem hx
    exact(i2 k hk (by omega)).2
  rw[hS]
set_option maxHeartbeats 1000000 in
theorem d3C:B9 Tryz.prog 47 [o0] [a0Y] (fun ds=>I6 ds=true) (fun _ _ vs u=>∃v,vs=[v]∧u=v):=by
 refine H0 m9 (by kernel_rfl) (fun ρ h=>a6N (Sees.of h 230)) (by kernel_rfl) c3q b7Z (by decide) (fun w0 vals ds hr hok=> ?_)
 have hrow:=a0G hr
 have hR:a0Y.rows ds=(d9 ds 0).filter fun x=> !z5 (d9 ds 0) x:=rfl
 have hok:q9 (d9 ds 0) (d9 ds 1)=true:=hok
 clear hr
 simp only[b1C,g8,Nat.reduceBEq,Nat.reduceLT,Nat.reduceSub]
 generalize e0:d9 ds 0=s at*
 generalize e1:d9 ds 1=F at*
 obtain⟨⟨_,hlen⟩,hsnd,_,_⟩:=z7.1 hok
 have st:∀(j:Nat) (hj:j<s.length),(s.take (j+1)).filter (fun x=> !z5 s x)=(s.take j).filter (fun x=> !z5 s x)++(if z5 s s[j]=false then [s[j]] else []):=fun j hj=>by
  rw[a7w hj]
  congr 1
  cases z5 s s[j]<;>rfl
 refine TT.sat_loop (fun v=>∃i:Nat,v.i 2=i∧i≤s.length∧v.d 1=(s.take i).filter fun x=> !z5 s x) (fun v=>s.length-(v.i 2).toNat)
  ⟨0,by simp [j7,i8,E.ev],by omega,by simp [D4,i8,X.ev]⟩ (fun v hv=> ?_)
 obtain⟨i,i0,i1,i2⟩:=hv
 simp only[g8,Nat.reduceBEq,Nat.reduceLT,Nat.reduceSub,i0,i2,e0,e1]
 refine⟨fun hc=> ?_,fun hc=> ?_⟩
 ·have hi:i<s.length:=by omega
  have r7i:=hrow _ (List.getElem_mem hi)
  refine TT.sat_loop (fun u=>∃k:Nat,u.i 1=k∧k≤s.length∧(u.b 0=true↔∀n (hn:n<s.length),n<k→V3 s[n] s[i]=false)) (fun u=>s.length-(u.i 1).toNat)
   ⟨0,by simp [j7,i8,E.ev],by omega,by simp [a9h,i8,B.ev]⟩ (fun u hu=> ?_)
  obtain⟨k,k0,k1,k2⟩:=hu
  simp only[g8,Nat.reduceBEq,Nat.reduceLT,Nat.reduceSub,i0,i2,k0,e0,e1,d3e,d3k,show((0:Nat)=1)=False from by simp,if_false]
  refine⟨fun hk=> ?_,fun hk=> ?_⟩
  ·have hks:k<s.length:=by omega
   have r7k:=hrow _ (List.getElem_mem hks)
   simp only[j8 hi,j8 hks]
   have hrep:a8B [.i (cI s[k] 0),.i (cI s[k] 1),.i (cI s[k] 2),.i (cI s[k] 3),.i (cI s[k] 4),.i (cI s[k] 5),.i (cI s[k] 6),.i (cI s[i] 0),.i (cI s[i] 1),.i (cI s[i] 2),.i (cI s[i] 3),.i (cI s[i] 4),.i (cI s[i] 5),.i (cI s[i] 6)]=V3 s[k] s[i]:=by
    show V3 [.i (cI s[k] 0),.i (cI s[k] 1),.i (cI s[k] 2),.i (cI s[k] 3),.i (cI s[k] 4),.i (cI s[k] 5),.i (cI s[k] 6)] [.i (cI s[i] 0),.i (cI s[i] 1),.i (cI s[i] 2),.i (cI s[i] 3),.i (cI s[i] 4),.i (cI s[i] 5),.i (cI s[i] 6)]=V3 s[k] s[i]
    rw[←r7k,←r7i]
   have hro:a6C [.i (cI s[k] 0),.i (cI s[k] 1),.i (cI s[k] 2),.i (cI s[k] 3),.i (cI s[k] 4),.i (cI s[k] 5),.i (cI s[k] 6),.i (cI s[i] 0),.i (cI s[i] 1),.i (cI s[i] 2),.i (cI s[i] 3),.i (cI s[i] 4),.i (cI s[i] 5),.i (cI s[i] 6)]=true:=by
    show(P0 s[k]&&P0 s[i])=true
    rw[(hsnd _ (List.getElem_mem hks)).1,(hsnd _ (List.getElem_mem hi)).1];rfl
   rw[hrep,hro,f8 ((k:Int)+1) (by omega) (by omega)]
   refine⟨fun hb=>⟨by omega,by omega,by omega,by omega,rfl,⟨k+1,rfl,by omega,?_⟩,by omega⟩,fun hb=>⟨⟨k+1,rfl,by omega,?_⟩,by omega⟩⟩
   ·constructor
    ·intro q n hn hnk
     by_cases e:n=k
     ·subst e;simpa using q
     ·exact k2.1 hb n hn (by omega)
    ·intro q
     rw[q k hks (by omega)]
   ·constructor
    ·intro q;cases q
    ·intro q
     have:=k2.2 fun n hn hnk=>q n hn (by omega)
     rw[this] at hb;cases hb
  ·have hks:k=s.length:=by omega
   simp only[j8 hi]
   have h7:[D.i (cI s[i] 0),.i (cI s[i] 1),.i (cI s[i] 2),.i (cI s[i] 3),.i (cI s[i] 4),.i (cI s[i] 5),.i (cI s[i] 6)]=s[i]:=r7i.symm
   rw[h7,List.append_nil,f8 ((i:Int)+1) (by omega) (by omega)]
   have hfl:=List.length_filter_le (fun x=> !z5 s x) (s.take i)
   rw[List.length_take] at hfl
   refine⟨fun hb=>⟨by omega,by omega,?_,⟨i+1,rfl,by omega,?_⟩,by omega⟩,fun hb=>⟨⟨i+1,rfl,by omega,?_⟩,by omega⟩⟩
   ·rw[List.length_append,List.length_singleton];omega
   ·rw[st i hi,if_pos (b0P fun n hn=>k2.1 hb n hn (by omega))]
   ·have hr:z5 s s[i]=true:=by
     rcases Bool.eq_false_or_eq_true (z5 s s[i]) with h | h
     ·exact h
     ·have h':=c8y.1 h
      rw[k2.2 fun n hn _=>h' _ (List.getElem_mem hn)] at hb
      cases hb
    rw[st i hi,hr];simp
 ·have hi:i=s.length:=by omega
  refine b2x (x:= .var 2001) (by kernel_rfl) ?_
  rw[hR]
  simp only[X.ev,B6,g8,Nat.reduceBEq,Nat.reduceLT,Nat.reduceSub,i2,hi,List.take_length]
def b6Z:=o7 [o0] fun al=> .ret (bV (bF 150 I6 al))
theorem b2Z{ρ:Env}(h:Sees ρ m9 230):i9 Tryz.prog ρ 14 b6Z:=
 k5 d4l (fun _=>rfl) (fun al=>by simp only[iV,bV,V.s0,V.val,V2.val,S.val,S0.val,k7 (s:=150) (f:=I6) (fun l=>by rw[(h 150 l (by decide)).2];simp only[m9,B0,u5,y3,B1,t6,p9,v8])];try rfl)
def d0S:=o7 [B7,pt] fun al=> .ret (.tup [.one (w6 132 C9 al),.one (w6 133 C8 al)])
theorem c8m{ρ:Env}(h:Sees ρ m9 230):i9 Tryz.prog ρ 53 d0S:=
 k5 d7n (fun _=>rfl) (fun al=>by simp only[V.val,V2.val,S.val,S0.val,w6,G8,List.map_cons,List.map_nil,o6 (s:=132) (f:=C9) (fun l=>by rw[(h 132 l (by decide)).1];simp only[m9,B0,u5,y3,B1,t6,p9,v8,t7,I4]),o6 (s:=133) (f:=C8) (fun l=>by rw[(h 133 l (by decide)).1];simp only[m9,B0,u5,y3,B1,t6,p9,v8,t7,I4])];try rfl)
def d4Y(al:AL):List Ob:=[.tru (.fn 150 al)]
def c4Q:=a9r [o0] a0Y d4Y
theorem c5G{ρ:Env}(h:Sees ρ m9 230)(hd:SeesD ρ m9 7):i9 Tryz.prog ρ 47 c4Q:=by
 refine a7H d3C (by decide) (fun al ho=> ?_) (fun a=>(hd 0 a (by decide)).trans rfl)
 have h1:=ho _ (List.mem_singleton.2 rfl)
 simp only[Ob.ok,B.ev] at h1
 rw[(h 150 _ (by decide)).2] at h1
 exact h1
def b2e:Ct:=(14,b6Z)::(47,c4Q)::(53,d0S)::b5K
theorem a3X{ρ:Env}(h:Sees ρ m9 230)(hd:SeesD ρ m9 7):CtOk Tryz.prog ρ b2e:= .cons (b2Z h)<| .cons (c5G h hd)<| .cons (c8m h)<|a6N h
end Go.Proofs.YtldbejmgalhdaaaGreat
