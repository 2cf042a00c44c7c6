/- MQ, merged: TWd, Wg. -/
import Derived.Test.YtcjaembdcfppfaaGreatMO
import Derived.Test.YtcjaembdcfppfaaGreatMV
set_option linter.unusedSimpArgs false
set_option linter.unusedVariables false
namespace Go.Proofs.YtcjaembdcfppfaaGreat
open Go.RowKit
def b2O:TT j4:=
(.ite (.cmp .gtr (.len (.var 0)) (.lit 300))
 (.ret ((.v (.one (.z (.bool (.lit false))))),[],0))
 (.loop 0 1000 ⟨[(0,(.lit 0))],[],[]⟩
 (.ite (.cmp .lss (.var 1000) (.len (.var 0)))
 (.ob (.tru (.cmp .leq (.lit 0) (.var 1000)))
 (.ob (.tru (.cmp .lss (.var 1000) (.len (.var 0))))
 (.ite (.not (.fn 76 (.i (.rd (.var 0) (.var 1000) 0) (.i (.rd (.var 0) (.var 1000) 1) (.i (.rd (.var 0) (.var 1000) 2) (.i (.rd (.var 0) (.var 1000) 3) (.i (.rd (.var 0) (.var 1000) 4) (.x (.rd (.var 0) (.var 1000) 5) (.i (.rd (.var 0) (.var 1000) 6) (.i (.rd (.var 0) (.var 1000) 7) (.x (.rd (.var 0) (.var 1000) 8) .nil)))))))))))
 (.ret ((.v (.one (.z (.bool (.lit false))))),[],1))
 (.ite (.cmp .gtr (.var 1000) (.lit 0))
 (.ob (.tru (.cmp .leq (.lit 0) (.var 1000)))
 (.ob (.tru (.cmp .lss (.var 1000) (.len (.var 0))))
 (.ob (.tru (.cmp .leq (.lit 0) (.ar .sub .i64 (.var 1000) (.lit 1))))
 (.ob (.tru (.cmp .lss (.ar .sub .i64 (.var 1000) (.lit 1)) (.len (.var 0))))
 (.ite (.cmp .leq (.rd (.var 0) (.var 1000) 0) (.rd (.var 0) (.ar .sub .i64 (.var 1000) (.lit 1)) 0))
 (.ret ((.v (.one (.z (.bool (.lit false))))),[],1))
 (.next 0 ⟨[(0,(.ar .add .i64 (.var 1000) (.lit 1)))],[],[]⟩))))))
 (.next 0 ⟨[(0,(.ar .add .i64 (.var 1000) (.lit 1)))],[],[]⟩)))))
 (.ret ((.v (.one (.z (.bool (.lit true))))),[],1)))))
def c5H:List (Nat×St):=[
(0,⟨(List.append [(.v (.one (.z (.ext [(.int .i64),(.int .i64),(.int .i64),(.int .i64),(.int .i64),(.sl [(.int .i64),(.int .i64)]),(.int .i64),(.int .i64),(.sl [(.int .i64),(.int .i64),(.int .i64),(.int .i64),(.int .i64),(.int .i64)])] (.var 0) false)))),(.v (.one (.z .any))),(.v (.one (.z (.bool (.lit false))))),(.v (.one (.z (.int .i64 (.var 1000))))),(.v (.one (.z (.ext [(.int .i64),(.int .i64),(.int .i64),(.int .i64),(.int .i64),(.sl [(.int .i64),(.int .i64)]),(.int .i64),(.int .i64),(.sl [(.int .i64),(.int .i64),(.int .i64),(.int .i64),(.int .i64),(.int .i64)])] (.var 0) false)))),(.v (.one (.z (.int .i64 (.len (.var 0)))))),(.v (.one (.z (.bool (.cmp .gtr (.len (.var 0)) (.lit 300))))))] (List.replicate 30 V.any)),[],1,[]⟩)]
def c4u:List (FuncId×Nat×Nat×St):=[
]
set_option maxRecDepth 100000 in
theorem c1N:T.norm 0 (call Tryz.prog c4a ⟨Lt.un (Lt.of []),c5H,c4u⟩ 100 36 (g7 0 [G4]) [] 0) TT.ret=b2O:=by kernel_rfl
theorem b7U:b2O.low 1000=true:=by kernel_rfl
theorem d1d(W:World)(ds l:List D):(a9 KWc W ds).fb 76 l=G1 l:=by simp only[a9,KWc,KWb,R2,KX,KW,KV,KU,KT,KR,KG,KF]
theorem b8D{r:Rows}{i:Nat}(h:W6 r i=true):1≤lg r i 0:=(a1a.mp h).1.1
set_option maxHeartbeats 1000000 in
theorem c6U:m8 Tryz.prog 36 [G4] (fun ds=> .bool (M7 ds)):=by
 refine GivesIf.all (i7 KWc (by kernel_rfl) (fun ρ h=>b6o (Sees.of h 132)) (by kernel_rfl) c1N b7U (by decide) (fun W vals ds hr _=> ?_))
 have hlen:=a4P hr
 simp only[b2O,g9,Nat.reduceBEq,Nat.reduceLT,Nat.reduceSub]
 have hO:M7 ds=L7 (b9 ds 0):=rfl
 rw[hO]
 clear hO hr
 generalize e0:b9 ds 0=r at*
 refine⟨fun h=>by rw[L7,decide_eq_false (p:=r.length≤300) (by omega),Bool.and_false],fun h300=> ?_⟩
 have hL:L7 r=H8 r r.length 0 0:=by rw[L7,decide_eq_true (p:=r.length≤300) (by omega),Bool.and_true]
 rw[hL]
 refine TT.sat_loop (fun v=>∃i:Nat,v.i 0=i∧i≤r.length∧(if i=0 then H8 r r.length 0 0 else H8 r (r.length-i) i (lg r (i-1:Nat) 0))=H8 r r.length 0 0) (fun v=>r.length-(v.i 0).toNat)
  ⟨0,by simp [j5,i8,E.ev],by omega,rfl⟩ (fun v hv=> ?_)
 obtain⟨i,i0,i1,i2⟩:=hv
 simp only[g9,Nat.reduceBEq,Nat.reduceLT,Nat.reduceSub,i0,e0,d1d,a5t,a3Y]
 refine⟨fun hc=> ?_,fun hc=> ?_⟩
 ·have hi:i<r.length:=by omega
  obtain⟨f,hf⟩:∃f,r.length-i=f+1:=⟨r.length-i-1,by omega⟩
  have hf':r.length-(i+1)=f:=by omega
  have N:H8 r f (i+1) (lg r i 0)=H8 r r.length 0 0→(∃j:Nat,IntKind.i64.wrap ((i:Int)+1)=j∧j≤r.length∧(if j=0 then H8 r r.length 0 0 else H8 r (r.length-j) j (lg r (j-1:Nat) 0))=H8 r r.length 0 0)∧r.length-(IntKind.i64.wrap ((i:Int)+1)).toNat<r.length-(i:Int).toNat:=fun h=>by
   rw[b8 ((i:Int)+1) (by omega) (by omega)]
   exact⟨⟨i+1,rfl,by omega,by rw[if_neg (by omega),hf',Nat.add_sub_cancel];exact h⟩,by omega⟩
  by_cases z:i=0
  ·subst z
   have hf0:r.length=f+1:=by omega
   have e:H8 r r.length 0 0=((W6 r 0&&decide (0<lg r (0:Nat) 0))&&H8 r f 1 (lg r (0:Nat) 0)):=by rw[hf0,H8]
   refine⟨by omega,by omega,fun h=> ?_,fun h=>⟨fun g=>by omega,fun _=>N ?_⟩⟩
   ·rw[e,h];rfl
   ·rw[e,h,decide_eq_true (by have:=b8D h;omega)];rfl
  ·rw[if_neg z,hf,H8] at i2
   have ew:IntKind.i64.wrap ((i:Int)-1)=((i-1:Nat):Int):=by rw[b8 ((i:Int)-1) (by omega) (by omega)];omega
   rw[ew]
   refine⟨by omega,by omega,fun h=> ?_,fun h=>⟨fun _=>⟨by omega,by omega,by omega,by omega,fun g=> ?_,fun g=>N ?_⟩,fun g=>by omega⟩⟩
   ·rw[←i2,h];rfl
   ·rw[←i2,h,decide_eq_false (by omega)];rfl
   ·rw[←i2,h,decide_eq_true (p:=lg r (i-1:Nat) 0<lg r i 0) (by omega)];rfl
 ·have hi:i=r.length:=by omega
  subst hi
  rw[Nat.sub_self] at i2
  split at i2
  ·rename_i z
   rw[←i2,z];rfl
  ·rw[←i2];rfl
def KWd:Interp where
 fi n l:=KWc.fi n l
 fb n l:=match n with | 132=>hoR l | 133=>M7 l | 134=>sameL l | n=>KWc.fb n l
 fd _ _:=[]
theorem c8I{ρ:Env}(h:Sees ρ KWd 140):Sees ρ KWc 132:=h.trans (by decide) fun n l hn=>by
 refine⟨?_,?_⟩
 ·
  rfl
 ·
  simp only[KWd]
  split<;>first | omega | rfl
def c7k:=u7 [G4] fun al=> .ret (bV (bF 133 M7 al))
theorem c6t{ρ:Env}(h:Sees ρ KWd 140):i9 Tryz.prog ρ 36 c7k:=
 j7 c6U (fun _=>rfl) (fun al=>by simp only[iV,bV,V.s0,V.val,V2.val,S.val,S0.val,m9 (s:=133) (f:=M7) (fun l=>by rw[(h 133 l (by decide)).2];simp only[KWd])];try rfl)
def d2N:Ct:=(36,c7k)::c4a
theorem c8J{ρ:Env}(h:Sees ρ KWd 140):CtOk Tryz.prog ρ d2N:= .cons (c6t h)<|(b6o (c8I h))
end Go.Proofs.YtcjaembdcfppfaaGreat
