/- MF, merged: Co0, TCo, Co, TCp, Cq, Cr, Cs, TCu, Cu, TCt, Ct, TCv, Cv, TCw, Cw, TCx, Cx, TCy, Cy, TCz, Cz. -/
import Derived.Test.YtcjaembdcfppfaaGreatMC
set_option linter.unusedSimpArgs false
set_option linter.unusedVariables false
namespace Go.Proofs.YtcjaembdcfppfaaGreat
open Go.RowKit
def I8:Interp:= { fi:=fun _ _=>0,fb:=fun n l=>match n with | 1=>u0 l | 3=>w7 l | 4=>onL l | 5=>D9 l | 6=>G8 l | _=>false,fd:=fun _ _=>[] }
def ct8:Ct:=[(53,a1M),(132,c1Q),(137,a9f)]
theorem c2Y{ρ:Env}(h:ρ.has I8):CtOk Tryz.prog ρ ct8:=
 .cons (a4o (fun l=>by rw[h.2.1];rfl))<| .cons (c3o (fun l=>by rw[h.2.1];rfl) (fun l=>by rw[h.2.1];rfl))<| .cons (b7g (fun l=>by rw[h.2.1];rfl) (fun l=>by rw[h.2.1];rfl)) .nil
def b9c:TT j4:=
(.ite (.not (.fn 3 (.i (.var 0) (.i (.var 1) .nil))))
 (.ret ((.tup [(.one (.z (.bool (.lit false)))),(.one (.z (.int .i64 (.lit 1))))]),[],5))
 (.ite (.not (.fn 3 (.i (.var 2) (.i (.var 3) .nil))))
 (.ret ((.tup [(.one (.z (.bool (.lit false)))),(.one (.z (.int .i64 (.lit 1))))]),[],6))
 (.ite (.not (.fn 3 (.i (.var 4) (.i (.var 5) .nil))))
 (.ret ((.tup [(.one (.z (.bool (.lit false)))),(.one (.z (.int .i64 (.lit 1))))]),[],7))
 (.ob (.tru (.fn 1 (.i (.var 0) (.i (.var 1) (.i (.var 2) (.i (.var 3) (.i (.var 4) (.i (.var 5) .nil))))))))
 (.ret ((.tup [(.one (.z (.bool (.fn 4 (.i (.var 0) (.i (.var 1) (.i (.var 2) (.i (.var 3) (.i (.var 4) (.i (.var 5) .nil)))))))))),(.one (.z (.int .i64 (.lit 0))))]),[],7))))))
set_option maxRecDepth 100000 in
theorem c6n:T.norm 0 (call Tryz.prog ct8 lt1 100 173 (g7 0 [pt,pt,pt]) [] 0) TT.ret=b9c:=by kernel_rfl
theorem c1p:b9c.low 1000=true:=by kernel_rfl
def a9v:TT j4:=
(.ite (.not (.fn 3 (.i (.var 0) (.i (.var 1) .nil))))
 (.ret ((.tup [(.one (.z (.bool (.lit false)))),(.one (.z (.int .i64 (.lit 1))))]),[],6))
 (.ite (.not (.fn 3 (.i (.var 2) (.i (.var 3) .nil))))
 (.ret ((.tup [(.one (.z (.bool (.lit false)))),(.one (.z (.int .i64 (.lit 1))))]),[],7))
 (.ite (.not (.fn 3 (.i (.var 4) (.i (.var 5) .nil))))
 (.ret ((.tup [(.one (.z (.bool (.lit false)))),(.one (.z (.int .i64 (.lit 1))))]),[],8))
 (.ite (.not (.fn 3 (.i (.var 6) (.i (.var 7) .nil))))
 (.ret ((.tup [(.one (.z (.bool (.lit false)))),(.one (.z (.int .i64 (.lit 1))))]),[],9))
 (.ob (.tru (.fn 5 (.i (.var 0) (.i (.var 1) (.i (.var 2) (.i (.var 3) (.i (.var 4) (.i (.var 5) (.i (.var 6) (.i (.var 7) .nil))))))))))
 (.ret ((.tup [(.one (.z (.bool (.fn 6 (.i (.var 0) (.i (.var 1) (.i (.var 2) (.i (.var 3) (.i (.var 4) (.i (.var 5) (.i (.var 6) (.i (.var 7) .nil)))))))))))),(.one (.z (.int .i64 (.lit 0))))]),[],9)))))))
set_option maxRecDepth 100000 in
theorem b9r:T.norm 0 (call Tryz.prog ct8 lt1 100 122 (g7 0 [pt,pt,pt,pt]) [] 0) TT.ret=a9v:=by kernel_rfl
theorem b5l:a9v.low 1000=true:=by kernel_rfl
theorem d2H(W:World)(ds l:List D):(a9 I8 W ds).fb 1 l=u0 l:=by simp only[a9,I8]
theorem d0S(W:World)(ds l:List D):(a9 I8 W ds).fb 3 l=w7 l:=by simp only[a9,I8]
theorem d1t(W:World)(ds l:List D):(a9 I8 W ds).fb 4 l=onL l:=by simp only[a9,I8]
theorem d0V(W:World)(ds l:List D):(a9 I8 W ds).fb 5 l=D9 l:=by simp only[a9,I8]
theorem d3k(W:World)(ds l:List D):(a9 I8 W ds).fb 6 l=G8 l:=by simp only[a9,I8]
theorem gOn:m8 Tryz.prog 173 [pt,pt,pt] (fun ds=>a9S (u0 ds) (onL ds)):=by
 refine GivesIf.all (i7 I8 (by kernel_rfl) (fun ρ h=>c2Y h) (by kernel_rfl) c6n c1p (by decide) (fun W vals ds _ _=> ?_))
 simp only[b9c,g9,Nat.reduceBEq,Nat.reduceLT,Nat.reduceSub,d2H,d0S,d1t,d0V,d3k,a0j,R7,a8m]
 simp only[a9S,u0,onL]
 refine⟨fun h=> ?_,fun h=>⟨fun h'=> ?_,fun h'=>⟨fun h''=> ?_,fun h''=> ?_⟩⟩⟩<;>simp [*]
theorem d3y:m8 Tryz.prog 122 [pt,pt,pt,pt] (fun ds=>a9S (D9 ds) (G8 ds)):=by
 refine GivesIf.all (i7 I8 (by kernel_rfl) (fun ρ h=>c2Y h) (by kernel_rfl) b9r b5l (by decide) (fun W vals ds _ _=> ?_))
 simp only[a9v,g9,Nat.reduceBEq,Nat.reduceLT,Nat.reduceSub,d2H,d0S,d1t,d0V,d3k,a0j,R7,S2,W5]
 simp only[a9S,D9,G8]
 refine⟨fun h=> ?_,fun h=>⟨fun h'=> ?_,fun h'=>⟨fun h''=> ?_,fun h''=>⟨fun h3=> ?_,fun h3=> ?_⟩⟩⟩⟩<;>simp [*]
def onR(ds:List D):Bool:=u0 ds&&onL ds
def T5(ds:List D):Bool:=D9 ds&&G8 ds
def b4o(ds:List D):Int:=if D9 ds then 0 else 1
def K8:Interp where
 fi n l:=match n with | 64=>b4o l | n=>K7.fi n l
 fb n l:=match n with | 61=>onR l | 62=>T5 l | n=>K7.fb n l
 fd _ _:=[]
def d3s:=u7 [pt,pt,pt] fun al=> .ret (.tup [.one (T7 61 onR al),.one (w9 16 a2t al)])
def c2l:=u7 [pt,pt,pt,pt] fun al=> .ret (.tup [.one (T7 62 T5 al),.one (w9 64 b4o al)])
section
variable {ρ:Env} (h:Sees ρ K8 65)
include h
theorem c8n:i9 Tryz.prog ρ 173 d3s:=
 j7 gOn (fun _=>rfl) (fun al=>by
  simp only[V.val,V2.val,S.val,S0.val,w9,T7,List.map_cons,List.map_nil,m9 (s:=61) (f:=onR) (fun l=>by rw[(h 61 l (by decide)).2];simp only[K8]),k8 (s:=16) (f:=a2t) (fun l=>by rw[(h 16 l (by decide)).1];simp only[K8,K7,K6,K5,K])];rfl)
theorem c2p:i9 Tryz.prog ρ 122 c2l:=
 j7 d3y (fun _=>rfl) (fun al=>by
  simp only[V.val,V2.val,S.val,S0.val,w9,T7,List.map_cons,List.map_nil,m9 (s:=62) (f:=T5) (fun l=>by rw[(h 62 l (by decide)).2];simp only[K8]),k8 (s:=64) (f:=b4o) (fun l=>by rw[(h 64 l (by decide)).1];simp only[K8])];rfl)
theorem c8Y:i9 Tryz.prog ρ 53 a1M:=a4o (fun l=>by rw[(h 3 l (by decide)).2];simp only[K8,K7,K6,K5,K])
theorem c1X:i9 Tryz.prog ρ 120 a7O:=
 j7 c7s (fun _=>rfl) (fun al=>by
  simp only[V.val,V2.val,S.val,S0.val,w9,T7,List.map_cons,List.map_nil,k8 (s:=15) (f:=G3) (fun l=>by rw[(h 15 l (by decide)).1];simp only[K8,K7,K6,K5,K]),k8 (s:=16) (f:=a2t) (fun l=>by rw[(h 16 l (by decide)).1];simp only[K8,K7,K6,K5,K]),b1O,G3,a2t]
  split<;>rfl)
end
def a9s:Ct:=[(53,a1M),(173,d3s),(122,c2l),(120,a7O)]
theorem a3s{ρ:Env}(h:Sees ρ K8 65):CtOk Tryz.prog ρ a9s:= .cons (c8Y h)<| .cons (c8n h)<| .cons (c2p h)<| .cons (c1X h) .nil
end Go.Proofs.YtcjaembdcfppfaaGreat
namespace Go.Proofs.YtcjaembdcfppfaaGreat
open Go.RowKit
def ptK:List CK:=[.int .i64,.int .i64]
def A8:Sh:= .one (.sl ptK)
def a7I:TT j4:=
(.loop 0 7000 ⟨[(0,(.lit 0))],[],[]⟩
 (.ite (.cmp .lss (.var 7000) (.len (.var 0)))
 (.ob (.tru (.cmp .leq (.lit 0) (.var 7000)))
 (.ob (.tru (.cmp .lss (.var 7000) (.len (.var 0))))
 (.ob (.tru (.cmp .neq (.len (.var 0)) (.lit 0)))
 (.ob (.tru (.cmp .leq (.lit 0) (.ar .rem .i64 (.ar .add .i64 (.ar .add .i64 (.var 7000) (.lit 1)) (.len (.var 0))) (.len (.var 0)))))
 (.ob (.tru (.cmp .lss (.ar .rem .i64 (.ar .add .i64 (.ar .add .i64 (.var 7000) (.lit 1)) (.len (.var 0))) (.len (.var 0))) (.len (.var 0))))
 (.loop 1 14000 ⟨[(0,(.lit 0))],[],[]⟩
 (.ite (.cmp .lss (.var 14000) (.len (.var 0)))
 (.ob (.tru (.cmp .leq (.lit 0) (.var 14000)))
 (.ob (.tru (.cmp .lss (.var 14000) (.len (.var 0))))
 (.ob (.tru (.cmp .neq (.len (.var 0)) (.lit 0)))
 (.ob (.tru (.cmp .leq (.lit 0) (.ar .rem .i64 (.ar .add .i64 (.ar .add .i64 (.var 14000) (.lit 1)) (.len (.var 0))) (.len (.var 0)))))
 (.ob (.tru (.cmp .lss (.ar .rem .i64 (.ar .add .i64 (.ar .add .i64 (.var 14000) (.lit 1)) (.len (.var 0))) (.len (.var 0))) (.len (.var 0))))
 (.ite (.cmp .leq (.var 14000) (.ar .add .i64 (.var 7000) (.lit 1)))
 (.next 1 ⟨[(0,(.ar .add .i64 (.var 14000) (.lit 1)))],[],[]⟩)
 (.ite (.cmp .eql (.var 7000) (.lit 0))
 (.ite (.cmp .eql (.var 14000) (.ar .sub .i64 (.len (.var 0)) (.lit 1)))
 (.next 1 ⟨[(0,(.ar .add .i64 (.var 14000) (.lit 1)))],[],[]⟩)
 (.ite (.fn 62 (.i (.rd (.var 0) (.var 7000) 0) (.i (.rd (.var 0) (.var 7000) 1) (.i (.rd (.var 0) (.ar .rem .i64 (.ar .add .i64 (.ar .add .i64 (.var 7000) (.lit 1)) (.len (.var 0))) (.len (.var 0))) 0) (.i (.rd (.var 0) (.ar .rem .i64 (.ar .add .i64 (.ar .add .i64 (.var 7000) (.lit 1)) (.len (.var 0))) (.len (.var 0))) 1) (.i (.rd (.var 0) (.var 14000) 0) (.i (.rd (.var 0) (.var 14000) 1) (.i (.rd (.var 0) (.ar .rem .i64 (.ar .add .i64 (.ar .add .i64 (.var 14000) (.lit 1)) (.len (.var 0))) (.len (.var 0))) 0) (.i (.rd (.var 0) (.ar .rem .i64 (.ar .add .i64 (.ar .add .i64 (.var 14000) (.lit 1)) (.len (.var 0))) (.len (.var 0))) 1) .nil)))))))))
 (.ret ((.v (.one (.z (.bool (.lit false))))),[],17))
 (.next 1 ⟨[(0,(.ar .add .i64 (.var 14000) (.lit 1)))],[],[]⟩)))
 (.ite (.fn 62 (.i (.rd (.var 0) (.var 7000) 0) (.i (.rd (.var 0) (.var 7000) 1) (.i (.rd (.var 0) (.ar .rem .i64 (.ar .add .i64 (.ar .add .i64 (.var 7000) (.lit 1)) (.len (.var 0))) (.len (.var 0))) 0) (.i (.rd (.var 0) (.ar .rem .i64 (.ar .add .i64 (.ar .add .i64 (.var 7000) (.lit 1)) (.len (.var 0))) (.len (.var 0))) 1) (.i (.rd (.var 0) (.var 14000) 0) (.i (.rd (.var 0) (.var 14000) 1) (.i (.rd (.var 0) (.ar .rem .i64 (.ar .add .i64 (.ar .add .i64 (.var 14000) (.lit 1)) (.len (.var 0))) (.len (.var 0))) 0) (.i (.rd (.var 0) (.ar .rem .i64 (.ar .add .i64 (.ar .add .i64 (.var 14000) (.lit 1)) (.len (.var 0))) (.len (.var 0))) 1) .nil)))))))))
 (.ret ((.v (.one (.z (.bool (.lit false))))),[],17))
 (.next 1 ⟨[(0,(.ar .add .i64 (.var 14000) (.lit 1)))],[],[]⟩)))))))))
 (.next 0 ⟨[(0,(.ar .add .i64 (.var 7000) (.lit 1)))],[],[]⟩))))))))
 (.ret ((.v (.one (.z (.bool (.lit true))))),[],17))))
set_option maxRecDepth 100000 in
theorem b5N:T.norm 0 (call Tryz.prog a9s (Lt.of []) 100 100 (g7 0 [A8]) [] 0) TT.ret=a7I:=by kernel_rfl
theorem b3V:a7I.low 1000=true:=by kernel_rfl
def a9o:TT j4:=
(.loop 0 5000 ⟨[(0,(.lit 0)),(1,(.lit 0))],[],[]⟩
 (.ite (.cmp .lss (.var 5000) (.len (.var 0)))
 (.ob (.tru (.cmp .leq (.lit 0) (.var 5000)))
 (.ob (.tru (.cmp .lss (.var 5000) (.len (.var 0))))
 (.ob (.tru (.cmp .neq (.len (.var 0)) (.lit 0)))
 (.ob (.tru (.cmp .leq (.lit 0) (.ar .rem .i64 (.ar .add .i64 (.ar .add .i64 (.var 5000) (.lit 1)) (.len (.var 0))) (.len (.var 0)))))
 (.ob (.tru (.cmp .lss (.ar .rem .i64 (.ar .add .i64 (.ar .add .i64 (.var 5000) (.lit 1)) (.len (.var 0))) (.len (.var 0))) (.len (.var 0))))
 (.next 0 ⟨[(0,(.ar .add .i64 (.var 5000) (.lit 1))),(1,(.ar .add .i64 (.var 5001) (.ar .sub .i64 (.ar .mul .i64 (.rd (.var 0) (.var 5000) 0) (.rd (.var 0) (.ar .rem .i64 (.ar .add .i64 (.ar .add .i64 (.var 5000) (.lit 1)) (.len (.var 0))) (.len (.var 0))) 1)) (.ar .mul .i64 (.rd (.var 0) (.var 5000) 1) (.rd (.var 0) (.ar .rem .i64 (.ar .add .i64 (.ar .add .i64 (.var 5000) (.lit 1)) (.len (.var 0))) (.len (.var 0))) 0)))))],[],[]⟩))))))
 (.ret ((.v (.one (.z (.int .i64 (.var 5001))))),[],8))))
set_option maxRecDepth 100000 in
theorem b9Q:T.norm 0 (call Tryz.prog a9s (Lt.of []) 100 101 (g7 0 [A8]) [] 0) TT.ret=a9o:=by kernel_rfl
theorem b5k:a9o.low 1000=true:=by kernel_rfl
def a9p:TT j4:=
(.loop 0 7000 ⟨[(0,(.lit 0))],[(1,(.lit false))],[]⟩
 (.ite (.cmp .lss (.var 7000) (.len (.var 0)))
 (.ob (.tru (.cmp .leq (.lit 0) (.var 7000)))
 (.ob (.tru (.cmp .lss (.var 7000) (.len (.var 0))))
 (.ob (.tru (.cmp .neq (.len (.var 0)) (.lit 0)))
 (.ob (.tru (.cmp .leq (.lit 0) (.ar .rem .i64 (.ar .add .i64 (.ar .add .i64 (.var 7000) (.lit 1)) (.len (.var 0))) (.len (.var 0)))))
 (.ob (.tru (.cmp .lss (.ar .rem .i64 (.ar .add .i64 (.ar .add .i64 (.var 7000) (.lit 1)) (.len (.var 0))) (.len (.var 0))) (.len (.var 0))))
 (.ite (.fn 61 (.i (.var 1) (.i (.var 2) (.i (.rd (.var 0) (.var 7000) 0) (.i (.rd (.var 0) (.var 7000) 1) (.i (.rd (.var 0) (.ar .rem .i64 (.ar .add .i64 (.ar .add .i64 (.var 7000) (.lit 1)) (.len (.var 0))) (.len (.var 0))) 0) (.i (.rd (.var 0) (.ar .rem .i64 (.ar .add .i64 (.ar .add .i64 (.var 7000) (.lit 1)) (.len (.var 0))) (.len (.var 0))) 1) .nil)))))))
 (.ret ((.v (.one (.z (.int .i64 (.lit 0))))),[],18))
 (.ite (.cmp .gtr (.rd (.var 0) (.var 7000) 1) (.rd (.var 0) (.ar .rem .i64 (.ar .add .i64 (.ar .add .i64 (.var 7000) (.lit 1)) (.len (.var 0))) (.len (.var 0))) 1))
 (.ite (.cmp .leq (.rd (.var 0) (.ar .rem .i64 (.ar .add .i64 (.ar .add .i64 (.var 7000) (.lit 1)) (.len (.var 0))) (.len (.var 0))) 1) (.var 2))
 (.ite (.cmp .lss (.var 2) (.rd (.var 0) (.var 7000) 1))
 (.ite (.cmp .gtr (.fn 15 (.i (.rd (.var 0) (.ar .rem .i64 (.ar .add .i64 (.ar .add .i64 (.var 7000) (.lit 1)) (.len (.var 0))) (.len (.var 0))) 0) (.i (.rd (.var 0) (.ar .rem .i64 (.ar .add .i64 (.ar .add .i64 (.var 7000) (.lit 1)) (.len (.var 0))) (.len (.var 0))) 1) (.i (.rd (.var 0) (.var 7000) 0) (.i (.rd (.var 0) (.var 7000) 1) (.i (.var 1) (.i (.var 2) .nil))))))) (.lit 0))
 (.next 0 ⟨[(0,(.ar .add .i64 (.var 7000) (.lit 1)))],[(1,(.not (.var 7001)))],[]⟩)
 (.next 0 ⟨[(0,(.ar .add .i64 (.var 7000) (.lit 1)))],[(1,(.var 7001))],[]⟩))
 (.next 0 ⟨[(0,(.ar .add .i64 (.var 7000) (.lit 1)))],[(1,(.var 7001))],[]⟩))
 (.next 0 ⟨[(0,(.ar .add .i64 (.var 7000) (.lit 1)))],[(1,(.var 7001))],[]⟩))
 (.ite (.cmp .leq (.rd (.var 0) (.var 7000) 1) (.var 2))
 (.ite (.cmp .lss (.var 2) (.rd (.var 0) (.ar .rem .i64 (.ar .add .i64 (.ar .add .i64 (.var 7000) (.lit 1)) (.len (.var 0))) (.len (.var 0))) 1))
 (.ite (.cmp .gtr (.fn 15 (.i (.rd (.var 0) (.var 7000) 0) (.i (.rd (.var 0) (.var 7000) 1) (.i (.rd (.var 0) (.ar .rem .i64 (.ar .add .i64 (.ar .add .i64 (.var 7000) (.lit 1)) (.len (.var 0))) (.len (.var 0))) 0) (.i (.rd (.var 0) (.ar .rem .i64 (.ar .add .i64 (.ar .add .i64 (.var 7000) (.lit 1)) (.len (.var 0))) (.len (.var 0))) 1) (.i (.var 1) (.i (.var 2) .nil))))))) (.lit 0))
 (.next 0 ⟨[(0,(.ar .add .i64 (.var 7000) (.lit 1)))],[(1,(.not (.var 7001)))],[]⟩)
 (.next 0 ⟨[(0,(.ar .add .i64 (.var 7000) (.lit 1)))],[(1,(.var 7001))],[]⟩))
 (.next 0 ⟨[(0,(.ar .add .i64 (.var 7000) (.lit 1)))],[(1,(.var 7001))],[]⟩))
 (.next 0 ⟨[(0,(.ar .add .i64 (.var 7000) (.lit 1)))],[(1,(.var 7001))],[]⟩)))))))))
 (.ite (.var 7001)
 (.ret ((.v (.one (.z (.int .i64 (.lit 1))))),[],18))
 (.ret ((.v (.one (.z (.int .i64 (.lit (-1)))))),[],18)))))
set_option maxRecDepth 100000 in
theorem b9d:T.norm 0 (call Tryz.prog a9s (Lt.of []) 100 165 (g7 0 [A8,pt]) [] 0) TT.ret=a9p:=by kernel_rfl
theorem b5i:a9p.low 1000=true:=by kernel_rfl
def nxt(n i:Nat):Nat:=if i+1=n then 0 else i+1
theorem u6{n i:Nat}(h:i<n):nxt n i<n:=by unfold nxt;split<;>omega
theorem M5{n i:Nat}(h:i<n)(hn:n≤281474976710656):(IntKind.i64.wrap (IntKind.i64.wrap ((i:Int)+1)+(n:Int))).tmod (n:Int)=(nxt n i:Int):=by
 rw[b8 ((i:Int)+1) (by omega) (by omega),b8 _ (by omega) (by omega)]
 rw[Int.tmod_eq_emod_of_nonneg (by omega)]
 unfold nxt
 split
 ·rename_i h1
  have:((i:Int)+1+n)=n*2:=by omega
  rw[this,Int.mul_emod_right]
  rfl
 ·rw[Int.add_emod_right,Int.emod_eq_of_lt (by omega) (by omega)]
  rfl
def a8a(r:Rows)(qx qy:Int)(i:Nat):Bool:=
 if lg r (nxt r.length i) 1<lg r i 1 then decide (lg r (nxt r.length i) 1≤qy∧qy<lg r i 1∧0<G3 [.i (lg r (nxt r.length i) 0),.i (lg r (nxt r.length i) 1),.i (lg r i 0),.i (lg r i 1),.i qx,.i qy])
 else decide (lg r i 1≤qy∧qy<lg r (nxt r.length i) 1∧0<G3 [.i (lg r i 0),.i (lg r i 1),.i (lg r (nxt r.length i) 0),.i (lg r (nxt r.length i) 1),.i qx,.i qy])
def onE(r:Rows)(qx qy:Int)(i:Nat):Bool:=onR [.i qx,.i qy,.i (lg r i 0),.i (lg r i 1),.i (lg r (nxt r.length i) 0),.i (lg r (nxt r.length i) 1)]
def j9(r:Rows)(qx qy:Int):Nat→Nat→Bool→Int
 | 0,_,b=>if b then 1 else -1
 | f+1,i,b=>if onE r qx qy i then 0 else j9 r qx qy f (i+1) (b ^^ a8a r qx qy i)
section
variable (W:World) (ds l:List D)
theorem d6x:(a9 K8 W ds).fb 3 l=w7 l:=by simp only[a9,K8,K7,K6,K5,K]
theorem d3N:(a9 K8 W ds).fb 61 l=onR l:=by simp only[a9,K8]
theorem c7B:(a9 K8 W ds).fb 62 l=T5 l:=by simp only[a9,K8]
theorem d4h:(a9 K8 W ds).fi 15 l=G3 l:=by simp only[a9,K8,K7,K6,K5,K]
end
theorem a0D{W:World}{vals:List Value}{ds:List D}{sh:List Sh}(h:T4 W (A8::sh) vals ds):(b9 ds 0).length≤281474976710656:=by
 obtain⟨v,vs',d,ds',rfl,rfl,⟨d,rfl,h⟩,_⟩:=h
 rw[R1] at h
 obtain⟨r,rfl,a,n,c,_,hs,_⟩:=h
 have e1:=hs.len
 have e2:=hs.big
 show r.length≤_
 omega
theorem d0I:m8 Tryz.prog 165 [A8,pt] (fun ds=> .int .i64 (j9 (b9 ds 0) (a7 ds 1) (a7 ds 2) (b9 ds 0).length 0 false)):=by
 refine GivesIf.all (i7 K8 (by kernel_rfl) (fun ρ h=>a3s (Sees.of h 65)) (by kernel_rfl) b9d b5i (by decide) (fun W vals ds hr _=> ?_))
 have hlen:=a0D hr
 simp only[a9p]
 refine TT.sat_loop (fun v=>∃i:Nat,v.i 0=i∧i≤(b9 ds 0).length∧j9 (b9 ds 0) (a7 ds 1) (a7 ds 2) ((b9 ds 0).length-i) i (v.b 1)=j9 (b9 ds 0) (a7 ds 1) (a7 ds 2) (b9 ds 0).length 0 false) (fun v=>(b9 ds 0).length-(v.i 0).toNat)
  ⟨0,by simp [j5,i8,E.ev],by omega,by simp [a6e,i8,B.ev]⟩ (fun v hv=> ?_)
 obtain⟨i,i0,i1,i2⟩:=hv
 simp only[g9,Nat.reduceBEq,Nat.reduceLT,Nat.reduceSub,d6x,d3N,c7B,d4h,i0]
 refine⟨fun hc=> ?_,fun hc=> ?_⟩
 ·have hi:i<(b9 ds 0).length:=by omega
  have hn:=u6 hi
  obtain⟨f,hf⟩:∃f,(b9 ds 0).length-i=f+1:=⟨(b9 ds 0).length-i-1,by omega⟩
  rw[M5 hi hlen,b8 ((i:Int)+1) (by omega) (by omega)]
  rw[hf,j9] at i2
  have hf':(b9 ds 0).length-(i+1)=f:=by omega
  have N:∀b:Bool,j9 (b9 ds 0) (a7 ds 1) (a7 ds 2) f (i+1) b=j9 (b9 ds 0) (a7 ds 1) (a7 ds 2) (b9 ds 0).length 0 false→(∃j:Nat,(i:Int)+1=j∧j≤(b9 ds 0).length∧j9 (b9 ds 0) (a7 ds 1) (a7 ds 2) ((b9 ds 0).length-j) j b=j9 (b9 ds 0) (a7 ds 1) (a7 ds 2) (b9 ds 0).length 0 false):=
   fun b hb=>⟨i+1,rfl,by omega,by rw[hf'];exact hb⟩
  refine⟨by omega,by omega,by omega,by omega,by omega,fun h1=> ?_,fun h1=> ?_⟩
  ·rw[if_pos (show onE (b9 ds 0) (a7 ds 1) (a7 ds 2) i=true from h1)] at i2
   rw[←i2]
  ·rw[if_neg (by rw[onE,h1];decide)] at i2
   unfold a8a at i2
   have M:(b9 ds 0).length-((i:Int)+1).toNat<(b9 ds 0).length-(i:Int).toNat:=by omega
   refine⟨fun a=>⟨fun b=>⟨fun c=>⟨fun d=>⟨N _ ?_,M⟩,fun d=>⟨N _ ?_,M⟩⟩,fun c=>⟨N _ ?_,M⟩⟩,fun b=>⟨N _ ?_,M⟩⟩,fun a=>⟨fun b=>⟨fun c=>⟨fun d=>⟨N _ ?_,M⟩,fun d=>⟨N _ ?_,M⟩⟩,fun c=>⟨N _ ?_,M⟩⟩,fun b=>⟨N _ ?_,M⟩⟩⟩
   all_goals (rw[←i2];clear i2 N M;simp [*])
 ·have:(b9 ds 0).length-i=0:=by omega
  rw[this,j9] at i2
  rw[←i2]
  exact⟨fun h=>by rw[h];rfl,fun h=>by rw[h];rfl⟩
def E8(r:Rows):Nat→Nat→Int→Int
 | 0,_,n=>n
 | f+1,i,n=>E8 r f (i+1) (IntKind.i64.wrap (n+IntKind.i64.wrap (IntKind.i64.wrap (lg r i 0*lg r (nxt r.length i) 1)-IntKind.i64.wrap (lg r i 1*lg r (nxt r.length i) 0))))
theorem d1O:m8 Tryz.prog 101 [A8] (fun ds=> .int .i64 (E8 (b9 ds 0) (b9 ds 0).length 0 0)):=by
 refine GivesIf.all (i7 K8 (by kernel_rfl) (fun ρ h=>a3s (Sees.of h 65)) (by kernel_rfl) b9Q b5k (by decide) (fun W vals ds hr _=> ?_))
 have hlen:=a0D hr
 simp only[a9o]
 refine TT.sat_loop (fun v=>∃i:Nat,v.i 0=i∧i≤(b9 ds 0).length∧E8 (b9 ds 0) ((b9 ds 0).length-i) i (v.i 1)=E8 (b9 ds 0) (b9 ds 0).length 0 0) (fun v=>(b9 ds 0).length-(v.i 0).toNat)
  ⟨0,by simp [j5,i8,E.ev],by omega,by simp [j5,i8,E.ev]⟩ (fun v hv=> ?_)
 obtain⟨i,i0,i1,i2⟩:=hv
 simp only[g9,Nat.reduceBEq,Nat.reduceLT,Nat.reduceSub,i0]
 refine⟨fun hc=> ?_,fun hc=> ?_⟩
 ·have hi:i<(b9 ds 0).length:=by omega
  have hn:=u6 hi
  obtain⟨f,hf⟩:∃f,(b9 ds 0).length-i=f+1:=⟨(b9 ds 0).length-i-1,by omega⟩
  rw[M5 hi hlen,b8 ((i:Int)+1) (by omega) (by omega)]
  rw[hf,E8] at i2
  have hf':(b9 ds 0).length-(i+1)=f:=by omega
  exact⟨by omega,by omega,by omega,by omega,by omega,⟨i+1,rfl,by omega,by rw[hf'];exact i2⟩,by omega⟩
 ·have:(b9 ds 0).length-i=0:=by omega
  rw[this,E8] at i2
  rw[←i2]
end Go.Proofs.YtcjaembdcfppfaaGreat
namespace Go.Proofs.YtcjaembdcfppfaaGreat
open Go.RowKit
def a2d(r:Rows)(i k:Nat):Bool:=T5 [.i (lg r i 0),.i (lg r i 1),.i (lg r (nxt r.length i) 0),.i (lg r (nxt r.length i) 1),.i (lg r k 0),.i (lg r k 1),.i (lg r (nxt r.length k) 0),.i (lg r (nxt r.length k) 1)]
def A3(r:Rows)(i k:Nat):Bool:=decide (k≤i+1∨(i=0∧k+1=r.length))|| !a2d r i k
def S7(r:Rows)(i:Nat):Nat→Nat→Bool
 | 0,_=>true
 | f+1,k=>A3 r i k&&S7 r i f (k+1)
def t9(r:Rows):Nat→Nat→Bool
 | 0,_=>true
 | f+1,i=>S7 r i r.length 0&&t9 r f (i+1)
theorem c8F:m8 Tryz.prog 100 [A8] (fun ds=> .bool (t9 (b9 ds 0) (b9 ds 0).length 0)):=by
 refine GivesIf.all (i7 K8 (by kernel_rfl) (fun ρ h=>a3s (Sees.of h 65)) (by kernel_rfl) b5N b3V (by decide) (fun W vals ds hr _=> ?_))
 have hlen:=a0D hr
 simp only[a7I]
 refine TT.sat_loop (fun v=>∃i:Nat,v.i 0=i∧i≤(b9 ds 0).length∧t9 (b9 ds 0) ((b9 ds 0).length-i) i=t9 (b9 ds 0) (b9 ds 0).length 0) (fun v=>(b9 ds 0).length-(v.i 0).toNat)
  ⟨0,by simp [j5,i8,E.ev],by omega,rfl⟩ (fun v hv=> ?_)
 obtain⟨i,i0,i1,i2⟩:=hv
 simp only[g9,Nat.reduceBEq,Nat.reduceLT,Nat.reduceSub,i0]
 refine⟨fun hc=> ?_,fun hc=> ?_⟩
 ·have hi:i<(b9 ds 0).length:=by omega
  have hn:=u6 hi
  obtain⟨f,hf⟩:∃f,(b9 ds 0).length-i=f+1:=⟨(b9 ds 0).length-i-1,by omega⟩
  rw[M5 hi hlen]
  rw[hf,t9] at i2
  have hf':(b9 ds 0).length-(i+1)=f:=by omega
  refine⟨by omega,by omega,by omega,by omega,by omega,?_⟩
  refine TT.sat_loop (fun u=>∃k:Nat,u.i 0=k∧k≤(b9 ds 0).length∧(S7 (b9 ds 0) i ((b9 ds 0).length-k) k&&t9 (b9 ds 0) f (i+1))=t9 (b9 ds 0) (b9 ds 0).length 0) (fun u=>(b9 ds 0).length-(u.i 0).toNat)
   ⟨0,by simp [j5,i8,E.ev],by omega,i2⟩ (fun u hu=> ?_)
  obtain⟨k,k0,k1,k2⟩:=hu
  simp only[g9,Nat.reduceBEq,Nat.reduceLT,Nat.reduceSub,i0,k0,c7B]
  refine⟨fun hk=> ?_,fun hk=> ?_⟩
  ·have hkn:k<(b9 ds 0).length:=by omega
   have hn':=u6 hkn
   obtain⟨g,hg⟩:∃g,(b9 ds 0).length-k=g+1:=⟨(b9 ds 0).length-k-1,by omega⟩
   rw[M5 hkn hlen,M5 hi hlen,b8 ((i:Int)+1) (by omega) (by omega),b8 ((k:Int)+1) (by omega) (by omega),b8 (((b9 ds 0).length:Int)-1) (by omega) (by omega)]
   rw[hg,S7] at k2
   have hg':(b9 ds 0).length-(k+1)=g:=by omega
   have N:A3 (b9 ds 0) i k=true→(∃j:Nat,(k:Int)+1=j∧j≤(b9 ds 0).length∧(S7 (b9 ds 0) i ((b9 ds 0).length-j) j&&t9 (b9 ds 0) f (i+1))=t9 (b9 ds 0) (b9 ds 0).length 0)∧(b9 ds 0).length-((k:Int)+1).toNat<(b9 ds 0).length-(k:Int).toNat:=
    fun h=>⟨⟨k+1,rfl,by omega,by rw[hg',←k2,h];rfl⟩,by omega⟩
   have B:A3 (b9 ds 0) i k=false→Value.bool false=Value.bool (t9 (b9 ds 0) (b9 ds 0).length 0):=fun h=>by rw[←k2,h];rfl
   have P1:(k≤i+1∨(i=0∧k+1=(b9 ds 0).length))→A3 (b9 ds 0) i k=true:=fun h=>by unfold A3;rw[decide_eq_true h];rfl
   have P2:¬(k≤i+1∨(i=0∧k+1=(b9 ds 0).length))→A3 (b9 ds 0) i k= !a2d (b9 ds 0) i k:=fun h=>by unfold A3;rw[decide_eq_false h];rfl
   refine⟨by omega,by omega,by omega,by omega,by omega,fun a=>N (P1 (by omega)),fun a=>⟨fun b=>⟨fun c=>N (P1 (by omega)),fun c=>⟨fun d=>B ?_,fun d=>N ?_⟩⟩,fun b=>⟨fun d=>B ?_,fun d=>N ?_⟩⟩⟩
   all_goals (rw[P2 (by omega)];unfold a2d;rw[d];rfl)
  ·rw[if_neg (by decide)]
   have:(b9 ds 0).length-k=0:=by omega
   rw[this,S7,Bool.true_and] at k2
   rw[b8 ((i:Int)+1) (by omega) (by omega)]
   exact⟨⟨i+1,rfl,by omega,by rw[hf'];exact k2⟩,by omega⟩
 ·have:(b9 ds 0).length-i=0:=by omega
  rw[this,t9] at i2
  rw[←i2]
def J7(ds:List D):Bool:=t9 (b9 ds 0) (b9 ds 0).length 0
def X1(ds:List D):Int:=E8 (b9 ds 0) (b9 ds 0).length 0 0
def a3y(ds:List D):Int:=j9 (b9 ds 0) (a7 ds 1) (a7 ds 2) (b9 ds 0).length 0 false
def K9:Interp where
 fi n l:=match n with | 65=>X1 l | 67=>a3y l | n=>K8.fi n l
 fb n l:=match n with | 66=>J7 l | n=>K8.fb n l
 fd _ _:=[]
def b7k:=u7 [A8] fun al=> .ret (bV (bF 66 J7 al))
def c2W:=u7 [A8] fun al=> .ret (iV .i64 (iF 65 X1 al))
def b6m:=u7 [A8,pt] fun al=> .ret (iV .i64 (iF 67 a3y al))
section
variable {ρ:Env} (h:Sees ρ K9 68)
include h
theorem b9l:i9 Tryz.prog ρ 100 b7k:=
 j7 c8F (fun _=>rfl) (fun al=>by simp only[bV,V.s0,V.val,V2.val,S.val,S0.val,m9 (s:=66) (f:=J7) (fun l=>by rw[(h 66 l (by decide)).2];simp only[K9])];rfl)
theorem c0L:i9 Tryz.prog ρ 101 c2W:=
 j7 d1O (fun _=>rfl) (fun al=>by simp only[iV,V.s0,V.val,V2.val,S.val,S0.val,k8 (s:=65) (f:=X1) (fun l=>by rw[(h 65 l (by decide)).1];simp only[K9])];rfl)
theorem b9h:i9 Tryz.prog ρ 165 b6m:=
 j7 d0I (fun _=>rfl) (fun al=>by simp only[iV,V.s0,V.val,V2.val,S.val,S0.val,k8 (s:=67) (f:=a3y) (fun l=>by rw[(h 67 l (by decide)).1];simp only[K9])];rfl)
theorem d4K:Sees ρ K8 65:=h.trans (by decide) fun n l hn=>by
 constructor
 ·simp only[K9]
  split<;>first | omega | rfl
 ·simp only[K9]
  split<;>first | omega | rfl
end
end Go.Proofs.YtcjaembdcfppfaaGreat
namespace Go.Proofs.YtcjaembdcfppfaaGreat
open Go.RowKit
def ct9:Ct:=(100,b7k)::(101,c2W)::(165,b6m)::a9s
def a9n:TT j4:=
(.ite (.cmp .lss (.var 0) (.var 2))
 (.ite (.cmp .lss (.var 1) (.var 3))
 (.ret ((.v (.one (.z (.int .i64 (.lit (-1)))))),[],3))
 (.ite (.cmp .gtr (.var 1) (.var 3))
 (.ret ((.v (.one (.z (.int .i64 (.lit (-1)))))),[],3))
 (.ret ((.v (.one (.z (.int .i64 (.lit (-1)))))),[],3))))
 (.ite (.cmp .gtr (.var 0) (.var 2))
 (.ite (.cmp .lss (.var 1) (.var 3))
 (.ret ((.v (.one (.z (.int .i64 (.lit 1))))),[],3))
 (.ite (.cmp .gtr (.var 1) (.var 3))
 (.ret ((.v (.one (.z (.int .i64 (.lit 1))))),[],3))
 (.ret ((.v (.one (.z (.int .i64 (.lit 1))))),[],3))))
 (.ite (.cmp .lss (.var 1) (.var 3))
 (.ret ((.v (.one (.z (.int .i64 (.lit (-1)))))),[],3))
 (.ite (.cmp .gtr (.var 1) (.var 3))
 (.ret ((.v (.one (.z (.int .i64 (.lit 1))))),[],3))
 (.ret ((.v (.one (.z (.int .i64 (.lit 0))))),[],3))))))
set_option maxRecDepth 100000 in
theorem b9o:T.norm 0 (call Tryz.prog a9s (Lt.of []) 100 97 (g7 0 [pt,pt]) [] 0) TT.ret=a9n:=by kernel_rfl
theorem b5M:a9n.low 1000=true:=by kernel_rfl
def a1f(ax ay bx by':Int):Int:=if ax<bx then -1 else if bx<ax then 1 else if ay<by' then -1 else if by'<ay then 1 else 0
def a2e(ds:List D):Int:=a1f (a7 ds 0) (a7 ds 1) (a7 ds 2) (a7 ds 3)
theorem d2R:m8 Tryz.prog 97 [pt,pt] (fun ds=> .int .i64 (a2e ds)):=by
 refine GivesIf.all (i7 K8 (by kernel_rfl) (fun ρ h=>a3s (Sees.of h 65)) (by kernel_rfl) b9o b5M (by decide) (fun W vals ds hr _=> ?_))
 simp only[a9n,g9,Nat.reduceBEq,Nat.reduceLT,Nat.reduceSub]
 simp only[a2e,a1f]
 refine⟨fun h=>⟨fun h'=> ?_,fun h'=>⟨fun h''=> ?_,fun h''=> ?_⟩⟩,fun h=>⟨fun a=>⟨fun h'=> ?_,fun h'=>⟨fun h''=> ?_,fun h''=> ?_⟩⟩,fun a=>⟨fun h'=> ?_,fun h'=>⟨fun h''=> ?_,fun h''=> ?_⟩⟩⟩⟩
 all_goals (congr 1;(repeat' split)<;>omega)
def KA:Interp where
 fi n l:=match n with | 68=>a2e l | n=>K9.fi n l
 fb n l:=K9.fb n l
 fd _ _:=[]
def c3r:=u7 [pt,pt] fun al=> .ret (iV .i64 (iF 68 a2e al))
section
variable {ρ:Env} (h:Sees ρ KA 69)
include h
theorem c3G:i9 Tryz.prog ρ 97 c3r:=
 j7 d2R (fun _=>rfl) (fun al=>by simp only[iV,V.s0,V.val,V2.val,S.val,S0.val,k8 (s:=68) (f:=a2e) (fun l=>by rw[(h 68 l (by decide)).1];simp only[KA])])
theorem b1Q:Sees ρ K9 68:=h.trans (by decide) fun n l hn=>by
 constructor
 ·simp only[KA]
  split<;>first | omega | rfl
 ·rfl
end
def ctA:Ct:=(97,c3r)::ct9
theorem c2y{ρ:Env}(h:Sees ρ KA 69):CtOk Tryz.prog ρ ctA:= .cons (c3G h)<| .cons (b9l (b1Q h))<| .cons (c0L (b1Q h))<| .cons (b9h (b1Q h)) (a3s (d4K (b1Q h)))
end Go.Proofs.YtcjaembdcfppfaaGreat
namespace Go.Proofs.YtcjaembdcfppfaaGreat
open Go.RowKit
def b8q:TT j4:=
(.ite (.cmp .lss (.len (.var 0)) (.lit 3))
 (.ret ((.v (.one (.z (.bool (.lit false))))),[],0))
 (.ite (.cmp .gtr (.len (.var 0)) (.lit 24))
 (.ret ((.v (.one (.z (.bool (.lit false))))),[],0))
 (.loop 0 1000 ⟨[(0,(.lit 0))],[],[]⟩
 (.ite (.cmp .lss (.var 1000) (.len (.var 0)))
 (.ob (.tru (.cmp .leq (.lit 0) (.var 1000)))
 (.ob (.tru (.cmp .lss (.var 1000) (.len (.var 0))))
 (.ite (.not (.fn 3 (.i (.rd (.var 0) (.var 1000) 0) (.i (.rd (.var 0) (.var 1000) 1) .nil))))
 (.ite (.cmp .geq (.var 1000) (.lit 0))
 (.ret ((.v (.one (.z (.bool (.lit false))))),[],2))
 (.loop 1 3000 ⟨[(0,(.lit 0))],[],[]⟩
 (.ite (.cmp .lss (.var 3000) (.len (.var 0)))
 (.ite (.cmp .gtr (.var 3000) (.lit 0))
 (.ob (.tru (.lit true))
 (.ob (.tru (.cmp .lss (.lit 0) (.len (.var 0))))
 (.ob (.tru (.cmp .leq (.lit 0) (.var 3000)))
 (.ob (.tru (.cmp .lss (.var 3000) (.len (.var 0))))
 (.ite (.cmp .geq (.fn 68 (.i (.rd (.var 0) (.lit 0) 0) (.i (.rd (.var 0) (.lit 0) 1) (.i (.rd (.var 0) (.var 3000) 0) (.i (.rd (.var 0) (.var 3000) 1) .nil))))) (.lit 0))
 (.ret ((.v (.one (.z (.bool (.lit false))))),[],8))
 (.ob (.tru (.cmp .neq (.len (.var 0)) (.lit 0)))
 (.ob (.tru (.cmp .leq (.lit 0) (.ar .rem .i64 (.ar .add .i64 (.ar .sub .i64 (.var 3000) (.lit 1)) (.len (.var 0))) (.len (.var 0)))))
 (.ob (.tru (.cmp .lss (.ar .rem .i64 (.ar .add .i64 (.ar .sub .i64 (.var 3000) (.lit 1)) (.len (.var 0))) (.len (.var 0))) (.len (.var 0))))
 (.ob (.tru (.cmp .leq (.lit 0) (.var 3000)))
 (.ob (.tru (.cmp .lss (.var 3000) (.len (.var 0))))
 (.ob (.tru (.cmp .neq (.len (.var 0)) (.lit 0)))
 (.ob (.tru (.cmp .leq (.lit 0) (.ar .rem .i64 (.ar .add .i64 (.ar .add .i64 (.var 3000) (.lit 1)) (.len (.var 0))) (.len (.var 0)))))
 (.ob (.tru (.cmp .lss (.ar .rem .i64 (.ar .add .i64 (.ar .add .i64 (.var 3000) (.lit 1)) (.len (.var 0))) (.len (.var 0))) (.len (.var 0))))
 (.ite (.cmp .eql (.fn 15 (.i (.rd (.var 0) (.ar .rem .i64 (.ar .add .i64 (.ar .sub .i64 (.var 3000) (.lit 1)) (.len (.var 0))) (.len (.var 0))) 0) (.i (.rd (.var 0) (.ar .rem .i64 (.ar .add .i64 (.ar .sub .i64 (.var 3000) (.lit 1)) (.len (.var 0))) (.len (.var 0))) 1) (.i (.rd (.var 0) (.var 3000) 0) (.i (.rd (.var 0) (.var 3000) 1) (.i (.rd (.var 0) (.ar .rem .i64 (.ar .add .i64 (.ar .add .i64 (.var 3000) (.lit 1)) (.len (.var 0))) (.len (.var 0))) 0) (.i (.rd (.var 0) (.ar .rem .i64 (.ar .add .i64 (.ar .add .i64 (.var 3000) (.lit 1)) (.len (.var 0))) (.len (.var 0))) 1) .nil))))))) (.lit 0))
 (.ret ((.v (.one (.z (.bool (.lit false))))),[],8))
 (.next 1 ⟨[(0,(.ar .add .i64 (.var 3000) (.lit 1)))],[],[]⟩)))))))))))))))
 (.ob (.tru (.cmp .neq (.len (.var 0)) (.lit 0)))
 (.ob (.tru (.cmp .leq (.lit 0) (.ar .rem .i64 (.ar .add .i64 (.ar .sub .i64 (.var 3000) (.lit 1)) (.len (.var 0))) (.len (.var 0)))))
 (.ob (.tru (.cmp .lss (.ar .rem .i64 (.ar .add .i64 (.ar .sub .i64 (.var 3000) (.lit 1)) (.len (.var 0))) (.len (.var 0))) (.len (.var 0))))
 (.ob (.tru (.cmp .leq (.lit 0) (.var 3000)))
 (.ob (.tru (.cmp .lss (.var 3000) (.len (.var 0))))
 (.ob (.tru (.cmp .neq (.len (.var 0)) (.lit 0)))
 (.ob (.tru (.cmp .leq (.lit 0) (.ar .rem .i64 (.ar .add .i64 (.ar .add .i64 (.var 3000) (.lit 1)) (.len (.var 0))) (.len (.var 0)))))
 (.ob (.tru (.cmp .lss (.ar .rem .i64 (.ar .add .i64 (.ar .add .i64 (.var 3000) (.lit 1)) (.len (.var 0))) (.len (.var 0))) (.len (.var 0))))
 (.ite (.cmp .eql (.fn 15 (.i (.rd (.var 0) (.ar .rem .i64 (.ar .add .i64 (.ar .sub .i64 (.var 3000) (.lit 1)) (.len (.var 0))) (.len (.var 0))) 0) (.i (.rd (.var 0) (.ar .rem .i64 (.ar .add .i64 (.ar .sub .i64 (.var 3000) (.lit 1)) (.len (.var 0))) (.len (.var 0))) 1) (.i (.rd (.var 0) (.var 3000) 0) (.i (.rd (.var 0) (.var 3000) 1) (.i (.rd (.var 0) (.ar .rem .i64 (.ar .add .i64 (.ar .add .i64 (.var 3000) (.lit 1)) (.len (.var 0))) (.len (.var 0))) 0) (.i (.rd (.var 0) (.ar .rem .i64 (.ar .add .i64 (.ar .add .i64 (.var 3000) (.lit 1)) (.len (.var 0))) (.len (.var 0))) 1) .nil))))))) (.lit 0))
 (.ret ((.v (.one (.z (.bool (.lit false))))),[],8))
 (.next 1 ⟨[(0,(.ar .add .i64 (.var 3000) (.lit 1)))],[],[]⟩)))))))))))
 (.ite (.fn 66 (.x (.var 0) .nil))
 (.ret ((.v (.one (.z (.bool (.cmp .gtr (.fn 65 (.x (.var 0) .nil)) (.lit 0)))))),[],8))
 (.ret ((.v (.one (.z (.bool (.lit false))))),[],8))))))
 (.next 0 ⟨[(0,(.ar .add .i64 (.var 1000) (.lit 1)))],[],[]⟩))))
 (.loop 1 3000 ⟨[(0,(.lit 0))],[],[]⟩
 (.ite (.cmp .lss (.var 3000) (.len (.var 0)))
 (.ite (.cmp .gtr (.var 3000) (.lit 0))
 (.ob (.tru (.lit true))
 (.ob (.tru (.cmp .lss (.lit 0) (.len (.var 0))))
 (.ob (.tru (.cmp .leq (.lit 0) (.var 3000)))
 (.ob (.tru (.cmp .lss (.var 3000) (.len (.var 0))))
 (.ite (.cmp .geq (.fn 68 (.i (.rd (.var 0) (.lit 0) 0) (.i (.rd (.var 0) (.lit 0) 1) (.i (.rd (.var 0) (.var 3000) 0) (.i (.rd (.var 0) (.var 3000) 1) .nil))))) (.lit 0))
 (.ret ((.v (.one (.z (.bool (.lit false))))),[],8))
 (.ob (.tru (.cmp .neq (.len (.var 0)) (.lit 0)))
 (.ob (.tru (.cmp .leq (.lit 0) (.ar .rem .i64 (.ar .add .i64 (.ar .sub .i64 (.var 3000) (.lit 1)) (.len (.var 0))) (.len (.var 0)))))
 (.ob (.tru (.cmp .lss (.ar .rem .i64 (.ar .add .i64 (.ar .sub .i64 (.var 3000) (.lit 1)) (.len (.var 0))) (.len (.var 0))) (.len (.var 0))))
 (.ob (.tru (.cmp .leq (.lit 0) (.var 3000)))
 (.ob (.tru (.cmp .lss (.var 3000) (.len (.var 0))))
 (.ob (.tru (.cmp .neq (.len (.var 0)) (.lit 0)))
 (.ob (.tru (.cmp .leq (.lit 0) (.ar .rem .i64 (.ar .add .i64 (.ar .add .i64 (.var 3000) (.lit 1)) (.len (.var 0))) (.len (.var 0)))))
 (.ob (.tru (.cmp .lss (.ar .rem .i64 (.ar .add .i64 (.ar .add .i64 (.var 3000) (.lit 1)) (.len (.var 0))) (.len (.var 0))) (.len (.var 0))))
 (.ite (.cmp .eql (.fn 15 (.i (.rd (.var 0) (.ar .rem .i64 (.ar .add .i64 (.ar .sub .i64 (.var 3000) (.lit 1)) (.len (.var 0))) (.len (.var 0))) 0) (.i (.rd (.var 0) (.ar .rem .i64 (.ar .add .i64 (.ar .sub .i64 (.var 3000) (.lit 1)) (.len (.var 0))) (.len (.var 0))) 1) (.i (.rd (.var 0) (.var 3000) 0) (.i (.rd (.var 0) (.var 3000) 1) (.i (.rd (.var 0) (.ar .rem .i64 (.ar .add .i64 (.ar .add .i64 (.var 3000) (.lit 1)) (.len (.var 0))) (.len (.var 0))) 0) (.i (.rd (.var 0) (.ar .rem .i64 (.ar .add .i64 (.ar .add .i64 (.var 3000) (.lit 1)) (.len (.var 0))) (.len (.var 0))) 1) .nil))))))) (.lit 0))
 (.ret ((.v (.one (.z (.bool (.lit false))))),[],8))
 (.next 1 ⟨[(0,(.ar .add .i64 (.var 3000) (.lit 1)))],[],[]⟩)))))))))))))))
 (.ob (.tru (.cmp .neq (.len (.var 0)) (.lit 0)))
 (.ob (.tru (.cmp .leq (.lit 0) (.ar .rem .i64 (.ar .add .i64 (.ar .sub .i64 (.var 3000) (.lit 1)) (.len (.var 0))) (.len (.var 0)))))
 (.ob (.tru (.cmp .lss (.ar .rem .i64 (.ar .add .i64 (.ar .sub .i64 (.var 3000) (.lit 1)) (.len (.var 0))) (.len (.var 0))) (.len (.var 0))))
 (.ob (.tru (.cmp .leq (.lit 0) (.var 3000)))
 (.ob (.tru (.cmp .lss (.var 3000) (.len (.var 0))))
 (.ob (.tru (.cmp .neq (.len (.var 0)) (.lit 0)))
 (.ob (.tru (.cmp .leq (.lit 0) (.ar .rem .i64 (.ar .add .i64 (.ar .add .i64 (.var 3000) (.lit 1)) (.len (.var 0))) (.len (.var 0)))))
 (.ob (.tru (.cmp .lss (.ar .rem .i64 (.ar .add .i64 (.ar .add .i64 (.var 3000) (.lit 1)) (.len (.var 0))) (.len (.var 0))) (.len (.var 0))))
 (.ite (.cmp .eql (.fn 15 (.i (.rd (.var 0) (.ar .rem .i64 (.ar .add .i64 (.ar .sub .i64 (.var 3000) (.lit 1)) (.len (.var 0))) (.len (.var 0))) 0) (.i (.rd (.var 0) (.ar .rem .i64 (.ar .add .i64 (.ar .sub .i64 (.var 3000) (.lit 1)) (.len (.var 0))) (.len (.var 0))) 1) (.i (.rd (.var 0) (.var 3000) 0) (.i (.rd (.var 0) (.var 3000) 1) (.i (.rd (.var 0) (.ar .rem .i64 (.ar .add .i64 (.ar .add .i64 (.var 3000) (.lit 1)) (.len (.var 0))) (.len (.var 0))) 0) (.i (.rd (.var 0) (.ar .rem .i64 (.ar .add .i64 (.ar .add .i64 (.var 3000) (.lit 1)) (.len (.var 0))) (.len (.var 0))) 1) .nil))))))) (.lit 0))
 (.ret ((.v (.one (.z (.bool (.lit false))))),[],8))
 (.next 1 ⟨[(0,(.ar .add .i64 (.var 3000) (.lit 1)))],[],[]⟩)))))))))))
 (.ite (.fn 66 (.x (.var 0) .nil))
 (.ret ((.v (.one (.z (.bool (.cmp .gtr (.fn 65 (.x (.var 0) .nil)) (.lit 0)))))),[],8))
 (.ret ((.v (.one (.z (.bool (.lit false))))),[],8)))))))))
set_option maxRecDepth 100000 in
theorem c5o:T.norm 0 (call Tryz.prog ctA (Lt.of []) 100 75 (g7 0 [A8]) [] 0) TT.ret=b8q:=by kernel_rfl
theorem c2K:b8q.low 1000=true:=by kernel_rfl
def O3(n i:Nat):Nat:=if i=0 then n-1 else i-1
theorem b2j{n i:Nat}(h:i<n):O3 n i<n:=by unfold O3;split<;>omega
theorem c5j{n i:Nat}(h:i<n)(hn:n≤281474976710656):(IntKind.i64.wrap (IntKind.i64.wrap ((i:Int)-1)+(n:Int))).tmod (n:Int)=(O3 n i:Int):=by
 rw[b8 ((i:Int)-1) (by omega) (by omega),b8 _ (by omega) (by omega)]
 rw[Int.tmod_eq_emod_of_nonneg (by omega)]
 unfold O3
 split
 ·rename_i h1
  rw[Int.emod_eq_of_lt (by omega) (by omega)]
  omega
 ·rw[Int.add_emod_right,Int.emod_eq_of_lt (by omega) (by omega)]
  omega
def plN(r:Rows):Nat→Nat→Bool
 | 0,_=>true
 | f+1,i=>f9 (lg r i 0) (lg r i 1)&&plN r f (i+1)
def N4(r:Rows)(i:Nat):Bool:=
 !(decide (0<i)&&decide (0≤a1f (lg r 0 0) (lg r 0 1) (lg r i 0) (lg r i 1)))&&
 !decide (G3 [.i (lg r (O3 r.length i) 0),.i (lg r (O3 r.length i) 1),.i (lg r i 0),.i (lg r i 1),.i (lg r (nxt r.length i) 0),.i (lg r (nxt r.length i) 1)]=0)
def V7(r:Rows):Nat→Nat→Bool
 | 0,_=>true
 | f+1,i=>N4 r i&&V7 r f (i+1)
def j6(r:Rows):Bool:=decide (3≤r.length∧r.length≤24)&&(plN r r.length 0&&(V7 r r.length 0&&(t9 r r.length 0&&decide (0<E8 r r.length 0 0))))
def H0(ds:List D):Bool:=j6 (b9 ds 0)
section
variable (W:World) (ds l:List D)
theorem d1A:(a9 KA W ds).fb 3 l=w7 l:=by simp only[a9,KA,K9,K8,K7,K6,K5,K]
theorem c6A:(a9 KA W ds).fi 15 l=G3 l:=by simp only[a9,KA,K9,K8,K7,K6,K5,K]
theorem c7Z:(a9 KA W ds).fi 68 l=a2e l:=by simp only[a9,KA]
theorem c7w:(a9 KA W ds).fb 66 l=J7 l:=by simp only[a9,KA,K9]
theorem c7A:(a9 KA W ds).fi 65 l=X1 l:=by simp only[a9,KA,K9]
end
theorem a8M(a b c d:Int):a2e [.i a,.i b,.i c,.i d]=a1f a b c d:=rfl
theorem a1B(r:Rows):J7 [.l r]=t9 r r.length 0:=rfl
theorem a2z(r:Rows):X1 [.l r]=E8 r r.length 0 0:=rfl
theorem D7(a b:Int):w7 [.i a,.i b]=f9 a b:=rfl
theorem d5Z:m8 Tryz.prog 75 [A8] (fun ds=> .bool (H0 ds)):=by
 refine GivesIf.all (i7 KA (by kernel_rfl) (fun ρ h=>c2y (Sees.of h 69)) (by kernel_rfl) c5o c2K (by decide) (fun W vals ds hr _=> ?_))
 have hlen:=a0D hr
 simp only[b8q,g9,Nat.reduceBEq,Nat.reduceLT,Nat.reduceSub]
 generalize hr0:b9 ds 0=r at hlen ⊢
 have hP:H0 ds=j6 r:=by rw[H0,hr0]
 rw[hP]
 refine⟨fun h=> ?_,fun h1=>⟨fun h=> ?_,fun h2=> ?_⟩⟩
 ·rw[j6,decide_eq_false (by omega)];rfl
 ·rw[j6,decide_eq_false (by omega)];rfl
 have hd:decide (3≤r.length∧r.length≤24)=true:=decide_eq_true (by omega)
 refine TT.sat_loop (fun v=>∃i:Nat,v.i 0=i∧i≤r.length∧(plN r (r.length-i) i&&(V7 r r.length 0&&(t9 r r.length 0&&decide (0<E8 r r.length 0 0))))=j6 r) (fun v=>r.length-(v.i 0).toNat)
  ⟨0,by simp [j5,i8,E.ev],by omega,by rw[j6,hd];rfl⟩ (fun v hv=> ?_)
 obtain⟨i,i0,i1,i2⟩:=hv
 simp only[g9,Nat.reduceBEq,Nat.reduceLT,Nat.reduceSub,i0,hr0,d1A,c6A,c7Z,c7w,c7A,a8M,D7,a1B,a2z]
 refine⟨fun hc=> ?_,fun hc=> ?_⟩
 ·have hi:i<r.length:=by omega
  obtain⟨f,hf⟩:∃f,r.length-i=f+1:=⟨r.length-i-1,by omega⟩
  rw[hf,plN] at i2
  refine⟨by omega,by omega,fun p=>⟨fun q=> ?_,fun q=>absurd (show(0:Int)≤i by omega) q⟩,fun p=>⟨⟨i+1,?_,by omega,?_⟩,?_⟩⟩
  ·rw[←i2,p];rfl
  ·rw[b8 _ (by omega) (by omega)];rfl
  ·rw[show r.length-(i+1)=f by omega,←i2,p];rfl
  ·rw[b8 _ (by omega) (by omega)];omega
 ·have:r.length-i=0:=by omega
  rw[this,plN,Bool.true_and] at i2
  refine TT.sat_loop (fun v=>∃j:Nat,v.i 0=j∧j≤r.length∧(V7 r (r.length-j) j&&(t9 r r.length 0&&decide (0<E8 r r.length 0 0)))=j6 r) (fun v=>r.length-(v.i 0).toNat)
   ⟨0,by simp [j5,i8,E.ev],by omega,i2⟩ (fun u hu=> ?_)
  obtain⟨j,j0,j1,j2⟩:=hu
  simp only[g9,Nat.reduceBEq,Nat.reduceLT,Nat.reduceSub,j0,hr0,d1A,c6A,c7Z,c7w,c7A,a8M,D7,a1B,a2z]
  refine⟨fun hc=> ?_,fun hc=> ?_⟩
  ·have hj:j<r.length:=by omega
   have hn:=u6 hj
   have hp:=b2j hj
   obtain⟨f,hf⟩:∃f,r.length-j=f+1:=⟨r.length-j-1,by omega⟩
   rw[hf,V7] at j2
   have M:r.length-(IntKind.i64.wrap ((j:Int)+1)).toNat<r.length-(j:Int).toNat:=by rw[b8 _ (by omega) (by omega)];omega
   have N:N4 r j=true→(∃k:Nat,IntKind.i64.wrap ((j:Int)+1)=k∧k≤r.length∧(V7 r (r.length-k) k&&(t9 r r.length 0&&decide (0<E8 r r.length 0 0)))=j6 r):=
    fun h=>⟨j+1,by rw[b8 _ (by omega) (by omega)];rfl,by omega,by rw[show r.length-(j+1)=f by omega,←j2,h];rfl⟩
   have F:N4 r j=false→Value.bool false=Value.bool (j6 r):=fun h=>by rw[←j2,h];rfl
   simp only[c5j hj hlen,M5 hj hlen]
   refine⟨fun a=>⟨by omega,by omega,by omega,fun b=>F ?_,fun b=>⟨by omega,by omega,by omega,by omega,by omega,by omega,by omega,by omega,fun c=>F ?_,fun c=>⟨N ?_,M⟩⟩⟩,fun a=>⟨by omega,by omega,by omega,by omega,by omega,by omega,by omega,by omega,fun c=>F ?_,fun c=>⟨N ?_,M⟩⟩⟩
   ·rw[N4,decide_eq_true (p:=0<j) (by omega),decide_eq_true b];rfl
   ·rw[N4,decide_eq_true c];simp
   ·rw[N4,decide_eq_false c,decide_eq_false b];simp
   ·rw[N4,decide_eq_true c];simp
   ·rw[N4,decide_eq_false c,decide_eq_false (p:=0<j) (by omega)];rfl
  ·have:r.length-j=0:=by omega
   rw[this,V7,Bool.true_and] at j2
   refine⟨fun h=> ?_,fun h=> ?_⟩
   ·rw[←j2,h,Bool.true_and]
    congr 1
   ·rw[←j2,h];rfl
def KB:Interp where
 fi n l:=KA.fi n l
 fb n l:=match n with | 69=>H0 l | n=>KA.fb n l
 fd _ _:=[]
theorem d4q{ρ:Env}(h:Sees ρ KB 70):Sees ρ KA 69:=h.trans (by decide) fun n l hn=>by
 refine⟨?_,?_⟩
 ·
  rfl
 ·
  simp only[KB]
  split<;>first | omega | rfl
def d3x:=u7 [A8] fun al=> .ret (bV (bF 69 H0 al))
theorem c8L{ρ:Env}(h:Sees ρ KB 70):i9 Tryz.prog ρ 75 d3x:=
 j7 d5Z (fun _=>rfl) (fun al=>by simp only[iV,bV,V.s0,V.val,V2.val,S.val,S0.val,m9 (s:=69) (f:=H0) (fun l=>by rw[(h 69 l (by decide)).2];simp only[KB])];try rfl)
def ctB:Ct:=(75,d3x)::ctA
theorem a8n{ρ:Env}(h:Sees ρ KB 70):CtOk Tryz.prog ρ ctB:= .cons (c8L h) (c2y (d4q h))
end Go.Proofs.YtcjaembdcfppfaaGreat
namespace Go.Proofs.YtcjaembdcfppfaaGreat
open Go.RowKit
def P5:Sh:= .agg [.int .i64,.int .i64]
def b9n:List CK:=[.int .i64,.int .i64,.int .i64,.int .i64,.int .i64,.int .i64]
def sec:Sh:= .agg b9n
def b3d:TT j4:=
(.ite (.not (.fn 3 (.i (.var 0) (.i (.var 1) .nil))))
 (.ret ((.tup [(.one (.z (.int .i64 (.lit 0)))),(.one (.z (.int .i64 (.lit 1))))]),[],1))
 (.ite (.not (.fn 69 (.x (.var 2) .nil)))
 (.ret ((.tup [(.one (.z (.int .i64 (.lit 0)))),(.one (.z (.int .i64 (.lit 1))))]),[],1))
 (.ret ((.tup [(.one (.z (.int .i64 (.fn 67 (.x (.var 2) (.i (.var 0) (.i (.var 1) .nil))))))),(.one (.z (.int .i64 (.lit 0))))]),[],1))))
set_option maxRecDepth 100000 in
theorem c2w:T.norm 0 (call Tryz.prog ctB (Lt.of []) 100 162 (g7 0 [pt,A8]) [] 0) TT.ret=b3d:=by kernel_rfl
theorem b7M:b3d.low 1000=true:=by kernel_rfl
def a5E:TT j4:=
(.ite (.cmp .gtr (.var 1) (.lit 0))
 (.ite (.cmp .gtr (.var 3) (.lit 0))
 (.ite (.cmp .gtr (.ar .sub .i64 (.ar .mul .i64 (.var 0) (.var 3)) (.ar .mul .i64 (.var 1) (.var 2))) (.lit 0))
 (.ret ((.v (.one (.z (.int .i64 (.lit (-1)))))),[],6))
 (.ite (.cmp .lss (.ar .sub .i64 (.ar .mul .i64 (.var 0) (.var 3)) (.ar .mul .i64 (.var 1) (.var 2))) (.lit 0))
 (.ret ((.v (.one (.z (.int .i64 (.lit 1))))),[],8))
 (.ret ((.v (.one (.z (.int .i64 (.lit 0))))),[],8))))
 (.ite (.cmp .eql (.var 3) (.lit 0))
 (.ite (.not (.cmp .gtr (.var 2) (.lit 0)))
 (.ite (.cmp .gtr (.var 1) (.lit 0))
 (.ret ((.v (.one (.z (.int .i64 (.lit (-1)))))),[],5))
 (.ite (.cmp .eql (.var 1) (.lit 0))
 (.ite (.cmp .gtr (.var 0) (.lit 0))
 (.ret ((.v (.one (.z (.int .i64 (.lit (-1)))))),[],5))
 (.ret ((.v (.one (.z (.int .i64 (.lit 1))))),[],5)))
 (.ret ((.v (.one (.z (.int .i64 (.lit 1))))),[],5))))
 (.ite (.cmp .gtr (.ar .sub .i64 (.ar .mul .i64 (.var 0) (.var 3)) (.ar .mul .i64 (.var 1) (.var 2))) (.lit 0))
 (.ret ((.v (.one (.z (.int .i64 (.lit (-1)))))),[],6))
 (.ite (.cmp .lss (.ar .sub .i64 (.ar .mul .i64 (.var 0) (.var 3)) (.ar .mul .i64 (.var 1) (.var 2))) (.lit 0))
 (.ret ((.v (.one (.z (.int .i64 (.lit 1))))),[],8))
 (.ret ((.v (.one (.z (.int .i64 (.lit 0))))),[],8)))))
 (.ite (.cmp .gtr (.var 1) (.lit 0))
 (.ret ((.v (.one (.z (.int .i64 (.lit (-1)))))),[],5))
 (.ite (.cmp .eql (.var 1) (.lit 0))
 (.ite (.cmp .gtr (.var 0) (.lit 0))
 (.ret ((.v (.one (.z (.int .i64 (.lit (-1)))))),[],5))
 (.ret ((.v (.one (.z (.int .i64 (.lit 1))))),[],5)))
 (.ret ((.v (.one (.z (.int .i64 (.lit 1))))),[],5))))))
 (.ite (.cmp .eql (.var 1) (.lit 0))
 (.ite (.cmp .gtr (.var 3) (.lit 0))
 (.ite (.not (.cmp .gtr (.var 0) (.lit 0)))
 (.ite (.cmp .gtr (.var 1) (.lit 0))
 (.ret ((.v (.one (.z (.int .i64 (.lit (-1)))))),[],5))
 (.ite (.cmp .eql (.var 1) (.lit 0))
 (.ite (.cmp .gtr (.var 0) (.lit 0))
 (.ret ((.v (.one (.z (.int .i64 (.lit (-1)))))),[],5))
 (.ret ((.v (.one (.z (.int .i64 (.lit 1))))),[],5)))
 (.ret ((.v (.one (.z (.int .i64 (.lit 1))))),[],5))))
 (.ite (.cmp .gtr (.ar .sub .i64 (.ar .mul .i64 (.var 0) (.var 3)) (.ar .mul .i64 (.var 1) (.var 2))) (.lit 0))
 (.ret ((.v (.one (.z (.int .i64 (.lit (-1)))))),[],6))
 (.ite (.cmp .lss (.ar .sub .i64 (.ar .mul .i64 (.var 0) (.var 3)) (.ar .mul .i64 (.var 1) (.var 2))) (.lit 0))
 (.ret ((.v (.one (.z (.int .i64 (.lit 1))))),[],8))
 (.ret ((.v (.one (.z (.int .i64 (.lit 0))))),[],8)))))
 (.ite (.cmp .eql (.var 3) (.lit 0))
 (.ite (.not (.eqb (.cmp .gtr (.var 0) (.lit 0)) (.cmp .gtr (.var 2) (.lit 0))))
 (.ite (.cmp .gtr (.var 1) (.lit 0))
 (.ret ((.v (.one (.z (.int .i64 (.lit (-1)))))),[],5))
 (.ite (.cmp .eql (.var 1) (.lit 0))
 (.ite (.cmp .gtr (.var 0) (.lit 0))
 (.ret ((.v (.one (.z (.int .i64 (.lit (-1)))))),[],5))
 (.ret ((.v (.one (.z (.int .i64 (.lit 1))))),[],5)))
 (.ret ((.v (.one (.z (.int .i64 (.lit 1))))),[],5))))
 (.ite (.cmp .gtr (.ar .sub .i64 (.ar .mul .i64 (.var 0) (.var 3)) (.ar .mul .i64 (.var 1) (.var 2))) (.lit 0))
 (.ret ((.v (.one (.z (.int .i64 (.lit (-1)))))),[],6))
 (.ite (.cmp .lss (.ar .sub .i64 (.ar .mul .i64 (.var 0) (.var 3)) (.ar .mul .i64 (.var 1) (.var 2))) (.lit 0))
 (.ret ((.v (.one (.z (.int .i64 (.lit 1))))),[],8))
 (.ret ((.v (.one (.z (.int .i64 (.lit 0))))),[],8)))))
 (.ite (.cmp .gtr (.var 0) (.lit 0))
 (.ite (.cmp .gtr (.var 1) (.lit 0))
 (.ret ((.v (.one (.z (.int .i64 (.lit (-1)))))),[],5))
 (.ite (.cmp .eql (.var 1) (.lit 0))
 (.ite (.cmp .gtr (.var 0) (.lit 0))
 (.ret ((.v (.one (.z (.int .i64 (.lit (-1)))))),[],5))
 (.ret ((.v (.one (.z (.int .i64 (.lit 1))))),[],5)))
 (.ret ((.v (.one (.z (.int .i64 (.lit 1))))),[],5))))
 (.ite (.cmp .gtr (.ar .sub .i64 (.ar .mul .i64 (.var 0) (.var 3)) (.ar .mul .i64 (.var 1) (.var 2))) (.lit 0))
 (.ret ((.v (.one (.z (.int .i64 (.lit (-1)))))),[],6))
 (.ite (.cmp .lss (.ar .sub .i64 (.ar .mul .i64 (.var 0) (.var 3)) (.ar .mul .i64 (.var 1) (.var 2))) (.lit 0))
 (.ret ((.v (.one (.z (.int .i64 (.lit 1))))),[],8))
 (.ret ((.v (.one (.z (.int .i64 (.lit 0))))),[],8)))))))
 (.ite (.cmp .gtr (.var 3) (.lit 0))
 (.ite (.cmp .gtr (.var 1) (.lit 0))
 (.ret ((.v (.one (.z (.int .i64 (.lit (-1)))))),[],5))
 (.ite (.cmp .eql (.var 1) (.lit 0))
 (.ite (.cmp .gtr (.var 0) (.lit 0))
 (.ret ((.v (.one (.z (.int .i64 (.lit (-1)))))),[],5))
 (.ret ((.v (.one (.z (.int .i64 (.lit 1))))),[],5)))
 (.ret ((.v (.one (.z (.int .i64 (.lit 1))))),[],5))))
 (.ite (.cmp .eql (.var 3) (.lit 0))
 (.ite (.cmp .gtr (.var 2) (.lit 0))
 (.ite (.cmp .gtr (.var 1) (.lit 0))
 (.ret ((.v (.one (.z (.int .i64 (.lit (-1)))))),[],5))
 (.ite (.cmp .eql (.var 1) (.lit 0))
 (.ite (.cmp .gtr (.var 0) (.lit 0))
 (.ret ((.v (.one (.z (.int .i64 (.lit (-1)))))),[],5))
 (.ret ((.v (.one (.z (.int .i64 (.lit 1))))),[],5)))
 (.ret ((.v (.one (.z (.int .i64 (.lit 1))))),[],5))))
 (.ite (.cmp .gtr (.ar .sub .i64 (.ar .mul .i64 (.var 0) (.var 3)) (.ar .mul .i64 (.var 1) (.var 2))) (.lit 0))
 (.ret ((.v (.one (.z (.int .i64 (.lit (-1)))))),[],6))
 (.ite (.cmp .lss (.ar .sub .i64 (.ar .mul .i64 (.var 0) (.var 3)) (.ar .mul .i64 (.var 1) (.var 2))) (.lit 0))
 (.ret ((.v (.one (.z (.int .i64 (.lit 1))))),[],8))
 (.ret ((.v (.one (.z (.int .i64 (.lit 0))))),[],8)))))
 (.ite (.cmp .gtr (.ar .sub .i64 (.ar .mul .i64 (.var 0) (.var 3)) (.ar .mul .i64 (.var 1) (.var 2))) (.lit 0))
 (.ret ((.v (.one (.z (.int .i64 (.lit (-1)))))),[],6))
 (.ite (.cmp .lss (.ar .sub .i64 (.ar .mul .i64 (.var 0) (.var 3)) (.ar .mul .i64 (.var 1) (.var 2))) (.lit 0))
 (.ret ((.v (.one (.z (.int .i64 (.lit 1))))),[],8))
 (.ret ((.v (.one (.z (.int .i64 (.lit 0))))),[],8))))))))
set_option maxRecDepth 100000 in
theorem b4r:T.norm 0 (call Tryz.prog ctB (Lt.of []) 100 124 (g7 0 [P5,P5]) [] 0) TT.ret=a5E:=by kernel_rfl
theorem b1B:a5E.low 1000=true:=by kernel_rfl
def b4K:TT j4:=
(.ite (.not (.and (.cmp .eql (.var 0) (.lit 0)) (.cmp .eql (.var 1) (.lit 0))))
 (.ite (.cmp .leq (.mx (.var 0) (.var 1)) (.lit 1000000))
 (.ite (.cmp .geq (.mn (.var 0) (.var 1)) (.lit (-1000000)))
 (.ite (.not (.and (.cmp .eql (.var 2) (.lit 0)) (.cmp .eql (.var 3) (.lit 0))))
 (.ite (.cmp .leq (.mx (.var 2) (.var 3)) (.lit 1000000))
 (.ite (.cmp .geq (.mn (.var 2) (.var 3)) (.lit (-1000000)))
 (.ite (.cmp .geq (.var 4) (.lit 1))
 (.ite (.cmp .leq (.var 4) (.lit 3))
 (.ite (.cmp .geq (.var 5) (.lit 1))
 (.ret ((.v (.one (.z (.bool (.cmp .leq (.var 5) (.lit 3000000)))))),[],3))
 (.ret ((.v (.one (.z (.bool (.lit false))))),[],3)))
 (.ret ((.v (.one (.z (.bool (.lit false))))),[],3)))
 (.ret ((.v (.one (.z (.bool (.lit false))))),[],3)))
 (.ret ((.v (.one (.z (.bool (.lit false))))),[],3)))
 (.ret ((.v (.one (.z (.bool (.lit false))))),[],3)))
 (.ret ((.v (.one (.z (.bool (.lit false))))),[],3)))
 (.ret ((.v (.one (.z (.bool (.lit false))))),[],2)))
 (.ret ((.v (.one (.z (.bool (.lit false))))),[],2)))
 (.ret ((.v (.one (.z (.bool (.lit false))))),[],2)))
set_option maxRecDepth 100000 in
theorem c1u:T.norm 0 (call Tryz.prog ctB (Lt.of []) 100 102 (g7 0 [sec]) [] 0) TT.ret=b4K:=by kernel_rfl
theorem b9S:b4K.low 1000=true:=by kernel_rfl
def b4c(ds:List D):Bool:=f9 (a7 ds 0) (a7 ds 1)&&j6 (b9 ds 2)
def a1X(ds:List D):Int:=if b4c ds then j9 (b9 ds 2) (a7 ds 0) (a7 ds 1) (b9 ds 2).length 0 false else 0
def a2W(ds:List D):Int:=if b4c ds then 0 else 1
theorem d5x(W:World)(ds l:List D):(a9 KB W ds).fb 3 l=w7 l:=by simp only[a9,KB,KA,K9,K8,K7,K6,K5,K]
theorem d4R(W:World)(ds l:List D):(a9 KB W ds).fb 69 l=H0 l:=by simp only[a9,KB]
theorem d3M(W:World)(ds l:List D):(a9 KB W ds).fi 67 l=a3y l:=by simp only[a9,KB,KA,K9,K8,K7,K6,K5,K]
theorem P8(r:Rows):H0 [.l r]=j6 r:=rfl
theorem a2b(r:Rows)(x y:Int):a3y [.l r,.i x,.i y]=j9 r x y r.length 0 false:=rfl
theorem d4s:m8 Tryz.prog 162 [pt,A8] (fun ds=> .tuple #[.int .i64 (a1X ds),.int .i64 (a2W ds)]):=by
 refine GivesIf.all (i7 KB (by kernel_rfl) (fun ρ h=>a8n (Sees.of h 70)) (by kernel_rfl) c2w b7M (by decide) (fun W vals ds hr _=> ?_))
 simp only[b3d,g9,Nat.reduceBEq,Nat.reduceLT,Nat.reduceSub,d5x,d4R,d3M,D7,P8,a2b]
 refine⟨fun h=> ?_,fun h=>⟨fun h'=> ?_,fun h'=> ?_⟩⟩
 ·simp [a1X,a2W,b4c,h]
 ·simp [a1X,a2W,b4c,h']
 ·simp [a1X,a2W,b4c,h,h']
theorem c8R(o o':BinOp)(a b c d:Int):(B6 o a b=B6 o' c d)=(j8 o a b↔j8 o' c d):=by rw[Bool.eq_iff_iff,n8,n8]
def a5G(a b c d:Int):Int:=IntKind.i64.wrap (IntKind.i64.wrap (a*d)-IntKind.i64.wrap (b*c))
def x8(a b c d:Int):Int:=if 0<b∨(b=0∧0<a) then(if 0<d∨(d=0∧0<c) then(if 0<a5G a b c d then -1 else if a5G a b c d<0 then 1 else 0) else -1)
 else(if 0<d∨(d=0∧0<c) then 1 else(if 0<a5G a b c d then -1 else if a5G a b c d<0 then 1 else 0))
def a3Q(ds:List D):Int:=x8 (a7 ds 0) (a7 ds 1) (a7 ds 2) (a7 ds 3)
set_option maxHeartbeats 1000000 in
theorem c4R:m8 Tryz.prog 124 [P5,P5] (fun ds=> .int .i64 (a3Q ds)):=by
 refine GivesIf.all (i7 KB (by kernel_rfl) (fun ρ h=>a8n (Sees.of h 70)) (by kernel_rfl) b4r b1B (by decide) (fun W vals ds hr _=> ?_))
 simp only[a5E,g9,Nat.reduceBEq,Nat.reduceLT,Nat.reduceSub]
 simp only[a3Q,x8]
 rw[show IntKind.i64.wrap (IntKind.i64.wrap (a7 ds 0*a7 ds 3)-IntKind.i64.wrap (a7 ds 1*a7 ds 2))=a5G (a7 ds 0) (a7 ds 1) (a7 ds 2) (a7 ds 3) from rfl]
 generalize a5G (a7 ds 0) (a7 ds 1) (a7 ds 2) (a7 ds 3)=z
 generalize a7 ds 0=a
 generalize a7 ds 1=b
 generalize a7 ds 2=c
 generalize a7 ds 3=d
 repeat' (first | (intro h;skip) | (refine And.intro ?_ ?_))
 all_goals (congr 1;(try simp only[Bool.not_eq_true',Bool.not_eq_false',beq_iff_eq,beq_eq_false_iff_ne,ne_eq,c8R,j8] at *);(repeat' split)<;>omega)
def a7H(a b c d e f:Int):Bool:=decide (¬(a=0∧b=0)∧(-1000000≤a∧a≤1000000)∧(-1000000≤b∧b≤1000000)∧¬(c=0∧d=0)∧(-1000000≤c∧c≤1000000)∧(-1000000≤d∧d≤1000000)∧(1≤e∧e≤3)∧1≤f∧f≤3000000)
def a1r(ds:List D):Bool:=a7H (a7 ds 0) (a7 ds 1) (a7 ds 2) (a7 ds 3) (a7 ds 4) (a7 ds 5)
theorem d2I:m8 Tryz.prog 102 [sec] (fun ds=> .bool (a1r ds)):=by
 refine GivesIf.all (i7 KB (by kernel_rfl) (fun ρ h=>a8n (Sees.of h 70)) (by kernel_rfl) c1u b9S (by decide) (fun W vals ds hr _=> ?_))
 simp only[b4K,g9,Nat.reduceBEq,Nat.reduceLT,Nat.reduceSub]
 simp only[a1r,a7H]
 repeat' (first | (intro h;skip) | (refine And.intro ?_ ?_))
 all_goals (congr 1;rw[Bool.eq_iff_iff];try rw[n8])
 all_goals (simp only[j8,decide_eq_true_eq,Bool.false_eq_true,false_iff];omega)
def KC:Interp where
 fi n l:=match n with | 70=>a1X l | 71=>a2W l | 72=>a3Q l | n=>KB.fi n l
 fb n l:=match n with | 73=>a1r l | n=>KB.fb n l
 fd _ _:=[]
theorem d3E{ρ:Env}(h:Sees ρ KC 74):Sees ρ KB 70:=h.trans (by decide) fun n l hn=>by
 refine⟨?_,?_⟩
 ·
  simp only[KC]
  split<;>first | omega | rfl
 ·
  simp only[KC]
  split<;>first | omega | rfl
def c6S:=u7 [pt,A8] fun al=> .ret (.tup [.one (w9 70 a1X al),.one (w9 71 a2W al)])
theorem c6h{ρ:Env}(h:Sees ρ KC 74):i9 Tryz.prog ρ 162 c6S:=
 j7 d4s (fun _=>rfl) (fun al=>by simp only[V.val,V2.val,S.val,S0.val,w9,T7,List.map_cons,List.map_nil,k8 (s:=70) (f:=a1X) (fun l=>by rw[(h 70 l (by decide)).1];simp only[KC]),k8 (s:=71) (f:=a2W) (fun l=>by rw[(h 71 l (by decide)).1];simp only[KC])];try rfl)
def b4C:=u7 [P5,P5] fun al=> .ret (iV .i64 (iF 72 a3Q al))
theorem b5P{ρ:Env}(h:Sees ρ KC 74):i9 Tryz.prog ρ 124 b4C:=
 j7 c4R (fun _=>rfl) (fun al=>by simp only[iV,bV,V.s0,V.val,V2.val,S.val,S0.val,k8 (s:=72) (f:=a3Q) (fun l=>by rw[(h 72 l (by decide)).1];simp only[KC])];try rfl)
def c2n:=u7 [sec] fun al=> .ret (bV (bF 73 a1r al))
theorem c0v{ρ:Env}(h:Sees ρ KC 74):i9 Tryz.prog ρ 102 c2n:=
 j7 d2I (fun _=>rfl) (fun al=>by simp only[iV,bV,V.s0,V.val,V2.val,S.val,S0.val,m9 (s:=73) (f:=a1r) (fun l=>by rw[(h 73 l (by decide)).2];simp only[KC])];try rfl)
def ctC:Ct:=(162,c6S)::(124,b4C)::(102,c2n)::ctB
theorem c1Y{ρ:Env}(h:Sees ρ KC 74):CtOk Tryz.prog ρ ctC:= .cons (c6h h)<| .cons (b5P h)<| .cons (c0v h) (a8n (d3E h))
def a7o:Sh:= .one (.sl b9n)
def b9D:TT j4:=
(.ite (.cmp .eql (.fn 72 (.i (.var 0) (.i (.var 1) (.i (.var 2) (.i (.var 3) .nil))))) (.lit (-1)))
 (.ite (.cmp .leq (.fn 72 (.i (.var 0) (.i (.var 1) (.i (.var 6) (.i (.var 7) .nil))))) (.lit 0))
 (.ret ((.v (.one (.z (.bool (.not (.cmp .leq (.fn 72 (.i (.var 2) (.i (.var 3) (.i (.var 6) (.i (.var 7) .nil))))) (.lit 0))))))),[],4))
 (.ret ((.v (.one (.z (.bool (.lit false))))),[],4)))
 (.ite (.cmp .eql (.fn 72 (.i (.var 0) (.i (.var 1) (.i (.var 2) (.i (.var 3) .nil))))) (.lit 1))
 (.ite (.cmp .leq (.fn 72 (.i (.var 0) (.i (.var 1) (.i (.var 6) (.i (.var 7) .nil))))) (.lit 0))
 (.ret ((.v (.one (.z (.bool (.lit true))))),[],4))
 (.ret ((.v (.one (.z (.bool (.not (.cmp .leq (.fn 72 (.i (.var 2) (.i (.var 3) (.i (.var 6) (.i (.var 7) .nil))))) (.lit 0))))))),[],4)))
 (.ret ((.v (.one (.z (.bool (.lit true))))),[],4))))
set_option maxRecDepth 100000 in
theorem c4f:T.norm 0 (call Tryz.prog ctC (Lt.of []) 100 103 (g7 0 [sec,P5]) [] 0) TT.ret=b9D:=by kernel_rfl
theorem c1P:b9D.low 1000=true:=by kernel_rfl
def a2m(a b c d x y:Int):Bool:=if x8 a b c d= -1 then decide (x8 a b x y≤0)&& !decide (x8 c d x y≤0)
 else if x8 a b c d=1 then decide (x8 a b x y≤0)|| !decide (x8 c d x y≤0) else true
def hasL(ds:List D):Bool:=a2m (a7 ds 0) (a7 ds 1) (a7 ds 2) (a7 ds 3) (a7 ds 6) (a7 ds 7)
theorem d4Y(W:World)(ds l:List D):(a9 KC W ds).fi 72 l=a3Q l:=by simp only[a9,KC]
theorem c2i(a b c d:Int):a3Q [.i a,.i b,.i c,.i d]=x8 a b c d:=rfl
theorem d6B:m8 Tryz.prog 103 [sec,P5] (fun ds=> .bool (hasL ds)):=by
 refine GivesIf.all (i7 KC (by kernel_rfl) (fun ρ h=>c1Y (Sees.of h 74)) (by kernel_rfl) c4f c1P (by decide) (fun W vals ds hr _=> ?_))
 simp only[b9D,g9,Nat.reduceBEq,Nat.reduceLT,Nat.reduceSub,d4Y,c2i]
 simp only[hasL,a2m]
 refine⟨fun h=>⟨fun h'=> ?_,fun h'=> ?_⟩,fun h=>⟨fun h1=>⟨fun h'=> ?_,fun h'=> ?_⟩,fun h1=> ?_⟩⟩
 all_goals simp [*,B6]
def KD:Interp where
 fi n l:=KC.fi n l
 fb n l:=match n with | 74=>hasL l | n=>KC.fb n l
 fd _ _:=[]
theorem d3Y{ρ:Env}(h:Sees ρ KD 75):Sees ρ KC 74:=h.trans (by decide) fun n l hn=>by
 refine⟨?_,?_⟩
 ·
  rfl
 ·
  simp only[KD]
  split<;>first | omega | rfl
def d3n:=u7 [sec,P5] fun al=> .ret (bV (bF 74 hasL al))
theorem c9Y{ρ:Env}(h:Sees ρ KD 75):i9 Tryz.prog ρ 103 d3n:=
 j7 d6B (fun _=>rfl) (fun al=>by simp only[iV,bV,V.s0,V.val,V2.val,S.val,S0.val,m9 (s:=74) (f:=hasL) (fun l=>by rw[(h 74 l (by decide)).2];simp only[KD])];try rfl)
def c5c:Ct:=(103,d3n)::ctC
theorem b7t{ρ:Env}(h:Sees ρ KD 75):CtOk Tryz.prog ρ c5c:= .cons (c9Y h) (c1Y (d3Y h))
def b3i:TT j4:=
(.loop 0 1000 ⟨[(0,(.lit 0))],[],[]⟩
 (.ite (.cmp .lss (.var 1000) (.len (.var 0)))
 (.ob (.tru (.cmp .leq (.lit 0) (.var 1000)))
 (.ob (.tru (.cmp .lss (.var 1000) (.len (.var 0))))
 (.ite (.not (.fn 73 (.i (.rd (.var 0) (.var 1000) 0) (.i (.rd (.var 0) (.var 1000) 1) (.i (.rd (.var 0) (.var 1000) 2) (.i (.rd (.var 0) (.var 1000) 3) (.i (.rd (.var 0) (.var 1000) 4) (.i (.rd (.var 0) (.var 1000) 5) .nil))))))))
 (.ret ((.v (.one (.z (.bool (.lit false))))),[],4))
 (.ob (.tru (.lit true))
 (.ob (.tru (.cmp .leq (.lit 0) (.var 1000)))
 (.ob (.tru (.cmp .leq (.var 1000) (.len (.var 0))))
 (.loop 1 3000 ⟨[(0,(.lit 0))],[],[]⟩
 (.ite (.cmp .lss (.var 3000) (.len (.sub (.var 0) (.lit 0) (.var 1000))))
 (.ob (.tru (.cmp .leq (.lit 0) (.var 3000)))
 (.ob (.tru (.cmp .lss (.var 3000) (.len (.sub (.var 0) (.lit 0) (.var 1000)))))
 (.ite (.fn 74 (.i (.rd (.var 0) (.var 1000) 0) (.i (.rd (.var 0) (.var 1000) 1) (.i (.rd (.var 0) (.var 1000) 2) (.i (.rd (.var 0) (.var 1000) 3) (.i (.rd (.var 0) (.var 1000) 4) (.i (.rd (.var 0) (.var 1000) 5) (.i (.rd (.sub (.var 0) (.lit 0) (.var 1000)) (.var 3000) 0) (.i (.rd (.sub (.var 0) (.lit 0) (.var 1000)) (.var 3000) 1) .nil)))))))))
 (.ret ((.v (.one (.z (.bool (.lit false))))),[],4))
 (.ite (.fn 74 (.i (.rd (.sub (.var 0) (.lit 0) (.var 1000)) (.var 3000) 0) (.i (.rd (.sub (.var 0) (.lit 0) (.var 1000)) (.var 3000) 1) (.i (.rd (.sub (.var 0) (.lit 0) (.var 1000)) (.var 3000) 2) (.i (.rd (.sub (.var 0) (.lit 0) (.var 1000)) (.var 3000) 3) (.i (.rd (.sub (.var 0) (.lit 0) (.var 1000)) (.var 3000) 4) (.i (.rd (.sub (.var 0) (.lit 0) (.var 1000)) (.var 3000) 5) (.i (.rd (.var 0) (.var 1000) 0) (.i (.rd (.var 0) (.var 1000) 1) .nil)))))))))
 (.ret ((.v (.one (.z (.bool (.lit false))))),[],4))
 (.next 1 ⟨[(0,(.ar .add .i64 (.var 3000) (.lit 1)))],[],[]⟩)))))
 (.next 0 ⟨[(0,(.ar .add .i64 (.var 1000) (.lit 1)))],[],[]⟩)))))))))
 (.ret ((.v (.one (.z (.bool (.cmp .leq (.len (.var 0)) (.lit 12)))))),[],4))))
set_option maxRecDepth 100000 in
theorem c2x:T.norm 0 (call Tryz.prog c5c (Lt.of []) 100 76 (g7 0 [a7o]) [] 0) TT.ret=b3i:=by kernel_rfl
theorem b9x:b3i.low 1000=true:=by kernel_rfl
theorem c6a(r:Rows){b:Nat}(h:b≤r.length):(o7 r 0 (b:Int)).length=b:=by
 simp only[o7,List.length_take,List.length_drop]
 simp
 omega
theorem d0h(r:Rows){b i:Nat}(j:Nat)(h:i<b):lg (o7 r 0 (b:Int)) (i:Int) j=lg r (i:Int) j:=by
 have:u9 (o7 r 0 (b:Int)) (i:Int) j=u9 r (i:Int) j:=by
  simp only[u9,o7]
  simp [List.getD_eq_getElem?_getD,List.getElem?_take,h]
 rw[lg,lg,this]
def a3a(r:Rows)(i:Nat):Bool:=a7H (lg r i 0) (lg r i 1) (lg r i 2) (lg r i 3) (lg r i 4) (lg r i 5)
def b2U(r:Rows)(i k:Nat):Bool:=a2m (lg r i 0) (lg r i 1) (lg r i 2) (lg r i 3) (lg r k 0) (lg r k 1)||a2m (lg r k 0) (lg r k 1) (lg r k 2) (lg r k 3) (lg r i 0) (lg r i 1)
def a4U(r:Rows)(i:Nat):Nat→Nat→Bool
 | 0,_=>true
 | f+1,k=> !b2U r i k&&a4U r i f (k+1)
def a0w(r:Rows):Nat→Nat→Bool
 | 0,_=>true
 | f+1,i=>(a3a r i&&a4U r i i 0)&&a0w r f (i+1)
def V4(r:Rows):Bool:=a0w r r.length 0&&decide (r.length≤12)
def T0(ds:List D):Bool:=V4 (b9 ds 0)
theorem c6O(W:World)(ds l:List D):(a9 KD W ds).fb 73 l=a1r l:=by simp only[a9,KD,KC]
theorem c6y(W:World)(ds l:List D):(a9 KD W ds).fb 74 l=hasL l:=by simp only[a9,KD]
theorem a6s(a b c d e f:Int):a1r [.i a,.i b,.i c,.i d,.i e,.i f]=a7H a b c d e f:=rfl
theorem b1m(a b c d e f x y:Int):hasL [.i a,.i b,.i c,.i d,.i e,.i f,.i x,.i y]=a2m a b c d x y:=rfl
theorem b4h{W:World}{vals:List Value}{ds:List D}{sh:List Sh}(h:T4 W (a7o::sh) vals ds):(b9 ds 0).length≤281474976710656:=by
 obtain⟨v,vs',d,ds',rfl,rfl,⟨d,rfl,h⟩,_⟩:=h
 rw[R1] at h
 obtain⟨r,rfl,a,n,c,_,hs,_⟩:=h
 have e1:=hs.len
 have e2:=hs.big
 show r.length≤_
 omega
theorem d4T:m8 Tryz.prog 76 [a7o] (fun ds=> .bool (T0 ds)):=by
 refine GivesIf.all (i7 KD (by kernel_rfl) (fun ρ h=>b7t (Sees.of h 75)) (by kernel_rfl) c2x b9x (by decide) (fun W vals ds hr _=> ?_))
 have hlen:=b4h hr
 simp only[b3i]
 generalize hr0:b9 ds 0=r at hlen
 have hP:T0 ds=V4 r:=by rw[T0,hr0]
 rw[hP]
 refine TT.sat_loop (fun v=>∃i:Nat,v.i 0=i∧i≤r.length∧(a0w r (r.length-i) i&&decide (r.length≤12))=V4 r) (fun v=>r.length-(v.i 0).toNat)
  ⟨0,by simp [j5,i8,E.ev],by omega,rfl⟩ (fun v hv=> ?_)
 obtain⟨i,i0,i1,i2⟩:=hv
 simp only[g9,Nat.reduceBEq,Nat.reduceLT,Nat.reduceSub,i0,hr0,c6O,c6y,a6s,b1m]
 refine⟨fun hc=> ?_,fun hc=> ?_⟩
 ·have hi:i<r.length:=by omega
  obtain⟨f,hf⟩:∃f,r.length-i=f+1:=⟨r.length-i-1,by omega⟩
  rw[hf,a0w] at i2
  have hsub:=c6a r (show i≤r.length by omega)
  refine⟨by omega,by omega,fun p=> ?_,fun p=>⟨by omega,by omega,?_⟩⟩
  ·rw[←i2,a3a,p];rfl
  refine TT.sat_loop (fun v=>∃k:Nat,v.i 0=k∧k≤i∧((a4U r i (i-k) k&&a0w r f (i+1))&&decide (r.length≤12))=V4 r) (fun v=>i-(v.i 0).toNat)
   ⟨0,by simp [j5,i8,E.ev],by omega,by rw[←i2,a3a,p];rfl⟩ (fun u hu=> ?_)
  obtain⟨k,k0,k1,k2⟩:=hu
  simp only[g9,Nat.reduceBEq,Nat.reduceLT,Nat.reduceSub,i0,k0,hr0,hsub,c6O,c6y,a6s,b1m]
  refine⟨fun hk=> ?_,fun hk=> ?_⟩
  ·have hki:k<i:=by omega
   obtain⟨g,hg⟩:∃g,i-k=g+1:=⟨i-k-1,by omega⟩
   rw[hg,a4U,b2U] at k2
   simp only[d0h r _ hki]
   refine⟨by omega,by omega,fun q=> ?_,fun q=>⟨fun q'=> ?_,fun q'=>⟨⟨k+1,?_,by omega,?_⟩,?_⟩⟩⟩
   ·rw[←k2,q];rfl
   ·rw[←k2,q,q'];rfl
   ·rw[b8 _ (by omega) (by omega)];rfl
   ·rw[show i-(k+1)=g by omega,←k2,q,q'];rfl
   ·rw[b8 _ (by omega) (by omega)];omega
  ·have:i-k=0:=by omega
   rw[this,a4U,Bool.true_and] at k2
   refine⟨⟨i+1,?_,by omega,?_⟩,?_⟩
   ·rw[b8 _ (by omega) (by omega)];rfl
   ·rw[show r.length-(i+1)=f by omega];exact k2
   ·rw[b8 _ (by omega) (by omega)];omega
 ·have:r.length-i=0:=by omega
  rw[this,a0w,Bool.true_and] at i2
  rw[←i2]
  congr 1
  rw[Bool.eq_iff_iff,n8,decide_eq_true_eq]
  simp only[j8]
  omega
def KE:Interp where
 fi n l:=KD.fi n l
 fb n l:=match n with | 75=>T0 l | n=>KD.fb n l
 fd _ _:=[]
theorem d3J{ρ:Env}(h:Sees ρ KE 76):Sees ρ KD 75:=h.trans (by decide) fun n l hn=>by
 refine⟨?_,?_⟩
 ·
  rfl
 ·
  simp only[KE]
  split<;>first | omega | rfl
def c6B:=u7 [a7o] fun al=> .ret (bV (bF 75 T0 al))
theorem c4v{ρ:Env}(h:Sees ρ KE 76):i9 Tryz.prog ρ 76 c6B:=
 j7 d4T (fun _=>rfl) (fun al=>by simp only[iV,bV,V.s0,V.val,V2.val,S.val,S0.val,m9 (s:=75) (f:=T0) (fun l=>by rw[(h 75 l (by decide)).2];simp only[KE])];try rfl)
def ctE:Ct:=(76,c6B)::c5c
theorem c2G{ρ:Env}(h:Sees ρ KE 76):CtOk Tryz.prog ρ ctE:= .cons (c4v h) (b7t (d3J h))
def S6:Sh:= .agg [.int .i64,.int .i64,.int .i64,.int .i64,.int .i64,.sl ptK,.int .i64,.int .i64,.sl b9n]
def b0j:TT j4:=
(.ite (.cmp .lss (.var 0) (.lit 1))
 (.ret ((.v (.one (.z (.bool (.lit false))))),[],1))
 (.ite (.cmp .gtr (.var 0) (.lit 100000))
 (.ret ((.v (.one (.z (.bool (.lit false))))),[],1))
 (.ite (.cmp .lss (.var 7) (.lit 0))
 (.ret ((.v (.one (.z (.bool (.lit false))))),[],1))
 (.ite (.cmp .gtr (.var 7) (.lit 999))
 (.ret ((.v (.one (.z (.bool (.lit false))))),[],1))
 (.ite (.cmp .lss (.var 6) (.lit 0))
 (.ret ((.v (.one (.z (.bool (.lit false))))),[],1))
 (.ite (.cmp .gtr (.var 6) (.lit 100000))
 (.ret ((.v (.one (.z (.bool (.lit false))))),[],1))
 (.ite (.cmp .lss (.var 4) (.lit 0))
 (.ret ((.v (.one (.z (.bool (.lit false))))),[],1))
 (.ite (.cmp .gtr (.var 4) (.lit 100000))
 (.ret ((.v (.one (.z (.bool (.lit false))))),[],1))
 (.ite (.cmp .eql (.var 1) (.lit 1))
 (.ite (.cmp .eql (.var 1) (.lit 1))
 (.ite (.fn 3 (.i (.var 2) (.i (.var 3) .nil)))
 (.ite (.fn 3 (.i (.ar .sub .i64 (.var 2) (.var 4)) (.i (.ar .sub .i64 (.var 3) (.var 4)) .nil)))
 (.ite (.fn 3 (.i (.ar .add .i64 (.var 2) (.var 4)) (.i (.ar .add .i64 (.var 3) (.var 4)) .nil)))
 (.ite (.cmp .eql (.len (.var 5)) (.lit 0))
 (.ret ((.v (.one (.z (.bool (.cmp .eql (.len (.var 8)) (.lit 0)))))),[],2))
 (.ret ((.v (.one (.z (.bool (.lit false))))),[],2)))
 (.ret ((.v (.one (.z (.bool (.lit false))))),[],2)))
 (.ret ((.v (.one (.z (.bool (.lit false))))),[],2)))
 (.ret ((.v (.one (.z (.bool (.lit false))))),[],1)))
 (.ite (.cmp .eql (.var 1) (.lit 6))
 (.ite (.cmp .gtr (.var 6) (.lit 0))
 (.ret ((.v (.one (.z (.bool (.lit false))))),[],1))
 (.ite (.fn 69 (.x (.var 5) .nil))
 (.ite (.and (.cmp .eql (.var 2) (.lit 0)) (.cmp .eql (.var 3) (.lit 0)))
 (.ite (.cmp .eql (.var 4) (.lit 0))
 (.ret ((.v (.one (.z (.bool (.cmp .eql (.len (.var 8)) (.lit 0)))))),[],1))
 (.ret ((.v (.one (.z (.bool (.lit false))))),[],1)))
 (.ret ((.v (.one (.z (.bool (.lit false))))),[],1)))
 (.ret ((.v (.one (.z (.bool (.lit false))))),[],1))))
 (.ite (.cmp .eql (.var 1) (.lit 3))
 (.ite (.fn 69 (.x (.var 5) .nil))
 (.ite (.and (.cmp .eql (.var 2) (.lit 0)) (.cmp .eql (.var 3) (.lit 0)))
 (.ite (.cmp .eql (.var 4) (.lit 0))
 (.ret ((.v (.one (.z (.bool (.cmp .eql (.len (.var 8)) (.lit 0)))))),[],1))
 (.ret ((.v (.one (.z (.bool (.lit false))))),[],1)))
 (.ret ((.v (.one (.z (.bool (.lit false))))),[],1)))
 (.ret ((.v (.one (.z (.bool (.lit false))))),[],1)))
 (.ite (.cmp .eql (.var 1) (.lit 4))
 (.ite (.fn 3 (.i (.var 2) (.i (.var 3) .nil)))
 (.ite (.fn 75 (.x (.var 8) .nil))
 (.ite (.cmp .eql (.var 4) (.lit 0))
 (.ite (.cmp .eql (.var 6) (.lit 0))
 (.ret ((.v (.one (.z (.bool (.cmp .eql (.len (.var 5)) (.lit 0)))))),[],1))
 (.ret ((.v (.one (.z (.bool (.lit false))))),[],1)))
 (.ret ((.v (.one (.z (.bool (.lit false))))),[],1)))
 (.ret ((.v (.one (.z (.bool (.lit false))))),[],1)))
 (.ret ((.v (.one (.z (.bool (.lit false))))),[],1)))
 (.ret ((.v (.one (.z (.bool (.lit false))))),[],1))))))
 (.ite (.cmp .eql (.var 1) (.lit 2))
 (.ite (.cmp .eql (.var 1) (.lit 2))
 (.ite (.fn 3 (.i (.var 2) (.i (.var 3) .nil)))
 (.ite (.fn 3 (.i (.ar .sub .i64 (.var 2) (.var 4)) (.i (.ar .sub .i64 (.var 3) (.var 4)) .nil)))
 (.ite (.fn 3 (.i (.ar .add .i64 (.var 2) (.var 4)) (.i (.ar .add .i64 (.var 3) (.var 4)) .nil)))
 (.ite (.cmp .eql (.len (.var 5)) (.lit 0))
 (.ret ((.v (.one (.z (.bool (.cmp .eql (.len (.var 8)) (.lit 0)))))),[],2))
 (.ret ((.v (.one (.z (.bool (.lit false))))),[],2)))
 (.ret ((.v (.one (.z (.bool (.lit false))))),[],2)))
 (.ret ((.v (.one (.z (.bool (.lit false))))),[],2)))
 (.ret ((.v (.one (.z (.bool (.lit false))))),[],1)))
 (.ite (.cmp .eql (.var 1) (.lit 6))
 (.ite (.cmp .gtr (.var 6) (.lit 0))
 (.ret ((.v (.one (.z (.bool (.lit false))))),[],1))
 (.ite (.fn 69 (.x (.var 5) .nil))
 (.ite (.and (.cmp .eql (.var 2) (.lit 0)) (.cmp .eql (.var 3) (.lit 0)))
 (.ite (.cmp .eql (.var 4) (.lit 0))
 (.ret ((.v (.one (.z (.bool (.cmp .eql (.len (.var 8)) (.lit 0)))))),[],1))
 (.ret ((.v (.one (.z (.bool (.lit false))))),[],1)))
 (.ret ((.v (.one (.z (.bool (.lit false))))),[],1)))
 (.ret ((.v (.one (.z (.bool (.lit false))))),[],1))))
 (.ite (.cmp .eql (.var 1) (.lit 3))
 (.ite (.fn 69 (.x (.var 5) .nil))
 (.ite (.and (.cmp .eql (.var 2) (.lit 0)) (.cmp .eql (.var 3) (.lit 0)))
 (.ite (.cmp .eql (.var 4) (.lit 0))
 (.ret ((.v (.one (.z (.bool (.cmp .eql (.len (.var 8)) (.lit 0)))))),[],1))
 (.ret ((.v (.one (.z (.bool (.lit false))))),[],1)))
 (.ret ((.v (.one (.z (.bool (.lit false))))),[],1)))
 (.ret ((.v (.one (.z (.bool (.lit false))))),[],1)))
 (.ite (.cmp .eql (.var 1) (.lit 4))
 (.ite (.fn 3 (.i (.var 2) (.i (.var 3) .nil)))
 (.ite (.fn 75 (.x (.var 8) .nil))
 (.ite (.cmp .eql (.var 4) (.lit 0))
 (.ite (.cmp .eql (.var 6) (.lit 0))
 (.ret ((.v (.one (.z (.bool (.cmp .eql (.len (.var 5)) (.lit 0)))))),[],1))
 (.ret ((.v (.one (.z (.bool (.lit false))))),[],1)))
 (.ret ((.v (.one (.z (.bool (.lit false))))),[],1)))
 (.ret ((.v (.one (.z (.bool (.lit false))))),[],1)))
 (.ret ((.v (.one (.z (.bool (.lit false))))),[],1)))
 (.ret ((.v (.one (.z (.bool (.lit false))))),[],1))))))
 (.ite (.cmp .eql (.var 1) (.lit 5))
 (.ite (.fn 3 (.i (.var 2) (.i (.var 3) .nil)))
 (.ite (.fn 3 (.i (.ar .sub .i64 (.var 2) (.var 4)) (.i (.ar .sub .i64 (.var 3) (.var 4)) .nil)))
 (.ite (.fn 3 (.i (.ar .add .i64 (.var 2) (.var 4)) (.i (.ar .add .i64 (.var 3) (.var 4)) .nil)))
 (.ite (.cmp .eql (.len (.var 5)) (.lit 0))
 (.ret ((.v (.one (.z (.bool (.cmp .eql (.len (.var 8)) (.lit 0)))))),[],2))
 (.ret ((.v (.one (.z (.bool (.lit false))))),[],2)))
 (.ret ((.v (.one (.z (.bool (.lit false))))),[],2)))
 (.ret ((.v (.one (.z (.bool (.lit false))))),[],2)))
 (.ret ((.v (.one (.z (.bool (.lit false))))),[],1)))
 (.ite (.cmp .eql (.var 1) (.lit 6))
 (.ite (.cmp .gtr (.var 6) (.lit 0))
 (.ret ((.v (.one (.z (.bool (.lit false))))),[],1))
 (.ite (.fn 69 (.x (.var 5) .nil))
 (.ite (.and (.cmp .eql (.var 2) (.lit 0)) (.cmp .eql (.var 3) (.lit 0)))
 (.ite (.cmp .eql (.var 4) (.lit 0))
 (.ret ((.v (.one (.z (.bool (.cmp .eql (.len (.var 8)) (.lit 0)))))),[],1))
 (.ret ((.v (.one (.z (.bool (.lit false))))),[],1)))
 (.ret ((.v (.one (.z (.bool (.lit false))))),[],1)))
 (.ret ((.v (.one (.z (.bool (.lit false))))),[],1))))
 (.ite (.cmp .eql (.var 1) (.lit 3))
 (.ite (.fn 69 (.x (.var 5) .nil))
 (.ite (.and (.cmp .eql (.var 2) (.lit 0)) (.cmp .eql (.var 3) (.lit 0)))
 (.ite (.cmp .eql (.var 4) (.lit 0))
 (.ret ((.v (.one (.z (.bool (.cmp .eql (.len (.var 8)) (.lit 0)))))),[],1))
 (.ret ((.v (.one (.z (.bool (.lit false))))),[],1)))
 (.ret ((.v (.one (.z (.bool (.lit false))))),[],1)))
 (.ret ((.v (.one (.z (.bool (.lit false))))),[],1)))
 (.ite (.cmp .eql (.var 1) (.lit 4))
 (.ite (.fn 3 (.i (.var 2) (.i (.var 3) .nil)))
 (.ite (.fn 75 (.x (.var 8) .nil))
 (.ite (.cmp .eql (.var 4) (.lit 0))
 (.ite (.cmp .eql (.var 6) (.lit 0))
 (.ret ((.v (.one (.z (.bool (.cmp .eql (.len (.var 5)) (.lit 0)))))),[],1))
 (.ret ((.v (.one (.z (.bool (.lit false))))),[],1)))
 (.ret ((.v (.one (.z (.bool (.lit false))))),[],1)))
 (.ret ((.v (.one (.z (.bool (.lit false))))),[],1)))
 (.ret ((.v (.one (.z (.bool (.lit false))))),[],1)))
 (.ret ((.v (.one (.z (.bool (.lit false))))),[],1))))))))))))))))
set_option maxRecDepth 100000 in
theorem b9Y:T.norm 0 (call Tryz.prog ctE (Lt.of []) 100 57 (g7 0 [S6]) [] 0) TT.ret=b0j:=by kernel_rfl
theorem b5g:b0j.low 1000=true:=by kernel_rfl
def a4r(id kind x y rad:Int)(area:Rows)(depth sym:Int)(sc:Rows):Prop:=
 (1≤id∧id≤100000)∧(0≤sym∧sym≤999)∧(0≤depth∧depth≤100000)∧(0≤rad∧rad≤100000)∧
 (((kind=1∨kind=2∨kind=5)∧f9 x y=true∧f9 (x-rad) (y-rad)=true∧f9 (x+rad) (y+rad)=true∧(area.length:Int)=0∧(sc.length:Int)=0)∨
  ((kind=3∨(kind=6∧depth=0))∧j6 area=true∧x=0∧y=0∧rad=0∧(sc.length:Int)=0)∨
  (kind=4∧f9 x y=true∧V4 sc=true∧rad=0∧depth=0∧(area.length:Int)=0))
instance (id kind x y rad:Int) (area:Rows) (depth sym:Int) (sc:Rows):Decidable (a4r id kind x y rad area depth sym sc):=by unfold a4r;infer_instance
def G2(id kind x y rad:Int)(area:Rows)(depth sym:Int)(sc:Rows):Bool:=decide (a4r id kind x y rad area depth sym sc)
def G1(ds:List D):Bool:=G2 (a7 ds 0) (a7 ds 1) (a7 ds 2) (a7 ds 3) (a7 ds 4) (b9 ds 5) (a7 ds 6) (a7 ds 7) (b9 ds 8)
theorem d6v(W:World)(ds l:List D):(a9 KE W ds).fb 3 l=w7 l:=by simp only[a9,KE,KD,KC,KB,KA,K9,K8,K7,K6,K5,K]
theorem d5c(W:World)(ds l:List D):(a9 KE W ds).fb 69 l=H0 l:=by simp only[a9,KE,KD,KC,KB]
theorem d4F(W:World)(ds l:List D):(a9 KE W ds).fb 75 l=T0 l:=by simp only[a9,KE]
theorem b2k(r:Rows):T0 [.l r]=V4 r:=rfl
set_option maxHeartbeats 2000000 in
theorem d0F:m8 Tryz.prog 57 [S6] (fun ds=> .bool (G1 ds)):=by
 refine GivesIf.all (i7 KE (by kernel_rfl) (fun ρ h=>c2G (Sees.of h 76)) (by kernel_rfl) b9Y b5g (by decide) (fun W vals ds hr _=> ?_))
 simp only[b0j,g9,Nat.reduceBEq,Nat.reduceLT,Nat.reduceSub,d6v,d5c,d4F,D7,P8,b2k]
 simp only[G1,G2]
 generalize a7 ds 0=id
 generalize a7 ds 1=kind
 generalize a7 ds 2=x
 generalize a7 ds 3=y
 generalize a7 ds 4=rad
 generalize b9 ds 5=area
 generalize a7 ds 6=depth
 generalize a7 ds 7=sym
 generalize b9 ds 8=sc
 have W1:f9 x y=true→0≤rad→rad≤100000→f9 (IntKind.i64.wrap (x-rad)) (IntKind.i64.wrap (y-rad))=f9 (x-rad) (y-rad):=fun h _ _=>by
  rw[z0] at h;rw[b8 (x-rad) (by omega) (by omega),b8 (y-rad) (by omega) (by omega)]
 have W2:f9 x y=true→0≤rad→rad≤100000→f9 (IntKind.i64.wrap (x+rad)) (IntKind.i64.wrap (y+rad))=f9 (x+rad) (y+rad):=fun h _ _=>by
  rw[z0] at h;rw[b8 (x+rad) (by omega) (by omega),b8 (y+rad) (by omega) (by omega)]
 repeat' (first | (intro h;skip) | (refine And.intro ?_ ?_))
 all_goals (refine congrArg Value.bool ?_;rw[Bool.eq_iff_iff];simp only[n8,j8,decide_eq_true_eq,Bool.false_eq_true,false_iff,a4r])
 all_goals clear hr
 all_goals grind
def KF:Interp where
 fi n l:=KE.fi n l
 fb n l:=match n with | 76=>G1 l | n=>KE.fb n l
 fd _ _:=[]
theorem d4X{ρ:Env}(h:Sees ρ KF 77):Sees ρ KE 76:=h.trans (by decide) fun n l hn=>by
 refine⟨?_,?_⟩
 ·
  rfl
 ·
  simp only[KF]
  split<;>first | omega | rfl
def c3P:=u7 [S6] fun al=> .ret (bV (bF 76 G1 al))
theorem c2M{ρ:Env}(h:Sees ρ KF 77):i9 Tryz.prog ρ 57 c3P:=
 j7 d0F (fun _=>rfl) (fun al=>by simp only[iV,bV,V.s0,V.val,V2.val,S.val,S0.val,m9 (s:=76) (f:=G1) (fun l=>by rw[(h 76 l (by decide)).2];simp only[KF])];try rfl)
theorem d6q{ρ:Env}(h:Sees ρ KF 77):Sees ρ K 30:=h.trans (by decide) fun n l hn=>by
 have e:n<30:=hn
 refine⟨?_,?_⟩
 ·simp only[KF,KE,KD,KC,KB,KA,K9,K8,K7,K6,K5]
  (repeat' split)<;>first | omega | rfl
 ·simp only[KF,KE,KD,KC,KB,KA,K9,K8,K7,K6,K5]
  (repeat' split)<;>first | omega | rfl
def ctF:Ct:=(57,c3P)::(166,b2A)::ctE
theorem c1D{ρ:Env}(h:Sees ρ KF 77):CtOk Tryz.prog ρ ctF:= .cons (c2M h)<| .cons (b1s (d6q h))<|(c2G (d4X h))
def d0D(r a:Rows)(k off:Int):Nat→Nat→Bool
 | 0,_=>false
 | f+1,i=>a3j [.i (lg r k 0),.i (lg r k 1),.i (lg r k 2),.i (lg r k 3),.i (lg a (O3 a.length i) 0),.i (lg a (O3 a.length i) 1),.i (lg a i 0),.i (lg a i 1),.i off]||d0D r a k off f (i+1)
def c2V(ds:List D):Bool:=a7j (a7 ds 0) (a7 ds 1) (a7 ds 2) (b9 ds 3)&&(decide (0≤a7 ds 4∧a7 ds 4<(b9 ds 3).length)&&G2 (a7 ds 5) (a7 ds 6) (a7 ds 7) (a7 ds 8) (a7 ds 9) (b9 ds 10) (a7 ds 11) (a7 ds 12) (b9 ds 13))
def d4g(r:Rows)(k off kind x y rad:Int)(area:Rows):Bool:=
 if kind=4 then false else if kind=3∨kind=6 then decide (0≤a1X [.i (lg r k 0),.i (lg r k 1),.l area])||d0D r area k off area.length 0
 else P7 [.i x,.i y,.i (lg r k 0),.i (lg r k 1),.i (lg r k 2),.i (lg r k 3),.i (rad+off)]
def d0W(r:Rows)(k off kind x y rad:Int):Int:=
 if kind=4∨kind=3∨kind=6 then 0 else X9 [.i x,.i y,.i (lg r k 0),.i (lg r k 1),.i (lg r k 2),.i (lg r k 3),.i (rad+off)]
def d2G(ds:List D):Bool:=c2V ds&&d4g (b9 ds 3) (a7 ds 4) (a7 ds 2) (a7 ds 6) (a7 ds 7) (a7 ds 8) (a7 ds 9) (b9 ds 10)
def d2e(ds:List D):Int:=if c2V ds then d0W (b9 ds 3) (a7 ds 4) (a7 ds 2) (a7 ds 6) (a7 ds 7) (a7 ds 8) (a7 ds 9) else 1
theorem d4M(W:World)(ds l:List D):(a9 KF W ds).fb 76 l=G1 l:=by simp only[a9,KF]
theorem a5t(a b c d e f g:Int)(r s:Rows):G1 [.i a,.i b,.i c,.i d,.i e,.l r,.i f,.i g,.l s]=G2 a b c d e r f g s:=rfl
theorem a1a{id kind x y rad depth sym:Int}{area sc:Rows}:G2 id kind x y rad area depth sym sc=true↔a4r id kind x y rad area depth sym sc:=by
 unfold G2;exact decide_eq_true_iff
theorem H3{r:Rows}(h:j6 r=true):3≤r.length∧r.length≤24:=by
 simp only[j6,Bool.and_eq_true,decide_eq_true_eq] at h
 exact h.1
def d1y(ds:List D):Bool:=G2 (a7 ds 0) (a7 ds 1) (a7 ds 2) (a7 ds 3) (a7 ds 4) (b9 ds 5) (a7 ds 6) (a7 ds 7) (b9 ds 8)&&f9 (a7 ds 9) (a7 ds 10)
def a9T(kind x y rad:Int)(area:Rows)(px py:Int):Bool:=
 if kind=4 then false else if kind=3∨kind=6 then decide (a2W [.i px,.i py,.l area]=0∧0≤a1X [.i px,.i py,.l area])
 else decide (X9 [.i px,.i py,.i x,.i y,.i x,.i y,.i rad]=0)&&P7 [.i px,.i py,.i x,.i y,.i x,.i y,.i rad]
def d5K(ds:List D):Bool:=d1y ds&&a9T (a7 ds 1) (a7 ds 2) (a7 ds 3) (a7 ds 4) (b9 ds 5) (a7 ds 9) (a7 ds 10)
def d6m(ds:List D):Int:=if d1y ds then 0 else 1
def KG:Interp where
 fi n l:=match n with | 77=>d2e l | 78=>d6m l | n=>KF.fi n l
 fb n l:=match n with | 77=>d2G l | 78=>d5K l | n=>KF.fb n l
 fd _ _:=[]
theorem d3F{ρ:Env}(h:Sees ρ KG 80):Sees ρ KF 77:=h.trans (by decide) fun n l hn=>by
 refine⟨?_,?_⟩
 ·
  simp only[KG]
  split<;>first | omega | rfl
 ·
  simp only[KG]
  split<;>first | omega | rfl
end Go.Proofs.YtcjaembdcfppfaaGreat
