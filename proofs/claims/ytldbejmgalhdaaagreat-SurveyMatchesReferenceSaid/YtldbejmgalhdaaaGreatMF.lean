/- MF, merged: Co0, TCo, Co, TCp, Cq, Cr, Cs, TCu, Cu, TCt, Ct. -/
import Derived.Test.YtldbejmgalhdaaaGreatMD
set_option linter.unusedSimpArgs false
set_option linter.unusedVariables false
namespace Go.Proofs.YtldbejmgalhdaaaGreat
open Go.RowKit
def I8:Interp:= { fi:=fun _ _=>0,fb:=fun n l=>match n with | 1=>s8 l | 3=>s9 l | 4=>onL l | 5=>G9 l | 6=>L5 l | _=>false,fd:=fun _ _=>[] }
def ct8:Ct:=[(54,a6T),(155,c5h),(163,b0v)]
theorem c6I{ρ:Env}(h:ρ.has I8):CtOk Tryz.prog ρ ct8:=
 .cons (a9t (fun l=>by rw[h.2.1];rfl))<| .cons (c5m (fun l=>by rw[h.2.1];rfl) (fun l=>by rw[h.2.1];rfl))<| .cons (b9E (fun l=>by rw[h.2.1];rfl) (fun l=>by rw[h.2.1];rfl)) .nil
def c1x:TT j6:=
(.ite (.not (.fn 3 (.i (.var 0) (.i (.var 1) .nil))))
 (.ret ((.tup [(.one (.z (.bool (.lit false)))),(.one (.z (.int .i64 (.lit 1))))]),[],5))
 (.ite (.not (.fn 3 (.i (.var 2) (.i (.var 3) .nil))))
 (.ret ((.tup [(.one (.z (.bool (.lit false)))),(.one (.z (.int .i64 (.lit 1))))]),[],6))
 (.ite (.not (.fn 3 (.i (.var 4) (.i (.var 5) .nil))))
 (.ret ((.tup [(.one (.z (.bool (.lit false)))),(.one (.z (.int .i64 (.lit 1))))]),[],7))
 (.ob (.tru (.fn 1 (.i (.var 0) (.i (.var 1) (.i (.var 2) (.i (.var 3) (.i (.var 4) (.i (.var 5) .nil))))))))
 (.ret ((.tup [(.one (.z (.bool (.fn 4 (.i (.var 0) (.i (.var 1) (.i (.var 2) (.i (.var 3) (.i (.var 4) (.i (.var 5) .nil)))))))))),(.one (.z (.int .i64 (.lit 0))))]),[],7))))))
set_option maxRecDepth 100000 in
theorem c8I:T.norm 0 (call Tryz.prog ct8 lt1 100 203 (i6 0 [pt,pt,pt]) [] 0) TT.ret=c1x:=by kernel_rfl
theorem c7g:c1x.low 1000=true:=by kernel_rfl
def b0S:TT j6:=
(.ite (.not (.fn 3 (.i (.var 0) (.i (.var 1) .nil))))
 (.ret ((.tup [(.one (.z (.bool (.lit false)))),(.one (.z (.int .i64 (.lit 1))))]),[],6))
 (.ite (.not (.fn 3 (.i (.var 2) (.i (.var 3) .nil))))
 (.ret ((.tup [(.one (.z (.bool (.lit false)))),(.one (.z (.int .i64 (.lit 1))))]),[],7))
 (.ite (.not (.fn 3 (.i (.var 4) (.i (.var 5) .nil))))
 (.ret ((.tup [(.one (.z (.bool (.lit false)))),(.one (.z (.int .i64 (.lit 1))))]),[],8))
 (.ite (.not (.fn 3 (.i (.var 6) (.i (.var 7) .nil))))
 (.ret ((.tup [(.one (.z (.bool (.lit false)))),(.one (.z (.int .i64 (.lit 1))))]),[],9))
 (.ob (.tru (.fn 5 (.i (.var 0) (.i (.var 1) (.i (.var 2) (.i (.var 3) (.i (.var 4) (.i (.var 5) (.i (.var 6) (.i (.var 7) .nil))))))))))
 (.ret ((.tup [(.one (.z (.bool (.fn 6 (.i (.var 0) (.i (.var 1) (.i (.var 2) (.i (.var 3) (.i (.var 4) (.i (.var 5) (.i (.var 6) (.i (.var 7) .nil)))))))))))),(.one (.z (.int .i64 (.lit 0))))]),[],9)))))))
set_option maxRecDepth 100000 in
theorem c3a:T.norm 0 (call Tryz.prog ct8 lt1 100 144 (i6 0 [pt,pt,pt,pt]) [] 0) TT.ret=b0S:=by kernel_rfl
theorem b8i:b0S.low 1000=true:=by kernel_rfl
theorem d5i(W:World)(ds l:List D):(f0 I8 W ds).fb 1 l=s8 l:=by simp only[f0,I8]
theorem d4B(W:World)(ds l:List D):(f0 I8 W ds).fb 3 l=s9 l:=by simp only[f0,I8]
theorem d4j(W:World)(ds l:List D):(f0 I8 W ds).fb 4 l=onL l:=by simp only[f0,I8]
theorem d5y(W:World)(ds l:List D):(f0 I8 W ds).fb 5 l=G9 l:=by simp only[f0,I8]
theorem d4W(W:World)(ds l:List D):(f0 I8 W ds).fb 6 l=L5 l:=by simp only[f0,I8]
theorem gOn:k8 Tryz.prog 203 [pt,pt,pt] (fun ds=>b0X (s8 ds) (onL ds)):=by
 refine GivesIf.all (i7 I8 (by kernel_rfl) (fun ρ h=>c6I h) (by kernel_rfl) c8I c7g (by decide) (fun W vals ds _ _=> ?_))
 simp only[c1x,g8,Nat.reduceBEq,Nat.reduceLT,Nat.reduceSub,d5i,d4B,d4j,d5y,d4W,U8,U1,a8U]
 simp only[b0X,s8,onL]
 refine⟨fun h=> ?_,fun h=>⟨fun h'=> ?_,fun h'=>⟨fun h''=> ?_,fun h''=> ?_⟩⟩⟩<;>simp [*]
theorem d7t:k8 Tryz.prog 144 [pt,pt,pt,pt] (fun ds=>b0X (G9 ds) (L5 ds)):=by
 refine GivesIf.all (i7 I8 (by kernel_rfl) (fun ρ h=>c6I h) (by kernel_rfl) c3a b8i (by decide) (fun W vals ds _ _=> ?_))
 simp only[b0S,g8,Nat.reduceBEq,Nat.reduceLT,Nat.reduceSub,d5i,d4B,d4j,d5y,d4W,U8,U1,a0X,a1N]
 simp only[b0X,G9,L5]
 refine⟨fun h=> ?_,fun h=>⟨fun h'=> ?_,fun h'=>⟨fun h''=> ?_,fun h''=>⟨fun h3=> ?_,fun h3=> ?_⟩⟩⟩⟩<;>simp [*]
def onR(ds:List D):Bool:=s8 ds&&onL ds
def a1P(ds:List D):Bool:=G9 ds&&L5 ds
def b6Y(ds:List D):Int:=if G9 ds then 0 else 1
def K8:Interp where
 fi n l:=match n with | 64=>b6Y l | n=>K7.fi n l
 fb n l:=match n with | 61=>onR l | 62=>a1P l | n=>K7.fb n l
 fd _ _:=[]
def d4w:=o7 [pt,pt,pt] fun al=> .ret (.tup [.one (G8 61 onR al),.one (w6 16 a6Z al)])
def c4f:=o7 [pt,pt,pt,pt] fun al=> .ret (.tup [.one (G8 62 a1P al),.one (w6 64 b6Y al)])
section
variable {ρ:Env} (h:Sees ρ K8 65)
include h
theorem d1s:i9 Tryz.prog ρ 203 d4w:=
 k5 gOn (fun _=>rfl) (fun al=>by
  simp only[V.val,V2.val,S.val,S0.val,w6,G8,List.map_cons,List.map_nil,k7 (s:=61) (f:=onR) (fun l=>by rw[(h 61 l (by decide)).2];simp only[K8]),o6 (s:=16) (f:=a6Z) (fun l=>by rw[(h 16 l (by decide)).1];simp only[K8,K7,K6,K5,K])];rfl)
theorem c5O:i9 Tryz.prog ρ 144 c4f:=
 k5 d7t (fun _=>rfl) (fun al=>by
  simp only[V.val,V2.val,S.val,S0.val,w6,G8,List.map_cons,List.map_nil,k7 (s:=62) (f:=a1P) (fun l=>by rw[(h 62 l (by decide)).2];simp only[K8]),o6 (s:=64) (f:=b6Y) (fun l=>by rw[(h 64 l (by decide)).1];simp only[K8])];rfl)
theorem d1i:i9 Tryz.prog ρ 54 a6T:=a9t (fun l=>by rw[(h 3 l (by decide)).2];simp only[K8,K7,K6,K5,K])
theorem c4U:i9 Tryz.prog ρ 142 c6P:=
 k5 d6v (fun _=>rfl) (fun al=>by
  simp only[V.val,V2.val,S.val,S0.val,w6,G8,List.map_cons,List.map_nil,o6 (s:=15) (f:=A6) (fun l=>by rw[(h 15 l (by decide)).1];simp only[K8,K7,K6,K5,K]),o6 (s:=16) (f:=a6Z) (fun l=>by rw[(h 16 l (by decide)).1];simp only[K8,K7,K6,K5,K]),c3b,A6,a6Z]
  split<;>rfl)
end
def b1S:Ct:=[(54,a6T),(203,d4w),(144,c4f),(142,c6P)]
theorem a3D{ρ:Env}(h:Sees ρ K8 65):CtOk Tryz.prog ρ b1S:= .cons (d1i h)<| .cons (d1s h)<| .cons (c5O h)<| .cons (c4U h) .nil
end Go.Proofs.YtldbejmgalhdaaaGreat
namespace Go.Proofs.YtldbejmgalhdaaaGreat
open Go.RowKit
def ptK:List CK:=[.int .i64,.int .i64]
def v9:Sh:= .one (.sl ptK)
def a8l:TT j6:=
(.loop 0 7000 ⟨[(0,(.lit 0))],[],[]⟩
 (.ite (.cmp .lss (.var 7000) (.len (.var 0)))
 (.ob (.tru (.cmp .leq (.lit 0) (.var 7000)))
 (.ob (.tru (.cmp .lss (.var 7000) (.len (.var 0))))
 (.ob (.tru (.cmp .neq (.len (.var 0)) (.lit 0)))
 (.ob (.tru (.cmp .leq (.lit 0) (.ar .rem .i64 (.ar .add .i64 (.ar .add .i64 (.var 7000) (.lit 1)) (.len (.var 0))) (.len (.var 0)))))
 (.ob (.tru (.cmp .lss (.ar .rem .i64 (.ar .add .i64 (.ar .add .i64 (.var 7000) (.lit 1)) (.len (.var 0))) (.len (.var 0))) (.len (.var 0))))
 (.loop 1 14000 ⟨[(0,(.lit 0))],[],[]⟩
 (.ite (.cmp .lss (.var 14000) (.len (.var 0)))
 (.ob (.tru (.cmp .leq (.lit 0) (.var 14000)))
 (.ob (.tru (.cmp .lss (.var 14000) (.len (.var 0))))
 (.ob (.tru (.cmp .neq (.len (.var 0)) (.lit 0)))
 (.ob (.tru (.cmp .leq (.lit 0) (.ar .rem .i64 (.ar .add .i64 (.ar .add .i64 (.var 14000) (.lit 1)) (.len (.var 0))) (.len (.var 0)))))
 (.ob (.tru (.cmp .lss (.ar .rem .i64 (.ar .add .i64 (.ar .add .i64 (.var 14000) (.lit 1)) (.len (.var 0))) (.len (.var 0))) (.len (.var 0))))
 (.ite (.cmp .leq (.var 14000) (.ar .add .i64 (.var 7000) (.lit 1)))
 (.next 1 ⟨[(0,(.ar .add .i64 (.var 14000) (.lit 1)))],[],[]⟩)
 (.ite (.cmp .eql (.var 7000) (.lit 0))
 (.ite (.cmp .eql (.var 14000) (.ar .sub .i64 (.len (.var 0)) (.lit 1)))
 (.next 1 ⟨[(0,(.ar .add .i64 (.var 14000) (.lit 1)))],[],[]⟩)
 (.ite (.fn 62 (.i (.rd (.var 0) (.var 7000) 0) (.i (.rd (.var 0) (.var 7000) 1) (.i (.rd (.var 0) (.ar .rem .i64 (.ar .add .i64 (.ar .add .i64 (.var 7000) (.lit 1)) (.len (.var 0))) (.len (.var 0))) 0) (.i (.rd (.var 0) (.ar .rem .i64 (.ar .add .i64 (.ar .add .i64 (.var 7000) (.lit 1)) (.len (.var 0))) (.len (.var 0))) 1) (.i (.rd (.var 0) (.var 14000) 0) (.i (.rd (.var 0) (.var 14000) 1) (.i (.rd (.var 0) (.ar .rem .i64 (.ar .add .i64 (.ar .add .i64 (.var 14000) (.lit 1)) (.len (.var 0))) (.len (.var 0))) 0) (.i (.rd (.var 0) (.ar .rem .i64 (.ar .add .i64 (.ar .add .i64 (.var 14000) (.lit 1)) (.len (.var 0))) (.len (.var 0))) 1) .nil)))))))))
 (.ret ((.v (.one (.z (.bool (.lit false))))),[],17))
 (.next 1 ⟨[(0,(.ar .add .i64 (.var 14000) (.lit 1)))],[],[]⟩)))
 (.ite (.fn 62 (.i (.rd (.var 0) (.var 7000) 0) (.i (.rd (.var 0) (.var 7000) 1) (.i (.rd (.var 0) (.ar .rem .i64 (.ar .add .i64 (.ar .add .i64 (.var 7000) (.lit 1)) (.len (.var 0))) (.len (.var 0))) 0) (.i (.rd (.var 0) (.ar .rem .i64 (.ar .add .i64 (.ar .add .i64 (.var 7000) (.lit 1)) (.len (.var 0))) (.len (.var 0))) 1) (.i (.rd (.var 0) (.var 14000) 0) (.i (.rd (.var 0) (.var 14000) 1) (.i (.rd (.var 0) (.ar .rem .i64 (.ar .add .i64 (.ar .add .i64 (.var 14000) (.lit 1)) (.len (.var 0))) (.len (.var 0))) 0) (.i (.rd (.var 0) (.ar .rem .i64 (.ar .add .i64 (.ar .add .i64 (.var 14000) (.lit 1)) (.len (.var 0))) (.len (.var 0))) 1) .nil)))))))))
 (.ret ((.v (.one (.z (.bool (.lit false))))),[],17))
 (.next 1 ⟨[(0,(.ar .add .i64 (.var 14000) (.lit 1)))],[],[]⟩)))))))))
 (.next 0 ⟨[(0,(.ar .add .i64 (.var 7000) (.lit 1)))],[],[]⟩))))))))
 (.ret ((.v (.one (.z (.bool (.lit true))))),[],17))))
set_option maxRecDepth 100000 in
theorem b8b:T.norm 0 (call Tryz.prog b1S (Lt.of []) 100 122 (i6 0 [v9]) [] 0) TT.ret=a8l:=by kernel_rfl
theorem b5I:a8l.low 1000=true:=by kernel_rfl
def b0R:TT j6:=
(.loop 0 5000 ⟨[(0,(.lit 0)),(1,(.lit 0))],[],[]⟩
 (.ite (.cmp .lss (.var 5000) (.len (.var 0)))
 (.ob (.tru (.cmp .leq (.lit 0) (.var 5000)))
 (.ob (.tru (.cmp .lss (.var 5000) (.len (.var 0))))
 (.ob (.tru (.cmp .neq (.len (.var 0)) (.lit 0)))
 (.ob (.tru (.cmp .leq (.lit 0) (.ar .rem .i64 (.ar .add .i64 (.ar .add .i64 (.var 5000) (.lit 1)) (.len (.var 0))) (.len (.var 0)))))
 (.ob (.tru (.cmp .lss (.ar .rem .i64 (.ar .add .i64 (.ar .add .i64 (.var 5000) (.lit 1)) (.len (.var 0))) (.len (.var 0))) (.len (.var 0))))
 (.next 0 ⟨[(0,(.ar .add .i64 (.var 5000) (.lit 1))),(1,(.ar .add .i64 (.var 5001) (.ar .sub .i64 (.ar .mul .i64 (.rd (.var 0) (.var 5000) 0) (.rd (.var 0) (.ar .rem .i64 (.ar .add .i64 (.ar .add .i64 (.var 5000) (.lit 1)) (.len (.var 0))) (.len (.var 0))) 1)) (.ar .mul .i64 (.rd (.var 0) (.var 5000) 1) (.rd (.var 0) (.ar .rem .i64 (.ar .add .i64 (.ar .add .i64 (.var 5000) (.lit 1)) (.len (.var 0))) (.len (.var 0))) 0)))))],[],[]⟩))))))
 (.ret ((.v (.one (.z (.int .i64 (.var 5001))))),[],8))))
set_option maxRecDepth 100000 in
theorem c3z:T.norm 0 (call Tryz.prog b1S (Lt.of []) 100 123 (i6 0 [v9]) [] 0) TT.ret=b0R:=by kernel_rfl
theorem b7J:b0R.low 1000=true:=by kernel_rfl
def b1g:TT j6:=
(.loop 0 7000 ⟨[(0,(.lit 0))],[(1,(.lit false))],[]⟩
 (.ite (.cmp .lss (.var 7000) (.len (.var 0)))
 (.ob (.tru (.cmp .leq (.lit 0) (.var 7000)))
 (.ob (.tru (.cmp .lss (.var 7000) (.len (.var 0))))
 (.ob (.tru (.cmp .neq (.len (.var 0)) (.lit 0)))
 (.ob (.tru (.cmp .leq (.lit 0) (.ar .rem .i64 (.ar .add .i64 (.ar .add .i64 (.var 7000) (.lit 1)) (.len (.var 0))) (.len (.var 0)))))
 (.ob (.tru (.cmp .lss (.ar .rem .i64 (.ar .add .i64 (.ar .add .i64 (.var 7000) (.lit 1)) (.len (.var 0))) (.len (.var 0))) (.len (.var 0))))
 (.ite (.fn 61 (.i (.var 1) (.i (.var 2) (.i (.rd (.var 0) (.var 7000) 0) (.i (.rd (.var 0) (.var 7000) 1) (.i (.rd (.var 0) (.ar .rem .i64 (.ar .add .i64 (.ar .add .i64 (.var 7000) (.lit 1)) (.len (.var 0))) (.len (.var 0))) 0) (.i (.rd (.var 0) (.ar .rem .i64 (.ar .add .i64 (.ar .add .i64 (.var 7000) (.lit 1)) (.len (.var 0))) (.len (.var 0))) 1) .nil)))))))
 (.ret ((.v (.one (.z (.int .i64 (.lit 0))))),[],18))
 (.ite (.cmp .gtr (.rd (.var 0) (.var 7000) 1) (.rd (.var 0) (.ar .rem .i64 (.ar .add .i64 (.ar .add .i64 (.var 7000) (.lit 1)) (.len (.var 0))) (.len (.var 0))) 1))
 (.ite (.cmp .leq (.rd (.var 0) (.ar .rem .i64 (.ar .add .i64 (.ar .add .i64 (.var 7000) (.lit 1)) (.len (.var 0))) (.len (.var 0))) 1) (.var 2))
 (.ite (.cmp .lss (.var 2) (.rd (.var 0) (.var 7000) 1))
 (.ite (.cmp .gtr (.fn 15 (.i (.rd (.var 0) (.ar .rem .i64 (.ar .add .i64 (.ar .add .i64 (.var 7000) (.lit 1)) (.len (.var 0))) (.len (.var 0))) 0) (.i (.rd (.var 0) (.ar .rem .i64 (.ar .add .i64 (.ar .add .i64 (.var 7000) (.lit 1)) (.len (.var 0))) (.len (.var 0))) 1) (.i (.rd (.var 0) (.var 7000) 0) (.i (.rd (.var 0) (.var 7000) 1) (.i (.var 1) (.i (.var 2) .nil))))))) (.lit 0))
 (.next 0 ⟨[(0,(.ar .add .i64 (.var 7000) (.lit 1)))],[(1,(.not (.var 7001)))],[]⟩)
 (.next 0 ⟨[(0,(.ar .add .i64 (.var 7000) (.lit 1)))],[(1,(.var 7001))],[]⟩))
 (.next 0 ⟨[(0,(.ar .add .i64 (.var 7000) (.lit 1)))],[(1,(.var 7001))],[]⟩))
 (.next 0 ⟨[(0,(.ar .add .i64 (.var 7000) (.lit 1)))],[(1,(.var 7001))],[]⟩))
 (.ite (.cmp .leq (.rd (.var 0) (.var 7000) 1) (.var 2))
 (.ite (.cmp .lss (.var 2) (.rd (.var 0) (.ar .rem .i64 (.ar .add .i64 (.ar .add .i64 (.var 7000) (.lit 1)) (.len (.var 0))) (.len (.var 0))) 1))
 (.ite (.cmp .gtr (.fn 15 (.i (.rd (.var 0) (.var 7000) 0) (.i (.rd (.var 0) (.var 7000) 1) (.i (.rd (.var 0) (.ar .rem .i64 (.ar .add .i64 (.ar .add .i64 (.var 7000) (.lit 1)) (.len (.var 0))) (.len (.var 0))) 0) (.i (.rd (.var 0) (.ar .rem .i64 (.ar .add .i64 (.ar .add .i64 (.var 7000) (.lit 1)) (.len (.var 0))) (.len (.var 0))) 1) (.i (.var 1) (.i (.var 2) .nil))))))) (.lit 0))
 (.next 0 ⟨[(0,(.ar .add .i64 (.var 7000) (.lit 1)))],[(1,(.not (.var 7001)))],[]⟩)
 (.next 0 ⟨[(0,(.ar .add .i64 (.var 7000) (.lit 1)))],[(1,(.var 7001))],[]⟩))
 (.next 0 ⟨[(0,(.ar .add .i64 (.var 7000) (.lit 1)))],[(1,(.var 7001))],[]⟩))
 (.next 0 ⟨[(0,(.ar .add .i64 (.var 7000) (.lit 1)))],[(1,(.var 7001))],[]⟩)))))))))
 (.ite (.var 7001)
 (.ret ((.v (.one (.z (.int .i64 (.lit 1))))),[],18))
 (.ret ((.v (.one (.z (.int .i64 (.lit (-1)))))),[],18)))))
set_option maxRecDepth 100000 in
theorem c3w:T.norm 0 (call Tryz.prog b1S (Lt.of []) 100 192 (i6 0 [v9,pt]) [] 0) TT.ret=b1g:=by kernel_rfl
theorem b8r:b1g.low 1000=true:=by kernel_rfl
def nxt(n i:Nat):Nat:=if i+1=n then 0 else i+1
theorem u0{n i:Nat}(h:i<n):nxt n i<n:=by unfold nxt;split<;>omega
theorem D6{n i:Nat}(h:i<n)(hn:n≤281474976710656):(IntKind.i64.wrap (IntKind.i64.wrap ((i:Int)+1)+(n:Int))).tmod (n:Int)=(nxt n i:Int):=by
 rw[f8 ((i:Int)+1) (by omega) (by omega),f8 _ (by omega) (by omega)]
 rw[Int.tmod_eq_emod_of_nonneg (by omega)]
 unfold nxt
 split
 ·rename_i h1
  have:((i:Int)+1+n)=n*2:=by omega
  rw[this,Int.mul_emod_right]
  rfl
 ·rw[Int.add_emod_right,Int.emod_eq_of_lt (by omega) (by omega)]
  rfl
def a9D(r:Rows)(qx qy:Int)(i:Nat):Bool:=
 if lg r (nxt r.length i) 1<lg r i 1 then decide (lg r (nxt r.length i) 1≤qy∧qy<lg r i 1∧0<A6 [.i (lg r (nxt r.length i) 0),.i (lg r (nxt r.length i) 1),.i (lg r i 0),.i (lg r i 1),.i qx,.i qy])
 else decide (lg r i 1≤qy∧qy<lg r (nxt r.length i) 1∧0<A6 [.i (lg r i 0),.i (lg r i 1),.i (lg r (nxt r.length i) 0),.i (lg r (nxt r.length i) 1),.i qx,.i qy])
def onE(r:Rows)(qx qy:Int)(i:Nat):Bool:=onR [.i qx,.i qy,.i (lg r i 0),.i (lg r i 1),.i (lg r (nxt r.length i) 0),.i (lg r (nxt r.length i) 1)]
def t3(r:Rows)(qx qy:Int):Nat→Nat→Bool→Int
 | 0,_,b=>if b then 1 else -1
 | f+1,i,b=>if onE r qx qy i then 0 else t3 r qx qy f (i+1) (b ^^ a9D r qx qy i)
section
variable (W:World) (ds l:List D)
theorem d8R:(f0 K8 W ds).fb 3 l=s9 l:=by simp only[f0,K8,K7,K6,K5,K]
theorem d6n:(f0 K8 W ds).fb 61 l=onR l:=by simp only[f0,K8]
theorem d1d:(f0 K8 W ds).fb 62 l=a1P l:=by simp only[f0,K8]
theorem d6u:(f0 K8 W ds).fi 15 l=A6 l:=by simp only[f0,K8,K7,K6,K5,K]
end
theorem Q5{W:World}{vals:List Value}{ds:List D}{sh:List Sh}(h:A4 W (v9::sh) vals ds):(d9 ds 0).length≤281474976710656:=by
 obtain⟨v,vs',d,ds',rfl,rfl,⟨d,rfl,h⟩,_⟩:=h
 rw[y7] at h
 obtain⟨r,rfl,a,n,c,_,hs,_⟩:=h
 have e1:=hs.len
 have e2:=hs.big
 show r.length≤_
 omega
theorem d4Q:k8 Tryz.prog 192 [v9,pt] (fun ds=> .int .i64 (t3 (d9 ds 0) (c9 ds 1) (c9 ds 2) (d9 ds 0).length 0 false)):=by
 refine GivesIf.all (i7 K8 (by kernel_rfl) (fun ρ h=>a3D (Sees.of h 65)) (by kernel_rfl) c3w b8r (by decide) (fun W vals ds hr _=> ?_))
 have hlen:=Q5 hr
 simp only[b1g]
 refine TT.sat_loop (fun v=>∃i:Nat,v.i 0=i∧i≤(d9 ds 0).length∧t3 (d9 ds 0) (c9 ds 1) (c9 ds 2) ((d9 ds 0).length-i) i (v.b 1)=t3 (d9 ds 0) (c9 ds 1) (c9 ds 2) (d9 ds 0).length 0 false) (fun v=>(d9 ds 0).length-(v.i 0).toNat)
  ⟨0,by simp [j7,i8,E.ev],by omega,by simp [a9h,i8,B.ev]⟩ (fun v hv=> ?_)
 obtain⟨i,i0,i1,i2⟩:=hv
 simp only[g8,Nat.reduceBEq,Nat.reduceLT,Nat.reduceSub,d8R,d6n,d1d,d6u,i0]
 refine⟨fun hc=> ?_,fun hc=> ?_⟩
 ·have hi:i<(d9 ds 0).length:=by omega
  have hn:=u0 hi
  obtain⟨f,hf⟩:∃f,(d9 ds 0).length-i=f+1:=⟨(d9 ds 0).length-i-1,by omega⟩
  rw[D6 hi hlen,f8 ((i:Int)+1) (by omega) (by omega)]
  rw[hf,t3] at i2
  have hf':(d9 ds 0).length-(i+1)=f:=by omega
  have N:∀b:Bool,t3 (d9 ds 0) (c9 ds 1) (c9 ds 2) f (i+1) b=t3 (d9 ds 0) (c9 ds 1) (c9 ds 2) (d9 ds 0).length 0 false→(∃j:Nat,(i:Int)+1=j∧j≤(d9 ds 0).length∧t3 (d9 ds 0) (c9 ds 1) (c9 ds 2) ((d9 ds 0).length-j) j b=t3 (d9 ds 0) (c9 ds 1) (c9 ds 2) (d9 ds 0).length 0 false):=
   fun b hb=>⟨i+1,rfl,by omega,by rw[hf'];exact hb⟩
  refine⟨by omega,by omega,by omega,by omega,by omega,fun h1=> ?_,fun h1=> ?_⟩
  ·rw[if_pos (show onE (d9 ds 0) (c9 ds 1) (c9 ds 2) i=true from h1)] at i2
   rw[←i2]
  ·rw[if_neg (by rw[onE,h1];decide)] at i2
   unfold a9D at i2
   have M:(d9 ds 0).length-((i:Int)+1).toNat<(d9 ds 0).length-(i:Int).toNat:=by omega
   refine⟨fun a=>⟨fun b=>⟨fun c=>⟨fun d=>⟨N _ ?_,M⟩,fun d=>⟨N _ ?_,M⟩⟩,fun c=>⟨N _ ?_,M⟩⟩,fun b=>⟨N _ ?_,M⟩⟩,fun a=>⟨fun b=>⟨fun c=>⟨fun d=>⟨N _ ?_,M⟩,fun d=>⟨N _ ?_,M⟩⟩,fun c=>⟨N _ ?_,M⟩⟩,fun b=>⟨N _ ?_,M⟩⟩⟩
   all_goals (rw[←i2];clear i2 N M;simp [*])
 ·have:(d9 ds 0).length-i=0:=by omega
  rw[this,t3] at i2
  rw[←i2]
  exact⟨fun h=>by rw[h];rfl,fun h=>by rw[h];rfl⟩
def G0(r:Rows):Nat→Nat→Int→Int
 | 0,_,n=>n
 | f+1,i,n=>G0 r f (i+1) (IntKind.i64.wrap (n+IntKind.i64.wrap (IntKind.i64.wrap (lg r i 0*lg r (nxt r.length i) 1)-IntKind.i64.wrap (lg r i 1*lg r (nxt r.length i) 0))))
theorem d3R:k8 Tryz.prog 123 [v9] (fun ds=> .int .i64 (G0 (d9 ds 0) (d9 ds 0).length 0 0)):=by
 refine GivesIf.all (i7 K8 (by kernel_rfl) (fun ρ h=>a3D (Sees.of h 65)) (by kernel_rfl) c3z b7J (by decide) (fun W vals ds hr _=> ?_))
 have hlen:=Q5 hr
 simp only[b0R]
 refine TT.sat_loop (fun v=>∃i:Nat,v.i 0=i∧i≤(d9 ds 0).length∧G0 (d9 ds 0) ((d9 ds 0).length-i) i (v.i 1)=G0 (d9 ds 0) (d9 ds 0).length 0 0) (fun v=>(d9 ds 0).length-(v.i 0).toNat)
  ⟨0,by simp [j7,i8,E.ev],by omega,by simp [j7,i8,E.ev]⟩ (fun v hv=> ?_)
 obtain⟨i,i0,i1,i2⟩:=hv
 simp only[g8,Nat.reduceBEq,Nat.reduceLT,Nat.reduceSub,i0]
 refine⟨fun hc=> ?_,fun hc=> ?_⟩
 ·have hi:i<(d9 ds 0).length:=by omega
  have hn:=u0 hi
  obtain⟨f,hf⟩:∃f,(d9 ds 0).length-i=f+1:=⟨(d9 ds 0).length-i-1,by omega⟩
  rw[D6 hi hlen,f8 ((i:Int)+1) (by omega) (by omega)]
  rw[hf,G0] at i2
  have hf':(d9 ds 0).length-(i+1)=f:=by omega
  exact⟨by omega,by omega,by omega,by omega,by omega,⟨i+1,rfl,by omega,by rw[hf'];exact i2⟩,by omega⟩
 ·have:(d9 ds 0).length-i=0:=by omega
  rw[this,G0] at i2
  rw[←i2]
end Go.Proofs.YtldbejmgalhdaaaGreat
namespace Go.Proofs.YtldbejmgalhdaaaGreat
open Go.RowKit
def a6B(r:Rows)(i k:Nat):Bool:=a1P [.i (lg r i 0),.i (lg r i 1),.i (lg r (nxt r.length i) 0),.i (lg r (nxt r.length i) 1),.i (lg r k 0),.i (lg r k 1),.i (lg r (nxt r.length k) 0),.i (lg r (nxt r.length k) 1)]
def F0(r:Rows)(i k:Nat):Bool:=decide (k≤i+1∨(i=0∧k+1=r.length))|| !a6B r i k
def S9(r:Rows)(i:Nat):Nat→Nat→Bool
 | 0,_=>true
 | f+1,k=>F0 r i k&&S9 r i f (k+1)
def o9(r:Rows):Nat→Nat→Bool
 | 0,_=>true
 | f+1,i=>S9 r i r.length 0&&o9 r f (i+1)
theorem d2y:k8 Tryz.prog 122 [v9] (fun ds=> .bool (o9 (d9 ds 0) (d9 ds 0).length 0)):=by
 refine GivesIf.all (i7 K8 (by kernel_rfl) (fun ρ h=>a3D (Sees.of h 65)) (by kernel_rfl) b8b b5I (by decide) (fun W vals ds hr _=> ?_))
 have hlen:=Q5 hr
 simp only[a8l]
 refine TT.sat_loop (fun v=>∃i:Nat,v.i 0=i∧i≤(d9 ds 0).length∧o9 (d9 ds 0) ((d9 ds 0).length-i) i=o9 (d9 ds 0) (d9 ds 0).length 0) (fun v=>(d9 ds 0).length-(v.i 0).toNat)
  ⟨0,by simp [j7,i8,E.ev],by omega,rfl⟩ (fun v hv=> ?_)
 obtain⟨i,i0,i1,i2⟩:=hv
 simp only[g8,Nat.reduceBEq,Nat.reduceLT,Nat.reduceSub,i0]
 refine⟨fun hc=> ?_,fun hc=> ?_⟩
 ·have hi:i<(d9 ds 0).length:=by omega
  have hn:=u0 hi
  obtain⟨f,hf⟩:∃f,(d9 ds 0).length-i=f+1:=⟨(d9 ds 0).length-i-1,by omega⟩
  rw[D6 hi hlen]
  rw[hf,o9] at i2
  have hf':(d9 ds 0).length-(i+1)=f:=by omega
  refine⟨by omega,by omega,by omega,by omega,by omega,?_⟩
  refine TT.sat_loop (fun u=>∃k:Nat,u.i 0=k∧k≤(d9 ds 0).length∧(S9 (d9 ds 0) i ((d9 ds 0).length-k) k&&o9 (d9 ds 0) f (i+1))=o9 (d9 ds 0) (d9 ds 0).length 0) (fun u=>(d9 ds 0).length-(u.i 0).toNat)
   ⟨0,by simp [j7,i8,E.ev],by omega,i2⟩ (fun u hu=> ?_)
  obtain⟨k,k0,k1,k2⟩:=hu
  simp only[g8,Nat.reduceBEq,Nat.reduceLT,Nat.reduceSub,i0,k0,d1d]
  refine⟨fun hk=> ?_,fun hk=> ?_⟩
  ·have hkn:k<(d9 ds 0).length:=by omega
   have hn':=u0 hkn
   obtain⟨g,hg⟩:∃g,(d9 ds 0).length-k=g+1:=⟨(d9 ds 0).length-k-1,by omega⟩
   rw[D6 hkn hlen,D6 hi hlen,f8 ((i:Int)+1) (by omega) (by omega),f8 ((k:Int)+1) (by omega) (by omega),f8 (((d9 ds 0).length:Int)-1) (by omega) (by omega)]
   rw[hg,S9] at k2
   have hg':(d9 ds 0).length-(k+1)=g:=by omega
   have N:F0 (d9 ds 0) i k=true→(∃j:Nat,(k:Int)+1=j∧j≤(d9 ds 0).length∧(S9 (d9 ds 0) i ((d9 ds 0).length-j) j&&o9 (d9 ds 0) f (i+1))=o9 (d9 ds 0) (d9 ds 0).length 0)∧(d9 ds 0).length-((k:Int)+1).toNat<(d9 ds 0).length-(k:Int).toNat:=
    fun h=>⟨⟨k+1,rfl,by omega,by rw[hg',←k2,h];rfl⟩,by omega⟩
   have B:F0 (d9 ds 0) i k=false→Value.bool false=Value.bool (o9 (d9 ds 0) (d9 ds 0).length 0):=fun h=>by rw[←k2,h];rfl
   have P1:(k≤i+1∨(i=0∧k+1=(d9 ds 0).length))→F0 (d9 ds 0) i k=true:=fun h=>by unfold F0;rw[decide_eq_true h];rfl
   have P2:¬(k≤i+1∨(i=0∧k+1=(d9 ds 0).length))→F0 (d9 ds 0) i k= !a6B (d9 ds 0) i k:=fun h=>by unfold F0;rw[decide_eq_false h];rfl
   refine⟨by omega,by omega,by omega,by omega,by omega,fun a=>N (P1 (by omega)),fun a=>⟨fun b=>⟨fun c=>N (P1 (by omega)),fun c=>⟨fun d=>B ?_,fun d=>N ?_⟩⟩,fun b=>⟨fun d=>B ?_,fun d=>N ?_⟩⟩⟩
   all_goals (rw[P2 (by omega)];unfold a6B;rw[d];rfl)
  ·rw[if_neg (by decide)]
   have:(d9 ds 0).length-k=0:=by omega
   rw[this,S9,Bool.true_and] at k2
   rw[f8 ((i:Int)+1) (by omega) (by omega)]
   exact⟨⟨i+1,rfl,by omega,by rw[hf'];exact k2⟩,by omega⟩
 ·have:(d9 ds 0).length-i=0:=by omega
  rw[this,o9] at i2
  rw[←i2]
def J6(ds:List D):Bool:=o9 (d9 ds 0) (d9 ds 0).length 0
def X5(ds:List D):Int:=G0 (d9 ds 0) (d9 ds 0).length 0 0
def a2B(ds:List D):Int:=t3 (d9 ds 0) (c9 ds 1) (c9 ds 2) (d9 ds 0).length 0 false
def K9:Interp where
 fi n l:=match n with | 65=>X5 l | 67=>a2B l | n=>K8.fi n l
 fb n l:=match n with | 66=>J6 l | n=>K8.fb n l
 fd _ _:=[]
def c0p:=o7 [v9] fun al=> .ret (bV (bF 66 J6 al))
def c5Q:=o7 [v9] fun al=> .ret (iV .i64 (iF 65 X5 al))
def c0L:=o7 [v9,pt] fun al=> .ret (iV .i64 (iF 67 a2B al))
section
variable {ρ:Env} (h:Sees ρ K9 68)
include h
theorem c1t:i9 Tryz.prog ρ 122 c0p:=
 k5 d2y (fun _=>rfl) (fun al=>by simp only[bV,V.s0,V.val,V2.val,S.val,S0.val,k7 (s:=66) (f:=J6) (fun l=>by rw[(h 66 l (by decide)).2];simp only[K9])];rfl)
theorem c5j:i9 Tryz.prog ρ 123 c5Q:=
 k5 d3R (fun _=>rfl) (fun al=>by simp only[iV,V.s0,V.val,V2.val,S.val,S0.val,o6 (s:=65) (f:=X5) (fun l=>by rw[(h 65 l (by decide)).1];simp only[K9])];rfl)
theorem c1u:i9 Tryz.prog ρ 192 c0L:=
 k5 d4Q (fun _=>rfl) (fun al=>by simp only[iV,V.s0,V.val,V2.val,S.val,S0.val,o6 (s:=67) (f:=a2B) (fun l=>by rw[(h 67 l (by decide)).1];simp only[K9])];rfl)
theorem d6o:Sees ρ K8 65:=h.trans (by decide) fun n l hn=>by
 constructor
 ·simp only[K9]
  split<;>first | omega | rfl
 ·simp only[K9]
  split<;>first | omega | rfl
end
end Go.Proofs.YtldbejmgalhdaaaGreat
namespace Go.Proofs.YtldbejmgalhdaaaGreat
open Go.RowKit
def ct9:Ct:=(122,c0p)::(123,c5Q)::(192,c0L)::b1S
def b0o:TT j6:=
(.ite (.cmp .lss (.var 0) (.var 2))
 (.ite (.cmp .lss (.var 1) (.var 3))
 (.ret ((.v (.one (.z (.int .i64 (.lit (-1)))))),[],3))
 (.ite (.cmp .gtr (.var 1) (.var 3))
 (.ret ((.v (.one (.z (.int .i64 (.lit (-1)))))),[],3))
 (.ret ((.v (.one (.z (.int .i64 (.lit (-1)))))),[],3))))
 (.ite (.cmp .gtr (.var 0) (.var 2))
 (.ite (.cmp .lss (.var 1) (.var 3))
 (.ret ((.v (.one (.z (.int .i64 (.lit 1))))),[],3))
 (.ite (.cmp .gtr (.var 1) (.var 3))
 (.ret ((.v (.one (.z (.int .i64 (.lit 1))))),[],3))
 (.ret ((.v (.one (.z (.int .i64 (.lit 1))))),[],3))))
 (.ite (.cmp .lss (.var 1) (.var 3))
 (.ret ((.v (.one (.z (.int .i64 (.lit (-1)))))),[],3))
 (.ite (.cmp .gtr (.var 1) (.var 3))
 (.ret ((.v (.one (.z (.int .i64 (.lit 1))))),[],3))
 (.ret ((.v (.one (.z (.int .i64 (.lit 0))))),[],3))))))
set_option maxRecDepth 100000 in
theorem c2q:T.norm 0 (call Tryz.prog b1S (Lt.of []) 100 119 (i6 0 [pt,pt]) [] 0) TT.ret=b0o:=by kernel_rfl
theorem b8o:b0o.low 1000=true:=by kernel_rfl
def a1t(ax ay bx by':Int):Int:=if ax<bx then -1 else if bx<ax then 1 else if ay<by' then -1 else if by'<ay then 1 else 0
def a2w(ds:List D):Int:=a1t (c9 ds 0) (c9 ds 1) (c9 ds 2) (c9 ds 3)
theorem d5A:k8 Tryz.prog 119 [pt,pt] (fun ds=> .int .i64 (a2w ds)):=by
 refine GivesIf.all (i7 K8 (by kernel_rfl) (fun ρ h=>a3D (Sees.of h 65)) (by kernel_rfl) c2q b8o (by decide) (fun W vals ds hr _=> ?_))
 simp only[b0o,g8,Nat.reduceBEq,Nat.reduceLT,Nat.reduceSub]
 simp only[a2w,a1t]
 refine⟨fun h=>⟨fun h'=> ?_,fun h'=>⟨fun h''=> ?_,fun h''=> ?_⟩⟩,fun h=>⟨fun a=>⟨fun h'=> ?_,fun h'=>⟨fun h''=> ?_,fun h''=> ?_⟩⟩,fun a=>⟨fun h'=> ?_,fun h'=>⟨fun h''=> ?_,fun h''=> ?_⟩⟩⟩⟩
 all_goals (congr 1;(repeat' split)<;>omega)
def KA:Interp where
 fi n l:=match n with | 68=>a2w l | n=>K9.fi n l
 fb n l:=K9.fb n l
 fd _ _:=[]
def c5r:=o7 [pt,pt] fun al=> .ret (iV .i64 (iF 68 a2w al))
section
variable {ρ:Env} (h:Sees ρ KA 69)
include h
theorem c5q:i9 Tryz.prog ρ 119 c5r:=
 k5 d5A (fun _=>rfl) (fun al=>by simp only[iV,V.s0,V.val,V2.val,S.val,S0.val,o6 (s:=68) (f:=a2w) (fun l=>by rw[(h 68 l (by decide)).1];simp only[KA])])
theorem b3Q:Sees ρ K9 68:=h.trans (by decide) fun n l hn=>by
 constructor
 ·simp only[KA]
  split<;>first | omega | rfl
 ·rfl
end
def ctA:Ct:=(119,c5r)::ct9
theorem c7h{ρ:Env}(h:Sees ρ KA 69):CtOk Tryz.prog ρ ctA:= .cons (c5q h)<| .cons (c1t (b3Q h))<| .cons (c5j (b3Q h))<| .cons (c1u (b3Q h)) (a3D (d6o (b3Q h)))
end Go.Proofs.YtldbejmgalhdaaaGreat
namespace Go.Proofs.YtldbejmgalhdaaaGreat
open Go.RowKit
def c0V:TT j6:=
(.ite (.cmp .lss (.len (.var 0)) (.lit 3))
 (.ret ((.v (.one (.z (.bool (.lit false))))),[],0))
 (.ite (.cmp .gtr (.len (.var 0)) (.lit 24))
 (.ret ((.v (.one (.z (.bool (.lit false))))),[],0))
 (.loop 0 1000 ⟨[(0,(.lit 0))],[],[]⟩
 (.ite (.cmp .lss (.var 1000) (.len (.var 0)))
 (.ob (.tru (.cmp .leq (.lit 0) (.var 1000)))
 (.ob (.tru (.cmp .lss (.var 1000) (.len (.var 0))))
 (.ite (.not (.fn 3 (.i (.rd (.var 0) (.var 1000) 0) (.i (.rd (.var 0) (.var 1000) 1) .nil))))
 (.ite (.cmp .geq (.var 1000) (.lit 0))
 (.ret ((.v (.one (.z (.bool (.lit false))))),[],2))
 (.loop 1 3000 ⟨[(0,(.lit 0))],[],[]⟩
 (.ite (.cmp .lss (.var 3000) (.len (.var 0)))
 (.ite (.cmp .gtr (.var 3000) (.lit 0))
 (.ob (.tru (.lit true))
 (.ob (.tru (.cmp .lss (.lit 0) (.len (.var 0))))
 (.ob (.tru (.cmp .leq (.lit 0) (.var 3000)))
 (.ob (.tru (.cmp .lss (.var 3000) (.len (.var 0))))
 (.ite (.cmp .geq (.fn 68 (.i (.rd (.var 0) (.lit 0) 0) (.i (.rd (.var 0) (.lit 0) 1) (.i (.rd (.var 0) (.var 3000) 0) (.i (.rd (.var 0) (.var 3000) 1) .nil))))) (.lit 0))
 (.ret ((.v (.one (.z (.bool (.lit false))))),[],8))
 (.ob (.tru (.cmp .neq (.len (.var 0)) (.lit 0)))
 (.ob (.tru (.cmp .leq (.lit 0) (.ar .rem .i64 (.ar .add .i64 (.ar .sub .i64 (.var 3000) (.lit 1)) (.len (.var 0))) (.len (.var 0)))))
 (.ob (.tru (.cmp .lss (.ar .rem .i64 (.ar .add .i64 (.ar .sub .i64 (.var 3000) (.lit 1)) (.len (.var 0))) (.len (.var 0))) (.len (.var 0))))
 (.ob (.tru (.cmp .leq (.lit 0) (.var 3000)))
 (.ob (.tru (.cmp .lss (.var 3000) (.len (.var 0))))
 (.ob (.tru (.cmp .neq (.len (.var 0)) (.lit 0)))
 (.ob (.tru (.cmp .leq (.lit 0) (.ar .rem .i64 (.ar .add .i64 (.ar .add .i64 (.var 3000) (.lit 1)) (.len (.var 0))) (.len (.var 0)))))
 (.ob (.tru (.cmp .lss (.ar .rem .i64 (.ar .add .i64 (.ar .add .i64 (.var 3000) (.lit 1)) (.len (.var 0))) (.len (.var 0))) (.len (.var 0))))
 (.ite (.cmp .eql (.fn 15 (.i (.rd (.var 0) (.ar .rem .i64 (.ar .add .i64 (.ar .sub .i64 (.var 3000) (.lit 1)) (.len (.var 0))) (.len (.var 0))) 0) (.i (.rd (.var 0) (.ar .rem .i64 (.ar .add .i64 (.ar .sub .i64 (.var 3000) (.lit 1)) (.len (.var 0))) (.len (.var 0))) 1) (.i (.rd (.var 0) (.var 3000) 0) (.i (.rd (.var 0) (.var 3000) 1) (.i (.rd (.var 0) (.ar .rem .i64 (.ar .add .i64 (.ar .add .i64 (.var 3000) (.lit 1)) (.len (.var 0))) (.len (.var 0))) 0) (.i (.rd (.var 0) (.ar .rem .i64 (.ar .add .i64 (.ar .add .i64 (.var 3000) (.lit 1)) (.len (.var 0))) (.len (.var 0))) 1) .nil))))))) (.lit 0))
 (.ret ((.v (.one (.z (.bool (.lit false))))),[],8))
 (.next 1 ⟨[(0,(.ar .add .i64 (.var 3000) (.lit 1)))],[],[]⟩)))))))))))))))
 (.ob (.tru (.cmp .neq (.len (.var 0)) (.lit 0)))
 (.ob (.tru (.cmp .leq (.lit 0) (.ar .rem .i64 (.ar .add .i64 (.ar .sub .i64 (.var 3000) (.lit 1)) (.len (.var 0))) (.len (.var 0)))))
 (.ob (.tru (.cmp .lss (.ar .rem .i64 (.ar .add .i64 (.ar .sub .i64 (.var 3000) (.lit 1)) (.len (.var 0))) (.len (.var 0))) (.len (.var 0))))
 (.ob (.tru (.cmp .leq (.lit 0) (.var 3000)))
 (.ob (.tru (.cmp .lss (.var 3000) (.len (.var 0))))
 (.ob (.tru (.cmp .neq (.len (.var 0)) (.lit 0)))
 (.ob (.tru (.cmp .leq (.lit 0) (.ar .rem .i64 (.ar .add .i64 (.ar .add .i64 (.var 3000) (.lit 1)) (.len (.var 0))) (.len (.var 0)))))
 (.ob (.tru (.cmp .lss (.ar .rem .i64 (.ar .add .i64 (.ar .add .i64 (.var 3000) (.lit 1)) (.len (.var 0))) (.len (.var 0))) (.len (.var 0))))
 (.ite (.cmp .eql (.fn 15 (.i (.rd (.var 0) (.ar .rem .i64 (.ar .add .i64 (.ar .sub .i64 (.var 3000) (.lit 1)) (.len (.var 0))) (.len (.var 0))) 0) (.i (.rd (.var 0) (.ar .rem .i64 (.ar .add .i64 (.ar .sub .i64 (.var 3000) (.lit 1)) (.len (.var 0))) (.len (.var 0))) 1) (.i (.rd (.var 0) (.var 3000) 0) (.i (.rd (.var 0) (.var 3000) 1) (.i (.rd (.var 0) (.ar .rem .i64 (.ar .add .i64 (.ar .add .i64 (.var 3000) (.lit 1)) (.len (.var 0))) (.len (.var 0))) 0) (.i (.rd (.var 0) (.ar .rem .i64 (.ar .add .i64 (.ar .add .i64 (.var 3000) (.lit 1)) (.len (.var 0))) (.len (.var 0))) 1) .nil))))))) (.lit 0))
 (.ret ((.v (.one (.z (.bool (.lit false))))),[],8))
 (.next 1 ⟨[(0,(.ar .add .i64 (.var 3000) (.lit 1)))],[],[]⟩)))))))))))
 (.ite (.fn 66 (.x (.var 0) .nil))
 (.ret ((.v (.one (.z (.bool (.cmp .gtr (.fn 65 (.x (.var 0) .nil)) (.lit 0)))))),[],8))
 (.ret ((.v (.one (.z (.bool (.lit false))))),[],8))))))
 (.next 0 ⟨[(0,(.ar .add .i64 (.var 1000) (.lit 1)))],[],[]⟩))))
 (.loop 1 3000 ⟨[(0,(.lit 0))],[],[]⟩
 (.ite (.cmp .lss (.var 3000) (.len (.var 0)))
 (.ite (.cmp .gtr (.var 3000) (.lit 0))
 (.ob (.tru (.lit true))
 (.ob (.tru (.cmp .lss (.lit 0) (.len (.var 0))))
 (.ob (.tru (.cmp .leq (.lit 0) (.var 3000)))
 (.ob (.tru (.cmp .lss (.var 3000) (.len (.var 0))))
 (.ite (.cmp .geq (.fn 68 (.i (.rd (.var 0) (.lit 0) 0) (.i (.rd (.var 0) (.lit 0) 1) (.i (.rd (.var 0) (.var 3000) 0) (.i (.rd (.var 0) (.var 3000) 1) .nil))))) (.lit 0))
 (.ret ((.v (.one (.z (.bool (.lit false))))),[],8))
 (.ob (.tru (.cmp .neq (.len (.var 0)) (.lit 0)))
 (.ob (.tru (.cmp .leq (.lit 0) (.ar .rem .i64 (.ar .add .i64 (.ar .sub .i64 (.var 3000) (.lit 1)) (.len (.var 0))) (.len (.var 0)))))
 (.ob (.tru (.cmp .lss (.ar .rem .i64 (.ar .add .i64 (.ar .sub .i64 (.var 3000) (.lit 1)) (.len (.var 0))) (.len (.var 0))) (.len (.var 0))))
 (.ob (.tru (.cmp .leq (.lit 0) (.var 3000)))
 (.ob (.tru (.cmp .lss (.var 3000) (.len (.var 0))))
 (.ob (.tru (.cmp .neq (.len (.var 0)) (.lit 0)))
 (.ob (.tru (.cmp .leq (.lit 0) (.ar .rem .i64 (.ar .add .i64 (.ar .add .i64 (.var 3000) (.lit 1)) (.len (.var 0))) (.len (.var 0)))))
 (.ob (.tru (.cmp .lss (.ar .rem .i64 (.ar .add .i64 (.ar .add .i64 (.var 3000) (.lit 1)) (.len (.var 0))) (.len (.var 0))) (.len (.var 0))))
 (.ite (.cmp .eql (.fn 15 (.i (.rd (.var 0) (.ar .rem .i64 (.ar .add .i64 (.ar .sub .i64 (.var 3000) (.lit 1)) (.len (.var 0))) (.len (.var 0))) 0) (.i (.rd (.var 0) (.ar .rem .i64 (.ar .add .i64 (.ar .sub .i64 (.var 3000) (.lit 1)) (.len (.var 0))) (.len (.var 0))) 1) (.i (.rd (.var 0) (.var 3000) 0) (.i (.rd (.var 0) (.var 3000) 1) (.i (.rd (.var 0) (.ar .rem .i64 (.ar .add .i64 (.ar .add .i64 (.var 3000) (.lit 1)) (.len (.var 0))) (.len (.var 0))) 0) (.i (.rd (.var 0) (.ar .rem .i64 (.ar .add .i64 (.ar .add .i64 (.var 3000) (.lit 1)) (.len (.var 0))) (.len (.var 0))) 1) .nil))))))) (.lit 0))
 (.ret ((.v (.one (.z (.bool (.lit false))))),[],8))
 (.next 1 ⟨[(0,(.ar .add .i64 (.var 3000) (.lit 1)))],[],[]⟩)))))))))))))))
 (.ob (.tru (.cmp .neq (.len (.var 0)) (.lit 0)))
 (.ob (.tru (.cmp .leq (.lit 0) (.ar .rem .i64 (.ar .add .i64 (.ar .sub .i64 (.var 3000) (.lit 1)) (.len (.var 0))) (.len (.var 0)))))
 (.ob (.tru (.cmp .lss (.ar .rem .i64 (.ar .add .i64 (.ar .sub .i64 (.var 3000) (.lit 1)) (.len (.var 0))) (.len (.var 0))) (.len (.var 0))))
 (.ob (.tru (.cmp .leq (.lit 0) (.var 3000)))
 (.ob (.tru (.cmp .lss (.var 3000) (.len (.var 0))))
 (.ob (.tru (.cmp .neq (.len (.var 0)) (.lit 0)))
 (.ob (.tru (.cmp .leq (.lit 0) (.ar .rem .i64 (.ar .add .i64 (.ar .add .i64 (.var 3000) (.lit 1)) (.len (.var 0))) (.len (.var 0)))))
 (.ob (.tru (.cmp .lss (.ar .rem .i64 (.ar .add .i64 (.ar .add .i64 (.var 3000) (.lit 1)) (.len (.var 0))) (.len (.var 0))) (.len (.var 0))))
 (.ite (.cmp .eql (.fn 15 (.i (.rd (.var 0) (.ar .rem .i64 (.ar .add .i64 (.ar .sub .i64 (.var 3000) (.lit 1)) (.len (.var 0))) (.len (.var 0))) 0) (.i (.rd (.var 0) (.ar .rem .i64 (.ar .add .i64 (.ar .sub .i64 (.var 3000) (.lit 1)) (.len (.var 0))) (.len (.var 0))) 1) (.i (.rd (.var 0) (.var 3000) 0) (.i (.rd (.var 0) (.var 3000) 1) (.i (.rd (.var 0) (.ar .rem .i64 (.ar .add .i64 (.ar .add .i64 (.var 3000) (.lit 1)) (.len (.var 0))) (.len (.var 0))) 0) (.i (.rd (.var 0) (.ar .rem .i64 (.ar .add .i64 (.ar .add .i64 (.var 3000) (.lit 1)) (.len (.var 0))) (.len (.var 0))) 1) .nil))))))) (.lit 0))
 (.ret ((.v (.one (.z (.bool (.lit false))))),[],8))
 (.next 1 ⟨[(0,(.ar .add .i64 (.var 3000) (.lit 1)))],[],[]⟩)))))))))))
 (.ite (.fn 66 (.x (.var 0) .nil))
 (.ret ((.v (.one (.z (.bool (.cmp .gtr (.fn 65 (.x (.var 0) .nil)) (.lit 0)))))),[],8))
 (.ret ((.v (.one (.z (.bool (.lit false))))),[],8)))))))))
set_option maxRecDepth 100000 in
theorem c7x:T.norm 0 (call Tryz.prog ctA (Lt.of []) 100 94 (i6 0 [v9]) [] 0) TT.ret=c0V:=by kernel_rfl
theorem c6K:c0V.low 1000=true:=by kernel_rfl
def X2(n i:Nat):Nat:=if i=0 then n-1 else i-1
theorem a9M{n i:Nat}(h:i<n):X2 n i<n:=by unfold X2;split<;>omega
theorem b6m{n i:Nat}(h:i<n)(hn:n≤281474976710656):(IntKind.i64.wrap (IntKind.i64.wrap ((i:Int)-1)+(n:Int))).tmod (n:Int)=(X2 n i:Int):=by
 rw[f8 ((i:Int)-1) (by omega) (by omega),f8 _ (by omega) (by omega)]
 rw[Int.tmod_eq_emod_of_nonneg (by omega)]
 unfold X2
 split
 ·rename_i h1
  rw[Int.emod_eq_of_lt (by omega) (by omega)]
  omega
 ·rw[Int.add_emod_right,Int.emod_eq_of_lt (by omega) (by omega)]
  omega
def plN(r:Rows):Nat→Nat→Bool
 | 0,_=>true
 | f+1,i=>g9 (lg r i 0) (lg r i 1)&&plN r f (i+1)
def O0(r:Rows)(i:Nat):Bool:=
 !(decide (0<i)&&decide (0≤a1t (lg r 0 0) (lg r 0 1) (lg r i 0) (lg r i 1)))&&
 !decide (A6 [.i (lg r (X2 r.length i) 0),.i (lg r (X2 r.length i) 1),.i (lg r i 0),.i (lg r i 1),.i (lg r (nxt r.length i) 0),.i (lg r (nxt r.length i) 1)]=0)
def Y2(r:Rows):Nat→Nat→Bool
 | 0,_=>true
 | f+1,i=>O0 r i&&Y2 r f (i+1)
def n7(r:Rows):Bool:=decide (3≤r.length∧r.length≤24)&&(plN r r.length 0&&(Y2 r r.length 0&&(o9 r r.length 0&&decide (0<G0 r r.length 0 0))))
def H3(ds:List D):Bool:=n7 (d9 ds 0)
section
variable (W:World) (ds l:List D)
theorem d5U:(f0 KA W ds).fb 3 l=s9 l:=by simp only[f0,KA,K9,K8,K7,K6,K5,K]
theorem d0J:(f0 KA W ds).fi 15 l=A6 l:=by simp only[f0,KA,K9,K8,K7,K6,K5,K]
theorem d0p:(f0 KA W ds).fi 68 l=a2w l:=by simp only[f0,KA]
theorem d0g:(f0 KA W ds).fb 66 l=J6 l:=by simp only[f0,KA,K9]
theorem d0m:(f0 KA W ds).fi 65 l=X5 l:=by simp only[f0,KA,K9]
end
theorem a9n(a b c d:Int):a2w [.i a,.i b,.i c,.i d]=a1t a b c d:=rfl
theorem a1M(r:Rows):J6 [.l r]=o9 r r.length 0:=rfl
theorem a2Q(r:Rows):X5 [.l r]=G0 r r.length 0 0:=rfl
theorem E5(a b:Int):s9 [.i a,.i b]=g9 a b:=rfl
theorem d8F:k8 Tryz.prog 94 [v9] (fun ds=> .bool (H3 ds)):=by
 refine GivesIf.all (i7 KA (by kernel_rfl) (fun ρ h=>c7h (Sees.of h 69)) (by kernel_rfl) c7x c6K (by decide) (fun W vals ds hr _=> ?_))
 have hlen:=Q5 hr
 simp only[c0V,g8,Nat.reduceBEq,Nat.reduceLT,Nat.reduceSub]
 generalize hr0:d9 ds 0=r at hlen ⊢
 have hP:H3 ds=n7 r:=by rw[H3,hr0]
 rw[hP]
 refine⟨fun h=> ?_,fun h1=>⟨fun h=> ?_,fun h2=> ?_⟩⟩
 ·rw[n7,decide_eq_false (by omega)];rfl
 ·rw[n7,decide_eq_false (by omega)];rfl
 have hd:decide (3≤r.length∧r.length≤24)=true:=decide_eq_true (by omega)
 refine TT.sat_loop (fun v=>∃i:Nat,v.i 0=i∧i≤r.length∧(plN r (r.length-i) i&&(Y2 r r.length 0&&(o9 r r.length 0&&decide (0<G0 r r.length 0 0))))=n7 r) (fun v=>r.length-(v.i 0).toNat)
  ⟨0,by simp [j7,i8,E.ev],by omega,by rw[n7,hd];rfl⟩ (fun v hv=> ?_)
 obtain⟨i,i0,i1,i2⟩:=hv
 simp only[g8,Nat.reduceBEq,Nat.reduceLT,Nat.reduceSub,i0,hr0,d5U,d0J,d0p,d0g,d0m,a9n,E5,a1M,a2Q]
 refine⟨fun hc=> ?_,fun hc=> ?_⟩
 ·have hi:i<r.length:=by omega
  obtain⟨f,hf⟩:∃f,r.length-i=f+1:=⟨r.length-i-1,by omega⟩
  rw[hf,plN] at i2
  refine⟨by omega,by omega,fun p=>⟨fun q=> ?_,fun q=>absurd (show(0:Int)≤i by omega) q⟩,fun p=>⟨⟨i+1,?_,by omega,?_⟩,?_⟩⟩
  ·rw[←i2,p];rfl
  ·rw[f8 _ (by omega) (by omega)];rfl
  ·rw[show r.length-(i+1)=f by omega,←i2,p];rfl
  ·rw[f8 _ (by omega) (by omega)];omega
 ·have:r.length-i=0:=by omega
  rw[this,plN,Bool.true_and] at i2
  refine TT.sat_loop (fun v=>∃j:Nat,v.i 0=j∧j≤r.length∧(Y2 r (r.length-j) j&&(o9 r r.length 0&&decide (0<G0 r r.length 0 0)))=n7 r) (fun v=>r.length-(v.i 0).toNat)
   ⟨0,by simp [j7,i8,E.ev],by omega,i2⟩ (fun u hu=> ?_)
  obtain⟨j,j0,j1,j2⟩:=hu
  simp only[g8,Nat.reduceBEq,Nat.reduceLT,Nat.reduceSub,j0,hr0,d5U,d0J,d0p,d0g,d0m,a9n,E5,a1M,a2Q]
  refine⟨fun hc=> ?_,fun hc=> ?_⟩
  ·have hj:j<r.length:=by omega
   have hn:=u0 hj
   have hp:=a9M hj
   obtain⟨f,hf⟩:∃f,r.length-j=f+1:=⟨r.length-j-1,by omega⟩
   rw[hf,Y2] at j2
   have M:r.length-(IntKind.i64.wrap ((j:Int)+1)).toNat<r.length-(j:Int).toNat:=by rw[f8 _ (by omega) (by omega)];omega
   have N:O0 r j=true→(∃k:Nat,IntKind.i64.wrap ((j:Int)+1)=k∧k≤r.length∧(Y2 r (r.length-k) k&&(o9 r r.length 0&&decide (0<G0 r r.length 0 0)))=n7 r):=
    fun h=>⟨j+1,by rw[f8 _ (by omega) (by omega)];rfl,by omega,by rw[show r.length-(j+1)=f by omega,←j2,h];rfl⟩
   have F:O0 r j=false→Value.bool false=Value.bool (n7 r):=fun h=>by rw[←j2,h];rfl
   simp only[b6m hj hlen,D6 hj hlen]
   refine⟨fun a=>⟨by omega,by omega,by omega,fun b=>F ?_,fun b=>⟨by omega,by omega,by omega,by omega,by omega,by omega,by omega,by omega,fun c=>F ?_,fun c=>⟨N ?_,M⟩⟩⟩,fun a=>⟨by omega,by omega,by omega,by omega,by omega,by omega,by omega,by omega,fun c=>F ?_,fun c=>⟨N ?_,M⟩⟩⟩
   ·rw[O0,decide_eq_true (p:=0<j) (by omega),decide_eq_true b];rfl
   ·rw[O0,decide_eq_true c];simp
   ·rw[O0,decide_eq_false c,decide_eq_false b];simp
   ·rw[O0,decide_eq_true c];simp
   ·rw[O0,decide_eq_false c,decide_eq_false (p:=0<j) (by omega)];rfl
  ·have:r.length-j=0:=by omega
   rw[this,Y2,Bool.true_and] at j2
   refine⟨fun h=> ?_,fun h=> ?_⟩
   ·rw[←j2,h,Bool.true_and]
    congr 1
   ·rw[←j2,h];rfl
def KB:Interp where
 fi n l:=KA.fi n l
 fb n l:=match n with | 69=>H3 l | n=>KA.fb n l
 fd _ _:=[]
theorem d7i{ρ:Env}(h:Sees ρ KB 70):Sees ρ KA 69:=h.trans (by decide) fun n l hn=>by
 refine⟨?_,?_⟩
 ·
  rfl
 ·
  simp only[KB]
  split<;>first | omega | rfl
def d3Y:=o7 [v9] fun al=> .ret (bV (bF 69 H3 al))
theorem d1F{ρ:Env}(h:Sees ρ KB 70):i9 Tryz.prog ρ 94 d3Y:=
 k5 d8F (fun _=>rfl) (fun al=>by simp only[iV,bV,V.s0,V.val,V2.val,S.val,S0.val,k7 (s:=69) (f:=H3) (fun l=>by rw[(h 69 l (by decide)).2];simp only[KB])];try rfl)
def ctB:Ct:=(94,d3Y)::ctA
theorem a9B{ρ:Env}(h:Sees ρ KB 70):CtOk Tryz.prog ρ ctB:= .cons (d1F h) (c7h (d7i h))
end Go.Proofs.YtldbejmgalhdaaaGreat
