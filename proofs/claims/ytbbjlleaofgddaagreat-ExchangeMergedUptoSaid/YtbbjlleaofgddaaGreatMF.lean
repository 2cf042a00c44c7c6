/- MF, merged: Co0, TCo, Co, TCp, Cq, Cr, Cs, TCu, Cu, TCt, Ct. -/
import Derived.Test.YtbbjlleaofgddaaGreatMD
set_option linter.unusedSimpArgs false
set_option linter.unusedVariables false
namespace Go.Proofs.YtbbjlleaofgddaaGreat
open Go.RowKit
def I8:Interp:= { fi:=fun _ _=>0,fb:=fun n l=>match n with | 1=>y9 l | 3=>z7 l | 4=>onL l | 5=>D7 l | 6=>H6 l | _=>false,fd:=fun _ _=>[] }
def ct8:Ct:=[(126,T9),(176,b6a),(182,b8u)]
theorem c3c{ρ:Env}(h:ρ.has I8):CtOk Tryz.prog ρ ct8:=
 .cons (a0M (fun l=>by rw[h.2.1];rfl))<| .cons (b5U (fun l=>by rw[h.2.1];rfl) (fun l=>by rw[h.2.1];rfl))<| .cons (b0W (fun l=>by rw[h.2.1];rfl) (fun l=>by rw[h.2.1];rfl)) .nil
def a5t:TT i8:=
(.ite (.not (.fn 3 (.i (.var 0) (.i (.var 1) .nil))))
 (.ret ((.tup [(.one (.z (.bool (.lit false)))),(.one (.z (.int .i64 (.lit 1))))]),[],6))
 (.ite (.not (.fn 3 (.i (.var 2) (.i (.var 3) .nil))))
 (.ret ((.tup [(.one (.z (.bool (.lit false)))),(.one (.z (.int .i64 (.lit 1))))]),[],7))
 (.ite (.not (.fn 3 (.i (.var 4) (.i (.var 5) .nil))))
 (.ret ((.tup [(.one (.z (.bool (.lit false)))),(.one (.z (.int .i64 (.lit 1))))]),[],8))
 (.ite (.not (.fn 3 (.i (.var 6) (.i (.var 7) .nil))))
 (.ret ((.tup [(.one (.z (.bool (.lit false)))),(.one (.z (.int .i64 (.lit 1))))]),[],9))
 (.ob (.tru (.fn 5 (.i (.var 0) (.i (.var 1) (.i (.var 2) (.i (.var 3) (.i (.var 4) (.i (.var 5) (.i (.var 6) (.i (.var 7) .nil))))))))))
 (.ret ((.tup [(.one (.z (.bool (.fn 6 (.i (.var 0) (.i (.var 1) (.i (.var 2) (.i (.var 3) (.i (.var 4) (.i (.var 5) (.i (.var 6) (.i (.var 7) .nil)))))))))))),(.one (.z (.int .i64 (.lit 0))))]),[],9)))))))
set_option maxRecDepth 100000 in
theorem b2V:T.norm 0 (call Tryz.prog ct8 lt1 100 163 (i5 0 [pt,pt,pt,pt]) [] 0) TT.ret=a5t:=by kernel_rfl
theorem a9O:a5t.low 1000=true:=by kernel_rfl
theorem c6I(W:World)(ds l:List D):(g8 I8 W ds).fb 1 l=y9 l:=by simp only[g8,I8]
theorem c6l(W:World)(ds l:List D):(g8 I8 W ds).fb 3 l=z7 l:=by simp only[g8,I8]
theorem c6q(W:World)(ds l:List D):(g8 I8 W ds).fb 4 l=onL l:=by simp only[g8,I8]
theorem c6g(W:World)(ds l:List D):(g8 I8 W ds).fb 5 l=D7 l:=by simp only[g8,I8]
theorem c6P(W:World)(ds l:List D):(g8 I8 W ds).fb 6 l=H6 l:=by simp only[g8,I8]
theorem c5m:k8 Tryz.prog 163 [pt,pt,pt,pt] (fun ds=>c1f (D7 ds) (H6 ds)):=by
 refine GivesIf.all (i6 I8 (by kernel_rfl) (fun ρ h=>c3c h) (by kernel_rfl) b2V a9O (by decide) (fun W vals ds _ _=> ?_))
 simp only[a5t,g7,Nat.reduceBEq,Nat.reduceLT,Nat.reduceSub,c6I,c6l,c6q,c6g,c6P,a4D,a2z,b0h,b2H]
 simp only[c1f,D7,H6]
 refine⟨fun h=> ?_,fun h=>⟨fun h'=> ?_,fun h'=>⟨fun h''=> ?_,fun h''=>⟨fun h3=> ?_,fun h3=> ?_⟩⟩⟩⟩<;>simp [*]
def onR(ds:List D):Bool:=y9 ds&&onL ds
def a3U(ds:List D):Bool:=D7 ds&&H6 ds
def a8g(ds:List D):Int:=if D7 ds then 0 else 1
def K8:Interp where
 fi n l:=match n with | 64=>a8g l | n=>K7.fi n l
 fb n l:=match n with | 61=>onR l | 62=>a3U l | n=>K7.fb n l
 fd _ _:=[]
def b5l:=o9 [pt,pt,pt,pt] fun al=> .ret (.tup [.one (sBF 62 a3U al),.one (sIF 64 a8g al)])
section
variable {ρ:Env} (h:Sees ρ K8 65)
include h
theorem b4g:i4 Tryz.prog ρ 163 b5l:=
 j4 c5m (fun _=>rfl) (fun al=>by
  simp only[V.val,V2.val,S.val,S0.val,sIF,sBF,List.map_cons,List.map_nil,o8 (s:=62) (f:=a3U) (fun l=>by rw[(h 62 l (by decide)).2];simp only[K8]),O7 (s:=64) (f:=a8g) (fun l=>by rw[(h 64 l (by decide)).1];simp only[K8])];rfl)
theorem b9V:i4 Tryz.prog ρ 126 T9:=a0M (fun l=>by rw[(h 3 l (by decide)).2];simp only[K8,K7,K6,K5,K])
theorem b3Z:i4 Tryz.prog ρ 161 a4e:=
 j4 b9w (fun _=>rfl) (fun al=>by
  simp only[V.val,V2.val,S.val,S0.val,sIF,sBF,List.map_cons,List.map_nil,O7 (s:=15) (f:=O8) (fun l=>by rw[(h 15 l (by decide)).1];simp only[K8,K7,K6,K5,K]),O7 (s:=16) (f:=a2D) (fun l=>by rw[(h 16 l (by decide)).1];simp only[K8,K7,K6,K5,K]),a7l,O8,a2D]
  split<;>rfl)
end
def a9f:Ct:=[(126,T9),(163,b5l),(161,a4e)]
theorem a2n{ρ:Env}(h:Sees ρ K8 65):CtOk Tryz.prog ρ a9f:= .cons (b9V h)<| .cons (b4g h)<| .cons (b3Z h) .nil
end Go.Proofs.YtbbjlleaofgddaaGreat
namespace Go.Proofs.YtbbjlleaofgddaaGreat
open Go.RowKit
def ptK:List CK:=[.int .i64,.int .i64]
def S7:Sh:= .one (.sl ptK)
def a3D:TT i8:=
(.loop 0 7000 ⟨[(0,(.lit 0))],[],[]⟩
 (.ite (.cmp .lss (.var 7000) (.len (.var 0)))
 (.ob (.tru (.cmp .leq (.lit 0) (.var 7000)))
 (.ob (.tru (.cmp .lss (.var 7000) (.len (.var 0))))
 (.ob (.tru (.cmp .neq (.len (.var 0)) (.lit 0)))
 (.ob (.tru (.cmp .leq (.lit 0) (.ar .rem .i64 (.ar .add .i64 (.ar .add .i64 (.var 7000) (.lit 1)) (.len (.var 0))) (.len (.var 0)))))
 (.ob (.tru (.cmp .lss (.ar .rem .i64 (.ar .add .i64 (.ar .add .i64 (.var 7000) (.lit 1)) (.len (.var 0))) (.len (.var 0))) (.len (.var 0))))
 (.loop 1 14000 ⟨[(0,(.lit 0))],[],[]⟩
 (.ite (.cmp .lss (.var 14000) (.len (.var 0)))
 (.ob (.tru (.cmp .leq (.lit 0) (.var 14000)))
 (.ob (.tru (.cmp .lss (.var 14000) (.len (.var 0))))
 (.ob (.tru (.cmp .neq (.len (.var 0)) (.lit 0)))
 (.ob (.tru (.cmp .leq (.lit 0) (.ar .rem .i64 (.ar .add .i64 (.ar .add .i64 (.var 14000) (.lit 1)) (.len (.var 0))) (.len (.var 0)))))
 (.ob (.tru (.cmp .lss (.ar .rem .i64 (.ar .add .i64 (.ar .add .i64 (.var 14000) (.lit 1)) (.len (.var 0))) (.len (.var 0))) (.len (.var 0))))
 (.ite (.cmp .leq (.var 14000) (.ar .add .i64 (.var 7000) (.lit 1)))
 (.next 1 ⟨[(0,(.ar .add .i64 (.var 14000) (.lit 1)))],[],[]⟩)
 (.ite (.cmp .eql (.var 7000) (.lit 0))
 (.ite (.cmp .eql (.var 14000) (.ar .sub .i64 (.len (.var 0)) (.lit 1)))
 (.next 1 ⟨[(0,(.ar .add .i64 (.var 14000) (.lit 1)))],[],[]⟩)
 (.ite (.fn 62 (.i (.rd (.var 0) (.var 7000) 0) (.i (.rd (.var 0) (.var 7000) 1) (.i (.rd (.var 0) (.ar .rem .i64 (.ar .add .i64 (.ar .add .i64 (.var 7000) (.lit 1)) (.len (.var 0))) (.len (.var 0))) 0) (.i (.rd (.var 0) (.ar .rem .i64 (.ar .add .i64 (.ar .add .i64 (.var 7000) (.lit 1)) (.len (.var 0))) (.len (.var 0))) 1) (.i (.rd (.var 0) (.var 14000) 0) (.i (.rd (.var 0) (.var 14000) 1) (.i (.rd (.var 0) (.ar .rem .i64 (.ar .add .i64 (.ar .add .i64 (.var 14000) (.lit 1)) (.len (.var 0))) (.len (.var 0))) 0) (.i (.rd (.var 0) (.ar .rem .i64 (.ar .add .i64 (.ar .add .i64 (.var 14000) (.lit 1)) (.len (.var 0))) (.len (.var 0))) 1) .nil)))))))))
 (.ret ((.v (.one (.z (.bool (.lit false))))),[],17))
 (.next 1 ⟨[(0,(.ar .add .i64 (.var 14000) (.lit 1)))],[],[]⟩)))
 (.ite (.fn 62 (.i (.rd (.var 0) (.var 7000) 0) (.i (.rd (.var 0) (.var 7000) 1) (.i (.rd (.var 0) (.ar .rem .i64 (.ar .add .i64 (.ar .add .i64 (.var 7000) (.lit 1)) (.len (.var 0))) (.len (.var 0))) 0) (.i (.rd (.var 0) (.ar .rem .i64 (.ar .add .i64 (.ar .add .i64 (.var 7000) (.lit 1)) (.len (.var 0))) (.len (.var 0))) 1) (.i (.rd (.var 0) (.var 14000) 0) (.i (.rd (.var 0) (.var 14000) 1) (.i (.rd (.var 0) (.ar .rem .i64 (.ar .add .i64 (.ar .add .i64 (.var 14000) (.lit 1)) (.len (.var 0))) (.len (.var 0))) 0) (.i (.rd (.var 0) (.ar .rem .i64 (.ar .add .i64 (.ar .add .i64 (.var 14000) (.lit 1)) (.len (.var 0))) (.len (.var 0))) 1) .nil)))))))))
 (.ret ((.v (.one (.z (.bool (.lit false))))),[],17))
 (.next 1 ⟨[(0,(.ar .add .i64 (.var 14000) (.lit 1)))],[],[]⟩)))))))))
 (.next 0 ⟨[(0,(.ar .add .i64 (.var 7000) (.lit 1)))],[],[]⟩))))))))
 (.ret ((.v (.one (.z (.bool (.lit true))))),[],17))))
set_option maxRecDepth 100000 in
theorem a9L:T.norm 0 (call Tryz.prog a9f (Lt.of []) 100 149 (i5 0 [S7]) [] 0) TT.ret=a3D:=by kernel_rfl
theorem a8M:a3D.low 1000=true:=by kernel_rfl
def a5k:TT i8:=
(.loop 0 5000 ⟨[(0,(.lit 0)),(1,(.lit 0))],[],[]⟩
 (.ite (.cmp .lss (.var 5000) (.len (.var 0)))
 (.ob (.tru (.cmp .leq (.lit 0) (.var 5000)))
 (.ob (.tru (.cmp .lss (.var 5000) (.len (.var 0))))
 (.ob (.tru (.cmp .neq (.len (.var 0)) (.lit 0)))
 (.ob (.tru (.cmp .leq (.lit 0) (.ar .rem .i64 (.ar .add .i64 (.ar .add .i64 (.var 5000) (.lit 1)) (.len (.var 0))) (.len (.var 0)))))
 (.ob (.tru (.cmp .lss (.ar .rem .i64 (.ar .add .i64 (.ar .add .i64 (.var 5000) (.lit 1)) (.len (.var 0))) (.len (.var 0))) (.len (.var 0))))
 (.next 0 ⟨[(0,(.ar .add .i64 (.var 5000) (.lit 1))),(1,(.ar .add .i64 (.var 5001) (.ar .sub .i64 (.ar .mul .i64 (.rd (.var 0) (.var 5000) 0) (.rd (.var 0) (.ar .rem .i64 (.ar .add .i64 (.ar .add .i64 (.var 5000) (.lit 1)) (.len (.var 0))) (.len (.var 0))) 1)) (.ar .mul .i64 (.rd (.var 0) (.var 5000) 1) (.rd (.var 0) (.ar .rem .i64 (.ar .add .i64 (.ar .add .i64 (.var 5000) (.lit 1)) (.len (.var 0))) (.len (.var 0))) 0)))))],[],[]⟩))))))
 (.ret ((.v (.one (.z (.int .i64 (.var 5001))))),[],8))))
set_option maxRecDepth 100000 in
theorem b3x:T.norm 0 (call Tryz.prog a9f (Lt.of []) 100 150 (i5 0 [S7]) [] 0) TT.ret=a5k:=by kernel_rfl
theorem a9U:a5k.low 1000=true:=by kernel_rfl
def nxt(n i:Nat):Nat:=if i+1=n then 0 else i+1
theorem a3Z{n i:Nat}(h:i<n):nxt n i<n:=by unfold nxt;split<;>omega
theorem U4{n i:Nat}(h:i<n)(hn:n≤281474976710656):(IntKind.i64.wrap (IntKind.i64.wrap ((i:Int)+1)+(n:Int))).tmod (n:Int)=(nxt n i:Int):=by
 rw[f9 ((i:Int)+1) (by omega) (by omega),f9 _ (by omega) (by omega)]
 rw[Int.tmod_eq_emod_of_nonneg (by omega)]
 unfold nxt
 split
 ·rename_i h1
  have:((i:Int)+1+n)=n*2:=by omega
  rw[this,Int.mul_emod_right]
  rfl
 ·rw[Int.add_emod_right,Int.emod_eq_of_lt (by omega) (by omega)]
  rfl
def c2U(r:Rows)(qx qy:Int)(i:Nat):Bool:=
 if lg r (nxt r.length i) 1<lg r i 1 then decide (lg r (nxt r.length i) 1≤qy∧qy<lg r i 1∧0<O8 [.i (lg r (nxt r.length i) 0),.i (lg r (nxt r.length i) 1),.i (lg r i 0),.i (lg r i 1),.i qx,.i qy])
 else decide (lg r i 1≤qy∧qy<lg r (nxt r.length i) 1∧0<O8 [.i (lg r i 0),.i (lg r i 1),.i (lg r (nxt r.length i) 0),.i (lg r (nxt r.length i) 1),.i qx,.i qy])
def onE(r:Rows)(qx qy:Int)(i:Nat):Bool:=onR [.i qx,.i qy,.i (lg r i 0),.i (lg r i 1),.i (lg r (nxt r.length i) 0),.i (lg r (nxt r.length i) 1)]
def a8Z(r:Rows)(qx qy:Int):Nat→Nat→Bool→Int
 | 0,_,b=>if b then 1 else -1
 | f+1,i,b=>if onE r qx qy i then 0 else a8Z r qx qy f (i+1) (b ^^ c2U r qx qy i)
section
variable (W:World) (ds l:List D)
theorem c5o:(g8 K8 W ds).fb 62 l=a3U l:=by simp only[g8,K8]
end
theorem a5b{W:World}{vals:List Value}{ds:List D}{sh:List Sh}(h:D8 W (S7::sh) vals ds):(f8 ds 0).length≤281474976710656:=by
 obtain⟨v,vs',d,ds',rfl,rfl,⟨d,rfl,h⟩,_⟩:=h
 rw[x9] at h
 obtain⟨r,rfl,a,n,c,_,hs,_⟩:=h
 have e1:=hs.len
 have e2:=hs.big
 show r.length≤_
 omega
def C8(r:Rows):Nat→Nat→Int→Int
 | 0,_,n=>n
 | f+1,i,n=>C8 r f (i+1) (IntKind.i64.wrap (n+IntKind.i64.wrap (IntKind.i64.wrap (lg r i 0*lg r (nxt r.length i) 1)-IntKind.i64.wrap (lg r i 1*lg r (nxt r.length i) 0))))
theorem c3x:k8 Tryz.prog 150 [S7] (fun ds=> .int .i64 (C8 (f8 ds 0) (f8 ds 0).length 0 0)):=by
 refine GivesIf.all (i6 K8 (by kernel_rfl) (fun ρ h=>a2n (Sees.of h 65)) (by kernel_rfl) b3x a9U (by decide) (fun W vals ds hr _=> ?_))
 have hlen:=a5b hr
 simp only[a5k]
 refine TT.sat_loop (fun v=>∃i:Nat,v.i 0=i∧i≤(f8 ds 0).length∧C8 (f8 ds 0) ((f8 ds 0).length-i) i (v.i 1)=C8 (f8 ds 0) (f8 ds 0).length 0 0) (fun v=>(f8 ds 0).length-(v.i 0).toNat)
  ⟨0,by simp [o6,j6,E.ev],by omega,by simp [o6,j6,E.ev]⟩ (fun v hv=> ?_)
 obtain⟨i,i0,i1,i2⟩:=hv
 simp only[g7,Nat.reduceBEq,Nat.reduceLT,Nat.reduceSub,i0]
 refine⟨fun hc=> ?_,fun hc=> ?_⟩
 ·have hi:i<(f8 ds 0).length:=by omega
  have hn:=a3Z hi
  obtain⟨f,hf⟩:∃f,(f8 ds 0).length-i=f+1:=⟨(f8 ds 0).length-i-1,by omega⟩
  rw[U4 hi hlen,f9 ((i:Int)+1) (by omega) (by omega)]
  rw[hf,C8] at i2
  have hf':(f8 ds 0).length-(i+1)=f:=by omega
  exact⟨by omega,by omega,by omega,by omega,by omega,⟨i+1,rfl,by omega,by rw[hf'];exact i2⟩,by omega⟩
 ·have:(f8 ds 0).length-i=0:=by omega
  rw[this,C8] at i2
  rw[←i2]
end Go.Proofs.YtbbjlleaofgddaaGreat
namespace Go.Proofs.YtbbjlleaofgddaaGreat
open Go.RowKit
def a8m(r:Rows)(i k:Nat):Bool:=a3U [.i (lg r i 0),.i (lg r i 1),.i (lg r (nxt r.length i) 0),.i (lg r (nxt r.length i) 1),.i (lg r k 0),.i (lg r k 1),.i (lg r (nxt r.length k) 0),.i (lg r (nxt r.length k) 1)]
def U8(r:Rows)(i k:Nat):Bool:=decide (k≤i+1∨(i=0∧k+1=r.length))|| !a8m r i k
def a5H(r:Rows)(i:Nat):Nat→Nat→Bool
 | 0,_=>true
 | f+1,k=>U8 r i k&&a5H r i f (k+1)
def t7(r:Rows):Nat→Nat→Bool
 | 0,_=>true
 | f+1,i=>a5H r i r.length 0&&t7 r f (i+1)
theorem b9T:k8 Tryz.prog 149 [S7] (fun ds=> .bool (t7 (f8 ds 0) (f8 ds 0).length 0)):=by
 refine GivesIf.all (i6 K8 (by kernel_rfl) (fun ρ h=>a2n (Sees.of h 65)) (by kernel_rfl) a9L a8M (by decide) (fun W vals ds hr _=> ?_))
 have hlen:=a5b hr
 simp only[a3D]
 refine TT.sat_loop (fun v=>∃i:Nat,v.i 0=i∧i≤(f8 ds 0).length∧t7 (f8 ds 0) ((f8 ds 0).length-i) i=t7 (f8 ds 0) (f8 ds 0).length 0) (fun v=>(f8 ds 0).length-(v.i 0).toNat)
  ⟨0,by simp [o6,j6,E.ev],by omega,rfl⟩ (fun v hv=> ?_)
 obtain⟨i,i0,i1,i2⟩:=hv
 simp only[g7,Nat.reduceBEq,Nat.reduceLT,Nat.reduceSub,i0]
 refine⟨fun hc=> ?_,fun hc=> ?_⟩
 ·have hi:i<(f8 ds 0).length:=by omega
  have hn:=a3Z hi
  obtain⟨f,hf⟩:∃f,(f8 ds 0).length-i=f+1:=⟨(f8 ds 0).length-i-1,by omega⟩
  rw[U4 hi hlen]
  rw[hf,t7] at i2
  have hf':(f8 ds 0).length-(i+1)=f:=by omega
  refine⟨by omega,by omega,by omega,by omega,by omega,?_⟩
  refine TT.sat_loop (fun u=>∃k:Nat,u.i 0=k∧k≤(f8 ds 0).length∧(a5H (f8 ds 0) i ((f8 ds 0).length-k) k&&t7 (f8 ds 0) f (i+1))=t7 (f8 ds 0) (f8 ds 0).length 0) (fun u=>(f8 ds 0).length-(u.i 0).toNat)
   ⟨0,by simp [o6,j6,E.ev],by omega,i2⟩ (fun u hu=> ?_)
  obtain⟨k,k0,k1,k2⟩:=hu
  simp only[g7,Nat.reduceBEq,Nat.reduceLT,Nat.reduceSub,i0,k0,c5o]
  refine⟨fun hk=> ?_,fun hk=> ?_⟩
  ·have hkn:k<(f8 ds 0).length:=by omega
   have hn':=a3Z hkn
   obtain⟨g,hg⟩:∃g,(f8 ds 0).length-k=g+1:=⟨(f8 ds 0).length-k-1,by omega⟩
   rw[U4 hkn hlen,U4 hi hlen,f9 ((i:Int)+1) (by omega) (by omega),f9 ((k:Int)+1) (by omega) (by omega),f9 (((f8 ds 0).length:Int)-1) (by omega) (by omega)]
   rw[hg,a5H] at k2
   have hg':(f8 ds 0).length-(k+1)=g:=by omega
   have N:U8 (f8 ds 0) i k=true→(∃j:Nat,(k:Int)+1=j∧j≤(f8 ds 0).length∧(a5H (f8 ds 0) i ((f8 ds 0).length-j) j&&t7 (f8 ds 0) f (i+1))=t7 (f8 ds 0) (f8 ds 0).length 0)∧(f8 ds 0).length-((k:Int)+1).toNat<(f8 ds 0).length-(k:Int).toNat:=
    fun h=>⟨⟨k+1,rfl,by omega,by rw[hg',←k2,h];rfl⟩,by omega⟩
   have B:U8 (f8 ds 0) i k=false→Value.bool false=Value.bool (t7 (f8 ds 0) (f8 ds 0).length 0):=fun h=>by rw[←k2,h];rfl
   have P1:(k≤i+1∨(i=0∧k+1=(f8 ds 0).length))→U8 (f8 ds 0) i k=true:=fun h=>by unfold U8;rw[decide_eq_true h];rfl
   have P2:¬(k≤i+1∨(i=0∧k+1=(f8 ds 0).length))→U8 (f8 ds 0) i k= !a8m (f8 ds 0) i k:=fun h=>by unfold U8;rw[decide_eq_false h];rfl
   refine⟨by omega,by omega,by omega,by omega,by omega,fun a=>N (P1 (by omega)),fun a=>⟨fun b=>⟨fun c=>N (P1 (by omega)),fun c=>⟨fun d=>B ?_,fun d=>N ?_⟩⟩,fun b=>⟨fun d=>B ?_,fun d=>N ?_⟩⟩⟩
   all_goals (rw[P2 (by omega)];unfold a8m;rw[d];rfl)
  ·rw[if_neg (by decide)]
   have:(f8 ds 0).length-k=0:=by omega
   rw[this,a5H,Bool.true_and] at k2
   rw[f9 ((i:Int)+1) (by omega) (by omega)]
   exact⟨⟨i+1,rfl,by omega,by rw[hf'];exact k2⟩,by omega⟩
 ·have:(f8 ds 0).length-i=0:=by omega
  rw[this,t7] at i2
  rw[←i2]
def a0j(ds:List D):Bool:=t7 (f8 ds 0) (f8 ds 0).length 0
def a1C(ds:List D):Int:=C8 (f8 ds 0) (f8 ds 0).length 0 0
def c2a(ds:List D):Int:=a8Z (f8 ds 0) (a9 ds 1) (a9 ds 2) (f8 ds 0).length 0 false
def K9:Interp where
 fi n l:=match n with | 65=>a1C l | 67=>c2a l | n=>K8.fi n l
 fb n l:=match n with | 66=>a0j l | n=>K8.fb n l
 fd _ _:=[]
def b0u:=o9 [S7] fun al=> .ret (bV (bF 66 a0j al))
def b5F:=o9 [S7] fun al=> .ret (iV .i64 (iF 65 a1C al))
section
variable {ρ:Env} (h:Sees ρ K9 68)
include h
theorem b2N:i4 Tryz.prog ρ 149 b0u:=
 j4 b9T (fun _=>rfl) (fun al=>by simp only[bV,V.s0,V.val,V2.val,S.val,S0.val,o8 (s:=66) (f:=a0j) (fun l=>by rw[(h 66 l (by decide)).2];simp only[K9])];rfl)
theorem b5X:i4 Tryz.prog ρ 150 b5F:=
 j4 c3x (fun _=>rfl) (fun al=>by simp only[iV,V.s0,V.val,V2.val,S.val,S0.val,O7 (s:=65) (f:=a1C) (fun l=>by rw[(h 65 l (by decide)).1];simp only[K9])];rfl)
theorem c5t:Sees ρ K8 65:=h.trans (by decide) fun n l hn=>by
 constructor
 ·simp only[K9]
  split<;>first | omega | rfl
 ·simp only[K9]
  split<;>first | omega | rfl
end
end Go.Proofs.YtbbjlleaofgddaaGreat
namespace Go.Proofs.YtbbjlleaofgddaaGreat
open Go.RowKit
def ct9:Ct:=(149,b0u)::(150,b5F)::a9f
def a5o:TT i8:=
(.ite (.cmp .lss (.var 0) (.var 2))
 (.ite (.cmp .lss (.var 1) (.var 3))
 (.ret ((.v (.one (.z (.int .i64 (.lit (-1)))))),[],3))
 (.ite (.cmp .gtr (.var 1) (.var 3))
 (.ret ((.v (.one (.z (.int .i64 (.lit (-1)))))),[],3))
 (.ret ((.v (.one (.z (.int .i64 (.lit (-1)))))),[],3))))
 (.ite (.cmp .gtr (.var 0) (.var 2))
 (.ite (.cmp .lss (.var 1) (.var 3))
 (.ret ((.v (.one (.z (.int .i64 (.lit 1))))),[],3))
 (.ite (.cmp .gtr (.var 1) (.var 3))
 (.ret ((.v (.one (.z (.int .i64 (.lit 1))))),[],3))
 (.ret ((.v (.one (.z (.int .i64 (.lit 1))))),[],3))))
 (.ite (.cmp .lss (.var 1) (.var 3))
 (.ret ((.v (.one (.z (.int .i64 (.lit (-1)))))),[],3))
 (.ite (.cmp .gtr (.var 1) (.var 3))
 (.ret ((.v (.one (.z (.int .i64 (.lit 1))))),[],3))
 (.ret ((.v (.one (.z (.int .i64 (.lit 0))))),[],3))))))
set_option maxRecDepth 100000 in
theorem b1I:T.norm 0 (call Tryz.prog a9f (Lt.of []) 100 146 (i5 0 [pt,pt]) [] 0) TT.ret=a5o:=by kernel_rfl
theorem a9R:a5o.low 1000=true:=by kernel_rfl
def a4F(ax ay bx by':Int):Int:=if ax<bx then -1 else if bx<ax then 1 else if ay<by' then -1 else if by'<ay then 1 else 0
def V5(ds:List D):Int:=a4F (a9 ds 0) (a9 ds 1) (a9 ds 2) (a9 ds 3)
theorem c3w:k8 Tryz.prog 146 [pt,pt] (fun ds=> .int .i64 (V5 ds)):=by
 refine GivesIf.all (i6 K8 (by kernel_rfl) (fun ρ h=>a2n (Sees.of h 65)) (by kernel_rfl) b1I a9R (by decide) (fun W vals ds hr _=> ?_))
 simp only[a5o,g7,Nat.reduceBEq,Nat.reduceLT,Nat.reduceSub]
 simp only[V5,a4F]
 refine⟨fun h=>⟨fun h'=> ?_,fun h'=>⟨fun h''=> ?_,fun h''=> ?_⟩⟩,fun h=>⟨fun a=>⟨fun h'=> ?_,fun h'=>⟨fun h''=> ?_,fun h''=> ?_⟩⟩,fun a=>⟨fun h'=> ?_,fun h'=>⟨fun h''=> ?_,fun h''=> ?_⟩⟩⟩⟩
 all_goals (congr 1;(repeat' split)<;>omega)
def KA:Interp where
 fi n l:=match n with | 68=>V5 l | n=>K9.fi n l
 fb n l:=K9.fb n l
 fd _ _:=[]
def b6v:=o9 [pt,pt] fun al=> .ret (iV .i64 (iF 68 V5 al))
section
variable {ρ:Env} (h:Sees ρ KA 69)
include h
theorem b6n:i4 Tryz.prog ρ 146 b6v:=
 j4 c3w (fun _=>rfl) (fun al=>by simp only[iV,V.s0,V.val,V2.val,S.val,S0.val,O7 (s:=68) (f:=V5) (fun l=>by rw[(h 68 l (by decide)).1];simp only[KA])])
theorem b3J:Sees ρ K9 68:=h.trans (by decide) fun n l hn=>by
 constructor
 ·simp only[KA]
  split<;>first | omega | rfl
 ·rfl
end
def ctA:Ct:=(146,b6v)::ct9
theorem b3X{ρ:Env}(h:Sees ρ KA 69):CtOk Tryz.prog ρ ctA:= .cons (b6n h)<| .cons (b2N (b3J h))<| .cons (b5X (b3J h))<|(a2n (c5t (b3J h)))
end Go.Proofs.YtbbjlleaofgddaaGreat
namespace Go.Proofs.YtbbjlleaofgddaaGreat
open Go.RowKit
def b1H:TT i8:=
(.ite (.cmp .lss (.len (.var 0)) (.lit 3))
 (.ret ((.v (.one (.z (.bool (.lit false))))),[],0))
 (.ite (.cmp .gtr (.len (.var 0)) (.lit 24))
 (.ret ((.v (.one (.z (.bool (.lit false))))),[],0))
 (.loop 0 1000 ⟨[(0,(.lit 0))],[],[]⟩
 (.ite (.cmp .lss (.var 1000) (.len (.var 0)))
 (.ob (.tru (.cmp .leq (.lit 0) (.var 1000)))
 (.ob (.tru (.cmp .lss (.var 1000) (.len (.var 0))))
 (.ite (.not (.fn 3 (.i (.rd (.var 0) (.var 1000) 0) (.i (.rd (.var 0) (.var 1000) 1) .nil))))
 (.ite (.cmp .geq (.var 1000) (.lit 0))
 (.ret ((.v (.one (.z (.bool (.lit false))))),[],2))
 (.loop 1 3000 ⟨[(0,(.lit 0))],[],[]⟩
 (.ite (.cmp .lss (.var 3000) (.len (.var 0)))
 (.ite (.cmp .gtr (.var 3000) (.lit 0))
 (.ob (.tru (.lit true))
 (.ob (.tru (.cmp .lss (.lit 0) (.len (.var 0))))
 (.ob (.tru (.cmp .leq (.lit 0) (.var 3000)))
 (.ob (.tru (.cmp .lss (.var 3000) (.len (.var 0))))
 (.ite (.cmp .geq (.fn 68 (.i (.rd (.var 0) (.lit 0) 0) (.i (.rd (.var 0) (.lit 0) 1) (.i (.rd (.var 0) (.var 3000) 0) (.i (.rd (.var 0) (.var 3000) 1) .nil))))) (.lit 0))
 (.ret ((.v (.one (.z (.bool (.lit false))))),[],8))
 (.ob (.tru (.cmp .neq (.len (.var 0)) (.lit 0)))
 (.ob (.tru (.cmp .leq (.lit 0) (.ar .rem .i64 (.ar .add .i64 (.ar .sub .i64 (.var 3000) (.lit 1)) (.len (.var 0))) (.len (.var 0)))))
 (.ob (.tru (.cmp .lss (.ar .rem .i64 (.ar .add .i64 (.ar .sub .i64 (.var 3000) (.lit 1)) (.len (.var 0))) (.len (.var 0))) (.len (.var 0))))
 (.ob (.tru (.cmp .leq (.lit 0) (.var 3000)))
 (.ob (.tru (.cmp .lss (.var 3000) (.len (.var 0))))
 (.ob (.tru (.cmp .neq (.len (.var 0)) (.lit 0)))
 (.ob (.tru (.cmp .leq (.lit 0) (.ar .rem .i64 (.ar .add .i64 (.ar .add .i64 (.var 3000) (.lit 1)) (.len (.var 0))) (.len (.var 0)))))
 (.ob (.tru (.cmp .lss (.ar .rem .i64 (.ar .add .i64 (.ar .add .i64 (.var 3000) (.lit 1)) (.len (.var 0))) (.len (.var 0))) (.len (.var 0))))
 (.ite (.cmp .eql (.fn 15 (.i (.rd (.var 0) (.ar .rem .i64 (.ar .add .i64 (.ar .sub .i64 (.var 3000) (.lit 1)) (.len (.var 0))) (.len (.var 0))) 0) (.i (.rd (.var 0) (.ar .rem .i64 (.ar .add .i64 (.ar .sub .i64 (.var 3000) (.lit 1)) (.len (.var 0))) (.len (.var 0))) 1) (.i (.rd (.var 0) (.var 3000) 0) (.i (.rd (.var 0) (.var 3000) 1) (.i (.rd (.var 0) (.ar .rem .i64 (.ar .add .i64 (.ar .add .i64 (.var 3000) (.lit 1)) (.len (.var 0))) (.len (.var 0))) 0) (.i (.rd (.var 0) (.ar .rem .i64 (.ar .add .i64 (.ar .add .i64 (.var 3000) (.lit 1)) (.len (.var 0))) (.len (.var 0))) 1) .nil))))))) (.lit 0))
 (.ret ((.v (.one (.z (.bool (.lit false))))),[],8))
 (.next 1 ⟨[(0,(.ar .add .i64 (.var 3000) (.lit 1)))],[],[]⟩)))))))))))))))
 (.ob (.tru (.cmp .neq (.len (.var 0)) (.lit 0)))
 (.ob (.tru (.cmp .leq (.lit 0) (.ar .rem .i64 (.ar .add .i64 (.ar .sub .i64 (.var 3000) (.lit 1)) (.len (.var 0))) (.len (.var 0)))))
 (.ob (.tru (.cmp .lss (.ar .rem .i64 (.ar .add .i64 (.ar .sub .i64 (.var 3000) (.lit 1)) (.len (.var 0))) (.len (.var 0))) (.len (.var 0))))
 (.ob (.tru (.cmp .leq (.lit 0) (.var 3000)))
 (.ob (.tru (.cmp .lss (.var 3000) (.len (.var 0))))
 (.ob (.tru (.cmp .neq (.len (.var 0)) (.lit 0)))
 (.ob (.tru (.cmp .leq (.lit 0) (.ar .rem .i64 (.ar .add .i64 (.ar .add .i64 (.var 3000) (.lit 1)) (.len (.var 0))) (.len (.var 0)))))
 (.ob (.tru (.cmp .lss (.ar .rem .i64 (.ar .add .i64 (.ar .add .i64 (.var 3000) (.lit 1)) (.len (.var 0))) (.len (.var 0))) (.len (.var 0))))
 (.ite (.cmp .eql (.fn 15 (.i (.rd (.var 0) (.ar .rem .i64 (.ar .add .i64 (.ar .sub .i64 (.var 3000) (.lit 1)) (.len (.var 0))) (.len (.var 0))) 0) (.i (.rd (.var 0) (.ar .rem .i64 (.ar .add .i64 (.ar .sub .i64 (.var 3000) (.lit 1)) (.len (.var 0))) (.len (.var 0))) 1) (.i (.rd (.var 0) (.var 3000) 0) (.i (.rd (.var 0) (.var 3000) 1) (.i (.rd (.var 0) (.ar .rem .i64 (.ar .add .i64 (.ar .add .i64 (.var 3000) (.lit 1)) (.len (.var 0))) (.len (.var 0))) 0) (.i (.rd (.var 0) (.ar .rem .i64 (.ar .add .i64 (.ar .add .i64 (.var 3000) (.lit 1)) (.len (.var 0))) (.len (.var 0))) 1) .nil))))))) (.lit 0))
 (.ret ((.v (.one (.z (.bool (.lit false))))),[],8))
 (.next 1 ⟨[(0,(.ar .add .i64 (.var 3000) (.lit 1)))],[],[]⟩)))))))))))
 (.ite (.fn 66 (.x (.var 0) .nil))
 (.ret ((.v (.one (.z (.bool (.cmp .gtr (.fn 65 (.x (.var 0) .nil)) (.lit 0)))))),[],8))
 (.ret ((.v (.one (.z (.bool (.lit false))))),[],8))))))
 (.next 0 ⟨[(0,(.ar .add .i64 (.var 1000) (.lit 1)))],[],[]⟩))))
 (.loop 1 3000 ⟨[(0,(.lit 0))],[],[]⟩
 (.ite (.cmp .lss (.var 3000) (.len (.var 0)))
 (.ite (.cmp .gtr (.var 3000) (.lit 0))
 (.ob (.tru (.lit true))
 (.ob (.tru (.cmp .lss (.lit 0) (.len (.var 0))))
 (.ob (.tru (.cmp .leq (.lit 0) (.var 3000)))
 (.ob (.tru (.cmp .lss (.var 3000) (.len (.var 0))))
 (.ite (.cmp .geq (.fn 68 (.i (.rd (.var 0) (.lit 0) 0) (.i (.rd (.var 0) (.lit 0) 1) (.i (.rd (.var 0) (.var 3000) 0) (.i (.rd (.var 0) (.var 3000) 1) .nil))))) (.lit 0))
 (.ret ((.v (.one (.z (.bool (.lit false))))),[],8))
 (.ob (.tru (.cmp .neq (.len (.var 0)) (.lit 0)))
 (.ob (.tru (.cmp .leq (.lit 0) (.ar .rem .i64 (.ar .add .i64 (.ar .sub .i64 (.var 3000) (.lit 1)) (.len (.var 0))) (.len (.var 0)))))
 (.ob (.tru (.cmp .lss (.ar .rem .i64 (.ar .add .i64 (.ar .sub .i64 (.var 3000) (.lit 1)) (.len (.var 0))) (.len (.var 0))) (.len (.var 0))))
 (.ob (.tru (.cmp .leq (.lit 0) (.var 3000)))
 (.ob (.tru (.cmp .lss (.var 3000) (.len (.var 0))))
 (.ob (.tru (.cmp .neq (.len (.var 0)) (.lit 0)))
 (.ob (.tru (.cmp .leq (.lit 0) (.ar .rem .i64 (.ar .add .i64 (.ar .add .i64 (.var 3000) (.lit 1)) (.len (.var 0))) (.len (.var 0)))))
 (.ob (.tru (.cmp .lss (.ar .rem .i64 (.ar .add .i64 (.ar .add .i64 (.var 3000) (.lit 1)) (.len (.var 0))) (.len (.var 0))) (.len (.var 0))))
 (.ite (.cmp .eql (.fn 15 (.i (.rd (.var 0) (.ar .rem .i64 (.ar .add .i64 (.ar .sub .i64 (.var 3000) (.lit 1)) (.len (.var 0))) (.len (.var 0))) 0) (.i (.rd (.var 0) (.ar .rem .i64 (.ar .add .i64 (.ar .sub .i64 (.var 3000) (.lit 1)) (.len (.var 0))) (.len (.var 0))) 1) (.i (.rd (.var 0) (.var 3000) 0) (.i (.rd (.var 0) (.var 3000) 1) (.i (.rd (.var 0) (.ar .rem .i64 (.ar .add .i64 (.ar .add .i64 (.var 3000) (.lit 1)) (.len (.var 0))) (.len (.var 0))) 0) (.i (.rd (.var 0) (.ar .rem .i64 (.ar .add .i64 (.ar .add .i64 (.var 3000) (.lit 1)) (.len (.var 0))) (.len (.var 0))) 1) .nil))))))) (.lit 0))
 (.ret ((.v (.one (.z (.bool (.lit false))))),[],8))
 (.next 1 ⟨[(0,(.ar .add .i64 (.var 3000) (.lit 1)))],[],[]⟩)))))))))))))))
 (.ob (.tru (.cmp .neq (.len (.var 0)) (.lit 0)))
 (.ob (.tru (.cmp .leq (.lit 0) (.ar .rem .i64 (.ar .add .i64 (.ar .sub .i64 (.var 3000) (.lit 1)) (.len (.var 0))) (.len (.var 0)))))
 (.ob (.tru (.cmp .lss (.ar .rem .i64 (.ar .add .i64 (.ar .sub .i64 (.var 3000) (.lit 1)) (.len (.var 0))) (.len (.var 0))) (.len (.var 0))))
 (.ob (.tru (.cmp .leq (.lit 0) (.var 3000)))
 (.ob (.tru (.cmp .lss (.var 3000) (.len (.var 0))))
 (.ob (.tru (.cmp .neq (.len (.var 0)) (.lit 0)))
 (.ob (.tru (.cmp .leq (.lit 0) (.ar .rem .i64 (.ar .add .i64 (.ar .add .i64 (.var 3000) (.lit 1)) (.len (.var 0))) (.len (.var 0)))))
 (.ob (.tru (.cmp .lss (.ar .rem .i64 (.ar .add .i64 (.ar .add .i64 (.var 3000) (.lit 1)) (.len (.var 0))) (.len (.var 0))) (.len (.var 0))))
 (.ite (.cmp .eql (.fn 15 (.i (.rd (.var 0) (.ar .rem .i64 (.ar .add .i64 (.ar .sub .i64 (.var 3000) (.lit 1)) (.len (.var 0))) (.len (.var 0))) 0) (.i (.rd (.var 0) (.ar .rem .i64 (.ar .add .i64 (.ar .sub .i64 (.var 3000) (.lit 1)) (.len (.var 0))) (.len (.var 0))) 1) (.i (.rd (.var 0) (.var 3000) 0) (.i (.rd (.var 0) (.var 3000) 1) (.i (.rd (.var 0) (.ar .rem .i64 (.ar .add .i64 (.ar .add .i64 (.var 3000) (.lit 1)) (.len (.var 0))) (.len (.var 0))) 0) (.i (.rd (.var 0) (.ar .rem .i64 (.ar .add .i64 (.ar .add .i64 (.var 3000) (.lit 1)) (.len (.var 0))) (.len (.var 0))) 1) .nil))))))) (.lit 0))
 (.ret ((.v (.one (.z (.bool (.lit false))))),[],8))
 (.next 1 ⟨[(0,(.ar .add .i64 (.var 3000) (.lit 1)))],[],[]⟩)))))))))))
 (.ite (.fn 66 (.x (.var 0) .nil))
 (.ret ((.v (.one (.z (.bool (.cmp .gtr (.fn 65 (.x (.var 0) .nil)) (.lit 0)))))),[],8))
 (.ret ((.v (.one (.z (.bool (.lit false))))),[],8)))))))))
set_option maxRecDepth 100000 in
theorem b7v:T.norm 0 (call Tryz.prog ctA (Lt.of []) 100 135 (i5 0 [S7]) [] 0) TT.ret=b1H:=by kernel_rfl
theorem b3U:b1H.low 1000=true:=by kernel_rfl
def prv(n i:Nat):Nat:=if i=0 then n-1 else i-1
theorem c3Y{n i:Nat}(h:i<n):prv n i<n:=by unfold prv;split<;>omega
theorem b6O{n i:Nat}(h:i<n)(hn:n≤281474976710656):(IntKind.i64.wrap (IntKind.i64.wrap ((i:Int)-1)+(n:Int))).tmod (n:Int)=(prv n i:Int):=by
 rw[f9 ((i:Int)-1) (by omega) (by omega),f9 _ (by omega) (by omega)]
 rw[Int.tmod_eq_emod_of_nonneg (by omega)]
 unfold prv
 split
 ·rename_i h1
  rw[Int.emod_eq_of_lt (by omega) (by omega)]
  omega
 ·rw[Int.add_emod_right,Int.emod_eq_of_lt (by omega) (by omega)]
  omega
def plN(r:Rows):Nat→Nat→Bool
 | 0,_=>true
 | f+1,i=>j8 (lg r i 0) (lg r i 1)&&plN r f (i+1)
def R8(r:Rows)(i:Nat):Bool:=
 !(decide (0<i)&&decide (0≤a4F (lg r 0 0) (lg r 0 1) (lg r i 0) (lg r i 1)))&&
 !decide (O8 [.i (lg r (prv r.length i) 0),.i (lg r (prv r.length i) 1),.i (lg r i 0),.i (lg r i 1),.i (lg r (nxt r.length i) 0),.i (lg r (nxt r.length i) 1)]=0)
def a0w(r:Rows):Nat→Nat→Bool
 | 0,_=>true
 | f+1,i=>R8 r i&&a0w r f (i+1)
def H7(r:Rows):Bool:=decide (3≤r.length∧r.length≤24)&&(plN r r.length 0&&(a0w r r.length 0&&(t7 r r.length 0&&decide (0<C8 r r.length 0 0))))
def X4(ds:List D):Bool:=H7 (f8 ds 0)
section
variable (W:World) (ds l:List D)
theorem c1S:(g8 KA W ds).fb 3 l=z7 l:=by simp only[g8,KA,K9,K8,K7,K6,K5,K]
theorem b9l:(g8 KA W ds).fi 15 l=O8 l:=by simp only[g8,KA,K9,K8,K7,K6,K5,K]
theorem b9a:(g8 KA W ds).fi 68 l=V5 l:=by simp only[g8,KA]
theorem b8Y:(g8 KA W ds).fb 66 l=a0j l:=by simp only[g8,KA,K9]
theorem b9I:(g8 KA W ds).fi 65 l=a1C l:=by simp only[g8,KA,K9]
end
theorem a3Y(a b c d:Int):V5 [.i a,.i b,.i c,.i d]=a4F a b c d:=rfl
theorem a3O(r:Rows):a0j [.l r]=t7 r r.length 0:=rfl
theorem a6l(r:Rows):a1C [.l r]=C8 r r.length 0 0:=rfl
theorem a1z(a b:Int):z7 [.i a,.i b]=j8 a b:=rfl
theorem c6d:k8 Tryz.prog 135 [S7] (fun ds=> .bool (X4 ds)):=by
 refine GivesIf.all (i6 KA (by kernel_rfl) (fun ρ h=>b3X (Sees.of h 69)) (by kernel_rfl) b7v b3U (by decide) (fun W vals ds hr _=> ?_))
 have hlen:=a5b hr
 simp only[b1H,g7,Nat.reduceBEq,Nat.reduceLT,Nat.reduceSub]
 generalize hr0:f8 ds 0=r at hlen ⊢
 have hP:X4 ds=H7 r:=by rw[X4,hr0]
 rw[hP]
 refine⟨fun h=> ?_,fun h1=>⟨fun h=> ?_,fun h2=> ?_⟩⟩
 ·rw[H7,decide_eq_false (by omega)];rfl
 ·rw[H7,decide_eq_false (by omega)];rfl
 have hd:decide (3≤r.length∧r.length≤24)=true:=decide_eq_true (by omega)
 refine TT.sat_loop (fun v=>∃i:Nat,v.i 0=i∧i≤r.length∧(plN r (r.length-i) i&&(a0w r r.length 0&&(t7 r r.length 0&&decide (0<C8 r r.length 0 0))))=H7 r) (fun v=>r.length-(v.i 0).toNat)
  ⟨0,by simp [o6,j6,E.ev],by omega,by rw[H7,hd];rfl⟩ (fun v hv=> ?_)
 obtain⟨i,i0,i1,i2⟩:=hv
 simp only[g7,Nat.reduceBEq,Nat.reduceLT,Nat.reduceSub,i0,hr0,c1S,b9l,b9a,b8Y,b9I,a3Y,a1z,a3O,a6l]
 refine⟨fun hc=> ?_,fun hc=> ?_⟩
 ·have hi:i<r.length:=by omega
  obtain⟨f,hf⟩:∃f,r.length-i=f+1:=⟨r.length-i-1,by omega⟩
  rw[hf,plN] at i2
  refine⟨by omega,by omega,fun p=>⟨fun q=> ?_,fun q=>absurd (show(0:Int)≤i by omega) q⟩,fun p=>⟨⟨i+1,?_,by omega,?_⟩,?_⟩⟩
  ·rw[←i2,p];rfl
  ·rw[f9 _ (by omega) (by omega)];rfl
  ·rw[show r.length-(i+1)=f by omega,←i2,p];rfl
  ·rw[f9 _ (by omega) (by omega)];omega
 ·have:r.length-i=0:=by omega
  rw[this,plN,Bool.true_and] at i2
  refine TT.sat_loop (fun v=>∃j:Nat,v.i 0=j∧j≤r.length∧(a0w r (r.length-j) j&&(t7 r r.length 0&&decide (0<C8 r r.length 0 0)))=H7 r) (fun v=>r.length-(v.i 0).toNat)
   ⟨0,by simp [o6,j6,E.ev],by omega,i2⟩ (fun u hu=> ?_)
  obtain⟨j,j0,j1,j2⟩:=hu
  simp only[g7,Nat.reduceBEq,Nat.reduceLT,Nat.reduceSub,j0,hr0,c1S,b9l,b9a,b8Y,b9I,a3Y,a1z,a3O,a6l]
  refine⟨fun hc=> ?_,fun hc=> ?_⟩
  ·have hj:j<r.length:=by omega
   have hn:=a3Z hj
   have hp:=c3Y hj
   obtain⟨f,hf⟩:∃f,r.length-j=f+1:=⟨r.length-j-1,by omega⟩
   rw[hf,a0w] at j2
   have M:r.length-(IntKind.i64.wrap ((j:Int)+1)).toNat<r.length-(j:Int).toNat:=by rw[f9 _ (by omega) (by omega)];omega
   have N:R8 r j=true→(∃k:Nat,IntKind.i64.wrap ((j:Int)+1)=k∧k≤r.length∧(a0w r (r.length-k) k&&(t7 r r.length 0&&decide (0<C8 r r.length 0 0)))=H7 r):=
    fun h=>⟨j+1,by rw[f9 _ (by omega) (by omega)];rfl,by omega,by rw[show r.length-(j+1)=f by omega,←j2,h];rfl⟩
   have F:R8 r j=false→Value.bool false=Value.bool (H7 r):=fun h=>by rw[←j2,h];rfl
   simp only[b6O hj hlen,U4 hj hlen]
   refine⟨fun a=>⟨by omega,by omega,by omega,fun b=>F ?_,fun b=>⟨by omega,by omega,by omega,by omega,by omega,by omega,by omega,by omega,fun c=>F ?_,fun c=>⟨N ?_,M⟩⟩⟩,fun a=>⟨by omega,by omega,by omega,by omega,by omega,by omega,by omega,by omega,fun c=>F ?_,fun c=>⟨N ?_,M⟩⟩⟩
   ·rw[R8,decide_eq_true (p:=0<j) (by omega),decide_eq_true b];rfl
   ·rw[R8,decide_eq_true c];simp
   ·rw[R8,decide_eq_false c,decide_eq_false b];simp
   ·rw[R8,decide_eq_true c];simp
   ·rw[R8,decide_eq_false c,decide_eq_false (p:=0<j) (by omega)];rfl
  ·have:r.length-j=0:=by omega
   rw[this,a0w,Bool.true_and] at j2
   refine⟨fun h=> ?_,fun h=> ?_⟩
   ·rw[←j2,h,Bool.true_and]
    congr 1
   ·rw[←j2,h];rfl
def KB:Interp where
 fi n l:=KA.fi n l
 fb n l:=match n with | 69=>X4 l | n=>KA.fb n l
 fd _ _:=[]
theorem c5i{ρ:Env}(h:Sees ρ KB 70):Sees ρ KA 69:=h.trans (by decide) fun n l hn=>by
 refine⟨?_,?_⟩
 ·
  rfl
 ·
  simp only[KB]
  split<;>first | omega | rfl
def c1E:=o9 [S7] fun al=> .ret (bV (bF 69 X4 al))
theorem c0a{ρ:Env}(h:Sees ρ KB 70):i4 Tryz.prog ρ 135 c1E:=
 j4 c6d (fun _=>rfl) (fun al=>by simp only[iV,bV,V.s0,V.val,V2.val,S.val,S0.val,o8 (s:=69) (f:=X4) (fun l=>by rw[(h 69 l (by decide)).2];simp only[KB])];try rfl)
def ctB:Ct:=(135,c1E)::ctA
theorem a8V{ρ:Env}(h:Sees ρ KB 70):CtOk Tryz.prog ρ ctB:= .cons (c0a h) (b3X (c5i h))
end Go.Proofs.YtbbjlleaofgddaaGreat
