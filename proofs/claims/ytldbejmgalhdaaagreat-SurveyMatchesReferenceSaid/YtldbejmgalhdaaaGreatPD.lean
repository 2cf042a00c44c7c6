/- PD, merged: TP8, P8, P9. -/
import Derived.Test.YtldbejmgalhdaaaGreatPC
set_option linter.unusedSimpArgs false
set_option linter.unusedVariables false
namespace Go.Proofs.YtldbejmgalhdaaaGreat
open Go.RowKit
def d8B:V:= .v (.one (.z (.own 0 (.lit 0))))
def d8A:Mem:=[(0,.own 59 r6 (.var 0) (.lit 0))]
def b0Q:TT j6:=
(.loop 0 3000 ⟨[(0,(.lit 0)),(2,(.lit 0)),(0,(.lit 0))],[],[(1,.nil)]⟩
 (.ite (.cmp .lss (.var 3002) (.len (.var 0)))
 (.ob (.tru (.cmp .leq (.lit 0) (.var 3002)))
 (.ob (.tru (.cmp .lss (.var 3002) (.len (.var 0))))
 (.ite (.cmp .lss (.rd (.var 0) (.var 3002) 0) (.var 1))
 (.ob (.tru (.cmp .leq (.lit 0) (.var 3002)))
 (.ob (.tru (.cmp .lss (.var 3002) (.len (.var 0))))
 (.ob (.tru (.cmp .leq (.len (.app (.var 3001) (.app (.row (.i (.rd (.var 0) (.var 3002) 0) (.i (.rd (.var 0) (.var 3002) 1) (.i (.rd (.var 0) (.var 3002) 2) (.i (.rd (.var 0) (.var 3002) 3) (.i (.rd (.var 0) (.var 3002) 4) (.x (.rd (.var 0) (.var 3002) 5) (.i (.rd (.var 0) (.var 3002) 6) (.i (.rd (.var 0) (.var 3002) 7) (.x (.rd (.var 0) (.var 3002) 8) .nil)))))))))) .nil))) (.lit 1000000)))
 (.next 0 ⟨[(0,(.plus (.var 3000) (.lit 1))),(2,(.ar .add .i64 (.var 3002) (.lit 1))),(0,(.plus (.var 3000) (.lit 1)))],[],[(1,(.app (.var 3001) (.app (.row (.i (.rd (.var 0) (.var 3002) 0) (.i (.rd (.var 0) (.var 3002) 1) (.i (.rd (.var 0) (.var 3002) 2) (.i (.rd (.var 0) (.var 3002) 3) (.i (.rd (.var 0) (.var 3002) 4) (.x (.rd (.var 0) (.var 3002) 5) (.i (.rd (.var 0) (.var 3002) 6) (.i (.rd (.var 0) (.var 3002) 7) (.x (.rd (.var 0) (.var 3002) 8) .nil)))))))))) .nil)))]⟩))))
 (.ob (.tru (.cmp .leq (.len (.app (.var 3001) (.app (.row (.i (.var 1) (.i (.var 2) (.i (.var 3) (.i (.var 4) (.i (.var 5) (.x (.var 6) (.i (.var 7) (.i (.var 8) (.x (.var 9) .nil)))))))))) .nil))) (.lit 1000000)))
 (.loop 1 7000 ⟨[(0,(.plus (.var 3000) (.lit 1))),(1,(.var 3002)),(0,(.plus (.var 3000) (.lit 1)))],[],[(2,(.app (.var 3001) (.app (.row (.i (.var 1) (.i (.var 2) (.i (.var 3) (.i (.var 4) (.i (.var 5) (.x (.var 6) (.i (.var 7) (.i (.var 8) (.x (.var 9) .nil)))))))))) .nil)))]⟩
 (.ite (.cmp .lss (.var 7001) (.len (.var 0)))
 (.ob (.tru (.cmp .leq (.lit 0) (.var 7001)))
 (.ob (.tru (.cmp .lss (.var 7001) (.len (.var 0))))
 (.ite (.cmp .neq (.rd (.var 0) (.var 7001) 0) (.var 1))
 (.ob (.tru (.cmp .leq (.lit 0) (.var 7001)))
 (.ob (.tru (.cmp .lss (.var 7001) (.len (.var 0))))
 (.ob (.tru (.cmp .leq (.len (.app (.var 7002) (.app (.row (.i (.rd (.var 0) (.var 7001) 0) (.i (.rd (.var 0) (.var 7001) 1) (.i (.rd (.var 0) (.var 7001) 2) (.i (.rd (.var 0) (.var 7001) 3) (.i (.rd (.var 0) (.var 7001) 4) (.x (.rd (.var 0) (.var 7001) 5) (.i (.rd (.var 0) (.var 7001) 6) (.i (.rd (.var 0) (.var 7001) 7) (.x (.rd (.var 0) (.var 7001) 8) .nil)))))))))) .nil))) (.lit 1000000)))
 (.next 1 ⟨[(0,(.plus (.var 7000) (.lit 1))),(1,(.ar .add .i64 (.var 7001) (.lit 1))),(0,(.plus (.var 7000) (.lit 1)))],[],[(2,(.app (.var 7002) (.app (.row (.i (.rd (.var 0) (.var 7001) 0) (.i (.rd (.var 0) (.var 7001) 1) (.i (.rd (.var 0) (.var 7001) 2) (.i (.rd (.var 0) (.var 7001) 3) (.i (.rd (.var 0) (.var 7001) 4) (.x (.rd (.var 0) (.var 7001) 5) (.i (.rd (.var 0) (.var 7001) 6) (.i (.rd (.var 0) (.var 7001) 7) (.x (.rd (.var 0) (.var 7001) 8) .nil)))))))))) .nil)))]⟩))))
 (.next 1 ⟨[(0,(.var 7000)),(1,(.ar .add .i64 (.var 7001) (.lit 1))),(0,(.var 7000))],[],[(2,(.var 7002))]⟩))))
 (.ret ((.v (.one (.z (.own 3 (.var 7000))))),[(3,(.own 59 r6 (.var 7002) (.var 7000))),(3,(.own 59 r6 (.app (.var 3001) (.app (.row (.i (.var 1) (.i (.var 2) (.i (.var 3) (.i (.var 4) (.i (.var 5) (.x (.var 6) (.i (.var 7) (.i (.var 8) (.x (.var 9) .nil)))))))))) .nil)) (.plus (.var 3000) (.lit 1)))),(3,(.own 59 r6 (.var 3001) (.var 3000)))],8))))))))
 (.ob (.tru (.cmp .leq (.len (.app (.var 3001) (.app (.row (.i (.var 1) (.i (.var 2) (.i (.var 3) (.i (.var 4) (.i (.var 5) (.x (.var 6) (.i (.var 7) (.i (.var 8) (.x (.var 9) .nil)))))))))) .nil))) (.lit 1000000)))
 (.loop 1 7000 ⟨[(0,(.plus (.var 3000) (.lit 1))),(1,(.var 3002)),(0,(.plus (.var 3000) (.lit 1)))],[],[(2,(.app (.var 3001) (.app (.row (.i (.var 1) (.i (.var 2) (.i (.var 3) (.i (.var 4) (.i (.var 5) (.x (.var 6) (.i (.var 7) (.i (.var 8) (.x (.var 9) .nil)))))))))) .nil)))]⟩
 (.ite (.cmp .lss (.var 7001) (.len (.var 0)))
 (.ob (.tru (.cmp .leq (.lit 0) (.var 7001)))
 (.ob (.tru (.cmp .lss (.var 7001) (.len (.var 0))))
 (.ite (.cmp .neq (.rd (.var 0) (.var 7001) 0) (.var 1))
 (.ob (.tru (.cmp .leq (.lit 0) (.var 7001)))
 (.ob (.tru (.cmp .lss (.var 7001) (.len (.var 0))))
 (.ob (.tru (.cmp .leq (.len (.app (.var 7002) (.app (.row (.i (.rd (.var 0) (.var 7001) 0) (.i (.rd (.var 0) (.var 7001) 1) (.i (.rd (.var 0) (.var 7001) 2) (.i (.rd (.var 0) (.var 7001) 3) (.i (.rd (.var 0) (.var 7001) 4) (.x (.rd (.var 0) (.var 7001) 5) (.i (.rd (.var 0) (.var 7001) 6) (.i (.rd (.var 0) (.var 7001) 7) (.x (.rd (.var 0) (.var 7001) 8) .nil)))))))))) .nil))) (.lit 1000000)))
 (.next 1 ⟨[(0,(.plus (.var 7000) (.lit 1))),(1,(.ar .add .i64 (.var 7001) (.lit 1))),(0,(.plus (.var 7000) (.lit 1)))],[],[(2,(.app (.var 7002) (.app (.row (.i (.rd (.var 0) (.var 7001) 0) (.i (.rd (.var 0) (.var 7001) 1) (.i (.rd (.var 0) (.var 7001) 2) (.i (.rd (.var 0) (.var 7001) 3) (.i (.rd (.var 0) (.var 7001) 4) (.x (.rd (.var 0) (.var 7001) 5) (.i (.rd (.var 0) (.var 7001) 6) (.i (.rd (.var 0) (.var 7001) 7) (.x (.rd (.var 0) (.var 7001) 8) .nil)))))))))) .nil)))]⟩))))
 (.next 1 ⟨[(0,(.var 7000)),(1,(.ar .add .i64 (.var 7001) (.lit 1))),(0,(.var 7000))],[],[(2,(.var 7002))]⟩))))
 (.ret ((.v (.one (.z (.own 3 (.var 7000))))),[(3,(.own 59 r6 (.var 7002) (.var 7000))),(3,(.own 59 r6 (.app (.var 3001) (.app (.row (.i (.var 1) (.i (.var 2) (.i (.var 3) (.i (.var 4) (.i (.var 5) (.x (.var 6) (.i (.var 7) (.i (.var 8) (.x (.var 9) .nil)))))))))) .nil)) (.plus (.var 3000) (.lit 1)))),(3,(.own 59 r6 (.var 3001) (.var 3000)))],8)))))))
set_option maxRecDepth 100000 in
theorem c2R:T.norm 0 (call Tryz.prog c8z (Lt.of []) 150 65 (i6 0 [B7,v5]) [] 1) TT.ret=b0Q:=by kernel_rfl
theorem b8I:b0Q.low 1000=true:=by kernel_rfl
def b0u:TT j6:=
(.loop 0 3000 ⟨[(0,(.lit 0)),(2,(.lit 0)),(0,(.lit 0))],[],[(1,.nil)]⟩
 (.ite (.cmp .lss (.var 3002) (.len (.var 0)))
 (.ob (.tru (.cmp .leq (.lit 0) (.var 3002)))
 (.ob (.tru (.cmp .lss (.var 3002) (.len (.var 0))))
 (.ite (.cmp .lss (.rd (.var 0) (.var 3002) 0) (.var 1))
 (.ob (.tru (.cmp .leq (.lit 0) (.var 3002)))
 (.ob (.tru (.cmp .lss (.var 3002) (.len (.var 0))))
 (.ob (.tru (.cmp .leq (.len (.app (.var 3001) (.app (.row (.i (.rd (.var 0) (.var 3002) 0) (.i (.rd (.var 0) (.var 3002) 1) (.i (.rd (.var 0) (.var 3002) 2) (.i (.rd (.var 0) (.var 3002) 3) (.i (.rd (.var 0) (.var 3002) 4) (.x (.rd (.var 0) (.var 3002) 5) (.i (.rd (.var 0) (.var 3002) 6) (.i (.rd (.var 0) (.var 3002) 7) (.x (.rd (.var 0) (.var 3002) 8) .nil)))))))))) .nil))) (.lit 1000000)))
 (.next 0 ⟨[(0,(.plus (.var 3000) (.lit 1))),(2,(.ar .add .i64 (.var 3002) (.lit 1))),(0,(.plus (.var 3000) (.lit 1)))],[],[(1,(.app (.var 3001) (.app (.row (.i (.rd (.var 0) (.var 3002) 0) (.i (.rd (.var 0) (.var 3002) 1) (.i (.rd (.var 0) (.var 3002) 2) (.i (.rd (.var 0) (.var 3002) 3) (.i (.rd (.var 0) (.var 3002) 4) (.x (.rd (.var 0) (.var 3002) 5) (.i (.rd (.var 0) (.var 3002) 6) (.i (.rd (.var 0) (.var 3002) 7) (.x (.rd (.var 0) (.var 3002) 8) .nil)))))))))) .nil)))]⟩))))
 (.ob (.tru (.cmp .leq (.len (.app (.var 3001) (.app (.row (.i (.var 1) (.i (.var 2) (.i (.var 3) (.i (.var 4) (.i (.var 5) (.x (.var 6) (.i (.var 7) (.i (.var 8) (.x (.var 9) .nil)))))))))) .nil))) (.lit 1000000)))
 (.loop 1 7000 ⟨[(0,(.plus (.var 3000) (.lit 1))),(1,(.var 3002)),(0,(.plus (.var 3000) (.lit 1)))],[],[(2,(.app (.var 3001) (.app (.row (.i (.var 1) (.i (.var 2) (.i (.var 3) (.i (.var 4) (.i (.var 5) (.x (.var 6) (.i (.var 7) (.i (.var 8) (.x (.var 9) .nil)))))))))) .nil)))]⟩
 (.ite (.cmp .lss (.var 7001) (.len (.var 0)))
 (.ob (.tru (.cmp .leq (.lit 0) (.var 7001)))
 (.ob (.tru (.cmp .lss (.var 7001) (.len (.var 0))))
 (.ite (.cmp .neq (.rd (.var 0) (.var 7001) 0) (.var 1))
 (.ob (.tru (.cmp .leq (.lit 0) (.var 7001)))
 (.ob (.tru (.cmp .lss (.var 7001) (.len (.var 0))))
 (.ob (.tru (.cmp .leq (.len (.app (.var 7002) (.app (.row (.i (.rd (.var 0) (.var 7001) 0) (.i (.rd (.var 0) (.var 7001) 1) (.i (.rd (.var 0) (.var 7001) 2) (.i (.rd (.var 0) (.var 7001) 3) (.i (.rd (.var 0) (.var 7001) 4) (.x (.rd (.var 0) (.var 7001) 5) (.i (.rd (.var 0) (.var 7001) 6) (.i (.rd (.var 0) (.var 7001) 7) (.x (.rd (.var 0) (.var 7001) 8) .nil)))))))))) .nil))) (.lit 1000000)))
 (.next 1 ⟨[(0,(.plus (.var 7000) (.lit 1))),(1,(.ar .add .i64 (.var 7001) (.lit 1))),(0,(.plus (.var 7000) (.lit 1)))],[],[(2,(.app (.var 7002) (.app (.row (.i (.rd (.var 0) (.var 7001) 0) (.i (.rd (.var 0) (.var 7001) 1) (.i (.rd (.var 0) (.var 7001) 2) (.i (.rd (.var 0) (.var 7001) 3) (.i (.rd (.var 0) (.var 7001) 4) (.x (.rd (.var 0) (.var 7001) 5) (.i (.rd (.var 0) (.var 7001) 6) (.i (.rd (.var 0) (.var 7001) 7) (.x (.rd (.var 0) (.var 7001) 8) .nil)))))))))) .nil)))]⟩))))
 (.next 1 ⟨[(0,(.var 7000)),(1,(.ar .add .i64 (.var 7001) (.lit 1))),(0,(.var 7000))],[],[(2,(.var 7002))]⟩))))
 (.ret ((.v (.one (.z (.own 3 (.var 7000))))),[(3,(.own 59 r6 (.var 7002) (.var 7000))),(0,(.own 59 r6 (.var 0) (.lit 0))),(3,(.own 59 r6 (.app (.var 3001) (.app (.row (.i (.var 1) (.i (.var 2) (.i (.var 3) (.i (.var 4) (.i (.var 5) (.x (.var 6) (.i (.var 7) (.i (.var 8) (.x (.var 9) .nil)))))))))) .nil)) (.plus (.var 3000) (.lit 1)))),(3,(.own 59 r6 (.var 3001) (.var 3000))),(0,(.own 59 r6 (.var 0) (.lit 0)))],8))))))))
 (.ob (.tru (.cmp .leq (.len (.app (.var 3001) (.app (.row (.i (.var 1) (.i (.var 2) (.i (.var 3) (.i (.var 4) (.i (.var 5) (.x (.var 6) (.i (.var 7) (.i (.var 8) (.x (.var 9) .nil)))))))))) .nil))) (.lit 1000000)))
 (.loop 1 7000 ⟨[(0,(.plus (.var 3000) (.lit 1))),(1,(.var 3002)),(0,(.plus (.var 3000) (.lit 1)))],[],[(2,(.app (.var 3001) (.app (.row (.i (.var 1) (.i (.var 2) (.i (.var 3) (.i (.var 4) (.i (.var 5) (.x (.var 6) (.i (.var 7) (.i (.var 8) (.x (.var 9) .nil)))))))))) .nil)))]⟩
 (.ite (.cmp .lss (.var 7001) (.len (.var 0)))
 (.ob (.tru (.cmp .leq (.lit 0) (.var 7001)))
 (.ob (.tru (.cmp .lss (.var 7001) (.len (.var 0))))
 (.ite (.cmp .neq (.rd (.var 0) (.var 7001) 0) (.var 1))
 (.ob (.tru (.cmp .leq (.lit 0) (.var 7001)))
 (.ob (.tru (.cmp .lss (.var 7001) (.len (.var 0))))
 (.ob (.tru (.cmp .leq (.len (.app (.var 7002) (.app (.row (.i (.rd (.var 0) (.var 7001) 0) (.i (.rd (.var 0) (.var 7001) 1) (.i (.rd (.var 0) (.var 7001) 2) (.i (.rd (.var 0) (.var 7001) 3) (.i (.rd (.var 0) (.var 7001) 4) (.x (.rd (.var 0) (.var 7001) 5) (.i (.rd (.var 0) (.var 7001) 6) (.i (.rd (.var 0) (.var 7001) 7) (.x (.rd (.var 0) (.var 7001) 8) .nil)))))))))) .nil))) (.lit 1000000)))
 (.next 1 ⟨[(0,(.plus (.var 7000) (.lit 1))),(1,(.ar .add .i64 (.var 7001) (.lit 1))),(0,(.plus (.var 7000) (.lit 1)))],[],[(2,(.app (.var 7002) (.app (.row (.i (.rd (.var 0) (.var 7001) 0) (.i (.rd (.var 0) (.var 7001) 1) (.i (.rd (.var 0) (.var 7001) 2) (.i (.rd (.var 0) (.var 7001) 3) (.i (.rd (.var 0) (.var 7001) 4) (.x (.rd (.var 0) (.var 7001) 5) (.i (.rd (.var 0) (.var 7001) 6) (.i (.rd (.var 0) (.var 7001) 7) (.x (.rd (.var 0) (.var 7001) 8) .nil)))))))))) .nil)))]⟩))))
 (.next 1 ⟨[(0,(.var 7000)),(1,(.ar .add .i64 (.var 7001) (.lit 1))),(0,(.var 7000))],[],[(2,(.var 7002))]⟩))))
 (.ret ((.v (.one (.z (.own 3 (.var 7000))))),[(3,(.own 59 r6 (.var 7002) (.var 7000))),(0,(.own 59 r6 (.var 0) (.lit 0))),(3,(.own 59 r6 (.app (.var 3001) (.app (.row (.i (.var 1) (.i (.var 2) (.i (.var 3) (.i (.var 4) (.i (.var 5) (.x (.var 6) (.i (.var 7) (.i (.var 8) (.x (.var 9) .nil)))))))))) .nil)) (.plus (.var 3000) (.lit 1)))),(3,(.own 59 r6 (.var 3001) (.var 3000))),(0,(.own 59 r6 (.var 0) (.lit 0)))],8)))))))
set_option maxRecDepth 100000 in
theorem c1U:T.norm 0 (call Tryz.prog c8z (Lt.of []) 150 65 (d8B::i6 1 [v5]) d8A 1) TT.ret=b0u:=by kernel_rfl
theorem b8P:b0u.low 1000=true:=by kernel_rfl
def c3B(ds:List D):Rows:=M1 (d9 ds 0) [D.i (c9 ds 1),.i (c9 ds 2),.i (c9 ds 3),.i (c9 ds 4),.i (c9 ds 5),.l (d9 ds 6),.i (c9 ds 7),.i (c9 ds 8),.l (d9 ds 9)]
def a5i:NL:= { e:=59,ks:=r6,s:=8,rows:=c3B }
def b5A:TT j6:=
(.loop 1 7000 ⟨[(0,(.plus (.var 3000) (.lit 1))),(1,(.var 3002)),(0,(.plus (.var 3000) (.lit 1)))],[],[(2,(.app (.var 3001) (.app (.row (.i (.var 1) (.i (.var 2) (.i (.var 3) (.i (.var 4) (.i (.var 5) (.x (.var 6) (.i (.var 7) (.i (.var 8) (.x (.var 9) .nil)))))))))) .nil)))]⟩
 (.ite (.cmp .lss (.var 7001) (.len (.var 0)))
 (.ob (.tru (.cmp .leq (.lit 0) (.var 7001)))
 (.ob (.tru (.cmp .lss (.var 7001) (.len (.var 0))))
 (.ite (.cmp .neq (.rd (.var 0) (.var 7001) 0) (.var 1))
 (.ob (.tru (.cmp .leq (.lit 0) (.var 7001)))
 (.ob (.tru (.cmp .lss (.var 7001) (.len (.var 0))))
 (.ob (.tru (.cmp .leq (.len (.app (.var 7002) (.app (.row (.i (.rd (.var 0) (.var 7001) 0) (.i (.rd (.var 0) (.var 7001) 1) (.i (.rd (.var 0) (.var 7001) 2) (.i (.rd (.var 0) (.var 7001) 3) (.i (.rd (.var 0) (.var 7001) 4) (.x (.rd (.var 0) (.var 7001) 5) (.i (.rd (.var 0) (.var 7001) 6) (.i (.rd (.var 0) (.var 7001) 7) (.x (.rd (.var 0) (.var 7001) 8) .nil)))))))))) .nil))) (.lit 1000000)))
 (.next 1 ⟨[(0,(.plus (.var 7000) (.lit 1))),(1,(.ar .add .i64 (.var 7001) (.lit 1))),(0,(.plus (.var 7000) (.lit 1)))],[],[(2,(.app (.var 7002) (.app (.row (.i (.rd (.var 0) (.var 7001) 0) (.i (.rd (.var 0) (.var 7001) 1) (.i (.rd (.var 0) (.var 7001) 2) (.i (.rd (.var 0) (.var 7001) 3) (.i (.rd (.var 0) (.var 7001) 4) (.x (.rd (.var 0) (.var 7001) 5) (.i (.rd (.var 0) (.var 7001) 6) (.i (.rd (.var 0) (.var 7001) 7) (.x (.rd (.var 0) (.var 7001) 8) .nil)))))))))) .nil)))]⟩))))
 (.next 1 ⟨[(0,(.var 7000)),(1,(.ar .add .i64 (.var 7001) (.lit 1))),(0,(.var 7000))],[],[(2,(.var 7002))]⟩))))
 (.ret ((.v (.one (.z (.own 3 (.var 7000))))),[(3,(.own 59 r6 (.var 7002) (.var 7000))),(3,(.own 59 r6 (.app (.var 3001) (.app (.row (.i (.var 1) (.i (.var 2) (.i (.var 3) (.i (.var 4) (.i (.var 5) (.x (.var 6) (.i (.var 7) (.i (.var 8) (.x (.var 9) .nil)))))))))) .nil)) (.plus (.var 3000) (.lit 1)))),(3,(.own 59 r6 (.var 3001) (.var 3000)))],8))))
theorem c7L{w0:World}{ds:List D}{r:Rows}{x:List D}(e0:d9 ds 0=r)(ex:[D.i (c9 ds 1),.i (c9 ds 2),.i (c9 ds 3),.i (c9 ds 4),.i (c9 ds 5),.l (d9 ds 6),.i (c9 ds 7),.i (c9 ds 8),.l (d9 ds 9)]=x)(hl:r.length≤1000)(ws:∀(k:Nat) (hk:k<r.length),a0D r[k]){v:LV}{k:Nat}(k0:v.i 2=k)(hk:k=y6 r (c9 ds 1))(hd:v.d 1=r.take k)
 {J:Nat→LV→Prop}:b5A.sat ((f0 L0 w0 ds).put 3000 v) (b4c a5i ds w0) J:=by
 have hR:a5i.rows ds=M1 r x:=by rw[←e0,←ex];rfl
 have hx0:c9 ds 1=cI x 0:=by rw[←ex];rfl
 have hkl:=(D0 r (cI x 0)).1
 have hP:M1 r x=r.take k++x::(r.drop k).filter fun y=> !decide (cI y 0=cI x 0):=by rw[hk,hx0];rfl
 have hpl:=P3 r x
 unfold b5A
 refine TT.sat_loop (fun u=>∃j:Nat,u.i 1=j∧k≤j∧j≤r.length∧u.d 2++(r.drop j).filter (fun y=> !decide (cI y 0=cI x 0))=M1 r x) (fun u=>r.length-(u.i 1).toNat)
  ⟨k,by simp [j7,i8,E.ev,a0W,k0],by omega,by rw[hk,hx0];exact hkl,?_⟩ (fun u hu=> ?_)
 ·rw[hP]
  simp only[D4,i8,X.ev,B6,g8,Nat.reduceBEq,Nat.reduceLT,Nat.reduceSub,hd,ex]
  simp
 obtain⟨j,j0,j1,j2,j3⟩:=hu
 simp only[g8,Nat.reduceBEq,Nat.reduceLT,Nat.reduceSub,j0,e0]
 have hlen:=congrArg List.length j3
 rw[List.length_append] at hlen
 refine⟨fun hj=> ?_,fun hj=> ?_⟩
 ·have hjr:j<r.length:=by omega
  have hw:IntKind.i64.wrap ((j:Int)+1)=((j+1:Nat):Int):=by rw[f8 _ (by omega) (by omega)];rfl
  have hm:r.length-(((j+1:Nat):Int)).toNat<r.length-(j:Int).toNat:=by omega
  have hdj:r.drop j=r[j]::r.drop (j+1):=List.drop_eq_getElem_cons hjr
  have h7:[D.i (cI r[j] 0),.i (cI r[j] 1),.i (cI r[j] 2),.i (cI r[j] 3),.i (cI r[j] 4),.l (cR r[j] 5),.i (cI r[j] 6),.i (cI r[j] 7),.l (cR r[j] 8)]=r[j]:=(ws j hjr).symm
  simp only[j8 hjr,I7 hjr,hw,h7,hx0]
  rw[hdj] at j3
  refine⟨by omega,by omega,fun q=> ?_,fun q=>⟨⟨j+1,rfl,by omega,by omega,?_⟩,hm⟩⟩
  ·rw[List.filter_cons_of_pos (by simpa using q)] at j3
   have hl3:=congrArg List.length j3
   rw[List.length_append,List.length_cons] at hl3
   refine⟨by omega,by omega,?_,⟨j+1,rfl,by omega,by omega,?_⟩,hm⟩
   ·rw[List.length_append,List.append_nil,List.length_singleton];omega
   ·rw[←j3,List.append_nil,List.append_assoc];rfl
  ·rw[List.filter_cons_of_neg (by simpa using q)] at j3
   exact j3
 ·have hjr:j=r.length:=by omega
  rw[hjr,List.drop_length,List.filter_nil,List.append_nil] at j3
  refine⟨.own 3 (.var 7000),.var 7002,by kernel_rfl,?_,(fun ver q=>by cases q),fun σ u _ h=>h⟩
  rw[hR]
  simp only[X.ev,B6,g8,Nat.reduceBEq,Nat.reduceLT,Nat.reduceSub,j3]
def b6X:TT j6:=
(.loop 1 7000 ⟨[(0,(.plus (.var 3000) (.lit 1))),(1,(.var 3002)),(0,(.plus (.var 3000) (.lit 1)))],[],[(2,(.app (.var 3001) (.app (.row (.i (.var 1) (.i (.var 2) (.i (.var 3) (.i (.var 4) (.i (.var 5) (.x (.var 6) (.i (.var 7) (.i (.var 8) (.x (.var 9) .nil)))))))))) .nil)))]⟩
 (.ite (.cmp .lss (.var 7001) (.len (.var 0)))
 (.ob (.tru (.cmp .leq (.lit 0) (.var 7001)))
 (.ob (.tru (.cmp .lss (.var 7001) (.len (.var 0))))
 (.ite (.cmp .neq (.rd (.var 0) (.var 7001) 0) (.var 1))
 (.ob (.tru (.cmp .leq (.lit 0) (.var 7001)))
 (.ob (.tru (.cmp .lss (.var 7001) (.len (.var 0))))
 (.ob (.tru (.cmp .leq (.len (.app (.var 7002) (.app (.row (.i (.rd (.var 0) (.var 7001) 0) (.i (.rd (.var 0) (.var 7001) 1) (.i (.rd (.var 0) (.var 7001) 2) (.i (.rd (.var 0) (.var 7001) 3) (.i (.rd (.var 0) (.var 7001) 4) (.x (.rd (.var 0) (.var 7001) 5) (.i (.rd (.var 0) (.var 7001) 6) (.i (.rd (.var 0) (.var 7001) 7) (.x (.rd (.var 0) (.var 7001) 8) .nil)))))))))) .nil))) (.lit 1000000)))
 (.next 1 ⟨[(0,(.plus (.var 7000) (.lit 1))),(1,(.ar .add .i64 (.var 7001) (.lit 1))),(0,(.plus (.var 7000) (.lit 1)))],[],[(2,(.app (.var 7002) (.app (.row (.i (.rd (.var 0) (.var 7001) 0) (.i (.rd (.var 0) (.var 7001) 1) (.i (.rd (.var 0) (.var 7001) 2) (.i (.rd (.var 0) (.var 7001) 3) (.i (.rd (.var 0) (.var 7001) 4) (.x (.rd (.var 0) (.var 7001) 5) (.i (.rd (.var 0) (.var 7001) 6) (.i (.rd (.var 0) (.var 7001) 7) (.x (.rd (.var 0) (.var 7001) 8) .nil)))))))))) .nil)))]⟩))))
 (.next 1 ⟨[(0,(.var 7000)),(1,(.ar .add .i64 (.var 7001) (.lit 1))),(0,(.var 7000))],[],[(2,(.var 7002))]⟩))))
 (.ret ((.v (.one (.z (.own 3 (.var 7000))))),[(3,(.own 59 r6 (.var 7002) (.var 7000))),(0,(.own 59 r6 (.var 0) (.lit 0))),(3,(.own 59 r6 (.app (.var 3001) (.app (.row (.i (.var 1) (.i (.var 2) (.i (.var 3) (.i (.var 4) (.i (.var 5) (.x (.var 6) (.i (.var 7) (.i (.var 8) (.x (.var 9) .nil)))))))))) .nil)) (.plus (.var 3000) (.lit 1)))),(3,(.own 59 r6 (.var 3001) (.var 3000))),(0,(.own 59 r6 (.var 0) (.lit 0)))],8))))
theorem c8N{w0:World}{ds:List D}{r:Rows}{x:List D}(e0:d9 ds 0=r)(ex:[D.i (c9 ds 1),.i (c9 ds 2),.i (c9 ds 3),.i (c9 ds 4),.i (c9 ds 5),.l (d9 ds 6),.i (c9 ds 7),.i (c9 ds 8),.l (d9 ds 9)]=x)(hl:r.length≤1000)(ws:∀(k:Nat) (hk:k<r.length),a0D r[k]){v:LV}{k:Nat}(k0:v.i 2=k)(hk:k=y6 r (c9 ds 1))(hd:v.d 1=r.take k)
 {J:Nat→LV→Prop}:b6X.sat ((f0 L0 w0 ds).put 3000 v) (b4c a5i ds w0) J:=by
 have hR:a5i.rows ds=M1 r x:=by rw[←e0,←ex];rfl
 have hx0:c9 ds 1=cI x 0:=by rw[←ex];rfl
 have hkl:=(D0 r (cI x 0)).1
 have hP:M1 r x=r.take k++x::(r.drop k).filter fun y=> !decide (cI y 0=cI x 0):=by rw[hk,hx0];rfl
 have hpl:=P3 r x
 unfold b6X
 refine TT.sat_loop (fun u=>∃j:Nat,u.i 1=j∧k≤j∧j≤r.length∧u.d 2++(r.drop j).filter (fun y=> !decide (cI y 0=cI x 0))=M1 r x) (fun u=>r.length-(u.i 1).toNat)
  ⟨k,by simp [j7,i8,E.ev,a0W,k0],by omega,by rw[hk,hx0];exact hkl,?_⟩ (fun u hu=> ?_)
 ·rw[hP]
  simp only[D4,i8,X.ev,B6,g8,Nat.reduceBEq,Nat.reduceLT,Nat.reduceSub,hd,ex]
  simp
 obtain⟨j,j0,j1,j2,j3⟩:=hu
 simp only[g8,Nat.reduceBEq,Nat.reduceLT,Nat.reduceSub,j0,e0]
 have hlen:=congrArg List.length j3
 rw[List.length_append] at hlen
 refine⟨fun hj=> ?_,fun hj=> ?_⟩
 ·have hjr:j<r.length:=by omega
  have hw:IntKind.i64.wrap ((j:Int)+1)=((j+1:Nat):Int):=by rw[f8 _ (by omega) (by omega)];rfl
  have hm:r.length-(((j+1:Nat):Int)).toNat<r.length-(j:Int).toNat:=by omega
  have hdj:r.drop j=r[j]::r.drop (j+1):=List.drop_eq_getElem_cons hjr
  have h7:[D.i (cI r[j] 0),.i (cI r[j] 1),.i (cI r[j] 2),.i (cI r[j] 3),.i (cI r[j] 4),.l (cR r[j] 5),.i (cI r[j] 6),.i (cI r[j] 7),.l (cR r[j] 8)]=r[j]:=(ws j hjr).symm
  simp only[j8 hjr,I7 hjr,hw,h7,hx0]
  rw[hdj] at j3
  refine⟨by omega,by omega,fun q=> ?_,fun q=>⟨⟨j+1,rfl,by omega,by omega,?_⟩,hm⟩⟩
  ·rw[List.filter_cons_of_pos (by simpa using q)] at j3
   have hl3:=congrArg List.length j3
   rw[List.length_append,List.length_cons] at hl3
   refine⟨by omega,by omega,?_,⟨j+1,rfl,by omega,by omega,?_⟩,hm⟩
   ·rw[List.length_append,List.append_nil,List.length_singleton];omega
   ·rw[←j3,List.append_nil,List.append_assoc];rfl
  ·rw[List.filter_cons_of_neg (by simpa using q)] at j3
   exact j3
 ·have hjr:j=r.length:=by omega
  rw[hjr,List.drop_length,List.filter_nil,List.append_nil] at j3
  refine⟨.own 3 (.var 7000),.var 7002,by kernel_rfl,?_,(fun ver q=>by cases q),fun σ u _ h=>h⟩
  rw[hR]
  simp only[X.ev,B6,g8,Nat.reduceBEq,Nat.reduceLT,Nat.reduceSub,j3]
set_option maxHeartbeats 1000000 in
theorem d3V:B9 Tryz.prog 65 [B7,v5] [a5i] (fun ds=>(d9 ds 0).length≤1000) (fun _ _ vs u=>∃v,vs=[v]∧u=v):=by
 refine c5a L0 (by kernel_rfl) (fun ρ h=>c0y (Sees.of h 240) (SeesD.of h 8)) (by kernel_rfl) c2R b8I (by decide) (fun w0 vals ds hr hok=> ?_)
 have hok:(d9 ds 0).length≤1000:=hok
 have hrow:∀row∈d9 ds 0,a0D row:=by
  obtain⟨v,vs',d,ds',rfl,rfl,⟨d,rfl,h⟩,_⟩:=hr
  rw[y7] at h
  obtain⟨r,rfl,a,n,c,_,hs,_⟩:=h
  intro row hrow
  obtain⟨i,hi,rfl⟩:=List.getElem_of_mem hrow
  obtain⟨b,hb⟩:=Option.isSome_iff_exists.1 (hs.there (by have:=hs.len;have:i<r.length:=hi;omega))
  obtain⟨vs,g1,_⟩:=hs.cell b hb i r[i] (List.getElem?_eq_getElem hi)
  exact a2R g1
 clear hr
 simp only[b0Q]
 generalize e0:d9 ds 0=r at*
 have ws:∀(k:Nat) (hk:k<r.length),a0D r[k]:=fun k hk=>hrow _ (List.getElem_mem hk)
 refine TT.sat_loop (fun v=>∃k:Nat,v.i 2=k∧k≤r.length∧v.d 1=r.take k∧∀m:Nat,m<k→lg r m 0<c9 ds 1) (fun v=>r.length-(v.i 2).toNat)
  ⟨0,by simp [j7,i8,E.ev],by omega,by simp [D4,i8,X.ev],fun m h=>by omega⟩ (fun v hv=> ?_)
 obtain⟨k,k0,k1,k2,k3⟩:=hv
 have REST:(k<r.length→¬lg r k 0<c9 ds 1)→_:=fun h=>c7L (w0:=w0) (J:=fun d' v'=>if d'=0 then(∃k:Nat,v'.i 2=k∧k≤r.length∧v'.d 1=r.take k∧∀m:Nat,m<k→lg r m 0<c9 ds 1)∧r.length-(v'.i 2).toNat<r.length-(v.i 2).toNat else False) e0 rfl hok ws k0 (Y7 k1 k3 h) k2
 unfold b5A at REST
 simp only[g8,Nat.reduceBEq,Nat.reduceLT,Nat.reduceSub,k0,k2,e0] at REST ⊢
 refine⟨fun hc=> ?_,fun hc=> ?_⟩
 ·have hk:k<r.length:=by omega
  have hw:IntKind.i64.wrap ((k:Int)+1)=((k+1:Nat):Int):=by rw[f8 _ (by omega) (by omega)];rfl
  have hm:r.length-(((k+1:Nat):Int)).toNat<r.length-(k:Int).toNat:=by omega
  have h7:[D.i (cI r[k] 0),.i (cI r[k] 1),.i (cI r[k] 2),.i (cI r[k] 3),.i (cI r[k] 4),.l (cR r[k] 5),.i (cI r[k] 6),.i (cI r[k] 7),.l (cR r[k] 8)]=r[k]:=(ws k hk).symm
  have hlk:=j8 hk 0
  refine⟨by omega,by omega,fun q=>⟨by omega,by omega,?_,⟨k+1,by rw[hw],by omega,?_,fun m hmk=> ?_⟩,by rw[hw];exact hm⟩,fun q=>⟨?_,REST fun _=>q⟩⟩
  ·rw[List.length_append,List.append_nil,List.length_singleton,List.length_take];omega
  ·simp only[j8 hk,I7 hk,h7]
   rw[List.append_nil,List.take_succ_eq_append_getElem hk]
  ·by_cases e:m=k
   ·subst e;exact q
   ·exact k3 m (by omega)
  ·rw[List.length_append,List.append_nil,List.length_singleton,List.length_take];omega
 ·refine⟨?_,REST fun h=>by omega⟩
  rw[List.length_append,List.append_nil,List.length_singleton,List.length_take];omega
set_option maxHeartbeats 1000000 in
theorem d4A:b4P Tryz.prog 65 59 r6 [v5] a5i (fun ds=>(d9 ds 0).length≤1000):=by
 refine c4g L0 (by kernel_rfl) (fun ρ h=>c0y (Sees.of h 240) (SeesD.of h 8)) (by kernel_rfl) c1U b8P (by decide) (fun w0 r0 vals ds0 hbig hrow0 hr hok=> ?_)
 have hrow:∀row∈d9 (.l r0::ds0) 0,a0D row:=fun row hrow=>by
  obtain⟨us,h⟩:=hrow0 row hrow
  exact a2R h
 have hok:(d9 (.l r0::ds0) 0).length≤1000:=hok
 clear hr hrow0 hbig
 generalize D.l r0::ds0=ds at*
 simp only[b0u]
 generalize e0:d9 ds 0=r at*
 have ws:∀(k:Nat) (hk:k<r.length),a0D r[k]:=fun k hk=>hrow _ (List.getElem_mem hk)
 refine TT.sat_loop (fun v=>∃k:Nat,v.i 2=k∧k≤r.length∧v.d 1=r.take k∧∀m:Nat,m<k→lg r m 0<c9 ds 1) (fun v=>r.length-(v.i 2).toNat)
  ⟨0,by simp [j7,i8,E.ev],by omega,by simp [D4,i8,X.ev],fun m h=>by omega⟩ (fun v hv=> ?_)
 obtain⟨k,k0,k1,k2,k3⟩:=hv
 have REST:(k<r.length→¬lg r k 0<c9 ds 1)→_:=fun h=>c8N (w0:=w0) (J:=fun d' v'=>if d'=0 then(∃k:Nat,v'.i 2=k∧k≤r.length∧v'.d 1=r.take k∧∀m:Nat,m<k→lg r m 0<c9 ds 1)∧r.length-(v'.i 2).toNat<r.length-(v.i 2).toNat else False) e0 rfl hok ws k0 (Y7 k1 k3 h) k2
 unfold b6X at REST
 simp only[g8,Nat.reduceBEq,Nat.reduceLT,Nat.reduceSub,k0,k2,e0] at REST ⊢
 refine⟨fun hc=> ?_,fun hc=> ?_⟩
 ·have hk:k<r.length:=by omega
  have hw:IntKind.i64.wrap ((k:Int)+1)=((k+1:Nat):Int):=by rw[f8 _ (by omega) (by omega)];rfl
  have hm:r.length-(((k+1:Nat):Int)).toNat<r.length-(k:Int).toNat:=by omega
  have h7:[D.i (cI r[k] 0),.i (cI r[k] 1),.i (cI r[k] 2),.i (cI r[k] 3),.i (cI r[k] 4),.l (cR r[k] 5),.i (cI r[k] 6),.i (cI r[k] 7),.l (cR r[k] 8)]=r[k]:=(ws k hk).symm
  have hlk:=j8 hk 0
  refine⟨by omega,by omega,fun q=>⟨by omega,by omega,?_,⟨k+1,by rw[hw],by omega,?_,fun m hmk=> ?_⟩,by rw[hw];exact hm⟩,fun q=>⟨?_,REST fun _=>q⟩⟩
  ·rw[List.length_append,List.append_nil,List.length_singleton,List.length_take];omega
  ·simp only[j8 hk,I7 hk,h7]
   rw[List.append_nil,List.take_succ_eq_append_getElem hk]
  ·by_cases e:m=k
   ·subst e;exact q
   ·exact k3 m (by omega)
  ·rw[List.length_append,List.append_nil,List.length_singleton,List.length_take];omega
 ·refine⟨?_,REST fun h=>by omega⟩
  rw[List.length_append,List.append_nil,List.length_singleton,List.length_take];omega
def J3:Interp where
 fi n l:=L0.fi n l
 fb n l:=L0.fb n l
 fd n l:=match n with | 8=>c3B l | n=>L0.fd n l
theorem b6D{ρ:Env}(h:SeesD ρ J3 9):SeesD ρ L0 8:=fun n l hn=>by
 rw[h n l (by omega)]
 simp only[J3]
 split<;>first | omega | rfl
theorem c0f{ρ:Env}(h:Sees ρ J3 250):Sees ρ L0 240:=h.trans (by decide) fun n l hn=>by
 refine⟨?_,?_⟩
 ·
  rfl
 ·
  rfl
def c4A(al:AL):List Ob:=match al with
 | .x r _=>[.tru (.cmpS .leq (.lenS r) (.lit 1000))]
 | _=>[.tru (.lit false)]
def c5i:=c0T 59 r6 B7 [v5] a5i c4A
theorem c5T{ρ:Env}(hd:SeesD ρ J3 9):i9 Tryz.prog ρ 65 c5i:=by
 refine c8P d3V d4A (fun al ho=> ?_) (fun a=>(hd 8 a (by decide)).trans rfl)
 unfold c4A at ho
 split at ho
 ·have h1:=ho _ (List.mem_singleton.2 rfl)
  simp only[Ob.ok,B.cmpS_ev] at h1
  have h1:=of_decide_eq_true h1
  simp only[E.ev,E.lenS_ev] at h1
  show(X.ev ρ _).length≤1000
  omega
 ·have:=ho _ (List.mem_singleton.2 rfl)
  simp [Ob.ok,B.ev] at this
def c3T:=o7 [o0,pt,it] fun al=> .ret (.tup [.one (G8 170 a5d al),.one (w6 170 a4s al)])
theorem c5g{ρ:Env}(h:Sees ρ t6 180):i9 Tryz.prog ρ 24 c3T:=
 k5 d4S (fun _=>rfl) (fun al=>by simp only[V.val,V2.val,S.val,S0.val,w6,G8,List.map_cons,List.map_nil,k7 (s:=170) (f:=a5d) (fun l=>by rw[(h 170 l (by decide)).2];simp only[t6]),o6 (s:=170) (f:=a4s) (fun l=>by rw[(h 170 l (by decide)).1];simp only[t6])];try rfl)
def b1D(args:List V)(_mem:Mem)(nx:Nat):T j6:=match Y0 [o0,o0] args with
 | some al=>ctN [b0k,b0K] [] (.tup [.agg [.z (.own nx (.lit 0)),.z (.own (nx+1) (.lit 0))],.one (.z (.int .i64 (.fn 210 al)))]) al nx
 | none=> .stuck "Merge"
theorem c0Z{ρ:Env}(h:Sees ρ B0 220)(hd:SeesD ρ B0 7):i9 Tryz.prog ρ 28 b1D:=by
 intro args mem nx q hq hle σ W vals hr hfr hdl
 unfold b1D at hq
 split at hq
 ·rename_i al ha
  refine a9O d5C ha (fun _=>trivial) (fun l hl a=> ?_) hq (fun σ' vs u hv hl hres=> ?_) hr hfr hdl
  ·rcases List.mem_cons.1 hl with rfl | hl
   ·exact(hd 5 a (by decide)).trans rfl
   ·obtain rfl:=List.mem_singleton.1 hl
    exact(hd 6 a (by decide)).trans rfl
  ·obtain⟨a,b,rfl,rfl⟩:=hres
   obtain⟨a1,a2,a3,a4,a5⟩:=hv 0 a rfl
   obtain⟨b1,b2,b3,b4,b5⟩:=hv 1 b rfl
   have e0:Value.int .i64 (mgE (al.ev ρ))= .int .i64 ((E.fn 210 al).ev ρ):=by simp only[E.ev];rw[(h 210 _ (by decide)).1];simp only[B0]
   exact⟨[_,_],⟨⟨[a,b],⟨⟨⟨a2,a3,a4,a5⟩,a1⟩,⟨⟨b2,b3,b4,b5⟩,b1⟩,trivial⟩,rfl⟩,e0,trivial⟩,rfl⟩
 ·exact hq.elim
theorem b9o{ρ:Env}(h:Sees ρ J3 250):Sees ρ m9 230:=b2a (c0f h)
theorem c8U{ρ:Env}(h:SeesD ρ J3 9):SeesD ρ m9 7:=b4d (b6D h)
theorem c0e{ρ:Env}(h:Sees ρ J3 250):Sees ρ u5 210:=a6W (a3T (b9o h))
theorem d6l{ρ:Env}(h:SeesD ρ m9 7):SeesD ρ B0 7:=fun n l hn=>(h n l hn).trans rfl
def d3D:Ct:=(28,b1D)::(18,Z5)::(19,Z5)::(16,a6t)::(26,a7i)::(22,a2d)::(24,c3T)::(30,b1J)::(14,b6Z)::(63,b5D)::(64,b7c)::(65,c5i)::b1U
theorem d1T{ρ:Env}(h:Sees ρ J3 250)(hd:SeesD ρ J3 9):CtOk Tryz.prog ρ d3D:=
 have h1:=b9o h
 have d1:=c8U hd
 have hV:=a3T h1
 have hVd:=d6l d1
 have he:=a2a (c0e h|>a4d)
 .cons (c0Z hV hVd)<| .cons (a8C h1 d1 c0r)<| .cons (a8C h1 d1 c3W)<| .cons (b3n h1 d1 (by decide) (by decide) (fun _=>rfl) d4V)<| .cons (b3n h1 d1 (by decide) (by decide) (fun _=>rfl) d5T)<| .cons (b2O he)<| .cons (c5g (a6R he))<| .cons (c2A hV)<| .cons (b2Z h1)<| .cons (b3j (c0f h))<| .cons (b2w (b6D hd))<| .cons (c5T hd)<|b1t (c0e h) (c9t hVd)
end Go.Proofs.YtldbejmgalhdaaaGreat
