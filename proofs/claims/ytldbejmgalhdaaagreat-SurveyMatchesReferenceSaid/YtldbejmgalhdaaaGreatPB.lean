/- PB, merged: TP3, P3, P4, P5. -/
import Derived.Test.YtldbejmgalhdaaaGreatPA
set_option linter.unusedSimpArgs false
set_option linter.unusedVariables false
namespace Go.Proofs.YtldbejmgalhdaaaGreat
open Go.RowKit
def b0m:TT j6:=
(.ite (.not (.fn 150 (.x (.var 0) (.x (.var 1) .nil))))
 (.ret ((.tup [(.one (.z (.const (.slice none 0 0)))),(.one (.z (.int .i64 (.lit 1))))]),[],1))
 (.ob (.tru (.fn 150 (.x (.var 0) (.x (.var 1) .nil))))
 (.loop 0 3000 ⟨[(0,(.lit 0)),(2,(.lit 0)),(0,(.lit 0))],[],[(1,.nil)]⟩
 (.ite (.cmp .lss (.var 3002) (.len (.fn 0 (.x (.var 0) (.x (.var 1) .nil)))))
 (.ob (.tru (.cmp .leq (.lit 0) (.var 3002)))
 (.ob (.tru (.cmp .lss (.var 3002) (.len (.fn 0 (.x (.var 0) (.x (.var 1) .nil))))))
 (.ob (.tru (.cmp .leq (.len (.app (.var 3001) (.app (.row (.i (.rd (.fn 0 (.x (.var 0) (.x (.var 1) .nil))) (.var 3002) 0) .nil)) .nil))) (.lit 1000000)))
 (.next 0 ⟨[(0,(.plus (.var 3000) (.lit 1))),(2,(.ar .add .i64 (.var 3002) (.lit 1))),(0,(.plus (.var 3000) (.lit 1)))],[],[(1,(.app (.var 3001) (.app (.row (.i (.rd (.fn 0 (.x (.var 0) (.x (.var 1) .nil))) (.var 3002) 0) .nil)) .nil)))]⟩))))
 (.ret ((.tup [(.one (.z (.own 3 (.var 3000)))),(.one (.z (.int .i64 (.lit 0))))]),[(3,(.own 3 [(.int .i64)] (.var 3001) (.var 3000)))],5))))))
set_option maxRecDepth 100000 in
theorem c1e:T.norm 0 (call Tryz.prog b2e (Lt.of []) 150 16 (i6 0 [o0]) [] 0) TT.ret=b0m:=by kernel_rfl
theorem b8E:b0m.low 1000=true:=by kernel_rfl
def b1l:TT j6:=
(.ite (.not (.fn 150 (.x (.var 0) (.x (.var 1) .nil))))
 (.ret ((.tup [(.one (.z (.const (.slice none 0 0)))),(.one (.z (.int .i64 (.lit 1))))]),[],1))
 (.ob (.tru (.fn 150 (.x (.var 0) (.x (.var 1) .nil))))
 (.loop 0 3000 ⟨[(0,(.lit 0)),(2,(.lit 0)),(3,(.lit 0)),(0,(.lit 0))],[],[(1,.nil)]⟩
 (.ite (.cmp .lss (.var 3003) (.len (.fn 0 (.x (.var 0) (.x (.var 1) .nil)))))
 (.loop 1 5000 ⟨[(0,(.var 3000)),(1,(.var 3002)),(0,(.var 3000))],[],[(2,(.var 3001))]⟩
 (.ite (.cmp .lss (.var 5001) (.len (.var 1)))
 (.ob (.tru (.cmp .leq (.lit 0) (.var 5001)))
 (.ob (.tru (.cmp .lss (.var 5001) (.len (.var 1))))
 (.ob (.tru (.cmp .leq (.lit 0) (.var 3003)))
 (.ob (.tru (.cmp .lss (.var 3003) (.len (.fn 0 (.x (.var 0) (.x (.var 1) .nil))))))
 (.ite (.cmp .lss (.rd (.var 1) (.var 5001) 0) (.rd (.fn 0 (.x (.var 0) (.x (.var 1) .nil))) (.var 3003) 0))
 (.ob (.tru (.cmp .leq (.lit 0) (.var 5001)))
 (.ob (.tru (.cmp .lss (.var 5001) (.len (.var 1))))
 (.ob (.tru (.cmp .leq (.len (.app (.var 5002) (.app (.row (.i (.rd (.var 1) (.var 5001) 0) (.i (.rd (.var 1) (.var 5001) 1) (.i (.rd (.var 1) (.var 5001) 2) (.i (.rd (.var 1) (.var 5001) 3) (.i (.rd (.var 1) (.var 5001) 4) (.x (.rd (.var 1) (.var 5001) 5) (.i (.rd (.var 1) (.var 5001) 6) (.i (.rd (.var 1) (.var 5001) 7) (.x (.rd (.var 1) (.var 5001) 8) .nil)))))))))) .nil))) (.lit 1000000)))
 (.next 1 ⟨[(0,(.plus (.var 5000) (.lit 1))),(1,(.ar .add .i64 (.var 5001) (.lit 1))),(0,(.plus (.var 5000) (.lit 1)))],[],[(2,(.app (.var 5002) (.app (.row (.i (.rd (.var 1) (.var 5001) 0) (.i (.rd (.var 1) (.var 5001) 1) (.i (.rd (.var 1) (.var 5001) 2) (.i (.rd (.var 1) (.var 5001) 3) (.i (.rd (.var 1) (.var 5001) 4) (.x (.rd (.var 1) (.var 5001) 5) (.i (.rd (.var 1) (.var 5001) 6) (.i (.rd (.var 1) (.var 5001) 7) (.x (.rd (.var 1) (.var 5001) 8) .nil)))))))))) .nil)))]⟩))))
 (.ob (.tru (.cmp .leq (.lit 0) (.var 3003)))
 (.ob (.tru (.cmp .lss (.var 3003) (.len (.fn 0 (.x (.var 0) (.x (.var 1) .nil))))))
 (.ob (.tru (.cmp .leq (.len (.app (.var 5002) (.app (.row (.i (.rd (.fn 0 (.x (.var 0) (.x (.var 1) .nil))) (.var 3003) 0) (.i (.lit 1) (.i (.rd (.fn 0 (.x (.var 0) (.x (.var 1) .nil))) (.var 3003) 1) (.i (.rd (.fn 0 (.x (.var 0) (.x (.var 1) .nil))) (.var 3003) 2) (.i (.rd (.fn 0 (.x (.var 0) (.x (.var 1) .nil))) (.var 3003) 3) (.x .nil (.i (.rd (.fn 0 (.x (.var 0) (.x (.var 1) .nil))) (.var 3003) 4) (.i (.lit 0) (.x .nil .nil)))))))))) .nil))) (.lit 1000000)))
 (.next 0 ⟨[(0,(.plus (.var 5000) (.lit 1))),(2,(.var 5001)),(3,(.ar .add .i64 (.var 3003) (.lit 1))),(0,(.plus (.var 5000) (.lit 1)))],[],[(1,(.app (.var 5002) (.app (.row (.i (.rd (.fn 0 (.x (.var 0) (.x (.var 1) .nil))) (.var 3003) 0) (.i (.lit 1) (.i (.rd (.fn 0 (.x (.var 0) (.x (.var 1) .nil))) (.var 3003) 1) (.i (.rd (.fn 0 (.x (.var 0) (.x (.var 1) .nil))) (.var 3003) 2) (.i (.rd (.fn 0 (.x (.var 0) (.x (.var 1) .nil))) (.var 3003) 3) (.x .nil (.i (.rd (.fn 0 (.x (.var 0) (.x (.var 1) .nil))) (.var 3003) 4) (.i (.lit 0) (.x .nil .nil)))))))))) .nil)))]⟩)))))))))
 (.ob (.tru (.cmp .leq (.lit 0) (.var 3003)))
 (.ob (.tru (.cmp .lss (.var 3003) (.len (.fn 0 (.x (.var 0) (.x (.var 1) .nil))))))
 (.ob (.tru (.cmp .leq (.len (.app (.var 5002) (.app (.row (.i (.rd (.fn 0 (.x (.var 0) (.x (.var 1) .nil))) (.var 3003) 0) (.i (.lit 1) (.i (.rd (.fn 0 (.x (.var 0) (.x (.var 1) .nil))) (.var 3003) 1) (.i (.rd (.fn 0 (.x (.var 0) (.x (.var 1) .nil))) (.var 3003) 2) (.i (.rd (.fn 0 (.x (.var 0) (.x (.var 1) .nil))) (.var 3003) 3) (.x .nil (.i (.rd (.fn 0 (.x (.var 0) (.x (.var 1) .nil))) (.var 3003) 4) (.i (.lit 0) (.x .nil .nil)))))))))) .nil))) (.lit 1000000)))
 (.next 0 ⟨[(0,(.plus (.var 5000) (.lit 1))),(2,(.var 5001)),(3,(.ar .add .i64 (.var 3003) (.lit 1))),(0,(.plus (.var 5000) (.lit 1)))],[],[(1,(.app (.var 5002) (.app (.row (.i (.rd (.fn 0 (.x (.var 0) (.x (.var 1) .nil))) (.var 3003) 0) (.i (.lit 1) (.i (.rd (.fn 0 (.x (.var 0) (.x (.var 1) .nil))) (.var 3003) 1) (.i (.rd (.fn 0 (.x (.var 0) (.x (.var 1) .nil))) (.var 3003) 2) (.i (.rd (.fn 0 (.x (.var 0) (.x (.var 1) .nil))) (.var 3003) 3) (.x .nil (.i (.rd (.fn 0 (.x (.var 0) (.x (.var 1) .nil))) (.var 3003) 4) (.i (.lit 0) (.x .nil .nil)))))))))) .nil)))]⟩))))))
 (.loop 1 10000 ⟨[(0,(.var 3000)),(1,(.var 3002)),(0,(.var 3000))],[],[(2,(.var 3001))]⟩
 (.ite (.cmp .lss (.var 10001) (.len (.var 1)))
 (.ob (.tru (.cmp .leq (.lit 0) (.var 10001)))
 (.ob (.tru (.cmp .lss (.var 10001) (.len (.var 1))))
 (.ob (.tru (.cmp .leq (.len (.app (.var 10002) (.app (.row (.i (.rd (.var 1) (.var 10001) 0) (.i (.rd (.var 1) (.var 10001) 1) (.i (.rd (.var 1) (.var 10001) 2) (.i (.rd (.var 1) (.var 10001) 3) (.i (.rd (.var 1) (.var 10001) 4) (.x (.rd (.var 1) (.var 10001) 5) (.i (.rd (.var 1) (.var 10001) 6) (.i (.rd (.var 1) (.var 10001) 7) (.x (.rd (.var 1) (.var 10001) 8) .nil)))))))))) .nil))) (.lit 1000000)))
 (.next 1 ⟨[(0,(.plus (.var 10000) (.lit 1))),(1,(.ar .add .i64 (.var 10001) (.lit 1))),(0,(.plus (.var 10000) (.lit 1)))],[],[(2,(.app (.var 10002) (.app (.row (.i (.rd (.var 1) (.var 10001) 0) (.i (.rd (.var 1) (.var 10001) 1) (.i (.rd (.var 1) (.var 10001) 2) (.i (.rd (.var 1) (.var 10001) 3) (.i (.rd (.var 1) (.var 10001) 4) (.x (.rd (.var 1) (.var 10001) 5) (.i (.rd (.var 1) (.var 10001) 6) (.i (.rd (.var 1) (.var 10001) 7) (.x (.rd (.var 1) (.var 10001) 8) .nil)))))))))) .nil)))]⟩))))
 (.ret ((.tup [(.one (.z (.own 3 (.var 10000)))),(.one (.z (.int .i64 (.lit 0))))]),[(3,(.own 59 [(.int .i64),(.int .i64),(.int .i64),(.int .i64),(.int .i64),(.sl [(.int .i64),(.int .i64)]),(.int .i64),(.int .i64),(.sl [(.int .i64),(.int .i64),(.int .i64),(.int .i64),(.int .i64),(.int .i64)])] (.var 10002) (.var 10000))),(3,(.own 59 [(.int .i64),(.int .i64),(.int .i64),(.int .i64),(.int .i64),(.sl [(.int .i64),(.int .i64)]),(.int .i64),(.int .i64),(.sl [(.int .i64),(.int .i64),(.int .i64),(.int .i64),(.int .i64),(.int .i64)])] (.var 3001) (.var 3000)))],11))))))))
set_option maxRecDepth 100000 in
theorem c2W:T.norm 0 (call Tryz.prog b2e (Lt.of []) 150 19 (i6 0 [o0]) [] 0) TT.ret=b1l:=by kernel_rfl
theorem b7B:b1l.low 1000=true:=by kernel_rfl
def b0J:TT j6:=
(.ite (.not (.fn 150 (.x (.var 0) (.x (.var 1) .nil))))
 (.ret ((.tup [(.one (.z (.bool (.lit false)))),(.one (.z (.int .i64 (.lit 1))))]),[],2))
 (.ite (.not (.fn 3 (.i (.var 2) (.i (.var 3) .nil))))
 (.ret ((.tup [(.one (.z (.bool (.lit false)))),(.one (.z (.int .i64 (.lit 1))))]),[],2))
 (.ite (.cmp .lss (.var 4) (.lit 0))
 (.ret ((.tup [(.one (.z (.bool (.lit false)))),(.one (.z (.int .i64 (.lit 0))))]),[],2))
 (.ite (.cmp .gtr (.var 4) (.lit 100000))
 (.ret ((.tup [(.one (.z (.bool (.lit false)))),(.one (.z (.int .i64 (.lit 0))))]),[],2))
 (.ob (.tru (.fn 150 (.x (.var 0) (.x (.var 1) .nil))))
 (.loop 0 4000 ⟨[(0,(.lit 0))],[],[]⟩
 (.ite (.cmp .lss (.var 4000) (.len (.fn 0 (.x (.var 0) (.x (.var 1) .nil)))))
 (.ob (.tru (.cmp .leq (.lit 0) (.var 4000)))
 (.ob (.tru (.cmp .lss (.var 4000) (.len (.fn 0 (.x (.var 0) (.x (.var 1) .nil))))))
 (.ob (.tru (.fn 223 (.i (.rd (.fn 0 (.x (.var 0) (.x (.var 1) .nil))) (.var 4000) 0) (.i (.lit 1) (.i (.rd (.fn 0 (.x (.var 0) (.x (.var 1) .nil))) (.var 4000) 1) (.i (.rd (.fn 0 (.x (.var 0) (.x (.var 1) .nil))) (.var 4000) 2) (.i (.rd (.fn 0 (.x (.var 0) (.x (.var 1) .nil))) (.var 4000) 3) (.x .nil (.i (.rd (.fn 0 (.x (.var 0) (.x (.var 1) .nil))) (.var 4000) 4) (.i (.lit 0) (.x .nil (.i (.var 2) (.i (.var 3) .nil)))))))))))))
 (.ite (.fn 222 (.i (.rd (.fn 0 (.x (.var 0) (.x (.var 1) .nil))) (.var 4000) 0) (.i (.lit 1) (.i (.rd (.fn 0 (.x (.var 0) (.x (.var 1) .nil))) (.var 4000) 1) (.i (.rd (.fn 0 (.x (.var 0) (.x (.var 1) .nil))) (.var 4000) 2) (.i (.rd (.fn 0 (.x (.var 0) (.x (.var 1) .nil))) (.var 4000) 3) (.x .nil (.i (.rd (.fn 0 (.x (.var 0) (.x (.var 1) .nil))) (.var 4000) 4) (.i (.lit 0) (.x .nil (.i (.var 2) (.i (.var 3) .nil))))))))))))
 (.ob (.tru (.cmp .leq (.lit 0) (.var 4000)))
 (.ob (.tru (.cmp .lss (.var 4000) (.len (.fn 0 (.x (.var 0) (.x (.var 1) .nil))))))
 (.ite (.cmp .lss (.var 4) (.rd (.fn 0 (.x (.var 0) (.x (.var 1) .nil))) (.var 4000) 4))
 (.ret ((.tup [(.one (.z (.bool (.lit false)))),(.one (.z (.int .i64 (.lit 0))))]),[],6))
 (.ob (.tru (.cmp .leq (.lit 0) (.var 4000)))
 (.ob (.tru (.cmp .lss (.var 4000) (.len (.fn 0 (.x (.var 0) (.x (.var 1) .nil))))))
 (.ite (.cmp .gtr (.var 4) (.rd (.fn 0 (.x (.var 0) (.x (.var 1) .nil))) (.var 4000) 5))
 (.ret ((.tup [(.one (.z (.bool (.lit false)))),(.one (.z (.int .i64 (.lit 0))))]),[],6))
 (.next 0 ⟨[(0,(.ar .add .i64 (.var 4000) (.lit 1)))],[],[]⟩)))))))
 (.next 0 ⟨[(0,(.ar .add .i64 (.var 4000) (.lit 1)))],[],[]⟩)))))
 (.loop 1 7000 ⟨[(0,(.lit 0))],[],[]⟩
 (.ite (.cmp .lss (.var 7000) (.len (.var 1)))
 (.ob (.tru (.cmp .leq (.lit 0) (.var 7000)))
 (.ob (.tru (.cmp .lss (.var 7000) (.len (.var 1))))
 (.ob (.tru (.fn 223 (.i (.rd (.var 1) (.var 7000) 0) (.i (.rd (.var 1) (.var 7000) 1) (.i (.rd (.var 1) (.var 7000) 2) (.i (.rd (.var 1) (.var 7000) 3) (.i (.rd (.var 1) (.var 7000) 4) (.x (.rd (.var 1) (.var 7000) 5) (.i (.rd (.var 1) (.var 7000) 6) (.i (.rd (.var 1) (.var 7000) 7) (.x (.rd (.var 1) (.var 7000) 8) (.i (.var 2) (.i (.var 3) .nil)))))))))))))
 (.ite (.fn 222 (.i (.rd (.var 1) (.var 7000) 0) (.i (.rd (.var 1) (.var 7000) 1) (.i (.rd (.var 1) (.var 7000) 2) (.i (.rd (.var 1) (.var 7000) 3) (.i (.rd (.var 1) (.var 7000) 4) (.x (.rd (.var 1) (.var 7000) 5) (.i (.rd (.var 1) (.var 7000) 6) (.i (.rd (.var 1) (.var 7000) 7) (.x (.rd (.var 1) (.var 7000) 8) (.i (.var 2) (.i (.var 3) .nil))))))))))))
 (.ob (.tru (.cmp .leq (.lit 0) (.var 7000)))
 (.ob (.tru (.cmp .lss (.var 7000) (.len (.var 1))))
 (.ite (.cmp .lss (.var 4) (.rd (.var 1) (.var 7000) 6))
 (.ret ((.tup [(.one (.z (.bool (.lit false)))),(.one (.z (.int .i64 (.lit 0))))]),[],7))
 (.next 1 ⟨[(0,(.ar .add .i64 (.var 7000) (.lit 1)))],[],[]⟩))))
 (.next 1 ⟨[(0,(.ar .add .i64 (.var 7000) (.lit 1)))],[],[]⟩)))))
 (.ret ((.tup [(.one (.z (.bool (.lit true)))),(.one (.z (.int .i64 (.lit 0))))]),[],7)))))))))))
set_option maxRecDepth 100000 in
theorem c3c:T.norm 0 (call Tryz.prog b2e (Lt.of []) 150 24 (i6 0 [o0,pt,it]) [] 0) TT.ret=b0J:=by kernel_rfl
theorem b8n:b0J.low 1000=true:=by kernel_rfl
def b0y:TT j6:=
(.ite (.not (.fn 150 (.x (.var 0) (.x (.var 1) .nil))))
 (.ret ((.tup [(.one (.z (.const (.slice none 0 0)))),(.one (.z (.int .i64 (.lit 1))))]),[],1))
 (.ob (.tru (.fn 150 (.x (.var 0) (.x (.var 1) .nil))))
 (.loop 0 3000 ⟨[(0,(.lit 0)),(2,(.lit 0)),(0,(.lit 0))],[],[(1,.nil)]⟩
 (.ite (.cmp .lss (.var 3002) (.len (.fn 0 (.x (.var 0) (.x (.var 1) .nil)))))
 (.loop 1 5000 ⟨[(0,(.var 3000)),(1,(.ar .add .i64 (.var 3002) (.lit 1))),(0,(.var 3000))],[],[(2,(.var 3001))]⟩
 (.ite (.cmp .lss (.var 5001) (.len (.fn 0 (.x (.var 0) (.x (.var 1) .nil)))))
 (.ob (.tru (.cmp .leq (.lit 0) (.var 3002)))
 (.ob (.tru (.cmp .lss (.var 3002) (.len (.fn 0 (.x (.var 0) (.x (.var 1) .nil))))))
 (.ob (.tru (.cmp .leq (.lit 0) (.var 5001)))
 (.ob (.tru (.cmp .lss (.var 5001) (.len (.fn 0 (.x (.var 0) (.x (.var 1) .nil))))))
 (.ite (.cmp .lss (.rd (.fn 0 (.x (.var 0) (.x (.var 1) .nil))) (.var 3002) 5) (.rd (.fn 0 (.x (.var 0) (.x (.var 1) .nil))) (.var 5001) 4))
 (.ob (.tru (.cmp .leq (.lit 0) (.var 3002)))
 (.ob (.tru (.cmp .lss (.var 3002) (.len (.fn 0 (.x (.var 0) (.x (.var 1) .nil))))))
 (.ob (.tru (.cmp .leq (.lit 0) (.var 5001)))
 (.ob (.tru (.cmp .lss (.var 5001) (.len (.fn 0 (.x (.var 0) (.x (.var 1) .nil))))))
 (.ite (.cmp .leq (.ar .add .i64 (.ar .mul .i64 (.ar .sub .i64 (.rd (.fn 0 (.x (.var 0) (.x (.var 1) .nil))) (.var 5001) 1) (.rd (.fn 0 (.x (.var 0) (.x (.var 1) .nil))) (.var 3002) 1)) (.ar .sub .i64 (.rd (.fn 0 (.x (.var 0) (.x (.var 1) .nil))) (.var 5001) 1) (.rd (.fn 0 (.x (.var 0) (.x (.var 1) .nil))) (.var 3002) 1))) (.ar .mul .i64 (.ar .sub .i64 (.rd (.fn 0 (.x (.var 0) (.x (.var 1) .nil))) (.var 5001) 2) (.rd (.fn 0 (.x (.var 0) (.x (.var 1) .nil))) (.var 3002) 2)) (.ar .sub .i64 (.rd (.fn 0 (.x (.var 0) (.x (.var 1) .nil))) (.var 5001) 2) (.rd (.fn 0 (.x (.var 0) (.x (.var 1) .nil))) (.var 3002) 2)))) (.ar .mul .i64 (.ar .add .i64 (.rd (.fn 0 (.x (.var 0) (.x (.var 1) .nil))) (.var 3002) 3) (.rd (.fn 0 (.x (.var 0) (.x (.var 1) .nil))) (.var 5001) 3)) (.ar .add .i64 (.rd (.fn 0 (.x (.var 0) (.x (.var 1) .nil))) (.var 3002) 3) (.rd (.fn 0 (.x (.var 0) (.x (.var 1) .nil))) (.var 5001) 3))))
 (.ob (.tru (.cmp .leq (.lit 0) (.var 3002)))
 (.ob (.tru (.cmp .lss (.var 3002) (.len (.fn 0 (.x (.var 0) (.x (.var 1) .nil))))))
 (.ob (.tru (.cmp .leq (.lit 0) (.var 5001)))
 (.ob (.tru (.cmp .lss (.var 5001) (.len (.fn 0 (.x (.var 0) (.x (.var 1) .nil))))))
 (.ob (.tru (.cmp .leq (.len (.app (.var 5002) (.app (.row (.i (.rd (.fn 0 (.x (.var 0) (.x (.var 1) .nil))) (.var 3002) 0) (.i (.rd (.fn 0 (.x (.var 0) (.x (.var 1) .nil))) (.var 5001) 0) .nil))) .nil))) (.lit 1000000)))
 (.next 1 ⟨[(0,(.plus (.var 5000) (.lit 1))),(1,(.ar .add .i64 (.var 5001) (.lit 1))),(0,(.plus (.var 5000) (.lit 1)))],[],[(2,(.app (.var 5002) (.app (.row (.i (.rd (.fn 0 (.x (.var 0) (.x (.var 1) .nil))) (.var 3002) 0) (.i (.rd (.fn 0 (.x (.var 0) (.x (.var 1) .nil))) (.var 5001) 0) .nil))) .nil)))]⟩))))))
 (.next 1 ⟨[(0,(.var 5000)),(1,(.ar .add .i64 (.var 5001) (.lit 1))),(0,(.var 5000))],[],[(2,(.var 5002))]⟩))))))
 (.ob (.tru (.cmp .leq (.lit 0) (.var 5001)))
 (.ob (.tru (.cmp .lss (.var 5001) (.len (.fn 0 (.x (.var 0) (.x (.var 1) .nil))))))
 (.ob (.tru (.cmp .leq (.lit 0) (.var 3002)))
 (.ob (.tru (.cmp .lss (.var 3002) (.len (.fn 0 (.x (.var 0) (.x (.var 1) .nil))))))
 (.ite (.cmp .lss (.rd (.fn 0 (.x (.var 0) (.x (.var 1) .nil))) (.var 5001) 5) (.rd (.fn 0 (.x (.var 0) (.x (.var 1) .nil))) (.var 3002) 4))
 (.ob (.tru (.cmp .leq (.lit 0) (.var 3002)))
 (.ob (.tru (.cmp .lss (.var 3002) (.len (.fn 0 (.x (.var 0) (.x (.var 1) .nil))))))
 (.ob (.tru (.cmp .leq (.lit 0) (.var 5001)))
 (.ob (.tru (.cmp .lss (.var 5001) (.len (.fn 0 (.x (.var 0) (.x (.var 1) .nil))))))
 (.ite (.cmp .leq (.ar .add .i64 (.ar .mul .i64 (.ar .sub .i64 (.rd (.fn 0 (.x (.var 0) (.x (.var 1) .nil))) (.var 5001) 1) (.rd (.fn 0 (.x (.var 0) (.x (.var 1) .nil))) (.var 3002) 1)) (.ar .sub .i64 (.rd (.fn 0 (.x (.var 0) (.x (.var 1) .nil))) (.var 5001) 1) (.rd (.fn 0 (.x (.var 0) (.x (.var 1) .nil))) (.var 3002) 1))) (.ar .mul .i64 (.ar .sub .i64 (.rd (.fn 0 (.x (.var 0) (.x (.var 1) .nil))) (.var 5001) 2) (.rd (.fn 0 (.x (.var 0) (.x (.var 1) .nil))) (.var 3002) 2)) (.ar .sub .i64 (.rd (.fn 0 (.x (.var 0) (.x (.var 1) .nil))) (.var 5001) 2) (.rd (.fn 0 (.x (.var 0) (.x (.var 1) .nil))) (.var 3002) 2)))) (.ar .mul .i64 (.ar .add .i64 (.rd (.fn 0 (.x (.var 0) (.x (.var 1) .nil))) (.var 3002) 3) (.rd (.fn 0 (.x (.var 0) (.x (.var 1) .nil))) (.var 5001) 3)) (.ar .add .i64 (.rd (.fn 0 (.x (.var 0) (.x (.var 1) .nil))) (.var 3002) 3) (.rd (.fn 0 (.x (.var 0) (.x (.var 1) .nil))) (.var 5001) 3))))
 (.ob (.tru (.cmp .leq (.lit 0) (.var 3002)))
 (.ob (.tru (.cmp .lss (.var 3002) (.len (.fn 0 (.x (.var 0) (.x (.var 1) .nil))))))
 (.ob (.tru (.cmp .leq (.lit 0) (.var 5001)))
 (.ob (.tru (.cmp .lss (.var 5001) (.len (.fn 0 (.x (.var 0) (.x (.var 1) .nil))))))
 (.ob (.tru (.cmp .leq (.len (.app (.var 5002) (.app (.row (.i (.rd (.fn 0 (.x (.var 0) (.x (.var 1) .nil))) (.var 3002) 0) (.i (.rd (.fn 0 (.x (.var 0) (.x (.var 1) .nil))) (.var 5001) 0) .nil))) .nil))) (.lit 1000000)))
 (.next 1 ⟨[(0,(.plus (.var 5000) (.lit 1))),(1,(.ar .add .i64 (.var 5001) (.lit 1))),(0,(.plus (.var 5000) (.lit 1)))],[],[(2,(.app (.var 5002) (.app (.row (.i (.rd (.fn 0 (.x (.var 0) (.x (.var 1) .nil))) (.var 3002) 0) (.i (.rd (.fn 0 (.x (.var 0) (.x (.var 1) .nil))) (.var 5001) 0) .nil))) .nil)))]⟩))))))
 (.next 1 ⟨[(0,(.var 5000)),(1,(.ar .add .i64 (.var 5001) (.lit 1))),(0,(.var 5000))],[],[(2,(.var 5002))]⟩))))))
 (.next 1 ⟨[(0,(.var 5000)),(1,(.ar .add .i64 (.var 5001) (.lit 1))),(0,(.var 5000))],[],[(2,(.var 5002))]⟩)))))))))))
 (.next 0 ⟨[(0,(.var 5000)),(2,(.ar .add .i64 (.var 3002) (.lit 1))),(0,(.var 5000))],[],[(1,(.var 5002))]⟩)))
 (.ret ((.tup [(.one (.z (.own 3 (.var 3000)))),(.one (.z (.int .i64 (.lit 0))))]),[(3,(.own 67 [(.int .i64),(.int .i64)] (.var 3001) (.var 3000)))],22))))))
set_option maxRecDepth 100000 in
theorem c2z:T.norm 0 (call Tryz.prog b2e (Lt.of []) 150 26 (i6 0 [o0]) [] 0) TT.ret=b0y:=by kernel_rfl
theorem b8v:b0y.low 1000=true:=by kernel_rfl
theorem a7e(W:World)(ds l:List D):(f0 m9 W ds).fb 150 l=I6 l:=by simp only[f0,m9,B0,u5,y3,B1,t6,p9,v8]
theorem a0T(W:World)(ds l:List D):(f0 m9 W ds).fd 0 l=b2d l:=by simp only[f0,m9,B0,u5,y3,B1,t6,p9,v8]
theorem d0B(i1 k1 x1 y1 r1:Int)(a1:Rows)(d1 s1:Int)(t1:Rows)(px py:Int):W7 [.i i1,.i k1,.i x1,.i y1,.i r1,.l a1,.i d1,.i s1,.l t1,.i px,.i py]=((z6 i1 k1 x1 y1 r1 a1 d1 s1 t1&&g9 px py)&&F9 k1 x1 y1 r1 a1 px py):=rfl
theorem d4V:B9 Tryz.prog 16 [o0] [a9A] (fun _=>True) (fun _ ds vs u=>∃v,vs=[v]∧u= .tuple #[v,.int .i64 (C7 ds)]):=by
 refine H0 m9 (by kernel_rfl) (fun ρ h=>a3X (Sees.of h 230) (SeesD.of h 7)) (by kernel_rfl) c1e b8E (by decide) (fun w0 vals ds hr _=> ?_)
 simp only[b0m,g8,Nat.reduceBEq,Nat.reduceLT,Nat.reduceSub,a7e,a0T,R0,B3]
 have hR:a9A.rows ds=if q9 (d9 ds 0) (d9 ds 1)=true then(j5 (d9 ds 0)).map fun row=>[.i (cI row 0)] else []:=rfl
 have hE:C7 ds=if q9 (d9 ds 0) (d9 ds 1)=true then 0 else 1:=rfl
 clear hr
 generalize e0:d9 ds 0=s at*
 generalize e1:d9 ds 1=F at*
 refine⟨fun hv=> ?_,fun hv=> ?_⟩
 ·rw[hv] at hR hE
  exact G6 (x:= .nil) (by kernel_rfl) (by rw[hR];simp [X.ev]) (by rw[hE];simp [E.ev])
 ·rw[if_pos hv] at hR hE
  have hl:=a0e s
  have hok:=(z7.1 hv).1.2
  refine⟨hv,?_⟩
  refine TT.sat_loop (fun v=>∃i:Nat,v.i 2=i∧i≤(j5 s).length∧v.d 1=((j5 s).take i).map fun row=>[.i (cI row 0)]) (fun v=>(j5 s).length-(v.i 2).toNat)
   ⟨0,by simp [j7,i8,E.ev],by omega,by simp [D4,i8,X.ev]⟩ (fun v hv=> ?_)
  obtain⟨i,i0,i1,i2⟩:=hv
  simp only[g8,Nat.reduceBEq,Nat.reduceLT,Nat.reduceSub,i0,i2,e0,e1,a0T,B3]
  refine⟨fun hc=> ?_,fun hc=> ?_⟩
  ·have hi:i<(j5 s).length:=by omega
   rw[f8 ((i:Int)+1) (by omega) (by omega)]
   refine⟨by omega,by omega,?_,⟨i+1,rfl,by omega,?_⟩,by omega⟩
   ·rw[List.length_append,List.length_map,List.length_take]
    simp only[List.length_append,List.length_cons,List.length_nil]
    omega
   ·rw[b4H hi,j8 hi,List.append_nil]
  ·have hi:i=(j5 s).length:=by omega
   refine G6 (x:= .var 3001) (by kernel_rfl) ?_ (by rw[hE];simp [E.ev])
   rw[hR]
   simp only[X.ev,B6,Nat.reduceLT,if_false,Nat.reduceSub,i2,hi,List.take_length]
set_option maxHeartbeats 1000000 in
theorem d4S:k8 Tryz.prog 24 [o0,pt,it] (fun ds=> .tuple #[.bool (a5d ds),.int .i64 (a4s ds)]):=by
 refine GivesIf.all (i7 m9 (by kernel_rfl) (fun ρ h=>a3X (Sees.of h 230) (SeesD.of h 7)) (by kernel_rfl) c3c b8n (by decide) (fun W vals ds hr _=> ?_))
 have h9:=a1p hr
 simp only[b0J,g8,Nat.reduceBEq,Nat.reduceLT,Nat.reduceSub,a7e,a0T,R0,B3,d0s,a9b]
 have hR:a5d ds=((q9 (d9 ds 0) (d9 ds 1)&&g9 (c9 ds 2) (c9 ds 3))&&(decide (0≤c9 ds 4∧c9 ds 4≤100000)&&Z2 (d9 ds 0) (d9 ds 1) (c9 ds 2) (c9 ds 3) (c9 ds 4))):=rfl
 have hE:a4s ds=if (q9 (d9 ds 0) (d9 ds 1)&&g9 (c9 ds 2) (c9 ds 3))=true then 0 else 1:=rfl
 rw[hR,hE]
 clear hr hR hE
 generalize e0:d9 ds 0=s at*
 generalize e1:d9 ds 1=F at*
 generalize e2:c9 ds 2=px at*
 generalize e3:c9 ds 3=py at*
 generalize e4:c9 ds 4=d at*
 refine⟨fun hv=> ?_,fun hv=>⟨fun hp=> ?_,fun hp=>⟨fun hd=> ?_,fun hd=>⟨fun hd2=> ?_,fun hd2=> ?_⟩⟩⟩⟩
 ·rw[hv];rfl
 ·rw[hv,hp];rfl
 ·rw[hv,hp,decide_eq_false (by omega)];rfl
 ·rw[hv,hp,decide_eq_false (by omega)];rfl
 ·rw[hv,hp,decide_eq_true (by omega)]
  have hl:=a0e s
  obtain⟨⟨f1,f2⟩,f3,f4,f5⟩:=z7.1 hv
  refine⟨rfl,?_⟩
  simp only[Bool.and_self,Bool.true_and,if_true]
  have NO:∀b,Z2 s F px py d=b→Value.tuple #[.bool b,.int .i64 0]= .tuple #[.bool (Z2 s F px py d),.int .i64 0]:=fun b h=>by rw[h]
  refine TT.sat_loop (fun v=>∃i:Nat,v.i 0=i∧i≤(j5 s).length∧∀(k:Nat) (hk:k<(j5 s).length),k<i→V6 (j5 s)[k] px py d=false) (fun v=>(j5 s).length-(v.i 0).toNat)
   ⟨0,by simp [j7,i8,E.ev],by omega,fun k hk h=>by omega⟩ (fun v hv=> ?_)
  obtain⟨i,i0,i1,i2⟩:=hv
  simp only[g8,Nat.reduceBEq,Nat.reduceLT,Nat.reduceSub,i0,e0,e1,e2,e3,e4,a0T,B3,b1W,b1d,b6Q,b2c]
  refine⟨fun hc=> ?_,fun hc=> ?_⟩
  ·have hi:i<(j5 s).length:=by omega
   have hw1:IntKind.i64.wrap ((i:Int)+1)=((i+1:Nat):Int):=by rw[f8 _ (by omega) (by omega)];rfl
   have hm:(j5 s).length-(((i+1:Nat):Int)).toNat<(j5 s).length-(i:Int).toNat:=by omega
   simp only[j8 hi,hw1]
   have hsn:=(f3 _ (a3H.1 (List.getElem_mem hi)).1).1
   have hfe:=(R8 hsn).1
   have hoff0:V6 (j5 s)[i] px py d=(W7 [.i (cI (j5 s)[i] 0),.i 1,.i (cI (j5 s)[i] 1),.i (cI (j5 s)[i] 2),.i (cI (j5 s)[i] 3),.l [],.i (cI (j5 s)[i] 4),.i 0,.l [],.i px,.i py]&&(decide (d<cI (j5 s)[i] 4)||decide (cI (j5 s)[i] 5<d))):=rfl
   have hoff:V6 (j5 s)[i] px py d=(F9 1 (cI (j5 s)[i] 1) (cI (j5 s)[i] 2) (cI (j5 s)[i] 3) [] px py&&(decide (d<cI (j5 s)[i] 4)||decide (cI (j5 s)[i] 5<d))):=by
    rw[hoff0,d0B,hfe,hp];rfl
   rw[hfe,hp]
   clear hoff0
   generalize F9 _ _ _ _ _ _ _=H at*
   have NX:V6 (j5 s)[i] px py d=false→∀(k:Nat) (hk:k<(j5 s).length),k<i+1→V6 (j5 s)[k] px py d=false:=fun h k hk hki=>by
    by_cases e:k=i
    ·subst e;exact h
    ·exact i2 k hk (by omega)
   have YES:V6 (j5 s)[i] px py d=true→Z2 s F px py d=false:=fun h=>by
    unfold Z2
    have:((j5 s).all fun x=> !V6 x px py d)=false:=by
     rw[List.all_eq_false]
     exact⟨_,List.getElem_mem hi,by rw[h];decide⟩
    rw[this];rfl
   refine⟨by omega,by omega,⟨rfl,rfl⟩,fun h=>⟨by omega,by omega,fun g=>NO _ (YES ?_),fun g=>⟨by omega,by omega,fun g2=>NO _ (YES ?_),fun g2=>⟨⟨i+1,rfl,by omega,NX ?_⟩,hm⟩⟩⟩,fun h=>⟨⟨i+1,rfl,by omega,NX ?_⟩,hm⟩⟩
   ·rw[hoff,h,decide_eq_true g];rfl
   ·rw[hoff,h,decide_eq_true g2];simp
   ·rw[hoff,h,decide_eq_false g,decide_eq_false g2];rfl
   ·rw[hoff,h];rfl
  ·have hi:i=(j5 s).length:=by omega
   have hcur:((j5 s).all fun x=> !V6 x px py d)=true:=by
    rw[List.all_eq_true]
    intro x hx
    obtain⟨k,hk,rfl⟩:=List.getElem_of_mem hx
    rw[i2 k hk (by omega)];rfl
   have hA:Z2 s F px py d=F.all fun f=> !a1E f px py d:=by unfold Z2;rw[hcur];rfl
   refine TT.sat_loop (fun v=>∃j:Nat,v.i 0=j∧j≤F.length∧∀(k:Nat) (hk:k<F.length),k<j→a1E F[k] px py d=false) (fun v=>F.length-(v.i 0).toNat)
    ⟨0,by simp [j7,i8,E.ev],by omega,fun k hk h=>by omega⟩ (fun t ht=> ?_)
   obtain⟨j,j0,j1,j2⟩:=ht
   simp only[g8,Nat.reduceBEq,Nat.reduceLT,Nat.reduceSub,j0,e0,e1,e2,e3,e4,b1W,b1d,b6Q,b2c]
   refine⟨fun hcj=> ?_,fun hcj=> ?_⟩
   ·have hj:j<F.length:=by omega
    have hw1:IntKind.i64.wrap ((j:Int)+1)=((j+1:Nat):Int):=by rw[f8 _ (by omega) (by omega)];rfl
    have hm:F.length-(((j+1:Nat):Int)).toNat<F.length-(j:Int).toNat:=by omega
    simp only[j8 hj,I7 hj,hw1]
    have hfe:z6 (cI F[j] 0) (cI F[j] 1) (cI F[j] 2) (cI F[j] 3) (cI F[j] 4) (cR F[j] 5) (cI F[j] 6) (cI F[j] 7) (cR F[j] 8)=true:=((P4.1 f1).1 _ (List.getElem_mem hj)).1
    have hoff:a1E F[j] px py d=(F9 (cI F[j] 1) (cI F[j] 2) (cI F[j] 3) (cI F[j] 4) (cR F[j] 5) px py&&decide (d<cI F[j] 6)):=by
     unfold a1E
     rw[←c0B (h9 _ (List.getElem_mem hj)) px py,d0B,hfe,hp];rfl
    rw[hfe,hp]
    have NX:a1E F[j] px py d=false→∀(k:Nat) (hk:k<F.length),k<j+1→a1E F[k] px py d=false:=fun h k hk hki=>by
     by_cases e:k=j
     ·subst e;exact h
     ·exact j2 k hk (by omega)
    refine⟨by omega,by omega,⟨rfl,rfl⟩,fun h=>⟨by omega,by omega,fun g=>NO _ ?_,fun g=>⟨⟨j+1,rfl,by omega,NX ?_⟩,hm⟩⟩,fun h=>⟨⟨j+1,rfl,by omega,NX ?_⟩,hm⟩⟩
    ·rw[hA,List.all_eq_false]
     exact⟨_,List.getElem_mem hj,by rw[hoff,h,decide_eq_true g];decide⟩
    ·rw[hoff,h,decide_eq_false g];rfl
    ·rw[hoff,h];rfl
   ·refine NO _ ?_
    rw[hA,List.all_eq_true]
    intro f hf
    obtain⟨k,hk,rfl⟩:=List.getElem_of_mem hf
    rw[j2 k hk (by omega)];rfl
theorem d5L{x y:List D}(hx:P0 x=true)(hy:P0 y=true):clB x y=true↔(cI x 5<cI y 4∨cI y 5<cI x 4)∧p6 .leq (IntKind.i64.wrap (IntKind.i64.wrap (IntKind.i64.wrap (cI y 1-cI x 1)*IntKind.i64.wrap (cI y 1-cI x 1))+IntKind.i64.wrap (IntKind.i64.wrap (cI y 2-cI x 2)*IntKind.i64.wrap (cI y 2-cI x 2)))) (IntKind.i64.wrap (IntKind.i64.wrap (cI x 3+cI y 3)*IntKind.i64.wrap (cI x 3+cI y 3))):=by
 obtain⟨f1,g1,_⟩:=R8 hx
 obtain⟨f2,g2,_⟩:=R8 hy
 obtain⟨p1,r1⟩:=H7 f1 (by decide) (by decide)
 obtain⟨p2,r2⟩:=H7 f2 (by decide) (by decide)
 have hT:R3 (H6 x++H6 y)=decide (p7 (cI x 1) (cI x 2) (cI y 1) (cI y 2)≤(cI y 3+cI x 3)*(cI y 3+cI x 3)):=by
  have e:R3 (H6 x++H6 y)=((z6 (cI x 0) 1 (cI x 1) (cI x 2) (cI x 3) [] (cI x 4) 0 []&&z6 (cI y 0) 1 (cI y 1) (cI y 2) (cI y 3) [] (cI y 4) 0 [])&&B8 (cI y 1) (cI y 2) (cI x 1) (cI x 2) (cI x 1) (cI x 2) (cI y 3+cI x 3)):=rfl
  rw[e,f1,f2,b4j];rfl
 rw[t9] at p1 p2
 have c1:=n9 p2.1 p1.1 p2.1 p1.1
 have c2:=n9 p2.2 p1.2 p2.2 p1.2
 have c3:=N7 (a:=cI x 3+cI y 3) (b:=cI x 3+cI y 3) (A:=200000) (B:=200000) (by omega) (by omega) (by omega) (by omega)
 rw[m6 p2.1 p1.1,m6 p2.2 p1.2,c1.1,c2.1,M8 p2.1 p1.1 p2.1 p1.1 p2.2 p1.2 p2.2 p1.2,f8 (cI x 3+cI y 3) (by omega) (by omega),f8 ((cI x 3+cI y 3)*(cI x 3+cI y 3)) (by omega) (by omega)]
 have hd:(cI y 1-cI x 1)*(cI y 1-cI x 1)+(cI y 2-cI x 2)*(cI y 2-cI x 2)=p7 (cI x 1) (cI x 2) (cI y 1) (cI y 2):=by unfold p7;grind
 rw[hd,Int.add_comm (cI x 3)]
 unfold clB
 rw[hT,Bool.and_eq_true,decide_eq_true_eq,decide_eq_true_eq]
 simp only[p6]
 constructor
 ·exact fun h=>⟨by omega,h.2⟩
 ·exact fun h=>⟨by omega,h.2⟩
set_option maxHeartbeats 1000000 in
theorem d5T:B9 Tryz.prog 26 [o0] [b7j] (fun _=>True) (fun _ ds vs u=>∃v,vs=[v]∧u= .tuple #[v,.int .i64 (C7 ds)]):=by
 refine H0 m9 (by kernel_rfl) (fun ρ h=>a3X (Sees.of h 230) (SeesD.of h 7)) (by kernel_rfl) c2z b8v (by decide) (fun w0 vals ds hr _=> ?_)
 simp only[b0y,g8,Nat.reduceBEq,Nat.reduceLT,Nat.reduceSub,a7e,a0T,R0,B3]
 have hR:b7j.rows ds=if q9 (d9 ds 0) (d9 ds 1)=true then R6 (j5 (d9 ds 0)) else []:=rfl
 have hE:C7 ds=if q9 (d9 ds 0) (d9 ds 1)=true then 0 else 1:=rfl
 clear hr
 generalize e0:d9 ds 0=s at*
 generalize e1:d9 ds 1=F at*
 refine⟨fun hv=> ?_,fun hv=> ?_⟩
 ·rw[hv] at hR hE
  exact G6 (x:= .nil) (by kernel_rfl) (by rw[hR];simp [X.ev]) (by rw[hE];simp [E.ev])
 ·rw[if_pos hv] at hR hE
  have hl:=a0e s
  obtain⟨⟨f1,f2⟩,f3,f4,f5⟩:=z7.1 hv
  refine⟨hv,?_⟩
  have hsn:∀(k:Nat) (hk:k<(j5 s).length),P0 (j5 s)[k]=true:=fun k hk=>(f3 _ (a3H.1 (List.getElem_mem hk)).1).1
  generalize hC:j5 s=C at*
  have hq:=b0x C
  have hq2:C.length*C.length≤300*300:=Nat.mul_le_mul (by omega) (by omega)
  refine TT.sat_loop (fun v=>∃i:Nat,v.i 2=i∧i≤C.length∧v.d 1++R6 (C.drop i)=R6 C) (fun v=>C.length-(v.i 2).toNat)
   ⟨0,by simp [j7,i8,E.ev],by omega,by simp [D4,i8,X.ev]⟩ (fun v hv=> ?_)
  obtain⟨i,i0,i1,i2⟩:=hv
  simp only[g8,Nat.reduceBEq,Nat.reduceLT,Nat.reduceSub,i0,e0,e1,a0T,B3,hC]
  refine⟨fun hc=> ?_,fun hc=> ?_⟩
  ·have hi:i<C.length:=by omega
   have hw1:IntKind.i64.wrap ((i:Int)+1)=((i+1:Nat):Int):=by rw[f8 _ (by omega) (by omega)];rfl
   have hm:C.length-(((i+1:Nat):Int)).toNat<C.length-(i:Int).toNat:=by omega
   have hdr:C.drop i=C[i]::C.drop (i+1):=List.drop_eq_getElem_cons hi
   rw[hdr,R6] at i2
   refine TT.sat_loop (fun t=>∃j:Nat,t.i 1=j∧i+1≤j∧j≤C.length∧t.d 2++(((C.drop j).filter (clB C[i])).map (prR C[i])++R6 (C.drop (i+1)))=R6 C) (fun t=>C.length-(t.i 1).toNat)
    ⟨i+1,by simp [j7,i8,E.ev,a0W,B5,i0,hw1],by omega,by omega,by simpa [D4,i8,X.ev,B6] using i2⟩ (fun t ht=> ?_)
   obtain⟨j,j0,j1',j1,j2⟩:=ht
   simp only[g8,Nat.reduceBEq,Nat.reduceLT,Nat.reduceSub,i0,j0,e0,e1,a0T,B3,hC,hw1,show((0:Nat)=1)=False from by simp,if_false]
   refine⟨fun hcj=> ?_,fun hcj=> ?_⟩
   ·have hj:j<C.length:=by omega
    have hw2:IntKind.i64.wrap ((j:Int)+1)=((j+1:Nat):Int):=by rw[f8 _ (by omega) (by omega)];rfl
    have hm2:C.length-(((j+1:Nat):Int)).toNat<C.length-(j:Int).toNat:=by omega
    have hdj:C.drop j=C[j]::C.drop (j+1):=List.drop_eq_getElem_cons hj
    have htot:=congrArg List.length j2
    simp only[List.length_append] at htot
    simp only[hw2,j8 hi,j8 hj]
    rw[hdj] at j2
    have hcl:=d5L (hsn i hi) (hsn j hj)
    have NO:¬clB C[i] C[j]=true→(∃j':Nat,((j+1:Nat):Int)=j'∧i+1≤j'∧j'≤C.length∧t.d 2++(((C.drop j').filter (clB C[i])).map (prR C[i])++R6 (C.drop (i+1)))=R6 C)∧C.length-(((j+1:Nat):Int)).toNat<C.length-(j:Int).toNat:=fun h=>by
     rw[List.filter_cons_of_neg h] at j2
     exact⟨⟨j+1,rfl,by omega,by omega,j2⟩,hm2⟩
    have YES:clB C[i] C[j]=true→((t.d 2++([[D.i (cI C[i] 0),D.i (cI C[j] 0)]]++[])).length:Int)≤1000000∧(∃j':Nat,((j+1:Nat):Int)=j'∧i+1≤j'∧j'≤C.length∧(t.d 2++([[D.i (cI C[i] 0),D.i (cI C[j] 0)]]++[]))++(((C.drop j').filter (clB C[i])).map (prR C[i])++R6 (C.drop (i+1)))=R6 C)∧C.length-(((j+1:Nat):Int)).toNat<C.length-(j:Int).toNat:=fun h=>by
     rw[List.filter_cons_of_pos h,List.map_cons] at j2
     have hl2:=congrArg List.length j2
     simp only[List.length_append,List.length_map,List.length_cons,List.length_nil] at hl2 ⊢
     refine⟨by omega,⟨j+1,rfl,by omega,by omega,?_⟩,hm2⟩
     rw[←j2]
     simp only[List.append_assoc,List.cons_append,List.nil_append,List.append_nil]
     rfl
    refine⟨by omega,by omega,by omega,by omega,fun a=>⟨by omega,by omega,by omega,by omega,fun b=>⟨by omega,by omega,by omega,by omega,YES (hcl.2 ⟨.inl a,b⟩)⟩,fun b=>NO fun q=>b (hcl.1 q).2⟩,fun a=>⟨by omega,by omega,by omega,by omega,fun c=>⟨by omega,by omega,by omega,by omega,fun b=>⟨by omega,by omega,by omega,by omega,YES (hcl.2 ⟨.inr c,b⟩)⟩,fun b=>NO fun q=>b (hcl.1 q).2⟩,fun c=>NO fun q=>(hcl.1 q).1.elim a c⟩⟩
   ·have hj:j=C.length:=by omega
    have hnil:C.drop j=[]:=List.drop_eq_nil_of_le (by omega)
    rw[hnil] at j2
    exact⟨⟨i+1,rfl,by omega,j2⟩,hm⟩
  ·have hi:i=C.length:=by omega
   refine G6 (x:= .var 3001) (by kernel_rfl) ?_ (by rw[hE];simp [E.ev])
   rw[hR]
   have hnil:C.drop i=[]:=List.drop_eq_nil_of_le (by omega)
   rw[hnil,R6,List.append_nil] at i2
   simp only[X.ev,B6,Nat.reduceLT,if_false,Nat.reduceSub,i2]
structure MI (F C:Rows) (k i:Nat) (O:Rows):Prop where
 len:O.length=k+i
 ris:o5 O
 mem:∀x,x∈O↔x∈F.take k∨x∈C.take i
 ltF:∀x∈O,∀f∈F.drop k,cI x 0<cI f 0
 ltC:∀x∈O,∀c∈C.drop i,cI x 0<cI c 0
theorem MI.symm{F C:Rows}{k i:Nat}{O:Rows}(h:MI F C k i O):MI C F i k O:=⟨by rw[h.len,Nat.add_comm],h.ris,fun x=>by rw[h.mem,Or.comm],h.ltC,h.ltF⟩
theorem d1W(F C:Rows):MI F C 0 0 []:=⟨rfl,List.Pairwise.nil,fun x=>by simp,fun x hx=>(List.not_mem_nil hx).elim,fun x hx=>(List.not_mem_nil hx).elim⟩
theorem a4X{C:Rows}(hC:o5 C){i:Nat}(hi:i<C.length):(∀c∈C.drop (i+1),cI C[i] 0<cI c 0)∧∀c∈C.drop i,cI C[i] 0≤cI c 0:=by
 have hd:C.drop i=C[i]::C.drop (i+1):=List.drop_eq_getElem_cons hi
 have hp:o5 (C.drop i):=hC.sublist (List.drop_sublist _ _)
 rw[hd] at hp ⊢
 have h1:=(List.pairwise_cons.1 hp).1
 refine⟨h1,fun c hc=> ?_⟩
 rcases List.mem_cons.1 hc with rfl | hc
 ·exact Int.le_refl _
 ·exact Int.le_of_lt (h1 c hc)
theorem MI.push{F C:Rows}(hF:o5 F){k i:Nat}{O:Rows}(h:MI F C k i O)(hk:k<F.length)(hlt:∀c∈C.drop i,cI F[k] 0<cI c 0):MI F C (k+1) i (O++[F[k]]):=by
 have hd:F.drop k=F[k]::F.drop (k+1):=List.drop_eq_getElem_cons hk
 have hin:F[k]∈F.drop k:=by rw[hd];exact List.mem_cons_self ..
 refine⟨?_,?_,fun x=> ?_,fun x hx f hf=> ?_,fun x hx c hc=> ?_⟩
 ·rw[List.length_append,h.len,List.length_singleton];omega
 ·unfold o5
  rw[List.pairwise_append]
  refine⟨h.ris,List.pairwise_singleton ..,fun a ha b hb=> ?_⟩
  obtain rfl:=List.mem_singleton.1 hb
  exact h.ltF a ha _ hin
 ·rw[List.mem_append,h.mem,List.take_succ_eq_append_getElem hk,List.mem_append]
  constructor
  ·rintro((q | q) | q)
   ·exact .inl (.inl q)
   ·exact .inr q
   ·exact .inl (.inr q)
  ·rintro((q | q) | q)
   ·exact .inl (.inl q)
   ·exact .inr q
   ·exact .inl (.inr q)
 ·rcases List.mem_append.1 hx with hx | hx
  ·exact h.ltF x hx f (by rw[hd];exact List.mem_cons_of_mem _ hf)
  ·obtain rfl:=List.mem_singleton.1 hx
   exact(a4X hF hk).1 f hf
 ·rcases List.mem_append.1 hx with hx | hx
  ·exact h.ltC x hx c hc
  ·obtain rfl:=List.mem_singleton.1 hx
   exact hlt c hc
set_option maxHeartbeats 2000000 in
theorem c3W:B9 Tryz.prog 19 [o0] [a7j] (fun _=>True) (fun _ ds vs u=>∃v,vs=[v]∧u= .tuple #[v,.int .i64 (C7 ds)]):=by
 refine H0 m9 (by kernel_rfl) (fun ρ h=>a3X (Sees.of h 230) (SeesD.of h 7)) (by kernel_rfl) c2W b7B (by decide) (fun w0 vals ds hr _=> ?_)
 have h9:=a1p hr
 simp only[b1l,g8,Nat.reduceBEq,Nat.reduceLT,Nat.reduceSub,a7e,a0T,R0,B3]
 have hR:a7j.rows ds=if q9 (d9 ds 0) (d9 ds 1)=true then mdS (d9 ds 0) (d9 ds 1) else []:=rfl
 have hE:C7 ds=if q9 (d9 ds 0) (d9 ds 1)=true then 0 else 1:=rfl
 clear hr
 generalize e0:d9 ds 0=s at*
 generalize e1:d9 ds 1=F at*
 refine⟨fun hv=> ?_,fun hv=>⟨hv,?_⟩⟩
 ·rw[hv] at hR hE
  exact G6 (x:= .nil) (by kernel_rfl) (by rw[hR];simp [X.ev]) (by rw[hE];simp [E.ev])
 rw[if_pos hv] at hR hE
 have hl:=a0e s
 obtain⟨⟨f1,f2⟩,f3,f4,f5⟩:=z7.1 hv
 have hF:o5 F:=(P4.1 f1).2.1
 have hM:o5 ((j5 s).map H6):=a3n f4
 have hml:((j5 s).map H6).length=(j5 s).length:=List.length_map ..
 have hmi:∀(i:Nat) (hi:i<(j5 s).length),((j5 s).map H6)[i]'(by omega)=H6 (j5 s)[i]:=fun i hi=>List.getElem_map ..
 have row:∀(k:Nat) (hk:k<F.length),[D.i (cI F[k] 0),.i (cI F[k] 1),.i (cI F[k] 2),.i (cI F[k] 3),.i (cI F[k] 4),.l (cR F[k] 5),.i (cI F[k] 6),.i (cI F[k] 7),.l (cR F[k] 8)]=F[k]:=fun k hk=>(h9 _ (List.getElem_mem hk)).symm
 have END:∀O,MI F ((j5 s).map H6) F.length (j5 s).length O→O=mdS s F:=fun O h=>b0Y h.ris (d2e hv) fun x=>by
  rw[h.mem,d2S,List.take_length,List.take_of_length_le (by omega),List.mem_map]
 refine TT.sat_loop (fun v=>∃i k:Nat,v.i 3=i∧v.i 2=k∧i≤(j5 s).length∧k≤F.length∧MI F ((j5 s).map H6) k i (v.d 1)) (fun v=>(j5 s).length-(v.i 3).toNat)
  ⟨0,0,by simp [j7,i8,E.ev],by simp [j7,i8,E.ev],by omega,by omega,by simpa [D4,i8,X.ev] using d1W _ _⟩ (fun v hv'=> ?_)
 obtain⟨i,k0,i0,i1,i2,i3,i4⟩:=hv'
 simp only[g8,Nat.reduceBEq,Nat.reduceLT,Nat.reduceSub,i0,i1,e0,e1,a0T,B3]
 refine⟨fun hc=> ?_,fun hc=> ?_⟩
 ·have hi:i<(j5 s).length:=by omega
  have hw1:IntKind.i64.wrap ((i:Int)+1)=((i+1:Nat):Int):=by rw[f8 _ (by omega) (by omega)];rfl
  have hm1:(j5 s).length-(((i+1:Nat):Int)).toNat<(j5 s).length-(i:Int).toNat:=by omega
  refine TT.sat_loop (fun u=>∃k:Nat,u.i 1=k∧k≤F.length∧MI F ((j5 s).map H6) k i (u.d 2)) (fun u=>F.length-(u.i 1).toNat)
   ⟨k0,by simp [j7,i8,E.ev,a0W,i1],i3,by simpa [D4,i8,X.ev,B6] using i4⟩ (fun u hu=> ?_)
  obtain⟨k,j0,j1,j2⟩:=hu
  have hol:=j2.len
  simp only[g8,Nat.reduceBEq,Nat.reduceLT,Nat.reduceSub,i0,j0,e0,e1,a0T,B3,hw1,show((0:Nat)=1)=False from by simp,if_false]
  have PC:(∀f∈F.drop k,cI (j5 s)[i] 0<cI f 0)→((u.d 2++([[D.i (cI (j5 s)[i] 0),.i 1,.i (cI (j5 s)[i] 1),.i (cI (j5 s)[i] 2),.i (cI (j5 s)[i] 3),.l [],.i (cI (j5 s)[i] 4),.i 0,.l []]]++[])).length:Int)≤1000000∧(∃i' k':Nat,((i+1:Nat):Int)=i'∧(k:Int)=k'∧i'≤(j5 s).length∧k'≤F.length∧MI F ((j5 s).map H6) k' i' (u.d 2++([[D.i (cI (j5 s)[i] 0),.i 1,.i (cI (j5 s)[i] 1),.i (cI (j5 s)[i] 2),.i (cI (j5 s)[i] 3),.l [],.i (cI (j5 s)[i] 4),.i 0,.l []]]++[])))∧(j5 s).length-(((i+1:Nat):Int)).toNat<(j5 s).length-(i:Int).toNat:=fun h=>by
   refine⟨by rw[List.length_append,List.append_nil,List.length_singleton];omega,⟨i+1,k,rfl,rfl,by omega,j1,?_⟩,hm1⟩
   have hp:=(MI.push hM j2.symm (k:=i) (by omega) (fun c hc'=>by rw[hmi i hi];exact h c hc')).symm
   rw[hmi i hi] at hp
   rw[List.append_nil]
   exact hp
  refine⟨fun hk=> ?_,fun hk=> ?_⟩
  ·have hkF:k<F.length:=by omega
   have hw2:IntKind.i64.wrap ((k:Int)+1)=((k+1:Nat):Int):=by rw[f8 _ (by omega) (by omega)];rfl
   have hm2:F.length-(((k+1:Nat):Int)).toNat<F.length-(k:Int).toNat:=by omega
   simp only[j8 hi,j8 hkF,I7 hkF,hw2,row k hkF]
   refine⟨by omega,by omega,by omega,by omega,fun q=>⟨by omega,by omega,?_,⟨k+1,rfl,by omega,?_⟩,hm2⟩,fun q=>⟨by omega,by omega,PC fun f hf=> ?_⟩⟩
   ·rw[List.length_append,List.append_nil,List.length_singleton];omega
   ·rw[List.append_nil]
    refine MI.push hF j2 hkF fun c hc'=> ?_
    have:=(a4X hM (i:=i) (by omega)).2 c hc'
    rw[hmi i hi] at this
    exact Int.lt_of_lt_of_le q this
   ·have h1:=(a4X hF hkF).2 f hf
    have h2:=f5 _ (a3H.1 (List.getElem_mem hi)).1 _ (List.getElem_mem hkF)
    omega
  ·have hkF:k=F.length:=by omega
   simp only[j8 hi]
   exact⟨by omega,by omega,PC fun f hf=>by rw[hkF,List.drop_length] at hf;exact(List.not_mem_nil hf).elim⟩
 ·have hi:i=(j5 s).length:=by omega
  refine TT.sat_loop (fun u=>∃k:Nat,u.i 1=k∧k≤F.length∧MI F ((j5 s).map H6) k i (u.d 2)) (fun u=>F.length-(u.i 1).toNat)
   ⟨k0,by simp [j7,i8,E.ev,a0W,i1],i3,by simpa [D4,i8,X.ev,B6] using i4⟩ (fun u hu=> ?_)
  obtain⟨k,j0,j1,j2⟩:=hu
  have hol:=j2.len
  simp only[g8,Nat.reduceBEq,Nat.reduceLT,Nat.reduceSub,j0,e0,e1]
  refine⟨fun hk=> ?_,fun hk=> ?_⟩
  ·have hkF:k<F.length:=by omega
   have hw2:IntKind.i64.wrap ((k:Int)+1)=((k+1:Nat):Int):=by rw[f8 _ (by omega) (by omega)];rfl
   have hm2:F.length-(((k+1:Nat):Int)).toNat<F.length-(k:Int).toNat:=by omega
   simp only[j8 hkF,I7 hkF,hw2,row k hkF]
   refine⟨by omega,by omega,?_,⟨k+1,rfl,by omega,?_⟩,hm2⟩
   ·rw[List.length_append,List.append_nil,List.length_singleton];omega
   ·rw[List.append_nil]
    refine MI.push hF j2 hkF fun c hc'=> ?_
    rw[hi,List.drop_of_length_le (by omega)] at hc'
    exact(List.not_mem_nil hc').elim
  ·have hkF:k=F.length:=by omega
   rw[hkF,hi] at j2
   refine G6 (x:= .var 10002) (by kernel_rfl) ?_ (by rw[hE];simp [E.ev])
   rw[hR,←END _ j2]
   simp only[X.ev,B6,Nat.reduceLT,if_false,Nat.reduceSub]
section
variable {ρ:Env} (h:Sees ρ m9 230) (hd:SeesD ρ m9 7)
include h hd
theorem a8C{f:FuncId}(g:B9 Tryz.prog f [o0] [a7j] (fun _=>True) (fun _ ds vs u=>∃v,vs=[v]∧u= .tuple #[v,.int .i64 (C7 ds)])):i9 Tryz.prog ρ f Z5:=by
 intro args mem nx q hq hle σ W vals hr hfr hdl
 unfold Z5 at hq
 split at hq
 ·rename_i al ha
  refine a9O g ha (fun _=>trivial) (fun l hl a=> ?_) hq (fun σ' vs u hv hl hres=> ?_) hr hfr hdl
  ·obtain rfl:=List.mem_singleton.1 hl
   exact(hd 2 a (by decide)).trans rfl
  ·obtain⟨v,rfl,rfl⟩:=hres
   obtain⟨a1,a2,a3,a4,a5⟩:=hv 0 v rfl
   refine⟨[v,.int .i64 (C7 (al.ev ρ))],⟨⟨⟨a2,a3,a4,a5⟩,a1⟩,?_,trivial⟩,rfl⟩
   show Value.int .i64 (C7 (al.ev ρ))= .int .i64 ((iF 160 C7 al).ev ρ)
   rw[o6 (s:=160) (f:=C7) (fun l=>(h 160 l (by decide)).1.trans rfl)]
 ·exact hq.elim
theorem b3n{f:FuncId}{l:NL}(hl:l.ks.all CK.flat=true)(hs:l.s<7)(hR:∀a,m9.fd l.s a=l.rows a)(g:B9 Tryz.prog f [o0] [l] (fun _=>True) (fun _ ds vs u=>∃v,vs=[v]∧u= .tuple #[v,.int .i64 (C7 ds)])):
 i9 Tryz.prog ρ f (a9c [o0] l (fun _=>[]) fun al nx=> .tup [.one (.z (.own nx (.lit 0))),.one (w6 160 C7 al)]):=by
 refine a8F g hl (fun al _=>trivial) (fun a=>(hd l.s a hs).trans (hR a)) (fun al nx σ' v hv=> ?_)
 refine⟨[v,.int .i64 (C7 (al.ev ρ))],⟨hv,?_,trivial⟩,rfl⟩
 show Value.int .i64 (C7 (al.ev ρ))= .int .i64 ((iF 160 C7 al).ev ρ)
 rw[o6 (s:=160) (f:=C7) (fun l=>(h 160 l (by decide)).1.trans rfl)]
end
theorem d2H{ρ:Env}(h:Sees ρ m9 230):Sees ρ F4 132:=b0A (a4d (a6W (a3T h)))
def b6g:Ct:=(19,Z5)::(51,a7N)::b2e
theorem a7f{ρ:Env}(h:Sees ρ m9 230)(hd:SeesD ρ m9 7):CtOk Tryz.prog ρ b6g:= .cons (a8C h hd c3W)<| .cons (a7s (d2H h))<|a3X h hd
end Go.Proofs.YtldbejmgalhdaaaGreat
