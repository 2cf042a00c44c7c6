/- NP, merged: TG9, G9, H1, H2, H3. -/
import Derived.Test.YtcjaembdcfppfaaGreatNG
set_option linter.unusedSimpArgs false
set_option linter.unusedVariables false
namespace Go.Proofs.YtcjaembdcfppfaaGreat
open Go.RowKit
def b0i:TT j4:=
(.ite (.fn 150 (.i (.var 0) (.i (.var 1) (.i (.var 2) (.i (.var 3) (.i (.var 4) (.x (.var 5) .nil)))))))
 (.ite (.cmp .geq (.var 6) (.lit 0))
 (.ite (.not (.cmp .leq (.var 6) (.lit 100000)))
 (.ret ((.tup [(.one (.z (.const (.slice none 0 0)))),(.one (.z (.int .i64 (.lit 1))))]),[],2))
 (.loop 0 3000 ⟨[(0,(.lit 0)),(2,(.lit 0)),(0,(.lit 0))],[],[(1,.nil)]⟩
 (.ite (.cmp .lss (.var 3002) (.len (.var 5)))
 (.ob (.tru (.cmp .leq (.lit 0) (.var 3002)))
 (.ob (.tru (.cmp .lss (.var 3002) (.len (.var 5))))
 (.ite (.cmp .lss (.rd (.var 5) (.var 3002) 0) (.var 6))
 (.ob (.tru (.cmp .leq (.len (.app (.var 3001) (.app (.row (.i (.var 3002) .nil)) .nil))) (.lit 1000000)))
 (.next 0 ⟨[(0,(.plus (.var 3000) (.lit 1))),(2,(.ar .add .i64 (.var 3002) (.lit 1))),(0,(.plus (.var 3000) (.lit 1)))],[],[(1,(.app (.var 3001) (.app (.row (.i (.var 3002) .nil)) .nil)))]⟩))
 (.next 0 ⟨[(0,(.var 3000)),(2,(.ar .add .i64 (.var 3002) (.lit 1))),(0,(.var 3000))],[],[(1,(.var 3001))]⟩))))
 (.ret ((.tup [(.one (.z (.own 3 (.var 3000)))),(.one (.z (.int .i64 (.lit 0))))]),[(3,(.own 3 [(.int .i64)] (.var 3001) (.var 3000)))],5)))))
 (.ret ((.tup [(.one (.z (.const (.slice none 0 0)))),(.one (.z (.int .i64 (.lit 1))))]),[],2)))
 (.ret ((.tup [(.one (.z (.const (.slice none 0 0)))),(.one (.z (.int .i64 (.lit 1))))]),[],2)))
def c2r:List (Nat×St):=[
(2,⟨(List.append [(.v (.agg [(.z (.int .i64 (.var 0))),(.z (.int .i64 (.var 1))),(.z (.int .i64 (.var 2))),(.z (.int .i64 (.var 3))),(.z (.int .i64 (.var 4))),(.z (.ext [(.int .i64)] (.var 5) false))])),(.v (.one (.z (.int .i64 (.var 6))))),(.v (.one (.z (.ptr 0 0)))),(.v (.one (.z .any))),(.v (.one (.z (.const (.slice none 0 0))))),(.v (.one (.z (.int .i64 (.lit 0))))),(.v (.one (.z (.own 3 (.var 3000))))),(.v (.one (.z .any))),(.v (.one (.z .any))),(.v (.agg [(.z (.int .i64 (.var 0))),(.z (.int .i64 (.var 1))),(.z (.int .i64 (.var 2))),(.z (.int .i64 (.var 3))),(.z (.int .i64 (.var 4))),(.z (.ext [(.int .i64)] (.var 5) false))])),(.v (.one (.z (.int .i64 (.var 6))))),(.v (.one (.z (.bool (.cmp .leq (.var 6) (.lit 100000)))))),(.v (.one (.z (.bool (.not (.cmp .leq (.var 6) (.lit 100000))))))),(.v (.one (.z (.ptr 0 5)))),(.v (.one (.z (.ext [(.int .i64)] (.var 5) false)))),(.v (.one (.z (.int .i64 (.len (.var 5)))))),(.v (.one (.z (.int .i64 (.var 3002)))))] (List.replicate 13 V.any)),[(3,(.own 3 [(.int .i64)] (.var 3001) (.var 3000))),(0,(.cells 26 [(.z (.int .i64 (.var 0))),(.z (.int .i64 (.var 1))),(.z (.int .i64 (.var 2))),(.z (.int .i64 (.var 3))),(.z (.int .i64 (.var 4))),(.z (.ext [(.int .i64)] (.var 5) false))]))],4,[]⟩)]
def c2b:List (FuncId×Nat×Nat×St):=[
]
set_option maxRecDepth 100000 in
theorem b8P:T.norm 0 (call Tryz.prog a9J ⟨Lt.un (Lt.of []),c2r,c2b⟩ 200 17 (g7 0 [l8,it]) [] 0) TT.ret=b0i:=by kernel_rfl
theorem b5U:b0i.low 1000=true:=by kernel_rfl
def a9H:TT j4:=
(.ite (.fn 150 (.i (.var 0) (.i (.var 1) (.i (.var 2) (.i (.var 3) (.i (.var 4) (.x (.var 5) .nil)))))))
 (.ite (.cmp .geq (.var 6) (.lit 0))
 (.ite (.not (.cmp .leq (.var 6) (.lit 100000)))
 (.ret ((.tup [(.one (.z (.const (.slice none 0 0)))),(.one (.z (.int .i64 (.lit 1))))]),[],2))
 (.ob (.tru (.cmp .leq (.lit 0) (.len (.var 5))))
 (.ob (.tru (.cmp .leq (.len (.var 5)) (.lit 1000000)))
 (.loop 0 4000 ⟨[(1,(.lit 0)),(0,(.lit 0))],[],[(2,(.rep (.len (.var 5)) (.i (.lit 0) .nil)))]⟩
 (.ite (.cmp .lss (.var 4000) (.len (.var 5)))
 (.ob (.tru (.cmp .leq (.lit 0) (.var 4000)))
 (.ob (.tru (.cmp .lss (.var 4000) (.len (.var 5))))
 (.ite (.cmp .lss (.rd (.var 5) (.var 4000) 0) (.var 6))
 (.next 0 ⟨[(1,(.var 4001)),(0,(.ar .add .i64 (.var 4000) (.lit 1)))],[],[(2,(.var 4002))]⟩)
 (.ob (.tru (.cmp .leq (.lit 0) (.var 4000)))
 (.ob (.tru (.cmp .lss (.var 4000) (.len (.var 4002))))
 (.ite (.cmp .gtr (.rd (.var 4002) (.var 4000) 0) (.lit 0))
 (.next 0 ⟨[(1,(.var 4001)),(0,(.ar .add .i64 (.var 4000) (.lit 1)))],[],[(2,(.var 4002))]⟩)
 (.ob (.tru (.fn 150 (.i (.var 0) (.i (.var 1) (.i (.var 2) (.i (.var 3) (.i (.var 4) (.x (.var 5) .nil))))))))
 (.ob (.tru (.cmp .leq (.lit 0) (.var 4000)))
 (.ob (.tru (.cmp .lss (.var 4000) (.len (.var 5))))
 (.loop 1 6000 ⟨[(0,(.lit 0))],[],[(1,(.var 4002))]⟩
 (.ite (.cmp .lss (.var 6000) (.len (.fn 1 (.i (.var 0) (.i (.var 1) (.i (.var 2) (.i (.var 3) (.i (.var 4) (.x (.var 5) (.i (.var 6) (.i (.var 4000) .nil)))))))))))
 (.ob (.tru (.cmp .leq (.lit 0) (.var 6000)))
 (.ob (.tru (.cmp .lss (.var 6000) (.len (.fn 1 (.i (.var 0) (.i (.var 1) (.i (.var 2) (.i (.var 3) (.i (.var 4) (.x (.var 5) (.i (.var 6) (.i (.var 4000) .nil))))))))))))
 (.ite (.cmp .geq (.rd (.fn 1 (.i (.var 0) (.i (.var 1) (.i (.var 2) (.i (.var 3) (.i (.var 4) (.x (.var 5) (.i (.var 6) (.i (.var 4000) .nil))))))))) (.var 6000) 0) (.lit 0))
 (.ob (.tru (.cmp .leq (.lit 0) (.var 6000)))
 (.ob (.tru (.cmp .lss (.var 6000) (.len (.var 6001))))
 (.next 1 ⟨[(0,(.ar .add .i64 (.var 6000) (.lit 1)))],[],[(1,(.upd (.var 6001) (.var 6000) 0 (.i (.ar .add .i64 (.var 4001) (.lit 1)) .nil)))]⟩)))
 (.next 1 ⟨[(0,(.ar .add .i64 (.var 6000) (.lit 1)))],[],[(1,(.var 6001))]⟩))))
 (.next 0 ⟨[(1,(.ar .add .i64 (.var 4001) (.lit 1))),(0,(.ar .add .i64 (.var 4000) (.lit 1)))],[],[(2,(.var 6001))]⟩))))))))))))
 (.ret ((.tup [(.one (.z (.own 2 (.lit 0)))),(.one (.z (.int .i64 (.lit 0))))]),[(2,(.own 3 [(.int .i64)] (.var 4002) (.lit 0))),(2,(.own 3 [(.int .i64)] (.rep (.len (.var 5)) (.i (.lit 0) .nil)) (.lit 0)))],6)))))))
 (.ret ((.tup [(.one (.z (.const (.slice none 0 0)))),(.one (.z (.int .i64 (.lit 1))))]),[],2)))
 (.ret ((.tup [(.one (.z (.const (.slice none 0 0)))),(.one (.z (.int .i64 (.lit 1))))]),[],2)))
def c0Z:List (Nat×St):=[
(3,⟨(List.append [(.v (.agg [(.z (.int .i64 (.var 0))),(.z (.int .i64 (.var 1))),(.z (.int .i64 (.var 2))),(.z (.int .i64 (.var 3))),(.z (.int .i64 (.var 4))),(.z (.ext [(.int .i64)] (.var 5) false))])),(.v (.one (.z (.int .i64 (.var 6))))),(.v (.one (.z (.ptr 0 0)))),(.v (.one (.z .any))),(.v (.one (.z (.const (.slice none 0 0))))),(.v (.one (.z (.int .i64 (.lit 0))))),(.v (.one (.z (.own 2 (.lit 0))))),(.v (.one (.z (.int .i64 (.var 4001)))))] (List.append (List.replicate 4 V.any) (List.append [(.v (.agg [(.z (.int .i64 (.var 0))),(.z (.int .i64 (.var 1))),(.z (.int .i64 (.var 2))),(.z (.int .i64 (.var 3))),(.z (.int .i64 (.var 4))),(.z (.ext [(.int .i64)] (.var 5) false))])),(.v (.one (.z (.int .i64 (.var 6))))),(.v (.one (.z (.bool (.cmp .leq (.var 6) (.lit 100000)))))),(.v (.one (.z (.bool (.not (.cmp .leq (.var 6) (.lit 100000))))))),(.v (.one (.z (.ptr 0 5)))),(.v (.one (.z (.ext [(.int .i64)] (.var 5) false)))),(.v (.one (.z (.int .i64 (.len (.var 5)))))),(.v (.one (.z (.own 2 (.lit 0))))),(.v (.one (.z (.ptr 0 5)))),(.v (.one (.z (.ext [(.int .i64)] (.var 5) false)))),(.v (.one (.z (.int .i64 (.len (.var 5)))))),(.v (.one (.z (.int .i64 (.var 4000)))))] (List.replicate 35 V.any)))),[(2,(.own 3 [(.int .i64)] (.var 4002) (.lit 0))),(0,(.cells 26 [(.z (.int .i64 (.var 0))),(.z (.int .i64 (.var 1))),(.z (.int .i64 (.var 2))),(.z (.int .i64 (.var 3))),(.z (.int .i64 (.var 4))),(.z (.ext [(.int .i64)] (.var 5) false))]))],4,[]⟩),
(5,⟨(List.append [(.v (.agg [(.z (.int .i64 (.var 0))),(.z (.int .i64 (.var 1))),(.z (.int .i64 (.var 2))),(.z (.int .i64 (.var 3))),(.z (.int .i64 (.var 4))),(.z (.ext [(.int .i64)] (.var 5) false))])),(.v (.one (.z (.int .i64 (.var 6))))),(.v (.one (.z (.ptr 0 0)))),(.v (.one (.z .any))),(.v (.one (.z (.const (.slice none 0 0))))),(.v (.one (.z (.int .i64 (.lit 0))))),(.v (.one (.z (.own 2 (.lit 0))))),(.v (.one (.z (.int .i64 (.ar .add .i64 (.var 4001) (.lit 1)))))),(.v (.one (.z (.int .i64 (.var 4000))))),(.v (.one (.z (.int .i64 (.rd (.var 5) (.var 4000) 0))))),(.v (.one (.z .any))),(.v (.one (.z .any))),(.v (.agg [(.z (.int .i64 (.var 0))),(.z (.int .i64 (.var 1))),(.z (.int .i64 (.var 2))),(.z (.int .i64 (.var 3))),(.z (.int .i64 (.var 4))),(.z (.ext [(.int .i64)] (.var 5) false))])),(.v (.one (.z (.int .i64 (.var 6))))),(.v (.one (.z (.bool (.cmp .leq (.var 6) (.lit 100000)))))),(.v (.one (.z (.bool (.not (.cmp .leq (.var 6) (.lit 100000))))))),(.v (.one (.z (.ptr 0 5)))),(.v (.one (.z (.ext [(.int .i64)] (.var 5) false)))),(.v (.one (.z (.int .i64 (.len (.var 5)))))),(.v (.one (.z (.own 2 (.lit 0))))),(.v (.one (.z (.ptr 0 5)))),(.v (.one (.z (.ext [(.int .i64)] (.var 5) false)))),(.v (.one (.z (.int .i64 (.len (.var 5)))))),(.v (.one (.z (.int .i64 (.var 4000))))),(.v (.one (.z (.bool (.cmp .lss (.var 4000) (.len (.var 5))))))),(.v (.one (.z (.int .i64 (.var 4000))))),(.v (.one (.z (.eptr [(.int .i64)] (.var 5) (.var 4000) 0)))),(.v (.one (.z (.int .i64 (.rd (.var 5) (.var 4000) 0))))),(.v (.one (.z (.int .i64 (.rd (.var 5) (.var 4000) 0))))),(.v (.one (.z (.int .i64 (.var 6))))),(.v (.one (.z (.bool (.cmp .lss (.rd (.var 5) (.var 4000) 0) (.var 6)))))),(.v (.one (.z (.bool (.lit false))))),(.v (.one (.z (.own 2 (.lit 0))))),(.v (.one (.z (.int .i64 (.var 4000))))),(.v (.one (.z (.optr 2 (.lit 0) 1 (.var 4000) 0)))),(.v (.one (.z (.int .i64 (.rd (.var 4002) (.var 4000) 0))))),(.v (.one (.z (.bool (.cmp .gtr (.rd (.var 4002) (.var 4000) 0) (.lit 0)))))),(.v (.one (.z (.bool (.cmp .gtr (.rd (.var 4002) (.var 4000) 0) (.lit 0)))))),(.v (.one (.z (.int .i64 (.var 4001))))),(.v (.one (.z (.int .i64 (.ar .add .i64 (.var 4001) (.lit 1)))))),(.v (.agg [(.z (.int .i64 (.var 0))),(.z (.int .i64 (.var 1))),(.z (.int .i64 (.var 2))),(.z (.int .i64 (.var 3))),(.z (.int .i64 (.var 4))),(.z (.ext [(.int .i64)] (.var 5) false))])),(.v (.one (.z (.int .i64 (.var 6))))),(.v (.one (.z (.int .i64 (.var 4000))))),(.v (.one (.z (.own 4 (.lit 0))))),(.v (.one (.z (.int .i64 (.len (.fn 1 (.i (.var 0) (.i (.var 1) (.i (.var 2) (.i (.var 3) (.i (.var 4) (.x (.var 5) (.i (.var 6) (.i (.var 4000) .nil)))))))))))))),(.v (.one (.z (.int .i64 (.var 6000)))))] (List.replicate 13 V.any)),[(4,(.own 3 [(.int .i64)] (.fn 1 (.i (.var 0) (.i (.var 1) (.i (.var 2) (.i (.var 3) (.i (.var 4) (.x (.var 5) (.i (.var 6) (.i (.var 4000) .nil))))))))) (.lit 0))),(2,(.own 3 [(.int .i64)] (.var 6001) (.lit 0))),(0,(.cells 26 [(.z (.int .i64 (.var 0))),(.z (.int .i64 (.var 1))),(.z (.int .i64 (.var 2))),(.z (.int .i64 (.var 3))),(.z (.int .i64 (.var 4))),(.z (.ext [(.int .i64)] (.var 5) false))]))],6,[]⟩)]
def c1y:List (FuncId×Nat×Nat×St):=[
]
set_option maxRecDepth 100000 in
theorem b7F:T.norm 0 (call Tryz.prog a9J ⟨Lt.un (Lt.of []),c0Z,c1y⟩ 200 20 (g7 0 [l8,it]) [] 0) TT.ret=a9H:=by kernel_rfl
theorem b4U:a9H.low 1000=true:=by kernel_rfl
def b3m:TT j4:=
(.ite (.fn 150 (.i (.var 0) (.i (.var 1) (.i (.var 2) (.i (.var 3) (.i (.var 4) (.x (.var 5) .nil)))))))
 (.ite (.cmp .geq (.var 6) (.lit 0))
 (.ite (.not (.cmp .leq (.var 6) (.lit 100000)))
 (.ret ((.tup [(.one (.z (.const (.slice none 0 0)))),(.one (.z (.int .i64 (.lit 1))))]),[],2))
 (.ite (.cmp .lss (.var 7) (.lit 0))
 (.ret ((.tup [(.one (.z (.const (.slice none 0 0)))),(.one (.z (.int .i64 (.lit 1))))]),[],2))
 (.ite (.cmp .geq (.var 7) (.len (.var 5)))
 (.ret ((.tup [(.one (.z (.const (.slice none 0 0)))),(.one (.z (.int .i64 (.lit 1))))]),[],2))
 (.ite (.cmp .lss (.var 8) (.lit 0))
 (.ret ((.tup [(.one (.z (.const (.slice none 0 0)))),(.one (.z (.int .i64 (.lit 1))))]),[],2))
 (.ite (.cmp .geq (.var 8) (.len (.var 5)))
 (.ret ((.tup [(.one (.z (.const (.slice none 0 0)))),(.one (.z (.int .i64 (.lit 1))))]),[],2))
 (.ob (.tru (.fn 150 (.i (.var 0) (.i (.var 1) (.i (.var 2) (.i (.var 3) (.i (.var 4) (.x (.var 5) .nil))))))))
 (.ob (.tru (.cmp .leq (.lit 0) (.var 8)))
 (.ob (.tru (.cmp .lss (.var 8) (.len (.var 5))))
 (.ob (.tru (.cmp .leq (.lit 0) (.var 7)))
 (.ob (.tru (.cmp .lss (.var 7) (.len (.var 5))))
 (.ite (.cmp .lss (.rd (.var 5) (.var 7) 0) (.var 6))
 (.ret ((.tup [(.one (.z (.const (.slice none 0 0)))),(.one (.z (.int .i64 (.lit 4))))]),[],4))
 (.ob (.tru (.cmp .leq (.lit 0) (.var 8)))
 (.ob (.tru (.cmp .lss (.var 8) (.len (.var 5))))
 (.ite (.cmp .lss (.rd (.var 5) (.var 8) 0) (.var 6))
 (.ret ((.tup [(.one (.z (.const (.slice none 0 0)))),(.one (.z (.int .i64 (.lit 4))))]),[],4))
 (.ob (.tru (.cmp .leq (.lit 0) (.var 7)))
 (.ob (.tru (.cmp .lss (.var 7) (.len (.fn 1 (.i (.var 0) (.i (.var 1) (.i (.var 2) (.i (.var 3) (.i (.var 4) (.x (.var 5) (.i (.var 6) (.i (.var 8) .nil))))))))))))
 (.ite (.cmp .lss (.rd (.fn 1 (.i (.var 0) (.i (.var 1) (.i (.var 2) (.i (.var 3) (.i (.var 4) (.x (.var 5) (.i (.var 6) (.i (.var 8) .nil))))))))) (.var 7) 0) (.lit 0))
 (.ret ((.tup [(.one (.z (.const (.slice none 0 0)))),(.one (.z (.int .i64 (.lit 4))))]),[],4))
 (.loop 0 7000 ⟨[(0,(.lit 0)),(0,(.lit 0)),(1,(.var 7)),(0,(.lit 0)),(0,(.lit 0))],[],[(2,(.app (.row (.i (.var 7) .nil)) .nil))]⟩
 (.ite (.cmp .neq (.var 7001) (.var 8))
 (.ob (.tru (.cmp .neq (.var 3) (.lit 0)))
 (.ob (.tru (.cmp .neq (.var 3) (.lit 0)))
 (.ite (.cmp .eql (.ar .quo .i64 (.var 7001) (.var 3)) (.lit 0))
 (.ite (.cmp .eql (.ar .rem .i64 (.var 7001) (.var 3)) (.lit 0))
 (.ite (.cmp .eql (.ar .rem .i64 (.var 7001) (.var 3)) (.ar .sub .i64 (.var 3) (.lit 1)))
 (.ite (.cmp .lss (.ar .quo .i64 (.var 7001) (.var 3)) (.ar .sub .i64 (.var 4) (.lit 1)))
 (.ob (.tru (.cmp .leq (.lit 0) (.ar .add .i64 (.var 7001) (.var 3))))
 (.ob (.tru (.cmp .lss (.ar .add .i64 (.var 7001) (.var 3)) (.len (.fn 1 (.i (.var 0) (.i (.var 1) (.i (.var 2) (.i (.var 3) (.i (.var 4) (.x (.var 5) (.i (.var 6) (.i (.var 8) .nil))))))))))))
 (.ob (.tru (.cmp .leq (.lit 0) (.var 7001)))
 (.ob (.tru (.cmp .lss (.var 7001) (.len (.fn 1 (.i (.var 0) (.i (.var 1) (.i (.var 2) (.i (.var 3) (.i (.var 4) (.x (.var 5) (.i (.var 6) (.i (.var 8) .nil))))))))))))
 (.ite (.cmp .eql (.rd (.fn 1 (.i (.var 0) (.i (.var 1) (.i (.var 2) (.i (.var 3) (.i (.var 4) (.x (.var 5) (.i (.var 6) (.i (.var 8) .nil))))))))) (.ar .add .i64 (.var 7001) (.var 3)) 0) (.ar .sub .i64 (.rd (.fn 1 (.i (.var 0) (.i (.var 1) (.i (.var 2) (.i (.var 3) (.i (.var 4) (.x (.var 5) (.i (.var 6) (.i (.var 8) .nil))))))))) (.var 7001) 0) (.lit 1)))
 (.ob (.tru (.cmp .leq (.len (.app (.var 7002) (.app (.row (.i (.ar .add .i64 (.var 7001) (.var 3)) .nil)) .nil))) (.lit 1000000)))
 (.next 0 ⟨[(0,(.plus (.var 7000) (.lit 1))),(0,(.plus (.var 7000) (.lit 1))),(1,(.ar .add .i64 (.var 7001) (.var 3))),(0,(.plus (.var 7000) (.lit 1))),(0,(.plus (.var 7000) (.lit 1)))],[],[(2,(.app (.var 7002) (.app (.row (.i (.ar .add .i64 (.var 7001) (.var 3)) .nil)) .nil)))]⟩))
 (.ob (.tru (.cmp .leq (.len (.app (.var 7002) (.app (.row (.i (.var 7001) .nil)) .nil))) (.lit 1000000)))
 (.next 0 ⟨[(0,(.plus (.var 7000) (.lit 1))),(0,(.plus (.var 7000) (.lit 1))),(1,(.var 7001)),(0,(.plus (.var 7000) (.lit 1))),(0,(.plus (.var 7000) (.lit 1)))],[],[(2,(.app (.var 7002) (.app (.row (.i (.var 7001) .nil)) .nil)))]⟩)))))))
 (.ob (.tru (.cmp .leq (.len (.app (.var 7002) (.app (.row (.i (.var 7001) .nil)) .nil))) (.lit 1000000)))
 (.next 0 ⟨[(0,(.plus (.var 7000) (.lit 1))),(0,(.plus (.var 7000) (.lit 1))),(1,(.var 7001)),(0,(.plus (.var 7000) (.lit 1))),(0,(.plus (.var 7000) (.lit 1)))],[],[(2,(.app (.var 7002) (.app (.row (.i (.var 7001) .nil)) .nil)))]⟩)))
 (.ob (.tru (.cmp .leq (.lit 0) (.ar .add .i64 (.var 7001) (.lit 1))))
 (.ob (.tru (.cmp .lss (.ar .add .i64 (.var 7001) (.lit 1)) (.len (.fn 1 (.i (.var 0) (.i (.var 1) (.i (.var 2) (.i (.var 3) (.i (.var 4) (.x (.var 5) (.i (.var 6) (.i (.var 8) .nil))))))))))))
 (.ob (.tru (.cmp .leq (.lit 0) (.var 7001)))
 (.ob (.tru (.cmp .lss (.var 7001) (.len (.fn 1 (.i (.var 0) (.i (.var 1) (.i (.var 2) (.i (.var 3) (.i (.var 4) (.x (.var 5) (.i (.var 6) (.i (.var 8) .nil))))))))))))
 (.ite (.cmp .eql (.rd (.fn 1 (.i (.var 0) (.i (.var 1) (.i (.var 2) (.i (.var 3) (.i (.var 4) (.x (.var 5) (.i (.var 6) (.i (.var 8) .nil))))))))) (.ar .add .i64 (.var 7001) (.lit 1)) 0) (.ar .sub .i64 (.rd (.fn 1 (.i (.var 0) (.i (.var 1) (.i (.var 2) (.i (.var 3) (.i (.var 4) (.x (.var 5) (.i (.var 6) (.i (.var 8) .nil))))))))) (.var 7001) 0) (.lit 1)))
 (.ob (.tru (.cmp .leq (.len (.app (.var 7002) (.app (.row (.i (.ar .add .i64 (.var 7001) (.lit 1)) .nil)) .nil))) (.lit 1000000)))
 (.next 0 ⟨[(0,(.plus (.var 7000) (.lit 1))),(0,(.plus (.var 7000) (.lit 1))),(1,(.ar .add .i64 (.var 7001) (.lit 1))),(0,(.plus (.var 7000) (.lit 1))),(0,(.plus (.var 7000) (.lit 1)))],[],[(2,(.app (.var 7002) (.app (.row (.i (.ar .add .i64 (.var 7001) (.lit 1)) .nil)) .nil)))]⟩))
 (.ite (.cmp .lss (.ar .quo .i64 (.var 7001) (.var 3)) (.ar .sub .i64 (.var 4) (.lit 1)))
 (.ob (.tru (.cmp .leq (.lit 0) (.ar .add .i64 (.var 7001) (.var 3))))
 (.ob (.tru (.cmp .lss (.ar .add .i64 (.var 7001) (.var 3)) (.len (.fn 1 (.i (.var 0) (.i (.var 1) (.i (.var 2) (.i (.var 3) (.i (.var 4) (.x (.var 5) (.i (.var 6) (.i (.var 8) .nil))))))))))))
 (.ob (.tru (.cmp .leq (.lit 0) (.var 7001)))
 (.ob (.tru (.cmp .lss (.var 7001) (.len (.fn 1 (.i (.var 0) (.i (.var 1) (.i (.var 2) (.i (.var 3) (.i (.var 4) (.x (.var 5) (.i (.var 6) (.i (.var 8) .nil))))))))))))
 (.ite (.cmp .eql (.rd (.fn 1 (.i (.var 0) (.i (.var 1) (.i (.var 2) (.i (.var 3) (.i (.var 4) (.x (.var 5) (.i (.var 6) (.i (.var 8) .nil))))))))) (.ar .add .i64 (.var 7001) (.var 3)) 0) (.ar .sub .i64 (.rd (.fn 1 (.i (.var 0) (.i (.var 1) (.i (.var 2) (.i (.var 3) (.i (.var 4) (.x (.var 5) (.i (.var 6) (.i (.var 8) .nil))))))))) (.var 7001) 0) (.lit 1)))
 (.ob (.tru (.cmp .leq (.len (.app (.var 7002) (.app (.row (.i (.ar .add .i64 (.var 7001) (.var 3)) .nil)) .nil))) (.lit 1000000)))
 (.next 0 ⟨[(0,(.plus (.var 7000) (.lit 1))),(0,(.plus (.var 7000) (.lit 1))),(1,(.ar .add .i64 (.var 7001) (.var 3))),(0,(.plus (.var 7000) (.lit 1))),(0,(.plus (.var 7000) (.lit 1)))],[],[(2,(.app (.var 7002) (.app (.row (.i (.ar .add .i64 (.var 7001) (.var 3)) .nil)) .nil)))]⟩))
 (.ob (.tru (.cmp .leq (.len (.app (.var 7002) (.app (.row (.i (.var 7001) .nil)) .nil))) (.lit 1000000)))
 (.next 0 ⟨[(0,(.plus (.var 7000) (.lit 1))),(0,(.plus (.var 7000) (.lit 1))),(1,(.var 7001)),(0,(.plus (.var 7000) (.lit 1))),(0,(.plus (.var 7000) (.lit 1)))],[],[(2,(.app (.var 7002) (.app (.row (.i (.var 7001) .nil)) .nil)))]⟩)))))))
 (.ob (.tru (.cmp .leq (.len (.app (.var 7002) (.app (.row (.i (.var 7001) .nil)) .nil))) (.lit 1000000)))
 (.next 0 ⟨[(0,(.plus (.var 7000) (.lit 1))),(0,(.plus (.var 7000) (.lit 1))),(1,(.var 7001)),(0,(.plus (.var 7000) (.lit 1))),(0,(.plus (.var 7000) (.lit 1)))],[],[(2,(.app (.var 7002) (.app (.row (.i (.var 7001) .nil)) .nil)))]⟩)))))))))
 (.ob (.tru (.cmp .leq (.lit 0) (.ar .sub .i64 (.var 7001) (.lit 1))))
 (.ob (.tru (.cmp .lss (.ar .sub .i64 (.var 7001) (.lit 1)) (.len (.fn 1 (.i (.var 0) (.i (.var 1) (.i (.var 2) (.i (.var 3) (.i (.var 4) (.x (.var 5) (.i (.var 6) (.i (.var 8) .nil))))))))))))
 (.ob (.tru (.cmp .leq (.lit 0) (.var 7001)))
 (.ob (.tru (.cmp .lss (.var 7001) (.len (.fn 1 (.i (.var 0) (.i (.var 1) (.i (.var 2) (.i (.var 3) (.i (.var 4) (.x (.var 5) (.i (.var 6) (.i (.var 8) .nil))))))))))))
 (.ite (.cmp .eql (.rd (.fn 1 (.i (.var 0) (.i (.var 1) (.i (.var 2) (.i (.var 3) (.i (.var 4) (.x (.var 5) (.i (.var 6) (.i (.var 8) .nil))))))))) (.ar .sub .i64 (.var 7001) (.lit 1)) 0) (.ar .sub .i64 (.rd (.fn 1 (.i (.var 0) (.i (.var 1) (.i (.var 2) (.i (.var 3) (.i (.var 4) (.x (.var 5) (.i (.var 6) (.i (.var 8) .nil))))))))) (.var 7001) 0) (.lit 1)))
 (.ob (.tru (.cmp .leq (.len (.app (.var 7002) (.app (.row (.i (.ar .sub .i64 (.var 7001) (.lit 1)) .nil)) .nil))) (.lit 1000000)))
 (.next 0 ⟨[(0,(.plus (.var 7000) (.lit 1))),(0,(.plus (.var 7000) (.lit 1))),(1,(.ar .sub .i64 (.var 7001) (.lit 1))),(0,(.plus (.var 7000) (.lit 1))),(0,(.plus (.var 7000) (.lit 1)))],[],[(2,(.app (.var 7002) (.app (.row (.i (.ar .sub .i64 (.var 7001) (.lit 1)) .nil)) .nil)))]⟩))
 (.ite (.cmp .eql (.ar .rem .i64 (.var 7001) (.var 3)) (.ar .sub .i64 (.var 3) (.lit 1)))
 (.ite (.cmp .lss (.ar .quo .i64 (.var 7001) (.var 3)) (.ar .sub .i64 (.var 4) (.lit 1)))
 (.ob (.tru (.cmp .leq (.lit 0) (.ar .add .i64 (.var 7001) (.var 3))))
 (.ob (.tru (.cmp .lss (.ar .add .i64 (.var 7001) (.var 3)) (.len (.fn 1 (.i (.var 0) (.i (.var 1) (.i (.var 2) (.i (.var 3) (.i (.var 4) (.x (.var 5) (.i (.var 6) (.i (.var 8) .nil))))))))))))
 (.ob (.tru (.cmp .leq (.lit 0) (.var 7001)))
 (.ob (.tru (.cmp .lss (.var 7001) (.len (.fn 1 (.i (.var 0) (.i (.var 1) (.i (.var 2) (.i (.var 3) (.i (.var 4) (.x (.var 5) (.i (.var 6) (.i (.var 8) .nil))))))))))))
 (.ite (.cmp .eql (.rd (.fn 1 (.i (.var 0) (.i (.var 1) (.i (.var 2) (.i (.var 3) (.i (.var 4) (.x (.var 5) (.i (.var 6) (.i (.var 8) .nil))))))))) (.ar .add .i64 (.var 7001) (.var 3)) 0) (.ar .sub .i64 (.rd (.fn 1 (.i (.var 0) (.i (.var 1) (.i (.var 2) (.i (.var 3) (.i (.var 4) (.x (.var 5) (.i (.var 6) (.i (.var 8) .nil))))))))) (.var 7001) 0) (.lit 1)))
 (.ob (.tru (.cmp .leq (.len (.app (.var 7002) (.app (.row (.i (.ar .add .i64 (.var 7001) (.var 3)) .nil)) .nil))) (.lit 1000000)))
 (.next 0 ⟨[(0,(.plus (.var 7000) (.lit 1))),(0,(.plus (.var 7000) (.lit 1))),(1,(.ar .add .i64 (.var 7001) (.var 3))),(0,(.plus (.var 7000) (.lit 1))),(0,(.plus (.var 7000) (.lit 1)))],[],[(2,(.app (.var 7002) (.app (.row (.i (.ar .add .i64 (.var 7001) (.var 3)) .nil)) .nil)))]⟩))
 (.ob (.tru (.cmp .leq (.len (.app (.var 7002) (.app (.row (.i (.var 7001) .nil)) .nil))) (.lit 1000000)))
 (.next 0 ⟨[(0,(.plus (.var 7000) (.lit 1))),(0,(.plus (.var 7000) (.lit 1))),(1,(.var 7001)),(0,(.plus (.var 7000) (.lit 1))),(0,(.plus (.var 7000) (.lit 1)))],[],[(2,(.app (.var 7002) (.app (.row (.i (.var 7001) .nil)) .nil)))]⟩)))))))
 (.ob (.tru (.cmp .leq (.len (.app (.var 7002) (.app (.row (.i (.var 7001) .nil)) .nil))) (.lit 1000000)))
 (.next 0 ⟨[(0,(.plus (.var 7000) (.lit 1))),(0,(.plus (.var 7000) (.lit 1))),(1,(.var 7001)),(0,(.plus (.var 7000) (.lit 1))),(0,(.plus (.var 7000) (.lit 1)))],[],[(2,(.app (.var 7002) (.app (.row (.i (.var 7001) .nil)) .nil)))]⟩)))
 (.ob (.tru (.cmp .leq (.lit 0) (.ar .add .i64 (.var 7001) (.lit 1))))
 (.ob (.tru (.cmp .lss (.ar .add .i64 (.var 7001) (.lit 1)) (.len (.fn 1 (.i (.var 0) (.i (.var 1) (.i (.var 2) (.i (.var 3) (.i (.var 4) (.x (.var 5) (.i (.var 6) (.i (.var 8) .nil))))))))))))
 (.ob (.tru (.cmp .leq (.lit 0) (.var 7001)))
 (.ob (.tru (.cmp .lss (.var 7001) (.len (.fn 1 (.i (.var 0) (.i (.var 1) (.i (.var 2) (.i (.var 3) (.i (.var 4) (.x (.var 5) (.i (.var 6) (.i (.var 8) .nil))))))))))))
 (.ite (.cmp .eql (.rd (.fn 1 (.i (.var 0) (.i (.var 1) (.i (.var 2) (.i (.var 3) (.i (.var 4) (.x (.var 5) (.i (.var 6) (.i (.var 8) .nil))))))))) (.ar .add .i64 (.var 7001) (.lit 1)) 0) (.ar .sub .i64 (.rd (.fn 1 (.i (.var 0) (.i (.var 1) (.i (.var 2) (.i (.var 3) (.i (.var 4) (.x (.var 5) (.i (.var 6) (.i (.var 8) .nil))))))))) (.var 7001) 0) (.lit 1)))
 (.ob (.tru (.cmp .leq (.len (.app (.var 7002) (.app (.row (.i (.ar .add .i64 (.var 7001) (.lit 1)) .nil)) .nil))) (.lit 1000000)))
 (.next 0 ⟨[(0,(.plus (.var 7000) (.lit 1))),(0,(.plus (.var 7000) (.lit 1))),(1,(.ar .add .i64 (.var 7001) (.lit 1))),(0,(.plus (.var 7000) (.lit 1))),(0,(.plus (.var 7000) (.lit 1)))],[],[(2,(.app (.var 7002) (.app (.row (.i (.ar .add .i64 (.var 7001) (.lit 1)) .nil)) .nil)))]⟩))
 (.ite (.cmp .lss (.ar .quo .i64 (.var 7001) (.var 3)) (.ar .sub .i64 (.var 4) (.lit 1)))
 (.ob (.tru (.cmp .leq (.lit 0) (.ar .add .i64 (.var 7001) (.var 3))))
 (.ob (.tru (.cmp .lss (.ar .add .i64 (.var 7001) (.var 3)) (.len (.fn 1 (.i (.var 0) (.i (.var 1) (.i (.var 2) (.i (.var 3) (.i (.var 4) (.x (.var 5) (.i (.var 6) (.i (.var 8) .nil))))))))))))
 (.ob (.tru (.cmp .leq (.lit 0) (.var 7001)))
 (.ob (.tru (.cmp .lss (.var 7001) (.len (.fn 1 (.i (.var 0) (.i (.var 1) (.i (.var 2) (.i (.var 3) (.i (.var 4) (.x (.var 5) (.i (.var 6) (.i (.var 8) .nil))))))))))))
 (.ite (.cmp .eql (.rd (.fn 1 (.i (.var 0) (.i (.var 1) (.i (.var 2) (.i (.var 3) (.i (.var 4) (.x (.var 5) (.i (.var 6) (.i (.var 8) .nil))))))))) (.ar .add .i64 (.var 7001) (.var 3)) 0) (.ar .sub .i64 (.rd (.fn 1 (.i (.var 0) (.i (.var 1) (.i (.var 2) (.i (.var 3) (.i (.var 4) (.x (.var 5) (.i (.var 6) (.i (.var 8) .nil))))))))) (.var 7001) 0) (.lit 1)))
 (.ob (.tru (.cmp .leq (.len (.app (.var 7002) (.app (.row (.i (.ar .add .i64 (.var 7001) (.var 3)) .nil)) .nil))) (.lit 1000000)))
 (.next 0 ⟨[(0,(.plus (.var 7000) (.lit 1))),(0,(.plus (.var 7000) (.lit 1))),(1,(.ar .add .i64 (.var 7001) (.var 3))),(0,(.plus (.var 7000) (.lit 1))),(0,(.plus (.var 7000) (.lit 1)))],[],[(2,(.app (.var 7002) (.app (.row (.i (.ar .add .i64 (.var 7001) (.var 3)) .nil)) .nil)))]⟩))
 (.ob (.tru (.cmp .leq (.len (.app (.var 7002) (.app (.row (.i (.var 7001) .nil)) .nil))) (.lit 1000000)))
 (.next 0 ⟨[(0,(.plus (.var 7000) (.lit 1))),(0,(.plus (.var 7000) (.lit 1))),(1,(.var 7001)),(0,(.plus (.var 7000) (.lit 1))),(0,(.plus (.var 7000) (.lit 1)))],[],[(2,(.app (.var 7002) (.app (.row (.i (.var 7001) .nil)) .nil)))]⟩)))))))
 (.ob (.tru (.cmp .leq (.len (.app (.var 7002) (.app (.row (.i (.var 7001) .nil)) .nil))) (.lit 1000000)))
 (.next 0 ⟨[(0,(.plus (.var 7000) (.lit 1))),(0,(.plus (.var 7000) (.lit 1))),(1,(.var 7001)),(0,(.plus (.var 7000) (.lit 1))),(0,(.plus (.var 7000) (.lit 1)))],[],[(2,(.app (.var 7002) (.app (.row (.i (.var 7001) .nil)) .nil)))]⟩)))))))))))))))
 (.ob (.tru (.cmp .leq (.lit 0) (.ar .sub .i64 (.var 7001) (.var 3))))
 (.ob (.tru (.cmp .lss (.ar .sub .i64 (.var 7001) (.var 3)) (.len (.fn 1 (.i (.var 0) (.i (.var 1) (.i (.var 2) (.i (.var 3) (.i (.var 4) (.x (.var 5) (.i (.var 6) (.i (.var 8) .nil))))))))))))
 (.ob (.tru (.cmp .leq (.lit 0) (.var 7001)))
 (.ob (.tru (.cmp .lss (.var 7001) (.len (.fn 1 (.i (.var 0) (.i (.var 1) (.i (.var 2) (.i (.var 3) (.i (.var 4) (.x (.var 5) (.i (.var 6) (.i (.var 8) .nil))))))))))))
 (.ite (.cmp .eql (.rd (.fn 1 (.i (.var 0) (.i (.var 1) (.i (.var 2) (.i (.var 3) (.i (.var 4) (.x (.var 5) (.i (.var 6) (.i (.var 8) .nil))))))))) (.ar .sub .i64 (.var 7001) (.var 3)) 0) (.ar .sub .i64 (.rd (.fn 1 (.i (.var 0) (.i (.var 1) (.i (.var 2) (.i (.var 3) (.i (.var 4) (.x (.var 5) (.i (.var 6) (.i (.var 8) .nil))))))))) (.var 7001) 0) (.lit 1)))
 (.ob (.tru (.cmp .leq (.len (.app (.var 7002) (.app (.row (.i (.ar .sub .i64 (.var 7001) (.var 3)) .nil)) .nil))) (.lit 1000000)))
 (.next 0 ⟨[(0,(.plus (.var 7000) (.lit 1))),(0,(.plus (.var 7000) (.lit 1))),(1,(.ar .sub .i64 (.var 7001) (.var 3))),(0,(.plus (.var 7000) (.lit 1))),(0,(.plus (.var 7000) (.lit 1)))],[],[(2,(.app (.var 7002) (.app (.row (.i (.ar .sub .i64 (.var 7001) (.var 3)) .nil)) .nil)))]⟩))
 (.ite (.cmp .eql (.ar .rem .i64 (.var 7001) (.var 3)) (.lit 0))
 (.ite (.cmp .eql (.ar .rem .i64 (.var 7001) (.var 3)) (.ar .sub .i64 (.var 3) (.lit 1)))
 (.ite (.cmp .lss (.ar .quo .i64 (.var 7001) (.var 3)) (.ar .sub .i64 (.var 4) (.lit 1)))
 (.ob (.tru (.cmp .leq (.lit 0) (.ar .add .i64 (.var 7001) (.var 3))))
 (.ob (.tru (.cmp .lss (.ar .add .i64 (.var 7001) (.var 3)) (.len (.fn 1 (.i (.var 0) (.i (.var 1) (.i (.var 2) (.i (.var 3) (.i (.var 4) (.x (.var 5) (.i (.var 6) (.i (.var 8) .nil))))))))))))
 (.ob (.tru (.cmp .leq (.lit 0) (.var 7001)))
 (.ob (.tru (.cmp .lss (.var 7001) (.len (.fn 1 (.i (.var 0) (.i (.var 1) (.i (.var 2) (.i (.var 3) (.i (.var 4) (.x (.var 5) (.i (.var 6) (.i (.var 8) .nil))))))))))))
 (.ite (.cmp .eql (.rd (.fn 1 (.i (.var 0) (.i (.var 1) (.i (.var 2) (.i (.var 3) (.i (.var 4) (.x (.var 5) (.i (.var 6) (.i (.var 8) .nil))))))))) (.ar .add .i64 (.var 7001) (.var 3)) 0) (.ar .sub .i64 (.rd (.fn 1 (.i (.var 0) (.i (.var 1) (.i (.var 2) (.i (.var 3) (.i (.var 4) (.x (.var 5) (.i (.var 6) (.i (.var 8) .nil))))))))) (.var 7001) 0) (.lit 1)))
 (.ob (.tru (.cmp .leq (.len (.app (.var 7002) (.app (.row (.i (.ar .add .i64 (.var 7001) (.var 3)) .nil)) .nil))) (.lit 1000000)))
 (.next 0 ⟨[(0,(.plus (.var 7000) (.lit 1))),(0,(.plus (.var 7000) (.lit 1))),(1,(.ar .add .i64 (.var 7001) (.var 3))),(0,(.plus (.var 7000) (.lit 1))),(0,(.plus (.var 7000) (.lit 1)))],[],[(2,(.app (.var 7002) (.app (.row (.i (.ar .add .i64 (.var 7001) (.var 3)) .nil)) .nil)))]⟩))
 (.ob (.tru (.cmp .leq (.len (.app (.var 7002) (.app (.row (.i (.var 7001) .nil)) .nil))) (.lit 1000000)))
 (.next 0 ⟨[(0,(.plus (.var 7000) (.lit 1))),(0,(.plus (.var 7000) (.lit 1))),(1,(.var 7001)),(0,(.plus (.var 7000) (.lit 1))),(0,(.plus (.var 7000) (.lit 1)))],[],[(2,(.app (.var 7002) (.app (.row (.i (.var 7001) .nil)) .nil)))]⟩)))))))
 (.ob (.tru (.cmp .leq (.len (.app (.var 7002) (.app (.row (.i (.var 7001) .nil)) .nil))) (.lit 1000000)))
 (.next 0 ⟨[(0,(.plus (.var 7000) (.lit 1))),(0,(.plus (.var 7000) (.lit 1))),(1,(.var 7001)),(0,(.plus (.var 7000) (.lit 1))),(0,(.plus (.var 7000) (.lit 1)))],[],[(2,(.app (.var 7002) (.app (.row (.i (.var 7001) .nil)) .nil)))]⟩)))
 (.ob (.tru (.cmp .leq (.lit 0) (.ar .add .i64 (.var 7001) (.lit 1))))
 (.ob (.tru (.cmp .lss (.ar .add .i64 (.var 7001) (.lit 1)) (.len (.fn 1 (.i (.var 0) (.i (.var 1) (.i (.var 2) (.i (.var 3) (.i (.var 4) (.x (.var 5) (.i (.var 6) (.i (.var 8) .nil))))))))))))
 (.ob (.tru (.cmp .leq (.lit 0) (.var 7001)))
 (.ob (.tru (.cmp .lss (.var 7001) (.len (.fn 1 (.i (.var 0) (.i (.var 1) (.i (.var 2) (.i (.var 3) (.i (.var 4) (.x (.var 5) (.i (.var 6) (.i (.var 8) .nil))))))))))))
 (.ite (.cmp .eql (.rd (.fn 1 (.i (.var 0) (.i (.var 1) (.i (.var 2) (.i (.var 3) (.i (.var 4) (.x (.var 5) (.i (.var 6) (.i (.var 8) .nil))))))))) (.ar .add .i64 (.var 7001) (.lit 1)) 0) (.ar .sub .i64 (.rd (.fn 1 (.i (.var 0) (.i (.var 1) (.i (.var 2) (.i (.var 3) (.i (.var 4) (.x (.var 5) (.i (.var 6) (.i (.var 8) .nil))))))))) (.var 7001) 0) (.lit 1)))
 (.ob (.tru (.cmp .leq (.len (.app (.var 7002) (.app (.row (.i (.ar .add .i64 (.var 7001) (.lit 1)) .nil)) .nil))) (.lit 1000000)))
 (.next 0 ⟨[(0,(.plus (.var 7000) (.lit 1))),(0,(.plus (.var 7000) (.lit 1))),(1,(.ar .add .i64 (.var 7001) (.lit 1))),(0,(.plus (.var 7000) (.lit 1))),(0,(.plus (.var 7000) (.lit 1)))],[],[(2,(.app (.var 7002) (.app (.row (.i (.ar .add .i64 (.var 7001) (.lit 1)) .nil)) .nil)))]⟩))
 (.ite (.cmp .lss (.ar .quo .i64 (.var 7001) (.var 3)) (.ar .sub .i64 (.var 4) (.lit 1)))
 (.ob (.tru (.cmp .leq (.lit 0) (.ar .add .i64 (.var 7001) (.var 3))))
 (.ob (.tru (.cmp .lss (.ar .add .i64 (.var 7001) (.var 3)) (.len (.fn 1 (.i (.var 0) (.i (.var 1) (.i (.var 2) (.i (.var 3) (.i (.var 4) (.x (.var 5) (.i (.var 6) (.i (.var 8) .nil))))))))))))
 (.ob (.tru (.cmp .leq (.lit 0) (.var 7001)))
 (.ob (.tru (.cmp .lss (.var 7001) (.len (.fn 1 (.i (.var 0) (.i (.var 1) (.i (.var 2) (.i (.var 3) (.i (.var 4) (.x (.var 5) (.i (.var 6) (.i (.var 8) .nil))))))))))))
 (.ite (.cmp .eql (.rd (.fn 1 (.i (.var 0) (.i (.var 1) (.i (.var 2) (.i (.var 3) (.i (.var 4) (.x (.var 5) (.i (.var 6) (.i (.var 8) .nil))))))))) (.ar .add .i64 (.var 7001) (.var 3)) 0) (.ar .sub .i64 (.rd (.fn 1 (.i (.var 0) (.i (.var 1) (.i (.var 2) (.i (.var 3) (.i (.var 4) (.x (.var 5) (.i (.var 6) (.i (.var 8) .nil))))))))) (.var 7001) 0) (.lit 1)))
 (.ob (.tru (.cmp .leq (.len (.app (.var 7002) (.app (.row (.i (.ar .add .i64 (.var 7001) (.var 3)) .nil)) .nil))) (.lit 1000000)))
 (.next 0 ⟨[(0,(.plus (.var 7000) (.lit 1))),(0,(.plus (.var 7000) (.lit 1))),(1,(.ar .add .i64 (.var 7001) (.var 3))),(0,(.plus (.var 7000) (.lit 1))),(0,(.plus (.var 7000) (.lit 1)))],[],[(2,(.app (.var 7002) (.app (.row (.i (.ar .add .i64 (.var 7001) (.var 3)) .nil)) .nil)))]⟩))
 (.ob (.tru (.cmp .leq (.len (.app (.var 7002) (.app (.row (.i (.var 7001) .nil)) .nil))) (.lit 1000000)))
 (.next 0 ⟨[(0,(.plus (.var 7000) (.lit 1))),(0,(.plus (.var 7000) (.lit 1))),(1,(.var 7001)),(0,(.plus (.var 7000) (.lit 1))),(0,(.plus (.var 7000) (.lit 1)))],[],[(2,(.app (.var 7002) (.app (.row (.i (.var 7001) .nil)) .nil)))]⟩)))))))
 (.ob (.tru (.cmp .leq (.len (.app (.var 7002) (.app (.row (.i (.var 7001) .nil)) .nil))) (.lit 1000000)))
 (.next 0 ⟨[(0,(.plus (.var 7000) (.lit 1))),(0,(.plus (.var 7000) (.lit 1))),(1,(.var 7001)),(0,(.plus (.var 7000) (.lit 1))),(0,(.plus (.var 7000) (.lit 1)))],[],[(2,(.app (.var 7002) (.app (.row (.i (.var 7001) .nil)) .nil)))]⟩)))))))))
 (.ob (.tru (.cmp .leq (.lit 0) (.ar .sub .i64 (.var 7001) (.lit 1))))
 (.ob (.tru (.cmp .lss (.ar .sub .i64 (.var 7001) (.lit 1)) (.len (.fn 1 (.i (.var 0) (.i (.var 1) (.i (.var 2) (.i (.var 3) (.i (.var 4) (.x (.var 5) (.i (.var 6) (.i (.var 8) .nil))))))))))))
 (.ob (.tru (.cmp .leq (.lit 0) (.var 7001)))
 (.ob (.tru (.cmp .lss (.var 7001) (.len (.fn 1 (.i (.var 0) (.i (.var 1) (.i (.var 2) (.i (.var 3) (.i (.var 4) (.x (.var 5) (.i (.var 6) (.i (.var 8) .nil))))))))))))
 (.ite (.cmp .eql (.rd (.fn 1 (.i (.var 0) (.i (.var 1) (.i (.var 2) (.i (.var 3) (.i (.var 4) (.x (.var 5) (.i (.var 6) (.i (.var 8) .nil))))))))) (.ar .sub .i64 (.var 7001) (.lit 1)) 0) (.ar .sub .i64 (.rd (.fn 1 (.i (.var 0) (.i (.var 1) (.i (.var 2) (.i (.var 3) (.i (.var 4) (.x (.var 5) (.i (.var 6) (.i (.var 8) .nil))))))))) (.var 7001) 0) (.lit 1)))
 (.ob (.tru (.cmp .leq (.len (.app (.var 7002) (.app (.row (.i (.ar .sub .i64 (.var 7001) (.lit 1)) .nil)) .nil))) (.lit 1000000)))
 (.next 0 ⟨[(0,(.plus (.var 7000) (.lit 1))),(0,(.plus (.var 7000) (.lit 1))),(1,(.ar .sub .i64 (.var 7001) (.lit 1))),(0,(.plus (.var 7000) (.lit 1))),(0,(.plus (.var 7000) (.lit 1)))],[],[(2,(.app (.var 7002) (.app (.row (.i (.ar .sub .i64 (.var 7001) (.lit 1)) .nil)) .nil)))]⟩))
 (.ite (.cmp .eql (.ar .rem .i64 (.var 7001) (.var 3)) (.ar .sub .i64 (.var 3) (.lit 1)))
 (.ite (.cmp .lss (.ar .quo .i64 (.var 7001) (.var 3)) (.ar .sub .i64 (.var 4) (.lit 1)))
 (.ob (.tru (.cmp .leq (.lit 0) (.ar .add .i64 (.var 7001) (.var 3))))
 (.ob (.tru (.cmp .lss (.ar .add .i64 (.var 7001) (.var 3)) (.len (.fn 1 (.i (.var 0) (.i (.var 1) (.i (.var 2) (.i (.var 3) (.i (.var 4) (.x (.var 5) (.i (.var 6) (.i (.var 8) .nil))))))))))))
 (.ob (.tru (.cmp .leq (.lit 0) (.var 7001)))
 (.ob (.tru (.cmp .lss (.var 7001) (.len (.fn 1 (.i (.var 0) (.i (.var 1) (.i (.var 2) (.i (.var 3) (.i (.var 4) (.x (.var 5) (.i (.var 6) (.i (.var 8) .nil))))))))))))
 (.ite (.cmp .eql (.rd (.fn 1 (.i (.var 0) (.i (.var 1) (.i (.var 2) (.i (.var 3) (.i (.var 4) (.x (.var 5) (.i (.var 6) (.i (.var 8) .nil))))))))) (.ar .add .i64 (.var 7001) (.var 3)) 0) (.ar .sub .i64 (.rd (.fn 1 (.i (.var 0) (.i (.var 1) (.i (.var 2) (.i (.var 3) (.i (.var 4) (.x (.var 5) (.i (.var 6) (.i (.var 8) .nil))))))))) (.var 7001) 0) (.lit 1)))
 (.ob (.tru (.cmp .leq (.len (.app (.var 7002) (.app (.row (.i (.ar .add .i64 (.var 7001) (.var 3)) .nil)) .nil))) (.lit 1000000)))
 (.next 0 ⟨[(0,(.plus (.var 7000) (.lit 1))),(0,(.plus (.var 7000) (.lit 1))),(1,(.ar .add .i64 (.var 7001) (.var 3))),(0,(.plus (.var 7000) (.lit 1))),(0,(.plus (.var 7000) (.lit 1)))],[],[(2,(.app (.var 7002) (.app (.row (.i (.ar .add .i64 (.var 7001) (.var 3)) .nil)) .nil)))]⟩))
 (.ob (.tru (.cmp .leq (.len (.app (.var 7002) (.app (.row (.i (.var 7001) .nil)) .nil))) (.lit 1000000)))
 (.next 0 ⟨[(0,(.plus (.var 7000) (.lit 1))),(0,(.plus (.var 7000) (.lit 1))),(1,(.var 7001)),(0,(.plus (.var 7000) (.lit 1))),(0,(.plus (.var 7000) (.lit 1)))],[],[(2,(.app (.var 7002) (.app (.row (.i (.var 7001) .nil)) .nil)))]⟩)))))))
 (.ob (.tru (.cmp .leq (.len (.app (.var 7002) (.app (.row (.i (.var 7001) .nil)) .nil))) (.lit 1000000)))
 (.next 0 ⟨[(0,(.plus (.var 7000) (.lit 1))),(0,(.plus (.var 7000) (.lit 1))),(1,(.var 7001)),(0,(.plus (.var 7000) (.lit 1))),(0,(.plus (.var 7000) (.lit 1)))],[],[(2,(.app (.var 7002) (.app (.row (.i (.var 7001) .nil)) .nil)))]⟩)))
 (.ob (.tru (.cmp .leq (.lit 0) (.ar .add .i64 (.var 7001) (.lit 1))))
 (.ob (.tru (.cmp .lss (.ar .add .i64 (.var 7001) (.lit 1)) (.len (.fn 1 (.i (.var 0) (.i (.var 1) (.i (.var 2) (.i (.var 3) (.i (.var 4) (.x (.var 5) (.i (.var 6) (.i (.var 8) .nil))))))))))))
 (.ob (.tru (.cmp .leq (.lit 0) (.var 7001)))
 (.ob (.tru (.cmp .lss (.var 7001) (.len (.fn 1 (.i (.var 0) (.i (.var 1) (.i (.var 2) (.i (.var 3) (.i (.var 4) (.x (.var 5) (.i (.var 6) (.i (.var 8) .nil))))))))))))
 (.ite (.cmp .eql (.rd (.fn 1 (.i (.var 0) (.i (.var 1) (.i (.var 2) (.i (.var 3) (.i (.var 4) (.x (.var 5) (.i (.var 6) (.i (.var 8) .nil))))))))) (.ar .add .i64 (.var 7001) (.lit 1)) 0) (.ar .sub .i64 (.rd (.fn 1 (.i (.var 0) (.i (.var 1) (.i (.var 2) (.i (.var 3) (.i (.var 4) (.x (.var 5) (.i (.var 6) (.i (.var 8) .nil))))))))) (.var 7001) 0) (.lit 1)))
 (.ob (.tru (.cmp .leq (.len (.app (.var 7002) (.app (.row (.i (.ar .add .i64 (.var 7001) (.lit 1)) .nil)) .nil))) (.lit 1000000)))
 (.next 0 ⟨[(0,(.plus (.var 7000) (.lit 1))),(0,(.plus (.var 7000) (.lit 1))),(1,(.ar .add .i64 (.var 7001) (.lit 1))),(0,(.plus (.var 7000) (.lit 1))),(0,(.plus (.var 7000) (.lit 1)))],[],[(2,(.app (.var 7002) (.app (.row (.i (.ar .add .i64 (.var 7001) (.lit 1)) .nil)) .nil)))]⟩))
 (.ite (.cmp .lss (.ar .quo .i64 (.var 7001) (.var 3)) (.ar .sub .i64 (.var 4) (.lit 1)))
 (.ob (.tru (.cmp .leq (.lit 0) (.ar .add .i64 (.var 7001) (.var 3))))
 (.ob (.tru (.cmp .lss (.ar .add .i64 (.var 7001) (.var 3)) (.len (.fn 1 (.i (.var 0) (.i (.var 1) (.i (.var 2) (.i (.var 3) (.i (.var 4) (.x (.var 5) (.i (.var 6) (.i (.var 8) .nil))))))))))))
 (.ob (.tru (.cmp .leq (.lit 0) (.var 7001)))
 (.ob (.tru (.cmp .lss (.var 7001) (.len (.fn 1 (.i (.var 0) (.i (.var 1) (.i (.var 2) (.i (.var 3) (.i (.var 4) (.x (.var 5) (.i (.var 6) (.i (.var 8) .nil))))))))))))
 (.ite (.cmp .eql (.rd (.fn 1 (.i (.var 0) (.i (.var 1) (.i (.var 2) (.i (.var 3) (.i (.var 4) (.x (.var 5) (.i (.var 6) (.i (.var 8) .nil))))))))) (.ar .add .i64 (.var 7001) (.var 3)) 0) (.ar .sub .i64 (.rd (.fn 1 (.i (.var 0) (.i (.var 1) (.i (.var 2) (.i (.var 3) (.i (.var 4) (.x (.var 5) (.i (.var 6) (.i (.var 8) .nil))))))))) (.var 7001) 0) (.lit 1)))
 (.ob (.tru (.cmp .leq (.len (.app (.var 7002) (.app (.row (.i (.ar .add .i64 (.var 7001) (.var 3)) .nil)) .nil))) (.lit 1000000)))
 (.next 0 ⟨[(0,(.plus (.var 7000) (.lit 1))),(0,(.plus (.var 7000) (.lit 1))),(1,(.ar .add .i64 (.var 7001) (.var 3))),(0,(.plus (.var 7000) (.lit 1))),(0,(.plus (.var 7000) (.lit 1)))],[],[(2,(.app (.var 7002) (.app (.row (.i (.ar .add .i64 (.var 7001) (.var 3)) .nil)) .nil)))]⟩))
 (.ob (.tru (.cmp .leq (.len (.app (.var 7002) (.app (.row (.i (.var 7001) .nil)) .nil))) (.lit 1000000)))
 (.next 0 ⟨[(0,(.plus (.var 7000) (.lit 1))),(0,(.plus (.var 7000) (.lit 1))),(1,(.var 7001)),(0,(.plus (.var 7000) (.lit 1))),(0,(.plus (.var 7000) (.lit 1)))],[],[(2,(.app (.var 7002) (.app (.row (.i (.var 7001) .nil)) .nil)))]⟩)))))))
 (.ob (.tru (.cmp .leq (.len (.app (.var 7002) (.app (.row (.i (.var 7001) .nil)) .nil))) (.lit 1000000)))
 (.next 0 ⟨[(0,(.plus (.var 7000) (.lit 1))),(0,(.plus (.var 7000) (.lit 1))),(1,(.var 7001)),(0,(.plus (.var 7000) (.lit 1))),(0,(.plus (.var 7000) (.lit 1)))],[],[(2,(.app (.var 7002) (.app (.row (.i (.var 7001) .nil)) .nil)))]⟩)))))))))))))))))))))))
 (.ret ((.tup [(.one (.z (.own 4 (.var 7000)))),(.one (.z (.int .i64 (.lit 0))))]),[(4,(.own 3 [(.int .i64)] (.var 7002) (.var 7000))),(4,(.own 3 [(.int .i64)] (.app (.row (.i (.var 7) .nil)) .nil) (.lit 0)))],13)))))))))))))))))))))
 (.ret ((.tup [(.one (.z (.const (.slice none 0 0)))),(.one (.z (.int .i64 (.lit 1))))]),[],2)))
 (.ret ((.tup [(.one (.z (.const (.slice none 0 0)))),(.one (.z (.int .i64 (.lit 1))))]),[],2)))
def c5K:List (Nat×St):=[
(6,⟨(List.append [(.v (.agg [(.z (.int .i64 (.var 0))),(.z (.int .i64 (.var 1))),(.z (.int .i64 (.var 2))),(.z (.int .i64 (.var 3))),(.z (.int .i64 (.var 4))),(.z (.ext [(.int .i64)] (.var 5) false))])),(.v (.one (.z (.int .i64 (.var 6))))),(.v (.one (.z (.int .i64 (.var 7))))),(.v (.one (.z (.int .i64 (.var 8))))),(.v (.one (.z (.ptr 0 0)))),(.v (.one (.z .any))),(.v (.one (.z .any))),(.v (.one (.z .any))),(.v (.one (.z (.const (.slice none 0 0))))),(.v (.one (.z (.int .i64 (.lit 0))))),(.v (.one (.z (.int .i64 (.len (.var 5)))))),(.v (.one (.z (.ptr 3 0)))),(.v (.one (.z (.own 4 (.var 7000))))),(.v (.one (.z (.bptr 5 (.var 7000) 0)))),(.v (.one (.z .any))),(.v (.one (.z (.ptr 0 5)))),(.v (.one (.z (.ext [(.int .i64)] (.var 5) false)))),(.v (.one (.z (.int .i64 (.len (.var 5)))))),(.v (.agg [(.z (.int .i64 (.var 0))),(.z (.int .i64 (.var 1))),(.z (.int .i64 (.var 2))),(.z (.int .i64 (.var 3))),(.z (.int .i64 (.var 4))),(.z (.ext [(.int .i64)] (.var 5) false))])),(.v (.one (.z (.int .i64 (.var 6))))),(.v (.one (.z (.bool (.cmp .leq (.var 6) (.lit 100000)))))),(.v (.one (.z (.bool (.not (.cmp .leq (.var 6) (.lit 100000))))))),(.v (.one (.z (.bool (.lit false))))),(.v (.one (.z (.int .i64 (.var 7))))),(.v (.one (.z (.bool (.cmp .lss (.var 7) (.lit 0)))))),(.v (.one (.z (.bool (.cmp .lss (.var 7) (.lit 0)))))),(.v (.one (.z (.bool (.lit false))))),(.v (.one (.z (.int .i64 (.var 7))))),(.v (.one (.z (.int .i64 (.len (.var 5)))))),(.v (.one (.z (.bool (.cmp .geq (.var 7) (.len (.var 5))))))),(.v (.one (.z (.bool (.cmp .geq (.var 7) (.len (.var 5))))))),(.v (.one (.z (.bool (.lit false))))),(.v (.one (.z (.int .i64 (.var 8))))),(.v (.one (.z (.bool (.cmp .lss (.var 8) (.lit 0)))))),(.v (.one (.z (.bool (.cmp .lss (.var 8) (.lit 0)))))),(.v (.one (.z (.bool (.lit false))))),(.v (.one (.z (.int .i64 (.var 8))))),(.v (.one (.z (.int .i64 (.len (.var 5)))))),(.v (.one (.z (.bool (.cmp .geq (.var 8) (.len (.var 5))))))),(.v (.one (.z (.bool (.cmp .geq (.var 8) (.len (.var 5))))))),(.v (.agg [(.z (.int .i64 (.var 0))),(.z (.int .i64 (.var 1))),(.z (.int .i64 (.var 2))),(.z (.int .i64 (.var 3))),(.z (.int .i64 (.var 4))),(.z (.ext [(.int .i64)] (.var 5) false))])),(.v (.one (.z (.int .i64 (.var 6))))),(.v (.one (.z (.int .i64 (.var 8))))),(.v (.one (.z (.own 2 (.lit 0))))),(.v (.one (.z (.ptr 0 5)))),(.v (.one (.z (.ext [(.int .i64)] (.var 5) false)))),(.v (.one (.z (.int .i64 (.var 7))))),(.v (.one (.z (.eptr [(.int .i64)] (.var 5) (.var 7) 0)))),(.v (.one (.z (.int .i64 (.rd (.var 5) (.var 7) 0))))),(.v (.one (.z (.int .i64 (.var 6))))),(.v (.one (.z (.bool (.cmp .lss (.rd (.var 5) (.var 7) 0) (.var 6)))))),(.v (.one (.z (.bool (.lit false))))),(.v (.one (.z (.ptr 0 5)))),(.v (.one (.z (.ext [(.int .i64)] (.var 5) false)))),(.v (.one (.z (.int .i64 (.var 8))))),(.v (.one (.z (.eptr [(.int .i64)] (.var 5) (.var 8) 0)))),(.v (.one (.z (.int .i64 (.rd (.var 5) (.var 8) 0))))),(.v (.one (.z (.int .i64 (.var 6))))),(.v (.one (.z (.bool (.cmp .lss (.rd (.var 5) (.var 8) 0) (.var 6)))))),(.v (.one (.z (.bool (.cmp .lss (.rd (.var 5) (.var 8) 0) (.var 6)))))),(.v (.one (.z (.bool (.lit false))))),(.v (.one (.z (.own 2 (.lit 0))))),(.v (.one (.z (.int .i64 (.var 7))))),(.v (.one (.z (.optr 2 (.lit 0) 1 (.var 7) 0)))),(.v (.one (.z (.int .i64 (.rd (.fn 1 (.i (.var 0) (.i (.var 1) (.i (.var 2) (.i (.var 3) (.i (.var 4) (.x (.var 5) (.i (.var 6) (.i (.var 8) .nil))))))))) (.var 7) 0))))),(.v (.one (.z (.bool (.cmp .lss (.rd (.fn 1 (.i (.var 0) (.i (.var 1) (.i (.var 2) (.i (.var 3) (.i (.var 4) (.x (.var 5) (.i (.var 6) (.i (.var 8) .nil))))))))) (.var 7) 0) (.lit 0)))))),(.v (.one (.z (.bool (.cmp .lss (.rd (.fn 1 (.i (.var 0) (.i (.var 1) (.i (.var 2) (.i (.var 3) (.i (.var 4) (.x (.var 5) (.i (.var 6) (.i (.var 8) .nil))))))))) (.var 7) 0) (.lit 0)))))),(.v (.one (.z (.int .i64 (.var 7))))),(.v (.one (.z (.own 4 (.lit 0))))),(.v (.one (.z (.int .i64 (.var 7)))))] (List.replicate 24 V.any)),[(7,.dfm),(5,(.vbox 3 [(.z (.int .i64 (.var 7001)))] (.var 7000))),(4,(.own 3 [(.int .i64)] (.var 7002) (.var 7000))),(3,(.cells 24 [(.z (.own 2 (.lit 0)))])),(2,(.own 3 [(.int .i64)] (.fn 1 (.i (.var 0) (.i (.var 1) (.i (.var 2) (.i (.var 3) (.i (.var 4) (.x (.var 5) (.i (.var 6) (.i (.var 8) .nil))))))))) (.lit 0))),(0,(.cells 26 [(.z (.int .i64 (.var 0))),(.z (.int .i64 (.var 1))),(.z (.int .i64 (.var 2))),(.z (.int .i64 (.var 3))),(.z (.int .i64 (.var 4))),(.z (.ext [(.int .i64)] (.var 5) false))]))],8,[1000000007]⟩)]
def c4D:List (FuncId×Nat×Nat×St):=[
]
set_option maxRecDepth 100000 in
theorem c2H:T.norm 0 (call Tryz.prog a9J ⟨Lt.un (Lt.of [(0,6000068),(0,7000013)]),c5K,c4D⟩ 200 22 (g7 0 [l8,it,it,it]) [] 0) TT.ret=b3m:=by kernel_rfl
theorem b9X:b3m.low 1000=true:=by kernel_rfl
theorem D8{ρ:Env}{l:NL}{ds:List D}{w0:World}{ws:Mem}{s:S0}{x:X}{e:E}{z:Int}(h1:A0 ws l.e l.ks s=some x)(h2:x.ev ρ=l.rows ds)(h3:e.ev ρ=z):
 ∃s' x',A0 ws l.e l.ks s'=some x'∧x'.ev ρ=l.rows ds∧∀(σ:As) u,ρ.w=w0→(V.tup [.one (.z s),.one (.z (.int .i64 e))]).den ρ σ u→∃v,s'.den ρ σ v∧u= .tuple #[v,.int .i64 z]:=by
 refine⟨s,x,h1,h2,fun σ u _ hd=> ?_⟩
 obtain⟨vs,hv,rfl⟩:=hd
 obtain⟨v1,r1,rfl,k1,k2⟩:=DL.cons_inv hv
 obtain⟨v2,r2,rfl,k3,k4⟩:=DL.cons_inv k2
 obtain rfl:=DL.nil_inv k4
 have k3:v2= .int .i64 (e.ev ρ):=k3
 exact⟨v1,k1,by rw[k3,h3]⟩
def U9(ds:List D):Bool:=Z3 ds&&decide (0≤a7 ds 6∧a7 ds 6≤100000)
def V3(ds:List D):Int:=if U9 ds=true then 0 else 1
def a5H(cs:List Int)(need:Int):List Nat:=(List.range cs.length).filter fun c=>decide (Grid.at_ cs c<need)
def b2u(ds:List D):Rows:=if U9 ds=true then g0 (k7 (a5H (g8 (b9 ds 5)) (a7 ds 6))) else []
def O1:NL:=⟨3,[.int .i64],4,b2u⟩
def b4e(ds:List D):Rows:=if U9 ds=true then g0 (Grid.waterF (a7 ds 3).toNat (a7 ds 4).toNat (g8 (b9 ds 5)) (a7 ds 6)) else []
def N3:NL:=⟨3,[.int .i64],2,b4e⟩
theorem a6u(W:World)(ds l:List D):(a9 B3 W ds).fb 150 l=Z3 l:=by simp only[a9,B3]
theorem b1S(W:World)(ds l:List D):(a9 B3 W ds).fd 1 l=a5M l:=by simp only[a9,B3]
theorem I5(a b c d e:Int)(r:Rows):Z3 [.i a,.i b,.i c,.i d,.i e,.l r]=F5 a b c d e r:=rfl
set_option maxHeartbeats 1000000 in
theorem d3l:B2 Tryz.prog 17 [l8,it] [O1] (fun _=>True) (fun _ ds vs u=>∃v,vs=[v]∧u= .tuple #[v,.int .i64 (V3 ds)]):=by
 refine A4 B3 (by kernel_rfl) (fun ρ h=>a3h (Sees.of h 160) (SeesD.of h 2)) (by kernel_rfl) b8P b5U (by decide) (fun w0 vals ds hr _=> ?_)
 have hwf:=N9 (C3 hr) (j:=5) rfl
 have hR:O1.rows ds=if U9 ds=true then g0 (k7 (a5H (g8 (b9 ds 5)) (a7 ds 6))) else []:=rfl
 have hE:V3 ds=if U9 ds=true then 0 else 1:=rfl
 have hO:U9 ds=(F5 (a7 ds 0) (a7 ds 1) (a7 ds 2) (a7 ds 3) (a7 ds 4) (b9 ds 5)&&decide (0≤a7 ds 6∧a7 ds 6≤100000)):=rfl
 have bad:∀ {ρ:Env} {ws:Mem},U9 ds=false→∃s' x',A0 ws O1.e O1.ks s'=some x'∧x'.ev ρ=O1.rows ds∧∀(σ:As) u,ρ.w=w0→(V.tup [.one (.z (.const (.slice none 0 0))),.one (.z (.int .i64 (.lit 1)))]).den ρ σ u→∃v,s'.den ρ σ v∧u= .tuple #[v,.int .i64 (V3 ds)]:=fun h=>by
  rw[h] at hR hE
  exact D8 (x:= .nil) rfl (by rw[hR];rfl) (by rw[hE];rfl)
 clear hr
 simp only[b0i,g9,Nat.reduceBEq,Nat.reduceLT,Nat.reduceSub,a6u,I5]
 generalize e5:b9 ds 5=r at*
 generalize e6:a7 ds 6=need at*
 refine⟨fun hg=>⟨fun h1=>⟨fun h2=>bad ?_,fun h2=> ?_⟩,fun h1=>bad ?_⟩,fun hg=>bad ?_⟩
 ·rw[hO,decide_eq_false (by omega),Bool.and_false]
 ·have hok:U9 ds=true:=by rw[hO,hg,decide_eq_true (by omega)];rfl
  rw[if_pos hok] at hR hE
  obtain⟨hf,hl,hcell⟩:=z9 hg
  have hn:r.length≤64*64:=by
   have hf:=hf
   unfold s8 at hf
   have:=o5 (a:=a7 ds 3) (b:=a7 ds 4) (m:=64) (n:=64) (by omega) (by omega) (by omega) (by omega)
   omega
  have hcl:(g8 r).length=r.length:=a4x r
  refine TT.sat_loop (fun v=>∃i:Nat,v.i 2=i∧i≤r.length∧v.d 1=g0 (k7 ((List.range i).filter fun c=>decide (Grid.at_ (g8 r) c<need)))) (fun v=>r.length-(v.i 2).toNat)
   ⟨0,by simp [j5,i8,E.ev],by omega,by simp [D4,i8,X.ev,k7,g0]⟩ (fun v hv=> ?_)
  obtain⟨i,i0,i1,i2⟩:=hv
  simp only[g9,Nat.reduceBEq,Nat.reduceLT,Nat.reduceSub,i0,i2,e5,e6]
  have hlf:=List.length_filter_le (fun c=>decide (Grid.at_ (g8 r) c<need)) (List.range i)
  rw[List.length_range] at hlf
  refine⟨fun hc=> ?_,fun hc=> ?_⟩
  ·have hi:i<r.length:=by omega
   rw[b8 ((i:Int)+1) (by omega) (by omega),C6 hi,List.length_append,List.length_append,s7,B5]
   simp only[List.length_singleton,List.length_nil]
   have hs:= @List.range_succ i
   refine⟨by omega,by omega,fun h3=>⟨by omega,⟨i+1,by omega,by omega,?_⟩,by omega⟩,fun h3=>⟨⟨i+1,by omega,by omega,?_⟩,by omega⟩⟩
   ·rw[hs,List.filter_append,List.append_nil,K0]
    simp [k7,h3]
   ·rw[hs,List.filter_append]
    simp [h3]
  ·have hi:i=r.length:=by omega
   refine D8 (x:= .var 3001) (by kernel_rfl) ?_ (by rw[hE];rfl)
   rw[hR]
   simp only[X.ev,x7,g9,Nat.reduceBEq,Nat.reduceLT,Nat.reduceSub,i2]
   unfold a5H
   rw[hcl,←hi]
 ·rw[hO,decide_eq_false (by omega),Bool.and_false]
 ·rw[hO,hg,Bool.false_and]
theorem a4W(w h:Nat)(cs:List Int)(need:Int):∀k,0≤(Grid.waterN w h cs need k).2∧(Grid.waterN w h cs need k).2≤k∧(Grid.waterN w h cs need k).1.length=w*h
 | 0=>by simp [Grid.waterN]
 | k+1=>by
   have ih:=a4W w h cs need k
   simp only[Grid.waterN,Grid.waterStep]
   split
   ·exact⟨ih.1,by omega,ih.2.2⟩
   ·exact⟨by simp only;omega,by simp only;omega,by simp only[Grid.fill_len];exact ih.2.2⟩
theorem H5(a b c d e f g:Int)(r:Rows):a5M [.i a,.i b,.i c,.i d,.i e,.l r,.i f,.i g]=g0 (Grid.stepsF d.toNat e.toNat (g8 r) f g.toNat):=rfl
set_option maxHeartbeats 2000000 in
theorem d3h:B2 Tryz.prog 20 [l8,it] [N3] (fun _=>True) (fun _ ds vs u=>∃v,vs=[v]∧u= .tuple #[v,.int .i64 (V3 ds)]):=by
 refine A4 B3 (by kernel_rfl) (fun ρ h=>a3h (Sees.of h 160) (SeesD.of h 2)) (by kernel_rfl) b7F b4U (by decide) (fun w0 vals ds hr _=> ?_)
 have hwf:=N9 (C3 hr) (j:=5) rfl
 have hR:N3.rows ds=if U9 ds=true then g0 (Grid.waterF (a7 ds 3).toNat (a7 ds 4).toNat (g8 (b9 ds 5)) (a7 ds 6)) else []:=rfl
 have hE:V3 ds=if U9 ds=true then 0 else 1:=rfl
 have hO:U9 ds=(F5 (a7 ds 0) (a7 ds 1) (a7 ds 2) (a7 ds 3) (a7 ds 4) (b9 ds 5)&&decide (0≤a7 ds 6∧a7 ds 6≤100000)):=rfl
 have bad:∀ {ρ:Env} {ws:Mem},U9 ds=false→∃s' x',A0 ws N3.e N3.ks s'=some x'∧x'.ev ρ=N3.rows ds∧∀(σ:As) u,ρ.w=w0→(V.tup [.one (.z (.const (.slice none 0 0))),.one (.z (.int .i64 (.lit 1)))]).den ρ σ u→∃v,s'.den ρ σ v∧u= .tuple #[v,.int .i64 (V3 ds)]:=fun h=>by
  rw[h] at hR hE
  exact D8 (x:= .nil) rfl (by rw[hR];rfl) (by rw[hE];rfl)
 clear hr
 simp only[a9H,g9,Nat.reduceBEq,Nat.reduceLT,Nat.reduceSub,a6u,I5]
 generalize e0:a7 ds 0=x at*
 generalize e1:a7 ds 1=y at*
 generalize e2:a7 ds 2=s at*
 generalize e3:a7 ds 3=w at*
 generalize e4:a7 ds 4=h at*
 generalize e5:b9 ds 5=r at*
 generalize e6:a7 ds 6=need at*
 refine⟨fun hg=>⟨fun h1=>⟨fun h2=>bad ?_,fun h2=> ?_⟩,fun h1=>bad ?_⟩,fun hg=>bad ?_⟩
 ·rw[hO,decide_eq_false (by omega),Bool.and_false]
 ·have hok:U9 ds=true:=by rw[hO,hg,decide_eq_true (by omega)];rfl
  rw[if_pos hok] at hR hE
  obtain⟨hf,hl,hcell⟩:=z9 hg
  unfold s8 at hf
  obtain⟨⟨_,hw,hh⟩,_⟩:=hf
  obtain⟨W,rfl⟩:=Int.eq_ofNat_of_zero_le (a:=w) (by omega)
  obtain⟨H,rfl⟩:=Int.eq_ofNat_of_zero_le (a:=h) (by omega)
  have hn:r.length=W*H:=by
   have:(r.length:Int)=((W*H:Nat):Int):=by rw[hl];simp
   omega
  have hWH:W*H≤64*64:=Nat.mul_le_mul (by omega) (by omega)
  have hW:0<W:=by omega
  have hrep:List.replicate (W*H) [D.i 0]=g0 (List.replicate (W*H) 0):=a1i _ _
  simp only[Int.toNat_natCast] at hR
  refine⟨by omega,by omega,?_⟩
  refine TT.sat_loop (fun v=>∃c:Nat,v.i 0=c∧c≤W*H∧v.i 1=(Grid.waterN W H (g8 r) need c).2∧v.d 2=g0 (Grid.waterN W H (g8 r) need c).1) (fun v=>W*H-(v.i 0).toNat)
   ⟨0,by simp [j5,i8,E.ev],by omega,by simp [j5,i8,E.ev,Grid.waterN],?_⟩ (fun v hv=> ?_)
  ·simp only[D4,i8,beq_self_eq_true,if_true,X.ev,AL.ev,E.ev,Z9,e5,hn,Int.toNat_natCast,hrep]
   rfl
  obtain⟨c,c0,c1,c2,c3⟩:=hv
  obtain⟨m0,m1,m2⟩:=a4W W H (g8 r) need c
  have hstep:c<W*H→Grid.waterN W H (g8 r) need (c+1)=Grid.waterStep W H (g8 r) need (Grid.waterN W H (g8 r) need c) c:=fun _=>rfl
  generalize hst:Grid.waterN W H (g8 r) need c=st at*
  obtain⟨out,num⟩:=st
  simp only at c2 c3 m0 m1 m2 hstep
  simp only[g9,Nat.reduceBEq,Nat.reduceLT,Nat.reduceSub,c0,c2,c3,e0,e1,e2,e3,e4,e5,e6,hn,a6u,b1S,I5,H5,Int.toNat_natCast]
  refine⟨fun hc=> ?_,fun hc=> ?_⟩
  ·have hcl:c<W*H:=by omega
   have hws:=hstep hcl
   have hw1:IntKind.i64.wrap ((c:Int)+1)=((c+1:Nat):Int):=by rw[b8 _ (by omega) (by omega)];omega
   have hw2:IntKind.i64.wrap (num+1)=num+1:=b8 _ (by omega) (by omega)
   have same:Grid.at_ (g8 r) c<need∨0<Grid.at_ out c→Grid.waterN W H (g8 r) need (c+1)=(out,num):=fun q=>by rw[hws,Grid.waterStep,if_pos q]
   have new:¬(Grid.at_ (g8 r) c<need∨0<Grid.at_ out c)→Grid.waterN W H (g8 r) need (c+1)=(Grid.fillF (Grid.stepsF W H (g8 r) need c) (num+1) out,num+1):=fun q=>by rw[hws,Grid.waterStep,if_neg q]
   have hS:=Grid.stepsF_is (D:=g8 r) (need:=need) hW hcl
   rw[C6 (by omega),y8 (by omega),hw1]
   refine⟨by omega,by omega,fun q1=>⟨⟨c+1,rfl,by omega,by rw[same (.inl q1)],by rw[same (.inl q1)]⟩,by omega⟩,fun q1=>⟨by omega,by rw[s7];omega,fun q2=>⟨⟨c+1,rfl,by omega,by rw[same (.inr q2)],by rw[same (.inr q2)]⟩,by omega⟩,fun q2=>⟨hg,by omega,by omega,?_⟩⟩⟩
   generalize hs:Grid.stepsF W H (g8 r) need c=sl at*
   have hSl:=hS.len
   refine TT.sat_loop (fun u=>∃(k:Nat) (o:List Int),u.i 0=k∧k≤W*H∧u.d 1=g0 o∧o.length=W*H∧∀j,j<W*H→Grid.at_ o j=if j<k∧0≤Grid.at_ sl j then num+1 else Grid.at_ out j) (fun u=>W*H-(u.i 0).toNat)
    ⟨0,out,by simp [j5,i8,E.ev],by omega,by simp [D4,i8,X.ev,x7,c3],m2,fun j _=>by rw[if_neg (by omega)]⟩ (fun u hu=> ?_)
   obtain⟨k,o,k0,k1,k2,k3,k4⟩:=hu
   simp only[g9,Nat.reduceBEq,Nat.reduceLT,Nat.reduceSub,k0,k2,c0,c2,c3,e0,e1,e2,e3,e4,e5,e6,b1S,H5,Int.toNat_natCast,hs,s7,hSl,k3]
   have hk1:k<W*H→IntKind.i64.wrap ((k:Int)+1)=((k+1:Nat):Int):=fun q=>by rw[b8 _ (by omega) (by omega)];omega
   refine⟨fun q3=> ?_,fun q3=> ?_⟩
   ·have hkl:k<W*H:=by omega
    rw[hk1 hkl,y8 (by omega),hw2,P6]
    refine⟨by omega,by omega,fun q4=>⟨by omega,by omega,⟨k+1,_,rfl,by omega,rfl,by simpa using k3,fun j hj=> ?_⟩,by omega⟩,fun q4=>⟨⟨k+1,_,rfl,by omega,rfl,k3,fun j hj=> ?_⟩,by omega⟩⟩
    ·rw[Grid.at_set (by omega)]
     by_cases e:j=k
     ·subst e;rw[if_pos rfl,if_pos (by omega)]
     ·rw[if_neg e,k4 j hj]
      by_cases q:j<k∧0≤Grid.at_ sl j
      ·rw[if_pos q,if_pos (by omega)]
      ·rw[if_neg q,if_neg (by omega)]
    ·rw[k4 j hj]
     by_cases q:j<k∧0≤Grid.at_ sl j
     ·rw[if_pos q,if_pos (by omega)]
     ·have:¬(j<k+1∧0≤Grid.at_ sl j):=fun⟨g1,g2⟩=>by
       by_cases e:j=k
       ·subst e;omega
       ·exact q ⟨by omega,g2⟩
      rw[if_neg q,if_neg this]
   ·have hkn:k=W*H:=by omega
    have ho:o=Grid.fillF sl (num+1) out:=Grid.list_at (by rw[Grid.fill_len,k3,m2]) (fun j hj=>by
     rw[k3] at hj
     rw[k4 j hj,Grid.at_fill (by omega)]
     by_cases q:0≤Grid.at_ sl j
     ·rw[if_pos (by omega),if_pos q]
     ·rw[if_neg (by omega),if_neg q])
    have hnw:=new (by omega)
    rw[←ho] at hnw
    rw[hw1,hw2]
    exact⟨⟨c+1,rfl,by omega,by rw[hnw],by rw[hnw]⟩,by omega⟩
  ·have hcn:c=W*H:=by omega
   refine D8 (x:= .var 4002) (by kernel_rfl) ?_ (by rw[hE];rfl)
   rw[hR]
   simp only[X.ev,x7,g9,Nat.reduceBEq,Nat.reduceLT,Nat.reduceSub,c3]
   unfold Grid.waterF
   rw[←hcn,hst]
 ·rw[hO,decide_eq_false (by omega),Bool.and_false]
 ·rw[hO,hg,Bool.false_and]
theorem Grid.find_one{p:Nat→Bool}{a:Prop}[Decidable a]{x:Nat}:(if a then([]:List Nat) else [x]).find? p=if ¬a∧p x=true then some x else none:=by
 by_cases h:a<;>by_cases k:p x=true<;>simp [h,k]
theorem Grid.find_two{p:Nat→Bool}{a:Prop}[Decidable a]{x:Nat}:(if a then [x] else([]:List Nat)).find? p=if a∧p x=true then some x else none:=by
 by_cases h:a<;>by_cases k:p x=true<;>simp [h,k]
theorem Grid.next_chain(w h:Nat)(l:List Int)(c:Nat):Grid.nextF w h l c=if c/w≠0∧Grid.at_ l (c-w)=Grid.at_ l c-1 then c-w else if c % w≠0∧Grid.at_ l (c-1)=Grid.at_ l c-1 then c-1 else
 if c % w≠w-1∧Grid.at_ l (c+1)=Grid.at_ l c-1 then c+1 else if c/w<h-1∧Grid.at_ l (c+w)=Grid.at_ l c-1 then c+w else c:=by
 unfold Grid.nextF Grid.near
 rw[List.find?_append,List.find?_append,List.find?_append,Grid.find_one,Grid.find_one,Grid.find_one,Grid.find_two]
 simp only[beq_iff_eq]
 split
 ·rfl
 ·split
  ·rfl
  ·split
   ·rfl
   ·split
    ·rfl
    ·rfl
def eUp:E:= .ar .sub .i64 (.var 7001) (.var 3)
def d4G:E:= .ar .sub .i64 (.var 7001) (.lit 1)
def d2O:E:= .ar .add .i64 (.var 7001) (.lit 1)
def c7e:E:= .ar .add .i64 (.var 7001) (.var 3)
def c4r:E:= .ar .quo .i64 (.var 7001) (.var 3)
def c5R:E:= .ar .rem .i64 (.var 7001) (.var 3)
def xS:X:= .fn 1 (.i (.var 0) (.i (.var 1) (.i (.var 2) (.i (.var 3) (.i (.var 4) (.x (.var 5) (.i (.var 6) (.i (.var 8) .nil))))))))
def lfT(e:E):TT j4:= .ob (.tru (.cmp .leq (.len (.app (.var 7002) (.app (.row (.i e .nil)) .nil))) (.lit 1000000)))
 (.next 0 ⟨[(0,(.plus (.var 7000) (.lit 1))),(0,(.plus (.var 7000) (.lit 1))),(1,e),(0,(.plus (.var 7000) (.lit 1))),(0,(.plus (.var 7000) (.lit 1)))],[],[(2,(.app (.var 7002) (.app (.row (.i e .nil)) .nil)))]⟩)
def lkT(e:E)(t:TT j4):TT j4:= .ob (.tru (.cmp .leq (.lit 0) e)) (.ob (.tru (.cmp .lss e (.len xS))) (.ob (.tru (.cmp .leq (.lit 0) (.var 7001))) (.ob (.tru (.cmp .lss (.var 7001) (.len xS)))
 (.ite (.cmp .eql (.rd xS e 0) (.ar .sub .i64 (.rd xS (.var 7001) 0) (.lit 1))) (lfT e) t))))
def pD:TT j4:= .ite (.cmp .lss c4r (.ar .sub .i64 (.var 4) (.lit 1))) (lkT c7e (lfT (.var 7001))) (lfT (.var 7001))
def pC:TT j4:= .ite (.cmp .eql c5R (.ar .sub .i64 (.var 3) (.lit 1))) pD (lkT d2O pD)
def pB:TT j4:= .ite (.cmp .eql c5R (.lit 0)) pC (lkT d4G pC)
def pA:TT j4:= .ite (.cmp .eql c4r (.lit 0)) pB (lkT eUp pB)
structure PF (ρ:Env) (K:Env→j4→Prop) (J:Nat→LV→Prop) (W H:Nat) (sl:List Int) (c:Nat):Prop where
 hW:0<W
 small:W*H≤4096
 wb:W≤64
 hb:H≤64
 hc:c<W*H
 v1:ρ.i 7001=(c:Int)
 v3:ρ.i 3=(W:Int)
 v4:ρ.i 4=(H:Int)
 s:xS.ev ρ=g0 sl
 len:sl.length=W*H
 pos:0<Grid.at_ sl c∧Grid.at_ sl c≤1000000
 next:Grid.nextF W H sl c∈Grid.near W H c∧Grid.at_ sl (Grid.nextF W H sl c)=Grid.at_ sl c-1
 leaf:∀e:E,e.ev ρ=(Grid.nextF W H sl c:Nat)→(lfT e).sat ρ K J
section
variable {ρ:Env} {K:Env→j4→Prop} {J:Nat→LV→Prop} {W H:Nat} {sl:List Int} {c:Nat}
theorem c3T(F:PF ρ K J W H sl c){eE:E}{e:Nat}(he:eE.ev ρ=(e:Int))(hen:e<W*H){t:TT j4}(h1:Grid.at_ sl e=Grid.at_ sl c-1→(lfT eE).sat ρ K J)(h2:¬Grid.at_ sl e=Grid.at_ sl c-1→t.sat ρ K J):(lkT eE t).sat ρ K J:=by
 have l1:lg (g0 sl) (e:Int) 0=Grid.at_ sl e:=y8 (by rw[F.len];omega)
 have l2:lg (g0 sl) (c:Int) 0=Grid.at_ sl c:=y8 (by rw[F.len];exact F.hc)
 have hp:=F.pos
 have hc:=F.hc
 unfold lkT
 simp only[TT.sat_ob,TT.sat_ite,Ob.ok,B.ev,E.ev,y9,n8,a2w,j8,he,F.v1,F.s,s7,F.len]
 simp only[show(u9 (g0 sl) (e:Int) 0).int=Grid.at_ sl e from l1,show(u9 (g0 sl) (c:Int) 0).int=Grid.at_ sl c from l2]
 rw[b8 (Grid.at_ sl c-1) (by omega) (by omega)]
 exact⟨by omega,by omega,by omega,by omega,h1,h2⟩
theorem PF.quo(F:PF ρ K J W H sl c):c4r.ev ρ=((c/W:Nat):Int):=by
 show IntKind.i64.wrap ((ρ.i 7001).tdiv (ρ.i 3))=_
 rw[F.v1,F.v3]
 have h1:(c:Int).tdiv (W:Int)=((c/W:Nat):Int):=rfl
 have h2:c/W≤c:=Nat.div_le_self _ _
 have:=F.hc;have:=F.small
 rw[h1]
 generalize c/W=k at h2
 exact b8 _ (by omega) (by omega)
theorem PF.rem(F:PF ρ K J W H sl c):c5R.ev ρ=((c % W:Nat):Int):=by
 show(ρ.i 7001).tmod (ρ.i 3)=_
 rw[F.v1,F.v3];rfl
theorem d1I(F:PF ρ K J W H sl c)(hn:Grid.nextF W H sl c=if c/W<H-1∧Grid.at_ sl (c+W)=Grid.at_ sl c-1 then c+W else c):pD.sat ρ K J:=by
 have h1:(E.ar .sub .i64 (.var 4) (.lit 1)).ev ρ=((H-1:Nat):Int):=by
  show IntKind.i64.wrap (ρ.i 4-1)=_
  have:=F.hc;have:=F.hb
  have:0<H:=Nat.pos_of_ne_zero fun k=>by subst k;omega
  rw[F.v4,b8 _ (by omega) (by omega)];omega
 have h2:c7e.ev ρ=((c+W:Nat):Int):=by
  show IntKind.i64.wrap (ρ.i 7001+ρ.i 3)=_
  have:=F.hc;have:=F.small;have:=F.wb
  rw[F.v1,F.v3,b8 _ (by omega) (by omega)];omega
 have bad:Grid.nextF W H sl c=c→False:=fun k=>by
  have:=F.next.2
  rw[k] at this
  omega
 unfold pD
 rw[TT.sat_ite]
 simp only[B.ev,n8,a2w,j8,F.quo,h1]
 refine⟨fun q=> ?_,fun q=> ?_⟩
 ·have q:c/W<H-1:=by generalize c/W=k at q ⊢;omega
  by_cases k:Grid.at_ sl (c+W)=Grid.at_ sl c-1
  ·rw[if_pos ⟨q,k⟩] at hn
   refine c3T F h2 ?_ (fun _=>F.leaf _ (by rw[h2,hn])) (fun k'=>absurd k k')
   rw[←hn]
   exact Grid.near_lt F.hW F.hc F.next.1
  ·rw[if_neg (fun z=>k z.2)] at hn
   exact absurd hn bad
 ·have q:¬c/W<H-1:=by generalize c/W=k at q ⊢;omega
  rw[if_neg (fun z=>q z.1)] at hn
  exact absurd hn bad
theorem a7x(F:PF ρ K J W H sl c){p:Prop}[Decidable p]{b:B}{eE:E}{e n:Nat}{t:TT j4}(hb:b.ev ρ=true↔¬p)(he:p→eE.ev ρ=(e:Int))(hin:p→e∈Grid.near W H c)
 (hn:Grid.nextF W H sl c=if p∧Grid.at_ sl e=Grid.at_ sl c-1 then e else n) (ht:Grid.nextF W H sl c=n→t.sat ρ K J):(TT.ite b t (lkT eE t)).sat ρ K J:=by
 rw[TT.sat_ite]
 refine⟨fun q=> ?_,fun q=> ?_⟩
 ·rw[if_neg (fun z=>hb.1 q z.1)] at hn
  exact ht hn
 ·have hp:p:=Decidable.byContradiction fun k=>by rw[hb.2 k] at q;cases q
  refine c3T F (he hp) (Grid.near_lt F.hW F.hc (hin hp)) (fun k=> ?_) (fun k=> ?_)
  ·rw[if_pos ⟨hp,k⟩] at hn
   exact F.leaf _ (by rw[he hp,hn])
  ·rw[if_neg (fun z=>k z.2)] at hn
   exact ht hn
theorem d2c(F:PF ρ K J W H sl c):pA.sat ρ K J:=by
 have hC:=F.hc
 have hS:=F.small
 have nr:Grid.near W H c=(if c/W=0 then [] else [c-W])++(if c % W=0 then [] else [c-1])++(if c % W=W-1 then [] else [c+1])++(if c/W<H-1 then [c+W] else []):=rfl
 have hw1:(E.ar .sub .i64 (.var 3) (.lit 1)).ev ρ=((W-1:Nat):Int):=by
  show IntKind.i64.wrap (ρ.i 3-1)=_
  have:=F.hW;have:=F.wb
  rw[F.v3,b8 _ (by omega) (by omega)];omega
 refine a7x F (p:=c/W≠0) (e:=c-W) ?_ (fun q=> ?_) (fun q=>by rw[nr,if_neg q];simp) (Grid.next_chain W H sl c) (fun n1=> ?_)
 ·simp only[B.ev,n8,j8,F.quo,E.ev]
  generalize c/W=k;omega
 ·show IntKind.i64.wrap (ρ.i 7001-ρ.i 3)=_
  have:W≤c:=by
   rcases Nat.lt_or_ge c W with k | k
   ·exact absurd (Nat.div_eq_of_lt k) q
   ·exact k
  rw[F.v1,F.v3,b8 _ (by omega) (by omega)];omega
 refine a7x F (p:=c % W≠0) (e:=c-1) ?_ (fun q=> ?_) (fun q=>by rw[nr,if_neg q];simp) n1 (fun n2=> ?_)
 ·simp only[B.ev,n8,j8,F.rem,E.ev]
  generalize c % W=k;omega
 ·show IntKind.i64.wrap (ρ.i 7001-1)=_
  have:0<c:=by
   rcases Nat.eq_zero_or_pos c with k | k
   ·subst k;exact absurd (Nat.zero_mod W) q
   ·exact k
  rw[F.v1,b8 _ (by omega) (by omega)];omega
 refine a7x F (p:=c % W≠W-1) (e:=c+1) ?_ (fun q=> ?_) (fun q=>by rw[nr,if_neg q];simp) n2 (fun n3=>d1I F n3)
 ·simp only[B.ev,n8,j8,F.rem,hw1]
  generalize c % W=k;omega
 ·show IntKind.i64.wrap (ρ.i 7001+1)=_
  rw[F.v1,b8 _ (by omega) (by omega)];omega
end
end Go.Proofs.YtcjaembdcfppfaaGreat
namespace Go.Proofs.YtcjaembdcfppfaaGreat
open Go.RowKit
def c7R:TT j4:=
(.ite (.fn 150 (.i (.var 0) (.i (.var 1) (.i (.var 2) (.i (.var 3) (.i (.var 4) (.x (.var 5) .nil)))))))
 (.ite (.cmp .geq (.var 6) (.lit 0))
  (.ite (.not (.cmp .leq (.var 6) (.lit 100000)))
   (.ret ((.tup [(.one (.z (.const (.slice none 0 0)))),(.one (.z (.int .i64 (.lit 1))))]),[],2))
   (.ite (.cmp .lss (.var 7) (.lit 0))
    (.ret ((.tup [(.one (.z (.const (.slice none 0 0)))),(.one (.z (.int .i64 (.lit 1))))]),[],2))
    (.ite (.cmp .geq (.var 7) (.len (.var 5)))
     (.ret ((.tup [(.one (.z (.const (.slice none 0 0)))),(.one (.z (.int .i64 (.lit 1))))]),[],2))
     (.ite (.cmp .lss (.var 8) (.lit 0))
      (.ret ((.tup [(.one (.z (.const (.slice none 0 0)))),(.one (.z (.int .i64 (.lit 1))))]),[],2))
      (.ite (.cmp .geq (.var 8) (.len (.var 5)))
       (.ret ((.tup [(.one (.z (.const (.slice none 0 0)))),(.one (.z (.int .i64 (.lit 1))))]),[],2))
       (.ob (.tru (.fn 150 (.i (.var 0) (.i (.var 1) (.i (.var 2) (.i (.var 3) (.i (.var 4) (.x (.var 5) .nil))))))))
       (.ob (.tru (.cmp .leq (.lit 0) (.var 8)))
       (.ob (.tru (.cmp .lss (.var 8) (.len (.var 5))))
       (.ob (.tru (.cmp .leq (.lit 0) (.var 7)))
       (.ob (.tru (.cmp .lss (.var 7) (.len (.var 5))))
       (.ite (.cmp .lss (.rd (.var 5) (.var 7) 0) (.var 6))
        (.ret ((.tup [(.one (.z (.const (.slice none 0 0)))),(.one (.z (.int .i64 (.lit 4))))]),[],4))
        (.ob (.tru (.cmp .leq (.lit 0) (.var 8)))
        (.ob (.tru (.cmp .lss (.var 8) (.len (.var 5))))
        (.ite (.cmp .lss (.rd (.var 5) (.var 8) 0) (.var 6))
         (.ret ((.tup [(.one (.z (.const (.slice none 0 0)))),(.one (.z (.int .i64 (.lit 4))))]),[],4))
         (.ob (.tru (.cmp .leq (.lit 0) (.var 7)))
         (.ob (.tru (.cmp .lss (.var 7) (.len (.fn 1 (.i (.var 0) (.i (.var 1) (.i (.var 2) (.i (.var 3) (.i (.var 4) (.x (.var 5) (.i (.var 6) (.i (.var 8) .nil))))))))))))
         (.ite (.cmp .lss (.rd (.fn 1 (.i (.var 0) (.i (.var 1) (.i (.var 2) (.i (.var 3) (.i (.var 4) (.x (.var 5) (.i (.var 6) (.i (.var 8) .nil))))))))) (.var 7) 0) (.lit 0))
          (.ret ((.tup [(.one (.z (.const (.slice none 0 0)))),(.one (.z (.int .i64 (.lit 4))))]),[],4))
          (.loop 0 7000 ⟨[(0,(.lit 0)),(0,(.lit 0)),(1,(.var 7)),(0,(.lit 0)),(0,(.lit 0))],[],[(2,(.app (.row (.i (.var 7) .nil)) .nil))]⟩
           (.ite (.cmp .neq (.var 7001) (.var 8))
            (.ob (.tru (.cmp .neq (.var 3) (.lit 0)))
            (.ob (.tru (.cmp .neq (.var 3) (.lit 0)))
            pA))
            (.ret ((.tup [(.one (.z (.own 4 (.var 7000)))),(.one (.z (.int .i64 (.lit 0))))]),[(4,(.own 3 [(.int .i64)] (.var 7002) (.var 7000))),(4,(.own 3 [(.int .i64)] (.app (.row (.i (.var 7) .nil)) .nil) (.lit 0)))],13)))))))))))))))))))))
  (.ret ((.tup [(.one (.z (.const (.slice none 0 0)))),(.one (.z (.int .i64 (.lit 1))))]),[],2)))
 (.ret ((.tup [(.one (.z (.const (.slice none 0 0)))),(.one (.z (.int .i64 (.lit 1))))]),[],2)))
theorem c3M:b3m=c7R:=by kernel_rfl
def a1A(ds:List D):Bool:=Z3 ds&&decide (0≤a7 ds 6∧a7 ds 6≤100000∧0≤a7 ds 7∧a7 ds 7<((b9 ds 5).length:Nat)∧0≤a7 ds 8∧a7 ds 8<((b9 ds 5).length:Nat))
def a0K(ds:List D):List Int:=Grid.stepsF (a7 ds 3).toNat (a7 ds 4).toNat (g8 (b9 ds 5)) (a7 ds 6) (a7 ds 8).toNat
def a1H(ds:List D):Bool:=decide (Grid.at_ (g8 (b9 ds 5)) (a7 ds 7).toNat<a7 ds 6∨Grid.at_ (g8 (b9 ds 5)) (a7 ds 8).toNat<a7 ds 6∨Grid.at_ (a0K ds) (a7 ds 7).toNat<0)
def C5(ds:List D):Int:=if a1A ds=true then(if a1H ds=true then 4 else 0) else 1
def b8j(ds:List D):Rows:=if C5 ds=0 then g0 (k7 (Grid.wayF (a7 ds 3).toNat (a7 ds 4).toNat (a0K ds) (a7 ds 7).toNat)) else []
def G0:NL:=⟨3,[.int .i64],3,b8j⟩
theorem a1F{w h:Nat}{ok:Nat→Prop}{a c:Nat}{l:List Int}(hw:0<w)(ha:a<w*h)(H:Grid.IsDist w h ok a l)(hc:c<w*h)(h0:0≤Grid.at_ l c):Grid.at_ l c<(w*h:Nat):=by
 obtain⟨h1,h2⟩:=H.some c hc h0
 obtain⟨l,l1,l2,l3⟩:=Grid.levels hw ha _ _ h1 (fun j hj=>h2 j (by omega))
 have:=Grid.nodup_len (w*h) l l2 (fun x hx=>(l3 x hx).1)
 omega
set_option maxHeartbeats 2000000 in
theorem d4r:B2 Tryz.prog 22 [l8,it,it,it] [G0] (fun _=>True) (fun _ ds vs u=>∃v,vs=[v]∧u= .tuple #[v,.int .i64 (C5 ds)]):=by
 refine A4 B3 (by kernel_rfl) (fun ρ h=>a3h (Sees.of h 160) (SeesD.of h 2)) (by kernel_rfl) c2H b9X (by decide) (fun w0 vals ds hr _=> ?_)
 have hwf:=N9 (C3 hr) (j:=5) rfl
 have hR:G0.rows ds=if C5 ds=0 then g0 (k7 (Grid.wayF (a7 ds 3).toNat (a7 ds 4).toNat (a0K ds) (a7 ds 7).toNat)) else []:=rfl
 have hE:C5 ds=if a1A ds=true then(if a1H ds=true then 4 else 0) else 1:=rfl
 have hO:a1A ds=(F5 (a7 ds 0) (a7 ds 1) (a7 ds 2) (a7 ds 3) (a7 ds 4) (b9 ds 5)&&decide (0≤a7 ds 6∧a7 ds 6≤100000∧0≤a7 ds 7∧a7 ds 7<((b9 ds 5).length:Nat)∧0≤a7 ds 8∧a7 ds 8<((b9 ds 5).length:Nat))):=rfl
 have hN:a1H ds=decide (Grid.at_ (g8 (b9 ds 5)) (a7 ds 7).toNat<a7 ds 6∨Grid.at_ (g8 (b9 ds 5)) (a7 ds 8).toNat<a7 ds 6∨Grid.at_ (a0K ds) (a7 ds 7).toNat<0):=rfl
 have hL:a0K ds=Grid.stepsF (a7 ds 3).toNat (a7 ds 4).toNat (g8 (b9 ds 5)) (a7 ds 6) (a7 ds 8).toNat:=rfl
 have leaf:∀ {ρ:Env} {ws:Mem} (z:Int),C5 ds=z→z≠0→∃s' x',A0 ws G0.e G0.ks s'=some x'∧x'.ev ρ=G0.rows ds∧∀(σ:As) u,ρ.w=w0→(V.tup [.one (.z (.const (.slice none 0 0))),.one (.z (.int .i64 (.lit z)))]).den ρ σ u→∃v,s'.den ρ σ v∧u= .tuple #[v,.int .i64 (C5 ds)]:=fun z h h'=>by
  rw[h,if_neg h'] at hR
  exact D8 (x:= .nil) rfl (by rw[hR];rfl) (by rw[h];rfl)
 have bad:∀ {ρ:Env} {ws:Mem},a1A ds=false→∃s' x',A0 ws G0.e G0.ks s'=some x'∧x'.ev ρ=G0.rows ds∧∀(σ:As) u,ρ.w=w0→(V.tup [.one (.z (.const (.slice none 0 0))),.one (.z (.int .i64 (.lit 1)))]).den ρ σ u→∃v,s'.den ρ σ v∧u= .tuple #[v,.int .i64 (C5 ds)]:=fun h=>leaf 1 (by rw[hE,h];rfl) (by decide)
 clear hr
 simp only[c3M,c7R,g9,Nat.reduceBEq,Nat.reduceLT,Nat.reduceSub,a6u,b1S,I5,H5]
 generalize e0:a7 ds 0=x at*
 generalize e1:a7 ds 1=y at*
 generalize e2:a7 ds 2=s at*
 generalize e3:a7 ds 3=w at*
 generalize e4:a7 ds 4=h at*
 generalize e5:b9 ds 5=r at*
 generalize e6:a7 ds 6=need at*
 generalize e7:a7 ds 7=fr at*
 generalize e8:a7 ds 8=to at*
 refine⟨fun hg=>⟨fun h1=>⟨fun h2=>bad ?_,fun h2=>⟨fun h3=>bad ?_,fun h3=>⟨fun h4=>bad ?_,fun h4=>⟨fun h5=>bad ?_,fun h5=>⟨fun h6=>bad ?_,fun h6=> ?_⟩⟩⟩⟩⟩,fun h1=>bad ?_⟩,fun hg=>bad ?_⟩
 ·rw[hO,decide_eq_false (by omega),Bool.and_false]
 ·rw[hO,decide_eq_false (by omega),Bool.and_false]
 ·rw[hO,decide_eq_false (by omega),Bool.and_false]
 ·rw[hO,decide_eq_false (by omega),Bool.and_false]
 ·rw[hO,decide_eq_false (by omega),Bool.and_false]
 ·have hok:a1A ds=true:=by rw[hO,hg,decide_eq_true (by omega)];rfl
  rw[if_pos hok] at hE
  obtain⟨hf,hl,hcell⟩:=z9 hg
  unfold s8 at hf
  obtain⟨⟨_,hw,hh⟩,_⟩:=hf
  obtain⟨W,rfl⟩:=Int.eq_ofNat_of_zero_le (a:=w) (by omega)
  obtain⟨H,rfl⟩:=Int.eq_ofNat_of_zero_le (a:=h) (by omega)
  obtain⟨a,rfl⟩:=Int.eq_ofNat_of_zero_le (a:=fr) (by omega)
  obtain⟨b,rfl⟩:=Int.eq_ofNat_of_zero_le (a:=to) (by omega)
  have hn:r.length=W*H:=by
   have:(r.length:Int)=((W*H:Nat):Int):=by rw[hl];simp
   omega
  have hWH:W*H≤64*64:=Nat.mul_le_mul (by omega) (by omega)
  have hW:0<W:=by omega
  have ha:a<W*H:=by omega
  have hb:b<W*H:=by omega
  simp only[Int.toNat_natCast] at hN hR hL ⊢
  have hD:=Grid.stepsF_is (D:=g8 r) (need:=need) hW hb
  rw[←hL] at hD ⊢
  generalize a0K ds=sl at*
  have hsl:=hD.len
  rw[C6 (by omega),C6 (by omega),y8 (by omega),s7,hsl]
  have neg:a1H ds=true→C5 ds=4:=fun k=>by rw[hE,if_pos k]
  refine⟨hg,by omega,by omega,by omega,by omega,fun g1=>leaf 4 (neg (by rw[hN];exact decide_eq_true (.inl g1))) (by decide),fun g1=>⟨by omega,by omega,fun g2=>leaf 4 (neg (by rw[hN];exact decide_eq_true (.inr (.inl g2)))) (by decide),fun g2=>⟨by omega,by omega,fun g3=>leaf 4 (neg (by rw[hN];exact decide_eq_true (.inr (.inr g3)))) (by decide),fun g3=> ?_⟩⟩⟩
  have hNf:a1H ds=false:=by rw[hN];exact decide_eq_false (by omega)
  have hE0:C5 ds=0:=by rw[hE,hNf];rfl
  rw[if_pos hE0] at hR
  have hsa:=a1F hW hb hD ha (by omega)
  refine TT.sat_loop (fun v=>∃(c:Nat) (pre:List Nat),v.i 1=c∧c<W*H∧0≤Grid.at_ sl c∧v.d 2=g0 (k7 pre)∧pre++Grid.pathF W H sl (Grid.at_ sl c).toNat c=Grid.wayF W H sl a) (fun v=>(Grid.at_ sl (v.i 1).toNat).toNat)
   ⟨a,[a],?_,ha,by omega,?_,rfl⟩ (fun v hv=> ?_)
  ·simp [j5,i8,E.ev,w6,e7]
  ·simp [D4,i8,X.ev,AL.ev,E.ev,w6,e7,k7,g0]
  obtain⟨c,pre,c0,c1,c2,c3,c4⟩:=hv
  have hsc:=a1F hW hb hD c1 c2
  have hlen:=congrArg List.length c4
  rw[List.length_append,Grid.path_len,Grid.way_len] at hlen
  simp only[g9,Nat.reduceBEq,Nat.reduceLT,Nat.reduceSub,c0,c3,e0,e1,e2,e3,e4,e5,e6,e7,e8]
  refine⟨fun q=>⟨by omega,by omega,?_⟩,fun q=> ?_⟩
  ·have hpos:0<Grid.at_ sl c:=by
    rcases Int.lt_or_le 0 (Grid.at_ sl c) with k | k
    ·exact k
    ·have hz:Grid.at_ sl c=0:=by omega
     have h1:=(hD.some c c1 c2).1
     rw[hz] at h1
     cases h1
     exact absurd rfl q
   obtain⟨n1,n2,_⟩:=Grid.next_spec hD hW hb c1 hpos
   have n3:=Grid.near_lt hW c1 n1
   refine d2c (W:=W) (H:=H) (sl:=sl) (c:=c) ⟨hW,hWH,by omega,by omega,c1,?_,?_,?_,?_,hsl,⟨hpos,by omega⟩,⟨n1,n2⟩,fun e he=> ?_⟩
   ·simp [F6,c0]
   ·simp [F6,w6,e3]
   ·simp [F6,w6,e4]
   ·unfold xS
    simp only[g9,Nat.reduceBEq,Nat.reduceLT,Nat.reduceSub,b1S,H5,e0,e1,e2,e3,e4,e5,e6,e8,Int.toNat_natCast]
    rw[←hL]
   ·unfold lfT
    rw[TT.sat_ob,TT.sat_next]
    have hx:((X.var 7002).app ((X.row (.i e .nil)).app .nil)).ev ((a9 B3 w0 ds).put 7000 v)=g0 (k7 (pre++[Grid.nextF W H sl c])):=by
     simp only[X.ev,AL.ev,he,x7,g9,Nat.reduceBEq,Nat.reduceLT,Nat.reduceSub,c3,K0]
     simp [k7,g0]
    refine⟨?_,⟨Grid.nextF W H sl c,pre++[Grid.nextF W H sl c],?_,n3,by omega,?_,?_⟩,?_⟩
    ·simp only[Ob.ok,B.ev,n8,j8,E.ev,hx,s7,B5,List.length_append,List.length_singleton]
     omega
    ·simpa [j5,i8] using he
    ·simpa [D4,i8] using hx
    ·rw[←c4,n2]
     obtain⟨k,hk⟩:∃k,(Grid.at_ sl c).toNat=k+1:=⟨(Grid.at_ sl c).toNat-1,by omega⟩
     rw[show(Grid.at_ sl c-1).toNat=k by omega,hk]
     simp [Grid.pathF]
    ·simp only[c0,j5,i8,he,beq_self_eq_true,if_true,show((0:Nat) == 1)=false from rfl,Bool.false_eq_true,if_false,Int.toNat_natCast,n2]
     omega
  ·have hcb:c=b:=by omega
   subst hcb
   have hz:=(hD.le hb Grid.Walk.zero).2
   have hz:Grid.at_ sl c=0:=by omega
   refine D8 (x:= .var 7002) (by kernel_rfl) ?_ (by rw[hE0];rfl)
   rw[hR]
   simp only[X.ev,x7,g9,Nat.reduceBEq,Nat.reduceLT,Nat.reduceSub,c3]
   rw[←c4,hz]
   simp [Grid.pathF]
 ·rw[hO,decide_eq_false (by omega),Bool.and_false]
 ·rw[hO,hg,Bool.false_and]
def B4:Interp where
 fi n l:=match n with | 160=>V3 l | 161=>C5 l | n=>B3.fi n l
 fb n l:=B3.fb n l
 fd n l:=match n with | 2=>b4e l | 3=>b8j l | 4=>b2u l | n=>B3.fd n l
theorem c4H{ρ:Env}(h:SeesD ρ B4 5):SeesD ρ B3 2:=fun n l hn=>by
 rw[h n l (by omega)]
 simp only[B4]
 split<;>first | omega | rfl
theorem a9P{ρ:Env}(h:Sees ρ B4 170):Sees ρ B3 160:=h.trans (by decide) fun n l hn=>by
 refine⟨?_,?_⟩
 ·
  simp only[B4]
  split<;>first | omega | rfl
 ·
  rfl
def b0u:=a2O [l8,it] O1 (fun _=>[]) fun al nx=> .tup [.one (.z (.own nx (.lit 0))),.one (w9 160 V3 al)]
theorem b9z{ρ:Env}(h:Sees ρ B4 170)(hd:SeesD ρ B4 5):i9 Tryz.prog ρ 17 b0u:=by
 refine a0A d3l (by decide) (fun al _=>trivial) (fun a=> ?_) (fun al nx σ' v hv=> ?_)
 ·show ρ.fd 4 a=b2u a
  rw[hd 4 _ (by decide)];simp only[B4]
 ·refine⟨[v,.int .i64 (V3 (al.ev ρ))],⟨hv,?_,trivial⟩,rfl⟩
  show Value.int .i64 (V3 (al.ev ρ))= .int .i64 ((iF 160 V3 al).ev ρ)
  rw[k8 (s:=160) (f:=V3) (fun l=>by rw[(h 160 l (by decide)).1];simp only[B4])]
def a9E:=a2O [l8,it] N3 (fun _=>[]) fun al nx=> .tup [.one (.z (.own nx (.lit 0))),.one (w9 160 V3 al)]
theorem b9M{ρ:Env}(h:Sees ρ B4 170)(hd:SeesD ρ B4 5):i9 Tryz.prog ρ 20 a9E:=by
 refine a0A d3h (by decide) (fun al _=>trivial) (fun a=> ?_) (fun al nx σ' v hv=> ?_)
 ·show ρ.fd 2 a=b4e a
  rw[hd 2 _ (by decide)];simp only[B4]
 ·refine⟨[v,.int .i64 (V3 (al.ev ρ))],⟨hv,?_,trivial⟩,rfl⟩
  show Value.int .i64 (V3 (al.ev ρ))= .int .i64 ((iF 160 V3 al).ev ρ)
  rw[k8 (s:=160) (f:=V3) (fun l=>by rw[(h 160 l (by decide)).1];simp only[B4])]
def b3C:=a2O [l8,it,it,it] G0 (fun _=>[]) fun al nx=> .tup [.one (.z (.own nx (.lit 0))),.one (w9 161 C5 al)]
theorem c3K{ρ:Env}(h:Sees ρ B4 170)(hd:SeesD ρ B4 5):i9 Tryz.prog ρ 22 b3C:=by
 refine a0A d4r (by decide) (fun al _=>trivial) (fun a=> ?_) (fun al nx σ' v hv=> ?_)
 ·show ρ.fd 3 a=b8j a
  rw[hd 3 _ (by decide)];simp only[B4]
 ·refine⟨[v,.int .i64 (C5 (al.ev ρ))],⟨hv,?_,trivial⟩,rfl⟩
  show Value.int .i64 (C5 (al.ev ρ))= .int .i64 ((iF 161 C5 al).ev ρ)
  rw[k8 (s:=161) (f:=C5) (fun l=>by rw[(h 161 l (by decide)).1];simp only[B4])]
def c5F:Ct:=(17,b0u)::(20,a9E)::(22,b3C)::a9J
theorem b7l{ρ:Env}(h:Sees ρ B4 170)(hd:SeesD ρ B4 5):CtOk Tryz.prog ρ c5F:= .cons (b9z h hd)<| .cons (b9M h hd)<| .cons (c3K h hd)<|a3h (a9P h) (c4H hd)
end Go.Proofs.YtcjaembdcfppfaaGreat
