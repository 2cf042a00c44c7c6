/- HI, merged: TVn, Vo. -/
import Derived.Test.YtldbejmgalhdaaaGreatHH
set_option linter.unusedSimpArgs false
set_option linter.unusedVariables false
/- Chapter 09: trees of the law SurveyCurrent; of survey.Model, Allows, Clashes. -/
namespace Go.Proofs.YtldbejmgalhdaaaGreat
open Go.RowKit
-- term trLawCur: call Tryz.prog ctV3 (Lt.of []) 150 4 (symArgs 0 [suv]) [] 0
def trLawCur : TT OpR :=
(.ite (.cmp .leq (.len (.var 0)) (.lit 16))
 (.ite (.not (.cmp .leq (.len (.var 1)) (.lit 12)))
 (.ret ((.v (.one (.z (.bool (.lit true))))), [], 2))
 (.ite (.cmp .neq (.fn 160 (.x (.var 0) (.x (.var 1) .nil))) (.lit 0))
 (.ret ((.v (.one (.z (.bool (.cmp .eql (.fn 160 (.x (.var 0) (.x (.var 1) .nil))) (.lit 1)))))), [], 3))
 (.loop 0 4000 ⟨[(1, (.lit 0))], [(0, (.lit true))], []⟩
 (.ite (.cmp .lss (.var 4001) (.len (.var 0)))
 (.ob (.tru (.cmp .leq (.lit 0) (.var 4001)))
 (.ob (.tru (.cmp .lss (.var 4001) (.len (.var 0))))
 (.loop 1 6000 ⟨[(0, (.lit 0))], [(1, (.var 4000)), (2, (.lit false))], []⟩
 (.ite (.cmp .lss (.var 6000) (.len (.var 0)))
 (.ob (.tru (.cmp .leq (.lit 0) (.var 6000)))
 (.ob (.tru (.cmp .lss (.var 6000) (.len (.var 0))))
 (.ite (.cmp .lss (.rd (.var 0) (.var 6000) 6) (.rd (.var 0) (.var 4001) 6))
 (.next 1 ⟨[(0, (.ar .add .i64 (.var 6000) (.lit 1)))], [(1, (.var 6001)), (2, (.var 6002))], []⟩)
 (.ite (.cmp .eql (.rd (.var 0) (.var 6000) 6) (.rd (.var 0) (.var 4001) 6))
 (.ite (.cmp .leq (.rd (.var 0) (.var 6000) 0) (.rd (.var 0) (.var 4001) 0))
 (.next 1 ⟨[(0, (.ar .add .i64 (.var 6000) (.lit 1)))], [(1, (.var 6001)), (2, (.var 6002))], []⟩)
 (.ite (.var 6001)
 (.ite (.cmp .eql (.fn 119 (.i (.rd (.var 0) (.var 6000) 0) (.i (.lit 1) (.i (.rd (.var 0) (.var 6000) 1) (.i (.rd (.var 0) (.var 6000) 2) (.i (.rd (.var 0) (.var 6000) 3) (.x .nil (.i (.rd (.var 0) (.var 6000) 4) (.i (.lit 0) (.x .nil (.i (.rd (.var 0) (.var 4001) 0) (.i (.lit 1) (.i (.rd (.var 0) (.var 4001) 1) (.i (.rd (.var 0) (.var 4001) 2) (.i (.rd (.var 0) (.var 4001) 3) (.x .nil (.i (.rd (.var 0) (.var 4001) 4) (.i (.lit 0) (.x .nil .nil))))))))))))))))))) (.lit 0))
 (.ite (.not (.fn 119 (.i (.rd (.var 0) (.var 6000) 0) (.i (.lit 1) (.i (.rd (.var 0) (.var 6000) 1) (.i (.rd (.var 0) (.var 6000) 2) (.i (.rd (.var 0) (.var 6000) 3) (.x .nil (.i (.rd (.var 0) (.var 6000) 4) (.i (.lit 0) (.x .nil (.i (.rd (.var 0) (.var 4001) 0) (.i (.lit 1) (.i (.rd (.var 0) (.var 4001) 1) (.i (.rd (.var 0) (.var 4001) 2) (.i (.rd (.var 0) (.var 4001) 3) (.x .nil (.i (.rd (.var 0) (.var 4001) 4) (.i (.lit 0) (.x .nil .nil))))))))))))))))))))
 (.ite (.var 6002)
 (.next 1 ⟨[(0, (.ar .add .i64 (.var 6000) (.lit 1)))], [(1, (.lit true)), (2, (.lit true))], []⟩)
 (.ite (.fn 119 (.i (.rd (.var 0) (.var 6000) 0) (.i (.lit 1) (.i (.rd (.var 0) (.var 6000) 1) (.i (.rd (.var 0) (.var 6000) 2) (.i (.rd (.var 0) (.var 6000) 3) (.x .nil (.i (.rd (.var 0) (.var 6000) 4) (.i (.lit 0) (.x .nil (.i (.rd (.var 0) (.var 4001) 0) (.i (.lit 1) (.i (.rd (.var 0) (.var 4001) 1) (.i (.rd (.var 0) (.var 4001) 2) (.i (.rd (.var 0) (.var 4001) 3) (.x .nil (.i (.rd (.var 0) (.var 4001) 4) (.i (.lit 0) (.x .nil .nil)))))))))))))))))))
 (.next 1 ⟨[(0, (.ar .add .i64 (.var 6000) (.lit 1)))], [(1, (.lit true)), (2, (.fn 160 (.x (.fn 1 (.x (.var 0) (.x (.var 1) .nil))) (.i (.rd (.var 0) (.var 6000) 0) .nil))))], []⟩)
 (.next 1 ⟨[(0, (.ar .add .i64 (.var 6000) (.lit 1)))], [(1, (.lit true)), (2, (.lit false))], []⟩)))
 (.ite (.var 6002)
 (.next 1 ⟨[(0, (.ar .add .i64 (.var 6000) (.lit 1)))], [(1, (.not (.fn 160 (.x (.fn 1 (.x (.var 0) (.x (.var 1) .nil))) (.i (.rd (.var 0) (.var 4001) 0) .nil))))), (2, (.lit true))], []⟩)
 (.ite (.fn 119 (.i (.rd (.var 0) (.var 6000) 0) (.i (.lit 1) (.i (.rd (.var 0) (.var 6000) 1) (.i (.rd (.var 0) (.var 6000) 2) (.i (.rd (.var 0) (.var 6000) 3) (.x .nil (.i (.rd (.var 0) (.var 6000) 4) (.i (.lit 0) (.x .nil (.i (.rd (.var 0) (.var 4001) 0) (.i (.lit 1) (.i (.rd (.var 0) (.var 4001) 1) (.i (.rd (.var 0) (.var 4001) 2) (.i (.rd (.var 0) (.var 4001) 3) (.x .nil (.i (.rd (.var 0) (.var 4001) 4) (.i (.lit 0) (.x .nil .nil)))))))))))))))))))
 (.next 1 ⟨[(0, (.ar .add .i64 (.var 6000) (.lit 1)))], [(1, (.not (.fn 160 (.x (.fn 1 (.x (.var 0) (.x (.var 1) .nil))) (.i (.rd (.var 0) (.var 4001) 0) .nil))))), (2, (.fn 160 (.x (.fn 1 (.x (.var 0) (.x (.var 1) .nil))) (.i (.rd (.var 0) (.var 6000) 0) .nil))))], []⟩)
 (.next 1 ⟨[(0, (.ar .add .i64 (.var 6000) (.lit 1)))], [(1, (.not (.fn 160 (.x (.fn 1 (.x (.var 0) (.x (.var 1) .nil))) (.i (.rd (.var 0) (.var 4001) 0) .nil))))), (2, (.lit false))], []⟩))))
 (.ite (.var 6002)
 (.next 1 ⟨[(0, (.ar .add .i64 (.var 6000) (.lit 1)))], [(1, (.lit false)), (2, (.lit true))], []⟩)
 (.ite (.fn 119 (.i (.rd (.var 0) (.var 6000) 0) (.i (.lit 1) (.i (.rd (.var 0) (.var 6000) 1) (.i (.rd (.var 0) (.var 6000) 2) (.i (.rd (.var 0) (.var 6000) 3) (.x .nil (.i (.rd (.var 0) (.var 6000) 4) (.i (.lit 0) (.x .nil (.i (.rd (.var 0) (.var 4001) 0) (.i (.lit 1) (.i (.rd (.var 0) (.var 4001) 1) (.i (.rd (.var 0) (.var 4001) 2) (.i (.rd (.var 0) (.var 4001) 3) (.x .nil (.i (.rd (.var 0) (.var 4001) 4) (.i (.lit 0) (.x .nil .nil)))))))))))))))))))
 (.next 1 ⟨[(0, (.ar .add .i64 (.var 6000) (.lit 1)))], [(1, (.lit false)), (2, (.fn 160 (.x (.fn 1 (.x (.var 0) (.x (.var 1) .nil))) (.i (.rd (.var 0) (.var 6000) 0) .nil))))], []⟩)
 (.next 1 ⟨[(0, (.ar .add .i64 (.var 6000) (.lit 1)))], [(1, (.lit false)), (2, (.lit false))], []⟩))))
 (.ite (.var 6002)
 (.next 1 ⟨[(0, (.ar .add .i64 (.var 6000) (.lit 1)))], [(1, (.lit false)), (2, (.lit true))], []⟩)
 (.ite (.fn 119 (.i (.rd (.var 0) (.var 6000) 0) (.i (.lit 1) (.i (.rd (.var 0) (.var 6000) 1) (.i (.rd (.var 0) (.var 6000) 2) (.i (.rd (.var 0) (.var 6000) 3) (.x .nil (.i (.rd (.var 0) (.var 6000) 4) (.i (.lit 0) (.x .nil (.i (.rd (.var 0) (.var 4001) 0) (.i (.lit 1) (.i (.rd (.var 0) (.var 4001) 1) (.i (.rd (.var 0) (.var 4001) 2) (.i (.rd (.var 0) (.var 4001) 3) (.x .nil (.i (.rd (.var 0) (.var 4001) 4) (.i (.lit 0) (.x .nil .nil)))))))))))))))))))
 (.next 1 ⟨[(0, (.ar .add .i64 (.var 6000) (.lit 1)))], [(1, (.lit false)), (2, (.fn 160 (.x (.fn 1 (.x (.var 0) (.x (.var 1) .nil))) (.i (.rd (.var 0) (.var 6000) 0) .nil))))], []⟩)
 (.next 1 ⟨[(0, (.ar .add .i64 (.var 6000) (.lit 1)))], [(1, (.lit false)), (2, (.lit false))], []⟩)))))
 (.ite (.var 6001)
 (.ite (.cmp .eql (.fn 119 (.i (.rd (.var 0) (.var 6000) 0) (.i (.lit 1) (.i (.rd (.var 0) (.var 6000) 1) (.i (.rd (.var 0) (.var 6000) 2) (.i (.rd (.var 0) (.var 6000) 3) (.x .nil (.i (.rd (.var 0) (.var 6000) 4) (.i (.lit 0) (.x .nil (.i (.rd (.var 0) (.var 4001) 0) (.i (.lit 1) (.i (.rd (.var 0) (.var 4001) 1) (.i (.rd (.var 0) (.var 4001) 2) (.i (.rd (.var 0) (.var 4001) 3) (.x .nil (.i (.rd (.var 0) (.var 4001) 4) (.i (.lit 0) (.x .nil .nil))))))))))))))))))) (.lit 0))
 (.ite (.not (.fn 119 (.i (.rd (.var 0) (.var 6000) 0) (.i (.lit 1) (.i (.rd (.var 0) (.var 6000) 1) (.i (.rd (.var 0) (.var 6000) 2) (.i (.rd (.var 0) (.var 6000) 3) (.x .nil (.i (.rd (.var 0) (.var 6000) 4) (.i (.lit 0) (.x .nil (.i (.rd (.var 0) (.var 4001) 0) (.i (.lit 1) (.i (.rd (.var 0) (.var 4001) 1) (.i (.rd (.var 0) (.var 4001) 2) (.i (.rd (.var 0) (.var 4001) 3) (.x .nil (.i (.rd (.var 0) (.var 4001) 4) (.i (.lit 0) (.x .nil .nil))))))))))))))))))))
 (.ite (.var 6002)
 (.next 1 ⟨[(0, (.ar .add .i64 (.var 6000) (.lit 1)))], [(1, (.lit true)), (2, (.lit true))], []⟩)
 (.ite (.fn 119 (.i (.rd (.var 0) (.var 6000) 0) (.i (.lit 1) (.i (.rd (.var 0) (.var 6000) 1) (.i (.rd (.var 0) (.var 6000) 2) (.i (.rd (.var 0) (.var 6000) 3) (.x .nil (.i (.rd (.var 0) (.var 6000) 4) (.i (.lit 0) (.x .nil (.i (.rd (.var 0) (.var 4001) 0) (.i (.lit 1) (.i (.rd (.var 0) (.var 4001) 1) (.i (.rd (.var 0) (.var 4001) 2) (.i (.rd (.var 0) (.var 4001) 3) (.x .nil (.i (.rd (.var 0) (.var 4001) 4) (.i (.lit 0) (.x .nil .nil)))))))))))))))))))
 (.next 1 ⟨[(0, (.ar .add .i64 (.var 6000) (.lit 1)))], [(1, (.lit true)), (2, (.fn 160 (.x (.fn 1 (.x (.var 0) (.x (.var 1) .nil))) (.i (.rd (.var 0) (.var 6000) 0) .nil))))], []⟩)
 (.next 1 ⟨[(0, (.ar .add .i64 (.var 6000) (.lit 1)))], [(1, (.lit true)), (2, (.lit false))], []⟩)))
 (.ite (.var 6002)
 (.next 1 ⟨[(0, (.ar .add .i64 (.var 6000) (.lit 1)))], [(1, (.not (.fn 160 (.x (.fn 1 (.x (.var 0) (.x (.var 1) .nil))) (.i (.rd (.var 0) (.var 4001) 0) .nil))))), (2, (.lit true))], []⟩)
 (.ite (.fn 119 (.i (.rd (.var 0) (.var 6000) 0) (.i (.lit 1) (.i (.rd (.var 0) (.var 6000) 1) (.i (.rd (.var 0) (.var 6000) 2) (.i (.rd (.var 0) (.var 6000) 3) (.x .nil (.i (.rd (.var 0) (.var 6000) 4) (.i (.lit 0) (.x .nil (.i (.rd (.var 0) (.var 4001) 0) (.i (.lit 1) (.i (.rd (.var 0) (.var 4001) 1) (.i (.rd (.var 0) (.var 4001) 2) (.i (.rd (.var 0) (.var 4001) 3) (.x .nil (.i (.rd (.var 0) (.var 4001) 4) (.i (.lit 0) (.x .nil .nil)))))))))))))))))))
 (.next 1 ⟨[(0, (.ar .add .i64 (.var 6000) (.lit 1)))], [(1, (.not (.fn 160 (.x (.fn 1 (.x (.var 0) (.x (.var 1) .nil))) (.i (.rd (.var 0) (.var 4001) 0) .nil))))), (2, (.fn 160 (.x (.fn 1 (.x (.var 0) (.x (.var 1) .nil))) (.i (.rd (.var 0) (.var 6000) 0) .nil))))], []⟩)
 (.next 1 ⟨[(0, (.ar .add .i64 (.var 6000) (.lit 1)))], [(1, (.not (.fn 160 (.x (.fn 1 (.x (.var 0) (.x (.var 1) .nil))) (.i (.rd (.var 0) (.var 4001) 0) .nil))))), (2, (.lit false))], []⟩))))
 (.ite (.var 6002)
 (.next 1 ⟨[(0, (.ar .add .i64 (.var 6000) (.lit 1)))], [(1, (.lit false)), (2, (.lit true))], []⟩)
 (.ite (.fn 119 (.i (.rd (.var 0) (.var 6000) 0) (.i (.lit 1) (.i (.rd (.var 0) (.var 6000) 1) (.i (.rd (.var 0) (.var 6000) 2) (.i (.rd (.var 0) (.var 6000) 3) (.x .nil (.i (.rd (.var 0) (.var 6000) 4) (.i (.lit 0) (.x .nil (.i (.rd (.var 0) (.var 4001) 0) (.i (.lit 1) (.i (.rd (.var 0) (.var 4001) 1) (.i (.rd (.var 0) (.var 4001) 2) (.i (.rd (.var 0) (.var 4001) 3) (.x .nil (.i (.rd (.var 0) (.var 4001) 4) (.i (.lit 0) (.x .nil .nil)))))))))))))))))))
 (.next 1 ⟨[(0, (.ar .add .i64 (.var 6000) (.lit 1)))], [(1, (.lit false)), (2, (.fn 160 (.x (.fn 1 (.x (.var 0) (.x (.var 1) .nil))) (.i (.rd (.var 0) (.var 6000) 0) .nil))))], []⟩)
 (.next 1 ⟨[(0, (.ar .add .i64 (.var 6000) (.lit 1)))], [(1, (.lit false)), (2, (.lit false))], []⟩))))
 (.ite (.var 6002)
 (.next 1 ⟨[(0, (.ar .add .i64 (.var 6000) (.lit 1)))], [(1, (.lit false)), (2, (.lit true))], []⟩)
 (.ite (.fn 119 (.i (.rd (.var 0) (.var 6000) 0) (.i (.lit 1) (.i (.rd (.var 0) (.var 6000) 1) (.i (.rd (.var 0) (.var 6000) 2) (.i (.rd (.var 0) (.var 6000) 3) (.x .nil (.i (.rd (.var 0) (.var 6000) 4) (.i (.lit 0) (.x .nil (.i (.rd (.var 0) (.var 4001) 0) (.i (.lit 1) (.i (.rd (.var 0) (.var 4001) 1) (.i (.rd (.var 0) (.var 4001) 2) (.i (.rd (.var 0) (.var 4001) 3) (.x .nil (.i (.rd (.var 0) (.var 4001) 4) (.i (.lit 0) (.x .nil .nil)))))))))))))))))))
 (.next 1 ⟨[(0, (.ar .add .i64 (.var 6000) (.lit 1)))], [(1, (.lit false)), (2, (.fn 160 (.x (.fn 1 (.x (.var 0) (.x (.var 1) .nil))) (.i (.rd (.var 0) (.var 6000) 0) .nil))))], []⟩)
 (.next 1 ⟨[(0, (.ar .add .i64 (.var 6000) (.lit 1)))], [(1, (.lit false)), (2, (.lit false))], []⟩))))))))
 (.ite (.var 6001)
 (.next 0 ⟨[(1, (.ar .add .i64 (.var 4001) (.lit 1)))], [(0, (.not (.eqb (.fn 160 (.x (.fn 1 (.x (.var 0) (.x (.var 1) .nil))) (.i (.rd (.var 0) (.var 4001) 0) .nil))) (.var 6002))))], []⟩)
 (.next 0 ⟨[(1, (.ar .add .i64 (.var 4001) (.lit 1)))], [(0, (.lit false))], []⟩))))))
 (.loop 1 12000 ⟨[(1, (.lit 0))], [(0, (.var 4000))], []⟩
 (.ite (.cmp .lss (.var 12001) (.len (.fn 1 (.x (.var 0) (.x (.var 1) .nil)))))
 (.ob (.tru (.cmp .leq (.lit 0) (.var 12001)))
 (.ob (.tru (.cmp .lss (.var 12001) (.len (.fn 1 (.x (.var 0) (.x (.var 1) .nil))))))
 (.ite (.var 12000)
 (.ite (.cmp .eql (.var 12001) (.lit 0))
 (.next 1 ⟨[(1, (.ar .add .i64 (.var 12001) (.lit 1)))], [(0, (.lit true))], []⟩)
 (.ob (.tru (.cmp .leq (.lit 0) (.ar .sub .i64 (.var 12001) (.lit 1))))
 (.ob (.tru (.cmp .lss (.ar .sub .i64 (.var 12001) (.lit 1)) (.len (.fn 1 (.x (.var 0) (.x (.var 1) .nil))))))
 (.next 1 ⟨[(1, (.ar .add .i64 (.var 12001) (.lit 1)))], [(0, (.cmp .lss (.rd (.fn 1 (.x (.var 0) (.x (.var 1) .nil))) (.ar .sub .i64 (.var 12001) (.lit 1)) 0) (.rd (.fn 1 (.x (.var 0) (.x (.var 1) .nil))) (.var 12001) 0)))], []⟩))))
 (.next 1 ⟨[(1, (.ar .add .i64 (.var 12001) (.lit 1)))], [(0, (.lit false))], []⟩))))
 (.ret ((.v (.one (.z (.bool (.var 12000))))), [], 12))))))))
 (.ret ((.v (.one (.z (.bool (.lit true))))), [], 2)))
-- end trLawCur
def trSModel : TT OpR :=
(.ite (.not (.fn 150 (.x (.var 0) (.x (.var 1) .nil))))
 (.ret ((.tup [(.one (.z (.const (.slice none 0 0)))), (.one (.z (.int .i64 (.lit 1))))]), [], 1))
 (.ob (.tru (.cmp .leq (.len (.var 1)) (.lit 1000000)))
 (.ob (.tru (.cmp .leq (.len (.var 0)) (.lit 1000000)))
 (.loop 0 4000 ⟨[(0, (.lit 0)), (1, (.lit 0)), (0, (.lit 0))], [], [(2, (.var 1))]⟩
 (.ite (.cmp .lss (.var 4001) (.len (.fn 0 (.x (.var 0) (.x (.var 1) .nil)))))
 (.ob (.tru (.cmp .leq (.lit 0) (.var 4001)))
 (.ob (.tru (.cmp .lss (.var 4001) (.len (.fn 0 (.x (.var 0) (.x (.var 1) .nil))))))
 (.ob (.tru (.fn 136 (.x (.var 4002) .nil)))
 (.ob (.tru (.cmp .leq (.lit 0) (.fn 135 (.x (.var 4002) (.i (.rd (.fn 0 (.x (.var 0) (.x (.var 1) .nil))) (.var 4001) 0) .nil)))))
 (.ob (.tru (.cmp .leq (.fn 135 (.x (.var 4002) (.i (.rd (.fn 0 (.x (.var 0) (.x (.var 1) .nil))) (.var 4001) 0) .nil))) (.len (.var 4002))))
 (.ob (.tru (.cmp .lss (.len (.var 4002)) (.lit 1000000)))
 (.next 0 ⟨[(0, (.plus (.var 4000) (.lit 1))), (1, (.ar .add .i64 (.var 4001) (.lit 1))), (0, (.plus (.var 4000) (.lit 1)))], [], [(2, (.app (.app (.sub (.var 4002) (.lit 0) (.fn 135 (.x (.var 4002) (.i (.rd (.fn 0 (.x (.var 0) (.x (.var 1) .nil))) (.var 4001) 0) .nil)))) (.app (.row (.i (.rd (.fn 0 (.x (.var 0) (.x (.var 1) .nil))) (.var 4001) 0) (.i (.lit 1) (.i (.rd (.fn 0 (.x (.var 0) (.x (.var 1) .nil))) (.var 4001) 1) (.i (.rd (.fn 0 (.x (.var 0) (.x (.var 1) .nil))) (.var 4001) 2) (.i (.rd (.fn 0 (.x (.var 0) (.x (.var 1) .nil))) (.var 4001) 3) (.x .nil (.i (.rd (.fn 0 (.x (.var 0) (.x (.var 1) .nil))) (.var 4001) 4) (.i (.lit 0) (.x .nil .nil)))))))))) .nil)) (.sub (.var 4002) (.fn 135 (.x (.var 4002) (.i (.rd (.fn 0 (.x (.var 0) (.x (.var 1) .nil))) (.var 4001) 0) .nil))) (.len (.var 4002)))))]⟩)))))))
 (.ret ((.tup [(.one (.z (.own 1 (.var 4000)))), (.one (.z (.int .i64 (.lit 0))))]), [(1, (.own 59 featK (.var 4002) (.var 4000))), (1, (.own 59 featK (.var 1) (.lit 0)))], 8)))))))
-- end trSModel
def trSModel_h : List (Nat × St) := [
(3, ⟨(List.append [(.v (.agg [(.z (.ext sndK (.var 0) false)), (.z (.ext featK (.var 1) false))])), (.v (.one (.z (.ptr 0 0)))), (.v (.one (.z (.const (.slice none 0 0))))), (.v (.one (.z (.int .i64 (.lit 0))))), (.v (.one (.z (.own 1 (.var 4000)))))] (List.append (List.replicate 4 V.any) (List.append [(.v (.agg [(.z (.ext sndK (.var 0) false)), (.z (.ext featK (.var 1) false))])), (.v (.one (.z (.bool (.fn 150 (.x (.var 0) (.x (.var 1) .nil))))))), (.v (.one (.z (.bool (.not (.fn 150 (.x (.var 0) (.x (.var 1) .nil)))))))), (.v (.one (.z (.ptr 0 1)))), (.v (.one (.z (.ext featK (.var 1) false)))), (.v (.one (.z (.own 1 (.lit 0))))), (.v (.agg [(.z (.ext sndK (.var 0) false)), (.z (.ext featK (.var 1) false))])), (.v (.one (.z (.own 2 (.lit 0))))), (.v (.one (.z (.int .i64 (.len (.fn 0 (.x (.var 0) (.x (.var 1) .nil)))))))), (.v (.one (.z (.int .i64 (.var 4001)))))] (List.replicate 18 V.any)))), [(2, (.own 53 sndK (.fn 0 (.x (.var 0) (.x (.var 1) .nil))) (.lit 0))), (1, (.own 59 featK (.var 4002) (.var 4000))), (0, (.cells 25 [(.z (.ext sndK (.var 0) false)), (.z (.ext featK (.var 1) false))]))], 4, []⟩)]
def trSModel_j : List (FuncId × Nat × Nat × St) := [
]
set_option maxRecDepth 100000 in
theorem trSModel_is : T.norm 0 (call Tryz.prog ctV3 ⟨Lt.un (Lt.of []), trSModel_h, trSModel_j⟩ 150 18 (symArgs 0 [suv]) [] 0) TT.ret = trSModel := by kernel_rfl
theorem trSModel_low : trSModel.low 1000 = true := by kernel_rfl
-- term trSAllows: call Tryz.prog ctV3 (Lt.of []) 150 23 (symArgs 0 [suv, pt, it]) [] 0
def trSAllows : TT OpR :=
(.ite (.not (.fn 150 (.x (.var 0) (.x (.var 1) .nil))))
 (.ret ((.tup [(.one (.z (.bool (.lit false)))), (.one (.z (.int .i64 (.lit 1))))]), [], 2))
 (.ite (.not (.fn 3 (.i (.var 2) (.i (.var 3) .nil))))
 (.ret ((.tup [(.one (.z (.bool (.lit false)))), (.one (.z (.int .i64 (.lit 1))))]), [], 2))
 (.ite (.cmp .lss (.var 4) (.lit 0))
 (.ret ((.tup [(.one (.z (.bool (.lit false)))), (.one (.z (.int .i64 (.lit 0))))]), [], 2))
 (.ite (.cmp .gtr (.var 4) (.lit 100000))
 (.ret ((.tup [(.one (.z (.bool (.lit false)))), (.one (.z (.int .i64 (.lit 0))))]), [], 2))
 (.ob (.tru (.cmp .leq (.len (.var 0)) (.lit 1000000)))
 (.loop 0 4000 ⟨[(0, (.lit 0))], [], []⟩
 (.ite (.cmp .lss (.var 4000) (.len (.fn 0 (.x (.var 0) (.x (.var 1) .nil)))))
 (.ob (.tru (.cmp .leq (.lit 0) (.var 4000)))
 (.ob (.tru (.cmp .lss (.var 4000) (.len (.fn 0 (.x (.var 0) (.x (.var 1) .nil))))))
 (.ite (.fn 78 (.i (.rd (.fn 0 (.x (.var 0) (.x (.var 1) .nil))) (.var 4000) 0) (.i (.lit 1) (.i (.rd (.fn 0 (.x (.var 0) (.x (.var 1) .nil))) (.var 4000) 1) (.i (.rd (.fn 0 (.x (.var 0) (.x (.var 1) .nil))) (.var 4000) 2) (.i (.rd (.fn 0 (.x (.var 0) (.x (.var 1) .nil))) (.var 4000) 3) (.x .nil (.i (.rd (.fn 0 (.x (.var 0) (.x (.var 1) .nil))) (.var 4000) 4) (.i (.lit 0) (.x .nil (.i (.var 2) (.i (.var 3) .nil))))))))))))
 (.ite (.cmp .lss (.var 4) (.rd (.fn 0 (.x (.var 0) (.x (.var 1) .nil))) (.var 4000) 4))
 (.ret ((.tup [(.one (.z (.bool (.lit false)))), (.one (.z (.int .i64 (.lit 0))))]), [], 7))
 (.ite (.cmp .lss (.rd (.fn 0 (.x (.var 0) (.x (.var 1) .nil))) (.var 4000) 5) (.var 4))
 (.ret ((.tup [(.one (.z (.bool (.lit false)))), (.one (.z (.int .i64 (.lit 0))))]), [], 7))
 (.next 0 ⟨[(0, (.ar .add .i64 (.var 4000) (.lit 1)))], [], []⟩)))
 (.next 0 ⟨[(0, (.ar .add .i64 (.var 4000) (.lit 1)))], [], []⟩))))
 (.loop 1 8000 ⟨[(0, (.lit 0))], [], []⟩
 (.ite (.cmp .lss (.var 8000) (.len (.var 1)))
 (.ob (.tru (.cmp .leq (.lit 0) (.var 8000)))
 (.ob (.tru (.cmp .lss (.var 8000) (.len (.var 1))))
 (.ite (.fn 78 (.i (.rd (.var 1) (.var 8000) 0) (.i (.rd (.var 1) (.var 8000) 1) (.i (.rd (.var 1) (.var 8000) 2) (.i (.rd (.var 1) (.var 8000) 3) (.i (.rd (.var 1) (.var 8000) 4) (.x (.rd (.var 1) (.var 8000) 5) (.i (.rd (.var 1) (.var 8000) 6) (.i (.rd (.var 1) (.var 8000) 7) (.x (.rd (.var 1) (.var 8000) 8) (.i (.var 2) (.i (.var 3) .nil))))))))))))
 (.ite (.cmp .lss (.var 4) (.rd (.var 1) (.var 8000) 6))
 (.ret ((.tup [(.one (.z (.bool (.lit false)))), (.one (.z (.int .i64 (.lit 0))))]), [], 9))
 (.next 1 ⟨[(0, (.ar .add .i64 (.var 8000) (.lit 1)))], [], []⟩))
 (.next 1 ⟨[(0, (.ar .add .i64 (.var 8000) (.lit 1)))], [], []⟩))))
 (.ret ((.tup [(.one (.z (.bool (.lit true)))), (.one (.z (.int .i64 (.lit 0))))]), [], 9)))))))))))
-- end trSAllows
def trSAllows_h : List (Nat × St) := [
(3, ⟨(List.append [(.v (.agg [(.z (.ext sndK (.var 0) false)), (.z (.ext featK (.var 1) false))])), (.v (.agg [(.z (.int .i64 (.var 2))), (.z (.int .i64 (.var 3)))])), (.v (.one (.z (.int .i64 (.var 4))))), (.v (.one (.z (.ptr 0 0)))), (.v (.one (.z (.ptr 1 0)))), (.v (.one (.z .any))), (.v (.one (.z (.bool (.lit false))))), (.v (.one (.z (.int .i64 (.lit 0)))))] (List.append (List.replicate 8 V.any) (List.append [(.v (.agg [(.z (.ext sndK (.var 0) false)), (.z (.ext featK (.var 1) false))])), (.v (.one (.z (.bool (.fn 150 (.x (.var 0) (.x (.var 1) .nil))))))), (.v (.one (.z (.bool (.not (.fn 150 (.x (.var 0) (.x (.var 1) .nil)))))))), (.v (.one (.z (.bool (.lit false))))), (.v (.agg [(.z (.int .i64 (.var 2))), (.z (.int .i64 (.var 3)))])), (.v (.one (.z (.bool (.fn 3 (.i (.var 2) (.i (.var 3) .nil))))))), (.v (.one (.z (.bool (.not (.fn 3 (.i (.var 2) (.i (.var 3) .nil)))))))), (.v (.one (.z (.bool (.not (.fn 3 (.i (.var 2) (.i (.var 3) .nil)))))))), (.v (.one (.z (.int .i64 (.var 4))))), (.v (.one (.z (.bool (.cmp .lss (.var 4) (.lit 0)))))), (.v (.one (.z (.bool (.lit false))))), (.v (.one (.z (.int .i64 (.var 4))))), (.v (.one (.z (.bool (.cmp .gtr (.var 4) (.lit 100000)))))), (.v (.one (.z (.bool (.cmp .gtr (.var 4) (.lit 100000)))))), (.v (.agg [(.z (.ext sndK (.var 0) false)), (.z (.ext featK (.var 1) false))])), (.v (.one (.z (.own 2 (.lit 0))))), (.v (.one (.z (.int .i64 (.len (.fn 0 (.x (.var 0) (.x (.var 1) .nil)))))))), (.v (.one (.z (.int .i64 (.var 4000)))))] (List.replicate 47 V.any)))), [(2, (.own 53 sndK (.fn 0 (.x (.var 0) (.x (.var 1) .nil))) (.lit 0))), (1, (.cells 27 [(.z (.int .i64 (.var 2))), (.z (.int .i64 (.var 3)))])), (0, (.cells 25 [(.z (.ext sndK (.var 0) false)), (.z (.ext featK (.var 1) false))]))], 4, []⟩),
(7, ⟨(List.append [(.v (.agg [(.z (.ext sndK (.var 0) false)), (.z (.ext featK (.var 1) false))])), (.v (.agg [(.z (.int .i64 (.var 2))), (.z (.int .i64 (.var 3)))])), (.v (.one (.z (.int .i64 (.var 4))))), (.v (.one (.z (.ptr 0 0)))), (.v (.one (.z (.ptr 1 0)))), (.v (.one (.z .any))), (.v (.one (.z (.bool (.lit false))))), (.v (.one (.z (.int .i64 (.lit 0)))))] (List.append (List.replicate 8 V.any) (List.append [(.v (.agg [(.z (.ext sndK (.var 0) false)), (.z (.ext featK (.var 1) false))])), (.v (.one (.z (.bool (.fn 150 (.x (.var 0) (.x (.var 1) .nil))))))), (.v (.one (.z (.bool (.not (.fn 150 (.x (.var 0) (.x (.var 1) .nil)))))))), (.v (.one (.z (.bool (.lit false))))), (.v (.agg [(.z (.int .i64 (.var 2))), (.z (.int .i64 (.var 3)))])), (.v (.one (.z (.bool (.fn 3 (.i (.var 2) (.i (.var 3) .nil))))))), (.v (.one (.z (.bool (.not (.fn 3 (.i (.var 2) (.i (.var 3) .nil)))))))), (.v (.one (.z (.bool (.not (.fn 3 (.i (.var 2) (.i (.var 3) .nil)))))))), (.v (.one (.z (.int .i64 (.var 4))))), (.v (.one (.z (.bool (.cmp .lss (.var 4) (.lit 0)))))), (.v (.one (.z (.bool (.lit false))))), (.v (.one (.z (.int .i64 (.var 4))))), (.v (.one (.z (.bool (.cmp .gtr (.var 4) (.lit 100000)))))), (.v (.one (.z (.bool (.cmp .gtr (.var 4) (.lit 100000)))))), (.v (.agg [(.z (.ext sndK (.var 0) false)), (.z (.ext featK (.var 1) false))])), (.v (.one (.z (.own 2 (.lit 0))))), (.v (.one (.z (.int .i64 (.len (.fn 0 (.x (.var 0) (.x (.var 1) .nil)))))))), (.v (.one (.z (.int .i64 (.var 4000))))), (.v (.one (.z (.bool (.cmp .lss (.var 4000) (.len (.fn 0 (.x (.var 0) (.x (.var 1) .nil)))))))))] (List.append (List.replicate 25 V.any) (List.append [(.v (.one (.z (.ptr 0 1)))), (.v (.one (.z (.ext featK (.var 1) false)))), (.v (.one (.z (.int .i64 (.len (.var 1)))))), (.v (.one (.z (.int .i64 (.var 8000)))))] (List.replicate 17 V.any)))))), [(2, (.own 53 sndK (.fn 0 (.x (.var 0) (.x (.var 1) .nil))) (.lit 0))), (1, (.cells 27 [(.z (.int .i64 (.var 2))), (.z (.int .i64 (.var 3)))])), (0, (.cells 25 [(.z (.ext sndK (.var 0) false)), (.z (.ext featK (.var 1) false))]))], 8, []⟩)]
def trSAllows_j : List (FuncId × Nat × Nat × St) := [
]
set_option maxRecDepth 100000 in
theorem trSAllows_is : T.norm 0 (call Tryz.prog ctV3 ⟨Lt.un (Lt.of []), trSAllows_h, trSAllows_j⟩ 150 23 (symArgs 0 [suv, pt, it]) [] 0) TT.ret = trSAllows := by kernel_rfl
theorem trSAllows_low : trSAllows.low 1000 = true := by kernel_rfl
-- term trSClash: call Tryz.prog ctV3 (Lt.of []) 150 25 (symArgs 0 [suv]) [] 0
def trSClash : TT OpR :=
(.ite (.not (.fn 150 (.x (.var 0) (.x (.var 1) .nil))))
 (.ret ((.tup [(.one (.z (.const (.slice none 0 0)))), (.one (.z (.int .i64 (.lit 1))))]), [], 1))
 (.ob (.tru (.cmp .leq (.len (.var 0)) (.lit 1000000)))
 (.loop 0 3000 ⟨[(0, (.lit 0)), (2, (.lit 0)), (0, (.lit 0))], [], [(1, .nil)]⟩
 (.ite (.cmp .lss (.var 3002) (.len (.fn 0 (.x (.var 0) (.x (.var 1) .nil)))))
 (.ob (.tru (.cmp .leq (.lit 0) (.var 3002)))
 (.ob (.tru (.cmp .lss (.var 3002) (.len (.fn 0 (.x (.var 0) (.x (.var 1) .nil))))))
 (.ob (.tru (.cmp .leq (.lit 0) (.ar .add .i64 (.var 3002) (.lit 1))))
 (.ob (.tru (.cmp .leq (.ar .add .i64 (.var 3002) (.lit 1)) (.len (.fn 0 (.x (.var 0) (.x (.var 1) .nil))))))
 (.ob (.tru (.lit true))
 (.loop 1 6000 ⟨[(1, (.var 3000)), (0, (.lit 0)), (1, (.var 3000))], [], [(2, (.var 3001))]⟩
 (.ite (.cmp .lss (.var 6000) (.len (.sub (.fn 0 (.x (.var 0) (.x (.var 1) .nil))) (.ar .add .i64 (.var 3002) (.lit 1)) (.len (.fn 0 (.x (.var 0) (.x (.var 1) .nil)))))))
 (.ob (.tru (.cmp .leq (.lit 0) (.var 6000)))
 (.ob (.tru (.cmp .lss (.var 6000) (.len (.sub (.fn 0 (.x (.var 0) (.x (.var 1) .nil))) (.ar .add .i64 (.var 3002) (.lit 1)) (.len (.fn 0 (.x (.var 0) (.x (.var 1) .nil))))))))
 (.ite (.cmp .leq (.mx (.rd (.fn 0 (.x (.var 0) (.x (.var 1) .nil))) (.var 3002) 4) (.rd (.fn 0 (.x (.var 0) (.x (.var 1) .nil))) (.plus (.ar .add .i64 (.var 3002) (.lit 1)) (.var 6000)) 4)) (.mn (.rd (.fn 0 (.x (.var 0) (.x (.var 1) .nil))) (.var 3002) 5) (.rd (.fn 0 (.x (.var 0) (.x (.var 1) .nil))) (.plus (.ar .add .i64 (.var 3002) (.lit 1)) (.var 6000)) 5)))
 (.next 1 ⟨[(1, (.var 6001)), (0, (.ar .add .i64 (.var 6000) (.lit 1))), (1, (.var 6001))], [], [(2, (.var 6002))]⟩)
 (.ite (.fn 120 (.i (.rd (.fn 0 (.x (.var 0) (.x (.var 1) .nil))) (.var 3002) 0) (.i (.lit 1) (.i (.rd (.fn 0 (.x (.var 0) (.x (.var 1) .nil))) (.var 3002) 1) (.i (.rd (.fn 0 (.x (.var 0) (.x (.var 1) .nil))) (.var 3002) 2) (.i (.rd (.fn 0 (.x (.var 0) (.x (.var 1) .nil))) (.var 3002) 3) (.x .nil (.i (.rd (.fn 0 (.x (.var 0) (.x (.var 1) .nil))) (.var 3002) 4) (.i (.lit 0) (.x .nil (.i (.rd (.fn 0 (.x (.var 0) (.x (.var 1) .nil))) (.plus (.ar .add .i64 (.var 3002) (.lit 1)) (.var 6000)) 0) (.i (.lit 1) (.i (.rd (.fn 0 (.x (.var 0) (.x (.var 1) .nil))) (.plus (.ar .add .i64 (.var 3002) (.lit 1)) (.var 6000)) 1) (.i (.rd (.fn 0 (.x (.var 0) (.x (.var 1) .nil))) (.plus (.ar .add .i64 (.var 3002) (.lit 1)) (.var 6000)) 2) (.i (.rd (.fn 0 (.x (.var 0) (.x (.var 1) .nil))) (.plus (.ar .add .i64 (.var 3002) (.lit 1)) (.var 6000)) 3) (.x .nil (.i (.rd (.fn 0 (.x (.var 0) (.x (.var 1) .nil))) (.plus (.ar .add .i64 (.var 3002) (.lit 1)) (.var 6000)) 4) (.i (.lit 0) (.x .nil .nil)))))))))))))))))))
 (.ob (.tru (.cmp .leq (.len (.app (.var 6002) (.app (.row (.i (.rd (.fn 0 (.x (.var 0) (.x (.var 1) .nil))) (.var 3002) 0) (.i (.rd (.fn 0 (.x (.var 0) (.x (.var 1) .nil))) (.plus (.ar .add .i64 (.var 3002) (.lit 1)) (.var 6000)) 0) .nil))) .nil))) (.lit 1000000)))
 (.next 1 ⟨[(1, (.plus (.var 6001) (.lit 1))), (0, (.ar .add .i64 (.var 6000) (.lit 1))), (1, (.plus (.var 6001) (.lit 1)))], [], [(2, (.app (.var 6002) (.app (.row (.i (.rd (.fn 0 (.x (.var 0) (.x (.var 1) .nil))) (.var 3002) 0) (.i (.rd (.fn 0 (.x (.var 0) (.x (.var 1) .nil))) (.plus (.ar .add .i64 (.var 3002) (.lit 1)) (.var 6000)) 0) .nil))) .nil)))]⟩))
 (.next 1 ⟨[(1, (.var 6001)), (0, (.ar .add .i64 (.var 6000) (.lit 1))), (1, (.var 6001))], [], [(2, (.var 6002))]⟩)))))
 (.next 0 ⟨[(0, (.var 6001)), (2, (.ar .add .i64 (.var 3002) (.lit 1))), (0, (.var 6001))], [], [(1, (.var 6002))]⟩))))))))
 (.ret ((.tup [(.one (.z (.own 3 (.var 3000)))), (.one (.z (.int .i64 (.lit 0))))]), [(3, (.own 67 [(.int .i64), (.int .i64)] (.var 3001) (.var 3000)))], 12))))))
-- end trSClash
def trSClash_h : List (Nat × St) := [
(2, ⟨(List.append [(.v (.agg [(.z (.ext sndK (.var 0) false)), (.z (.ext featK (.var 1) false))])), (.v (.one (.z (.ptr 0 0)))), (.v (.one (.z (.const (.slice none 0 0))))), (.v (.one (.z (.int .i64 (.lit 0))))), (.v (.one (.z (.own 3 (.var 3000))))), (.v (.one (.z (.own 1 (.lit 0)))))] (List.append (List.replicate 6 V.any) (List.append [(.v (.agg [(.z (.ext sndK (.var 0) false)), (.z (.ext featK (.var 1) false))])), (.v (.one (.z (.bool (.fn 150 (.x (.var 0) (.x (.var 1) .nil))))))), (.v (.one (.z (.bool (.not (.fn 150 (.x (.var 0) (.x (.var 1) .nil)))))))), (.v (.agg [(.z (.ext sndK (.var 0) false)), (.z (.ext featK (.var 1) false))])), (.v (.one (.z (.own 1 (.lit 0))))), (.v (.one (.z (.own 1 (.lit 0))))), (.v (.one (.z (.int .i64 (.len (.fn 0 (.x (.var 0) (.x (.var 1) .nil)))))))), (.v (.one (.z (.int .i64 (.var 3002)))))] (List.replicate 48 V.any)))), [(3, (.own 67 [(.int .i64), (.int .i64)] (.var 3001) (.var 3000))), (1, (.own 53 sndK (.fn 0 (.x (.var 0) (.x (.var 1) .nil))) (.lit 0))), (0, (.cells 25 [(.z (.ext sndK (.var 0) false)), (.z (.ext featK (.var 1) false))]))], 4, []⟩),
(5, ⟨(List.append [(.v (.agg [(.z (.ext sndK (.var 0) false)), (.z (.ext featK (.var 1) false))])), (.v (.one (.z (.ptr 0 0)))), (.v (.one (.z (.const (.slice none 0 0))))), (.v (.one (.z (.int .i64 (.lit 0))))), (.v (.one (.z (.own 3 (.var 6001))))), (.v (.one (.z (.own 1 (.lit 0))))), (.v (.one (.z (.int .i64 (.var 3002))))), (.v (.one (.z (.ptr 4 0))))] (List.append (List.replicate 4 V.any) (List.append [(.v (.agg [(.z (.ext sndK (.var 0) false)), (.z (.ext featK (.var 1) false))])), (.v (.one (.z (.bool (.fn 150 (.x (.var 0) (.x (.var 1) .nil))))))), (.v (.one (.z (.bool (.not (.fn 150 (.x (.var 0) (.x (.var 1) .nil)))))))), (.v (.agg [(.z (.ext sndK (.var 0) false)), (.z (.ext featK (.var 1) false))])), (.v (.one (.z (.own 1 (.lit 0))))), (.v (.one (.z (.own 1 (.lit 0))))), (.v (.one (.z (.int .i64 (.len (.fn 0 (.x (.var 0) (.x (.var 1) .nil)))))))), (.v (.one (.z (.int .i64 (.var 3002))))), (.v (.one (.z (.bool (.cmp .lss (.var 3002) (.len (.fn 0 (.x (.var 0) (.x (.var 1) .nil))))))))), (.v (.one (.z (.int .i64 (.var 3002))))), (.v (.one (.z (.optr 1 (.lit 0) 7 (.var 3002) 0)))), (.v (.agg [(.z (.int .i64 (.rd (.fn 0 (.x (.var 0) (.x (.var 1) .nil))) (.var 3002) 0))), (.z (.int .i64 (.rd (.fn 0 (.x (.var 0) (.x (.var 1) .nil))) (.var 3002) 1))), (.z (.int .i64 (.rd (.fn 0 (.x (.var 0) (.x (.var 1) .nil))) (.var 3002) 2))), (.z (.int .i64 (.rd (.fn 0 (.x (.var 0) (.x (.var 1) .nil))) (.var 3002) 3))), (.z (.int .i64 (.rd (.fn 0 (.x (.var 0) (.x (.var 1) .nil))) (.var 3002) 4))), (.z (.int .i64 (.rd (.fn 0 (.x (.var 0) (.x (.var 1) .nil))) (.var 3002) 5))), (.z (.int .i64 (.rd (.fn 0 (.x (.var 0) (.x (.var 1) .nil))) (.var 3002) 6)))])), (.v (.one (.z (.own 1 (.lit 0))))), (.v (.one (.z (.int .i64 (.var 3002))))), (.v (.one (.z (.int .i64 (.ar .add .i64 (.var 3002) (.lit 1)))))), (.v (.one (.z (.ovw 1 (.lit 0) 7 (.ar .add .i64 (.var 3002) (.lit 1)) (.len (.fn 0 (.x (.var 0) (.x (.var 1) .nil)))) false)))), (.v (.one (.z (.int .i64 (.len (.sub (.fn 0 (.x (.var 0) (.x (.var 1) .nil))) (.ar .add .i64 (.var 3002) (.lit 1)) (.len (.fn 0 (.x (.var 0) (.x (.var 1) .nil)))))))))), (.v (.one (.z (.int .i64 (.var 6000)))))] (List.replicate 38 V.any)))), [(4, (.cells 53 [(.z (.int .i64 (.rd (.fn 0 (.x (.var 0) (.x (.var 1) .nil))) (.var 3002) 0))), (.z (.int .i64 (.rd (.fn 0 (.x (.var 0) (.x (.var 1) .nil))) (.var 3002) 1))), (.z (.int .i64 (.rd (.fn 0 (.x (.var 0) (.x (.var 1) .nil))) (.var 3002) 2))), (.z (.int .i64 (.rd (.fn 0 (.x (.var 0) (.x (.var 1) .nil))) (.var 3002) 3))), (.z (.int .i64 (.rd (.fn 0 (.x (.var 0) (.x (.var 1) .nil))) (.var 3002) 4))), (.z (.int .i64 (.rd (.fn 0 (.x (.var 0) (.x (.var 1) .nil))) (.var 3002) 5))), (.z (.int .i64 (.rd (.fn 0 (.x (.var 0) (.x (.var 1) .nil))) (.var 3002) 6)))])), (3, (.own 67 [(.int .i64), (.int .i64)] (.var 6002) (.var 6001))), (1, (.own 53 sndK (.fn 0 (.x (.var 0) (.x (.var 1) .nil))) (.lit 0))), (0, (.cells 25 [(.z (.ext sndK (.var 0) false)), (.z (.ext featK (.var 1) false))]))], 6, []⟩)]
def trSClash_j : List (FuncId × Nat × Nat × St) := [
]
set_option maxRecDepth 100000 in
theorem trSClash_is : T.norm 0 (call Tryz.prog ctV3 ⟨Lt.un (Lt.of []), trSClash_h, trSClash_j⟩ 150 25 (symArgs 0 [suv]) [] 0) TT.ret = trSClash := by kernel_rfl
theorem trSClash_low : trSClash.low 1000 = true := by kernel_rfl
end Go.Proofs.YtldbejmgalhdaaaGreat
/- Chapter 09: the law SurveyCurrent. -/
namespace Go.Proofs.YtldbejmgalhdaaaGreat
open Go.RowKit
theorem KVcd0 (W : World) (ds l : List D) : (envOf KVc W ds).fd 0 l = curL l := by simp only [envOf, KVc, KVb]
def idsS (s : Rows) : Rows := (curR s).map fun row => [.i (cI row 0)]
theorem sce_two (s F : Rows) : scE [.l s, .l F] = if surB s F = true then 0 else 1 := rfl
theorem ids_two (s F : Rows) : idsR [.l s, .l F] = if surB s F = true then idsS s else [] := rfl
theorem has_two (r : Rows) (n : Int) : hasL9 [.l r, .i n] = hasB9 r n := rfl
theorem ids_at {s : Rows} {k : Nat} (hk : k < (curR s).length) : lg (idsS s) k 0 = cI (curR s)[k] 0 := by
  have h : (idsS s)[k]? = some [.i (cI (curR s)[k] 0)] := by unfold idsS; rw [List.getElem?_map, List.getElem?_eq_getElem hk]; rfl
  unfold lg cellAt
  rw [Int.toNat_natCast, h]; rfl
theorem has_ids {s : Rows} (hs : RisP s) {x : List D} (hx : x ∈ s) : hasB9 (idsS s) (cI x 0) = true ↔ x ∈ curR s := by
  rw [hasB9_iff]
  constructor
  · rintro ⟨k, hk, h⟩
    have hk' : k < (curR s).length := by simpa [idsS] using hk
    rw [ids_at hk'] at h
    have hm := List.getElem_mem hk'
    rw [← ris_inj hs (cur_mem.1 hm).1 hx h]
    exact hm
  · intro h
    obtain ⟨k, hk, rfl⟩ := List.getElem_of_mem h
    have hk' : k < (idsS s).length := by simpa [idsS] using hk
    exact ⟨k, hk', ids_at hk⟩
end Go.Proofs.YtldbejmgalhdaaaGreat
