/- HI, merged: TVn, Vo. -/
import Derived.Test.YtldbejmgalhdaaaGreatHH
set_option linter.unusedSimpArgs false
set_option linter.unusedVariables false
/- Chapter 09: trees of the law SurveyCurrent; of survey.Model, Allows, Clashes. -/
namespace Go.Proofs.YtldbejmgalhdaaaGreat
open Go.RowKit
-- term trLawCur: call Tryz.prog ctV3 (Lt.of []) 150 4 (symArgs 0 [suv]) [] 0
def trLawCur : TT OpR :=
(.ite (.cmp .leq (.len (.var 0)) (.lit 16))
 (.ite (.not (.cmp .leq (.len (.var 1)) (.lit 12)))
 (.ret ((.v (.one (.z (.bool (.lit true))))), [], 2))
 (.ite (.cmp .neq (.fn 160 (.x (.var 0) (.x (.var 1) .nil))) (.lit 0))
 (.ret ((.v (.one (.z (.bool (.cmp .eql (.fn 160 (.x (.var 0) (.x (.var 1) .nil))) (.lit 1)))))), [], 3))
 (.loop 0 4000 ⟨[(1, (.lit 0))], [(0, (.lit true))], []⟩
 (.ite (.cmp .lss (.var 4001) (.len (.var 0)))
 (.ob (.tru (.cmp .leq (.lit 0) (.var 4001)))
 (.ob (.tru (.cmp .lss (.var 4001) (.len (.var 0))))
 (.loop 1 6000 ⟨[(0, (.lit 0))], [(1, (.var 4000)), (2, (.lit false))], []⟩
 (.ite (.cmp .lss (.var 6000) (.len (.var 0)))
 (.ob (.tru (.cmp .leq (.lit 0) (.var 6000)))
 (.ob (.tru (.cmp .lss (.var 6000) (.len (.var 0))))
 (.ite (.cmp .lss (.rd (.var 0) (.var 6000) 6) (.rd (.var 0) (.var 4001) 6))
 (.next 1 ⟨[(0, (.ar .add .i64 (.var 6000) (.lit 1)))], [(1, (.var 6001)), (2, (.var 6002))], []⟩)
 (.ite (.cmp .eql (.rd (.var 0) (.var 6000) 6) (.rd (.var 0) (.var 4001) 6))
 (.ite (.cmp .leq (.rd (.var 0) (.var 6000) 0) (.rd (.var 0) (.var 4001) 0))
 (.next 1 ⟨[(0, (.ar .add .i64 (.var 6000) (.lit 1)))], [(1, (.var 6001)), (2, (.var 6002))], []⟩)
 (.ite (.var 6001)
 (.ite (.cmp .eql (.fn 119 (.i (.rd (.var 0) (.var 6000) 0) (.i (.lit 1) (.i (.rd (.var 0) (.var 6000) 1) (.i (.rd (.var 0) (.var 6000) 2) (.i (.rd (.var 0) (.var 6000) 3) (.x .nil (.i (.rd (.var 0) (.var 6000) 4) (.i (.lit 0) (.x .nil (.i (.rd (.var 0) (.var 4001) 0) (.i (.lit 1) (.i (.rd (.var 0) (.var 4001) 1) (.i (.rd (.var 0) (.var 4001) 2) (.i (.rd (.var 0) (.var 4001) 3) (.x .nil (.i (.rd (.var 0) (.var 4001) 4) (.i (.lit 0) (.x .nil .nil))))))))))))))))))) (.lit 0))
 (.ite (.not (.fn 119 (.i (.rd (.var 0) (.var 6000) 0) (.i (.lit 1) (.i (.rd (.var 0) (.var 6000) 1) (.i (.rd (.var 0) (.var 6000) 2) (.i (.rd (.var 0) (.var 6000) 3) (.x .nil (.i (.rd (.var 0) (.var 6000) 4) (.i (.lit 0) (.x .nil (.i (.rd (.var 0) (.var 4001) 0) (.i (.lit 1) (.i (.rd (.var 0) (.var 4001) 1) (.i (.rd (.var 0) (.var 4001) 2) (.i (.rd (.var 0) (.var 4001) 3) (.x .nil (.i (.rd (.var 0) (.var 4001) 4) (.i (.lit 0) (.x .nil .nil))))))))))))))))))))
 (.ite (.var 6002)
 (.next 1 ⟨[(0, (.ar .add .i64 (.var 6000) (.lit 1)))], [(1, (.lit true)), (2, (.lit true))], []⟩)
 (.ite (.fn 119 (.i (.rd (.var 0) (.var 6000) 0) (.i (.lit 1) (.i (.rd (.var 0) (.var 6000) 1) (.i (.rd (.var 0) (.var 6000) 2) (.i (.rd (.var 0) (.var 6000) 3) (.x .nil (.i (.rd (.var 0) (.var 6000) 4) (.i (.lit 0) (.x .nil (.i (.rd (.var 0) (.var 4001) 0) (.i (.lit 1) (.i (.rd (.var 0) (.var 4001) 1) (.i (.rd (.var 0) (.var 4001) 2) (.i (.rd (.var 0) (.var 4001) 3) (.x .nil (.i (.rd (.var 0) (.var 4001) 4) (.i (.lit 0) (.x .nil .nil)))))))))))))))))))
 (.next 1 ⟨[(0, (.ar .add .i64 (.var 6000) (.lit 1)))], [(1, (.lit true)), (2, (.fn 160 (.x (.fn 1 (.x (.var 0) (.x (.var 1) .nil))) (.i (.rd (.var 0) (.var 6000) 0) .nil))))], []⟩)
 (.next 1 ⟨[(0, (.ar .add .i64 (.var 6000) (.lit 1)))], [(1, (.lit true)), (2, (.lit false))], []⟩)))
 (.ite (.var 6002)
 (.next 1 ⟨[(0, (.ar .add .i64 (.var 6000) (.lit 1)))], [(1, (.not (.fn 160 (.x (.fn 1 (.x (.var 0) (.x (.var 1) .nil))) (.i (.rd (.var 0) (.var 4001) 0) .nil))))), (2, (.lit true))], []⟩)
 (.ite (.fn 119 (.i (.rd (.var 0) (.var 6000) 0) (.i (.lit 1) (.i (.rd (.var 0) (.var 6000) 1) (.i (.rd (.var 0) (.var 6000) 2) (.i (.rd (.var 0) (.var 6000) 3) (.x .nil (.i (.rd (.var 0) (.var 6000) 4) (.i (.lit 0) (.x .nil (.i (.rd (.var 0) (.var 4001) 0) (.i (.lit 1) (.i (.rd (.var 0) (.var 4001) 1) (.i (.rd (.var 0) (.var 4001) 2) (.i (.rd (.var 0) (.var 4001) 3) (.x .nil (.i (.rd (.var 0) (.var 4001) 4) (.i (.lit 0) (.x .nil .nil)))))))))))))))))))
 (.next 1 ⟨[(0, (.ar .add .i64 (.var 6000) (.lit 1)))], [(1, (.not (.fn 160 (.x (.fn 1 (.x (.var 0) (.x (.var 1) .nil))) (.i (.rd (.var 0) (.var 4001) 0) .nil))))), (2, (.fn 160 (.x (.fn 1 (.x (.var 0) (.x (.var 1) .nil))) (.i (.rd (.var 0) (.var 6000) 0) .nil))))], []⟩)
 (.next 1 ⟨[(0, (.ar .add .i64 (.var 6000) (.lit 1)))], [(1, (.not (.fn 160 (.x (.fn 1 (.x (.var 0) (.x (.var 1) .nil))) (.i (.rd (.var 0) (.var 4001) 0) .nil))))), (2, (.lit false))], []⟩))))
 (.ite (.var 6002)
 (.next 1 ⟨[(0, (.ar .add .i64 (.var 6000) (.lit 1)))], [(1, (.lit false)), (2, (.lit true))], []⟩)
 (.ite (.fn 119 (.i (.rd (.var 0) (.var 6000) 0) (.i (.lit 1) (.i (.rd (.var 0) (.var 6000) 1) (.i (.rd (.var 0) (.var 6000) 2) (.i (.rd (.var 0) (.var 6000) 3) (.x .nil (.i (.rd (.var 0) (.var 6000) 4) (.i (.lit 0) (.x .nil (.i (.rd (.var 0) (.var 4001) 0) (.i (.lit 1) (.i (.rd (.var 0) (.var 4001) 1) (.i (.rd (.var 0) (.var 4001) 2) (.i (.rd (.var 0) (.var 4001) 3) (.x .nil (.i (.rd (.var 0) (.var 4001) 4) (.i (.lit 0) (.x .nil .nil)))))))))))))))))))
 (.next 1 ⟨[(0, (.ar .add .i64 (.var 6000) (.lit 1)))], [(1, (.lit false)), (2, (.fn 160 (.x (.fn 1 (.x (.var 0) (.x (.var 1) .nil))) (.i (.rd (.var 0) (.var 6000) 0) .nil))))], []⟩)
 (.next 1 ⟨[(0, (.ar .add .i64 (.var 6000) (.lit 1)))], [(1, (.lit false)), (2, (.lit false))], []⟩))))
 (.ite (.var 6002)
 (.next 1 ⟨[(0, (.ar .add .i64 (.var 6000) (.lit 1)))], [(1, (.lit false)), (2, (.lit true))], []⟩)
 (.ite (.fn 119 (.i (.rd (.var 0) (.var 6000) 0) (.i (.lit 1) (.i (.rd (.var 0) (.var 6000) 1) (.i (.rd (.var 0) (.var 6000) 2) (.i (.rd (.var 0) (.var 6000) 3) (.x .nil (.i (.rd (.var 0) (.var 6000) 4) (.i (.lit 0) (.x .nil (.i (.rd (.var 0) (.var 4001) 0) (.i (.lit 1) (.i (.rd (.var 0) (.var 4001) 1) (.i (.rd (.var 0) (.var 4001) 2) (.i (.rd (.var 0) (.var 4001) 3) (.x .nil (.i (.rd (.var 0) (.var 4001) 4) (.i (.lit 0) (.x .nil .nil)))))))))))))))))))
 (.next 1 ⟨[(0, (.ar .add .i64 (.var 6000) (.lit 1)))], [(1, (.lit false)), (2, (.fn 160 (.x (.fn 1 (.x (.var 0) (.x (.var 1) .nil))) (.i (.rd (.var 0) (.var 6000) 0) .nil))))], []⟩)
 (.next 1 ⟨[(0, (.ar .add .i64 (.var 6000) (.lit 1)))], [(1, (.lit false)), (2, (.lit false))], []⟩)))))
 (.ite (.var 6001)
 (.ite (.cmp .eql (.fn 119 (.i (.rd (.var 0) (.var 6000) 0) (.i (.lit 1) (.i (.rd (.var 0) (.var 6000) 1) (.i (.rd (.var 0) (.var 6000) 2) (.i (.rd (.var 0) (.var 6000) 3) (.x .nil (.i (.rd (.var 0) (.var 6000) 4) (.i (.lit 0) (.x .nil (.i (.rd (.var 0) (.var 4001) 0) (.i (.lit 1) (.i (.rd (.var 0) (.var 4001) 1) (.i (.rd (.var 0) (.var 4001) 2) (.i (.rd (.var 0) (.var 4001) 3) (.x .nil (.i (.rd (.var 0) (.var 4001) 4) (.i (.lit 0) (.x .nil .nil))))))))))))))))))) (.lit 0))
 (.ite (.not (.fn 119 (.i (.rd (.var 0) (.var 6000) 0) (.i (.lit 1) (.i (.rd (.var 0) (.var 6000) 1) (.i (.rd (.var 0) (.var 6000) 2) (.i (.rd (.var 0) (.var 6000) 3) (.x .nil (.i (.rd (.var 0) (.var 6000) 4) (.i (.lit 0) (.x .nil (.i (.rd (.var 0) (.var 4001) 0) (.i (.lit 1) (.i (.rd (.var 0) (.var 4001) 1) (.i (.rd (.var 0) (.var 4001) 2) (.i (.rd (.var 0) (.var 4001) 3) (.x .nil (.i (.rd (.var 0) (.var 4001) 4) (.i (.lit 0) (.x .nil .nil))))))))))))))))))))
 (.ite (.var 6002)
 (.next 1 ⟨[(0, (.ar .add .i64 (.var 6000) (.lit 1)))], [(1, (.lit true)), (2, (.lit true))], []⟩)
 (.ite (.fn 119 (.i (.rd (.var 0) (.var 6000) 0) (.i (.lit 1) (.i (.rd (.var 0) (.var 6000) 1) (.i (.rd (.var 0) (.var 6000) 2) (.i (.rd (.var 0) (.var 6000) 3) (.x .nil (.i (.rd (.var 0) (.var 6000) 4) (.i (.lit 0) (.x .nil (.i (.rd (.var 0) (.var 4001) 0) (.i (.lit 1) (.i (.rd (.var 0) (.var 4001) 1) (.i (.rd (.var 0) (.var 4001) 2) (.i (.rd (.var 0) (.var 4001) 3) (.x .nil (.i (.rd (.var 0) (.var 4001) 4) (.i (.lit 0) (.x .nil .nil)))))))))))))))))))
 (.next 1 ⟨[(0, (.ar .add .i64 (.var 6000) (.lit 1)))], [(1, (.lit true)), (2, (.fn 160 (.x (.fn 1 (.x (.var 0) (.x (.var 1) .nil))) (.i (.rd (.var 0) (.var 6000) 0) .nil))))], []⟩)
 (.next 1 ⟨[(0, (.ar .add .i64 (.var 6000) (.lit 1)))], [(1, (.lit true)), (2, (.lit false))], []⟩)))
 (.ite (.var 6002)
 (.next 1 ⟨[(0, (.ar .add .i64 (.var 6000) (.lit 1)))], [(1, (.not (.fn 160 (.x (.fn 1 (.x (.var 0) (.x (.var 1) .nil))) (.i (.rd (.var 0) (.var 4001) 0) .nil))))), (2, (.lit true))], []⟩)
 (.ite (.fn 119 (.i (.rd (.var 0) (.var 6000) 0) (.i (.lit 1) (.i (.rd (.var 0) (.var 6000) 1) (.i (.rd (.var 0) (.var 6000) 2) (.i (.rd (.var 0) (.var 6000) 3) (.x .nil (.i (.rd (.var 0) (.var 6000) 4) (.i (.lit 0) (.x .nil (.i (.rd (.var 0) (.var 4001) 0) (.i (.lit 1) (.i (.rd (.var 0) (.var 4001) 1) (.i (.rd (.var 0) (.var 4001) 2) (.i (.rd (.var 0) (.var 4001) 3) (.x .nil (.i (.rd (.var 0) (.var 4001) 4) (.i (.lit 0) (.x .nil .nil)))))))))))))))))))
 (.next 1 ⟨[(0, (.ar .add .i64 (.var 6000) (.lit 1)))], [(1, (.not (.fn 160 (.x (.fn 1 (.x (.var 0) (.x (.var 1) .nil))) (.i (.rd (.var 0) (.var 4001) 0) .nil))))), (2, (.fn 160 (.x (.fn 1 (.x (.var 0) (.x (.var 1) .nil))) (.i (.rd (.var 0) (.var 6000) 0) .nil))))], []⟩)
 (.next 1 ⟨[(0, (.ar .add .i64 (.var 6000) (.lit 1)))], [(1, (.not (.fn 160 (.x (.fn 1 (.x (.var 0) (.x (.var 1) .nil))) (.i (.rd (.var 0) (.var 4001) 0) .nil))))), (2, (.lit false))], []⟩))))
 (.ite (.var 6002)
 (.next 1 ⟨[(0, (.ar .add .i64 (.var 6000) (.lit 1)))], [(1, (.lit false)), (2, (.lit true))], []⟩)
 (.ite (.fn 119 (.i (.rd (.var 0) (.var 6000) 0) (.i (.lit 1) (.i (.rd (.var 0) (.var 6000) 1) (.i (.rd (.var 0) (.var 6000) 2) (.i (.rd (.var 0) (.var 6000) 3) (.x .nil (.i (.rd (.var 0) (.var 6000) 4) (.i (.lit 0) (.x .nil (.i (.rd (.var 0) (.var 4001) 0) (.i (.lit 1) (.i (.rd (.var 0) (.var 4001) 1) (.i (.rd (.var 0) (.var 4001) 2) (.i (.rd (.var 0) (.var 4001) 3) (.x .nil (.i (.rd (.var 0) (.var 4001) 4) (.i (.lit 0) (.x .nil .nil)))))))))))))))))))
 (.next 1 ⟨[(0, (.ar .add .i64 (.var 6000) (.lit 1)))], [(1, (.lit false)), (2, (.fn 160 (.x (.fn 1 (.x (.var 0) (.x (.var 1) .nil))) (.i (.rd (.var 0) (.var 6000) 0) .nil))))], []⟩)
 (.next 1 ⟨[(0, (.ar .add .i64 (.var 6000) (.lit 1)))], [(1, (.lit false)), (2, (.lit false))], []⟩))))
 (.ite (.var 6002)
 (.next 1 ⟨[(0, (.ar .add .i64 (.var 6000) (.lit 1)))], [(1, (.lit false)), (2, (.lit true))], []⟩)
 (.ite (.fn 119 (.i (.rd (.var 0) (.var 6000) 0) (.i (.lit 1) (.i (.rd (.var 0) (.var 6000) 1) (.i (.rd (.var 0) (.var 6000) 2) (.i (.rd (.var 0) (.var 6000) 3) (.x .nil (.i (.rd (.var 0) (.var 6000) 4) (.i (.lit 0) (.x .nil (.i (.rd (.var 0) (.var 4001) 0) (.i (.lit 1) (.i (.rd (.var 0) (.var 4001) 1) (.i (.rd (.var 0) (.var 4001) 2) (.i (.rd (.var 0) (.var 4001) 3) (.x .nil (.i (.rd (.var 0) (.var 4001) 4) (.i (.lit 0) (.x .nil .nil)))))))))))))))))))
 (.next 1 ⟨[(0, (.ar .add .i64 (.var 6000) (.lit 1)))], [(1, (.lit false)), (2, (.fn 160 (.x (.fn 1 (.x (.var 0) (.x (.var 1) .nil))) (.i (.rd (.var 0) (.var 6000) 0) .nil))))], []⟩)
 (.next 1 ⟨[(0, (.ar .add .i64 (.var 6000) (.lit 1)))], [(1, (.lit false)), (2, (.lit false))], []⟩))))))))
 (.ite (.var 6001)
 (.next 0 ⟨[(1, (.ar .add .i64 (.var 4001) (.lit 1)))], [(0, (.not (.eqb (.fn 160 (.x (.fn 1 (.x (.var 0) (.x (.var 1) .nil))) (.i (.rd (.var 0) (.var 4001) 0) .nil))) (.var 6002))))], []⟩)
 (.next 0 ⟨[(1, (.ar .add .i64 (.var 4001) (.lit 1)))], [(0, (.lit false))], []⟩))))))
 (.loop 1 12000 ⟨[(1, (.lit 0))], [(0, (.var 4000))], []⟩
 (.ite (.cmp .lss (.var 12001) (.len (.fn 1 (.x (.var 0) (.x (.var 1) .nil)))))
 (.ob (.tru (.cmp .leq (.lit 0) (.var 12001)))
 (.ob (.tru (.cmp .lss (.var 12001) (.len (.fn 1 (.x (.var 0) (.x (.var 1) .nil))))))
 (.ite (.var 12000)
 (.ite (.cmp .eql (.var 12001) (.lit 0))
 (.next 1 ⟨[(1, (.ar .add .i64 (.var 12001) (.lit 1)))], [(0, (.lit true))], []⟩)
 (.ob (.tru (.cmp .leq (.lit 0) (.ar .sub .i64 (.var 12001) (.lit 1))))
 (.ob (.tru (.cmp .lss (.ar .sub .i64 (.var 12001) (.lit 1)) (.len (.fn 1 (.x (.var 0) (.x (.var 1) .nil))))))
 (.next 1 ⟨[(1, (.ar .add .i64 (.var 12001) (.lit 1)))], [(0, (.cmp .lss (.rd (.fn 1 (.x (.var 0) (.x (.var 1) .nil))) (.ar .sub .i64 (.var 12001) (.lit 1)) 0) (.rd (.fn 1 (.x (.var 0) (.x (.var 1) .nil))) (.var 12001) 0)))], []⟩))))
 (.next 1 ⟨[(1, (.ar .add .i64 (.var 12001) (.lit 1)))], [(0, (.lit false))], []⟩))))
 (.ret ((.v (.one (.z (.bool (.var 12000))))), [], 12))))))))
 (.ret ((.v (.one (.z (.bool (.lit true))))), [], 2)))
-- end trLawCur
def trLawCur_h : List (Nat × St) := [
(3, ⟨(List.append [(.v (.agg [(.z (.ext sndK (.var 0) false)), (.z (.ext featK (.var 1) false))])), (.v (.one (.z (.ptr 0 0)))), (.v (.one (.z (.bool (.lit false))))), (.v (.one (.z (.bool (.var 4000))))), (.v (.one (.z (.own 2 (.lit 0))))), (.v (.one (.z (.int .i64 (.fn 160 (.x (.var 0) (.x (.var 1) .nil)))))))] (List.append (List.replicate 10 V.any) (List.append [(.v (.one (.z (.bool (.lit true))))), (.v (.agg [(.z (.ext sndK (.var 0) false)), (.z (.ext featK (.var 1) false))])), (.v (.one (.z (.bool (.cmp .leq (.len (.var 1)) (.lit 12)))))), (.v (.one (.z (.bool (.not (.cmp .leq (.len (.var 1)) (.lit 12))))))), (.v (.one (.z .any))), (.v (.one (.z .any))), (.v (.agg [(.z (.ext sndK (.var 0) false)), (.z (.ext featK (.var 1) false))])), (.v (.one (.z .any))), (.v (.one (.z (.own 2 (.lit 0))))), (.v (.one (.z (.int .i64 (.fn 160 (.x (.var 0) (.x (.var 1) .nil))))))), (.v (.one (.z (.int .i64 (.fn 160 (.x (.var 0) (.x (.var 1) .nil))))))), (.v (.one (.z (.bool (.cmp .neq (.fn 160 (.x (.var 0) (.x (.var 1) .nil))) (.lit 0))))))] (List.append (List.replicate 5 V.any) (List.append [(.v (.one (.z (.ptr 0 0)))), (.v (.one (.z (.ext sndK (.var 0) false)))), (.v (.one (.z (.int .i64 (.len (.var 0)))))), (.v (.one (.z (.int .i64 (.var 4001)))))] (List.replicate 95 V.any)))))), [(2, (.own 3 [(.int .i64)] (.fn 1 (.x (.var 0) (.x (.var 1) .nil))) (.lit 0))), (0, (.cells 25 [(.z (.ext sndK (.var 0) false)), (.z (.ext featK (.var 1) false))]))], 4, []⟩),
(5, ⟨(List.append [(.v (.agg [(.z (.ext sndK (.var 0) false)), (.z (.ext featK (.var 1) false))])), (.v (.one (.z (.ptr 0 0)))), (.v (.one (.z (.bool (.lit false))))), (.v (.one (.z (.bool (.var 6001))))), (.v (.one (.z (.own 2 (.lit 0))))), (.v (.one (.z (.int .i64 (.fn 160 (.x (.var 0) (.x (.var 1) .nil))))))), (.v (.one (.z .any))), (.v (.one (.z (.ptr 4 0)))), (.v (.one (.z (.bool (.fn 160 (.x (.fn 1 (.x (.var 0) (.x (.var 1) .nil))) (.i (.rd (.var 0) (.var 4001) 0) .nil))))))), (.v (.one (.z (.bool (.var 6002)))))] (List.append (List.replicate 6 V.any) (List.append [(.v (.one (.z (.bool (.lit true))))), (.v (.agg [(.z (.ext sndK (.var 0) false)), (.z (.ext featK (.var 1) false))])), (.v (.one (.z (.bool (.cmp .leq (.len (.var 1)) (.lit 12)))))), (.v (.one (.z (.bool (.not (.cmp .leq (.len (.var 1)) (.lit 12))))))), (.v (.one (.z .any))), (.v (.one (.z .any))), (.v (.agg [(.z (.ext sndK (.var 0) false)), (.z (.ext featK (.var 1) false))])), (.v (.one (.z .any))), (.v (.one (.z (.own 2 (.lit 0))))), (.v (.one (.z (.int .i64 (.fn 160 (.x (.var 0) (.x (.var 1) .nil))))))), (.v (.one (.z (.int .i64 (.fn 160 (.x (.var 0) (.x (.var 1) .nil))))))), (.v (.one (.z (.bool (.cmp .neq (.fn 160 (.x (.var 0) (.x (.var 1) .nil))) (.lit 0))))))] (List.append (List.replicate 5 V.any) (List.append [(.v (.one (.z (.ptr 0 0)))), (.v (.one (.z (.ext sndK (.var 0) false)))), (.v (.one (.z (.int .i64 (.len (.var 0)))))), (.v (.one (.z (.int .i64 (.var 4001))))), (.v (.one (.z (.bool (.cmp .lss (.var 4001) (.len (.var 0))))))), (.v (.one (.z (.eptr sndK (.var 0) (.var 4001) 0)))), (.v (.agg [(.z (.int .i64 (.rd (.var 0) (.var 4001) 0))), (.z (.int .i64 (.rd (.var 0) (.var 4001) 1))), (.z (.int .i64 (.rd (.var 0) (.var 4001) 2))), (.z (.int .i64 (.rd (.var 0) (.var 4001) 3))), (.z (.int .i64 (.rd (.var 0) (.var 4001) 4))), (.z (.int .i64 (.rd (.var 0) (.var 4001) 5))), (.z (.int .i64 (.rd (.var 0) (.var 4001) 6)))])), (.v (.one (.z (.own 2 (.lit 0))))), (.v (.one (.z (.ptr 4 0)))), (.v (.one (.z (.int .i64 (.rd (.var 0) (.var 4001) 0))))), (.v (.one (.z (.bool (.fn 160 (.x (.fn 1 (.x (.var 0) (.x (.var 1) .nil))) (.i (.rd (.var 0) (.var 4001) 0) .nil))))))), (.v (.one (.z (.ptr 0 0)))), (.v (.one (.z (.ext sndK (.var 0) false)))), (.v (.one (.z (.int .i64 (.len (.var 0)))))), (.v (.one (.z (.int .i64 (.var 6000)))))] (List.replicate 84 V.any)))))), [(4, (.cells 53 [(.z (.int .i64 (.rd (.var 0) (.var 4001) 0))), (.z (.int .i64 (.rd (.var 0) (.var 4001) 1))), (.z (.int .i64 (.rd (.var 0) (.var 4001) 2))), (.z (.int .i64 (.rd (.var 0) (.var 4001) 3))), (.z (.int .i64 (.rd (.var 0) (.var 4001) 4))), (.z (.int .i64 (.rd (.var 0) (.var 4001) 5))), (.z (.int .i64 (.rd (.var 0) (.var 4001) 6)))])), (2, (.own 3 [(.int .i64)] (.fn 1 (.x (.var 0) (.x (.var 1) .nil))) (.lit 0))), (0, (.cells 25 [(.z (.ext sndK (.var 0) false)), (.z (.ext featK (.var 1) false))]))], 6, []⟩),
(11, ⟨(List.append [(.v (.agg [(.z (.ext sndK (.var 0) false)), (.z (.ext featK (.var 1) false))])), (.v (.one (.z (.ptr 0 0)))), (.v (.one (.z (.bool (.lit false))))), (.v (.one (.z (.bool (.var 12000))))), (.v (.one (.z (.own 2 (.lit 0))))), (.v (.one (.z (.int .i64 (.fn 160 (.x (.var 0) (.x (.var 1) .nil)))))))] (List.append (List.replicate 10 V.any) (List.append [(.v (.one (.z (.bool (.lit true))))), (.v (.agg [(.z (.ext sndK (.var 0) false)), (.z (.ext featK (.var 1) false))])), (.v (.one (.z (.bool (.cmp .leq (.len (.var 1)) (.lit 12)))))), (.v (.one (.z (.bool (.not (.cmp .leq (.len (.var 1)) (.lit 12))))))), (.v (.one (.z .any))), (.v (.one (.z .any))), (.v (.agg [(.z (.ext sndK (.var 0) false)), (.z (.ext featK (.var 1) false))])), (.v (.one (.z .any))), (.v (.one (.z (.own 2 (.lit 0))))), (.v (.one (.z (.int .i64 (.fn 160 (.x (.var 0) (.x (.var 1) .nil))))))), (.v (.one (.z (.int .i64 (.fn 160 (.x (.var 0) (.x (.var 1) .nil))))))), (.v (.one (.z (.bool (.cmp .neq (.fn 160 (.x (.var 0) (.x (.var 1) .nil))) (.lit 0))))))] (List.append (List.replicate 5 V.any) (List.append [(.v (.one (.z (.ptr 0 0)))), (.v (.one (.z (.ext sndK (.var 0) false)))), (.v (.one (.z (.int .i64 (.len (.var 0)))))), (.v (.one (.z (.int .i64 (.var 4001))))), (.v (.one (.z (.bool (.cmp .lss (.var 4001) (.len (.var 0)))))))] (List.append (List.replicate 71 V.any) (List.append [(.v (.one (.z (.own 2 (.lit 0))))), (.v (.one (.z (.int .i64 (.len (.fn 1 (.x (.var 0) (.x (.var 1) .nil)))))))), (.v (.one (.z (.int .i64 (.var 12001)))))] (List.replicate 20 V.any)))))))), [(2, (.own 3 [(.int .i64)] (.fn 1 (.x (.var 0) (.x (.var 1) .nil))) (.lit 0))), (0, (.cells 25 [(.z (.ext sndK (.var 0) false)), (.z (.ext featK (.var 1) false))]))], 12, []⟩)]
def trLawCur_j : List (FuncId × Nat × Nat × St) := [
]
set_option maxRecDepth 100000 in
theorem trLawCur_is : T.norm 0 (call Tryz.prog ctV3 ⟨Lt.un (Lt.of []), trLawCur_h, trLawCur_j⟩ 150 4 (symArgs 0 [suv]) [] 0) TT.ret = trLawCur := by kernel_rfl
theorem trLawCur_low : trLawCur.low 1000 = true := by kernel_rfl
-- term trSModel: call Tryz.prog ctV3 (Lt.of []) 150 18 (symArgs 0 [suv]) [] 0
def trSModel : TT OpR :=
(.ite (.not (.fn 150 (.x (.var 0) (.x (.var 1) .nil))))
 (.ret ((.tup [(.one (.z (.const (.slice none 0 0)))), (.one (.z (.int .i64 (.lit 1))))]), [], 1))
 (.ob (.tru (.cmp .leq (.len (.var 1)) (.lit 1000000)))
 (.ob (.tru (.cmp .leq (.len (.var 0)) (.lit 1000000)))
 (.loop 0 4000 ⟨[(0, (.lit 0)), (1, (.lit 0)), (0, (.lit 0))], [], [(2, (.var 1))]⟩
 (.ite (.cmp .lss (.var 4001) (.len (.fn 0 (.x (.var 0) (.x (.var 1) .nil)))))
 (.ob (.tru (.cmp .leq (.lit 0) (.var 4001)))
 (.ob (.tru (.cmp .lss (.var 4001) (.len (.fn 0 (.x (.var 0) (.x (.var 1) .nil))))))
 (.ob (.tru (.fn 136 (.x (.var 4002) .nil)))
 (.ob (.tru (.cmp .leq (.lit 0) (.fn 135 (.x (.var 4002) (.i (.rd (.fn 0 (.x (.var 0) (.x (.var 1) .nil))) (.var 4001) 0) .nil)))))
 (.ob (.tru (.cmp .leq (.fn 135 (.x (.var 4002) (.i (.rd (.fn 0 (.x (.var 0) (.x (.var 1) .nil))) (.var 4001) 0) .nil))) (.len (.var 4002))))
 (.ob (.tru (.cmp .lss (.len (.var 4002)) (.lit 1000000)))
 (.next 0 ⟨[(0, (.plus (.var 4000) (.lit 1))), (1, (.ar .add .i64 (.var 4001) (.lit 1))), (0, (.plus (.var 4000) (.lit 1)))], [], [(2, (.app (.app (.sub (.var 4002) (.lit 0) (.fn 135 (.x (.var 4002) (.i (.rd (.fn 0 (.x (.var 0) (.x (.var 1) .nil))) (.var 4001) 0) .nil)))) (.app (.row (.i (.rd (.fn 0 (.x (.var 0) (.x (.var 1) .nil))) (.var 4001) 0) (.i (.lit 1) (.i (.rd (.fn 0 (.x (.var 0) (.x (.var 1) .nil))) (.var 4001) 1) (.i (.rd (.fn 0 (.x (.var 0) (.x (.var 1) .nil))) (.var 4001) 2) (.i (.rd (.fn 0 (.x (.var 0) (.x (.var 1) .nil))) (.var 4001) 3) (.x .nil (.i (.rd (.fn 0 (.x (.var 0) (.x (.var 1) .nil))) (.var 4001) 4) (.i (.lit 0) (.x .nil .nil)))))))))) .nil)) (.sub (.var 4002) (.fn 135 (.x (.var 4002) (.i (.rd (.fn 0 (.x (.var 0) (.x (.var 1) .nil))) (.var 4001) 0) .nil))) (.len (.var 4002)))))]⟩)))))))
 (.ret ((.tup [(.one (.z (.own 1 (.var 4000)))), (.one (.z (.int .i64 (.lit 0))))]), [(1, (.own 59 featK (.var 4002) (.var 4000))), (1, (.own 59 featK (.var 1) (.lit 0)))], 8)))))))
-- end trSModel
def trSModel_h : List (Nat × St) := [
(3, ⟨(List.append [(.v (.agg [(.z (.ext sndK (.var 0) false)), (.z (.ext featK (.var 1) false))])), (.v (.one (.z (.ptr 0 0)))), (.v (.one (.z (.const (.slice none 0 0))))), (.v (.one (.z (.int .i64 (.lit 0))))), (.v (.one (.z (.own 1 (.var 4000)))))] (List.append (List.replicate 4 V.any) (List.append [(.v (.agg [(.z (.ext sndK (.var 0) false)), (.z (.ext featK (.var 1) false))])), (.v (.one (.z (.bool (.fn 150 (.x (.var 0) (.x (.var 1) .nil))))))), (.v (.one (.z (.bool (.not (.fn 150 (.x (.var 0) (.x (.var 1) .nil)))))))), (.v (.one (.z (.ptr 0 1)))), (.v (.one (.z (.ext featK (.var 1) false)))), (.v (.one (.z (.own 1 (.lit 0))))), (.v (.agg [(.z (.ext sndK (.var 0) false)), (.z (.ext featK (.var 1) false))])), (.v (.one (.z (.own 2 (.lit 0))))), (.v (.one (.z (.int .i64 (.len (.fn 0 (.x (.var 0) (.x (.var 1) .nil)))))))), (.v (.one (.z (.int .i64 (.var 4001)))))] (List.replicate 18 V.any)))), [(2, (.own 53 sndK (.fn 0 (.x (.var 0) (.x (.var 1) .nil))) (.lit 0))), (1, (.own 59 featK (.var 4002) (.var 4000))), (0, (.cells 25 [(.z (.ext sndK (.var 0) false)), (.z (.ext featK (.var 1) false))]))], 4, []⟩)]
def trSModel_j : List (FuncId × Nat × Nat × St) := [
]
set_option maxRecDepth 100000 in
theorem trSModel_is : T.norm 0 (call Tryz.prog ctV3 ⟨Lt.un (Lt.of []), trSModel_h, trSModel_j⟩ 150 18 (symArgs 0 [suv]) [] 0) TT.ret = trSModel := by kernel_rfl
theorem trSModel_low : trSModel.low 1000 = true := by kernel_rfl
-- term trSAllows: call Tryz.prog ctV3 (Lt.of []) 150 23 (symArgs 0 [suv, pt, it]) [] 0
def trSAllows : TT OpR :=
(.ite (.not (.fn 150 (.x (.var 0) (.x (.var 1) .nil))))
 (.ret ((.tup [(.one (.z (.bool (.lit false)))), (.one (.z (.int .i64 (.lit 1))))]), [], 2))
 (.ite (.not (.fn 3 (.i (.var 2) (.i (.var 3) .nil))))
 (.ret ((.tup [(.one (.z (.bool (.lit false)))), (.one (.z (.int .i64 (.lit 1))))]), [], 2))
 (.ite (.cmp .lss (.var 4) (.lit 0))
 (.ret ((.tup [(.one (.z (.bool (.lit false)))), (.one (.z (.int .i64 (.lit 0))))]), [], 2))
 (.ite (.cmp .gtr (.var 4) (.lit 100000))
 (.ret ((.tup [(.one (.z (.bool (.lit false)))), (.one (.z (.int .i64 (.lit 0))))]), [], 2))
 (.ob (.tru (.cmp .leq (.len (.var 0)) (.lit 1000000)))
 (.loop 0 4000 ⟨[(0, (.lit 0))], [], []⟩
 (.ite (.cmp .lss (.var 4000) (.len (.fn 0 (.x (.var 0) (.x (.var 1) .nil)))))
 (.ob (.tru (.cmp .leq (.lit 0) (.var 4000)))
 (.ob (.tru (.cmp .lss (.var 4000) (.len (.fn 0 (.x (.var 0) (.x (.var 1) .nil))))))
 (.ite (.fn 78 (.i (.rd (.fn 0 (.x (.var 0) (.x (.var 1) .nil))) (.var 4000) 0) (.i (.lit 1) (.i (.rd (.fn 0 (.x (.var 0) (.x (.var 1) .nil))) (.var 4000) 1) (.i (.rd (.fn 0 (.x (.var 0) (.x (.var 1) .nil))) (.var 4000) 2) (.i (.rd (.fn 0 (.x (.var 0) (.x (.var 1) .nil))) (.var 4000) 3) (.x .nil (.i (.rd (.fn 0 (.x (.var 0) (.x (.var 1) .nil))) (.var 4000) 4) (.i (.lit 0) (.x .nil (.i (.var 2) (.i (.var 3) .nil))))))))))))
 (.ite (.cmp .lss (.var 4) (.rd (.fn 0 (.x (.var 0) (.x (.var 1) .nil))) (.var 4000) 4))
 (.ret ((.tup [(.one (.z (.bool (.lit false)))), (.one (.z (.int .i64 (.lit 0))))]), [], 7))
 (.ite (.cmp .lss (.rd (.fn 0 (.x (.var 0) (.x (.var 1) .nil))) (.var 4000) 5) (.var 4))
 (.ret ((.tup [(.one (.z (.bool (.lit false)))), (.one (.z (.int .i64 (.lit 0))))]), [], 7))
 (.next 0 ⟨[(0, (.ar .add .i64 (.var 4000) (.lit 1)))], [], []⟩)))
 (.next 0 ⟨[(0, (.ar .add .i64 (.var 4000) (.lit 1)))], [], []⟩))))
 (.loop 1 8000 ⟨[(0, (.lit 0))], [], []⟩
 (.ite (.cmp .lss (.var 8000) (.len (.var 1)))
 (.ob (.tru (.cmp .leq (.lit 0) (.var 8000)))
 (.ob (.tru (.cmp .lss (.var 8000) (.len (.var 1))))
 (.ite (.fn 78 (.i (.rd (.var 1) (.var 8000) 0) (.i (.rd (.var 1) (.var 8000) 1) (.i (.rd (.var 1) (.var 8000) 2) (.i (.rd (.var 1) (.var 8000) 3) (.i (.rd (.var 1) (.var 8000) 4) (.x (.rd (.var 1) (.var 8000) 5) (.i (.rd (.var 1) (.var 8000) 6) (.i (.rd (.var 1) (.var 8000) 7) (.x (.rd (.var 1) (.var 8000) 8) (.i (.var 2) (.i (.var 3) .nil))))))))))))
 (.ite (.cmp .lss (.var 4) (.rd (.var 1) (.var 8000) 6))
 (.ret ((.tup [(.one (.z (.bool (.lit false)))), (.one (.z (.int .i64 (.lit 0))))]), [], 9))
 (.next 1 ⟨[(0, (.ar .add .i64 (.var 8000) (.lit 1)))], [], []⟩))
 (.next 1 ⟨[(0, (.ar .add .i64 (.var 8000) (.lit 1)))], [], []⟩))))
 (.ret ((.tup [(.one (.z (.bool (.lit true)))), (.one (.z (.int .i64 (.lit 0))))]), [], 9)))))))))))
-- end trSAllows
def trSAllows_h : List (Nat × St) := [
(3, ⟨(List.append [(.v (.agg [(.z (.ext sndK (.var 0) false)), (.z (.ext featK (.var 1) false))])), (.v (.agg [(.z (.int .i64 (.var 2))), (.z (.int .i64 (.var 3)))])), (.v (.one (.z (.int .i64 (.var 4))))), (.v (.one (.z (.ptr 0 0)))), (.v (.one (.z (.ptr 1 0)))), (.v (.one (.z .any))), (.v (.one (.z (.bool (.lit false))))), (.v (.one (.z (.int .i64 (.lit 0)))))] (List.append (List.replicate 8 V.any) (List.append [(.v (.agg [(.z (.ext sndK (.var 0) false)), (.z (.ext featK (.var 1) false))])), (.v (.one (.z (.bool (.fn 150 (.x (.var 0) (.x (.var 1) .nil))))))), (.v (.one (.z (.bool (.not (.fn 150 (.x (.var 0) (.x (.var 1) .nil)))))))), (.v (.one (.z (.bool (.lit false))))), (.v (.agg [(.z (.int .i64 (.var 2))), (.z (.int .i64 (.var 3)))])), (.v (.one (.z (.bool (.fn 3 (.i (.var 2) (.i (.var 3) .nil))))))), (.v (.one (.z (.bool (.not (.fn 3 (.i (.var 2) (.i (.var 3) .nil)))))))), (.v (.one (.z (.bool (.not (.fn 3 (.i (.var 2) (.i (.var 3) .nil)))))))), (.v (.one (.z (.int .i64 (.var 4))))), (.v (.one (.z (.bool (.cmp .lss (.var 4) (.lit 0)))))), (.v (.one (.z (.bool (.lit false))))), (.v (.one (.z (.int .i64 (.var 4))))), (.v (.one (.z (.bool (.cmp .gtr (.var 4) (.lit 100000)))))), (.v (.one (.z (.bool (.cmp .gtr (.var 4) (.lit 100000)))))), (.v (.agg [(.z (.ext sndK (.var 0) false)), (.z (.ext featK (.var 1) false))])), (.v (.one (.z (.own 2 (.lit 0))))), (.v (.one (.z (.int .i64 (.len (.fn 0 (.x (.var 0) (.x (.var 1) .nil)))))))), (.v (.one (.z (.int .i64 (.var 4000)))))] (List.replicate 47 V.any)))), [(2, (.own 53 sndK (.fn 0 (.x (.var 0) (.x (.var 1) .nil))) (.lit 0))), (1, (.cells 27 [(.z (.int .i64 (.var 2))), (.z (.int .i64 (.var 3)))])), (0, (.cells 25 [(.z (.ext sndK (.var 0) false)), (.z (.ext featK (.var 1) false))]))], 4, []⟩),
(7, ⟨(List.append [(.v (.agg [(.z (.ext sndK (.var 0) false)), (.z (.ext featK (.var 1) false))])), (.v (.agg [(.z (.int .i64 (.var 2))), (.z (.int .i64 (.var 3)))])), (.v (.one (.z (.int .i64 (.var 4))))), (.v (.one (.z (.ptr 0 0)))), (.v (.one (.z (.ptr 1 0)))), (.v (.one (.z .any))), (.v (.one (.z (.bool (.lit false))))), (.v (.one (.z (.int .i64 (.lit 0)))))] (List.append (List.replicate 8 V.any) (List.append [(.v (.agg [(.z (.ext sndK (.var 0) false)), (.z (.ext featK (.var 1) false))])), (.v (.one (.z (.bool (.fn 150 (.x (.var 0) (.x (.var 1) .nil))))))), (.v (.one (.z (.bool (.not (.fn 150 (.x (.var 0) (.x (.var 1) .nil)))))))), (.v (.one (.z (.bool (.lit false))))), (.v (.agg [(.z (.int .i64 (.var 2))), (.z (.int .i64 (.var 3)))])), (.v (.one (.z (.bool (.fn 3 (.i (.var 2) (.i (.var 3) .nil))))))), (.v (.one (.z (.bool (.not (.fn 3 (.i (.var 2) (.i (.var 3) .nil)))))))), (.v (.one (.z (.bool (.not (.fn 3 (.i (.var 2) (.i (.var 3) .nil)))))))), (.v (.one (.z (.int .i64 (.var 4))))), (.v (.one (.z (.bool (.cmp .lss (.var 4) (.lit 0)))))), (.v (.one (.z (.bool (.lit false))))), (.v (.one (.z (.int .i64 (.var 4))))), (.v (.one (.z (.bool (.cmp .gtr (.var 4) (.lit 100000)))))), (.v (.one (.z (.bool (.cmp .gtr (.var 4) (.lit 100000)))))), (.v (.agg [(.z (.ext sndK (.var 0) false)), (.z (.ext featK (.var 1) false))])), (.v (.one (.z (.own 2 (.lit 0))))), (.v (.one (.z (.int .i64 (.len (.fn 0 (.x (.var 0) (.x (.var 1) .nil)))))))), (.v (.one (.z (.int .i64 (.var 4000))))), (.v (.one (.z (.bool (.cmp .lss (.var 4000) (.len (.fn 0 (.x (.var 0) (.x (.var 1) .nil)))))))))] (List.append (List.replicate 25 V.any) (List.append [(.v (.one (.z (.ptr 0 1)))), (.v (.one (.z (.ext featK (.var 1) false)))), (.v (.one (.z (.int .i64 (.len (.var 1)))))), (.v (.one (.z (.int .i64 (.var 8000)))))] (List.replicate 17 V.any)))))), [(2, (.own 53 sndK (.fn 0 (.x (.var 0) (.x (.var 1) .nil))) (.lit 0))), (1, (.cells 27 [(.z (.int .i64 (.var 2))), (.z (.int .i64 (.var 3)))])), (0, (.cells 25 [(.z (.ext sndK (.var 0) false)), (.z (.ext featK (.var 1) false))]))], 8, []⟩)]
def trSAllows_j : List (FuncId × Nat × Nat × St) := [
]
set_option maxRecDepth 100000 in
theorem trSAllows_is : T.norm 0 (call Tryz.prog ctV3 ⟨Lt.un (Lt.of []), trSAllows_h, trSAllows_j⟩ 150 23 (symArgs 0 [suv, pt, it]) [] 0) TT.ret = trSAllows := by kernel_rfl
theorem trSAllows_low : trSAllows.low 1000 = true := by kernel_rfl
-- term trSClash: call Tryz.prog ctV3 (Lt.of []) 150 25 (symArgs 0 [suv]) [] 0
def trSClash : TT OpR :=
(.ite (.not (.fn 150 (.x (.var 0) (.x (.var 1) .nil))))
 (.ret ((.tup [(.one (.z (.const (.slice none 0 0)))), (.one (.z (.int .i64 (.lit 1))))]), [], 1))
 (.ob (.tru (.cmp .leq (.len (.var 0)) (.lit 1000000)))
 (.loop 0 3000 ⟨[(0, (.lit 0)), (2, (.lit 0)), (0, (.lit 0))], [], [(1, .nil)]⟩
 (.ite (.cmp .lss (.var 3002) (.len (.fn 0 (.x (.var 0) (.x (.var 1) .nil)))))
 (.ob (.tru (.cmp .leq (.lit 0) (.var 3002)))
 (.ob (.tru (.cmp .lss (.var 3002) (.len (.fn 0 (.x (.var 0) (.x (.var 1) .nil))))))
 (.ob (.tru (.cmp .leq (.lit 0) (.ar .add .i64 (.var 3002) (.lit 1))))
 (.ob (.tru (.cmp .leq (.ar .add .i64 (.var 3002) (.lit 1)) (.len (.fn 0 (.x (.var 0) (.x (.var 1) .nil))))))
 (.ob (.tru (.lit true))
 (.loop 1 6000 ⟨[(1, (.var 3000)), (0, (.lit 0)), (1, (.var 3000))], [], [(2, (.var 3001))]⟩
 (.ite (.cmp .lss (.var 6000) (.len (.sub (.fn 0 (.x (.var 0) (.x (.var 1) .nil))) (.ar .add .i64 (.var 3002) (.lit 1)) (.len (.fn 0 (.x (.var 0) (.x (.var 1) .nil)))))))
 (.ob (.tru (.cmp .leq (.lit 0) (.var 6000)))
 (.ob (.tru (.cmp .lss (.var 6000) (.len (.sub (.fn 0 (.x (.var 0) (.x (.var 1) .nil))) (.ar .add .i64 (.var 3002) (.lit 1)) (.len (.fn 0 (.x (.var 0) (.x (.var 1) .nil))))))))
 (.ite (.cmp .leq (.mx (.rd (.fn 0 (.x (.var 0) (.x (.var 1) .nil))) (.var 3002) 4) (.rd (.fn 0 (.x (.var 0) (.x (.var 1) .nil))) (.plus (.ar .add .i64 (.var 3002) (.lit 1)) (.var 6000)) 4)) (.mn (.rd (.fn 0 (.x (.var 0) (.x (.var 1) .nil))) (.var 3002) 5) (.rd (.fn 0 (.x (.var 0) (.x (.var 1) .nil))) (.plus (.ar .add .i64 (.var 3002) (.lit 1)) (.var 6000)) 5)))
 (.next 1 ⟨[(1, (.var 6001)), (0, (.ar .add .i64 (.var 6000) (.lit 1))), (1, (.var 6001))], [], [(2, (.var 6002))]⟩)
 (.ite (.fn 120 (.i (.rd (.fn 0 (.x (.var 0) (.x (.var 1) .nil))) (.var 3002) 0) (.i (.lit 1) (.i (.rd (.fn 0 (.x (.var 0) (.x (.var 1) .nil))) (.var 3002) 1) (.i (.rd (.fn 0 (.x (.var 0) (.x (.var 1) .nil))) (.var 3002) 2) (.i (.rd (.fn 0 (.x (.var 0) (.x (.var 1) .nil))) (.var 3002) 3) (.x .nil (.i (.rd (.fn 0 (.x (.var 0) (.x (.var 1) .nil))) (.var 3002) 4) (.i (.lit 0) (.x .nil (.i (.rd (.fn 0 (.x (.var 0) (.x (.var 1) .nil))) (.plus (.ar .add .i64 (.var 3002) (.lit 1)) (.var 6000)) 0) (.i (.lit 1) (.i (.rd (.fn 0 (.x (.var 0) (.x (.var 1) .nil))) (.plus (.ar .add .i64 (.var 3002) (.lit 1)) (.var 6000)) 1) (.i (.rd (.fn 0 (.x (.var 0) (.x (.var 1) .nil))) (.plus (.ar .add .i64 (.var 3002) (.lit 1)) (.var 6000)) 2) (.i (.rd (.fn 0 (.x (.var 0) (.x (.var 1) .nil))) (.plus (.ar .add .i64 (.var 3002) (.lit 1)) (.var 6000)) 3) (.x .nil (.i (.rd (.fn 0 (.x (.var 0) (.x (.var 1) .nil))) (.plus (.ar .add .i64 (.var 3002) (.lit 1)) (.var 6000)) 4) (.i (.lit 0) (.x .nil .nil)))))))))))))))))))
 (.ob (.tru (.cmp .leq (.len (.app (.var 6002) (.app (.row (.i (.rd (.fn 0 (.x (.var 0) (.x (.var 1) .nil))) (.var 3002) 0) (.i (.rd (.fn 0 (.x (.var 0) (.x (.var 1) .nil))) (.plus (.ar .add .i64 (.var 3002) (.lit 1)) (.var 6000)) 0) .nil))) .nil))) (.lit 1000000)))
 (.next 1 ⟨[(1, (.plus (.var 6001) (.lit 1))), (0, (.ar .add .i64 (.var 6000) (.lit 1))), (1, (.plus (.var 6001) (.lit 1)))], [], [(2, (.app (.var 6002) (.app (.row (.i (.rd (.fn 0 (.x (.var 0) (.x (.var 1) .nil))) (.var 3002) 0) (.i (.rd (.fn 0 (.x (.var 0) (.x (.var 1) .nil))) (.plus (.ar .add .i64 (.var 3002) (.lit 1)) (.var 6000)) 0) .nil))) .nil)))]⟩))
 (.next 1 ⟨[(1, (.var 6001)), (0, (.ar .add .i64 (.var 6000) (.lit 1))), (1, (.var 6001))], [], [(2, (.var 6002))]⟩)))))
 (.next 0 ⟨[(0, (.var 6001)), (2, (.ar .add .i64 (.var 3002) (.lit 1))), (0, (.var 6001))], [], [(1, (.var 6002))]⟩))))))))
 (.ret ((.tup [(.one (.z (.own 3 (.var 3000)))), (.one (.z (.int .i64 (.lit 0))))]), [(3, (.own 67 [(.int .i64), (.int .i64)] (.var 3001) (.var 3000)))], 12))))))
-- end trSClash
def trSClash_h : List (Nat × St) := [
(2, ⟨(List.append [(.v (.agg [(.z (.ext sndK (.var 0) false)), (.z (.ext featK (.var 1) false))])), (.v (.one (.z (.ptr 0 0)))), (.v (.one (.z (.const (.slice none 0 0))))), (.v (.one (.z (.int .i64 (.lit 0))))), (.v (.one (.z (.own 3 (.var 3000))))), (.v (.one (.z (.own 1 (.lit 0)))))] (List.append (List.replicate 6 V.any) (List.append [(.v (.agg [(.z (.ext sndK (.var 0) false)), (.z (.ext featK (.var 1) false))])), (.v (.one (.z (.bool (.fn 150 (.x (.var 0) (.x (.var 1) .nil))))))), (.v (.one (.z (.bool (.not (.fn 150 (.x (.var 0) (.x (.var 1) .nil)))))))), (.v (.agg [(.z (.ext sndK (.var 0) false)), (.z (.ext featK (.var 1) false))])), (.v (.one (.z (.own 1 (.lit 0))))), (.v (.one (.z (.own 1 (.lit 0))))), (.v (.one (.z (.int .i64 (.len (.fn 0 (.x (.var 0) (.x (.var 1) .nil)))))))), (.v (.one (.z (.int .i64 (.var 3002)))))] (List.replicate 48 V.any)))), [(3, (.own 67 [(.int .i64), (.int .i64)] (.var 3001) (.var 3000))), (1, (.own 53 sndK (.fn 0 (.x (.var 0) (.x (.var 1) .nil))) (.lit 0))), (0, (.cells 25 [(.z (.ext sndK (.var 0) false)), (.z (.ext featK (.var 1) false))]))], 4, []⟩),
(5, ⟨(List.append [(.v (.agg [(.z (.ext sndK (.var 0) false)), (.z (.ext featK (.var 1) false))])), (.v (.one (.z (.ptr 0 0)))), (.v (.one (.z (.const (.slice none 0 0))))), (.v (.one (.z (.int .i64 (.lit 0))))), (.v (.one (.z (.own 3 (.var 6001))))), (.v (.one (.z (.own 1 (.lit 0))))), (.v (.one (.z (.int .i64 (.var 3002))))), (.v (.one (.z (.ptr 4 0))))] (List.append (List.replicate 4 V.any) (List.append [(.v (.agg [(.z (.ext sndK (.var 0) false)), (.z (.ext featK (.var 1) false))])), (.v (.one (.z (.bool (.fn 150 (.x (.var 0) (.x (.var 1) .nil))))))), (.v (.one (.z (.bool (.not (.fn 150 (.x (.var 0) (.x (.var 1) .nil)))))))), (.v (.agg [(.z (.ext sndK (.var 0) false)), (.z (.ext featK (.var 1) false))])), (.v (.one (.z (.own 1 (.lit 0))))), (.v (.one (.z (.own 1 (.lit 0))))), (.v (.one (.z (.int .i64 (.len (.fn 0 (.x (.var 0) (.x (.var 1) .nil)))))))), (.v (.one (.z (.int .i64 (.var 3002))))), (.v (.one (.z (.bool (.cmp .lss (.var 3002) (.len (.fn 0 (.x (.var 0) (.x (.var 1) .nil))))))))), (.v (.one (.z (.int .i64 (.var 3002))))), (.v (.one (.z (.optr 1 (.lit 0) 7 (.var 3002) 0)))), (.v (.agg [(.z (.int .i64 (.rd (.fn 0 (.x (.var 0) (.x (.var 1) .nil))) (.var 3002) 0))), (.z (.int .i64 (.rd (.fn 0 (.x (.var 0) (.x (.var 1) .nil))) (.var 3002) 1))), (.z (.int .i64 (.rd (.fn 0 (.x (.var 0) (.x (.var 1) .nil))) (.var 3002) 2))), (.z (.int .i64 (.rd (.fn 0 (.x (.var 0) (.x (.var 1) .nil))) (.var 3002) 3))), (.z (.int .i64 (.rd (.fn 0 (.x (.var 0) (.x (.var 1) .nil))) (.var 3002) 4))), (.z (.int .i64 (.rd (.fn 0 (.x (.var 0) (.x (.var 1) .nil))) (.var 3002) 5))), (.z (.int .i64 (.rd (.fn 0 (.x (.var 0) (.x (.var 1) .nil))) (.var 3002) 6)))])), (.v (.one (.z (.own 1 (.lit 0))))), (.v (.one (.z (.int .i64 (.var 3002))))), (.v (.one (.z (.int .i64 (.ar .add .i64 (.var 3002) (.lit 1)))))), (.v (.one (.z (.ovw 1 (.lit 0) 7 (.ar .add .i64 (.var 3002) (.lit 1)) (.len (.fn 0 (.x (.var 0) (.x (.var 1) .nil)))) false)))), (.v (.one (.z (.int .i64 (.len (.sub (.fn 0 (.x (.var 0) (.x (.var 1) .nil))) (.ar .add .i64 (.var 3002) (.lit 1)) (.len (.fn 0 (.x (.var 0) (.x (.var 1) .nil)))))))))), (.v (.one (.z (.int .i64 (.var 6000)))))] (List.replicate 38 V.any)))), [(4, (.cells 53 [(.z (.int .i64 (.rd (.fn 0 (.x (.var 0) (.x (.var 1) .nil))) (.var 3002) 0))), (.z (.int .i64 (.rd (.fn 0 (.x (.var 0) (.x (.var 1) .nil))) (.var 3002) 1))), (.z (.int .i64 (.rd (.fn 0 (.x (.var 0) (.x (.var 1) .nil))) (.var 3002) 2))), (.z (.int .i64 (.rd (.fn 0 (.x (.var 0) (.x (.var 1) .nil))) (.var 3002) 3))), (.z (.int .i64 (.rd (.fn 0 (.x (.var 0) (.x (.var 1) .nil))) (.var 3002) 4))), (.z (.int .i64 (.rd (.fn 0 (.x (.var 0) (.x (.var 1) .nil))) (.var 3002) 5))), (.z (.int .i64 (.rd (.fn 0 (.x (.var 0) (.x (.var 1) .nil))) (.var 3002) 6)))])), (3, (.own 67 [(.int .i64), (.int .i64)] (.var 6002) (.var 6001))), (1, (.own 53 sndK (.fn 0 (.x (.var 0) (.x (.var 1) .nil))) (.lit 0))), (0, (.cells 25 [(.z (.ext sndK (.var 0) false)), (.z (.ext featK (.var 1) false))]))], 6, []⟩)]
def trSClash_j : List (FuncId × Nat × Nat × St) := [
]
set_option maxRecDepth 100000 in
theorem trSClash_is : T.norm 0 (call Tryz.prog ctV3 ⟨Lt.un (Lt.of []), trSClash_h, trSClash_j⟩ 150 25 (symArgs 0 [suv]) [] 0) TT.ret = trSClash := by kernel_rfl
theorem trSClash_low : trSClash.low 1000 = true := by kernel_rfl
end Go.Proofs.YtldbejmgalhdaaaGreat
/- Chapter 09: the law SurveyCurrent. -/
namespace Go.Proofs.YtldbejmgalhdaaaGreat
open Go.RowKit
theorem KVci160 (W : World) (ds l : List D) : (envOf KVc W ds).fi 160 l = scE l := by simp only [envOf, KVc]
theorem KVcb160 (W : World) (ds l : List D) : (envOf KVc W ds).fb 160 l = hasL9 l := by simp only [envOf, KVc]
theorem KVcd0 (W : World) (ds l : List D) : (envOf KVc W ds).fd 0 l = curL l := by simp only [envOf, KVc, KVb]
theorem KVcd1 (W : World) (ds l : List D) : (envOf KVc W ds).fd 1 l = idsR l := by simp only [envOf, KVc]
theorem KVci119 (W : World) (ds l : List D) : (envOf KVc W ds).fi 119 l = feE l := by simp only [envOf, KVc, KVb, KVa, K80, K79, K78, K77, K76]
theorem KVcb119 (W : World) (ds l : List D) : (envOf KVc W ds).fb 119 l = feHoR l := by simp only [envOf, KVc, KVb, KVa, K80, K79, K78, K77, K76]
def idsS (s : Rows) : Rows := (curR s).map fun row => [.i (cI row 0)]
theorem sce_two (s F : Rows) : scE [.l s, .l F] = if surB s F = true then 0 else 1 := rfl
theorem ids_two (s F : Rows) : idsR [.l s, .l F] = if surB s F = true then idsS s else [] := rfl
theorem has_two (r : Rows) (n : Int) : hasL9 [.l r, .i n] = hasB9 r n := rfl
theorem ids_at {s : Rows} {k : Nat} (hk : k < (curR s).length) : lg (idsS s) k 0 = cI (curR s)[k] 0 := by
  have h : (idsS s)[k]? = some [.i (cI (curR s)[k] 0)] := by unfold idsS; rw [List.getElem?_map, List.getElem?_eq_getElem hk]; rfl
  unfold lg cellAt
  rw [Int.toNat_natCast, h]; rfl
theorem has_ids {s : Rows} (hs : RisP s) {x : List D} (hx : x ∈ s) : hasB9 (idsS s) (cI x 0) = true ↔ x ∈ curR s := by
  rw [hasB9_iff]
  constructor
  · rintro ⟨k, hk, h⟩
    have hk' : k < (curR s).length := by simpa [idsS] using hk
    rw [ids_at hk'] at h
    have hm := List.getElem_mem hk'
    rw [← ris_inj hs (cur_mem.1 hm).1 hx h]
    exact hm
  · intro h
    obtain ⟨k, hk, rfl⟩ := List.getElem_of_mem h
    have hk' : k < (idsS s).length := by simpa [idsS] using hk
    exact ⟨k, hk', ids_at hk⟩
theorem fe_snd {y x : List D} (hy : sndR9 y = true) (hx : sndR9 x = true) : feE [.i (cI y 0), .i 1, .i (cI y 1), .i (cI y 2), .i (cI y 3), .l [], .i (cI y 4), .i 0, .l [], .i (cI x 0), .i 1, .i (cI x 1), .i (cI x 2), .i (cI x 3), .l [], .i (cI x 4), .i 0, .l []] = 0 := by
  show (if (featB (cI y 0) 1 (cI y 1) (cI y 2) (cI y 3) [] (cI y 4) 0 [] && featB (cI x 0) 1 (cI x 1) (cI x 2) (cI x 3) [] (cI x 4) 0 []) then (0 : Int) else 1) = 0
  rw [(snd_feat hy).1, (snd_feat hx).1]; rfl
set_option maxHeartbeats 1000000 in
theorem gLawCur : Gives Tryz.prog 4 [suv] (fun _ => .bool true) := by
  refine GivesIf.all (fn_gives KVc (by kernel_rfl) (fun ρ h => ctV3_ok (Sees.of h 170) (SeesD.of h 2)) (by kernel_rfl) trLawCur_is trLawCur_low (by decide) (fun W vals ds hr _ => ?_))
  have hw := suv_rows hr
  simp only [trLawCur, TT.sat_ret, TT.sat_ite, TT.sat_ob, TT.sat_next, TT.sat_stuck, put_i, put_b, put_d, put_fi, put_fb, put_fd, Ob.ok, B.ev, E.ev, X.ev, AL.ev, cmp_t, cmp_f, arEv, V.plain, V2.plain, S.plain, S0.plain, V.val, V2.val, S.val, S0.val, bV, iV, List.all_cons, List.all_nil, Bool.and_true, Bool.and_self, envOf_i, envOf_b, envOf_d, List.map_cons, List.map_nil, true_and, Bool.not_eq_true', Bool.not_eq_false', Bool.not_not, Bool.and_eq_true, and_f, cell_lg, cell_lb, cell_lr, cmpP, val_i, val_b, val_d, aget, Nat.reduceBEq, beq_self_eq_true, Bool.false_eq_true, if_true, if_false, Nat.reduceLT, Nat.reduceSub, Nat.sub_self, Nat.lt_irrefl, KVci160, KVcd1, sce_two]
  clear hr
  generalize e0 : rAt ds 0 = s at *
  generalize e1 : rAt ds 1 = F at *
  refine ⟨fun h16 => ⟨fun _ => trivial, fun h12 => ⟨fun hE => ?_, fun hE => ?_⟩⟩, fun _ => trivial⟩
  · by_cases q : surB s F = true
    · rw [if_pos q] at hE; omega
    · rw [if_neg q]; rfl
  have hv : surB s F = true := by
    by_cases q : surB s F = true
    · exact q
    · rw [if_neg q] at hE; omega
  obtain ⟨⟨f1, f2⟩, f3, f4, f5⟩ := sur_iff.1 hv
  have hsnd : ∀ x ∈ s, sndR9 x = true := fun x hx => (f3 x hx).1
  refine TT.sat_loop (fun v => ∃ i : Nat, v.i 1 = i ∧ i ≤ s.length ∧ v.b 0 = true) (fun v => s.length - (v.i 1).toNat)
    ⟨0, by simp [val_i, aget, E.ev], by omega, by simp [val_b, aget, B.ev]⟩ (fun v hv0 => ?_)
  obtain ⟨i, i0, i1, i2⟩ := hv0
  simp only [TT.sat_ret, TT.sat_ite, TT.sat_ob, TT.sat_next, TT.sat_stuck, put_i, put_b, put_d, put_fi, put_fb, put_fd, Ob.ok, B.ev, E.ev, X.ev, AL.ev, cmp_t, cmp_f, arEv, V.plain, V2.plain, S.plain, S0.plain, V.val, V2.val, S.val, S0.val, bV, iV, List.all_cons, List.all_nil, Bool.and_true, Bool.and_self, envOf_i, envOf_b, envOf_d, List.map_cons, List.map_nil, true_and, Bool.not_eq_true', Bool.not_eq_false', Bool.not_not, Bool.and_eq_true, and_f, cell_lg, cell_lb, cell_lr, cmpP, val_i, val_b, val_d, aget, Nat.reduceBEq, beq_self_eq_true, Bool.false_eq_true, if_true, if_false, Nat.reduceLT, Nat.reduceSub, Nat.sub_self, Nat.lt_irrefl, i0, i2, e0, e1]
  refine ⟨fun hc => ⟨by omega, by omega, ?_⟩, fun hc => ?_⟩
  · have hi : i < s.length := by omega
    refine TT.sat_loop (fun t => ∃ k : Nat, t.i 0 = k ∧ k ≤ s.length ∧ t.b 1 = true ∧ (t.b 2 = true ↔ ∃ (n : Nat) (hn : n < s.length), n < k ∧ byB s[n] s[i] = true ∧ s[n] ∈ curR s)) (fun t => s.length - (t.i 0).toNat)
      ⟨0, by simp [val_i, aget, E.ev], by omega, by simp [val_b, aget, B.ev, i2, put_b], by simp [val_b, aget, B.ev]⟩ (fun t ht => ?_)
    obtain ⟨k, k0, k1, k2, k3⟩ := ht
    simp only [TT.sat_ret, TT.sat_ite, TT.sat_ob, TT.sat_next, TT.sat_stuck, put_i, put_b, put_d, put_fi, put_fb, put_fd, Ob.ok, B.ev, E.ev, X.ev, AL.ev, cmp_t, cmp_f, arEv, V.plain, V2.plain, S.plain, S0.plain, V.val, V2.val, S.val, S0.val, bV, iV, List.all_cons, List.all_nil, Bool.and_true, Bool.and_self, envOf_i, envOf_b, envOf_d, List.map_cons, List.map_nil, true_and, Bool.not_eq_true', Bool.not_eq_false', Bool.not_not, Bool.and_eq_true, and_f, cell_lg, cell_lb, cell_lr, cmpP, val_i, val_b, val_d, aget, Nat.reduceBEq, beq_self_eq_true, Bool.false_eq_true, if_true, if_false, Nat.reduceLT, Nat.reduceSub, Nat.sub_self, Nat.lt_irrefl, i0, i2, k0, k2, e0, e1, KVci119, KVcb119, KVcb160, KVcd1, ids_two, has_two, hv]
    refine ⟨fun hc => ?_, fun hc => ?_⟩
    · have hk : k < s.length := by omega
      simp only [lg_cI hk, lg_cI hi, fe_snd (hsnd _ (List.getElem_mem hk)) (hsnd _ (List.getElem_mem hi))]
      have E1 := @by_of s[k] s[i]
      generalize feHoR _ = H at *
      have hw1 : IntKind.i64.wrap ((k : Int) + 1) = ((k + 1 : Nat) : Int) := by rw [wrap_in _ (by omega) (by omega)]; rfl
      have hm : s.length - (((k + 1 : Nat) : Int)).toNat < s.length - (k : Int).toNat := by omega
      have NX : ∀ p : Prop, (p ↔ (t.b 2 = true ∨ (byB s[k] s[i] = true ∧ s[k] ∈ curR s))) → (p ↔ ∃ (n : Nat) (hn : n < s.length), n < k + 1 ∧ byB s[n] s[i] = true ∧ s[n] ∈ curR s) := fun p hp => by
        rw [hp, k3]
        constructor
        · rintro (⟨n, hn, h1, h2⟩ | h)
          · exact ⟨n, hn, by omega, h2⟩
          · exact ⟨k, hk, by omega, h⟩
        · rintro ⟨n, hn, h1, h2⟩
          by_cases e : n = k
          · subst e; exact .inr h2
          · exact .inl ⟨n, hn, by omega, h2⟩
      have hK := has_ids f4 (List.getElem_mem hk)
      have hI := has_ids f4 (List.getElem_mem hi)
      have hIf : byB s[k] s[i] = true → hasB9 (idsS s) (cI s[i] 0) = false := fun h => by
        cases q : hasB9 (idsS s) (cI s[i] 0) with
        | false => rfl
        | true =>
          have := (cur_mem.1 (hI.1 q)).2
          rw [repl_yes hk h] at this
          cases this
      simp only [hw1]
      have out : byB s[k] s[i] = false → (t.b 2 = true ↔ ∃ (n : Nat) (hn : n < s.length), n < k + 1 ∧ byB s[n] s[i] = true ∧ s[n] ∈ curR s) := fun h => NX _ (by rw [h]; simp)
      refine ⟨by omega, by omega, fun a1 => ⟨⟨k + 1, rfl, by omega, out ((E1 rfl).2 (by omega))⟩, hm⟩, fun a1 => ⟨fun a2 => ⟨fun a3 => ⟨⟨k + 1, rfl, by omega, out ((E1 rfl).2 (by omega))⟩, hm⟩, fun a3 => ?_⟩, fun a2 => ?_⟩⟩
      all_goals
        have hB : byB s[k] s[i] = H := (E1 rfl).1 (by omega)
        have NT : t.b 2 = true → (True ↔ ∃ (n : Nat) (hn : n < s.length), n < k + 1 ∧ byB s[n] s[i] = true ∧ s[n] ∈ curR s) := fun h => NX _ (by simp [h])
        have NF : t.b 2 = false → H = false → (False ↔ ∃ (n : Nat) (hn : n < s.length), n < k + 1 ∧ byB s[n] s[i] = true ∧ s[n] ∈ curR s) := fun h g => NX _ (by simp [h, hB, g])
        have NH : t.b 2 = false → H = true → (hasB9 (idsS s) (cI s[k] 0) = true ↔ ∃ (n : Nat) (hn : n < s.length), n < k + 1 ∧ byB s[n] s[i] = true ∧ s[n] ∈ curR s) := fun h g => NX _ (by simp [h, hB, g, hK])
        have NI : H = true → hasB9 (idsS s) (cI s[i] 0) = false := fun h => hIf (hB.trans h)
        clear E1 NX out hIf hK hI k3 f3 f4 f5 hsnd hw
        (repeat' (first | refine ⟨fun _ => ?_, fun _ => ?_⟩ | intro _))
        all_goals first
          | contradiction
          | (refine ⟨⟨k + 1, rfl, by omega, NT ?_⟩, hm⟩; assumption)
          | (refine ⟨⟨k + 1, rfl, by omega, NI ?_, NT ?_⟩, hm⟩ <;> assumption)
          | (refine ⟨⟨k + 1, rfl, by omega, NF ?_ ?_⟩, hm⟩ <;> assumption)
          | (refine ⟨⟨k + 1, rfl, by omega, NI ?_, NF ?_ ?_⟩, hm⟩ <;> assumption)
          | (refine ⟨⟨k + 1, rfl, by omega, NH ?_ ?_⟩, hm⟩ <;> assumption)
          | (refine ⟨⟨k + 1, rfl, by omega, NI ?_, NH ?_ ?_⟩, hm⟩ <;> assumption)
          | skip
    · have hk : k = s.length := by omega
      subst hk
      rw [wrap_in ((i : Int) + 1) (by omega) (by omega)]
      have hI := has_ids f4 (List.getElem_mem hi)
      refine ⟨fun _ => ?_, fun h => by cases h⟩
      rw [if_neg (by decide)]
      refine ⟨⟨i + 1, rfl, by omega, ?_⟩, by omega⟩
      rw [lg_cI hi]
      by_cases hcur : s[i] ∈ curR s
      · rw [hI.2 hcur]
        cases q : t.b 2 with
        | false => rfl
        | true =>
          obtain ⟨n, hn, _, h1, _⟩ := k3.1 q
          have := (cur_mem.1 hcur).2
          rw [repl_yes hn h1] at this
          cases this
      · have h1 : hasB9 (idsS s) (cI s[i] 0) = false := by
          cases q : hasB9 (idsS s) (cI s[i] 0) with
          | false => rfl
          | true => exact absurd (hI.1 q) hcur
        obtain ⟨y, hy, hb⟩ := cur_by hsnd (List.getElem_mem hi) hcur
        obtain ⟨n, hn, rfl⟩ := List.getElem_of_mem (cur_mem.1 hy).1
        rw [h1, k3.2 ⟨n, hn, hn, hb, hy⟩]; rfl
  · have hl := cur_len s
    have hlen : (idsS s).length = (curR s).length := by unfold idsS; rw [List.length_map]
    have hris := List.pairwise_iff_getElem.mp (cur_ris f4)
    refine TT.sat_loop (fun t => ∃ k : Nat, t.i 1 = k ∧ k ≤ (curR s).length ∧ t.b 0 = true) (fun t => (curR s).length - (t.i 1).toNat)
      ⟨0, by simp [val_i, aget, E.ev], by omega, by simp [val_b, aget, B.ev, i2, put_b]⟩ (fun t ht => ?_)
    obtain ⟨k, k0, k1, k2⟩ := ht
    simp only [TT.sat_ret, TT.sat_ite, TT.sat_ob, TT.sat_next, TT.sat_stuck, put_i, put_b, put_d, put_fi, put_fb, put_fd, Ob.ok, B.ev, E.ev, X.ev, AL.ev, cmp_t, cmp_f, arEv, V.plain, V2.plain, S.plain, S0.plain, V.val, V2.val, S.val, S0.val, bV, iV, List.all_cons, List.all_nil, Bool.and_true, Bool.and_self, envOf_i, envOf_b, envOf_d, List.map_cons, List.map_nil, true_and, Bool.not_eq_true', Bool.not_eq_false', Bool.not_not, Bool.and_eq_true, and_f, cell_lg, cell_lb, cell_lr, cmpP, val_i, val_b, val_d, aget, Nat.reduceBEq, beq_self_eq_true, Bool.false_eq_true, if_true, if_false, Nat.reduceLT, Nat.reduceSub, Nat.sub_self, Nat.lt_irrefl, i0, i2, k0, k2, e0, e1, KVcd1, ids_two, hv, hlen]
    refine ⟨fun hc => ?_, fun _ => trivial⟩
    have hk : k < (curR s).length := by omega
    have hw1 : IntKind.i64.wrap ((k : Int) + 1) = ((k + 1 : Nat) : Int) := by rw [wrap_in _ (by omega) (by omega)]; rfl
    have hm : (curR s).length - (((k + 1 : Nat) : Int)).toNat < (curR s).length - (k : Int).toNat := by omega
    rw [hw1]
    refine ⟨by omega, hc, fun _ => ⟨fun _ => ⟨⟨k + 1, rfl, by omega, trivial⟩, hm⟩, fun h0 => ?_⟩, fun h => by cases h⟩
    have hw2 : IntKind.i64.wrap ((k : Int) - 1) = ((k - 1 : Nat) : Int) := by rw [wrap_in _ (by omega) (by omega)]; omega
    rw [hw2, ids_at (by omega), ids_at hk]
    exact ⟨by omega, by omega, ⟨k + 1, rfl, by omega, hris (k - 1) k (by omega) hk (by omega)⟩, hm⟩
end Go.Proofs.YtldbejmgalhdaaaGreat
