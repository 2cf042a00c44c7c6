/- LCla, merged: TVr, Vr. -/
import Derived.Test.YtldbejmgalhdaaaGreatHJ
set_option linter.unusedSimpArgs false
set_option linter.unusedVariables false
/- Chapter 09: the tree of the law SurveyClashes. -/
namespace Go.Proofs.YtldbejmgalhdaaaGreat
open Go.RowKit
def trLawCla : TT OpR :=
(.ite (.cmp .leq (.len (.var 0)) (.lit 16))
 (.ite (.not (.cmp .leq (.len (.var 1)) (.lit 12)))
 (.ret ((.v (.one (.z (.bool (.lit true))))), [], 3))
 (.ite (.cmp .neq (.fn 160 (.x (.var 0) (.x (.var 1) .nil))) (.lit 0))
 (.ret ((.v (.one (.z (.bool (.cmp .eql (.fn 160 (.x (.var 0) (.x (.var 1) .nil))) (.fn 170 (.x (.var 0) (.x (.var 1) (.i (.var 2) (.i (.var 3) (.i (.var 4) .nil))))))))))), [], 5))
 (.loop 0 6000 ⟨[(1, (.lit 0))], [(0, (.lit true))], []⟩
 (.ite (.cmp .lss (.var 6001) (.len (.fn 3 (.x (.var 0) (.x (.var 1) .nil)))))
 (.ob (.tru (.cmp .leq (.lit 0) (.var 6001)))
 (.ob (.tru (.cmp .lss (.var 6001) (.len (.fn 3 (.x (.var 0) (.x (.var 1) .nil))))))
 (.loop 1 8000 ⟨[], [(0, (.lit false))], []⟩
 (.ite (.var 8000)
 (.loop 2 9000 ⟨[(1, (.lit 0))], [(0, (.var 8001))], []⟩
 (.ite (.cmp .lss (.var 9001) (.len (.var 0)))
 (.ob (.tru (.cmp .leq (.lit 0) (.var 9001)))
 (.ob (.tru (.cmp .lss (.var 9001) (.len (.var 0))))
 (.loop 3 11000 ⟨[(0, (.lit 0))], [(1, (.var 9000))], []⟩
 (.ite (.cmp .lss (.var 11000) (.len (.var 0)))
 (.ob (.tru (.cmp .leq (.lit 0) (.var 11000)))
 (.ob (.tru (.cmp .lss (.var 11000) (.len (.var 0))))
 (.ite (.cmp .neq (.rd (.var 0) (.var 9001) 0) (.rd (.fn 3 (.x (.var 0) (.x (.var 1) .nil))) (.var 6001) 0))
 (.next 3 ⟨[(0, (.ar .add .i64 (.var 11000) (.lit 1)))], [(1, (.var 11001))], []⟩)
 (.ite (.cmp .neq (.rd (.var 0) (.var 11000) 0) (.rd (.fn 3 (.x (.var 0) (.x (.var 1) .nil))) (.var 6001) 1))
 (.next 3 ⟨[(0, (.ar .add .i64 (.var 11000) (.lit 1)))], [(1, (.var 11001))], []⟩)
 (.ite (.var 11001)
 (.ite (.cmp .eql (.fn 119 (.i (.rd (.var 0) (.var 9001) 0) (.i (.lit 1) (.i (.rd (.var 0) (.var 9001) 1) (.i (.rd (.var 0) (.var 9001) 2) (.i (.rd (.var 0) (.var 9001) 3) (.x .nil (.i (.rd (.var 0) (.var 9001) 4) (.i (.lit 0) (.x .nil (.i (.rd (.var 0) (.var 11000) 0) (.i (.lit 1) (.i (.rd (.var 0) (.var 11000) 1) (.i (.rd (.var 0) (.var 11000) 2) (.i (.rd (.var 0) (.var 11000) 3) (.x .nil (.i (.rd (.var 0) (.var 11000) 4) (.i (.lit 0) (.x .nil .nil))))))))))))))))))) (.lit 0))
 (.ite (.fn 120 (.i (.rd (.var 0) (.var 9001) 0) (.i (.lit 1) (.i (.rd (.var 0) (.var 9001) 1) (.i (.rd (.var 0) (.var 9001) 2) (.i (.rd (.var 0) (.var 9001) 3) (.x .nil (.i (.rd (.var 0) (.var 9001) 4) (.i (.lit 0) (.x .nil (.i (.rd (.var 0) (.var 11000) 0) (.i (.lit 1) (.i (.rd (.var 0) (.var 11000) 1) (.i (.rd (.var 0) (.var 11000) 2) (.i (.rd (.var 0) (.var 11000) 3) (.x .nil (.i (.rd (.var 0) (.var 11000) 4) (.i (.lit 0) (.x .nil .nil)))))))))))))))))))
 (.ite (.cmp .neq (.fn 78 (.i (.rd (.var 0) (.var 9001) 0) (.i (.lit 1) (.i (.rd (.var 0) (.var 9001) 1) (.i (.rd (.var 0) (.var 9001) 2) (.i (.rd (.var 0) (.var 9001) 3) (.x .nil (.i (.rd (.var 0) (.var 9001) 4) (.i (.lit 0) (.x .nil (.i (.var 2) (.i (.var 3) .nil)))))))))))) (.lit 0))
 (.next 3 ⟨[(0, (.ar .add .i64 (.var 11000) (.lit 1)))], [(1, (.lit true))], []⟩)
 (.ite (.cmp .neq (.fn 78 (.i (.rd (.var 0) (.var 11000) 0) (.i (.lit 1) (.i (.rd (.var 0) (.var 11000) 1) (.i (.rd (.var 0) (.var 11000) 2) (.i (.rd (.var 0) (.var 11000) 3) (.x .nil (.i (.rd (.var 0) (.var 11000) 4) (.i (.lit 0) (.x .nil (.i (.var 2) (.i (.var 3) .nil)))))))))))) (.lit 0))
 (.next 3 ⟨[(0, (.ar .add .i64 (.var 11000) (.lit 1)))], [(1, (.lit true))], []⟩)
 (.ite (.not (.fn 78 (.i (.rd (.var 0) (.var 9001) 0) (.i (.lit 1) (.i (.rd (.var 0) (.var 9001) 1) (.i (.rd (.var 0) (.var 9001) 2) (.i (.rd (.var 0) (.var 9001) 3) (.x .nil (.i (.rd (.var 0) (.var 9001) 4) (.i (.lit 0) (.x .nil (.i (.var 2) (.i (.var 3) .nil)))))))))))))
 (.next 3 ⟨[(0, (.ar .add .i64 (.var 11000) (.lit 1)))], [(1, (.lit true))], []⟩)
 (.ite (.not (.fn 78 (.i (.rd (.var 0) (.var 11000) 0) (.i (.lit 1) (.i (.rd (.var 0) (.var 11000) 1) (.i (.rd (.var 0) (.var 11000) 2) (.i (.rd (.var 0) (.var 11000) 3) (.x .nil (.i (.rd (.var 0) (.var 11000) 4) (.i (.lit 0) (.x .nil (.i (.var 2) (.i (.var 3) .nil)))))))))))))
 (.next 3 ⟨[(0, (.ar .add .i64 (.var 11000) (.lit 1)))], [(1, (.lit true))], []⟩)
 (.next 3 ⟨[(0, (.ar .add .i64 (.var 11000) (.lit 1)))], [(1, (.not (.fn 170 (.x (.var 0) (.x (.var 1) (.i (.var 2) (.i (.var 3) (.i (.var 4) .nil))))))))], []⟩)))))
 (.next 3 ⟨[(0, (.ar .add .i64 (.var 11000) (.lit 1)))], [(1, (.lit false))], []⟩))
 (.next 3 ⟨[(0, (.ar .add .i64 (.var 11000) (.lit 1)))], [(1, (.lit false))], []⟩))
 (.next 3 ⟨[(0, (.ar .add .i64 (.var 11000) (.lit 1)))], [(1, (.lit false))], []⟩))))))
 (.next 2 ⟨[(1, (.ar .add .i64 (.var 9001) (.lit 1)))], [(0, (.var 11001))], []⟩)))))
 (.next 0 ⟨[(1, (.ar .add .i64 (.var 6001) (.lit 1)))], [(0, (.var 9000))], []⟩)))
 (.ite (.var 6000)
 (.ite (.cmp .lss (.rd (.fn 3 (.x (.var 0) (.x (.var 1) .nil))) (.var 6001) 0) (.rd (.fn 3 (.x (.var 0) (.x (.var 1) .nil))) (.var 6001) 1))
 (.ite (.fn 160 (.x (.fn 1 (.x (.var 0) (.x (.var 1) .nil))) (.i (.rd (.fn 3 (.x (.var 0) (.x (.var 1) .nil))) (.var 6001) 0) .nil)))
 (.next 1 ⟨[], [(1, (.fn 160 (.x (.fn 1 (.x (.var 0) (.x (.var 1) .nil))) (.i (.rd (.fn 3 (.x (.var 0) (.x (.var 1) .nil))) (.var 6001) 1) .nil)))), (6, (.lit true)), (7, (.cmp .lss (.rd (.fn 3 (.x (.var 0) (.x (.var 1) .nil))) (.var 6001) 0) (.rd (.fn 3 (.x (.var 0) (.x (.var 1) .nil))) (.var 6001) 1))), (4, (.lit true)), (5, (.fn 160 (.x (.fn 1 (.x (.var 0) (.x (.var 1) .nil))) (.i (.rd (.fn 3 (.x (.var 0) (.x (.var 1) .nil))) (.var 6001) 0) .nil)))), (2, (.lit true)), (3, (.fn 160 (.x (.fn 1 (.x (.var 0) (.x (.var 1) .nil))) (.i (.rd (.fn 3 (.x (.var 0) (.x (.var 1) .nil))) (.var 6001) 1) .nil)))), (0, (.lit true))], []⟩)
 (.next 1 ⟨[], [(1, (.lit false)), (6, (.lit true)), (7, (.cmp .lss (.rd (.fn 3 (.x (.var 0) (.x (.var 1) .nil))) (.var 6001) 0) (.rd (.fn 3 (.x (.var 0) (.x (.var 1) .nil))) (.var 6001) 1))), (4, (.lit true)), (5, (.fn 160 (.x (.fn 1 (.x (.var 0) (.x (.var 1) .nil))) (.i (.rd (.fn 3 (.x (.var 0) (.x (.var 1) .nil))) (.var 6001) 0) .nil)))), (2, (.lit false)), (3, (.lit false)), (0, (.lit true))], []⟩))
 (.next 1 ⟨[], [(1, (.lit false)), (6, (.lit true)), (7, (.cmp .lss (.rd (.fn 3 (.x (.var 0) (.x (.var 1) .nil))) (.var 6001) 0) (.rd (.fn 3 (.x (.var 0) (.x (.var 1) .nil))) (.var 6001) 1))), (4, (.lit false)), (5, (.lit false)), (2, (.lit false)), (3, (.lit false)), (0, (.lit true))], []⟩))
 (.next 1 ⟨[], [(1, (.lit false)), (6, (.lit false)), (7, (.lit false)), (4, (.lit false)), (5, (.lit false)), (2, (.lit false)), (3, (.lit false)), (0, (.lit true))], []⟩))))))
 (.ite (.var 6000)
 (.ret ((.v (.one (.z (.bool (.cmp .eql (.fn 160 (.x (.var 0) (.x (.var 1) .nil))) (.lit 0)))))), [], 20))
 (.ret ((.v (.one (.z (.bool (.lit false))))), [], 20)))))))
 (.ret ((.v (.one (.z (.bool (.lit true))))), [], 3)))
def trLawCla_h : List (Nat × St) := [
(5, ⟨(List.append [(.v (.one (.z .any))), (.v (.one (.z .any))), (.v (.one (.z .any))), (.v (.one (.z (.ptr 0 0)))), (.v (.one (.z (.ptr 1 0)))), (.v (.one (.z .any))), (.v (.one (.z (.bool (.lit false))))), (.v (.one (.z (.bool (.var 6000))))), (.v (.one (.z .any))), (.v (.one (.z .any))), (.v (.one (.z (.own 4 (.lit 0))))), (.v (.one (.z (.int .i64 (.fn 160 (.x (.var 0) (.x (.var 1) .nil))))))), (.v (.one (.z (.bool (.fn 170 (.x (.var 0) (.x (.var 1) (.i (.var 2) (.i (.var 3) (.i (.var 4) .nil))))))))))] (List.append (List.replicate 48 V.any) (List.append [(.v (.one (.z (.own 3 (.lit 0))))), (.v (.one (.z (.int .i64 (.len (.fn 3 (.x (.var 0) (.x (.var 1) .nil)))))))), (.v (.one (.z (.int .i64 (.var 6001)))))] (List.replicate 107 V.any)))), [(4, (.own 3 [(.int .i64)] (.fn 1 (.x (.var 0) (.x (.var 1) .nil))) (.lit 0))), (3, (.own 67 [(.int .i64), (.int .i64)] (.fn 3 (.x (.var 0) (.x (.var 1) .nil))) (.lit 0))), (1, (.cells 27 [(.z (.int .i64 (.var 2))), (.z (.int .i64 (.var 3)))])), (0, (.cells 25 [(.z (.ext sndK (.var 0) false)), (.z (.ext featK (.var 1) false))]))], 6, []⟩),
(8, ⟨(List.append [(.v (.one (.z .any))), (.v (.one (.z .any))), (.v (.one (.z .any))), (.v (.one (.z (.ptr 0 0)))), (.v (.one (.z (.ptr 1 0)))), (.v (.one (.z .any))), (.v (.one (.z (.bool (.lit false))))), (.v (.one (.z (.bool (.var 9000))))), (.v (.one (.z .any))), (.v (.one (.z .any))), (.v (.one (.z (.own 4 (.lit 0))))), (.v (.one (.z (.int .i64 (.fn 160 (.x (.var 0) (.x (.var 1) .nil))))))), (.v (.one (.z (.bool (.fn 170 (.x (.var 0) (.x (.var 1) (.i (.var 2) (.i (.var 3) (.i (.var 4) .nil)))))))))), (.v (.one (.z .any))), (.v (.one (.z .any))), (.v (.one (.z (.ptr 6 0))))] (List.append (List.replicate 45 V.any) (List.append [(.v (.one (.z (.own 3 (.lit 0))))), (.v (.one (.z (.int .i64 (.len (.fn 3 (.x (.var 0) (.x (.var 1) .nil)))))))), (.v (.one (.z (.int .i64 (.var 6001))))), (.v (.one (.z (.bool (.cmp .lss (.var 6001) (.len (.fn 3 (.x (.var 0) (.x (.var 1) .nil))))))))), (.v (.one (.z (.optr 3 (.lit 0) 2 (.var 6001) 0)))), (.v (.agg [(.z (.int .i64 (.rd (.fn 3 (.x (.var 0) (.x (.var 1) .nil))) (.var 6001) 0))), (.z (.int .i64 (.rd (.fn 3 (.x (.var 0) (.x (.var 1) .nil))) (.var 6001) 1)))])), (.v (.one (.z (.bool (.var 6000))))), (.v (.one (.z (.bool (.var 8006)))))] (List.append (List.replicate 5 V.any) (List.append [(.v (.one (.z (.bool (.var 8007))))), (.v (.one (.z (.bool (.var 8004)))))] (List.append (List.replicate 4 V.any) (List.append [(.v (.one (.z (.bool (.var 8005))))), (.v (.one (.z (.bool (.var 8002)))))] (List.append (List.replicate 4 V.any) (List.append [(.v (.one (.z (.bool (.var 8003))))), (.v (.one (.z (.ptr 0 0)))), (.v (.one (.z (.ext sndK (.var 0) false)))), (.v (.one (.z (.int .i64 (.len (.var 0)))))), (.v (.one (.z (.int .i64 (.var 9001)))))] (List.replicate 80 V.any)))))))))), [(6, (.cells 67 [(.z (.int .i64 (.rd (.fn 3 (.x (.var 0) (.x (.var 1) .nil))) (.var 6001) 0))), (.z (.int .i64 (.rd (.fn 3 (.x (.var 0) (.x (.var 1) .nil))) (.var 6001) 1)))])), (4, (.own 3 [(.int .i64)] (.fn 1 (.x (.var 0) (.x (.var 1) .nil))) (.lit 0))), (3, (.own 67 [(.int .i64), (.int .i64)] (.fn 3 (.x (.var 0) (.x (.var 1) .nil))) (.lit 0))), (1, (.cells 27 [(.z (.int .i64 (.var 2))), (.z (.int .i64 (.var 3)))])), (0, (.cells 25 [(.z (.ext sndK (.var 0) false)), (.z (.ext featK (.var 1) false))]))], 9, []⟩),
(10, ⟨(List.append [(.v (.one (.z .any))), (.v (.one (.z .any))), (.v (.one (.z .any))), (.v (.one (.z (.ptr 0 0)))), (.v (.one (.z (.ptr 1 0)))), (.v (.one (.z .any))), (.v (.one (.z (.bool (.lit false))))), (.v (.one (.z (.bool (.var 11001))))), (.v (.one (.z .any))), (.v (.one (.z .any))), (.v (.one (.z (.own 4 (.lit 0))))), (.v (.one (.z (.int .i64 (.fn 160 (.x (.var 0) (.x (.var 1) .nil))))))), (.v (.one (.z (.bool (.fn 170 (.x (.var 0) (.x (.var 1) (.i (.var 2) (.i (.var 3) (.i (.var 4) .nil)))))))))), (.v (.one (.z .any))), (.v (.one (.z .any))), (.v (.one (.z (.ptr 6 0)))), (.v (.one (.z .any))), (.v (.one (.z (.ptr 9 0))))] (List.append (List.replicate 43 V.any) (List.append [(.v (.one (.z (.own 3 (.lit 0))))), (.v (.one (.z (.int .i64 (.len (.fn 3 (.x (.var 0) (.x (.var 1) .nil)))))))), (.v (.one (.z (.int .i64 (.var 6001))))), (.v (.one (.z (.bool (.cmp .lss (.var 6001) (.len (.fn 3 (.x (.var 0) (.x (.var 1) .nil))))))))), (.v (.one (.z (.optr 3 (.lit 0) 2 (.var 6001) 0)))), (.v (.agg [(.z (.int .i64 (.rd (.fn 3 (.x (.var 0) (.x (.var 1) .nil))) (.var 6001) 0))), (.z (.int .i64 (.rd (.fn 3 (.x (.var 0) (.x (.var 1) .nil))) (.var 6001) 1)))])), (.v (.one (.z (.bool (.var 6000))))), (.v (.one (.z (.bool (.var 8006)))))] (List.append (List.replicate 5 V.any) (List.append [(.v (.one (.z (.bool (.var 8007))))), (.v (.one (.z (.bool (.var 8004)))))] (List.append (List.replicate 4 V.any) (List.append [(.v (.one (.z (.bool (.var 8005))))), (.v (.one (.z (.bool (.var 8002)))))] (List.append (List.replicate 4 V.any) (List.append [(.v (.one (.z (.bool (.var 8003))))), (.v (.one (.z (.ptr 0 0)))), (.v (.one (.z (.ext sndK (.var 0) false)))), (.v (.one (.z (.int .i64 (.len (.var 0)))))), (.v (.one (.z (.int .i64 (.var 9001))))), (.v (.one (.z (.bool (.cmp .lss (.var 9001) (.len (.var 0))))))), (.v (.one (.z (.eptr sndK (.var 0) (.var 9001) 0)))), (.v (.agg [(.z (.int .i64 (.rd (.var 0) (.var 9001) 0))), (.z (.int .i64 (.rd (.var 0) (.var 9001) 1))), (.z (.int .i64 (.rd (.var 0) (.var 9001) 2))), (.z (.int .i64 (.rd (.var 0) (.var 9001) 3))), (.z (.int .i64 (.rd (.var 0) (.var 9001) 4))), (.z (.int .i64 (.rd (.var 0) (.var 9001) 5))), (.z (.int .i64 (.rd (.var 0) (.var 9001) 6)))])), (.v (.one (.z (.ptr 0 0)))), (.v (.one (.z (.ext sndK (.var 0) false)))), (.v (.one (.z (.int .i64 (.len (.var 0)))))), (.v (.one (.z (.int .i64 (.var 11000)))))] (List.replicate 73 V.any)))))))))), [(9, (.cells 53 [(.z (.int .i64 (.rd (.var 0) (.var 9001) 0))), (.z (.int .i64 (.rd (.var 0) (.var 9001) 1))), (.z (.int .i64 (.rd (.var 0) (.var 9001) 2))), (.z (.int .i64 (.rd (.var 0) (.var 9001) 3))), (.z (.int .i64 (.rd (.var 0) (.var 9001) 4))), (.z (.int .i64 (.rd (.var 0) (.var 9001) 5))), (.z (.int .i64 (.rd (.var 0) (.var 9001) 6)))])), (6, (.cells 67 [(.z (.int .i64 (.rd (.fn 3 (.x (.var 0) (.x (.var 1) .nil))) (.var 6001) 0))), (.z (.int .i64 (.rd (.fn 3 (.x (.var 0) (.x (.var 1) .nil))) (.var 6001) 1)))])), (4, (.own 3 [(.int .i64)] (.fn 1 (.x (.var 0) (.x (.var 1) .nil))) (.lit 0))), (3, (.own 67 [(.int .i64), (.int .i64)] (.fn 3 (.x (.var 0) (.x (.var 1) .nil))) (.lit 0))), (1, (.cells 27 [(.z (.int .i64 (.var 2))), (.z (.int .i64 (.var 3)))])), (0, (.cells 25 [(.z (.ext sndK (.var 0) false)), (.z (.ext featK (.var 1) false))]))], 11, []⟩)]
def trLawCla_j : List (FuncId × Nat × Nat × St) := [
(9, 2000067, 6, ⟨(List.append [(.v (.one (.z .any))), (.v (.one (.z .any))), (.v (.one (.z .any))), (.v (.one (.z (.ptr 0 0)))), (.v (.one (.z (.ptr 1 0)))), (.v (.one (.z .any))), (.v (.one (.z (.bool (.lit false))))), (.v (.one (.z (.bool (.var 7001))))), (.v (.one (.z .any))), (.v (.one (.z .any))), (.v (.one (.z (.own 4 (.lit 0))))), (.v (.one (.z (.int .i64 (.fn 160 (.x (.var 0) (.x (.var 1) .nil))))))), (.v (.one (.z (.bool (.fn 170 (.x (.var 0) (.x (.var 1) (.i (.var 2) (.i (.var 3) (.i (.var 4) .nil)))))))))), (.v (.one (.z .any))), (.v (.one (.z .any))), (.v (.one (.z (.ptr 5 0))))] (List.append (List.replicate 45 V.any) (List.append [(.v (.one (.z (.own 3 (.lit 0))))), (.v (.one (.z (.int .i64 (.len (.fn 3 (.x (.var 0) (.x (.var 1) .nil)))))))), (.v (.one (.z (.int .i64 (.lit 0))))), (.v (.one (.z (.bool (.cmp .lss (.lit 0) (.len (.fn 3 (.x (.var 0) (.x (.var 1) .nil))))))))), (.v (.one (.z (.optr 3 (.lit 0) 2 (.lit 0) 0)))), (.v (.agg [(.z (.int .i64 (.rd (.fn 3 (.x (.var 0) (.x (.var 1) .nil))) (.lit 0) 0))), (.z (.int .i64 (.rd (.fn 3 (.x (.var 0) (.x (.var 1) .nil))) (.lit 0) 1)))])), (.v (.one (.z (.bool (.lit true))))), (.v (.one (.z (.bool (.lit true))))), (.v (.one (.z (.ptr 5 0)))), (.v (.one (.z (.int .i64 (.rd (.fn 3 (.x (.var 0) (.x (.var 1) .nil))) (.lit 0) 0))))), (.v (.one (.z (.ptr 5 1)))), (.v (.one (.z (.int .i64 (.rd (.fn 3 (.x (.var 0) (.x (.var 1) .nil))) (.lit 0) 1))))), (.v (.one (.z (.bool (.cmp .lss (.rd (.fn 3 (.x (.var 0) (.x (.var 1) .nil))) (.lit 0) 0) (.rd (.fn 3 (.x (.var 0) (.x (.var 1) .nil))) (.lit 0) 1)))))), (.v (.one (.z (.bool (.cmp .lss (.rd (.fn 3 (.x (.var 0) (.x (.var 1) .nil))) (.lit 0) 0) (.rd (.fn 3 (.x (.var 0) (.x (.var 1) .nil))) (.lit 0) 1)))))), (.v (.one (.z (.bool (.var 7004)))))] (List.append (List.replicate 4 V.any) (List.append [(.v (.one (.z (.bool (.var 7005))))), (.v (.one (.z (.bool (.var 7002)))))] (List.append (List.replicate 4 V.any) (List.append [(.v (.one (.z (.bool (.var 7003)))))] (List.replicate 84 V.any)))))))), [(5, (.cells 67 [(.z (.int .i64 (.rd (.fn 3 (.x (.var 0) (.x (.var 1) .nil))) (.lit 0) 0))), (.z (.int .i64 (.rd (.fn 3 (.x (.var 0) (.x (.var 1) .nil))) (.lit 0) 1)))])), (4, (.own 3 [(.int .i64)] (.fn 1 (.x (.var 0) (.x (.var 1) .nil))) (.lit 0))), (3, (.own 67 [(.int .i64), (.int .i64)] (.fn 3 (.x (.var 0) (.x (.var 1) .nil))) (.lit 0))), (1, (.cells 27 [(.z (.int .i64 (.var 2))), (.z (.int .i64 (.var 3)))])), (0, (.cells 25 [(.z (.ext sndK (.var 0) false)), (.z (.ext featK (.var 1) false))]))], 7, []⟩),
(9, 2000067, 7, ⟨(List.append [(.v (.one (.z .any))), (.v (.one (.z .any))), (.v (.one (.z .any))), (.v (.one (.z (.ptr 0 0)))), (.v (.one (.z (.ptr 1 0)))), (.v (.one (.z .any))), (.v (.one (.z (.bool (.lit false))))), (.v (.one (.z (.bool (.var 8001))))), (.v (.one (.z .any))), (.v (.one (.z .any))), (.v (.one (.z (.own 4 (.lit 0))))), (.v (.one (.z (.int .i64 (.fn 160 (.x (.var 0) (.x (.var 1) .nil))))))), (.v (.one (.z (.bool (.fn 170 (.x (.var 0) (.x (.var 1) (.i (.var 2) (.i (.var 3) (.i (.var 4) .nil)))))))))), (.v (.one (.z .any))), (.v (.one (.z .any))), (.v (.one (.z (.ptr 6 0))))] (List.append (List.replicate 45 V.any) (List.append [(.v (.one (.z (.own 3 (.lit 0))))), (.v (.one (.z (.int .i64 (.len (.fn 3 (.x (.var 0) (.x (.var 1) .nil)))))))), (.v (.one (.z (.int .i64 (.var 6001))))), (.v (.one (.z (.bool (.cmp .lss (.var 6001) (.len (.fn 3 (.x (.var 0) (.x (.var 1) .nil))))))))), (.v (.one (.z (.optr 3 (.lit 0) 2 (.var 6001) 0)))), (.v (.agg [(.z (.int .i64 (.rd (.fn 3 (.x (.var 0) (.x (.var 1) .nil))) (.var 6001) 0))), (.z (.int .i64 (.rd (.fn 3 (.x (.var 0) (.x (.var 1) .nil))) (.var 6001) 1)))])), (.v (.one (.z (.bool (.var 6000))))), (.v (.one (.z (.bool (.var 8006)))))] (List.append (List.replicate 5 V.any) (List.append [(.v (.one (.z (.bool (.var 8007))))), (.v (.one (.z (.bool (.var 8004)))))] (List.append (List.replicate 4 V.any) (List.append [(.v (.one (.z (.bool (.var 8005))))), (.v (.one (.z (.bool (.var 8002)))))] (List.append (List.replicate 4 V.any) (List.append [(.v (.one (.z (.bool (.var 8003)))))] (List.replicate 84 V.any)))))))))), [(6, (.cells 67 [(.z (.int .i64 (.rd (.fn 3 (.x (.var 0) (.x (.var 1) .nil))) (.var 6001) 0))), (.z (.int .i64 (.rd (.fn 3 (.x (.var 0) (.x (.var 1) .nil))) (.var 6001) 1)))])), (4, (.own 3 [(.int .i64)] (.fn 1 (.x (.var 0) (.x (.var 1) .nil))) (.lit 0))), (3, (.own 67 [(.int .i64), (.int .i64)] (.fn 3 (.x (.var 0) (.x (.var 1) .nil))) (.lit 0))), (1, (.cells 27 [(.z (.int .i64 (.var 2))), (.z (.int .i64 (.var 3)))])), (0, (.cells 25 [(.z (.ext sndK (.var 0) false)), (.z (.ext featK (.var 1) false))]))], 8, []⟩)]
set_option maxRecDepth 100000 in
theorem trLawCla_is : T.norm 0 (call Tryz.prog ctV4 ⟨Lt.un (Lt.of [(9, 2000067), (9, 3000000)]), trLawCla_h, trLawCla_j⟩ 150 9 (symArgs 0 [suv, pt, it]) [] 0) TT.ret = trLawCla := by kernel_rfl
theorem trLawCla_low : trLawCla.low 1000 = true := by kernel_rfl
end Go.Proofs.YtldbejmgalhdaaaGreat
/- Chapter 09: the law SurveyClashes. -/
namespace Go.Proofs.YtldbejmgalhdaaaGreat
open Go.RowKit
theorem clS_mem : ∀ {r : Rows} {q : List D}, q ∈ clS r → ∃ x ∈ r, ∃ y ∈ r, q = prR x y ∧ clB x y = true ∧ (RisP r → cI x 0 < cI y 0)
  | [], q, h => by simp [clS] at h
  | x :: r, q, h => by
    rw [clS, List.mem_append] at h
    rcases h with h | h
    · obtain ⟨y, hy, rfl⟩ := List.mem_map.1 h
      obtain ⟨hy, hc⟩ := List.mem_filter.1 hy
      exact ⟨x, List.mem_cons_self .., y, List.mem_cons_of_mem _ hy, rfl, hc, fun hr => (List.pairwise_cons.1 hr).1 y hy⟩
    · obtain ⟨a, ha, b, hb, e, hc, hr⟩ := clS_mem h
      exact ⟨a, List.mem_cons_of_mem _ ha, b, List.mem_cons_of_mem _ hb, e, hc, fun h => hr (List.pairwise_cons.1 h).2⟩
theorem clr_two (s F : Rows) : clR [.l s, .l F] = if surB s F = true then clS (curR s) else [] := rfl
theorem alw_five (s F : Rows) (x y d : Int) : alwR [.l s, .l F, .i x, .i y, .i d] = ((surB s F && placeB x y) && (decide (0 ≤ d ∧ d ≤ 100000) && alwS s F x y d)) := rfl
theorem alwe_five (s F : Rows) (x y d : Int) : alwE [.l s, .l F, .i x, .i y, .i d] = if (surB s F && placeB x y) = true then 0 else 1 := rfl
theorem KVdi160 (W : World) (ds l : List D) : (envOf KVd W ds).fi 160 l = scE l := by simp only [envOf, KVd, KVc]
theorem KVdb160 (W : World) (ds l : List D) : (envOf KVd W ds).fb 160 l = hasL9 l := by simp only [envOf, KVd, KVc]
theorem KVdd1 (W : World) (ds l : List D) : (envOf KVd W ds).fd 1 l = idsR l := by simp only [envOf, KVd, KVc]
theorem KVdd3 (W : World) (ds l : List D) : (envOf KVd W ds).fd 3 l = clR l := by simp only [envOf, KVd]
theorem KVdi119 (W : World) (ds l : List D) : (envOf KVd W ds).fi 119 l = feE l := by simp only [envOf, KVd, KVc, KVb, KVa, K80, K79, K78, K77, K76]
theorem KVdb120 (W : World) (ds l : List D) : (envOf KVd W ds).fb 120 l = feToR l := by simp only [envOf, KVd, KVc, KVb, KVa, K80, K79, K78, K77, K76]
theorem KVdb78 (W : World) (ds l : List D) : (envOf KVd W ds).fb 78 l = covR l := by simp only [envOf, KVd, KVc, KVb, KVa, K80, K79, K78, K77, K76, K75, K74, K73, K72, K71, KI, KH, KG]
theorem KVdi78 (W : World) (ds l : List D) : (envOf KVd W ds).fi 78 l = covE l := by simp only [envOf, KVd, KVc, KVb, KVa, K80, K79, K78, K77, K76, K75, K74, K73, K72, K71, KI, KH, KG]
theorem KVdb170 (W : World) (ds l : List D) : (envOf KVd W ds).fb 170 l = alwR l := by simp only [envOf, KVd]
theorem KVdi170 (W : World) (ds l : List D) : (envOf KVd W ds).fi 170 l = alwE l := by simp only [envOf, KVd]
theorem alw_off {s F : Rows} {x : List D} {px py d : Int} (hx : x ∈ curR s) (h : offB x px py d = true) : alwS s F px py d = false := by
  unfold alwS
  have : ((curR s).all fun x => !offB x px py d) = false := by
    rw [List.all_eq_false]
    exact ⟨_, hx, by rw [h]; decide⟩
  rw [this]; rfl
theorem clash_off {s F : Rows} {x y : List D} {px py d : Int} (hx : x ∈ curR s) (hy : y ∈ curR s) (hc : clB x y = true) (cx : covR9 (ftr x) px py = true) (cy : covR9 (ftr y) px py = true) (lx : cI x 4 ≤ cI x 5) (ly : cI y 4 ≤ cI y 5) : alwS s F px py d = false := by
  unfold clB at hc
  rw [Bool.and_eq_true, decide_eq_true_eq] at hc
  by_cases h1 : d < cI x 4 ∨ cI x 5 < d
  · refine alw_off hx ?_
    unfold offB
    rw [cx]
    rcases h1 with h | h
    · rw [decide_eq_true h]; rfl
    · rw [decide_eq_true h]; simp
  · refine alw_off hy ?_
    unfold offB
    rw [cy]
    rcases (show d < cI y 4 ∨ cI y 5 < d by omega) with h | h
    · rw [decide_eq_true h]; rfl
    · rw [decide_eq_true h]; simp
set_option maxHeartbeats 2000000 in
theorem gLawCla : Gives Tryz.prog 9 [suv, pt, it] (fun _ => .bool true) := by
  refine GivesIf.all (fn_gives KVd (by kernel_rfl) (fun ρ h => ctV4_ok (Sees.of h 180) (SeesD.of h 4)) (by kernel_rfl) trLawCla_is trLawCla_low (by decide) (fun W vals ds hr _ => ?_))
  simp only [trLawCla, TT.sat_ret, TT.sat_ite, TT.sat_ob, TT.sat_next, TT.sat_stuck, put_i, put_b, put_d, put_fi, put_fb, put_fd, Ob.ok, B.ev, E.ev, X.ev, AL.ev, cmp_t, cmp_f, arEv, V.plain, V2.plain, S.plain, S0.plain, V.val, V2.val, S.val, S0.val, bV, iV, List.all_cons, List.all_nil, Bool.and_true, Bool.and_self, envOf_i, envOf_b, envOf_d, List.map_cons, List.map_nil, true_and, Bool.not_eq_true', Bool.not_eq_false', Bool.not_not, Bool.and_eq_true, and_f, cell_lg, cell_lb, cell_lr, cmpP, val_i, val_b, val_d, aget, Nat.reduceBEq, beq_self_eq_true, Bool.false_eq_true, if_true, if_false, Nat.reduceLT, Nat.reduceSub, Nat.sub_self, Nat.lt_irrefl, KVdi160, KVdi170, KVdd1, KVdd3, sce_two, alwe_five, clr_two, ids_two]
  clear hr
  generalize e0 : rAt ds 0 = s at *
  generalize e1 : rAt ds 1 = F at *
  generalize e2 : iAt ds 2 = px at *
  generalize e3 : iAt ds 3 = py at *
  generalize e4 : iAt ds 4 = d at *
  refine ⟨fun h16 => ⟨fun _ => trivial, fun h12 => ⟨fun hE => ?_, fun hE => ?_⟩⟩, fun _ => trivial⟩
  · by_cases q : surB s F = true
    · rw [if_pos q] at hE; omega
    · have q' : surB s F = false := by simpa using q
      simp only [q', Bool.false_and, Bool.false_eq_true, if_false]; rfl
  have hv : surB s F = true := by
    by_cases q : surB s F = true
    · exact q
    · rw [if_neg q] at hE; omega
  obtain ⟨⟨f1, f2⟩, f3, f4, f5⟩ := sur_iff.1 hv
  have hsnd : ∀ x ∈ s, sndR9 x = true := fun x hx => (f3 x hx).1
  have hlen : (clS (curR s)).length ≤ 256 := by
    have h1 := clS_len (curR s)
    have h2 := cur_len s
    have h3 : (curR s).length * (curR s).length ≤ 16 * 16 := Nat.mul_le_mul (by omega) (by omega)
    omega
  refine TT.sat_loop (fun v => ∃ i : Nat, v.i 1 = i ∧ i ≤ (clS (curR s)).length ∧ v.b 0 = true) (fun v => (clS (curR s)).length - (v.i 1).toNat)
    ⟨0, by simp [val_i, aget, E.ev], by omega, by simp [val_b, aget, B.ev]⟩ (fun v hv0 => ?_)
  obtain ⟨i, i0, i1, i2⟩ := hv0
  simp only [TT.sat_ret, TT.sat_ite, TT.sat_ob, TT.sat_next, TT.sat_stuck, put_i, put_b, put_d, put_fi, put_fb, put_fd, Ob.ok, B.ev, E.ev, X.ev, AL.ev, cmp_t, cmp_f, arEv, V.plain, V2.plain, S.plain, S0.plain, V.val, V2.val, S.val, S0.val, bV, iV, List.all_cons, List.all_nil, Bool.and_true, Bool.and_self, envOf_i, envOf_b, envOf_d, List.map_cons, List.map_nil, true_and, Bool.not_eq_true', Bool.not_eq_false', Bool.not_not, Bool.and_eq_true, and_f, cell_lg, cell_lb, cell_lr, cmpP, val_i, val_b, val_d, aget, Nat.reduceBEq, beq_self_eq_true, Bool.false_eq_true, if_true, if_false, Nat.reduceLT, Nat.reduceSub, Nat.sub_self, Nat.lt_irrefl, i0, i2, e0, e1, KVdd3, clr_two, hv, KVdi160, sce_two]
  refine ⟨fun hc => ⟨by omega, by omega, ?_⟩, fun hc => ⟨fun _ => rfl, fun h => by cases h⟩⟩
  have hi : i < (clS (curR s)).length := by omega
  obtain ⟨x, hx, y, hy, eq, hcl, hlt⟩ := clS_mem (List.getElem_mem hi)
  have hlt := hlt (cur_ris f4)
  have q0 : lg (clS (curR s)) i 0 = cI x 0 := by rw [lg_cI hi, eq]; rfl
  have q1 : lg (clS (curR s)) i 1 = cI y 0 := by rw [lg_cI hi, eq]; rfl
  have hxs := (cur_mem.1 hx).1
  have hys := (cur_mem.1 hy).1
  have hhx := (has_ids f4 hxs).2 hx
  have hhy := (has_ids f4 hys).2 hy
  refine TT.sat_join (fun v => v.b 1 = true) (fun t ht => ?_) (fun t ht hR => ?_)
  · simp only [TT.sat_ret, TT.sat_ite, TT.sat_ob, TT.sat_next, TT.sat_stuck, put_i, put_b, put_d, put_fi, put_fb, put_fd, Ob.ok, B.ev, E.ev, X.ev, AL.ev, cmp_t, cmp_f, arEv, V.plain, V2.plain, S.plain, S0.plain, V.val, V2.val, S.val, S0.val, bV, iV, List.all_cons, List.all_nil, Bool.and_true, Bool.and_self, envOf_i, envOf_b, envOf_d, List.map_cons, List.map_nil, true_and, Bool.not_eq_true', Bool.not_eq_false', Bool.not_not, Bool.and_eq_true, and_f, cell_lg, cell_lb, cell_lr, cmpP, val_i, val_b, val_d, aget, Nat.reduceBEq, beq_self_eq_true, Bool.false_eq_true, if_true, if_false, Nat.reduceLT, Nat.reduceSub, Nat.sub_self, Nat.lt_irrefl, i0, i2, e0, e1, KVdd3, KVdd1, KVdb160, clr_two, ids_two, has_two, hv, q0, q1, hhx, hhy]
    exact ⟨fun _ => ⟨fun _ => ⟨fun _ => trivial, fun h => by cases h⟩, fun h => absurd hlt h⟩, fun h => by cases h⟩
  · refine TT.sat_loop (fun v => ∃ k : Nat, v.i 1 = k ∧ k ≤ s.length ∧ v.b 0 = true) (fun v => s.length - (v.i 1).toNat)
      ⟨0, by simp [val_i, aget, E.ev], by omega, by simp [val_b, aget, B.ev, put_b, hR]⟩ (fun u hu => ?_)
    obtain ⟨k, k0, k1, k2⟩ := hu
    simp only [TT.sat_ret, TT.sat_ite, TT.sat_ob, TT.sat_next, TT.sat_stuck, put_i, put_b, put_d, put_fi, put_fb, put_fd, Ob.ok, B.ev, E.ev, X.ev, AL.ev, cmp_t, cmp_f, arEv, V.plain, V2.plain, S.plain, S0.plain, V.val, V2.val, S.val, S0.val, bV, iV, List.all_cons, List.all_nil, Bool.and_true, Bool.and_self, envOf_i, envOf_b, envOf_d, List.map_cons, List.map_nil, true_and, Bool.not_eq_true', Bool.not_eq_false', Bool.not_not, Bool.and_eq_true, and_f, cell_lg, cell_lb, cell_lr, cmpP, val_i, val_b, val_d, aget, Nat.reduceBEq, beq_self_eq_true, Bool.false_eq_true, if_true, if_false, Nat.reduceLT, Nat.reduceSub, Nat.sub_self, Nat.lt_irrefl, i0, k0, k2, e0]
    refine ⟨fun hck => ⟨by omega, by omega, ?_⟩, fun hck => ?_⟩
    · have hk : k < s.length := by omega
      refine TT.sat_loop (fun v => ∃ j : Nat, v.i 0 = j ∧ j ≤ s.length ∧ v.b 1 = true) (fun v => s.length - (v.i 0).toNat)
        ⟨0, by simp [val_i, aget, E.ev], by omega, by simp [val_b, aget, B.ev, put_b, k2]⟩ (fun z hz => ?_)
      obtain ⟨j, j0, j1, j2⟩ := hz
      simp only [TT.sat_ret, TT.sat_ite, TT.sat_ob, TT.sat_next, TT.sat_stuck, put_i, put_b, put_d, put_fi, put_fb, put_fd, Ob.ok, B.ev, E.ev, X.ev, AL.ev, cmp_t, cmp_f, arEv, V.plain, V2.plain, S.plain, S0.plain, V.val, V2.val, S.val, S0.val, bV, iV, List.all_cons, List.all_nil, Bool.and_true, Bool.and_self, envOf_i, envOf_b, envOf_d, List.map_cons, List.map_nil, true_and, Bool.not_eq_true', Bool.not_eq_false', Bool.not_not, Bool.and_eq_true, and_f, cell_lg, cell_lb, cell_lr, cmpP, val_i, val_b, val_d, aget, Nat.reduceBEq, beq_self_eq_true, Bool.false_eq_true, if_true, if_false, Nat.reduceLT, Nat.reduceSub, Nat.sub_self, Nat.lt_irrefl, i0, k0, k2, j0, j2, e0, e1, e2, e3, e4, KVdd3, clr_two, hv, q0, q1, KVdi119, KVdb120, KVdb78, KVdi78, KVdb170, alw_five]
      refine ⟨fun hcj => ?_, fun hcj => ?_⟩
      · have hj : j < s.length := by omega
        have hw1 : IntKind.i64.wrap ((j : Int) + 1) = ((j + 1 : Nat) : Int) := by rw [wrap_in _ (by omega) (by omega)]; rfl
        have hm : s.length - (((j + 1 : Nat) : Int)).toNat < s.length - (j : Int).toNat := by omega
        simp only [hw1, lg_cI hk, lg_cI hj]
        have GOOD : (∃ j_1 : Nat, ((j + 1 : Nat) : Int) = j_1 ∧ j_1 ≤ s.length ∧ True) ∧ s.length - (((j + 1 : Nat) : Int)).toNat < s.length - (j : Int).toNat := ⟨⟨j + 1, rfl, by omega, trivial⟩, hm⟩
        refine ⟨by omega, by omega, fun _ => GOOD, fun ex => ⟨fun _ => GOOD, fun ey => ?_⟩⟩
        have ex : s[k] = x := ris_inj f4 (List.getElem_mem hk) hxs (Decidable.not_not.mp ex)
        have ey : s[j] = y := ris_inj f4 (List.getElem_mem hj) hys (Decidable.not_not.mp ey)
        have hTo : feToR [.i (cI x 0), .i 1, .i (cI x 1), .i (cI x 2), .i (cI x 3), .l [], .i (cI x 4), .i 0, .l [], .i (cI y 0), .i 1, .i (cI y 1), .i (cI y 2), .i (cI y 3), .l [], .i (cI y 4), .i 0, .l []] = true := by
          unfold clB at hcl
          rw [Bool.and_eq_true] at hcl
          exact hcl.2
        have hoff : covR [.i (cI x 0), .i 1, .i (cI x 1), .i (cI x 2), .i (cI x 3), .l [], .i (cI x 4), .i 0, .l [], .i px, .i py] = true → covR [.i (cI y 0), .i 1, .i (cI y 1), .i (cI y 2), .i (cI y 3), .l [], .i (cI y 4), .i 0, .l [], .i px, .i py] = true → alwS s F px py d = false := fun a b =>
          clash_off hx hy hcl a b (snd_feat (hsnd x hxs)).2.1.1 (snd_feat (hsnd y hys)).2.1.1
        simp only [ex, ey, fe_snd (hsnd x hxs) (hsnd y hys), hTo]
        generalize covR [.i (cI x 0), .i 1, .i (cI x 1), .i (cI x 2), .i (cI x 3), .l [], .i (cI x 4), .i 0, .l [], .i px, .i py] = A at *
        generalize covR [.i (cI y 0), .i 1, .i (cI y 1), .i (cI y 2), .i (cI y 3), .l [], .i (cI y 4), .i 0, .l [], .i px, .i py] = B at *
        generalize covE _ = A1 at *
        (repeat' (first | refine ⟨fun _ => ?_, fun _ => ?_⟩ | intro _))
        all_goals first
          | contradiction
          | exact GOOD
          | (exfalso; omega)
          | skip
        rename_i hA hB
        refine ⟨⟨j + 1, rfl, by omega, fun h => ?_⟩, hm⟩
        rw [hoff (by assumption) (by assumption)] at h
        exact absurd h.2.2 (by decide)
      · have hj : j = s.length := by omega
        rw [if_neg (by decide), wrap_in ((k : Int) + 1) (by omega) (by omega)]
        exact ⟨⟨k + 1, rfl, by omega, trivial⟩, by omega⟩
    · rw [if_neg (by decide), if_neg (by decide), wrap_in ((i : Int) + 1) (by omega) (by omega)]
      exact ⟨⟨i + 1, rfl, by omega, trivial⟩, by omega⟩
end Go.Proofs.YtldbejmgalhdaaaGreat
