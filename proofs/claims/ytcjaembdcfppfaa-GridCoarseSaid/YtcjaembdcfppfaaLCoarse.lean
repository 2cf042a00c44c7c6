/- LCoarse, merged: TJ6, J6. -/
import Derived.Test.YtcjaembdcfppfaaNM
import Derived.Test.YtcjaembdcfppfaaNJ
set_option linter.unusedSimpArgs false
set_option linter.unusedVariables false
/- Chapter 11: the tree of the law GridCoarse. -/
namespace Go.Proofs.Ytcjaembdcfppfaa
open Go.RowKit
def trLCoarse : TT OpR :=
(.ite (.cmp .lss (.var 6) (.lit 1))
 (.ret ((.v (.one (.z (.bool (.lit true))))), [], 1))
 (.ite (.cmp .gtr (.var 6) (.lit 12))
 (.ret ((.v (.one (.z (.bool (.lit true))))), [], 1))
 (.ite (.cmp .lss (.var 4) (.lit 1))
 (.ret ((.v (.one (.z (.bool (.lit true))))), [], 1))
 (.ite (.cmp .gtr (.var 4) (.lit 12))
 (.ret ((.v (.one (.z (.bool (.lit true))))), [], 1))
 (.ite (.cmp .lss (.var 5) (.lit 1))
 (.ret ((.v (.one (.z (.bool (.lit true))))), [], 1))
 (.ite (.cmp .gtr (.var 5) (.lit 12))
 (.ret ((.v (.one (.z (.bool (.lit true))))), [], 1))
 (.ite (.cmp .leq (.len (.var 0)) (.lit 8))
 (.ite (.cmp .leq (.ar .mul .i64 (.var 4) (.var 6)) (.lit 12))
 (.ite (.not (.cmp .leq (.ar .mul .i64 (.var 5) (.var 6)) (.lit 12)))
 (.ret ((.v (.one (.z (.bool (.lit true))))), [], 1))
 (.ite (.fn 191 (.x (.var 0) (.i (.var 1) (.i (.var 2) (.i (.var 3) (.i (.ar .mul .i64 (.var 4) (.var 6)) (.i (.ar .mul .i64 (.var 5) (.var 6)) .nil)))))))
 (.ite (.fn 190 (.i (.var 1) (.i (.var 2) (.i (.var 3) (.i (.ar .mul .i64 (.var 4) (.var 6)) (.i (.ar .mul .i64 (.var 5) (.var 6)) (.x (.fn 6 (.x (.var 0) (.i (.var 1) (.i (.var 2) (.i (.var 3) (.i (.ar .mul .i64 (.var 4) (.var 6)) (.i (.ar .mul .i64 (.var 5) (.var 6)) .nil))))))) (.i (.var 6) .nil))))))))
 (.ite (.fn 191 (.x (.var 0) (.i (.var 1) (.i (.var 2) (.i (.ar .mul .i64 (.var 3) (.var 6)) (.i (.var 4) (.i (.var 5) .nil)))))))
 (.ite (.cmp .neq (.ar .mul .i64 (.var 6) (.var 3)) (.ar .mul .i64 (.var 3) (.var 6)))
 (.ret ((.v (.one (.z (.bool (.lit false))))), [], 9))
 (.ite (.cmp .neq (.ar .quo .i64 (.ar .mul .i64 (.var 4) (.var 6)) (.var 6)) (.var 4))
 (.ret ((.v (.one (.z (.bool (.lit false))))), [], 9))
 (.ite (.cmp .neq (.ar .quo .i64 (.ar .mul .i64 (.var 5) (.var 6)) (.var 6)) (.var 5))
 (.ret ((.v (.one (.z (.bool (.lit false))))), [], 9))
 (.ite (.cmp .neq (.len (.fn 5 (.i (.var 1) (.i (.var 2) (.i (.var 3) (.i (.ar .mul .i64 (.var 4) (.var 6)) (.i (.ar .mul .i64 (.var 5) (.var 6)) (.x (.fn 6 (.x (.var 0) (.i (.var 1) (.i (.var 2) (.i (.var 3) (.i (.ar .mul .i64 (.var 4) (.var 6)) (.i (.ar .mul .i64 (.var 5) (.var 6)) .nil))))))) (.i (.var 6) .nil))))))))) (.len (.fn 6 (.x (.var 0) (.i (.var 1) (.i (.var 2) (.i (.ar .mul .i64 (.var 3) (.var 6)) (.i (.var 4) (.i (.var 5) .nil)))))))))
 (.ret ((.v (.one (.z (.bool (.lit false))))), [], 9))
 (.loop 0 10000 ⟨[(0, (.lit 0))], [], []⟩
 (.ite (.cmp .lss (.var 10000) (.len (.fn 5 (.i (.var 1) (.i (.var 2) (.i (.var 3) (.i (.ar .mul .i64 (.var 4) (.var 6)) (.i (.ar .mul .i64 (.var 5) (.var 6)) (.x (.fn 6 (.x (.var 0) (.i (.var 1) (.i (.var 2) (.i (.var 3) (.i (.ar .mul .i64 (.var 4) (.var 6)) (.i (.ar .mul .i64 (.var 5) (.var 6)) .nil))))))) (.i (.var 6) .nil))))))))))
 (.ob (.tru (.cmp .leq (.lit 0) (.var 10000)))
 (.ob (.tru (.cmp .lss (.var 10000) (.len (.fn 5 (.i (.var 1) (.i (.var 2) (.i (.var 3) (.i (.ar .mul .i64 (.var 4) (.var 6)) (.i (.ar .mul .i64 (.var 5) (.var 6)) (.x (.fn 6 (.x (.var 0) (.i (.var 1) (.i (.var 2) (.i (.var 3) (.i (.ar .mul .i64 (.var 4) (.var 6)) (.i (.ar .mul .i64 (.var 5) (.var 6)) .nil))))))) (.i (.var 6) .nil)))))))))))
 (.ob (.tru (.cmp .leq (.lit 0) (.var 10000)))
 (.ob (.tru (.cmp .lss (.var 10000) (.len (.fn 6 (.x (.var 0) (.i (.var 1) (.i (.var 2) (.i (.ar .mul .i64 (.var 3) (.var 6)) (.i (.var 4) (.i (.var 5) .nil))))))))))
 (.ite (.cmp .neq (.rd (.fn 5 (.i (.var 1) (.i (.var 2) (.i (.var 3) (.i (.ar .mul .i64 (.var 4) (.var 6)) (.i (.ar .mul .i64 (.var 5) (.var 6)) (.x (.fn 6 (.x (.var 0) (.i (.var 1) (.i (.var 2) (.i (.var 3) (.i (.ar .mul .i64 (.var 4) (.var 6)) (.i (.ar .mul .i64 (.var 5) (.var 6)) .nil))))))) (.i (.var 6) .nil)))))))) (.var 10000) 0) (.rd (.fn 6 (.x (.var 0) (.i (.var 1) (.i (.var 2) (.i (.ar .mul .i64 (.var 3) (.var 6)) (.i (.var 4) (.i (.var 5) .nil))))))) (.var 10000) 0))
 (.ret ((.v (.one (.z (.bool (.lit false))))), [], 10))
 (.next 0 ⟨[(0, (.ar .add .i64 (.var 10000) (.lit 1)))], [], []⟩))))))
 (.ret ((.v (.one (.z (.bool (.lit true))))), [], 10))))))))
 (.ret ((.v (.one (.z (.bool (.lit false))))), [], 7)))
 (.ite (.fn 191 (.x (.var 0) (.i (.var 1) (.i (.var 2) (.i (.ar .mul .i64 (.var 3) (.var 6)) (.i (.var 4) (.i (.var 5) .nil)))))))
 (.ret ((.v (.one (.z (.bool (.lit false))))), [], 7))
 (.ite (.cmp .gtr (.ar .mul .i64 (.var 3) (.var 6)) (.lit 100000))
 (.ite (.cmp .neq (.len (.fn 5 (.i (.var 1) (.i (.var 2) (.i (.var 3) (.i (.ar .mul .i64 (.var 4) (.var 6)) (.i (.ar .mul .i64 (.var 5) (.var 6)) (.x (.fn 6 (.x (.var 0) (.i (.var 1) (.i (.var 2) (.i (.var 3) (.i (.ar .mul .i64 (.var 4) (.var 6)) (.i (.ar .mul .i64 (.var 5) (.var 6)) .nil))))))) (.i (.var 6) .nil))))))))) (.len (.fn 6 (.x (.var 0) (.i (.var 1) (.i (.var 2) (.i (.ar .mul .i64 (.var 3) (.var 6)) (.i (.var 4) (.i (.var 5) .nil)))))))))
 (.ret ((.v (.one (.z (.bool (.lit false))))), [], 9))
 (.loop 0 10000 ⟨[(0, (.lit 0))], [], []⟩
 (.ite (.cmp .lss (.var 10000) (.len (.fn 5 (.i (.var 1) (.i (.var 2) (.i (.var 3) (.i (.ar .mul .i64 (.var 4) (.var 6)) (.i (.ar .mul .i64 (.var 5) (.var 6)) (.x (.fn 6 (.x (.var 0) (.i (.var 1) (.i (.var 2) (.i (.var 3) (.i (.ar .mul .i64 (.var 4) (.var 6)) (.i (.ar .mul .i64 (.var 5) (.var 6)) .nil))))))) (.i (.var 6) .nil))))))))))
 (.ob (.tru (.cmp .leq (.lit 0) (.var 10000)))
 (.ob (.tru (.cmp .lss (.var 10000) (.len (.fn 5 (.i (.var 1) (.i (.var 2) (.i (.var 3) (.i (.ar .mul .i64 (.var 4) (.var 6)) (.i (.ar .mul .i64 (.var 5) (.var 6)) (.x (.fn 6 (.x (.var 0) (.i (.var 1) (.i (.var 2) (.i (.var 3) (.i (.ar .mul .i64 (.var 4) (.var 6)) (.i (.ar .mul .i64 (.var 5) (.var 6)) .nil))))))) (.i (.var 6) .nil)))))))))))
 (.ob (.tru (.cmp .leq (.lit 0) (.var 10000)))
 (.ob (.tru (.cmp .lss (.var 10000) (.len (.fn 6 (.x (.var 0) (.i (.var 1) (.i (.var 2) (.i (.ar .mul .i64 (.var 3) (.var 6)) (.i (.var 4) (.i (.var 5) .nil))))))))))
 (.ite (.cmp .neq (.rd (.fn 5 (.i (.var 1) (.i (.var 2) (.i (.var 3) (.i (.ar .mul .i64 (.var 4) (.var 6)) (.i (.ar .mul .i64 (.var 5) (.var 6)) (.x (.fn 6 (.x (.var 0) (.i (.var 1) (.i (.var 2) (.i (.var 3) (.i (.ar .mul .i64 (.var 4) (.var 6)) (.i (.ar .mul .i64 (.var 5) (.var 6)) .nil))))))) (.i (.var 6) .nil)))))))) (.var 10000) 0) (.rd (.fn 6 (.x (.var 0) (.i (.var 1) (.i (.var 2) (.i (.ar .mul .i64 (.var 3) (.var 6)) (.i (.var 4) (.i (.var 5) .nil))))))) (.var 10000) 0))
 (.ret ((.v (.one (.z (.bool (.lit false))))), [], 10))
 (.next 0 ⟨[(0, (.ar .add .i64 (.var 10000) (.lit 1)))], [], []⟩))))))
 (.ret ((.v (.one (.z (.bool (.lit true))))), [], 10)))))
 (.ret ((.v (.one (.z (.bool (.lit false))))), [], 7)))))
 (.ret ((.v (.one (.z (.bool (.lit true))))), [], 3))))
 (.ret ((.v (.one (.z (.bool (.lit true))))), [], 1)))
 (.ret ((.v (.one (.z (.bool (.lit true))))), [], 1)))))))))
def trLCoarse_h : List (Nat × St) := [
(9, ⟨(List.append [(.v (.agg [(.z (.int .i64 (.var 1))), (.z (.int .i64 (.var 2))), (.z (.int .i64 (.ar .mul .i64 (.var 6) (.var 3)))), (.z (.int .i64 (.ar .quo .i64 (.ar .mul .i64 (.var 4) (.var 6)) (.var 6)))), (.z (.int .i64 (.ar .quo .i64 (.ar .mul .i64 (.var 5) (.var 6)) (.var 6)))), (.z (.own 3 (.lit 0)))])), (.v (.agg [(.z (.int .i64 (.var 1))), (.z (.int .i64 (.var 2))), (.z (.int .i64 (.ar .mul .i64 (.var 3) (.var 6)))), (.z (.int .i64 (.var 4))), (.z (.int .i64 (.var 5))), (.z (.own 5 (.lit 0)))])), (.v (.one (.z (.ptr 7 0)))), (.v (.one (.z (.ptr 8 0)))), (.v (.one (.z (.bool (.lit false))))), (.v (.one (.z (.int .i64 (.var 10000))))), (.v (.one (.z (.ptr 7 0)))), (.v (.agg [(.z (.int .i64 (.var 1))), (.z (.int .i64 (.var 2)))])), (.v (.one (.z (.ptr 8 0)))), (.v (.agg [(.z (.int .i64 (.var 1))), (.z (.int .i64 (.var 2)))])), (.v (.one (.z (.bool (.lit false))))), (.v (.one (.z (.bool (.lit false))))), (.v (.one (.z (.ptr 7 2)))), (.v (.one (.z (.int .i64 (.ar .mul .i64 (.var 6) (.var 3)))))), (.v (.one (.z (.ptr 8 2)))), (.v (.one (.z (.int .i64 (.ar .mul .i64 (.var 3) (.var 6)))))), (.v (.one (.z (.bool (.cmp .neq (.ar .mul .i64 (.var 6) (.var 3)) (.ar .mul .i64 (.var 3) (.var 6))))))), (.v (.one (.z (.bool (.cmp .neq (.ar .mul .i64 (.var 6) (.var 3)) (.ar .mul .i64 (.var 3) (.var 6))))))), (.v (.one (.z (.bool (.lit false))))), (.v (.one (.z (.ptr 7 3)))), (.v (.one (.z (.int .i64 (.ar .quo .i64 (.ar .mul .i64 (.var 4) (.var 6)) (.var 6)))))), (.v (.one (.z (.ptr 8 3)))), (.v (.one (.z (.int .i64 (.var 4))))), (.v (.one (.z (.bool (.cmp .neq (.ar .quo .i64 (.ar .mul .i64 (.var 4) (.var 6)) (.var 6)) (.var 4)))))), (.v (.one (.z (.bool (.cmp .neq (.ar .quo .i64 (.ar .mul .i64 (.var 4) (.var 6)) (.var 6)) (.var 4)))))), (.v (.one (.z (.bool (.lit false))))), (.v (.one (.z (.ptr 7 4)))), (.v (.one (.z (.int .i64 (.ar .quo .i64 (.ar .mul .i64 (.var 5) (.var 6)) (.var 6)))))), (.v (.one (.z (.ptr 8 4)))), (.v (.one (.z (.int .i64 (.var 5))))), (.v (.one (.z (.bool (.cmp .neq (.ar .quo .i64 (.ar .mul .i64 (.var 5) (.var 6)) (.var 6)) (.var 5)))))), (.v (.one (.z (.bool (.cmp .neq (.ar .quo .i64 (.ar .mul .i64 (.var 5) (.var 6)) (.var 6)) (.var 5)))))), (.v (.one (.z (.bool (.lit false))))), (.v (.one (.z (.ptr 7 5)))), (.v (.one (.z (.own 3 (.lit 0))))), (.v (.one (.z (.int .i64 (.len (.fn 5 (.i (.var 1) (.i (.var 2) (.i (.var 3) (.i (.ar .mul .i64 (.var 4) (.var 6)) (.i (.ar .mul .i64 (.var 5) (.var 6)) (.x (.fn 6 (.x (.var 0) (.i (.var 1) (.i (.var 2) (.i (.var 3) (.i (.ar .mul .i64 (.var 4) (.var 6)) (.i (.ar .mul .i64 (.var 5) (.var 6)) .nil))))))) (.i (.var 6) .nil))))))))))))), (.v (.one (.z (.ptr 8 5)))), (.v (.one (.z (.own 5 (.lit 0))))), (.v (.one (.z (.int .i64 (.len (.fn 6 (.x (.var 0) (.i (.var 1) (.i (.var 2) (.i (.ar .mul .i64 (.var 3) (.var 6)) (.i (.var 4) (.i (.var 5) .nil)))))))))))), (.v (.one (.z (.bool (.cmp .neq (.len (.fn 5 (.i (.var 1) (.i (.var 2) (.i (.var 3) (.i (.ar .mul .i64 (.var 4) (.var 6)) (.i (.ar .mul .i64 (.var 5) (.var 6)) (.x (.fn 6 (.x (.var 0) (.i (.var 1) (.i (.var 2) (.i (.var 3) (.i (.ar .mul .i64 (.var 4) (.var 6)) (.i (.ar .mul .i64 (.var 5) (.var 6)) .nil))))))) (.i (.var 6) .nil))))))))) (.len (.fn 6 (.x (.var 0) (.i (.var 1) (.i (.var 2) (.i (.ar .mul .i64 (.var 3) (.var 6)) (.i (.var 4) (.i (.var 5) .nil))))))))))))), (.v (.one (.z (.bool (.cmp .neq (.len (.fn 5 (.i (.var 1) (.i (.var 2) (.i (.var 3) (.i (.ar .mul .i64 (.var 4) (.var 6)) (.i (.ar .mul .i64 (.var 5) (.var 6)) (.x (.fn 6 (.x (.var 0) (.i (.var 1) (.i (.var 2) (.i (.var 3) (.i (.ar .mul .i64 (.var 4) (.var 6)) (.i (.ar .mul .i64 (.var 5) (.var 6)) .nil))))))) (.i (.var 6) .nil))))))))) (.len (.fn 6 (.x (.var 0) (.i (.var 1) (.i (.var 2) (.i (.ar .mul .i64 (.var 3) (.var 6)) (.i (.var 4) (.i (.var 5) .nil)))))))))))))] (List.replicate 18 V.any)), [(8, (.cells 26 [(.z (.int .i64 (.var 1))), (.z (.int .i64 (.var 2))), (.z (.int .i64 (.ar .mul .i64 (.var 3) (.var 6)))), (.z (.int .i64 (.var 4))), (.z (.int .i64 (.var 5))), (.z (.own 5 (.lit 0)))])), (7, (.cells 26 [(.z (.int .i64 (.var 1))), (.z (.int .i64 (.var 2))), (.z (.int .i64 (.ar .mul .i64 (.var 6) (.var 3)))), (.z (.int .i64 (.ar .quo .i64 (.ar .mul .i64 (.var 4) (.var 6)) (.var 6)))), (.z (.int .i64 (.ar .quo .i64 (.ar .mul .i64 (.var 5) (.var 6)) (.var 6)))), (.z (.own 3 (.lit 0)))])), (6, (.cells 26 [(.z (.int .i64 (.var 1))), (.z (.int .i64 (.var 2))), (.z (.int .i64 (.ar .mul .i64 (.var 3) (.var 6)))), (.z (.int .i64 (.var 4))), (.z (.int .i64 (.var 5))), (.z (.own 5 (.lit 0)))])), (5, (.own 3 [(.int .i64)] (.fn 6 (.x (.var 0) (.i (.var 1) (.i (.var 2) (.i (.ar .mul .i64 (.var 3) (.var 6)) (.i (.var 4) (.i (.var 5) .nil))))))) (.lit 0))), (4, (.cells 26 [(.z (.int .i64 (.var 1))), (.z (.int .i64 (.var 2))), (.z (.int .i64 (.ar .mul .i64 (.var 6) (.var 3)))), (.z (.int .i64 (.ar .quo .i64 (.ar .mul .i64 (.var 4) (.var 6)) (.var 6)))), (.z (.int .i64 (.ar .quo .i64 (.ar .mul .i64 (.var 5) (.var 6)) (.var 6)))), (.z (.own 3 (.lit 0)))])), (3, (.own 3 [(.int .i64)] (.fn 5 (.i (.var 1) (.i (.var 2) (.i (.var 3) (.i (.ar .mul .i64 (.var 4) (.var 6)) (.i (.ar .mul .i64 (.var 5) (.var 6)) (.x (.fn 6 (.x (.var 0) (.i (.var 1) (.i (.var 2) (.i (.var 3) (.i (.ar .mul .i64 (.var 4) (.var 6)) (.i (.ar .mul .i64 (.var 5) (.var 6)) .nil))))))) (.i (.var 6) .nil)))))))) (.lit 0))), (2, (.cells 26 [(.z (.int .i64 (.var 1))), (.z (.int .i64 (.var 2))), (.z (.int .i64 (.var 3))), (.z (.int .i64 (.ar .mul .i64 (.var 4) (.var 6)))), (.z (.int .i64 (.ar .mul .i64 (.var 5) (.var 6)))), (.z (.own 1 (.lit 0)))])), (1, (.own 3 [(.int .i64)] (.fn 6 (.x (.var 0) (.i (.var 1) (.i (.var 2) (.i (.var 3) (.i (.ar .mul .i64 (.var 4) (.var 6)) (.i (.ar .mul .i64 (.var 5) (.var 6)) .nil))))))) (.lit 0))), (0, (.cells 23 [(.z (.int .i64 (.var 1))), (.z (.int .i64 (.var 2)))]))], 10, []⟩),
(9, ⟨(List.append [(.v (.agg [(.z (.int .i64 (.lit 0))), (.z (.int .i64 (.lit 0))), (.z (.int .i64 (.lit 0))), (.z (.int .i64 (.lit 0))), (.z (.int .i64 (.lit 0))), (.z (.own 3 (.lit 0)))])), (.v (.agg [(.z (.int .i64 (.lit 0))), (.z (.int .i64 (.lit 0))), (.z (.int .i64 (.lit 0))), (.z (.int .i64 (.lit 0))), (.z (.int .i64 (.lit 0))), (.z (.own 5 (.lit 0)))])), (.v (.one (.z (.ptr 7 0)))), (.v (.one (.z (.ptr 8 0)))), (.v (.one (.z (.bool (.lit false))))), (.v (.one (.z (.int .i64 (.var 10000))))), (.v (.one (.z (.ptr 7 0)))), (.v (.agg [(.z (.int .i64 (.lit 0))), (.z (.int .i64 (.lit 0)))])), (.v (.one (.z (.ptr 8 0)))), (.v (.agg [(.z (.int .i64 (.lit 0))), (.z (.int .i64 (.lit 0)))])), (.v (.one (.z (.bool (.lit false))))), (.v (.one (.z (.bool (.lit false))))), (.v (.one (.z (.ptr 7 2)))), (.v (.one (.z (.int .i64 (.lit 0))))), (.v (.one (.z (.ptr 8 2)))), (.v (.one (.z (.int .i64 (.lit 0))))), (.v (.one (.z (.bool (.lit false))))), (.v (.one (.z (.bool (.lit false))))), (.v (.one (.z (.bool (.lit false))))), (.v (.one (.z (.ptr 7 3)))), (.v (.one (.z (.int .i64 (.lit 0))))), (.v (.one (.z (.ptr 8 3)))), (.v (.one (.z (.int .i64 (.lit 0))))), (.v (.one (.z (.bool (.lit false))))), (.v (.one (.z (.bool (.lit false))))), (.v (.one (.z (.bool (.lit false))))), (.v (.one (.z (.ptr 7 4)))), (.v (.one (.z (.int .i64 (.lit 0))))), (.v (.one (.z (.ptr 8 4)))), (.v (.one (.z (.int .i64 (.lit 0))))), (.v (.one (.z (.bool (.lit false))))), (.v (.one (.z (.bool (.lit false))))), (.v (.one (.z (.bool (.lit false))))), (.v (.one (.z (.ptr 7 5)))), (.v (.one (.z (.own 3 (.lit 0))))), (.v (.one (.z (.int .i64 (.len (.fn 5 (.i (.var 1) (.i (.var 2) (.i (.var 3) (.i (.ar .mul .i64 (.var 4) (.var 6)) (.i (.ar .mul .i64 (.var 5) (.var 6)) (.x (.fn 6 (.x (.var 0) (.i (.var 1) (.i (.var 2) (.i (.var 3) (.i (.ar .mul .i64 (.var 4) (.var 6)) (.i (.ar .mul .i64 (.var 5) (.var 6)) .nil))))))) (.i (.var 6) .nil))))))))))))), (.v (.one (.z (.ptr 8 5)))), (.v (.one (.z (.own 5 (.lit 0))))), (.v (.one (.z (.int .i64 (.len (.fn 6 (.x (.var 0) (.i (.var 1) (.i (.var 2) (.i (.ar .mul .i64 (.var 3) (.var 6)) (.i (.var 4) (.i (.var 5) .nil)))))))))))), (.v (.one (.z (.bool (.cmp .neq (.len (.fn 5 (.i (.var 1) (.i (.var 2) (.i (.var 3) (.i (.ar .mul .i64 (.var 4) (.var 6)) (.i (.ar .mul .i64 (.var 5) (.var 6)) (.x (.fn 6 (.x (.var 0) (.i (.var 1) (.i (.var 2) (.i (.var 3) (.i (.ar .mul .i64 (.var 4) (.var 6)) (.i (.ar .mul .i64 (.var 5) (.var 6)) .nil))))))) (.i (.var 6) .nil))))))))) (.len (.fn 6 (.x (.var 0) (.i (.var 1) (.i (.var 2) (.i (.ar .mul .i64 (.var 3) (.var 6)) (.i (.var 4) (.i (.var 5) .nil))))))))))))), (.v (.one (.z (.bool (.cmp .neq (.len (.fn 5 (.i (.var 1) (.i (.var 2) (.i (.var 3) (.i (.ar .mul .i64 (.var 4) (.var 6)) (.i (.ar .mul .i64 (.var 5) (.var 6)) (.x (.fn 6 (.x (.var 0) (.i (.var 1) (.i (.var 2) (.i (.var 3) (.i (.ar .mul .i64 (.var 4) (.var 6)) (.i (.ar .mul .i64 (.var 5) (.var 6)) .nil))))))) (.i (.var 6) .nil))))))))) (.len (.fn 6 (.x (.var 0) (.i (.var 1) (.i (.var 2) (.i (.ar .mul .i64 (.var 3) (.var 6)) (.i (.var 4) (.i (.var 5) .nil)))))))))))))] (List.replicate 18 V.any)), [(8, (.cells 26 [(.z (.int .i64 (.lit 0))), (.z (.int .i64 (.lit 0))), (.z (.int .i64 (.lit 0))), (.z (.int .i64 (.lit 0))), (.z (.int .i64 (.lit 0))), (.z (.own 5 (.lit 0)))])), (7, (.cells 26 [(.z (.int .i64 (.lit 0))), (.z (.int .i64 (.lit 0))), (.z (.int .i64 (.lit 0))), (.z (.int .i64 (.lit 0))), (.z (.int .i64 (.lit 0))), (.z (.own 3 (.lit 0)))])), (6, (.cells 26 [(.z (.int .i64 (.lit 0))), (.z (.int .i64 (.lit 0))), (.z (.int .i64 (.lit 0))), (.z (.int .i64 (.lit 0))), (.z (.int .i64 (.lit 0))), (.z (.own 5 (.lit 0)))])), (5, (.own 3 [(.int .i64)] (.fn 6 (.x (.var 0) (.i (.var 1) (.i (.var 2) (.i (.ar .mul .i64 (.var 3) (.var 6)) (.i (.var 4) (.i (.var 5) .nil))))))) (.lit 0))), (4, (.cells 26 [(.z (.int .i64 (.lit 0))), (.z (.int .i64 (.lit 0))), (.z (.int .i64 (.lit 0))), (.z (.int .i64 (.lit 0))), (.z (.int .i64 (.lit 0))), (.z (.own 3 (.lit 0)))])), (3, (.own 3 [(.int .i64)] (.fn 5 (.i (.var 1) (.i (.var 2) (.i (.var 3) (.i (.ar .mul .i64 (.var 4) (.var 6)) (.i (.ar .mul .i64 (.var 5) (.var 6)) (.x (.fn 6 (.x (.var 0) (.i (.var 1) (.i (.var 2) (.i (.var 3) (.i (.ar .mul .i64 (.var 4) (.var 6)) (.i (.ar .mul .i64 (.var 5) (.var 6)) .nil))))))) (.i (.var 6) .nil)))))))) (.lit 0))), (2, (.cells 26 [(.z (.int .i64 (.var 1))), (.z (.int .i64 (.var 2))), (.z (.int .i64 (.var 3))), (.z (.int .i64 (.ar .mul .i64 (.var 4) (.var 6)))), (.z (.int .i64 (.ar .mul .i64 (.var 5) (.var 6)))), (.z (.own 1 (.lit 0)))])), (1, (.own 3 [(.int .i64)] (.fn 6 (.x (.var 0) (.i (.var 1) (.i (.var 2) (.i (.var 3) (.i (.ar .mul .i64 (.var 4) (.var 6)) (.i (.ar .mul .i64 (.var 5) (.var 6)) .nil))))))) (.lit 0))), (0, (.cells 23 [(.z (.int .i64 (.var 1))), (.z (.int .i64 (.var 2)))]))], 10, []⟩)]
def trLCoarse_j : List (FuncId × Nat × Nat × St) := [
]
set_option maxRecDepth 100000 in
theorem trLCoarse_is : T.norm 0 (call Try.prog ctGg ⟨Lt.un (Lt.of []), trLCoarse_h, trLCoarse_j⟩ 200 6 (symArgs 0 [feats, pt, it, it, it, it]) [] 0) TT.ret = trLCoarse := by kernel_rfl
theorem trLCoarse_low : trLCoarse.low 1000 = true := by kernel_rfl
end Go.Proofs.Ytcjaembdcfppfaa
/- Chapter 11: the law GridCoarse. -/
namespace Go.Proofs.Ytcjaembdcfppfaa
open Go.RowKit
theorem cl_mkR (x y s w h : Int) (r : Rows) : mkR [.l r, .i x, .i y, .i s, .i w, .i h] = if mkO [.l r, .i x, .i y, .i s, .i w, .i h] = true then rowsI (mkL r x y s w.toNat (w.toNat * h.toNat)) else [] := rfl
theorem cl_mkO (x y s w h : Int) (r : Rows) : mkO [.l r, .i x, .i y, .i s, .i w, .i h] = (decide (frP x y s w h) && listB r) := rfl
theorem cl_coR (x y s w h k : Int) (r : Rows) : coR [.i x, .i y, .i s, .i w, .i h, .l r, .i k] = if coO [.i x, .i y, .i s, .i w, .i h, .l r, .i k] = true then rowsI (coN w.toNat h.toNat k.toNat (cellsI r) (w.toNat * h.toNat)) else [] := rfl
theorem KGgb190 (W : World) (ds l : List D) : (envOf KGg W ds).fb 190 l = coO l := by simp only [envOf, KGg]
theorem KGgb191 (W : World) (ds l : List D) : (envOf KGg W ds).fb 191 l = mkO l := by simp only [envOf, KGg]
theorem KGgd5 (W : World) (ds l : List D) : (envOf KGg W ds).fd 5 l = coR l := by simp only [envOf, KGg]
theorem KGgd6 (W : World) (ds l : List D) : (envOf KGg W ds).fd 6 l = mkR l := by simp only [envOf, KGg]
set_option maxRecDepth 100000 in
set_option maxHeartbeats 8000000 in
theorem gCoarseLaw : Gives Try.prog 6 [feats, pt, it, it, it, it] (fun _ => .bool true) := by
  refine GivesIf.all (fn_gives KGg (by kernel_rfl) (fun ρ h => ctGg_ok (Sees.of h 200) (SeesD.of h 7)) (by kernel_rfl) trLCoarse_is trLCoarse_low (by decide) (fun W0 vals ds hr _ => ?_))
  clear hr
  simp only [trLCoarse, TT.sat_ret, TT.sat_ite, TT.sat_ob, TT.sat_next, TT.sat_stuck, put_i, put_b, put_d, put_fi, put_fb, put_fd, Ob.ok, B.ev, E.ev, X.ev, AL.ev, cmp_t, cmp_f, arEv, V.plain, V2.plain, S.plain, S0.plain, V.val, V2.val, S.val, S0.val, bV, iV, List.all_cons, List.all_nil, Bool.and_true, Bool.and_self, envOf_i, envOf_b, envOf_d, List.map_cons, List.map_nil, true_and, Bool.not_eq_true', Bool.not_eq_false', Bool.not_not, Bool.and_eq_true, and_f, cell_lg, cell_lb, cell_lr, cmpP, val_i, val_b, val_d, aget, Nat.reduceBEq, beq_self_eq_true, Bool.false_eq_true, if_true, if_false, Nat.reduceLT, Nat.reduceSub, Nat.sub_self, Nat.lt_irrefl, KGgb190, KGgb191, KGgd5, KGgd6]
  generalize e0 : rAt ds 0 = r at *
  generalize e1 : iAt ds 1 = x at *
  generalize e2 : iAt ds 2 = y at *
  generalize e3 : iAt ds 3 = s at *
  generalize e4 : iAt ds 4 = w at *
  generalize e5 : iAt ds 5 = h at *
  generalize e6 : iAt ds 6 = k at *
  refine ⟨fun _ => trivial, fun k1 => ⟨fun _ => trivial, fun k2 => ⟨fun _ => trivial, fun k3 => ⟨fun _ => trivial, fun k4 => ⟨fun _ => trivial, fun k5 => ⟨fun _ => trivial, fun k6 => ⟨fun k7 => ?_, fun _ => trivial⟩⟩⟩⟩⟩⟩⟩
  obtain ⟨k, rfl⟩ := Int.eq_ofNat_of_zero_le (a := k) (by omega)
  obtain ⟨w, rfl⟩ := Int.eq_ofNat_of_zero_le (a := w) (by omega)
  obtain ⟨h, rfl⟩ := Int.eq_ofNat_of_zero_le (a := h) (by omega)
  have hk : 0 < k := by omega
  have hw : 0 < w := by omega
  have hh : 0 < h := by omega
  have wk : w * k ≤ 12 * 12 := Nat.mul_le_mul (by omega) (by omega)
  have hk2 : h * k ≤ 12 * 12 := Nat.mul_le_mul (by omega) (by omega)
  have w1 : IntKind.i64.wrap ((w : Int) * (k : Int)) = ((w * k : Nat) : Int) := by rw [← Int.natCast_mul]; exact wrap_nat (by omega)
  have w2 : IntKind.i64.wrap ((h : Int) * (k : Int)) = ((h * k : Nat) : Int) := by rw [← Int.natCast_mul]; exact wrap_nat (by omega)
  have d1 : IntKind.i64.wrap (((w * k : Nat) : Int).tdiv (k : Int)) = (w : Int) := by
    have : ((w * k : Nat) : Int).tdiv (k : Int) = ((w * k / k : Nat) : Int) := rfl
    rw [this, Nat.mul_div_cancel w hk]; exact wrap_nat (by omega)
  have d2 : IntKind.i64.wrap (((h * k : Nat) : Int).tdiv (k : Int)) = (h : Int) := by
    have : ((h * k : Nat) : Int).tdiv (k : Int) = ((h * k / k : Nat) : Int) := rfl
    rw [this, Nat.mul_div_cancel h hk]; exact wrap_nat (by omega)
  simp only [w1, w2, d1, d2]
  refine ⟨fun k8 => ⟨fun _ => trivial, fun k9 => ?_⟩, fun _ => trivial⟩
  by_cases M1 : mkO [.l r, .i x, .i y, .i s, .i ((w * k : Nat) : Int), .i ((h * k : Nat) : Int)] = true
  · have hf := M1
    rw [cl_mkO] at hf
    obtain ⟨hfr, hlb⟩ := Bool.and_eq_true_iff.1 hf
    have hfr := of_decide_eq_true hfr
    have hfr' := hfr
    unfold frP at hfr'
    have R1 := cl_mkR x y s ((w * k : Nat) : Int) ((h * k : Nat) : Int) r
    rw [if_pos M1] at R1
    simp only [Int.toNat_natCast] at R1
    have p1 := prod_in (a := (k : Int)) (b := s) (m := 12) (n := 100000) (by omega) (by omega) (by omega) (by omega)
    have w3 : IntKind.i64.wrap ((k : Int) * s) = (k : Int) * s := wrap_in _ (by omega) (by omega)
    have w4 : IntKind.i64.wrap (s * (k : Int)) = (k : Int) * s := by rw [Int.mul_comm]; exact w3
    have G1 := mkL_len r x y s (w * k) (w * k * (h * k))
    obtain ⟨_, hrow, _⟩ := mo_spec hlb
    have hdep : ∀ f, f < r.length → 0 ≤ lg r f 6 ∧ lg r f 6 ≤ 100000 := fun f hf => (featB_iff.mp (hrow f hf)).2.2.1
    have hD : ∀ c, c < w * k * (h * k) → 0 ≤ Grid.at_ (mkL r x y s (w * k) (w * k * (h * k))) c ∧ Grid.at_ (mkL r x y s (w * k) (w * k * (h * k))) c ≤ 100000 := fun c hc => by
      rw [at_mkL hc]
      obtain ⟨p1, _, p3⟩ := mkD_spec (r := r) (rectR (cX x s (w * k) c) (cY y s (w * k) c) s) r.length
      refine ⟨?_, p1⟩
      rcases p3 with p3 | ⟨f, f1, _, f3⟩
      · omega
      · rw [f3]; exact (hdep f f1).1
    have hgv : gvB x y s ((w * k : Nat) : Int) ((h * k : Nat) : Int) (rowsI (mkL r x y s (w * k) (w * k * (h * k)))) = true :=
      gv_rowsI hfr (by rw [G1, Int.natCast_mul]) (fun c hc => hD c (by rw [G1] at hc; exact hc))
    have t1 : ((w * k : Nat) : Int).tmod (k : Int) = 0 := by
      have : ((w * k : Nat) : Int).tmod (k : Int) = ((w * k % k : Nat) : Int) := rfl
      rw [this, Nat.mul_mod_left]; rfl
    have t2 : ((h * k : Nat) : Int).tmod (k : Int) = 0 := by
      have : ((h * k : Nat) : Int).tmod (k : Int) = ((h * k % k : Nat) : Int) := rfl
      rw [this, Nat.mul_mod_left]; rfl
    have pw : (w : Int) * ((k : Int) * s) = ((w * k : Nat) : Int) * s := by rw [← Int.mul_assoc, ← Int.natCast_mul]
    have ph : (h : Int) * ((k : Int) * s) = ((h * k : Nat) : Int) * s := by rw [← Int.mul_assoc, ← Int.natCast_mul]
    have C0 := coO_eq x y s ((w * k : Nat) : Int) ((h * k : Nat) : Int) k (rowsI (mkL r x y s (w * k) (w * k * (h * k))))
    have M0 := cl_mkO x y ((k : Int) * s) w h r
    have hfr2 : (k : Int) * s ≤ 100000 → frP x y ((k : Int) * s) w h := fun q => by
      unfold frP
      rw [pw, ph]
      omega
    have hB : (k : Int) * s ≤ 100000 → ∀ i, i < w * h → boxB (cX x ((k : Int) * s) w i) (cX x ((k : Int) * s) w i + (k : Int) * s) (cY y ((k : Int) * s) w i) (cY y ((k : Int) * s) w i + (k : Int) * s) = true := fun q i hi => by
      have r1 : i % w < w := Nat.mod_lt _ hw
      have r2 : i / w < h := by rw [Nat.div_lt_iff_lt_mul hw, Nat.mul_comm h w]; exact hi
      obtain ⟨s1, s2⟩ := step_in (s := (k : Int) * s) (by omega) r1
      obtain ⟨s3, s4⟩ := step_in (s := (k : Int) * s) (by omega) r2
      rw [pw] at s2
      rw [ph] at s4
      unfold cX cY boxB
      exact decide_eq_true (by omega)
    simp only [w3, w4, M1, R1]
    by_cases big : (k : Int) * s ≤ 100000
    · have C : coO [.i x, .i y, .i s, .i ((w * k : Nat) : Int), .i ((h * k : Nat) : Int), .l (rowsI (mkL r x y s (w * k) (w * k * (h * k)))), .i k] = true := by
        rw [C0, hgv, decide_eq_true ⟨by omega, by omega, t1, t2, big⟩]; rfl
      have M3 : mkO [.l r, .i x, .i y, .i ((k : Int) * s), .i w, .i h] = true := by
        rw [M0, decide_eq_true (hfr2 big), hlb]; rfl
      have CR := cl_coR x y s ((w * k : Nat) : Int) ((h * k : Nat) : Int) k (rowsI (mkL r x y s (w * k) (w * k * (h * k))))
      rw [if_pos C, cells_rows] at CR
      simp only [Int.toNat_natCast] at CR
      have R3 := cl_mkR x y ((k : Int) * s) w h r
      rw [if_pos M3] at R3
      simp only [Int.toNat_natCast] at R3
      have L1 := coN_len (w * k) (h * k) k (mkL r x y s (w * k) (w * k * (h * k))) (w * k * (h * k))
      rw [Nat.mul_div_cancel w hk, Nat.mul_div_cancel h hk] at L1
      have L2 := mkL_len r x y ((k : Int) * s) w (w * h)
      have same : ∀ i, i < w * h → Grid.at_ (coN (w * k) (h * k) k (mkL r x y s (w * k) (w * k * (h * k))) (w * k * (h * k))) i = Grid.at_ (mkL r x y ((k : Int) * s) w (w * h)) i := fun i hi => by
        rw [at_mkL hi]
        exact co_same hlb hk hw (by omega) (hB big) hi
      generalize coN (w * k) (h * k) k (mkL r x y s (w * k) (w * k * (h * k))) (w * k * (h * k)) = A at *
      generalize mkL r x y ((k : Int) * s) w (w * h) = A' at *
      simp only [C, M3, CR, R3, rowsI_len, L1, L2]
      refine ⟨fun _ => ⟨fun _ => ⟨fun _ => ⟨fun q => absurd rfl q, fun _ => ⟨fun q => absurd rfl q, fun _ => ⟨fun q => absurd rfl q, fun _ => ⟨fun q => absurd rfl q, fun _ => ?_⟩⟩⟩⟩, (fun q => by cases q)⟩, (fun q => by cases q)⟩, (fun q => by cases q)⟩
      refine TT.sat_loop (fun v => ∃ c : Nat, v.i 0 = c ∧ c ≤ w * h) (fun v => w * h - (v.i 0).toNat)
        ⟨0, by simp [val_i, aget, E.ev], by omega⟩ (fun v hv => ?_)
      obtain ⟨c, c0, c1⟩ := hv
      simp only [TT.sat_ret, TT.sat_ite, TT.sat_ob, TT.sat_next, TT.sat_stuck, put_i, put_b, put_d, put_fi, put_fb, put_fd, Ob.ok, B.ev, E.ev, X.ev, AL.ev, cmp_t, cmp_f, arEv, V.plain, V2.plain, S.plain, S0.plain, V.val, V2.val, S.val, S0.val, bV, iV, List.all_cons, List.all_nil, Bool.and_true, Bool.and_self, envOf_i, envOf_b, envOf_d, List.map_cons, List.map_nil, true_and, Bool.not_eq_true', Bool.not_eq_false', Bool.not_not, Bool.and_eq_true, and_f, cell_lg, cell_lb, cell_lr, cmpP, val_i, val_b, val_d, aget, Nat.reduceBEq, beq_self_eq_true, Bool.false_eq_true, if_true, if_false, Nat.reduceLT, Nat.reduceSub, Nat.sub_self, Nat.lt_irrefl, c0, e0, e1, e2, e3, e4, e5, e6, KGgb190, KGgb191, KGgd5, KGgd6, w1, w2, w3, w4, R1, CR, R3, rowsI_len, L1, L2]
      refine ⟨fun hc => ?_, fun hc => ?_⟩
      · have hcl : c < w * h := by omega
        have hwh : w * h ≤ 12 * 12 := Nat.mul_le_mul (by omega) (by omega)
        have ew : IntKind.i64.wrap ((c : Int) + 1) = ((c + 1 : Nat) : Int) := by rw [wrap_in _ (by omega) (by omega)]; omega
        rw [ew, lg_rowsI (by omega), lg_rowsI (by omega)]
        exact ⟨by omega, by omega, by omega, by omega, fun q => absurd (same c hcl) q, fun _ => ⟨⟨c + 1, rfl, by omega⟩, by rw [Int.toNat_natCast, Int.toNat_natCast]; omega⟩⟩
      · trivial
    · have C : coO [.i x, .i y, .i s, .i ((w * k : Nat) : Int), .i ((h * k : Nat) : Int), .l (rowsI (mkL r x y s (w * k) (w * k * (h * k)))), .i k] = false := by
        rw [C0, decide_eq_false (fun z => big z.2.2.2.2), Bool.and_false]
      have M3 : mkO [.l r, .i x, .i y, .i ((k : Int) * s), .i w, .i h] = false := by
        rw [M0, decide_eq_false (fun z => by unfold frP at z; exact big (by omega)), Bool.false_and]
      have CR := cl_coR x y s ((w * k : Nat) : Int) ((h * k : Nat) : Int) k (rowsI (mkL r x y s (w * k) (w * k * (h * k))))
      rw [if_neg (by rw [C]; decide)] at CR
      have R3 := cl_mkR x y ((k : Int) * s) w h r
      rw [if_neg (by rw [M3]; decide)] at R3
      simp only [C, M3, CR, R3]
      refine ⟨fun _ => ⟨(fun q => by cases q), fun _ => ⟨(fun q => by cases q), fun _ => ⟨fun _ => ⟨fun q => absurd rfl q, fun _ => ?_⟩, fun q => by omega⟩⟩⟩, (fun q => by cases q)⟩
      refine TT.sat_loop (fun v => v.i 0 = 0) (fun v => 0) (by simp [val_i, aget, E.ev]) (fun v c0 => ?_)
      simp only [TT.sat_ret, TT.sat_ite, TT.sat_ob, TT.sat_next, TT.sat_stuck, put_i, put_b, put_d, put_fi, put_fb, put_fd, Ob.ok, B.ev, E.ev, X.ev, AL.ev, cmp_t, cmp_f, arEv, V.plain, V2.plain, S.plain, S0.plain, V.val, V2.val, S.val, S0.val, bV, iV, List.all_cons, List.all_nil, Bool.and_true, Bool.and_self, envOf_i, envOf_b, envOf_d, List.map_cons, List.map_nil, true_and, Bool.not_eq_true', Bool.not_eq_false', Bool.not_not, Bool.and_eq_true, and_f, cell_lg, cell_lb, cell_lr, cmpP, val_i, val_b, val_d, aget, Nat.reduceBEq, beq_self_eq_true, Bool.false_eq_true, if_true, if_false, Nat.reduceLT, Nat.reduceSub, Nat.sub_self, Nat.lt_irrefl, c0, e0, e1, e2, e3, e4, e5, e6, KGgb190, KGgb191, KGgd5, KGgd6, w1, w2, w3, w4, R1, CR, R3, List.length_nil]
      exact ⟨fun hc => by omega, fun _ => trivial⟩
  · simp only [Bool.not_eq_true] at M1
    simp only [M1]
    exact ⟨(fun q => by cases q), fun _ => trivial⟩
end Go.Proofs.Ytcjaembdcfppfaa
