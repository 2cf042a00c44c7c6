/- LBo, merged: TNp, Nt, TNv, Nv. -/
import Derived.Test.YtkjjkckcjgkhmaaGreatLA
set_option linter.unusedSimpArgs false
set_option linter.unusedVariables false
/- Chapter 40: trees of Make and Verify. -/
namespace Go.Proofs.YtkjjkckcjgkhmaaGreat
open Go.RowKit
def certS : Sh := .agg [.sl [.int .i64], .sl [.int .u64]]
def trMake : TT OpR :=
(.loop 0 6000 ⟨[(0, (.lit 0)), (1, (.lit 0))], [], []⟩
 (.ite (.cmp .lss (.var 6001) (.len (.var 0)))
 (.ob (.tru (.cmp .leq (.lit 0) (.var 6001)))
 (.ob (.tru (.cmp .lss (.var 6001) (.len (.var 0))))
 (.ite (.not (.fn 151 (.i (.rd (.var 0) (.var 6001) 0) (.i (.rd (.var 0) (.var 6001) 1) (.i (.rd (.var 0) (.var 6001) 2) (.i (.rd (.var 0) (.var 6001) 3) (.i (.rd (.var 0) (.var 6001) 4) (.i (.rd (.var 0) (.var 6001) 5) (.i (.rd (.var 0) (.var 6001) 6) (.i (.rd (.var 0) (.var 6001) 7) (.i (.rd (.var 0) (.var 6001) 8) (.i (.rd (.var 0) (.var 6001) 9) (.i (.rd (.var 0) (.var 6001) 10) (.x (.rd (.var 0) (.var 6001) 11) (.x (.rd (.var 0) (.var 6001) 12) .nil)))))))))))))))
 (.ret ((.tup [(.agg [(.z (.const (.slice none 0 0))), (.z (.const (.slice none 0 0)))]), (.one (.z (.int .i64 (.lit 0)))), (.one (.z (.int .i64 (.lit 0)))), (.one (.z (.int .i64 (.lit 1))))]), [], 7))
 (.ite (.cmp .leq (.rd (.var 0) (.var 6001) 0) (.var 6000))
 (.ret ((.tup [(.agg [(.z (.const (.slice none 0 0))), (.z (.const (.slice none 0 0)))]), (.one (.z (.int .i64 (.lit 0)))), (.one (.z (.int .i64 (.lit 0)))), (.one (.z (.int .i64 (.lit 1))))]), [], 7))
 (.next 0 ⟨[(0, (.rd (.var 0) (.var 6001) 0)), (1, (.ar .add .i64 (.var 6001) (.lit 1)))], [], []⟩)))))
 (.ite (.not (.cmp .leq (.len (.var 0)) (.lit 20)))
 (.ret ((.tup [(.agg [(.z (.const (.slice none 0 0))), (.z (.const (.slice none 0 0)))]), (.one (.z (.int .i64 (.lit 0)))), (.one (.z (.int .i64 (.lit 0)))), (.one (.z (.int .i64 (.lit 1))))]), [], 7))
 (.ite (.fn 20 (.i (.var 1) (.i (.var 2) (.i (.var 3) (.x (.var 4) .nil)))))
 (.ite (.cmp .lss (.lit 0) (.len (.var 4)))
 (.ite (.fn 144 (.i (.var 5) (.i (.var 6) (.x (.var 7) .nil))))
 (.ite (.not (.fn 150 (.i (.var 8) (.i (.var 9) (.x (.var 10) .nil)))))
 (.ret ((.tup [(.agg [(.z (.const (.slice none 0 0))), (.z (.const (.slice none 0 0)))]), (.one (.z (.int .i64 (.lit 0)))), (.one (.z (.int .i64 (.lit 0)))), (.one (.z (.int .i64 (.lit 1))))]), [], 8))
 (.loop 1 10000 ⟨[(0, (.lit 0)), (3, (.lit 0)), (1, (.lit 0)), (1, (.lit 0)), (3, (.lit 0))], [], [(4, .nil), (2, .nil)]⟩
 (.ite (.cmp .lss (.var 10000) (.len (.var 4)))
 (.ite (.cmp .neq (.fn 232 (.i (.var 1) (.i (.var 2) (.i (.var 3) (.x (.var 4) (.i (.var 5) (.i (.var 6) (.x (.var 7) (.i (.var 8) (.i (.var 9) (.x (.var 10) (.x (.var 0) (.i (.var 10000) .nil))))))))))))) (.lit 0))
 (.ret ((.tup [(.agg [(.z (.const (.slice none 0 0))), (.z (.const (.slice none 0 0)))]), (.one (.z (.int .i64 (.var 10000)))), (.one (.z (.int .i64 (.fn 231 (.i (.var 1) (.i (.var 2) (.i (.var 3) (.x (.var 4) (.i (.var 5) (.i (.var 6) (.x (.var 7) (.i (.var 8) (.i (.var 9) (.x (.var 10) (.x (.var 0) (.i (.var 10000) .nil)))))))))))))))), (.one (.z (.int .i64 (.fn 232 (.i (.var 1) (.i (.var 2) (.i (.var 3) (.x (.var 4) (.i (.var 5) (.i (.var 6) (.x (.var 7) (.i (.var 8) (.i (.var 9) (.x (.var 10) (.x (.var 0) (.i (.var 10000) .nil))))))))))))))))]), [], 15))
 (.ite (.cmp .neq (.fn 234 (.i (.fn 230 (.i (.lit 0) (.i (.var 1) (.i (.var 2) (.i (.var 3) (.x (.var 4) (.i (.var 5) (.i (.var 6) (.x (.var 7) (.i (.var 8) (.i (.var 9) (.x (.var 10) (.x (.var 0) (.i (.var 10000) .nil)))))))))))))) (.i (.fn 230 (.i (.lit 1) (.i (.var 1) (.i (.var 2) (.i (.var 3) (.x (.var 4) (.i (.var 5) (.i (.var 6) (.x (.var 7) (.i (.var 8) (.i (.var 9) (.x (.var 10) (.x (.var 0) (.i (.var 10000) .nil)))))))))))))) (.i (.fn 230 (.i (.lit 2) (.i (.var 1) (.i (.var 2) (.i (.var 3) (.x (.var 4) (.i (.var 5) (.i (.var 6) (.x (.var 7) (.i (.var 8) (.i (.var 9) (.x (.var 10) (.x (.var 0) (.i (.var 10000) .nil)))))))))))))) (.i (.fn 230 (.i (.lit 3) (.i (.var 1) (.i (.var 2) (.i (.var 3) (.x (.var 4) (.i (.var 5) (.i (.var 6) (.x (.var 7) (.i (.var 8) (.i (.var 9) (.x (.var 10) (.x (.var 0) (.i (.var 10000) .nil)))))))))))))) (.i (.fn 230 (.i (.lit 4) (.i (.var 1) (.i (.var 2) (.i (.var 3) (.x (.var 4) (.i (.var 5) (.i (.var 6) (.x (.var 7) (.i (.var 8) (.i (.var 9) (.x (.var 10) (.x (.var 0) (.i (.var 10000) .nil)))))))))))))) (.i (.fn 230 (.i (.lit 5) (.i (.var 1) (.i (.var 2) (.i (.var 3) (.x (.var 4) (.i (.var 5) (.i (.var 6) (.x (.var 7) (.i (.var 8) (.i (.var 9) (.x (.var 10) (.x (.var 0) (.i (.var 10000) .nil)))))))))))))) (.i (.fn 230 (.i (.lit 6) (.i (.var 1) (.i (.var 2) (.i (.var 3) (.x (.var 4) (.i (.var 5) (.i (.var 6) (.x (.var 7) (.i (.var 8) (.i (.var 9) (.x (.var 10) (.x (.var 0) (.i (.var 10000) .nil)))))))))))))) (.i (.fn 230 (.i (.lit 7) (.i (.var 1) (.i (.var 2) (.i (.var 3) (.x (.var 4) (.i (.var 5) (.i (.var 6) (.x (.var 7) (.i (.var 8) (.i (.var 9) (.x (.var 10) (.x (.var 0) (.i (.var 10000) .nil)))))))))))))) (.i (.fn 230 (.i (.lit 8) (.i (.var 1) (.i (.var 2) (.i (.var 3) (.x (.var 4) (.i (.var 5) (.i (.var 6) (.x (.var 7) (.i (.var 8) (.i (.var 9) (.x (.var 10) (.x (.var 0) (.i (.var 10000) .nil)))))))))))))) (.i (.fn 230 (.i (.lit 9) (.i (.var 1) (.i (.var 2) (.i (.var 3) (.x (.var 4) (.i (.var 5) (.i (.var 6) (.x (.var 7) (.i (.var 8) (.i (.var 9) (.x (.var 10) (.x (.var 0) (.i (.var 10000) .nil)))))))))))))) (.i (.fn 230 (.i (.lit 10) (.i (.var 1) (.i (.var 2) (.i (.var 3) (.x (.var 4) (.i (.var 5) (.i (.var 6) (.x (.var 7) (.i (.var 8) (.i (.var 9) (.x (.var 10) (.x (.var 0) (.i (.var 10000) .nil)))))))))))))) (.x (.fn 2 (.i (.var 1) (.i (.var 2) (.i (.var 3) (.x (.var 4) (.i (.var 5) (.i (.var 6) (.x (.var 7) (.i (.var 8) (.i (.var 9) (.x (.var 10) (.x (.var 0) (.i (.var 10000) .nil))))))))))))) (.x (.fn 3 (.i (.var 1) (.i (.var 2) (.i (.var 3) (.x (.var 4) (.i (.var 5) (.i (.var 6) (.x (.var 7) (.i (.var 8) (.i (.var 9) (.x (.var 10) (.x (.var 0) (.i (.var 10000) .nil))))))))))))) .nil)))))))))))))) (.lit 0))
 (.ret ((.tup [(.agg [(.z (.const (.slice none 0 0))), (.z (.const (.slice none 0 0)))]), (.one (.z (.int .i64 (.var 10000)))), (.one (.z (.int .i64 (.lit 0)))), (.one (.z (.int .i64 (.fn 234 (.i (.fn 230 (.i (.lit 0) (.i (.var 1) (.i (.var 2) (.i (.var 3) (.x (.var 4) (.i (.var 5) (.i (.var 6) (.x (.var 7) (.i (.var 8) (.i (.var 9) (.x (.var 10) (.x (.var 0) (.i (.var 10000) .nil)))))))))))))) (.i (.fn 230 (.i (.lit 1) (.i (.var 1) (.i (.var 2) (.i (.var 3) (.x (.var 4) (.i (.var 5) (.i (.var 6) (.x (.var 7) (.i (.var 8) (.i (.var 9) (.x (.var 10) (.x (.var 0) (.i (.var 10000) .nil)))))))))))))) (.i (.fn 230 (.i (.lit 2) (.i (.var 1) (.i (.var 2) (.i (.var 3) (.x (.var 4) (.i (.var 5) (.i (.var 6) (.x (.var 7) (.i (.var 8) (.i (.var 9) (.x (.var 10) (.x (.var 0) (.i (.var 10000) .nil)))))))))))))) (.i (.fn 230 (.i (.lit 3) (.i (.var 1) (.i (.var 2) (.i (.var 3) (.x (.var 4) (.i (.var 5) (.i (.var 6) (.x (.var 7) (.i (.var 8) (.i (.var 9) (.x (.var 10) (.x (.var 0) (.i (.var 10000) .nil)))))))))))))) (.i (.fn 230 (.i (.lit 4) (.i (.var 1) (.i (.var 2) (.i (.var 3) (.x (.var 4) (.i (.var 5) (.i (.var 6) (.x (.var 7) (.i (.var 8) (.i (.var 9) (.x (.var 10) (.x (.var 0) (.i (.var 10000) .nil)))))))))))))) (.i (.fn 230 (.i (.lit 5) (.i (.var 1) (.i (.var 2) (.i (.var 3) (.x (.var 4) (.i (.var 5) (.i (.var 6) (.x (.var 7) (.i (.var 8) (.i (.var 9) (.x (.var 10) (.x (.var 0) (.i (.var 10000) .nil)))))))))))))) (.i (.fn 230 (.i (.lit 6) (.i (.var 1) (.i (.var 2) (.i (.var 3) (.x (.var 4) (.i (.var 5) (.i (.var 6) (.x (.var 7) (.i (.var 8) (.i (.var 9) (.x (.var 10) (.x (.var 0) (.i (.var 10000) .nil)))))))))))))) (.i (.fn 230 (.i (.lit 7) (.i (.var 1) (.i (.var 2) (.i (.var 3) (.x (.var 4) (.i (.var 5) (.i (.var 6) (.x (.var 7) (.i (.var 8) (.i (.var 9) (.x (.var 10) (.x (.var 0) (.i (.var 10000) .nil)))))))))))))) (.i (.fn 230 (.i (.lit 8) (.i (.var 1) (.i (.var 2) (.i (.var 3) (.x (.var 4) (.i (.var 5) (.i (.var 6) (.x (.var 7) (.i (.var 8) (.i (.var 9) (.x (.var 10) (.x (.var 0) (.i (.var 10000) .nil)))))))))))))) (.i (.fn 230 (.i (.lit 9) (.i (.var 1) (.i (.var 2) (.i (.var 3) (.x (.var 4) (.i (.var 5) (.i (.var 6) (.x (.var 7) (.i (.var 8) (.i (.var 9) (.x (.var 10) (.x (.var 0) (.i (.var 10000) .nil)))))))))))))) (.i (.fn 230 (.i (.lit 10) (.i (.var 1) (.i (.var 2) (.i (.var 3) (.x (.var 4) (.i (.var 5) (.i (.var 6) (.x (.var 7) (.i (.var 8) (.i (.var 9) (.x (.var 10) (.x (.var 0) (.i (.var 10000) .nil)))))))))))))) (.x (.fn 2 (.i (.var 1) (.i (.var 2) (.i (.var 3) (.x (.var 4) (.i (.var 5) (.i (.var 6) (.x (.var 7) (.i (.var 8) (.i (.var 9) (.x (.var 10) (.x (.var 0) (.i (.var 10000) .nil))))))))))))) (.x (.fn 3 (.i (.var 1) (.i (.var 2) (.i (.var 3) (.x (.var 4) (.i (.var 5) (.i (.var 6) (.x (.var 7) (.i (.var 8) (.i (.var 9) (.x (.var 10) (.x (.var 0) (.i (.var 10000) .nil))))))))))))) .nil)))))))))))))))))]), [], 15))
 (.ob (.tru (.cmp .leq (.len (.app (.var 10002) (.app (.row (.i (.fn 230 (.i (.lit 0) (.i (.var 1) (.i (.var 2) (.i (.var 3) (.x (.var 4) (.i (.var 5) (.i (.var 6) (.x (.var 7) (.i (.var 8) (.i (.var 9) (.x (.var 10) (.x (.var 0) (.i (.var 10000) .nil)))))))))))))) .nil)) .nil))) (.lit 1000000)))
 (.ob (.tru (.cmp .leq (.len (.app (.var 10004) (.app (.row (.i (.fn 233 (.i (.fn 230 (.i (.lit 0) (.i (.var 1) (.i (.var 2) (.i (.var 3) (.x (.var 4) (.i (.var 5) (.i (.var 6) (.x (.var 7) (.i (.var 8) (.i (.var 9) (.x (.var 10) (.x (.var 0) (.i (.var 10000) .nil)))))))))))))) (.i (.fn 230 (.i (.lit 1) (.i (.var 1) (.i (.var 2) (.i (.var 3) (.x (.var 4) (.i (.var 5) (.i (.var 6) (.x (.var 7) (.i (.var 8) (.i (.var 9) (.x (.var 10) (.x (.var 0) (.i (.var 10000) .nil)))))))))))))) (.i (.fn 230 (.i (.lit 2) (.i (.var 1) (.i (.var 2) (.i (.var 3) (.x (.var 4) (.i (.var 5) (.i (.var 6) (.x (.var 7) (.i (.var 8) (.i (.var 9) (.x (.var 10) (.x (.var 0) (.i (.var 10000) .nil)))))))))))))) (.i (.fn 230 (.i (.lit 3) (.i (.var 1) (.i (.var 2) (.i (.var 3) (.x (.var 4) (.i (.var 5) (.i (.var 6) (.x (.var 7) (.i (.var 8) (.i (.var 9) (.x (.var 10) (.x (.var 0) (.i (.var 10000) .nil)))))))))))))) (.i (.fn 230 (.i (.lit 4) (.i (.var 1) (.i (.var 2) (.i (.var 3) (.x (.var 4) (.i (.var 5) (.i (.var 6) (.x (.var 7) (.i (.var 8) (.i (.var 9) (.x (.var 10) (.x (.var 0) (.i (.var 10000) .nil)))))))))))))) (.i (.fn 230 (.i (.lit 5) (.i (.var 1) (.i (.var 2) (.i (.var 3) (.x (.var 4) (.i (.var 5) (.i (.var 6) (.x (.var 7) (.i (.var 8) (.i (.var 9) (.x (.var 10) (.x (.var 0) (.i (.var 10000) .nil)))))))))))))) (.i (.fn 230 (.i (.lit 6) (.i (.var 1) (.i (.var 2) (.i (.var 3) (.x (.var 4) (.i (.var 5) (.i (.var 6) (.x (.var 7) (.i (.var 8) (.i (.var 9) (.x (.var 10) (.x (.var 0) (.i (.var 10000) .nil)))))))))))))) (.i (.fn 230 (.i (.lit 7) (.i (.var 1) (.i (.var 2) (.i (.var 3) (.x (.var 4) (.i (.var 5) (.i (.var 6) (.x (.var 7) (.i (.var 8) (.i (.var 9) (.x (.var 10) (.x (.var 0) (.i (.var 10000) .nil)))))))))))))) (.i (.fn 230 (.i (.lit 8) (.i (.var 1) (.i (.var 2) (.i (.var 3) (.x (.var 4) (.i (.var 5) (.i (.var 6) (.x (.var 7) (.i (.var 8) (.i (.var 9) (.x (.var 10) (.x (.var 0) (.i (.var 10000) .nil)))))))))))))) (.i (.fn 230 (.i (.lit 9) (.i (.var 1) (.i (.var 2) (.i (.var 3) (.x (.var 4) (.i (.var 5) (.i (.var 6) (.x (.var 7) (.i (.var 8) (.i (.var 9) (.x (.var 10) (.x (.var 0) (.i (.var 10000) .nil)))))))))))))) (.i (.fn 230 (.i (.lit 10) (.i (.var 1) (.i (.var 2) (.i (.var 3) (.x (.var 4) (.i (.var 5) (.i (.var 6) (.x (.var 7) (.i (.var 8) (.i (.var 9) (.x (.var 10) (.x (.var 0) (.i (.var 10000) .nil)))))))))))))) (.x (.fn 2 (.i (.var 1) (.i (.var 2) (.i (.var 3) (.x (.var 4) (.i (.var 5) (.i (.var 6) (.x (.var 7) (.i (.var 8) (.i (.var 9) (.x (.var 10) (.x (.var 0) (.i (.var 10000) .nil))))))))))))) (.x (.fn 3 (.i (.var 1) (.i (.var 2) (.i (.var 3) (.x (.var 4) (.i (.var 5) (.i (.var 6) (.x (.var 7) (.i (.var 8) (.i (.var 9) (.x (.var 10) (.x (.var 0) (.i (.var 10000) .nil))))))))))))) .nil)))))))))))))) .nil)) .nil))) (.lit 1000000)))
 (.next 1 ⟨[(0, (.ar .add .i64 (.var 10000) (.lit 1))), (3, (.plus (.var 10003) (.lit 1))), (1, (.plus (.var 10001) (.lit 1))), (1, (.plus (.var 10001) (.lit 1))), (3, (.plus (.var 10003) (.lit 1)))], [], [(4, (.app (.var 10004) (.app (.row (.i (.fn 233 (.i (.fn 230 (.i (.lit 0) (.i (.var 1) (.i (.var 2) (.i (.var 3) (.x (.var 4) (.i (.var 5) (.i (.var 6) (.x (.var 7) (.i (.var 8) (.i (.var 9) (.x (.var 10) (.x (.var 0) (.i (.var 10000) .nil)))))))))))))) (.i (.fn 230 (.i (.lit 1) (.i (.var 1) (.i (.var 2) (.i (.var 3) (.x (.var 4) (.i (.var 5) (.i (.var 6) (.x (.var 7) (.i (.var 8) (.i (.var 9) (.x (.var 10) (.x (.var 0) (.i (.var 10000) .nil)))))))))))))) (.i (.fn 230 (.i (.lit 2) (.i (.var 1) (.i (.var 2) (.i (.var 3) (.x (.var 4) (.i (.var 5) (.i (.var 6) (.x (.var 7) (.i (.var 8) (.i (.var 9) (.x (.var 10) (.x (.var 0) (.i (.var 10000) .nil)))))))))))))) (.i (.fn 230 (.i (.lit 3) (.i (.var 1) (.i (.var 2) (.i (.var 3) (.x (.var 4) (.i (.var 5) (.i (.var 6) (.x (.var 7) (.i (.var 8) (.i (.var 9) (.x (.var 10) (.x (.var 0) (.i (.var 10000) .nil)))))))))))))) (.i (.fn 230 (.i (.lit 4) (.i (.var 1) (.i (.var 2) (.i (.var 3) (.x (.var 4) (.i (.var 5) (.i (.var 6) (.x (.var 7) (.i (.var 8) (.i (.var 9) (.x (.var 10) (.x (.var 0) (.i (.var 10000) .nil)))))))))))))) (.i (.fn 230 (.i (.lit 5) (.i (.var 1) (.i (.var 2) (.i (.var 3) (.x (.var 4) (.i (.var 5) (.i (.var 6) (.x (.var 7) (.i (.var 8) (.i (.var 9) (.x (.var 10) (.x (.var 0) (.i (.var 10000) .nil)))))))))))))) (.i (.fn 230 (.i (.lit 6) (.i (.var 1) (.i (.var 2) (.i (.var 3) (.x (.var 4) (.i (.var 5) (.i (.var 6) (.x (.var 7) (.i (.var 8) (.i (.var 9) (.x (.var 10) (.x (.var 0) (.i (.var 10000) .nil)))))))))))))) (.i (.fn 230 (.i (.lit 7) (.i (.var 1) (.i (.var 2) (.i (.var 3) (.x (.var 4) (.i (.var 5) (.i (.var 6) (.x (.var 7) (.i (.var 8) (.i (.var 9) (.x (.var 10) (.x (.var 0) (.i (.var 10000) .nil)))))))))))))) (.i (.fn 230 (.i (.lit 8) (.i (.var 1) (.i (.var 2) (.i (.var 3) (.x (.var 4) (.i (.var 5) (.i (.var 6) (.x (.var 7) (.i (.var 8) (.i (.var 9) (.x (.var 10) (.x (.var 0) (.i (.var 10000) .nil)))))))))))))) (.i (.fn 230 (.i (.lit 9) (.i (.var 1) (.i (.var 2) (.i (.var 3) (.x (.var 4) (.i (.var 5) (.i (.var 6) (.x (.var 7) (.i (.var 8) (.i (.var 9) (.x (.var 10) (.x (.var 0) (.i (.var 10000) .nil)))))))))))))) (.i (.fn 230 (.i (.lit 10) (.i (.var 1) (.i (.var 2) (.i (.var 3) (.x (.var 4) (.i (.var 5) (.i (.var 6) (.x (.var 7) (.i (.var 8) (.i (.var 9) (.x (.var 10) (.x (.var 0) (.i (.var 10000) .nil)))))))))))))) (.x (.fn 2 (.i (.var 1) (.i (.var 2) (.i (.var 3) (.x (.var 4) (.i (.var 5) (.i (.var 6) (.x (.var 7) (.i (.var 8) (.i (.var 9) (.x (.var 10) (.x (.var 0) (.i (.var 10000) .nil))))))))))))) (.x (.fn 3 (.i (.var 1) (.i (.var 2) (.i (.var 3) (.x (.var 4) (.i (.var 5) (.i (.var 6) (.x (.var 7) (.i (.var 8) (.i (.var 9) (.x (.var 10) (.x (.var 0) (.i (.var 10000) .nil))))))))))))) .nil)))))))))))))) .nil)) .nil))), (2, (.app (.var 10002) (.app (.row (.i (.fn 230 (.i (.lit 0) (.i (.var 1) (.i (.var 2) (.i (.var 3) (.x (.var 4) (.i (.var 5) (.i (.var 6) (.x (.var 7) (.i (.var 8) (.i (.var 9) (.x (.var 10) (.x (.var 0) (.i (.var 10000) .nil)))))))))))))) .nil)) .nil)))]⟩)))))
 (.ret ((.tup [(.agg [(.z (.own 10 (.var 10001))), (.z (.own 11 (.var 10003)))]), (.one (.z (.int .i64 (.lit (-1))))), (.one (.z (.int .i64 (.lit 0)))), (.one (.z (.int .i64 (.lit 0))))]), [(11, (.own 68 [(.int .u64)] (.var 10004) (.var 10003))), (10, (.own 3 [(.int .i64)] (.var 10002) (.var 10001)))], 15)))))
 (.ret ((.tup [(.agg [(.z (.const (.slice none 0 0))), (.z (.const (.slice none 0 0)))]), (.one (.z (.int .i64 (.lit 0)))), (.one (.z (.int .i64 (.lit 0)))), (.one (.z (.int .i64 (.lit 1))))]), [], 8)))
 (.ret ((.tup [(.agg [(.z (.const (.slice none 0 0))), (.z (.const (.slice none 0 0)))]), (.one (.z (.int .i64 (.lit 0)))), (.one (.z (.int .i64 (.lit 0)))), (.one (.z (.int .i64 (.lit 1))))]), [], 8)))
 (.ret ((.tup [(.agg [(.z (.const (.slice none 0 0))), (.z (.const (.slice none 0 0)))]), (.one (.z (.int .i64 (.lit 0)))), (.one (.z (.int .i64 (.lit 0)))), (.one (.z (.int .i64 (.lit 1))))]), [], 8))))))
set_option maxRecDepth 100000 in
theorem trMake_is : T.norm 0 (call Tryz.prog ctO3 (Lt.of []) 1000 14 (symArgs 0 [shes, psg, shp, tid]) [] 0) TT.ret = trMake := by kernel_rfl
theorem trMake_low : trMake.low 1000 = true := by kernel_rfl
def trVerify : TT OpR :=
(.loop 0 6000 ⟨[(0, (.lit 0)), (1, (.lit 0))], [], []⟩
 (.ite (.cmp .lss (.var 6001) (.len (.var 0)))
 (.ob (.tru (.cmp .leq (.lit 0) (.var 6001)))
 (.ob (.tru (.cmp .lss (.var 6001) (.len (.var 0))))
 (.ite (.not (.fn 151 (.i (.rd (.var 0) (.var 6001) 0) (.i (.rd (.var 0) (.var 6001) 1) (.i (.rd (.var 0) (.var 6001) 2) (.i (.rd (.var 0) (.var 6001) 3) (.i (.rd (.var 0) (.var 6001) 4) (.i (.rd (.var 0) (.var 6001) 5) (.i (.rd (.var 0) (.var 6001) 6) (.i (.rd (.var 0) (.var 6001) 7) (.i (.rd (.var 0) (.var 6001) 8) (.i (.rd (.var 0) (.var 6001) 9) (.i (.rd (.var 0) (.var 6001) 10) (.x (.rd (.var 0) (.var 6001) 11) (.x (.rd (.var 0) (.var 6001) 12) .nil)))))))))))))))
 (.ret ((.tup [(.one (.z (.bool (.lit false)))), (.one (.z (.int .i64 (.lit 1))))]), [], 7))
 (.ite (.cmp .leq (.rd (.var 0) (.var 6001) 0) (.var 6000))
 (.ret ((.tup [(.one (.z (.bool (.lit false)))), (.one (.z (.int .i64 (.lit 1))))]), [], 7))
 (.next 0 ⟨[(0, (.rd (.var 0) (.var 6001) 0)), (1, (.ar .add .i64 (.var 6001) (.lit 1)))], [], []⟩)))))
 (.ite (.not (.cmp .leq (.len (.var 0)) (.lit 20)))
 (.ret ((.tup [(.one (.z (.bool (.lit false)))), (.one (.z (.int .i64 (.lit 1))))]), [], 7))
 (.ite (.fn 20 (.i (.var 1) (.i (.var 2) (.i (.var 3) (.x (.var 4) .nil)))))
 (.ite (.cmp .lss (.lit 0) (.len (.var 4)))
 (.ite (.fn 144 (.i (.var 5) (.i (.var 6) (.x (.var 7) .nil))))
 (.ite (.not (.fn 150 (.i (.var 8) (.i (.var 9) (.x (.var 10) .nil)))))
 (.ret ((.tup [(.one (.z (.bool (.lit false)))), (.one (.z (.int .i64 (.lit 1))))]), [], 8))
 (.ite (.cmp .neq (.len (.var 11)) (.len (.var 4)))
 (.ret ((.tup [(.one (.z (.bool (.lit false)))), (.one (.z (.int .i64 (.lit 0))))]), [], 8))
 (.ite (.cmp .neq (.len (.var 12)) (.len (.var 4)))
 (.ret ((.tup [(.one (.z (.bool (.lit false)))), (.one (.z (.int .i64 (.lit 0))))]), [], 8))
 (.loop 1 9000 ⟨[(0, (.lit 0))], [], []⟩
 (.ite (.cmp .lss (.var 9000) (.len (.var 11)))
 (.ob (.tru (.cmp .leq (.lit 0) (.var 9000)))
 (.ob (.tru (.cmp .lss (.var 9000) (.len (.var 11))))
 (.loop 2 11000 ⟨[(0, (.lit 0))], [], []⟩
 (.ite (.cmp .lss (.var 11000) (.len (.var 0)))
 (.ob (.tru (.cmp .leq (.lit 0) (.var 11000)))
 (.ob (.tru (.cmp .lss (.var 11000) (.len (.var 0))))
 (.ite (.cmp .eql (.rd (.var 0) (.var 11000) 0) (.rd (.var 11) (.var 9000) 0))
 (.ite (.cmp .lss (.var 11000) (.lit 0))
 (.ret ((.tup [(.one (.z (.bool (.lit false)))), (.one (.z (.int .i64 (.lit 0))))]), [], 12))
 (.ob (.tru (.cmp .leq (.lit 0) (.var 11000)))
 (.ob (.tru (.cmp .lss (.var 11000) (.len (.var 0))))
 (.ite (.cmp .neq (.fn 234 (.i (.rd (.var 0) (.var 11000) 0) (.i (.rd (.var 0) (.var 11000) 1) (.i (.rd (.var 0) (.var 11000) 2) (.i (.rd (.var 0) (.var 11000) 3) (.i (.rd (.var 0) (.var 11000) 4) (.i (.rd (.var 0) (.var 11000) 5) (.i (.rd (.var 0) (.var 11000) 6) (.i (.rd (.var 0) (.var 11000) 7) (.i (.rd (.var 0) (.var 11000) 8) (.i (.rd (.var 0) (.var 11000) 9) (.i (.rd (.var 0) (.var 11000) 10) (.x (.rd (.var 0) (.var 11000) 11) (.x (.rd (.var 0) (.var 11000) 12) .nil)))))))))))))) (.lit 0))
 (.ret ((.tup [(.one (.z (.bool (.lit false)))), (.one (.z (.int .i64 (.lit 0))))]), [], 12))
 (.ob (.tru (.cmp .leq (.lit 0) (.var 9000)))
 (.ob (.tru (.cmp .lss (.var 9000) (.len (.var 12))))
 (.ite (.cmp .neq (.fn 233 (.i (.rd (.var 0) (.var 11000) 0) (.i (.rd (.var 0) (.var 11000) 1) (.i (.rd (.var 0) (.var 11000) 2) (.i (.rd (.var 0) (.var 11000) 3) (.i (.rd (.var 0) (.var 11000) 4) (.i (.rd (.var 0) (.var 11000) 5) (.i (.rd (.var 0) (.var 11000) 6) (.i (.rd (.var 0) (.var 11000) 7) (.i (.rd (.var 0) (.var 11000) 8) (.i (.rd (.var 0) (.var 11000) 9) (.i (.rd (.var 0) (.var 11000) 10) (.x (.rd (.var 0) (.var 11000) 11) (.x (.rd (.var 0) (.var 11000) 12) .nil)))))))))))))) (.rd (.var 12) (.var 9000) 0))
 (.ret ((.tup [(.one (.z (.bool (.lit false)))), (.one (.z (.int .i64 (.lit 0))))]), [], 12))
 (.ob (.tru (.cmp .leq (.lit 0) (.var 11000)))
 (.ob (.tru (.cmp .lss (.var 11000) (.len (.var 0))))
 (.ite (.cmp .neq (.fn 191 (.i (.rd (.var 0) (.var 11000) 0) (.i (.rd (.var 0) (.var 11000) 1) (.i (.rd (.var 0) (.var 11000) 2) (.i (.rd (.var 0) (.var 11000) 3) (.i (.rd (.var 0) (.var 11000) 4) (.i (.rd (.var 0) (.var 11000) 5) (.i (.rd (.var 0) (.var 11000) 6) (.i (.rd (.var 0) (.var 11000) 7) (.i (.rd (.var 0) (.var 11000) 8) (.i (.rd (.var 0) (.var 11000) 9) (.i (.rd (.var 0) (.var 11000) 10) (.x (.rd (.var 0) (.var 11000) 11) (.x (.rd (.var 0) (.var 11000) 12) (.i (.var 1) (.i (.var 2) (.i (.var 3) (.x (.var 4) (.i (.var 9000) (.i (.var 5) (.i (.var 6) (.x (.var 7) (.i (.var 8) (.i (.var 9) (.x (.var 10) .nil))))))))))))))))))))))))) (.lit 0))
 (.ret ((.tup [(.one (.z (.bool (.lit false)))), (.one (.z (.int .i64 (.lit 0))))]), [], 12))
 (.next 1 ⟨[(0, (.ar .add .i64 (.var 9000) (.lit 1)))], [], []⟩)))))))))))
 (.next 2 ⟨[(0, (.ar .add .i64 (.var 11000) (.lit 1)))], [], []⟩))))
 (.ret ((.tup [(.one (.z (.bool (.lit false)))), (.one (.z (.int .i64 (.lit 0))))]), [], 12))))))
 (.ret ((.tup [(.one (.z (.bool (.lit true)))), (.one (.z (.int .i64 (.lit 0))))]), [], 12)))))))
 (.ret ((.tup [(.one (.z (.bool (.lit false)))), (.one (.z (.int .i64 (.lit 1))))]), [], 8)))
 (.ret ((.tup [(.one (.z (.bool (.lit false)))), (.one (.z (.int .i64 (.lit 1))))]), [], 8)))
 (.ret ((.tup [(.one (.z (.bool (.lit false)))), (.one (.z (.int .i64 (.lit 1))))]), [], 8))))))
set_option maxRecDepth 100000 in
theorem trVerify_is : T.norm 0 (call Tryz.prog ctO3 (Lt.of []) 1000 15 (symArgs 0 [shes, psg, shp, tid, certS]) [] 0) TT.ret = trVerify := by kernel_rfl
theorem trVerify_low : trVerify.low 1000 = true := by kernel_rfl
end Go.Proofs.YtkjjkckcjgkhmaaGreat
/- Chapter 40: what Make and Verify answer. -/
namespace Go.Proofs.YtkjjkckcjgkhmaaGreat
open Go.RowKit
def mkO (ds : List D) : Bool := shsB (rAt ds 0) && (psgB (iAt ds 1) (iAt ds 2) (iAt ds 3) (rAt ds 4) && (decide (0 < (rAt ds 4).length) && (kevB (iAt ds 5) (iAt ds 6) (rAt ds 7) && tideB (iAt ds 8) (iAt ds 9) (rAt ds 10))))
def mkD (ds : List D) (k : Nat) : List D := [.l (rAt ds 0), .i (iAt ds 1), .i (iAt ds 2), .i (iAt ds 3), .l (rAt ds 4), .i k, .i (iAt ds 5), .i (iAt ds 6), .l (rAt ds 7), .i (iAt ds 8), .i (iAt ds 9), .l (rAt ds 10)]
def fq (ds : List D) (k : Nat) : List D := [.i (iAt ds 1), .i (iAt ds 2), .i (iAt ds 3), .l (rAt ds 4), .i (iAt ds 5), .i (iAt ds 6), .l (rAt ds 7), .i (iAt ds 8), .i (iAt ds 9), .l (rAt ds 10), .l (rAt ds 0), .i k]
def shF (ds : List D) (k : Nat) : List D := [.i (fiJ (.i 0 :: fq ds k)), .i (fiJ (.i 1 :: fq ds k)), .i (fiJ (.i 2 :: fq ds k)), .i (fiJ (.i 3 :: fq ds k)), .i (fiJ (.i 4 :: fq ds k)), .i (fiJ (.i 5 :: fq ds k)), .i (fiJ (.i 6 :: fq ds k)), .i (fiJ (.i 7 :: fq ds k)), .i (fiJ (.i 8 :: fq ds k)), .i (fiJ (.i 9 :: fq ds k)), .i (fiJ (.i 10 :: fq ds k)), .l (fiX (fq ds k)), .l (fiY (fq ds k))]
theorem fin_has {ds : List D} : ∀ i, finN ds i = -1 ∨ ∃ j : Nat, finN ds i = j ∧ j < i ∧ (legE (rowLeg ds j) = 0 ∨ legE (rowLeg ds j) = 20)
  | 0 => .inl rfl
  | i + 1 => by
    rw [finN]
    by_cases h : (legE (rowLeg ds i) = 0 ∨ legE (rowLeg ds i) = 20) ∧ (if finN ds i < 0 then 0 else lg (rAt ds 0) (finN ds i) 1) < lg (rAt ds 0) i 1
    · rw [if_pos h]
      exact .inr ⟨i, rfl, by omega, h.1⟩
    · rw [if_neg h]
      rcases fin_has (ds := ds) i with h | ⟨j, h1, h2, h3⟩
      · exact .inl h
      · exact .inr ⟨j, h1, by omega, h3⟩
theorem shF_row {ds : List D} {k : Nat} (h : fiE (fq ds k) = 0) : ∃ j : Nat, j < (rAt ds 0).length ∧ finN (mkD ds k) (rAt ds 0).length = j ∧ legE (rowLeg (mkD ds k) j) = 0 ∧ shF ds k = rowSh (rAt ds 0) j := by
  have h : finE (mkD ds k) (rAt ds 0).length = 0 := h
  rcases fin_has (ds := mkD ds k) (rAt ds 0).length with e | ⟨j, e, h2, _⟩
  · unfold finE at h
    rw [if_pos (by omega)] at h
    exact absurd h (by decide)
  · have hl : legE (rowLeg (mkD ds k) j) = 0 := by
      unfold finE at h
      rwa [if_neg (by omega), e, Int.toNat_natCast] at h
    refine ⟨j, h2, e, hl, ?_⟩
    have eJ : ∀ c : Nat, fiJ (.i c :: fq ds k) = lg (rAt ds 0) j c := fun c => by
      show finJ (mkD ds k) (rAt ds 0).length (c : Int).toNat = _
      unfold finJ
      rw [if_neg (by omega), e, Int.toNat_natCast]; rfl
    have eX : ∀ c : Nat, finX (mkD ds k) (rAt ds 0).length c = lr (rAt ds 0) j c := fun c => by
      unfold finX
      rw [if_neg (by omega), e]; rfl
    have e11 : fiX (fq ds k) = lr (rAt ds 0) j 11 := eX 11
    have e12 : fiY (fq ds k) = lr (rAt ds 0) j 12 := eX 12
    have a0 := eJ 0
    have a1 := eJ 1
    have a2 := eJ 2
    have a3 := eJ 3
    have a4 := eJ 4
    have a5 := eJ 5
    have a6 := eJ 6
    have a7 := eJ 7
    have a8 := eJ 8
    have a9 := eJ 9
    have a10 := eJ 10
    unfold shF rowSh
    rw [e11, e12]
    simp only [show (D.i 0) = D.i ((0 : Nat) : Int) from rfl, show (D.i 1) = D.i ((1 : Nat) : Int) from rfl, show (D.i 2) = D.i ((2 : Nat) : Int) from rfl, show (D.i 3) = D.i ((3 : Nat) : Int) from rfl, show (D.i 4) = D.i ((4 : Nat) : Int) from rfl, show (D.i 5) = D.i ((5 : Nat) : Int) from rfl, show (D.i 6) = D.i ((6 : Nat) : Int) from rfl, show (D.i 7) = D.i ((7 : Nat) : Int) from rfl, show (D.i 8) = D.i ((8 : Nat) : Int) from rfl, show (D.i 9) = D.i ((9 : Nat) : Int) from rfl, show (D.i 10) = D.i ((10 : Nat) : Int) from rfl, a0, a1, a2, a3, a4, a5, a6, a7, a8, a9, a10]
theorem shs_rows {r : Rows} : ∀ (f i : Nat) (last : Int), shsN r f i last = true → ∀ k : Nat, i ≤ k → k < i + f → sheetL (rowSh r k) = true
  | 0, i, last, _, k, h1, h2 => by omega
  | f + 1, i, last, h, k, h1, h2 => by
    simp only [shsN, Bool.and_eq_true, decide_eq_true_eq] at h
    by_cases e : k = i
    · subst e; exact h.1.1
    · exact shs_rows f (i + 1) _ h.2 k (by omega) (by omega)
def mkF (ds : List D) : Nat → Nat → Nat
  | 0, k => k
  | f + 1, k => if fiE (fq ds k) = 0 then mkF ds f (k + 1) else k
def mkS (ds : List D) : Nat := mkF ds (rAt ds 4).length 0
theorem mkF_spec {ds : List D} : ∀ f k, k ≤ mkF ds f k ∧ mkF ds f k ≤ k + f ∧ (∀ l, k ≤ l → l < mkF ds f k → fiE (fq ds l) = 0) ∧ (mkF ds f k < k + f → fiE (fq ds (mkF ds f k)) ≠ 0)
  | 0, k => ⟨Nat.le_refl _, Nat.le_refl _, fun l h1 h2 => by simp only [mkF] at h2; omega, fun h => by simp only [mkF] at h; omega⟩
  | f + 1, k => by
    rw [mkF]
    by_cases h : fiE (fq ds k) = 0
    · rw [if_pos h]
      obtain ⟨a, b, c, d⟩ := mkF_spec (ds := ds) f (k + 1)
      refine ⟨by omega, by omega, fun l h1 h2 => ?_, fun q => d (by omega)⟩
      by_cases e : l = k
      · subst e; exact h
      · exact c l (by omega) h2
    · rw [if_neg h]
      exact ⟨Nat.le_refl _, by omega, fun l h1 h2 => by omega, fun _ => h⟩
def mkK (ds : List D) : Int := if mkO ds then (if mkS ds < (rAt ds 4).length then mkS ds else -1) else 0
def mkI (ds : List D) : Int := if mkO ds then (if mkS ds < (rAt ds 4).length then fiI (fq ds (mkS ds)) else 0) else 0
def mkE (ds : List D) : Int := if mkO ds then (if mkS ds < (rAt ds 4).length then fiE (fq ds (mkS ds)) else 0) else 1
def chN (ds : List D) : Nat → Rows
  | 0 => []
  | k + 1 => chN ds k ++ [[.i (fiJ (.i 0 :: fq ds k))]]
def diN (ds : List D) : Nat → Rows
  | 0 => []
  | k + 1 => diN ds k ++ [[.i (digI (shF ds k))]]
def mkC (ds : List D) : Rows := if mkE ds = 0 then chN ds (rAt ds 4).length else []
def mkDi (ds : List D) : Rows := if mkE ds = 0 then diN ds (rAt ds 4).length else []
theorem chN_len {ds : List D} : ∀ k, (chN ds k).length = k
  | 0 => rfl
  | k + 1 => by rw [chN, List.length_append, chN_len k]; rfl
theorem diN_len {ds : List D} : ∀ k, (diN ds k).length = k
  | 0 => rfl
  | k + 1 => by rw [diN, List.length_append, diN_len k]; rfl
theorem mkS_le (ds : List D) : mkS ds ≤ (rAt ds 4).length := by have := (mkF_spec (ds := ds) (rAt ds 4).length 0).2.1; unfold mkS; omega
theorem mk_stop {ds : List D} (hO : mkO ds = true) {k : Nat} (hk : k < (rAt ds 4).length) (h : ∀ l, l < k → fiE (fq ds l) = 0) (h2 : fiE (fq ds k) ≠ 0) : mkK ds = k ∧ mkI ds = fiI (fq ds k) ∧ mkE ds = fiE (fq ds k) ∧ mkC ds = [] ∧ mkDi ds = [] := by
  have e : mkS ds = k := by
    obtain ⟨a, b, c, d⟩ := mkF_spec (ds := ds) (rAt ds 4).length 0
    have le : mkS ds ≤ k := by
      rcases Nat.lt_or_ge k (mkS ds) with q | q
      · exact absurd (c k (Nat.zero_le _) q) h2
      · exact q
    rcases Nat.lt_or_ge (mkS ds) k with q | q
    · exact absurd (h _ q) (d (by unfold mkS at q; omega))
    · omega
  have eE : mkE ds = fiE (fq ds k) := by unfold mkE; rw [hO, if_pos rfl, e, if_pos hk]
  refine ⟨by unfold mkK; rw [hO, if_pos rfl, e, if_pos hk], by unfold mkI; rw [hO, if_pos rfl, e, if_pos hk], eE, ?_, ?_⟩
  · unfold mkC; rw [eE, if_neg h2]
  · unfold mkDi; rw [eE, if_neg h2]
theorem mk_all {ds : List D} (hO : mkO ds = true) (h : ∀ l, l < (rAt ds 4).length → fiE (fq ds l) = 0) : mkK ds = -1 ∧ mkI ds = 0 ∧ mkE ds = 0 ∧ mkC ds = chN ds (rAt ds 4).length ∧ mkDi ds = diN ds (rAt ds 4).length := by
  have e : ¬ mkS ds < (rAt ds 4).length := fun q => by
    obtain ⟨a, b, c, d⟩ := mkF_spec (ds := ds) (rAt ds 4).length 0
    exact d (by unfold mkS at q; omega) (h _ q)
  have eE : mkE ds = 0 := by unfold mkE; rw [hO, if_pos rfl, if_neg e]
  exact ⟨by unfold mkK; rw [hO, if_pos rfl, if_neg e], by unfold mkI; rw [hO, if_pos rfl, if_neg e], eE, by unfold mkC; rw [if_pos eE], by unfold mkDi; rw [if_pos eE]⟩
theorem mk_arg {ds : List D} (hO : mkO ds = false) : mkK ds = 0 ∧ mkI ds = 0 ∧ mkE ds = 1 ∧ mkC ds = [] ∧ mkDi ds = [] := by
  have eE : mkE ds = 1 := by unfold mkE; rw [hO, if_neg (by decide)]
  exact ⟨by unfold mkK; rw [hO, if_neg (by decide)], by unfold mkI; rw [hO, if_neg (by decide)], eE, by unfold mkC; rw [eE, if_neg (by decide)], by unfold mkDi; rw [eE, if_neg (by decide)]⟩
def nlCh : NL := ⟨3, [.int .i64], 4, mkC⟩
def nlDi : NL := ⟨68, [.int .u64], 5, mkDi⟩
def mkRes (_w0 : World) (ds : List D) (vs : List Value) (u : Value) : Prop := ∃ a b, vs = [a, b] ∧ u = .tuple #[.agg #[a, b], .int .i64 (mkK ds), .int .i64 (mkI ds), .int .i64 (mkE ds)]
theorem cert_den {ρ : Env} {σ : As} {s1 s2 : S0} {k i e : E} {u : Value} (h : V.den ρ σ (.tup [.agg [.z s1, .z s2], .one (.z (.int .i64 k)), .one (.z (.int .i64 i)), .one (.z (.int .i64 e))]) u) :
    ∃ v1 v2, S0.den ρ σ s1 v1 ∧ S0.den ρ σ s2 v2 ∧ u = .tuple #[.agg #[v1, v2], .int .i64 (k.ev ρ), .int .i64 (i.ev ρ), .int .i64 (e.ev ρ)] := by
  obtain ⟨vs, h, rfl⟩ := h
  obtain ⟨w1, vs, rfl, h1, h⟩ := DL.cons_inv h
  obtain ⟨w2, vs, rfl, h2, h⟩ := DL.cons_inv h
  obtain ⟨w3, vs, rfl, h3, h⟩ := DL.cons_inv h
  obtain ⟨w4, vs, rfl, h4, h⟩ := DL.cons_inv h
  obtain rfl := DL.nil_inv h
  obtain rfl : w2 = .int .i64 (k.ev ρ) := h2
  obtain rfl : w3 = .int .i64 (i.ev ρ) := h3
  obtain rfl : w4 = .int .i64 (e.ev ρ) := h4
  obtain ⟨us, h1, rfl⟩ := h1
  obtain ⟨v1, us, rfl, g1, h1⟩ := DL.cons_inv h1
  obtain ⟨v2, us, rfl, g2, h1⟩ := DL.cons_inv h1
  obtain rfl := DL.nil_inv h1
  exact ⟨v1, v2, g1, g2, rfl⟩
theorem mk_end {ρ : Env} {w0 : World} {ds : List D} {s1 s2 : S0} {k i e : E} {m : Mem} {n : Nat} {x1 x2 : X} (h1 : lrows m 3 [.int .i64] s1 = some x1) (e1 : x1.ev ρ = mkC ds) (h2 : lrows m 68 [.int .u64] s2 = some x2) (e2 : x2.ev ρ = mkDi ds)
    (hne : ∀ id v v', s1 = .own id v → s2 = .own id v' → False) (hk : k.ev ρ = mkK ds) (hi : i.ev ρ = mkI ds) (he : e.ev ρ = mkE ds) :
    ∃ ss, LsAre ρ ((.tup [.agg [.z s1, .z s2], .one (.z (.int .i64 k)), .one (.z (.int .i64 i)), .one (.z (.int .i64 e))]), m, n) [nlCh, nlDi] ds ss ∧ ∀ (σ : As) u, ρ.w = w0 → V.den ρ σ (.tup [.agg [.z s1, .z s2], .one (.z (.int .i64 k)), .one (.z (.int .i64 i)), .one (.z (.int .i64 e))]) u → ∃ vs, DL (S0.den ρ σ) ss vs ∧ mkRes w0 ds vs u := by
  refine ⟨[s1, s2], lsAre_two (l1 := nlCh) (l2 := nlDi) h1 e1 h2 e2 hne, fun σ u _ hu => ?_⟩
  obtain ⟨v1, v2, g1, g2, rfl⟩ := cert_den hu
  rw [hk, hi, he]
  exact ⟨[v1, v2], ⟨g1, g2, trivial⟩, v1, v2, rfl, rfl⟩
theorem mk_nil {ρ : Env} {w0 : World} {ds : List D} {k i e : E} {n : Nat} (hc : mkC ds = []) (hd : mkDi ds = []) (hk : k.ev ρ = mkK ds) (hi : i.ev ρ = mkI ds) (he : e.ev ρ = mkE ds) :
    ∃ ss, LsAre ρ ((.tup [.agg [.z (.const (.slice none 0 0)), .z (.const (.slice none 0 0))], .one (.z (.int .i64 k)), .one (.z (.int .i64 i)), .one (.z (.int .i64 e))]), [], n) [nlCh, nlDi] ds ss ∧ ∀ (σ : As) u, ρ.w = w0 → V.den ρ σ (.tup [.agg [.z (.const (.slice none 0 0)), .z (.const (.slice none 0 0))], .one (.z (.int .i64 k)), .one (.z (.int .i64 i)), .one (.z (.int .i64 e))]) u → ∃ vs, DL (S0.den ρ σ) ss vs ∧ mkRes w0 ds vs u :=
  mk_end (x1 := .nil) (x2 := .nil) rfl (by rw [hc]; rfl) rfl (by rw [hd]; rfl) (fun id v v' h => by cases h) hk hi he
theorem N9cb151 (W : World) (ds l : List D) : (envOf N9c W ds).fb 151 l = sheetL l := by simp only [envOf, N9c, N9b, N9, N8, N7, N6, N5, N4, N3, N2, N1, KG, KF, KE, KD, KC, KB, KA, K9, K8, K7, K6, K5, K]
theorem N9cb20 (W : World) (ds l : List D) : (envOf N9c W ds).fb 20 l = psgL l := by simp only [envOf, N9c, N9b, N9, N8, N7, N6, N5, N4, N3, N2, N1, KG, KF, KE, KD, KC, KB, KA, K9, K8, K7, K6, K5, K]
theorem N9cb144 (W : World) (ds l : List D) : (envOf N9c W ds).fb 144 l = kevL l := by simp only [envOf, N9c, N9b, N9, N8, N7, N6, N5, N4, N3, N2, N1, KG, KF, KE, KD, KC, KB, KA, K9, K8, K7, K6, K5, K]
theorem N9cb150 (W : World) (ds l : List D) : (envOf N9c W ds).fb 150 l = tideL l := by simp only [envOf, N9c, N9b, N9, N8, N7, N6, N5, N4, N3, N2, N1, KG, KF, KE, KD, KC, KB, KA, K9, K8, K7, K6, K5, K]
theorem N9ci190 (W : World) (ds l : List D) : (envOf N9c W ds).fi 190 l = legR l := by simp only [envOf, N9c, N9b, N9, N8, N7, N6, N5, N4, N3, N2, N1, KG, KF, KE, KD, KC, KB, KA, K9, K8, K7, K6, K5, K]
theorem N9ci191 (W : World) (ds l : List D) : (envOf N9c W ds).fi 191 l = legE l := by simp only [envOf, N9c, N9b, N9, N8, N7, N6, N5, N4, N3, N2, N1, KG, KF, KE, KD, KC, KB, KA, K9, K8, K7, K6, K5, K]
theorem N9ci230 (W : World) (ds l : List D) : (envOf N9c W ds).fi 230 l = fiJ l := by simp only [envOf, N9c, N9b, N9, N8, N7, N6, N5, N4, N3, N2, N1, KG, KF, KE, KD, KC, KB, KA, K9, K8, K7, K6, K5, K]
theorem N9ci231 (W : World) (ds l : List D) : (envOf N9c W ds).fi 231 l = fiI l := by simp only [envOf, N9c, N9b, N9, N8, N7, N6, N5, N4, N3, N2, N1, KG, KF, KE, KD, KC, KB, KA, K9, K8, K7, K6, K5, K]
theorem N9ci232 (W : World) (ds l : List D) : (envOf N9c W ds).fi 232 l = fiE l := by simp only [envOf, N9c, N9b, N9, N8, N7, N6, N5, N4, N3, N2, N1, KG, KF, KE, KD, KC, KB, KA, K9, K8, K7, K6, K5, K]
theorem N9ci233 (W : World) (ds l : List D) : (envOf N9c W ds).fi 233 l = digI l := by simp only [envOf, N9c, N9b, N9, N8, N7, N6, N5, N4, N3, N2, N1, KG, KF, KE, KD, KC, KB, KA, K9, K8, K7, K6, K5, K]
theorem N9ci234 (W : World) (ds l : List D) : (envOf N9c W ds).fi 234 l = digE l := by simp only [envOf, N9c, N9b, N9, N8, N7, N6, N5, N4, N3, N2, N1, KG, KF, KE, KD, KC, KB, KA, K9, K8, K7, K6, K5, K]
theorem N9cd2 (W : World) (ds l : List D) : (envOf N9c W ds).fd 2 l = fiX l := by simp only [envOf, N9c, N9b, N9, N8, N7, N6, N5, N4, N3, N2, N1, KG, KF, KE, KD, KC, KB, KA, K9, K8, K7, K6, K5, K]
theorem N9cd3 (W : World) (ds l : List D) : (envOf N9c W ds).fd 3 l = fiY l := by simp only [envOf, N9c, N9b, N9, N8, N7, N6, N5, N4, N3, N2, N1, KG, KF, KE, KD, KC, KB, KA, K9, K8, K7, K6, K5, K]
set_option maxHeartbeats 2000000 in
theorem gMake : GivesN Tryz.prog 14 [shes, psg, shp, tid] [nlCh, nlDi] (fun _ => True) mkRes := by
  refine fn_givesN N9c (by kernel_rfl) (fun ρ h => ctO3_ok (Sees.of h 240) (SeesD.of h 4)) (by kernel_rfl) trMake_is trMake_low (by decide) (fun w0 vals ds hr _ => ?_)
  have hlen := shes_len hr
  simp only [trMake, TT.sat_ret, TT.sat_ite, TT.sat_ob, TT.sat_next, TT.sat_stuck, put_i, put_b, put_d, put_fi, put_fb, put_fd, Ob.ok, B.ev, E.ev, X.ev, AL.ev, cmp_t, cmp_f, arEv, V.plain, V2.plain, S.plain, S0.plain, V.val, V2.val, S.val, S0.val, bV, iV, List.all_cons, List.all_nil, Bool.and_true, Bool.and_self, envOf_i, envOf_b, envOf_d, List.map_cons, List.map_nil, true_and, Bool.not_eq_true', Bool.not_eq_false', Bool.not_not, Bool.and_eq_true, and_f, cell_lg, cell_lb, cell_lr, cmpP, val_i, val_b, val_d, aget, Nat.reduceBEq, beq_self_eq_true, Bool.false_eq_true, if_true, if_false, Nat.reduceLT, Nat.reduceSub, Nat.sub_self, Nat.lt_irrefl]
  clear hr
  have Z : ∀ {ρ : Env} {n : Nat}, mkO ds = false → ∃ ss, LsAre ρ ((.tup [.agg [.z (.const (.slice none 0 0)), .z (.const (.slice none 0 0))], .one (.z (.int .i64 (.lit 0))), .one (.z (.int .i64 (.lit 0))), .one (.z (.int .i64 (.lit 1)))]), [], n) [nlCh, nlDi] ds ss ∧ ∀ (σ : As) u, ρ.w = w0 → V.den ρ σ (.tup [.agg [.z (.const (.slice none 0 0)), .z (.const (.slice none 0 0))], .one (.z (.int .i64 (.lit 0))), .one (.z (.int .i64 (.lit 0))), .one (.z (.int .i64 (.lit 1)))]) u → ∃ vs, DL (S0.den ρ σ) ss vs ∧ mkRes w0 ds vs u := fun h => by
    obtain ⟨a, b, c, d, e⟩ := mk_arg h
    exact mk_nil d e (by rw [a]; rfl) (by rw [b]; rfl) (by rw [c]; rfl)
  refine TT.sat_loop (fun v => ∃ i : Nat, v.i 1 = i ∧ i ≤ (rAt ds 0).length ∧ shsN (rAt ds 0) ((rAt ds 0).length - i) i (v.i 0) = shsN (rAt ds 0) (rAt ds 0).length 0 0) (fun v => (rAt ds 0).length - (v.i 1).toNat) ⟨0, by simp [val_i, aget, E.ev], by omega, rfl⟩ (fun v hv => ?_)
  obtain ⟨i, i0, i1, i2⟩ := hv
  have eS : [D.i (lg (rAt ds 0) i 0), .i (lg (rAt ds 0) i 1), .i (lg (rAt ds 0) i 2), .i (lg (rAt ds 0) i 3), .i (lg (rAt ds 0) i 4), .i (lg (rAt ds 0) i 5), .i (lg (rAt ds 0) i 6), .i (lg (rAt ds 0) i 7), .i (lg (rAt ds 0) i 8), .i (lg (rAt ds 0) i 9), .i (lg (rAt ds 0) i 10), .l (lr (rAt ds 0) i 11), .l (lr (rAt ds 0) i 12)] = rowSh (rAt ds 0) i := rfl
  simp only [TT.sat_ret, TT.sat_ite, TT.sat_ob, TT.sat_next, TT.sat_stuck, put_i, put_b, put_d, put_fi, put_fb, put_fd, Ob.ok, B.ev, E.ev, X.ev, AL.ev, cmp_t, cmp_f, arEv, V.plain, V2.plain, S.plain, S0.plain, V.val, V2.val, S.val, S0.val, bV, iV, List.all_cons, List.all_nil, Bool.and_true, Bool.and_self, envOf_i, envOf_b, envOf_d, List.map_cons, List.map_nil, true_and, Bool.not_eq_true', Bool.not_eq_false', Bool.not_not, Bool.and_eq_true, and_f, cell_lg, cell_lb, cell_lr, cmpP, val_i, val_b, val_d, aget, Nat.reduceBEq, beq_self_eq_true, Bool.false_eq_true, if_true, if_false, Nat.reduceLT, Nat.reduceSub, Nat.sub_self, Nat.lt_irrefl, i0, N9cb151, N9cb20, N9cb144, N9cb150, psg_four, kev_3, tide_31, eS]
  have Z1 : shsN (rAt ds 0) (rAt ds 0).length 0 0 = false → mkO ds = false := fun h => by unfold mkO shsB; rw [h]; rfl
  refine ⟨fun hc => ?_, fun hc => ?_⟩
  · obtain ⟨f, hf⟩ : ∃ f, (rAt ds 0).length - i = f + 1 := ⟨(rAt ds 0).length - i - 1, by omega⟩
    have hf' : (rAt ds 0).length - (i + 1) = f := by omega
    rw [hf, shsN] at i2
    rw [wrap_in ((i : Int) + 1) (by omega) (by omega)]
    refine ⟨by omega, hc, fun h => Z (Z1 ?_), fun h => ⟨fun g => Z (Z1 ?_), fun g => ⟨⟨i + 1, rfl, by omega, ?_⟩, by omega⟩⟩⟩
    · rw [← i2, h]; rfl
    · rw [← i2, decide_eq_false (by omega), Bool.and_false, Bool.false_and]
    · rw [hf', ← i2, h, decide_eq_true (by omega)]; rfl
  have h0 : (rAt ds 0).length - i = 0 := by omega
  rw [h0, shsN] at i2
  clear h0 hc i0 i1 eS
  have hO : mkO ds = ((true && decide ((rAt ds 0).length ≤ 20)) && (psgB (iAt ds 1) (iAt ds 2) (iAt ds 3) (rAt ds 4) && (decide (0 < (rAt ds 4).length) && (kevB (iAt ds 5) (iAt ds 6) (rAt ds 7) && tideB (iAt ds 8) (iAt ds 9) (rAt ds 10))))) := by
    unfold mkO shsB; rw [← i2]
  refine ⟨fun h => Z ?_, fun h => ⟨fun p => ⟨fun k0 => ⟨fun q => ⟨fun t => Z ?_, fun t => ?_⟩, fun q => Z ?_⟩, fun k0 => Z ?_⟩, fun p => Z ?_⟩⟩
  · rw [hO, decide_eq_false (p := (rAt ds 0).length ≤ 20) (by omega)]; rfl
  · rw [hO, t]; simp
  rotate_left
  · rw [hO, q]; simp
  · rw [hO, decide_eq_false (p := 0 < (rAt ds 4).length) (by omega)]; simp
  · rw [hO, p]; simp
  rw [p, q, t, decide_eq_true (p := (rAt ds 0).length ≤ 20) (by omega), decide_eq_true (p := 0 < (rAt ds 4).length) (by omega)] at hO
  have hO : mkO ds = true := hO
  have hL4 : (rAt ds 4).length ≤ 40 := by have := (psgB_iff p).2.2.1; omega
  have hrows := shs_rows _ 0 0 i2.symm
  clear Z Z1
  refine TT.sat_loop (fun x => ∃ k : Nat, x.i 0 = k ∧ k ≤ (rAt ds 4).length ∧ x.d 2 = chN ds k ∧ x.d 4 = diN ds k ∧ ∀ l, l < k → fiE (fq ds l) = 0) (fun x => (rAt ds 4).length - (x.i 0).toNat) ⟨0, by simp [val_i, aget, E.ev], by omega, by simp [val_d, aget, X.ev, chN], by simp [val_d, aget, X.ev, diN], fun l hl => absurd hl (Nat.not_lt_zero _)⟩ (fun x hx => ?_)
  obtain ⟨k, k1, k2, k3, k4, k5⟩ := hx
  have eQ : [D.i (iAt ds 1), .i (iAt ds 2), .i (iAt ds 3), .l (rAt ds 4), .i (iAt ds 5), .i (iAt ds 6), .l (rAt ds 7), .i (iAt ds 8), .i (iAt ds 9), .l (rAt ds 10), .l (rAt ds 0), .i k] = fq ds k := rfl
  have eF : [D.i (fiJ (.i 0 :: fq ds k)), .i (fiJ (.i 1 :: fq ds k)), .i (fiJ (.i 2 :: fq ds k)), .i (fiJ (.i 3 :: fq ds k)), .i (fiJ (.i 4 :: fq ds k)), .i (fiJ (.i 5 :: fq ds k)), .i (fiJ (.i 6 :: fq ds k)), .i (fiJ (.i 7 :: fq ds k)), .i (fiJ (.i 8 :: fq ds k)), .i (fiJ (.i 9 :: fq ds k)), .i (fiJ (.i 10 :: fq ds k)), .l (fiX (fq ds k)), .l (fiY (fq ds k))] = shF ds k := rfl
  simp only [TT.sat_ret, TT.sat_ite, TT.sat_ob, TT.sat_next, TT.sat_stuck, put_i, put_b, put_d, put_fi, put_fb, put_fd, Ob.ok, B.ev, E.ev, X.ev, AL.ev, cmp_t, cmp_f, arEv, V.plain, V2.plain, S.plain, S0.plain, V.val, V2.val, S.val, S0.val, bV, iV, List.all_cons, List.all_nil, Bool.and_true, Bool.and_self, envOf_i, envOf_b, envOf_d, List.map_cons, List.map_nil, true_and, Bool.not_eq_true', Bool.not_eq_false', Bool.not_not, Bool.and_eq_true, and_f, cell_lg, cell_lb, cell_lr, cmpP, val_i, val_b, val_d, aget, Nat.reduceBEq, beq_self_eq_true, Bool.false_eq_true, if_true, if_false, Nat.reduceLT, Nat.reduceSub, Nat.sub_self, Nat.lt_irrefl, X.ev, k1, k3, k4, N9ci230, N9ci231, N9ci232, N9ci233, N9ci234, N9cd2, N9cd3, eQ, eF]
  refine ⟨fun hc => ⟨fun h => ?_, fun h => ?_⟩, fun hc => ?_⟩
  · obtain ⟨a, b, c, d, e⟩ := mk_stop hO (show k < (rAt ds 4).length by omega) k5 h
    refine mk_nil d e ?_ ?_ ?_
    · simp only [TT.sat_ret, TT.sat_ite, TT.sat_ob, TT.sat_next, TT.sat_stuck, put_i, put_b, put_d, put_fi, put_fb, put_fd, Ob.ok, B.ev, E.ev, X.ev, AL.ev, cmp_t, cmp_f, arEv, V.plain, V2.plain, S.plain, S0.plain, V.val, V2.val, S.val, S0.val, bV, iV, List.all_cons, List.all_nil, Bool.and_true, Bool.and_self, envOf_i, envOf_b, envOf_d, List.map_cons, List.map_nil, true_and, Bool.not_eq_true', Bool.not_eq_false', Bool.not_not, Bool.and_eq_true, and_f, cell_lg, cell_lb, cell_lr, cmpP, val_i, val_b, val_d, aget, Nat.reduceBEq, beq_self_eq_true, Bool.false_eq_true, if_true, if_false, Nat.reduceLT, Nat.reduceSub, Nat.sub_self, Nat.lt_irrefl, k1]; rw [a]
    · simp only [TT.sat_ret, TT.sat_ite, TT.sat_ob, TT.sat_next, TT.sat_stuck, put_i, put_b, put_d, put_fi, put_fb, put_fd, Ob.ok, B.ev, E.ev, X.ev, AL.ev, cmp_t, cmp_f, arEv, V.plain, V2.plain, S.plain, S0.plain, V.val, V2.val, S.val, S0.val, bV, iV, List.all_cons, List.all_nil, Bool.and_true, Bool.and_self, envOf_i, envOf_b, envOf_d, List.map_cons, List.map_nil, true_and, Bool.not_eq_true', Bool.not_eq_false', Bool.not_not, Bool.and_eq_true, and_f, cell_lg, cell_lb, cell_lr, cmpP, val_i, val_b, val_d, aget, Nat.reduceBEq, beq_self_eq_true, Bool.false_eq_true, if_true, if_false, Nat.reduceLT, Nat.reduceSub, Nat.sub_self, Nat.lt_irrefl, k1, N9ci231, eQ]; rw [b]
    · simp only [TT.sat_ret, TT.sat_ite, TT.sat_ob, TT.sat_next, TT.sat_stuck, put_i, put_b, put_d, put_fi, put_fb, put_fd, Ob.ok, B.ev, E.ev, X.ev, AL.ev, cmp_t, cmp_f, arEv, V.plain, V2.plain, S.plain, S0.plain, V.val, V2.val, S.val, S0.val, bV, iV, List.all_cons, List.all_nil, Bool.and_true, Bool.and_self, envOf_i, envOf_b, envOf_d, List.map_cons, List.map_nil, true_and, Bool.not_eq_true', Bool.not_eq_false', Bool.not_not, Bool.and_eq_true, and_f, cell_lg, cell_lb, cell_lr, cmpP, val_i, val_b, val_d, aget, Nat.reduceBEq, beq_self_eq_true, Bool.false_eq_true, if_true, if_false, Nat.reduceLT, Nat.reduceSub, Nat.sub_self, Nat.lt_irrefl, k1, N9ci232, eQ]; rw [c]
  · have h : fiE (fq ds k) = 0 := Decidable.not_not.mp h
    obtain ⟨j, j1, _, _, j4⟩ := shF_row h
    have hd : digE (shF ds k) = 0 := by unfold digE; rw [j4, hrows j (Nat.zero_le _) (by omega), if_pos rfl]
    refine ⟨fun g => absurd hd g, fun _ => ⟨?_, ?_, ?_⟩⟩
    · simp only [List.length_append, chN_len, List.length_cons, List.length_nil]; omega
    · simp only [List.length_append, diN_len, List.length_cons, List.length_nil]; omega
    · rw [wrap_in ((k : Int) + 1) (by omega) (by omega)]
      refine ⟨⟨k + 1, rfl, by omega, rfl, rfl, fun l hl => ?_⟩, by omega⟩
      by_cases e : l = k
      · subst e; exact h
      · exact k5 l (by omega)
  · obtain rfl : k = (rAt ds 4).length := by omega
    obtain ⟨a, b, c, d, e⟩ := mk_all hO k5
    exact mk_end (x1 := .var 10002) (x2 := .var 10004) (by kernel_rfl) (by simp only [TT.sat_ret, TT.sat_ite, TT.sat_ob, TT.sat_next, TT.sat_stuck, put_i, put_b, put_d, put_fi, put_fb, put_fd, Ob.ok, B.ev, E.ev, X.ev, AL.ev, cmp_t, cmp_f, arEv, V.plain, V2.plain, S.plain, S0.plain, V.val, V2.val, S.val, S0.val, bV, iV, List.all_cons, List.all_nil, Bool.and_true, Bool.and_self, envOf_i, envOf_b, envOf_d, List.map_cons, List.map_nil, true_and, Bool.not_eq_true', Bool.not_eq_false', Bool.not_not, Bool.and_eq_true, and_f, cell_lg, cell_lb, cell_lr, cmpP, val_i, val_b, val_d, aget, Nat.reduceBEq, beq_self_eq_true, Bool.false_eq_true, if_true, if_false, Nat.reduceLT, Nat.reduceSub, Nat.sub_self, Nat.lt_irrefl, X.ev, k3]; rw [d]) (by kernel_rfl) (by simp only [TT.sat_ret, TT.sat_ite, TT.sat_ob, TT.sat_next, TT.sat_stuck, put_i, put_b, put_d, put_fi, put_fb, put_fd, Ob.ok, B.ev, E.ev, X.ev, AL.ev, cmp_t, cmp_f, arEv, V.plain, V2.plain, S.plain, S0.plain, V.val, V2.val, S.val, S0.val, bV, iV, List.all_cons, List.all_nil, Bool.and_true, Bool.and_self, envOf_i, envOf_b, envOf_d, List.map_cons, List.map_nil, true_and, Bool.not_eq_true', Bool.not_eq_false', Bool.not_not, Bool.and_eq_true, and_f, cell_lg, cell_lb, cell_lr, cmpP, val_i, val_b, val_d, aget, Nat.reduceBEq, beq_self_eq_true, Bool.false_eq_true, if_true, if_false, Nat.reduceLT, Nat.reduceSub, Nat.sub_self, Nat.lt_irrefl, X.ev, k4]; rw [e]) (fun id v v' h h' => by cases h; cases h') (by rw [a]; rfl) (by rw [b]; rfl) (by rw [c]; rfl)
/-! Verify -/
def idxN (r : Rows) (c : Int) : Nat → Nat → Nat
  | 0, i => i
  | f + 1, i => if lg r i 0 = c then i else idxN r c f (i + 1)
def verI (ds : List D) (k : Nat) : Nat := idxN (rAt ds 0) (lg (rAt ds 11) k 0) (rAt ds 0).length 0
def verK (ds : List D) (k : Nat) : Bool := decide (verI ds k < (rAt ds 0).length) && (decide (digE (rowSh (rAt ds 0) (verI ds k)) = 0) && (decide (digI (rowSh (rAt ds 0) (verI ds k)) = lg (rAt ds 12) k 0) && decide (legE (rowLeg (mkD ds k) (verI ds k)) = 0)))
def verN (ds : List D) : Nat → Nat → Bool
  | 0, _ => true
  | f + 1, k => verK ds k && verN ds f (k + 1)
def verR (ds : List D) : Bool := mkO ds && (decide ((rAt ds 11).length = (rAt ds 4).length ∧ (rAt ds 12).length = (rAt ds 4).length) && verN ds (rAt ds 4).length 0)
def verE (ds : List D) : Int := if mkO ds then 0 else 1
set_option maxHeartbeats 2000000 in
theorem gVerify : Gives Tryz.prog 15 [shes, psg, shp, tid, certS] (fun ds => .tuple #[.bool (verR ds), .int .i64 (verE ds)]) := by
  refine GivesIf.all (fn_gives N9c (by kernel_rfl) (fun ρ h => ctO3_ok (Sees.of h 240) (SeesD.of h 4)) (by kernel_rfl) trVerify_is trVerify_low (by decide) (fun W vals ds hr _ => ?_))
  have hlen := shes_len hr
  simp only [trVerify, TT.sat_ret, TT.sat_ite, TT.sat_ob, TT.sat_next, TT.sat_stuck, put_i, put_b, put_d, put_fi, put_fb, put_fd, Ob.ok, B.ev, E.ev, X.ev, AL.ev, cmp_t, cmp_f, arEv, V.plain, V2.plain, S.plain, S0.plain, V.val, V2.val, S.val, S0.val, bV, iV, List.all_cons, List.all_nil, Bool.and_true, Bool.and_self, envOf_i, envOf_b, envOf_d, List.map_cons, List.map_nil, true_and, Bool.not_eq_true', Bool.not_eq_false', Bool.not_not, Bool.and_eq_true, and_f, cell_lg, cell_lb, cell_lr, cmpP, val_i, val_b, val_d, aget, Nat.reduceBEq, beq_self_eq_true, Bool.false_eq_true, if_true, if_false, Nat.reduceLT, Nat.reduceSub, Nat.sub_self, Nat.lt_irrefl]
  clear hr
  have Z : mkO ds = false → Value.tuple #[.bool false, .int .i64 1] = Value.tuple #[.bool (verR ds), .int .i64 (verE ds)] := fun h => by unfold verR verE; rw [h]; rfl
  refine TT.sat_loop (fun v => ∃ i : Nat, v.i 1 = i ∧ i ≤ (rAt ds 0).length ∧ shsN (rAt ds 0) ((rAt ds 0).length - i) i (v.i 0) = shsN (rAt ds 0) (rAt ds 0).length 0 0) (fun v => (rAt ds 0).length - (v.i 1).toNat) ⟨0, by simp [val_i, aget, E.ev], by omega, rfl⟩ (fun v hv => ?_)
  obtain ⟨i, i0, i1, i2⟩ := hv
  have eS : ∀ i : Nat, [D.i (lg (rAt ds 0) i 0), .i (lg (rAt ds 0) i 1), .i (lg (rAt ds 0) i 2), .i (lg (rAt ds 0) i 3), .i (lg (rAt ds 0) i 4), .i (lg (rAt ds 0) i 5), .i (lg (rAt ds 0) i 6), .i (lg (rAt ds 0) i 7), .i (lg (rAt ds 0) i 8), .i (lg (rAt ds 0) i 9), .i (lg (rAt ds 0) i 10), .l (lr (rAt ds 0) i 11), .l (lr (rAt ds 0) i 12)] = rowSh (rAt ds 0) i := fun _ => rfl
  simp only [TT.sat_ret, TT.sat_ite, TT.sat_ob, TT.sat_next, TT.sat_stuck, put_i, put_b, put_d, put_fi, put_fb, put_fd, Ob.ok, B.ev, E.ev, X.ev, AL.ev, cmp_t, cmp_f, arEv, V.plain, V2.plain, S.plain, S0.plain, V.val, V2.val, S.val, S0.val, bV, iV, List.all_cons, List.all_nil, Bool.and_true, Bool.and_self, envOf_i, envOf_b, envOf_d, List.map_cons, List.map_nil, true_and, Bool.not_eq_true', Bool.not_eq_false', Bool.not_not, Bool.and_eq_true, and_f, cell_lg, cell_lb, cell_lr, cmpP, val_i, val_b, val_d, aget, Nat.reduceBEq, beq_self_eq_true, Bool.false_eq_true, if_true, if_false, Nat.reduceLT, Nat.reduceSub, Nat.sub_self, Nat.lt_irrefl, i0, N9cb151, N9cb20, N9cb144, N9cb150, psg_four, kev_3, tide_31, eS]
  have Z1 : shsN (rAt ds 0) (rAt ds 0).length 0 0 = false → mkO ds = false := fun h => by unfold mkO shsB; rw [h]; rfl
  refine ⟨fun hc => ?_, fun hc => ?_⟩
  · obtain ⟨f, hf⟩ : ∃ f, (rAt ds 0).length - i = f + 1 := ⟨(rAt ds 0).length - i - 1, by omega⟩
    have hf' : (rAt ds 0).length - (i + 1) = f := by omega
    rw [hf, shsN] at i2
    rw [wrap_in ((i : Int) + 1) (by omega) (by omega)]
    refine ⟨by omega, hc, fun h => Z (Z1 ?_), fun h => ⟨fun g => Z (Z1 ?_), fun g => ⟨⟨i + 1, rfl, by omega, ?_⟩, by omega⟩⟩⟩
    · rw [← i2, h]; rfl
    · rw [← i2, decide_eq_false (by omega), Bool.and_false, Bool.false_and]
    · rw [hf', ← i2, h, decide_eq_true (by omega)]; rfl
  have h0 : (rAt ds 0).length - i = 0 := by omega
  rw [h0, shsN] at i2
  clear h0 hc i0 i1
  have hO : mkO ds = ((true && decide ((rAt ds 0).length ≤ 20)) && (psgB (iAt ds 1) (iAt ds 2) (iAt ds 3) (rAt ds 4) && (decide (0 < (rAt ds 4).length) && (kevB (iAt ds 5) (iAt ds 6) (rAt ds 7) && tideB (iAt ds 8) (iAt ds 9) (rAt ds 10))))) := by
    unfold mkO shsB; rw [← i2]
  have R : mkO ds = true → ∀ b, (decide ((rAt ds 11).length = (rAt ds 4).length ∧ (rAt ds 12).length = (rAt ds 4).length) && verN ds (rAt ds 4).length 0) = b → Value.tuple #[.bool b, .int .i64 0] = Value.tuple #[.bool (verR ds), .int .i64 (verE ds)] := fun h b hb => by unfold verR verE; rw [h, hb]; rfl
  refine ⟨fun h => Z ?_, fun h => ⟨fun p => ⟨fun k0 => ⟨fun q => ⟨fun t => Z ?_, fun t => ?_⟩, fun q => Z ?_⟩, fun k0 => Z ?_⟩, fun p => Z ?_⟩⟩
  · rw [hO, decide_eq_false (p := (rAt ds 0).length ≤ 20) (by omega)]; rfl
  · rw [hO, t]; simp
  rotate_left
  · rw [hO, q]; simp
  · rw [hO, decide_eq_false (p := 0 < (rAt ds 4).length) (by omega)]; simp
  · rw [hO, p]; simp
  rw [p, q, t, decide_eq_true (p := (rAt ds 0).length ≤ 20) (by omega), decide_eq_true (p := 0 < (rAt ds 4).length) (by omega)] at hO
  have R := R hO
  have hL4 : (rAt ds 4).length ≤ 40 := by have := (psgB_iff p).2.2.1; omega
  clear Z Z1 hO
  refine ⟨fun a => R _ (by rw [decide_eq_false (by omega)]; rfl), fun a => ⟨fun b => R _ (by rw [decide_eq_false (by omega)]; rfl), fun b => ?_⟩⟩
  have R : ∀ b, verN ds (rAt ds 4).length 0 = b → _ := fun b hb => R b (by rw [decide_eq_true (by omega), Bool.true_and]; exact hb)
  refine TT.sat_loop (fun x => ∃ k : Nat, x.i 0 = k ∧ k ≤ (rAt ds 4).length ∧ verN ds ((rAt ds 4).length - k) k = verN ds (rAt ds 4).length 0) (fun x => (rAt ds 4).length - (x.i 0).toNat) ⟨0, by simp [val_i, aget, E.ev], by omega, rfl⟩ (fun x hx => ?_)
  obtain ⟨k, k1, k2, k3⟩ := hx
  simp only [TT.sat_ret, TT.sat_ite, TT.sat_ob, TT.sat_next, TT.sat_stuck, put_i, put_b, put_d, put_fi, put_fb, put_fd, Ob.ok, B.ev, E.ev, X.ev, AL.ev, cmp_t, cmp_f, arEv, V.plain, V2.plain, S.plain, S0.plain, V.val, V2.val, S.val, S0.val, bV, iV, List.all_cons, List.all_nil, Bool.and_true, Bool.and_self, envOf_i, envOf_b, envOf_d, List.map_cons, List.map_nil, true_and, Bool.not_eq_true', Bool.not_eq_false', Bool.not_not, Bool.and_eq_true, and_f, cell_lg, cell_lb, cell_lr, cmpP, val_i, val_b, val_d, aget, Nat.reduceBEq, beq_self_eq_true, Bool.false_eq_true, if_true, if_false, Nat.reduceLT, Nat.reduceSub, Nat.sub_self, Nat.lt_irrefl, k1]
  refine ⟨fun hc => ?_, fun hc => ?_⟩
  rotate_left
  · have h0 : (rAt ds 4).length - k = 0 := by omega
    rw [h0, verN] at k3
    exact R _ k3.symm
  obtain ⟨f, hf⟩ : ∃ f, (rAt ds 4).length - k = f + 1 := ⟨(rAt ds 4).length - k - 1, by omega⟩
  have hf' : (rAt ds 4).length - (k + 1) = f := by omega
  rw [hf, verN] at k3
  have no : verK ds k = false → Value.tuple #[.bool false, .int .i64 0] = Value.tuple #[.bool (verR ds), .int .i64 (verE ds)] := fun g => R _ (by rw [← k3, g]; rfl)
  refine ⟨by omega, hc, ?_⟩
  refine TT.sat_loop (fun y => ∃ j : Nat, y.i 0 = j ∧ j ≤ (rAt ds 0).length ∧ idxN (rAt ds 0) (lg (rAt ds 11) k 0) ((rAt ds 0).length - j) j = verI ds k) (fun y => (rAt ds 0).length - (y.i 0).toNat) ⟨0, by simp [val_i, aget, E.ev], by omega, rfl⟩ (fun y hy => ?_)
  obtain ⟨j, j1, j2, j3⟩ := hy
  have eL : [D.i (lg (rAt ds 0) j 0), .i (lg (rAt ds 0) j 1), .i (lg (rAt ds 0) j 2), .i (lg (rAt ds 0) j 3), .i (lg (rAt ds 0) j 4), .i (lg (rAt ds 0) j 5), .i (lg (rAt ds 0) j 6), .i (lg (rAt ds 0) j 7), .i (lg (rAt ds 0) j 8), .i (lg (rAt ds 0) j 9), .i (lg (rAt ds 0) j 10), .l (lr (rAt ds 0) j 11), .l (lr (rAt ds 0) j 12), .i (iAt ds 1), .i (iAt ds 2), .i (iAt ds 3), .l (rAt ds 4), .i k, .i (iAt ds 5), .i (iAt ds 6), .l (rAt ds 7), .i (iAt ds 8), .i (iAt ds 9), .l (rAt ds 10)] = rowLeg (mkD ds k) j := rfl
  simp only [TT.sat_ret, TT.sat_ite, TT.sat_ob, TT.sat_next, TT.sat_stuck, put_i, put_b, put_d, put_fi, put_fb, put_fd, Ob.ok, B.ev, E.ev, X.ev, AL.ev, cmp_t, cmp_f, arEv, V.plain, V2.plain, S.plain, S0.plain, V.val, V2.val, S.val, S0.val, bV, iV, List.all_cons, List.all_nil, Bool.and_true, Bool.and_self, envOf_i, envOf_b, envOf_d, List.map_cons, List.map_nil, true_and, Bool.not_eq_true', Bool.not_eq_false', Bool.not_not, Bool.and_eq_true, and_f, cell_lg, cell_lb, cell_lr, cmpP, val_i, val_b, val_d, aget, Nat.reduceBEq, beq_self_eq_true, Bool.false_eq_true, if_true, if_false, Nat.reduceLT, Nat.reduceSub, Nat.sub_self, Nat.lt_irrefl, k1, j1, N9ci191, N9ci233, N9ci234, eS, eL]
  refine ⟨fun hd => ?_, fun hd => ?_⟩
  rotate_left
  · have h0 : (rAt ds 0).length - j = 0 := by omega
    rw [h0, idxN] at j3
    exact no (by unfold verK; rw [decide_eq_false (p := verI ds k < (rAt ds 0).length) (by omega)]; rfl)
  obtain ⟨f2, hf2⟩ : ∃ f, (rAt ds 0).length - j = f + 1 := ⟨(rAt ds 0).length - j - 1, by omega⟩
  have hf2' : (rAt ds 0).length - (j + 1) = f2 := by omega
  rw [hf2, idxN] at j3
  rw [wrap_in ((k : Int) + 1) (by omega) (by omega), wrap_in ((j : Int) + 1) (by omega) (by omega)]
  refine ⟨by omega, hd, fun g => ?_, fun g => ⟨⟨j + 1, rfl, by omega, by rw [hf2', ← j3, if_neg g]⟩, by omega⟩⟩
  rw [if_pos g] at j3
  have eK : verK ds k = (decide (digE (rowSh (rAt ds 0) j) = 0) && (decide (digI (rowSh (rAt ds 0) j) = lg (rAt ds 12) k 0) && decide (legE (rowLeg (mkD ds k) j) = 0))) := by
    unfold verK; rw [← j3, decide_eq_true (p := j < (rAt ds 0).length) (by omega)]; rfl
  refine ⟨fun z => absurd z (by omega), fun _ => ⟨by omega, hd, fun u => no (by rw [eK, decide_eq_false u]; rfl), fun u => ⟨by omega, by omega, fun w => no (by rw [eK, decide_eq_false w]; simp), fun w => ⟨by omega, hd, fun s => no (by rw [eK, decide_eq_false s]; simp), fun s => ?_⟩⟩⟩⟩
  have u := Decidable.not_not.mp u
  have w := Decidable.not_not.mp w
  have s := Decidable.not_not.mp s
  rw [decide_eq_true u, decide_eq_true w, decide_eq_true s] at eK
  refine ⟨⟨k + 1, rfl, by omega, ?_⟩, by omega⟩
  rw [hf', ← k3, eK]; rfl
def N10 : Interp where
  fi n l := match n with | 240 => mkK l | 241 => mkI l | 242 => mkE l | 244 => verE l | n => N9c.fi n l
  fb n l := match n with | 243 => verR l | n => N9c.fb n l
  fd n l := match n with | 4 => mkC l | 5 => mkDi l | n => N9c.fd n l
theorem N10_N9cd {ρ : Env} (h : SeesD ρ N10 6) : SeesD ρ N9c 4 := fun n l hn => by
  rw [h n l (by omega)]
  simp only [N10]
  split <;> first | omega | rfl
theorem N10_N9c {ρ : Env} (h : Sees ρ N10 250) : Sees ρ N9c 240 := h.trans (by decide) fun n l hn => by
  refine ⟨?_, ?_⟩
  ·
    simp only [N10]
    split <;> first | omega | rfl
  ·
    simp only [N10]
    split <;> first | omega | rfl
def cMake (args : List V) (_mem : Mem) (nx : Nat) : T OpR := match argsE [shes, psg, shp, tid] args with
  | some al => ctN [nlCh, nlDi] [] (.tup [.agg [.z (.own nx (.lit 0)), .z (.own (nx + 1) (.lit 0))], .one (.z (.int .i64 (.fn 240 al))), .one (.z (.int .i64 (.fn 241 al))), .one (.z (.int .i64 (.fn 242 al)))]) al nx
  | none => .stuck "Make"
theorem cMake_ok {ρ : Env} (h : Sees ρ N10 250) (hd : SeesD ρ N10 6) : CtOne Tryz.prog ρ 14 cMake := by
  intro args mem nx q hq hle σ W vals hr hfr hdl
  unfold cMake at hq
  split at hq
  · rename_i al ha
    refine ctN_ok gMake ha (fun _ => trivial) (fun l hl a => ?_) hq (fun σ' vs u hv hl hres => ?_) hr hfr hdl
    · rcases List.mem_cons.1 hl with rfl | hl
      · show ρ.fd 4 a = mkC a
        rw [hd 4 _ (by decide)]; simp only [N10]
      · obtain rfl := List.mem_singleton.1 hl
        show ρ.fd 5 a = mkDi a
        rw [hd 5 _ (by decide)]; simp only [N10]
    · obtain ⟨a, b, rfl, rfl⟩ := hres
      obtain ⟨a1, a2, a3, a4, a5⟩ := hv 0 a rfl
      obtain ⟨b1, b2, b3, b4, b5⟩ := hv 1 b rfl
      have e0 : Value.int .i64 (mkK (al.ev ρ)) = .int .i64 ((E.fn 240 al).ev ρ) := by simp only [E.ev]; rw [(h 240 _ (by decide)).1]; simp only [N10]
      have e1 : Value.int .i64 (mkI (al.ev ρ)) = .int .i64 ((E.fn 241 al).ev ρ) := by simp only [E.ev]; rw [(h 241 _ (by decide)).1]; simp only [N10]
      have e2 : Value.int .i64 (mkE (al.ev ρ)) = .int .i64 ((E.fn 242 al).ev ρ) := by simp only [E.ev]; rw [(h 242 _ (by decide)).1]; simp only [N10]
      exact ⟨[_, _, _, _], ⟨⟨[a, b], ⟨⟨⟨a2, a3, a4, a5⟩, a1⟩, ⟨⟨b2, b3, b4, b5⟩, b1⟩, trivial⟩, rfl⟩, e0, e1, e2, trivial⟩, rfl⟩
  · exact hq.elim
def cVerify := ctD [shes, psg, shp, tid, certS] fun al => .ret (.tup [.one (sBF 243 verR al), .one (sIF 244 verE al)])
theorem cVerify_ok {ρ : Env} (h : Sees ρ N10 250) : CtOne Tryz.prog ρ 15 cVerify :=
  ctD_ok gVerify (fun _ => rfl) (fun al => by simp only [V.val, V2.val, S.val, S0.val, sIF, sBF, List.map_cons, List.map_nil, bF_ev (s := 243) (f := verR) (fun l => by rw [(h 243 l (by decide)).2]; simp only [N10, N9c, N9b, N9, N8, N7, N6, N5, N4, N3, N2, N1, KG, KF, KE, KD, KC, KB, KA, K9, K8, K7, K6, K5, K]), iF_ev (s := 244) (f := verE) (fun l => by rw [(h 244 l (by decide)).1]; simp only [N10, N9c, N9b, N9, N8, N7, N6, N5, N4, N3, N2, N1, KG, KF, KE, KD, KC, KB, KA, K9, K8, K7, K6, K5, K])]; try rfl)
def ctO4 : Ct := (14, cMake) :: (15, cVerify) :: ctO3
theorem ctO4_ok {ρ : Env} (h : Sees ρ N10 250) (hd : SeesD ρ N10 6) : CtOk Tryz.prog ρ ctO4 := .cons (cMake_ok h hd) <| .cons (cVerify_ok h) (ctO3_ok (N10_N9c h) (N10_N9cd hd))
end Go.Proofs.YtkjjkckcjgkhmaaGreat
/- Chapter 40: trees of feature.Shown, datum.Fits. -/
namespace Go.Proofs.YtkjjkckcjgkhmaaGreat
open Go.RowKit
def ctV1 : Ct := (167, cPoIn) :: ctO4
def trFits : TT OpR :=
(.ite (.not (.fn 145 (.i (.var 0) (.i (.var 1) (.i (.var 2) (.i (.var 3) (.i (.var 4) (.i (.var 5) (.i (.var 6) .nil)))))))))
 (.ret ((.tup [(.one (.z (.bool (.lit false)))), (.one (.z (.int .i64 (.lit 1))))]), [], 3))
 (.ite (.not (.fn 3 (.i (.var 7) (.i (.var 8) .nil))))
 (.ret ((.tup [(.one (.z (.bool (.lit false)))), (.one (.z (.int .i64 (.lit 1))))]), [], 3))
 (.ite (.not (.fn 3 (.i (.var 9) (.i (.var 10) .nil))))
 (.ret ((.tup [(.one (.z (.bool (.lit false)))), (.one (.z (.int .i64 (.lit 1))))]), [], 3))
 (.ret ((.tup [(.one (.z (.bool (.cmp .leq (.mx (.mx (.mx (.ar .sub .i64 (.ar .mul .i64 (.lit 1000000) (.var 9)) (.ar .add .i64 (.ar .add .i64 (.ar .mul .i64 (.var 0) (.var 7)) (.ar .mul .i64 (.var 1) (.var 8))) (.ar .mul .i64 (.lit 1000000) (.var 2)))) (.ar .sub .i64 (.lit 0) (.ar .sub .i64 (.ar .mul .i64 (.lit 1000000) (.var 9)) (.ar .add .i64 (.ar .add .i64 (.ar .mul .i64 (.var 0) (.var 7)) (.ar .mul .i64 (.var 1) (.var 8))) (.ar .mul .i64 (.lit 1000000) (.var 2)))))) (.ar .sub .i64 (.ar .mul .i64 (.lit 1000000) (.var 10)) (.ar .add .i64 (.ar .add .i64 (.ar .mul .i64 (.var 3) (.var 7)) (.ar .mul .i64 (.var 4) (.var 8))) (.ar .mul .i64 (.lit 1000000) (.var 5))))) (.ar .sub .i64 (.lit 0) (.ar .sub .i64 (.ar .mul .i64 (.lit 1000000) (.var 10)) (.ar .add .i64 (.ar .add .i64 (.ar .mul .i64 (.var 3) (.var 7)) (.ar .mul .i64 (.var 4) (.var 8))) (.ar .mul .i64 (.lit 1000000) (.var 5)))))) (.ar .mul .i64 (.lit 1000000) (.var 6)))))), (.one (.z (.int .i64 (.lit 0))))]), [], 10)))))
set_option maxRecDepth 100000 in
theorem trFits_is : T.norm 0 (call Tryz.prog ctV1 (Lt.of []) 100 29 (symArgs 0 [dat, pt, pt]) [] 0) TT.ret = trFits := by kernel_rfl
theorem trFits_low : trFits.low 1000 = true := by kernel_rfl
def trFeShown : TT OpR :=
(.ite (.not (.fn 146 (.x (.var 0) .nil)))
 (.ret ((.tup [(.one (.z (.int .i64 (.lit 0)))), (.one (.z (.int .i64 (.lit 1))))]), [], 1))
 (.ite (.not (.fn 3 (.i (.var 1) (.i (.var 2) .nil))))
 (.ret ((.tup [(.one (.z (.int .i64 (.lit 0)))), (.one (.z (.int .i64 (.lit 1))))]), [], 1))
 (.loop 0 2000 ⟨[(1, (.lit 100000)), (0, (.lit 0))], [], []⟩
 (.ite (.cmp .lss (.var 2000) (.len (.var 0)))
 (.ob (.tru (.cmp .leq (.lit 0) (.var 2000)))
 (.ob (.tru (.cmp .lss (.var 2000) (.len (.var 0))))
 (.ite (.cmp .lss (.rd (.var 0) (.var 2000) 6) (.var 2001))
 (.ite (.cmp .eql (.rd (.var 0) (.var 2000) 1) (.lit 4))
 (.next 0 ⟨[(1, (.var 2001)), (0, (.ar .add .i64 (.var 2000) (.lit 1)))], [], []⟩)
 (.ite (.cmp .eql (.rd (.var 0) (.var 2000) 1) (.lit 3))
 (.ite (.cmp .eql (.rd (.var 0) (.var 2000) 1) (.lit 3))
 (.ite (.cmp .eql (.fn 71 (.i (.var 1) (.i (.var 2) (.x (.rd (.var 0) (.var 2000) 5) .nil)))) (.lit 0))
 (.ite (.cmp .geq (.fn 70 (.i (.var 1) (.i (.var 2) (.x (.rd (.var 0) (.var 2000) 5) .nil)))) (.lit 0))
 (.next 0 ⟨[(1, (.rd (.var 0) (.var 2000) 6)), (0, (.ar .add .i64 (.var 2000) (.lit 1)))], [], []⟩)
 (.next 0 ⟨[(1, (.var 2001)), (0, (.ar .add .i64 (.var 2000) (.lit 1)))], [], []⟩))
 (.next 0 ⟨[(1, (.var 2001)), (0, (.ar .add .i64 (.var 2000) (.lit 1)))], [], []⟩))
 (.ite (.cmp .eql (.fn 13 (.i (.var 1) (.i (.var 2) (.i (.rd (.var 0) (.var 2000) 2) (.i (.rd (.var 0) (.var 2000) 3) (.i (.rd (.var 0) (.var 2000) 2) (.i (.rd (.var 0) (.var 2000) 3) (.i (.rd (.var 0) (.var 2000) 4) .nil)))))))) (.lit 0))
 (.ite (.fn 7 (.i (.var 1) (.i (.var 2) (.i (.rd (.var 0) (.var 2000) 2) (.i (.rd (.var 0) (.var 2000) 3) (.i (.rd (.var 0) (.var 2000) 2) (.i (.rd (.var 0) (.var 2000) 3) (.i (.rd (.var 0) (.var 2000) 4) .nil))))))))
 (.next 0 ⟨[(1, (.rd (.var 0) (.var 2000) 6)), (0, (.ar .add .i64 (.var 2000) (.lit 1)))], [], []⟩)
 (.next 0 ⟨[(1, (.var 2001)), (0, (.ar .add .i64 (.var 2000) (.lit 1)))], [], []⟩))
 (.next 0 ⟨[(1, (.var 2001)), (0, (.ar .add .i64 (.var 2000) (.lit 1)))], [], []⟩)))
 (.ite (.cmp .eql (.rd (.var 0) (.var 2000) 1) (.lit 6))
 (.ite (.cmp .eql (.fn 71 (.i (.var 1) (.i (.var 2) (.x (.rd (.var 0) (.var 2000) 5) .nil)))) (.lit 0))
 (.ite (.cmp .geq (.fn 70 (.i (.var 1) (.i (.var 2) (.x (.rd (.var 0) (.var 2000) 5) .nil)))) (.lit 0))
 (.next 0 ⟨[(1, (.rd (.var 0) (.var 2000) 6)), (0, (.ar .add .i64 (.var 2000) (.lit 1)))], [], []⟩)
 (.next 0 ⟨[(1, (.var 2001)), (0, (.ar .add .i64 (.var 2000) (.lit 1)))], [], []⟩))
 (.next 0 ⟨[(1, (.var 2001)), (0, (.ar .add .i64 (.var 2000) (.lit 1)))], [], []⟩))
 (.ite (.cmp .eql (.fn 13 (.i (.var 1) (.i (.var 2) (.i (.rd (.var 0) (.var 2000) 2) (.i (.rd (.var 0) (.var 2000) 3) (.i (.rd (.var 0) (.var 2000) 2) (.i (.rd (.var 0) (.var 2000) 3) (.i (.rd (.var 0) (.var 2000) 4) .nil)))))))) (.lit 0))
 (.ite (.fn 7 (.i (.var 1) (.i (.var 2) (.i (.rd (.var 0) (.var 2000) 2) (.i (.rd (.var 0) (.var 2000) 3) (.i (.rd (.var 0) (.var 2000) 2) (.i (.rd (.var 0) (.var 2000) 3) (.i (.rd (.var 0) (.var 2000) 4) .nil))))))))
 (.next 0 ⟨[(1, (.rd (.var 0) (.var 2000) 6)), (0, (.ar .add .i64 (.var 2000) (.lit 1)))], [], []⟩)
 (.next 0 ⟨[(1, (.var 2001)), (0, (.ar .add .i64 (.var 2000) (.lit 1)))], [], []⟩))
 (.next 0 ⟨[(1, (.var 2001)), (0, (.ar .add .i64 (.var 2000) (.lit 1)))], [], []⟩)))))
 (.next 0 ⟨[(1, (.var 2001)), (0, (.ar .add .i64 (.var 2000) (.lit 1)))], [], []⟩))))
 (.ret ((.tup [(.one (.z (.int .i64 (.var 2001)))), (.one (.z (.int .i64 (.lit 0))))]), [], 6))))))
set_option maxRecDepth 100000 in
theorem trFeShown_is : T.norm 0 (call Tryz.prog ctV1 (Lt.of []) 100 79 (symArgs 0 [feats, pt]) [] 0) TT.ret = trFeShown := by kernel_rfl
theorem trFeShown_low : trFeShown.low 1000 = true := by kernel_rfl
end Go.Proofs.YtkjjkckcjgkhmaaGreat
/- Chapter 40: feature.Shown, datum.Fits, sheet.Find. -/
namespace Go.Proofs.YtkjjkckcjgkhmaaGreat
open Go.RowKit
theorem N10_KG {ρ : Env} (h : Sees ρ N10 250) : Sees ρ KG 80 := N1_KG (N2_N1 (N3_N2 (N4_N3 (N5_N4 (N6_N5 (N7_N6 (N8_N7 (N9_N8 (N9b_N9 (N9c_N9b (N10_N9c h)))))))))))
theorem ctV1_ok {ρ : Env} (h : Sees ρ N10 250) (hd : SeesD ρ N10 6) : CtOk Tryz.prog ρ ctV1 := .cons (cPoIn_ok (KD_KC (KE_KD (KF_KE (KG_KF (N10_KG h)))))) (ctO4_ok h hd)
/-! What a list shows -/
def covRow (r : Rows) (i : Nat) (px py : Int) : Bool := covX (lg r i 1) (lg r i 2) (lg r i 3) (lg r i 4) (lr r i 5) px py
def shoN (r : Rows) (px py : Int) : Nat → Nat → Int → Int
  | 0, _, m => m
  | f + 1, i, m => shoN r px py f (i + 1) (if lg r i 6 < m ∧ covRow r i px py = true then lg r i 6 else m)
def shownO (ds : List D) : Bool := listB (rAt ds 0) && placeB (iAt ds 1) (iAt ds 2)
def shownR (ds : List D) : Int := if shownO ds then shoN (rAt ds 0) (iAt ds 1) (iAt ds 2) (rAt ds 0).length 0 100000 else 0
def shownE (ds : List D) : Int := if shownO ds then 0 else 1
theorem N10b146 (W : World) (ds l : List D) : (envOf N10 W ds).fb 146 l = listL l := by simp only [envOf, N10, N9c, N9b, N9, N8, N7, N6, N5, N4, N3, N2, N1, KG, KF, KE, KD, KC, KB, KA, K9, K8, K7, K6, K5, K]
theorem N10b145 (W : World) (ds l : List D) : (envOf N10 W ds).fb 145 l = datL l := by simp only [envOf, N10, N9c, N9b, N9, N8, N7, N6, N5, N4, N3, N2, N1, KG, KF, KE, KD, KC, KB, KA, K9, K8, K7, K6, K5, K]
theorem N10b151 (W : World) (ds l : List D) : (envOf N10 W ds).fb 151 l = sheetL l := by simp only [envOf, N10, N9c, N9b, N9, N8, N7, N6, N5, N4, N3, N2, N1, KG, KF, KE, KD, KC, KB, KA, K9, K8, K7, K6, K5, K]
theorem N10b3 (W : World) (ds l : List D) : (envOf N10 W ds).fb 3 l = placeL l := by simp only [envOf, N10, N9c, N9b, N9, N8, N7, N6, N5, N4, N3, N2, N1, KG, KF, KE, KD, KC, KB, KA, K9, K8, K7, K6, K5, K]
theorem N10i70 (W : World) (ds l : List D) : (envOf N10 W ds).fi 70 l = pinR l := by simp only [envOf, N10, N9c, N9b, N9, N8, N7, N6, N5, N4, N3, N2, N1, KG, KF, KE, KD, KC, KB, KA, K9, K8, K7, K6, K5, K]
theorem N10i71 (W : World) (ds l : List D) : (envOf N10 W ds).fi 71 l = pinE l := by simp only [envOf, N10, N9c, N9b, N9, N8, N7, N6, N5, N4, N3, N2, N1, KG, KF, KE, KD, KC, KB, KA, K9, K8, K7, K6, K5, K]
theorem N10i13 (W : World) (ds l : List D) : (envOf N10 W ds).fi 13 l = nearE l := by simp only [envOf, N10, N9c, N9b, N9, N8, N7, N6, N5, N4, N3, N2, N1, KG, KF, KE, KD, KC, KB, KA, K9, K8, K7, K6, K5, K]
theorem N10b7 (W : World) (ds l : List D) : (envOf N10 W ds).fb 7 l = nearR l := by simp only [envOf, N10, N9c, N9b, N9, N8, N7, N6, N5, N4, N3, N2, N1, KG, KF, KE, KD, KC, KB, KA, K9, K8, K7, K6, K5, K]
set_option maxHeartbeats 2000000 in
theorem gFeShown : Gives Tryz.prog 79 [feats, pt] (fun ds => .tuple #[.int .i64 (shownR ds), .int .i64 (shownE ds)]) := by
  refine GivesIf.all (fn_gives N10 (by kernel_rfl) (fun ρ h => ctV1_ok (Sees.of h 250) (SeesD.of h 6)) (by kernel_rfl) trFeShown_is trFeShown_low (by decide) (fun W vals ds hr _ => ?_))
  have hlen := feats_len hr
  simp only [trFeShown, TT.sat_ret, TT.sat_ite, TT.sat_ob, TT.sat_next, TT.sat_stuck, put_i, put_b, put_d, put_fi, put_fb, put_fd, Ob.ok, B.ev, E.ev, X.ev, AL.ev, cmp_t, cmp_f, arEv, V.plain, V2.plain, S.plain, S0.plain, V.val, V2.val, S.val, S0.val, bV, iV, List.all_cons, List.all_nil, Bool.and_true, Bool.and_self, envOf_i, envOf_b, envOf_d, List.map_cons, List.map_nil, true_and, Bool.not_eq_true', Bool.not_eq_false', Bool.not_not, Bool.and_eq_true, and_f, cell_lg, cell_lb, cell_lr, cmpP, val_i, val_b, val_d, aget, Nat.reduceBEq, beq_self_eq_true, Bool.false_eq_true, if_true, if_false, Nat.reduceLT, Nat.reduceSub, Nat.sub_self, Nat.lt_irrefl, N10b146, N10b3, list_1, place_two]
  have F : shownO ds = false → Value.tuple #[.int .i64 0, .int .i64 1] = Value.tuple #[.int .i64 (shownR ds), .int .i64 (shownE ds)] := fun h => by simp [shownR, shownE, h]
  have T : shownO ds = true → ∀ m, shoN (rAt ds 0) (iAt ds 1) (iAt ds 2) (rAt ds 0).length 0 100000 = m → Value.tuple #[.int .i64 m, .int .i64 0] = Value.tuple #[.int .i64 (shownR ds), .int .i64 (shownE ds)] := fun h m h' => by simp [shownR, shownE, h, h']
  have hO : shownO ds = (listB (rAt ds 0) && placeB (iAt ds 1) (iAt ds 2)) := rfl
  clear hr
  generalize e0 : rAt ds 0 = r at *
  generalize e1 : iAt ds 1 = px at *
  generalize e2 : iAt ds 2 = py at *
  refine ⟨fun h => F (by rw [hO, h]; rfl), fun h => ⟨fun g => F (by rw [hO, g, Bool.and_false]), fun g => ?_⟩⟩
  have hO' : shownO ds = true := by rw [hO, h, g]; rfl
  replace T := T hO'
  clear F hO hO'
  refine TT.sat_loop (fun v => ∃ i : Nat, v.i 0 = i ∧ i ≤ r.length ∧ shoN r px py (r.length - i) i (v.i 1) = shoN r px py r.length 0 100000) (fun v => r.length - (v.i 0).toNat)
    ⟨0, by simp [val_i, aget, E.ev], by omega, rfl⟩ (fun u hu => ?_)
  obtain ⟨j, j0, j1, j2⟩ := hu
  simp only [TT.sat_ret, TT.sat_ite, TT.sat_ob, TT.sat_next, TT.sat_stuck, put_i, put_b, put_d, put_fi, put_fb, put_fd, Ob.ok, B.ev, E.ev, X.ev, AL.ev, cmp_t, cmp_f, arEv, V.plain, V2.plain, S.plain, S0.plain, V.val, V2.val, S.val, S0.val, bV, iV, List.all_cons, List.all_nil, Bool.and_true, Bool.and_self, envOf_i, envOf_b, envOf_d, List.map_cons, List.map_nil, true_and, Bool.not_eq_true', Bool.not_eq_false', Bool.not_not, Bool.and_eq_true, and_f, cell_lg, cell_lb, cell_lr, cmpP, val_i, val_b, val_d, aget, Nat.reduceBEq, beq_self_eq_true, Bool.false_eq_true, if_true, if_false, Nat.reduceLT, Nat.reduceSub, Nat.sub_self, Nat.lt_irrefl, j0, e0, e1, e2, N10i70, N10i71, N10i13, N10b7]
  refine ⟨fun hc => ?_, fun hc => ?_⟩
  · have hj : j < r.length := by omega
    obtain ⟨f, hf⟩ : ∃ f, r.length - j = f + 1 := ⟨r.length - j - 1, by omega⟩
    have hf' : r.length - (j + 1) = f := by omega
    rw [hf, shoN] at j2
    have hw : IntKind.i64.wrap ((j : Int) + 1) = (j : Int) + 1 := wrap_in _ (by omega) (by omega)
    simp only [hw]
    have N : ∀ m, (if lg r j 6 < u.i 1 ∧ covRow r j px py = true then lg r j 6 else u.i 1) = m → ∃ i : Nat, (j : Int) + 1 = i ∧ i ≤ r.length ∧ shoN r px py (r.length - i) i m = shoN r px py r.length 0 100000 :=
      fun m h => ⟨j + 1, rfl, by omega, by rw [hf', ← j2, h]⟩
    have hm : r.length - ((j : Int) + 1).toNat < r.length - (j : Int).toNat := by omega
    have C4 : lg r j 1 = 4 → covRow r j px py = false := fun h => by unfold covRow covX; rw [if_pos h]
    have CA : (lg r j 1 = 3 ∨ lg r j 1 = 6) → covRow r j px py = decide (pinE [.i px, .i py, .l (lr r j 5)] = 0 ∧ 0 ≤ pinR [.i px, .i py, .l (lr r j 5)]) := fun h => by unfold covRow covX; rw [if_neg (by omega), if_pos h]
    have CD : lg r j 1 ≠ 4 → lg r j 1 ≠ 3 → lg r j 1 ≠ 6 → covRow r j px py = (decide (nearE [.i px, .i py, .i (lg r j 2), .i (lg r j 3), .i (lg r j 2), .i (lg r j 3), .i (lg r j 4)] = 0) && nearR [.i px, .i py, .i (lg r j 2), .i (lg r j 3), .i (lg r j 2), .i (lg r j 3), .i (lg r j 4)]) := fun h1 h2 h3 => by unfold covRow covX; rw [if_neg h1, if_neg (by omega)]
    refine ⟨by omega, by omega, ?_⟩
    clear hc hf hf' j2 T e0 e1 e2
    repeat' (first | (intro h; skip) | (refine And.intro ?_ ?_))
    all_goals first
      | exact hm
      | omega
      | (refine N _ (if_neg ?_); omega)
      | (refine N _ (if_neg ?_); rw [C4 (by omega)]; simp)
      | (refine N _ (if_neg ?_); rw [CA (by omega), decide_eq_true_eq]; omega)
      | (refine N _ (if_pos ⟨by omega, ?_⟩); rw [CA (by omega), decide_eq_true_eq]; omega)
      | (refine N _ (if_pos ⟨by omega, ?_⟩); rw [CD (by omega) (by omega) (by omega)]; simp [*]; done)
      | (refine N _ (if_neg (fun q => ?_)); have q2 := q.2; rw [CD (by omega) (by omega) (by omega), Bool.and_eq_true, decide_eq_true_eq] at q2; simp_all; done)
  · have h0 : r.length - j = 0 := by omega
    rw [h0, shoN] at j2
    exact T _ j2.symm
/-! May a place have a place? -/
def fitO (ds : List D) : Bool := datB (iAt ds 0) (iAt ds 1) (iAt ds 2) (iAt ds 3) (iAt ds 4) (iAt ds 5) (iAt ds 6) && (placeB (iAt ds 7) (iAt ds 8) && placeB (iAt ds 9) (iAt ds 10))
def fitX (ds : List D) : Int := 1000000 * iAt ds 9 - (iAt ds 0 * iAt ds 7 + iAt ds 1 * iAt ds 8 + 1000000 * iAt ds 2)
def fitY (ds : List D) : Int := 1000000 * iAt ds 10 - (iAt ds 3 * iAt ds 7 + iAt ds 4 * iAt ds 8 + 1000000 * iAt ds 5)
def fitR (ds : List D) : Bool := fitO ds && decide ((-(1000000 * iAt ds 6) ≤ fitX ds ∧ fitX ds ≤ 1000000 * iAt ds 6) ∧ (-(1000000 * iAt ds 6) ≤ fitY ds ∧ fitY ds ≤ 1000000 * iAt ds 6))
def fitE (ds : List D) : Int := if fitO ds then 0 else 1
theorem gFits : Gives Tryz.prog 29 [dat, pt, pt] (fun ds => .tuple #[.bool (fitR ds), .int .i64 (fitE ds)]) := by
  refine GivesIf.all (fn_gives N10 (by kernel_rfl) (fun ρ h => ctV1_ok (Sees.of h 250) (SeesD.of h 6)) (by kernel_rfl) trFits_is trFits_low (by decide) (fun W vals ds hr _ => ?_))
  simp only [trFits, TT.sat_ret, TT.sat_ite, TT.sat_ob, TT.sat_next, TT.sat_stuck, put_i, put_b, put_d, put_fi, put_fb, put_fd, Ob.ok, B.ev, E.ev, X.ev, AL.ev, cmp_t, cmp_f, arEv, V.plain, V2.plain, S.plain, S0.plain, V.val, V2.val, S.val, S0.val, bV, iV, List.all_cons, List.all_nil, Bool.and_true, Bool.and_self, envOf_i, envOf_b, envOf_d, List.map_cons, List.map_nil, true_and, Bool.not_eq_true', Bool.not_eq_false', Bool.not_not, Bool.and_eq_true, and_f, cell_lg, cell_lb, cell_lr, cmpP, val_i, val_b, val_d, aget, Nat.reduceBEq, beq_self_eq_true, Bool.false_eq_true, if_true, if_false, Nat.reduceLT, Nat.reduceSub, Nat.sub_self, Nat.lt_irrefl, N10b145, N10b3, dat_7, place_two]
  have F : fitO ds = false → Value.tuple #[.bool false, .int .i64 1] = Value.tuple #[.bool (fitR ds), .int .i64 (fitE ds)] := fun h => by simp [fitR, fitE, h]
  have eO : fitO ds = (datB (iAt ds 0) (iAt ds 1) (iAt ds 2) (iAt ds 3) (iAt ds 4) (iAt ds 5) (iAt ds 6) && (placeB (iAt ds 7) (iAt ds 8) && placeB (iAt ds 9) (iAt ds 10))) := rfl
  refine ⟨fun h => F (by rw [eO, h]; rfl), fun h => ⟨fun h1 => F (by rw [eO, h1]; simp), fun h1 => ⟨fun h2 => F (by rw [eO, h2]; simp), fun h2 => ?_⟩⟩⟩
  have hO : fitO ds = true := by rw [eO, h, h1, h2]; rfl
  have eE : fitE ds = 0 := by unfold fitE; rw [hO]; rfl
  have eR : fitR ds = decide ((-(1000000 * iAt ds 6) ≤ fitX ds ∧ fitX ds ≤ 1000000 * iAt ds 6) ∧ (-(1000000 * iAt ds 6) ≤ fitY ds ∧ fitY ds ≤ 1000000 * iAt ds 6)) := by unfold fitR; rw [hO, Bool.true_and]
  rw [eE, eR]
  unfold datB at h
  simp only [Bool.and_eq_true, decide_eq_true_eq] at h
  rw [placeB_iff] at h1 h2
  obtain ⟨⟨d0, d1, d3, d4⟩, _, d2, d5, d6, d7⟩ := h
  have m0 := mul_2m d0 (show -2000000 ≤ iAt ds 7 ∧ iAt ds 7 ≤ 2000000 by omega)
  have m1 := mul_2m d1 (show -2000000 ≤ iAt ds 8 ∧ iAt ds 8 ≤ 2000000 by omega)
  have m3 := mul_2m d3 (show -2000000 ≤ iAt ds 7 ∧ iAt ds 7 ≤ 2000000 by omega)
  have m4 := mul_2m d4 (show -2000000 ≤ iAt ds 8 ∧ iAt ds 8 ≤ 2000000 by omega)
  unfold fitX fitY
  generalize iAt ds 0 * iAt ds 7 = p0 at *
  generalize iAt ds 1 * iAt ds 8 = p1 at *
  generalize iAt ds 3 * iAt ds 7 = p3 at *
  generalize iAt ds 4 * iAt ds 8 = p4 at *
  rw [wrap_in p0 (by omega) (by omega), wrap_in p1 (by omega) (by omega), wrap_in p3 (by omega) (by omega), wrap_in p4 (by omega) (by omega), wrap_in (1000000 * iAt ds 9) (by omega) (by omega), wrap_in (1000000 * iAt ds 10) (by omega) (by omega), wrap_in (1000000 * iAt ds 2) (by omega) (by omega), wrap_in (1000000 * iAt ds 5) (by omega) (by omega), wrap_in (1000000 * iAt ds 6) (by omega) (by omega),
    wrap_in (p0 + p1) (by omega) (by omega), wrap_in (p3 + p4) (by omega) (by omega), wrap_in (p0 + p1 + 1000000 * iAt ds 2) (by omega) (by omega), wrap_in (p3 + p4 + 1000000 * iAt ds 5) (by omega) (by omega), wrap_in (1000000 * iAt ds 9 - _) (by omega) (by omega), wrap_in (1000000 * iAt ds 10 - _) (by omega) (by omega), wrap_in (0 - (1000000 * iAt ds 9 - _)) (by omega) (by omega), wrap_in (0 - (1000000 * iAt ds 10 - _)) (by omega) (by omega)]
  refine congrArg (fun b => Value.tuple #[Value.bool b, Value.int .i64 0]) ?_
  rw [Bool.eq_iff_iff]
  simp only [cmpEv, decide_eq_true_eq]
  omega
/-! A feature of a sheet -/
def fdI (ds : List D) : Nat := idxN (rAt ds 12) (iAt ds 13) (rAt ds 12).length 0
def fdE (ds : List D) : Int := if sheetL ds then (if fdI ds < (rAt ds 12).length then 0 else 4) else 1
def fdJ : List D → Int
  | .i j :: ds => if fdE ds = 0 then lg (rAt ds 12) (fdI ds) j.toNat else 0
  | _ => 0
def fdX (ds : List D) : Rows := if fdE ds = 0 then lr (rAt ds 12) (fdI ds) 5 else []
def fdY (ds : List D) : Rows := if fdE ds = 0 then lr (rAt ds 12) (fdI ds) 8 else []
def nlFX : NL := ⟨60, ptK, 6, fdX⟩
def nlFY : NL := ⟨150, secK, 7, fdY⟩
def fdRes (_w0 : World) (ds : List D) (vs : List Value) (u : Value) : Prop := ∃ a b, vs = [a, b] ∧ u = .tuple #[.agg #[.int .i64 (fdJ (.i 0 :: ds)), .int .i64 (fdJ (.i 1 :: ds)), .int .i64 (fdJ (.i 2 :: ds)), .int .i64 (fdJ (.i 3 :: ds)), .int .i64 (fdJ (.i 4 :: ds)), a, .int .i64 (fdJ (.i 6 :: ds)), .int .i64 (fdJ (.i 7 :: ds)), b], .int .i64 (fdE ds)]
theorem feat_den {ρ : Env} {σ : As} {s1 s2 : S0} {e0 e1 e2 e3 e4 e6 e7 e : E} {u : Value} (h : V.den ρ σ (.tup [.agg [.z (.int .i64 e0), .z (.int .i64 e1), .z (.int .i64 e2), .z (.int .i64 e3), .z (.int .i64 e4), .z s1, .z (.int .i64 e6), .z (.int .i64 e7), .z s2], .one (.z (.int .i64 e))]) u) :
    ∃ v1 v2, S0.den ρ σ s1 v1 ∧ S0.den ρ σ s2 v2 ∧ u = .tuple #[.agg #[.int .i64 (e0.ev ρ), .int .i64 (e1.ev ρ), .int .i64 (e2.ev ρ), .int .i64 (e3.ev ρ), .int .i64 (e4.ev ρ), v1, .int .i64 (e6.ev ρ), .int .i64 (e7.ev ρ), v2], .int .i64 (e.ev ρ)] := by
  obtain ⟨vs, h, rfl⟩ := h
  obtain ⟨w1, vs, rfl, h1, h⟩ := DL.cons_inv h
  obtain ⟨w2, vs, rfl, h2, h⟩ := DL.cons_inv h
  obtain rfl := DL.nil_inv h
  obtain rfl : w2 = .int .i64 (e.ev ρ) := h2
  obtain ⟨us, h1, rfl⟩ := h1
  obtain ⟨u0, us, rfl, g0, h1⟩ := DL.cons_inv h1
  obtain ⟨u1, us, rfl, g1, h1⟩ := DL.cons_inv h1
  obtain ⟨u2, us, rfl, g2, h1⟩ := DL.cons_inv h1
  obtain ⟨u3, us, rfl, g3, h1⟩ := DL.cons_inv h1
  obtain ⟨u4, us, rfl, g4, h1⟩ := DL.cons_inv h1
  obtain ⟨u5, us, rfl, g5, h1⟩ := DL.cons_inv h1
  obtain ⟨u6, us, rfl, g6, h1⟩ := DL.cons_inv h1
  obtain ⟨u7, us, rfl, g7, h1⟩ := DL.cons_inv h1
  obtain ⟨u8, us, rfl, g8, h1⟩ := DL.cons_inv h1
  obtain rfl := DL.nil_inv h1
  obtain rfl : u0 = .int .i64 (e0.ev ρ) := g0
  obtain rfl : u1 = .int .i64 (e1.ev ρ) := g1
  obtain rfl : u2 = .int .i64 (e2.ev ρ) := g2
  obtain rfl : u3 = .int .i64 (e3.ev ρ) := g3
  obtain rfl : u4 = .int .i64 (e4.ev ρ) := g4
  obtain rfl : u6 = .int .i64 (e6.ev ρ) := g6
  obtain rfl : u7 = .int .i64 (e7.ev ρ) := g7
  exact ⟨u5, u8, g5, g8, rfl⟩
theorem fd_end {ρ : Env} {w0 : World} {ds : List D} {s1 s2 : S0} {e0 e1 e2 e3 e4 e6 e7 e : E} {m : Mem} {n : Nat} {x1 x2 : X} (h1 : lrows m 60 ptK s1 = some x1) (f1 : x1.ev ρ = fdX ds) (h2 : lrows m 150 secK s2 = some x2) (f2 : x2.ev ρ = fdY ds)
    (hne : ∀ id v v', s1 = .own id v → s2 = .own id v' → False) (g0 : e0.ev ρ = fdJ (.i 0 :: ds)) (g1 : e1.ev ρ = fdJ (.i 1 :: ds)) (g2 : e2.ev ρ = fdJ (.i 2 :: ds)) (g3 : e3.ev ρ = fdJ (.i 3 :: ds)) (g4 : e4.ev ρ = fdJ (.i 4 :: ds)) (g6 : e6.ev ρ = fdJ (.i 6 :: ds)) (g7 : e7.ev ρ = fdJ (.i 7 :: ds)) (ge : e.ev ρ = fdE ds) :
    ∃ ss, LsAre ρ ((.tup [.agg [.z (.int .i64 e0), .z (.int .i64 e1), .z (.int .i64 e2), .z (.int .i64 e3), .z (.int .i64 e4), .z s1, .z (.int .i64 e6), .z (.int .i64 e7), .z s2], .one (.z (.int .i64 e))]), m, n) [nlFX, nlFY] ds ss ∧ ∀ (σ : As) u, ρ.w = w0 → V.den ρ σ (.tup [.agg [.z (.int .i64 e0), .z (.int .i64 e1), .z (.int .i64 e2), .z (.int .i64 e3), .z (.int .i64 e4), .z s1, .z (.int .i64 e6), .z (.int .i64 e7), .z s2], .one (.z (.int .i64 e))]) u → ∃ vs, DL (S0.den ρ σ) ss vs ∧ fdRes w0 ds vs u := by
  refine ⟨[s1, s2], lsAre_two (l1 := nlFX) (l2 := nlFY) h1 f1 h2 f2 hne, fun σ u _ hu => ?_⟩
  obtain ⟨v1, v2, k1, k2, rfl⟩ := feat_den hu
  rw [g0, g1, g2, g3, g4, g6, g7, ge]
  exact ⟨[v1, v2], ⟨k1, k2, trivial⟩, v1, v2, rfl, rfl⟩
theorem idxN_no {r : Rows} {c : Int} : ∀ f i : Nat, (∀ l : Nat, i ≤ l → l < i + f → lg r l 0 ≠ c) → idxN r c f i = i + f
  | 0, i, _ => rfl
  | f + 1, i, h => by
    rw [idxN, if_neg (h i (Nat.le_refl _) (by omega)), idxN_no f (i + 1) (fun l l1 l2 => h l (by omega) (by omega))]
    omega
theorem idxN_yes {r : Rows} {c : Int} {j : Nat} (hj : lg r j 0 = c) : ∀ f i : Nat, i ≤ j → j < i + f → (∀ l : Nat, i ≤ l → l < j → lg r l 0 ≠ c) → idxN r c f i = j
  | 0, i, h1, h2, _ => by omega
  | f + 1, i, h1, h2, h3 => by
    rw [idxN]
    by_cases e : i = j
    · subst e; rw [if_pos hj]
    · rw [if_neg (h3 i (Nat.le_refl _) (by omega))]
      exact idxN_yes hj f (i + 1) (by omega) (by omega) (fun l l1 l2 => h3 l (by omega) l2)
theorem mid_w {a b : Nat} (h : a + b ≤ 1000) : IntKind.i64.wrap (Int.fdiv (IntKind.u64.wrap (IntKind.i64.wrap ((a : Int) + b))) (2 ^ min (Int.toNat 1) IntKind.u64.bits)) = ((a + b) / 2 : Nat) := by
  rw [wrap_in ((a : Int) + b) (by omega) (by omega), IntWalk.u64_in ((a : Int) + b) (by omega)]
  have e : (2 : Int) ^ min (Int.toNat 1) IntKind.u64.bits = 2 := by decide
  rw [e, Int.fdiv_eq_ediv_of_nonneg _ (by decide), wrap_in _ (by omega) (by omega)]
  omega
set_option maxHeartbeats 1000000 in
theorem gFind : GivesN Tryz.prog 27 [shee, it] [nlFX, nlFY] (fun _ => True) fdRes := by
  refine fn_givesN N8 (by kernel_rfl) (fun ρ h => .cons cClonePt_ok (.cons cCloneSec_ok (ctN10_ok (Sees.of h 220)))) (by kernel_rfl) trFind_is trFind_low (by decide) (fun w0 vals ds hr _ => ?_)
  have eS : sheetL [D.i (iAt ds 0), .i (iAt ds 1), .i (iAt ds 2), .i (iAt ds 3), .i (iAt ds 4), .i (iAt ds 5), .i (iAt ds 6), .i (iAt ds 7), .i (iAt ds 8), .i (iAt ds 9), .i (iAt ds 10), .l (rAt ds 11), .l (rAt ds 12)] = sheetL ds := rfl
  have eB : (envOf N8 w0 ds).fb 151 = sheetL := by funext l; exact N10b151 w0 ds l
  simp only [trFind, TT.sat_ret, TT.sat_ite, TT.sat_ob, TT.sat_next, TT.sat_stuck, put_i, put_b, put_d, put_fi, put_fb, put_fd, Ob.ok, B.ev, E.ev, X.ev, AL.ev, cmp_t, cmp_f, arEv, V.plain, V2.plain, S.plain, S0.plain, V.val, V2.val, S.val, S0.val, bV, iV, List.all_cons, List.all_nil, Bool.and_true, Bool.and_self, envOf_i, envOf_b, envOf_d, List.map_cons, List.map_nil, true_and, Bool.not_eq_true', Bool.not_eq_false', Bool.not_not, Bool.and_eq_true, and_f, cell_lg, cell_lb, cell_lr, cmpP, val_i, val_b, val_d, aget, Nat.reduceBEq, beq_self_eq_true, Bool.false_eq_true, if_true, if_false, Nat.reduceLT, Nat.reduceSub, Nat.sub_self, Nat.lt_irrefl, eB, eS]
  clear hr
  have Z : ∀ {ρ : Env} {n : Nat} {e : Int}, fdE ds = e → e ≠ 0 → ∃ ss, LsAre ρ ((.tup [.agg [.z (.int .i64 (.lit 0)), .z (.int .i64 (.lit 0)), .z (.int .i64 (.lit 0)), .z (.int .i64 (.lit 0)), .z (.int .i64 (.lit 0)), .z (.const (.slice none 0 0)), .z (.int .i64 (.lit 0)), .z (.int .i64 (.lit 0)), .z (.const (.slice none 0 0))], .one (.z (.int .i64 (.lit e)))]), [], n) [nlFX, nlFY] ds ss ∧ ∀ (σ : As) u, ρ.w = w0 → V.den ρ σ (.tup [.agg [.z (.int .i64 (.lit 0)), .z (.int .i64 (.lit 0)), .z (.int .i64 (.lit 0)), .z (.int .i64 (.lit 0)), .z (.int .i64 (.lit 0)), .z (.const (.slice none 0 0)), .z (.int .i64 (.lit 0)), .z (.int .i64 (.lit 0)), .z (.const (.slice none 0 0))], .one (.z (.int .i64 (.lit e)))]) u → ∃ vs, DL (S0.den ρ σ) ss vs ∧ fdRes w0 ds vs u := fun {ρ n e} h h0 => by
    have fJ : ∀ j, fdJ (.i j :: ds) = 0 := fun j => if_neg (by rw [h]; exact h0)
    have fX : fdX ds = [] := if_neg (by rw [h]; exact h0)
    have fY : fdY ds = [] := if_neg (by rw [h]; exact h0)
    exact fd_end (x1 := .nil) (x2 := .nil) rfl (by rw [fX]; rfl) rfl (by rw [fY]; rfl) (fun id v v' h => by cases h) (by rw [fJ]; rfl) (by rw [fJ]; rfl) (by rw [fJ]; rfl) (by rw [fJ]; rfl) (by rw [fJ]; rfl) (by rw [fJ]; rfl) (by rw [fJ]; rfl) h.symm
  refine ⟨fun h => Z (by unfold fdE; rw [h]; rfl) (by decide), fun h => ?_⟩
  obtain ⟨g1, g2, g3⟩ := lis_spec (sheet_facts h).2
  have no : (∀ l : Nat, l < (rAt ds 12).length → lg (rAt ds 12) l 0 ≠ iAt ds 13) → fdE ds = 4 := fun q => by
    unfold fdE fdI
    rw [h, if_pos rfl, idxN_no _ _ (fun l _ hl => q l (by omega)), if_neg (by omega)]
  have rng : ∀ l : Nat, l < (rAt ds 12).length → 1 ≤ lg (rAt ds 12) l 0 ∧ lg (rAt ds 12) l 0 ≤ 100000 := fun l hl => (featB_iff.1 (g2 l hl)).1
  refine ⟨fun k0 => Z (no (fun l hl => by have := rng l hl; omega)) (by decide), fun k0 => ⟨fun k1 => Z (no (fun l hl => by have := rng l hl; omega)) (by decide), fun k1 => ?_⟩⟩
  refine TT.sat_loop (fun v => ∃ a b : Nat, v.i 0 = a ∧ v.i 1 = b ∧ a ≤ b ∧ b ≤ (rAt ds 12).length ∧ (∀ l : Nat, l < a → lg (rAt ds 12) l 0 < iAt ds 13) ∧ (∀ l : Nat, b ≤ l → l < (rAt ds 12).length → iAt ds 13 ≤ lg (rAt ds 12) l 0)) (fun v => ((v.i 1) - (v.i 0)).toNat) ⟨0, (rAt ds 12).length, by simp [val_i, aget, E.ev], by simp [val_i, aget, E.ev, X.ev, envOf]; rfl, by omega, by omega, fun l hl => absurd hl (Nat.not_lt_zero _), fun l h1 h2 => by omega⟩ (fun v hv => ?_)
  obtain ⟨a, b, a0, b0, ab, bn, lo, hi⟩ := hv
  simp only [TT.sat_ret, TT.sat_ite, TT.sat_ob, TT.sat_next, TT.sat_stuck, put_i, put_b, put_d, put_fi, put_fb, put_fd, Ob.ok, B.ev, E.ev, X.ev, AL.ev, cmp_t, cmp_f, arEv, V.plain, V2.plain, S.plain, S0.plain, V.val, V2.val, S.val, S0.val, bV, iV, List.all_cons, List.all_nil, Bool.and_true, Bool.and_self, envOf_i, envOf_b, envOf_d, List.map_cons, List.map_nil, true_and, Bool.not_eq_true', Bool.not_eq_false', Bool.not_not, Bool.and_eq_true, and_f, cell_lg, cell_lb, cell_lr, cmpP, val_i, val_b, val_d, aget, Nat.reduceBEq, beq_self_eq_true, Bool.false_eq_true, if_true, if_false, Nat.reduceLT, Nat.reduceSub, Nat.sub_self, Nat.lt_irrefl, a0, b0, mid_w (show a + b ≤ 1000 by omega)]
  refine ⟨fun hc => ?_, fun hc => ?_⟩
  · obtain ⟨m, hm⟩ : ∃ m, (a + b) / 2 = m := ⟨_, rfl⟩
    rw [hm]
    have hm1 : a ≤ m ∧ m < b := by omega
    have rm := rng m (by omega)
    rw [wrap_in ((m : Int) + 1) (by omega) (by omega), wrap_in (lg (rAt ds 12) m 0 - iAt ds 13) (by omega) (by omega)]
    refine ⟨by omega, by omega, fun q => ⟨⟨m + 1, b, rfl, rfl, by omega, bn, fun l hl => ?_, hi⟩, by omega⟩, fun q => ⟨⟨a, m, rfl, rfl, by omega, by omega, lo, fun l l1 l2 => ?_⟩, by omega⟩⟩
    · by_cases e : l = m
      · subst e; omega
      · have := g3 l m (by omega) (by omega)
        omega
    · by_cases e : l = m
      · subst e; omega
      · have := g3 m l (by omega) l2
        omega
  · obtain rfl : a = b := by omega
    refine ⟨fun hd => ⟨by omega, hd, fun q => ?_, fun q => ⟨by omega, hd, ?_, ?_, ?_⟩⟩, fun hd => Z (no (fun l hl => by have := lo l (by omega); omega)) (by decide)⟩
    all_goals have ra := rng a (by omega)
    · rw [wrap_in (lg (rAt ds 12) a 0 - iAt ds 13) (by omega) (by omega)] at q
      refine Z (no (fun l hl e => ?_)) (by decide)
      rcases Nat.lt_trichotomy l a with c | c | c
      · have := lo l c; omega
      · subst c; omega
      · have := hi a (Nat.le_refl _) (by omega)
        have := g3 a l c hl
        omega
    · have := row_feaOk (g2 a (by omega))
      have e : feaOk (rowFe (rAt ds 12) a) = decide ((lr (rAt ds 12) a 5).length ≤ 24 ∧ (lr (rAt ds 12) a 8).length ≤ 12) := rfl
      rw [e, decide_eq_true_eq] at this
      omega
    · have := row_feaOk (g2 a (by omega))
      have e : feaOk (rowFe (rAt ds 12) a) = decide ((lr (rAt ds 12) a 5).length ≤ 24 ∧ (lr (rAt ds 12) a 8).length ≤ 12) := rfl
      rw [e, decide_eq_true_eq] at this
      omega
    · rw [wrap_in (lg (rAt ds 12) a 0 - iAt ds 13) (by omega) (by omega)] at q
      have eI : fdI ds = a := idxN_yes (by omega) _ _ (Nat.zero_le _) (by omega) (fun l _ hl => by have := lo l hl; omega)
      have eE : fdE ds = 0 := by unfold fdE; rw [h, if_pos rfl, eI, if_pos (by omega)]
      have fJ : ∀ j, fdJ (.i j :: ds) = lg (rAt ds 12) a j.toNat := fun j => by show (if fdE ds = 0 then _ else _) = _; rw [if_pos eE, eI]
      have fX : fdX ds = lr (rAt ds 12) a 5 := by unfold fdX; rw [if_pos eE, eI]
      have fY : fdY ds = lr (rAt ds 12) a 8 := by unfold fdY; rw [if_pos eE, eI]
      refine fd_end (x1 := .rd (.var 12) (.var 4000) 5) (x2 := .rd (.var 12) (.var 4000) 8) (by kernel_rfl) ?_ (by kernel_rfl) ?_ (fun id v v' h h' => by cases h; cases h') ?_ ?_ ?_ ?_ ?_ ?_ ?_ eE.symm
      all_goals simp only [TT.sat_ret, TT.sat_ite, TT.sat_ob, TT.sat_next, TT.sat_stuck, put_i, put_b, put_d, put_fi, put_fb, put_fd, Ob.ok, B.ev, E.ev, X.ev, AL.ev, cmp_t, cmp_f, arEv, V.plain, V2.plain, S.plain, S0.plain, V.val, V2.val, S.val, S0.val, bV, iV, List.all_cons, List.all_nil, Bool.and_true, Bool.and_self, envOf_i, envOf_b, envOf_d, List.map_cons, List.map_nil, true_and, Bool.not_eq_true', Bool.not_eq_false', Bool.not_not, Bool.and_eq_true, and_f, cell_lg, cell_lb, cell_lr, cmpP, val_i, val_b, val_d, aget, Nat.reduceBEq, beq_self_eq_true, Bool.false_eq_true, if_true, if_false, Nat.reduceLT, Nat.reduceSub, Nat.sub_self, Nat.lt_irrefl, X.ev, a0, fX, fY, fJ]
      all_goals rfl
def N11 : Interp where
  fi n l := match n with | 250 => shownR l | 251 => shownE l | 253 => fitE l | 254 => fdE l | 255 => fdJ l | n => N10.fi n l
  fb n l := match n with | 252 => fitR l | n => N10.fb n l
  fd n l := match n with | 6 => fdX l | 7 => fdY l | n => N10.fd n l
theorem N11_N10d {ρ : Env} (h : SeesD ρ N11 8) : SeesD ρ N10 6 := fun n l hn => by
  rw [h n l (by omega)]
  simp only [N11]
  split <;> first | omega | rfl
theorem N11_N10 {ρ : Env} (h : Sees ρ N11 260) : Sees ρ N10 250 := h.trans (by decide) fun n l hn => by
  refine ⟨?_, ?_⟩
  ·
    simp only [N11]
    split <;> first | omega | rfl
  ·
    simp only [N11]
    split <;> first | omega | rfl
def cFeShown := ctD [feats, pt] fun al => .ret (.tup [.one (sIF 250 shownR al), .one (sIF 251 shownE al)])
theorem cFeShown_ok {ρ : Env} (h : Sees ρ N11 260) : CtOne Tryz.prog ρ 79 cFeShown :=
  ctD_ok gFeShown (fun _ => rfl) (fun al => by simp only [V.val, V2.val, S.val, S0.val, sIF, sBF, List.map_cons, List.map_nil, iF_ev (s := 250) (f := shownR) (fun l => by rw [(h 250 l (by decide)).1]; simp only [N11, N10, N9c, N9b, N9, N8, N7, N6, N5, N4, N3, N2, N1, KG, KF, KE, KD, KC, KB, KA, K9, K8, K7, K6, K5, K]), iF_ev (s := 251) (f := shownE) (fun l => by rw [(h 251 l (by decide)).1]; simp only [N11, N10, N9c, N9b, N9, N8, N7, N6, N5, N4, N3, N2, N1, KG, KF, KE, KD, KC, KB, KA, K9, K8, K7, K6, K5, K])]; try rfl)
def cFits := ctD [dat, pt, pt] fun al => .ret (.tup [.one (sBF 252 fitR al), .one (sIF 253 fitE al)])
theorem cFits_ok {ρ : Env} (h : Sees ρ N11 260) : CtOne Tryz.prog ρ 29 cFits :=
  ctD_ok gFits (fun _ => rfl) (fun al => by simp only [V.val, V2.val, S.val, S0.val, sIF, sBF, List.map_cons, List.map_nil, bF_ev (s := 252) (f := fitR) (fun l => by rw [(h 252 l (by decide)).2]; simp only [N11, N10, N9c, N9b, N9, N8, N7, N6, N5, N4, N3, N2, N1, KG, KF, KE, KD, KC, KB, KA, K9, K8, K7, K6, K5, K]), iF_ev (s := 253) (f := fitE) (fun l => by rw [(h 253 l (by decide)).1]; simp only [N11, N10, N9c, N9b, N9, N8, N7, N6, N5, N4, N3, N2, N1, KG, KF, KE, KD, KC, KB, KA, K9, K8, K7, K6, K5, K])]; try rfl)
def fS (j : Int) (al : AL) : S := .z (.int .i64 (.fn 255 (.i (.lit j) al)))
def cFind (args : List V) (_mem : Mem) (nx : Nat) : T OpR := match argsE [shee, it] args with
  | some al => ctN [nlFX, nlFY] [] (.tup [.agg [fS 0 al, fS 1 al, fS 2 al, fS 3 al, fS 4 al, .z (.own nx (.lit 0)), fS 6 al, fS 7 al, .z (.own (nx + 1) (.lit 0))], .one (.z (.int .i64 (.fn 254 al)))]) al nx
  | none => .stuck "Find"
theorem cFind_ok {ρ : Env} (h : Sees ρ N11 260) (hd : SeesD ρ N11 8) : CtOne Tryz.prog ρ 27 cFind := by
  intro args mem nx q hq hle σ W vals hr hfr hdl
  unfold cFind at hq
  split at hq
  · rename_i al ha
    refine ctN_ok gFind ha (fun _ => trivial) (fun l hl a => ?_) hq (fun σ' vs u hv hl hres => ?_) hr hfr hdl
    · rcases List.mem_cons.1 hl with rfl | hl
      · show ρ.fd 6 a = fdX a
        rw [hd 6 _ (by decide)]; simp only [N11]
      · obtain rfl := List.mem_singleton.1 hl
        show ρ.fd 7 a = fdY a
        rw [hd 7 _ (by decide)]; simp only [N11]
    · obtain ⟨a, b, rfl, rfl⟩ := hres
      obtain ⟨a1, a2, a3, a4, a5⟩ := hv 0 a rfl
      obtain ⟨b1, b2, b3, b4, b5⟩ := hv 1 b rfl
      have ej : ∀ (j : Int), (fS j al).den ρ σ' (.int .i64 (fdJ (.i j :: al.ev ρ))) := fun j => by
        show Value.int .i64 _ = .int .i64 (ρ.fi 255 (.i j :: al.ev ρ))
        rw [(h 255 _ (by decide)).1]; simp only [N11]
      have e0 : Value.int .i64 (fdE (al.ev ρ)) = .int .i64 ((E.fn 254 al).ev ρ) := by simp only [E.ev]; rw [(h 254 _ (by decide)).1]; simp only [N11]
      exact ⟨[_, _], ⟨⟨[_, _, _, _, _, a, _, _, b], ⟨ej 0, ej 1, ej 2, ej 3, ej 4, ⟨⟨a2, a3, a4, a5⟩, a1⟩, ej 6, ej 7, ⟨⟨b2, b3, b4, b5⟩, b1⟩, trivial⟩, rfl⟩, e0, trivial⟩, rfl⟩
  · exact hq.elim
def ctV2 : Ct := (79, cFeShown) :: (29, cFits) :: (27, cFind) :: ctV1
theorem ctV2_ok {ρ : Env} (h : Sees ρ N11 260) (hd : SeesD ρ N11 8) : CtOk Tryz.prog ρ ctV2 := .cons (cFeShown_ok h) <| .cons (cFits_ok h) <| .cons (cFind_ok h hd) (ctV1_ok (N11_N10 h) (N11_N10d hd))
end Go.Proofs.YtkjjkckcjgkhmaaGreat
