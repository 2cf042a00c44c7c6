/- Chapter 38: trees of span.WithinBox, InBox; passage.Zone, Holds, Concerns. -/
import Derived.Test.YtinfmmofcadjgaaCl
set_option linter.unusedSimpArgs false
set_option linter.unusedVariables false
namespace Go.Proofs.Ytinfmmofcadjgaa
open Go.RowKit
-- term trWithin: call Try.prog ct5 [] 100 20 (symArgs 0 [bx, bx]) [] 0
def trWithin : TT OpR :=
(.ite (.cmp .eql (.fn 36 (.i (.var 0) (.i (.var 1) (.i (.var 2) (.i (.var 3) (.i (.var 4) (.i (.var 5) (.i (.var 6) (.i (.var 7) .nil))))))))) (.lit 0))
  (.ret ((.tup [(.one (.z (.bool (.and (.and (.cmp .eql (.fn 32 (.i (.var 0) (.i (.var 1) (.i (.var 2) (.i (.var 3) (.i (.var 4) (.i (.var 5) (.i (.var 6) (.i (.var 7) .nil))))))))) (.var 4)) (.cmp .eql (.fn 33 (.i (.var 0) (.i (.var 1) (.i (.var 2) (.i (.var 3) (.i (.var 4) (.i (.var 5) (.i (.var 6) (.i (.var 7) .nil))))))))) (.var 5))) (.and (.cmp .eql (.fn 34 (.i (.var 0) (.i (.var 1) (.i (.var 2) (.i (.var 3) (.i (.var 4) (.i (.var 5) (.i (.var 6) (.i (.var 7) .nil))))))))) (.var 6)) (.cmp .eql (.fn 35 (.i (.var 0) (.i (.var 1) (.i (.var 2) (.i (.var 3) (.i (.var 4) (.i (.var 5) (.i (.var 6) (.i (.var 7) .nil))))))))) (.var 7))))))), (.one (.z (.int .i64 (.fn 36 (.i (.var 0) (.i (.var 1) (.i (.var 2) (.i (.var 3) (.i (.var 4) (.i (.var 5) (.i (.var 6) (.i (.var 7) .nil))))))))))))]), [], 3))
  (.ret ((.tup [(.one (.z (.bool (.lit false)))), (.one (.z (.int .i64 (.fn 36 (.i (.var 0) (.i (.var 1) (.i (.var 2) (.i (.var 3) (.i (.var 4) (.i (.var 5) (.i (.var 6) (.i (.var 7) .nil))))))))))))]), [], 3)))
-- end trWithin
set_option maxRecDepth 100000 in
theorem trWithin_is : T.norm 0 (call Try.prog ct5 [] 100 20 (symArgs 0 [bx, bx]) [] 0) TT.ret = trWithin := by kernel_rfl
theorem trWithin_low : trWithin.low 1000 = true := by kernel_rfl
-- term trZone: call Try.prog ct5 [] 100 24 (symArgs 0 [psg, it]) [] 0
def trZone : TT OpR :=
(.ite (.not (.fn 20 (.i (.var 0) (.i (.var 1) (.i (.var 2) (.x (.var 3) .nil))))))
  (.ret ((.tup [(.agg [(.z (.int .i64 (.lit 0))), (.z (.int .i64 (.lit 0))), (.z (.int .i64 (.lit 0))), (.z (.int .i64 (.lit 0)))]), (.one (.z (.int .i64 (.lit 1))))]), [], 2))
  (.ite (.cmp .lss (.var 4) (.lit 0))
    (.ret ((.tup [(.agg [(.z (.int .i64 (.lit 0))), (.z (.int .i64 (.lit 0))), (.z (.int .i64 (.lit 0))), (.z (.int .i64 (.lit 0)))]), (.one (.z (.int .i64 (.lit 1))))]), [], 2))
    (.ite (.cmp .geq (.var 4) (.len (.var 3)))
      (.ret ((.tup [(.agg [(.z (.int .i64 (.lit 0))), (.z (.int .i64 (.lit 0))), (.z (.int .i64 (.lit 0))), (.z (.int .i64 (.lit 0)))]), (.one (.z (.int .i64 (.lit 1))))]), [], 2))
      (.ob (.tru (.cmp .leq (.lit 0) (.var 4)))
      (.ob (.tru (.cmp .lss (.var 4) (.len (.var 3))))
      (.ob (.tru (.cmp .leq (.lit 0) (.var 4)))
      (.ob (.tru (.cmp .lss (.var 4) (.len (.var 3))))
      (.ret ((.tup [(.agg [(.z (.int .i64 (.fn 42 (.i (.fn 32 (.i (.rd (.var 3) (.var 4) 0) (.i (.rd (.var 3) (.var 4) 0) (.i (.rd (.var 3) (.var 4) 1) (.i (.rd (.var 3) (.var 4) 1) (.i (.rd (.var 3) (.var 4) 2) (.i (.rd (.var 3) (.var 4) 2) (.i (.rd (.var 3) (.var 4) 3) (.i (.rd (.var 3) (.var 4) 3) .nil))))))))) (.i (.fn 33 (.i (.rd (.var 3) (.var 4) 0) (.i (.rd (.var 3) (.var 4) 0) (.i (.rd (.var 3) (.var 4) 1) (.i (.rd (.var 3) (.var 4) 1) (.i (.rd (.var 3) (.var 4) 2) (.i (.rd (.var 3) (.var 4) 2) (.i (.rd (.var 3) (.var 4) 3) (.i (.rd (.var 3) (.var 4) 3) .nil))))))))) (.i (.fn 34 (.i (.rd (.var 3) (.var 4) 0) (.i (.rd (.var 3) (.var 4) 0) (.i (.rd (.var 3) (.var 4) 1) (.i (.rd (.var 3) (.var 4) 1) (.i (.rd (.var 3) (.var 4) 2) (.i (.rd (.var 3) (.var 4) 2) (.i (.rd (.var 3) (.var 4) 3) (.i (.rd (.var 3) (.var 4) 3) .nil))))))))) (.i (.fn 35 (.i (.rd (.var 3) (.var 4) 0) (.i (.rd (.var 3) (.var 4) 0) (.i (.rd (.var 3) (.var 4) 1) (.i (.rd (.var 3) (.var 4) 1) (.i (.rd (.var 3) (.var 4) 2) (.i (.rd (.var 3) (.var 4) 2) (.i (.rd (.var 3) (.var 4) 3) (.i (.rd (.var 3) (.var 4) 3) .nil))))))))) (.i (.var 2) .nil)))))))), (.z (.int .i64 (.fn 43 (.i (.fn 32 (.i (.rd (.var 3) (.var 4) 0) (.i (.rd (.var 3) (.var 4) 0) (.i (.rd (.var 3) (.var 4) 1) (.i (.rd (.var 3) (.var 4) 1) (.i (.rd (.var 3) (.var 4) 2) (.i (.rd (.var 3) (.var 4) 2) (.i (.rd (.var 3) (.var 4) 3) (.i (.rd (.var 3) (.var 4) 3) .nil))))))))) (.i (.fn 33 (.i (.rd (.var 3) (.var 4) 0) (.i (.rd (.var 3) (.var 4) 0) (.i (.rd (.var 3) (.var 4) 1) (.i (.rd (.var 3) (.var 4) 1) (.i (.rd (.var 3) (.var 4) 2) (.i (.rd (.var 3) (.var 4) 2) (.i (.rd (.var 3) (.var 4) 3) (.i (.rd (.var 3) (.var 4) 3) .nil))))))))) (.i (.fn 34 (.i (.rd (.var 3) (.var 4) 0) (.i (.rd (.var 3) (.var 4) 0) (.i (.rd (.var 3) (.var 4) 1) (.i (.rd (.var 3) (.var 4) 1) (.i (.rd (.var 3) (.var 4) 2) (.i (.rd (.var 3) (.var 4) 2) (.i (.rd (.var 3) (.var 4) 3) (.i (.rd (.var 3) (.var 4) 3) .nil))))))))) (.i (.fn 35 (.i (.rd (.var 3) (.var 4) 0) (.i (.rd (.var 3) (.var 4) 0) (.i (.rd (.var 3) (.var 4) 1) (.i (.rd (.var 3) (.var 4) 1) (.i (.rd (.var 3) (.var 4) 2) (.i (.rd (.var 3) (.var 4) 2) (.i (.rd (.var 3) (.var 4) 3) (.i (.rd (.var 3) (.var 4) 3) .nil))))))))) (.i (.var 2) .nil)))))))), (.z (.int .i64 (.fn 44 (.i (.fn 32 (.i (.rd (.var 3) (.var 4) 0) (.i (.rd (.var 3) (.var 4) 0) (.i (.rd (.var 3) (.var 4) 1) (.i (.rd (.var 3) (.var 4) 1) (.i (.rd (.var 3) (.var 4) 2) (.i (.rd (.var 3) (.var 4) 2) (.i (.rd (.var 3) (.var 4) 3) (.i (.rd (.var 3) (.var 4) 3) .nil))))))))) (.i (.fn 33 (.i (.rd (.var 3) (.var 4) 0) (.i (.rd (.var 3) (.var 4) 0) (.i (.rd (.var 3) (.var 4) 1) (.i (.rd (.var 3) (.var 4) 1) (.i (.rd (.var 3) (.var 4) 2) (.i (.rd (.var 3) (.var 4) 2) (.i (.rd (.var 3) (.var 4) 3) (.i (.rd (.var 3) (.var 4) 3) .nil))))))))) (.i (.fn 34 (.i (.rd (.var 3) (.var 4) 0) (.i (.rd (.var 3) (.var 4) 0) (.i (.rd (.var 3) (.var 4) 1) (.i (.rd (.var 3) (.var 4) 1) (.i (.rd (.var 3) (.var 4) 2) (.i (.rd (.var 3) (.var 4) 2) (.i (.rd (.var 3) (.var 4) 3) (.i (.rd (.var 3) (.var 4) 3) .nil))))))))) (.i (.fn 35 (.i (.rd (.var 3) (.var 4) 0) (.i (.rd (.var 3) (.var 4) 0) (.i (.rd (.var 3) (.var 4) 1) (.i (.rd (.var 3) (.var 4) 1) (.i (.rd (.var 3) (.var 4) 2) (.i (.rd (.var 3) (.var 4) 2) (.i (.rd (.var 3) (.var 4) 3) (.i (.rd (.var 3) (.var 4) 3) .nil))))))))) (.i (.var 2) .nil)))))))), (.z (.int .i64 (.fn 45 (.i (.fn 32 (.i (.rd (.var 3) (.var 4) 0) (.i (.rd (.var 3) (.var 4) 0) (.i (.rd (.var 3) (.var 4) 1) (.i (.rd (.var 3) (.var 4) 1) (.i (.rd (.var 3) (.var 4) 2) (.i (.rd (.var 3) (.var 4) 2) (.i (.rd (.var 3) (.var 4) 3) (.i (.rd (.var 3) (.var 4) 3) .nil))))))))) (.i (.fn 33 (.i (.rd (.var 3) (.var 4) 0) (.i (.rd (.var 3) (.var 4) 0) (.i (.rd (.var 3) (.var 4) 1) (.i (.rd (.var 3) (.var 4) 1) (.i (.rd (.var 3) (.var 4) 2) (.i (.rd (.var 3) (.var 4) 2) (.i (.rd (.var 3) (.var 4) 3) (.i (.rd (.var 3) (.var 4) 3) .nil))))))))) (.i (.fn 34 (.i (.rd (.var 3) (.var 4) 0) (.i (.rd (.var 3) (.var 4) 0) (.i (.rd (.var 3) (.var 4) 1) (.i (.rd (.var 3) (.var 4) 1) (.i (.rd (.var 3) (.var 4) 2) (.i (.rd (.var 3) (.var 4) 2) (.i (.rd (.var 3) (.var 4) 3) (.i (.rd (.var 3) (.var 4) 3) .nil))))))))) (.i (.fn 35 (.i (.rd (.var 3) (.var 4) 0) (.i (.rd (.var 3) (.var 4) 0) (.i (.rd (.var 3) (.var 4) 1) (.i (.rd (.var 3) (.var 4) 1) (.i (.rd (.var 3) (.var 4) 2) (.i (.rd (.var 3) (.var 4) 2) (.i (.rd (.var 3) (.var 4) 3) (.i (.rd (.var 3) (.var 4) 3) .nil))))))))) (.i (.var 2) .nil))))))))]), (.one (.z (.int .i64 (.fn 46 (.i (.fn 32 (.i (.rd (.var 3) (.var 4) 0) (.i (.rd (.var 3) (.var 4) 0) (.i (.rd (.var 3) (.var 4) 1) (.i (.rd (.var 3) (.var 4) 1) (.i (.rd (.var 3) (.var 4) 2) (.i (.rd (.var 3) (.var 4) 2) (.i (.rd (.var 3) (.var 4) 3) (.i (.rd (.var 3) (.var 4) 3) .nil))))))))) (.i (.fn 33 (.i (.rd (.var 3) (.var 4) 0) (.i (.rd (.var 3) (.var 4) 0) (.i (.rd (.var 3) (.var 4) 1) (.i (.rd (.var 3) (.var 4) 1) (.i (.rd (.var 3) (.var 4) 2) (.i (.rd (.var 3) (.var 4) 2) (.i (.rd (.var 3) (.var 4) 3) (.i (.rd (.var 3) (.var 4) 3) .nil))))))))) (.i (.fn 34 (.i (.rd (.var 3) (.var 4) 0) (.i (.rd (.var 3) (.var 4) 0) (.i (.rd (.var 3) (.var 4) 1) (.i (.rd (.var 3) (.var 4) 1) (.i (.rd (.var 3) (.var 4) 2) (.i (.rd (.var 3) (.var 4) 2) (.i (.rd (.var 3) (.var 4) 3) (.i (.rd (.var 3) (.var 4) 3) .nil))))))))) (.i (.fn 35 (.i (.rd (.var 3) (.var 4) 0) (.i (.rd (.var 3) (.var 4) 0) (.i (.rd (.var 3) (.var 4) 1) (.i (.rd (.var 3) (.var 4) 1) (.i (.rd (.var 3) (.var 4) 2) (.i (.rd (.var 3) (.var 4) 2) (.i (.rd (.var 3) (.var 4) 3) (.i (.rd (.var 3) (.var 4) 3) .nil))))))))) (.i (.var 2) .nil)))))))))]), [], 7)))))))))
-- end trZone
set_option maxRecDepth 100000 in
theorem trZone_is : T.norm 0 (call Try.prog ct5 [] 100 24 (symArgs 0 [psg, it]) [] 0) TT.ret = trZone := by kernel_rfl
theorem trZone_low : trZone.low 1000 = true := by kernel_rfl
-- term trHolds: call Try.prog ct5 [] 100 25 (symArgs 0 [psg, it, it, pt]) [] 0
def trHolds : TT OpR :=
(.ite (.not (.fn 3 (.i (.var 6) (.i (.var 7) .nil))))
  (.ret ((.tup [(.one (.z (.bool (.lit false)))), (.one (.z (.int .i64 (.lit 1))))]), [], 2))
  (.ite (.cmp .geq (.var 5) (.lit 0))
    (.ite (.not (.cmp .leq (.var 5) (.lit 10000000)))
      (.ret ((.tup [(.one (.z (.bool (.lit false)))), (.one (.z (.int .i64 (.lit 1))))]), [], 2))
      (.ite (.cmp .neq (.fn 26 (.i (.var 0) (.i (.var 1) (.i (.var 2) (.x (.var 3) (.i (.var 4) .nil)))))) (.lit 0))
        (.ret ((.tup [(.one (.z (.bool (.lit false)))), (.one (.z (.int .i64 (.fn 26 (.i (.var 0) (.i (.var 1) (.i (.var 2) (.x (.var 3) (.i (.var 4) .nil)))))))))]), [], 3))
        (.ob (.tru (.cmp .leq (.lit 0) (.var 4)))
        (.ob (.tru (.cmp .lss (.var 4) (.len (.var 3))))
        (.ob (.tru (.cmp .leq (.lit 0) (.var 4)))
        (.ob (.tru (.cmp .lss (.var 4) (.len (.var 3))))
        (.ite (.fn 7 (.i (.var 6) (.i (.var 7) (.i (.rd (.var 3) (.var 4) 0) (.i (.rd (.var 3) (.var 4) 1) (.i (.rd (.var 3) (.var 4) 2) (.i (.rd (.var 3) (.var 4) 3) (.i (.var 2) .nil))))))))
          (.ite (.cmp .leq (.fn 24 (.i (.var 0) (.i (.var 1) (.i (.var 2) (.x (.var 3) (.i (.var 4) .nil)))))) (.var 5))
            (.ret ((.tup [(.one (.z (.bool (.cmp .leq (.var 5) (.fn 25 (.i (.var 0) (.i (.var 1) (.i (.var 2) (.x (.var 3) (.i (.var 4) .nil)))))))))), (.one (.z (.int .i64 (.lit 0))))]), [], 3))
            (.ret ((.tup [(.one (.z (.bool (.lit false)))), (.one (.z (.int .i64 (.lit 0))))]), [], 3)))
          (.ret ((.tup [(.one (.z (.bool (.lit false)))), (.one (.z (.int .i64 (.lit 0))))]), [], 3)))))))))
    (.ret ((.tup [(.one (.z (.bool (.lit false)))), (.one (.z (.int .i64 (.lit 1))))]), [], 2))))
-- end trHolds
set_option maxRecDepth 100000 in
theorem trHolds_is : T.norm 0 (call Try.prog ct5 [] 100 25 (symArgs 0 [psg, it, it, pt]) [] 0) TT.ret = trHolds := by kernel_rfl
theorem trHolds_low : trHolds.low 1000 = true := by kernel_rfl
end Go.Proofs.Ytinfmmofcadjgaa
