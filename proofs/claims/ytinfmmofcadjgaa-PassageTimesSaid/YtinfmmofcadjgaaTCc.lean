/- Chapter 38: trees of package plane, its exported functions. -/
import Derived.Test.YtinfmmofcadjgaaCc0
set_option linter.unusedSimpArgs false
set_option linter.unusedVariables false
namespace Go.Proofs.Ytinfmmofcadjgaa
open Go.RowKit
-- term trTurn: call Try.prog ct1 lt1 100 83 (symArgs 0 [pt, pt, pt]) [] 0
def trTurn : TT OpR :=
(.ite (.not (.fn 3 (.i (.var 0) (.i (.var 1) .nil))))
  (.ret ((.tup [(.one (.z (.int .i64 (.lit 0)))), (.one (.z (.int .i64 (.lit 1))))]), [], 5))
  (.ite (.not (.fn 3 (.i (.var 2) (.i (.var 3) .nil))))
    (.ret ((.tup [(.one (.z (.int .i64 (.lit 0)))), (.one (.z (.int .i64 (.lit 1))))]), [], 6))
    (.ite (.not (.fn 3 (.i (.var 4) (.i (.var 5) .nil))))
      (.ret ((.tup [(.one (.z (.int .i64 (.lit 0)))), (.one (.z (.int .i64 (.lit 1))))]), [], 7))
      (.ob (.tru (.fn 1 (.i (.var 0) (.i (.var 1) (.i (.var 2) (.i (.var 3) (.i (.var 4) (.i (.var 5) .nil))))))))
      (.ret ((.tup [(.one (.z (.int .i64 (.fn 0 (.i (.var 0) (.i (.var 1) (.i (.var 2) (.i (.var 3) (.i (.var 4) (.i (.var 5) .nil)))))))))), (.one (.z (.int .i64 (.lit 0))))]), [], 7))))))
-- end trTurn
set_option maxRecDepth 100000 in
theorem trTurn_is : T.norm 0 (call Try.prog ct1 lt1 100 83 (symArgs 0 [pt, pt, pt]) [] 0) TT.ret = trTurn := by kernel_rfl
theorem trTurn_low : trTurn.low 1000 = true := by kernel_rfl
-- term trOn0: call Try.prog ct1 lt1 100 68 (symArgs 0 [pt, pt, pt]) [] 0
def trOn0 : TT OpR :=
(.ob (.tru (.fn 1 (.i (.var 2) (.i (.var 3) (.i (.var 4) (.i (.var 5) (.i (.var 0) (.i (.var 1) .nil))))))))
(.ite (.cmp .eql (.fn 0 (.i (.var 2) (.i (.var 3) (.i (.var 4) (.i (.var 5) (.i (.var 0) (.i (.var 1) .nil))))))) (.lit 0))
  (.ite (.cmp .leq (.mn (.var 2) (.var 4)) (.var 0))
    (.ite (.cmp .leq (.var 0) (.mx (.var 2) (.var 4)))
      (.ite (.cmp .leq (.mn (.var 3) (.var 5)) (.var 1))
        (.ret ((.v (.one (.z (.bool (.cmp .leq (.var 1) (.mx (.var 3) (.var 5))))))), [], 3))
        (.ret ((.v (.one (.z (.bool (.lit false))))), [], 3)))
      (.ret ((.v (.one (.z (.bool (.lit false))))), [], 3)))
    (.ret ((.v (.one (.z (.bool (.lit false))))), [], 3)))
  (.ret ((.v (.one (.z (.bool (.lit false))))), [], 3))))
-- end trOn0
set_option maxRecDepth 100000 in
theorem trOn0_is : T.norm 0 (call Try.prog ct1 lt1 100 68 (symArgs 0 [pt, pt, pt]) [] 0) TT.ret = trOn0 := by kernel_rfl
theorem trOn0_low : trOn0.low 1000 = true := by kernel_rfl
-- term trNear: call Try.prog ct1 lt1 100 37 (symArgs 0 [pt, pt, pt, it]) [] 0
def trNear : TT OpR :=
(.ite (.not (.fn 3 (.i (.var 0) (.i (.var 1) .nil))))
  (.ret ((.tup [(.one (.z (.bool (.lit false)))), (.one (.z (.int .i64 (.lit 1))))]), [], 5))
  (.ite (.not (.fn 3 (.i (.var 2) (.i (.var 3) .nil))))
    (.ret ((.tup [(.one (.z (.bool (.lit false)))), (.one (.z (.int .i64 (.lit 1))))]), [], 6))
    (.ite (.not (.fn 3 (.i (.var 4) (.i (.var 5) .nil))))
      (.ret ((.tup [(.one (.z (.bool (.lit false)))), (.one (.z (.int .i64 (.lit 1))))]), [], 7))
      (.ite (.cmp .geq (.var 6) (.lit 0))
        (.ite (.not (.cmp .leq (.var 6) (.lit 3000000)))
          (.ret ((.tup [(.one (.z (.bool (.lit false)))), (.one (.z (.int .i64 (.lit 1))))]), [], 7))
          (.ob (.tru (.fn 1 (.i (.var 0) (.i (.var 1) (.i (.var 2) (.i (.var 3) (.i (.var 4) (.i (.var 5) .nil))))))))
          (.ob (.tru (.cmp .leq (.lit 0) (.var 6)))
          (.ob (.tru (.cmp .leq (.var 6) (.lit 3000000)))
          (.ret ((.tup [(.one (.z (.bool (.fn 2 (.i (.var 0) (.i (.var 1) (.i (.var 2) (.i (.var 3) (.i (.var 4) (.i (.var 5) (.i (.var 6) .nil))))))))))), (.one (.z (.int .i64 (.lit 0))))]), [], 7))))))
        (.ret ((.tup [(.one (.z (.bool (.lit false)))), (.one (.z (.int .i64 (.lit 1))))]), [], 7))))))
-- end trNear
set_option maxRecDepth 100000 in
theorem trNear_is : T.norm 0 (call Try.prog ct1 lt1 100 37 (symArgs 0 [pt, pt, pt, it]) [] 0) TT.ret = trNear := by kernel_rfl
theorem trNear_low : trNear.low 1000 = true := by kernel_rfl
-- term trDist: call Try.prog ct1 lt1 100 51 (symArgs 0 [pt, pt]) [] 0
def trDist : TT OpR :=
(.ite (.not (.fn 3 (.i (.var 0) (.i (.var 1) .nil))))
  (.ret ((.tup [(.agg [(.z (.int .i64 (.lit 0))), (.z (.int .i64 (.lit 0)))]), (.one (.z (.int .i64 (.lit 1))))]), [], 5))
  (.ite (.not (.fn 3 (.i (.var 2) (.i (.var 3) .nil))))
    (.ret ((.tup [(.agg [(.z (.int .i64 (.lit 0))), (.z (.int .i64 (.lit 0)))]), (.one (.z (.int .i64 (.lit 1))))]), [], 6))
    (.ite (.and (.cmp .eql (.var 0) (.var 2)) (.cmp .eql (.var 1) (.var 3)))
      (.ret ((.tup [(.agg [(.z (.int .i64 (.lit 0))), (.z (.int .i64 (.lit 0)))]), (.one (.z (.int .i64 (.lit 0))))]), [], 6))
      (.loop 0 13000 ⟨[(0, (.lit 0)), (1, (.lit 4194304))], [], []⟩
        (.ite (.cmp .gtr (.var 13001) (.lit 0))
          (.ite (.cmp .leq (.ar .mul .i64 (.ar .add .i64 (.var 13000) (.var 13001)) (.ar .add .i64 (.var 13000) (.var 13001))) (.ar .add .i64 (.ar .mul .i64 (.ar .sub .i64 (.var 2) (.var 0)) (.ar .sub .i64 (.var 2) (.var 0))) (.ar .mul .i64 (.ar .sub .i64 (.var 3) (.var 1)) (.ar .sub .i64 (.var 3) (.var 1)))))
            (.next 0 ⟨[(0, (.ar .add .i64 (.var 13000) (.var 13001))), (1, (.ar .shr .i64 (.var 13001) (.lit 1)))], [], []⟩)
            (.next 0 ⟨[(0, (.var 13000)), (1, (.ar .shr .i64 (.var 13001) (.lit 1)))], [], []⟩))
          (.ite (.cmp .eql (.ar .mul .i64 (.var 13000) (.var 13000)) (.ar .add .i64 (.ar .mul .i64 (.ar .sub .i64 (.var 2) (.var 0)) (.ar .sub .i64 (.var 2) (.var 0))) (.ar .mul .i64 (.ar .sub .i64 (.var 3) (.var 1)) (.ar .sub .i64 (.var 3) (.var 1)))))
            (.ret ((.tup [(.agg [(.z (.int .i64 (.var 13000))), (.z (.int .i64 (.var 13000)))]), (.one (.z (.int .i64 (.lit 0))))]), [], 13))
            (.ret ((.tup [(.agg [(.z (.int .i64 (.var 13000))), (.z (.int .i64 (.ar .add .i64 (.var 13000) (.lit 1))))]), (.one (.z (.int .i64 (.lit 0))))]), [], 13))))))))
-- end trDist
set_option maxRecDepth 100000 in
theorem trDist_is : T.norm 0 (call Try.prog ct1 lt1 100 51 (symArgs 0 [pt, pt]) [] 0) TT.ret = trDist := by kernel_rfl
theorem trDist_low : trDist.low 1000 = true := by kernel_rfl
end Go.Proofs.Ytinfmmofcadjgaa
