/- Chapter 38: trees of span's boxes. -/
import Derived.Test.YtinfmmofcadjgaaCj
set_option linter.unusedSimpArgs false
set_option linter.unusedVariables false
namespace Go.Proofs.Ytinfmmofcadjgaa
open Go.RowKit
-- term trJoin: call Try.prog ctS2 [] 100 43 (symArgs 0 [bx, bx]) [] 0
def trJoin : TT OpR :=
(.ite (.not (.fn 31 (.i (.var 0) (.i (.var 1) (.i (.var 2) (.i (.var 3) .nil))))))
  (.ret ((.tup [(.agg [(.z (.int .i64 (.lit 0))), (.z (.int .i64 (.lit 0))), (.z (.int .i64 (.lit 0))), (.z (.int .i64 (.lit 0)))]), (.one (.z (.int .i64 (.lit 1))))]), [], 6))
  (.ite (.not (.fn 31 (.i (.var 4) (.i (.var 5) (.i (.var 6) (.i (.var 7) .nil))))))
    (.ret ((.tup [(.agg [(.z (.int .i64 (.lit 0))), (.z (.int .i64 (.lit 0))), (.z (.int .i64 (.lit 0))), (.z (.int .i64 (.lit 0)))]), (.one (.z (.int .i64 (.lit 1))))]), [], 6))
    (.ite (.not (.fn 30 (.i (.var 0) (.i (.var 1) .nil))))
      (.ite (.not (.fn 30 (.i (.var 2) (.i (.var 3) .nil))))
        (.ret ((.tup [(.agg [(.z (.int .i64 (.lit 0))), (.z (.int .i64 (.lit 0))), (.z (.int .i64 (.lit 0))), (.z (.int .i64 (.lit 0)))]), (.one (.z (.int .i64 (.lit 1))))]), [], 14))
        (.ite (.not (.fn 30 (.i (.var 6) (.i (.var 7) .nil))))
          (.ret ((.tup [(.agg [(.z (.int .i64 (.lit 0))), (.z (.int .i64 (.lit 0))), (.z (.int .i64 (.lit 0))), (.z (.int .i64 (.lit 0)))]), (.one (.z (.int .i64 (.lit 1))))]), [], 14))
          (.ret ((.tup [(.agg [(.z (.int .i64 (.lit 0))), (.z (.int .i64 (.lit 0))), (.z (.int .i64 (.lit 0))), (.z (.int .i64 (.lit 0)))]), (.one (.z (.int .i64 (.lit 1))))]), [], 14))))
      (.ite (.not (.fn 30 (.i (.var 4) (.i (.var 5) .nil))))
        (.ite (.not (.fn 30 (.i (.var 2) (.i (.var 3) .nil))))
          (.ret ((.tup [(.agg [(.z (.int .i64 (.lit 0))), (.z (.int .i64 (.lit 0))), (.z (.int .i64 (.lit 0))), (.z (.int .i64 (.lit 0)))]), (.one (.z (.int .i64 (.lit 1))))]), [], 14))
          (.ite (.not (.fn 30 (.i (.var 6) (.i (.var 7) .nil))))
            (.ret ((.tup [(.agg [(.z (.int .i64 (.lit 0))), (.z (.int .i64 (.lit 0))), (.z (.int .i64 (.lit 0))), (.z (.int .i64 (.lit 0)))]), (.one (.z (.int .i64 (.lit 1))))]), [], 14))
            (.ret ((.tup [(.agg [(.z (.int .i64 (.lit 0))), (.z (.int .i64 (.lit 0))), (.z (.int .i64 (.lit 0))), (.z (.int .i64 (.lit 0)))]), (.one (.z (.int .i64 (.lit 1))))]), [], 14))))
        (.ite (.not (.fn 30 (.i (.var 2) (.i (.var 3) .nil))))
          (.ret ((.tup [(.agg [(.z (.int .i64 (.lit 0))), (.z (.int .i64 (.lit 0))), (.z (.int .i64 (.lit 0))), (.z (.int .i64 (.lit 0)))]), (.one (.z (.int .i64 (.lit 1))))]), [], 14))
          (.ite (.not (.fn 30 (.i (.var 6) (.i (.var 7) .nil))))
            (.ret ((.tup [(.agg [(.z (.int .i64 (.lit 0))), (.z (.int .i64 (.lit 0))), (.z (.int .i64 (.lit 0))), (.z (.int .i64 (.lit 0)))]), (.one (.z (.int .i64 (.lit 1))))]), [], 14))
            (.ret ((.tup [(.agg [(.z (.int .i64 (.mn (.var 0) (.var 4)))), (.z (.int .i64 (.mx (.var 1) (.var 5)))), (.z (.int .i64 (.mn (.var 2) (.var 6)))), (.z (.int .i64 (.mx (.var 3) (.var 7))))]), (.one (.z (.int .i64 (.lit 0))))]), [], 14))))))))
-- end trJoin
set_option maxRecDepth 100000 in
theorem trJoin_is : T.norm 0 (call Try.prog ctS2 [] 100 43 (symArgs 0 [bx, bx]) [] 0) TT.ret = trJoin := by kernel_rfl
theorem trJoin_low : trJoin.low 1000 = true := by kernel_rfl
-- term trMeetB: call Try.prog ctS2 [] 100 27 (symArgs 0 [bx, bx]) [] 0
def trMeetB : TT OpR :=
(.ite (.not (.fn 31 (.i (.var 0) (.i (.var 1) (.i (.var 2) (.i (.var 3) .nil))))))
  (.ret ((.tup [(.agg [(.z (.int .i64 (.lit 0))), (.z (.int .i64 (.lit 0))), (.z (.int .i64 (.lit 0))), (.z (.int .i64 (.lit 0)))]), (.one (.z (.int .i64 (.lit 1))))]), [], 6))
  (.ite (.not (.fn 31 (.i (.var 4) (.i (.var 5) (.i (.var 6) (.i (.var 7) .nil))))))
    (.ret ((.tup [(.agg [(.z (.int .i64 (.lit 0))), (.z (.int .i64 (.lit 0))), (.z (.int .i64 (.lit 0))), (.z (.int .i64 (.lit 0)))]), (.one (.z (.int .i64 (.lit 1))))]), [], 6))
    (.ite (.not (.fn 30 (.i (.var 0) (.i (.var 1) .nil))))
      (.ite (.not (.fn 30 (.i (.var 2) (.i (.var 3) .nil))))
        (.ret ((.tup [(.agg [(.z (.int .i64 (.lit 0))), (.z (.int .i64 (.lit 0))), (.z (.int .i64 (.lit 0))), (.z (.int .i64 (.lit 0)))]), (.one (.z (.int .i64 (.lit 1))))]), [], 14))
        (.ite (.not (.fn 30 (.i (.var 6) (.i (.var 7) .nil))))
          (.ret ((.tup [(.agg [(.z (.int .i64 (.lit 0))), (.z (.int .i64 (.lit 0))), (.z (.int .i64 (.lit 0))), (.z (.int .i64 (.lit 0)))]), (.one (.z (.int .i64 (.lit 1))))]), [], 14))
          (.ite (.cmp .lss (.mn (.var 3) (.var 7)) (.mx (.var 2) (.var 6)))
            (.ret ((.tup [(.agg [(.z (.int .i64 (.lit 0))), (.z (.int .i64 (.lit 0))), (.z (.int .i64 (.lit 0))), (.z (.int .i64 (.lit 0)))]), (.one (.z (.int .i64 (.lit 4))))]), [], 15))
            (.ret ((.tup [(.agg [(.z (.int .i64 (.lit 0))), (.z (.int .i64 (.lit 0))), (.z (.int .i64 (.lit 0))), (.z (.int .i64 (.lit 0)))]), (.one (.z (.int .i64 (.lit 1))))]), [], 15)))))
      (.ite (.not (.fn 30 (.i (.var 4) (.i (.var 5) .nil))))
        (.ite (.not (.fn 30 (.i (.var 2) (.i (.var 3) .nil))))
          (.ret ((.tup [(.agg [(.z (.int .i64 (.lit 0))), (.z (.int .i64 (.lit 0))), (.z (.int .i64 (.lit 0))), (.z (.int .i64 (.lit 0)))]), (.one (.z (.int .i64 (.lit 1))))]), [], 14))
          (.ite (.not (.fn 30 (.i (.var 6) (.i (.var 7) .nil))))
            (.ret ((.tup [(.agg [(.z (.int .i64 (.lit 0))), (.z (.int .i64 (.lit 0))), (.z (.int .i64 (.lit 0))), (.z (.int .i64 (.lit 0)))]), (.one (.z (.int .i64 (.lit 1))))]), [], 14))
            (.ite (.cmp .lss (.mn (.var 3) (.var 7)) (.mx (.var 2) (.var 6)))
              (.ret ((.tup [(.agg [(.z (.int .i64 (.lit 0))), (.z (.int .i64 (.lit 0))), (.z (.int .i64 (.lit 0))), (.z (.int .i64 (.lit 0)))]), (.one (.z (.int .i64 (.lit 4))))]), [], 15))
              (.ret ((.tup [(.agg [(.z (.int .i64 (.lit 0))), (.z (.int .i64 (.lit 0))), (.z (.int .i64 (.lit 0))), (.z (.int .i64 (.lit 0)))]), (.one (.z (.int .i64 (.lit 1))))]), [], 15)))))
        (.ite (.cmp .lss (.mn (.var 1) (.var 5)) (.mx (.var 0) (.var 4)))
          (.ite (.not (.fn 30 (.i (.var 2) (.i (.var 3) .nil))))
            (.ret ((.tup [(.agg [(.z (.int .i64 (.lit 0))), (.z (.int .i64 (.lit 0))), (.z (.int .i64 (.lit 0))), (.z (.int .i64 (.lit 0)))]), (.one (.z (.int .i64 (.lit 4))))]), [], 15))
            (.ite (.not (.fn 30 (.i (.var 6) (.i (.var 7) .nil))))
              (.ret ((.tup [(.agg [(.z (.int .i64 (.lit 0))), (.z (.int .i64 (.lit 0))), (.z (.int .i64 (.lit 0))), (.z (.int .i64 (.lit 0)))]), (.one (.z (.int .i64 (.lit 4))))]), [], 15))
              (.ite (.cmp .lss (.mn (.var 3) (.var 7)) (.mx (.var 2) (.var 6)))
                (.ret ((.tup [(.agg [(.z (.int .i64 (.lit 0))), (.z (.int .i64 (.lit 0))), (.z (.int .i64 (.lit 0))), (.z (.int .i64 (.lit 0)))]), (.one (.z (.int .i64 (.lit 4))))]), [], 16))
                (.ret ((.tup [(.agg [(.z (.int .i64 (.lit 0))), (.z (.int .i64 (.lit 0))), (.z (.int .i64 (.lit 0))), (.z (.int .i64 (.lit 0)))]), (.one (.z (.int .i64 (.lit 4))))]), [], 16)))))
          (.ite (.not (.fn 30 (.i (.var 2) (.i (.var 3) .nil))))
            (.ret ((.tup [(.agg [(.z (.int .i64 (.lit 0))), (.z (.int .i64 (.lit 0))), (.z (.int .i64 (.lit 0))), (.z (.int .i64 (.lit 0)))]), (.one (.z (.int .i64 (.lit 1))))]), [], 15))
            (.ite (.not (.fn 30 (.i (.var 6) (.i (.var 7) .nil))))
              (.ret ((.tup [(.agg [(.z (.int .i64 (.lit 0))), (.z (.int .i64 (.lit 0))), (.z (.int .i64 (.lit 0))), (.z (.int .i64 (.lit 0)))]), (.one (.z (.int .i64 (.lit 1))))]), [], 15))
              (.ite (.cmp .lss (.mn (.var 3) (.var 7)) (.mx (.var 2) (.var 6)))
                (.ret ((.tup [(.agg [(.z (.int .i64 (.lit 0))), (.z (.int .i64 (.lit 0))), (.z (.int .i64 (.lit 0))), (.z (.int .i64 (.lit 0)))]), (.one (.z (.int .i64 (.lit 4))))]), [], 16))
                (.ret ((.tup [(.agg [(.z (.int .i64 (.mx (.var 0) (.var 4)))), (.z (.int .i64 (.mn (.var 1) (.var 5)))), (.z (.int .i64 (.mx (.var 2) (.var 6)))), (.z (.int .i64 (.mn (.var 3) (.var 7))))]), (.one (.z (.int .i64 (.lit 0))))]), [], 16))))))))))
-- end trMeetB
set_option maxRecDepth 100000 in
theorem trMeetB_is : T.norm 0 (call Try.prog ctS2 [] 100 27 (symArgs 0 [bx, bx]) [] 0) TT.ret = trMeetB := by kernel_rfl
theorem trMeetB_low : trMeetB.low 1000 = true := by kernel_rfl
-- term trGrow: call Try.prog ctS2 [] 100 47 (symArgs 0 [bx, it]) [] 0
def trGrow : TT OpR :=
(.ite (.not (.fn 31 (.i (.var 0) (.i (.var 1) (.i (.var 2) (.i (.var 3) .nil))))))
  (.ret ((.tup [(.agg [(.z (.int .i64 (.lit 0))), (.z (.int .i64 (.lit 0))), (.z (.int .i64 (.lit 0))), (.z (.int .i64 (.lit 0)))]), (.one (.z (.int .i64 (.lit 1))))]), [], 3))
  (.ite (.cmp .lss (.var 4) (.lit 0))
    (.ret ((.tup [(.agg [(.z (.int .i64 (.lit 0))), (.z (.int .i64 (.lit 0))), (.z (.int .i64 (.lit 0))), (.z (.int .i64 (.lit 0)))]), (.one (.z (.int .i64 (.lit 1))))]), [], 3))
    (.ite (.cmp .gtr (.var 4) (.lit 3000000))
      (.ret ((.tup [(.agg [(.z (.int .i64 (.lit 0))), (.z (.int .i64 (.lit 0))), (.z (.int .i64 (.lit 0))), (.z (.int .i64 (.lit 0)))]), (.one (.z (.int .i64 (.lit 1))))]), [], 3))
      (.ite (.not (.fn 31 (.i (.ar .sub .i64 (.var 0) (.var 4)) (.i (.ar .add .i64 (.var 1) (.var 4)) (.i (.ar .sub .i64 (.var 2) (.var 4)) (.i (.ar .add .i64 (.var 3) (.var 4)) .nil))))))
        (.ret ((.tup [(.agg [(.z (.int .i64 (.lit 0))), (.z (.int .i64 (.lit 0))), (.z (.int .i64 (.lit 0))), (.z (.int .i64 (.lit 0)))]), (.one (.z (.int .i64 (.lit 3))))]), [], 8))
        (.ret ((.tup [(.agg [(.z (.int .i64 (.ar .sub .i64 (.var 0) (.var 4)))), (.z (.int .i64 (.ar .add .i64 (.var 1) (.var 4)))), (.z (.int .i64 (.ar .sub .i64 (.var 2) (.var 4)))), (.z (.int .i64 (.ar .add .i64 (.var 3) (.var 4))))]), (.one (.z (.int .i64 (.lit 0))))]), [], 8))))))
-- end trGrow
set_option maxRecDepth 100000 in
theorem trGrow_is : T.norm 0 (call Try.prog ctS2 [] 100 47 (symArgs 0 [bx, it]) [] 0) TT.ret = trGrow := by kernel_rfl
theorem trGrow_low : trGrow.low 1000 = true := by kernel_rfl
end Go.Proofs.Ytinfmmofcadjgaa
