/- Chapter 38: trees of package passage: Arrives, During, Rest. -/
import Derived.Test.YtinfmmofcadjgaaCf0
set_option linter.unusedSimpArgs false
set_option linter.unusedVariables false
namespace Go.Proofs.Ytinfmmofcadjgaa
open Go.RowKit
-- term trArr: call Try.prog ct3 [] 100 12 (symArgs 0 [psg, it]) [] 0
def trArr : TT OpR :=
(.ite (.not (.fn 20 (.i (.var 0) (.i (.var 1) (.i (.var 2) (.x (.var 3) .nil))))))
  (.ret ((.tup [(.agg [(.z (.int .i64 (.lit 0))), (.z (.int .i64 (.lit 0)))]), (.one (.z (.int .i64 (.lit 1))))]), [], 3))
  (.ite (.cmp .lss (.var 4) (.lit 0))
    (.ret ((.tup [(.agg [(.z (.int .i64 (.lit 0))), (.z (.int .i64 (.lit 0)))]), (.one (.z (.int .i64 (.lit 1))))]), [], 3))
    (.ite (.cmp .gtr (.var 4) (.len (.var 3)))
      (.ret ((.tup [(.agg [(.z (.int .i64 (.lit 0))), (.z (.int .i64 (.lit 0)))]), (.one (.z (.int .i64 (.lit 1))))]), [], 3))
      (.loop 0 9000 ⟨[(0, (.lit 0)), (1, (.var 0)), (2, (.var 1)), (3, (.var 0)), (4, (.var 1))], [], []⟩
        (.ite (.cmp .lss (.var 9000) (.len (.var 3)))
          (.ob (.tru (.cmp .leq (.lit 0) (.var 9000)))
          (.ob (.tru (.cmp .lss (.var 9000) (.len (.var 3))))
          (.ob (.tru (.cmp .neq (.rd (.var 3) (.var 9000) 5) (.lit 0)))
          (.ob (.tru (.cmp .neq (.rd (.var 3) (.var 9000) 4) (.lit 0)))
          (.ite (.cmp .eql (.var 9000) (.var 4))
            (.ite (.cmp .gtr (.var 9004) (.lit 10000000))
              (.ret ((.tup [(.agg [(.z (.int .i64 (.lit 0))), (.z (.int .i64 (.lit 0)))]), (.one (.z (.int .i64 (.lit 3))))]), [], 15))
              (.ret ((.tup [(.agg [(.z (.int .i64 (.var 9003))), (.z (.int .i64 (.var 9004)))]), (.one (.z (.int .i64 (.lit 0))))]), [], 15)))
            (.next 0 ⟨[(0, (.ar .add .i64 (.var 9000) (.lit 1))), (1, (.ar .add .i64 (.var 9001) (.ar .quo .i64 (.fn 10 (.i (.rd (.var 3) (.var 9000) 0) (.i (.rd (.var 3) (.var 9000) 1) (.i (.rd (.var 3) (.var 9000) 2) (.i (.rd (.var 3) (.var 9000) 3) .nil))))) (.rd (.var 3) (.var 9000) 5)))), (2, (.ar .add .i64 (.var 9002) (.ar .quo .i64 (.ar .sub .i64 (.ar .add .i64 (.fn 11 (.i (.rd (.var 3) (.var 9000) 0) (.i (.rd (.var 3) (.var 9000) 1) (.i (.rd (.var 3) (.var 9000) 2) (.i (.rd (.var 3) (.var 9000) 3) .nil))))) (.rd (.var 3) (.var 9000) 4)) (.lit 1)) (.rd (.var 3) (.var 9000) 4)))), (3, (.ar .add .i64 (.var 9001) (.ar .quo .i64 (.fn 10 (.i (.rd (.var 3) (.var 9000) 0) (.i (.rd (.var 3) (.var 9000) 1) (.i (.rd (.var 3) (.var 9000) 2) (.i (.rd (.var 3) (.var 9000) 3) .nil))))) (.rd (.var 3) (.var 9000) 5)))), (4, (.ar .add .i64 (.var 9002) (.ar .quo .i64 (.ar .sub .i64 (.ar .add .i64 (.fn 11 (.i (.rd (.var 3) (.var 9000) 0) (.i (.rd (.var 3) (.var 9000) 1) (.i (.rd (.var 3) (.var 9000) 2) (.i (.rd (.var 3) (.var 9000) 3) .nil))))) (.rd (.var 3) (.var 9000) 4)) (.lit 1)) (.rd (.var 3) (.var 9000) 4))))], [], []⟩))))))
          (.ite (.cmp .gtr (.var 9004) (.lit 10000000))
            (.ret ((.tup [(.agg [(.z (.int .i64 (.lit 0))), (.z (.int .i64 (.lit 0)))]), (.one (.z (.int .i64 (.lit 3))))]), [], 15))
            (.ret ((.tup [(.agg [(.z (.int .i64 (.var 9003))), (.z (.int .i64 (.var 9004)))]), (.one (.z (.int .i64 (.lit 0))))]), [], 15))))))))
-- end trArr
set_option maxRecDepth 100000 in
theorem trArr_is : T.norm 0 (call Try.prog ct3 [] 100 12 (symArgs 0 [psg, it]) [] 0) TT.ret = trArr := by kernel_rfl
theorem trArr_low : trArr.low 1000 = true := by kernel_rfl
-- term trDur: call Try.prog ct3 [] 100 14 (symArgs 0 [psg, it]) [] 0
def trDur : TT OpR :=
(.ite (.not (.fn 20 (.i (.var 0) (.i (.var 1) (.i (.var 2) (.x (.var 3) .nil))))))
  (.ret ((.tup [(.agg [(.z (.int .i64 (.lit 0))), (.z (.int .i64 (.lit 0)))]), (.one (.z (.int .i64 (.lit 1))))]), [], 3))
  (.ite (.cmp .lss (.var 4) (.lit 0))
    (.ret ((.tup [(.agg [(.z (.int .i64 (.lit 0))), (.z (.int .i64 (.lit 0)))]), (.one (.z (.int .i64 (.lit 1))))]), [], 3))
    (.ite (.cmp .geq (.var 4) (.len (.var 3)))
      (.ret ((.tup [(.agg [(.z (.int .i64 (.lit 0))), (.z (.int .i64 (.lit 0)))]), (.one (.z (.int .i64 (.lit 1))))]), [], 3))
      (.loop 0 9000 ⟨[(0, (.lit 0)), (1, (.var 0)), (2, (.var 1)), (3, (.lit 0)), (4, (.lit 0))], [], []⟩
        (.ite (.cmp .lss (.var 9000) (.len (.var 3)))
          (.ob (.tru (.cmp .leq (.lit 0) (.var 9000)))
          (.ob (.tru (.cmp .lss (.var 9000) (.len (.var 3))))
          (.ob (.tru (.cmp .neq (.rd (.var 3) (.var 9000) 5) (.lit 0)))
          (.ob (.tru (.cmp .neq (.rd (.var 3) (.var 9000) 4) (.lit 0)))
          (.ite (.cmp .eql (.var 9000) (.var 4))
            (.next 0 ⟨[(0, (.ar .add .i64 (.var 9000) (.lit 1))), (1, (.ar .add .i64 (.var 9001) (.ar .quo .i64 (.fn 10 (.i (.rd (.var 3) (.var 9000) 0) (.i (.rd (.var 3) (.var 9000) 1) (.i (.rd (.var 3) (.var 9000) 2) (.i (.rd (.var 3) (.var 9000) 3) .nil))))) (.rd (.var 3) (.var 9000) 5)))), (2, (.ar .add .i64 (.var 9002) (.ar .quo .i64 (.ar .sub .i64 (.ar .add .i64 (.fn 11 (.i (.rd (.var 3) (.var 9000) 0) (.i (.rd (.var 3) (.var 9000) 1) (.i (.rd (.var 3) (.var 9000) 2) (.i (.rd (.var 3) (.var 9000) 3) .nil))))) (.rd (.var 3) (.var 9000) 4)) (.lit 1)) (.rd (.var 3) (.var 9000) 4)))), (3, (.var 9001)), (4, (.ar .add .i64 (.var 9002) (.ar .quo .i64 (.ar .sub .i64 (.ar .add .i64 (.fn 11 (.i (.rd (.var 3) (.var 9000) 0) (.i (.rd (.var 3) (.var 9000) 1) (.i (.rd (.var 3) (.var 9000) 2) (.i (.rd (.var 3) (.var 9000) 3) .nil))))) (.rd (.var 3) (.var 9000) 4)) (.lit 1)) (.rd (.var 3) (.var 9000) 4))))], [], []⟩)
            (.next 0 ⟨[(0, (.ar .add .i64 (.var 9000) (.lit 1))), (1, (.ar .add .i64 (.var 9001) (.ar .quo .i64 (.fn 10 (.i (.rd (.var 3) (.var 9000) 0) (.i (.rd (.var 3) (.var 9000) 1) (.i (.rd (.var 3) (.var 9000) 2) (.i (.rd (.var 3) (.var 9000) 3) .nil))))) (.rd (.var 3) (.var 9000) 5)))), (2, (.ar .add .i64 (.var 9002) (.ar .quo .i64 (.ar .sub .i64 (.ar .add .i64 (.fn 11 (.i (.rd (.var 3) (.var 9000) 0) (.i (.rd (.var 3) (.var 9000) 1) (.i (.rd (.var 3) (.var 9000) 2) (.i (.rd (.var 3) (.var 9000) 3) .nil))))) (.rd (.var 3) (.var 9000) 4)) (.lit 1)) (.rd (.var 3) (.var 9000) 4)))), (3, (.var 9003)), (4, (.var 9004))], [], []⟩))))))
          (.ite (.cmp .gtr (.var 9004) (.lit 10000000))
            (.ret ((.tup [(.agg [(.z (.int .i64 (.lit 0))), (.z (.int .i64 (.lit 0)))]), (.one (.z (.int .i64 (.lit 3))))]), [], 15))
            (.ret ((.tup [(.agg [(.z (.int .i64 (.var 9003))), (.z (.int .i64 (.var 9004)))]), (.one (.z (.int .i64 (.lit 0))))]), [], 15))))))))
-- end trDur
set_option maxRecDepth 100000 in
theorem trDur_is : T.norm 0 (call Try.prog ct3 [] 100 14 (symArgs 0 [psg, it]) [] 0) TT.ret = trDur := by kernel_rfl
theorem trDur_low : trDur.low 1000 = true := by kernel_rfl
-- term trRest: call Try.prog ct3 [] 100 13 (symArgs 0 [psg, it]) [] 0
def trRest : TT OpR :=
(.ite (.not (.fn 20 (.i (.var 0) (.i (.var 1) (.i (.var 2) (.x (.var 3) .nil))))))
  (.ret ((.tup [(.one (.z (.int .i64 (.lit 0)))), (.one (.z (.int .i64 (.lit 1))))]), [], 4))
  (.ite (.cmp .geq (.var 4) (.lit 0))
    (.ite (.not (.cmp .leq (.var 4) (.lit 10000000)))
      (.ret ((.tup [(.one (.z (.int .i64 (.lit 0)))), (.one (.z (.int .i64 (.lit 1))))]), [], 4))
      (.loop 0 9000 ⟨[(0, (.lit 0)), (1, (.var 0)), (2, (.var 1))], [], []⟩
        (.ite (.cmp .lss (.var 9000) (.len (.var 3)))
          (.ob (.tru (.cmp .leq (.lit 0) (.var 9000)))
          (.ob (.tru (.cmp .lss (.var 9000) (.len (.var 3))))
          (.ob (.tru (.cmp .neq (.rd (.var 3) (.var 9000) 5) (.lit 0)))
          (.ob (.tru (.cmp .neq (.rd (.var 3) (.var 9000) 4) (.lit 0)))
          (.ite (.cmp .gtr (.ar .add .i64 (.var 9002) (.ar .quo .i64 (.ar .sub .i64 (.ar .add .i64 (.fn 11 (.i (.rd (.var 3) (.var 9000) 0) (.i (.rd (.var 3) (.var 9000) 1) (.i (.rd (.var 3) (.var 9000) 2) (.i (.rd (.var 3) (.var 9000) 3) .nil))))) (.rd (.var 3) (.var 9000) 4)) (.lit 1)) (.rd (.var 3) (.var 9000) 4))) (.lit 10000000))
            (.ret ((.tup [(.one (.z (.int .i64 (.lit 0)))), (.one (.z (.int .i64 (.lit 3))))]), [], 16))
            (.ite (.cmp .geq (.ar .add .i64 (.var 9002) (.ar .quo .i64 (.ar .sub .i64 (.ar .add .i64 (.fn 11 (.i (.rd (.var 3) (.var 9000) 0) (.i (.rd (.var 3) (.var 9000) 1) (.i (.rd (.var 3) (.var 9000) 2) (.i (.rd (.var 3) (.var 9000) 3) .nil))))) (.rd (.var 3) (.var 9000) 4)) (.lit 1)) (.rd (.var 3) (.var 9000) 4))) (.var 4))
              (.ret ((.tup [(.one (.z (.int .i64 (.var 9000)))), (.one (.z (.int .i64 (.lit 0))))]), [], 16))
              (.next 0 ⟨[(0, (.ar .add .i64 (.var 9000) (.lit 1))), (1, (.ar .add .i64 (.var 9001) (.ar .quo .i64 (.fn 10 (.i (.rd (.var 3) (.var 9000) 0) (.i (.rd (.var 3) (.var 9000) 1) (.i (.rd (.var 3) (.var 9000) 2) (.i (.rd (.var 3) (.var 9000) 3) .nil))))) (.rd (.var 3) (.var 9000) 5)))), (2, (.ar .add .i64 (.var 9002) (.ar .quo .i64 (.ar .sub .i64 (.ar .add .i64 (.fn 11 (.i (.rd (.var 3) (.var 9000) 0) (.i (.rd (.var 3) (.var 9000) 1) (.i (.rd (.var 3) (.var 9000) 2) (.i (.rd (.var 3) (.var 9000) 3) .nil))))) (.rd (.var 3) (.var 9000) 4)) (.lit 1)) (.rd (.var 3) (.var 9000) 4))))], [], []⟩)))))))
          (.ret ((.tup [(.one (.z (.int .i64 (.len (.var 3))))), (.one (.z (.int .i64 (.lit 0))))]), [], 16)))))
    (.ret ((.tup [(.one (.z (.int .i64 (.lit 0)))), (.one (.z (.int .i64 (.lit 1))))]), [], 4))))
-- end trRest
set_option maxRecDepth 100000 in
theorem trRest_is : T.norm 0 (call Try.prog ct3 [] 100 13 (symArgs 0 [psg, it]) [] 0) TT.ret = trRest := by kernel_rfl
theorem trRest_low : trRest.low 1000 = true := by kernel_rfl
end Go.Proofs.Ytinfmmofcadjgaa
