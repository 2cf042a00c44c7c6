/- LMore, merged: TNi, Lv1, TNj, Nj, Nk. -/
import Derived.Test.YtkjjkckcjgkhmaaGreatND
import Derived.Test.YtkjjkckcjgkhmaaGreatMP
import Derived.Test.YtkjjkckcjgkhmaaGreatNC
set_option linter.unusedSimpArgs false
set_option linter.unusedVariables false
/- Chapter 40: trees of laws. -/
namespace Go.Proofs.YtkjjkckcjgkhmaaGreat
open Go.RowKit
def shes : Sh := .one (.sl sheetK)
def caseS : Sh := .agg [.sl sheetK, .int .i64, .int .i64, .int .i64, .sl legK, .int .i64, .int .i64, .sl [.int .i64], .int .i64, .int .i64, .sl [.int .i64, .int .i64]]
-- term trLawSource: call Tryz.prog ctN8 (Lt.of []) 100 10 (symArgs 0 [nots, it, it]) [] 0
def trLawSource : TT OpR :=
(.ite (.cmp .gtr (.len (.var 0)) (.lit 12))
  (.ret ((.v (.one (.z (.bool (.lit true))))), [], 0))
  (.ite (.cmp .eql (.fn 181 (.x (.var 0) (.i (.var 1) (.i (.var 2) .nil)))) (.lit 1))
    (.ret ((.v (.one (.z (.bool (.cmp .eql (.fn 180 (.x (.var 0) (.i (.var 1) (.i (.var 2) .nil)))) (.lit 0)))))), [], 0))
    (.loop 0 1000 ⟨[(2, (.lit 0))], [(0, (.lit true)), (1, (.lit false))], []⟩
      (.ite (.cmp .lss (.var 1002) (.len (.var 0)))
        (.loop 1 2000 ⟨[(2, (.lit 0))], [(0, (.var 1000)), (1, (.var 1001))], []⟩
          (.ob (.tru (.cmp .leq (.lit 0) (.var 1002)))
          (.ob (.tru (.cmp .lss (.var 1002) (.len (.var 0))))
          (.ite (.cmp .lss (.var 2002) (.len (.rd (.var 0) (.var 1002) 6)))
            (.loop 2 3000 ⟨[(2, (.lit 0))], [(0, (.var 2000)), (1, (.var 2001))], []⟩
              (.ob (.tru (.cmp .leq (.lit 0) (.var 1002)))
              (.ob (.tru (.cmp .lss (.var 1002) (.len (.var 0))))
              (.ob (.tru (.cmp .leq (.lit 0) (.var 2002)))
              (.ob (.tru (.cmp .lss (.var 2002) (.len (.rd (.var 0) (.var 1002) 6))))
              (.ite (.cmp .lss (.var 3002) (.len (.rd (.rd (.var 0) (.var 1002) 6) (.var 2002) 2)))
                (.ob (.tru (.cmp .leq (.lit 0) (.var 1002)))
                (.ob (.tru (.cmp .lss (.var 1002) (.len (.var 0))))
                (.ite (.cmp .eql (.rd (.var 0) (.var 1002) 2) (.lit 1))
                  (.ob (.tru (.cmp .leq (.lit 0) (.var 1002)))
                  (.ob (.tru (.cmp .lss (.var 1002) (.len (.var 0))))
                  (.ob (.tru (.cmp .leq (.lit 0) (.var 2002)))
                  (.ob (.tru (.cmp .lss (.var 2002) (.len (.rd (.var 0) (.var 1002) 6))))
                  (.ite (.cmp .eql (.rd (.rd (.var 0) (.var 1002) 6) (.var 2002) 0) (.var 1))
                    (.ob (.tru (.cmp .leq (.lit 0) (.var 1002)))
                    (.ob (.tru (.cmp .lss (.var 1002) (.len (.var 0))))
                    (.ob (.tru (.cmp .leq (.lit 0) (.var 2002)))
                    (.ob (.tru (.cmp .lss (.var 2002) (.len (.rd (.var 0) (.var 1002) 6))))
                    (.ob (.tru (.cmp .leq (.lit 0) (.var 3002)))
                    (.ob (.tru (.cmp .lss (.var 3002) (.len (.rd (.rd (.var 0) (.var 1002) 6) (.var 2002) 2))))
                    (.ite (.cmp .eql (.rd (.rd (.rd (.var 0) (.var 1002) 6) (.var 2002) 2) (.var 3002) 1) (.var 2))
                      (.ite (.var 3001)
                        (.ite (.var 3000)
                          (.ite (.cmp .eql (.fn 181 (.x (.var 0) (.i (.var 1) (.i (.var 2) .nil)))) (.lit 0))
                            (.ob (.tru (.cmp .leq (.lit 0) (.var 1002)))
                            (.ob (.tru (.cmp .lss (.var 1002) (.len (.var 0))))
                            (.next 2 ⟨[(2, (.ar .add .i64 (.var 3002) (.lit 1)))], [(0, (.cmp .leq (.rd (.var 0) (.var 1002) 1) (.fn 180 (.x (.var 0) (.i (.var 1) (.i (.var 2) .nil)))))), (1, (.lit true))], []⟩)))
                            (.next 2 ⟨[(2, (.ar .add .i64 (.var 3002) (.lit 1)))], [(0, (.lit false)), (1, (.lit true))], []⟩))
                          (.next 2 ⟨[(2, (.ar .add .i64 (.var 3002) (.lit 1)))], [(0, (.lit false)), (1, (.lit true))], []⟩))
                        (.ob (.tru (.cmp .leq (.lit 0) (.var 1002)))
                        (.ob (.tru (.cmp .lss (.var 1002) (.len (.var 0))))
                        (.ite (.var 3000)
                          (.ite (.cmp .eql (.fn 181 (.x (.var 0) (.i (.var 1) (.i (.var 2) .nil)))) (.lit 0))
                            (.ob (.tru (.cmp .leq (.lit 0) (.var 1002)))
                            (.ob (.tru (.cmp .lss (.var 1002) (.len (.var 0))))
                            (.next 2 ⟨[(2, (.ar .add .i64 (.var 3002) (.lit 1)))], [(0, (.cmp .leq (.rd (.var 0) (.var 1002) 1) (.fn 180 (.x (.var 0) (.i (.var 1) (.i (.var 2) .nil)))))), (1, (.cmp .eql (.rd (.var 0) (.var 1002) 1) (.fn 180 (.x (.var 0) (.i (.var 1) (.i (.var 2) .nil))))))], []⟩)))
                            (.next 2 ⟨[(2, (.ar .add .i64 (.var 3002) (.lit 1)))], [(0, (.lit false)), (1, (.cmp .eql (.rd (.var 0) (.var 1002) 1) (.fn 180 (.x (.var 0) (.i (.var 1) (.i (.var 2) .nil))))))], []⟩))
                          (.next 2 ⟨[(2, (.ar .add .i64 (.var 3002) (.lit 1)))], [(0, (.lit false)), (1, (.cmp .eql (.rd (.var 0) (.var 1002) 1) (.fn 180 (.x (.var 0) (.i (.var 1) (.i (.var 2) .nil))))))], []⟩)))))
                      (.next 2 ⟨[(2, (.ar .add .i64 (.var 3002) (.lit 1)))], [(0, (.var 3000)), (1, (.var 3001))], []⟩))))))))
                    (.next 2 ⟨[(2, (.ar .add .i64 (.var 3002) (.lit 1)))], [(0, (.var 3000)), (1, (.var 3001))], []⟩))))))
                  (.next 2 ⟨[(2, (.ar .add .i64 (.var 3002) (.lit 1)))], [(0, (.var 3000)), (1, (.var 3001))], []⟩))))
                (.next 1 ⟨[(2, (.ar .add .i64 (.var 2002) (.lit 1)))], [(0, (.var 3000)), (1, (.var 3001))], []⟩)))))))
            (.next 0 ⟨[(2, (.ar .add .i64 (.var 1002) (.lit 1)))], [(0, (.var 2000)), (1, (.var 2001))], []⟩)))))
        (.ite (.var 1000)
          (.ite (.eqb (.var 1001) (.cmp .eql (.fn 181 (.x (.var 0) (.i (.var 1) (.i (.var 2) .nil)))) (.lit 0)))
            (.ite (.cmp .eql (.fn 181 (.x (.var 0) (.i (.var 1) (.i (.var 2) .nil)))) (.lit 0))
              (.ret ((.v (.one (.z (.bool (.lit true))))), [], 3))
              (.ite (.cmp .eql (.fn 181 (.x (.var 0) (.i (.var 1) (.i (.var 2) .nil)))) (.lit 4))
                (.ret ((.v (.one (.z (.bool (.cmp .eql (.fn 180 (.x (.var 0) (.i (.var 1) (.i (.var 2) .nil)))) (.lit 0)))))), [], 3))
                (.ret ((.v (.one (.z (.bool (.lit false))))), [], 3))))
            (.ret ((.v (.one (.z (.bool (.lit false))))), [], 3)))
          (.ret ((.v (.one (.z (.bool (.lit false))))), [], 3)))))))
-- end trLawSource
def trLawSource_h : List (Nat × St) := [
(0, ⟨(List.append [(.v (.one (.z (.ext [(.int .i64), (.int .i64), (.int .i64), (.int .i64), (.int .i64), (.int .i64), (.sl [(.int .i64), (.sl [(.int .i64)]), (.sl [(.int .i64), (.int .i64), (.int .i64), (.int .i64), (.int .i64), (.int .i64), (.int .i64), (.sl [(.int .i64), (.int .i64)]), (.int .i64), (.int .i64), (.sl [(.int .i64), (.int .i64), (.int .i64), (.int .i64), (.int .i64), (.int .i64)]), (.int .i64), (.int .i64), (.int .i64), (.int .i64), (.int .i64)])])] (.var 0) false)))), (.v (.one (.z (.int .i64 (.var 1))))), (.v (.one (.z (.int .i64 (.var 2))))), (.v (.one (.z .any))), (.v (.one (.z .any))), (.v (.one (.z .any))), (.v (.one (.z (.bool (.lit false))))), (.v (.one (.z (.bool (.var 1000))))), (.v (.one (.z (.int .i64 (.fn 180 (.x (.var 0) (.i (.var 1) (.i (.var 2) .nil)))))))), (.v (.one (.z (.int .i64 (.fn 181 (.x (.var 0) (.i (.var 1) (.i (.var 2) .nil)))))))), (.v (.one (.z (.bool (.var 1001))))), (.v (.one (.z (.int .i64 (.var 1002))))), (.v (.one (.z .any))), (.v (.one (.z .any))), (.v (.one (.z (.bool (.lit true))))), (.v (.one (.z (.ext [(.int .i64), (.int .i64), (.int .i64), (.int .i64), (.int .i64), (.int .i64), (.sl [(.int .i64), (.sl [(.int .i64)]), (.sl [(.int .i64), (.int .i64), (.int .i64), (.int .i64), (.int .i64), (.int .i64), (.int .i64), (.sl [(.int .i64), (.int .i64)]), (.int .i64), (.int .i64), (.sl [(.int .i64), (.int .i64), (.int .i64), (.int .i64), (.int .i64), (.int .i64)]), (.int .i64), (.int .i64), (.int .i64), (.int .i64), (.int .i64)])])] (.var 0) false)))), (.v (.one (.z (.int .i64 (.len (.var 0)))))), (.v (.one (.z (.bool (.cmp .gtr (.len (.var 0)) (.lit 12)))))), (.v (.one (.z .any))), (.v (.one (.z .any))), (.v (.one (.z (.ext [(.int .i64), (.int .i64), (.int .i64), (.int .i64), (.int .i64), (.int .i64), (.sl [(.int .i64), (.sl [(.int .i64)]), (.sl [(.int .i64), (.int .i64), (.int .i64), (.int .i64), (.int .i64), (.int .i64), (.int .i64), (.sl [(.int .i64), (.int .i64)]), (.int .i64), (.int .i64), (.sl [(.int .i64), (.int .i64), (.int .i64), (.int .i64), (.int .i64), (.int .i64)]), (.int .i64), (.int .i64), (.int .i64), (.int .i64), (.int .i64)])])] (.var 0) false)))), (.v (.one (.z (.int .i64 (.var 1))))), (.v (.one (.z (.int .i64 (.var 2))))), (.v (.one (.z .any))), (.v (.one (.z (.int .i64 (.fn 180 (.x (.var 0) (.i (.var 1) (.i (.var 2) .nil)))))))), (.v (.one (.z (.int .i64 (.fn 181 (.x (.var 0) (.i (.var 1) (.i (.var 2) .nil)))))))), (.v (.one (.z (.int .i64 (.fn 181 (.x (.var 0) (.i (.var 1) (.i (.var 2) .nil)))))))), (.v (.one (.z (.bool (.cmp .eql (.fn 181 (.x (.var 0) (.i (.var 1) (.i (.var 2) .nil)))) (.lit 1))))))] (List.replicate 114 V.any)), [], 1, []⟩),
(1, ⟨(List.append [(.v (.one (.z (.ext [(.int .i64), (.int .i64), (.int .i64), (.int .i64), (.int .i64), (.int .i64), (.sl [(.int .i64), (.sl [(.int .i64)]), (.sl [(.int .i64), (.int .i64), (.int .i64), (.int .i64), (.int .i64), (.int .i64), (.int .i64), (.sl [(.int .i64), (.int .i64)]), (.int .i64), (.int .i64), (.sl [(.int .i64), (.int .i64), (.int .i64), (.int .i64), (.int .i64), (.int .i64)]), (.int .i64), (.int .i64), (.int .i64), (.int .i64), (.int .i64)])])] (.var 0) false)))), (.v (.one (.z (.int .i64 (.var 1))))), (.v (.one (.z (.int .i64 (.var 2))))), (.v (.one (.z .any))), (.v (.one (.z .any))), (.v (.one (.z .any))), (.v (.one (.z (.bool (.lit false))))), (.v (.one (.z (.bool (.var 2000))))), (.v (.one (.z (.int .i64 (.fn 180 (.x (.var 0) (.i (.var 1) (.i (.var 2) .nil)))))))), (.v (.one (.z (.int .i64 (.fn 181 (.x (.var 0) (.i (.var 1) (.i (.var 2) .nil)))))))), (.v (.one (.z (.bool (.var 2001))))), (.v (.one (.z (.int .i64 (.var 1002))))), (.v (.one (.z (.int .i64 (.var 2002))))), (.v (.one (.z .any))), (.v (.one (.z (.bool (.lit true))))), (.v (.one (.z (.ext [(.int .i64), (.int .i64), (.int .i64), (.int .i64), (.int .i64), (.int .i64), (.sl [(.int .i64), (.sl [(.int .i64)]), (.sl [(.int .i64), (.int .i64), (.int .i64), (.int .i64), (.int .i64), (.int .i64), (.int .i64), (.sl [(.int .i64), (.int .i64)]), (.int .i64), (.int .i64), (.sl [(.int .i64), (.int .i64), (.int .i64), (.int .i64), (.int .i64), (.int .i64)]), (.int .i64), (.int .i64), (.int .i64), (.int .i64), (.int .i64)])])] (.var 0) false)))), (.v (.one (.z (.int .i64 (.len (.var 0)))))), (.v (.one (.z (.bool (.cmp .gtr (.len (.var 0)) (.lit 12)))))), (.v (.one (.z .any))), (.v (.one (.z .any))), (.v (.one (.z (.ext [(.int .i64), (.int .i64), (.int .i64), (.int .i64), (.int .i64), (.int .i64), (.sl [(.int .i64), (.sl [(.int .i64)]), (.sl [(.int .i64), (.int .i64), (.int .i64), (.int .i64), (.int .i64), (.int .i64), (.int .i64), (.sl [(.int .i64), (.int .i64)]), (.int .i64), (.int .i64), (.sl [(.int .i64), (.int .i64), (.int .i64), (.int .i64), (.int .i64), (.int .i64)]), (.int .i64), (.int .i64), (.int .i64), (.int .i64), (.int .i64)])])] (.var 0) false)))), (.v (.one (.z (.int .i64 (.var 1))))), (.v (.one (.z (.int .i64 (.var 2))))), (.v (.one (.z .any))), (.v (.one (.z (.int .i64 (.fn 180 (.x (.var 0) (.i (.var 1) (.i (.var 2) .nil)))))))), (.v (.one (.z (.int .i64 (.fn 181 (.x (.var 0) (.i (.var 1) (.i (.var 2) .nil)))))))), (.v (.one (.z (.int .i64 (.fn 181 (.x (.var 0) (.i (.var 1) (.i (.var 2) .nil)))))))), (.v (.one (.z (.bool (.cmp .eql (.fn 181 (.x (.var 0) (.i (.var 1) (.i (.var 2) .nil)))) (.lit 1))))))] (List.append (List.replicate 5 V.any) (List.append [(.v (.one (.z (.int .i64 (.var 1002))))), (.v (.one (.z (.ext [(.int .i64), (.int .i64), (.int .i64), (.int .i64), (.int .i64), (.int .i64), (.sl [(.int .i64), (.sl [(.int .i64)]), (.sl [(.int .i64), (.int .i64), (.int .i64), (.int .i64), (.int .i64), (.int .i64), (.int .i64), (.sl [(.int .i64), (.int .i64)]), (.int .i64), (.int .i64), (.sl [(.int .i64), (.int .i64), (.int .i64), (.int .i64), (.int .i64), (.int .i64)]), (.int .i64), (.int .i64), (.int .i64), (.int .i64), (.int .i64)])])] (.var 0) false)))), (.v (.one (.z (.int .i64 (.len (.var 0)))))), (.v (.one (.z (.bool (.cmp .lss (.var 1002) (.len (.var 0)))))))] (List.replicate 105 V.any)))), [], 2, []⟩),
(2, ⟨(List.append [(.v (.one (.z (.ext [(.int .i64), (.int .i64), (.int .i64), (.int .i64), (.int .i64), (.int .i64), (.sl [(.int .i64), (.sl [(.int .i64)]), (.sl [(.int .i64), (.int .i64), (.int .i64), (.int .i64), (.int .i64), (.int .i64), (.int .i64), (.sl [(.int .i64), (.int .i64)]), (.int .i64), (.int .i64), (.sl [(.int .i64), (.int .i64), (.int .i64), (.int .i64), (.int .i64), (.int .i64)]), (.int .i64), (.int .i64), (.int .i64), (.int .i64), (.int .i64)])])] (.var 0) false)))), (.v (.one (.z (.int .i64 (.var 1))))), (.v (.one (.z (.int .i64 (.var 2))))), (.v (.one (.z .any))), (.v (.one (.z .any))), (.v (.one (.z .any))), (.v (.one (.z (.bool (.lit false))))), (.v (.one (.z (.bool (.var 3000))))), (.v (.one (.z (.int .i64 (.fn 180 (.x (.var 0) (.i (.var 1) (.i (.var 2) .nil)))))))), (.v (.one (.z (.int .i64 (.fn 181 (.x (.var 0) (.i (.var 1) (.i (.var 2) .nil)))))))), (.v (.one (.z (.bool (.var 3001))))), (.v (.one (.z (.int .i64 (.var 1002))))), (.v (.one (.z (.int .i64 (.var 2002))))), (.v (.one (.z (.int .i64 (.var 3002))))), (.v (.one (.z (.bool (.lit true))))), (.v (.one (.z (.ext [(.int .i64), (.int .i64), (.int .i64), (.int .i64), (.int .i64), (.int .i64), (.sl [(.int .i64), (.sl [(.int .i64)]), (.sl [(.int .i64), (.int .i64), (.int .i64), (.int .i64), (.int .i64), (.int .i64), (.int .i64), (.sl [(.int .i64), (.int .i64)]), (.int .i64), (.int .i64), (.sl [(.int .i64), (.int .i64), (.int .i64), (.int .i64), (.int .i64), (.int .i64)]), (.int .i64), (.int .i64), (.int .i64), (.int .i64), (.int .i64)])])] (.var 0) false)))), (.v (.one (.z (.int .i64 (.len (.var 0)))))), (.v (.one (.z (.bool (.cmp .gtr (.len (.var 0)) (.lit 12)))))), (.v (.one (.z .any))), (.v (.one (.z .any))), (.v (.one (.z (.ext [(.int .i64), (.int .i64), (.int .i64), (.int .i64), (.int .i64), (.int .i64), (.sl [(.int .i64), (.sl [(.int .i64)]), (.sl [(.int .i64), (.int .i64), (.int .i64), (.int .i64), (.int .i64), (.int .i64), (.int .i64), (.sl [(.int .i64), (.int .i64)]), (.int .i64), (.int .i64), (.sl [(.int .i64), (.int .i64), (.int .i64), (.int .i64), (.int .i64), (.int .i64)]), (.int .i64), (.int .i64), (.int .i64), (.int .i64), (.int .i64)])])] (.var 0) false)))), (.v (.one (.z (.int .i64 (.var 1))))), (.v (.one (.z (.int .i64 (.var 2))))), (.v (.one (.z .any))), (.v (.one (.z (.int .i64 (.fn 180 (.x (.var 0) (.i (.var 1) (.i (.var 2) .nil)))))))), (.v (.one (.z (.int .i64 (.fn 181 (.x (.var 0) (.i (.var 1) (.i (.var 2) .nil)))))))), (.v (.one (.z (.int .i64 (.fn 181 (.x (.var 0) (.i (.var 1) (.i (.var 2) .nil)))))))), (.v (.one (.z (.bool (.cmp .eql (.fn 181 (.x (.var 0) (.i (.var 1) (.i (.var 2) .nil)))) (.lit 1))))))] (List.append (List.replicate 5 V.any) (List.append [(.v (.one (.z (.int .i64 (.var 1002))))), (.v (.one (.z (.ext [(.int .i64), (.int .i64), (.int .i64), (.int .i64), (.int .i64), (.int .i64), (.sl [(.int .i64), (.sl [(.int .i64)]), (.sl [(.int .i64), (.int .i64), (.int .i64), (.int .i64), (.int .i64), (.int .i64), (.int .i64), (.sl [(.int .i64), (.int .i64)]), (.int .i64), (.int .i64), (.sl [(.int .i64), (.int .i64), (.int .i64), (.int .i64), (.int .i64), (.int .i64)]), (.int .i64), (.int .i64), (.int .i64), (.int .i64), (.int .i64)])])] (.var 0) false)))), (.v (.one (.z (.int .i64 (.len (.var 0)))))), (.v (.one (.z (.bool (.cmp .lss (.var 1002) (.len (.var 0))))))), (.v (.one (.z .any))), (.v (.one (.z .any))), (.v (.one (.z (.int .i64 (.var 2002))))), (.v (.one (.z (.ext [(.int .i64), (.int .i64), (.int .i64), (.int .i64), (.int .i64), (.int .i64), (.sl [(.int .i64), (.sl [(.int .i64)]), (.sl [(.int .i64), (.int .i64), (.int .i64), (.int .i64), (.int .i64), (.int .i64), (.int .i64), (.sl [(.int .i64), (.int .i64)]), (.int .i64), (.int .i64), (.sl [(.int .i64), (.int .i64), (.int .i64), (.int .i64), (.int .i64), (.int .i64)]), (.int .i64), (.int .i64), (.int .i64), (.int .i64), (.int .i64)])])] (.var 0) false)))), (.v (.one (.z (.int .i64 (.var 1002))))), (.v (.one (.z (.eptr [(.int .i64), (.int .i64), (.int .i64), (.int .i64), (.int .i64), (.int .i64), (.sl [(.int .i64), (.sl [(.int .i64)]), (.sl [(.int .i64), (.int .i64), (.int .i64), (.int .i64), (.int .i64), (.int .i64), (.int .i64), (.sl [(.int .i64), (.int .i64)]), (.int .i64), (.int .i64), (.sl [(.int .i64), (.int .i64), (.int .i64), (.int .i64), (.int .i64), (.int .i64)]), (.int .i64), (.int .i64), (.int .i64), (.int .i64), (.int .i64)])])] (.var 0) (.var 1002) 0)))), (.v (.one (.z (.eptr [(.int .i64), (.int .i64), (.int .i64), (.int .i64), (.int .i64), (.int .i64), (.sl [(.int .i64), (.sl [(.int .i64)]), (.sl [(.int .i64), (.int .i64), (.int .i64), (.int .i64), (.int .i64), (.int .i64), (.int .i64), (.sl [(.int .i64), (.int .i64)]), (.int .i64), (.int .i64), (.sl [(.int .i64), (.int .i64), (.int .i64), (.int .i64), (.int .i64), (.int .i64)]), (.int .i64), (.int .i64), (.int .i64), (.int .i64), (.int .i64)])])] (.var 0) (.var 1002) 6)))), (.v (.one (.z (.ext [(.int .i64), (.sl [(.int .i64)]), (.sl [(.int .i64), (.int .i64), (.int .i64), (.int .i64), (.int .i64), (.int .i64), (.int .i64), (.sl [(.int .i64), (.int .i64)]), (.int .i64), (.int .i64), (.sl [(.int .i64), (.int .i64), (.int .i64), (.int .i64), (.int .i64), (.int .i64)]), (.int .i64), (.int .i64), (.int .i64), (.int .i64), (.int .i64)])] (.rd (.var 0) (.var 1002) 6) false)))), (.v (.one (.z (.int .i64 (.len (.rd (.var 0) (.var 1002) 6)))))), (.v (.one (.z (.bool (.cmp .lss (.var 2002) (.len (.rd (.var 0) (.var 1002) 6)))))))] (List.replicate 95 V.any)))), [], 3, []⟩)]
def trLawSource_j : List (FuncId × Nat × Nat × St) := [
]
set_option maxRecDepth 100000 in
theorem trLawSource_is : T.norm 0 (call Tryz.prog ctN8 ⟨Lt.un (Lt.of []), trLawSource_h, trLawSource_j⟩ 100 10 (symArgs 0 [nots, it, it]) [] 0) TT.ret = trLawSource := by kernel_rfl
theorem trLawSource_low : trLawSource.low 1000 = true := by kernel_rfl
end Go.Proofs.YtkjjkckcjgkhmaaGreat
/- Chapters 38, 40: a ship that may be farther off can be near whatever it could be near. -/
namespace Go.Proofs.YtkjjkckcjgkhmaaGreat
open Go.RowKit
/-! Farther off -/
theorem leg_places {r : Rows} {i : Int} (h : legB r i = true) : placeB (lg r i 0) (lg r i 1) = true ∧ placeB (lg r i 2) (lg r i 3) = true := (legB_iff.mp h).1
theorem nearB_far {x y ax ay bx b d e : Int} (hd : 0 ≤ d) (he : d ≤ e) (h : nearB x y ax ay bx b d = true) : nearB x y ax ay bx b e = true := by
  have hm : d * d ≤ e * e := Int.mul_le_mul he he hd (by omega)
  unfold nearB at h ⊢
  split at h
  · rename_i q
    rw [if_pos q]
    rw [decide_eq_true_eq] at h ⊢; omega
  · rename_i q
    rw [if_neg q]
    split at h
    · rename_i q2
      rw [if_pos q2]
      rw [decide_eq_true_eq] at h ⊢; omega
    · rename_i q2
      rw [if_neg q2]
      rw [decide_eq_true_eq] at h ⊢
      refine Int.le_trans h (Int.mul_le_mul_of_nonneg_right hm ?_)
      unfold dist2
      have h1 := sq_nn (bx - ax)
      have h2 := sq_nn (b - ay)
      omega
theorem closeB_far {ax ay bx b x y dx dy d e : Int} (hd : 0 ≤ d) (he : d ≤ e) (h : closeB ax ay bx b x y dx dy d = true) : closeB ax ay bx b x y dx dy e = true := by
  unfold closeB at h ⊢
  simp only [Bool.or_eq_true] at h ⊢
  rcases h with h | h | h | h | h
  · exact .inl h
  · exact .inr (.inl (nearB_far hd he h))
  · exact .inr (.inr (.inl (nearB_far hd he h)))
  · exact .inr (.inr (.inr (.inl (nearB_far hd he h))))
  · exact .inr (.inr (.inr (.inr (nearB_far hd he h))))
theorem nearX_far {r area : Rows} {k d e id kind x y rad depth sym : Int} {sc : Rows} (hd : 0 ≤ d) (he : d ≤ e) (hm : e ≤ 100000) (l : legB r k = true) (hf : featP id kind x y rad area depth sym sc) (h : nearX r k d kind x y rad area = true) : nearX r k e kind x y rad area = true := by
  obtain ⟨p1, p2⟩ := leg_places l
  obtain ⟨_, _, _, hr, q | q | q⟩ := hf
  · obtain ⟨hk, hp, _⟩ := q
    unfold nearX at h ⊢
    rw [if_neg (by omega), if_neg (by omega), (nearR_eq hp p1 p2 (by omega)).1] at h
    rw [if_neg (by omega), if_neg (by omega), (nearR_eq hp p1 p2 (by omega)).1]
    exact nearB_far (by omega) (by omega) h
  · obtain ⟨hk, hp, _⟩ := q
    unfold nearX at h ⊢
    rw [if_neg (by omega), if_pos (by omega), Bool.or_eq_true] at h
    rw [if_neg (by omega), if_pos (by omega), Bool.or_eq_true]
    rcases h with h | h
    · exact .inl h
    · right
      rw [bes_true] at h ⊢
      obtain ⟨j, j1, j2, j3⟩ := h
      refine ⟨j, j1, j2, ?_⟩
      have a1 := polyB_pl hp (show j < area.length by omega)
      have a2 := polyB_pl hp (prv_lt (show j < area.length by omega))
      unfold cx cy at a1 a2
      rw [closeR_eq p1 p2 a2 a1 (by omega)] at j3 ⊢
      exact closeB_far hd he j3
  · rw [nearX, if_pos q.1] at h; cases h
end Go.Proofs.YtkjjkckcjgkhmaaGreat
/- Chapter 40: the trees of the laws CheckLesser and CheckMore. -/
namespace Go.Proofs.YtkjjkckcjgkhmaaGreat
open Go.RowKit
-- term trLawLesser: call Tryz.prog ctN8 (Lt.of [(13, 0)]) 1000 5 (symArgs 0 [shee, caseS, it, shp, it]) [] 0
def trLawLesser : TT OpR :=
(.ite (.cmp .gtr (.len (.var 17)) (.lit 6))
  (.ret ((.v (.one (.z (.bool (.lit true))))), [], 5))
  (.ite (.cmp .gtr (.len (.var 12)) (.lit 12))
    (.ret ((.v (.one (.z (.bool (.lit true))))), [], 5))
    (.ite (.cmp .neq (.len (.var 27)) (.len (.var 20)))
      (.ret ((.v (.one (.z (.bool (.lit true))))), [], 5))
      (.ite (.cmp .neq (.fn 191 (.i (.var 0) (.i (.var 1) (.i (.var 2) (.i (.var 3) (.i (.var 4) (.i (.var 5) (.i (.var 6) (.i (.var 7) (.i (.var 8) (.i (.var 9) (.i (.var 10) (.x (.var 11) (.x (.var 12) (.i (.var 14) (.i (.var 15) (.i (.var 16) (.x (.var 17) (.i (.var 24) (.i (.var 18) (.i (.var 19) (.x (.var 20) (.i (.var 21) (.i (.var 22) (.x (.var 23) .nil))))))))))))))))))))))))) (.lit 0))
        (.ret ((.v (.one (.z (.bool (.lit true))))), [], 5))
        (.ite (.not (.fn 144 (.i (.var 25) (.i (.var 26) (.x (.var 27) .nil)))))
          (.ret ((.v (.one (.z (.bool (.cmp .eql (.fn 191 (.i (.var 0) (.i (.var 1) (.i (.var 2) (.i (.var 3) (.i (.var 4) (.i (.var 5) (.i (.var 6) (.i (.var 7) (.i (.var 8) (.i (.var 9) (.i (.var 10) (.x (.var 11) (.x (.var 12) (.i (.var 14) (.i (.var 15) (.i (.mx (.lit 0) (.mn (.var 28) (.var 16))) (.x (.var 17) (.i (.var 24) (.i (.var 18) (.i (.var 19) (.x (.var 20) (.i (.var 21) (.i (.var 22) (.x (.var 23) .nil))))))))))))))))))))))))) (.lit 0)))))), [], 6))
          (.ite (.cmp .gtr (.var 25) (.var 18))
            (.ret ((.v (.one (.z (.bool (.cmp .eql (.fn 191 (.i (.var 0) (.i (.var 1) (.i (.var 2) (.i (.var 3) (.i (.var 4) (.i (.var 5) (.i (.var 6) (.i (.var 7) (.i (.var 8) (.i (.var 9) (.i (.var 10) (.x (.var 11) (.x (.var 12) (.i (.var 14) (.i (.var 15) (.i (.mx (.lit 0) (.mn (.var 28) (.var 16))) (.x (.var 17) (.i (.var 24) (.i (.var 18) (.i (.var 19) (.x (.var 20) (.i (.var 21) (.i (.var 22) (.x (.var 23) .nil))))))))))))))))))))))))) (.lit 0)))))), [], 6))
            (.ite (.cmp .gtr (.var 26) (.var 19))
              (.ret ((.v (.one (.z (.bool (.cmp .eql (.fn 191 (.i (.var 0) (.i (.var 1) (.i (.var 2) (.i (.var 3) (.i (.var 4) (.i (.var 5) (.i (.var 6) (.i (.var 7) (.i (.var 8) (.i (.var 9) (.i (.var 10) (.x (.var 11) (.x (.var 12) (.i (.var 14) (.i (.var 15) (.i (.mx (.lit 0) (.mn (.var 28) (.var 16))) (.x (.var 17) (.i (.var 24) (.i (.var 18) (.i (.var 19) (.x (.var 20) (.i (.var 21) (.i (.var 22) (.x (.var 23) .nil))))))))))))))))))))))))) (.lit 0)))))), [], 6))
              (.loop 0 7000 ⟨[(0, (.lit 0))], [], []⟩
                (.ite (.cmp .lss (.var 7000) (.len (.var 27)))
                  (.ob (.tru (.cmp .leq (.lit 0) (.var 7000)))
                  (.ob (.tru (.cmp .lss (.var 7000) (.len (.var 27))))
                  (.ob (.tru (.cmp .leq (.lit 0) (.var 7000)))
                  (.ob (.tru (.cmp .lss (.var 7000) (.len (.var 20))))
                  (.ite (.cmp .gtr (.rd (.var 27) (.var 7000) 0) (.rd (.var 20) (.var 7000) 0))
                    (.ret ((.v (.one (.z (.bool (.cmp .eql (.fn 191 (.i (.var 0) (.i (.var 1) (.i (.var 2) (.i (.var 3) (.i (.var 4) (.i (.var 5) (.i (.var 6) (.i (.var 7) (.i (.var 8) (.i (.var 9) (.i (.var 10) (.x (.var 11) (.x (.var 12) (.i (.var 14) (.i (.var 15) (.i (.mx (.lit 0) (.mn (.var 28) (.var 16))) (.x (.var 17) (.i (.var 24) (.i (.var 18) (.i (.var 19) (.x (.var 20) (.i (.var 21) (.i (.var 22) (.x (.var 23) .nil))))))))))))))))))))))))) (.lit 0)))))), [], 7))
                    (.next 0 ⟨[(0, (.ar .add .i64 (.var 7000) (.lit 1)))], [], []⟩))))))
                  (.ite (.cmp .eql (.fn 191 (.i (.var 0) (.i (.var 1) (.i (.var 2) (.i (.var 3) (.i (.var 4) (.i (.var 5) (.i (.var 6) (.i (.var 7) (.i (.var 8) (.i (.var 9) (.i (.var 10) (.x (.var 11) (.x (.var 12) (.i (.var 14) (.i (.var 15) (.i (.mx (.lit 0) (.mn (.var 28) (.var 16))) (.x (.var 17) (.i (.var 24) (.i (.var 18) (.i (.var 19) (.x (.var 20) (.i (.var 21) (.i (.var 22) (.x (.var 23) .nil))))))))))))))))))))))))) (.lit 0))
                    (.ret ((.v (.one (.z (.bool (.cmp .eql (.fn 191 (.i (.var 0) (.i (.var 1) (.i (.var 2) (.i (.var 3) (.i (.var 4) (.i (.var 5) (.i (.var 6) (.i (.var 7) (.i (.var 8) (.i (.var 9) (.i (.var 10) (.x (.var 11) (.x (.var 12) (.i (.var 14) (.i (.var 15) (.i (.var 16) (.x (.var 17) (.i (.var 24) (.i (.var 25) (.i (.var 26) (.x (.var 27) (.i (.var 21) (.i (.var 22) (.x (.var 23) .nil))))))))))))))))))))))))) (.lit 0)))))), [], 7))
                    (.ret ((.v (.one (.z (.bool (.lit false))))), [], 7))))))))))))
-- end trLawLesser
def trLawLesser_h : List (Nat × St) := [
(6, ⟨(List.append [(.v (.agg [(.z (.int .i64 (.var 0))), (.z (.int .i64 (.var 1))), (.z (.int .i64 (.var 2))), (.z (.int .i64 (.var 3))), (.z (.int .i64 (.var 4))), (.z (.int .i64 (.var 5))), (.z (.int .i64 (.var 6))), (.z (.int .i64 (.var 7))), (.z (.int .i64 (.var 8))), (.z (.int .i64 (.var 9))), (.z (.int .i64 (.var 10))), (.z (.ext [(.int .i64)] (.var 11) false)), (.z (.ext [(.int .i64), (.int .i64), (.int .i64), (.int .i64), (.int .i64), (.sl [(.int .i64), (.int .i64)]), (.int .i64), (.int .i64), (.sl [(.int .i64), (.int .i64), (.int .i64), (.int .i64), (.int .i64), (.int .i64)])] (.var 12) false))])), (.v (.agg [(.z (.ext [(.int .i64), (.int .i64), (.int .i64), (.int .i64), (.int .i64), (.int .i64), (.int .i64), (.int .i64), (.int .i64), (.int .i64), (.int .i64), (.sl [(.int .i64)]), (.sl [(.int .i64), (.int .i64), (.int .i64), (.int .i64), (.int .i64), (.sl [(.int .i64), (.int .i64)]), (.int .i64), (.int .i64), (.sl [(.int .i64), (.int .i64), (.int .i64), (.int .i64), (.int .i64), (.int .i64)])])] (.var 13) false)), (.z (.int .i64 (.var 14))), (.z (.int .i64 (.var 15))), (.z (.int .i64 (.var 16))), (.z (.ext [(.int .i64), (.int .i64), (.int .i64), (.int .i64), (.int .i64), (.int .i64)] (.var 17) false)), (.z (.int .i64 (.var 18))), (.z (.int .i64 (.var 19))), (.z (.ext [(.int .i64)] (.var 20) false)), (.z (.int .i64 (.var 21))), (.z (.int .i64 (.var 22))), (.z (.ext [(.int .i64), (.int .i64)] (.var 23) false))])), (.v (.one (.z (.int .i64 (.var 24))))), (.v (.agg [(.z (.int .i64 (.var 25))), (.z (.int .i64 (.var 26))), (.z (.ext [(.int .i64)] (.var 27) false))])), (.v (.one (.z (.int .i64 (.var 28))))), (.v (.one (.z (.ptr 0 0)))), (.v (.one (.z (.ptr 1 0)))), (.v (.one (.z .any))), (.v (.one (.z (.ptr 2 0)))), (.v (.one (.z .any))), (.v (.one (.z (.bool (.lit false))))), (.v (.one (.z (.bool (.cmp .eql (.fn 191 (.i (.var 0) (.i (.var 1) (.i (.var 2) (.i (.var 3) (.i (.var 4) (.i (.var 5) (.i (.var 6) (.i (.var 7) (.i (.var 8) (.i (.var 9) (.i (.var 10) (.x (.var 11) (.x (.var 12) (.i (.var 14) (.i (.var 15) (.i (.mx (.lit 0) (.mn (.var 28) (.var 16))) (.x (.var 17) (.i (.var 24) (.i (.var 18) (.i (.var 19) (.x (.var 20) (.i (.var 21) (.i (.var 22) (.x (.var 23) .nil))))))))))))))))))))))))) (.lit 0)))))), (.v (.one (.z (.int .i64 (.fn 190 (.i (.var 0) (.i (.var 1) (.i (.var 2) (.i (.var 3) (.i (.var 4) (.i (.var 5) (.i (.var 6) (.i (.var 7) (.i (.var 8) (.i (.var 9) (.i (.var 10) (.x (.var 11) (.x (.var 12) (.i (.var 14) (.i (.var 15) (.i (.var 16) (.x (.var 17) (.i (.var 24) (.i (.var 18) (.i (.var 19) (.x (.var 20) (.i (.var 21) (.i (.var 22) (.x (.var 23) .nil))))))))))))))))))))))))))))), (.v (.one (.z (.int .i64 (.fn 191 (.i (.var 0) (.i (.var 1) (.i (.var 2) (.i (.var 3) (.i (.var 4) (.i (.var 5) (.i (.var 6) (.i (.var 7) (.i (.var 8) (.i (.var 9) (.i (.var 10) (.x (.var 11) (.x (.var 12) (.i (.var 14) (.i (.var 15) (.i (.var 16) (.x (.var 17) (.i (.var 24) (.i (.var 18) (.i (.var 19) (.x (.var 20) (.i (.var 21) (.i (.var 22) (.x (.var 23) .nil))))))))))))))))))))))))))))), (.v (.one (.z (.ptr 5 0)))), (.v (.one (.z (.int .i64 (.fn 190 (.i (.var 0) (.i (.var 1) (.i (.var 2) (.i (.var 3) (.i (.var 4) (.i (.var 5) (.i (.var 6) (.i (.var 7) (.i (.var 8) (.i (.var 9) (.i (.var 10) (.x (.var 11) (.x (.var 12) (.i (.var 14) (.i (.var 15) (.i (.mx (.lit 0) (.mn (.var 28) (.var 16))) (.x (.var 17) (.i (.var 24) (.i (.var 18) (.i (.var 19) (.x (.var 20) (.i (.var 21) (.i (.var 22) (.x (.var 23) .nil))))))))))))))))))))))))))))), (.v (.one (.z (.int .i64 (.fn 191 (.i (.var 0) (.i (.var 1) (.i (.var 2) (.i (.var 3) (.i (.var 4) (.i (.var 5) (.i (.var 6) (.i (.var 7) (.i (.var 8) (.i (.var 9) (.i (.var 10) (.x (.var 11) (.x (.var 12) (.i (.var 14) (.i (.var 15) (.i (.mx (.lit 0) (.mn (.var 28) (.var 16))) (.x (.var 17) (.i (.var 24) (.i (.var 18) (.i (.var 19) (.x (.var 20) (.i (.var 21) (.i (.var 22) (.x (.var 23) .nil))))))))))))))))))))))))))))), (.v (.one (.z (.int .i64 (.var 7000))))), (.v (.one (.z .any))), (.v (.one (.z .any))), (.v (.one (.z (.bool (.lit true))))), (.v (.agg [(.z (.int .i64 (.var 0))), (.z (.int .i64 (.var 1))), (.z (.int .i64 (.var 2))), (.z (.int .i64 (.var 3))), (.z (.int .i64 (.var 4))), (.z (.int .i64 (.var 5))), (.z (.int .i64 (.var 6))), (.z (.int .i64 (.var 7))), (.z (.int .i64 (.var 8))), (.z (.int .i64 (.var 9))), (.z (.int .i64 (.var 10))), (.z (.ext [(.int .i64)] (.var 11) false)), (.z (.ext [(.int .i64), (.int .i64), (.int .i64), (.int .i64), (.int .i64), (.sl [(.int .i64), (.int .i64)]), (.int .i64), (.int .i64), (.sl [(.int .i64), (.int .i64), (.int .i64), (.int .i64), (.int .i64), (.int .i64)])] (.var 12) false))])), (.v (.one (.z (.sl 3 0 1 (some 1))))), (.v (.one (.z (.ptr 1 1)))), (.v (.agg [(.z (.int .i64 (.var 14))), (.z (.int .i64 (.var 15))), (.z (.int .i64 (.var 16))), (.z (.ext [(.int .i64), (.int .i64), (.int .i64), (.int .i64), (.int .i64), (.int .i64)] (.var 17) false))])), (.v (.one (.z (.bool (.lit true))))), (.v (.one (.z (.bool (.lit false))))), (.v (.one (.z (.bool (.lit false))))), (.v (.one (.z (.ptr 2 2)))), (.v (.one (.z (.ext [(.int .i64)] (.var 27) false)))), (.v (.one (.z (.int .i64 (.len (.var 27)))))), (.v (.one (.z (.ptr 1 5)))), (.v (.one (.z (.ptr 1 7)))), (.v (.one (.z (.ext [(.int .i64)] (.var 20) false)))), (.v (.one (.z (.int .i64 (.len (.var 20)))))), (.v (.one (.z (.bool (.cmp .neq (.len (.var 27)) (.len (.var 20))))))), (.v (.one (.z (.bool (.cmp .neq (.len (.var 27)) (.len (.var 20))))))), (.v (.one (.z .any))), (.v (.one (.z .any))), (.v (.agg [(.z (.int .i64 (.var 0))), (.z (.int .i64 (.var 1))), (.z (.int .i64 (.var 2))), (.z (.int .i64 (.var 3))), (.z (.int .i64 (.var 4))), (.z (.int .i64 (.var 5))), (.z (.int .i64 (.var 6))), (.z (.int .i64 (.var 7))), (.z (.int .i64 (.var 8))), (.z (.int .i64 (.var 9))), (.z (.int .i64 (.var 10))), (.z (.ext [(.int .i64)] (.var 11) false)), (.z (.ext [(.int .i64), (.int .i64), (.int .i64), (.int .i64), (.int .i64), (.sl [(.int .i64), (.int .i64)]), (.int .i64), (.int .i64), (.sl [(.int .i64), (.int .i64), (.int .i64), (.int .i64), (.int .i64), (.int .i64)])] (.var 12) false))])), (.v (.one (.z (.ptr 1 1)))), (.v (.agg [(.z (.int .i64 (.var 14))), (.z (.int .i64 (.var 15))), (.z (.int .i64 (.var 16))), (.z (.ext [(.int .i64), (.int .i64), (.int .i64), (.int .i64), (.int .i64), (.int .i64)] (.var 17) false))])), (.v (.one (.z (.int .i64 (.var 24))))), (.v (.one (.z (.ptr 1 5)))), (.v (.agg [(.z (.int .i64 (.var 18))), (.z (.int .i64 (.var 19))), (.z (.ext [(.int .i64)] (.var 20) false))])), (.v (.one (.z (.ptr 1 8)))), (.v (.agg [(.z (.int .i64 (.var 21))), (.z (.int .i64 (.var 22))), (.z (.ext [(.int .i64), (.int .i64)] (.var 23) false))])), (.v (.one (.z .any))), (.v (.one (.z (.int .i64 (.fn 190 (.i (.var 0) (.i (.var 1) (.i (.var 2) (.i (.var 3) (.i (.var 4) (.i (.var 5) (.i (.var 6) (.i (.var 7) (.i (.var 8) (.i (.var 9) (.i (.var 10) (.x (.var 11) (.x (.var 12) (.i (.var 14) (.i (.var 15) (.i (.var 16) (.x (.var 17) (.i (.var 24) (.i (.var 18) (.i (.var 19) (.x (.var 20) (.i (.var 21) (.i (.var 22) (.x (.var 23) .nil))))))))))))))))))))))))))))), (.v (.one (.z (.int .i64 (.fn 191 (.i (.var 0) (.i (.var 1) (.i (.var 2) (.i (.var 3) (.i (.var 4) (.i (.var 5) (.i (.var 6) (.i (.var 7) (.i (.var 8) (.i (.var 9) (.i (.var 10) (.x (.var 11) (.x (.var 12) (.i (.var 14) (.i (.var 15) (.i (.var 16) (.x (.var 17) (.i (.var 24) (.i (.var 18) (.i (.var 19) (.x (.var 20) (.i (.var 21) (.i (.var 22) (.x (.var 23) .nil))))))))))))))))))))))))))))), (.v (.one (.z (.int .i64 (.fn 191 (.i (.var 0) (.i (.var 1) (.i (.var 2) (.i (.var 3) (.i (.var 4) (.i (.var 5) (.i (.var 6) (.i (.var 7) (.i (.var 8) (.i (.var 9) (.i (.var 10) (.x (.var 11) (.x (.var 12) (.i (.var 14) (.i (.var 15) (.i (.var 16) (.x (.var 17) (.i (.var 24) (.i (.var 18) (.i (.var 19) (.x (.var 20) (.i (.var 21) (.i (.var 22) (.x (.var 23) .nil))))))))))))))))))))))))))))), (.v (.one (.z (.bool (.cmp .neq (.fn 191 (.i (.var 0) (.i (.var 1) (.i (.var 2) (.i (.var 3) (.i (.var 4) (.i (.var 5) (.i (.var 6) (.i (.var 7) (.i (.var 8) (.i (.var 9) (.i (.var 10) (.x (.var 11) (.x (.var 12) (.i (.var 14) (.i (.var 15) (.i (.var 16) (.x (.var 17) (.i (.var 24) (.i (.var 18) (.i (.var 19) (.x (.var 20) (.i (.var 21) (.i (.var 22) (.x (.var 23) .nil))))))))))))))))))))))))) (.lit 0)))))), (.v (.one (.z .any))), (.v (.one (.z (.ptr 1 1)))), (.v (.agg [(.z (.int .i64 (.var 14))), (.z (.int .i64 (.var 15))), (.z (.int .i64 (.var 16))), (.z (.ext [(.int .i64), (.int .i64), (.int .i64), (.int .i64), (.int .i64), (.int .i64)] (.var 17) false))])), (.v (.one (.z (.int .i64 (.var 28))))), (.v (.one (.z (.ptr 1 1)))), (.v (.one (.z (.ptr 1 3)))), (.v (.one (.z (.int .i64 (.var 16))))), (.v (.one (.z (.int .i64 (.mn (.var 28) (.var 16)))))), (.v (.one (.z (.int .i64 (.mx (.lit 0) (.mn (.var 28) (.var 16))))))), (.v (.one (.z (.ptr 5 2)))), (.v (.one (.z .any))), (.v (.agg [(.z (.int .i64 (.var 0))), (.z (.int .i64 (.var 1))), (.z (.int .i64 (.var 2))), (.z (.int .i64 (.var 3))), (.z (.int .i64 (.var 4))), (.z (.int .i64 (.var 5))), (.z (.int .i64 (.var 6))), (.z (.int .i64 (.var 7))), (.z (.int .i64 (.var 8))), (.z (.int .i64 (.var 9))), (.z (.int .i64 (.var 10))), (.z (.ext [(.int .i64)] (.var 11) false)), (.z (.ext [(.int .i64), (.int .i64), (.int .i64), (.int .i64), (.int .i64), (.sl [(.int .i64), (.int .i64)]), (.int .i64), (.int .i64), (.sl [(.int .i64), (.int .i64), (.int .i64), (.int .i64), (.int .i64), (.int .i64)])] (.var 12) false))])), (.v (.agg [(.z (.int .i64 (.var 14))), (.z (.int .i64 (.var 15))), (.z (.int .i64 (.mx (.lit 0) (.mn (.var 28) (.var 16))))), (.z (.ext [(.int .i64), (.int .i64), (.int .i64), (.int .i64), (.int .i64), (.int .i64)] (.var 17) false))])), (.v (.one (.z (.int .i64 (.var 24))))), (.v (.one (.z (.ptr 1 5)))), (.v (.agg [(.z (.int .i64 (.var 18))), (.z (.int .i64 (.var 19))), (.z (.ext [(.int .i64)] (.var 20) false))])), (.v (.one (.z (.ptr 1 8)))), (.v (.agg [(.z (.int .i64 (.var 21))), (.z (.int .i64 (.var 22))), (.z (.ext [(.int .i64), (.int .i64)] (.var 23) false))])), (.v (.one (.z .any))), (.v (.one (.z (.int .i64 (.fn 190 (.i (.var 0) (.i (.var 1) (.i (.var 2) (.i (.var 3) (.i (.var 4) (.i (.var 5) (.i (.var 6) (.i (.var 7) (.i (.var 8) (.i (.var 9) (.i (.var 10) (.x (.var 11) (.x (.var 12) (.i (.var 14) (.i (.var 15) (.i (.mx (.lit 0) (.mn (.var 28) (.var 16))) (.x (.var 17) (.i (.var 24) (.i (.var 18) (.i (.var 19) (.x (.var 20) (.i (.var 21) (.i (.var 22) (.x (.var 23) .nil))))))))))))))))))))))))))))), (.v (.one (.z (.int .i64 (.fn 191 (.i (.var 0) (.i (.var 1) (.i (.var 2) (.i (.var 3) (.i (.var 4) (.i (.var 5) (.i (.var 6) (.i (.var 7) (.i (.var 8) (.i (.var 9) (.i (.var 10) (.x (.var 11) (.x (.var 12) (.i (.var 14) (.i (.var 15) (.i (.mx (.lit 0) (.mn (.var 28) (.var 16))) (.x (.var 17) (.i (.var 24) (.i (.var 18) (.i (.var 19) (.x (.var 20) (.i (.var 21) (.i (.var 22) (.x (.var 23) .nil))))))))))))))))))))))))))))), (.v (.one (.z (.bool (.lit true))))), (.v (.one (.z (.bool (.lit true))))), (.v (.one (.z (.int .i64 (.fn 191 (.i (.var 0) (.i (.var 1) (.i (.var 2) (.i (.var 3) (.i (.var 4) (.i (.var 5) (.i (.var 6) (.i (.var 7) (.i (.var 8) (.i (.var 9) (.i (.var 10) (.x (.var 11) (.x (.var 12) (.i (.var 14) (.i (.var 15) (.i (.mx (.lit 0) (.mn (.var 28) (.var 16))) (.x (.var 17) (.i (.var 24) (.i (.var 18) (.i (.var 19) (.x (.var 20) (.i (.var 21) (.i (.var 22) (.x (.var 23) .nil))))))))))))))))))))))))))))), (.v (.one (.z (.bool (.cmp .eql (.fn 191 (.i (.var 0) (.i (.var 1) (.i (.var 2) (.i (.var 3) (.i (.var 4) (.i (.var 5) (.i (.var 6) (.i (.var 7) (.i (.var 8) (.i (.var 9) (.i (.var 10) (.x (.var 11) (.x (.var 12) (.i (.var 14) (.i (.var 15) (.i (.mx (.lit 0) (.mn (.var 28) (.var 16))) (.x (.var 17) (.i (.var 24) (.i (.var 18) (.i (.var 19) (.x (.var 20) (.i (.var 21) (.i (.var 22) (.x (.var 23) .nil))))))))))))))))))))))))) (.lit 0)))))), (.v (.one (.z (.bool (.cmp .eql (.fn 191 (.i (.var 0) (.i (.var 1) (.i (.var 2) (.i (.var 3) (.i (.var 4) (.i (.var 5) (.i (.var 6) (.i (.var 7) (.i (.var 8) (.i (.var 9) (.i (.var 10) (.x (.var 11) (.x (.var 12) (.i (.var 14) (.i (.var 15) (.i (.mx (.lit 0) (.mn (.var 28) (.var 16))) (.x (.var 17) (.i (.var 24) (.i (.var 18) (.i (.var 19) (.x (.var 20) (.i (.var 21) (.i (.var 22) (.x (.var 23) .nil))))))))))))))))))))))))) (.lit 0)))))), (.v (.agg [(.z (.int .i64 (.var 25))), (.z (.int .i64 (.var 26))), (.z (.ext [(.int .i64)] (.var 27) false))])), (.v (.one (.z (.bool (.fn 144 (.i (.var 25) (.i (.var 26) (.x (.var 27) .nil)))))))), (.v (.one (.z (.bool (.not (.fn 144 (.i (.var 25) (.i (.var 26) (.x (.var 27) .nil))))))))), (.v (.one (.z (.bool (.lit false))))), (.v (.one (.z (.ptr 2 0)))), (.v (.one (.z (.int .i64 (.var 25))))), (.v (.one (.z (.ptr 1 5)))), (.v (.one (.z (.ptr 1 5)))), (.v (.one (.z (.int .i64 (.var 18))))), (.v (.one (.z (.bool (.cmp .gtr (.var 25) (.var 18)))))), (.v (.one (.z (.bool (.cmp .gtr (.var 25) (.var 18)))))), (.v (.one (.z (.bool (.lit false))))), (.v (.one (.z (.ptr 2 1)))), (.v (.one (.z (.int .i64 (.var 26))))), (.v (.one (.z (.ptr 1 5)))), (.v (.one (.z (.ptr 1 6)))), (.v (.one (.z (.int .i64 (.var 19))))), (.v (.one (.z (.bool (.cmp .gtr (.var 26) (.var 19)))))), (.v (.one (.z (.bool (.cmp .gtr (.var 26) (.var 19))))))] (List.replicate 37 V.any)), [(5, (.cells 27 [(.z (.int .i64 (.var 14))), (.z (.int .i64 (.var 15))), (.z (.int .i64 (.mx (.lit 0) (.mn (.var 28) (.var 16))))), (.z (.ext [(.int .i64), (.int .i64), (.int .i64), (.int .i64), (.int .i64), (.int .i64)] (.var 17) false))])), (3, (.cells 57 [(.z (.int .i64 (.var 0))), (.z (.int .i64 (.var 1))), (.z (.int .i64 (.var 2))), (.z (.int .i64 (.var 3))), (.z (.int .i64 (.var 4))), (.z (.int .i64 (.var 5))), (.z (.int .i64 (.var 6))), (.z (.int .i64 (.var 7))), (.z (.int .i64 (.var 8))), (.z (.int .i64 (.var 9))), (.z (.int .i64 (.var 10))), (.z (.ext [(.int .i64)] (.var 11) false)), (.z (.ext [(.int .i64), (.int .i64), (.int .i64), (.int .i64), (.int .i64), (.sl [(.int .i64), (.int .i64)]), (.int .i64), (.int .i64), (.sl [(.int .i64), (.int .i64), (.int .i64), (.int .i64), (.int .i64), (.int .i64)])] (.var 12) false))])), (2, (.cells 30 [(.z (.int .i64 (.var 25))), (.z (.int .i64 (.var 26))), (.z (.ext [(.int .i64)] (.var 27) false))])), (1, (.cells 35 [(.z (.ext [(.int .i64), (.int .i64), (.int .i64), (.int .i64), (.int .i64), (.int .i64), (.int .i64), (.int .i64), (.int .i64), (.int .i64), (.int .i64), (.sl [(.int .i64)]), (.sl [(.int .i64), (.int .i64), (.int .i64), (.int .i64), (.int .i64), (.sl [(.int .i64), (.int .i64)]), (.int .i64), (.int .i64), (.sl [(.int .i64), (.int .i64), (.int .i64), (.int .i64), (.int .i64), (.int .i64)])])] (.var 13) false)), (.z (.int .i64 (.var 14))), (.z (.int .i64 (.var 15))), (.z (.int .i64 (.var 16))), (.z (.ext [(.int .i64), (.int .i64), (.int .i64), (.int .i64), (.int .i64), (.int .i64)] (.var 17) false)), (.z (.int .i64 (.var 18))), (.z (.int .i64 (.var 19))), (.z (.ext [(.int .i64)] (.var 20) false)), (.z (.int .i64 (.var 21))), (.z (.int .i64 (.var 22))), (.z (.ext [(.int .i64), (.int .i64)] (.var 23) false))])), (0, (.cells 57 [(.z (.int .i64 (.var 0))), (.z (.int .i64 (.var 1))), (.z (.int .i64 (.var 2))), (.z (.int .i64 (.var 3))), (.z (.int .i64 (.var 4))), (.z (.int .i64 (.var 5))), (.z (.int .i64 (.var 6))), (.z (.int .i64 (.var 7))), (.z (.int .i64 (.var 8))), (.z (.int .i64 (.var 9))), (.z (.int .i64 (.var 10))), (.z (.ext [(.int .i64)] (.var 11) false)), (.z (.ext [(.int .i64), (.int .i64), (.int .i64), (.int .i64), (.int .i64), (.sl [(.int .i64), (.int .i64)]), (.int .i64), (.int .i64), (.sl [(.int .i64), (.int .i64), (.int .i64), (.int .i64), (.int .i64), (.int .i64)])] (.var 12) false))]))], 7, []⟩)]
def trLawLesser_j : List (FuncId × Nat × Nat × St) := [
]
set_option maxRecDepth 100000 in
theorem trLawLesser_is : T.norm 0 (call Tryz.prog ctN8 ⟨Lt.un (Lt.of [(13, 0)]), trLawLesser_h, trLawLesser_j⟩ 1000 5 (symArgs 0 [shee, caseS, it, shp, it]) [] 0) TT.ret = trLawLesser := by kernel_rfl
theorem trLawLesser_low : trLawLesser.low 1000 = true := by kernel_rfl
-- term trLawMore: call Tryz.prog ctN8 (Lt.of [(13, 0)]) 1000 4 (symArgs 0 [shee, caseS, it, .one (.int .u8), it, it]) [] 0
def trLawMore : TT OpR :=
(.ite (.cmp .gtr (.len (.var 17)) (.lit 6))
  (.ret ((.v (.one (.z (.bool (.lit true))))), [], 4))
  (.ite (.cmp .gtr (.len (.var 12)) (.lit 12))
    (.ret ((.v (.one (.z (.bool (.lit true))))), [], 4))
    (.ite (.cmp .neq (.fn 191 (.i (.var 0) (.i (.var 1) (.i (.var 2) (.i (.var 3) (.i (.var 4) (.i (.var 5) (.i (.var 6) (.i (.var 7) (.i (.var 8) (.i (.var 9) (.i (.var 10) (.x (.var 11) (.x (.var 12) (.i (.var 14) (.i (.var 15) (.i (.var 16) (.x (.var 17) (.i (.var 24) (.i (.var 18) (.i (.var 19) (.x (.var 20) (.i (.var 21) (.i (.var 22) (.x (.var 23) .nil))))))))))))))))))))))))) (.lit 0))
      (.ret ((.v (.one (.z (.bool (.lit true))))), [], 4))
      (.ite (.cmp .eql (.len (.var 12)) (.lit 0))
        (.ret ((.v (.one (.z (.bool (.cmp .eql (.fn 191 (.i (.var 0) (.i (.var 1) (.i (.var 2) (.i (.var 3) (.i (.var 4) (.i (.var 5) (.i (.var 6) (.i (.var 7) (.i (.var 8) (.i (.var 9) (.i (.mx (.var 10) (.mn (.var 27) (.lit 100000))) (.x (.var 11) (.x (.var 12) (.i (.var 14) (.i (.var 15) (.i (.var 16) (.x (.var 17) (.i (.var 24) (.i (.var 18) (.i (.var 19) (.x (.var 20) (.i (.var 21) (.i (.var 22) (.x (.var 23) .nil))))))))))))))))))))))))) (.lit 0)))))), [], 5))
        (.ob (.tru (.cmp .neq (.len (.var 12)) (.lit 0)))
        (.ob (.tru (.lit true))
        (.ob (.tru (.cmp .leq (.lit 0) (.ar .rem .i64 (.wr .i64 (.var 25)) (.len (.var 12)))))
        (.ob (.tru (.cmp .leq (.ar .rem .i64 (.wr .i64 (.var 25)) (.len (.var 12))) (.len (.var 12))))
        (.ob (.tru (.cmp .leq (.len (.sub (.var 12) (.lit 0) (.ar .rem .i64 (.wr .i64 (.var 25)) (.len (.var 12))))) (.lit 1000000)))
        (.ob (.tru (.cmp .leq (.lit 0) (.ar .add .i64 (.ar .rem .i64 (.wr .i64 (.var 25)) (.len (.var 12))) (.lit 1))))
        (.ob (.tru (.cmp .leq (.ar .add .i64 (.ar .rem .i64 (.wr .i64 (.var 25)) (.len (.var 12))) (.lit 1)) (.len (.var 12))))
        (.ob (.tru (.lit true))
        (.ob (.tru (.cmp .leq (.len (.app (.sub (.var 12) (.lit 0) (.ar .rem .i64 (.wr .i64 (.var 25)) (.len (.var 12)))) (.sub (.var 12) (.ar .add .i64 (.ar .rem .i64 (.wr .i64 (.var 25)) (.len (.var 12))) (.lit 1)) (.len (.var 12))))) (.lit 1000000)))
        (.ite (.cmp .eql (.fn 191 (.i (.var 0) (.i (.var 1) (.i (.var 2) (.i (.var 3) (.i (.var 4) (.i (.var 5) (.i (.var 6) (.i (.var 7) (.i (.var 8) (.i (.var 9) (.i (.mx (.var 10) (.mn (.var 27) (.lit 100000))) (.x (.var 11) (.x (.var 12) (.i (.var 14) (.i (.var 15) (.i (.var 16) (.x (.var 17) (.i (.var 24) (.i (.var 18) (.i (.var 19) (.x (.var 20) (.i (.var 21) (.i (.var 22) (.x (.var 23) .nil))))))))))))))))))))))))) (.lit 0))
          (.ob (.tru (.cmp .leq (.len (.var 12)) (.lit 1000000)))
          (.ob (.tru (.cmp .leq (.lit 0) (.ar .rem .i64 (.wr .i64 (.var 25)) (.len (.var 12)))))
          (.ob (.tru (.cmp .lss (.ar .rem .i64 (.wr .i64 (.var 25)) (.len (.var 12))) (.len (.var 12))))
          (.ite (.cmp .neq (.rd (.var 12) (.ar .rem .i64 (.wr .i64 (.var 25)) (.len (.var 12))) 1) (.lit 4))
            (.ob (.tru (.cmp .leq (.lit 0) (.ar .rem .i64 (.wr .i64 (.var 25)) (.len (.var 12)))))
            (.ob (.tru (.cmp .lss (.ar .rem .i64 (.wr .i64 (.var 25)) (.len (.var 12))) (.len (.var 12))))
            (.ite (.cmp .neq (.rd (.var 12) (.ar .rem .i64 (.wr .i64 (.var 25)) (.len (.var 12))) 1) (.lit 6))
              (.ob (.tru (.cmp .leq (.lit 0) (.ar .rem .i64 (.wr .i64 (.var 25)) (.len (.var 12)))))
              (.ob (.tru (.cmp .lss (.ar .rem .i64 (.wr .i64 (.var 25)) (.len (.var 12))) (.len (.var 12))))
              (.ob (.tru (.cmp .leq (.lit 0) (.ar .rem .i64 (.wr .i64 (.var 25)) (.len (.var 12)))))
              (.ob (.tru (.cmp .lss (.ar .rem .i64 (.wr .i64 (.var 25)) (.len (.var 12))) (.len (.var 12))))
              (.ite (.cmp .eql (.fn 191 (.i (.var 0) (.i (.var 1) (.i (.var 2) (.i (.var 3) (.i (.var 4) (.i (.var 5) (.i (.var 6) (.i (.var 7) (.i (.var 8) (.i (.var 9) (.i (.var 10) (.x (.var 11) (.x (.app (.sub (.var 12) (.lit 0) (.ar .rem .i64 (.wr .i64 (.var 25)) (.len (.var 12)))) (.sub (.var 12) (.ar .add .i64 (.ar .rem .i64 (.wr .i64 (.var 25)) (.len (.var 12))) (.lit 1)) (.len (.var 12)))) (.i (.var 14) (.i (.var 15) (.i (.var 16) (.x (.var 17) (.i (.var 24) (.i (.var 18) (.i (.var 19) (.x (.var 20) (.i (.var 21) (.i (.var 22) (.x (.var 23) .nil))))))))))))))))))))))))) (.lit 0))
                (.ret ((.v (.one (.z (.bool (.cmp .eql (.fn 191 (.i (.var 0) (.i (.var 1) (.i (.var 2) (.i (.var 3) (.i (.var 4) (.i (.var 5) (.i (.var 6) (.i (.var 7) (.i (.var 8) (.i (.var 9) (.i (.var 10) (.x (.var 11) (.x (.upd (.var 12) (.ar .rem .i64 (.wr .i64 (.var 25)) (.len (.var 12))) 6 (.i (.mx (.rd (.var 12) (.ar .rem .i64 (.wr .i64 (.var 25)) (.len (.var 12))) 6) (.mn (.var 26) (.lit 100000))) .nil)) (.i (.var 14) (.i (.var 15) (.i (.var 16) (.x (.var 17) (.i (.var 24) (.i (.var 18) (.i (.var 19) (.x (.var 20) (.i (.var 21) (.i (.var 22) (.x (.var 23) .nil))))))))))))))))))))))))) (.lit 0)))))), [], 11))
                (.ret ((.v (.one (.z (.bool (.lit false))))), [], 11)))))))
              (.ite (.cmp .eql (.fn 191 (.i (.var 0) (.i (.var 1) (.i (.var 2) (.i (.var 3) (.i (.var 4) (.i (.var 5) (.i (.var 6) (.i (.var 7) (.i (.var 8) (.i (.var 9) (.i (.var 10) (.x (.var 11) (.x (.app (.sub (.var 12) (.lit 0) (.ar .rem .i64 (.wr .i64 (.var 25)) (.len (.var 12)))) (.sub (.var 12) (.ar .add .i64 (.ar .rem .i64 (.wr .i64 (.var 25)) (.len (.var 12))) (.lit 1)) (.len (.var 12)))) (.i (.var 14) (.i (.var 15) (.i (.var 16) (.x (.var 17) (.i (.var 24) (.i (.var 18) (.i (.var 19) (.x (.var 20) (.i (.var 21) (.i (.var 22) (.x (.var 23) .nil))))))))))))))))))))))))) (.lit 0))
                (.ret ((.v (.one (.z (.bool (.cmp .eql (.fn 191 (.i (.var 0) (.i (.var 1) (.i (.var 2) (.i (.var 3) (.i (.var 4) (.i (.var 5) (.i (.var 6) (.i (.var 7) (.i (.var 8) (.i (.var 9) (.i (.var 10) (.x (.var 11) (.x (.var 12) (.i (.var 14) (.i (.var 15) (.i (.var 16) (.x (.var 17) (.i (.var 24) (.i (.var 18) (.i (.var 19) (.x (.var 20) (.i (.var 21) (.i (.var 22) (.x (.var 23) .nil))))))))))))))))))))))))) (.lit 0)))))), [], 11))
                (.ret ((.v (.one (.z (.bool (.lit false))))), [], 11))))))
            (.ite (.cmp .eql (.fn 191 (.i (.var 0) (.i (.var 1) (.i (.var 2) (.i (.var 3) (.i (.var 4) (.i (.var 5) (.i (.var 6) (.i (.var 7) (.i (.var 8) (.i (.var 9) (.i (.var 10) (.x (.var 11) (.x (.app (.sub (.var 12) (.lit 0) (.ar .rem .i64 (.wr .i64 (.var 25)) (.len (.var 12)))) (.sub (.var 12) (.ar .add .i64 (.ar .rem .i64 (.wr .i64 (.var 25)) (.len (.var 12))) (.lit 1)) (.len (.var 12)))) (.i (.var 14) (.i (.var 15) (.i (.var 16) (.x (.var 17) (.i (.var 24) (.i (.var 18) (.i (.var 19) (.x (.var 20) (.i (.var 21) (.i (.var 22) (.x (.var 23) .nil))))))))))))))))))))))))) (.lit 0))
              (.ret ((.v (.one (.z (.bool (.cmp .eql (.fn 191 (.i (.var 0) (.i (.var 1) (.i (.var 2) (.i (.var 3) (.i (.var 4) (.i (.var 5) (.i (.var 6) (.i (.var 7) (.i (.var 8) (.i (.var 9) (.i (.var 10) (.x (.var 11) (.x (.var 12) (.i (.var 14) (.i (.var 15) (.i (.var 16) (.x (.var 17) (.i (.var 24) (.i (.var 18) (.i (.var 19) (.x (.var 20) (.i (.var 21) (.i (.var 22) (.x (.var 23) .nil))))))))))))))))))))))))) (.lit 0)))))), [], 11))
              (.ret ((.v (.one (.z (.bool (.lit false))))), [], 11)))))))
          (.ob (.tru (.cmp .leq (.len (.var 12)) (.lit 1000000)))
          (.ob (.tru (.cmp .leq (.lit 0) (.ar .rem .i64 (.wr .i64 (.var 25)) (.len (.var 12)))))
          (.ob (.tru (.cmp .lss (.ar .rem .i64 (.wr .i64 (.var 25)) (.len (.var 12))) (.len (.var 12))))
          (.ite (.cmp .neq (.rd (.var 12) (.ar .rem .i64 (.wr .i64 (.var 25)) (.len (.var 12))) 1) (.lit 4))
            (.ob (.tru (.cmp .leq (.lit 0) (.ar .rem .i64 (.wr .i64 (.var 25)) (.len (.var 12)))))
            (.ob (.tru (.cmp .lss (.ar .rem .i64 (.wr .i64 (.var 25)) (.len (.var 12))) (.len (.var 12))))
            (.ite (.cmp .neq (.rd (.var 12) (.ar .rem .i64 (.wr .i64 (.var 25)) (.len (.var 12))) 1) (.lit 6))
              (.ob (.tru (.cmp .leq (.lit 0) (.ar .rem .i64 (.wr .i64 (.var 25)) (.len (.var 12)))))
              (.ob (.tru (.cmp .lss (.ar .rem .i64 (.wr .i64 (.var 25)) (.len (.var 12))) (.len (.var 12))))
              (.ob (.tru (.cmp .leq (.lit 0) (.ar .rem .i64 (.wr .i64 (.var 25)) (.len (.var 12)))))
              (.ob (.tru (.cmp .lss (.ar .rem .i64 (.wr .i64 (.var 25)) (.len (.var 12))) (.len (.var 12))))
              (.ret ((.v (.one (.z (.bool (.lit false))))), [], 11))))))
              (.ret ((.v (.one (.z (.bool (.lit false))))), [], 11)))))
            (.ret ((.v (.one (.z (.bool (.lit false))))), [], 11))))))))))))))))))))
-- end trLawMore
set_option maxRecDepth 100000 in
theorem trLawMore_is : T.norm 0 (call Tryz.prog ctN8 (Lt.of [(13, 0)]) 1000 4 (symArgs 0 [shee, caseS, it, .one (.int .u8), it, it]) [] 0) TT.ret = trLawMore := by kernel_rfl
theorem trLawMore_low : trLawMore.low 1000 = true := by kernel_rfl
end Go.Proofs.YtkjjkckcjgkhmaaGreat
/- Chapter 40: what it means that a leg is right on a sheet; other ships, sheets with less (no program). -/
namespace Go.Proofs.YtkjjkckcjgkhmaaGreat
open Go.RowKit
section
variable {r : Rows}
theorem lisN_fw : ∀ (f i : Nat) (last : Int), lisN r f i last = true → ∀ k : Nat, i ≤ k → k < i + f → featRow r k = true ∧ last < lg r k 0 ∧ ∀ l : Nat, k < l → l < i + f → lg r k 0 < lg r l 0
  | 0, i, last, _, k, h1, h2 => by omega
  | f + 1, i, last, h, k, h1, h2 => by
    simp only [lisN, Bool.and_eq_true, decide_eq_true_eq] at h
    by_cases e : k = i
    · subst e
      exact ⟨h.1.1, h.1.2, fun l g1 g2 => (lisN_fw f (k + 1) _ h.2 l (by omega) (by omega)).2.1⟩
    · obtain ⟨g1, g2, g3⟩ := lisN_fw f (i + 1) _ h.2 k (by omega) (by omega)
      exact ⟨g1, by omega, fun l q1 q2 => g3 l q1 (by omega)⟩
theorem lisN_bw : ∀ (f i : Nat) (last : Int), (∀ k : Nat, i ≤ k → k < i + f → featRow r k = true) → (0 < f → last < lg r i 0) → (∀ k : Nat, i ≤ k → k + 1 < i + f → lg r k 0 < lg r (k + 1 : Nat) 0) → lisN r f i last = true
  | 0, i, last, _, _, _ => rfl
  | f + 1, i, last, h1, h2, h3 => by
    rw [lisN, h1 i (by omega) (by omega), decide_eq_true (h2 (by omega)), lisN_bw f (i + 1) _ (fun k g1 g2 => h1 k (by omega) (by omega)) (fun hf => h3 i (by omega) (by omega)) (fun k g1 g2 => h3 k (by omega) (by omega))]
    rfl
theorem list_spec (h : listB r = true) : r.length ≤ 300 ∧ (∀ k : Nat, k < r.length → featRow r k = true) ∧ ∀ k l : Nat, k < l → l < r.length → lg r k 0 < lg r l 0 := by
  simp only [listB, Bool.and_eq_true, decide_eq_true_eq] at h
  exact ⟨h.2, fun k hk => (lisN_fw _ 0 0 h.1 k (by omega) (by omega)).1, fun k l h1 h2 => (lisN_fw _ 0 0 h.1 k (by omega) (by omega)).2.2 l h1 (by omega)⟩
theorem row_id (i : Nat) (h : featRow r i = true) : 1 ≤ lg r i 0 ∧ lg r i 6 ≤ 100000 := by
  have := featB_iff.mp h
  exact ⟨this.1.1, this.2.2.1.2⟩
theorem list_of (h1 : r.length ≤ 300) (h2 : ∀ k : Nat, k < r.length → featRow r k = true) (h3 : ∀ k l : Nat, k < l → l < r.length → lg r k 0 < lg r l 0) : listB r = true := by
  rw [listB, decide_eq_true h1, lisN_bw _ 0 0 (fun k _ hk => h2 k (by omega)) (fun hf => by have := (row_id 0 (h2 0 hf)).1; exact Int.lt_of_lt_of_le (by decide) this) (fun k _ hk => h3 k (k + 1) (by omega) (by omega))]
  rfl
theorem sub_len7 {a b : Nat} (h : b ≤ r.length) : (subR r (a : Int) (b : Int)).length = b - a := by
  unfold subR
  rw [List.length_take, List.length_drop, Int.toNat_natCast, Int.toNat_natCast]
  omega
theorem sub_cell7 {a b j : Nat} (hj : j < b - a) (c : Nat) : cellAt (subR r (a : Int) (b : Int)) (j : Int) c = cellAt r ((a + j : Nat) : Int) c := by
  unfold cellAt subR
  rw [Int.toNat_natCast, Int.toNat_natCast, Int.toNat_natCast, Int.toNat_natCast, List.getElem?_take_of_lt hj, List.getElem?_drop]
theorem app_cell7 {u v : Rows} {j : Nat} (c : Nat) : cellAt (u ++ v) (j : Int) c = if j < u.length then cellAt u (j : Int) c else cellAt v ((j - u.length : Nat) : Int) c := by
  unfold cellAt
  simp only [Int.toNat_natCast]
  split
  · rename_i h
    rw [List.getElem?_append_left h]
  · rename_i h
    rw [List.getElem?_append_right (by omega)]
end
/-! The depth -/
theorem deR_iff {d m : Int} {sq : Rows} {st ph : Int} {hts : Rows} {x v a b : Int} : deR [.i d, .i m, .l sq, .i st, .i ph, .l hts, .i x, .i v, .i a, .i b] = true ↔
    (0 ≤ x ∧ x ≤ 100000) ∧ kevB d m sq = true ∧ (0 ≤ v ∧ v ≤ 2000) ∧ v ≤ 100 * (sq.length : Int) ∧ heE [.i st, .i ph, .l hts, .i a, .i b] = 0 ∧ needI d m sq v - heA [.i st, .i ph, .l hts, .i a, .i b] ≤ x := by
  have e : deE [.i d, .i m, .l sq, .i st, .i ph, .l hts, .i x, .i v, .i a, .i b] = if deO [.i d, .i m, .l sq, .i st, .i ph, .l hts, .i x, .i v, .i a, .i b] then (if v ≤ 100 * sq.length then heE [.i st, .i ph, .l hts, .i a, .i b] else 3) else 1 := rfl
  have o : deO [.i d, .i m, .l sq, .i st, .i ph, .l hts, .i x, .i v, .i a, .i b] = (decide (0 ≤ x ∧ x ≤ 100000) && (kevB d m sq && (decide (0 ≤ v ∧ v ≤ 2000) && !decide (heE [.i st, .i ph, .l hts, .i a, .i b] = 1)))) := rfl
  show (decide (deE [.i d, .i m, .l sq, .i st, .i ph, .l hts, .i x, .i v, .i a, .i b] = 0) && decide (needI d m sq v - heA [.i st, .i ph, .l hts, .i a, .i b] ≤ x)) = true ↔ _
  rw [Bool.and_eq_true, decide_eq_true_eq, decide_eq_true_eq, e]
  generalize heE [.i st, .i ph, .l hts, .i a, .i b] = q at *
  generalize deO [.i d, .i m, .l sq, .i st, .i ph, .l hts, .i x, .i v, .i a, .i b] = w at *
  constructor
  · rintro ⟨h1, h2⟩
    cases w with
    | false => rw [if_neg (show ¬ (false = true) by decide)] at h1; omega
    | true =>
      rw [if_pos rfl] at h1
      have o := o.symm
      simp only [Bool.and_eq_true, decide_eq_true_eq] at o
      split at h1
      · rename_i g
        exact ⟨o.1, o.2.1, o.2.2.1, g, h1, h2⟩
      · exact absurd h1 (by decide)
  · rintro ⟨g1, g2, g3, g4, g5, g6⟩
    rw [decide_eq_true g1, g2, decide_eq_true g3, g5] at o
    have o : w = true := o
    rw [o, if_pos rfl, if_pos g4]
    exact ⟨g5, g6⟩
theorem deR_more {d m : Int} {sq : Rows} {st ph : Int} {hts : Rows} {x x' v a b : Int} (h1 : x ≤ x') (h2 : x' ≤ 100000) (h : deR [.i d, .i m, .l sq, .i st, .i ph, .l hts, .i x, .i v, .i a, .i b] = true) : deR [.i d, .i m, .l sq, .i st, .i ph, .l hts, .i x', .i v, .i a, .i b] = true := by
  rw [deR_iff] at h ⊢
  obtain ⟨g1, g2, g3, g4, g5, g6⟩ := h
  exact ⟨by omega, g2, g3, g4, g5, by omega⟩
theorem need_less {d m d' m' v : Int} {sq sq' : Rows} (h1 : d' ≤ d) (h2 : m' ≤ m) (h3 : ∀ i : Nat, i < sq.length → lg sq' i 0 ≤ lg sq i 0) (h4 : 0 ≤ v) (h5 : v ≤ 100 * (sq.length : Int)) : needI d' m' sq' v ≤ needI d m sq v := by
  unfold needI
  by_cases v0 : v = 0
  · rw [if_pos v0, if_pos v0]; omega
  · rw [if_neg v0, if_neg v0]
    have q0 : (v - 1).tdiv 100 = (v - 1) / 100 := Int.tdiv_eq_ediv_of_nonneg (by omega)
    rw [q0]
    have q1 : 0 ≤ (v - 1) / 100 ∧ (v - 1) / 100 < sq.length := by omega
    obtain ⟨n, hn⟩ := Int.eq_ofNat_of_zero_le q1.1
    rw [hn]
    have := h3 n (by omega)
    omega
theorem deR_less {d m d' m' : Int} {sq sq' : Rows} {st ph : Int} {hts : Rows} {x v a b : Int} (h0 : kevB d' m' sq' = true) (hl : sq'.length = sq.length) (h1 : d' ≤ d) (h2 : m' ≤ m) (h3 : ∀ i : Nat, i < sq.length → lg sq' i 0 ≤ lg sq i 0)
    (h : deR [.i d, .i m, .l sq, .i st, .i ph, .l hts, .i x, .i v, .i a, .i b] = true) : deR [.i d', .i m', .l sq', .i st, .i ph, .l hts, .i x, .i v, .i a, .i b] = true := by
  rw [deR_iff] at h ⊢
  obtain ⟨g1, g2, g3, g4, g5, g6⟩ := h
  have := need_less h1 h2 h3 g3.1 g4
  exact ⟨g1, h0, g3, by omega, g5, by omega⟩
/-! The times do not hang on how far off a ship may be -/
theorem dur_off {lo hi off off' k : Int} {r : Rows} (h : psgB lo hi off r = psgB lo hi off' r) : durE [.i lo, .i hi, .i off, .l r, .i k] = durE [.i lo, .i hi, .i off', .l r, .i k] ∧ durL [.i lo, .i hi, .i off, .l r, .i k] = durL [.i lo, .i hi, .i off', .l r, .i k] ∧ durH [.i lo, .i hi, .i off, .l r, .i k] = durH [.i lo, .i hi, .i off', .l r, .i k] := by
  have e : durO [.i lo, .i hi, .i off, .l r, .i k] = durO [.i lo, .i hi, .i off', .l r, .i k] := by
    show (psgB lo hi off r && decide (0 ≤ k ∧ k < r.length)) = (psgB lo hi off' r && decide (0 ≤ k ∧ k < r.length))
    rw [h]
  have x : durX [.i lo, .i hi, .i off, .l r, .i k] = durX [.i lo, .i hi, .i off', .l r, .i k] := by
    show (durO [.i lo, .i hi, .i off, .l r, .i k] && !decide (10000000 < tHi r hi (k.toNat + 1))) = (durO [.i lo, .i hi, .i off', .l r, .i k] && !decide (10000000 < tHi r hi (k.toNat + 1)))
    rw [e]
  unfold durE durL durH
  rw [e, x]
  exact ⟨rfl, rfl, rfl⟩
theorem psg_less {lo hi off off' : Int} {r : Rows} (h : psgB lo hi off r = true) (h0 : 0 ≤ off') (h1 : off' ≤ off) : psgB lo hi off' r = true := by
  unfold psgB at h ⊢
  simp only [Bool.and_eq_true, decide_eq_true_eq] at h ⊢
  obtain ⟨⟨⟨g1, g2⟩, g3⟩, g4⟩ := h
  exact ⟨⟨⟨g1, g2⟩, by omega⟩, g4⟩
/-! Near features -/
theorem nearP_far {lo hi d e k id kind x y rad depth sym id' depth' sym' : Int} {r area sc sc' : Rows} (hd : 0 ≤ d) (he : d ≤ e) (hp : psgB lo hi e r = true) (hf' : featB id' kind x y rad area depth' sym' sc' = true)
    (h : nearPR [.i lo, .i hi, .i d, .l r, .i k, .i id, .i kind, .i x, .i y, .i rad, .l area, .i depth, .i sym, .l sc] = true) :
    nearPE [.i lo, .i hi, .i e, .l r, .i k, .i id', .i kind, .i x, .i y, .i rad, .l area, .i depth', .i sym', .l sc'] = 0 ∧ nearPR [.i lo, .i hi, .i e, .l r, .i k, .i id', .i kind, .i x, .i y, .i rad, .l area, .i depth', .i sym', .l sc'] = true := by
  have h : ((psgB lo hi d r && (decide (0 ≤ k ∧ k < r.length) && featB id kind x y rad area depth sym sc)) && nearX r k d kind x y rad area) = true := h
  simp only [Bool.and_eq_true, decide_eq_true_eq] at h
  obtain ⟨⟨_, hk, hf⟩, hx⟩ := h
  have hO : nearPO [.i lo, .i hi, .i e, .l r, .i k, .i id', .i kind, .i x, .i y, .i rad, .l area, .i depth', .i sym', .l sc'] = true := by
    show (psgB lo hi e r && (decide (0 ≤ k ∧ k < r.length) && featB id' kind x y rad area depth' sym' sc')) = true
    rw [hp, decide_eq_true hk, hf']; rfl
  have hl : legB r k = true := by
    have := (psgB_iff hp).2.2.2 k.toNat (by omega)
    rwa [Int.toNat_of_nonneg hk.1] at this
  have ho := (psgB_iff hp).2.2.1
  have hF := featB_iff.1 hf
  constructor
  · unfold nearPE
    rw [hO, if_pos rfl]
    show nearXE r k e kind x y rad = 0
    unfold nearXE
    split
    · rfl
    · rename_i q
      obtain ⟨p1, p2⟩ := leg_places hl
      obtain ⟨_, _, _, hr, w | w | w⟩ := hF
      · exact (nearR_eq w.2.1 p1 p2 (by omega)).2
      · exact absurd (by omega) q
      · exact absurd (by omega) q
  · show (nearPO [.i lo, .i hi, .i e, .l r, .i k, .i id', .i kind, .i x, .i y, .i rad, .l area, .i depth', .i sym', .l sc'] && nearX r k e kind x y rad area) = true
    rw [hO, nearX_far hd he (by omega) hl hF hx]; rfl
/-! When is a leg right? -/
theorem lgF_iff {ds : List D} {i : Nat} : lgF ds i = true ↔ nearPE (lgN ds i) = 0 ∧ nearPR (lgN ds i) = true ∧ (lg (rAt ds 12) i 1 = 6 ∨ deR (lgK ds (lg (rAt ds 12) i 6)) = false) := by
  unfold lgF
  have e : deR (lgK ds (lg (rAt ds 12) i 6)) = true → deE (lgK ds (lg (rAt ds 12) i 6)) = 0 := fun h => by
    unfold deR at h
    rw [Bool.and_eq_true, decide_eq_true_eq] at h
    exact h.1
  simp only [Bool.and_eq_true, Bool.or_eq_true, decide_eq_true_eq, Bool.not_eq_true', decide_eq_false_iff_not]
  constructor
  · rintro ⟨h1, h2, h3⟩
    refine ⟨h1, h2, ?_⟩
    rcases h3 with h3 | h3 | h3
    · exact .inl h3
    · right
      cases q : deR (lgK ds (lg (rAt ds 12) i 6)) with
      | true => exact absurd (e q) h3
      | false => rfl
    · exact .inr h3
  · rintro ⟨h1, h2, h3⟩
    exact ⟨h1, h2, h3.elim .inl (fun q => .inr (.inr q))⟩
theorem lgFirst_iff {ds : List D} : ∀ f i, lgFirst ds f i = i + f ↔ ∀ k, i ≤ k → k < i + f → lgF ds k = false
  | 0, i => ⟨fun _ k h1 h2 => by omega, fun _ => rfl⟩
  | f + 1, i => by
    rw [lgFirst]
    have ih := lgFirst_iff (ds := ds) f (i + 1)
    by_cases h : lgF ds i = true
    · rw [if_pos h]
      exact ⟨fun e => by omega, fun g => by have := g i (by omega) (by omega); rw [h] at this; cases this⟩
    · rw [if_neg h, show i + (f + 1) = i + 1 + f by omega, ih]
      constructor
      · intro g k h1 h2
        by_cases e : k = i
        · subst e; exact Bool.eq_false_iff.2 h
        · exact g k (by omega) (by omega)
      · exact fun g k h1 h2 => g k (by omega) (by omega)
theorem legE_zero {ds : List D} : legE ds = 0 ↔ sheetL (sh13 ds) = true ∧ askB ds = true ∧ plainB ds = true ∧ durE (lgT ds) = 0 ∧ psgB (iAt ds 13) (iAt ds 14) (lgOff ds) (lgM ds) = true ∧ deR (lgK ds (iAt ds 10)) = true ∧ ∀ i : Nat, i < (rAt ds 12).length → lgF ds i = false := by
  have hI : lgI ds = (rAt ds 12).length ↔ ∀ i : Nat, i < (rAt ds 12).length → lgF ds i = false := by
    have := lgFirst_iff (ds := ds) (rAt ds 12).length 0
    rw [Nat.zero_add] at this
    unfold lgI
    rw [this]
    exact ⟨fun h i hi => h i (Nat.zero_le _) hi, fun h i _ hi => h i hi⟩
  have e : deR (lgK ds (iAt ds 10)) = true → deE (lgK ds (iAt ds 10)) = 0 := fun h => by
    unfold deR at h
    rw [Bool.and_eq_true, decide_eq_true_eq] at h
    exact h.1
  rw [← hI]
  unfold legE
  generalize deR (lgK ds (iAt ds 10)) = z1 at *
  generalize deE (lgK ds (iAt ds 10)) = z2 at *
  generalize lgI ds = z3 at *
  clear hI
  constructor
  · intro h
    split at h
    · rename_i g1
      rw [Bool.and_eq_true] at g1
      split at h
      · rename_i g2
        split at h
        · rename_i g3
          split at h
          · rename_i g4
            split at h
            · rename_i g5
              exact ⟨g1.1, g1.2, g2, g3.1, g3.2, g5.1, g5.2⟩
            · exact absurd h (by decide)
          · rename_i g4; exact absurd h g4
        · exact absurd h (by decide)
      · exact absurd h (by decide)
    · exact absurd h (by decide)
  · rintro ⟨h1, h2, h3, h4, h5, h6, h7⟩
    rw [h1, h2, h3, if_pos (show (true && true) = true from rfl), if_pos rfl, if_pos ⟨h4, h5⟩, if_pos (e h6), if_pos ⟨h6, h7⟩]
section
variable {a b c dA dB dC dD dE dF dR cap : Int} {dd fs : Rows} {lo hi off : Int} {r : Rows} {k d m : Int} {sq : Rows} {st ph : Int} {hts : Rows}
theorem leg_fact (h : legE [.i a, .i b, .i c, .i dA, .i dB, .i dC, .i dD, .i dE, .i dF, .i dR, .i cap, .l dd, .l fs, .i lo, .i hi, .i off, .l r, .i k, .i d, .i m, .l sq, .i st, .i ph, .l hts] = 0) : 0 ≤ off ∧ cap ≤ 100000 ∧ listB fs = true := by
  rw [legE_zero] at h
  obtain ⟨g1, g2, _⟩ := h
  have g1 : (doN dd dd.length 0 0 && (decide (dd.length ≤ 200 ∧ (1 ≤ a ∧ a ≤ 1000) ∧ (1 ≤ b ∧ b ≤ 1000) ∧ (1 ≤ c ∧ c ≤ 1000) ∧ 1 ≤ cap ∧ cap ≤ 100000) && (datB dA dB dC dD dE dF dR && listB fs))) = true := g1
  have g2 : (psgB lo hi off r && (decide (0 ≤ k ∧ k < r.length) && (kevB d m sq && tideB st ph hts))) = true := g2
  simp only [Bool.and_eq_true, decide_eq_true_eq] at g1 g2
  have := (psgB_iff g2.1).2.2.1
  exact ⟨by omega, by omega, g1.2.2.2⟩
/-- A ship that may be less far off. -/
theorem leg_near {off' : Int} (h0 : 0 ≤ off') (h1 : off' ≤ off) (h : legE [.i a, .i b, .i c, .i dA, .i dB, .i dC, .i dD, .i dE, .i dF, .i dR, .i cap, .l dd, .l fs, .i lo, .i hi, .i off, .l r, .i k, .i d, .i m, .l sq, .i st, .i ph, .l hts] = 0) : legE [.i a, .i b, .i c, .i dA, .i dB, .i dC, .i dD, .i dE, .i dF, .i dR, .i cap, .l dd, .l fs, .i lo, .i hi, .i off', .l r, .i k, .i d, .i m, .l sq, .i st, .i ph, .l hts] = 0 := by
  rw [legE_zero] at h ⊢
  obtain ⟨g1, g2, g3, g4, g5, g6, g7⟩ := h
  have g2 : (psgB lo hi off r && (decide (0 ≤ k ∧ k < r.length) && (kevB d m sq && tideB st ph hts))) = true := g2
  have g4 : durE [.i lo, .i hi, .i off, .l r, .i k] = 0 := g4
  have g5 : psgB lo hi (off + 2 * dR) (mvLegs r dC dF) = true := g5
  have eK : ∀ o x, lgK [.i a, .i b, .i c, .i dA, .i dB, .i dC, .i dD, .i dE, .i dF, .i dR, .i cap, .l dd, .l fs, .i lo, .i hi, .i o, .l r, .i k, .i d, .i m, .l sq, .i st, .i ph, .l hts] x = [.i d, .i m, .l sq, .i st, .i ph, .l hts, .i x, .i (lg (mvLegs r dC dF) k 5), .i (durL [.i lo, .i hi, .i o, .l r, .i k]), .i (durH [.i lo, .i hi, .i o, .l r, .i k])] := fun _ _ => rfl
  rw [Bool.and_eq_true] at g2
  have p := psg_less g2.1 h0 h1
  obtain ⟨d1, d2, d3⟩ := dur_off (k := k) (g2.1.trans p.symm)
  have hK : ∀ x, lgK [.i a, .i b, .i c, .i dA, .i dB, .i dC, .i dD, .i dE, .i dF, .i dR, .i cap, .l dd, .l fs, .i lo, .i hi, .i off', .l r, .i k, .i d, .i m, .l sq, .i st, .i ph, .l hts] x = lgK [.i a, .i b, .i c, .i dA, .i dB, .i dC, .i dD, .i dE, .i dF, .i dR, .i cap, .l dd, .l fs, .i lo, .i hi, .i off, .l r, .i k, .i d, .i m, .l sq, .i st, .i ph, .l hts] x := fun x => by rw [eK, eK, d2, d3]
  have hres : 0 ≤ dR := by
    have g1 : sheetL [.i a, .i b, .i c, .i dA, .i dB, .i dC, .i dD, .i dE, .i dF, .i dR, .i cap, .l dd, .l fs] = true := g1
    unfold sheetL at g1
    simp only [Bool.and_eq_true] at g1
    have g := g1.2.2.1
    unfold datB at g
    simp only [Bool.and_eq_true, decide_eq_true_eq] at g
    exact g.2.2.2.2.1
  refine ⟨g1, ?_, g3, ?_, ?_, ?_, fun i h9 => ?_⟩
  · show (psgB lo hi off' r && (decide (0 ≤ k ∧ k < r.length) && (kevB d m sq && tideB st ph hts))) = true
    rw [p, g2.2]; rfl
  · show durE [.i lo, .i hi, .i off', .l r, .i k] = 0
    rw [← d1]; exact g4
  · exact psg_less g5 (by show 0 ≤ off' + 2 * dR; omega) (by show off' + 2 * dR ≤ off + 2 * dR; omega)
  · show deR (lgK [.i a, .i b, .i c, .i dA, .i dB, .i dC, .i dD, .i dE, .i dF, .i dR, .i cap, .l dd, .l fs, .i lo, .i hi, .i off', .l r, .i k, .i d, .i m, .l sq, .i st, .i ph, .l hts] cap) = true
    rw [hK]; exact g6
  · cases q : lgF [.i a, .i b, .i c, .i dA, .i dB, .i dC, .i dD, .i dE, .i dF, .i dR, .i cap, .l dd, .l fs, .i lo, .i hi, .i off', .l r, .i k, .i d, .i m, .l sq, .i st, .i ph, .l hts] i with
    | false => rfl
    | true =>
      have q := lgF_iff.1 q
      have := g7 i h9
      have w : lgF [.i a, .i b, .i c, .i dA, .i dB, .i dC, .i dD, .i dE, .i dF, .i dR, .i cap, .l dd, .l fs, .i lo, .i hi, .i off, .l r, .i k, .i d, .i m, .l sq, .i st, .i ph, .l hts] i = true := by
        rw [lgF_iff]
        obtain ⟨q1, q2, q3⟩ := q
        have hf : featB (lg fs i 0) (lg fs i 1) (lg fs i 2) (lg fs i 3) (lg fs i 4) (lr fs i 5) (lg fs i 6) (lg fs i 7) (lr fs i 8) = true := by
          have q2 : ((psgB lo hi (off' + 2 * dR) (mvLegs r dC dF) && (decide (0 ≤ k ∧ k < (mvLegs r dC dF).length) && featB (lg fs i 0) (lg fs i 1) (lg fs i 2) (lg fs i 3) (lg fs i 4) (lr fs i 5) (lg fs i 6) (lg fs i 7) (lr fs i 8))) && nearX (mvLegs r dC dF) k (off' + 2 * dR) (lg fs i 1) (lg fs i 2) (lg fs i 3) (lg fs i 4) (lr fs i 5)) = true := q2
          simp only [Bool.and_eq_true] at q2
          exact q2.1.2.2
        obtain ⟨w1, w2⟩ := nearP_far (by omega) (show off' + 2 * dR ≤ off + 2 * dR by omega) g5 hf q2
        refine ⟨w1, w2, ?_⟩
        rw [hK] at q3
        exact q3
      rw [w] at this; exact this
/-- A lesser ship. -/
theorem leg_ship {d' m' : Int} {sq' : Rows} (h0 : kevB d' m' sq' = true) (hl : sq'.length = sq.length) (h1 : d' ≤ d) (h2 : m' ≤ m) (h3 : ∀ i : Nat, i < sq.length → lg sq' i 0 ≤ lg sq i 0) (h : legE [.i a, .i b, .i c, .i dA, .i dB, .i dC, .i dD, .i dE, .i dF, .i dR, .i cap, .l dd, .l fs, .i lo, .i hi, .i off, .l r, .i k, .i d, .i m, .l sq, .i st, .i ph, .l hts] = 0) : legE [.i a, .i b, .i c, .i dA, .i dB, .i dC, .i dD, .i dE, .i dF, .i dR, .i cap, .l dd, .l fs, .i lo, .i hi, .i off, .l r, .i k, .i d', .i m', .l sq', .i st, .i ph, .l hts] = 0 := by
  rw [legE_zero] at h ⊢
  obtain ⟨g1, g2, g3, g4, g5, g6, g7⟩ := h
  have g2 : (psgB lo hi off r && (decide (0 ≤ k ∧ k < r.length) && (kevB d m sq && tideB st ph hts))) = true := g2
  simp only [Bool.and_eq_true] at g2
  refine ⟨g1, ?_, g3, g4, g5, deR_less h0 hl h1 h2 h3 g6, fun i h9 => ?_⟩
  · show (psgB lo hi off r && (decide (0 ≤ k ∧ k < r.length) && (kevB d' m' sq' && tideB st ph hts))) = true
    rw [g2.1, g2.2.1, h0, g2.2.2.2]; rfl
  · cases q : lgF [.i a, .i b, .i c, .i dA, .i dB, .i dC, .i dD, .i dE, .i dF, .i dR, .i cap, .l dd, .l fs, .i lo, .i hi, .i off, .l r, .i k, .i d', .i m', .l sq', .i st, .i ph, .l hts] i with
    | false => rfl
    | true =>
      obtain ⟨q1, q2, q3⟩ := lgF_iff.1 q
      have := g7 i h9
      have w : lgF [.i a, .i b, .i c, .i dA, .i dB, .i dC, .i dD, .i dE, .i dF, .i dR, .i cap, .l dd, .l fs, .i lo, .i hi, .i off, .l r, .i k, .i d, .i m, .l sq, .i st, .i ph, .l hts] i = true := by
        rw [lgF_iff]
        refine ⟨q1, q2, q3.imp id (fun z => ?_)⟩
        cases y : deR (lgK [.i a, .i b, .i c, .i dA, .i dB, .i dC, .i dD, .i dE, .i dF, .i dR, .i cap, .l dd, .l fs, .i lo, .i hi, .i off, .l r, .i k, .i d, .i m, .l sq, .i st, .i ph, .l hts] (lg (rAt [.i a, .i b, .i c, .i dA, .i dB, .i dC, .i dD, .i dE, .i dF, .i dR, .i cap, .l dd, .l fs, .i lo, .i hi, .i off, .l r, .i k, .i d, .i m, .l sq, .i st, .i ph, .l hts] 12) i 6)) with
        | false => rfl
        | true =>
          have y := deR_less h0 hl h1 h2 h3 y
          exact absurd (z.symm.trans y) (by decide)
      rw [w] at this; exact this
/-- A greater cap. -/
theorem leg_cap {cap' : Int} (h0 : cap ≤ cap') (h1 : cap' ≤ 100000) (h : legE [.i a, .i b, .i c, .i dA, .i dB, .i dC, .i dD, .i dE, .i dF, .i dR, .i cap, .l dd, .l fs, .i lo, .i hi, .i off, .l r, .i k, .i d, .i m, .l sq, .i st, .i ph, .l hts] = 0) : legE [.i a, .i b, .i c, .i dA, .i dB, .i dC, .i dD, .i dE, .i dF, .i dR, .i cap', .l dd, .l fs, .i lo, .i hi, .i off, .l r, .i k, .i d, .i m, .l sq, .i st, .i ph, .l hts] = 0 := by
  rw [legE_zero] at h ⊢
  obtain ⟨g1, g2, g3, g4, g5, g6, g7⟩ := h
  refine ⟨?_, g2, g3, g4, g5, deR_more h0 h1 g6, g7⟩
  have g1 : (doN dd dd.length 0 0 && (decide (dd.length ≤ 200 ∧ (1 ≤ a ∧ a ≤ 1000) ∧ (1 ≤ b ∧ b ≤ 1000) ∧ (1 ≤ c ∧ c ≤ 1000) ∧ 1 ≤ cap ∧ cap ≤ 100000) && (datB dA dB dC dD dE dF dR && listB fs))) = true := g1
  show (doN dd dd.length 0 0 && (decide (dd.length ≤ 200 ∧ (1 ≤ a ∧ a ≤ 1000) ∧ (1 ≤ b ∧ b ≤ 1000) ∧ (1 ≤ c ∧ c ≤ 1000) ∧ 1 ≤ cap' ∧ cap' ≤ 100000) && (datB dA dB dC dD dE dF dR && listB fs))) = true
  simp only [Bool.and_eq_true, decide_eq_true_eq] at g1 ⊢
  exact ⟨g1.1, by omega, g1.2.2⟩
/-- Other features, each like one that was there, or deeper. -/
theorem leg_feats {fs' : Rows} (h0 : listB fs' = true) (h1 : ∀ j : Nat, j < fs'.length → ∃ i : Nat, i < fs.length ∧ lg fs' j 1 = lg fs i 1 ∧ lg fs' j 2 = lg fs i 2 ∧ lg fs' j 3 = lg fs i 3 ∧ lg fs' j 4 = lg fs i 4 ∧ lr fs' j 5 = lr fs i 5 ∧ lg fs i 6 ≤ lg fs' j 6)
    (h : legE [.i a, .i b, .i c, .i dA, .i dB, .i dC, .i dD, .i dE, .i dF, .i dR, .i cap, .l dd, .l fs, .i lo, .i hi, .i off, .l r, .i k, .i d, .i m, .l sq, .i st, .i ph, .l hts] = 0) : listB fs = true ∧ legE [.i a, .i b, .i c, .i dA, .i dB, .i dC, .i dD, .i dE, .i dF, .i dR, .i cap, .l dd, .l fs', .i lo, .i hi, .i off, .l r, .i k, .i d, .i m, .l sq, .i st, .i ph, .l hts] = 0 := by
  rw [legE_zero] at h ⊢
  obtain ⟨g1, g2, g3, g4, g5, g6, g7⟩ := h
  have g1 : (doN dd dd.length 0 0 && (decide (dd.length ≤ 200 ∧ (1 ≤ a ∧ a ≤ 1000) ∧ (1 ≤ b ∧ b ≤ 1000) ∧ (1 ≤ c ∧ c ≤ 1000) ∧ 1 ≤ cap ∧ cap ≤ 100000) && (datB dA dB dC dD dE dF dR && listB fs))) = true := g1
  simp only [Bool.and_eq_true, decide_eq_true_eq] at g1
  have hL := g1.2.2.2
  have hD := g1.2.2.1
  refine ⟨hL, ?_, g2, g3, g4, g5, g6, fun j hj => ?_⟩
  · show (doN dd dd.length 0 0 && (decide (dd.length ≤ 200 ∧ (1 ≤ a ∧ a ≤ 1000) ∧ (1 ≤ b ∧ b ≤ 1000) ∧ (1 ≤ c ∧ c ≤ 1000) ∧ 1 ≤ cap ∧ cap ≤ 100000) && (datB dA dB dC dD dE dF dR && listB fs'))) = true
    simp only [Bool.and_eq_true, decide_eq_true_eq]
    exact ⟨g1.1, g1.2.1, hD, h0⟩
  · have hj : j < fs'.length := hj
    cases q : lgF [.i a, .i b, .i c, .i dA, .i dB, .i dC, .i dD, .i dE, .i dF, .i dR, .i cap, .l dd, .l fs', .i lo, .i hi, .i off, .l r, .i k, .i d, .i m, .l sq, .i st, .i ph, .l hts] j with
    | false => rfl
    | true =>
      obtain ⟨q1, q2, q3⟩ := lgF_iff.1 q
      obtain ⟨i, h9, e1, e2, e3, e4, e5, e6⟩ := h1 j hj
      have this := g7 i h9
      have hfi := (list_spec hL).2.1 i h9
      have hfj := (list_spec h0).2.1 j hj
      have hj6 := (row_id j hfj).2
      have hres : 0 ≤ dR ∧ 0 ≤ off := by
        have g2 : (psgB lo hi off r && (decide (0 ≤ k ∧ k < r.length) && (kevB d m sq && tideB st ph hts))) = true := g2
        rw [Bool.and_eq_true] at g2
        have := (psgB_iff g2.1).2.2.1
        unfold datB at hD
        simp only [Bool.and_eq_true, decide_eq_true_eq] at hD
        exact ⟨hD.2.2.2.2.1, by omega⟩
      have q2 : nearPR [.i lo, .i hi, .i (off + 2 * dR), .l (mvLegs r dC dF), .i k, .i (lg fs' j 0), .i (lg fs' j 1), .i (lg fs' j 2), .i (lg fs' j 3), .i (lg fs' j 4), .l (lr fs' j 5), .i (lg fs' j 6), .i (lg fs' j 7), .l (lr fs' j 8)] = true := q2
      have q3 : lg fs' j 1 = 6 ∨ deR (lgK [.i a, .i b, .i c, .i dA, .i dB, .i dC, .i dD, .i dE, .i dF, .i dR, .i cap, .l dd, .l fs, .i lo, .i hi, .i off, .l r, .i k, .i d, .i m, .l sq, .i st, .i ph, .l hts] (lg fs' j 6)) = false := q3
      rw [e1, e2, e3, e4, e5] at q2
      rw [e1] at q3
      obtain ⟨w1, w2⟩ := nearP_far (show 0 ≤ off + 2 * dR by omega) (Int.le_refl _) g5 hfi q2
      have w : lgF [.i a, .i b, .i c, .i dA, .i dB, .i dC, .i dD, .i dE, .i dF, .i dR, .i cap, .l dd, .l fs, .i lo, .i hi, .i off, .l r, .i k, .i d, .i m, .l sq, .i st, .i ph, .l hts] i = true := by
        rw [lgF_iff]
        refine ⟨w1, w2, q3.imp id (fun z => ?_)⟩
        cases y : deR (lgK [.i a, .i b, .i c, .i dA, .i dB, .i dC, .i dD, .i dE, .i dF, .i dR, .i cap, .l dd, .l fs, .i lo, .i hi, .i off, .l r, .i k, .i d, .i m, .l sq, .i st, .i ph, .l hts] (lg (rAt [.i a, .i b, .i c, .i dA, .i dB, .i dC, .i dD, .i dE, .i dF, .i dR, .i cap, .l dd, .l fs, .i lo, .i hi, .i off, .l r, .i k, .i d, .i m, .l sq, .i st, .i ph, .l hts] 12) i 6)) with
        | false => rfl
        | true =>
          have y := deR_more e6 hj6 y
          exact absurd (z.symm.trans y) (by decide)
      rw [w] at this; exact this
end
end Go.Proofs.YtkjjkckcjgkhmaaGreat
/- Chapter 40: the laws CheckLesser and CheckMore. -/
namespace Go.Proofs.YtkjjkckcjgkhmaaGreat
open Go.RowKit
theorem rep_rl40 {w : World} {ks : List CK} {v : Value} {d : D} (h : CK.rep w (.sl ks) v d) : ∀ i : Nat, i < d.rows.length → rl d.rows i = ks.length := by
  rw [rep_sl] at h
  obtain ⟨r, rfl, a, n, c, _, hs, _⟩ := h
  intro i hi
  have hi : i < r.length := hi
  have := hs.there (by have := hs.len; omega)
  cases a with
  | none => cases this
  | some b =>
    obtain ⟨vs, h1, _⟩ := hs.cell b rfl i _ (List.getElem?_eq_getElem hi)
    show rl r i = _
    unfold rl
    rw [List.getElem?_eq_getElem hi]
    exact (reps_len h1).2
theorem feats_rl {W : World} {vals : List Value} {ds : List D} {sh : List Sh} (hr : repSh W (shee :: sh) vals ds) : ∀ i : Nat, i < (rAt ds 12).length → rl (rAt ds 12) i = 9 := by
  obtain ⟨v, vs', d, ds', rfl, rfl, ⟨us, rfl, h⟩, _⟩ := hr
  obtain ⟨v5, d5, h1, h2, h3⟩ := reps_get (j := 12) h rfl
  have e : rAt (d ++ ds') 12 = d5.rows := by
    have hl := (reps_len h).2
    have hl : d.length = 13 := hl
    unfold rAt
    rw [List.getD_eq_getElem?_getD, List.getElem?_append_left (by omega), h2]
    rfl
  rw [e]
  exact rep_rl40 h3
theorem cell_upd {m : Rows} {i : Nat} {j : Nat} {x : D} (hi : i < m.length) (hl : j < rl m i) (i' c : Nat) :
    cellAt (updR m i j [x]) (i' : Nat) c = if i' = i ∧ c = j then x else cellAt m (i' : Nat) c := by
  unfold cellAt updR rl at *
  rw [Int.toNat_natCast, Int.toNat_natCast, List.getElem?_modify]
  rw [List.getElem?_eq_getElem hi] at hl
  simp only [Option.getD_some] at hl
  by_cases e : i = i'
  · subst e
    rw [List.getElem?_eq_getElem hi]
    simp only [if_true, Option.map_eq_map, Option.map_some, Option.getD_some, true_and]
    have ht : (List.take j m[i]).length = j := by rw [List.length_take]; omega
    by_cases q : c < j
    · rw [if_neg (by omega), List.append_assoc, List.getElem?_append_left (by omega), List.getElem?_take_of_lt q]
    · by_cases q2 : c = j
      · subst q2
        rw [if_pos rfl, List.append_assoc, List.getElem?_append_right (by omega), ht, Nat.sub_self]
        rfl
      · rw [if_neg q2, List.getElem?_append_right (by rw [List.length_append, ht]; simp; omega), List.length_append, ht, List.getElem?_drop, List.length_singleton]
        congr 2
        omega
  · rw [if_neg (by omega)]
    simp only [if_neg e]
    simp
theorem but_feats {r : Rows} (hr : listB r = true) {n : Nat} (hn : n < r.length) : listB (subR r 0 (n : Int) ++ subR r ((n + 1 : Nat) : Int) (r.length : Int)) = true ∧ (subR r 0 (n : Int)).length = n ∧ (subR r 0 (n : Int) ++ subR r ((n + 1 : Nat) : Int) (r.length : Int)).length = r.length - 1 ∧
    ∀ j, j < r.length - 1 → ∃ i, i < r.length ∧ ∀ c, cellAt (subR r 0 (n : Int) ++ subR r ((n + 1 : Nat) : Int) (r.length : Int)) (j : Nat) c = cellAt r (i : Nat) c := by
  obtain ⟨h1, h2, h3⟩ := list_spec hr
  have l1 : (subR r 0 (n : Int)).length = n := by have := sub_len7 (r := r) (a := 0) (b := n) (by omega); simpa using this
  have l2 := sub_len7 (r := r) (a := n + 1) (b := r.length) (by omega)
  have c1 : ∀ j c, j < n → cellAt (subR r 0 (n : Int)) (j : Int) c = cellAt r (j : Int) c := fun j c hj => by
    have := sub_cell7 (r := r) (a := 0) (b := n) (j := j) (by omega) c
    simpa using this
  have hcell : ∀ j, j < r.length - 1 → ∀ c, cellAt (subR r 0 (n : Int) ++ subR r ((n + 1 : Nat) : Int) (r.length : Int)) (j : Int) c = cellAt r ((if j < n then j else j + 1 : Nat) : Int) c := fun j hj c => by
    rw [app_cell7]
    by_cases q : j < n
    · rw [if_pos (by omega), if_pos q, c1 j c q]
    · rw [if_neg (by omega), if_neg q, sub_cell7 (by omega), show n + 1 + (j - (subR r 0 (n : Int)).length) = j + 1 by omega]
  have hlen : (subR r 0 (n : Int) ++ subR r ((n + 1 : Nat) : Int) (r.length : Int)).length = r.length - 1 := by rw [List.length_append, l1, l2]; omega
  generalize subR r 0 (n : Int) ++ subR r ((n + 1 : Nat) : Int) (r.length : Int) = w at *
  have e1 : ∀ j, j < r.length - 1 → ∀ c, lg w j c = lg r ((if j < n then j else j + 1 : Nat) : Int) c := fun j hj c => by unfold lg; rw [hcell j hj]
  have e2 : ∀ j, j < r.length - 1 → ∀ c, lr w j c = lr r ((if j < n then j else j + 1 : Nat) : Int) c := fun j hj c => by unfold lr; rw [hcell j hj]
  refine ⟨list_of (by omega) (fun j hj => ?_) (fun i j hij hj => ?_), l1, hlen, fun j hj => ⟨if j < n then j else j + 1, by split <;> omega, hcell j hj⟩⟩
  · have e : featRow w j = featRow r (if j < n then j else j + 1) := by unfold featRow; simp only [e1 j (by omega), e2 j (by omega)]
    rw [e]
    exact h2 _ (by split <;> omega)
  · rw [e1 i (by omega), e1 j (by omega)]
    exact h3 _ _ (by (repeat' split) <;> omega) (by split <;> omega)
theorem deep_feats {r : Rows} (hr : listB r = true) (hl : ∀ i : Nat, i < r.length → rl r i = 9) {n : Nat} (hn : n < r.length) {x : Int} (h0 : lg r n 6 ≤ x) (h1 : x ≤ 100000) (k4 : lg r n 1 ≠ 4) (k6 : lg r n 1 ≠ 6) :
    listB (updR r n 6 [.i x]) = true ∧ (updR r n 6 [.i x]).length = r.length ∧ ∀ j : Nat, j < r.length → (∀ c, c ≠ 6 → cellAt (updR r n 6 [.i x]) (j : Nat) c = cellAt r (j : Nat) c) ∧ lg r j 6 ≤ lg (updR r n 6 [.i x]) j 6 := by
  obtain ⟨g1, g2, g3⟩ := list_spec hr
  have hc := cell_upd (x := .i x) hn (show 6 < rl r n by rw [hl n hn]; omega)
  have hlen : (updR r n 6 [.i x]).length = r.length := updR_len _ _ _ _
  generalize updR r n 6 [.i x] = w at *
  have c1 : ∀ (j c : Nat), c ≠ 6 → cellAt w (j : Nat) c = cellAt r (j : Nat) c := fun j c h => by rw [hc, if_neg (fun q => h q.2)]
  have e1 : ∀ (j c : Nat), c ≠ 6 → lg w j c = lg r j c := fun j c h => by unfold lg; rw [c1 j c h]
  have e2 : ∀ (j c : Nat), c ≠ 6 → lr w j c = lr r j c := fun j c h => by unfold lr; rw [c1 j c h]
  have e6 : ∀ j : Nat, lg w j 6 = if j = n then x else lg r j 6 := fun j => by
    unfold lg
    rw [hc]
    by_cases q : j = n
    · rw [if_pos ⟨q, rfl⟩, if_pos q]; rfl
    · rw [if_neg (fun z => q z.1), if_neg q]
  refine ⟨list_of (by omega) (fun j hj => ?_) (fun i j hij hj => ?_), hlen, fun j hj => ⟨c1 j, ?_⟩⟩
  · have hf := g2 j (by omega)
    unfold featRow at hf ⊢
    rw [e1 j 0 (by decide), e1 j 1 (by decide), e1 j 2 (by decide), e1 j 3 (by decide), e1 j 4 (by decide), e2 j 5 (by decide), e6, e1 j 7 (by decide), e2 j 8 (by decide)]
    by_cases q : j = n
    · subst q
      rw [if_pos rfl]
      rw [featB_iff] at hf ⊢
      obtain ⟨f1, f2, f3, f4, f5⟩ := hf
      refine ⟨f1, f2, by omega, f4, ?_⟩
      rcases f5 with f | f | f
      · exact .inl f
      · exact .inr (.inl ⟨f.1.elim .inl (fun z => absurd z.1 k6), f.2⟩)
      · exact absurd f.1 k4
    · rw [if_neg q]; exact hf
  · rw [e1 i 0 (by decide), e1 j 0 (by decide)]
    exact g3 i j hij (by omega)
  · rw [e6]
    split
    · rename_i q; subst q; exact h0
    · exact Int.le_refl _
theorem N6b144 (W : World) (ds l : List D) : (envOf N6 W ds).fb 144 l = kevL l := by simp only [envOf, N6, N5, N4, N3, N2, N1, KG, KF, KE, KD, KC, KB, KA, K9, K8, K7, K6, K5, K]
theorem N6i191 (W : World) (ds l : List D) : (envOf N6 W ds).fi 191 l = legE l := by simp only [envOf, N6, N5, N4, N3, N2, N1, KG, KF, KE, KD, KC, KB, KA, K9, K8, K7, K6, K5, K]
set_option maxHeartbeats 1000000 in
theorem gLesserLaw : Gives Tryz.prog 5 [shee, caseS, it, shp, it] (fun _ => .bool true) := by
  refine GivesIf.all (fn_gives N6 (by kernel_rfl) (fun ρ h => ctN8_ok (Sees.of h 200)) (by kernel_rfl) trLawLesser_is trLawLesser_low (by decide) (fun W vals ds hr _ => ?_))
  simp only [trLawLesser, TT.sat_ret, TT.sat_ite, TT.sat_ob, TT.sat_next, TT.sat_stuck, put_i, put_b, put_d, put_fi, put_fb, put_fd, Ob.ok, B.ev, E.ev, X.ev, AL.ev, cmp_t, cmp_f, arEv, V.plain, V2.plain, S.plain, S0.plain, V.val, V2.val, S.val, S0.val, bV, iV, List.all_cons, List.all_nil, Bool.and_true, Bool.and_self, envOf_i, envOf_b, envOf_d, List.map_cons, List.map_nil, true_and, Bool.not_eq_true', Bool.not_eq_false', Bool.not_not, Bool.and_eq_true, and_f, cell_lg, cell_lb, cell_lr, cmpP, val_i, val_b, val_d, aget, Nat.reduceBEq, beq_self_eq_true, Bool.false_eq_true, if_true, if_false, Nat.reduceLT, Nat.reduceSub, Nat.sub_self, Nat.lt_irrefl, N6b144, N6i191, kev_3]
  clear hr
  refine ⟨fun _ => trivial, fun _ => ⟨fun _ => trivial, fun _ => ⟨fun _ => trivial, fun hl => ⟨fun _ => trivial, fun h => ?_⟩⟩⟩⟩
  have h := Decidable.not_not.mp h
  have hl := Decidable.not_not.mp hl
  obtain ⟨o1, _, _⟩ := leg_fact h
  have hN := leg_near (off' := max 0 (min (iAt ds 28) (iAt ds 16))) (by omega) (by omega) h
  rw [hN]
  refine ⟨fun _ => rfl, fun hk => ⟨fun _ => rfl, fun hd => ⟨fun _ => rfl, fun hm => ?_⟩⟩⟩
  obtain ⟨_, _, b3, _⟩ := kev_sq hk
  refine TT.sat_loop (fun v => ∃ i : Nat, v.i 0 = i ∧ i ≤ (rAt ds 27).length ∧ ∀ j : Nat, j < i → lg (rAt ds 27) j 0 ≤ lg (rAt ds 20) j 0) (fun v => (rAt ds 27).length - (v.i 0).toNat) ⟨0, by simp [val_i, aget, E.ev], by omega, fun j hj => absurd hj (Nat.not_lt_zero _)⟩ (fun v hv => ?_)
  obtain ⟨i, i0, i1, i2⟩ := hv
  simp only [TT.sat_ret, TT.sat_ite, TT.sat_ob, TT.sat_next, TT.sat_stuck, put_i, put_b, put_d, put_fi, put_fb, put_fd, Ob.ok, B.ev, E.ev, X.ev, AL.ev, cmp_t, cmp_f, arEv, V.plain, V2.plain, S.plain, S0.plain, V.val, V2.val, S.val, S0.val, bV, iV, List.all_cons, List.all_nil, Bool.and_true, Bool.and_self, envOf_i, envOf_b, envOf_d, List.map_cons, List.map_nil, true_and, Bool.not_eq_true', Bool.not_eq_false', Bool.not_not, Bool.and_eq_true, and_f, cell_lg, cell_lb, cell_lr, cmpP, val_i, val_b, val_d, aget, Nat.reduceBEq, beq_self_eq_true, Bool.false_eq_true, if_true, if_false, Nat.reduceLT, Nat.reduceSub, Nat.sub_self, Nat.lt_irrefl, i0, N6i191]
  rw [hN]
  refine ⟨fun hc => ⟨by omega, by omega, by omega, by omega, fun _ => rfl, fun hg => ?_⟩, fun hc => ⟨fun _ => ?_, fun q => absurd rfl q⟩⟩
  · rw [wrap_in ((i : Int) + 1) (by omega) (by omega)]
    exact ⟨⟨i + 1, rfl, by omega, fun j hj => by
      by_cases e : j = i
      · subst e; omega
      · exact i2 j (by omega)⟩, by omega⟩
  · rw [leg_ship hk (by omega) (by omega) (by omega) (fun j hj => i2 j (by omega)) h]; rfl
set_option maxHeartbeats 1000000 in
theorem gMoreLaw : GivesIf Tryz.prog 4 [shee, caseS, it, .one (.int .u8), it, it] (fun ds => 0 ≤ iAt ds 25 ∧ iAt ds 25 ≤ 255) (fun _ => .bool true) := by
  refine fn_gives N6 (by kernel_rfl) (fun ρ h => ctN8_ok (Sees.of h 200)) (by kernel_rfl) trLawMore_is trLawMore_low (by decide) (fun W vals ds hr hok => ?_)
  have hrl := feats_rl hr
  simp only [trLawMore, TT.sat_ret, TT.sat_ite, TT.sat_ob, TT.sat_next, TT.sat_stuck, put_i, put_b, put_d, put_fi, put_fb, put_fd, Ob.ok, B.ev, E.ev, X.ev, AL.ev, cmp_t, cmp_f, arEv, V.plain, V2.plain, S.plain, S0.plain, V.val, V2.val, S.val, S0.val, bV, iV, List.all_cons, List.all_nil, Bool.and_true, Bool.and_self, envOf_i, envOf_b, envOf_d, List.map_cons, List.map_nil, true_and, Bool.not_eq_true', Bool.not_eq_false', Bool.not_not, Bool.and_eq_true, and_f, cell_lg, cell_lb, cell_lr, cmpP, val_i, val_b, val_d, aget, Nat.reduceBEq, beq_self_eq_true, Bool.false_eq_true, if_true, if_false, Nat.reduceLT, Nat.reduceSub, Nat.sub_self, Nat.lt_irrefl, N6i191]
  clear hr
  refine ⟨fun _ => trivial, fun _ => ⟨fun _ => trivial, fun l12 => ⟨fun _ => trivial, fun h => ?_⟩⟩⟩
  have h := Decidable.not_not.mp h
  obtain ⟨_, o2, o3⟩ := leg_fact h
  have hW := leg_cap (cap' := max (iAt ds 10) (min (iAt ds 27) 100000)) (by omega) (by omega) h
  rw [hW]
  refine ⟨fun _ => rfl, fun h0 => ⟨h0, ?_⟩⟩
  have hpos : 0 < (rAt ds 12).length := by omega
  have w25 : IntKind.i64.wrap (iAt ds 25) = iAt ds 25 := wrap_in _ (by omega) (by omega)
  have q0 : 0 ≤ (iAt ds 25).tmod ((rAt ds 12).length : Int) := Int.tmod_nonneg _ (by omega)
  have q1 : (iAt ds 25).tmod ((rAt ds 12).length : Int) < (rAt ds 12).length := Int.tmod_lt_of_pos _ (by omega)
  rw [w25]
  generalize (iAt ds 25).tmod ((rAt ds 12).length : Int) = q at *
  obtain ⟨n, rfl⟩ := Int.eq_ofNat_of_zero_le q0
  have wn : IntKind.i64.wrap ((n : Int) + 1) = ((n + 1 : Nat) : Int) := by rw [wrap_in _ (by omega) (by omega)]; rfl
  rw [wn]
  have hn : n < (rAt ds 12).length := by omega
  obtain ⟨f1, f2, f3, f4⟩ := but_feats o3 hn
  have hB := (leg_feats f1 (fun j hj => by
    obtain ⟨i, i1, i2⟩ := f4 j (by omega)
    have e1 : ∀ c, lg (subR (rAt ds 12) 0 (n : Int) ++ subR (rAt ds 12) ((n + 1 : Nat) : Int) ((rAt ds 12).length : Int)) j c = lg (rAt ds 12) i c := fun c => by unfold lg; rw [i2]
    have e2 : ∀ c, lr (subR (rAt ds 12) 0 (n : Int) ++ subR (rAt ds 12) ((n + 1 : Nat) : Int) ((rAt ds 12).length : Int)) j c = lr (rAt ds 12) i c := fun c => by unfold lr; rw [i2]
    exact ⟨i, i1, e1 1, e1 2, e1 3, e1 4, e2 5, Int.le_of_eq (e1 6).symm⟩) h).2
  rw [hB, f2, f3, h]
  have no : ∀ p : Prop, ¬ (0 : Int) = 0 → p := fun p q => absurd rfl q
  refine ⟨q0, by omega, by omega, by omega, by omega, by omega, fun _ => ⟨by omega, q0, q1, fun k4 => ⟨q0, q1, fun k6 => ⟨q0, q1, q0, q1, fun _ => ?_, no _⟩, fun _ => ⟨fun _ => rfl, no _⟩⟩, fun _ => ⟨fun _ => rfl, no _⟩⟩, no _⟩
  obtain ⟨d1, d2, d3⟩ := deep_feats o3 hrl hn (x := max (lg (rAt ds 12) n 6) (min (iAt ds 26) 100000)) (by omega) (by have := (row_id n ((list_spec o3).2.1 n hn)).2; omega) k4 k6
  have hD := (leg_feats d1 (fun j hj => by
    obtain ⟨i2, i6⟩ := d3 j (by omega)
    have e1 : ∀ c, c ≠ 6 → lg (updR (rAt ds 12) n 6 [.i (max (lg (rAt ds 12) n 6) (min (iAt ds 26) 100000))]) j c = lg (rAt ds 12) j c := fun c hc => congrArg D.int (i2 c hc)
    have e2 : ∀ c, c ≠ 6 → lr (updR (rAt ds 12) n 6 [.i (max (lg (rAt ds 12) n 6) (min (iAt ds 26) 100000))]) j c = lr (rAt ds 12) j c := fun c hc => congrArg D.rows (i2 c hc)
    exact ⟨j, by omega, e1 1 (by decide), e1 2 (by decide), e1 3 (by decide), e1 4 (by decide), e2 5 (by decide), i6⟩) h).2
  rw [hD]; rfl
end Go.Proofs.YtkjjkckcjgkhmaaGreat
