/- LSource, merged: TNi, Ni. -/
import Derived.Test.YtkjjkckcjgkhmaaGreatND
set_option linter.unusedSimpArgs false
set_option linter.unusedVariables false
/- Chapter 40: trees of laws. -/
namespace Go.Proofs.YtkjjkckcjgkhmaaGreat
open Go.RowKit
def shes : Sh := .one (.sl sheetK)
def caseS : Sh := .agg [.sl sheetK, .int .i64, .int .i64, .int .i64, .sl legK, .int .i64, .int .i64, .sl [.int .i64], .int .i64, .int .i64, .sl [.int .i64, .int .i64]]
-- term trLawSource: call Tryz.prog ctN8 (Lt.of []) 100 10 (symArgs 0 [nots, it, it]) [] 0
def trLawSource : TT OpR :=
(.ite (.cmp .gtr (.len (.var 0)) (.lit 12))
  (.ret ((.v (.one (.z (.bool (.lit true))))), [], 0))
  (.ite (.cmp .eql (.fn 181 (.x (.var 0) (.i (.var 1) (.i (.var 2) .nil)))) (.lit 1))
    (.ret ((.v (.one (.z (.bool (.cmp .eql (.fn 180 (.x (.var 0) (.i (.var 1) (.i (.var 2) .nil)))) (.lit 0)))))), [], 0))
    (.loop 0 1000 ⟨[(2, (.lit 0))], [(0, (.lit true)), (1, (.lit false))], []⟩
      (.ite (.cmp .lss (.var 1002) (.len (.var 0)))
        (.loop 1 2000 ⟨[(2, (.lit 0))], [(0, (.var 1000)), (1, (.var 1001))], []⟩
          (.ob (.tru (.cmp .leq (.lit 0) (.var 1002)))
          (.ob (.tru (.cmp .lss (.var 1002) (.len (.var 0))))
          (.ite (.cmp .lss (.var 2002) (.len (.rd (.var 0) (.var 1002) 6)))
            (.loop 2 3000 ⟨[(2, (.lit 0))], [(0, (.var 2000)), (1, (.var 2001))], []⟩
              (.ob (.tru (.cmp .leq (.lit 0) (.var 1002)))
              (.ob (.tru (.cmp .lss (.var 1002) (.len (.var 0))))
              (.ob (.tru (.cmp .leq (.lit 0) (.var 2002)))
              (.ob (.tru (.cmp .lss (.var 2002) (.len (.rd (.var 0) (.var 1002) 6))))
              (.ite (.cmp .lss (.var 3002) (.len (.rd (.rd (.var 0) (.var 1002) 6) (.var 2002) 2)))
                (.ob (.tru (.cmp .leq (.lit 0) (.var 1002)))
                (.ob (.tru (.cmp .lss (.var 1002) (.len (.var 0))))
                (.ite (.cmp .eql (.rd (.var 0) (.var 1002) 2) (.lit 1))
                  (.ob (.tru (.cmp .leq (.lit 0) (.var 1002)))
                  (.ob (.tru (.cmp .lss (.var 1002) (.len (.var 0))))
                  (.ob (.tru (.cmp .leq (.lit 0) (.var 2002)))
                  (.ob (.tru (.cmp .lss (.var 2002) (.len (.rd (.var 0) (.var 1002) 6))))
                  (.ite (.cmp .eql (.rd (.rd (.var 0) (.var 1002) 6) (.var 2002) 0) (.var 1))
                    (.ob (.tru (.cmp .leq (.lit 0) (.var 1002)))
                    (.ob (.tru (.cmp .lss (.var 1002) (.len (.var 0))))
                    (.ob (.tru (.cmp .leq (.lit 0) (.var 2002)))
                    (.ob (.tru (.cmp .lss (.var 2002) (.len (.rd (.var 0) (.var 1002) 6))))
                    (.ob (.tru (.cmp .leq (.lit 0) (.var 3002)))
                    (.ob (.tru (.cmp .lss (.var 3002) (.len (.rd (.rd (.var 0) (.var 1002) 6) (.var 2002) 2))))
                    (.ite (.cmp .eql (.rd (.rd (.rd (.var 0) (.var 1002) 6) (.var 2002) 2) (.var 3002) 1) (.var 2))
                      (.ite (.var 3001)
                        (.ite (.var 3000)
                          (.ite (.cmp .eql (.fn 181 (.x (.var 0) (.i (.var 1) (.i (.var 2) .nil)))) (.lit 0))
                            (.ob (.tru (.cmp .leq (.lit 0) (.var 1002)))
                            (.ob (.tru (.cmp .lss (.var 1002) (.len (.var 0))))
                            (.next 2 ⟨[(2, (.ar .add .i64 (.var 3002) (.lit 1)))], [(0, (.cmp .leq (.rd (.var 0) (.var 1002) 1) (.fn 180 (.x (.var 0) (.i (.var 1) (.i (.var 2) .nil)))))), (1, (.lit true))], []⟩)))
                            (.next 2 ⟨[(2, (.ar .add .i64 (.var 3002) (.lit 1)))], [(0, (.lit false)), (1, (.lit true))], []⟩))
                          (.next 2 ⟨[(2, (.ar .add .i64 (.var 3002) (.lit 1)))], [(0, (.lit false)), (1, (.lit true))], []⟩))
                        (.ob (.tru (.cmp .leq (.lit 0) (.var 1002)))
                        (.ob (.tru (.cmp .lss (.var 1002) (.len (.var 0))))
                        (.ite (.var 3000)
                          (.ite (.cmp .eql (.fn 181 (.x (.var 0) (.i (.var 1) (.i (.var 2) .nil)))) (.lit 0))
                            (.ob (.tru (.cmp .leq (.lit 0) (.var 1002)))
                            (.ob (.tru (.cmp .lss (.var 1002) (.len (.var 0))))
                            (.next 2 ⟨[(2, (.ar .add .i64 (.var 3002) (.lit 1)))], [(0, (.cmp .leq (.rd (.var 0) (.var 1002) 1) (.fn 180 (.x (.var 0) (.i (.var 1) (.i (.var 2) .nil)))))), (1, (.cmp .eql (.rd (.var 0) (.var 1002) 1) (.fn 180 (.x (.var 0) (.i (.var 1) (.i (.var 2) .nil))))))], []⟩)))
                            (.next 2 ⟨[(2, (.ar .add .i64 (.var 3002) (.lit 1)))], [(0, (.lit false)), (1, (.cmp .eql (.rd (.var 0) (.var 1002) 1) (.fn 180 (.x (.var 0) (.i (.var 1) (.i (.var 2) .nil))))))], []⟩))
                          (.next 2 ⟨[(2, (.ar .add .i64 (.var 3002) (.lit 1)))], [(0, (.lit false)), (1, (.cmp .eql (.rd (.var 0) (.var 1002) 1) (.fn 180 (.x (.var 0) (.i (.var 1) (.i (.var 2) .nil))))))], []⟩)))))
                      (.next 2 ⟨[(2, (.ar .add .i64 (.var 3002) (.lit 1)))], [(0, (.var 3000)), (1, (.var 3001))], []⟩))))))))
                    (.next 2 ⟨[(2, (.ar .add .i64 (.var 3002) (.lit 1)))], [(0, (.var 3000)), (1, (.var 3001))], []⟩))))))
                  (.next 2 ⟨[(2, (.ar .add .i64 (.var 3002) (.lit 1)))], [(0, (.var 3000)), (1, (.var 3001))], []⟩))))
                (.next 1 ⟨[(2, (.ar .add .i64 (.var 2002) (.lit 1)))], [(0, (.var 3000)), (1, (.var 3001))], []⟩)))))))
            (.next 0 ⟨[(2, (.ar .add .i64 (.var 1002) (.lit 1)))], [(0, (.var 2000)), (1, (.var 2001))], []⟩)))))
        (.ite (.var 1000)
          (.ite (.eqb (.var 1001) (.cmp .eql (.fn 181 (.x (.var 0) (.i (.var 1) (.i (.var 2) .nil)))) (.lit 0)))
            (.ite (.cmp .eql (.fn 181 (.x (.var 0) (.i (.var 1) (.i (.var 2) .nil)))) (.lit 0))
              (.ret ((.v (.one (.z (.bool (.lit true))))), [], 3))
              (.ite (.cmp .eql (.fn 181 (.x (.var 0) (.i (.var 1) (.i (.var 2) .nil)))) (.lit 4))
                (.ret ((.v (.one (.z (.bool (.cmp .eql (.fn 180 (.x (.var 0) (.i (.var 1) (.i (.var 2) .nil)))) (.lit 0)))))), [], 3))
                (.ret ((.v (.one (.z (.bool (.lit false))))), [], 3))))
            (.ret ((.v (.one (.z (.bool (.lit false))))), [], 3)))
          (.ret ((.v (.one (.z (.bool (.lit false))))), [], 3)))))))
-- end trLawSource
def trLawSource_h : List (Nat × St) := [
(0, ⟨(List.append [(.v (.one (.z (.ext [(.int .i64), (.int .i64), (.int .i64), (.int .i64), (.int .i64), (.int .i64), (.sl [(.int .i64), (.sl [(.int .i64)]), (.sl [(.int .i64), (.int .i64), (.int .i64), (.int .i64), (.int .i64), (.int .i64), (.int .i64), (.sl [(.int .i64), (.int .i64)]), (.int .i64), (.int .i64), (.sl [(.int .i64), (.int .i64), (.int .i64), (.int .i64), (.int .i64), (.int .i64)]), (.int .i64), (.int .i64), (.int .i64), (.int .i64), (.int .i64)])])] (.var 0) false)))), (.v (.one (.z (.int .i64 (.var 1))))), (.v (.one (.z (.int .i64 (.var 2))))), (.v (.one (.z .any))), (.v (.one (.z .any))), (.v (.one (.z .any))), (.v (.one (.z (.bool (.lit false))))), (.v (.one (.z (.bool (.var 1000))))), (.v (.one (.z (.int .i64 (.fn 180 (.x (.var 0) (.i (.var 1) (.i (.var 2) .nil)))))))), (.v (.one (.z (.int .i64 (.fn 181 (.x (.var 0) (.i (.var 1) (.i (.var 2) .nil)))))))), (.v (.one (.z (.bool (.var 1001))))), (.v (.one (.z (.int .i64 (.var 1002))))), (.v (.one (.z .any))), (.v (.one (.z .any))), (.v (.one (.z (.bool (.lit true))))), (.v (.one (.z (.ext [(.int .i64), (.int .i64), (.int .i64), (.int .i64), (.int .i64), (.int .i64), (.sl [(.int .i64), (.sl [(.int .i64)]), (.sl [(.int .i64), (.int .i64), (.int .i64), (.int .i64), (.int .i64), (.int .i64), (.int .i64), (.sl [(.int .i64), (.int .i64)]), (.int .i64), (.int .i64), (.sl [(.int .i64), (.int .i64), (.int .i64), (.int .i64), (.int .i64), (.int .i64)]), (.int .i64), (.int .i64), (.int .i64), (.int .i64), (.int .i64)])])] (.var 0) false)))), (.v (.one (.z (.int .i64 (.len (.var 0)))))), (.v (.one (.z (.bool (.cmp .gtr (.len (.var 0)) (.lit 12)))))), (.v (.one (.z .any))), (.v (.one (.z .any))), (.v (.one (.z (.ext [(.int .i64), (.int .i64), (.int .i64), (.int .i64), (.int .i64), (.int .i64), (.sl [(.int .i64), (.sl [(.int .i64)]), (.sl [(.int .i64), (.int .i64), (.int .i64), (.int .i64), (.int .i64), (.int .i64), (.int .i64), (.sl [(.int .i64), (.int .i64)]), (.int .i64), (.int .i64), (.sl [(.int .i64), (.int .i64), (.int .i64), (.int .i64), (.int .i64), (.int .i64)]), (.int .i64), (.int .i64), (.int .i64), (.int .i64), (.int .i64)])])] (.var 0) false)))), (.v (.one (.z (.int .i64 (.var 1))))), (.v (.one (.z (.int .i64 (.var 2))))), (.v (.one (.z .any))), (.v (.one (.z (.int .i64 (.fn 180 (.x (.var 0) (.i (.var 1) (.i (.var 2) .nil)))))))), (.v (.one (.z (.int .i64 (.fn 181 (.x (.var 0) (.i (.var 1) (.i (.var 2) .nil)))))))), (.v (.one (.z (.int .i64 (.fn 181 (.x (.var 0) (.i (.var 1) (.i (.var 2) .nil)))))))), (.v (.one (.z (.bool (.cmp .eql (.fn 181 (.x (.var 0) (.i (.var 1) (.i (.var 2) .nil)))) (.lit 1))))))] (List.replicate 114 V.any)), [], 1, []⟩),
(1, ⟨(List.append [(.v (.one (.z (.ext [(.int .i64), (.int .i64), (.int .i64), (.int .i64), (.int .i64), (.int .i64), (.sl [(.int .i64), (.sl [(.int .i64)]), (.sl [(.int .i64), (.int .i64), (.int .i64), (.int .i64), (.int .i64), (.int .i64), (.int .i64), (.sl [(.int .i64), (.int .i64)]), (.int .i64), (.int .i64), (.sl [(.int .i64), (.int .i64), (.int .i64), (.int .i64), (.int .i64), (.int .i64)]), (.int .i64), (.int .i64), (.int .i64), (.int .i64), (.int .i64)])])] (.var 0) false)))), (.v (.one (.z (.int .i64 (.var 1))))), (.v (.one (.z (.int .i64 (.var 2))))), (.v (.one (.z .any))), (.v (.one (.z .any))), (.v (.one (.z .any))), (.v (.one (.z (.bool (.lit false))))), (.v (.one (.z (.bool (.var 2000))))), (.v (.one (.z (.int .i64 (.fn 180 (.x (.var 0) (.i (.var 1) (.i (.var 2) .nil)))))))), (.v (.one (.z (.int .i64 (.fn 181 (.x (.var 0) (.i (.var 1) (.i (.var 2) .nil)))))))), (.v (.one (.z (.bool (.var 2001))))), (.v (.one (.z (.int .i64 (.var 1002))))), (.v (.one (.z (.int .i64 (.var 2002))))), (.v (.one (.z .any))), (.v (.one (.z (.bool (.lit true))))), (.v (.one (.z (.ext [(.int .i64), (.int .i64), (.int .i64), (.int .i64), (.int .i64), (.int .i64), (.sl [(.int .i64), (.sl [(.int .i64)]), (.sl [(.int .i64), (.int .i64), (.int .i64), (.int .i64), (.int .i64), (.int .i64), (.int .i64), (.sl [(.int .i64), (.int .i64)]), (.int .i64), (.int .i64), (.sl [(.int .i64), (.int .i64), (.int .i64), (.int .i64), (.int .i64), (.int .i64)]), (.int .i64), (.int .i64), (.int .i64), (.int .i64), (.int .i64)])])] (.var 0) false)))), (.v (.one (.z (.int .i64 (.len (.var 0)))))), (.v (.one (.z (.bool (.cmp .gtr (.len (.var 0)) (.lit 12)))))), (.v (.one (.z .any))), (.v (.one (.z .any))), (.v (.one (.z (.ext [(.int .i64), (.int .i64), (.int .i64), (.int .i64), (.int .i64), (.int .i64), (.sl [(.int .i64), (.sl [(.int .i64)]), (.sl [(.int .i64), (.int .i64), (.int .i64), (.int .i64), (.int .i64), (.int .i64), (.int .i64), (.sl [(.int .i64), (.int .i64)]), (.int .i64), (.int .i64), (.sl [(.int .i64), (.int .i64), (.int .i64), (.int .i64), (.int .i64), (.int .i64)]), (.int .i64), (.int .i64), (.int .i64), (.int .i64), (.int .i64)])])] (.var 0) false)))), (.v (.one (.z (.int .i64 (.var 1))))), (.v (.one (.z (.int .i64 (.var 2))))), (.v (.one (.z .any))), (.v (.one (.z (.int .i64 (.fn 180 (.x (.var 0) (.i (.var 1) (.i (.var 2) .nil)))))))), (.v (.one (.z (.int .i64 (.fn 181 (.x (.var 0) (.i (.var 1) (.i (.var 2) .nil)))))))), (.v (.one (.z (.int .i64 (.fn 181 (.x (.var 0) (.i (.var 1) (.i (.var 2) .nil)))))))), (.v (.one (.z (.bool (.cmp .eql (.fn 181 (.x (.var 0) (.i (.var 1) (.i (.var 2) .nil)))) (.lit 1))))))] (List.append (List.replicate 5 V.any) (List.append [(.v (.one (.z (.int .i64 (.var 1002))))), (.v (.one (.z (.ext [(.int .i64), (.int .i64), (.int .i64), (.int .i64), (.int .i64), (.int .i64), (.sl [(.int .i64), (.sl [(.int .i64)]), (.sl [(.int .i64), (.int .i64), (.int .i64), (.int .i64), (.int .i64), (.int .i64), (.int .i64), (.sl [(.int .i64), (.int .i64)]), (.int .i64), (.int .i64), (.sl [(.int .i64), (.int .i64), (.int .i64), (.int .i64), (.int .i64), (.int .i64)]), (.int .i64), (.int .i64), (.int .i64), (.int .i64), (.int .i64)])])] (.var 0) false)))), (.v (.one (.z (.int .i64 (.len (.var 0)))))), (.v (.one (.z (.bool (.cmp .lss (.var 1002) (.len (.var 0)))))))] (List.replicate 105 V.any)))), [], 2, []⟩),
(2, ⟨(List.append [(.v (.one (.z (.ext [(.int .i64), (.int .i64), (.int .i64), (.int .i64), (.int .i64), (.int .i64), (.sl [(.int .i64), (.sl [(.int .i64)]), (.sl [(.int .i64), (.int .i64), (.int .i64), (.int .i64), (.int .i64), (.int .i64), (.int .i64), (.sl [(.int .i64), (.int .i64)]), (.int .i64), (.int .i64), (.sl [(.int .i64), (.int .i64), (.int .i64), (.int .i64), (.int .i64), (.int .i64)]), (.int .i64), (.int .i64), (.int .i64), (.int .i64), (.int .i64)])])] (.var 0) false)))), (.v (.one (.z (.int .i64 (.var 1))))), (.v (.one (.z (.int .i64 (.var 2))))), (.v (.one (.z .any))), (.v (.one (.z .any))), (.v (.one (.z .any))), (.v (.one (.z (.bool (.lit false))))), (.v (.one (.z (.bool (.var 3000))))), (.v (.one (.z (.int .i64 (.fn 180 (.x (.var 0) (.i (.var 1) (.i (.var 2) .nil)))))))), (.v (.one (.z (.int .i64 (.fn 181 (.x (.var 0) (.i (.var 1) (.i (.var 2) .nil)))))))), (.v (.one (.z (.bool (.var 3001))))), (.v (.one (.z (.int .i64 (.var 1002))))), (.v (.one (.z (.int .i64 (.var 2002))))), (.v (.one (.z (.int .i64 (.var 3002))))), (.v (.one (.z (.bool (.lit true))))), (.v (.one (.z (.ext [(.int .i64), (.int .i64), (.int .i64), (.int .i64), (.int .i64), (.int .i64), (.sl [(.int .i64), (.sl [(.int .i64)]), (.sl [(.int .i64), (.int .i64), (.int .i64), (.int .i64), (.int .i64), (.int .i64), (.int .i64), (.sl [(.int .i64), (.int .i64)]), (.int .i64), (.int .i64), (.sl [(.int .i64), (.int .i64), (.int .i64), (.int .i64), (.int .i64), (.int .i64)]), (.int .i64), (.int .i64), (.int .i64), (.int .i64), (.int .i64)])])] (.var 0) false)))), (.v (.one (.z (.int .i64 (.len (.var 0)))))), (.v (.one (.z (.bool (.cmp .gtr (.len (.var 0)) (.lit 12)))))), (.v (.one (.z .any))), (.v (.one (.z .any))), (.v (.one (.z (.ext [(.int .i64), (.int .i64), (.int .i64), (.int .i64), (.int .i64), (.int .i64), (.sl [(.int .i64), (.sl [(.int .i64)]), (.sl [(.int .i64), (.int .i64), (.int .i64), (.int .i64), (.int .i64), (.int .i64), (.int .i64), (.sl [(.int .i64), (.int .i64)]), (.int .i64), (.int .i64), (.sl [(.int .i64), (.int .i64), (.int .i64), (.int .i64), (.int .i64), (.int .i64)]), (.int .i64), (.int .i64), (.int .i64), (.int .i64), (.int .i64)])])] (.var 0) false)))), (.v (.one (.z (.int .i64 (.var 1))))), (.v (.one (.z (.int .i64 (.var 2))))), (.v (.one (.z .any))), (.v (.one (.z (.int .i64 (.fn 180 (.x (.var 0) (.i (.var 1) (.i (.var 2) .nil)))))))), (.v (.one (.z (.int .i64 (.fn 181 (.x (.var 0) (.i (.var 1) (.i (.var 2) .nil)))))))), (.v (.one (.z (.int .i64 (.fn 181 (.x (.var 0) (.i (.var 1) (.i (.var 2) .nil)))))))), (.v (.one (.z (.bool (.cmp .eql (.fn 181 (.x (.var 0) (.i (.var 1) (.i (.var 2) .nil)))) (.lit 1))))))] (List.append (List.replicate 5 V.any) (List.append [(.v (.one (.z (.int .i64 (.var 1002))))), (.v (.one (.z (.ext [(.int .i64), (.int .i64), (.int .i64), (.int .i64), (.int .i64), (.int .i64), (.sl [(.int .i64), (.sl [(.int .i64)]), (.sl [(.int .i64), (.int .i64), (.int .i64), (.int .i64), (.int .i64), (.int .i64), (.int .i64), (.sl [(.int .i64), (.int .i64)]), (.int .i64), (.int .i64), (.sl [(.int .i64), (.int .i64), (.int .i64), (.int .i64), (.int .i64), (.int .i64)]), (.int .i64), (.int .i64), (.int .i64), (.int .i64), (.int .i64)])])] (.var 0) false)))), (.v (.one (.z (.int .i64 (.len (.var 0)))))), (.v (.one (.z (.bool (.cmp .lss (.var 1002) (.len (.var 0))))))), (.v (.one (.z .any))), (.v (.one (.z .any))), (.v (.one (.z (.int .i64 (.var 2002))))), (.v (.one (.z (.ext [(.int .i64), (.int .i64), (.int .i64), (.int .i64), (.int .i64), (.int .i64), (.sl [(.int .i64), (.sl [(.int .i64)]), (.sl [(.int .i64), (.int .i64), (.int .i64), (.int .i64), (.int .i64), (.int .i64), (.int .i64), (.sl [(.int .i64), (.int .i64)]), (.int .i64), (.int .i64), (.sl [(.int .i64), (.int .i64), (.int .i64), (.int .i64), (.int .i64), (.int .i64)]), (.int .i64), (.int .i64), (.int .i64), (.int .i64), (.int .i64)])])] (.var 0) false)))), (.v (.one (.z (.int .i64 (.var 1002))))), (.v (.one (.z (.eptr [(.int .i64), (.int .i64), (.int .i64), (.int .i64), (.int .i64), (.int .i64), (.sl [(.int .i64), (.sl [(.int .i64)]), (.sl [(.int .i64), (.int .i64), (.int .i64), (.int .i64), (.int .i64), (.int .i64), (.int .i64), (.sl [(.int .i64), (.int .i64)]), (.int .i64), (.int .i64), (.sl [(.int .i64), (.int .i64), (.int .i64), (.int .i64), (.int .i64), (.int .i64)]), (.int .i64), (.int .i64), (.int .i64), (.int .i64), (.int .i64)])])] (.var 0) (.var 1002) 0)))), (.v (.one (.z (.eptr [(.int .i64), (.int .i64), (.int .i64), (.int .i64), (.int .i64), (.int .i64), (.sl [(.int .i64), (.sl [(.int .i64)]), (.sl [(.int .i64), (.int .i64), (.int .i64), (.int .i64), (.int .i64), (.int .i64), (.int .i64), (.sl [(.int .i64), (.int .i64)]), (.int .i64), (.int .i64), (.sl [(.int .i64), (.int .i64), (.int .i64), (.int .i64), (.int .i64), (.int .i64)]), (.int .i64), (.int .i64), (.int .i64), (.int .i64), (.int .i64)])])] (.var 0) (.var 1002) 6)))), (.v (.one (.z (.ext [(.int .i64), (.sl [(.int .i64)]), (.sl [(.int .i64), (.int .i64), (.int .i64), (.int .i64), (.int .i64), (.int .i64), (.int .i64), (.sl [(.int .i64), (.int .i64)]), (.int .i64), (.int .i64), (.sl [(.int .i64), (.int .i64), (.int .i64), (.int .i64), (.int .i64), (.int .i64)]), (.int .i64), (.int .i64), (.int .i64), (.int .i64), (.int .i64)])] (.rd (.var 0) (.var 1002) 6) false)))), (.v (.one (.z (.int .i64 (.len (.rd (.var 0) (.var 1002) 6)))))), (.v (.one (.z (.bool (.cmp .lss (.var 2002) (.len (.rd (.var 0) (.var 1002) 6)))))))] (List.replicate 95 V.any)))), [], 3, []⟩)]
def trLawSource_j : List (FuncId × Nat × Nat × St) := [
]
set_option maxRecDepth 100000 in
theorem trLawSource_is : T.norm 0 (call Tryz.prog ctN8 ⟨Lt.un (Lt.of []), trLawSource_h, trLawSource_j⟩ 100 10 (symArgs 0 [nots, it, it]) [] 0) TT.ret = trLawSource := by kernel_rfl
theorem trLawSource_low : trLawSource.low 1000 = true := by kernel_rfl
end Go.Proofs.YtkjjkckcjgkhmaaGreat
/- Chapter 40: the law CheckSource. -/
namespace Go.Proofs.YtkjjkckcjgkhmaaGreat
open Go.RowKit
theorem opHas_iff {o : Rows} {id : Int} : ∀ f i, opHas o id f i = true ↔ ∃ j : Nat, i ≤ j ∧ j < i + f ∧ lg o j 1 = id
  | 0, i => ⟨fun h => absurd h (by simp [opHas]), fun ⟨j, h1, h2, _⟩ => by omega⟩
  | f + 1, i => by
    rw [opHas, Bool.or_eq_true, decide_eq_true_eq, opHas_iff f (i + 1)]
    constructor
    · rintro (h | ⟨j, h1, h2, h3⟩)
      · exact ⟨i, by omega, by omega, h⟩
      · exact ⟨j, by omega, by omega, h3⟩
    · rintro ⟨j, h1, h2, h3⟩
      by_cases e : j = i
      · subst e; exact .inl h3
      · exact .inr ⟨j, by omega, by omega, h3⟩
theorem lpN_spec {p : Rows} {c id num : Int} : ∀ (f i : Nat) (m : Int), m ≤ lpN p c id num f i m ∧ (∀ k, i ≤ k → k < i + f → partHas p c id k = true → num ≤ lpN p c id num f i m) ∧ (lpN p c id num f i m = m ∨ (lpN p c id num f i m = num ∧ ∃ k, i ≤ k ∧ k < i + f ∧ partHas p c id k = true))
  | 0, i, m => ⟨Int.le_refl _, fun k h1 h2 => by omega, .inl rfl⟩
  | f + 1, i, m => by
    rw [lpN]
    by_cases h : partHas p c id i = true
    · rw [if_pos h]
      obtain ⟨a, b, d⟩ := lpN_spec (p := p) (c := c) (id := id) (num := num) f (i + 1) (max m num)
      refine ⟨by omega, fun k h1 h2 h3 => ?_, ?_⟩
      · by_cases e : k = i
        · omega
        · exact b k (by omega) (by omega) h3
      · rcases d with d | ⟨d, k, k1, k2, k3⟩
        · rw [d]
          rcases Int.le_total m num with q | q
          · exact .inr ⟨by omega, i, by omega, by omega, h⟩
          · exact .inl (by omega)
        · exact .inr ⟨d, k, by omega, by omega, k3⟩
    · rw [if_neg h]
      obtain ⟨a, b, d⟩ := lpN_spec (p := p) (c := c) (id := id) (num := num) f (i + 1) m
      refine ⟨a, fun k h1 h2 h3 => ?_, ?_⟩
      · by_cases e : k = i
        · subst e; exact absurd h3 h
        · exact b k (by omega) (by omega) h3
      · rcases d with d | ⟨d, k, k1, k2, k3⟩
        · exact .inl d
        · exact .inr ⟨d, k, by omega, by omega, k3⟩
/-- An operation on the feature in a permanent notice. -/
structure Hit (r : Rows) (c id : Int) (k l j : Nat) : Prop where
  hk : k < r.length
  hl : l < (lr r k 6).length
  hj : j < (lr (lr r k 6) l 2).length
  perm : lg r k 2 = 1
  chart : lg (lr r k 6) l 0 = c
  op : lg (lr (lr r k 6) l 2) j 1 = id
theorem Hit.has {r : Rows} {c id : Int} {k l j : Nat} (h : Hit r c id k l j) : partHas (lr r k 6) c id l = true := by
  unfold partHas
  rw [Bool.and_eq_true, decide_eq_true_eq, opHas_iff]
  exact ⟨h.chart, j, Nat.zero_le _, by have := h.hj; omega, h.op⟩
theorem lsN_spec {r : Rows} {c id : Int} : ∀ (f i : Nat) (m : Int), i + f = r.length → m ≤ lsN r c id f i m ∧ (∀ k l j, i ≤ k → Hit r c id k l j → lg r k 1 ≤ lsN r c id f i m) ∧ (lsN r c id f i m = m ∨ ∃ k l j, Hit r c id k l j ∧ lsN r c id f i m = lg r k 1)
  | 0, i, m, hi => ⟨Int.le_refl _, fun k l j h1 h2 => by have := h2.hk; omega, .inl rfl⟩
  | f + 1, i, m, hi => by
    rw [lsN]
    by_cases h : lg r i 2 = 1
    · rw [if_pos h]
      obtain ⟨a0, b0, d0⟩ := lpN_spec (p := lr r i 6) (c := c) (id := id) (num := lg r i 1) (lr r i 6).length 0 m
      obtain ⟨a, b, d⟩ := lsN_spec (r := r) (c := c) (id := id) f (i + 1) (lpN (lr r i 6) c id (lg r i 1) (lr r i 6).length 0 m) (by omega)
      refine ⟨by omega, fun k l j h1 h2 => ?_, ?_⟩
      · by_cases e : k = i
        · subst e
          have := b0 l (Nat.zero_le _) (by have := h2.hl; omega) h2.has
          omega
        · exact b k l j (by omega) h2
      · rcases d with d | d
        · rw [d]
          rcases d0 with d0 | ⟨d0, l, l1, l2, l3⟩
          · exact .inl d0
          · unfold partHas at l3
            rw [Bool.and_eq_true, decide_eq_true_eq, opHas_iff] at l3
            obtain ⟨l3, j, _, j2, j3⟩ := l3
            exact .inr ⟨i, l, j, ⟨by omega, by omega, by omega, h, l3, j3⟩, d0⟩
        · exact .inr d
    · rw [if_neg h]
      obtain ⟨a, b, d⟩ := lsN_spec (r := r) (c := c) (id := id) f (i + 1) m (by omega)
      refine ⟨a, fun k l j h1 h2 => ?_, d⟩
      by_cases e : k = i
      · subst e; exact absurd h2.perm h
      · exact b k l j (by omega) h2
theorem N6i180 (W : World) (ds l : List D) : (envOf N6 W ds).fi 180 l = srcR l := by simp only [envOf, N6, N5, N4, N3, N2, N1, KG, KF, KE, KD, KC, KB, KA, K9, K8, K7, K6, K5, K]
theorem N6i181 (W : World) (ds l : List D) : (envOf N6 W ds).fi 181 l = srcE l := by simp only [envOf, N6, N5, N4, N3, N2, N1, KG, KF, KE, KD, KC, KB, KA, K9, K8, K7, K6, K5, K]
set_option maxHeartbeats 1000000 in
theorem gSourceLaw : Gives Tryz.prog 10 [nots, it, it] (fun _ => .bool true) := by
  refine GivesIf.all (fn_gives N6 (by kernel_rfl) (fun ρ h => ctN8_ok (Sees.of h 200)) (by kernel_rfl) trLawSource_is trLawSource_low (by decide) (fun W vals ds hr _ => ?_))
  have e3 : [D.l (rAt ds 0), .i (iAt ds 1), .i (iAt ds 2)] = [D.l (rAt ds 0), .i (iAt ds 1), .i (iAt ds 2)] := rfl
  have eR : srcR [D.l (rAt ds 0), .i (iAt ds 1), .i (iAt ds 2)] = srcR ds := rfl
  have eE : srcE [D.l (rAt ds 0), .i (iAt ds 1), .i (iAt ds 2)] = srcE ds := rfl
  simp only [trLawSource, TT.sat_ret, TT.sat_ite, TT.sat_ob, TT.sat_next, TT.sat_stuck, put_i, put_b, put_d, put_fi, put_fb, put_fd, Ob.ok, B.ev, E.ev, X.ev, AL.ev, cmp_t, cmp_f, arEv, V.plain, V2.plain, S.plain, S0.plain, V.val, V2.val, S.val, S0.val, bV, iV, List.all_cons, List.all_nil, Bool.and_true, Bool.and_self, envOf_i, envOf_b, envOf_d, List.map_cons, List.map_nil, true_and, Bool.not_eq_true', Bool.not_eq_false', Bool.not_not, Bool.and_eq_true, and_f, cell_lg, cell_lb, cell_lr, cmpP, val_i, val_b, val_d, aget, Nat.reduceBEq, beq_self_eq_true, Bool.false_eq_true, if_true, if_false, Nat.reduceLT, Nat.reduceSub, Nat.sub_self, Nat.lt_irrefl, N6i180, N6i181, eR, eE]
  clear hr e3
  refine ⟨fun _ => trivial, fun h12 => ⟨fun h => ?_, fun h => ?_⟩⟩
  · have hO : srcO ds = false := by
      unfold srcE at h
      by_cases q : srcO ds = true
      · rw [q, if_pos rfl] at h
        split at h <;> omega
      · rwa [Bool.not_eq_true] at q
    unfold srcR
    rw [hO]
    rfl
  have hO : srcO ds = true := by
    unfold srcE at h
    by_cases q : srcO ds = true
    · exact q
    · rw [if_neg q] at h; exact absurd rfl h
  have hR : srcR ds = srcN ds := by unfold srcR; rw [hO]; rfl
  have hE : srcE ds = if srcN ds = 0 then 4 else 0 := by unfold srcE; rw [hO]; rfl
  have hV : ∀ k, k < (rAt ds 0).length → noticeRow (rAt ds 0) k = true := fun k hk => by
    unfold srcO at hO
    rw [Bool.and_eq_true] at hO
    exact (nvN_iff _ _).1 hO.2 k (Nat.zero_le _) (by omega)
  obtain ⟨s1, s2, s3⟩ := lsN_spec (r := rAt ds 0) (c := iAt ds 1) (id := iAt ds 2) (rAt ds 0).length 0 0 (by omega)
  have eN : lsN (rAt ds 0) (iAt ds 1) (iAt ds 2) (rAt ds 0).length 0 0 = srcN ds := rfl
  rw [eN] at s1 s2 s3
  rw [hR] at eR
  rw [hE] at eE
  clear h eN hR hE hO
  generalize e0 : rAt ds 0 = r at *
  generalize e1 : iAt ds 1 = c at *
  generalize e2 : iAt ds 2 = d at *
  generalize eS : srcN ds = sm at *
  have pos : ∀ k l j, Hit r c d k l j → sm ≠ 0 ∧ lg r k 1 ≤ sm := fun k l j q => by
    have := s2 k l j (Nat.zero_le _) q
    have := (notice_is (hV k q.hk)).1
    omega
  have big : ∀ k, k < r.length → (lr r k 6).length ≤ 20 ∧ ∀ l, l < (lr r k 6).length → (lr (lr r k 6) l 2).length ≤ 100 := fun k hk => (notice_is (hV k hk)).2
  have lr_len : r.length ≤ 12 := by omega
  have key : ∀ x : Prop, (if sm = 0 then (4 : Int) else 0) = 0 ↔ sm ≠ 0 := fun _ => by split <;> simp_all
  -- what 'found' is worth behind the place i l j
  refine TT.sat_loop (fun v => ∃ i : Nat, v.i 2 = i ∧ i ≤ r.length ∧ v.b 0 = true ∧ (v.b 1 = true → sm ≠ 0) ∧ ∀ k l j, Hit r c d k l j → lg r k 1 = sm → k < i → v.b 1 = true) (fun v => r.length - (v.i 2).toNat)
    ⟨0, by simp [val_i, aget, E.ev], by omega, by simp [val_b, aget, B.ev], by simp [val_b, aget, B.ev], fun k l j _ _ q => absurd q (Nat.not_lt_zero _)⟩ (fun v hv => ?_)
  obtain ⟨i, i0, i1, i2, i3, i4⟩ := hv
  simp only [TT.sat_ret, TT.sat_ite, TT.sat_ob, TT.sat_next, TT.sat_stuck, put_i, put_b, put_d, put_fi, put_fb, put_fd, Ob.ok, B.ev, E.ev, X.ev, AL.ev, cmp_t, cmp_f, arEv, V.plain, V2.plain, S.plain, S0.plain, V.val, V2.val, S.val, S0.val, bV, iV, List.all_cons, List.all_nil, Bool.and_true, Bool.and_self, envOf_i, envOf_b, envOf_d, List.map_cons, List.map_nil, true_and, Bool.not_eq_true', Bool.not_eq_false', Bool.not_not, Bool.and_eq_true, and_f, cell_lg, cell_lb, cell_lr, cmpP, val_i, val_b, val_d, aget, Nat.reduceBEq, beq_self_eq_true, Bool.false_eq_true, if_true, if_false, Nat.reduceLT, Nat.reduceSub, Nat.sub_self, Nat.lt_irrefl, i0, e0, e1, e2, i2, N6i180, N6i181, eR, eE]
  refine ⟨fun hc => ?_, fun hc => ?_⟩
  · have hi : i < r.length := by omega
    obtain ⟨b1, b2⟩ := big i hi
    refine TT.sat_loop (fun u => ∃ m : Nat, u.i 2 = m ∧ m ≤ (lr r i 6).length ∧ u.b 0 = true ∧ (u.b 1 = true → sm ≠ 0) ∧ ∀ k l j, Hit r c d k l j → lg r k 1 = sm → (k < i ∨ (k = i ∧ l < m)) → u.b 1 = true) (fun u => (lr r i 6).length - (u.i 2).toNat)
      ⟨0, by simp [val_i, aget, E.ev], by omega, by simp [val_b, aget, B.ev, put_b, i2], by simpa [val_b, aget, B.ev, put_b] using i3, fun k l j q1 q2 q3 => by
        have := i4 k l j q1 q2 (by omega)
        simpa [val_b, aget, B.ev, put_b] using this⟩ (fun u hu => ?_)
    obtain ⟨m, m0, m1, m2, m3, m4⟩ := hu
    simp only [TT.sat_ret, TT.sat_ite, TT.sat_ob, TT.sat_next, TT.sat_stuck, put_i, put_b, put_d, put_fi, put_fb, put_fd, Ob.ok, B.ev, E.ev, X.ev, AL.ev, cmp_t, cmp_f, arEv, V.plain, V2.plain, S.plain, S0.plain, V.val, V2.val, S.val, S0.val, bV, iV, List.all_cons, List.all_nil, Bool.and_true, Bool.and_self, envOf_i, envOf_b, envOf_d, List.map_cons, List.map_nil, true_and, Bool.not_eq_true', Bool.not_eq_false', Bool.not_not, Bool.and_eq_true, and_f, cell_lg, cell_lb, cell_lr, cmpP, val_i, val_b, val_d, aget, Nat.reduceBEq, beq_self_eq_true, Bool.false_eq_true, if_true, if_false, Nat.reduceLT, Nat.reduceSub, Nat.sub_self, Nat.lt_irrefl, i0, m0, e0, e1, e2, m2]
    refine ⟨by omega, by omega, fun hm => ?_, fun hm => ?_⟩
    · have hm : m < (lr r i 6).length := by omega
      have b3 := b2 m hm
      refine TT.sat_loop (fun y => ∃ n : Nat, y.i 2 = n ∧ n ≤ (lr (lr r i 6) m 2).length ∧ y.b 0 = true ∧ (y.b 1 = true → sm ≠ 0) ∧ ∀ k l j, Hit r c d k l j → lg r k 1 = sm → (k < i ∨ (k = i ∧ (l < m ∨ (l = m ∧ j < n)))) → y.b 1 = true) (fun y => (lr (lr r i 6) m 2).length - (y.i 2).toNat)
        ⟨0, by simp [val_i, aget, E.ev], by omega, by simp [val_b, aget, B.ev, put_b, m2], by simpa [val_b, aget, B.ev, put_b] using m3, fun k l j q1 q2 q3 => by
          have := m4 k l j q1 q2 (by omega)
          simpa [val_b, aget, B.ev, put_b] using this⟩ (fun y hy => ?_)
      obtain ⟨n, n0, n1, n2, n3, n4⟩ := hy
      simp only [TT.sat_ret, TT.sat_ite, TT.sat_ob, TT.sat_next, TT.sat_stuck, put_i, put_b, put_d, put_fi, put_fb, put_fd, Ob.ok, B.ev, E.ev, X.ev, AL.ev, cmp_t, cmp_f, arEv, V.plain, V2.plain, S.plain, S0.plain, V.val, V2.val, S.val, S0.val, bV, iV, List.all_cons, List.all_nil, Bool.and_true, Bool.and_self, envOf_i, envOf_b, envOf_d, List.map_cons, List.map_nil, true_and, Bool.not_eq_true', Bool.not_eq_false', Bool.not_not, Bool.and_eq_true, and_f, cell_lg, cell_lb, cell_lr, cmpP, val_i, val_b, val_d, aget, Nat.reduceBEq, beq_self_eq_true, Bool.false_eq_true, if_true, if_false, Nat.reduceLT, Nat.reduceSub, Nat.sub_self, Nat.lt_irrefl, i0, m0, n0, e0, e1, e2, n2, N6i180, N6i181, eR, eE]
      have wn : n < (lr (lr r i 6) m 2).length → IntKind.i64.wrap ((n : Int) + 1) = ((n + 1 : Nat) : Int) := fun _ => by rw [wrap_in _ (by omega) (by omega)]; rfl
      have wm : IntKind.i64.wrap ((m : Int) + 1) = ((m + 1 : Nat) : Int) := by rw [wrap_in _ (by omega) (by omega)]; rfl
      -- no operation on the feature stands here
      have no : n < (lr (lr r i 6) m 2).length → (lg r i 2 = 1 → lg (lr r i 6) m 0 = c → lg (lr (lr r i 6) m 2) n 1 = d → False) → (∃ q : Nat, IntKind.i64.wrap ((n : Int) + 1) = q ∧ q ≤ (lr (lr r i 6) m 2).length ∧ (y.b 1 = true → sm ≠ 0) ∧ ∀ k l j : Nat, Hit r c d k l j → lg r k 1 = sm → (k < i ∨ (k = i ∧ (l < m ∨ (l = m ∧ j < q)))) → y.b 1 = true) ∧
          (lr (lr r i 6) m 2).length - (IntKind.i64.wrap ((n : Int) + 1)).toNat < (lr (lr r i 6) m 2).length - (n : Int).toNat := fun hn hh => by
        rw [wn hn]
        refine ⟨⟨n + 1, rfl, by omega, n3, fun k l j q1 q2 q3 => ?_⟩, by omega⟩
        by_cases e : k = i ∧ l = m ∧ j = n
        · obtain ⟨rfl, rfl, rfl⟩ := e
          exact absurd q1.op (fun q => hh q1.perm q1.chart q)
        · exact n4 k l j q1 q2 (by omega)
      refine ⟨by omega, by omega, by omega, by omega, fun hn => ⟨by omega, by omega, fun g1 => ⟨by omega, by omega, by omega, by omega, fun g2 => ⟨by omega, by omega, by omega, by omega, by omega, by omega, fun g3 => ?_, fun g3 => ?_⟩, fun g2 => ?_⟩, fun g1 => ?_⟩, fun hn => ?_⟩
      · have hn : n < (lr (lr r i 6) m 2).length := by omega
        have hit : Hit r c d i m n := ⟨hi, hm, hn, g1, g2, g3⟩
        obtain ⟨p1, p2⟩ := pos i m n hit
        simp only [if_neg p1]
        rw [wn hn]
        refine ⟨fun f1 => ⟨fun _ => ⟨fun _ => ⟨by omega, by omega, ⟨n + 1, rfl, by omega, p2, fun _ => p1, fun _ _ _ _ _ _ => trivial⟩, by omega⟩, fun q => by simp at q⟩, fun q => by cases q⟩, fun f1 => ⟨by omega, by omega, fun _ => ⟨fun _ => ⟨by omega, by omega, ⟨n + 1, rfl, by omega, p2, fun _ => p1, fun k l j q1 q2 q3 => ?_⟩, by omega⟩, fun q => by simp at q⟩, fun q => by cases q⟩⟩
        by_cases e : k = i
        · subst e; exact q2
        · have := n4 k l j q1 q2 (by omega)
          rw [f1] at this; cases this
      · exact no (by omega) (fun _ _ q => g3 q)
      · exact no (by omega) (fun _ q _ => g2 q)
      · exact no (by omega) (fun q _ _ => g1 q)
      · rw [if_neg (by decide), wm]
        exact ⟨⟨m + 1, rfl, by omega, n3, fun k l j q1 q2 q3 => n4 k l j q1 q2 (by
          have := q1.hj
          by_cases e : k = i ∧ l = m
          · obtain ⟨rfl, rfl⟩ := e; omega
          · omega)⟩, by omega⟩
    · rw [if_neg (by decide)]
      rw [wrap_in ((i : Int) + 1) (by omega) (by omega)]
      exact ⟨⟨i + 1, rfl, by omega, m3, fun k l j q1 q2 q3 => m4 k l j q1 q2 (by have := q1.hl; by_cases e : k = i; (subst e; omega); omega)⟩, by omega⟩
  · refine ⟨fun _ => ⟨fun a => ⟨fun _ => trivial, fun b => ⟨fun _ => ?_, fun e => ?_⟩⟩, fun a => ?_⟩, fun a => by cases a⟩
    · by_cases e : sm = 0
      · rw [e]; rfl
      · rw [if_neg e] at b; exact absurd rfl b
    · by_cases e' : sm = 0
      · rw [if_pos e'] at e; exact absurd rfl e
      · rw [if_neg e'] at b; exact absurd rfl b
    · exfalso
      by_cases e : sm = 0
      · rw [if_pos e] at a
        cases q : v.b 1 with
        | true => exact i3 q e
        | false => rw [q] at a; exact absurd a (by decide)
      · rw [if_neg e] at a
        have q : v.b 1 = true := by
          rcases s3 with s3 | ⟨k, l, j, h1, h2⟩
          · exact absurd s3 e
          · exact i4 k l j h1 h2.symm (by have := h1.hk; omega)
        rw [q] at a
        exact absurd a (by decide)
end Go.Proofs.YtkjjkckcjgkhmaaGreat
