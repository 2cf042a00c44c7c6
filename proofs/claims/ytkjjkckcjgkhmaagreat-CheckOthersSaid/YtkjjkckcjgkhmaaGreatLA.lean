/- LA, merged: TNi, TNk, Nl, TNl, Nm, TNo, Zx, No, Ns. -/
import Derived.Test.YtkjjkckcjgkhmaaGreatND
import Derived.Test.YtkjjkckcjgkhmaaGreatMK
set_option linter.unusedSimpArgs false
set_option linter.unusedVariables false
/- Chapter 40: trees of laws. -/
namespace Go.Proofs.YtkjjkckcjgkhmaaGreat
open Go.RowKit
def shes : Sh := .one (.sl sheetK)
def caseS : Sh := .agg [.sl sheetK, .int .i64, .int .i64, .int .i64, .sl legK, .int .i64, .int .i64, .sl [.int .i64], .int .i64, .int .i64, .sl [.int .i64, .int .i64]]
def trLawSource : TT OpR :=
(.ite (.cmp .gtr (.len (.var 0)) (.lit 12))
 (.ret ((.v (.one (.z (.bool (.lit true))))), [], 0))
 (.ite (.cmp .eql (.fn 181 (.x (.var 0) (.i (.var 1) (.i (.var 2) .nil)))) (.lit 1))
 (.ret ((.v (.one (.z (.bool (.cmp .eql (.fn 180 (.x (.var 0) (.i (.var 1) (.i (.var 2) .nil)))) (.lit 0)))))), [], 0))
 (.loop 0 1000 ⟨[(2, (.lit 0))], [(0, (.lit true)), (1, (.lit false))], []⟩
 (.ite (.cmp .lss (.var 1002) (.len (.var 0)))
 (.loop 1 2000 ⟨[(2, (.lit 0))], [(0, (.var 1000)), (1, (.var 1001))], []⟩
 (.ob (.tru (.cmp .leq (.lit 0) (.var 1002)))
 (.ob (.tru (.cmp .lss (.var 1002) (.len (.var 0))))
 (.ite (.cmp .lss (.var 2002) (.len (.rd (.var 0) (.var 1002) 6)))
 (.loop 2 3000 ⟨[(2, (.lit 0))], [(0, (.var 2000)), (1, (.var 2001))], []⟩
 (.ob (.tru (.cmp .leq (.lit 0) (.var 1002)))
 (.ob (.tru (.cmp .lss (.var 1002) (.len (.var 0))))
 (.ob (.tru (.cmp .leq (.lit 0) (.var 2002)))
 (.ob (.tru (.cmp .lss (.var 2002) (.len (.rd (.var 0) (.var 1002) 6))))
 (.ite (.cmp .lss (.var 3002) (.len (.rd (.rd (.var 0) (.var 1002) 6) (.var 2002) 2)))
 (.ob (.tru (.cmp .leq (.lit 0) (.var 1002)))
 (.ob (.tru (.cmp .lss (.var 1002) (.len (.var 0))))
 (.ite (.cmp .eql (.rd (.var 0) (.var 1002) 2) (.lit 1))
 (.ob (.tru (.cmp .leq (.lit 0) (.var 1002)))
 (.ob (.tru (.cmp .lss (.var 1002) (.len (.var 0))))
 (.ob (.tru (.cmp .leq (.lit 0) (.var 2002)))
 (.ob (.tru (.cmp .lss (.var 2002) (.len (.rd (.var 0) (.var 1002) 6))))
 (.ite (.cmp .eql (.rd (.rd (.var 0) (.var 1002) 6) (.var 2002) 0) (.var 1))
 (.ob (.tru (.cmp .leq (.lit 0) (.var 1002)))
 (.ob (.tru (.cmp .lss (.var 1002) (.len (.var 0))))
 (.ob (.tru (.cmp .leq (.lit 0) (.var 2002)))
 (.ob (.tru (.cmp .lss (.var 2002) (.len (.rd (.var 0) (.var 1002) 6))))
 (.ob (.tru (.cmp .leq (.lit 0) (.var 3002)))
 (.ob (.tru (.cmp .lss (.var 3002) (.len (.rd (.rd (.var 0) (.var 1002) 6) (.var 2002) 2))))
 (.ite (.cmp .eql (.rd (.rd (.rd (.var 0) (.var 1002) 6) (.var 2002) 2) (.var 3002) 1) (.var 2))
 (.ite (.var 3001)
 (.ite (.var 3000)
 (.ite (.cmp .eql (.fn 181 (.x (.var 0) (.i (.var 1) (.i (.var 2) .nil)))) (.lit 0))
 (.ob (.tru (.cmp .leq (.lit 0) (.var 1002)))
 (.ob (.tru (.cmp .lss (.var 1002) (.len (.var 0))))
 (.next 2 ⟨[(2, (.ar .add .i64 (.var 3002) (.lit 1)))], [(0, (.cmp .leq (.rd (.var 0) (.var 1002) 1) (.fn 180 (.x (.var 0) (.i (.var 1) (.i (.var 2) .nil)))))), (1, (.lit true))], []⟩)))
 (.next 2 ⟨[(2, (.ar .add .i64 (.var 3002) (.lit 1)))], [(0, (.lit false)), (1, (.lit true))], []⟩))
 (.next 2 ⟨[(2, (.ar .add .i64 (.var 3002) (.lit 1)))], [(0, (.lit false)), (1, (.lit true))], []⟩))
 (.ob (.tru (.cmp .leq (.lit 0) (.var 1002)))
 (.ob (.tru (.cmp .lss (.var 1002) (.len (.var 0))))
 (.ite (.var 3000)
 (.ite (.cmp .eql (.fn 181 (.x (.var 0) (.i (.var 1) (.i (.var 2) .nil)))) (.lit 0))
 (.ob (.tru (.cmp .leq (.lit 0) (.var 1002)))
 (.ob (.tru (.cmp .lss (.var 1002) (.len (.var 0))))
 (.next 2 ⟨[(2, (.ar .add .i64 (.var 3002) (.lit 1)))], [(0, (.cmp .leq (.rd (.var 0) (.var 1002) 1) (.fn 180 (.x (.var 0) (.i (.var 1) (.i (.var 2) .nil)))))), (1, (.cmp .eql (.rd (.var 0) (.var 1002) 1) (.fn 180 (.x (.var 0) (.i (.var 1) (.i (.var 2) .nil))))))], []⟩)))
 (.next 2 ⟨[(2, (.ar .add .i64 (.var 3002) (.lit 1)))], [(0, (.lit false)), (1, (.cmp .eql (.rd (.var 0) (.var 1002) 1) (.fn 180 (.x (.var 0) (.i (.var 1) (.i (.var 2) .nil))))))], []⟩))
 (.next 2 ⟨[(2, (.ar .add .i64 (.var 3002) (.lit 1)))], [(0, (.lit false)), (1, (.cmp .eql (.rd (.var 0) (.var 1002) 1) (.fn 180 (.x (.var 0) (.i (.var 1) (.i (.var 2) .nil))))))], []⟩)))))
 (.next 2 ⟨[(2, (.ar .add .i64 (.var 3002) (.lit 1)))], [(0, (.var 3000)), (1, (.var 3001))], []⟩))))))))
 (.next 2 ⟨[(2, (.ar .add .i64 (.var 3002) (.lit 1)))], [(0, (.var 3000)), (1, (.var 3001))], []⟩))))))
 (.next 2 ⟨[(2, (.ar .add .i64 (.var 3002) (.lit 1)))], [(0, (.var 3000)), (1, (.var 3001))], []⟩))))
 (.next 1 ⟨[(2, (.ar .add .i64 (.var 2002) (.lit 1)))], [(0, (.var 3000)), (1, (.var 3001))], []⟩)))))))
 (.next 0 ⟨[(2, (.ar .add .i64 (.var 1002) (.lit 1)))], [(0, (.var 2000)), (1, (.var 2001))], []⟩)))))
 (.ite (.var 1000)
 (.ite (.eqb (.var 1001) (.cmp .eql (.fn 181 (.x (.var 0) (.i (.var 1) (.i (.var 2) .nil)))) (.lit 0)))
 (.ite (.cmp .eql (.fn 181 (.x (.var 0) (.i (.var 1) (.i (.var 2) .nil)))) (.lit 0))
 (.ret ((.v (.one (.z (.bool (.lit true))))), [], 3))
 (.ite (.cmp .eql (.fn 181 (.x (.var 0) (.i (.var 1) (.i (.var 2) .nil)))) (.lit 4))
 (.ret ((.v (.one (.z (.bool (.cmp .eql (.fn 180 (.x (.var 0) (.i (.var 1) (.i (.var 2) .nil)))) (.lit 0)))))), [], 3))
 (.ret ((.v (.one (.z (.bool (.lit false))))), [], 3))))
 (.ret ((.v (.one (.z (.bool (.lit false))))), [], 3)))
 (.ret ((.v (.one (.z (.bool (.lit false))))), [], 3)))))))
def trLawSource_h : List (Nat × St) := [
(0, ⟨(List.append [(.v (.one (.z (.ext [(.int .i64), (.int .i64), (.int .i64), (.int .i64), (.int .i64), (.int .i64), (.sl [(.int .i64), (.sl [(.int .i64)]), (.sl [(.int .i64), (.int .i64), (.int .i64), (.int .i64), (.int .i64), (.int .i64), (.int .i64), (.sl [(.int .i64), (.int .i64)]), (.int .i64), (.int .i64), (.sl [(.int .i64), (.int .i64), (.int .i64), (.int .i64), (.int .i64), (.int .i64)]), (.int .i64), (.int .i64), (.int .i64), (.int .i64), (.int .i64)])])] (.var 0) false)))), (.v (.one (.z (.int .i64 (.var 1))))), (.v (.one (.z (.int .i64 (.var 2))))), (.v (.one (.z .any))), (.v (.one (.z .any))), (.v (.one (.z .any))), (.v (.one (.z (.bool (.lit false))))), (.v (.one (.z (.bool (.var 1000))))), (.v (.one (.z (.int .i64 (.fn 180 (.x (.var 0) (.i (.var 1) (.i (.var 2) .nil)))))))), (.v (.one (.z (.int .i64 (.fn 181 (.x (.var 0) (.i (.var 1) (.i (.var 2) .nil)))))))), (.v (.one (.z (.bool (.var 1001))))), (.v (.one (.z (.int .i64 (.var 1002))))), (.v (.one (.z .any))), (.v (.one (.z .any))), (.v (.one (.z (.bool (.lit true))))), (.v (.one (.z (.ext [(.int .i64), (.int .i64), (.int .i64), (.int .i64), (.int .i64), (.int .i64), (.sl [(.int .i64), (.sl [(.int .i64)]), (.sl [(.int .i64), (.int .i64), (.int .i64), (.int .i64), (.int .i64), (.int .i64), (.int .i64), (.sl [(.int .i64), (.int .i64)]), (.int .i64), (.int .i64), (.sl [(.int .i64), (.int .i64), (.int .i64), (.int .i64), (.int .i64), (.int .i64)]), (.int .i64), (.int .i64), (.int .i64), (.int .i64), (.int .i64)])])] (.var 0) false)))), (.v (.one (.z (.int .i64 (.len (.var 0)))))), (.v (.one (.z (.bool (.cmp .gtr (.len (.var 0)) (.lit 12)))))), (.v (.one (.z .any))), (.v (.one (.z .any))), (.v (.one (.z (.ext [(.int .i64), (.int .i64), (.int .i64), (.int .i64), (.int .i64), (.int .i64), (.sl [(.int .i64), (.sl [(.int .i64)]), (.sl [(.int .i64), (.int .i64), (.int .i64), (.int .i64), (.int .i64), (.int .i64), (.int .i64), (.sl [(.int .i64), (.int .i64)]), (.int .i64), (.int .i64), (.sl [(.int .i64), (.int .i64), (.int .i64), (.int .i64), (.int .i64), (.int .i64)]), (.int .i64), (.int .i64), (.int .i64), (.int .i64), (.int .i64)])])] (.var 0) false)))), (.v (.one (.z (.int .i64 (.var 1))))), (.v (.one (.z (.int .i64 (.var 2))))), (.v (.one (.z .any))), (.v (.one (.z (.int .i64 (.fn 180 (.x (.var 0) (.i (.var 1) (.i (.var 2) .nil)))))))), (.v (.one (.z (.int .i64 (.fn 181 (.x (.var 0) (.i (.var 1) (.i (.var 2) .nil)))))))), (.v (.one (.z (.int .i64 (.fn 181 (.x (.var 0) (.i (.var 1) (.i (.var 2) .nil)))))))), (.v (.one (.z (.bool (.cmp .eql (.fn 181 (.x (.var 0) (.i (.var 1) (.i (.var 2) .nil)))) (.lit 1))))))] (List.replicate 114 V.any)), [], 1, []⟩),
(1, ⟨(List.append [(.v (.one (.z (.ext [(.int .i64), (.int .i64), (.int .i64), (.int .i64), (.int .i64), (.int .i64), (.sl [(.int .i64), (.sl [(.int .i64)]), (.sl [(.int .i64), (.int .i64), (.int .i64), (.int .i64), (.int .i64), (.int .i64), (.int .i64), (.sl [(.int .i64), (.int .i64)]), (.int .i64), (.int .i64), (.sl [(.int .i64), (.int .i64), (.int .i64), (.int .i64), (.int .i64), (.int .i64)]), (.int .i64), (.int .i64), (.int .i64), (.int .i64), (.int .i64)])])] (.var 0) false)))), (.v (.one (.z (.int .i64 (.var 1))))), (.v (.one (.z (.int .i64 (.var 2))))), (.v (.one (.z .any))), (.v (.one (.z .any))), (.v (.one (.z .any))), (.v (.one (.z (.bool (.lit false))))), (.v (.one (.z (.bool (.var 2000))))), (.v (.one (.z (.int .i64 (.fn 180 (.x (.var 0) (.i (.var 1) (.i (.var 2) .nil)))))))), (.v (.one (.z (.int .i64 (.fn 181 (.x (.var 0) (.i (.var 1) (.i (.var 2) .nil)))))))), (.v (.one (.z (.bool (.var 2001))))), (.v (.one (.z (.int .i64 (.var 1002))))), (.v (.one (.z (.int .i64 (.var 2002))))), (.v (.one (.z .any))), (.v (.one (.z (.bool (.lit true))))), (.v (.one (.z (.ext [(.int .i64), (.int .i64), (.int .i64), (.int .i64), (.int .i64), (.int .i64), (.sl [(.int .i64), (.sl [(.int .i64)]), (.sl [(.int .i64), (.int .i64), (.int .i64), (.int .i64), (.int .i64), (.int .i64), (.int .i64), (.sl [(.int .i64), (.int .i64)]), (.int .i64), (.int .i64), (.sl [(.int .i64), (.int .i64), (.int .i64), (.int .i64), (.int .i64), (.int .i64)]), (.int .i64), (.int .i64), (.int .i64), (.int .i64), (.int .i64)])])] (.var 0) false)))), (.v (.one (.z (.int .i64 (.len (.var 0)))))), (.v (.one (.z (.bool (.cmp .gtr (.len (.var 0)) (.lit 12)))))), (.v (.one (.z .any))), (.v (.one (.z .any))), (.v (.one (.z (.ext [(.int .i64), (.int .i64), (.int .i64), (.int .i64), (.int .i64), (.int .i64), (.sl [(.int .i64), (.sl [(.int .i64)]), (.sl [(.int .i64), (.int .i64), (.int .i64), (.int .i64), (.int .i64), (.int .i64), (.int .i64), (.sl [(.int .i64), (.int .i64)]), (.int .i64), (.int .i64), (.sl [(.int .i64), (.int .i64), (.int .i64), (.int .i64), (.int .i64), (.int .i64)]), (.int .i64), (.int .i64), (.int .i64), (.int .i64), (.int .i64)])])] (.var 0) false)))), (.v (.one (.z (.int .i64 (.var 1))))), (.v (.one (.z (.int .i64 (.var 2))))), (.v (.one (.z .any))), (.v (.one (.z (.int .i64 (.fn 180 (.x (.var 0) (.i (.var 1) (.i (.var 2) .nil)))))))), (.v (.one (.z (.int .i64 (.fn 181 (.x (.var 0) (.i (.var 1) (.i (.var 2) .nil)))))))), (.v (.one (.z (.int .i64 (.fn 181 (.x (.var 0) (.i (.var 1) (.i (.var 2) .nil)))))))), (.v (.one (.z (.bool (.cmp .eql (.fn 181 (.x (.var 0) (.i (.var 1) (.i (.var 2) .nil)))) (.lit 1))))))] (List.append (List.replicate 5 V.any) (List.append [(.v (.one (.z (.int .i64 (.var 1002))))), (.v (.one (.z (.ext [(.int .i64), (.int .i64), (.int .i64), (.int .i64), (.int .i64), (.int .i64), (.sl [(.int .i64), (.sl [(.int .i64)]), (.sl [(.int .i64), (.int .i64), (.int .i64), (.int .i64), (.int .i64), (.int .i64), (.int .i64), (.sl [(.int .i64), (.int .i64)]), (.int .i64), (.int .i64), (.sl [(.int .i64), (.int .i64), (.int .i64), (.int .i64), (.int .i64), (.int .i64)]), (.int .i64), (.int .i64), (.int .i64), (.int .i64), (.int .i64)])])] (.var 0) false)))), (.v (.one (.z (.int .i64 (.len (.var 0)))))), (.v (.one (.z (.bool (.cmp .lss (.var 1002) (.len (.var 0)))))))] (List.replicate 105 V.any)))), [], 2, []⟩),
(2, ⟨(List.append [(.v (.one (.z (.ext [(.int .i64), (.int .i64), (.int .i64), (.int .i64), (.int .i64), (.int .i64), (.sl [(.int .i64), (.sl [(.int .i64)]), (.sl [(.int .i64), (.int .i64), (.int .i64), (.int .i64), (.int .i64), (.int .i64), (.int .i64), (.sl [(.int .i64), (.int .i64)]), (.int .i64), (.int .i64), (.sl [(.int .i64), (.int .i64), (.int .i64), (.int .i64), (.int .i64), (.int .i64)]), (.int .i64), (.int .i64), (.int .i64), (.int .i64), (.int .i64)])])] (.var 0) false)))), (.v (.one (.z (.int .i64 (.var 1))))), (.v (.one (.z (.int .i64 (.var 2))))), (.v (.one (.z .any))), (.v (.one (.z .any))), (.v (.one (.z .any))), (.v (.one (.z (.bool (.lit false))))), (.v (.one (.z (.bool (.var 3000))))), (.v (.one (.z (.int .i64 (.fn 180 (.x (.var 0) (.i (.var 1) (.i (.var 2) .nil)))))))), (.v (.one (.z (.int .i64 (.fn 181 (.x (.var 0) (.i (.var 1) (.i (.var 2) .nil)))))))), (.v (.one (.z (.bool (.var 3001))))), (.v (.one (.z (.int .i64 (.var 1002))))), (.v (.one (.z (.int .i64 (.var 2002))))), (.v (.one (.z (.int .i64 (.var 3002))))), (.v (.one (.z (.bool (.lit true))))), (.v (.one (.z (.ext [(.int .i64), (.int .i64), (.int .i64), (.int .i64), (.int .i64), (.int .i64), (.sl [(.int .i64), (.sl [(.int .i64)]), (.sl [(.int .i64), (.int .i64), (.int .i64), (.int .i64), (.int .i64), (.int .i64), (.int .i64), (.sl [(.int .i64), (.int .i64)]), (.int .i64), (.int .i64), (.sl [(.int .i64), (.int .i64), (.int .i64), (.int .i64), (.int .i64), (.int .i64)]), (.int .i64), (.int .i64), (.int .i64), (.int .i64), (.int .i64)])])] (.var 0) false)))), (.v (.one (.z (.int .i64 (.len (.var 0)))))), (.v (.one (.z (.bool (.cmp .gtr (.len (.var 0)) (.lit 12)))))), (.v (.one (.z .any))), (.v (.one (.z .any))), (.v (.one (.z (.ext [(.int .i64), (.int .i64), (.int .i64), (.int .i64), (.int .i64), (.int .i64), (.sl [(.int .i64), (.sl [(.int .i64)]), (.sl [(.int .i64), (.int .i64), (.int .i64), (.int .i64), (.int .i64), (.int .i64), (.int .i64), (.sl [(.int .i64), (.int .i64)]), (.int .i64), (.int .i64), (.sl [(.int .i64), (.int .i64), (.int .i64), (.int .i64), (.int .i64), (.int .i64)]), (.int .i64), (.int .i64), (.int .i64), (.int .i64), (.int .i64)])])] (.var 0) false)))), (.v (.one (.z (.int .i64 (.var 1))))), (.v (.one (.z (.int .i64 (.var 2))))), (.v (.one (.z .any))), (.v (.one (.z (.int .i64 (.fn 180 (.x (.var 0) (.i (.var 1) (.i (.var 2) .nil)))))))), (.v (.one (.z (.int .i64 (.fn 181 (.x (.var 0) (.i (.var 1) (.i (.var 2) .nil)))))))), (.v (.one (.z (.int .i64 (.fn 181 (.x (.var 0) (.i (.var 1) (.i (.var 2) .nil)))))))), (.v (.one (.z (.bool (.cmp .eql (.fn 181 (.x (.var 0) (.i (.var 1) (.i (.var 2) .nil)))) (.lit 1))))))] (List.append (List.replicate 5 V.any) (List.append [(.v (.one (.z (.int .i64 (.var 1002))))), (.v (.one (.z (.ext [(.int .i64), (.int .i64), (.int .i64), (.int .i64), (.int .i64), (.int .i64), (.sl [(.int .i64), (.sl [(.int .i64)]), (.sl [(.int .i64), (.int .i64), (.int .i64), (.int .i64), (.int .i64), (.int .i64), (.int .i64), (.sl [(.int .i64), (.int .i64)]), (.int .i64), (.int .i64), (.sl [(.int .i64), (.int .i64), (.int .i64), (.int .i64), (.int .i64), (.int .i64)]), (.int .i64), (.int .i64), (.int .i64), (.int .i64), (.int .i64)])])] (.var 0) false)))), (.v (.one (.z (.int .i64 (.len (.var 0)))))), (.v (.one (.z (.bool (.cmp .lss (.var 1002) (.len (.var 0))))))), (.v (.one (.z .any))), (.v (.one (.z .any))), (.v (.one (.z (.int .i64 (.var 2002))))), (.v (.one (.z (.ext [(.int .i64), (.int .i64), (.int .i64), (.int .i64), (.int .i64), (.int .i64), (.sl [(.int .i64), (.sl [(.int .i64)]), (.sl [(.int .i64), (.int .i64), (.int .i64), (.int .i64), (.int .i64), (.int .i64), (.int .i64), (.sl [(.int .i64), (.int .i64)]), (.int .i64), (.int .i64), (.sl [(.int .i64), (.int .i64), (.int .i64), (.int .i64), (.int .i64), (.int .i64)]), (.int .i64), (.int .i64), (.int .i64), (.int .i64), (.int .i64)])])] (.var 0) false)))), (.v (.one (.z (.int .i64 (.var 1002))))), (.v (.one (.z (.eptr [(.int .i64), (.int .i64), (.int .i64), (.int .i64), (.int .i64), (.int .i64), (.sl [(.int .i64), (.sl [(.int .i64)]), (.sl [(.int .i64), (.int .i64), (.int .i64), (.int .i64), (.int .i64), (.int .i64), (.int .i64), (.sl [(.int .i64), (.int .i64)]), (.int .i64), (.int .i64), (.sl [(.int .i64), (.int .i64), (.int .i64), (.int .i64), (.int .i64), (.int .i64)]), (.int .i64), (.int .i64), (.int .i64), (.int .i64), (.int .i64)])])] (.var 0) (.var 1002) 0)))), (.v (.one (.z (.eptr [(.int .i64), (.int .i64), (.int .i64), (.int .i64), (.int .i64), (.int .i64), (.sl [(.int .i64), (.sl [(.int .i64)]), (.sl [(.int .i64), (.int .i64), (.int .i64), (.int .i64), (.int .i64), (.int .i64), (.int .i64), (.sl [(.int .i64), (.int .i64)]), (.int .i64), (.int .i64), (.sl [(.int .i64), (.int .i64), (.int .i64), (.int .i64), (.int .i64), (.int .i64)]), (.int .i64), (.int .i64), (.int .i64), (.int .i64), (.int .i64)])])] (.var 0) (.var 1002) 6)))), (.v (.one (.z (.ext [(.int .i64), (.sl [(.int .i64)]), (.sl [(.int .i64), (.int .i64), (.int .i64), (.int .i64), (.int .i64), (.int .i64), (.int .i64), (.sl [(.int .i64), (.int .i64)]), (.int .i64), (.int .i64), (.sl [(.int .i64), (.int .i64), (.int .i64), (.int .i64), (.int .i64), (.int .i64)]), (.int .i64), (.int .i64), (.int .i64), (.int .i64), (.int .i64)])] (.rd (.var 0) (.var 1002) 6) false)))), (.v (.one (.z (.int .i64 (.len (.rd (.var 0) (.var 1002) 6)))))), (.v (.one (.z (.bool (.cmp .lss (.var 2002) (.len (.rd (.var 0) (.var 1002) 6)))))))] (List.replicate 95 V.any)))), [], 3, []⟩)]
def trLawSource_j : List (FuncId × Nat × Nat × St) := [
]
set_option maxRecDepth 100000 in
theorem trLawSource_is : T.norm 0 (call Tryz.prog ctN8 ⟨Lt.un (Lt.of []), trLawSource_h, trLawSource_j⟩ 100 10 (symArgs 0 [nots, it, it]) [] 0) TT.ret = trLawSource := by kernel_rfl
theorem trLawSource_low : trLawSource.low 1000 = true := by kernel_rfl
end Go.Proofs.YtkjjkckcjgkhmaaGreat
/- Chapter 40: trees of Best and of Again. -/
namespace Go.Proofs.YtkjjkckcjgkhmaaGreat
open Go.RowKit
def trBest : TT OpR :=
(.loop 0 5000 ⟨[(0, (.lit 0)), (1, (.lit 0))], [], []⟩
 (.ite (.cmp .lss (.var 5001) (.len (.var 0)))
 (.ob (.tru (.cmp .leq (.lit 0) (.var 5001)))
 (.ob (.tru (.cmp .lss (.var 5001) (.len (.var 0))))
 (.ite (.not (.fn 151 (.i (.rd (.var 0) (.var 5001) 0) (.i (.rd (.var 0) (.var 5001) 1) (.i (.rd (.var 0) (.var 5001) 2) (.i (.rd (.var 0) (.var 5001) 3) (.i (.rd (.var 0) (.var 5001) 4) (.i (.rd (.var 0) (.var 5001) 5) (.i (.rd (.var 0) (.var 5001) 6) (.i (.rd (.var 0) (.var 5001) 7) (.i (.rd (.var 0) (.var 5001) 8) (.i (.rd (.var 0) (.var 5001) 9) (.i (.rd (.var 0) (.var 5001) 10) (.x (.rd (.var 0) (.var 5001) 11) (.x (.rd (.var 0) (.var 5001) 12) .nil)))))))))))))))
 (.ret ((.tup [(.one (.z (.int .i64 (.lit 0)))), (.one (.z (.int .i64 (.lit 0)))), (.one (.z (.int .i64 (.lit 1))))]), [], 6))
 (.ite (.cmp .leq (.rd (.var 0) (.var 5001) 0) (.var 5000))
 (.ret ((.tup [(.one (.z (.int .i64 (.lit 0)))), (.one (.z (.int .i64 (.lit 0)))), (.one (.z (.int .i64 (.lit 1))))]), [], 6))
 (.next 0 ⟨[(0, (.rd (.var 0) (.var 5001) 0)), (1, (.ar .add .i64 (.var 5001) (.lit 1)))], [], []⟩)))))
 (.ite (.not (.cmp .leq (.len (.var 0)) (.lit 20)))
 (.ret ((.tup [(.one (.z (.int .i64 (.lit 0)))), (.one (.z (.int .i64 (.lit 0)))), (.one (.z (.int .i64 (.lit 1))))]), [], 6))
 (.ite (.fn 20 (.i (.var 1) (.i (.var 2) (.i (.var 3) (.x (.var 4) .nil)))))
 (.ite (.cmp .geq (.var 5) (.lit 0))
 (.ite (.cmp .lss (.var 5) (.len (.var 4)))
 (.ite (.fn 144 (.i (.var 6) (.i (.var 7) (.x (.var 8) .nil))))
 (.ite (.not (.fn 150 (.i (.var 9) (.i (.var 10) (.x (.var 11) .nil)))))
 (.ret ((.tup [(.one (.z (.int .i64 (.lit 0)))), (.one (.z (.int .i64 (.lit 0)))), (.one (.z (.int .i64 (.lit 1))))]), [], 7))
 (.loop 1 16000 ⟨[(0, (.lit 0)), (1, (.lit 0)), (2, (.lit 0)), (3, (.lit 0)), (4, (.lit 0)), (5, (.lit 0)), (6, (.lit 0)), (7, (.lit 0)), (8, (.lit 0)), (9, (.lit 0)), (10, (.lit 0)), (11, (.lit 0)), (14, (.lit 0)), (15, (.lit 4))], [], [(12, .nil), (13, .nil)]⟩
 (.ite (.cmp .lss (.var 16000) (.len (.var 0)))
 (.ob (.tru (.cmp .leq (.lit 0) (.var 16000)))
 (.ob (.tru (.cmp .lss (.var 16000) (.len (.var 0))))
 (.ite (.cmp .eql (.fn 191 (.i (.rd (.var 0) (.var 16000) 0) (.i (.rd (.var 0) (.var 16000) 1) (.i (.rd (.var 0) (.var 16000) 2) (.i (.rd (.var 0) (.var 16000) 3) (.i (.rd (.var 0) (.var 16000) 4) (.i (.rd (.var 0) (.var 16000) 5) (.i (.rd (.var 0) (.var 16000) 6) (.i (.rd (.var 0) (.var 16000) 7) (.i (.rd (.var 0) (.var 16000) 8) (.i (.rd (.var 0) (.var 16000) 9) (.i (.rd (.var 0) (.var 16000) 10) (.x (.rd (.var 0) (.var 16000) 11) (.x (.rd (.var 0) (.var 16000) 12) (.i (.var 1) (.i (.var 2) (.i (.var 3) (.x (.var 4) (.i (.var 5) (.i (.var 6) (.i (.var 7) (.x (.var 8) (.i (.var 9) (.i (.var 10) (.x (.var 11) .nil))))))))))))))))))))))))) (.lit 0))
 (.ite (.cmp .gtr (.rd (.var 0) (.var 16000) 1) (.var 16002))
 (.next 1 ⟨[(0, (.ar .add .i64 (.var 16000) (.lit 1))), (1, (.rd (.var 0) (.var 16000) 0)), (2, (.rd (.var 0) (.var 16000) 1)), (3, (.rd (.var 0) (.var 16000) 2)), (4, (.rd (.var 0) (.var 16000) 3)), (5, (.rd (.var 0) (.var 16000) 4)), (6, (.rd (.var 0) (.var 16000) 5)), (7, (.rd (.var 0) (.var 16000) 6)), (8, (.rd (.var 0) (.var 16000) 7)), (9, (.rd (.var 0) (.var 16000) 8)), (10, (.rd (.var 0) (.var 16000) 9)), (11, (.rd (.var 0) (.var 16000) 10)), (14, (.fn 190 (.i (.rd (.var 0) (.var 16000) 0) (.i (.rd (.var 0) (.var 16000) 1) (.i (.rd (.var 0) (.var 16000) 2) (.i (.rd (.var 0) (.var 16000) 3) (.i (.rd (.var 0) (.var 16000) 4) (.i (.rd (.var 0) (.var 16000) 5) (.i (.rd (.var 0) (.var 16000) 6) (.i (.rd (.var 0) (.var 16000) 7) (.i (.rd (.var 0) (.var 16000) 8) (.i (.rd (.var 0) (.var 16000) 9) (.i (.rd (.var 0) (.var 16000) 10) (.x (.rd (.var 0) (.var 16000) 11) (.x (.rd (.var 0) (.var 16000) 12) (.i (.var 1) (.i (.var 2) (.i (.var 3) (.x (.var 4) (.i (.var 5) (.i (.var 6) (.i (.var 7) (.x (.var 8) (.i (.var 9) (.i (.var 10) (.x (.var 11) .nil)))))))))))))))))))))))))), (15, (.fn 191 (.i (.rd (.var 0) (.var 16000) 0) (.i (.rd (.var 0) (.var 16000) 1) (.i (.rd (.var 0) (.var 16000) 2) (.i (.rd (.var 0) (.var 16000) 3) (.i (.rd (.var 0) (.var 16000) 4) (.i (.rd (.var 0) (.var 16000) 5) (.i (.rd (.var 0) (.var 16000) 6) (.i (.rd (.var 0) (.var 16000) 7) (.i (.rd (.var 0) (.var 16000) 8) (.i (.rd (.var 0) (.var 16000) 9) (.i (.rd (.var 0) (.var 16000) 10) (.x (.rd (.var 0) (.var 16000) 11) (.x (.rd (.var 0) (.var 16000) 12) (.i (.var 1) (.i (.var 2) (.i (.var 3) (.x (.var 4) (.i (.var 5) (.i (.var 6) (.i (.var 7) (.x (.var 8) (.i (.var 9) (.i (.var 10) (.x (.var 11) .nil))))))))))))))))))))))))))], [], [(12, (.rd (.var 0) (.var 16000) 11)), (13, (.rd (.var 0) (.var 16000) 12))]⟩)
 (.next 1 ⟨[(0, (.ar .add .i64 (.var 16000) (.lit 1))), (1, (.var 16001)), (2, (.var 16002)), (3, (.var 16003)), (4, (.var 16004)), (5, (.var 16005)), (6, (.var 16006)), (7, (.var 16007)), (8, (.var 16008)), (9, (.var 16009)), (10, (.var 16010)), (11, (.var 16011)), (14, (.var 16014)), (15, (.var 16015))], [], [(12, (.var 16012)), (13, (.var 16013))]⟩))
 (.ite (.cmp .eql (.fn 191 (.i (.rd (.var 0) (.var 16000) 0) (.i (.rd (.var 0) (.var 16000) 1) (.i (.rd (.var 0) (.var 16000) 2) (.i (.rd (.var 0) (.var 16000) 3) (.i (.rd (.var 0) (.var 16000) 4) (.i (.rd (.var 0) (.var 16000) 5) (.i (.rd (.var 0) (.var 16000) 6) (.i (.rd (.var 0) (.var 16000) 7) (.i (.rd (.var 0) (.var 16000) 8) (.i (.rd (.var 0) (.var 16000) 9) (.i (.rd (.var 0) (.var 16000) 10) (.x (.rd (.var 0) (.var 16000) 11) (.x (.rd (.var 0) (.var 16000) 12) (.i (.var 1) (.i (.var 2) (.i (.var 3) (.x (.var 4) (.i (.var 5) (.i (.var 6) (.i (.var 7) (.x (.var 8) (.i (.var 9) (.i (.var 10) (.x (.var 11) .nil))))))))))))))))))))))))) (.lit 20))
 (.ite (.cmp .gtr (.rd (.var 0) (.var 16000) 1) (.var 16002))
 (.next 1 ⟨[(0, (.ar .add .i64 (.var 16000) (.lit 1))), (1, (.rd (.var 0) (.var 16000) 0)), (2, (.rd (.var 0) (.var 16000) 1)), (3, (.rd (.var 0) (.var 16000) 2)), (4, (.rd (.var 0) (.var 16000) 3)), (5, (.rd (.var 0) (.var 16000) 4)), (6, (.rd (.var 0) (.var 16000) 5)), (7, (.rd (.var 0) (.var 16000) 6)), (8, (.rd (.var 0) (.var 16000) 7)), (9, (.rd (.var 0) (.var 16000) 8)), (10, (.rd (.var 0) (.var 16000) 9)), (11, (.rd (.var 0) (.var 16000) 10)), (14, (.fn 190 (.i (.rd (.var 0) (.var 16000) 0) (.i (.rd (.var 0) (.var 16000) 1) (.i (.rd (.var 0) (.var 16000) 2) (.i (.rd (.var 0) (.var 16000) 3) (.i (.rd (.var 0) (.var 16000) 4) (.i (.rd (.var 0) (.var 16000) 5) (.i (.rd (.var 0) (.var 16000) 6) (.i (.rd (.var 0) (.var 16000) 7) (.i (.rd (.var 0) (.var 16000) 8) (.i (.rd (.var 0) (.var 16000) 9) (.i (.rd (.var 0) (.var 16000) 10) (.x (.rd (.var 0) (.var 16000) 11) (.x (.rd (.var 0) (.var 16000) 12) (.i (.var 1) (.i (.var 2) (.i (.var 3) (.x (.var 4) (.i (.var 5) (.i (.var 6) (.i (.var 7) (.x (.var 8) (.i (.var 9) (.i (.var 10) (.x (.var 11) .nil)))))))))))))))))))))))))), (15, (.fn 191 (.i (.rd (.var 0) (.var 16000) 0) (.i (.rd (.var 0) (.var 16000) 1) (.i (.rd (.var 0) (.var 16000) 2) (.i (.rd (.var 0) (.var 16000) 3) (.i (.rd (.var 0) (.var 16000) 4) (.i (.rd (.var 0) (.var 16000) 5) (.i (.rd (.var 0) (.var 16000) 6) (.i (.rd (.var 0) (.var 16000) 7) (.i (.rd (.var 0) (.var 16000) 8) (.i (.rd (.var 0) (.var 16000) 9) (.i (.rd (.var 0) (.var 16000) 10) (.x (.rd (.var 0) (.var 16000) 11) (.x (.rd (.var 0) (.var 16000) 12) (.i (.var 1) (.i (.var 2) (.i (.var 3) (.x (.var 4) (.i (.var 5) (.i (.var 6) (.i (.var 7) (.x (.var 8) (.i (.var 9) (.i (.var 10) (.x (.var 11) .nil))))))))))))))))))))))))))], [], [(12, (.rd (.var 0) (.var 16000) 11)), (13, (.rd (.var 0) (.var 16000) 12))]⟩)
 (.next 1 ⟨[(0, (.ar .add .i64 (.var 16000) (.lit 1))), (1, (.var 16001)), (2, (.var 16002)), (3, (.var 16003)), (4, (.var 16004)), (5, (.var 16005)), (6, (.var 16006)), (7, (.var 16007)), (8, (.var 16008)), (9, (.var 16009)), (10, (.var 16010)), (11, (.var 16011)), (14, (.var 16014)), (15, (.var 16015))], [], [(12, (.var 16012)), (13, (.var 16013))]⟩))
 (.next 1 ⟨[(0, (.ar .add .i64 (.var 16000) (.lit 1))), (1, (.var 16001)), (2, (.var 16002)), (3, (.var 16003)), (4, (.var 16004)), (5, (.var 16005)), (6, (.var 16006)), (7, (.var 16007)), (8, (.var 16008)), (9, (.var 16009)), (10, (.var 16010)), (11, (.var 16011)), (14, (.var 16014)), (15, (.var 16015))], [], [(12, (.var 16012)), (13, (.var 16013))]⟩)))))
 (.ret ((.tup [(.one (.z (.int .i64 (.var 16001)))), (.one (.z (.int .i64 (.var 16014)))), (.one (.z (.int .i64 (.var 16015))))]), [], 19)))))
 (.ret ((.tup [(.one (.z (.int .i64 (.lit 0)))), (.one (.z (.int .i64 (.lit 0)))), (.one (.z (.int .i64 (.lit 1))))]), [], 7)))
 (.ret ((.tup [(.one (.z (.int .i64 (.lit 0)))), (.one (.z (.int .i64 (.lit 0)))), (.one (.z (.int .i64 (.lit 1))))]), [], 7)))
 (.ret ((.tup [(.one (.z (.int .i64 (.lit 0)))), (.one (.z (.int .i64 (.lit 0)))), (.one (.z (.int .i64 (.lit 1))))]), [], 7)))
 (.ret ((.tup [(.one (.z (.int .i64 (.lit 0)))), (.one (.z (.int .i64 (.lit 0)))), (.one (.z (.int .i64 (.lit 1))))]), [], 7))))))
set_option maxRecDepth 100000 in
theorem trBest_is : T.norm 0 (call Tryz.prog ctN8 (Lt.of []) 1000 23 (symArgs 0 [shes, psg, it, shp, tid]) [] 0) TT.ret = trBest := by kernel_rfl
theorem trBest_low : trBest.low 1000 = true := by kernel_rfl
end Go.Proofs.YtkjjkckcjgkhmaaGreat
/- Chapter 40: what the finest sheet says of a leg. -/
namespace Go.Proofs.YtkjjkckcjgkhmaaGreat
open Go.RowKit
def rowSh (r : Rows) (i : Nat) : List D := [.i (lg r i 0), .i (lg r i 1), .i (lg r i 2), .i (lg r i 3), .i (lg r i 4), .i (lg r i 5), .i (lg r i 6), .i (lg r i 7), .i (lg r i 8), .i (lg r i 9), .i (lg r i 10), .l (lr r i 11), .l (lr r i 12)]
def rowLeg (ds : List D) (i : Nat) : List D := [.i (lg (rAt ds 0) i 0), .i (lg (rAt ds 0) i 1), .i (lg (rAt ds 0) i 2), .i (lg (rAt ds 0) i 3), .i (lg (rAt ds 0) i 4), .i (lg (rAt ds 0) i 5), .i (lg (rAt ds 0) i 6), .i (lg (rAt ds 0) i 7), .i (lg (rAt ds 0) i 8), .i (lg (rAt ds 0) i 9), .i (lg (rAt ds 0) i 10), .l (lr (rAt ds 0) i 11), .l (lr (rAt ds 0) i 12), .i (iAt ds 1), .i (iAt ds 2), .i (iAt ds 3), .l (rAt ds 4), .i (iAt ds 5), .i (iAt ds 6), .i (iAt ds 7), .l (rAt ds 8), .i (iAt ds 9), .i (iAt ds 10), .l (rAt ds 11)]
def shsN (r : Rows) : Nat → Nat → Int → Bool
  | 0, _, _ => true
  | f + 1, i, last => (sheetL (rowSh r i) && decide (last < lg r i 0)) && shsN r f (i + 1) (lg r i 0)
def shsB (r : Rows) : Bool := shsN r r.length 0 0 && decide (r.length ≤ 20)
def askP (lo hi off : Int) (r : Rows) (k d m : Int) (sq : Rows) (st ph : Int) (hts : Rows) : Bool := psgB lo hi off r && (decide (0 ≤ k ∧ k < r.length) && (kevB d m sq && tideB st ph hts))
def finN (ds : List D) : Nat → Int
  | 0 => -1
  | i + 1 => if (legE (rowLeg ds i) = 0 ∨ legE (rowLeg ds i) = 20) ∧ (if finN ds i < 0 then 0 else lg (rAt ds 0) (finN ds i) 1) < lg (rAt ds 0) i 1 then i else finN ds i
def finS (ds : List D) (i : Nat) : Int := if finN ds i < 0 then 0 else lg (rAt ds 0) (finN ds i) 1
def finC (ds : List D) (i : Nat) : Int := if finN ds i < 0 then 0 else lg (rAt ds 0) (finN ds i) 0
def finI (ds : List D) (i : Nat) : Int := if finN ds i < 0 then 0 else legR (rowLeg ds (finN ds i).toNat)
def finE (ds : List D) (i : Nat) : Int := if finN ds i < 0 then 4 else legE (rowLeg ds (finN ds i).toNat)
theorem fin_yes {ds : List D} {i : Nat} (h : legE (rowLeg ds i) = 0 ∨ legE (rowLeg ds i) = 20) (h1 : finS ds i < lg (rAt ds 0) i 1) : finS ds (i + 1) = lg (rAt ds 0) i 1 ∧ finC ds (i + 1) = lg (rAt ds 0) i 0 ∧ finI ds (i + 1) = legR (rowLeg ds i) ∧ finE ds (i + 1) = legE (rowLeg ds i) := by
  have e : finN ds (i + 1) = i := by rw [finN]; exact if_pos ⟨h, h1⟩
  unfold finS finC finI finE
  rw [e, if_neg (by omega), if_neg (by omega), if_neg (by omega), if_neg (by omega), Int.toNat_natCast]
  exact ⟨rfl, rfl, rfl, rfl⟩
theorem fin_no {ds : List D} {i : Nat} (h : ¬ ((legE (rowLeg ds i) = 0 ∨ legE (rowLeg ds i) = 20) ∧ finS ds i < lg (rAt ds 0) i 1)) : finS ds (i + 1) = finS ds i ∧ finC ds (i + 1) = finC ds i ∧ finI ds (i + 1) = finI ds i ∧ finE ds (i + 1) = finE ds i := by
  have e : finN ds (i + 1) = finN ds i := by rw [finN]; exact if_neg h
  unfold finS finC finI finE
  rw [e]
  exact ⟨rfl, rfl, rfl, rfl⟩
def bestO (ds : List D) : Bool := shsB (rAt ds 0) && askP (iAt ds 1) (iAt ds 2) (iAt ds 3) (rAt ds 4) (iAt ds 5) (iAt ds 6) (iAt ds 7) (rAt ds 8) (iAt ds 9) (iAt ds 10) (rAt ds 11)
def bestC (ds : List D) : Int := if bestO ds then finC ds (rAt ds 0).length else 0
def bestI (ds : List D) : Int := if bestO ds then finI ds (rAt ds 0).length else 0
def bestE (ds : List D) : Int := if bestO ds then finE ds (rAt ds 0).length else 1
theorem shes_len {W : World} {vals : List Value} {ds : List D} {sh : List Sh} (h : repSh W (shes :: sh) vals ds) : (rAt ds 0).length ≤ 281474976710656 := by
  obtain ⟨v, vs', d, ds', rfl, rfl, ⟨d, rfl, h⟩, _⟩ := h
  exact list_rep h
theorem N6b151 (W : World) (ds l : List D) : (envOf N6 W ds).fb 151 l = sheetL l := by simp only [envOf, N6, N5, N4, N3, N2, N1, KG, KF, KE, KD, KC, KB, KA, K9, K8, K7, K6, K5, K]
theorem N6b20 (W : World) (ds l : List D) : (envOf N6 W ds).fb 20 l = psgL l := by simp only [envOf, N6, N5, N4, N3, N2, N1, KG, KF, KE, KD, KC, KB, KA, K9, K8, K7, K6, K5, K]
theorem N6b144 (W : World) (ds l : List D) : (envOf N6 W ds).fb 144 l = kevL l := by simp only [envOf, N6, N5, N4, N3, N2, N1, KG, KF, KE, KD, KC, KB, KA, K9, K8, K7, K6, K5, K]
theorem N6b150 (W : World) (ds l : List D) : (envOf N6 W ds).fb 150 l = tideL l := by simp only [envOf, N6, N5, N4, N3, N2, N1, KG, KF, KE, KD, KC, KB, KA, K9, K8, K7, K6, K5, K]
theorem N6i190 (W : World) (ds l : List D) : (envOf N6 W ds).fi 190 l = legR l := by simp only [envOf, N6, N5, N4, N3, N2, N1, KG, KF, KE, KD, KC, KB, KA, K9, K8, K7, K6, K5, K]
theorem N6i191 (W : World) (ds l : List D) : (envOf N6 W ds).fi 191 l = legE l := by simp only [envOf, N6, N5, N4, N3, N2, N1, KG, KF, KE, KD, KC, KB, KA, K9, K8, K7, K6, K5, K]
set_option maxHeartbeats 1000000 in
theorem gBest : Gives Tryz.prog 23 [shes, psg, it, shp, tid] (fun ds => .tuple #[.int .i64 (bestC ds), .int .i64 (bestI ds), .int .i64 (bestE ds)]) := by
  refine GivesIf.all (fn_gives N6 (by kernel_rfl) (fun ρ h => ctN8_ok (Sees.of h 200)) (by kernel_rfl) trBest_is trBest_low (by decide) (fun W vals ds hr _ => ?_))
  have hlen := shes_len hr
  simp only [trBest, TT.sat_ret, TT.sat_ite, TT.sat_ob, TT.sat_next, TT.sat_stuck, put_i, put_b, put_d, put_fi, put_fb, put_fd, Ob.ok, B.ev, E.ev, X.ev, AL.ev, cmp_t, cmp_f, arEv, V.plain, V2.plain, S.plain, S0.plain, V.val, V2.val, S.val, S0.val, bV, iV, List.all_cons, List.all_nil, Bool.and_true, Bool.and_self, envOf_i, envOf_b, envOf_d, List.map_cons, List.map_nil, true_and, Bool.not_eq_true', Bool.not_eq_false', Bool.not_not, Bool.and_eq_true, and_f, cell_lg, cell_lb, cell_lr, cmpP, val_i, val_b, val_d, aget, Nat.reduceBEq, beq_self_eq_true, Bool.false_eq_true, if_true, if_false, Nat.reduceLT, Nat.reduceSub, Nat.sub_self, Nat.lt_irrefl]
  clear hr
  have Z : bestO ds = false → Value.tuple #[.int .i64 0, .int .i64 0, .int .i64 1] = Value.tuple #[.int .i64 (bestC ds), .int .i64 (bestI ds), .int .i64 (bestE ds)] := fun h => by unfold bestC bestI bestE; rw [h]; rfl
  have Z1 : shsN (rAt ds 0) (rAt ds 0).length 0 0 = false → Value.tuple #[.int .i64 0, .int .i64 0, .int .i64 1] = Value.tuple #[.int .i64 (bestC ds), .int .i64 (bestI ds), .int .i64 (bestE ds)] := fun h => Z (by unfold bestO shsB; rw [h]; rfl)
  refine TT.sat_loop (fun v => ∃ i : Nat, v.i 1 = i ∧ i ≤ (rAt ds 0).length ∧ shsN (rAt ds 0) ((rAt ds 0).length - i) i (v.i 0) = shsN (rAt ds 0) (rAt ds 0).length 0 0) (fun v => (rAt ds 0).length - (v.i 1).toNat) ⟨0, by simp [val_i, aget, E.ev], by omega, rfl⟩ (fun v hv => ?_)
  obtain ⟨i, i0, i1, i2⟩ := hv
  have eS : [D.i (lg (rAt ds 0) i 0), .i (lg (rAt ds 0) i 1), .i (lg (rAt ds 0) i 2), .i (lg (rAt ds 0) i 3), .i (lg (rAt ds 0) i 4), .i (lg (rAt ds 0) i 5), .i (lg (rAt ds 0) i 6), .i (lg (rAt ds 0) i 7), .i (lg (rAt ds 0) i 8), .i (lg (rAt ds 0) i 9), .i (lg (rAt ds 0) i 10), .l (lr (rAt ds 0) i 11), .l (lr (rAt ds 0) i 12)] = rowSh (rAt ds 0) i := rfl
  simp only [TT.sat_ret, TT.sat_ite, TT.sat_ob, TT.sat_next, TT.sat_stuck, put_i, put_b, put_d, put_fi, put_fb, put_fd, Ob.ok, B.ev, E.ev, X.ev, AL.ev, cmp_t, cmp_f, arEv, V.plain, V2.plain, S.plain, S0.plain, V.val, V2.val, S.val, S0.val, bV, iV, List.all_cons, List.all_nil, Bool.and_true, Bool.and_self, envOf_i, envOf_b, envOf_d, List.map_cons, List.map_nil, true_and, Bool.not_eq_true', Bool.not_eq_false', Bool.not_not, Bool.and_eq_true, and_f, cell_lg, cell_lb, cell_lr, cmpP, val_i, val_b, val_d, aget, Nat.reduceBEq, beq_self_eq_true, Bool.false_eq_true, if_true, if_false, Nat.reduceLT, Nat.reduceSub, Nat.sub_self, Nat.lt_irrefl, i0, N6b151, N6b20, N6b144, N6b150, psg_four, kev_3, tide_31, eS]
  refine ⟨fun hc => ?_, fun hc => ?_⟩
  · obtain ⟨f, hf⟩ : ∃ f, (rAt ds 0).length - i = f + 1 := ⟨(rAt ds 0).length - i - 1, by omega⟩
    have hf' : (rAt ds 0).length - (i + 1) = f := by omega
    rw [hf, shsN] at i2
    rw [wrap_in ((i : Int) + 1) (by omega) (by omega)]
    refine ⟨by omega, hc, fun h => Z1 ?_, fun h => ⟨fun g => Z1 ?_, fun g => ⟨⟨i + 1, rfl, by omega, ?_⟩, by omega⟩⟩⟩
    · rw [← i2, h]; rfl
    · rw [← i2, decide_eq_false (by omega), Bool.and_false, Bool.false_and]
    · rw [hf', ← i2, h, decide_eq_true (by omega)]; rfl
  · have h0 : (rAt ds 0).length - i = 0 := by omega
    rw [h0, shsN] at i2
    clear h0 hc i0 i1 eS
    have hO : bestO ds = ((true && decide ((rAt ds 0).length ≤ 20)) && (psgB (iAt ds 1) (iAt ds 2) (iAt ds 3) (rAt ds 4) && (decide (0 ≤ iAt ds 5 ∧ iAt ds 5 < (rAt ds 4).length) && (kevB (iAt ds 6) (iAt ds 7) (rAt ds 8) && tideB (iAt ds 9) (iAt ds 10) (rAt ds 11))))) := by
      unfold bestO shsB askP; rw [← i2]
    refine ⟨fun h => Z ?_, fun h => ⟨fun p => ⟨fun k0 => ⟨fun k1 => ⟨fun q => ⟨fun t => Z ?_, fun t => ?_⟩, fun q => Z ?_⟩, fun k1 => Z ?_⟩, fun k0 => Z ?_⟩, fun p => Z ?_⟩⟩
    · rw [hO, decide_eq_false (p := (rAt ds 0).length ≤ 20) (by omega)]; rfl
    · rw [hO, t]; simp
    rotate_left
    · rw [hO, q]; simp
    · rw [hO, decide_eq_false (p := 0 ≤ iAt ds 5 ∧ iAt ds 5 < (rAt ds 4).length) (by omega)]; simp
    · rw [hO, decide_eq_false (p := 0 ≤ iAt ds 5 ∧ iAt ds 5 < (rAt ds 4).length) (by omega)]; simp
    · rw [hO, p]; simp
    rw [p, q, t, decide_eq_true (p := (rAt ds 0).length ≤ 20) (by omega), decide_eq_true (p := 0 ≤ iAt ds 5 ∧ iAt ds 5 < (rAt ds 4).length) ⟨k0, k1⟩] at hO
    have hO : bestO ds = true := hO
    refine TT.sat_loop (fun u => ∃ j : Nat, u.i 0 = j ∧ j ≤ (rAt ds 0).length ∧ u.i 1 = finC ds j ∧ u.i 2 = finS ds j ∧ u.i 14 = finI ds j ∧ u.i 15 = finE ds j) (fun u => (rAt ds 0).length - (u.i 0).toNat)
      ⟨0, by simp [val_i, aget, E.ev], by omega, by simp [val_i, aget, E.ev, finC, finN], by simp [val_i, aget, E.ev, finS, finN], by simp [val_i, aget, E.ev, finI, finN], by simp [val_i, aget, E.ev, finE, finN]⟩ (fun u hu => ?_)
    obtain ⟨j, j0, j1, j2, j3, j4, j5⟩ := hu
    have eL : [D.i (lg (rAt ds 0) j 0), .i (lg (rAt ds 0) j 1), .i (lg (rAt ds 0) j 2), .i (lg (rAt ds 0) j 3), .i (lg (rAt ds 0) j 4), .i (lg (rAt ds 0) j 5), .i (lg (rAt ds 0) j 6), .i (lg (rAt ds 0) j 7), .i (lg (rAt ds 0) j 8), .i (lg (rAt ds 0) j 9), .i (lg (rAt ds 0) j 10), .l (lr (rAt ds 0) j 11), .l (lr (rAt ds 0) j 12), .i (iAt ds 1), .i (iAt ds 2), .i (iAt ds 3), .l (rAt ds 4), .i (iAt ds 5), .i (iAt ds 6), .i (iAt ds 7), .l (rAt ds 8), .i (iAt ds 9), .i (iAt ds 10), .l (rAt ds 11)] = rowLeg ds j := rfl
    simp only [TT.sat_ret, TT.sat_ite, TT.sat_ob, TT.sat_next, TT.sat_stuck, put_i, put_b, put_d, put_fi, put_fb, put_fd, Ob.ok, B.ev, E.ev, X.ev, AL.ev, cmp_t, cmp_f, arEv, V.plain, V2.plain, S.plain, S0.plain, V.val, V2.val, S.val, S0.val, bV, iV, List.all_cons, List.all_nil, Bool.and_true, Bool.and_self, envOf_i, envOf_b, envOf_d, List.map_cons, List.map_nil, true_and, Bool.not_eq_true', Bool.not_eq_false', Bool.not_not, Bool.and_eq_true, and_f, cell_lg, cell_lb, cell_lr, cmpP, val_i, val_b, val_d, aget, Nat.reduceBEq, beq_self_eq_true, Bool.false_eq_true, if_true, if_false, Nat.reduceLT, Nat.reduceSub, Nat.sub_self, Nat.lt_irrefl, j0, j2, j3, j4, j5, N6i190, N6i191, eL]
    refine ⟨fun hc => ?_, fun hc => ?_⟩
    · have hj : j < (rAt ds 0).length := by omega
      have yes : (legE (rowLeg ds j) = 0 ∨ legE (rowLeg ds j) = 20) → finS ds j < lg (rAt ds 0) j 1 → (∃ n : Nat, IntKind.i64.wrap ((j : Int) + 1) = n ∧ n ≤ (rAt ds 0).length ∧ lg (rAt ds 0) j 0 = finC ds n ∧ lg (rAt ds 0) j 1 = finS ds n ∧ legR (rowLeg ds j) = finI ds n ∧ legE (rowLeg ds j) = finE ds n) ∧ (rAt ds 0).length - (IntKind.i64.wrap ((j : Int) + 1)).toNat < (rAt ds 0).length - (j : Int).toNat := fun a b => by
        rw [wrap_in ((j : Int) + 1) (by omega) (by omega)]
        obtain ⟨e1, e2, e3, e4⟩ := fin_yes a b
        exact ⟨⟨j + 1, rfl, by omega, e2.symm, e1.symm, e3.symm, e4.symm⟩, by omega⟩
      have no : ¬ ((legE (rowLeg ds j) = 0 ∨ legE (rowLeg ds j) = 20) ∧ finS ds j < lg (rAt ds 0) j 1) → (∃ n : Nat, IntKind.i64.wrap ((j : Int) + 1) = n ∧ n ≤ (rAt ds 0).length ∧ finC ds j = finC ds n ∧ finS ds j = finS ds n ∧ finI ds j = finI ds n ∧ finE ds j = finE ds n) ∧ (rAt ds 0).length - (IntKind.i64.wrap ((j : Int) + 1)).toNat < (rAt ds 0).length - (j : Int).toNat := fun a => by
        rw [wrap_in ((j : Int) + 1) (by omega) (by omega)]
        obtain ⟨e1, e2, e3, e4⟩ := fin_no a
        exact ⟨⟨j + 1, rfl, by omega, e2.symm, e1.symm, e3.symm, e4.symm⟩, by omega⟩
      refine ⟨by omega, hc, fun a => ⟨fun b => yes (.inl a) b, fun b => no (fun q => b q.2)⟩, fun a => ⟨fun a2 => ⟨fun b => yes (.inr a2) b, fun b => no (fun q => b q.2)⟩, fun a2 => no (fun q => q.1.elim a a2)⟩⟩
    · obtain rfl : j = (rAt ds 0).length := by omega
      unfold bestC bestI bestE
      rw [hO]; rfl
def N7 : Interp where
  fi n l := match n with | 200 => bestC l | 201 => bestI l | 202 => bestE l | n => N6.fi n l
  fb n l := N6.fb n l
  fd _ _ := []
theorem N7_N6 {ρ : Env} (h : Sees ρ N7 210) : Sees ρ N6 200 := h.trans (by decide) fun n l hn => by
  refine ⟨?_, ?_⟩
  ·
    simp only [N7]
    split <;> first | omega | rfl
  ·
    rfl
def cBest := ctD [shes, psg, it, shp, tid] fun al => .ret (.tup [.one (sIF 200 bestC al), .one (sIF 201 bestI al), .one (sIF 202 bestE al)])
theorem cBest_ok {ρ : Env} (h : Sees ρ N7 210) : CtOne Tryz.prog ρ 23 cBest :=
  ctD_ok gBest (fun _ => rfl) (fun al => by simp only [V.val, V2.val, S.val, S0.val, sIF, sBF, List.map_cons, List.map_nil, iF_ev (s := 200) (f := bestC) (fun l => by rw [(h 200 l (by decide)).1]; simp only [N7, N6, N5, N4, N3, N2, N1, KG, KF, KE, KD, KC, KB, KA, K9, K8, K7, K6, K5, K]), iF_ev (s := 201) (f := bestI) (fun l => by rw [(h 201 l (by decide)).1]; simp only [N7, N6, N5, N4, N3, N2, N1, KG, KF, KE, KD, KC, KB, KA, K9, K8, K7, K6, K5, K]), iF_ev (s := 202) (f := bestE) (fun l => by rw [(h 202 l (by decide)).1]; simp only [N7, N6, N5, N4, N3, N2, N1, KG, KF, KE, KD, KC, KB, KA, K9, K8, K7, K6, K5, K])]; try rfl)
def ctN9 : Ct := (23, cBest) :: ctN8
theorem ctN9_ok {ρ : Env} (h : Sees ρ N7 210) : CtOk Tryz.prog ρ ctN9 := .cons (cBest_ok h) (ctN8_ok (N7_N6 h))
end Go.Proofs.YtkjjkckcjgkhmaaGreat
/- Chapter 40: trees of Again and of the laws CheckAgain and CheckFirst. -/
namespace Go.Proofs.YtkjjkckcjgkhmaaGreat
open Go.RowKit
def boxs : Sh := .one (.sl [.int .i64, .int .i64, .int .i64, .int .i64])
def trAgain : TT OpR :=
(.loop 0 5000 ⟨[(0, (.lit 0)), (1, (.lit 0))], [], []⟩
 (.ite (.cmp .lss (.var 5001) (.len (.var 0)))
 (.ob (.tru (.cmp .leq (.lit 0) (.var 5001)))
 (.ob (.tru (.cmp .lss (.var 5001) (.len (.var 0))))
 (.ite (.not (.fn 151 (.i (.rd (.var 0) (.var 5001) 0) (.i (.rd (.var 0) (.var 5001) 1) (.i (.rd (.var 0) (.var 5001) 2) (.i (.rd (.var 0) (.var 5001) 3) (.i (.rd (.var 0) (.var 5001) 4) (.i (.rd (.var 0) (.var 5001) 5) (.i (.rd (.var 0) (.var 5001) 6) (.i (.rd (.var 0) (.var 5001) 7) (.i (.rd (.var 0) (.var 5001) 8) (.i (.rd (.var 0) (.var 5001) 9) (.i (.rd (.var 0) (.var 5001) 10) (.x (.rd (.var 0) (.var 5001) 11) (.x (.rd (.var 0) (.var 5001) 12) .nil)))))))))))))))
 (.ret ((.tup [(.one (.z (.int .i64 (.lit 0)))), (.one (.z (.int .i64 (.lit 1))))]), [], 6))
 (.ite (.cmp .leq (.rd (.var 0) (.var 5001) 0) (.var 5000))
 (.ret ((.tup [(.one (.z (.int .i64 (.lit 0)))), (.one (.z (.int .i64 (.lit 1))))]), [], 6))
 (.next 0 ⟨[(0, (.rd (.var 0) (.var 5001) 0)), (1, (.ar .add .i64 (.var 5001) (.lit 1)))], [], []⟩)))))
 (.ite (.not (.cmp .leq (.len (.var 0)) (.lit 20)))
 (.ret ((.tup [(.one (.z (.int .i64 (.lit 0)))), (.one (.z (.int .i64 (.lit 1))))]), [], 6))
 (.ite (.fn 20 (.i (.var 1) (.i (.var 2) (.i (.var 3) (.x (.var 4) .nil)))))
 (.ite (.cmp .lss (.lit 0) (.len (.var 4)))
 (.ite (.fn 144 (.i (.var 6) (.i (.var 7) (.x (.var 8) .nil))))
 (.ite (.not (.fn 150 (.i (.var 9) (.i (.var 10) (.x (.var 11) .nil)))))
 (.ret ((.tup [(.one (.z (.int .i64 (.lit 0)))), (.one (.z (.int .i64 (.lit 1))))]), [], 7))
 (.ite (.cmp .lss (.var 5) (.lit 0))
 (.ret ((.tup [(.one (.z (.int .i64 (.lit 0)))), (.one (.z (.int .i64 (.lit 1))))]), [], 7))
 (.ite (.cmp .gtr (.var 5) (.len (.var 4)))
 (.ret ((.tup [(.one (.z (.int .i64 (.lit 0)))), (.one (.z (.int .i64 (.lit 1))))]), [], 7))
 (.ite (.cmp .gtr (.len (.var 12)) (.lit 60))
 (.ret ((.tup [(.one (.z (.int .i64 (.lit 0)))), (.one (.z (.int .i64 (.lit 1))))]), [], 7))
 (.loop 1 8000 ⟨[(0, (.lit 0))], [], []⟩
 (.ite (.cmp .lss (.var 8000) (.len (.var 12)))
 (.ob (.tru (.cmp .leq (.lit 0) (.var 8000)))
 (.ob (.tru (.cmp .lss (.var 8000) (.len (.var 12))))
 (.ite (.not (.fn 31 (.i (.rd (.var 12) (.var 8000) 0) (.i (.rd (.var 12) (.var 8000) 1) (.i (.rd (.var 12) (.var 8000) 2) (.i (.rd (.var 12) (.var 8000) 3) .nil))))))
 (.ite (.cmp .geq (.var 8000) (.lit 0))
 (.ret ((.tup [(.one (.z (.int .i64 (.lit 0)))), (.one (.z (.int .i64 (.lit 1))))]), [], 9))
 (.loop 2 10000 ⟨[(0, (.var 5))], [], []⟩
 (.ite (.cmp .lss (.var 10000) (.len (.var 4)))
 (.ite (.cmp .neq (.fn 58 (.i (.var 1) (.i (.var 2) (.i (.var 3) (.x (.var 4) (.i (.var 10000) .nil)))))) (.lit 0))
 (.ret ((.tup [(.one (.z (.int .i64 (.var 10000)))), (.one (.z (.int .i64 (.lit 0))))]), [], 25))
 (.loop 3 20000 ⟨[(0, (.lit 0)), (1, (.lit 0)), (2, (.lit 0)), (3, (.lit 0)), (4, (.lit 0)), (5, (.lit 0)), (6, (.lit 0)), (7, (.lit 0)), (8, (.lit 0)), (9, (.lit 0)), (10, (.lit 0)), (11, (.lit 0)), (14, (.lit 0)), (15, (.lit 4))], [], [(12, .nil), (13, .nil)]⟩
 (.ite (.cmp .lss (.var 20000) (.len (.var 0)))
 (.ob (.tru (.cmp .leq (.lit 0) (.var 20000)))
 (.ob (.tru (.cmp .lss (.var 20000) (.len (.var 0))))
 (.ite (.cmp .eql (.fn 191 (.i (.rd (.var 0) (.var 20000) 0) (.i (.rd (.var 0) (.var 20000) 1) (.i (.rd (.var 0) (.var 20000) 2) (.i (.rd (.var 0) (.var 20000) 3) (.i (.rd (.var 0) (.var 20000) 4) (.i (.rd (.var 0) (.var 20000) 5) (.i (.rd (.var 0) (.var 20000) 6) (.i (.rd (.var 0) (.var 20000) 7) (.i (.rd (.var 0) (.var 20000) 8) (.i (.rd (.var 0) (.var 20000) 9) (.i (.rd (.var 0) (.var 20000) 10) (.x (.rd (.var 0) (.var 20000) 11) (.x (.rd (.var 0) (.var 20000) 12) (.i (.var 1) (.i (.var 2) (.i (.var 3) (.x (.var 4) (.i (.var 10000) (.i (.var 6) (.i (.var 7) (.x (.var 8) (.i (.var 9) (.i (.var 10) (.x (.var 11) .nil))))))))))))))))))))))))) (.lit 0))
 (.ite (.cmp .gtr (.rd (.var 0) (.var 20000) 1) (.var 20002))
 (.next 3 ⟨[(0, (.ar .add .i64 (.var 20000) (.lit 1))), (1, (.rd (.var 0) (.var 20000) 0)), (2, (.rd (.var 0) (.var 20000) 1)), (3, (.rd (.var 0) (.var 20000) 2)), (4, (.rd (.var 0) (.var 20000) 3)), (5, (.rd (.var 0) (.var 20000) 4)), (6, (.rd (.var 0) (.var 20000) 5)), (7, (.rd (.var 0) (.var 20000) 6)), (8, (.rd (.var 0) (.var 20000) 7)), (9, (.rd (.var 0) (.var 20000) 8)), (10, (.rd (.var 0) (.var 20000) 9)), (11, (.rd (.var 0) (.var 20000) 10)), (14, (.fn 190 (.i (.rd (.var 0) (.var 20000) 0) (.i (.rd (.var 0) (.var 20000) 1) (.i (.rd (.var 0) (.var 20000) 2) (.i (.rd (.var 0) (.var 20000) 3) (.i (.rd (.var 0) (.var 20000) 4) (.i (.rd (.var 0) (.var 20000) 5) (.i (.rd (.var 0) (.var 20000) 6) (.i (.rd (.var 0) (.var 20000) 7) (.i (.rd (.var 0) (.var 20000) 8) (.i (.rd (.var 0) (.var 20000) 9) (.i (.rd (.var 0) (.var 20000) 10) (.x (.rd (.var 0) (.var 20000) 11) (.x (.rd (.var 0) (.var 20000) 12) (.i (.var 1) (.i (.var 2) (.i (.var 3) (.x (.var 4) (.i (.var 10000) (.i (.var 6) (.i (.var 7) (.x (.var 8) (.i (.var 9) (.i (.var 10) (.x (.var 11) .nil)))))))))))))))))))))))))), (15, (.fn 191 (.i (.rd (.var 0) (.var 20000) 0) (.i (.rd (.var 0) (.var 20000) 1) (.i (.rd (.var 0) (.var 20000) 2) (.i (.rd (.var 0) (.var 20000) 3) (.i (.rd (.var 0) (.var 20000) 4) (.i (.rd (.var 0) (.var 20000) 5) (.i (.rd (.var 0) (.var 20000) 6) (.i (.rd (.var 0) (.var 20000) 7) (.i (.rd (.var 0) (.var 20000) 8) (.i (.rd (.var 0) (.var 20000) 9) (.i (.rd (.var 0) (.var 20000) 10) (.x (.rd (.var 0) (.var 20000) 11) (.x (.rd (.var 0) (.var 20000) 12) (.i (.var 1) (.i (.var 2) (.i (.var 3) (.x (.var 4) (.i (.var 10000) (.i (.var 6) (.i (.var 7) (.x (.var 8) (.i (.var 9) (.i (.var 10) (.x (.var 11) .nil))))))))))))))))))))))))))], [], [(12, (.rd (.var 0) (.var 20000) 11)), (13, (.rd (.var 0) (.var 20000) 12))]⟩)
 (.next 3 ⟨[(0, (.ar .add .i64 (.var 20000) (.lit 1))), (1, (.var 20001)), (2, (.var 20002)), (3, (.var 20003)), (4, (.var 20004)), (5, (.var 20005)), (6, (.var 20006)), (7, (.var 20007)), (8, (.var 20008)), (9, (.var 20009)), (10, (.var 20010)), (11, (.var 20011)), (14, (.var 20014)), (15, (.var 20015))], [], [(12, (.var 20012)), (13, (.var 20013))]⟩))
 (.ite (.cmp .eql (.fn 191 (.i (.rd (.var 0) (.var 20000) 0) (.i (.rd (.var 0) (.var 20000) 1) (.i (.rd (.var 0) (.var 20000) 2) (.i (.rd (.var 0) (.var 20000) 3) (.i (.rd (.var 0) (.var 20000) 4) (.i (.rd (.var 0) (.var 20000) 5) (.i (.rd (.var 0) (.var 20000) 6) (.i (.rd (.var 0) (.var 20000) 7) (.i (.rd (.var 0) (.var 20000) 8) (.i (.rd (.var 0) (.var 20000) 9) (.i (.rd (.var 0) (.var 20000) 10) (.x (.rd (.var 0) (.var 20000) 11) (.x (.rd (.var 0) (.var 20000) 12) (.i (.var 1) (.i (.var 2) (.i (.var 3) (.x (.var 4) (.i (.var 10000) (.i (.var 6) (.i (.var 7) (.x (.var 8) (.i (.var 9) (.i (.var 10) (.x (.var 11) .nil))))))))))))))))))))))))) (.lit 20))
 (.ite (.cmp .gtr (.rd (.var 0) (.var 20000) 1) (.var 20002))
 (.next 3 ⟨[(0, (.ar .add .i64 (.var 20000) (.lit 1))), (1, (.rd (.var 0) (.var 20000) 0)), (2, (.rd (.var 0) (.var 20000) 1)), (3, (.rd (.var 0) (.var 20000) 2)), (4, (.rd (.var 0) (.var 20000) 3)), (5, (.rd (.var 0) (.var 20000) 4)), (6, (.rd (.var 0) (.var 20000) 5)), (7, (.rd (.var 0) (.var 20000) 6)), (8, (.rd (.var 0) (.var 20000) 7)), (9, (.rd (.var 0) (.var 20000) 8)), (10, (.rd (.var 0) (.var 20000) 9)), (11, (.rd (.var 0) (.var 20000) 10)), (14, (.fn 190 (.i (.rd (.var 0) (.var 20000) 0) (.i (.rd (.var 0) (.var 20000) 1) (.i (.rd (.var 0) (.var 20000) 2) (.i (.rd (.var 0) (.var 20000) 3) (.i (.rd (.var 0) (.var 20000) 4) (.i (.rd (.var 0) (.var 20000) 5) (.i (.rd (.var 0) (.var 20000) 6) (.i (.rd (.var 0) (.var 20000) 7) (.i (.rd (.var 0) (.var 20000) 8) (.i (.rd (.var 0) (.var 20000) 9) (.i (.rd (.var 0) (.var 20000) 10) (.x (.rd (.var 0) (.var 20000) 11) (.x (.rd (.var 0) (.var 20000) 12) (.i (.var 1) (.i (.var 2) (.i (.var 3) (.x (.var 4) (.i (.var 10000) (.i (.var 6) (.i (.var 7) (.x (.var 8) (.i (.var 9) (.i (.var 10) (.x (.var 11) .nil)))))))))))))))))))))))))), (15, (.fn 191 (.i (.rd (.var 0) (.var 20000) 0) (.i (.rd (.var 0) (.var 20000) 1) (.i (.rd (.var 0) (.var 20000) 2) (.i (.rd (.var 0) (.var 20000) 3) (.i (.rd (.var 0) (.var 20000) 4) (.i (.rd (.var 0) (.var 20000) 5) (.i (.rd (.var 0) (.var 20000) 6) (.i (.rd (.var 0) (.var 20000) 7) (.i (.rd (.var 0) (.var 20000) 8) (.i (.rd (.var 0) (.var 20000) 9) (.i (.rd (.var 0) (.var 20000) 10) (.x (.rd (.var 0) (.var 20000) 11) (.x (.rd (.var 0) (.var 20000) 12) (.i (.var 1) (.i (.var 2) (.i (.var 3) (.x (.var 4) (.i (.var 10000) (.i (.var 6) (.i (.var 7) (.x (.var 8) (.i (.var 9) (.i (.var 10) (.x (.var 11) .nil))))))))))))))))))))))))))], [], [(12, (.rd (.var 0) (.var 20000) 11)), (13, (.rd (.var 0) (.var 20000) 12))]⟩)
 (.next 3 ⟨[(0, (.ar .add .i64 (.var 20000) (.lit 1))), (1, (.var 20001)), (2, (.var 20002)), (3, (.var 20003)), (4, (.var 20004)), (5, (.var 20005)), (6, (.var 20006)), (7, (.var 20007)), (8, (.var 20008)), (9, (.var 20009)), (10, (.var 20010)), (11, (.var 20011)), (14, (.var 20014)), (15, (.var 20015))], [], [(12, (.var 20012)), (13, (.var 20013))]⟩))
 (.next 3 ⟨[(0, (.ar .add .i64 (.var 20000) (.lit 1))), (1, (.var 20001)), (2, (.var 20002)), (3, (.var 20003)), (4, (.var 20004)), (5, (.var 20005)), (6, (.var 20006)), (7, (.var 20007)), (8, (.var 20008)), (9, (.var 20009)), (10, (.var 20010)), (11, (.var 20011)), (14, (.var 20014)), (15, (.var 20015))], [], [(12, (.var 20012)), (13, (.var 20013))]⟩)))))
 (.ite (.cmp .neq (.var 20015) (.lit 0))
 (.ret ((.tup [(.one (.z (.int .i64 (.var 10000)))), (.one (.z (.int .i64 (.lit 0))))]), [], 25))
 (.loop 4 23000 ⟨[(0, (.lit 0))], [], []⟩
 (.ite (.cmp .lss (.var 23000) (.len (.var 12)))
 (.ob (.tru (.cmp .leq (.lit 0) (.var 23000)))
 (.ob (.tru (.cmp .lss (.var 23000) (.len (.var 12))))
 (.ite (.cmp .eql (.fn 41 (.i (.fn 54 (.i (.var 1) (.i (.var 2) (.i (.var 3) (.x (.var 4) (.i (.var 10000) .nil)))))) (.i (.fn 55 (.i (.var 1) (.i (.var 2) (.i (.var 3) (.x (.var 4) (.i (.var 10000) .nil)))))) (.i (.fn 56 (.i (.var 1) (.i (.var 2) (.i (.var 3) (.x (.var 4) (.i (.var 10000) .nil)))))) (.i (.fn 57 (.i (.var 1) (.i (.var 2) (.i (.var 3) (.x (.var 4) (.i (.var 10000) .nil)))))) (.i (.rd (.var 12) (.var 23000) 0) (.i (.rd (.var 12) (.var 23000) 1) (.i (.rd (.var 12) (.var 23000) 2) (.i (.rd (.var 12) (.var 23000) 3) .nil))))))))) (.lit 0))
 (.ite (.cmp .geq (.var 23000) (.lit 0))
 (.ret ((.tup [(.one (.z (.int .i64 (.var 10000)))), (.one (.z (.int .i64 (.lit 0))))]), [], 25))
 (.next 2 ⟨[(0, (.ar .add .i64 (.var 10000) (.lit 1)))], [], []⟩))
 (.next 4 ⟨[(0, (.ar .add .i64 (.var 23000) (.lit 1)))], [], []⟩))))
 (.next 2 ⟨[(0, (.ar .add .i64 (.var 10000) (.lit 1)))], [], []⟩)))))))
 (.ret ((.tup [(.one (.z (.int .i64 (.lit (-1))))), (.one (.z (.int .i64 (.lit 0))))]), [], 25)))))
 (.next 1 ⟨[(0, (.ar .add .i64 (.var 8000) (.lit 1)))], [], []⟩))))
 (.loop 2 10000 ⟨[(0, (.var 5))], [], []⟩
 (.ite (.cmp .lss (.var 10000) (.len (.var 4)))
 (.ite (.cmp .neq (.fn 58 (.i (.var 1) (.i (.var 2) (.i (.var 3) (.x (.var 4) (.i (.var 10000) .nil)))))) (.lit 0))
 (.ret ((.tup [(.one (.z (.int .i64 (.var 10000)))), (.one (.z (.int .i64 (.lit 0))))]), [], 25))
 (.loop 3 20000 ⟨[(0, (.lit 0)), (1, (.lit 0)), (2, (.lit 0)), (3, (.lit 0)), (4, (.lit 0)), (5, (.lit 0)), (6, (.lit 0)), (7, (.lit 0)), (8, (.lit 0)), (9, (.lit 0)), (10, (.lit 0)), (11, (.lit 0)), (14, (.lit 0)), (15, (.lit 4))], [], [(12, .nil), (13, .nil)]⟩
 (.ite (.cmp .lss (.var 20000) (.len (.var 0)))
 (.ob (.tru (.cmp .leq (.lit 0) (.var 20000)))
 (.ob (.tru (.cmp .lss (.var 20000) (.len (.var 0))))
 (.ite (.cmp .eql (.fn 191 (.i (.rd (.var 0) (.var 20000) 0) (.i (.rd (.var 0) (.var 20000) 1) (.i (.rd (.var 0) (.var 20000) 2) (.i (.rd (.var 0) (.var 20000) 3) (.i (.rd (.var 0) (.var 20000) 4) (.i (.rd (.var 0) (.var 20000) 5) (.i (.rd (.var 0) (.var 20000) 6) (.i (.rd (.var 0) (.var 20000) 7) (.i (.rd (.var 0) (.var 20000) 8) (.i (.rd (.var 0) (.var 20000) 9) (.i (.rd (.var 0) (.var 20000) 10) (.x (.rd (.var 0) (.var 20000) 11) (.x (.rd (.var 0) (.var 20000) 12) (.i (.var 1) (.i (.var 2) (.i (.var 3) (.x (.var 4) (.i (.var 10000) (.i (.var 6) (.i (.var 7) (.x (.var 8) (.i (.var 9) (.i (.var 10) (.x (.var 11) .nil))))))))))))))))))))))))) (.lit 0))
 (.ite (.cmp .gtr (.rd (.var 0) (.var 20000) 1) (.var 20002))
 (.next 3 ⟨[(0, (.ar .add .i64 (.var 20000) (.lit 1))), (1, (.rd (.var 0) (.var 20000) 0)), (2, (.rd (.var 0) (.var 20000) 1)), (3, (.rd (.var 0) (.var 20000) 2)), (4, (.rd (.var 0) (.var 20000) 3)), (5, (.rd (.var 0) (.var 20000) 4)), (6, (.rd (.var 0) (.var 20000) 5)), (7, (.rd (.var 0) (.var 20000) 6)), (8, (.rd (.var 0) (.var 20000) 7)), (9, (.rd (.var 0) (.var 20000) 8)), (10, (.rd (.var 0) (.var 20000) 9)), (11, (.rd (.var 0) (.var 20000) 10)), (14, (.fn 190 (.i (.rd (.var 0) (.var 20000) 0) (.i (.rd (.var 0) (.var 20000) 1) (.i (.rd (.var 0) (.var 20000) 2) (.i (.rd (.var 0) (.var 20000) 3) (.i (.rd (.var 0) (.var 20000) 4) (.i (.rd (.var 0) (.var 20000) 5) (.i (.rd (.var 0) (.var 20000) 6) (.i (.rd (.var 0) (.var 20000) 7) (.i (.rd (.var 0) (.var 20000) 8) (.i (.rd (.var 0) (.var 20000) 9) (.i (.rd (.var 0) (.var 20000) 10) (.x (.rd (.var 0) (.var 20000) 11) (.x (.rd (.var 0) (.var 20000) 12) (.i (.var 1) (.i (.var 2) (.i (.var 3) (.x (.var 4) (.i (.var 10000) (.i (.var 6) (.i (.var 7) (.x (.var 8) (.i (.var 9) (.i (.var 10) (.x (.var 11) .nil)))))))))))))))))))))))))), (15, (.fn 191 (.i (.rd (.var 0) (.var 20000) 0) (.i (.rd (.var 0) (.var 20000) 1) (.i (.rd (.var 0) (.var 20000) 2) (.i (.rd (.var 0) (.var 20000) 3) (.i (.rd (.var 0) (.var 20000) 4) (.i (.rd (.var 0) (.var 20000) 5) (.i (.rd (.var 0) (.var 20000) 6) (.i (.rd (.var 0) (.var 20000) 7) (.i (.rd (.var 0) (.var 20000) 8) (.i (.rd (.var 0) (.var 20000) 9) (.i (.rd (.var 0) (.var 20000) 10) (.x (.rd (.var 0) (.var 20000) 11) (.x (.rd (.var 0) (.var 20000) 12) (.i (.var 1) (.i (.var 2) (.i (.var 3) (.x (.var 4) (.i (.var 10000) (.i (.var 6) (.i (.var 7) (.x (.var 8) (.i (.var 9) (.i (.var 10) (.x (.var 11) .nil))))))))))))))))))))))))))], [], [(12, (.rd (.var 0) (.var 20000) 11)), (13, (.rd (.var 0) (.var 20000) 12))]⟩)
 (.next 3 ⟨[(0, (.ar .add .i64 (.var 20000) (.lit 1))), (1, (.var 20001)), (2, (.var 20002)), (3, (.var 20003)), (4, (.var 20004)), (5, (.var 20005)), (6, (.var 20006)), (7, (.var 20007)), (8, (.var 20008)), (9, (.var 20009)), (10, (.var 20010)), (11, (.var 20011)), (14, (.var 20014)), (15, (.var 20015))], [], [(12, (.var 20012)), (13, (.var 20013))]⟩))
 (.ite (.cmp .eql (.fn 191 (.i (.rd (.var 0) (.var 20000) 0) (.i (.rd (.var 0) (.var 20000) 1) (.i (.rd (.var 0) (.var 20000) 2) (.i (.rd (.var 0) (.var 20000) 3) (.i (.rd (.var 0) (.var 20000) 4) (.i (.rd (.var 0) (.var 20000) 5) (.i (.rd (.var 0) (.var 20000) 6) (.i (.rd (.var 0) (.var 20000) 7) (.i (.rd (.var 0) (.var 20000) 8) (.i (.rd (.var 0) (.var 20000) 9) (.i (.rd (.var 0) (.var 20000) 10) (.x (.rd (.var 0) (.var 20000) 11) (.x (.rd (.var 0) (.var 20000) 12) (.i (.var 1) (.i (.var 2) (.i (.var 3) (.x (.var 4) (.i (.var 10000) (.i (.var 6) (.i (.var 7) (.x (.var 8) (.i (.var 9) (.i (.var 10) (.x (.var 11) .nil))))))))))))))))))))))))) (.lit 20))
 (.ite (.cmp .gtr (.rd (.var 0) (.var 20000) 1) (.var 20002))
 (.next 3 ⟨[(0, (.ar .add .i64 (.var 20000) (.lit 1))), (1, (.rd (.var 0) (.var 20000) 0)), (2, (.rd (.var 0) (.var 20000) 1)), (3, (.rd (.var 0) (.var 20000) 2)), (4, (.rd (.var 0) (.var 20000) 3)), (5, (.rd (.var 0) (.var 20000) 4)), (6, (.rd (.var 0) (.var 20000) 5)), (7, (.rd (.var 0) (.var 20000) 6)), (8, (.rd (.var 0) (.var 20000) 7)), (9, (.rd (.var 0) (.var 20000) 8)), (10, (.rd (.var 0) (.var 20000) 9)), (11, (.rd (.var 0) (.var 20000) 10)), (14, (.fn 190 (.i (.rd (.var 0) (.var 20000) 0) (.i (.rd (.var 0) (.var 20000) 1) (.i (.rd (.var 0) (.var 20000) 2) (.i (.rd (.var 0) (.var 20000) 3) (.i (.rd (.var 0) (.var 20000) 4) (.i (.rd (.var 0) (.var 20000) 5) (.i (.rd (.var 0) (.var 20000) 6) (.i (.rd (.var 0) (.var 20000) 7) (.i (.rd (.var 0) (.var 20000) 8) (.i (.rd (.var 0) (.var 20000) 9) (.i (.rd (.var 0) (.var 20000) 10) (.x (.rd (.var 0) (.var 20000) 11) (.x (.rd (.var 0) (.var 20000) 12) (.i (.var 1) (.i (.var 2) (.i (.var 3) (.x (.var 4) (.i (.var 10000) (.i (.var 6) (.i (.var 7) (.x (.var 8) (.i (.var 9) (.i (.var 10) (.x (.var 11) .nil)))))))))))))))))))))))))), (15, (.fn 191 (.i (.rd (.var 0) (.var 20000) 0) (.i (.rd (.var 0) (.var 20000) 1) (.i (.rd (.var 0) (.var 20000) 2) (.i (.rd (.var 0) (.var 20000) 3) (.i (.rd (.var 0) (.var 20000) 4) (.i (.rd (.var 0) (.var 20000) 5) (.i (.rd (.var 0) (.var 20000) 6) (.i (.rd (.var 0) (.var 20000) 7) (.i (.rd (.var 0) (.var 20000) 8) (.i (.rd (.var 0) (.var 20000) 9) (.i (.rd (.var 0) (.var 20000) 10) (.x (.rd (.var 0) (.var 20000) 11) (.x (.rd (.var 0) (.var 20000) 12) (.i (.var 1) (.i (.var 2) (.i (.var 3) (.x (.var 4) (.i (.var 10000) (.i (.var 6) (.i (.var 7) (.x (.var 8) (.i (.var 9) (.i (.var 10) (.x (.var 11) .nil))))))))))))))))))))))))))], [], [(12, (.rd (.var 0) (.var 20000) 11)), (13, (.rd (.var 0) (.var 20000) 12))]⟩)
 (.next 3 ⟨[(0, (.ar .add .i64 (.var 20000) (.lit 1))), (1, (.var 20001)), (2, (.var 20002)), (3, (.var 20003)), (4, (.var 20004)), (5, (.var 20005)), (6, (.var 20006)), (7, (.var 20007)), (8, (.var 20008)), (9, (.var 20009)), (10, (.var 20010)), (11, (.var 20011)), (14, (.var 20014)), (15, (.var 20015))], [], [(12, (.var 20012)), (13, (.var 20013))]⟩))
 (.next 3 ⟨[(0, (.ar .add .i64 (.var 20000) (.lit 1))), (1, (.var 20001)), (2, (.var 20002)), (3, (.var 20003)), (4, (.var 20004)), (5, (.var 20005)), (6, (.var 20006)), (7, (.var 20007)), (8, (.var 20008)), (9, (.var 20009)), (10, (.var 20010)), (11, (.var 20011)), (14, (.var 20014)), (15, (.var 20015))], [], [(12, (.var 20012)), (13, (.var 20013))]⟩)))))
 (.ite (.cmp .neq (.var 20015) (.lit 0))
 (.ret ((.tup [(.one (.z (.int .i64 (.var 10000)))), (.one (.z (.int .i64 (.lit 0))))]), [], 25))
 (.loop 4 23000 ⟨[(0, (.lit 0))], [], []⟩
 (.ite (.cmp .lss (.var 23000) (.len (.var 12)))
 (.ob (.tru (.cmp .leq (.lit 0) (.var 23000)))
 (.ob (.tru (.cmp .lss (.var 23000) (.len (.var 12))))
 (.ite (.cmp .eql (.fn 41 (.i (.fn 54 (.i (.var 1) (.i (.var 2) (.i (.var 3) (.x (.var 4) (.i (.var 10000) .nil)))))) (.i (.fn 55 (.i (.var 1) (.i (.var 2) (.i (.var 3) (.x (.var 4) (.i (.var 10000) .nil)))))) (.i (.fn 56 (.i (.var 1) (.i (.var 2) (.i (.var 3) (.x (.var 4) (.i (.var 10000) .nil)))))) (.i (.fn 57 (.i (.var 1) (.i (.var 2) (.i (.var 3) (.x (.var 4) (.i (.var 10000) .nil)))))) (.i (.rd (.var 12) (.var 23000) 0) (.i (.rd (.var 12) (.var 23000) 1) (.i (.rd (.var 12) (.var 23000) 2) (.i (.rd (.var 12) (.var 23000) 3) .nil))))))))) (.lit 0))
 (.ite (.cmp .geq (.var 23000) (.lit 0))
 (.ret ((.tup [(.one (.z (.int .i64 (.var 10000)))), (.one (.z (.int .i64 (.lit 0))))]), [], 25))
 (.next 2 ⟨[(0, (.ar .add .i64 (.var 10000) (.lit 1)))], [], []⟩))
 (.next 4 ⟨[(0, (.ar .add .i64 (.var 23000) (.lit 1)))], [], []⟩))))
 (.next 2 ⟨[(0, (.ar .add .i64 (.var 10000) (.lit 1)))], [], []⟩)))))))
 (.ret ((.tup [(.one (.z (.int .i64 (.lit (-1))))), (.one (.z (.int .i64 (.lit 0))))]), [], 25))))))))))
 (.ret ((.tup [(.one (.z (.int .i64 (.lit 0)))), (.one (.z (.int .i64 (.lit 1))))]), [], 7)))
 (.ret ((.tup [(.one (.z (.int .i64 (.lit 0)))), (.one (.z (.int .i64 (.lit 1))))]), [], 7)))
 (.ret ((.tup [(.one (.z (.int .i64 (.lit 0)))), (.one (.z (.int .i64 (.lit 1))))]), [], 7))))))
set_option maxRecDepth 100000 in
theorem trAgain_is : T.norm 0 (call Tryz.prog ctN9 (Lt.of []) 1000 16 (symArgs 0 [shes, psg, it, shp, tid, boxs]) [] 0) TT.ret = trAgain := by kernel_rfl
theorem trAgain_low : trAgain.low 1000 = true := by kernel_rfl
end Go.Proofs.YtkjjkckcjgkhmaaGreat
/- Chapter 40: the first leg that is not allowed any more. -/
namespace Go.Proofs.YtkjjkckcjgkhmaaGreat
open Go.RowKit
def agD (ds : List D) (k : Nat) : List D := [.l (rAt ds 0), .i (iAt ds 1), .i (iAt ds 2), .i (iAt ds 3), .l (rAt ds 4), .i k, .i (iAt ds 6), .i (iAt ds 7), .l (rAt ds 8), .i (iAt ds 9), .i (iAt ds 10), .l (rAt ds 11)]
def zk (ds : List D) (k : Nat) : List D := [.i (iAt ds 1), .i (iAt ds 2), .i (iAt ds 3), .l (rAt ds 4), .i k]
def arV (ds : List D) (i : Nat) : Bool := boxL [.i (lg (rAt ds 12) i 0), .i (lg (rAt ds 12) i 1), .i (lg (rAt ds 12) i 2), .i (lg (rAt ds 12) i 3)]
def vbN (ds : List D) : Nat → Nat → Bool
  | 0, _ => true
  | f + 1, i => arV ds i && vbN ds f (i + 1)
def anyN (ds : List D) (k : Nat) : Nat → Nat → Bool
  | 0, _ => false
  | f + 1, i => decide (meetE [.i (zoneA (zk ds k)), .i (zoneB (zk ds k)), .i (zoneC (zk ds k)), .i (zoneD (zk ds k)), .i (lg (rAt ds 12) i 0), .i (lg (rAt ds 12) i 1), .i (lg (rAt ds 12) i 2), .i (lg (rAt ds 12) i 3)] = 0) || anyN ds k f (i + 1)
def badB (ds : List D) (k : Nat) : Bool := !decide (zoneE (zk ds k) = 0) || (!decide (finE (agD ds k) (rAt ds 0).length = 0) || anyN ds k (rAt ds 12).length 0)
def agN (ds : List D) : Nat → Nat → Int
  | 0, _ => -1
  | f + 1, k => if badB ds k then k else agN ds f (k + 1)
def againO (ds : List D) : Bool := shsB (rAt ds 0) && (psgB (iAt ds 1) (iAt ds 2) (iAt ds 3) (rAt ds 4) && (decide (0 < (rAt ds 4).length) && (kevB (iAt ds 6) (iAt ds 7) (rAt ds 8) && (tideB (iAt ds 9) (iAt ds 10) (rAt ds 11) && (decide (0 ≤ iAt ds 5 ∧ iAt ds 5 ≤ (rAt ds 4).length ∧ (rAt ds 12).length ≤ 60) && vbN ds (rAt ds 12).length 0)))))
def againI (ds : List D) : Int := if againO ds then agN ds ((rAt ds 4).length - (iAt ds 5).toNat) (iAt ds 5).toNat else 0
def againE (ds : List D) : Int := if againO ds then 0 else 1
theorem N7b151 (W : World) (ds l : List D) : (envOf N7 W ds).fb 151 l = sheetL l := by simp only [envOf, N7, N6, N5, N4, N3, N2, N1, KG, KF, KE, KD, KC, KB, KA, K9, K8, K7, K6, K5, K]
theorem N7b20 (W : World) (ds l : List D) : (envOf N7 W ds).fb 20 l = psgL l := by simp only [envOf, N7, N6, N5, N4, N3, N2, N1, KG, KF, KE, KD, KC, KB, KA, K9, K8, K7, K6, K5, K]
theorem N7b144 (W : World) (ds l : List D) : (envOf N7 W ds).fb 144 l = kevL l := by simp only [envOf, N7, N6, N5, N4, N3, N2, N1, KG, KF, KE, KD, KC, KB, KA, K9, K8, K7, K6, K5, K]
theorem N7b150 (W : World) (ds l : List D) : (envOf N7 W ds).fb 150 l = tideL l := by simp only [envOf, N7, N6, N5, N4, N3, N2, N1, KG, KF, KE, KD, KC, KB, KA, K9, K8, K7, K6, K5, K]
theorem N7b31 (W : World) (ds l : List D) : (envOf N7 W ds).fb 31 l = boxL l := by simp only [envOf, N7, N6, N5, N4, N3, N2, N1, KG, KF, KE, KD, KC, KB, KA, K9, K8, K7, K6, K5, K]
theorem N7i190 (W : World) (ds l : List D) : (envOf N7 W ds).fi 190 l = legR l := by simp only [envOf, N7, N6, N5, N4, N3, N2, N1, KG, KF, KE, KD, KC, KB, KA, K9, K8, K7, K6, K5, K]
theorem N7i191 (W : World) (ds l : List D) : (envOf N7 W ds).fi 191 l = legE l := by simp only [envOf, N7, N6, N5, N4, N3, N2, N1, KG, KF, KE, KD, KC, KB, KA, K9, K8, K7, K6, K5, K]
theorem N7i58 (W : World) (ds l : List D) : (envOf N7 W ds).fi 58 l = zoneE l := by simp only [envOf, N7, N6, N5, N4, N3, N2, N1, KG, KF, KE, KD, KC, KB, KA, K9, K8, K7, K6, K5, K]
theorem N7i54 (W : World) (ds l : List D) : (envOf N7 W ds).fi 54 l = zoneA l := by simp only [envOf, N7, N6, N5, N4, N3, N2, N1, KG, KF, KE, KD, KC, KB, KA, K9, K8, K7, K6, K5, K]
theorem N7i55 (W : World) (ds l : List D) : (envOf N7 W ds).fi 55 l = zoneB l := by simp only [envOf, N7, N6, N5, N4, N3, N2, N1, KG, KF, KE, KD, KC, KB, KA, K9, K8, K7, K6, K5, K]
theorem N7i56 (W : World) (ds l : List D) : (envOf N7 W ds).fi 56 l = zoneC l := by simp only [envOf, N7, N6, N5, N4, N3, N2, N1, KG, KF, KE, KD, KC, KB, KA, K9, K8, K7, K6, K5, K]
theorem N7i57 (W : World) (ds l : List D) : (envOf N7 W ds).fi 57 l = zoneD l := by simp only [envOf, N7, N6, N5, N4, N3, N2, N1, KG, KF, KE, KD, KC, KB, KA, K9, K8, K7, K6, K5, K]
theorem N7i41 (W : World) (ds l : List D) : (envOf N7 W ds).fi 41 l = meetE l := by simp only [envOf, N7, N6, N5, N4, N3, N2, N1, KG, KF, KE, KD, KC, KB, KA, K9, K8, K7, K6, K5, K]
set_option maxHeartbeats 2000000 in
theorem gAgain : Gives Tryz.prog 16 [shes, psg, it, shp, tid, boxs] (fun ds => .tuple #[.int .i64 (againI ds), .int .i64 (againE ds)]) := by
  refine GivesIf.all (fn_gives N7 (by kernel_rfl) (fun ρ h => ctN9_ok (Sees.of h 210)) (by kernel_rfl) trAgain_is trAgain_low (by decide) (fun W vals ds hr _ => ?_))
  have hlen := shes_len hr
  simp only [trAgain, TT.sat_ret, TT.sat_ite, TT.sat_ob, TT.sat_next, TT.sat_stuck, put_i, put_b, put_d, put_fi, put_fb, put_fd, Ob.ok, B.ev, E.ev, X.ev, AL.ev, cmp_t, cmp_f, arEv, V.plain, V2.plain, S.plain, S0.plain, V.val, V2.val, S.val, S0.val, bV, iV, List.all_cons, List.all_nil, Bool.and_true, Bool.and_self, envOf_i, envOf_b, envOf_d, List.map_cons, List.map_nil, true_and, Bool.not_eq_true', Bool.not_eq_false', Bool.not_not, Bool.and_eq_true, and_f, cell_lg, cell_lb, cell_lr, cmpP, val_i, val_b, val_d, aget, Nat.reduceBEq, beq_self_eq_true, Bool.false_eq_true, if_true, if_false, Nat.reduceLT, Nat.reduceSub, Nat.sub_self, Nat.lt_irrefl]
  clear hr
  have Z : againO ds = false → Value.tuple #[.int .i64 0, .int .i64 1] = Value.tuple #[.int .i64 (againI ds), .int .i64 (againE ds)] := fun h => by unfold againI againE; rw [h]; rfl
  have Z1 : shsN (rAt ds 0) (rAt ds 0).length 0 0 = false → Value.tuple #[.int .i64 0, .int .i64 1] = Value.tuple #[.int .i64 (againI ds), .int .i64 (againE ds)] := fun h => Z (by unfold againO shsB; rw [h]; rfl)
  refine TT.sat_loop (fun v => ∃ i : Nat, v.i 1 = i ∧ i ≤ (rAt ds 0).length ∧ shsN (rAt ds 0) ((rAt ds 0).length - i) i (v.i 0) = shsN (rAt ds 0) (rAt ds 0).length 0 0) (fun v => (rAt ds 0).length - (v.i 1).toNat) ⟨0, by simp [val_i, aget, E.ev], by omega, rfl⟩ (fun v hv => ?_)
  obtain ⟨i, i0, i1, i2⟩ := hv
  have eS : [D.i (lg (rAt ds 0) i 0), .i (lg (rAt ds 0) i 1), .i (lg (rAt ds 0) i 2), .i (lg (rAt ds 0) i 3), .i (lg (rAt ds 0) i 4), .i (lg (rAt ds 0) i 5), .i (lg (rAt ds 0) i 6), .i (lg (rAt ds 0) i 7), .i (lg (rAt ds 0) i 8), .i (lg (rAt ds 0) i 9), .i (lg (rAt ds 0) i 10), .l (lr (rAt ds 0) i 11), .l (lr (rAt ds 0) i 12)] = rowSh (rAt ds 0) i := rfl
  simp only [TT.sat_ret, TT.sat_ite, TT.sat_ob, TT.sat_next, TT.sat_stuck, put_i, put_b, put_d, put_fi, put_fb, put_fd, Ob.ok, B.ev, E.ev, X.ev, AL.ev, cmp_t, cmp_f, arEv, V.plain, V2.plain, S.plain, S0.plain, V.val, V2.val, S.val, S0.val, bV, iV, List.all_cons, List.all_nil, Bool.and_true, Bool.and_self, envOf_i, envOf_b, envOf_d, List.map_cons, List.map_nil, true_and, Bool.not_eq_true', Bool.not_eq_false', Bool.not_not, Bool.and_eq_true, and_f, cell_lg, cell_lb, cell_lr, cmpP, val_i, val_b, val_d, aget, Nat.reduceBEq, beq_self_eq_true, Bool.false_eq_true, if_true, if_false, Nat.reduceLT, Nat.reduceSub, Nat.sub_self, Nat.lt_irrefl, i0, N7b151, N7b20, N7b144, N7b150, psg_four, kev_3, tide_31, eS]
  refine ⟨fun hc => ?_, fun hc => ?_⟩
  · obtain ⟨f, hf⟩ : ∃ f, (rAt ds 0).length - i = f + 1 := ⟨(rAt ds 0).length - i - 1, by omega⟩
    have hf' : (rAt ds 0).length - (i + 1) = f := by omega
    rw [hf, shsN] at i2
    rw [wrap_in ((i : Int) + 1) (by omega) (by omega)]
    refine ⟨by omega, hc, fun h => Z1 ?_, fun h => ⟨fun g => Z1 ?_, fun g => ⟨⟨i + 1, rfl, by omega, ?_⟩, by omega⟩⟩⟩
    · rw [← i2, h]; rfl
    · rw [← i2, decide_eq_false (by omega), Bool.and_false, Bool.false_and]
    · rw [hf', ← i2, h, decide_eq_true (by omega)]; rfl
  have h0 : (rAt ds 0).length - i = 0 := by omega
  rw [h0, shsN] at i2
  clear h0 hc i0 i1 eS
  have hO : againO ds = ((true && decide ((rAt ds 0).length ≤ 20)) && (psgB (iAt ds 1) (iAt ds 2) (iAt ds 3) (rAt ds 4) && (decide (0 < (rAt ds 4).length) && (kevB (iAt ds 6) (iAt ds 7) (rAt ds 8) && (tideB (iAt ds 9) (iAt ds 10) (rAt ds 11) && (decide (0 ≤ iAt ds 5 ∧ iAt ds 5 ≤ (rAt ds 4).length ∧ (rAt ds 12).length ≤ 60) && vbN ds (rAt ds 12).length 0)))))) := by
    unfold againO shsB; rw [← i2]
  have D1 : ¬ (0 ≤ iAt ds 5 ∧ iAt ds 5 ≤ (rAt ds 4).length ∧ (rAt ds 12).length ≤ 60) → Value.tuple #[.int .i64 0, .int .i64 1] = Value.tuple #[.int .i64 (againI ds), .int .i64 (againE ds)] := fun h => Z (by rw [hO, decide_eq_false h]; simp)
  refine ⟨fun h => Z ?_, fun h => ⟨fun p => ⟨fun k0 => ⟨fun q => ⟨fun t => Z ?_, fun t => ⟨fun a => D1 (by omega), fun a => ⟨fun b => D1 (by omega), fun b => ⟨fun c => D1 (by omega), fun c => ?_⟩⟩⟩⟩, fun q => Z ?_⟩, fun k0 => Z ?_⟩, fun p => Z ?_⟩⟩
  · rw [hO, decide_eq_false (p := (rAt ds 0).length ≤ 20) (by omega)]; rfl
  · rw [hO, t]; simp
  rotate_left
  · rw [hO, q]; simp
  · rw [hO, decide_eq_false (p := 0 < (rAt ds 4).length) (by omega)]; simp
  · rw [hO, p]; simp
  clear D1
  rw [p, q, t, decide_eq_true (p := (rAt ds 0).length ≤ 20) (by omega), decide_eq_true (p := 0 < (rAt ds 4).length) (by omega), decide_eq_true (p := 0 ≤ iAt ds 5 ∧ iAt ds 5 ≤ (rAt ds 4).length ∧ (rAt ds 12).length ≤ 60) (by omega)] at hO
  simp only [Bool.true_and] at hO
  have hL4 : (rAt ds 4).length ≤ 40 := by have := (psgB_iff p).2.2.1; omega
  refine TT.sat_loop (fun w => ∃ m : Nat, w.i 0 = m ∧ m ≤ (rAt ds 12).length ∧ vbN ds ((rAt ds 12).length - m) m = vbN ds (rAt ds 12).length 0) (fun w => (rAt ds 12).length - (w.i 0).toNat) ⟨0, by simp [val_i, aget, E.ev], by omega, rfl⟩ (fun w hw => ?_)
  obtain ⟨m, m0, m1, m2⟩ := hw
  have eB : boxL [D.i (lg (rAt ds 12) m 0), .i (lg (rAt ds 12) m 1), .i (lg (rAt ds 12) m 2), .i (lg (rAt ds 12) m 3)] = arV ds m := rfl
  simp only [TT.sat_ret, TT.sat_ite, TT.sat_ob, TT.sat_next, TT.sat_stuck, put_i, put_b, put_d, put_fi, put_fb, put_fd, Ob.ok, B.ev, E.ev, X.ev, AL.ev, cmp_t, cmp_f, arEv, V.plain, V2.plain, S.plain, S0.plain, V.val, V2.val, S.val, S0.val, bV, iV, List.all_cons, List.all_nil, Bool.and_true, Bool.and_self, envOf_i, envOf_b, envOf_d, List.map_cons, List.map_nil, true_and, Bool.not_eq_true', Bool.not_eq_false', Bool.not_not, Bool.and_eq_true, and_f, cell_lg, cell_lb, cell_lr, cmpP, val_i, val_b, val_d, aget, Nat.reduceBEq, beq_self_eq_true, Bool.false_eq_true, if_true, if_false, Nat.reduceLT, Nat.reduceSub, Nat.sub_self, Nat.lt_irrefl, m0, N7b31, eB]
  refine ⟨fun hc => ?_, fun hc => ?_⟩
  · obtain ⟨f, hf⟩ : ∃ f, (rAt ds 12).length - m = f + 1 := ⟨(rAt ds 12).length - m - 1, by omega⟩
    have hf' : (rAt ds 12).length - (m + 1) = f := by omega
    rw [hf, vbN] at m2
    rw [wrap_in ((m : Int) + 1) (by omega) (by omega)]
    refine ⟨by omega, hc, fun h => ⟨fun _ => Z ?_, fun g => absurd (by omega) g⟩, fun h => ⟨⟨m + 1, rfl, by omega, ?_⟩, by omega⟩⟩
    · rw [hO, ← m2, h]; rfl
    · rw [hf', ← m2, h]; rfl
  have h0 : (rAt ds 12).length - m = 0 := by omega
  rw [h0, vbN] at m2
  rw [← m2] at hO
  clear h0 hc m0 m1 m2 eB Z Z1
  have eA : againI ds = agN ds ((rAt ds 4).length - (iAt ds 5).toNat) (iAt ds 5).toNat := by unfold againI; rw [hO]; rfl
  have eE : againE ds = 0 := by unfold againE; rw [hO]; rfl
  rw [eE]
  clear eE hO
  generalize againI ds = z at *
  refine TT.sat_loop (fun x => ∃ k : Nat, x.i 0 = k ∧ k ≤ (rAt ds 4).length ∧ agN ds ((rAt ds 4).length - k) k = z) (fun x => (rAt ds 4).length - (x.i 0).toNat) ⟨(iAt ds 5).toNat, by simp only [TT.sat_ret, TT.sat_ite, TT.sat_ob, TT.sat_next, TT.sat_stuck, put_i, put_b, put_d, put_fi, put_fb, put_fd, Ob.ok, B.ev, E.ev, X.ev, AL.ev, cmp_t, cmp_f, arEv, V.plain, V2.plain, S.plain, S0.plain, V.val, V2.val, S.val, S0.val, bV, iV, List.all_cons, List.all_nil, Bool.and_true, Bool.and_self, envOf_i, envOf_b, envOf_d, List.map_cons, List.map_nil, true_and, Bool.not_eq_true', Bool.not_eq_false', Bool.not_not, Bool.and_eq_true, and_f, cell_lg, cell_lb, cell_lr, cmpP, val_i, val_b, val_d, aget, Nat.reduceBEq, beq_self_eq_true, Bool.false_eq_true, if_true, if_false, Nat.reduceLT, Nat.reduceSub, Nat.sub_self, Nat.lt_irrefl]; omega, by omega, eA.symm⟩ (fun x hx => ?_)
  obtain ⟨k, k1, k2, k3⟩ := hx
  have eZ : [D.i (iAt ds 1), .i (iAt ds 2), .i (iAt ds 3), .l (rAt ds 4), .i k] = zk ds k := rfl
  simp only [TT.sat_ret, TT.sat_ite, TT.sat_ob, TT.sat_next, TT.sat_stuck, put_i, put_b, put_d, put_fi, put_fb, put_fd, Ob.ok, B.ev, E.ev, X.ev, AL.ev, cmp_t, cmp_f, arEv, V.plain, V2.plain, S.plain, S0.plain, V.val, V2.val, S.val, S0.val, bV, iV, List.all_cons, List.all_nil, Bool.and_true, Bool.and_self, envOf_i, envOf_b, envOf_d, List.map_cons, List.map_nil, true_and, Bool.not_eq_true', Bool.not_eq_false', Bool.not_not, Bool.and_eq_true, and_f, cell_lg, cell_lb, cell_lr, cmpP, val_i, val_b, val_d, aget, Nat.reduceBEq, beq_self_eq_true, Bool.false_eq_true, if_true, if_false, Nat.reduceLT, Nat.reduceSub, Nat.sub_self, Nat.lt_irrefl, k1, N7i58, eZ]
  refine ⟨fun hc => ?_, fun hc => ?_⟩
  rotate_left
  · have h0 : (rAt ds 4).length - k = 0 := by omega
    rw [h0, agN] at k3
    rw [← k3]
  obtain ⟨f, hf⟩ : ∃ f, (rAt ds 4).length - k = f + 1 := ⟨(rAt ds 4).length - k - 1, by omega⟩
  have hf' : (rAt ds 4).length - (k + 1) = f := by omega
  rw [hf, agN] at k3
  have yes : badB ds k = true → Value.tuple #[.int .i64 (k : Int), .int .i64 0] = Value.tuple #[.int .i64 z, .int .i64 0] := fun h => by rw [← k3, if_pos h]
  refine ⟨fun h => yes (by unfold badB; rw [decide_eq_false h]; rfl), fun hz => ?_⟩
  have hz : zoneE (zk ds k) = 0 := Decidable.not_not.mp hz
  refine TT.sat_loop (fun u => ∃ j : Nat, u.i 0 = j ∧ j ≤ (rAt ds 0).length ∧ u.i 1 = finC (agD ds k) j ∧ u.i 2 = finS (agD ds k) j ∧ u.i 14 = finI (agD ds k) j ∧ u.i 15 = finE (agD ds k) j) (fun u => (rAt ds 0).length - (u.i 0).toNat)
    ⟨0, by simp [val_i, aget, E.ev], by omega, by simp [val_i, aget, E.ev, finC, finN], by simp [val_i, aget, E.ev, finS, finN], by simp [val_i, aget, E.ev, finI, finN], by simp [val_i, aget, E.ev, finE, finN]⟩ (fun u hu => ?_)
  obtain ⟨j, j0, j1, j2, j3, j4, j5⟩ := hu
  have eL : [D.i (lg (rAt ds 0) j 0), .i (lg (rAt ds 0) j 1), .i (lg (rAt ds 0) j 2), .i (lg (rAt ds 0) j 3), .i (lg (rAt ds 0) j 4), .i (lg (rAt ds 0) j 5), .i (lg (rAt ds 0) j 6), .i (lg (rAt ds 0) j 7), .i (lg (rAt ds 0) j 8), .i (lg (rAt ds 0) j 9), .i (lg (rAt ds 0) j 10), .l (lr (rAt ds 0) j 11), .l (lr (rAt ds 0) j 12), .i (iAt ds 1), .i (iAt ds 2), .i (iAt ds 3), .l (rAt ds 4), .i k, .i (iAt ds 6), .i (iAt ds 7), .l (rAt ds 8), .i (iAt ds 9), .i (iAt ds 10), .l (rAt ds 11)] = rowLeg (agD ds k) j := rfl
  simp only [TT.sat_ret, TT.sat_ite, TT.sat_ob, TT.sat_next, TT.sat_stuck, put_i, put_b, put_d, put_fi, put_fb, put_fd, Ob.ok, B.ev, E.ev, X.ev, AL.ev, cmp_t, cmp_f, arEv, V.plain, V2.plain, S.plain, S0.plain, V.val, V2.val, S.val, S0.val, bV, iV, List.all_cons, List.all_nil, Bool.and_true, Bool.and_self, envOf_i, envOf_b, envOf_d, List.map_cons, List.map_nil, true_and, Bool.not_eq_true', Bool.not_eq_false', Bool.not_not, Bool.and_eq_true, and_f, cell_lg, cell_lb, cell_lr, cmpP, val_i, val_b, val_d, aget, Nat.reduceBEq, beq_self_eq_true, Bool.false_eq_true, if_true, if_false, Nat.reduceLT, Nat.reduceSub, Nat.sub_self, Nat.lt_irrefl, j0, j2, j3, j4, j5, k1, N7i190, N7i191, eL]
  refine ⟨fun hc => ?_, fun hc => ?_⟩
  · have hj : j < (rAt ds 0).length := by omega
    have yes : (legE (rowLeg (agD ds k) j) = 0 ∨ legE (rowLeg (agD ds k) j) = 20) → finS (agD ds k) j < lg (rAt ds 0) j 1 → (∃ n : Nat, IntKind.i64.wrap ((j : Int) + 1) = n ∧ n ≤ (rAt ds 0).length ∧ lg (rAt ds 0) j 0 = finC (agD ds k) n ∧ lg (rAt ds 0) j 1 = finS (agD ds k) n ∧ legR (rowLeg (agD ds k) j) = finI (agD ds k) n ∧ legE (rowLeg (agD ds k) j) = finE (agD ds k) n) ∧ (rAt ds 0).length - (IntKind.i64.wrap ((j : Int) + 1)).toNat < (rAt ds 0).length - (j : Int).toNat := fun a b => by
      rw [wrap_in ((j : Int) + 1) (by omega) (by omega)]
      obtain ⟨e1, e2, e3, e4⟩ := fin_yes (ds := agD ds k) a b
      exact ⟨⟨j + 1, rfl, by omega, e2.symm, e1.symm, e3.symm, e4.symm⟩, by omega⟩
    have no : ¬ ((legE (rowLeg (agD ds k) j) = 0 ∨ legE (rowLeg (agD ds k) j) = 20) ∧ finS (agD ds k) j < lg (rAt ds 0) j 1) → (∃ n : Nat, IntKind.i64.wrap ((j : Int) + 1) = n ∧ n ≤ (rAt ds 0).length ∧ finC (agD ds k) j = finC (agD ds k) n ∧ finS (agD ds k) j = finS (agD ds k) n ∧ finI (agD ds k) j = finI (agD ds k) n ∧ finE (agD ds k) j = finE (agD ds k) n) ∧ (rAt ds 0).length - (IntKind.i64.wrap ((j : Int) + 1)).toNat < (rAt ds 0).length - (j : Int).toNat := fun a => by
      rw [wrap_in ((j : Int) + 1) (by omega) (by omega)]
      obtain ⟨e1, e2, e3, e4⟩ := fin_no (ds := agD ds k) a
      exact ⟨⟨j + 1, rfl, by omega, e2.symm, e1.symm, e3.symm, e4.symm⟩, by omega⟩
    refine ⟨by omega, hc, fun a => ⟨fun b => yes (.inl a) b, fun b => no (fun q => b q.2)⟩, fun a => ⟨fun a2 => ⟨fun b => yes (.inr a2) b, fun b => no (fun q => b q.2)⟩, fun a2 => no (fun q => q.1.elim a a2)⟩⟩
  obtain rfl : j = (rAt ds 0).length := by omega
  refine ⟨fun h => yes (by unfold badB; rw [decide_eq_false h, decide_eq_true hz]; rfl), fun hb => ?_⟩
  have hb : finE (agD ds k) (rAt ds 0).length = 0 := Decidable.not_not.mp hb
  have eb : badB ds k = anyN ds k (rAt ds 12).length 0 := by unfold badB; rw [hz, hb]; rfl
  clear eL j0 j1 j2 j3 j4 j5
  refine TT.sat_loop (fun y => ∃ n : Nat, y.i 0 = n ∧ n ≤ (rAt ds 12).length ∧ anyN ds k ((rAt ds 12).length - n) n = anyN ds k (rAt ds 12).length 0) (fun y => (rAt ds 12).length - (y.i 0).toNat) ⟨0, by simp [val_i, aget, E.ev], by omega, rfl⟩ (fun y hy => ?_)
  obtain ⟨n, n0, n1, n2⟩ := hy
  simp only [TT.sat_ret, TT.sat_ite, TT.sat_ob, TT.sat_next, TT.sat_stuck, put_i, put_b, put_d, put_fi, put_fb, put_fd, Ob.ok, B.ev, E.ev, X.ev, AL.ev, cmp_t, cmp_f, arEv, V.plain, V2.plain, S.plain, S0.plain, V.val, V2.val, S.val, S0.val, bV, iV, List.all_cons, List.all_nil, Bool.and_true, Bool.and_self, envOf_i, envOf_b, envOf_d, List.map_cons, List.map_nil, true_and, Bool.not_eq_true', Bool.not_eq_false', Bool.not_not, Bool.and_eq_true, and_f, cell_lg, cell_lb, cell_lr, cmpP, val_i, val_b, val_d, aget, Nat.reduceBEq, beq_self_eq_true, Bool.false_eq_true, if_true, if_false, Nat.reduceLT, Nat.reduceSub, Nat.sub_self, Nat.lt_irrefl, n0, k1, N7i54, N7i55, N7i56, N7i57, N7i41, eZ]
  refine ⟨fun hc2 => ?_, fun hc2 => ?_⟩
  · obtain ⟨f2, hf2⟩ : ∃ f, (rAt ds 12).length - n = f + 1 := ⟨(rAt ds 12).length - n - 1, by omega⟩
    have hf2' : (rAt ds 12).length - (n + 1) = f2 := by omega
    rw [hf2, anyN] at n2
    rw [wrap_in ((n : Int) + 1) (by omega) (by omega)]
    refine ⟨by omega, hc2, fun h => ⟨fun _ => yes ?_, fun g => absurd (by omega) g⟩, fun h => ⟨⟨n + 1, rfl, by omega, ?_⟩, by omega⟩⟩
    · rw [eb, ← n2, decide_eq_true h]; rfl
    · rw [hf2', ← n2, decide_eq_false h]; rfl
  · have h0 : (rAt ds 12).length - n = 0 := by omega
    rw [h0, anyN] at n2
    rw [eb, ← n2] at k3
    have k3 : agN ds f (k + 1) = z := k3
    rw [wrap_in ((k : Int) + 1) (by omega) (by omega)]
    exact ⟨⟨k + 1, rfl, by omega, by rw [hf', k3]⟩, by omega⟩
def N8 : Interp where
  fi n l := match n with | 210 => againI l | 211 => againE l | n => N7.fi n l
  fb n l := N7.fb n l
  fd _ _ := []
theorem N8_N7 {ρ : Env} (h : Sees ρ N8 220) : Sees ρ N7 210 := h.trans (by decide) fun n l hn => by
  refine ⟨?_, ?_⟩
  ·
    simp only [N8]
    split <;> first | omega | rfl
  ·
    rfl
def cAgain := ctD [shes, psg, it, shp, tid, boxs] fun al => .ret (.tup [.one (sIF 210 againI al), .one (sIF 211 againE al)])
theorem cAgain_ok {ρ : Env} (h : Sees ρ N8 220) : CtOne Tryz.prog ρ 16 cAgain :=
  ctD_ok gAgain (fun _ => rfl) (fun al => by simp only [V.val, V2.val, S.val, S0.val, sIF, sBF, List.map_cons, List.map_nil, iF_ev (s := 210) (f := againI) (fun l => by rw [(h 210 l (by decide)).1]; simp only [N8, N7, N6, N5, N4, N3, N2, N1, KG, KF, KE, KD, KC, KB, KA, K9, K8, K7, K6, K5, K]), iF_ev (s := 211) (f := againE) (fun l => by rw [(h 211 l (by decide)).1]; simp only [N8, N7, N6, N5, N4, N3, N2, N1, KG, KF, KE, KD, KC, KB, KA, K9, K8, K7, K6, K5, K])]; try rfl)
def ctN10 : Ct := (16, cAgain) :: ctN9
theorem ctN10_ok {ρ : Env} (h : Sees ρ N8 220) : CtOk Tryz.prog ρ ctN10 := .cons (cAgain_ok h) (ctN9_ok (N8_N7 h))
end Go.Proofs.YtkjjkckcjgkhmaaGreat
/- Chapter 40: trees of a sheet's digest, and of what the finest sheet says. -/
namespace Go.Proofs.YtkjjkckcjgkhmaaGreat
open Go.RowKit
def ints : Sh := .one (.sl [.int .i64])
def voyS : Sh := .agg [.int .i64, .int .i64, .int .i64, .sl legK, .int .i64, .int .i64, .sl [.int .i64], .int .i64, .int .i64, .sl [.int .i64, .int .i64]]
def cOneF := ctL [feat] 3 [.int .i64] 0 (fun al => [.tru (.fn 220 al)]) fun _ s => V.s0 s
def cAllS := ctL [shee] 3 [.int .i64] 1 (fun al => [.tru (.fn 221 al)]) fun _ s => V.s0 s
def cCoDig := ctD [ints] fun al => .ret (iV .u64 (.fn 222 al))
def ctO0 : Ct := (71, cClonePt) :: (72, cCloneSec) :: ctN10
def ctO1 : Ct := (173, cOneF) :: ctN10
def ctO2 : Ct := (119, cAllS) :: (63, cCoDig) :: ctO1
def trOne : TT OpR :=
(.ite (.cmp .eql (.var 1) (.lit 1))
 (.ob (.tru (.cmp .leq (.len (.app (.app (.row (.i (.var 0) .nil)) (.app (.row (.i (.var 1) .nil)) (.app (.row (.i (.var 7) .nil)) .nil))) (.app (.row (.i (.var 2) .nil)) (.app (.row (.i (.var 3) .nil)) (.app (.row (.i (.var 4) .nil)) (.app (.row (.i (.var 6) .nil)) .nil)))))) (.lit 1000000)))
 (.ret ((.v (.one (.z (.own 3 (.lit 0))))), [(3, (.own 3 [(.int .i64)] (.app (.app (.row (.i (.var 0) .nil)) (.app (.row (.i (.var 1) .nil)) (.app (.row (.i (.var 7) .nil)) .nil))) (.app (.row (.i (.var 2) .nil)) (.app (.row (.i (.var 3) .nil)) (.app (.row (.i (.var 4) .nil)) (.app (.row (.i (.var 6) .nil)) .nil))))) (.lit 0)))], 4)))
 (.ite (.cmp .eql (.var 1) (.lit 2))
 (.ob (.tru (.cmp .leq (.len (.app (.app (.row (.i (.var 0) .nil)) (.app (.row (.i (.var 1) .nil)) (.app (.row (.i (.var 7) .nil)) .nil))) (.app (.row (.i (.var 2) .nil)) (.app (.row (.i (.var 3) .nil)) (.app (.row (.i (.var 4) .nil)) (.app (.row (.i (.var 6) .nil)) .nil)))))) (.lit 1000000)))
 (.ret ((.v (.one (.z (.own 3 (.lit 0))))), [(3, (.own 3 [(.int .i64)] (.app (.app (.row (.i (.var 0) .nil)) (.app (.row (.i (.var 1) .nil)) (.app (.row (.i (.var 7) .nil)) .nil))) (.app (.row (.i (.var 2) .nil)) (.app (.row (.i (.var 3) .nil)) (.app (.row (.i (.var 4) .nil)) (.app (.row (.i (.var 6) .nil)) .nil))))) (.lit 0)))], 4)))
 (.ite (.cmp .eql (.var 1) (.lit 5))
 (.ob (.tru (.cmp .leq (.len (.app (.app (.row (.i (.var 0) .nil)) (.app (.row (.i (.var 1) .nil)) (.app (.row (.i (.var 7) .nil)) .nil))) (.app (.row (.i (.var 2) .nil)) (.app (.row (.i (.var 3) .nil)) (.app (.row (.i (.var 4) .nil)) (.app (.row (.i (.var 6) .nil)) .nil)))))) (.lit 1000000)))
 (.ret ((.v (.one (.z (.own 3 (.lit 0))))), [(3, (.own 3 [(.int .i64)] (.app (.app (.row (.i (.var 0) .nil)) (.app (.row (.i (.var 1) .nil)) (.app (.row (.i (.var 7) .nil)) .nil))) (.app (.row (.i (.var 2) .nil)) (.app (.row (.i (.var 3) .nil)) (.app (.row (.i (.var 4) .nil)) (.app (.row (.i (.var 6) .nil)) .nil))))) (.lit 0)))], 4)))
 (.ite (.cmp .eql (.var 1) (.lit 4))
 (.ob (.tru (.cmp .leq (.len (.app (.app (.row (.i (.var 0) .nil)) (.app (.row (.i (.var 1) .nil)) (.app (.row (.i (.var 7) .nil)) .nil))) (.app (.row (.i (.var 2) .nil)) (.app (.row (.i (.var 3) .nil)) .nil)))) (.lit 1000000)))
 (.ob (.tru (.cmp .leq (.len (.app (.app (.app (.row (.i (.var 0) .nil)) (.app (.row (.i (.var 1) .nil)) (.app (.row (.i (.var 7) .nil)) .nil))) (.app (.row (.i (.var 2) .nil)) (.app (.row (.i (.var 3) .nil)) .nil))) (.app (.row (.i (.len (.var 8)) .nil)) .nil))) (.lit 1000000)))
 (.loop 0 6000 ⟨[(0, (.lit 1)), (1, (.lit 0)), (0, (.lit 1))], [], [(2, (.app (.app (.app (.row (.i (.var 0) .nil)) (.app (.row (.i (.var 1) .nil)) (.app (.row (.i (.var 7) .nil)) .nil))) (.app (.row (.i (.var 2) .nil)) (.app (.row (.i (.var 3) .nil)) .nil))) (.app (.row (.i (.len (.var 8)) .nil)) .nil)))]⟩
 (.ite (.cmp .lss (.var 6001) (.len (.var 8)))
 (.ob (.tru (.cmp .leq (.lit 0) (.var 6001)))
 (.ob (.tru (.cmp .lss (.var 6001) (.len (.var 8))))
 (.ob (.tru (.cmp .leq (.len (.app (.var 6002) (.app (.row (.i (.rd (.var 8) (.var 6001) 0) .nil)) (.app (.row (.i (.rd (.var 8) (.var 6001) 1) .nil)) (.app (.row (.i (.rd (.var 8) (.var 6001) 2) .nil)) (.app (.row (.i (.rd (.var 8) (.var 6001) 3) .nil)) (.app (.row (.i (.rd (.var 8) (.var 6001) 4) .nil)) (.app (.row (.i (.rd (.var 8) (.var 6001) 5) .nil)) .nil)))))))) (.lit 1000000)))
 (.next 0 ⟨[(0, (.plus (.var 6000) (.lit 1))), (1, (.ar .add .i64 (.var 6001) (.lit 1))), (0, (.plus (.var 6000) (.lit 1)))], [], [(2, (.app (.var 6002) (.app (.row (.i (.rd (.var 8) (.var 6001) 0) .nil)) (.app (.row (.i (.rd (.var 8) (.var 6001) 1) .nil)) (.app (.row (.i (.rd (.var 8) (.var 6001) 2) .nil)) (.app (.row (.i (.rd (.var 8) (.var 6001) 3) .nil)) (.app (.row (.i (.rd (.var 8) (.var 6001) 4) .nil)) (.app (.row (.i (.rd (.var 8) (.var 6001) 5) .nil)) .nil))))))))]⟩))))
 (.ret ((.v (.one (.z (.own 3 (.var 6000))))), [(3, (.own 3 [(.int .i64)] (.var 6002) (.var 6000))), (3, (.own 3 [(.int .i64)] (.app (.app (.app (.row (.i (.var 0) .nil)) (.app (.row (.i (.var 1) .nil)) (.app (.row (.i (.var 7) .nil)) .nil))) (.app (.row (.i (.var 2) .nil)) (.app (.row (.i (.var 3) .nil)) .nil))) (.app (.row (.i (.len (.var 8)) .nil)) .nil)) (.lit 1))), (3, (.own 3 [(.int .i64)] (.app (.app (.row (.i (.var 0) .nil)) (.app (.row (.i (.var 1) .nil)) (.app (.row (.i (.var 7) .nil)) .nil))) (.app (.row (.i (.var 2) .nil)) (.app (.row (.i (.var 3) .nil)) .nil))) (.lit 0)))], 9))))))
 (.ob (.tru (.cmp .leq (.len (.app (.app (.row (.i (.var 0) .nil)) (.app (.row (.i (.var 1) .nil)) (.app (.row (.i (.var 7) .nil)) .nil))) (.app (.row (.i (.var 6) .nil)) .nil))) (.lit 1000000)))
 (.ob (.tru (.cmp .leq (.len (.app (.app (.app (.row (.i (.var 0) .nil)) (.app (.row (.i (.var 1) .nil)) (.app (.row (.i (.var 7) .nil)) .nil))) (.app (.row (.i (.var 6) .nil)) .nil)) (.app (.row (.i (.len (.var 5)) .nil)) .nil))) (.lit 1000000)))
 (.loop 0 6000 ⟨[(0, (.lit 1)), (1, (.lit 0)), (0, (.lit 1))], [], [(2, (.app (.app (.app (.row (.i (.var 0) .nil)) (.app (.row (.i (.var 1) .nil)) (.app (.row (.i (.var 7) .nil)) .nil))) (.app (.row (.i (.var 6) .nil)) .nil)) (.app (.row (.i (.len (.var 5)) .nil)) .nil)))]⟩
 (.ite (.cmp .lss (.var 6001) (.len (.var 5)))
 (.ob (.tru (.cmp .leq (.lit 0) (.var 6001)))
 (.ob (.tru (.cmp .lss (.var 6001) (.len (.var 5))))
 (.ob (.tru (.cmp .leq (.len (.app (.var 6002) (.app (.row (.i (.rd (.var 5) (.var 6001) 0) .nil)) (.app (.row (.i (.rd (.var 5) (.var 6001) 1) .nil)) .nil)))) (.lit 1000000)))
 (.next 0 ⟨[(0, (.plus (.var 6000) (.lit 1))), (1, (.ar .add .i64 (.var 6001) (.lit 1))), (0, (.plus (.var 6000) (.lit 1)))], [], [(2, (.app (.var 6002) (.app (.row (.i (.rd (.var 5) (.var 6001) 0) .nil)) (.app (.row (.i (.rd (.var 5) (.var 6001) 1) .nil)) .nil))))]⟩))))
 (.ret ((.v (.one (.z (.own 3 (.var 6000))))), [(3, (.own 3 [(.int .i64)] (.var 6002) (.var 6000))), (3, (.own 3 [(.int .i64)] (.app (.app (.app (.row (.i (.var 0) .nil)) (.app (.row (.i (.var 1) .nil)) (.app (.row (.i (.var 7) .nil)) .nil))) (.app (.row (.i (.var 6) .nil)) .nil)) (.app (.row (.i (.len (.var 5)) .nil)) .nil)) (.lit 1))), (3, (.own 3 [(.int .i64)] (.app (.app (.row (.i (.var 0) .nil)) (.app (.row (.i (.var 1) .nil)) (.app (.row (.i (.var 7) .nil)) .nil))) (.app (.row (.i (.var 6) .nil)) .nil)) (.lit 0)))], 9))))))))))
set_option maxRecDepth 100000 in
theorem trOne_is : T.norm 0 (call Tryz.prog ctN10 (Lt.of []) 100 173 (symArgs 0 [feat]) [] 0) TT.ret = trOne := by kernel_rfl
theorem trOne_low : trOne.low 1000 = true := by kernel_rfl
def trCoDig : TT OpR :=
(.loop 0 1000 ⟨[(0, (.ar .add .u64 (.lit 11400714819323198485) (.wr .u64 (.len (.var 0))))), (1, (.lit 0))], [], []⟩
 (.ite (.cmp .lss (.var 1001) (.len (.var 0)))
 (.ob (.tru (.cmp .leq (.lit 0) (.var 1001)))
 (.ob (.tru (.cmp .lss (.var 1001) (.len (.var 0))))
 (.next 0 ⟨[(0, (.ar .xor .u64 (.ar .mul .u64 (.ar .xor .u64 (.var 1000) (.wr .u64 (.rd (.var 0) (.var 1001) 0))) (.lit 11507291218515648293)) (.ar .shr .u64 (.ar .mul .u64 (.ar .xor .u64 (.var 1000) (.wr .u64 (.rd (.var 0) (.var 1001) 0))) (.lit 11507291218515648293)) (.lit 32)))), (1, (.ar .add .i64 (.var 1001) (.lit 1)))], [], []⟩)))
 (.ret ((.v (.one (.z (.int .u64 (.var 1000))))), [], 1))))
set_option maxRecDepth 100000 in
theorem trCoDig_is : T.norm 0 (call Tryz.prog ctN10 (Lt.of []) 100 63 (symArgs 0 [ints]) [] 0) TT.ret = trCoDig := by kernel_rfl
theorem trCoDig_low : trCoDig.low 1000 = true := by kernel_rfl
def trAllS : TT OpR :=
(.ob (.tru (.cmp .leq (.len (.app (.app (.row (.i (.var 0) .nil)) (.app (.row (.i (.var 1) .nil)) (.app (.row (.i (.var 2) .nil)) (.app (.row (.i (.var 3) .nil)) (.app (.row (.i (.var 4) .nil)) (.app (.row (.i (.var 5) .nil)) (.app (.row (.i (.var 6) .nil)) (.app (.row (.i (.var 7) .nil)) (.app (.row (.i (.var 8) .nil)) (.app (.row (.i (.var 9) .nil)) (.app (.row (.i (.var 10) .nil)) .nil))))))))))) (.app (.row (.i (.len (.var 11)) .nil)) .nil))) (.lit 1000000)))
(.loop 0 6000 ⟨[(0, (.lit 0)), (1, (.lit 0)), (0, (.lit 0))], [], [(2, (.app (.app (.row (.i (.var 0) .nil)) (.app (.row (.i (.var 1) .nil)) (.app (.row (.i (.var 2) .nil)) (.app (.row (.i (.var 3) .nil)) (.app (.row (.i (.var 4) .nil)) (.app (.row (.i (.var 5) .nil)) (.app (.row (.i (.var 6) .nil)) (.app (.row (.i (.var 7) .nil)) (.app (.row (.i (.var 8) .nil)) (.app (.row (.i (.var 9) .nil)) (.app (.row (.i (.var 10) .nil)) .nil))))))))))) (.app (.row (.i (.len (.var 11)) .nil)) .nil)))]⟩
 (.ite (.cmp .lss (.var 6001) (.len (.var 11)))
 (.ob (.tru (.cmp .leq (.lit 0) (.var 6001)))
 (.ob (.tru (.cmp .lss (.var 6001) (.len (.var 11))))
 (.ob (.tru (.cmp .leq (.len (.app (.var 6002) (.app (.row (.i (.rd (.var 11) (.var 6001) 0) .nil)) .nil))) (.lit 1000000)))
 (.next 0 ⟨[(0, (.plus (.var 6000) (.lit 1))), (1, (.ar .add .i64 (.var 6001) (.lit 1))), (0, (.plus (.var 6000) (.lit 1)))], [], [(2, (.app (.var 6002) (.app (.row (.i (.rd (.var 11) (.var 6001) 0) .nil)) .nil)))]⟩))))
 (.ob (.tru (.cmp .leq (.len (.app (.var 6002) (.app (.row (.i (.len (.var 12)) .nil)) .nil))) (.lit 1000000)))
 (.loop 1 9000 ⟨[(0, (.plus (.var 6000) (.lit 1))), (1, (.lit 0)), (0, (.plus (.var 6000) (.lit 1)))], [], [(2, (.app (.var 6002) (.app (.row (.i (.len (.var 12)) .nil)) .nil)))]⟩
 (.ite (.cmp .lss (.var 9001) (.len (.var 12)))
 (.ob (.tru (.cmp .leq (.lit 0) (.var 9001)))
 (.ob (.tru (.cmp .lss (.var 9001) (.len (.var 12))))
 (.ob (.tru (.fn 220 (.i (.rd (.var 12) (.var 9001) 0) (.i (.rd (.var 12) (.var 9001) 1) (.i (.rd (.var 12) (.var 9001) 2) (.i (.rd (.var 12) (.var 9001) 3) (.i (.rd (.var 12) (.var 9001) 4) (.x (.rd (.var 12) (.var 9001) 5) (.i (.rd (.var 12) (.var 9001) 6) (.i (.rd (.var 12) (.var 9001) 7) (.x (.rd (.var 12) (.var 9001) 8) .nil)))))))))))
 (.ob (.tru (.cmp .leq (.len (.app (.var 9002) (.fn 0 (.i (.rd (.var 12) (.var 9001) 0) (.i (.rd (.var 12) (.var 9001) 1) (.i (.rd (.var 12) (.var 9001) 2) (.i (.rd (.var 12) (.var 9001) 3) (.i (.rd (.var 12) (.var 9001) 4) (.x (.rd (.var 12) (.var 9001) 5) (.i (.rd (.var 12) (.var 9001) 6) (.i (.rd (.var 12) (.var 9001) 7) (.x (.rd (.var 12) (.var 9001) 8) .nil)))))))))))) (.lit 1000000)))
 (.next 1 ⟨[(0, (.plus (.var 9000) (.lit 1))), (1, (.ar .add .i64 (.var 9001) (.lit 1))), (0, (.plus (.var 9000) (.lit 1)))], [], [(2, (.app (.var 9002) (.fn 0 (.i (.rd (.var 12) (.var 9001) 0) (.i (.rd (.var 12) (.var 9001) 1) (.i (.rd (.var 12) (.var 9001) 2) (.i (.rd (.var 12) (.var 9001) 3) (.i (.rd (.var 12) (.var 9001) 4) (.x (.rd (.var 12) (.var 9001) 5) (.i (.rd (.var 12) (.var 9001) 6) (.i (.rd (.var 12) (.var 9001) 7) (.x (.rd (.var 12) (.var 9001) 8) .nil))))))))))))]⟩)))))
 (.ret ((.v (.one (.z (.own 4 (.var 9000))))), [(4, (.own 3 [(.int .i64)] (.var 9002) (.var 9000))), (4, (.own 3 [(.int .i64)] (.app (.var 6002) (.app (.row (.i (.len (.var 12)) .nil)) .nil)) (.plus (.var 6000) (.lit 1)))), (4, (.own 3 [(.int .i64)] (.var 6002) (.var 6000))), (4, (.own 3 [(.int .i64)] (.app (.app (.row (.i (.var 0) .nil)) (.app (.row (.i (.var 1) .nil)) (.app (.row (.i (.var 2) .nil)) (.app (.row (.i (.var 3) .nil)) (.app (.row (.i (.var 4) .nil)) (.app (.row (.i (.var 5) .nil)) (.app (.row (.i (.var 6) .nil)) (.app (.row (.i (.var 7) .nil)) (.app (.row (.i (.var 8) .nil)) (.app (.row (.i (.var 9) .nil)) (.app (.row (.i (.var 10) .nil)) .nil))))))))))) (.app (.row (.i (.len (.var 11)) .nil)) .nil)) (.lit 0)))], 11))))))))
set_option maxRecDepth 100000 in
theorem trAllS_is : T.norm 0 (call Tryz.prog ctO1 (Lt.of []) 100 119 (symArgs 0 [shee]) [] 0) TT.ret = trAllS := by kernel_rfl
theorem trAllS_low : trAllS.low 1000 = true := by kernel_rfl
def trDigest : TT OpR :=
(.ite (.not (.fn 151 (.i (.var 0) (.i (.var 1) (.i (.var 2) (.i (.var 3) (.i (.var 4) (.i (.var 5) (.i (.var 6) (.i (.var 7) (.i (.var 8) (.i (.var 9) (.i (.var 10) (.x (.var 11) (.x (.var 12) .nil)))))))))))))))
 (.ret ((.tup [(.one (.z (.int .u64 (.lit 0)))), (.one (.z (.int .i64 (.lit 1))))]), [], 2))
 (.ob (.tru (.fn 221 (.i (.var 0) (.i (.var 1) (.i (.var 2) (.i (.var 3) (.i (.var 4) (.i (.var 5) (.i (.var 6) (.i (.var 7) (.i (.var 8) (.i (.var 9) (.i (.var 10) (.x (.var 11) (.x (.var 12) .nil)))))))))))))))
 (.ret ((.tup [(.one (.z (.int .u64 (.fn 222 (.x (.fn 1 (.i (.var 0) (.i (.var 1) (.i (.var 2) (.i (.var 3) (.i (.var 4) (.i (.var 5) (.i (.var 6) (.i (.var 7) (.i (.var 8) (.i (.var 9) (.i (.var 10) (.x (.var 11) (.x (.var 12) .nil)))))))))))))) .nil))))), (.one (.z (.int .i64 (.lit 0))))]), [], 3))))
set_option maxRecDepth 100000 in
theorem trDigest_is : T.norm 0 (call Tryz.prog ctO2 (Lt.of []) 100 21 (symArgs 0 [shee]) [] 0) TT.ret = trDigest := by kernel_rfl
theorem trDigest_low : trDigest.low 1000 = true := by kernel_rfl
def trFinest : TT OpR :=
(.loop 0 9000 ⟨[(0, (.lit 0)), (1, (.lit 0)), (2, (.lit 0)), (3, (.lit 0)), (4, (.lit 0)), (5, (.lit 0)), (6, (.lit 0)), (7, (.lit 0)), (8, (.lit 0)), (9, (.lit 0)), (10, (.lit 0)), (11, (.lit 0)), (14, (.lit 0)), (15, (.lit 4))], [], [(12, .nil), (13, .nil)]⟩
 (.ite (.cmp .lss (.var 9000) (.len (.var 10)))
 (.ob (.tru (.cmp .leq (.lit 0) (.var 9000)))
 (.ob (.tru (.cmp .lss (.var 9000) (.len (.var 10))))
 (.ite (.cmp .eql (.fn 191 (.i (.rd (.var 10) (.var 9000) 0) (.i (.rd (.var 10) (.var 9000) 1) (.i (.rd (.var 10) (.var 9000) 2) (.i (.rd (.var 10) (.var 9000) 3) (.i (.rd (.var 10) (.var 9000) 4) (.i (.rd (.var 10) (.var 9000) 5) (.i (.rd (.var 10) (.var 9000) 6) (.i (.rd (.var 10) (.var 9000) 7) (.i (.rd (.var 10) (.var 9000) 8) (.i (.rd (.var 10) (.var 9000) 9) (.i (.rd (.var 10) (.var 9000) 10) (.x (.rd (.var 10) (.var 9000) 11) (.x (.rd (.var 10) (.var 9000) 12) (.i (.var 0) (.i (.var 1) (.i (.var 2) (.x (.var 3) (.i (.var 11) (.i (.var 4) (.i (.var 5) (.x (.var 6) (.i (.var 7) (.i (.var 8) (.x (.var 9) .nil))))))))))))))))))))))))) (.lit 0))
 (.ite (.cmp .gtr (.rd (.var 10) (.var 9000) 1) (.var 9002))
 (.next 0 ⟨[(0, (.ar .add .i64 (.var 9000) (.lit 1))), (1, (.rd (.var 10) (.var 9000) 0)), (2, (.rd (.var 10) (.var 9000) 1)), (3, (.rd (.var 10) (.var 9000) 2)), (4, (.rd (.var 10) (.var 9000) 3)), (5, (.rd (.var 10) (.var 9000) 4)), (6, (.rd (.var 10) (.var 9000) 5)), (7, (.rd (.var 10) (.var 9000) 6)), (8, (.rd (.var 10) (.var 9000) 7)), (9, (.rd (.var 10) (.var 9000) 8)), (10, (.rd (.var 10) (.var 9000) 9)), (11, (.rd (.var 10) (.var 9000) 10)), (14, (.fn 190 (.i (.rd (.var 10) (.var 9000) 0) (.i (.rd (.var 10) (.var 9000) 1) (.i (.rd (.var 10) (.var 9000) 2) (.i (.rd (.var 10) (.var 9000) 3) (.i (.rd (.var 10) (.var 9000) 4) (.i (.rd (.var 10) (.var 9000) 5) (.i (.rd (.var 10) (.var 9000) 6) (.i (.rd (.var 10) (.var 9000) 7) (.i (.rd (.var 10) (.var 9000) 8) (.i (.rd (.var 10) (.var 9000) 9) (.i (.rd (.var 10) (.var 9000) 10) (.x (.rd (.var 10) (.var 9000) 11) (.x (.rd (.var 10) (.var 9000) 12) (.i (.var 0) (.i (.var 1) (.i (.var 2) (.x (.var 3) (.i (.var 11) (.i (.var 4) (.i (.var 5) (.x (.var 6) (.i (.var 7) (.i (.var 8) (.x (.var 9) .nil)))))))))))))))))))))))))), (15, (.fn 191 (.i (.rd (.var 10) (.var 9000) 0) (.i (.rd (.var 10) (.var 9000) 1) (.i (.rd (.var 10) (.var 9000) 2) (.i (.rd (.var 10) (.var 9000) 3) (.i (.rd (.var 10) (.var 9000) 4) (.i (.rd (.var 10) (.var 9000) 5) (.i (.rd (.var 10) (.var 9000) 6) (.i (.rd (.var 10) (.var 9000) 7) (.i (.rd (.var 10) (.var 9000) 8) (.i (.rd (.var 10) (.var 9000) 9) (.i (.rd (.var 10) (.var 9000) 10) (.x (.rd (.var 10) (.var 9000) 11) (.x (.rd (.var 10) (.var 9000) 12) (.i (.var 0) (.i (.var 1) (.i (.var 2) (.x (.var 3) (.i (.var 11) (.i (.var 4) (.i (.var 5) (.x (.var 6) (.i (.var 7) (.i (.var 8) (.x (.var 9) .nil))))))))))))))))))))))))))], [], [(12, (.rd (.var 10) (.var 9000) 11)), (13, (.rd (.var 10) (.var 9000) 12))]⟩)
 (.next 0 ⟨[(0, (.ar .add .i64 (.var 9000) (.lit 1))), (1, (.var 9001)), (2, (.var 9002)), (3, (.var 9003)), (4, (.var 9004)), (5, (.var 9005)), (6, (.var 9006)), (7, (.var 9007)), (8, (.var 9008)), (9, (.var 9009)), (10, (.var 9010)), (11, (.var 9011)), (14, (.var 9014)), (15, (.var 9015))], [], [(12, (.var 9012)), (13, (.var 9013))]⟩))
 (.ite (.cmp .eql (.fn 191 (.i (.rd (.var 10) (.var 9000) 0) (.i (.rd (.var 10) (.var 9000) 1) (.i (.rd (.var 10) (.var 9000) 2) (.i (.rd (.var 10) (.var 9000) 3) (.i (.rd (.var 10) (.var 9000) 4) (.i (.rd (.var 10) (.var 9000) 5) (.i (.rd (.var 10) (.var 9000) 6) (.i (.rd (.var 10) (.var 9000) 7) (.i (.rd (.var 10) (.var 9000) 8) (.i (.rd (.var 10) (.var 9000) 9) (.i (.rd (.var 10) (.var 9000) 10) (.x (.rd (.var 10) (.var 9000) 11) (.x (.rd (.var 10) (.var 9000) 12) (.i (.var 0) (.i (.var 1) (.i (.var 2) (.x (.var 3) (.i (.var 11) (.i (.var 4) (.i (.var 5) (.x (.var 6) (.i (.var 7) (.i (.var 8) (.x (.var 9) .nil))))))))))))))))))))))))) (.lit 20))
 (.ite (.cmp .gtr (.rd (.var 10) (.var 9000) 1) (.var 9002))
 (.next 0 ⟨[(0, (.ar .add .i64 (.var 9000) (.lit 1))), (1, (.rd (.var 10) (.var 9000) 0)), (2, (.rd (.var 10) (.var 9000) 1)), (3, (.rd (.var 10) (.var 9000) 2)), (4, (.rd (.var 10) (.var 9000) 3)), (5, (.rd (.var 10) (.var 9000) 4)), (6, (.rd (.var 10) (.var 9000) 5)), (7, (.rd (.var 10) (.var 9000) 6)), (8, (.rd (.var 10) (.var 9000) 7)), (9, (.rd (.var 10) (.var 9000) 8)), (10, (.rd (.var 10) (.var 9000) 9)), (11, (.rd (.var 10) (.var 9000) 10)), (14, (.fn 190 (.i (.rd (.var 10) (.var 9000) 0) (.i (.rd (.var 10) (.var 9000) 1) (.i (.rd (.var 10) (.var 9000) 2) (.i (.rd (.var 10) (.var 9000) 3) (.i (.rd (.var 10) (.var 9000) 4) (.i (.rd (.var 10) (.var 9000) 5) (.i (.rd (.var 10) (.var 9000) 6) (.i (.rd (.var 10) (.var 9000) 7) (.i (.rd (.var 10) (.var 9000) 8) (.i (.rd (.var 10) (.var 9000) 9) (.i (.rd (.var 10) (.var 9000) 10) (.x (.rd (.var 10) (.var 9000) 11) (.x (.rd (.var 10) (.var 9000) 12) (.i (.var 0) (.i (.var 1) (.i (.var 2) (.x (.var 3) (.i (.var 11) (.i (.var 4) (.i (.var 5) (.x (.var 6) (.i (.var 7) (.i (.var 8) (.x (.var 9) .nil)))))))))))))))))))))))))), (15, (.fn 191 (.i (.rd (.var 10) (.var 9000) 0) (.i (.rd (.var 10) (.var 9000) 1) (.i (.rd (.var 10) (.var 9000) 2) (.i (.rd (.var 10) (.var 9000) 3) (.i (.rd (.var 10) (.var 9000) 4) (.i (.rd (.var 10) (.var 9000) 5) (.i (.rd (.var 10) (.var 9000) 6) (.i (.rd (.var 10) (.var 9000) 7) (.i (.rd (.var 10) (.var 9000) 8) (.i (.rd (.var 10) (.var 9000) 9) (.i (.rd (.var 10) (.var 9000) 10) (.x (.rd (.var 10) (.var 9000) 11) (.x (.rd (.var 10) (.var 9000) 12) (.i (.var 0) (.i (.var 1) (.i (.var 2) (.x (.var 3) (.i (.var 11) (.i (.var 4) (.i (.var 5) (.x (.var 6) (.i (.var 7) (.i (.var 8) (.x (.var 9) .nil))))))))))))))))))))))))))], [], [(12, (.rd (.var 10) (.var 9000) 11)), (13, (.rd (.var 10) (.var 9000) 12))]⟩)
 (.next 0 ⟨[(0, (.ar .add .i64 (.var 9000) (.lit 1))), (1, (.var 9001)), (2, (.var 9002)), (3, (.var 9003)), (4, (.var 9004)), (5, (.var 9005)), (6, (.var 9006)), (7, (.var 9007)), (8, (.var 9008)), (9, (.var 9009)), (10, (.var 9010)), (11, (.var 9011)), (14, (.var 9014)), (15, (.var 9015))], [], [(12, (.var 9012)), (13, (.var 9013))]⟩))
 (.next 0 ⟨[(0, (.ar .add .i64 (.var 9000) (.lit 1))), (1, (.var 9001)), (2, (.var 9002)), (3, (.var 9003)), (4, (.var 9004)), (5, (.var 9005)), (6, (.var 9006)), (7, (.var 9007)), (8, (.var 9008)), (9, (.var 9009)), (10, (.var 9010)), (11, (.var 9011)), (14, (.var 9014)), (15, (.var 9015))], [], [(12, (.var 9012)), (13, (.var 9013))]⟩)))))
 (.ret ((.v (.agg [(.z (.int .i64 (.var 9001))), (.z (.int .i64 (.var 9002))), (.z (.int .i64 (.var 9003))), (.z (.int .i64 (.var 9004))), (.z (.int .i64 (.var 9005))), (.z (.int .i64 (.var 9006))), (.z (.int .i64 (.var 9007))), (.z (.int .i64 (.var 9008))), (.z (.int .i64 (.var 9009))), (.z (.int .i64 (.var 9010))), (.z (.int .i64 (.var 9011))), (.z (.ext [(.int .i64)] (.var 9012) false)), (.z (.ext [(.int .i64), (.int .i64), (.int .i64), (.int .i64), (.int .i64), (.sl [(.int .i64), (.int .i64)]), (.int .i64), (.int .i64), (.sl [(.int .i64), (.int .i64), (.int .i64), (.int .i64), (.int .i64), (.int .i64)])] (.var 9013) false)), (.z (.int .i64 (.var 9014))), (.z (.int .i64 (.var 9015)))])), [], 11))))
set_option maxRecDepth 100000 in
theorem trFinest_is : T.norm 0 (call Tryz.prog ctO2 (Lt.of []) 1000 44 (symArgs 0 [voyS, shes, it]) [] 0) TT.ret = trFinest := by kernel_rfl
theorem trFinest_low : trFinest.low 1000 = true := by kernel_rfl
def trFind : TT OpR :=
(.ite (.not (.fn 151 (.i (.var 0) (.i (.var 1) (.i (.var 2) (.i (.var 3) (.i (.var 4) (.i (.var 5) (.i (.var 6) (.i (.var 7) (.i (.var 8) (.i (.var 9) (.i (.var 10) (.x (.var 11) (.x (.var 12) .nil)))))))))))))))
 (.ret ((.tup [(.agg [(.z (.int .i64 (.lit 0))), (.z (.int .i64 (.lit 0))), (.z (.int .i64 (.lit 0))), (.z (.int .i64 (.lit 0))), (.z (.int .i64 (.lit 0))), (.z (.const (.slice none 0 0))), (.z (.int .i64 (.lit 0))), (.z (.int .i64 (.lit 0))), (.z (.const (.slice none 0 0)))]), (.one (.z (.int .i64 (.lit 1))))]), [], 2))
 (.ite (.cmp .lss (.var 13) (.lit 1))
 (.ret ((.tup [(.agg [(.z (.int .i64 (.lit 0))), (.z (.int .i64 (.lit 0))), (.z (.int .i64 (.lit 0))), (.z (.int .i64 (.lit 0))), (.z (.int .i64 (.lit 0))), (.z (.const (.slice none 0 0))), (.z (.int .i64 (.lit 0))), (.z (.int .i64 (.lit 0))), (.z (.const (.slice none 0 0)))]), (.one (.z (.int .i64 (.lit 4))))]), [], 2))
 (.ite (.cmp .gtr (.var 13) (.lit 100000))
 (.ret ((.tup [(.agg [(.z (.int .i64 (.lit 0))), (.z (.int .i64 (.lit 0))), (.z (.int .i64 (.lit 0))), (.z (.int .i64 (.lit 0))), (.z (.int .i64 (.lit 0))), (.z (.const (.slice none 0 0))), (.z (.int .i64 (.lit 0))), (.z (.int .i64 (.lit 0))), (.z (.const (.slice none 0 0)))]), (.one (.z (.int .i64 (.lit 4))))]), [], 2))
 (.loop 0 4000 ⟨[(0, (.lit 0)), (1, (.len (.var 12)))], [], []⟩
 (.ite (.cmp .lss (.var 4000) (.var 4001))
 (.ob (.tru (.cmp .leq (.lit 0) (.wr .i64 (.ar .shr .u64 (.wr .u64 (.ar .add .i64 (.var 4000) (.var 4001))) (.lit 1)))))
 (.ob (.tru (.cmp .lss (.wr .i64 (.ar .shr .u64 (.wr .u64 (.ar .add .i64 (.var 4000) (.var 4001))) (.lit 1))) (.len (.var 12))))
 (.ite (.cmp .lss (.ar .sub .i64 (.rd (.var 12) (.wr .i64 (.ar .shr .u64 (.wr .u64 (.ar .add .i64 (.var 4000) (.var 4001))) (.lit 1))) 0) (.var 13)) (.lit 0))
 (.next 0 ⟨[(0, (.ar .add .i64 (.wr .i64 (.ar .shr .u64 (.wr .u64 (.ar .add .i64 (.var 4000) (.var 4001))) (.lit 1))) (.lit 1))), (1, (.var 4001))], [], []⟩)
 (.next 0 ⟨[(0, (.var 4000)), (1, (.wr .i64 (.ar .shr .u64 (.wr .u64 (.ar .add .i64 (.var 4000) (.var 4001))) (.lit 1))))], [], []⟩))))
 (.ite (.cmp .lss (.var 4000) (.len (.var 12)))
 (.ob (.tru (.cmp .leq (.lit 0) (.var 4000)))
 (.ob (.tru (.cmp .lss (.var 4000) (.len (.var 12))))
 (.ite (.not (.cmp .eql (.ar .sub .i64 (.rd (.var 12) (.var 4000) 0) (.var 13)) (.lit 0)))
 (.ret ((.tup [(.agg [(.z (.int .i64 (.lit 0))), (.z (.int .i64 (.lit 0))), (.z (.int .i64 (.lit 0))), (.z (.int .i64 (.lit 0))), (.z (.int .i64 (.lit 0))), (.z (.const (.slice none 0 0))), (.z (.int .i64 (.lit 0))), (.z (.int .i64 (.lit 0))), (.z (.const (.slice none 0 0)))]), (.one (.z (.int .i64 (.lit 4))))]), [], 6))
 (.ob (.tru (.cmp .leq (.lit 0) (.var 4000)))
 (.ob (.tru (.cmp .lss (.var 4000) (.len (.var 12))))
 (.ob (.tru (.cmp .leq (.len (.rd (.var 12) (.var 4000) 5)) (.lit 1000000)))
 (.ob (.tru (.cmp .leq (.len (.rd (.var 12) (.var 4000) 8)) (.lit 1000000)))
 (.ret ((.tup [(.agg [(.z (.int .i64 (.rd (.var 12) (.var 4000) 0))), (.z (.int .i64 (.rd (.var 12) (.var 4000) 1))), (.z (.int .i64 (.rd (.var 12) (.var 4000) 2))), (.z (.int .i64 (.rd (.var 12) (.var 4000) 3))), (.z (.int .i64 (.rd (.var 12) (.var 4000) 4))), (.z (.own 7 (.lit 0))), (.z (.int .i64 (.rd (.var 12) (.var 4000) 6))), (.z (.int .i64 (.rd (.var 12) (.var 4000) 7))), (.z (.own 8 (.lit 0)))]), (.one (.z (.int .i64 (.lit 0))))]), [(8, (.own 150 [(.int .i64), (.int .i64), (.int .i64), (.int .i64), (.int .i64), (.int .i64)] (.rd (.var 12) (.var 4000) 8) (.lit 0))), (7, (.own 60 [(.int .i64), (.int .i64)] (.rd (.var 12) (.var 4000) 5) (.lit 0)))], 9)))))))))
 (.ret ((.tup [(.agg [(.z (.int .i64 (.lit 0))), (.z (.int .i64 (.lit 0))), (.z (.int .i64 (.lit 0))), (.z (.int .i64 (.lit 0))), (.z (.int .i64 (.lit 0))), (.z (.const (.slice none 0 0))), (.z (.int .i64 (.lit 0))), (.z (.int .i64 (.lit 0))), (.z (.const (.slice none 0 0)))]), (.one (.z (.int .i64 (.lit 4))))]), [], 5))))))))
set_option maxRecDepth 100000 in
theorem trFind_is : T.norm 0 (call Tryz.prog ctO0 (Lt.of []) 1000 27 (symArgs 0 [shee, it]) [] 0) TT.ret = trFind := by kernel_rfl
theorem trFind_low : trFind.low 1000 = true := by kernel_rfl
end Go.Proofs.YtkjjkckcjgkhmaaGreat
/- Contracts of functions that answer with new lists, and with parts of their arguments (slices of the caller's). -/
namespace Go.Proofs.YtkjjkckcjgkhmaaGreat
open Go.RowKit

/-! ### Arguments without blocks of the call's own -/
def argE (sh : Sh) (v : V) : Option AL := match sh, v with
  | .one k, .v (.one s) => cellA0 k s
  | .agg ks, .v (.agg cs) => rowA cellA0 ks cs
  | _, _ => none
def argsE : List Sh → List V → Option AL
  | [], [] => some .nil
  | s :: sh, v :: vs => match argE s v, argsE sh vs with | some a, some b => some (a.app b) | _, _ => none
  | _, _ => none
theorem argsE_ok {ρ : Env} {σ : As} : ∀ (sh : List Sh) (args : List V) (a : AL), argsE sh args = some a → ∀ vals, DL (V.den ρ σ) args vals → repSh ρ.w sh vals (a.ev ρ)
  | [], [], a, h, vals, hd => by
    simp only [argsE, Option.some.injEq] at h
    subst h
    exact ⟨DL.nil_inv hd, by simp [AL.ev]⟩
  | s :: sh, v :: vs, a, h, vals, hd => by
    simp only [argsE] at h
    split at h
    · rename_i a1 a2 h1 h2
      simp only [Option.some.injEq] at h
      subst h
      obtain ⟨u, us, rfl, e1, e2⟩ := DL.cons_inv hd
      refine ⟨u, us, a1.ev ρ, a2.ev ρ, rfl, AL.app_ev _ _ _, ?_, argsE_ok sh vs a2 h2 us e2⟩
      unfold argE at h1
      split at h1
      · obtain ⟨d, e3, e4⟩ := cellA0_ok (W := ρ.w) (Below.refl _ _) _ _ _ h1 u e1
        exact ⟨d, e3, e4⟩
      · obtain ⟨ws, e3, rfl⟩ := e1
        exact ⟨ws, rfl, rowA_ok (cellA0_ok (W := ρ.w) (Below.refl _ _)) _ _ _ h1 ws e3⟩
      · cases h1
    · cases h
  | [], _ :: _, a, h, _, _ => by simp [argsE] at h
  | _ :: _, [], a, h, _, _ => by simp [argsE] at h

/-! ### New lists -/
structure NL where
  e : TypeId
  ks : List CK
  s : Nat
  rows : List D → Rows
def memN : List NL → AL → Nat → Mem
  | [], _, _ => []
  | l :: r, al, n => (n, .own l.e l.ks (.fn l.s al) (.lit 0)) :: memN r al (n + 1)
theorem memN_get {al : AL} : ∀ {nl : List NL} {n i : Nat}, (memN nl al n).get i = if n ≤ i then (nl[i - n]?).map fun l => Blk.own l.e l.ks (.fn l.s al) (.lit 0) else none
  | [], n, i => by simp [memN, Mem.get]
  | l :: r, n, i => by
    simp only [memN, Mem.get]
    by_cases e : n = i
    · subst e; simp
    · rw [if_neg (by simpa using e), memN_get (nl := r)]
      by_cases h : n ≤ i
      · rw [if_pos (by omega), if_pos h, show i - n = (i - (n + 1)) + 1 by omega, List.getElem?_cons_succ]
      · rw [if_neg (by omega), if_neg h]
def NewL (w0 W W' : World) (ds : List D) (l : NL) (v : Value) : Prop := ∃ xs, OwnRow W' w0.heap.size l.e l.ks.length v (l.rows ds).length xs ∧ RowsAt w0 l.ks xs (l.rows ds) ∧ (l.rows ds).length ≤ 281474976710656 ∧ (∃ a c, v = .slice a (l.rows ds).length c) ∧ ∀ k, roomOf v = some k → W.heap.size ≤ k ∧ k < W'.heap.size
structure NewLs (w0 W W' : World) (ds : List D) (nl : List NL) (vs : List Value) : Prop where
  len : vs.length = nl.length
  each : ∀ (k : Nat) (l : NL) (v : Value), nl[k]? = some l → vs[k]? = some v → NewL w0 W W' ds l v
  apart : ∀ (i j : Nat) (vi vj : Value) (a : Nat), vs[i]? = some vi → vs[j]? = some vj → roomOf vi = some a → roomOf vj = some a → i = j
def As.sayN (σ : As) (nx : Nat) (vs : List Value) : As := { σ with h := fun i m => if nx ≤ i ∧ i < nx + vs.length ∧ m = 0 then vs[i - nx]? else σ.h i m }
section
variable {P : Program} {ρ : Env} {σ : As} {nx : Nat} {vs : List Value}
theorem sayN_in {i : Nat} (h : nx ≤ i) (h2 : i < nx + vs.length) : (σ.sayN nx vs).h i 0 = vs[i - nx]? := if_pos ⟨h, h2, rfl⟩
theorem sayN_out {i : Nat} {m : Int} (h : ¬ (nx ≤ i ∧ i < nx + vs.length ∧ m = 0)) : (σ.sayN nx vs).h i m = σ.h i m := if_neg h
theorem sayN_own {i k : Nat} (h : (σ.sayN nx vs).own i k) : σ.own i k ∨ (nx ≤ i ∧ i < nx + vs.length ∧ ∃ v, vs[i - nx]? = some v ∧ roomOf v = some k) := by
  rcases h with h | ⟨m, u, h1, h2⟩
  · exact .inl (.inl h)
  · by_cases e : nx ≤ i ∧ i < nx + vs.length ∧ m = 0
    · obtain ⟨e1, e2, rfl⟩ := e
      rw [sayN_in e1 e2] at h1
      exact .inr ⟨e1, e2, u, h1, h2⟩
    · rw [sayN_out e] at h1
      exact .inl (.inr ⟨m, u, h1, h2⟩)
theorem step_sayN {mem : Mem} {W W' : World} {ds : List D} {nl : List NL} {al : AL} (hr : RelM ρ σ mem W) (hfr : ∀ i, nx ≤ i → i < nx + nl.length → ¬ σ.has i) (hb : Below W.heap.size W W') (hn : NewLs ρ.w W W' ds nl vs) (hs : ∀ l ∈ nl, (X.fn l.s al).ev ρ = l.rows ds) :
    Step ρ σ W (memN nl al nx) (σ.sayN nx vs) W' := by
  have none_h : ∀ i, nx ≤ i → i < nx + vs.length → ∀ m, σ.h i m = none := fun i h1 h2 m => by
    cases q : σ.h i m with
    | none => rfl
    | some y => exact absurd (.inr ⟨m, y, q⟩) (hfr i h1 (by rw [← hn.len]; exact h2))
  have room : ∀ i v k, vs[i]? = some v → roomOf v = some k → W.heap.size ≤ k ∧ k < W'.heap.size := fun i v k h1 h2 => by
    have hi : i < nl.length := by rw [← hn.len]; exact (List.getElem?_eq_some_iff.1 h1).1
    obtain ⟨xs, _, _, _, _, q⟩ := hn.each i nl[i] v (List.getElem?_eq_getElem hi) h1
    exact q k h2
  refine ⟨⟨fun _ _ h => h, fun i n u h => ?_⟩, hb.os, hb.tape, hb.output, hb.size, fun k hk _ => hb.block k hk, fun i hi _ => ?_, fun i a hi => ?_, fun hinj i j a hi hj => ?_, fun i b hi => ?_, Keep.of_eq (fun k hk => hb.block k hk)⟩
  · by_cases e : nx ≤ i ∧ i < nx + vs.length ∧ n = 0
    · rw [none_h i e.1 e.2.1] at h; cases h
    · rw [sayN_out e]; exact h
  · funext m
    refine sayN_out fun e => ?_
    rw [memN_get, if_pos e.1, Option.map_eq_none_iff, List.getElem?_eq_none_iff] at hi
    have := hn.len
    omega
  · rcases sayN_own hi with h | ⟨_, _, v, h1, h2⟩
    · exact .inl h
    · exact .inr (room _ _ _ h1 h2)
  · rcases sayN_own hi with h | ⟨a1, a2, v, h1, h2⟩
    · rcases sayN_own hj with h' | ⟨b1, b2, v', h1', h2'⟩
      · exact hinj i j a h h'
      · have q1 := hr.lt i a h
        have q2 := room _ _ _ h1' h2'
        omega
    · rcases sayN_own hj with h' | ⟨b1, b2, v', h1', h2'⟩
      · have q1 := hr.lt j a h'
        have q2 := room _ _ _ h1 h2
        omega
      · have q := hn.apart _ _ _ _ a h1 h1' h2 h2'
        omega
  · rw [memN_get] at hi
    by_cases hle : nx ≤ i
    · rw [if_pos hle, Option.map_eq_some_iff] at hi
      obtain ⟨l, hl, rfl⟩ := hi
      have hlt : i - nx < nl.length := (List.getElem?_eq_some_iff.1 hl).1
      have hlt' : i - nx < vs.length := by rw [hn.len]; exact hlt
      have hv := List.getElem?_eq_getElem hlt'
      obtain ⟨xs, h1, h2, h3, h4, h5⟩ := hn.each _ _ _ hl hv
      have ex : (X.fn l.s al).ev ρ = l.rows ds := hs l (List.mem_of_getElem? hl)
      refine ⟨vs[i - nx], xs, ?_, fun u hu => ?_, by rw [ex]; exact h1, by rw [ex]; exact h2.2, by rw [ex]; exact h3⟩
      · show (σ.sayN nx vs).h i 0 = _
        rw [sayN_in hle (by omega)]
        exact hv
      · have hu : (0 : Int) < u := hu
        rw [sayN_out (by omega)]
        exact none_h i hle (by omega) u
    · rw [if_neg hle] at hi; cases hi

def GivesN (P : Program) (f : FuncId) (sh : List Sh) (nl : List NL) (ok : List D → Prop) (res : World → List D → List Value → Value → Prop) : Prop :=
  ∀ (w0 W : World) (vals : List Value) (ds : List D), Below w0.heap.size w0 W → repSh w0 sh vals ds → ok ds → Calls P f vals.toArray W (fun en W' => ∃ vs u, en = .returned u ∧ res w0 ds vs u ∧ Below W.heap.size W W' ∧ NewLs w0 W W' ds nl vs)
def ctN (nl : List NL) (obs : List Ob) (out : V) (al : AL) (nx : Nat) : T OpR := T.obs obs (.ret (out, memN nl al nx, nx + nl.length))
theorem ctN_ok {f : FuncId} {sh : List Sh} {nl : List NL} {ok : List D → Prop} {res : World → List D → List Value → Value → Prop} (hg : GivesN P f sh nl ok res) {args : List V} {al : AL} (ha : argsE sh args = some al) {obs : List Ob} {out : V}
    (hobs : (∀ o ∈ obs, o.ok ρ) → ok (al.ev ρ)) (hs : ∀ l ∈ nl, ∀ a, ρ.fd l.s a = l.rows a) {q : OpR} (hq : (ctN nl obs out al nx).res ρ q)
    (hout : ∀ (σ' : As) vs u, (∀ k v, vs[k]? = some v → σ'.h (nx + k) 0 = some v ∧ ∃ a n c, v = .slice a n c) → vs.length = nl.length → res ρ.w (al.ev ρ) vs u → out.den ρ σ' u)
    {mem : Mem} {W : World} {vals : List Value} (hr : RelM ρ σ mem W) (hfr : Fr nx q.2.2 σ) (hd : DL (V.den ρ σ) args vals) : CallsIn (FR none) 0 P f vals.toArray W (RetTo ρ σ W nx q) := by
  obtain ⟨ho, hq⟩ := T.res_obs hq
  obtain rfl := res_ret hq
  have hc := hg ρ.w W vals (al.ev ρ) hr.base (argsE_ok sh args al ha vals hd) (hobs ho)
  have hw : CallsIn Fence.wide 0 P f vals.toArray W _ := callsIn_wide.2 hc
  refine CallsIn.mono (F := FR none) hw ?_
  rintro en W' ⟨vs, u, rfl, hres, hb, hn⟩
  have hstep := step_sayN (nx := nx) (al := al) hr (fun i h1 h2 => hfr i h1 h2) hb hn (fun l hl => by simp only [X.ev]; exact hs l hl _)
  refine ⟨u, σ.sayN nx vs, rfl, hout _ vs u (fun k v hk => ?_) hn.len hres, hstep, fun i hi => ?_⟩
  · have hlt : k < vs.length := (List.getElem?_eq_some_iff.1 hk).1
    have hk' : k < nl.length := by rw [← hn.len]; exact hlt
    obtain ⟨xs, _, _, _, ⟨a, c, e⟩, _⟩ := hn.each k _ v (List.getElem?_eq_getElem hk') hk
    refine ⟨?_, a, _, c, e⟩
    rw [sayN_in (by omega) (by omega), Nat.add_sub_cancel_left]
    exact hk
  · rcases hi with h | ⟨m, v, h⟩
    · exact .inl (.inl h)
    · by_cases e : nx ≤ i ∧ i < nx + vs.length ∧ m = 0
      · exact .inr ⟨e.1, by rw [hn.len] at e; exact e.2.1⟩
      · rw [sayN_out e] at h
        exact .inl (.inr ⟨m, v, h⟩)

structure LsAre (ρ : Env) (q : OpR) (nl : List NL) (ds : List D) (ss : List S0) : Prop where
  len : ss.length = nl.length
  each : ∀ (k : Nat) (l : NL) (s : S0), nl[k]? = some l → ss[k]? = some s → ∃ x, lrows q.2.1 l.e l.ks s = some x ∧ x.ev ρ = l.rows ds
  apart : ∀ (i j id : Nat) (v v' : E), ss[i]? = some (.own id v) → ss[j]? = some (.own id v') → i = j
theorem lsAre_nil {q : OpR} {ds : List D} : LsAre ρ q [] ds [] := ⟨rfl, fun k l s h => by simp at h, fun i j id v v' h => by simp at h⟩
theorem lsAre_one {q : OpR} {l : NL} {ds : List D} {s : S0} {x : X} (h : lrows q.2.1 l.e l.ks s = some x) (hx : x.ev ρ = l.rows ds) : LsAre ρ q [l] ds [s] := by
  refine ⟨rfl, fun k l' s' hk hs => ?_, fun i j id v v' hi hj => ?_⟩
  · cases k with
    | zero =>
      simp only [List.getElem?_cons_zero, Option.some.injEq] at hk hs
      subst hk hs
      exact ⟨x, h, hx⟩
    | succ k => simp at hk
  · cases i with
    | zero => cases j with
      | zero => rfl
      | succ j => simp at hj
    | succ i => simp at hi
variable {ct : Ct} {lt : Lt}
theorem fn_givesN (I : Interp) (hmix : P.follows .mixedOrders = true) (hct : ∀ ρ, ρ.has I → CtOk P ρ ct) (hce : ct.all (fun p => entersB P p.1) = true) {n : Nat} {f : FuncId} {sh : List Sh} {tr : TT OpR} (he : T.norm 0 (call P ct lt n f (symArgs 0 sh) [] 0) TT.ret = tr)
    (hlow : tr.low 1000 = true) (hsh : shLen sh ≤ 1000) {nl : List NL} {ok : List D → Prop} {res : World → List D → List Value → Value → Prop}
    (hs : ∀ w0 vals ds, repSh w0 sh vals ds → ok ds → tr.sat (envOf I w0 ds) (fun ρ q => ∃ ss, LsAre ρ q nl ds ss ∧ ∀ (σ : As) u, ρ.w = w0 → q.1.den ρ σ u → ∃ vs, DL (S0.den ρ σ) ss vs ∧ res w0 ds vs u) (fun _ _ => False)) : GivesN P f sh nl ok res := by
  intro w0 W vals ds hbase hrep hok
  obtain ⟨ρ', q, h1, ⟨ss, h2, h4⟩, _, h5⟩ := exec_flat (lt := lt) hmix (fun ρ' ha => hct ρ' ⟨ha.fi.symm, ha.fb.symm, ha.fd.symm⟩) (ctEnter_of hce) he hlow (hs w0 vals ds hrep hok) (σ := As.none) (W := W) (vals := vals)
    (fun ρ' ha => ⟨fun id b h => by simp [Mem.get] at h, fun i j a h => absurd h (none_own _ _), fun i a h => absurd h (none_own _ _), fun i a h => absurd h (none_own _ _), by rw [← ha.w]; exact hbase⟩) (fun k _ => none_has k) (fun ρ' ha => symArgs_den ha sh 0 vals [] ds rfl rfl (by omega) hrep)
  refine (callsIn_wide (n := 0)).1 ?_
  have h' : CallsIn Fence.wide 0 P f vals.toArray W (RetTo ρ' As.none W 0 q) := h5
  have hw : ρ'.w = w0 := by rw [← h1.w]; rfl
  refine CallsIn.mono h' ?_
  rintro en W' ⟨u, σ', rfl, e1, e2, e3⟩
  obtain ⟨vs, hd, hres⟩ := h4 σ' u hw e1
  have hb : Below W.heap.size W W' := ⟨e2.os, e2.tape, e2.output, e2.size, fun k hk => e2.frame k hk (fun i b _ e => none_own _ _ e)⟩
  have hinj := e2.inj (fun i j a h => absurd h (none_own _ _))
  have hl : vs.length = nl.length := by rw [← h2.len]; exact (DL.length hd).symm
  have key : ∀ (k : Nat) (l : NL) (v : Value), nl[k]? = some l → vs[k]? = some v → NewL w0 W W' ds l v ∧ ∀ a, roomOf v = some a → ∃ id ver, ss[k]? = some (S0.own id ver) ∧ σ'.own id a := fun k l v hk hv => by
    have hks : k < ss.length := by rw [h2.len]; exact (List.getElem?_eq_some_iff.1 hk).1
    have hsk := List.getElem?_eq_getElem hks
    obtain ⟨v', hv', hden⟩ := DL.get hd hsk
    obtain rfl : v' = v := by rw [hv'] at hv; exact Option.some.inj hv
    obtain ⟨x, hx1, hx2⟩ := h2.each k l _ hk hsk
    have hsk' : ∀ id ver, ss[k] = S0.own id ver → ss[k]? = some (S0.own id ver) := fun id ver e => by rw [hsk, e]
    generalize ss[k] = s at hx1 hden hsk'
    unfold lrows at hx1
    split at hx1
    · rename_i id ver
      split at hx1
      · rename_i e' ks' x' ver' hm
        split at hx1
        · rename_i hc
          simp only [Bool.and_eq_true] at hc
          obtain ⟨⟨c1, c2⟩, c3⟩ := hc
          have c1 := natb c1
          have c2 := CK.sameL_eq _ _ c2
          have c3 := E.same_eq _ _ c3
          simp only [Option.some.injEq] at hx1
          subst hx1
          obtain ⟨v2, xs, hO⟩ := e2.blk _ _ hm
          obtain ⟨⟨a, m, c, rfl⟩, e5⟩ := hden
          have hvv := hO.now
          rw [← c3, e5] at hvv
          simp only [Option.some.injEq] at hvv
          subst hvv
          have hrow := hO.row
          have hrows := hO.reps
          have hbig := hO.big
          rw [hw, ← c1, ← c2] at hrow
          rw [hw, ← c2] at hrows
          rw [hx2] at hrow hrows hbig
          have hm : m = (l.rows ds).length := by
            rcases hrow with ⟨_, h2⟩ | ⟨h2, _, b, h3⟩
            · rcases h2 with ⟨h2, h3⟩ | ⟨g, cap, cur, h2, _⟩
              · simp only [Value.slice.injEq] at h2; omega
              · simp only [Value.slice.injEq] at h2
                exact h2.2.1
            · simp only [Value.slice.injEq] at h3; omega
          have hown : ∀ k, roomOf (.slice a m c) = some k → σ'.own id k := fun k hk => .inr ⟨_, _, e5, hk⟩
          refine ⟨⟨xs, hrow, ⟨?_, hrows⟩, hbig, ⟨a, c, by rw [hm]⟩, fun k hk => ?_⟩, fun k hk => ⟨id, ver, hsk' _ _ rfl, hown k hk⟩⟩
          · rcases hrow with h | ⟨h3, h4, _⟩
            · exact h.1
            · rw [h3, h4]; simp
          · rcases e2.new id k (hown k hk) with h | h
            · exact absurd h (none_own _ _)
            · exact h
        · cases hx1
      · cases hx1
    · simp only [Option.some.injEq] at hx1
      subst hx1
      obtain rfl : v' = .slice none 0 0 := hden
      have h3 : [] = l.rows ds := by rw [← hx2]; simp [X.ev]
      refine ⟨⟨[], ?_, ?_, ?_, ⟨none, 0, ?_⟩, fun k hk => by simp [roomOf] at hk⟩, fun k hk => by simp [roomOf] at hk⟩
      · rw [← h3]; exact .inl (World.ownsRow_nil _ _ _ _)
      · rw [← h3]; exact RowsAt.nil _ _
      · rw [← h3]; simp
      · rw [← h3]; rfl
    · cases hx1
  refine ⟨vs, u, rfl, hres, hb, hl, fun k l v hk hv => (key k l v hk hv).1, fun i j vi vj a hi hj ha hb' => ?_⟩
  have hi' : i < nl.length := by rw [← hl]; exact (List.getElem?_eq_some_iff.1 hi).1
  have hj' : j < nl.length := by rw [← hl]; exact (List.getElem?_eq_some_iff.1 hj).1
  obtain ⟨id, ver, p1, p2⟩ := (key i _ vi (List.getElem?_eq_getElem hi') hi).2 a ha
  obtain ⟨id', ver', p3, p4⟩ := (key j _ vj (List.getElem?_eq_getElem hj') hj).2 a hb'
  obtain rfl := hinj _ _ _ p2 p4
  exact h2.apart _ _ _ _ _ p1 p3
end
end Go.Proofs.YtkjjkckcjgkhmaaGreat
/- Chapter 40: the digest of a sheet. -/
namespace Go.Proofs.YtkjjkckcjgkhmaaGreat
open Go.RowKit
def SeesD (ρ : Env) (I : Interp) (c : Nat) : Prop := ∀ n l, n < c → ρ.fd n l = I.fd n l
theorem SeesD.of {ρ : Env} {I : Interp} (h : ρ.has I) (c : Nat) : SeesD ρ I c := fun n l _ => by rw [h.2.2]
def n1 (x : Int) : Rows := [[.i x]]
def putN (w : Nat → Rows) : Nat → Rows
  | 0 => []
  | i + 1 => putN w i ++ w i
theorem putN_len {w : Nat → Rows} {m : Nat} {n : Nat} (h : ∀ i, i < n → (w i).length ≤ m) : ∀ i, i ≤ n → (putN w i).length ≤ m * i
  | 0, _ => Nat.zero_le _
  | i + 1, hi => by
    have := putN_len h i (by omega)
    have := h i (by omega)
    rw [putN, List.length_append, Nat.mul_succ]
    omega
def secI (r : Rows) (i : Nat) : Rows := n1 (lg r i 0) ++ (n1 (lg r i 1) ++ (n1 (lg r i 2) ++ (n1 (lg r i 3) ++ (n1 (lg r i 4) ++ (n1 (lg r i 5) ++ [])))))
def ptI (r : Rows) (i : Nat) : Rows := n1 (lg r i 0) ++ (n1 (lg r i 1) ++ [])
def feaH (ds : List D) : Rows := n1 (iAt ds 0) ++ (n1 (iAt ds 1) ++ (n1 (iAt ds 7) ++ []))
def feaR (ds : List D) : Rows :=
  if iAt ds 1 = 1 ∨ iAt ds 1 = 2 ∨ iAt ds 1 = 5 then feaH ds ++ (n1 (iAt ds 2) ++ (n1 (iAt ds 3) ++ (n1 (iAt ds 4) ++ (n1 (iAt ds 6) ++ []))))
  else if iAt ds 1 = 4 then ((feaH ds ++ (n1 (iAt ds 2) ++ (n1 (iAt ds 3) ++ []))) ++ (n1 (rAt ds 8).length ++ [])) ++ putN (secI (rAt ds 8)) (rAt ds 8).length
  else ((feaH ds ++ (n1 (iAt ds 6) ++ [])) ++ (n1 (rAt ds 5).length ++ [])) ++ putN (ptI (rAt ds 5)) (rAt ds 5).length
def feaOk (ds : List D) : Bool := decide ((rAt ds 5).length ≤ 24 ∧ (rAt ds 8).length ≤ 12)
theorem feaR_len {ds : List D} (h : feaOk ds = true) : (feaR ds).length ≤ 100 := by
  unfold feaOk at h
  rw [decide_eq_true_eq] at h
  have a := putN_len (w := secI (rAt ds 8)) (m := 6) (fun i _ => by simp [secI, n1]) _ (Nat.le_refl (rAt ds 8).length)
  have b := putN_len (w := ptI (rAt ds 5)) (m := 2) (fun i _ => by simp [ptI, n1]) _ (Nat.le_refl (rAt ds 5).length)
  unfold feaR
  split
  · simp [feaH, n1]
  · split
    · simp only [List.length_append, feaH, n1, List.length_cons, List.length_nil]; omega
    · simp only [List.length_append, feaH, n1, List.length_cons, List.length_nil]; omega
def xDisc : X := .app (.app (.row (.i (.var 0) .nil)) (.app (.row (.i (.var 1) .nil)) (.app (.row (.i (.var 7) .nil)) .nil))) (.app (.row (.i (.var 2) .nil)) (.app (.row (.i (.var 3) .nil)) (.app (.row (.i (.var 4) .nil)) (.app (.row (.i (.var 6) .nil)) .nil))))
set_option maxHeartbeats 1000000 in
theorem gOneF : GivesLIf Tryz.prog 173 [feat] 3 [.int .i64] (fun ds => feaOk ds = true) feaR (fun _ v => v) := by
  refine fn_givesL N8 (by kernel_rfl) (fun ρ h => ctN10_ok (Sees.of h 220)) (by kernel_rfl) trOne_is trOne_low (by decide) (fun W vals ds _ hok => ?_)
  unfold feaOk at hok
  rw [decide_eq_true_eq] at hok
  simp only [trOne, TT.sat_ret, TT.sat_ite, TT.sat_ob, Ob.ok, B.ev, E.ev, X.ev, AL.ev, cmp_t, cmp_f, envOf_i, envOf_d, cmpP]
  have disc : (iAt ds 1 = 1 ∨ iAt ds 1 = 2 ∨ iAt ds 1 = 5) → feaR ds = feaH ds ++ (n1 (iAt ds 2) ++ (n1 (iAt ds 3) ++ (n1 (iAt ds 4) ++ (n1 (iAt ds 6) ++ [])))) := fun h => by unfold feaR; rw [if_pos h]
  refine ⟨fun h => ⟨?_, ?_⟩, fun h1 => ⟨fun h => ⟨?_, ?_⟩, fun h2 => ⟨fun h => ⟨?_, ?_⟩, fun h5 => ⟨fun h4 => ⟨?_, ?_, ?_⟩, fun h4 => ⟨?_, ?_, ?_⟩⟩⟩⟩⟩
  · simp
  · rw [disc (.inl h)]
    exact ⟨.own 3 (.lit 0), xDisc, by kernel_rfl, rfl, fun σ u hu => ⟨u, hu, rfl⟩⟩
  · simp
  · rw [disc (.inr (.inl h))]
    exact ⟨.own 3 (.lit 0), xDisc, by kernel_rfl, rfl, fun σ u hu => ⟨u, hu, rfl⟩⟩
  · simp
  · rw [disc (.inr (.inr h))]
    exact ⟨.own 3 (.lit 0), xDisc, by kernel_rfl, rfl, fun σ u hu => ⟨u, hu, rfl⟩⟩
  · simp
  · simp
  · have e : feaR ds = ((feaH ds ++ (n1 (iAt ds 2) ++ (n1 (iAt ds 3) ++ []))) ++ (n1 (rAt ds 8).length ++ [])) ++ putN (secI (rAt ds 8)) (rAt ds 8).length := by unfold feaR; rw [if_neg (by omega), if_pos h4]
    refine TT.sat_loop (fun v => ∃ i : Nat, v.i 1 = i ∧ i ≤ (rAt ds 8).length ∧ v.d 2 = ((feaH ds ++ (n1 (iAt ds 2) ++ (n1 (iAt ds 3) ++ []))) ++ (n1 (rAt ds 8).length ++ [])) ++ putN (secI (rAt ds 8)) i) (fun v => (rAt ds 8).length - (v.i 1).toNat) ⟨0, by simp [val_i, aget, E.ev], by omega, by simp only [val_d, aget, E.ev, X.ev, AL.ev, envOf_i, envOf_d, val_d, aget, beq_self_eq_true, if_true]; rw [putN, List.append_nil]; rfl⟩ (fun v hv => ?_)
    obtain ⟨i, i0, i1, i2⟩ := hv
    have hl := putN_len (w := secI (rAt ds 8)) (m := 6) (n := (rAt ds 8).length) (fun i _ => by simp [secI, n1]) i i1
    simp only [TT.sat_ret, TT.sat_ite, TT.sat_ob, TT.sat_next, put_i, put_d, Ob.ok, B.ev, E.ev, X.ev, AL.ev, cmp_t, cmp_f, arEv, envOf_i, envOf_d, cell_lg, cmpP, val_i, val_d, aget, Nat.reduceBEq, beq_self_eq_true, Bool.false_eq_true, if_true, if_false, Nat.reduceLT, Nat.reduceSub, i0, i2]
    refine ⟨fun hc => ⟨by omega, hc, ?_, ?_⟩, fun hc => ?_⟩
    · simp only [List.length_append, feaH, n1, List.length_cons, List.length_nil]; omega
    · rw [wrap_in ((i : Int) + 1) (by omega) (by omega)]
      refine ⟨⟨i + 1, rfl, by omega, ?_⟩, by omega⟩
      rw [putN, List.append_assoc _ (putN _ i)]; rfl
    · obtain rfl : i = (rAt ds 8).length := by omega
      rw [e, ← i2]
      exact ⟨.own 3 (.var 6000), .var 6002, by kernel_rfl, rfl, fun σ u hu => ⟨u, hu, rfl⟩⟩
  · simp
  · simp
  · have e : feaR ds = ((feaH ds ++ (n1 (iAt ds 6) ++ [])) ++ (n1 (rAt ds 5).length ++ [])) ++ putN (ptI (rAt ds 5)) (rAt ds 5).length := by unfold feaR; rw [if_neg (by omega), if_neg h4]
    refine TT.sat_loop (fun v => ∃ i : Nat, v.i 1 = i ∧ i ≤ (rAt ds 5).length ∧ v.d 2 = ((feaH ds ++ (n1 (iAt ds 6) ++ [])) ++ (n1 (rAt ds 5).length ++ [])) ++ putN (ptI (rAt ds 5)) i) (fun v => (rAt ds 5).length - (v.i 1).toNat) ⟨0, by simp [val_i, aget, E.ev], by omega, by simp only [val_d, aget, E.ev, X.ev, AL.ev, envOf_i, envOf_d, val_d, aget, beq_self_eq_true, if_true]; rw [putN, List.append_nil]; rfl⟩ (fun v hv => ?_)
    obtain ⟨i, i0, i1, i2⟩ := hv
    have hl := putN_len (w := ptI (rAt ds 5)) (m := 2) (n := (rAt ds 5).length) (fun i _ => by simp [ptI, n1]) i i1
    simp only [TT.sat_ret, TT.sat_ite, TT.sat_ob, TT.sat_next, put_i, put_d, Ob.ok, B.ev, E.ev, X.ev, AL.ev, cmp_t, cmp_f, arEv, envOf_i, envOf_d, cell_lg, cmpP, val_i, val_d, aget, Nat.reduceBEq, beq_self_eq_true, Bool.false_eq_true, if_true, if_false, Nat.reduceLT, Nat.reduceSub, i0, i2]
    refine ⟨fun hc => ⟨by omega, hc, ?_, ?_⟩, fun hc => ?_⟩
    · simp only [List.length_append, feaH, n1, List.length_cons, List.length_nil]; omega
    · rw [wrap_in ((i : Int) + 1) (by omega) (by omega)]
      refine ⟨⟨i + 1, rfl, by omega, ?_⟩, by omega⟩
      rw [putN, List.append_assoc _ (putN _ i)]; rfl
    · obtain rfl : i = (rAt ds 5).length := by omega
      rw [e, ← i2]
      exact ⟨.own 3 (.var 6000), .var 6002, by kernel_rfl, rfl, fun σ u hu => ⟨u, hu, rfl⟩⟩
/-! The digest of integers -/
def digM (h x : Int) : Int := arEv .mul .u64 (arEv .xor .u64 h (IntKind.u64.wrap x)) 11507291218515648293
def digStep (h x : Int) : Int := arEv .xor .u64 (digM h x) (arEv .shr .u64 (digM h x) 32)
def digN (r : Rows) : Nat → Int
  | 0 => arEv .add .u64 11400714819323198485 (IntKind.u64.wrap r.length)
  | i + 1 => digStep (digN r i) (lg r i 0)
def digL (ds : List D) : Int := digN (rAt ds 0) (rAt ds 0).length
theorem ints_len {W : World} {vals : List Value} {ds : List D} {sh : List Sh} (h : repSh W (ints :: sh) vals ds) : (rAt ds 0).length ≤ 281474976710656 := by
  obtain ⟨v, vs', d, ds', rfl, rfl, ⟨d, rfl, h⟩, _⟩ := h
  exact list_rep h
theorem gCoDig : Gives Tryz.prog 63 [ints] (fun ds => .int .u64 (digL ds)) := by
  refine GivesIf.all (fn_gives N8 (by kernel_rfl) (fun ρ h => ctN10_ok (Sees.of h 220)) (by kernel_rfl) trCoDig_is trCoDig_low (by decide) (fun W vals ds hr _ => ?_))
  have hlen := ints_len hr
  simp only [trCoDig]
  refine TT.sat_loop (fun v => ∃ i : Nat, v.i 1 = i ∧ i ≤ (rAt ds 0).length ∧ v.i 0 = digN (rAt ds 0) i) (fun v => (rAt ds 0).length - (v.i 1).toNat) ⟨0, by simp [val_i, aget, E.ev], by omega, rfl⟩ (fun v hv => ?_)
  obtain ⟨i, i0, i1, i2⟩ := hv
  simp only [TT.sat_ret, TT.sat_ite, TT.sat_ob, TT.sat_next, put_i, put_d, Ob.ok, B.ev, E.ev, X.ev, cmp_t, cmp_f, arEv, V.plain, V2.plain, S.plain, S0.plain, V.val, V2.val, S.val, S0.val, envOf_i, envOf_d, true_and, cell_lg, cmpP, val_i, aget, Nat.reduceBEq, beq_self_eq_true, Bool.false_eq_true, if_true, if_false, Nat.reduceLT, Nat.reduceSub, Nat.sub_self, Nat.lt_irrefl, i0, i2]
  refine ⟨fun hc => ⟨by omega, hc, ?_⟩, fun hc => ?_⟩
  · rw [wrap_in ((i : Int) + 1) (by omega) (by omega)]
    refine ⟨⟨i + 1, rfl, by omega, ?_⟩, by omega⟩
    rw [digN]; unfold digStep digM; simp only [arEv]
  · obtain rfl : i = (rAt ds 0).length := by omega
    unfold digL; rfl
/-! The integers of a sheet -/
def rowFe (r : Rows) (i : Nat) : List D := [.i (lg r i 0), .i (lg r i 1), .i (lg r i 2), .i (lg r i 3), .i (lg r i 4), .l (lr r i 5), .i (lg r i 6), .i (lg r i 7), .l (lr r i 8)]
def okN (r : Rows) : Nat → Bool
  | 0 => true
  | i + 1 => okN r i && feaOk (rowFe r i)
theorem okN_at {r : Rows} : ∀ n, okN r n = true → ∀ i, i < n → feaOk (rowFe r i) = true
  | n + 1, h, i, hi => by
    rw [okN, Bool.and_eq_true] at h
    by_cases e : i = n
    · subst e; exact h.2
    · exact okN_at n h.1 i (by omega)
theorem okN_of {r : Rows} : ∀ n, (∀ i, i < n → feaOk (rowFe r i) = true) → okN r n = true
  | 0, _ => rfl
  | n + 1, h => by rw [okN, okN_of n (fun i hi => h i (by omega)), h n (by omega)]; rfl
def allOk (ds : List D) : Bool := decide ((rAt ds 11).length ≤ 200 ∧ (rAt ds 12).length ≤ 300) && okN (rAt ds 12) (rAt ds 12).length
def allH (ds : List D) : Rows := n1 (iAt ds 0) ++ (n1 (iAt ds 1) ++ (n1 (iAt ds 2) ++ (n1 (iAt ds 3) ++ (n1 (iAt ds 4) ++ (n1 (iAt ds 5) ++ (n1 (iAt ds 6) ++ (n1 (iAt ds 7) ++ (n1 (iAt ds 8) ++ (n1 (iAt ds 9) ++ (n1 (iAt ds 10) ++ []))))))))))
def doI (r : Rows) (i : Nat) : Rows := n1 (lg r i 0) ++ []
def allR (ds : List D) : Rows := ((allH ds ++ (n1 (rAt ds 11).length ++ [])) ++ putN (doI (rAt ds 11)) (rAt ds 11).length ++ (n1 (rAt ds 12).length ++ [])) ++ putN (fun i => feaR (rowFe (rAt ds 12) i)) (rAt ds 12).length
def N9 : Interp where
  fi n l := match n with | 222 => digL l | n => N8.fi n l
  fb n l := match n with | 220 => feaOk l | 221 => allOk l | n => N8.fb n l
  fd n l := match n with | 0 => feaR l | n => N8.fd n l
theorem N9_N8 {ρ : Env} (h : Sees ρ N9 230) : Sees ρ N8 220 := h.trans (by decide) fun n l hn => by
  refine ⟨?_, ?_⟩
  ·
    simp only [N9]
    split <;> first | omega | rfl
  ·
    simp only [N9]
    split <;> first | omega | rfl
theorem cOneF_ok {ρ : Env} (h : Sees ρ N9 230) (hd : SeesD ρ N9 1) : CtOne Tryz.prog ρ 173 cOneF := by
  refine ctL_ok gOneF rfl (fun l => ?_) (fun al ho => ?_) (fun al σ s v hs => hs)
  · rw [hd 0 l (by decide)]; simp only [N9]
  · have := ho _ (List.mem_singleton.2 rfl)
    simp only [Ob.ok, B.ev, (h 220 _ (by decide)).2, N9] at this
    exact this
theorem ctO1_ok {ρ : Env} (h : Sees ρ N9 230) (hd : SeesD ρ N9 1) : CtOk Tryz.prog ρ ctO1 := .cons (cOneF_ok h hd) (ctN10_ok (N9_N8 h))
theorem N9b220 (W : World) (ds l : List D) : (envOf N9 W ds).fb 220 l = feaOk l := by simp only [envOf, N9, N8, N7, N6, N5, N4, N3, N2, N1, KG, KF, KE, KD, KC, KB, KA, K9, K8, K7, K6, K5, K]
theorem N9d0 (W : World) (ds l : List D) : (envOf N9 W ds).fd 0 l = feaR l := by simp only [envOf, N9, N8, N7, N6, N5, N4, N3, N2, N1, KG, KF, KE, KD, KC, KB, KA, K9, K8, K7, K6, K5, K]
set_option maxHeartbeats 1000000 in
theorem gAllS : GivesLIf Tryz.prog 119 [shee] 3 [.int .i64] (fun ds => allOk ds = true) allR (fun _ v => v) := by
  refine fn_givesL N9 (by kernel_rfl) (fun ρ h => ctO1_ok (Sees.of h 230) (SeesD.of h 1)) (by kernel_rfl) trAllS_is trAllS_low (by decide) (fun W vals ds _ hok => ?_)
  unfold allOk at hok
  simp only [Bool.and_eq_true, decide_eq_true_eq] at hok
  obtain ⟨⟨k1, k2⟩, k3⟩ := hok
  have k3 := okN_at _ k3
  have hh : (allH ds).length = 11 := by simp [allH, n1]
  simp only [trAllS, TT.sat_ob, Ob.ok, B.ev, E.ev, X.ev, AL.ev, cmp_t, envOf_i, envOf_d, cmpP]
  refine ⟨by simp, ?_⟩
  refine TT.sat_loop (fun v => ∃ i : Nat, v.i 1 = i ∧ i ≤ (rAt ds 11).length ∧ v.d 2 = (allH ds ++ (n1 (rAt ds 11).length ++ [])) ++ putN (doI (rAt ds 11)) i) (fun v => (rAt ds 11).length - (v.i 1).toNat) ⟨0, by simp [val_i, aget, E.ev], by omega, by simp only [val_d, aget, E.ev, X.ev, AL.ev, envOf_i, envOf_d, val_d, aget, beq_self_eq_true, if_true]; rw [putN, List.append_nil]; rfl⟩ (fun v hv => ?_)
  obtain ⟨i, i0, i1, i2⟩ := hv
  have hl := putN_len (w := doI (rAt ds 11)) (m := 1) (n := (rAt ds 11).length) (fun i _ => by simp [doI, n1]) i i1
  simp only [TT.sat_ite, TT.sat_ob, TT.sat_next, put_i, put_d, Ob.ok, B.ev, E.ev, X.ev, AL.ev, cmp_t, cmp_f, arEv, envOf_i, envOf_d, cell_lg, cmpP, val_i, val_d, aget, Nat.reduceBEq, beq_self_eq_true, Bool.false_eq_true, if_true, if_false, Nat.reduceLT, Nat.reduceSub, i0, i2]
  refine ⟨fun hc => ⟨by omega, hc, ?_, ?_⟩, fun hc => ⟨?_, ?_⟩⟩
  · simp only [List.length_append, hh, n1, List.length_cons, List.length_nil]; omega
  · rw [wrap_in ((i : Int) + 1) (by omega) (by omega)]
    refine ⟨⟨i + 1, rfl, by omega, ?_⟩, by omega⟩
    rw [putN, List.append_assoc _ (putN _ i)]; rfl
  · simp only [List.length_append, hh, n1, List.length_cons, List.length_nil]; omega
  obtain rfl : i = (rAt ds 11).length := by omega
  refine TT.sat_loop (fun v => ∃ i : Nat, v.i 1 = i ∧ i ≤ (rAt ds 12).length ∧ v.d 2 = ((allH ds ++ (n1 (rAt ds 11).length ++ [])) ++ putN (doI (rAt ds 11)) (rAt ds 11).length ++ (n1 (rAt ds 12).length ++ [])) ++ putN (fun i => feaR (rowFe (rAt ds 12) i)) i) (fun v => (rAt ds 12).length - (v.i 1).toNat) ⟨0, by simp [val_i, aget, E.ev], by omega, by simp only [val_d, aget, put_d, E.ev, X.ev, AL.ev, envOf_d, val_d, aget, beq_self_eq_true, if_true, if_false, Nat.reduceLT, Nat.reduceSub, i2]; exact (List.append_nil _).symm⟩ (fun u hu => ?_)
  obtain ⟨j, j0, j1, j2⟩ := hu
  have hl2 := putN_len (w := fun i => feaR (rowFe (rAt ds 12) i)) (m := 100) (n := (rAt ds 12).length) (fun i hi => feaR_len (k3 i hi)) j j1
  have eF : [D.i (lg (rAt ds 12) j 0), .i (lg (rAt ds 12) j 1), .i (lg (rAt ds 12) j 2), .i (lg (rAt ds 12) j 3), .i (lg (rAt ds 12) j 4), .l (lr (rAt ds 12) j 5), .i (lg (rAt ds 12) j 6), .i (lg (rAt ds 12) j 7), .l (lr (rAt ds 12) j 8)] = rowFe (rAt ds 12) j := rfl
  simp only [TT.sat_ret, TT.sat_ite, TT.sat_ob, TT.sat_next, put_i, put_d, put_fb, put_fd, Ob.ok, B.ev, E.ev, X.ev, AL.ev, cmp_t, cmp_f, arEv, envOf_i, envOf_d, cell_lg, cell_lr, cmpP, val_i, val_d, aget, Nat.reduceBEq, beq_self_eq_true, Bool.false_eq_true, if_true, if_false, Nat.reduceLT, Nat.reduceSub, X.ev, j0, j2, N9b220, N9d0, eF]
  refine ⟨fun hc => ⟨by omega, hc, k3 j (by omega), ?_, ?_⟩, fun hc => ?_⟩
  · have := feaR_len (k3 j (by omega))
    simp only [List.length_append, hh, n1, List.length_cons, List.length_nil]; omega
  · rw [wrap_in ((j : Int) + 1) (by omega) (by omega)]
    refine ⟨⟨j + 1, rfl, by omega, ?_⟩, by omega⟩
    rw [putN, List.append_assoc _ (putN _ j)]
  · obtain rfl : j = (rAt ds 12).length := by omega
    exact ⟨.own 4 (.var 9000), .var 9002, by kernel_rfl, j2, fun σ u hu => ⟨u, hu, rfl⟩⟩
end Go.Proofs.YtkjjkckcjgkhmaaGreat
/- Chapter 40: the digest of a sheet; what the finest sheet says of a leg, with the sheet; a feature of a sheet. -/
namespace Go.Proofs.YtkjjkckcjgkhmaaGreat
open Go.RowKit
theorem lsAre_two {ρ : Env} {q : OpR} {l1 l2 : NL} {ds : List D} {s1 s2 : S0} {x1 x2 : X} (h1 : lrows q.2.1 l1.e l1.ks s1 = some x1) (e1 : x1.ev ρ = l1.rows ds) (h2 : lrows q.2.1 l2.e l2.ks s2 = some x2) (e2 : x2.ev ρ = l2.rows ds)
    (hne : ∀ id v v', s1 = .own id v → s2 = .own id v' → False) : LsAre ρ q [l1, l2] ds [s1, s2] := by
  refine ⟨rfl, fun k l s hk hs => ?_, fun i j id v v' hi hj => ?_⟩
  · match k with
    | 0 =>
      simp only [List.getElem?_cons_zero, Option.some.injEq] at hk hs
      subst hk hs
      exact ⟨x1, h1, e1⟩
    | 1 =>
      simp only [List.getElem?_cons_succ, List.getElem?_cons_zero, Option.some.injEq] at hk hs
      subst hk hs
      exact ⟨x2, h2, e2⟩
    | k + 2 => simp at hk
  · match i, j with
    | 0, 0 => rfl
    | 1, 1 => rfl
    | 0, 1 =>
      simp only [List.getElem?_cons_succ, List.getElem?_cons_zero, Option.some.injEq] at hi hj
      exact (hne _ _ _ hi hj).elim
    | 1, 0 =>
      simp only [List.getElem?_cons_succ, List.getElem?_cons_zero, Option.some.injEq] at hi hj
      exact (hne _ _ _ hj hi).elim
    | i + 2, _ => simp at hi
    | 0, j + 2 => simp at hj
    | 1, j + 2 => simp at hj
/-! The digest of a sheet -/
theorem secsB_le {r : Rows} (h : secsB r = true) : r.length ≤ 12 := by
  unfold secsB at h
  simp only [Bool.and_eq_true, decide_eq_true_eq] at h
  exact h.2
theorem row_feaOk {r : Rows} {i : Nat} (h : featRow r i = true) : feaOk (rowFe r i) = true := by
  have e : feaOk (rowFe r i) = decide ((lr r i 5).length ≤ 24 ∧ (lr r i 8).length ≤ 12) := rfl
  rw [e, decide_eq_true_eq]
  obtain ⟨_, _, _, _, q | q | q⟩ := featB_iff.1 h
  · omega
  · have := polyB_len q.2.1
    omega
  · have := secsB_le q.2.2.1
    omega
theorem sheet_facts {ds : List D} (h : sheetL ds = true) : (rAt ds 11).length ≤ 200 ∧ listB (rAt ds 12) = true := by
  unfold sheetL at h
  simp only [Bool.and_eq_true, decide_eq_true_eq] at h
  exact ⟨h.2.1.1, h.2.2.2⟩
theorem lis_rows {r : Rows} : ∀ (f i : Nat) (last : Int), lisN r f i last = true → ∀ k : Nat, i ≤ k → k < i + f → featRow r k = true ∧ last < lg r k 0 ∧ ∀ l : Nat, k < l → l < i + f → lg r k 0 < lg r l 0
  | 0, i, last, _, k, h1, h2 => by omega
  | f + 1, i, last, h, k, h1, h2 => by
    simp only [lisN, Bool.and_eq_true, decide_eq_true_eq] at h
    by_cases e : k = i
    · subst e
      exact ⟨h.1.1, h.1.2, fun l g1 g2 => (lis_rows f (k + 1) _ h.2 l (by omega) (by omega)).2.1⟩
    · obtain ⟨g1, g2, g3⟩ := lis_rows f (i + 1) _ h.2 k (by omega) (by omega)
      exact ⟨g1, by omega, fun l q1 q2 => g3 l q1 (by omega)⟩
theorem lis_spec {r : Rows} (h : listB r = true) : r.length ≤ 300 ∧ (∀ k : Nat, k < r.length → featRow r k = true) ∧ ∀ k l : Nat, k < l → l < r.length → lg r k 0 < lg r l 0 := by
  simp only [listB, Bool.and_eq_true, decide_eq_true_eq] at h
  exact ⟨h.2, fun k hk => (lis_rows _ 0 0 h.1 k (by omega) (by omega)).1, fun k l h1 h2 => (lis_rows _ 0 0 h.1 k (by omega) (by omega)).2.2 l h1 (by omega)⟩
theorem sheet_allOk {ds : List D} (h : sheetL ds = true) : allOk ds = true := by
  obtain ⟨h1, h2⟩ := sheet_facts h
  obtain ⟨g1, g2, _⟩ := lis_spec h2
  unfold allOk
  rw [decide_eq_true ⟨h1, g1⟩, okN_of _ (fun i hi => row_feaOk (g2 i hi))]
  rfl
def digI (ds : List D) : Int := if sheetL ds then digL [.l (allR ds)] else 0
def digE (ds : List D) : Int := if sheetL ds then 0 else 1
def N9b : Interp where
  fi n l := N9.fi n l
  fb n l := N9.fb n l
  fd n l := match n with | 1 => allR l | n => N9.fd n l
theorem N9b_N9d {ρ : Env} (h : SeesD ρ N9b 2) : SeesD ρ N9 1 := fun n l hn => by
  rw [h n l (by omega)]
  simp only [N9b]
  split <;> first | omega | rfl
theorem N9b_N9 {ρ : Env} (h : Sees ρ N9b 230) : Sees ρ N9 230 := h.trans (by decide) fun n l hn => by
  refine ⟨?_, ?_⟩
  ·
    rfl
  ·
    rfl
theorem cAllS_ok {ρ : Env} (h : Sees ρ N9 230) (hd : SeesD ρ N9b 2) : CtOne Tryz.prog ρ 119 cAllS := by
  refine ctL_ok gAllS rfl (fun l => ?_) (fun al ho => ?_) (fun al σ s v hs => hs)
  · rw [hd 1 l (by decide)]; simp only [N9b]
  · have := ho _ (List.mem_singleton.2 rfl)
    simp only [Ob.ok, B.ev, (h 221 _ (by decide)).2, N9] at this
    exact this
theorem cCoDig_ok {ρ : Env} (h : Sees ρ N9 230) : CtOne Tryz.prog ρ 63 cCoDig :=
  ctD_ok gCoDig (fun _ => rfl) (fun al => by simp only [iV, V.s0, V.val, V2.val, S.val, S0.val, E.ev, (h 222 _ (by decide)).1, N9])
theorem ctO2_ok {ρ : Env} (h : Sees ρ N9b 230) (hd : SeesD ρ N9b 2) : CtOk Tryz.prog ρ ctO2 := .cons (cAllS_ok (N9b_N9 h) hd) <| .cons (cCoDig_ok (N9b_N9 h)) (ctO1_ok (N9b_N9 h) (N9b_N9d hd))
theorem N9bb151 (W : World) (ds l : List D) : (envOf N9b W ds).fb 151 l = sheetL l := by simp only [envOf, N9b, N9, N8, N7, N6, N5, N4, N3, N2, N1, KG, KF, KE, KD, KC, KB, KA, K9, K8, K7, K6, K5, K]
theorem N9bb221 (W : World) (ds l : List D) : (envOf N9b W ds).fb 221 l = allOk l := by simp only [envOf, N9b, N9, N8, N7, N6, N5, N4, N3, N2, N1, KG, KF, KE, KD, KC, KB, KA, K9, K8, K7, K6, K5, K]
theorem N9bi222 (W : World) (ds l : List D) : (envOf N9b W ds).fi 222 l = digL l := by simp only [envOf, N9b, N9, N8, N7, N6, N5, N4, N3, N2, N1, KG, KF, KE, KD, KC, KB, KA, K9, K8, K7, K6, K5, K]
theorem N9bd1 (W : World) (ds l : List D) : (envOf N9b W ds).fd 1 l = allR l := by simp only [envOf, N9b, N9, N8, N7, N6, N5, N4, N3, N2, N1, KG, KF, KE, KD, KC, KB, KA, K9, K8, K7, K6, K5, K]
theorem N9bi190 (W : World) (ds l : List D) : (envOf N9b W ds).fi 190 l = legR l := by simp only [envOf, N9b, N9, N8, N7, N6, N5, N4, N3, N2, N1, KG, KF, KE, KD, KC, KB, KA, K9, K8, K7, K6, K5, K]
theorem N9bi191 (W : World) (ds l : List D) : (envOf N9b W ds).fi 191 l = legE l := by simp only [envOf, N9b, N9, N8, N7, N6, N5, N4, N3, N2, N1, KG, KF, KE, KD, KC, KB, KA, K9, K8, K7, K6, K5, K]
theorem gDigest : Gives Tryz.prog 21 [shee] (fun ds => .tuple #[.int .u64 (digI ds), .int .i64 (digE ds)]) := by
  refine GivesIf.all (fn_gives N9b (by kernel_rfl) (fun ρ h => ctO2_ok (Sees.of h 230) (SeesD.of h 2)) (by kernel_rfl) trDigest_is trDigest_low (by decide) (fun W vals ds hr _ => ?_))
  have e1 : ∀ f : List D → Bool, f = sheetL ∨ f = allOk → f [D.i (iAt ds 0), .i (iAt ds 1), .i (iAt ds 2), .i (iAt ds 3), .i (iAt ds 4), .i (iAt ds 5), .i (iAt ds 6), .i (iAt ds 7), .i (iAt ds 8), .i (iAt ds 9), .i (iAt ds 10), .l (rAt ds 11), .l (rAt ds 12)] = f ds := fun f hf => by rcases hf with rfl | rfl <;> rfl
  have e2 : allR [D.i (iAt ds 0), .i (iAt ds 1), .i (iAt ds 2), .i (iAt ds 3), .i (iAt ds 4), .i (iAt ds 5), .i (iAt ds 6), .i (iAt ds 7), .i (iAt ds 8), .i (iAt ds 9), .i (iAt ds 10), .l (rAt ds 11), .l (rAt ds 12)] = allR ds := rfl
  simp only [trDigest, TT.sat_ret, TT.sat_ite, TT.sat_ob, TT.sat_next, TT.sat_stuck, put_i, put_b, put_d, put_fi, put_fb, put_fd, Ob.ok, B.ev, E.ev, X.ev, AL.ev, cmp_t, cmp_f, arEv, V.plain, V2.plain, S.plain, S0.plain, V.val, V2.val, S.val, S0.val, bV, iV, List.all_cons, List.all_nil, Bool.and_true, Bool.and_self, envOf_i, envOf_b, envOf_d, List.map_cons, List.map_nil, true_and, Bool.not_eq_true', Bool.not_eq_false', Bool.not_not, Bool.and_eq_true, and_f, cell_lg, cell_lb, cell_lr, cmpP, val_i, val_b, val_d, aget, Nat.reduceBEq, beq_self_eq_true, Bool.false_eq_true, if_true, if_false, Nat.reduceLT, Nat.reduceSub, Nat.sub_self, Nat.lt_irrefl, X.ev, N9bb151, N9bb221, N9bi222, N9bd1, e1 sheetL (.inl rfl), e1 allOk (.inr rfl), e2]
  refine ⟨fun h => ?_, fun h => ⟨sheet_allOk h, ?_⟩⟩
  · have a : digI ds = 0 := by unfold digI; rw [h, if_neg (by decide)]
    have b : digE ds = 1 := by unfold digE; rw [h, if_neg (by decide)]
    rw [a, b]
  · have a : digI ds = digL [.l (allR ds)] := by unfold digI; rw [h, if_pos rfl]
    have b : digE ds = 0 := by unfold digE; rw [h, if_pos rfl]
    rw [a, b]
/-! What the finest sheet says, with the sheet -/
def fD (ds : List D) : List D := [.l (rAt ds 10), .i (iAt ds 0), .i (iAt ds 1), .i (iAt ds 2), .l (rAt ds 3), .i (iAt ds 11), .i (iAt ds 4), .i (iAt ds 5), .l (rAt ds 6), .i (iAt ds 7), .i (iAt ds 8), .l (rAt ds 9)]
def finJ (ds : List D) (i j : Nat) : Int := if finN ds i < 0 then 0 else lg (rAt ds 0) (finN ds i) j
def finX (ds : List D) (i j : Nat) : Rows := if finN ds i < 0 then [] else lr (rAt ds 0) (finN ds i) j
def fiJ : List D → Int
  | .i j :: ds => finJ (fD ds) (rAt ds 10).length j.toNat
  | _ => 0
def fiI (ds : List D) : Int := finI (fD ds) (rAt ds 10).length
def fiE (ds : List D) : Int := finE (fD ds) (rAt ds 10).length
def fiX (ds : List D) : Rows := finX (fD ds) (rAt ds 10).length 11
def fiY (ds : List D) : Rows := finX (fD ds) (rAt ds 10).length 12
theorem fin_go {ds : List D} {i : Nat} (h : legE (rowLeg ds i) = 0 ∨ legE (rowLeg ds i) = 20) (h1 : finJ ds i 1 < lg (rAt ds 0) i 1) : (∀ j, finJ ds (i + 1) j = lg (rAt ds 0) i j) ∧ (∀ j, finX ds (i + 1) j = lr (rAt ds 0) i j) ∧ finI ds (i + 1) = legR (rowLeg ds i) ∧ finE ds (i + 1) = legE (rowLeg ds i) := by
  have e : finN ds (i + 1) = i := by rw [finN]; exact if_pos ⟨h, h1⟩
  obtain ⟨_, _, e3, e4⟩ := fin_yes h h1
  refine ⟨fun j => ?_, fun j => ?_, e3, e4⟩
  · unfold finJ; rw [e, if_neg (by omega)]
  · unfold finX; rw [e, if_neg (by omega)]
theorem fin_stay {ds : List D} {i : Nat} (h : ¬ ((legE (rowLeg ds i) = 0 ∨ legE (rowLeg ds i) = 20) ∧ finJ ds i 1 < lg (rAt ds 0) i 1)) : (∀ j, finJ ds (i + 1) j = finJ ds i j) ∧ (∀ j, finX ds (i + 1) j = finX ds i j) ∧ finI ds (i + 1) = finI ds i ∧ finE ds (i + 1) = finE ds i := by
  have e : finN ds (i + 1) = finN ds i := by rw [finN]; exact if_neg h
  obtain ⟨_, _, e3, e4⟩ := fin_no h
  exact ⟨fun j => by unfold finJ; rw [e], fun j => by unfold finX; rw [e], e3, e4⟩
theorem voy_len {W : World} {vals : List Value} {ds : List D} {sh : List Sh} (h : repSh W (voyS :: shes :: sh) vals ds) : (rAt ds 10).length ≤ 281474976710656 := by
  obtain ⟨v, vs', d, ds', rfl, rfl, ⟨us, rfl, h0⟩, h⟩ := h
  have hl : d.length = 10 := (reps_len h0).2
  obtain ⟨v, vs', d2, ds2, rfl, rfl, ⟨d2, rfl, h⟩, _⟩ := h
  have := list_rep h
  have e : rAt (d ++ ([d2] ++ ds2)) 10 = d2.rows := by
    unfold rAt
    rw [List.getD_eq_getElem?_getD, List.getElem?_append_right (by omega)]
    simp [hl]
  rw [e]; exact this
theorem N8i190 (W : World) (ds l : List D) : (envOf N8 W ds).fi 190 l = legR l := by simp only [envOf, N8, N7, N6, N5, N4, N3, N2, N1, KG, KF, KE, KD, KC, KB, KA, K9, K8, K7, K6, K5, K]
theorem N8i191 (W : World) (ds l : List D) : (envOf N8 W ds).fi 191 l = legE l := by simp only [envOf, N8, N7, N6, N5, N4, N3, N2, N1, KG, KF, KE, KD, KC, KB, KA, K9, K8, K7, K6, K5, K]
def finRes (w0 : World) (ds : List D) (_vs : List Value) (u : Value) : Prop := ∃ d f, u = .agg #[.int .i64 (fiJ (.i 0 :: ds)), .int .i64 (fiJ (.i 1 :: ds)), .int .i64 (fiJ (.i 2 :: ds)), .int .i64 (fiJ (.i 3 :: ds)), .int .i64 (fiJ (.i 4 :: ds)), .int .i64 (fiJ (.i 5 :: ds)), .int .i64 (fiJ (.i 6 :: ds)), .int .i64 (fiJ (.i 7 :: ds)), .int .i64 (fiJ (.i 8 :: ds)), .int .i64 (fiJ (.i 9 :: ds)), .int .i64 (fiJ (.i 10 :: ds)), d, f, .int .i64 (fiI ds), .int .i64 (fiE ds)] ∧ Sl w0 [.int .i64] d (fiX ds) false ∧ Sl w0 featK f (fiY ds) false
set_option maxHeartbeats 1000000 in
theorem gFinest : GivesN Tryz.prog 44 [voyS, shes, it] [] (fun _ => True) finRes := by
  refine fn_givesN N9b (by kernel_rfl) (fun ρ h => ctO2_ok (Sees.of h 230) (SeesD.of h 2)) (by kernel_rfl) trFinest_is trFinest_low (by decide) (fun w0 vals ds hr _ => ?_)
  have hlen := voy_len hr
  simp only [trFinest]
  refine TT.sat_loop (fun v => ∃ i : Nat, v.i 0 = i ∧ i ≤ (rAt ds 10).length ∧ v.i 1 = finJ (fD ds) i 0 ∧ v.i 2 = finJ (fD ds) i 1 ∧ v.i 3 = finJ (fD ds) i 2 ∧ v.i 4 = finJ (fD ds) i 3 ∧ v.i 5 = finJ (fD ds) i 4 ∧ v.i 6 = finJ (fD ds) i 5 ∧ v.i 7 = finJ (fD ds) i 6 ∧ v.i 8 = finJ (fD ds) i 7 ∧ v.i 9 = finJ (fD ds) i 8 ∧ v.i 10 = finJ (fD ds) i 9 ∧ v.i 11 = finJ (fD ds) i 10 ∧ v.d 12 = finX (fD ds) i 11 ∧ v.d 13 = finX (fD ds) i 12 ∧ v.i 14 = finI (fD ds) i ∧ v.i 15 = finE (fD ds) i) (fun v => (rAt ds 10).length - (v.i 0).toNat) ⟨0, by simp [val_i, aget, E.ev], by omega, rfl, rfl, rfl, rfl, rfl, rfl, rfl, rfl, rfl, rfl, rfl, rfl, rfl, rfl, rfl⟩ (fun v hv => ?_)
  obtain ⟨i, i0, i1, c1, c2, c3, c4, c5, c6, c7, c8, c9, c10, c11, i3, i4, i5, i6⟩ := hv
  have eL : [D.i (lg (rAt ds 10) i 0), .i (lg (rAt ds 10) i 1), .i (lg (rAt ds 10) i 2), .i (lg (rAt ds 10) i 3), .i (lg (rAt ds 10) i 4), .i (lg (rAt ds 10) i 5), .i (lg (rAt ds 10) i 6), .i (lg (rAt ds 10) i 7), .i (lg (rAt ds 10) i 8), .i (lg (rAt ds 10) i 9), .i (lg (rAt ds 10) i 10), .l (lr (rAt ds 10) i 11), .l (lr (rAt ds 10) i 12), .i (iAt ds 0), .i (iAt ds 1), .i (iAt ds 2), .l (rAt ds 3), .i (iAt ds 11), .i (iAt ds 4), .i (iAt ds 5), .l (rAt ds 6), .i (iAt ds 7), .i (iAt ds 8), .l (rAt ds 9)] = rowLeg (fD ds) i := rfl
  simp only [TT.sat_ret, TT.sat_ite, TT.sat_ob, TT.sat_next, TT.sat_stuck, put_i, put_b, put_d, put_fi, put_fb, put_fd, Ob.ok, B.ev, E.ev, X.ev, AL.ev, cmp_t, cmp_f, arEv, V.plain, V2.plain, S.plain, S0.plain, V.val, V2.val, S.val, S0.val, bV, iV, List.all_cons, List.all_nil, Bool.and_true, Bool.and_self, envOf_i, envOf_b, envOf_d, List.map_cons, List.map_nil, true_and, Bool.not_eq_true', Bool.not_eq_false', Bool.not_not, Bool.and_eq_true, and_f, cell_lg, cell_lb, cell_lr, cmpP, val_i, val_b, val_d, aget, Nat.reduceBEq, beq_self_eq_true, Bool.false_eq_true, if_true, if_false, Nat.reduceLT, Nat.reduceSub, Nat.sub_self, Nat.lt_irrefl, i0, i3, i4, i5, i6, c1, c2, c3, c4, c5, c6, c7, c8, c9, c10, c11, N9bi190, N9bi191, eL]
  refine ⟨fun hc => ?_, fun hc => ?_⟩
  · have hw : IntKind.i64.wrap ((i : Int) + 1) = (i + 1 : Nat) := by rw [wrap_in ((i : Int) + 1) (by omega) (by omega)]; rfl
    have eR : ∀ j : Nat, lg (rAt ds 10) i j = lg (rAt (fD ds) 0) i j := fun _ => rfl
    have yes : (legE (rowLeg (fD ds) i) = 0 ∨ legE (rowLeg (fD ds) i) = 20) → finJ (fD ds) i 1 < lg (rAt ds 10) i 1 → _ := fun a b => fin_go (ds := fD ds) a b
    have no := fin_stay (ds := fD ds) (i := i)
    refine ⟨by omega, hc, fun a => ⟨fun b => ?_, fun b => ?_⟩, fun a => ⟨fun a2 => ⟨fun b => ?_, fun b => ?_⟩, fun a2 => ?_⟩⟩
    · obtain ⟨e1, e2, e3, e4⟩ := yes (.inl a) b
      exact ⟨⟨i + 1, hw, by omega, (e1 0).symm, (e1 1).symm, (e1 2).symm, (e1 3).symm, (e1 4).symm, (e1 5).symm, (e1 6).symm, (e1 7).symm, (e1 8).symm, (e1 9).symm, (e1 10).symm, (e2 11).symm, (e2 12).symm, e3.symm, e4.symm⟩, by rw [hw]; omega⟩
    · obtain ⟨e1, e2, e3, e4⟩ := no (fun q => b q.2)
      exact ⟨⟨i + 1, hw, by omega, (e1 0).symm, (e1 1).symm, (e1 2).symm, (e1 3).symm, (e1 4).symm, (e1 5).symm, (e1 6).symm, (e1 7).symm, (e1 8).symm, (e1 9).symm, (e1 10).symm, (e2 11).symm, (e2 12).symm, e3.symm, e4.symm⟩, by rw [hw]; omega⟩
    · obtain ⟨e1, e2, e3, e4⟩ := yes (.inr a2) b
      exact ⟨⟨i + 1, hw, by omega, (e1 0).symm, (e1 1).symm, (e1 2).symm, (e1 3).symm, (e1 4).symm, (e1 5).symm, (e1 6).symm, (e1 7).symm, (e1 8).symm, (e1 9).symm, (e1 10).symm, (e2 11).symm, (e2 12).symm, e3.symm, e4.symm⟩, by rw [hw]; omega⟩
    · obtain ⟨e1, e2, e3, e4⟩ := no (fun q => b q.2)
      exact ⟨⟨i + 1, hw, by omega, (e1 0).symm, (e1 1).symm, (e1 2).symm, (e1 3).symm, (e1 4).symm, (e1 5).symm, (e1 6).symm, (e1 7).symm, (e1 8).symm, (e1 9).symm, (e1 10).symm, (e2 11).symm, (e2 12).symm, e3.symm, e4.symm⟩, by rw [hw]; omega⟩
    · obtain ⟨e1, e2, e3, e4⟩ := no (fun q => q.1.elim a a2)
      exact ⟨⟨i + 1, hw, by omega, (e1 0).symm, (e1 1).symm, (e1 2).symm, (e1 3).symm, (e1 4).symm, (e1 5).symm, (e1 6).symm, (e1 7).symm, (e1 8).symm, (e1 9).symm, (e1 10).symm, (e2 11).symm, (e2 12).symm, e3.symm, e4.symm⟩, by rw [hw]; omega⟩
  · obtain rfl : i = (rAt ds 10).length := by omega
    refine ⟨[], lsAre_nil, fun σ u hw hu => ⟨[], trivial, ?_⟩⟩
    obtain ⟨us, hu, rfl⟩ := hu
    obtain ⟨u0, us, rfl, h0, hu⟩ := DL.cons_inv hu
    obtain ⟨u1, us, rfl, h1, hu⟩ := DL.cons_inv hu
    obtain ⟨u2, us, rfl, h2, hu⟩ := DL.cons_inv hu
    obtain ⟨u3, us, rfl, h3, hu⟩ := DL.cons_inv hu
    obtain ⟨u4, us, rfl, h4, hu⟩ := DL.cons_inv hu
    obtain ⟨u5, us, rfl, h5, hu⟩ := DL.cons_inv hu
    obtain ⟨u6, us, rfl, h6, hu⟩ := DL.cons_inv hu
    obtain ⟨u7, us, rfl, h7, hu⟩ := DL.cons_inv hu
    obtain ⟨u8, us, rfl, h8, hu⟩ := DL.cons_inv hu
    obtain ⟨u9, us, rfl, h9, hu⟩ := DL.cons_inv hu
    obtain ⟨u10, us, rfl, h10, hu⟩ := DL.cons_inv hu
    obtain ⟨u11, us, rfl, h11, hu⟩ := DL.cons_inv hu
    obtain ⟨u12, us, rfl, h12, hu⟩ := DL.cons_inv hu
    obtain ⟨u13, us, rfl, h13, hu⟩ := DL.cons_inv hu
    obtain ⟨u14, us, rfl, h14, hu⟩ := DL.cons_inv hu
    obtain rfl := DL.nil_inv hu
    refine ⟨u11, u12, ?_, ?_, ?_⟩
    · obtain rfl : u0 = .int .i64 (v.i 1) := h0
      obtain rfl : u1 = .int .i64 (v.i 2) := h1
      obtain rfl : u2 = .int .i64 (v.i 3) := h2
      obtain rfl : u3 = .int .i64 (v.i 4) := h3
      obtain rfl : u4 = .int .i64 (v.i 5) := h4
      obtain rfl : u5 = .int .i64 (v.i 6) := h5
      obtain rfl : u6 = .int .i64 (v.i 7) := h6
      obtain rfl : u7 = .int .i64 (v.i 8) := h7
      obtain rfl : u8 = .int .i64 (v.i 9) := h8
      obtain rfl : u9 = .int .i64 (v.i 10) := h9
      obtain rfl : u10 = .int .i64 (v.i 11) := h10
      obtain rfl : u13 = .int .i64 (v.i 14) := h13
      obtain rfl : u14 = .int .i64 (v.i 15) := h14
      rw [c1, c2, c3, c4, c5, c6, c7, c8, c9, c10, c11, i5, i6]
      rfl
    · have h11 : Sl ((envOf N9b w0 ds).put 9000 v).w [.int .i64] u11 (v.d 12) false := h11
      rw [i3] at h11; exact h11
    · have h12 : Sl ((envOf N9b w0 ds).put 9000 v).w featK u12 (v.d 13) false := h12
      rw [i4] at h12; exact h12
/-! Contracts -/
def N9c : Interp where
  fi n l := match n with | 233 => digI l | 234 => digE l | 230 => fiJ l | 231 => fiI l | 232 => fiE l | n => N9b.fi n l
  fb n l := N9b.fb n l
  fd n l := match n with | 2 => fiX l | 3 => fiY l | n => N9b.fd n l
theorem N9c_N9bd {ρ : Env} (h : SeesD ρ N9c 4) : SeesD ρ N9b 2 := fun n l hn => by
  rw [h n l (by omega)]
  simp only [N9c]
  split <;> first | omega | rfl
theorem N9c_N9b {ρ : Env} (h : Sees ρ N9c 240) : Sees ρ N9b 230 := h.trans (by decide) fun n l hn => by
  refine ⟨?_, ?_⟩
  ·
    simp only [N9c]
    split <;> first | omega | rfl
  ·
    rfl
def cDigest := ctD [shee] fun al => .ret (.tup [.one (.z (.int .u64 (.fn 233 al))), .one (.z (.int .i64 (.fn 234 al)))])
theorem cDigest_ok {ρ : Env} (h : Sees ρ N9c 240) : CtOne Tryz.prog ρ 21 cDigest :=
  ctD_ok gDigest (fun _ => rfl) (fun al => by simp only [V.val, V2.val, S.val, S0.val, E.ev, List.map_cons, List.map_nil, (h 233 _ (by decide)).1, (h 234 _ (by decide)).1, N9c])
def jS (j : Int) (al : AL) : S := .z (.int .i64 (.fn 230 (.i (.lit j) al)))
def cFinest (args : List V) (_mem : Mem) (nx : Nat) : T OpR := match argsE [voyS, shes, it] args with
  | some al => ctN [] [] (.v (.agg [jS 0 al, jS 1 al, jS 2 al, jS 3 al, jS 4 al, jS 5 al, jS 6 al, jS 7 al, jS 8 al, jS 9 al, jS 10 al, .z (.ext [.int .i64] (.fn 2 al) false), .z (.ext featK (.fn 3 al) false), .z (.int .i64 (.fn 231 al)), .z (.int .i64 (.fn 232 al))])) al nx
  | none => .stuck "finest"
theorem cFinest_ok {ρ : Env} (h : Sees ρ N9c 240) (hd : SeesD ρ N9c 4) : CtOne Tryz.prog ρ 44 cFinest := by
  intro args mem nx q hq hle σ W vals hr hfr hdl
  unfold cFinest at hq
  split at hq
  · rename_i al ha
    refine ctN_ok gFinest ha (fun _ => trivial) (fun l hl a => by cases hl) hq (fun σ' vs u hv hl hres => ?_) hr hfr hdl
    obtain ⟨d, f, rfl, h1, h2⟩ := hres
    have ej : ∀ (j : Int), (jS j al).den ρ σ' (.int .i64 (fiJ (.i j :: al.ev ρ))) := fun j => by
      show Value.int .i64 _ = .int .i64 (ρ.fi 230 (.i j :: al.ev ρ))
      rw [(h 230 _ (by decide)).1]; simp only [N9c]
    have e1 : (X.fn 2 al).ev ρ = fiX (al.ev ρ) := by simp only [X.ev]; rw [hd 2 _ (by decide)]; simp only [N9c]
    have e2 : (X.fn 3 al).ev ρ = fiY (al.ev ρ) := by simp only [X.ev]; rw [hd 3 _ (by decide)]; simp only [N9c]
    have e3 : Value.int .i64 (fiI (al.ev ρ)) = .int .i64 ((E.fn 231 al).ev ρ) := by simp only [E.ev]; rw [(h 231 _ (by decide)).1]; simp only [N9c]
    have e4 : Value.int .i64 (fiE (al.ev ρ)) = .int .i64 ((E.fn 232 al).ev ρ) := by simp only [E.ev]; rw [(h 232 _ (by decide)).1]; simp only [N9c]
    refine ⟨[_, _, _, _, _, _, _, _, _, _, _, d, f, _, _], ⟨ej 0, ej 1, ej 2, ej 3, ej 4, ej 5, ej 6, ej 7, ej 8, ej 9, ej 10, ?_, ?_, e3, e4, trivial⟩, rfl⟩
    · show Sl ρ.w [.int .i64] d ((X.fn 2 al).ev ρ) false
      rw [e1]; exact h1
    · show Sl ρ.w featK f ((X.fn 3 al).ev ρ) false
      rw [e2]; exact h2
  · exact hq.elim
def ctO3 : Ct := (44, cFinest) :: (21, cDigest) :: ctO2
theorem ctO3_ok {ρ : Env} (h : Sees ρ N9c 240) (hd : SeesD ρ N9c 4) : CtOk Tryz.prog ρ ctO3 := .cons (cFinest_ok h hd) <| .cons (cDigest_ok h) (ctO2_ok (N9c_N9b h) (N9c_N9bd hd))
end Go.Proofs.YtkjjkckcjgkhmaaGreat
