/- LRep, merged: TVw, Vw. -/
import Derived.Test.YtldbejmgalhdaaaGreatLEqu
import Derived.Test.YtldbejmgalhdaaaGreatLTru
set_option linter.unusedSimpArgs false
set_option linter.unusedVariables false
/- Chapter 09: the tree of the law SurveyReplaced. -/
namespace Go.Proofs.YtldbejmgalhdaaaGreat
open Go.RowKit
def u8s : Sh := .one (.int .u8)
def trLawRep : TT OpR :=
(.ite (.cmp .leq (.len (.var 0)) (.lit 16))
 (.ite (.not (.cmp .leq (.len (.var 1)) (.lit 12)))
 (.ret ((.v (.one (.z (.bool (.lit true))))), [], 4))
 (.ite (.cmp .eql (.len (.var 0)) (.lit 0))
 (.ret ((.v (.one (.z (.bool (.lit true))))), [], 4))
 (.ite (.cmp .neq (.fn 160 (.x (.var 0) (.x (.var 1) .nil))) (.lit 0))
 (.ret ((.v (.one (.z (.bool (.lit true))))), [], 4))
 (.ob (.tru (.cmp .neq (.len (.var 0)) (.lit 0)))
 (.ob (.tru (.cmp .leq (.lit 0) (.ar .rem .i64 (.wr .i64 (.var 2)) (.len (.var 0)))))
 (.ob (.tru (.cmp .lss (.ar .rem .i64 (.wr .i64 (.var 2)) (.len (.var 0))) (.len (.var 0))))
 (.ite (.fn 160 (.x (.fn 1 (.x (.var 0) (.x (.var 1) .nil))) (.i (.rd (.var 0) (.ar .rem .i64 (.wr .i64 (.var 2)) (.len (.var 0))) 0) .nil)))
 (.ret ((.v (.one (.z (.bool (.lit true))))), [], 4))
 (.ob (.tru (.lit true))
 (.ob (.tru (.cmp .leq (.lit 0) (.ar .rem .i64 (.wr .i64 (.var 2)) (.len (.var 0)))))
 (.ob (.tru (.cmp .leq (.ar .rem .i64 (.wr .i64 (.var 2)) (.len (.var 0))) (.len (.var 0))))
 (.ob (.tru (.cmp .leq (.len (.sub (.var 0) (.lit 0) (.ar .rem .i64 (.wr .i64 (.var 2)) (.len (.var 0))))) (.lit 1000000)))
 (.ob (.tru (.cmp .leq (.lit 0) (.ar .add .i64 (.ar .rem .i64 (.wr .i64 (.var 2)) (.len (.var 0))) (.lit 1))))
 (.ob (.tru (.cmp .leq (.ar .add .i64 (.ar .rem .i64 (.wr .i64 (.var 2)) (.len (.var 0))) (.lit 1)) (.len (.var 0))))
 (.ob (.tru (.lit true))
 (.ob (.tru (.cmp .leq (.len (.app (.sub (.var 0) (.lit 0) (.ar .rem .i64 (.wr .i64 (.var 2)) (.len (.var 0)))) (.sub (.var 0) (.ar .add .i64 (.ar .rem .i64 (.wr .i64 (.var 2)) (.len (.var 0))) (.lit 1)) (.len (.var 0))))) (.lit 1000000)))
 (.ite (.not (.fn 150 (.x (.var 0) (.x (.var 1) .nil))))
 (.ite (.not (.fn 150 (.x (.app (.sub (.var 0) (.lit 0) (.ar .rem .i64 (.wr .i64 (.var 2)) (.len (.var 0)))) (.sub (.var 0) (.ar .add .i64 (.ar .rem .i64 (.wr .i64 (.var 2)) (.len (.var 0))) (.lit 1)) (.len (.var 0)))) (.x (.var 1) .nil))))
 (.ite (.cmp .eql (.fn 160 (.x (.app (.sub (.var 0) (.lit 0) (.ar .rem .i64 (.wr .i64 (.var 2)) (.len (.var 0)))) (.sub (.var 0) (.ar .add .i64 (.ar .rem .i64 (.wr .i64 (.var 2)) (.len (.var 0))) (.lit 1)) (.len (.var 0)))) (.x (.var 1) .nil))) (.lit 0))
 (.ret ((.v (.one (.z (.bool (.lit false))))), [], 12))
 (.ret ((.v (.one (.z (.bool (.lit false))))), [], 12)))
 (.ob (.tru (.cmp .leq (.len (.var 1)) (.lit 1000000)))
 (.ob (.tru (.cmp .leq (.len (.app (.sub (.var 0) (.lit 0) (.ar .rem .i64 (.wr .i64 (.var 2)) (.len (.var 0)))) (.sub (.var 0) (.ar .add .i64 (.ar .rem .i64 (.wr .i64 (.var 2)) (.len (.var 0))) (.lit 1)) (.len (.var 0))))) (.lit 1000000)))
 (.loop 0 13000 ⟨[(0, (.lit 0)), (1, (.lit 0)), (0, (.lit 0))], [], [(2, (.var 1))]⟩
 (.ite (.cmp .lss (.var 13001) (.len (.fn 0 (.x (.app (.sub (.var 0) (.lit 0) (.ar .rem .i64 (.wr .i64 (.var 2)) (.len (.var 0)))) (.sub (.var 0) (.ar .add .i64 (.ar .rem .i64 (.wr .i64 (.var 2)) (.len (.var 0))) (.lit 1)) (.len (.var 0)))) (.x (.var 1) .nil)))))
 (.ob (.tru (.cmp .leq (.lit 0) (.var 13001)))
 (.ob (.tru (.cmp .lss (.var 13001) (.len (.fn 0 (.x (.app (.sub (.var 0) (.lit 0) (.ar .rem .i64 (.wr .i64 (.var 2)) (.len (.var 0)))) (.sub (.var 0) (.ar .add .i64 (.ar .rem .i64 (.wr .i64 (.var 2)) (.len (.var 0))) (.lit 1)) (.len (.var 0)))) (.x (.var 1) .nil))))))
 (.ob (.tru (.fn 136 (.x (.var 13002) .nil)))
 (.ob (.tru (.cmp .leq (.lit 0) (.fn 135 (.x (.var 13002) (.i (.rd (.fn 0 (.x (.app (.sub (.var 0) (.lit 0) (.ar .rem .i64 (.wr .i64 (.var 2)) (.len (.var 0)))) (.sub (.var 0) (.ar .add .i64 (.ar .rem .i64 (.wr .i64 (.var 2)) (.len (.var 0))) (.lit 1)) (.len (.var 0)))) (.x (.var 1) .nil))) (.var 13001) 0) .nil)))))
 (.ob (.tru (.cmp .leq (.fn 135 (.x (.var 13002) (.i (.rd (.fn 0 (.x (.app (.sub (.var 0) (.lit 0) (.ar .rem .i64 (.wr .i64 (.var 2)) (.len (.var 0)))) (.sub (.var 0) (.ar .add .i64 (.ar .rem .i64 (.wr .i64 (.var 2)) (.len (.var 0))) (.lit 1)) (.len (.var 0)))) (.x (.var 1) .nil))) (.var 13001) 0) .nil))) (.len (.var 13002))))
 (.ob (.tru (.cmp .lss (.len (.var 13002)) (.lit 1000000)))
 (.next 0 ⟨[(0, (.plus (.var 13000) (.lit 1))), (1, (.ar .add .i64 (.var 13001) (.lit 1))), (0, (.plus (.var 13000) (.lit 1)))], [], [(2, (.app (.app (.sub (.var 13002) (.lit 0) (.fn 135 (.x (.var 13002) (.i (.rd (.fn 0 (.x (.app (.sub (.var 0) (.lit 0) (.ar .rem .i64 (.wr .i64 (.var 2)) (.len (.var 0)))) (.sub (.var 0) (.ar .add .i64 (.ar .rem .i64 (.wr .i64 (.var 2)) (.len (.var 0))) (.lit 1)) (.len (.var 0)))) (.x (.var 1) .nil))) (.var 13001) 0) .nil)))) (.app (.row (.i (.rd (.fn 0 (.x (.app (.sub (.var 0) (.lit 0) (.ar .rem .i64 (.wr .i64 (.var 2)) (.len (.var 0)))) (.sub (.var 0) (.ar .add .i64 (.ar .rem .i64 (.wr .i64 (.var 2)) (.len (.var 0))) (.lit 1)) (.len (.var 0)))) (.x (.var 1) .nil))) (.var 13001) 0) (.i (.lit 1) (.i (.rd (.fn 0 (.x (.app (.sub (.var 0) (.lit 0) (.ar .rem .i64 (.wr .i64 (.var 2)) (.len (.var 0)))) (.sub (.var 0) (.ar .add .i64 (.ar .rem .i64 (.wr .i64 (.var 2)) (.len (.var 0))) (.lit 1)) (.len (.var 0)))) (.x (.var 1) .nil))) (.var 13001) 1) (.i (.rd (.fn 0 (.x (.app (.sub (.var 0) (.lit 0) (.ar .rem .i64 (.wr .i64 (.var 2)) (.len (.var 0)))) (.sub (.var 0) (.ar .add .i64 (.ar .rem .i64 (.wr .i64 (.var 2)) (.len (.var 0))) (.lit 1)) (.len (.var 0)))) (.x (.var 1) .nil))) (.var 13001) 2) (.i (.rd (.fn 0 (.x (.app (.sub (.var 0) (.lit 0) (.ar .rem .i64 (.wr .i64 (.var 2)) (.len (.var 0)))) (.sub (.var 0) (.ar .add .i64 (.ar .rem .i64 (.wr .i64 (.var 2)) (.len (.var 0))) (.lit 1)) (.len (.var 0)))) (.x (.var 1) .nil))) (.var 13001) 3) (.x .nil (.i (.rd (.fn 0 (.x (.app (.sub (.var 0) (.lit 0) (.ar .rem .i64 (.wr .i64 (.var 2)) (.len (.var 0)))) (.sub (.var 0) (.ar .add .i64 (.ar .rem .i64 (.wr .i64 (.var 2)) (.len (.var 0))) (.lit 1)) (.len (.var 0)))) (.x (.var 1) .nil))) (.var 13001) 4) (.i (.lit 0) (.x .nil .nil)))))))))) .nil)) (.sub (.var 13002) (.fn 135 (.x (.var 13002) (.i (.rd (.fn 0 (.x (.app (.sub (.var 0) (.lit 0) (.ar .rem .i64 (.wr .i64 (.var 2)) (.len (.var 0)))) (.sub (.var 0) (.ar .add .i64 (.ar .rem .i64 (.wr .i64 (.var 2)) (.len (.var 0))) (.lit 1)) (.len (.var 0)))) (.x (.var 1) .nil))) (.var 13001) 0) .nil))) (.len (.var 13002)))))]⟩)))))))
 (.ite (.cmp .eql (.fn 160 (.x (.app (.sub (.var 0) (.lit 0) (.ar .rem .i64 (.wr .i64 (.var 2)) (.len (.var 0)))) (.sub (.var 0) (.ar .add .i64 (.ar .rem .i64 (.wr .i64 (.var 2)) (.len (.var 0))) (.lit 1)) (.len (.var 0)))) (.x (.var 1) .nil))) (.lit 0))
 (.ret ((.v (.one (.z (.bool (.lit false))))), [], 19))
 (.ret ((.v (.one (.z (.bool (.lit false))))), [], 19))))))))
 (.ob (.tru (.cmp .leq (.len (.var 1)) (.lit 1000000)))
 (.ob (.tru (.cmp .leq (.len (.var 0)) (.lit 1000000)))
 (.loop 0 12000 ⟨[(0, (.lit 0)), (1, (.lit 0)), (0, (.lit 0))], [], [(2, (.var 1))]⟩
 (.ite (.cmp .lss (.var 12001) (.len (.fn 0 (.x (.var 0) (.x (.var 1) .nil)))))
 (.ob (.tru (.cmp .leq (.lit 0) (.var 12001)))
 (.ob (.tru (.cmp .lss (.var 12001) (.len (.fn 0 (.x (.var 0) (.x (.var 1) .nil))))))
 (.ob (.tru (.fn 136 (.x (.var 12002) .nil)))
 (.ob (.tru (.cmp .leq (.lit 0) (.fn 135 (.x (.var 12002) (.i (.rd (.fn 0 (.x (.var 0) (.x (.var 1) .nil))) (.var 12001) 0) .nil)))))
 (.ob (.tru (.cmp .leq (.fn 135 (.x (.var 12002) (.i (.rd (.fn 0 (.x (.var 0) (.x (.var 1) .nil))) (.var 12001) 0) .nil))) (.len (.var 12002))))
 (.ob (.tru (.cmp .lss (.len (.var 12002)) (.lit 1000000)))
 (.next 0 ⟨[(0, (.plus (.var 12000) (.lit 1))), (1, (.ar .add .i64 (.var 12001) (.lit 1))), (0, (.plus (.var 12000) (.lit 1)))], [], [(2, (.app (.app (.sub (.var 12002) (.lit 0) (.fn 135 (.x (.var 12002) (.i (.rd (.fn 0 (.x (.var 0) (.x (.var 1) .nil))) (.var 12001) 0) .nil)))) (.app (.row (.i (.rd (.fn 0 (.x (.var 0) (.x (.var 1) .nil))) (.var 12001) 0) (.i (.lit 1) (.i (.rd (.fn 0 (.x (.var 0) (.x (.var 1) .nil))) (.var 12001) 1) (.i (.rd (.fn 0 (.x (.var 0) (.x (.var 1) .nil))) (.var 12001) 2) (.i (.rd (.fn 0 (.x (.var 0) (.x (.var 1) .nil))) (.var 12001) 3) (.x .nil (.i (.rd (.fn 0 (.x (.var 0) (.x (.var 1) .nil))) (.var 12001) 4) (.i (.lit 0) (.x .nil .nil)))))))))) .nil)) (.sub (.var 12002) (.fn 135 (.x (.var 12002) (.i (.rd (.fn 0 (.x (.var 0) (.x (.var 1) .nil))) (.var 12001) 0) .nil))) (.len (.var 12002)))))]⟩)))))))
 (.ite (.not (.fn 150 (.x (.app (.sub (.var 0) (.lit 0) (.ar .rem .i64 (.wr .i64 (.var 2)) (.len (.var 0)))) (.sub (.var 0) (.ar .add .i64 (.ar .rem .i64 (.wr .i64 (.var 2)) (.len (.var 0))) (.lit 1)) (.len (.var 0)))) (.x (.var 1) .nil))))
 (.ite (.cmp .eql (.fn 160 (.x (.app (.sub (.var 0) (.lit 0) (.ar .rem .i64 (.wr .i64 (.var 2)) (.len (.var 0)))) (.sub (.var 0) (.ar .add .i64 (.ar .rem .i64 (.wr .i64 (.var 2)) (.len (.var 0))) (.lit 1)) (.len (.var 0)))) (.x (.var 1) .nil))) (.lit 0))
 (.ret ((.v (.one (.z (.bool (.lit false))))), [], 19))
 (.ret ((.v (.one (.z (.bool (.lit false))))), [], 19)))
 (.ob (.tru (.cmp .leq (.len (.var 1)) (.lit 1000000)))
 (.ob (.tru (.cmp .leq (.len (.app (.sub (.var 0) (.lit 0) (.ar .rem .i64 (.wr .i64 (.var 2)) (.len (.var 0)))) (.sub (.var 0) (.ar .add .i64 (.ar .rem .i64 (.wr .i64 (.var 2)) (.len (.var 0))) (.lit 1)) (.len (.var 0))))) (.lit 1000000)))
 (.loop 1 20000 ⟨[(0, (.lit 0)), (1, (.lit 0)), (0, (.lit 0))], [], [(2, (.var 1))]⟩
 (.ite (.cmp .lss (.var 20001) (.len (.fn 0 (.x (.app (.sub (.var 0) (.lit 0) (.ar .rem .i64 (.wr .i64 (.var 2)) (.len (.var 0)))) (.sub (.var 0) (.ar .add .i64 (.ar .rem .i64 (.wr .i64 (.var 2)) (.len (.var 0))) (.lit 1)) (.len (.var 0)))) (.x (.var 1) .nil)))))
 (.ob (.tru (.cmp .leq (.lit 0) (.var 20001)))
 (.ob (.tru (.cmp .lss (.var 20001) (.len (.fn 0 (.x (.app (.sub (.var 0) (.lit 0) (.ar .rem .i64 (.wr .i64 (.var 2)) (.len (.var 0)))) (.sub (.var 0) (.ar .add .i64 (.ar .rem .i64 (.wr .i64 (.var 2)) (.len (.var 0))) (.lit 1)) (.len (.var 0)))) (.x (.var 1) .nil))))))
 (.ob (.tru (.fn 136 (.x (.var 20002) .nil)))
 (.ob (.tru (.cmp .leq (.lit 0) (.fn 135 (.x (.var 20002) (.i (.rd (.fn 0 (.x (.app (.sub (.var 0) (.lit 0) (.ar .rem .i64 (.wr .i64 (.var 2)) (.len (.var 0)))) (.sub (.var 0) (.ar .add .i64 (.ar .rem .i64 (.wr .i64 (.var 2)) (.len (.var 0))) (.lit 1)) (.len (.var 0)))) (.x (.var 1) .nil))) (.var 20001) 0) .nil)))))
 (.ob (.tru (.cmp .leq (.fn 135 (.x (.var 20002) (.i (.rd (.fn 0 (.x (.app (.sub (.var 0) (.lit 0) (.ar .rem .i64 (.wr .i64 (.var 2)) (.len (.var 0)))) (.sub (.var 0) (.ar .add .i64 (.ar .rem .i64 (.wr .i64 (.var 2)) (.len (.var 0))) (.lit 1)) (.len (.var 0)))) (.x (.var 1) .nil))) (.var 20001) 0) .nil))) (.len (.var 20002))))
 (.ob (.tru (.cmp .lss (.len (.var 20002)) (.lit 1000000)))
 (.next 1 ⟨[(0, (.plus (.var 20000) (.lit 1))), (1, (.ar .add .i64 (.var 20001) (.lit 1))), (0, (.plus (.var 20000) (.lit 1)))], [], [(2, (.app (.app (.sub (.var 20002) (.lit 0) (.fn 135 (.x (.var 20002) (.i (.rd (.fn 0 (.x (.app (.sub (.var 0) (.lit 0) (.ar .rem .i64 (.wr .i64 (.var 2)) (.len (.var 0)))) (.sub (.var 0) (.ar .add .i64 (.ar .rem .i64 (.wr .i64 (.var 2)) (.len (.var 0))) (.lit 1)) (.len (.var 0)))) (.x (.var 1) .nil))) (.var 20001) 0) .nil)))) (.app (.row (.i (.rd (.fn 0 (.x (.app (.sub (.var 0) (.lit 0) (.ar .rem .i64 (.wr .i64 (.var 2)) (.len (.var 0)))) (.sub (.var 0) (.ar .add .i64 (.ar .rem .i64 (.wr .i64 (.var 2)) (.len (.var 0))) (.lit 1)) (.len (.var 0)))) (.x (.var 1) .nil))) (.var 20001) 0) (.i (.lit 1) (.i (.rd (.fn 0 (.x (.app (.sub (.var 0) (.lit 0) (.ar .rem .i64 (.wr .i64 (.var 2)) (.len (.var 0)))) (.sub (.var 0) (.ar .add .i64 (.ar .rem .i64 (.wr .i64 (.var 2)) (.len (.var 0))) (.lit 1)) (.len (.var 0)))) (.x (.var 1) .nil))) (.var 20001) 1) (.i (.rd (.fn 0 (.x (.app (.sub (.var 0) (.lit 0) (.ar .rem .i64 (.wr .i64 (.var 2)) (.len (.var 0)))) (.sub (.var 0) (.ar .add .i64 (.ar .rem .i64 (.wr .i64 (.var 2)) (.len (.var 0))) (.lit 1)) (.len (.var 0)))) (.x (.var 1) .nil))) (.var 20001) 2) (.i (.rd (.fn 0 (.x (.app (.sub (.var 0) (.lit 0) (.ar .rem .i64 (.wr .i64 (.var 2)) (.len (.var 0)))) (.sub (.var 0) (.ar .add .i64 (.ar .rem .i64 (.wr .i64 (.var 2)) (.len (.var 0))) (.lit 1)) (.len (.var 0)))) (.x (.var 1) .nil))) (.var 20001) 3) (.x .nil (.i (.rd (.fn 0 (.x (.app (.sub (.var 0) (.lit 0) (.ar .rem .i64 (.wr .i64 (.var 2)) (.len (.var 0)))) (.sub (.var 0) (.ar .add .i64 (.ar .rem .i64 (.wr .i64 (.var 2)) (.len (.var 0))) (.lit 1)) (.len (.var 0)))) (.x (.var 1) .nil))) (.var 20001) 4) (.i (.lit 0) (.x .nil .nil)))))))))) .nil)) (.sub (.var 20002) (.fn 135 (.x (.var 20002) (.i (.rd (.fn 0 (.x (.app (.sub (.var 0) (.lit 0) (.ar .rem .i64 (.wr .i64 (.var 2)) (.len (.var 0)))) (.sub (.var 0) (.ar .add .i64 (.ar .rem .i64 (.wr .i64 (.var 2)) (.len (.var 0))) (.lit 1)) (.len (.var 0)))) (.x (.var 1) .nil))) (.var 20001) 0) .nil))) (.len (.var 20002)))))]⟩)))))))
 (.ite (.cmp .eql (.fn 160 (.x (.app (.sub (.var 0) (.lit 0) (.ar .rem .i64 (.wr .i64 (.var 2)) (.len (.var 0)))) (.sub (.var 0) (.ar .add .i64 (.ar .rem .i64 (.wr .i64 (.var 2)) (.len (.var 0))) (.lit 1)) (.len (.var 0)))) (.x (.var 1) .nil))) (.lit 0))
 (.ob (.tru (.fn 190 (.x (.fn 1 (.x (.var 0) (.x (.var 1) .nil))) (.x (.fn 1 (.x (.app (.sub (.var 0) (.lit 0) (.ar .rem .i64 (.wr .i64 (.var 2)) (.len (.var 0)))) (.sub (.var 0) (.ar .add .i64 (.ar .rem .i64 (.wr .i64 (.var 2)) (.len (.var 0))) (.lit 1)) (.len (.var 0)))) (.x (.var 1) .nil))) .nil))))
 (.ob (.tru (.fn 190 (.x (.var 12002) (.x (.var 20002) .nil))))
 (.ite (.cmp .eql (.fn 180 (.x (.var 0) (.x (.var 1) (.i (.var 3) (.i (.var 4) .nil))))) (.fn 180 (.x (.app (.sub (.var 0) (.lit 0) (.ar .rem .i64 (.wr .i64 (.var 2)) (.len (.var 0)))) (.sub (.var 0) (.ar .add .i64 (.ar .rem .i64 (.wr .i64 (.var 2)) (.len (.var 0))) (.lit 1)) (.len (.var 0)))) (.x (.var 1) (.i (.var 3) (.i (.var 4) .nil))))))
 (.ite (.cmp .eql (.fn 181 (.x (.var 0) (.x (.var 1) (.i (.var 3) (.i (.var 4) .nil))))) (.fn 181 (.x (.app (.sub (.var 0) (.lit 0) (.ar .rem .i64 (.wr .i64 (.var 2)) (.len (.var 0)))) (.sub (.var 0) (.ar .add .i64 (.ar .rem .i64 (.wr .i64 (.var 2)) (.len (.var 0))) (.lit 1)) (.len (.var 0)))) (.x (.var 1) (.i (.var 3) (.i (.var 4) .nil))))))
 (.ite (.eqb (.fn 170 (.x (.var 0) (.x (.var 1) (.i (.var 3) (.i (.var 4) (.i (.var 5) .nil)))))) (.fn 170 (.x (.app (.sub (.var 0) (.lit 0) (.ar .rem .i64 (.wr .i64 (.var 2)) (.len (.var 0)))) (.sub (.var 0) (.ar .add .i64 (.ar .rem .i64 (.wr .i64 (.var 2)) (.len (.var 0))) (.lit 1)) (.len (.var 0)))) (.x (.var 1) (.i (.var 3) (.i (.var 4) (.i (.var 5) .nil)))))))
 (.ite (.cmp .eql (.fn 170 (.x (.var 0) (.x (.var 1) (.i (.var 3) (.i (.var 4) (.i (.var 5) .nil)))))) (.fn 170 (.x (.app (.sub (.var 0) (.lit 0) (.ar .rem .i64 (.wr .i64 (.var 2)) (.len (.var 0)))) (.sub (.var 0) (.ar .add .i64 (.ar .rem .i64 (.wr .i64 (.var 2)) (.len (.var 0))) (.lit 1)) (.len (.var 0)))) (.x (.var 1) (.i (.var 3) (.i (.var 4) (.i (.var 5) .nil)))))))
 (.ob (.tru (.fn 190 (.x (.fn 3 (.x (.var 0) (.x (.var 1) .nil))) (.x (.fn 3 (.x (.app (.sub (.var 0) (.lit 0) (.ar .rem .i64 (.wr .i64 (.var 2)) (.len (.var 0)))) (.sub (.var 0) (.ar .add .i64 (.ar .rem .i64 (.wr .i64 (.var 2)) (.len (.var 0))) (.lit 1)) (.len (.var 0)))) (.x (.var 1) .nil))) .nil))))
 (.ret ((.v (.one (.z (.bool (.cmp .eql (.fn 160 (.x (.var 0) (.x (.var 1) .nil))) (.fn 160 (.x (.app (.sub (.var 0) (.lit 0) (.ar .rem .i64 (.wr .i64 (.var 2)) (.len (.var 0)))) (.sub (.var 0) (.ar .add .i64 (.ar .rem .i64 (.wr .i64 (.var 2)) (.len (.var 0))) (.lit 1)) (.len (.var 0)))) (.x (.var 1) .nil)))))))), [], 26)))
 (.ret ((.v (.one (.z (.bool (.lit false))))), [], 26)))
 (.ret ((.v (.one (.z (.bool (.lit false))))), [], 26)))
 (.ret ((.v (.one (.z (.bool (.lit false))))), [], 26)))
 (.ret ((.v (.one (.z (.bool (.lit false))))), [], 26)))))
 (.ret ((.v (.one (.z (.bool (.lit false))))), [], 26))))))))))))))))))))))))))))
 (.ret ((.v (.one (.z (.bool (.lit true))))), [], 4)))
def trLawRep_h : List (Nat × St) := [
(12, ⟨(List.append [(.v (.agg [(.z (.own 5 (.lit 1))), (.z (.ext featK (.var 1) false))])), (.v (.one (.z (.ptr 9 0)))), (.v (.one (.z (.const (.slice none 0 0))))), (.v (.one (.z (.int .i64 (.lit 0))))), (.v (.one (.z (.own 10 (.var 13000)))))] (List.append (List.replicate 4 V.any) (List.append [(.v (.agg [(.z (.own 5 (.lit 1))), (.z (.ext featK (.var 1) false))])), (.v (.one (.z (.bool (.fn 150 (.x (.app (.sub (.var 0) (.lit 0) (.ar .rem .i64 (.wr .i64 (.var 2)) (.len (.var 0)))) (.sub (.var 0) (.ar .add .i64 (.ar .rem .i64 (.wr .i64 (.var 2)) (.len (.var 0))) (.lit 1)) (.len (.var 0)))) (.x (.var 1) .nil))))))), (.v (.one (.z (.bool (.not (.fn 150 (.x (.app (.sub (.var 0) (.lit 0) (.ar .rem .i64 (.wr .i64 (.var 2)) (.len (.var 0)))) (.sub (.var 0) (.ar .add .i64 (.ar .rem .i64 (.wr .i64 (.var 2)) (.len (.var 0))) (.lit 1)) (.len (.var 0)))) (.x (.var 1) .nil)))))))), (.v (.one (.z (.ptr 9 1)))), (.v (.one (.z (.ext featK (.var 1) false)))), (.v (.one (.z (.own 10 (.lit 0))))), (.v (.agg [(.z (.own 5 (.lit 1))), (.z (.ext featK (.var 1) false))])), (.v (.one (.z (.own 11 (.lit 0))))), (.v (.one (.z (.int .i64 (.len (.fn 0 (.x (.app (.sub (.var 0) (.lit 0) (.ar .rem .i64 (.wr .i64 (.var 2)) (.len (.var 0)))) (.sub (.var 0) (.ar .add .i64 (.ar .rem .i64 (.wr .i64 (.var 2)) (.len (.var 0))) (.lit 1)) (.len (.var 0)))) (.x (.var 1) .nil)))))))), (.v (.one (.z (.int .i64 (.var 13001)))))] (List.replicate 18 V.any)))), [(11, (.own 53 sndK (.fn 0 (.x (.app (.sub (.var 0) (.lit 0) (.ar .rem .i64 (.wr .i64 (.var 2)) (.len (.var 0)))) (.sub (.var 0) (.ar .add .i64 (.ar .rem .i64 (.wr .i64 (.var 2)) (.len (.var 0))) (.lit 1)) (.len (.var 0)))) (.x (.var 1) .nil))) (.lit 0))), (10, (.own 59 featK (.var 13002) (.var 13000))), (9, (.cells 25 [(.z (.own 5 (.lit 1))), (.z (.ext featK (.var 1) false))])), (7, (.own 3 [(.int .i64)] (.fn 1 (.x (.app (.sub (.var 0) (.lit 0) (.ar .rem .i64 (.wr .i64 (.var 2)) (.len (.var 0)))) (.sub (.var 0) (.ar .add .i64 (.ar .rem .i64 (.wr .i64 (.var 2)) (.len (.var 0))) (.lit 1)) (.len (.var 0)))) (.x (.var 1) .nil))) (.lit 0))), (6, (.cells 25 [(.z (.own 5 (.lit 1))), (.z (.ext featK (.var 1) false))])), (5, (.own 53 sndK (.app (.sub (.var 0) (.lit 0) (.ar .rem .i64 (.wr .i64 (.var 2)) (.len (.var 0)))) (.sub (.var 0) (.ar .add .i64 (.ar .rem .i64 (.wr .i64 (.var 2)) (.len (.var 0))) (.lit 1)) (.len (.var 0)))) (.lit 1))), (4, (.cells 53 [])), (2, (.own 3 [(.int .i64)] (.fn 1 (.x (.var 0) (.x (.var 1) .nil))) (.lit 0))), (1, (.cells 27 [(.z (.int .i64 (.var 3))), (.z (.int .i64 (.var 4)))])), (0, (.cells 25 [(.z (.ext sndK (.var 0) false)), (.z (.ext featK (.var 1) false))]))], 13, []⟩),
(11, ⟨(List.append [(.v (.agg [(.z (.ext sndK (.var 0) false)), (.z (.ext featK (.var 1) false))])), (.v (.one (.z (.ptr 8 0)))), (.v (.one (.z (.const (.slice none 0 0))))), (.v (.one (.z (.int .i64 (.lit 0))))), (.v (.one (.z (.own 9 (.var 12000)))))] (List.append (List.replicate 4 V.any) (List.append [(.v (.agg [(.z (.ext sndK (.var 0) false)), (.z (.ext featK (.var 1) false))])), (.v (.one (.z (.bool (.fn 150 (.x (.var 0) (.x (.var 1) .nil))))))), (.v (.one (.z (.bool (.not (.fn 150 (.x (.var 0) (.x (.var 1) .nil)))))))), (.v (.one (.z (.ptr 8 1)))), (.v (.one (.z (.ext featK (.var 1) false)))), (.v (.one (.z (.own 9 (.lit 0))))), (.v (.agg [(.z (.ext sndK (.var 0) false)), (.z (.ext featK (.var 1) false))])), (.v (.one (.z (.own 10 (.lit 0))))), (.v (.one (.z (.int .i64 (.len (.fn 0 (.x (.var 0) (.x (.var 1) .nil)))))))), (.v (.one (.z (.int .i64 (.var 12001)))))] (List.replicate 18 V.any)))), [(10, (.own 53 sndK (.fn 0 (.x (.var 0) (.x (.var 1) .nil))) (.lit 0))), (9, (.own 59 featK (.var 12002) (.var 12000))), (8, (.cells 25 [(.z (.ext sndK (.var 0) false)), (.z (.ext featK (.var 1) false))])), (7, (.own 3 [(.int .i64)] (.fn 1 (.x (.app (.sub (.var 0) (.lit 0) (.ar .rem .i64 (.wr .i64 (.var 2)) (.len (.var 0)))) (.sub (.var 0) (.ar .add .i64 (.ar .rem .i64 (.wr .i64 (.var 2)) (.len (.var 0))) (.lit 1)) (.len (.var 0)))) (.x (.var 1) .nil))) (.lit 0))), (6, (.cells 25 [(.z (.own 5 (.lit 1))), (.z (.ext featK (.var 1) false))])), (5, (.own 53 sndK (.app (.sub (.var 0) (.lit 0) (.ar .rem .i64 (.wr .i64 (.var 2)) (.len (.var 0)))) (.sub (.var 0) (.ar .add .i64 (.ar .rem .i64 (.wr .i64 (.var 2)) (.len (.var 0))) (.lit 1)) (.len (.var 0)))) (.lit 1))), (4, (.cells 53 [])), (2, (.own 3 [(.int .i64)] (.fn 1 (.x (.var 0) (.x (.var 1) .nil))) (.lit 0))), (1, (.cells 27 [(.z (.int .i64 (.var 3))), (.z (.int .i64 (.var 4)))])), (0, (.cells 25 [(.z (.ext sndK (.var 0) false)), (.z (.ext featK (.var 1) false))]))], 12, []⟩),
(19, ⟨(List.append [(.v (.agg [(.z (.own 5 (.lit 1))), (.z (.ext featK (.var 1) false))])), (.v (.one (.z (.ptr 16 0)))), (.v (.one (.z (.const (.slice none 0 0))))), (.v (.one (.z (.int .i64 (.lit 0))))), (.v (.one (.z (.own 17 (.var 20000)))))] (List.append (List.replicate 4 V.any) (List.append [(.v (.agg [(.z (.own 5 (.lit 1))), (.z (.ext featK (.var 1) false))])), (.v (.one (.z (.bool (.fn 150 (.x (.app (.sub (.var 0) (.lit 0) (.ar .rem .i64 (.wr .i64 (.var 2)) (.len (.var 0)))) (.sub (.var 0) (.ar .add .i64 (.ar .rem .i64 (.wr .i64 (.var 2)) (.len (.var 0))) (.lit 1)) (.len (.var 0)))) (.x (.var 1) .nil))))))), (.v (.one (.z (.bool (.not (.fn 150 (.x (.app (.sub (.var 0) (.lit 0) (.ar .rem .i64 (.wr .i64 (.var 2)) (.len (.var 0)))) (.sub (.var 0) (.ar .add .i64 (.ar .rem .i64 (.wr .i64 (.var 2)) (.len (.var 0))) (.lit 1)) (.len (.var 0)))) (.x (.var 1) .nil)))))))), (.v (.one (.z (.ptr 16 1)))), (.v (.one (.z (.ext featK (.var 1) false)))), (.v (.one (.z (.own 17 (.lit 0))))), (.v (.agg [(.z (.own 5 (.lit 1))), (.z (.ext featK (.var 1) false))])), (.v (.one (.z (.own 18 (.lit 0))))), (.v (.one (.z (.int .i64 (.len (.fn 0 (.x (.app (.sub (.var 0) (.lit 0) (.ar .rem .i64 (.wr .i64 (.var 2)) (.len (.var 0)))) (.sub (.var 0) (.ar .add .i64 (.ar .rem .i64 (.wr .i64 (.var 2)) (.len (.var 0))) (.lit 1)) (.len (.var 0)))) (.x (.var 1) .nil)))))))), (.v (.one (.z (.int .i64 (.var 20001)))))] (List.replicate 18 V.any)))), [(18, (.own 53 sndK (.fn 0 (.x (.app (.sub (.var 0) (.lit 0) (.ar .rem .i64 (.wr .i64 (.var 2)) (.len (.var 0)))) (.sub (.var 0) (.ar .add .i64 (.ar .rem .i64 (.wr .i64 (.var 2)) (.len (.var 0))) (.lit 1)) (.len (.var 0)))) (.x (.var 1) .nil))) (.lit 0))), (17, (.own 59 featK (.var 20002) (.var 20000))), (16, (.cells 25 [(.z (.own 5 (.lit 1))), (.z (.ext featK (.var 1) false))])), (9, (.own 59 featK (.var 12002) (.var 12000))), (7, (.own 3 [(.int .i64)] (.fn 1 (.x (.app (.sub (.var 0) (.lit 0) (.ar .rem .i64 (.wr .i64 (.var 2)) (.len (.var 0)))) (.sub (.var 0) (.ar .add .i64 (.ar .rem .i64 (.wr .i64 (.var 2)) (.len (.var 0))) (.lit 1)) (.len (.var 0)))) (.x (.var 1) .nil))) (.lit 0))), (6, (.cells 25 [(.z (.own 5 (.lit 1))), (.z (.ext featK (.var 1) false))])), (5, (.own 53 sndK (.app (.sub (.var 0) (.lit 0) (.ar .rem .i64 (.wr .i64 (.var 2)) (.len (.var 0)))) (.sub (.var 0) (.ar .add .i64 (.ar .rem .i64 (.wr .i64 (.var 2)) (.len (.var 0))) (.lit 1)) (.len (.var 0)))) (.lit 1))), (4, (.cells 53 [])), (2, (.own 3 [(.int .i64)] (.fn 1 (.x (.var 0) (.x (.var 1) .nil))) (.lit 0))), (1, (.cells 27 [(.z (.int .i64 (.var 3))), (.z (.int .i64 (.var 4)))])), (0, (.cells 25 [(.z (.ext sndK (.var 0) false)), (.z (.ext featK (.var 1) false))]))], 20, []⟩)]
def trLawRep_j : List (FuncId × Nat × Nat × St) := [
]
set_option maxRecDepth 100000 in
theorem trLawRep_is : T.norm 0 (call Tryz.prog ctV8 ⟨Lt.un (Lt.of [(7, 3000000)]), trLawRep_h, trLawRep_j⟩ 150 7 (symArgs 0 [suv, u8s, pt, it]) [] 0) TT.ret = trLawRep := by kernel_rfl
theorem trLawRep_low : trLawRep.low 1000 = true := by kernel_rfl
end Go.Proofs.YtldbejmgalhdaaaGreat
/- Chapter 09: the law SurveyReplaced. -/
namespace Go.Proofs.YtldbejmgalhdaaaGreat
open Go.RowKit
theorem md_step {s F : Rows} (hv : surB s F = true) {i : Nat} (hi : i < (curR s).length) {x : Rows} (hx : x = insL F (((curR s).map ftr).take i)) :
    risB x = true ∧ lowR x (cI (curR s)[i] 0) ≤ x.length ∧ x.length ≤ 300 ∧ subR x 0 (lowR x (cI (curR s)[i] 0) : Nat) ++ ([[.i (cI (curR s)[i] 0), .i 1, .i (cI (curR s)[i] 1), .i (cI (curR s)[i] 2), .i (cI (curR s)[i] 3), .l [], .i (cI (curR s)[i] 4), .i 0, .l []]] ++ []) ++ subR x (lowR x (cI (curR s)[i] 0) : Nat) (x.length : Nat) = insL F (((curR s).map ftr).take (i + 1)) := by
  obtain ⟨⟨f1, f2⟩, f3, f4, f5⟩ := sur_iff.1 hv
  have hl := cur_len s
  have him : i < ((curR s).map ftr).length := by rw [List.length_map]; exact hi
  subst hx
  refine ⟨risP_iff.2 (ris_insL _ F (list_iff.1 f1).2.1 ((cur_map_ris f4).sublist (List.take_sublist _ _)) (fun a ha b hb => ?_)), (lowR_spec _ _).1, ?_, ?_⟩
  · obtain ⟨x, hx, rfl⟩ := List.mem_map.1 (List.mem_of_mem_take hb)
    exact f5 x (cur_mem.1 hx).1 a ha
  · rw [len_insL, List.length_take, List.length_map]; omega
  · have hins := insF_sub (insL F (((curR s).map ftr).take i)) (ftr (curR s)[i])
    rw [ftr_id] at hins
    rw [List.take_succ_eq_append_getElem him, insL_snoc, List.getElem_map, ← hins]
    rfl
/-! Without a sounding that is replaced -/
def butR (s : Rows) (k : Nat) : Rows := subR s 0 (k : Nat) ++ subR s ((k : Int) + 1) (s.length : Nat)
theorem but_eq {s : Rows} {k : Nat} (hk : k < s.length) : butR s k = s.take k ++ s.drop (k + 1) := by
  unfold butR subR
  have e : ((k : Int) + 1).toNat = k + 1 := by omega
  simp only [Int.toNat_zero, List.drop_zero, Nat.sub_zero, Int.toNat_natCast, e]
  congr 1
  exact List.take_of_length_le (by rw [List.length_drop]; omega)
theorem but_sub {s : Rows} {k : Nat} (hk : k < s.length) : (butR s k).Sublist s := by
  rw [but_eq hk]
  have h1 : s = s.take k ++ s.drop k := (List.take_append_drop k s).symm
  have h2 : s.drop k = s[k] :: s.drop (k + 1) := List.drop_eq_getElem_cons hk
  conv => rhs; rw [h1, h2]
  exact List.Sublist.append (List.Sublist.refl _) (List.sublist_cons_self _ _)
theorem but_mem {s : Rows} {k : Nat} (hk : k < s.length) {y : List D} (hy : y ∈ s) (hne : y ≠ s[k]) : y ∈ butR s k := by
  rw [but_eq hk]
  have h1 : s = s.take k ++ s.drop k := (List.take_append_drop k s).symm
  have h2 : s.drop k = s[k] :: s.drop (k + 1) := List.drop_eq_getElem_cons hk
  rw [h1, h2] at hy
  rcases List.mem_append.1 hy with h | h
  · exact List.mem_append_left _ h
  · rcases List.mem_cons.1 h with e | h
    · exact absurd e hne
    · exact List.mem_append_right _ h
theorem but_sur {s F : Rows} {k : Nat} (hk : k < s.length) (hv : surB s F = true) : surB (butR s k) F = true := by
  obtain ⟨⟨f1, f2⟩, f3, f4, f5⟩ := sur_iff.1 hv
  have hs := but_sub hk
  have hm : ∀ x ∈ butR s k, x ∈ s := fun x hx => hs.subset hx
  rw [sur_iff]
  refine ⟨⟨f1, by have := hs.length_le; omega⟩, fun x hx => f3 x (hm x hx), f4.sublist hs, fun x hx => f5 x (hm x hx)⟩
theorem but_cur {s F : Rows} {k : Nat} (hk : k < s.length) (hv : surB s F = true) (hn : s[k] ∉ curR s) : curR (butR s k) = curR s := by
  obtain ⟨⟨f1, f2⟩, f3, f4, f5⟩ := sur_iff.1 hv
  have hsnd : ∀ x ∈ s, sndR9 x = true := fun x hx => (f3 x hx).1
  have hs := but_sub hk
  have hm : ∀ x ∈ butR s k, x ∈ s := fun x hx => hs.subset hx
  obtain ⟨z, hz, hzb⟩ := cur_by hsnd (List.getElem_mem hk) hn
  have hzs := (cur_mem.1 hz).1
  have hzk : z ≠ s[k] := fun e => hn (e ▸ hz)
  have rep : ∀ y ∈ s, replB (butR s k) y = replB s y := fun y hy => by
    rw [Bool.eq_iff_iff, repl_iff, repl_iff]
    constructor
    · rintro ⟨x, hx, h⟩; exact ⟨x, hm x hx, h⟩
    · rintro ⟨x, hx, h⟩
      by_cases e : x = s[k]
      · subst e
        exact ⟨z, but_mem hk hzs hzk, by_trans (hsnd _ hzs) (hsnd _ hx) (hsnd _ hy) hzb h⟩
      · exact ⟨x, but_mem hk hx e, h⟩
  refine ris_ext (cur_ris (f4.sublist hs)) (cur_ris f4) (fun y => ?_)
  rw [cur_mem, cur_mem]
  constructor
  · rintro ⟨h1, h2⟩
    exact ⟨hm y h1, by rw [← rep y (hm y h1)]; exact h2⟩
  · rintro ⟨h1, h2⟩
    refine ⟨but_mem hk h1 (fun e => hn ?_), by rw [rep y h1]; exact h2⟩
    rw [← e]
    exact cur_mem.2 ⟨h1, h2⟩
theorem KVfi160 (W : World) (ds l : List D) : (envOf KVf W ds).fi 160 l = scE l := by simp only [envOf, KVf, KVe, KVd, KVc]
theorem KVfb160 (W : World) (ds l : List D) : (envOf KVf W ds).fb 160 l = hasL9 l := by simp only [envOf, KVf, KVe, KVd, KVc]
theorem KVfd0 (W : World) (ds l : List D) : (envOf KVf W ds).fd 0 l = curL l := by simp only [envOf, KVf, KVe, KVd, KVc, KVb]
theorem KVfd1 (W : World) (ds l : List D) : (envOf KVf W ds).fd 1 l = idsR l := by simp only [envOf, KVf, KVe, KVd, KVc]
theorem KVfd3 (W : World) (ds l : List D) : (envOf KVf W ds).fd 3 l = clR l := by simp only [envOf, KVf, KVe, KVd]
theorem KVfb150 (W : World) (ds l : List D) : (envOf KVf W ds).fb 150 l = surL l := by simp only [envOf, KVf, KVe, KVd, KVc, KVb]
theorem KVfb136 (W : World) (ds l : List D) : (envOf KVf W ds).fb 136 l = risL l := by simp only [envOf, KVf, KVe, KVd, KVc, KVb, KVa]
theorem KVfi135 (W : World) (ds l : List D) : (envOf KVf W ds).fi 135 l = lowL l := by simp only [envOf, KVf, KVe, KVd, KVc, KVb, KVa]
theorem KVfi170 (W : World) (ds l : List D) : (envOf KVf W ds).fi 170 l = alwE l := by simp only [envOf, KVf, KVe, KVd]
theorem KVfb170 (W : World) (ds l : List D) : (envOf KVf W ds).fb 170 l = alwR l := by simp only [envOf, KVf, KVe, KVd]
theorem KVfi180 (W : World) (ds l : List D) : (envOf KVf W ds).fi 180 l = lstR l := by simp only [envOf, KVf, KVe]
theorem KVfi181 (W : World) (ds l : List D) : (envOf KVf W ds).fi 181 l = lstE l := by simp only [envOf, KVf, KVe]
set_option maxHeartbeats 2000000 in
theorem gLawRep : GivesIf Tryz.prog 7 [suv, u8s, pt, it] (fun ds => 0 ≤ iAt ds 2 ∧ iAt ds 2 ≤ 255) (fun _ => .bool true) := by
  refine fn_gives KVf (by kernel_rfl) (fun ρ h => ctV8_ok (Sees.of h 200) (SeesD.of h 4)) (by kernel_rfl) trLawRep_is trLawRep_low (by decide) (fun W vals ds hr hok => ?_)
  simp only [trLawRep, TT.sat_ret, TT.sat_ite, TT.sat_ob, TT.sat_next, TT.sat_stuck, put_i, put_b, put_d, put_fi, put_fb, put_fd, Ob.ok, B.ev, E.ev, X.ev, AL.ev, cmp_t, cmp_f, arEv, V.plain, V2.plain, S.plain, S0.plain, V.val, V2.val, S.val, S0.val, bV, iV, List.all_cons, List.all_nil, Bool.and_true, Bool.and_self, envOf_i, envOf_b, envOf_d, List.map_cons, List.map_nil, true_and, Bool.not_eq_true', Bool.not_eq_false', Bool.not_not, Bool.and_eq_true, and_f, cell_lg, cell_lb, cell_lr, cmpP, val_i, val_b, val_d, aget, Nat.reduceBEq, beq_self_eq_true, Bool.false_eq_true, if_true, if_false, Nat.reduceLT, Nat.reduceSub, Nat.sub_self, Nat.lt_irrefl, KVfi160, KVfb160, KVfd1, KVfb150, sce_two, sur_two, ids_two, has_two]
  clear hr
  generalize e0 : rAt ds 0 = s at *
  generalize e1 : rAt ds 1 = F at *
  generalize e2 : iAt ds 2 = at2 at *
  refine ⟨fun h16 => ⟨fun _ => trivial, fun h12 => ⟨fun _ => trivial, fun h0 => ⟨fun _ => trivial, fun hE => ?_⟩⟩⟩, fun _ => trivial⟩
  have hv : surB s F = true := by
    by_cases q : surB s F = true
    · exact q
    · rw [if_neg q] at hE; omega
  clear hE
  obtain ⟨k, ek, hk⟩ : ∃ k : Nat, (IntKind.i64.wrap at2).tmod (s.length : Int) = k ∧ k < s.length := by
    rw [wrap_in at2 (by omega) (by omega), Int.tmod_eq_emod_of_nonneg (by omega)]
    have g1 := Int.emod_nonneg at2 (show (s.length : Int) ≠ 0 by omega)
    have g2 := Int.emod_lt_of_pos at2 (show (0 : Int) < s.length by omega)
    exact ⟨(at2 % (s.length : Int)).toNat, by omega, by omega⟩
  have hw1 : IntKind.i64.wrap ((k : Int) + 1) = (k : Int) + 1 := wrap_in _ (by omega) (by omega)
  have hbe : subR s 0 (k : Int) ++ subR s ((k : Int) + 1) (s.length : Int) = butR s k := rfl
  simp only [ek, hw1, hbe, if_pos hv]
  obtain ⟨⟨f1, f2⟩, f3, f4, f5⟩ := sur_iff.1 hv
  have hsub : (subR s 0 (k : Int)).length ≤ s.length := by
    unfold subR
    simp only [Int.toNat_zero, List.drop_zero, Nat.sub_zero, Int.toNat_natCast, List.length_take]; omega
  have hbl := (but_sub hk).length_le
  refine ⟨by omega, by omega, by omega, fun _ => trivial, fun hn => ⟨by omega, by omega, by omega, by omega, by omega, by omega, fun h => (by rw [hv] at h; cases h), fun _ => ⟨by omega, by omega, ?_⟩⟩⟩
  have hn : s[k] ∉ curR s := fun h => by
    rw [lg_cI hk, (has_ids f4 (List.getElem_mem hk)).2 h] at hn; cases hn
  have hvb := but_sur hk hv
  have hcb := but_cur hk hv hn
  have hl := cur_len s
  have hids : idsS (butR s k) = idsS s := by unfold idsS; rw [hcb]
  have hmd : mdS (butR s k) F = mdS s F := by unfold mdS; rw [hcb]
  have halw : ∀ x y d, alwS (butR s k) F x y d = alwS s F x y d := fun x y d => by unfold alwS; rw [hcb]
  refine TT.sat_loop (fun v => ∃ i : Nat, v.i 1 = i ∧ i ≤ (curR s).length ∧ v.d 2 = insL F (((curR s).map ftr).take i)) (fun v => (curR s).length - (v.i 1).toNat)
    ⟨0, by simp [val_i, aget, E.ev], by omega, by simp [val_d, aget, X.ev, envOf_d, e1, insL]⟩ (fun v hv0 => ?_)
  obtain ⟨i, i0, i1, i2⟩ := hv0
  simp only [TT.sat_ret, TT.sat_ite, TT.sat_ob, TT.sat_next, TT.sat_stuck, put_i, put_b, put_d, put_fi, put_fb, put_fd, Ob.ok, B.ev, E.ev, X.ev, AL.ev, cmp_t, cmp_f, arEv, V.plain, V2.plain, S.plain, S0.plain, V.val, V2.val, S.val, S0.val, bV, iV, List.all_cons, List.all_nil, Bool.and_true, Bool.and_self, envOf_i, envOf_b, envOf_d, List.map_cons, List.map_nil, true_and, Bool.not_eq_true', Bool.not_eq_false', Bool.not_not, Bool.and_eq_true, and_f, cell_lg, cell_lb, cell_lr, cmpP, val_i, val_b, val_d, aget, Nat.reduceBEq, beq_self_eq_true, Bool.false_eq_true, if_true, if_false, Nat.reduceLT, Nat.reduceSub, Nat.sub_self, Nat.lt_irrefl, i0, i2, e0, e1, e2, KVfd0, cur_two, KVfb136, KVfi135, low_two, ris_one, KVfb150, sur_two, hv, hvb, ek, hw1, hbe]
  refine ⟨fun hc => ?_, fun hc => ?_⟩
  · have hi : i < (curR s).length := by omega
    obtain ⟨g1, g2, g3, g4⟩ := md_step hv hi rfl
    rw [wrap_in ((i : Int) + 1) (by omega) (by omega)]
    simp only [lg_cI hi]
    exact ⟨by omega, by omega, g1, by omega, by omega, by omega, ⟨i + 1, rfl, by omega, g4⟩, by omega⟩
  have hi : i = (curR s).length := by omega
  rw [hi, List.take_of_length_le (show ((curR s).map ftr).length ≤ (curR s).length by rw [List.length_map]; exact Nat.le_refl _)] at i2
  refine ⟨fun h => (by cases h), fun _ => ⟨by omega, by omega, ?_⟩⟩
  refine TT.sat_loop (fun v => ∃ i : Nat, v.i 1 = i ∧ i ≤ (curR s).length ∧ v.d 2 = insL F (((curR s).map ftr).take i)) (fun v => (curR s).length - (v.i 1).toNat)
    ⟨0, by simp [val_i, aget, E.ev], by omega, by simp [val_d, aget, X.ev, envOf_d, put_d, e1, insL]⟩ (fun u hu => ?_)
  obtain ⟨j, j0, j1, j2⟩ := hu
  simp only [TT.sat_ret, TT.sat_ite, TT.sat_ob, TT.sat_next, TT.sat_stuck, put_i, put_b, put_d, put_fi, put_fb, put_fd, Ob.ok, B.ev, E.ev, X.ev, AL.ev, cmp_t, cmp_f, arEv, V.plain, V2.plain, S.plain, S0.plain, V.val, V2.val, S.val, S0.val, bV, iV, List.all_cons, List.all_nil, Bool.and_true, Bool.and_self, envOf_i, envOf_b, envOf_d, List.map_cons, List.map_nil, true_and, Bool.not_eq_true', Bool.not_eq_false', Bool.not_not, Bool.and_eq_true, and_f, cell_lg, cell_lb, cell_lr, cmpP, val_i, val_b, val_d, aget, Nat.reduceBEq, beq_self_eq_true, Bool.false_eq_true, if_true, if_false, Nat.reduceLT, Nat.reduceSub, Nat.sub_self, Nat.lt_irrefl, j0, j2, i2, e0, e1, e2, KVfd0, cur_two, KVfb136, KVfi135, low_two, ris_one, ek, hw1, hbe, hcb]
  refine ⟨fun hc => ?_, fun hc => ?_⟩
  · have hj : j < (curR s).length := by omega
    obtain ⟨g1, g2, g3, g4⟩ := md_step hv hj rfl
    rw [wrap_in ((j : Int) + 1) (by omega) (by omega)]
    simp only [lg_cI hj]
    exact ⟨by omega, by omega, g1, by omega, by omega, by omega, ⟨j + 1, rfl, by omega, g4⟩, by omega⟩
  have hj : j = (curR s).length := by omega
  have hfull : insL F (((curR s).map ftr).take j) = insL F ((curR s).map ftr) := by rw [hj, List.take_of_length_le (by rw [List.length_map]; exact Nat.le_refl _)]
  have q1 : ∀ x y, lstR [.l (butR s k), .l F, .i x, .i y] = lstR [.l s, .l F, .i x, .i y] := fun x y => by rw [lst_four, lst_four, hv, hvb, hmd]
  have q2 : ∀ x y, lstE [.l (butR s k), .l F, .i x, .i y] = lstE [.l s, .l F, .i x, .i y] := fun x y => by rw [lste_four, lste_four, hv, hvb, hmd]
  have q3 : ∀ x y d, alwR [.l (butR s k), .l F, .i x, .i y, .i d] = alwR [.l s, .l F, .i x, .i y, .i d] := fun x y d => by rw [alw_five, alw_five, hv, hvb, halw]
  have q4 : ∀ x y d, alwE [.l (butR s k), .l F, .i x, .i y, .i d] = alwE [.l s, .l F, .i x, .i y, .i d] := fun x y d => by rw [alwe_five, alwe_five, hv, hvb]
  have q5 : clR [.l (butR s k), .l F] = clR [.l s, .l F] := by rw [clr_two, clr_two, hv, hvb, hcb]
  have q6 : idsR [.l (butR s k), .l F] = idsR [.l s, .l F] := by rw [ids_two, ids_two, hv, hvb, hids]
  have q7 : scE [.l (butR s k), .l F] = scE [.l s, .l F] := by rw [sce_two, sce_two, hv, hvb]
  have q8 : scE [.l s, .l F] = 0 := by rw [sce_two, hv]; rfl
  simp only [KVfi160, KVfb190, KVfd1, KVfd3, KVfi180, KVfi181, KVfb170, KVfi170, q1, q2, q3, q4, q5, q6, q7, q8, hfull, eqLL_two, rowsEqb_self]
  simp [cmpEv]
end Go.Proofs.YtldbejmgalhdaaaGreat
