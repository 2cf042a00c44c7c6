/- LWater, merged: TH6, H6. -/
import Derived.Test.YtcjaembdcfppfaaNH
set_option linter.unusedSimpArgs false
set_option linter.unusedVariables false
/- Chapter 11: the tree of the law GridWater. -/
namespace Go.Proofs.Ytcjaembdcfppfaa
open Go.RowKit
def u16S : Sh := .one (.int .u16)
def trLWater : TT OpR :=
(.ite (.cmp .leq (.var 3) (.lit 12))
 (.ite (.not (.cmp .leq (.var 4) (.lit 12)))
 (.ret ((.v (.one (.z (.bool (.lit true))))), [], 1))
 (.ite (.cmp .neq (.fn 160 (.i (.var 0) (.i (.var 1) (.i (.var 2) (.i (.var 3) (.i (.var 4) (.x (.var 5) (.i (.var 6) .nil)))))))) (.lit 0))
 (.ite (.cmp .eql (.fn 160 (.i (.var 0) (.i (.var 1) (.i (.var 2) (.i (.var 3) (.i (.var 4) (.x (.var 5) (.i (.var 6) .nil)))))))) (.lit 1))
 (.ret ((.v (.one (.z (.bool (.cmp .eql (.len (.fn 2 (.i (.var 0) (.i (.var 1) (.i (.var 2) (.i (.var 3) (.i (.var 4) (.x (.var 5) (.i (.var 6) .nil))))))))) (.lit 0)))))), [], 2))
 (.ret ((.v (.one (.z (.bool (.lit false))))), [], 2)))
 (.ite (.cmp .neq (.len (.fn 2 (.i (.var 0) (.i (.var 1) (.i (.var 2) (.i (.var 3) (.i (.var 4) (.x (.var 5) (.i (.var 6) .nil))))))))) (.len (.var 5)))
 (.ret ((.v (.one (.z (.bool (.lit false))))), [], 2))
 (.ite (.cmp .eql (.len (.fn 2 (.i (.var 0) (.i (.var 1) (.i (.var 2) (.i (.var 3) (.i (.var 4) (.x (.var 5) (.i (.var 6) .nil))))))))) (.lit 0))
 (.ret ((.v (.one (.z (.bool (.lit false))))), [], 2))
 (.loop 0 3000 ⟨[(1, (.lit 0)), (2, (.lit 0))], [(0, (.lit true))], []⟩
 (.ite (.cmp .lss (.var 3002) (.len (.fn 2 (.i (.var 0) (.i (.var 1) (.i (.var 2) (.i (.var 3) (.i (.var 4) (.x (.var 5) (.i (.var 6) .nil))))))))))
 (.loop 1 4000 ⟨[], [(0, (.lit false))], []⟩
 (.ite (.var 4000)
 (.ob (.tru (.cmp .leq (.lit 0) (.var 3002)))
 (.ob (.tru (.cmp .lss (.var 3002) (.len (.fn 2 (.i (.var 0) (.i (.var 1) (.i (.var 2) (.i (.var 3) (.i (.var 4) (.x (.var 5) (.i (.var 6) .nil)))))))))))
 (.ob (.tru (.cmp .neq (.var 3) (.lit 0)))
 (.ite (.cmp .gtr (.ar .rem .i64 (.var 3002) (.var 3)) (.lit 0))
 (.ob (.tru (.cmp .leq (.lit 0) (.var 3002)))
 (.ob (.tru (.cmp .lss (.var 3002) (.len (.fn 2 (.i (.var 0) (.i (.var 1) (.i (.var 2) (.i (.var 3) (.i (.var 4) (.x (.var 5) (.i (.var 6) .nil)))))))))))
 (.ite (.cmp .gtr (.rd (.fn 2 (.i (.var 0) (.i (.var 1) (.i (.var 2) (.i (.var 3) (.i (.var 4) (.x (.var 5) (.i (.var 6) .nil)))))))) (.var 3002) 0) (.lit 0))
 (.ob (.tru (.cmp .leq (.lit 0) (.ar .sub .i64 (.var 3002) (.lit 1))))
 (.ob (.tru (.cmp .lss (.ar .sub .i64 (.var 3002) (.lit 1)) (.len (.fn 2 (.i (.var 0) (.i (.var 1) (.i (.var 2) (.i (.var 3) (.i (.var 4) (.x (.var 5) (.i (.var 6) .nil)))))))))))
 (.ite (.cmp .gtr (.rd (.fn 2 (.i (.var 0) (.i (.var 1) (.i (.var 2) (.i (.var 3) (.i (.var 4) (.x (.var 5) (.i (.var 6) .nil)))))))) (.ar .sub .i64 (.var 3002) (.lit 1)) 0) (.lit 0))
 (.ite (.var 4001)
 (.ob (.tru (.cmp .leq (.lit 0) (.var 3002)))
 (.ob (.tru (.cmp .lss (.var 3002) (.len (.fn 2 (.i (.var 0) (.i (.var 1) (.i (.var 2) (.i (.var 3) (.i (.var 4) (.x (.var 5) (.i (.var 6) .nil)))))))))))
 (.ob (.tru (.cmp .leq (.lit 0) (.ar .sub .i64 (.var 3002) (.lit 1))))
 (.ob (.tru (.cmp .lss (.ar .sub .i64 (.var 3002) (.lit 1)) (.len (.fn 2 (.i (.var 0) (.i (.var 1) (.i (.var 2) (.i (.var 3) (.i (.var 4) (.x (.var 5) (.i (.var 6) .nil)))))))))))
 (.ite (.cmp .geq (.var 3002) (.var 3))
 (.ob (.tru (.cmp .leq (.lit 0) (.var 3002)))
 (.ob (.tru (.cmp .lss (.var 3002) (.len (.fn 2 (.i (.var 0) (.i (.var 1) (.i (.var 2) (.i (.var 3) (.i (.var 4) (.x (.var 5) (.i (.var 6) .nil)))))))))))
 (.ite (.cmp .gtr (.rd (.fn 2 (.i (.var 0) (.i (.var 1) (.i (.var 2) (.i (.var 3) (.i (.var 4) (.x (.var 5) (.i (.var 6) .nil)))))))) (.var 3002) 0) (.lit 0))
 (.ob (.tru (.cmp .leq (.lit 0) (.ar .sub .i64 (.var 3002) (.var 3))))
 (.ob (.tru (.cmp .lss (.ar .sub .i64 (.var 3002) (.var 3)) (.len (.fn 2 (.i (.var 0) (.i (.var 1) (.i (.var 2) (.i (.var 3) (.i (.var 4) (.x (.var 5) (.i (.var 6) .nil)))))))))))
 (.ite (.cmp .gtr (.rd (.fn 2 (.i (.var 0) (.i (.var 1) (.i (.var 2) (.i (.var 3) (.i (.var 4) (.x (.var 5) (.i (.var 6) .nil)))))))) (.ar .sub .i64 (.var 3002) (.var 3)) 0) (.lit 0))
 (.ite (.cmp .eql (.rd (.fn 2 (.i (.var 0) (.i (.var 1) (.i (.var 2) (.i (.var 3) (.i (.var 4) (.x (.var 5) (.i (.var 6) .nil)))))))) (.var 3002) 0) (.rd (.fn 2 (.i (.var 0) (.i (.var 1) (.i (.var 2) (.i (.var 3) (.i (.var 4) (.x (.var 5) (.i (.var 6) .nil)))))))) (.ar .sub .i64 (.var 3002) (.lit 1)) 0))
 (.ob (.tru (.cmp .leq (.lit 0) (.var 3002)))
 (.ob (.tru (.cmp .lss (.var 3002) (.len (.fn 2 (.i (.var 0) (.i (.var 1) (.i (.var 2) (.i (.var 3) (.i (.var 4) (.x (.var 5) (.i (.var 6) .nil)))))))))))
 (.ob (.tru (.cmp .leq (.lit 0) (.ar .sub .i64 (.var 3002) (.var 3))))
 (.ob (.tru (.cmp .lss (.ar .sub .i64 (.var 3002) (.var 3)) (.len (.fn 2 (.i (.var 0) (.i (.var 1) (.i (.var 2) (.i (.var 3) (.i (.var 4) (.x (.var 5) (.i (.var 6) .nil)))))))))))
 (.next 0 ⟨[(1, (.mx (.var 3001) (.rd (.fn 2 (.i (.var 0) (.i (.var 1) (.i (.var 2) (.i (.var 3) (.i (.var 4) (.x (.var 5) (.i (.var 6) .nil)))))))) (.var 3002) 0))), (2, (.ar .add .i64 (.var 3002) (.lit 1)))], [(0, (.cmp .eql (.rd (.fn 2 (.i (.var 0) (.i (.var 1) (.i (.var 2) (.i (.var 3) (.i (.var 4) (.x (.var 5) (.i (.var 6) .nil)))))))) (.var 3002) 0) (.rd (.fn 2 (.i (.var 0) (.i (.var 1) (.i (.var 2) (.i (.var 3) (.i (.var 4) (.x (.var 5) (.i (.var 6) .nil)))))))) (.ar .sub .i64 (.var 3002) (.var 3)) 0)))], []⟩)))))
 (.next 0 ⟨[(1, (.mx (.var 3001) (.rd (.fn 2 (.i (.var 0) (.i (.var 1) (.i (.var 2) (.i (.var 3) (.i (.var 4) (.x (.var 5) (.i (.var 6) .nil)))))))) (.var 3002) 0))), (2, (.ar .add .i64 (.var 3002) (.lit 1)))], [(0, (.lit false))], []⟩))
 (.next 0 ⟨[(1, (.mx (.var 3001) (.rd (.fn 2 (.i (.var 0) (.i (.var 1) (.i (.var 2) (.i (.var 3) (.i (.var 4) (.x (.var 5) (.i (.var 6) .nil)))))))) (.var 3002) 0))), (2, (.ar .add .i64 (.var 3002) (.lit 1)))], [(0, (.cmp .eql (.rd (.fn 2 (.i (.var 0) (.i (.var 1) (.i (.var 2) (.i (.var 3) (.i (.var 4) (.x (.var 5) (.i (.var 6) .nil)))))))) (.var 3002) 0) (.rd (.fn 2 (.i (.var 0) (.i (.var 1) (.i (.var 2) (.i (.var 3) (.i (.var 4) (.x (.var 5) (.i (.var 6) .nil)))))))) (.ar .sub .i64 (.var 3002) (.lit 1)) 0)))], []⟩))))
 (.next 0 ⟨[(1, (.mx (.var 3001) (.rd (.fn 2 (.i (.var 0) (.i (.var 1) (.i (.var 2) (.i (.var 3) (.i (.var 4) (.x (.var 5) (.i (.var 6) .nil)))))))) (.var 3002) 0))), (2, (.ar .add .i64 (.var 3002) (.lit 1)))], [(0, (.cmp .eql (.rd (.fn 2 (.i (.var 0) (.i (.var 1) (.i (.var 2) (.i (.var 3) (.i (.var 4) (.x (.var 5) (.i (.var 6) .nil)))))))) (.var 3002) 0) (.rd (.fn 2 (.i (.var 0) (.i (.var 1) (.i (.var 2) (.i (.var 3) (.i (.var 4) (.x (.var 5) (.i (.var 6) .nil)))))))) (.ar .sub .i64 (.var 3002) (.lit 1)) 0)))], []⟩))))
 (.next 0 ⟨[(1, (.mx (.var 3001) (.rd (.fn 2 (.i (.var 0) (.i (.var 1) (.i (.var 2) (.i (.var 3) (.i (.var 4) (.x (.var 5) (.i (.var 6) .nil)))))))) (.var 3002) 0))), (2, (.ar .add .i64 (.var 3002) (.lit 1)))], [(0, (.cmp .eql (.rd (.fn 2 (.i (.var 0) (.i (.var 1) (.i (.var 2) (.i (.var 3) (.i (.var 4) (.x (.var 5) (.i (.var 6) .nil)))))))) (.var 3002) 0) (.rd (.fn 2 (.i (.var 0) (.i (.var 1) (.i (.var 2) (.i (.var 3) (.i (.var 4) (.x (.var 5) (.i (.var 6) .nil)))))))) (.ar .sub .i64 (.var 3002) (.lit 1)) 0)))], []⟩))))))
 (.ite (.cmp .geq (.var 3002) (.var 3))
 (.ob (.tru (.cmp .leq (.lit 0) (.var 3002)))
 (.ob (.tru (.cmp .lss (.var 3002) (.len (.fn 2 (.i (.var 0) (.i (.var 1) (.i (.var 2) (.i (.var 3) (.i (.var 4) (.x (.var 5) (.i (.var 6) .nil)))))))))))
 (.ite (.cmp .gtr (.rd (.fn 2 (.i (.var 0) (.i (.var 1) (.i (.var 2) (.i (.var 3) (.i (.var 4) (.x (.var 5) (.i (.var 6) .nil)))))))) (.var 3002) 0) (.lit 0))
 (.ob (.tru (.cmp .leq (.lit 0) (.ar .sub .i64 (.var 3002) (.var 3))))
 (.ob (.tru (.cmp .lss (.ar .sub .i64 (.var 3002) (.var 3)) (.len (.fn 2 (.i (.var 0) (.i (.var 1) (.i (.var 2) (.i (.var 3) (.i (.var 4) (.x (.var 5) (.i (.var 6) .nil)))))))))))
 (.ite (.cmp .gtr (.rd (.fn 2 (.i (.var 0) (.i (.var 1) (.i (.var 2) (.i (.var 3) (.i (.var 4) (.x (.var 5) (.i (.var 6) .nil)))))))) (.ar .sub .i64 (.var 3002) (.var 3)) 0) (.lit 0))
 (.next 0 ⟨[(1, (.mx (.var 3001) (.rd (.fn 2 (.i (.var 0) (.i (.var 1) (.i (.var 2) (.i (.var 3) (.i (.var 4) (.x (.var 5) (.i (.var 6) .nil)))))))) (.var 3002) 0))), (2, (.ar .add .i64 (.var 3002) (.lit 1)))], [(0, (.lit false))], []⟩)
 (.next 0 ⟨[(1, (.mx (.var 3001) (.rd (.fn 2 (.i (.var 0) (.i (.var 1) (.i (.var 2) (.i (.var 3) (.i (.var 4) (.x (.var 5) (.i (.var 6) .nil)))))))) (.var 3002) 0))), (2, (.ar .add .i64 (.var 3002) (.lit 1)))], [(0, (.lit false))], []⟩))))
 (.next 0 ⟨[(1, (.mx (.var 3001) (.rd (.fn 2 (.i (.var 0) (.i (.var 1) (.i (.var 2) (.i (.var 3) (.i (.var 4) (.x (.var 5) (.i (.var 6) .nil)))))))) (.var 3002) 0))), (2, (.ar .add .i64 (.var 3002) (.lit 1)))], [(0, (.lit false))], []⟩))))
 (.next 0 ⟨[(1, (.mx (.var 3001) (.rd (.fn 2 (.i (.var 0) (.i (.var 1) (.i (.var 2) (.i (.var 3) (.i (.var 4) (.x (.var 5) (.i (.var 6) .nil)))))))) (.var 3002) 0))), (2, (.ar .add .i64 (.var 3002) (.lit 1)))], [(0, (.lit false))], []⟩)))
 (.ite (.cmp .geq (.var 3002) (.var 3))
 (.ob (.tru (.cmp .leq (.lit 0) (.var 3002)))
 (.ob (.tru (.cmp .lss (.var 3002) (.len (.fn 2 (.i (.var 0) (.i (.var 1) (.i (.var 2) (.i (.var 3) (.i (.var 4) (.x (.var 5) (.i (.var 6) .nil)))))))))))
 (.ite (.cmp .gtr (.rd (.fn 2 (.i (.var 0) (.i (.var 1) (.i (.var 2) (.i (.var 3) (.i (.var 4) (.x (.var 5) (.i (.var 6) .nil)))))))) (.var 3002) 0) (.lit 0))
 (.ob (.tru (.cmp .leq (.lit 0) (.ar .sub .i64 (.var 3002) (.var 3))))
 (.ob (.tru (.cmp .lss (.ar .sub .i64 (.var 3002) (.var 3)) (.len (.fn 2 (.i (.var 0) (.i (.var 1) (.i (.var 2) (.i (.var 3) (.i (.var 4) (.x (.var 5) (.i (.var 6) .nil)))))))))))
 (.ite (.cmp .gtr (.rd (.fn 2 (.i (.var 0) (.i (.var 1) (.i (.var 2) (.i (.var 3) (.i (.var 4) (.x (.var 5) (.i (.var 6) .nil)))))))) (.ar .sub .i64 (.var 3002) (.var 3)) 0) (.lit 0))
 (.ite (.var 4001)
 (.ob (.tru (.cmp .leq (.lit 0) (.var 3002)))
 (.ob (.tru (.cmp .lss (.var 3002) (.len (.fn 2 (.i (.var 0) (.i (.var 1) (.i (.var 2) (.i (.var 3) (.i (.var 4) (.x (.var 5) (.i (.var 6) .nil)))))))))))
 (.ob (.tru (.cmp .leq (.lit 0) (.ar .sub .i64 (.var 3002) (.var 3))))
 (.ob (.tru (.cmp .lss (.ar .sub .i64 (.var 3002) (.var 3)) (.len (.fn 2 (.i (.var 0) (.i (.var 1) (.i (.var 2) (.i (.var 3) (.i (.var 4) (.x (.var 5) (.i (.var 6) .nil)))))))))))
 (.next 0 ⟨[(1, (.mx (.var 3001) (.rd (.fn 2 (.i (.var 0) (.i (.var 1) (.i (.var 2) (.i (.var 3) (.i (.var 4) (.x (.var 5) (.i (.var 6) .nil)))))))) (.var 3002) 0))), (2, (.ar .add .i64 (.var 3002) (.lit 1)))], [(0, (.cmp .eql (.rd (.fn 2 (.i (.var 0) (.i (.var 1) (.i (.var 2) (.i (.var 3) (.i (.var 4) (.x (.var 5) (.i (.var 6) .nil)))))))) (.var 3002) 0) (.rd (.fn 2 (.i (.var 0) (.i (.var 1) (.i (.var 2) (.i (.var 3) (.i (.var 4) (.x (.var 5) (.i (.var 6) .nil)))))))) (.ar .sub .i64 (.var 3002) (.var 3)) 0)))], []⟩)))))
 (.next 0 ⟨[(1, (.mx (.var 3001) (.rd (.fn 2 (.i (.var 0) (.i (.var 1) (.i (.var 2) (.i (.var 3) (.i (.var 4) (.x (.var 5) (.i (.var 6) .nil)))))))) (.var 3002) 0))), (2, (.ar .add .i64 (.var 3002) (.lit 1)))], [(0, (.lit false))], []⟩))
 (.next 0 ⟨[(1, (.mx (.var 3001) (.rd (.fn 2 (.i (.var 0) (.i (.var 1) (.i (.var 2) (.i (.var 3) (.i (.var 4) (.x (.var 5) (.i (.var 6) .nil)))))))) (.var 3002) 0))), (2, (.ar .add .i64 (.var 3002) (.lit 1)))], [(0, (.var 4001))], []⟩))))
 (.next 0 ⟨[(1, (.mx (.var 3001) (.rd (.fn 2 (.i (.var 0) (.i (.var 1) (.i (.var 2) (.i (.var 3) (.i (.var 4) (.x (.var 5) (.i (.var 6) .nil)))))))) (.var 3002) 0))), (2, (.ar .add .i64 (.var 3002) (.lit 1)))], [(0, (.var 4001))], []⟩))))
 (.next 0 ⟨[(1, (.mx (.var 3001) (.rd (.fn 2 (.i (.var 0) (.i (.var 1) (.i (.var 2) (.i (.var 3) (.i (.var 4) (.x (.var 5) (.i (.var 6) .nil)))))))) (.var 3002) 0))), (2, (.ar .add .i64 (.var 3002) (.lit 1)))], [(0, (.var 4001))], []⟩)))))
 (.ite (.cmp .geq (.var 3002) (.var 3))
 (.ob (.tru (.cmp .leq (.lit 0) (.var 3002)))
 (.ob (.tru (.cmp .lss (.var 3002) (.len (.fn 2 (.i (.var 0) (.i (.var 1) (.i (.var 2) (.i (.var 3) (.i (.var 4) (.x (.var 5) (.i (.var 6) .nil)))))))))))
 (.ite (.cmp .gtr (.rd (.fn 2 (.i (.var 0) (.i (.var 1) (.i (.var 2) (.i (.var 3) (.i (.var 4) (.x (.var 5) (.i (.var 6) .nil)))))))) (.var 3002) 0) (.lit 0))
 (.ob (.tru (.cmp .leq (.lit 0) (.ar .sub .i64 (.var 3002) (.var 3))))
 (.ob (.tru (.cmp .lss (.ar .sub .i64 (.var 3002) (.var 3)) (.len (.fn 2 (.i (.var 0) (.i (.var 1) (.i (.var 2) (.i (.var 3) (.i (.var 4) (.x (.var 5) (.i (.var 6) .nil)))))))))))
 (.ite (.cmp .gtr (.rd (.fn 2 (.i (.var 0) (.i (.var 1) (.i (.var 2) (.i (.var 3) (.i (.var 4) (.x (.var 5) (.i (.var 6) .nil)))))))) (.ar .sub .i64 (.var 3002) (.var 3)) 0) (.lit 0))
 (.ite (.var 4001)
 (.ob (.tru (.cmp .leq (.lit 0) (.var 3002)))
 (.ob (.tru (.cmp .lss (.var 3002) (.len (.fn 2 (.i (.var 0) (.i (.var 1) (.i (.var 2) (.i (.var 3) (.i (.var 4) (.x (.var 5) (.i (.var 6) .nil)))))))))))
 (.ob (.tru (.cmp .leq (.lit 0) (.ar .sub .i64 (.var 3002) (.var 3))))
 (.ob (.tru (.cmp .lss (.ar .sub .i64 (.var 3002) (.var 3)) (.len (.fn 2 (.i (.var 0) (.i (.var 1) (.i (.var 2) (.i (.var 3) (.i (.var 4) (.x (.var 5) (.i (.var 6) .nil)))))))))))
 (.next 0 ⟨[(1, (.mx (.var 3001) (.rd (.fn 2 (.i (.var 0) (.i (.var 1) (.i (.var 2) (.i (.var 3) (.i (.var 4) (.x (.var 5) (.i (.var 6) .nil)))))))) (.var 3002) 0))), (2, (.ar .add .i64 (.var 3002) (.lit 1)))], [(0, (.cmp .eql (.rd (.fn 2 (.i (.var 0) (.i (.var 1) (.i (.var 2) (.i (.var 3) (.i (.var 4) (.x (.var 5) (.i (.var 6) .nil)))))))) (.var 3002) 0) (.rd (.fn 2 (.i (.var 0) (.i (.var 1) (.i (.var 2) (.i (.var 3) (.i (.var 4) (.x (.var 5) (.i (.var 6) .nil)))))))) (.ar .sub .i64 (.var 3002) (.var 3)) 0)))], []⟩)))))
 (.next 0 ⟨[(1, (.mx (.var 3001) (.rd (.fn 2 (.i (.var 0) (.i (.var 1) (.i (.var 2) (.i (.var 3) (.i (.var 4) (.x (.var 5) (.i (.var 6) .nil)))))))) (.var 3002) 0))), (2, (.ar .add .i64 (.var 3002) (.lit 1)))], [(0, (.lit false))], []⟩))
 (.next 0 ⟨[(1, (.mx (.var 3001) (.rd (.fn 2 (.i (.var 0) (.i (.var 1) (.i (.var 2) (.i (.var 3) (.i (.var 4) (.x (.var 5) (.i (.var 6) .nil)))))))) (.var 3002) 0))), (2, (.ar .add .i64 (.var 3002) (.lit 1)))], [(0, (.var 4001))], []⟩))))
 (.next 0 ⟨[(1, (.mx (.var 3001) (.rd (.fn 2 (.i (.var 0) (.i (.var 1) (.i (.var 2) (.i (.var 3) (.i (.var 4) (.x (.var 5) (.i (.var 6) .nil)))))))) (.var 3002) 0))), (2, (.ar .add .i64 (.var 3002) (.lit 1)))], [(0, (.var 4001))], []⟩))))
 (.next 0 ⟨[(1, (.mx (.var 3001) (.rd (.fn 2 (.i (.var 0) (.i (.var 1) (.i (.var 2) (.i (.var 3) (.i (.var 4) (.x (.var 5) (.i (.var 6) .nil)))))))) (.var 3002) 0))), (2, (.ar .add .i64 (.var 3002) (.lit 1)))], [(0, (.var 4001))], []⟩)))))
 (.ite (.cmp .geq (.var 3002) (.var 3))
 (.ob (.tru (.cmp .leq (.lit 0) (.var 3002)))
 (.ob (.tru (.cmp .lss (.var 3002) (.len (.fn 2 (.i (.var 0) (.i (.var 1) (.i (.var 2) (.i (.var 3) (.i (.var 4) (.x (.var 5) (.i (.var 6) .nil)))))))))))
 (.ite (.cmp .gtr (.rd (.fn 2 (.i (.var 0) (.i (.var 1) (.i (.var 2) (.i (.var 3) (.i (.var 4) (.x (.var 5) (.i (.var 6) .nil)))))))) (.var 3002) 0) (.lit 0))
 (.ob (.tru (.cmp .leq (.lit 0) (.ar .sub .i64 (.var 3002) (.var 3))))
 (.ob (.tru (.cmp .lss (.ar .sub .i64 (.var 3002) (.var 3)) (.len (.fn 2 (.i (.var 0) (.i (.var 1) (.i (.var 2) (.i (.var 3) (.i (.var 4) (.x (.var 5) (.i (.var 6) .nil)))))))))))
 (.ite (.cmp .gtr (.rd (.fn 2 (.i (.var 0) (.i (.var 1) (.i (.var 2) (.i (.var 3) (.i (.var 4) (.x (.var 5) (.i (.var 6) .nil)))))))) (.ar .sub .i64 (.var 3002) (.var 3)) 0) (.lit 0))
 (.ite (.var 4001)
 (.ob (.tru (.cmp .leq (.lit 0) (.var 3002)))
 (.ob (.tru (.cmp .lss (.var 3002) (.len (.fn 2 (.i (.var 0) (.i (.var 1) (.i (.var 2) (.i (.var 3) (.i (.var 4) (.x (.var 5) (.i (.var 6) .nil)))))))))))
 (.ob (.tru (.cmp .leq (.lit 0) (.ar .sub .i64 (.var 3002) (.var 3))))
 (.ob (.tru (.cmp .lss (.ar .sub .i64 (.var 3002) (.var 3)) (.len (.fn 2 (.i (.var 0) (.i (.var 1) (.i (.var 2) (.i (.var 3) (.i (.var 4) (.x (.var 5) (.i (.var 6) .nil)))))))))))
 (.next 0 ⟨[(1, (.mx (.var 3001) (.rd (.fn 2 (.i (.var 0) (.i (.var 1) (.i (.var 2) (.i (.var 3) (.i (.var 4) (.x (.var 5) (.i (.var 6) .nil)))))))) (.var 3002) 0))), (2, (.ar .add .i64 (.var 3002) (.lit 1)))], [(0, (.cmp .eql (.rd (.fn 2 (.i (.var 0) (.i (.var 1) (.i (.var 2) (.i (.var 3) (.i (.var 4) (.x (.var 5) (.i (.var 6) .nil)))))))) (.var 3002) 0) (.rd (.fn 2 (.i (.var 0) (.i (.var 1) (.i (.var 2) (.i (.var 3) (.i (.var 4) (.x (.var 5) (.i (.var 6) .nil)))))))) (.ar .sub .i64 (.var 3002) (.var 3)) 0)))], []⟩)))))
 (.next 0 ⟨[(1, (.mx (.var 3001) (.rd (.fn 2 (.i (.var 0) (.i (.var 1) (.i (.var 2) (.i (.var 3) (.i (.var 4) (.x (.var 5) (.i (.var 6) .nil)))))))) (.var 3002) 0))), (2, (.ar .add .i64 (.var 3002) (.lit 1)))], [(0, (.lit false))], []⟩))
 (.next 0 ⟨[(1, (.mx (.var 3001) (.rd (.fn 2 (.i (.var 0) (.i (.var 1) (.i (.var 2) (.i (.var 3) (.i (.var 4) (.x (.var 5) (.i (.var 6) .nil)))))))) (.var 3002) 0))), (2, (.ar .add .i64 (.var 3002) (.lit 1)))], [(0, (.var 4001))], []⟩))))
 (.next 0 ⟨[(1, (.mx (.var 3001) (.rd (.fn 2 (.i (.var 0) (.i (.var 1) (.i (.var 2) (.i (.var 3) (.i (.var 4) (.x (.var 5) (.i (.var 6) .nil)))))))) (.var 3002) 0))), (2, (.ar .add .i64 (.var 3002) (.lit 1)))], [(0, (.var 4001))], []⟩))))
 (.next 0 ⟨[(1, (.mx (.var 3001) (.rd (.fn 2 (.i (.var 0) (.i (.var 1) (.i (.var 2) (.i (.var 3) (.i (.var 4) (.x (.var 5) (.i (.var 6) .nil)))))))) (.var 3002) 0))), (2, (.ar .add .i64 (.var 3002) (.lit 1)))], [(0, (.var 4001))], []⟩))))))
 (.ite (.var 3000)
 (.ob (.tru (.cmp .leq (.lit 0) (.var 3002)))
 (.ob (.tru (.cmp .lss (.var 3002) (.len (.fn 2 (.i (.var 0) (.i (.var 1) (.i (.var 2) (.i (.var 3) (.i (.var 4) (.x (.var 5) (.i (.var 6) .nil)))))))))))
 (.ob (.tru (.cmp .leq (.lit 0) (.var 3002)))
 (.ob (.tru (.cmp .lss (.var 3002) (.len (.var 5))))
 (.ite (.eqb (.cmp .eql (.rd (.fn 2 (.i (.var 0) (.i (.var 1) (.i (.var 2) (.i (.var 3) (.i (.var 4) (.x (.var 5) (.i (.var 6) .nil)))))))) (.var 3002) 0) (.lit 0)) (.cmp .lss (.rd (.var 5) (.var 3002) 0) (.var 6)))
 (.ob (.tru (.cmp .leq (.lit 0) (.var 3002)))
 (.ob (.tru (.cmp .lss (.var 3002) (.len (.fn 2 (.i (.var 0) (.i (.var 1) (.i (.var 2) (.i (.var 3) (.i (.var 4) (.x (.var 5) (.i (.var 6) .nil)))))))))))
 (.ite (.cmp .geq (.rd (.fn 2 (.i (.var 0) (.i (.var 1) (.i (.var 2) (.i (.var 3) (.i (.var 4) (.x (.var 5) (.i (.var 6) .nil)))))))) (.var 3002) 0) (.lit 0))
 (.ob (.tru (.cmp .leq (.lit 0) (.var 3002)))
 (.ob (.tru (.cmp .lss (.var 3002) (.len (.fn 2 (.i (.var 0) (.i (.var 1) (.i (.var 2) (.i (.var 3) (.i (.var 4) (.x (.var 5) (.i (.var 6) .nil)))))))))))
 (.next 1 ⟨[], [(1, (.cmp .leq (.rd (.fn 2 (.i (.var 0) (.i (.var 1) (.i (.var 2) (.i (.var 3) (.i (.var 4) (.x (.var 5) (.i (.var 6) .nil)))))))) (.var 3002) 0) (.ar .add .i64 (.var 3001) (.lit 1)))), (6, (.lit true)), (7, (.eqb (.cmp .eql (.rd (.fn 2 (.i (.var 0) (.i (.var 1) (.i (.var 2) (.i (.var 3) (.i (.var 4) (.x (.var 5) (.i (.var 6) .nil)))))))) (.var 3002) 0) (.lit 0)) (.cmp .lss (.rd (.var 5) (.var 3002) 0) (.var 6)))), (4, (.lit true)), (5, (.cmp .geq (.rd (.fn 2 (.i (.var 0) (.i (.var 1) (.i (.var 2) (.i (.var 3) (.i (.var 4) (.x (.var 5) (.i (.var 6) .nil)))))))) (.var 3002) 0) (.lit 0))), (2, (.lit true)), (3, (.cmp .leq (.rd (.fn 2 (.i (.var 0) (.i (.var 1) (.i (.var 2) (.i (.var 3) (.i (.var 4) (.x (.var 5) (.i (.var 6) .nil)))))))) (.var 3002) 0) (.ar .add .i64 (.var 3001) (.lit 1)))), (0, (.lit true))], []⟩)))
 (.next 1 ⟨[], [(1, (.lit false)), (6, (.lit true)), (7, (.eqb (.cmp .eql (.rd (.fn 2 (.i (.var 0) (.i (.var 1) (.i (.var 2) (.i (.var 3) (.i (.var 4) (.x (.var 5) (.i (.var 6) .nil)))))))) (.var 3002) 0) (.lit 0)) (.cmp .lss (.rd (.var 5) (.var 3002) 0) (.var 6)))), (4, (.lit true)), (5, (.cmp .geq (.rd (.fn 2 (.i (.var 0) (.i (.var 1) (.i (.var 2) (.i (.var 3) (.i (.var 4) (.x (.var 5) (.i (.var 6) .nil)))))))) (.var 3002) 0) (.lit 0))), (2, (.lit false)), (3, (.lit false)), (0, (.lit true))], []⟩))))
 (.next 1 ⟨[], [(1, (.lit false)), (6, (.lit true)), (7, (.eqb (.cmp .eql (.rd (.fn 2 (.i (.var 0) (.i (.var 1) (.i (.var 2) (.i (.var 3) (.i (.var 4) (.x (.var 5) (.i (.var 6) .nil)))))))) (.var 3002) 0) (.lit 0)) (.cmp .lss (.rd (.var 5) (.var 3002) 0) (.var 6)))), (4, (.lit false)), (5, (.lit false)), (2, (.lit false)), (3, (.lit false)), (0, (.lit true))], []⟩))))))
 (.next 1 ⟨[], [(1, (.lit false)), (6, (.lit false)), (7, (.lit false)), (4, (.lit false)), (5, (.lit false)), (2, (.lit false)), (3, (.lit false)), (0, (.lit true))], []⟩))))
 (.ob (.tru (.cmp .neq (.len (.fn 2 (.i (.var 0) (.i (.var 1) (.i (.var 2) (.i (.var 3) (.i (.var 4) (.x (.var 5) (.i (.var 6) .nil))))))))) (.lit 0)))
 (.ob (.tru (.cmp .neq (.len (.fn 2 (.i (.var 0) (.i (.var 1) (.i (.var 2) (.i (.var 3) (.i (.var 4) (.x (.var 5) (.i (.var 6) .nil))))))))) (.lit 0)))
 (.ite (.var 3000)
 (.ob (.tru (.cmp .leq (.lit 0) (.ar .rem .i64 (.wr .i64 (.var 7)) (.len (.fn 2 (.i (.var 0) (.i (.var 1) (.i (.var 2) (.i (.var 3) (.i (.var 4) (.x (.var 5) (.i (.var 6) .nil))))))))))))
 (.ob (.tru (.cmp .lss (.ar .rem .i64 (.wr .i64 (.var 7)) (.len (.fn 2 (.i (.var 0) (.i (.var 1) (.i (.var 2) (.i (.var 3) (.i (.var 4) (.x (.var 5) (.i (.var 6) .nil)))))))))) (.len (.fn 2 (.i (.var 0) (.i (.var 1) (.i (.var 2) (.i (.var 3) (.i (.var 4) (.x (.var 5) (.i (.var 6) .nil)))))))))))
 (.ite (.cmp .gtr (.rd (.fn 2 (.i (.var 0) (.i (.var 1) (.i (.var 2) (.i (.var 3) (.i (.var 4) (.x (.var 5) (.i (.var 6) .nil)))))))) (.ar .rem .i64 (.wr .i64 (.var 7)) (.len (.fn 2 (.i (.var 0) (.i (.var 1) (.i (.var 2) (.i (.var 3) (.i (.var 4) (.x (.var 5) (.i (.var 6) .nil)))))))))) 0) (.lit 0))
 (.ob (.tru (.cmp .leq (.lit 0) (.ar .rem .i64 (.wr .i64 (.var 7)) (.len (.fn 2 (.i (.var 0) (.i (.var 1) (.i (.var 2) (.i (.var 3) (.i (.var 4) (.x (.var 5) (.i (.var 6) .nil))))))))))))
 (.ob (.tru (.cmp .lss (.ar .rem .i64 (.wr .i64 (.var 7)) (.len (.fn 2 (.i (.var 0) (.i (.var 1) (.i (.var 2) (.i (.var 3) (.i (.var 4) (.x (.var 5) (.i (.var 6) .nil)))))))))) (.len (.fn 2 (.i (.var 0) (.i (.var 1) (.i (.var 2) (.i (.var 3) (.i (.var 4) (.x (.var 5) (.i (.var 6) .nil)))))))))))
 (.ob (.tru (.cmp .leq (.lit 0) (.ar .rem .i64 (.wr .i64 (.var 8)) (.len (.fn 2 (.i (.var 0) (.i (.var 1) (.i (.var 2) (.i (.var 3) (.i (.var 4) (.x (.var 5) (.i (.var 6) .nil))))))))))))
 (.ob (.tru (.cmp .lss (.ar .rem .i64 (.wr .i64 (.var 8)) (.len (.fn 2 (.i (.var 0) (.i (.var 1) (.i (.var 2) (.i (.var 3) (.i (.var 4) (.x (.var 5) (.i (.var 6) .nil)))))))))) (.len (.fn 2 (.i (.var 0) (.i (.var 1) (.i (.var 2) (.i (.var 3) (.i (.var 4) (.x (.var 5) (.i (.var 6) .nil)))))))))))
 (.ite (.eqb (.cmp .eql (.fn 161 (.i (.var 0) (.i (.var 1) (.i (.var 2) (.i (.var 3) (.i (.var 4) (.x (.var 5) (.i (.var 6) (.i (.ar .rem .i64 (.wr .i64 (.var 7)) (.len (.fn 2 (.i (.var 0) (.i (.var 1) (.i (.var 2) (.i (.var 3) (.i (.var 4) (.x (.var 5) (.i (.var 6) .nil)))))))))) (.i (.ar .rem .i64 (.wr .i64 (.var 8)) (.len (.fn 2 (.i (.var 0) (.i (.var 1) (.i (.var 2) (.i (.var 3) (.i (.var 4) (.x (.var 5) (.i (.var 6) .nil)))))))))) .nil)))))))))) (.lit 0)) (.cmp .eql (.rd (.fn 2 (.i (.var 0) (.i (.var 1) (.i (.var 2) (.i (.var 3) (.i (.var 4) (.x (.var 5) (.i (.var 6) .nil)))))))) (.ar .rem .i64 (.wr .i64 (.var 7)) (.len (.fn 2 (.i (.var 0) (.i (.var 1) (.i (.var 2) (.i (.var 3) (.i (.var 4) (.x (.var 5) (.i (.var 6) .nil)))))))))) 0) (.rd (.fn 2 (.i (.var 0) (.i (.var 1) (.i (.var 2) (.i (.var 3) (.i (.var 4) (.x (.var 5) (.i (.var 6) .nil)))))))) (.ar .rem .i64 (.wr .i64 (.var 8)) (.len (.fn 2 (.i (.var 0) (.i (.var 1) (.i (.var 2) (.i (.var 3) (.i (.var 4) (.x (.var 5) (.i (.var 6) .nil)))))))))) 0)))
 (.ite (.cmp .eql (.fn 161 (.i (.var 0) (.i (.var 1) (.i (.var 2) (.i (.var 3) (.i (.var 4) (.x (.var 5) (.i (.var 6) (.i (.ar .rem .i64 (.wr .i64 (.var 7)) (.len (.fn 2 (.i (.var 0) (.i (.var 1) (.i (.var 2) (.i (.var 3) (.i (.var 4) (.x (.var 5) (.i (.var 6) .nil)))))))))) (.i (.ar .rem .i64 (.wr .i64 (.var 8)) (.len (.fn 2 (.i (.var 0) (.i (.var 1) (.i (.var 2) (.i (.var 3) (.i (.var 4) (.x (.var 5) (.i (.var 6) .nil)))))))))) .nil)))))))))) (.lit 0))
 (.ret ((.v (.one (.z (.bool (.lit true))))), [], 5))
 (.ret ((.v (.one (.z (.bool (.cmp .eql (.fn 161 (.i (.var 0) (.i (.var 1) (.i (.var 2) (.i (.var 3) (.i (.var 4) (.x (.var 5) (.i (.var 6) (.i (.ar .rem .i64 (.wr .i64 (.var 7)) (.len (.fn 2 (.i (.var 0) (.i (.var 1) (.i (.var 2) (.i (.var 3) (.i (.var 4) (.x (.var 5) (.i (.var 6) .nil)))))))))) (.i (.ar .rem .i64 (.wr .i64 (.var 8)) (.len (.fn 2 (.i (.var 0) (.i (.var 1) (.i (.var 2) (.i (.var 3) (.i (.var 4) (.x (.var 5) (.i (.var 6) .nil)))))))))) .nil)))))))))) (.lit 4)))))), [], 5)))
 (.ret ((.v (.one (.z (.bool (.lit false))))), [], 5)))))))
 (.ite (.not (.cmp .eql (.fn 161 (.i (.var 0) (.i (.var 1) (.i (.var 2) (.i (.var 3) (.i (.var 4) (.x (.var 5) (.i (.var 6) (.i (.ar .rem .i64 (.wr .i64 (.var 7)) (.len (.fn 2 (.i (.var 0) (.i (.var 1) (.i (.var 2) (.i (.var 3) (.i (.var 4) (.x (.var 5) (.i (.var 6) .nil)))))))))) (.i (.ar .rem .i64 (.wr .i64 (.var 8)) (.len (.fn 2 (.i (.var 0) (.i (.var 1) (.i (.var 2) (.i (.var 3) (.i (.var 4) (.x (.var 5) (.i (.var 6) .nil)))))))))) .nil)))))))))) (.lit 0)))
 (.ite (.cmp .eql (.fn 161 (.i (.var 0) (.i (.var 1) (.i (.var 2) (.i (.var 3) (.i (.var 4) (.x (.var 5) (.i (.var 6) (.i (.ar .rem .i64 (.wr .i64 (.var 7)) (.len (.fn 2 (.i (.var 0) (.i (.var 1) (.i (.var 2) (.i (.var 3) (.i (.var 4) (.x (.var 5) (.i (.var 6) .nil)))))))))) (.i (.ar .rem .i64 (.wr .i64 (.var 8)) (.len (.fn 2 (.i (.var 0) (.i (.var 1) (.i (.var 2) (.i (.var 3) (.i (.var 4) (.x (.var 5) (.i (.var 6) .nil)))))))))) .nil)))))))))) (.lit 0))
 (.ret ((.v (.one (.z (.bool (.lit true))))), [], 5))
 (.ret ((.v (.one (.z (.bool (.cmp .eql (.fn 161 (.i (.var 0) (.i (.var 1) (.i (.var 2) (.i (.var 3) (.i (.var 4) (.x (.var 5) (.i (.var 6) (.i (.ar .rem .i64 (.wr .i64 (.var 7)) (.len (.fn 2 (.i (.var 0) (.i (.var 1) (.i (.var 2) (.i (.var 3) (.i (.var 4) (.x (.var 5) (.i (.var 6) .nil)))))))))) (.i (.ar .rem .i64 (.wr .i64 (.var 8)) (.len (.fn 2 (.i (.var 0) (.i (.var 1) (.i (.var 2) (.i (.var 3) (.i (.var 4) (.x (.var 5) (.i (.var 6) .nil)))))))))) .nil)))))))))) (.lit 4)))))), [], 5)))
 (.ret ((.v (.one (.z (.bool (.lit false))))), [], 5))))))
 (.ret ((.v (.one (.z (.bool (.lit false))))), [], 5)))))))))))
 (.ret ((.v (.one (.z (.bool (.lit true))))), [], 1)))
def trLWater_h : List (Nat × St) := [
(2, ⟨(List.append [(.v (.agg [(.z (.int .i64 (.var 0))), (.z (.int .i64 (.var 1))), (.z (.int .i64 (.var 2))), (.z (.int .i64 (.var 3))), (.z (.int .i64 (.var 4))), (.z (.ext [(.int .i64)] (.var 5) false))])), (.v (.one (.z (.int .i64 (.var 6))))), (.v (.one (.z (.int .u16 (.var 7))))), (.v (.one (.z (.int .u16 (.var 8))))), (.v (.one (.z (.ptr 0 0)))), (.v (.one (.z .any))), (.v (.one (.z .any))), (.v (.one (.z .any))), (.v (.one (.z (.bool (.lit false))))), (.v (.one (.z (.bool (.var 3000))))), (.v (.one (.z (.own 1 (.lit 0))))), (.v (.one (.z (.int .i64 (.fn 160 (.i (.var 0) (.i (.var 1) (.i (.var 2) (.i (.var 3) (.i (.var 4) (.x (.var 5) (.i (.var 6) .nil)))))))))))), (.v (.one (.z (.int .i64 (.var 3001))))), (.v (.one (.z (.int .i64 (.var 3002)))))] (List.append (List.replicate 4 V.any) (List.append [(.v (.one (.z (.bool (.lit true))))), (.v (.one (.z (.ptr 0 3)))), (.v (.one (.z (.int .i64 (.var 3))))), (.v (.one (.z (.ptr 0 4)))), (.v (.one (.z (.int .i64 (.var 4))))), (.v (.one (.z (.bool (.cmp .leq (.var 4) (.lit 12)))))), (.v (.one (.z (.bool (.not (.cmp .leq (.var 4) (.lit 12))))))), (.v (.one (.z .any))), (.v (.one (.z .any))), (.v (.agg [(.z (.int .i64 (.var 0))), (.z (.int .i64 (.var 1))), (.z (.int .i64 (.var 2))), (.z (.int .i64 (.var 3))), (.z (.int .i64 (.var 4))), (.z (.ext [(.int .i64)] (.var 5) false))])), (.v (.one (.z (.int .i64 (.var 6))))), (.v (.one (.z .any))), (.v (.one (.z (.own 1 (.lit 0))))), (.v (.one (.z (.int .i64 (.fn 160 (.i (.var 0) (.i (.var 1) (.i (.var 2) (.i (.var 3) (.i (.var 4) (.x (.var 5) (.i (.var 6) .nil)))))))))))), (.v (.one (.z (.int .i64 (.fn 160 (.i (.var 0) (.i (.var 1) (.i (.var 2) (.i (.var 3) (.i (.var 4) (.x (.var 5) (.i (.var 6) .nil)))))))))))), (.v (.one (.z (.bool (.cmp .neq (.fn 160 (.i (.var 0) (.i (.var 1) (.i (.var 2) (.i (.var 3) (.i (.var 4) (.x (.var 5) (.i (.var 6) .nil)))))))) (.lit 0))))))] (List.append (List.replicate 10 V.any) (List.append [(.v (.one (.z (.own 1 (.lit 0))))), (.v (.one (.z (.int .i64 (.len (.fn 2 (.i (.var 0) (.i (.var 1) (.i (.var 2) (.i (.var 3) (.i (.var 4) (.x (.var 5) (.i (.var 6) .nil))))))))))))), (.v (.one (.z (.ptr 0 5)))), (.v (.one (.z (.ext [(.int .i64)] (.var 5) false)))), (.v (.one (.z (.int .i64 (.len (.var 5)))))), (.v (.one (.z (.bool (.cmp .neq (.len (.fn 2 (.i (.var 0) (.i (.var 1) (.i (.var 2) (.i (.var 3) (.i (.var 4) (.x (.var 5) (.i (.var 6) .nil))))))))) (.len (.var 5))))))), (.v (.one (.z (.bool (.lit false))))), (.v (.one (.z (.own 1 (.lit 0))))), (.v (.one (.z (.int .i64 (.len (.fn 2 (.i (.var 0) (.i (.var 1) (.i (.var 2) (.i (.var 3) (.i (.var 4) (.x (.var 5) (.i (.var 6) .nil))))))))))))), (.v (.one (.z (.bool (.cmp .eql (.len (.fn 2 (.i (.var 0) (.i (.var 1) (.i (.var 2) (.i (.var 3) (.i (.var 4) (.x (.var 5) (.i (.var 6) .nil))))))))) (.lit 0)))))), (.v (.one (.z (.bool (.cmp .eql (.len (.fn 2 (.i (.var 0) (.i (.var 1) (.i (.var 2) (.i (.var 3) (.i (.var 4) (.x (.var 5) (.i (.var 6) .nil))))))))) (.lit 0))))))] (List.replicate 161 V.any)))))), [(1, (.own 3 [(.int .i64)] (.fn 2 (.i (.var 0) (.i (.var 1) (.i (.var 2) (.i (.var 3) (.i (.var 4) (.x (.var 5) (.i (.var 6) .nil)))))))) (.lit 0))), (0, (.cells 26 [(.z (.int .i64 (.var 0))), (.z (.int .i64 (.var 1))), (.z (.int .i64 (.var 2))), (.z (.int .i64 (.var 3))), (.z (.int .i64 (.var 4))), (.z (.ext [(.int .i64)] (.var 5) false))]))], 3, []⟩)]
def trLWater_j : List (FuncId × Nat × Nat × St) := [
(3, 2000061, 2, ⟨(List.append [(.v (.agg [(.z (.int .i64 (.var 0))), (.z (.int .i64 (.var 1))), (.z (.int .i64 (.var 2))), (.z (.int .i64 (.var 3))), (.z (.int .i64 (.var 4))), (.z (.ext [(.int .i64)] (.var 5) false))])), (.v (.one (.z (.int .i64 (.var 6))))), (.v (.one (.z (.int .u16 (.var 7))))), (.v (.one (.z (.int .u16 (.var 8))))), (.v (.one (.z (.ptr 0 0)))), (.v (.one (.z .any))), (.v (.one (.z .any))), (.v (.one (.z .any))), (.v (.one (.z (.bool (.lit false))))), (.v (.one (.z (.bool (.var 3001))))), (.v (.one (.z (.own 1 (.lit 0))))), (.v (.one (.z (.int .i64 (.fn 160 (.i (.var 0) (.i (.var 1) (.i (.var 2) (.i (.var 3) (.i (.var 4) (.x (.var 5) (.i (.var 6) .nil)))))))))))), (.v (.one (.z (.int .i64 (.lit 0))))), (.v (.one (.z (.int .i64 (.lit 0)))))] (List.append (List.replicate 4 V.any) (List.append [(.v (.one (.z (.bool (.lit true))))), (.v (.one (.z (.ptr 0 3)))), (.v (.one (.z (.int .i64 (.var 3))))), (.v (.one (.z (.ptr 0 4)))), (.v (.one (.z (.int .i64 (.var 4))))), (.v (.one (.z (.bool (.cmp .leq (.var 4) (.lit 12)))))), (.v (.one (.z (.bool (.not (.cmp .leq (.var 4) (.lit 12))))))), (.v (.one (.z .any))), (.v (.one (.z .any))), (.v (.agg [(.z (.int .i64 (.var 0))), (.z (.int .i64 (.var 1))), (.z (.int .i64 (.var 2))), (.z (.int .i64 (.var 3))), (.z (.int .i64 (.var 4))), (.z (.ext [(.int .i64)] (.var 5) false))])), (.v (.one (.z (.int .i64 (.var 6))))), (.v (.one (.z .any))), (.v (.one (.z (.own 1 (.lit 0))))), (.v (.one (.z (.int .i64 (.fn 160 (.i (.var 0) (.i (.var 1) (.i (.var 2) (.i (.var 3) (.i (.var 4) (.x (.var 5) (.i (.var 6) .nil)))))))))))), (.v (.one (.z (.int .i64 (.fn 160 (.i (.var 0) (.i (.var 1) (.i (.var 2) (.i (.var 3) (.i (.var 4) (.x (.var 5) (.i (.var 6) .nil)))))))))))), (.v (.one (.z (.bool (.cmp .neq (.fn 160 (.i (.var 0) (.i (.var 1) (.i (.var 2) (.i (.var 3) (.i (.var 4) (.x (.var 5) (.i (.var 6) .nil)))))))) (.lit 0))))))] (List.append (List.replicate 10 V.any) (List.append [(.v (.one (.z (.own 1 (.lit 0))))), (.v (.one (.z (.int .i64 (.len (.fn 2 (.i (.var 0) (.i (.var 1) (.i (.var 2) (.i (.var 3) (.i (.var 4) (.x (.var 5) (.i (.var 6) .nil))))))))))))), (.v (.one (.z (.ptr 0 5)))), (.v (.one (.z (.ext [(.int .i64)] (.var 5) false)))), (.v (.one (.z (.int .i64 (.len (.var 5)))))), (.v (.one (.z (.bool (.cmp .neq (.len (.fn 2 (.i (.var 0) (.i (.var 1) (.i (.var 2) (.i (.var 3) (.i (.var 4) (.x (.var 5) (.i (.var 6) .nil))))))))) (.len (.var 5))))))), (.v (.one (.z (.bool (.lit false))))), (.v (.one (.z (.own 1 (.lit 0))))), (.v (.one (.z (.int .i64 (.len (.fn 2 (.i (.var 0) (.i (.var 1) (.i (.var 2) (.i (.var 3) (.i (.var 4) (.x (.var 5) (.i (.var 6) .nil))))))))))))), (.v (.one (.z (.bool (.cmp .eql (.len (.fn 2 (.i (.var 0) (.i (.var 1) (.i (.var 2) (.i (.var 3) (.i (.var 4) (.x (.var 5) (.i (.var 6) .nil))))))))) (.lit 0)))))), (.v (.one (.z (.bool (.cmp .eql (.len (.fn 2 (.i (.var 0) (.i (.var 1) (.i (.var 2) (.i (.var 3) (.i (.var 4) (.x (.var 5) (.i (.var 6) .nil))))))))) (.lit 0)))))), (.v (.one (.z (.int .i64 (.lit 0))))), (.v (.one (.z (.own 1 (.lit 0))))), (.v (.one (.z (.int .i64 (.len (.fn 2 (.i (.var 0) (.i (.var 1) (.i (.var 2) (.i (.var 3) (.i (.var 4) (.x (.var 5) (.i (.var 6) .nil))))))))))))), (.v (.one (.z (.bool (.cmp .lss (.lit 0) (.len (.fn 2 (.i (.var 0) (.i (.var 1) (.i (.var 2) (.i (.var 3) (.i (.var 4) (.x (.var 5) (.i (.var 6) .nil)))))))))))))), (.v (.one (.z .any))), (.v (.one (.z .any))), (.v (.one (.z (.bool (.lit true))))), (.v (.one (.z (.bool (.lit true))))), (.v (.one (.z (.own 1 (.lit 0))))), (.v (.one (.z (.int .i64 (.lit 0))))), (.v (.one (.z (.optr 1 (.lit 0) 1 (.lit 0) 0)))), (.v (.one (.z (.int .i64 (.rd (.fn 2 (.i (.var 0) (.i (.var 1) (.i (.var 2) (.i (.var 3) (.i (.var 4) (.x (.var 5) (.i (.var 6) .nil)))))))) (.lit 0) 0))))), (.v (.one (.z (.bool (.cmp .eql (.rd (.fn 2 (.i (.var 0) (.i (.var 1) (.i (.var 2) (.i (.var 3) (.i (.var 4) (.x (.var 5) (.i (.var 6) .nil)))))))) (.lit 0) 0) (.lit 0)))))), (.v (.one (.z (.ptr 0 5)))), (.v (.one (.z (.ext [(.int .i64)] (.var 5) false)))), (.v (.one (.z (.int .i64 (.lit 0))))), (.v (.one (.z (.eptr [(.int .i64)] (.var 5) (.lit 0) 0)))), (.v (.one (.z (.int .i64 (.rd (.var 5) (.lit 0) 0))))), (.v (.one (.z (.int .i64 (.var 6))))), (.v (.one (.z (.bool (.cmp .lss (.rd (.var 5) (.lit 0) 0) (.var 6)))))), (.v (.one (.z (.bool (.eqb (.cmp .eql (.rd (.fn 2 (.i (.var 0) (.i (.var 1) (.i (.var 2) (.i (.var 3) (.i (.var 4) (.x (.var 5) (.i (.var 6) .nil)))))))) (.lit 0) 0) (.lit 0)) (.cmp .lss (.rd (.var 5) (.lit 0) 0) (.var 6))))))), (.v (.one (.z (.bool (.eqb (.cmp .eql (.rd (.fn 2 (.i (.var 0) (.i (.var 1) (.i (.var 2) (.i (.var 3) (.i (.var 4) (.x (.var 5) (.i (.var 6) .nil)))))))) (.lit 0) 0) (.lit 0)) (.cmp .lss (.rd (.var 5) (.lit 0) 0) (.var 6))))))), (.v (.one (.z (.bool (.var 3004)))))] (List.append (List.replicate 5 V.any) (List.append [(.v (.one (.z (.bool (.var 3005))))), (.v (.one (.z (.bool (.var 3002)))))] (List.append (List.replicate 7 V.any) (List.append [(.v (.one (.z (.bool (.var 3003)))))] (List.replicate 123 V.any)))))))))), [(1, (.own 3 [(.int .i64)] (.fn 2 (.i (.var 0) (.i (.var 1) (.i (.var 2) (.i (.var 3) (.i (.var 4) (.x (.var 5) (.i (.var 6) .nil)))))))) (.lit 0))), (0, (.cells 26 [(.z (.int .i64 (.var 0))), (.z (.int .i64 (.var 1))), (.z (.int .i64 (.var 2))), (.z (.int .i64 (.var 3))), (.z (.int .i64 (.var 4))), (.z (.ext [(.int .i64)] (.var 5) false))]))], 3, []⟩),
(3, 2000061, 3, ⟨(List.append [(.v (.agg [(.z (.int .i64 (.var 0))), (.z (.int .i64 (.var 1))), (.z (.int .i64 (.var 2))), (.z (.int .i64 (.var 3))), (.z (.int .i64 (.var 4))), (.z (.ext [(.int .i64)] (.var 5) false))])), (.v (.one (.z (.int .i64 (.var 6))))), (.v (.one (.z (.int .u16 (.var 7))))), (.v (.one (.z (.int .u16 (.var 8))))), (.v (.one (.z (.ptr 0 0)))), (.v (.one (.z .any))), (.v (.one (.z .any))), (.v (.one (.z .any))), (.v (.one (.z (.bool (.lit false))))), (.v (.one (.z (.bool (.var 4001))))), (.v (.one (.z (.own 1 (.lit 0))))), (.v (.one (.z (.int .i64 (.fn 160 (.i (.var 0) (.i (.var 1) (.i (.var 2) (.i (.var 3) (.i (.var 4) (.x (.var 5) (.i (.var 6) .nil)))))))))))), (.v (.one (.z (.int .i64 (.var 3001))))), (.v (.one (.z (.int .i64 (.var 3002)))))] (List.append (List.replicate 4 V.any) (List.append [(.v (.one (.z (.bool (.lit true))))), (.v (.one (.z (.ptr 0 3)))), (.v (.one (.z (.int .i64 (.var 3))))), (.v (.one (.z (.ptr 0 4)))), (.v (.one (.z (.int .i64 (.var 4))))), (.v (.one (.z (.bool (.cmp .leq (.var 4) (.lit 12)))))), (.v (.one (.z (.bool (.not (.cmp .leq (.var 4) (.lit 12))))))), (.v (.one (.z .any))), (.v (.one (.z .any))), (.v (.agg [(.z (.int .i64 (.var 0))), (.z (.int .i64 (.var 1))), (.z (.int .i64 (.var 2))), (.z (.int .i64 (.var 3))), (.z (.int .i64 (.var 4))), (.z (.ext [(.int .i64)] (.var 5) false))])), (.v (.one (.z (.int .i64 (.var 6))))), (.v (.one (.z .any))), (.v (.one (.z (.own 1 (.lit 0))))), (.v (.one (.z (.int .i64 (.fn 160 (.i (.var 0) (.i (.var 1) (.i (.var 2) (.i (.var 3) (.i (.var 4) (.x (.var 5) (.i (.var 6) .nil)))))))))))), (.v (.one (.z (.int .i64 (.fn 160 (.i (.var 0) (.i (.var 1) (.i (.var 2) (.i (.var 3) (.i (.var 4) (.x (.var 5) (.i (.var 6) .nil)))))))))))), (.v (.one (.z (.bool (.cmp .neq (.fn 160 (.i (.var 0) (.i (.var 1) (.i (.var 2) (.i (.var 3) (.i (.var 4) (.x (.var 5) (.i (.var 6) .nil)))))))) (.lit 0))))))] (List.append (List.replicate 10 V.any) (List.append [(.v (.one (.z (.own 1 (.lit 0))))), (.v (.one (.z (.int .i64 (.len (.fn 2 (.i (.var 0) (.i (.var 1) (.i (.var 2) (.i (.var 3) (.i (.var 4) (.x (.var 5) (.i (.var 6) .nil))))))))))))), (.v (.one (.z (.ptr 0 5)))), (.v (.one (.z (.ext [(.int .i64)] (.var 5) false)))), (.v (.one (.z (.int .i64 (.len (.var 5)))))), (.v (.one (.z (.bool (.cmp .neq (.len (.fn 2 (.i (.var 0) (.i (.var 1) (.i (.var 2) (.i (.var 3) (.i (.var 4) (.x (.var 5) (.i (.var 6) .nil))))))))) (.len (.var 5))))))), (.v (.one (.z (.bool (.lit false))))), (.v (.one (.z (.own 1 (.lit 0))))), (.v (.one (.z (.int .i64 (.len (.fn 2 (.i (.var 0) (.i (.var 1) (.i (.var 2) (.i (.var 3) (.i (.var 4) (.x (.var 5) (.i (.var 6) .nil))))))))))))), (.v (.one (.z (.bool (.cmp .eql (.len (.fn 2 (.i (.var 0) (.i (.var 1) (.i (.var 2) (.i (.var 3) (.i (.var 4) (.x (.var 5) (.i (.var 6) .nil))))))))) (.lit 0)))))), (.v (.one (.z (.bool (.cmp .eql (.len (.fn 2 (.i (.var 0) (.i (.var 1) (.i (.var 2) (.i (.var 3) (.i (.var 4) (.x (.var 5) (.i (.var 6) .nil))))))))) (.lit 0)))))), (.v (.one (.z (.int .i64 (.var 3002))))), (.v (.one (.z (.own 1 (.lit 0))))), (.v (.one (.z (.int .i64 (.len (.fn 2 (.i (.var 0) (.i (.var 1) (.i (.var 2) (.i (.var 3) (.i (.var 4) (.x (.var 5) (.i (.var 6) .nil))))))))))))), (.v (.one (.z (.bool (.cmp .lss (.var 3002) (.len (.fn 2 (.i (.var 0) (.i (.var 1) (.i (.var 2) (.i (.var 3) (.i (.var 4) (.x (.var 5) (.i (.var 6) .nil)))))))))))))), (.v (.one (.z .any))), (.v (.one (.z .any))), (.v (.one (.z (.bool (.var 3000))))), (.v (.one (.z (.bool (.var 4006)))))] (List.append (List.replicate 13 V.any) (List.append [(.v (.one (.z (.bool (.var 4007))))), (.v (.one (.z (.bool (.var 4004)))))] (List.append (List.replicate 5 V.any) (List.append [(.v (.one (.z (.bool (.var 4005))))), (.v (.one (.z (.bool (.var 4002)))))] (List.append (List.replicate 7 V.any) (List.append [(.v (.one (.z (.bool (.var 4003)))))] (List.replicate 123 V.any)))))))))))), [(1, (.own 3 [(.int .i64)] (.fn 2 (.i (.var 0) (.i (.var 1) (.i (.var 2) (.i (.var 3) (.i (.var 4) (.x (.var 5) (.i (.var 6) .nil)))))))) (.lit 0))), (0, (.cells 26 [(.z (.int .i64 (.var 0))), (.z (.int .i64 (.var 1))), (.z (.int .i64 (.var 2))), (.z (.int .i64 (.var 3))), (.z (.int .i64 (.var 4))), (.z (.ext [(.int .i64)] (.var 5) false))]))], 4, []⟩)]
set_option maxRecDepth 100000 in
theorem trLWater_is : T.norm 0 (call Try.prog ctGd ⟨Lt.un (Lt.of [(3, 2000061)]), trLWater_h, trLWater_j⟩ 200 3 (symArgs 0 [gridS, it, u16S, u16S]) [] 0) TT.ret = trLWater := by kernel_rfl
theorem trLWater_low : trLWater.low 1000 = true := by kernel_rfl
end Go.Proofs.Ytcjaembdcfppfaa
/- Chapter 11: the law GridWater. -/
namespace Go.Proofs.Ytcjaembdcfppfaa
open Go.RowKit
theorem waL_nd (a b c d e f : Int) (r : Rows) : ndE [.i a, .i b, .i c, .i d, .i e, .l r, .i f] = if (gvB a b c d e r && decide (0 ≤ f ∧ f ≤ 100000)) = true then 0 else 1 := rfl
theorem waL_eq (a b c d e f : Int) (r : Rows) : waterR [.i a, .i b, .i c, .i d, .i e, .l r, .i f] = if (gvB a b c d e r && decide (0 ≤ f ∧ f ≤ 100000)) = true then rowsI (Grid.waterF d.toNat e.toNat (cellsI r) f) else [] := rfl
theorem waL_path (a b c d e f g h : Int) (r : Rows) : pathE [.i a, .i b, .i c, .i d, .i e, .l r, .i f, .i g, .i h] = if (gvB a b c d e r && decide (0 ≤ f ∧ f ≤ 100000 ∧ 0 ≤ g ∧ g < (r.length : Nat) ∧ 0 ≤ h ∧ h < (r.length : Nat))) = true then
    (if decide (Grid.at_ (cellsI r) g.toNat < f ∨ Grid.at_ (cellsI r) h.toNat < f ∨ Grid.at_ (Grid.stepsF d.toNat e.toNat (cellsI r) f h.toNat) g.toNat < 0) = true then 4 else 0) else 1 := rfl
structure WaL (W H : Nat) (D : List Int) (need : Int) (A : List Int) : Prop where
  len : A.length = W * H
  rng : ∀ c, c < W * H → 0 ≤ Grid.at_ A c ∧ Grid.at_ A c ≤ (W * H : Nat)
  zero : ∀ c, c < W * H → (Grid.at_ A c = 0 ↔ Grid.at_ D c < need)
  first : ∀ c, c < W * H → 1 < Grid.at_ A c → ∃ y, y < c ∧ Grid.at_ A y = Grid.at_ A c - 1
  next : ∀ c d, c < W * H → d < W * H → 0 < Grid.at_ A c → 0 < Grid.at_ A d → d ∈ Grid.near W H c → Grid.at_ A c = Grid.at_ A d
  way : ∀ a b, a < W * H → b < W * H → ((Grid.at_ D a < need ∨ Grid.at_ D b < need ∨ Grid.at_ (Grid.stepsF W H D need b) a < 0) ↔ ¬ (0 < Grid.at_ A a ∧ Grid.at_ A a = Grid.at_ A b))
theorem waL {W H : Nat} {D : List Int} {need : Int} (hw : 0 < W) : WaL W H D need (Grid.waterF W H D need) := by
  have h : Grid.WInv W H (Grid.Deep D need) (W * H) (Grid.waterF W H D need) (Grid.waterN W H D need (W * H)).2 := Grid.winv W H D need hw (W * H) (Nat.le_refl _)
  have hm := waterN_le W H D need (W * H)
  have hz : ∀ c, c < W * H → (Grid.at_ (Grid.waterF W H D need) c = 0 ↔ Grid.at_ D c < need) := fun c hc => Grid.water_zero hw hc
  refine ⟨h.len, fun c hc => ⟨(h.rng c hc).1, by have := (h.rng c hc).2; omega⟩, hz, fun c hc => h.first c hc, fun c d hc hd h1 h2 hn => ?_, fun a b ha hb => ?_⟩
  · refine (h.same c d hc hd h1 h2).2 ⟨1, .succ .zero hn ?_⟩
    refine Classical.byContradiction fun q => ?_
    have := h.shoal d hd q
    omega
  · have hs := Grid.stepsF_is (D := D) (need := need) hw hb
    have r1 := (h.rng a ha).1
    have r2 := (h.rng b hb).1
    have z1 := hz a ha
    have z2 := hz b hb
    by_cases c1 : Grid.at_ D a < need
    · exact ⟨fun _ => by omega, fun _ => .inl c1⟩
    by_cases c2 : Grid.at_ D b < need
    · exact ⟨fun _ => by omega, fun _ => .inr (.inl c2)⟩
    have e1 := hs.conn ha
    have e2 := h.same a b ha hb (by omega) (by omega)
    have hsym : Grid.Conn W H (Grid.Deep D need) b a ↔ Grid.Conn W H (Grid.Deep D need) a b :=
      ⟨fun q => q.symm hw hb (by unfold Grid.Deep; omega), fun q => q.symm hw ha (by unfold Grid.Deep; omega)⟩
    constructor
    · rintro (q | q | q) ⟨_, g⟩
      · exact c1 q
      · exact c2 q
      · have := e1.2 (hsym.2 (e2.1 g)); omega
    · intro q
      refine .inr (.inr ?_)
      rcases Int.lt_or_le (Grid.at_ (Grid.stepsF W H D need b) a) 0 with g | g
      · exact g
      · exact absurd ⟨by omega, e2.2 (hsym.1 (e1.1 g))⟩ q
theorem KGci160 (W : World) (ds l : List D) : (envOf KGc W ds).fi 160 l = ndE l := by simp only [envOf, KGc]
theorem KGci161 (W : World) (ds l : List D) : (envOf KGc W ds).fi 161 l = pathE l := by simp only [envOf, KGc]
theorem KGcd2 (W : World) (ds l : List D) : (envOf KGc W ds).fd 2 l = waterR l := by simp only [envOf, KGc]
theorem KGcd3 (W : World) (ds l : List D) : (envOf KGc W ds).fd 3 l = pathR l := by simp only [envOf, KGc]
theorem KGcd4 (W : World) (ds l : List D) : (envOf KGc W ds).fd 4 l = shoalR l := by simp only [envOf, KGc]
set_option maxRecDepth 100000 in
set_option maxHeartbeats 4000000 in
theorem gWaterLaw : GivesIf Try.prog 3 [gridS, it, u16S, u16S] (fun ds => (0 ≤ iAt ds 7 ∧ iAt ds 7 ≤ 65535) ∧ 0 ≤ iAt ds 8 ∧ iAt ds 8 ≤ 65535) (fun _ => .bool true) := by
  refine fn_gives KGc (by kernel_rfl) (fun ρ h => ctGd_ok (Sees.of h 170) (SeesD.of h 5)) (by kernel_rfl) trLWater_is trLWater_low (by decide) (fun W vals ds hr hok => ?_)
  clear hr
  simp only [trLWater, TT.sat_ret, TT.sat_ite, TT.sat_ob, TT.sat_next, TT.sat_stuck, put_i, put_b, put_d, put_fi, put_fb, put_fd, Ob.ok, B.ev, E.ev, X.ev, AL.ev, cmp_t, cmp_f, arEv, V.plain, V2.plain, S.plain, S0.plain, V.val, V2.val, S.val, S0.val, bV, iV, List.all_cons, List.all_nil, Bool.and_true, Bool.and_self, envOf_i, envOf_b, envOf_d, List.map_cons, List.map_nil, true_and, Bool.not_eq_true', Bool.not_eq_false', Bool.not_not, Bool.and_eq_true, and_f, cell_lg, cell_lb, cell_lr, cmpP, val_i, val_b, val_d, aget, Nat.reduceBEq, beq_self_eq_true, Bool.false_eq_true, if_true, if_false, Nat.reduceLT, Nat.reduceSub, Nat.sub_self, Nat.lt_irrefl, KGci160, KGci161, KGcd2]
  generalize e0 : iAt ds 0 = x at *
  generalize e1 : iAt ds 1 = y at *
  generalize e2 : iAt ds 2 = s at *
  generalize e3 : iAt ds 3 = w at *
  generalize e4 : iAt ds 4 = h at *
  generalize e5 : rAt ds 5 = r at *
  generalize e6 : iAt ds 6 = need at *
  generalize e7 : iAt ds 7 = a at *
  generalize e8 : iAt ds 8 = b at *
  have E1 := waL_nd x y s w h need r
  have W1 := waL_eq x y s w h need r
  by_cases k1 : (gvB x y s w h r && decide (0 ≤ need ∧ need ≤ 100000)) = true
  · rw [if_pos k1] at E1 W1
    simp only [E1, W1, ne_eq, not_true_eq_false, not_false_eq_true, false_implies, true_implies, true_and, and_true, implies_true, show ¬ ((0 : Int) = 1) from by decide]
    intro hw12 hh12
    obtain ⟨hg, hnd⟩ := Bool.and_eq_true_iff.1 k1
    obtain ⟨hf, hl, _⟩ := gv_facts hg
    unfold frP at hf
    obtain ⟨⟨_, hw, hh⟩, _⟩ := hf
    obtain ⟨W, rfl⟩ := Int.eq_ofNat_of_zero_le (a := w) (by omega)
    obtain ⟨H, rfl⟩ := Int.eq_ofNat_of_zero_le (a := h) (by omega)
    have hW : 0 < W := by omega
    have hH : 0 < H := by omega
    have hn : r.length = W * H := by
      have : (r.length : Int) = ((W * H : Nat) : Int) := by rw [hl]; simp
      omega
    have hWH : W * H ≤ 64 * 64 := Nat.mul_le_mul (by omega) (by omega)
    have hpos : 0 < W * H := Nat.mul_pos hW hH
    simp only [Int.toNat_natCast, rowsI_len] at W1 ⊢
    have hA := waL (W := W) (H := H) (D := cellsI r) (need := need) hW
    generalize Grid.waterF W H (cellsI r) need = A at *
    rw [hA.len, hn]
    refine ⟨fun q => absurd rfl q, fun _ => ⟨fun q => by omega, fun _ => ?_⟩⟩
    refine TT.sat_loop (fun v => ∃ (c : Nat) (m : Int), v.i 2 = c ∧ c ≤ W * H ∧ v.i 1 = m ∧ v.b 0 = true ∧ 0 ≤ m ∧ m ≤ (W * H : Nat) ∧ ∀ y, y < c → Grid.at_ A y ≤ m) (fun v => W * H - (v.i 2).toNat)
      ⟨0, 0, by simp [val_i, aget, E.ev], by omega, by simp [val_i, aget, E.ev], by simp [val_b, aget, B.ev], by omega, by omega, fun y hy => by omega⟩ (fun v hv => ?_)
    obtain ⟨c, m, c0, c1, c2, c3, c4, c5, c6⟩ := hv
    simp only [TT.sat_ret, TT.sat_ite, TT.sat_ob, TT.sat_next, TT.sat_stuck, put_i, put_b, put_d, put_fi, put_fb, put_fd, Ob.ok, B.ev, E.ev, X.ev, AL.ev, cmp_t, cmp_f, arEv, V.plain, V2.plain, S.plain, S0.plain, V.val, V2.val, S.val, S0.val, bV, iV, List.all_cons, List.all_nil, Bool.and_true, Bool.and_self, envOf_i, envOf_b, envOf_d, List.map_cons, List.map_nil, true_and, Bool.not_eq_true', Bool.not_eq_false', Bool.not_not, Bool.and_eq_true, and_f, cell_lg, cell_lb, cell_lr, cmpP, val_i, val_b, val_d, aget, Nat.reduceBEq, beq_self_eq_true, Bool.false_eq_true, if_true, if_false, Nat.reduceLT, Nat.reduceSub, Nat.sub_self, Nat.lt_irrefl, c0, c2, c3, e0, e1, e2, e3, e4, e5, e6, e7, e8, KGcd2, KGci161, W1, rowsI_len, hA.len]
    refine ⟨fun hc => ?_, fun hc => ?_⟩
    · have hcl : c < W * H := by omega
      have la0 : lg (rowsI A) (c : Int) 0 = Grid.at_ A c := lg_rowsI (by rw [hA.len]; exact hcl)
      have ld0 : lg r (c : Int) 0 = Grid.at_ (cellsI r) c := lg_cells (by omega)
      have hw1 : IntKind.i64.wrap ((c : Int) + 1) = ((c + 1 : Nat) : Int) := by rw [wrap_in _ (by omega) (by omega)]; omega
      have hwm : IntKind.i64.wrap (m + 1) = m + 1 := wrap_in _ (by omega) (by omega)
      have hwc : IntKind.i64.wrap ((c : Int) - 1) = (c : Int) - 1 := wrap_in _ (by omega) (by omega)
      have hwd : IntKind.i64.wrap ((c : Int) - (W : Int)) = (c : Int) - (W : Int) := wrap_in _ (by omega) (by omega)
      obtain ⟨r1, r2⟩ := hA.rng c hcl
      refine TT.sat_join (fun u => u.b 1 = true) (fun u hu => ?_) (fun u hu hU => ?_)
      · simp only [TT.sat_ret, TT.sat_ite, TT.sat_ob, TT.sat_next, TT.sat_stuck, put_i, put_b, put_d, put_fi, put_fb, put_fd, Ob.ok, B.ev, E.ev, X.ev, AL.ev, cmp_t, cmp_f, arEv, V.plain, V2.plain, S.plain, S0.plain, V.val, V2.val, S.val, S0.val, bV, iV, List.all_cons, List.all_nil, Bool.and_true, Bool.and_self, envOf_i, envOf_b, envOf_d, List.map_cons, List.map_nil, true_and, Bool.not_eq_true', Bool.not_eq_false', Bool.not_not, Bool.and_eq_true, and_f, cell_lg, cell_lb, cell_lr, cmpP, val_i, val_b, val_d, aget, Nat.reduceBEq, beq_self_eq_true, Bool.false_eq_true, if_true, if_false, Nat.reduceLT, Nat.reduceSub, Nat.sub_self, Nat.lt_irrefl, c0, c2, c3, e0, e1, e2, e3, e4, e5, e6, e7, e8, KGcd2, KGci161, W1, rowsI_len, hA.len, hn, hwm]
        rw [la0, ld0]
        have hb : (cmpEv .eql (Grid.at_ A c) 0 == cmpEv .lss (Grid.at_ (cellsI r) c) need) = true := by
          by_cases q : Grid.at_ (cellsI r) c < need
          · simp [cmpEv, q, (hA.zero c hcl).2 q]
          · have k : Grid.at_ A c ≠ 0 := fun e => q ((hA.zero c hcl).1 e)
            simp [cmpEv, q, k]
        rw [hb]
        have h1 : Grid.at_ A c ≤ m + 1 := by
          rcases Int.lt_or_le 1 (Grid.at_ A c) with q | q
          · obtain ⟨y, y1, y2⟩ := hA.first c hcl q
            have := c6 y y1
            omega
          · omega
        exact ⟨fun _ => ⟨by omega, by omega, by omega, by omega, fun _ => ⟨by omega, by omega, fun _ => ⟨by omega, by omega, h1⟩, fun q => absurd r1 q⟩, fun q => nomatch q⟩, fun q => nomatch q⟩
      · simp only [TT.sat_ret, TT.sat_ite, TT.sat_ob, TT.sat_next, TT.sat_stuck, put_i, put_b, put_d, put_fi, put_fb, put_fd, Ob.ok, B.ev, E.ev, X.ev, AL.ev, cmp_t, cmp_f, arEv, V.plain, V2.plain, S.plain, S0.plain, V.val, V2.val, S.val, S0.val, bV, iV, List.all_cons, List.all_nil, Bool.and_true, Bool.and_self, envOf_i, envOf_b, envOf_d, List.map_cons, List.map_nil, true_and, Bool.not_eq_true', Bool.not_eq_false', Bool.not_not, Bool.and_eq_true, and_f, cell_lg, cell_lb, cell_lr, cmpP, val_i, val_b, val_d, aget, Nat.reduceBEq, beq_self_eq_true, Bool.false_eq_true, if_true, if_false, Nat.reduceLT, Nat.reduceSub, Nat.sub_self, Nat.lt_irrefl, c0, c2, c3, hU, e0, e1, e2, e3, e4, e5, e6, e7, e8, KGcd2, KGci161, W1, rowsI_len, hA.len, show ((0 : Nat) = 1) = False from by simp, if_false, hw1, hwc, hwd]
        rw [la0]
        have f1 : 0 < (c : Int).tmod (W : Int) → 0 < Grid.at_ A c → 0 < lg (rowsI A) ((c : Int) - 1) 0 → Grid.at_ A c = lg (rowsI A) ((c : Int) - 1) 0 := fun q1 q2 q3 => by
          have q1 : (0 : Int) < ((c % W : Nat) : Int) := q1
          have hne : c % W ≠ 0 := by intro k; rw [k] at q1; omega
          have hc1 : 0 < c := by
            rcases Nat.eq_zero_or_pos c with k | k
            · subst k; exact absurd (Nat.zero_mod W) hne
            · exact k
          have ee : (c : Int) - 1 = ((c - 1 : Nat) : Int) := by omega
          rw [ee, lg_rowsI (by rw [hA.len]; omega)] at q3 ⊢
          exact hA.next c (c - 1) hcl (by omega) q2 q3 (by simp [Grid.near, hne])
        have f2 : (W : Int) ≤ (c : Int) → 0 < Grid.at_ A c → 0 < lg (rowsI A) ((c : Int) - (W : Int)) 0 → Grid.at_ A c = lg (rowsI A) ((c : Int) - (W : Int)) 0 := fun q1 q2 q3 => by
          have hne : c / W ≠ 0 := fun k => by
            have := Nat.div_pos (a := c) (b := W) (by omega) hW
            omega
          have ee : (c : Int) - (W : Int) = ((c - W : Nat) : Int) := by omega
          rw [ee, lg_rowsI (by rw [hA.len]; omega)] at q3 ⊢
          exact hA.next c (c - W) hcl (by omega) q2 q3 (by simp [Grid.near, hne])
        have hm0 : 0 < (c : Int).tmod (W : Int) → 1 ≤ c := fun q1 => by
          rcases Nat.eq_zero_or_pos c with k | k
          · subst k; simp at q1
          · exact k
        generalize lg (rowsI A) ((c : Int) - 1) 0 = x2 at *
        generalize lg (rowsI A) ((c : Int) - (W : Int)) 0 = x3 at *
        have fin1 : ∀ p : Prop, p → ∃ (c_1 : Nat) (m_1 : Int), ((c + 1 : Nat) : Int) = ↑c_1 ∧ c_1 ≤ W * H ∧ max m (Grid.at_ A c) = m_1 ∧ p ∧ 0 ≤ m_1 ∧ m_1 ≤ ↑(W * H) ∧ ∀ (y : Nat), y < c_1 → Grid.at_ A y ≤ m_1 := fun p hp =>
          ⟨c + 1, _, rfl, by omega, rfl, hp, by omega, by omega, fun y hy => by
            by_cases e : y = c
            · subst e; omega
            · have := c6 y (by omega); omega⟩
        have fin2 : W * H - (((c + 1 : Nat) : Int)).toNat < W * H - ((c : Int)).toNat := by rw [Int.toNat_natCast, Int.toNat_natCast]; omega
        have fin3 : ∃ (c_1 : Nat) (m_1 : Int), ((c + 1 : Nat) : Int) = ↑c_1 ∧ c_1 ≤ W * H ∧ max m (Grid.at_ A c) = m_1 ∧ 0 ≤ m_1 ∧ m_1 ≤ ↑(W * H) ∧ ∀ (y : Nat), y < c_1 → Grid.at_ A y ≤ m_1 := by
          obtain ⟨c', m', g1, g2, g3, _, g5⟩ := fin1 True trivial
          exact ⟨c', m', g1, g2, g3, g5⟩
        repeat' (first | (with_reducible intro _) | (with_reducible refine And.intro ?_ ?_))
        all_goals first | exact fin2 | exact fin3 | (exact fin1 _ (by first | exact True.intro | exact f1 (by assumption) (by assumption) (by assumption) | exact f2 (by assumption) (by assumption) (by assumption))) | (exact fin1 _ (absurd (f1 (by assumption) (by assumption) (by assumption)) (by assumption))) | (have := hm0 (by assumption); omega) | omega | (exfalso; assumption) | (exact absurd (show true = false by assumption) (by decide))
    · obtain ⟨⟨a0, a1⟩, b0, b1⟩ := hok
      obtain ⟨a, rfl⟩ := Int.eq_ofNat_of_zero_le a0
      obtain ⟨b, rfl⟩ := Int.eq_ofNat_of_zero_le b0
      have ea : (IntKind.i64.wrap (a : Int)).tmod ((W * H : Nat) : Int) = ((a % (W * H) : Nat) : Int) := by rw [wrap_in _ (by omega) (by omega)]; rfl
      have eb : (IntKind.i64.wrap (b : Int)).tmod ((W * H : Nat) : Int) = ((b % (W * H) : Nat) : Int) := by rw [wrap_in _ (by omega) (by omega)]; rfl
      have la := Nat.mod_lt a hpos
      have lb := Nat.mod_lt b hpos
      rw [ea, eb]
      generalize a % (W * H) = f at *
      generalize b % (W * H) = t at *
      have hP := waL_path x y s W H need f t r
      rw [if_pos (by rw [hg, decide_eq_true (by simp only [decide_eq_true_eq] at hnd; omega)]; rfl)] at hP
      simp only [Int.toNat_natCast] at hP
      have hwy := hA.way f t la lb
      have z := (hA.rng f la).1
      rw [lg_rowsI (by rw [hA.len]; exact la), lg_rowsI (by rw [hA.len]; exact lb)]
      by_cases g : 0 < Grid.at_ A f ∧ Grid.at_ A f = Grid.at_ A t
      · rw [if_neg (by rw [decide_eq_true_eq]; exact fun k => hwy.1 k g)] at hP
        have hP : pathE [.i x, .i y, .i s, .i W, .i H, .l r, .i need, .i f, .i t] = 0 := hP
        rw [hP]
        obtain ⟨g1, g2⟩ := g
        rw [g2] at g1 ⊢
        simp [cmpEv]
        omega
      · rw [if_pos (by rw [decide_eq_true_eq]; exact hwy.2 g)] at hP
        have hP : pathE [.i x, .i y, .i s, .i W, .i H, .l r, .i need, .i f, .i t] = 4 := hP
        rw [hP]
        simp [cmpEv]
        have lai : (f : Int) < (W : Int) * (H : Int) := by have := Int.ofNat_lt.2 la; rw [Int.natCast_mul] at this; exact this
        have lbi : (t : Int) < (W : Int) * (H : Int) := by have := Int.ofNat_lt.2 lb; rw [Int.natCast_mul] at this; exact this
        exact ⟨⟨by omega, by omega⟩, lai, fun q => ⟨lai, lbi, fun k => g ⟨q, k⟩⟩⟩
  · rw [if_neg k1] at E1 W1
    simp [E1, W1, cmpEv]
end Go.Proofs.Ytcjaembdcfppfaa
