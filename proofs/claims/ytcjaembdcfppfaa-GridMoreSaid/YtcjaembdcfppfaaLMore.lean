/- LMore, merged: TI5, I7. -/
import Derived.Test.YtcjaembdcfppfaaNM
set_option linter.unusedSimpArgs false
set_option linter.unusedVariables false
/- Chapter 11: the tree of the law GridMore. -/
namespace Go.Proofs.Ytcjaembdcfppfaa
open Go.RowKit
def u8S : Sh := .one (.int .u8)
def trMore : TT OpR :=
(.ite (.cmp .leq (.len (.var 0)) (.lit 8))
 (.ite (.cmp .leq (.var 5) (.lit 12))
 (.ite (.not (.cmp .leq (.var 6) (.lit 12)))
 (.ret ((.v (.one (.z (.bool (.lit true))))), [], 3))
 (.ite (.cmp .eql (.len (.var 0)) (.lit 0))
 (.ret ((.v (.one (.z (.bool (.lit true))))), [], 3))
 (.ob (.tru (.cmp .neq (.len (.var 0)) (.lit 0)))
 (.ite (.fn 191 (.x (.var 0) (.i (.var 2) (.i (.var 3) (.i (.var 4) (.i (.var 5) (.i (.var 6) .nil)))))))
 (.ob (.tru (.lit true))
 (.ob (.tru (.cmp .leq (.lit 0) (.ar .rem .i64 (.wr .i64 (.var 1)) (.len (.var 0)))))
 (.ob (.tru (.cmp .leq (.ar .rem .i64 (.wr .i64 (.var 1)) (.len (.var 0))) (.len (.var 0))))
 (.ob (.tru (.cmp .leq (.len (.sub (.var 0) (.lit 0) (.ar .rem .i64 (.wr .i64 (.var 1)) (.len (.var 0))))) (.lit 1000000)))
 (.ob (.tru (.cmp .leq (.lit 0) (.ar .add .i64 (.ar .rem .i64 (.wr .i64 (.var 1)) (.len (.var 0))) (.lit 1))))
 (.ob (.tru (.cmp .leq (.ar .add .i64 (.ar .rem .i64 (.wr .i64 (.var 1)) (.len (.var 0))) (.lit 1)) (.len (.var 0))))
 (.ob (.tru (.lit true))
 (.ob (.tru (.cmp .leq (.len (.app (.sub (.var 0) (.lit 0) (.ar .rem .i64 (.wr .i64 (.var 1)) (.len (.var 0)))) (.sub (.var 0) (.ar .add .i64 (.ar .rem .i64 (.wr .i64 (.var 1)) (.len (.var 0))) (.lit 1)) (.len (.var 0))))) (.lit 1000000)))
 (.ite (.fn 191 (.x (.app (.sub (.var 0) (.lit 0) (.ar .rem .i64 (.wr .i64 (.var 1)) (.len (.var 0)))) (.sub (.var 0) (.ar .add .i64 (.ar .rem .i64 (.wr .i64 (.var 1)) (.len (.var 0))) (.lit 1)) (.len (.var 0)))) (.i (.var 2) (.i (.var 3) (.i (.var 4) (.i (.var 5) (.i (.var 6) .nil)))))))
 (.ite (.cmp .neq (.len (.fn 6 (.x (.var 0) (.i (.var 2) (.i (.var 3) (.i (.var 4) (.i (.var 5) (.i (.var 6) .nil)))))))) (.len (.fn 6 (.x (.app (.sub (.var 0) (.lit 0) (.ar .rem .i64 (.wr .i64 (.var 1)) (.len (.var 0)))) (.sub (.var 0) (.ar .add .i64 (.ar .rem .i64 (.wr .i64 (.var 1)) (.len (.var 0))) (.lit 1)) (.len (.var 0)))) (.i (.var 2) (.i (.var 3) (.i (.var 4) (.i (.var 5) (.i (.var 6) .nil)))))))))
 (.ret ((.v (.one (.z (.bool (.lit false))))), [], 9))
 (.loop 0 10000 ⟨[(1, (.lit 0))], [(0, (.lit true))], []⟩
 (.ite (.cmp .lss (.var 10001) (.len (.fn 6 (.x (.var 0) (.i (.var 2) (.i (.var 3) (.i (.var 4) (.i (.var 5) (.i (.var 6) .nil)))))))))
 (.ite (.var 10000)
 (.ob (.tru (.cmp .leq (.lit 0) (.var 10001)))
 (.ob (.tru (.cmp .lss (.var 10001) (.len (.fn 6 (.x (.var 0) (.i (.var 2) (.i (.var 3) (.i (.var 4) (.i (.var 5) (.i (.var 6) .nil))))))))))
 (.ob (.tru (.cmp .leq (.lit 0) (.var 10001)))
 (.ob (.tru (.cmp .lss (.var 10001) (.len (.fn 6 (.x (.app (.sub (.var 0) (.lit 0) (.ar .rem .i64 (.wr .i64 (.var 1)) (.len (.var 0)))) (.sub (.var 0) (.ar .add .i64 (.ar .rem .i64 (.wr .i64 (.var 1)) (.len (.var 0))) (.lit 1)) (.len (.var 0)))) (.i (.var 2) (.i (.var 3) (.i (.var 4) (.i (.var 5) (.i (.var 6) .nil))))))))))
 (.next 0 ⟨[(1, (.ar .add .i64 (.var 10001) (.lit 1)))], [(0, (.cmp .leq (.rd (.fn 6 (.x (.var 0) (.i (.var 2) (.i (.var 3) (.i (.var 4) (.i (.var 5) (.i (.var 6) .nil))))))) (.var 10001) 0) (.rd (.fn 6 (.x (.app (.sub (.var 0) (.lit 0) (.ar .rem .i64 (.wr .i64 (.var 1)) (.len (.var 0)))) (.sub (.var 0) (.ar .add .i64 (.ar .rem .i64 (.wr .i64 (.var 1)) (.len (.var 0))) (.lit 1)) (.len (.var 0)))) (.i (.var 2) (.i (.var 3) (.i (.var 4) (.i (.var 5) (.i (.var 6) .nil))))))) (.var 10001) 0)))], []⟩)))))
 (.next 0 ⟨[(1, (.ar .add .i64 (.var 10001) (.lit 1)))], [(0, (.lit false))], []⟩))
 (.ite (.cmp .leq (.var 8) (.var 12))
 (.ite (.cmp .leq (.var 13) (.var 9))
 (.ite (.cmp .leq (.var 10) (.var 14))
 (.ite (.cmp .eql (.fn 193 (.i (.var 2) (.i (.var 3) (.i (.var 4) (.i (.var 5) (.i (.var 6) (.x (.fn 6 (.x (.var 0) (.i (.var 2) (.i (.var 3) (.i (.var 4) (.i (.var 5) (.i (.var 6) .nil))))))) (.i (.var 8) (.i (.var 9) (.i (.var 10) (.i (.var 11) .nil))))))))))) (.lit 0))
 (.ite (.cmp .eql (.fn 193 (.i (.var 2) (.i (.var 3) (.i (.var 4) (.i (.var 5) (.i (.var 6) (.x (.fn 6 (.x (.var 0) (.i (.var 2) (.i (.var 3) (.i (.var 4) (.i (.var 5) (.i (.var 6) .nil))))))) (.i (.var 12) (.i (.var 13) (.i (.var 14) (.i (.var 15) .nil))))))))))) (.lit 0))
 (.ite (.cmp .leq (.var 15) (.var 11))
 (.ite (.var 10000)
 (.ite (.fn 190 (.i (.var 2) (.i (.var 3) (.i (.var 4) (.i (.var 5) (.i (.var 6) (.x (.fn 6 (.x (.var 0) (.i (.var 2) (.i (.var 3) (.i (.var 4) (.i (.var 5) (.i (.var 6) .nil))))))) (.i (.var 7) .nil))))))))
 (.ite (.cmp .neq (.fn 193 (.i (.var 2) (.i (.var 3) (.i (.var 4) (.i (.var 5) (.i (.var 6) (.x (.fn 6 (.x (.var 0) (.i (.var 2) (.i (.var 3) (.i (.var 4) (.i (.var 5) (.i (.var 6) .nil))))))) (.i (.var 8) (.i (.var 9) (.i (.var 10) (.i (.var 11) .nil))))))))))) (.lit 0))
 (.ret ((.v (.one (.z (.bool (.cmp .leq (.fn 192 (.i (.var 2) (.i (.var 3) (.i (.var 4) (.i (.var 5) (.i (.var 6) (.x (.fn 6 (.x (.var 0) (.i (.var 2) (.i (.var 3) (.i (.var 4) (.i (.var 5) (.i (.var 6) .nil))))))) (.i (.var 8) (.i (.var 9) (.i (.var 10) (.i (.var 11) .nil))))))))))) (.fn 192 (.i (.var 2) (.i (.var 3) (.i (.var 4) (.i (.var 5) (.i (.var 6) (.x (.fn 6 (.x (.var 0) (.i (.var 2) (.i (.var 3) (.i (.var 4) (.i (.var 5) (.i (.var 6) .nil))))))) (.i (.var 12) (.i (.var 13) (.i (.var 14) (.i (.var 15) .nil)))))))))))))))), [], 12))
 (.ite (.cmp .leq (.fn 192 (.i (.var 2) (.i (.var 3) (.i (.var 4) (.i (.var 5) (.i (.var 6) (.x (.fn 6 (.x (.var 0) (.i (.var 2) (.i (.var 3) (.i (.var 4) (.i (.var 5) (.i (.var 6) .nil))))))) (.i (.var 8) (.i (.var 9) (.i (.var 10) (.i (.var 11) .nil))))))))))) (.fn 192 (.i (.var 2) (.i (.var 3) (.i (.var 4) (.i (.var 5) (.i (.var 6) (.x (.fn 6 (.x (.var 0) (.i (.var 2) (.i (.var 3) (.i (.var 4) (.i (.var 5) (.i (.var 6) .nil))))))) (.i (.var 12) (.i (.var 13) (.i (.var 14) (.i (.var 15) .nil))))))))))))
 (.ite (.cmp .eql (.fn 193 (.i (.var 2) (.i (.var 3) (.i (.ar .mul .i64 (.var 7) (.var 4)) (.i (.ar .quo .i64 (.var 5) (.var 7)) (.i (.ar .quo .i64 (.var 6) (.var 7)) (.x (.fn 5 (.i (.var 2) (.i (.var 3) (.i (.var 4) (.i (.var 5) (.i (.var 6) (.x (.fn 6 (.x (.var 0) (.i (.var 2) (.i (.var 3) (.i (.var 4) (.i (.var 5) (.i (.var 6) .nil))))))) (.i (.var 7) .nil)))))))) (.i (.var 8) (.i (.var 9) (.i (.var 10) (.i (.var 11) .nil))))))))))) (.lit 0))
 (.ret ((.v (.one (.z (.bool (.cmp .leq (.fn 192 (.i (.var 2) (.i (.var 3) (.i (.ar .mul .i64 (.var 7) (.var 4)) (.i (.ar .quo .i64 (.var 5) (.var 7)) (.i (.ar .quo .i64 (.var 6) (.var 7)) (.x (.fn 5 (.i (.var 2) (.i (.var 3) (.i (.var 4) (.i (.var 5) (.i (.var 6) (.x (.fn 6 (.x (.var 0) (.i (.var 2) (.i (.var 3) (.i (.var 4) (.i (.var 5) (.i (.var 6) .nil))))))) (.i (.var 7) .nil)))))))) (.i (.var 8) (.i (.var 9) (.i (.var 10) (.i (.var 11) .nil))))))))))) (.fn 192 (.i (.var 2) (.i (.var 3) (.i (.var 4) (.i (.var 5) (.i (.var 6) (.x (.fn 6 (.x (.var 0) (.i (.var 2) (.i (.var 3) (.i (.var 4) (.i (.var 5) (.i (.var 6) .nil))))))) (.i (.var 8) (.i (.var 9) (.i (.var 10) (.i (.var 11) .nil)))))))))))))))), [], 12))
 (.ret ((.v (.one (.z (.bool (.lit false))))), [], 12)))
 (.ret ((.v (.one (.z (.bool (.lit false))))), [], 12))))
 (.ret ((.v (.one (.z (.bool (.cmp .leq (.fn 192 (.i (.var 2) (.i (.var 3) (.i (.var 4) (.i (.var 5) (.i (.var 6) (.x (.fn 6 (.x (.var 0) (.i (.var 2) (.i (.var 3) (.i (.var 4) (.i (.var 5) (.i (.var 6) .nil))))))) (.i (.var 8) (.i (.var 9) (.i (.var 10) (.i (.var 11) .nil))))))))))) (.fn 192 (.i (.var 2) (.i (.var 3) (.i (.var 4) (.i (.var 5) (.i (.var 6) (.x (.fn 6 (.x (.var 0) (.i (.var 2) (.i (.var 3) (.i (.var 4) (.i (.var 5) (.i (.var 6) .nil))))))) (.i (.var 12) (.i (.var 13) (.i (.var 14) (.i (.var 15) .nil)))))))))))))))), [], 12)))
 (.ite (.fn 190 (.i (.var 2) (.i (.var 3) (.i (.var 4) (.i (.var 5) (.i (.var 6) (.x (.fn 6 (.x (.var 0) (.i (.var 2) (.i (.var 3) (.i (.var 4) (.i (.var 5) (.i (.var 6) .nil))))))) (.i (.var 7) .nil))))))))
 (.ite (.cmp .neq (.fn 193 (.i (.var 2) (.i (.var 3) (.i (.var 4) (.i (.var 5) (.i (.var 6) (.x (.fn 6 (.x (.var 0) (.i (.var 2) (.i (.var 3) (.i (.var 4) (.i (.var 5) (.i (.var 6) .nil))))))) (.i (.var 8) (.i (.var 9) (.i (.var 10) (.i (.var 11) .nil))))))))))) (.lit 0))
 (.ret ((.v (.one (.z (.bool (.lit false))))), [], 12))
 (.ret ((.v (.one (.z (.bool (.lit false))))), [], 12)))
 (.ret ((.v (.one (.z (.bool (.lit false))))), [], 12))))
 (.ite (.fn 190 (.i (.var 2) (.i (.var 3) (.i (.var 4) (.i (.var 5) (.i (.var 6) (.x (.fn 6 (.x (.var 0) (.i (.var 2) (.i (.var 3) (.i (.var 4) (.i (.var 5) (.i (.var 6) .nil))))))) (.i (.var 7) .nil))))))))
 (.ite (.cmp .neq (.fn 193 (.i (.var 2) (.i (.var 3) (.i (.var 4) (.i (.var 5) (.i (.var 6) (.x (.fn 6 (.x (.var 0) (.i (.var 2) (.i (.var 3) (.i (.var 4) (.i (.var 5) (.i (.var 6) .nil))))))) (.i (.var 8) (.i (.var 9) (.i (.var 10) (.i (.var 11) .nil))))))))))) (.lit 0))
 (.ret ((.v (.one (.z (.bool (.var 10000))))), [], 12))
 (.ite (.var 10000)
 (.ite (.cmp .eql (.fn 193 (.i (.var 2) (.i (.var 3) (.i (.ar .mul .i64 (.var 7) (.var 4)) (.i (.ar .quo .i64 (.var 5) (.var 7)) (.i (.ar .quo .i64 (.var 6) (.var 7)) (.x (.fn 5 (.i (.var 2) (.i (.var 3) (.i (.var 4) (.i (.var 5) (.i (.var 6) (.x (.fn 6 (.x (.var 0) (.i (.var 2) (.i (.var 3) (.i (.var 4) (.i (.var 5) (.i (.var 6) .nil))))))) (.i (.var 7) .nil)))))))) (.i (.var 8) (.i (.var 9) (.i (.var 10) (.i (.var 11) .nil))))))))))) (.lit 0))
 (.ret ((.v (.one (.z (.bool (.cmp .leq (.fn 192 (.i (.var 2) (.i (.var 3) (.i (.ar .mul .i64 (.var 7) (.var 4)) (.i (.ar .quo .i64 (.var 5) (.var 7)) (.i (.ar .quo .i64 (.var 6) (.var 7)) (.x (.fn 5 (.i (.var 2) (.i (.var 3) (.i (.var 4) (.i (.var 5) (.i (.var 6) (.x (.fn 6 (.x (.var 0) (.i (.var 2) (.i (.var 3) (.i (.var 4) (.i (.var 5) (.i (.var 6) .nil))))))) (.i (.var 7) .nil)))))))) (.i (.var 8) (.i (.var 9) (.i (.var 10) (.i (.var 11) .nil))))))))))) (.fn 192 (.i (.var 2) (.i (.var 3) (.i (.var 4) (.i (.var 5) (.i (.var 6) (.x (.fn 6 (.x (.var 0) (.i (.var 2) (.i (.var 3) (.i (.var 4) (.i (.var 5) (.i (.var 6) .nil))))))) (.i (.var 8) (.i (.var 9) (.i (.var 10) (.i (.var 11) .nil)))))))))))))))), [], 12))
 (.ret ((.v (.one (.z (.bool (.lit false))))), [], 12)))
 (.ret ((.v (.one (.z (.bool (.lit false))))), [], 12))))
 (.ret ((.v (.one (.z (.bool (.var 10000))))), [], 12))))
 (.ite (.fn 190 (.i (.var 2) (.i (.var 3) (.i (.var 4) (.i (.var 5) (.i (.var 6) (.x (.fn 6 (.x (.var 0) (.i (.var 2) (.i (.var 3) (.i (.var 4) (.i (.var 5) (.i (.var 6) .nil))))))) (.i (.var 7) .nil))))))))
 (.ite (.cmp .neq (.fn 193 (.i (.var 2) (.i (.var 3) (.i (.var 4) (.i (.var 5) (.i (.var 6) (.x (.fn 6 (.x (.var 0) (.i (.var 2) (.i (.var 3) (.i (.var 4) (.i (.var 5) (.i (.var 6) .nil))))))) (.i (.var 8) (.i (.var 9) (.i (.var 10) (.i (.var 11) .nil))))))))))) (.lit 0))
 (.ret ((.v (.one (.z (.bool (.var 10000))))), [], 12))
 (.ite (.var 10000)
 (.ite (.cmp .eql (.fn 193 (.i (.var 2) (.i (.var 3) (.i (.ar .mul .i64 (.var 7) (.var 4)) (.i (.ar .quo .i64 (.var 5) (.var 7)) (.i (.ar .quo .i64 (.var 6) (.var 7)) (.x (.fn 5 (.i (.var 2) (.i (.var 3) (.i (.var 4) (.i (.var 5) (.i (.var 6) (.x (.fn 6 (.x (.var 0) (.i (.var 2) (.i (.var 3) (.i (.var 4) (.i (.var 5) (.i (.var 6) .nil))))))) (.i (.var 7) .nil)))))))) (.i (.var 8) (.i (.var 9) (.i (.var 10) (.i (.var 11) .nil))))))))))) (.lit 0))
 (.ret ((.v (.one (.z (.bool (.cmp .leq (.fn 192 (.i (.var 2) (.i (.var 3) (.i (.ar .mul .i64 (.var 7) (.var 4)) (.i (.ar .quo .i64 (.var 5) (.var 7)) (.i (.ar .quo .i64 (.var 6) (.var 7)) (.x (.fn 5 (.i (.var 2) (.i (.var 3) (.i (.var 4) (.i (.var 5) (.i (.var 6) (.x (.fn 6 (.x (.var 0) (.i (.var 2) (.i (.var 3) (.i (.var 4) (.i (.var 5) (.i (.var 6) .nil))))))) (.i (.var 7) .nil)))))))) (.i (.var 8) (.i (.var 9) (.i (.var 10) (.i (.var 11) .nil))))))))))) (.fn 192 (.i (.var 2) (.i (.var 3) (.i (.var 4) (.i (.var 5) (.i (.var 6) (.x (.fn 6 (.x (.var 0) (.i (.var 2) (.i (.var 3) (.i (.var 4) (.i (.var 5) (.i (.var 6) .nil))))))) (.i (.var 8) (.i (.var 9) (.i (.var 10) (.i (.var 11) .nil)))))))))))))))), [], 12))
 (.ret ((.v (.one (.z (.bool (.lit false))))), [], 12)))
 (.ret ((.v (.one (.z (.bool (.lit false))))), [], 12))))
 (.ret ((.v (.one (.z (.bool (.var 10000))))), [], 12))))
 (.ite (.fn 190 (.i (.var 2) (.i (.var 3) (.i (.var 4) (.i (.var 5) (.i (.var 6) (.x (.fn 6 (.x (.var 0) (.i (.var 2) (.i (.var 3) (.i (.var 4) (.i (.var 5) (.i (.var 6) .nil))))))) (.i (.var 7) .nil))))))))
 (.ite (.cmp .neq (.fn 193 (.i (.var 2) (.i (.var 3) (.i (.var 4) (.i (.var 5) (.i (.var 6) (.x (.fn 6 (.x (.var 0) (.i (.var 2) (.i (.var 3) (.i (.var 4) (.i (.var 5) (.i (.var 6) .nil))))))) (.i (.var 8) (.i (.var 9) (.i (.var 10) (.i (.var 11) .nil))))))))))) (.lit 0))
 (.ret ((.v (.one (.z (.bool (.var 10000))))), [], 12))
 (.ite (.var 10000)
 (.ite (.cmp .eql (.fn 193 (.i (.var 2) (.i (.var 3) (.i (.ar .mul .i64 (.var 7) (.var 4)) (.i (.ar .quo .i64 (.var 5) (.var 7)) (.i (.ar .quo .i64 (.var 6) (.var 7)) (.x (.fn 5 (.i (.var 2) (.i (.var 3) (.i (.var 4) (.i (.var 5) (.i (.var 6) (.x (.fn 6 (.x (.var 0) (.i (.var 2) (.i (.var 3) (.i (.var 4) (.i (.var 5) (.i (.var 6) .nil))))))) (.i (.var 7) .nil)))))))) (.i (.var 8) (.i (.var 9) (.i (.var 10) (.i (.var 11) .nil))))))))))) (.lit 0))
 (.ret ((.v (.one (.z (.bool (.cmp .leq (.fn 192 (.i (.var 2) (.i (.var 3) (.i (.ar .mul .i64 (.var 7) (.var 4)) (.i (.ar .quo .i64 (.var 5) (.var 7)) (.i (.ar .quo .i64 (.var 6) (.var 7)) (.x (.fn 5 (.i (.var 2) (.i (.var 3) (.i (.var 4) (.i (.var 5) (.i (.var 6) (.x (.fn 6 (.x (.var 0) (.i (.var 2) (.i (.var 3) (.i (.var 4) (.i (.var 5) (.i (.var 6) .nil))))))) (.i (.var 7) .nil)))))))) (.i (.var 8) (.i (.var 9) (.i (.var 10) (.i (.var 11) .nil))))))))))) (.fn 192 (.i (.var 2) (.i (.var 3) (.i (.var 4) (.i (.var 5) (.i (.var 6) (.x (.fn 6 (.x (.var 0) (.i (.var 2) (.i (.var 3) (.i (.var 4) (.i (.var 5) (.i (.var 6) .nil))))))) (.i (.var 8) (.i (.var 9) (.i (.var 10) (.i (.var 11) .nil)))))))))))))))), [], 12))
 (.ret ((.v (.one (.z (.bool (.lit false))))), [], 12)))
 (.ret ((.v (.one (.z (.bool (.lit false))))), [], 12))))
 (.ret ((.v (.one (.z (.bool (.var 10000))))), [], 12))))
 (.ite (.cmp .eql (.fn 193 (.i (.var 2) (.i (.var 3) (.i (.var 4) (.i (.var 5) (.i (.var 6) (.x (.fn 6 (.x (.var 0) (.i (.var 2) (.i (.var 3) (.i (.var 4) (.i (.var 5) (.i (.var 6) .nil))))))) (.i (.var 8) (.i (.var 9) (.i (.var 10) (.i (.var 11) .nil))))))))))) (.lit 0))
 (.ite (.cmp .eql (.fn 193 (.i (.var 2) (.i (.var 3) (.i (.var 4) (.i (.var 5) (.i (.var 6) (.x (.fn 6 (.x (.var 0) (.i (.var 2) (.i (.var 3) (.i (.var 4) (.i (.var 5) (.i (.var 6) .nil))))))) (.i (.var 12) (.i (.var 13) (.i (.var 14) (.i (.var 15) .nil))))))))))) (.lit 0))
 (.ite (.fn 190 (.i (.var 2) (.i (.var 3) (.i (.var 4) (.i (.var 5) (.i (.var 6) (.x (.fn 6 (.x (.var 0) (.i (.var 2) (.i (.var 3) (.i (.var 4) (.i (.var 5) (.i (.var 6) .nil))))))) (.i (.var 7) .nil))))))))
 (.ite (.cmp .neq (.fn 193 (.i (.var 2) (.i (.var 3) (.i (.var 4) (.i (.var 5) (.i (.var 6) (.x (.fn 6 (.x (.var 0) (.i (.var 2) (.i (.var 3) (.i (.var 4) (.i (.var 5) (.i (.var 6) .nil))))))) (.i (.var 8) (.i (.var 9) (.i (.var 10) (.i (.var 11) .nil))))))))))) (.lit 0))
 (.ret ((.v (.one (.z (.bool (.var 10000))))), [], 12))
 (.ite (.var 10000)
 (.ite (.cmp .eql (.fn 193 (.i (.var 2) (.i (.var 3) (.i (.ar .mul .i64 (.var 7) (.var 4)) (.i (.ar .quo .i64 (.var 5) (.var 7)) (.i (.ar .quo .i64 (.var 6) (.var 7)) (.x (.fn 5 (.i (.var 2) (.i (.var 3) (.i (.var 4) (.i (.var 5) (.i (.var 6) (.x (.fn 6 (.x (.var 0) (.i (.var 2) (.i (.var 3) (.i (.var 4) (.i (.var 5) (.i (.var 6) .nil))))))) (.i (.var 7) .nil)))))))) (.i (.var 8) (.i (.var 9) (.i (.var 10) (.i (.var 11) .nil))))))))))) (.lit 0))
 (.ret ((.v (.one (.z (.bool (.cmp .leq (.fn 192 (.i (.var 2) (.i (.var 3) (.i (.ar .mul .i64 (.var 7) (.var 4)) (.i (.ar .quo .i64 (.var 5) (.var 7)) (.i (.ar .quo .i64 (.var 6) (.var 7)) (.x (.fn 5 (.i (.var 2) (.i (.var 3) (.i (.var 4) (.i (.var 5) (.i (.var 6) (.x (.fn 6 (.x (.var 0) (.i (.var 2) (.i (.var 3) (.i (.var 4) (.i (.var 5) (.i (.var 6) .nil))))))) (.i (.var 7) .nil)))))))) (.i (.var 8) (.i (.var 9) (.i (.var 10) (.i (.var 11) .nil))))))))))) (.fn 192 (.i (.var 2) (.i (.var 3) (.i (.var 4) (.i (.var 5) (.i (.var 6) (.x (.fn 6 (.x (.var 0) (.i (.var 2) (.i (.var 3) (.i (.var 4) (.i (.var 5) (.i (.var 6) .nil))))))) (.i (.var 8) (.i (.var 9) (.i (.var 10) (.i (.var 11) .nil)))))))))))))))), [], 12))
 (.ret ((.v (.one (.z (.bool (.lit false))))), [], 12)))
 (.ret ((.v (.one (.z (.bool (.lit false))))), [], 12))))
 (.ret ((.v (.one (.z (.bool (.var 10000))))), [], 12)))
 (.ite (.fn 190 (.i (.var 2) (.i (.var 3) (.i (.var 4) (.i (.var 5) (.i (.var 6) (.x (.fn 6 (.x (.var 0) (.i (.var 2) (.i (.var 3) (.i (.var 4) (.i (.var 5) (.i (.var 6) .nil))))))) (.i (.var 7) .nil))))))))
 (.ite (.cmp .neq (.fn 193 (.i (.var 2) (.i (.var 3) (.i (.var 4) (.i (.var 5) (.i (.var 6) (.x (.fn 6 (.x (.var 0) (.i (.var 2) (.i (.var 3) (.i (.var 4) (.i (.var 5) (.i (.var 6) .nil))))))) (.i (.var 8) (.i (.var 9) (.i (.var 10) (.i (.var 11) .nil))))))))))) (.lit 0))
 (.ret ((.v (.one (.z (.bool (.var 10000))))), [], 12))
 (.ite (.var 10000)
 (.ite (.cmp .eql (.fn 193 (.i (.var 2) (.i (.var 3) (.i (.ar .mul .i64 (.var 7) (.var 4)) (.i (.ar .quo .i64 (.var 5) (.var 7)) (.i (.ar .quo .i64 (.var 6) (.var 7)) (.x (.fn 5 (.i (.var 2) (.i (.var 3) (.i (.var 4) (.i (.var 5) (.i (.var 6) (.x (.fn 6 (.x (.var 0) (.i (.var 2) (.i (.var 3) (.i (.var 4) (.i (.var 5) (.i (.var 6) .nil))))))) (.i (.var 7) .nil)))))))) (.i (.var 8) (.i (.var 9) (.i (.var 10) (.i (.var 11) .nil))))))))))) (.lit 0))
 (.ret ((.v (.one (.z (.bool (.cmp .leq (.fn 192 (.i (.var 2) (.i (.var 3) (.i (.ar .mul .i64 (.var 7) (.var 4)) (.i (.ar .quo .i64 (.var 5) (.var 7)) (.i (.ar .quo .i64 (.var 6) (.var 7)) (.x (.fn 5 (.i (.var 2) (.i (.var 3) (.i (.var 4) (.i (.var 5) (.i (.var 6) (.x (.fn 6 (.x (.var 0) (.i (.var 2) (.i (.var 3) (.i (.var 4) (.i (.var 5) (.i (.var 6) .nil))))))) (.i (.var 7) .nil)))))))) (.i (.var 8) (.i (.var 9) (.i (.var 10) (.i (.var 11) .nil))))))))))) (.fn 192 (.i (.var 2) (.i (.var 3) (.i (.var 4) (.i (.var 5) (.i (.var 6) (.x (.fn 6 (.x (.var 0) (.i (.var 2) (.i (.var 3) (.i (.var 4) (.i (.var 5) (.i (.var 6) .nil))))))) (.i (.var 8) (.i (.var 9) (.i (.var 10) (.i (.var 11) .nil)))))))))))))))), [], 12))
 (.ret ((.v (.one (.z (.bool (.lit false))))), [], 12)))
 (.ret ((.v (.one (.z (.bool (.lit false))))), [], 12))))
 (.ret ((.v (.one (.z (.bool (.var 10000))))), [], 12))))
 (.ite (.fn 190 (.i (.var 2) (.i (.var 3) (.i (.var 4) (.i (.var 5) (.i (.var 6) (.x (.fn 6 (.x (.var 0) (.i (.var 2) (.i (.var 3) (.i (.var 4) (.i (.var 5) (.i (.var 6) .nil))))))) (.i (.var 7) .nil))))))))
 (.ite (.cmp .neq (.fn 193 (.i (.var 2) (.i (.var 3) (.i (.var 4) (.i (.var 5) (.i (.var 6) (.x (.fn 6 (.x (.var 0) (.i (.var 2) (.i (.var 3) (.i (.var 4) (.i (.var 5) (.i (.var 6) .nil))))))) (.i (.var 8) (.i (.var 9) (.i (.var 10) (.i (.var 11) .nil))))))))))) (.lit 0))
 (.ret ((.v (.one (.z (.bool (.var 10000))))), [], 12))
 (.ite (.var 10000)
 (.ite (.cmp .eql (.fn 193 (.i (.var 2) (.i (.var 3) (.i (.ar .mul .i64 (.var 7) (.var 4)) (.i (.ar .quo .i64 (.var 5) (.var 7)) (.i (.ar .quo .i64 (.var 6) (.var 7)) (.x (.fn 5 (.i (.var 2) (.i (.var 3) (.i (.var 4) (.i (.var 5) (.i (.var 6) (.x (.fn 6 (.x (.var 0) (.i (.var 2) (.i (.var 3) (.i (.var 4) (.i (.var 5) (.i (.var 6) .nil))))))) (.i (.var 7) .nil)))))))) (.i (.var 8) (.i (.var 9) (.i (.var 10) (.i (.var 11) .nil))))))))))) (.lit 0))
 (.ret ((.v (.one (.z (.bool (.cmp .leq (.fn 192 (.i (.var 2) (.i (.var 3) (.i (.ar .mul .i64 (.var 7) (.var 4)) (.i (.ar .quo .i64 (.var 5) (.var 7)) (.i (.ar .quo .i64 (.var 6) (.var 7)) (.x (.fn 5 (.i (.var 2) (.i (.var 3) (.i (.var 4) (.i (.var 5) (.i (.var 6) (.x (.fn 6 (.x (.var 0) (.i (.var 2) (.i (.var 3) (.i (.var 4) (.i (.var 5) (.i (.var 6) .nil))))))) (.i (.var 7) .nil)))))))) (.i (.var 8) (.i (.var 9) (.i (.var 10) (.i (.var 11) .nil))))))))))) (.fn 192 (.i (.var 2) (.i (.var 3) (.i (.var 4) (.i (.var 5) (.i (.var 6) (.x (.fn 6 (.x (.var 0) (.i (.var 2) (.i (.var 3) (.i (.var 4) (.i (.var 5) (.i (.var 6) .nil))))))) (.i (.var 8) (.i (.var 9) (.i (.var 10) (.i (.var 11) .nil)))))))))))))))), [], 12))
 (.ret ((.v (.one (.z (.bool (.lit false))))), [], 12)))
 (.ret ((.v (.one (.z (.bool (.lit false))))), [], 12))))
 (.ret ((.v (.one (.z (.bool (.var 10000))))), [], 12)))))
 (.ite (.cmp .eql (.fn 193 (.i (.var 2) (.i (.var 3) (.i (.var 4) (.i (.var 5) (.i (.var 6) (.x (.fn 6 (.x (.var 0) (.i (.var 2) (.i (.var 3) (.i (.var 4) (.i (.var 5) (.i (.var 6) .nil))))))) (.i (.var 8) (.i (.var 9) (.i (.var 10) (.i (.var 11) .nil))))))))))) (.lit 0))
 (.ite (.cmp .eql (.fn 193 (.i (.var 2) (.i (.var 3) (.i (.var 4) (.i (.var 5) (.i (.var 6) (.x (.fn 6 (.x (.var 0) (.i (.var 2) (.i (.var 3) (.i (.var 4) (.i (.var 5) (.i (.var 6) .nil))))))) (.i (.var 12) (.i (.var 13) (.i (.var 14) (.i (.var 15) .nil))))))))))) (.lit 0))
 (.ite (.fn 190 (.i (.var 2) (.i (.var 3) (.i (.var 4) (.i (.var 5) (.i (.var 6) (.x (.fn 6 (.x (.var 0) (.i (.var 2) (.i (.var 3) (.i (.var 4) (.i (.var 5) (.i (.var 6) .nil))))))) (.i (.var 7) .nil))))))))
 (.ite (.cmp .neq (.fn 193 (.i (.var 2) (.i (.var 3) (.i (.var 4) (.i (.var 5) (.i (.var 6) (.x (.fn 6 (.x (.var 0) (.i (.var 2) (.i (.var 3) (.i (.var 4) (.i (.var 5) (.i (.var 6) .nil))))))) (.i (.var 8) (.i (.var 9) (.i (.var 10) (.i (.var 11) .nil))))))))))) (.lit 0))
 (.ret ((.v (.one (.z (.bool (.var 10000))))), [], 12))
 (.ite (.var 10000)
 (.ite (.cmp .eql (.fn 193 (.i (.var 2) (.i (.var 3) (.i (.ar .mul .i64 (.var 7) (.var 4)) (.i (.ar .quo .i64 (.var 5) (.var 7)) (.i (.ar .quo .i64 (.var 6) (.var 7)) (.x (.fn 5 (.i (.var 2) (.i (.var 3) (.i (.var 4) (.i (.var 5) (.i (.var 6) (.x (.fn 6 (.x (.var 0) (.i (.var 2) (.i (.var 3) (.i (.var 4) (.i (.var 5) (.i (.var 6) .nil))))))) (.i (.var 7) .nil)))))))) (.i (.var 8) (.i (.var 9) (.i (.var 10) (.i (.var 11) .nil))))))))))) (.lit 0))
 (.ret ((.v (.one (.z (.bool (.cmp .leq (.fn 192 (.i (.var 2) (.i (.var 3) (.i (.ar .mul .i64 (.var 7) (.var 4)) (.i (.ar .quo .i64 (.var 5) (.var 7)) (.i (.ar .quo .i64 (.var 6) (.var 7)) (.x (.fn 5 (.i (.var 2) (.i (.var 3) (.i (.var 4) (.i (.var 5) (.i (.var 6) (.x (.fn 6 (.x (.var 0) (.i (.var 2) (.i (.var 3) (.i (.var 4) (.i (.var 5) (.i (.var 6) .nil))))))) (.i (.var 7) .nil)))))))) (.i (.var 8) (.i (.var 9) (.i (.var 10) (.i (.var 11) .nil))))))))))) (.fn 192 (.i (.var 2) (.i (.var 3) (.i (.var 4) (.i (.var 5) (.i (.var 6) (.x (.fn 6 (.x (.var 0) (.i (.var 2) (.i (.var 3) (.i (.var 4) (.i (.var 5) (.i (.var 6) .nil))))))) (.i (.var 8) (.i (.var 9) (.i (.var 10) (.i (.var 11) .nil)))))))))))))))), [], 12))
 (.ret ((.v (.one (.z (.bool (.lit false))))), [], 12)))
 (.ret ((.v (.one (.z (.bool (.lit false))))), [], 12))))
 (.ret ((.v (.one (.z (.bool (.var 10000))))), [], 12)))
 (.ite (.fn 190 (.i (.var 2) (.i (.var 3) (.i (.var 4) (.i (.var 5) (.i (.var 6) (.x (.fn 6 (.x (.var 0) (.i (.var 2) (.i (.var 3) (.i (.var 4) (.i (.var 5) (.i (.var 6) .nil))))))) (.i (.var 7) .nil))))))))
 (.ite (.cmp .neq (.fn 193 (.i (.var 2) (.i (.var 3) (.i (.var 4) (.i (.var 5) (.i (.var 6) (.x (.fn 6 (.x (.var 0) (.i (.var 2) (.i (.var 3) (.i (.var 4) (.i (.var 5) (.i (.var 6) .nil))))))) (.i (.var 8) (.i (.var 9) (.i (.var 10) (.i (.var 11) .nil))))))))))) (.lit 0))
 (.ret ((.v (.one (.z (.bool (.var 10000))))), [], 12))
 (.ite (.var 10000)
 (.ite (.cmp .eql (.fn 193 (.i (.var 2) (.i (.var 3) (.i (.ar .mul .i64 (.var 7) (.var 4)) (.i (.ar .quo .i64 (.var 5) (.var 7)) (.i (.ar .quo .i64 (.var 6) (.var 7)) (.x (.fn 5 (.i (.var 2) (.i (.var 3) (.i (.var 4) (.i (.var 5) (.i (.var 6) (.x (.fn 6 (.x (.var 0) (.i (.var 2) (.i (.var 3) (.i (.var 4) (.i (.var 5) (.i (.var 6) .nil))))))) (.i (.var 7) .nil)))))))) (.i (.var 8) (.i (.var 9) (.i (.var 10) (.i (.var 11) .nil))))))))))) (.lit 0))
 (.ret ((.v (.one (.z (.bool (.cmp .leq (.fn 192 (.i (.var 2) (.i (.var 3) (.i (.ar .mul .i64 (.var 7) (.var 4)) (.i (.ar .quo .i64 (.var 5) (.var 7)) (.i (.ar .quo .i64 (.var 6) (.var 7)) (.x (.fn 5 (.i (.var 2) (.i (.var 3) (.i (.var 4) (.i (.var 5) (.i (.var 6) (.x (.fn 6 (.x (.var 0) (.i (.var 2) (.i (.var 3) (.i (.var 4) (.i (.var 5) (.i (.var 6) .nil))))))) (.i (.var 7) .nil)))))))) (.i (.var 8) (.i (.var 9) (.i (.var 10) (.i (.var 11) .nil))))))))))) (.fn 192 (.i (.var 2) (.i (.var 3) (.i (.var 4) (.i (.var 5) (.i (.var 6) (.x (.fn 6 (.x (.var 0) (.i (.var 2) (.i (.var 3) (.i (.var 4) (.i (.var 5) (.i (.var 6) .nil))))))) (.i (.var 8) (.i (.var 9) (.i (.var 10) (.i (.var 11) .nil)))))))))))))))), [], 12))
 (.ret ((.v (.one (.z (.bool (.lit false))))), [], 12)))
 (.ret ((.v (.one (.z (.bool (.lit false))))), [], 12))))
 (.ret ((.v (.one (.z (.bool (.var 10000))))), [], 12))))
 (.ite (.fn 190 (.i (.var 2) (.i (.var 3) (.i (.var 4) (.i (.var 5) (.i (.var 6) (.x (.fn 6 (.x (.var 0) (.i (.var 2) (.i (.var 3) (.i (.var 4) (.i (.var 5) (.i (.var 6) .nil))))))) (.i (.var 7) .nil))))))))
 (.ite (.cmp .neq (.fn 193 (.i (.var 2) (.i (.var 3) (.i (.var 4) (.i (.var 5) (.i (.var 6) (.x (.fn 6 (.x (.var 0) (.i (.var 2) (.i (.var 3) (.i (.var 4) (.i (.var 5) (.i (.var 6) .nil))))))) (.i (.var 8) (.i (.var 9) (.i (.var 10) (.i (.var 11) .nil))))))))))) (.lit 0))
 (.ret ((.v (.one (.z (.bool (.var 10000))))), [], 12))
 (.ite (.var 10000)
 (.ite (.cmp .eql (.fn 193 (.i (.var 2) (.i (.var 3) (.i (.ar .mul .i64 (.var 7) (.var 4)) (.i (.ar .quo .i64 (.var 5) (.var 7)) (.i (.ar .quo .i64 (.var 6) (.var 7)) (.x (.fn 5 (.i (.var 2) (.i (.var 3) (.i (.var 4) (.i (.var 5) (.i (.var 6) (.x (.fn 6 (.x (.var 0) (.i (.var 2) (.i (.var 3) (.i (.var 4) (.i (.var 5) (.i (.var 6) .nil))))))) (.i (.var 7) .nil)))))))) (.i (.var 8) (.i (.var 9) (.i (.var 10) (.i (.var 11) .nil))))))))))) (.lit 0))
 (.ret ((.v (.one (.z (.bool (.cmp .leq (.fn 192 (.i (.var 2) (.i (.var 3) (.i (.ar .mul .i64 (.var 7) (.var 4)) (.i (.ar .quo .i64 (.var 5) (.var 7)) (.i (.ar .quo .i64 (.var 6) (.var 7)) (.x (.fn 5 (.i (.var 2) (.i (.var 3) (.i (.var 4) (.i (.var 5) (.i (.var 6) (.x (.fn 6 (.x (.var 0) (.i (.var 2) (.i (.var 3) (.i (.var 4) (.i (.var 5) (.i (.var 6) .nil))))))) (.i (.var 7) .nil)))))))) (.i (.var 8) (.i (.var 9) (.i (.var 10) (.i (.var 11) .nil))))))))))) (.fn 192 (.i (.var 2) (.i (.var 3) (.i (.var 4) (.i (.var 5) (.i (.var 6) (.x (.fn 6 (.x (.var 0) (.i (.var 2) (.i (.var 3) (.i (.var 4) (.i (.var 5) (.i (.var 6) .nil))))))) (.i (.var 8) (.i (.var 9) (.i (.var 10) (.i (.var 11) .nil)))))))))))))))), [], 12))
 (.ret ((.v (.one (.z (.bool (.lit false))))), [], 12)))
 (.ret ((.v (.one (.z (.bool (.lit false))))), [], 12))))
 (.ret ((.v (.one (.z (.bool (.var 10000))))), [], 12)))))
 (.ite (.cmp .eql (.fn 193 (.i (.var 2) (.i (.var 3) (.i (.var 4) (.i (.var 5) (.i (.var 6) (.x (.fn 6 (.x (.var 0) (.i (.var 2) (.i (.var 3) (.i (.var 4) (.i (.var 5) (.i (.var 6) .nil))))))) (.i (.var 8) (.i (.var 9) (.i (.var 10) (.i (.var 11) .nil))))))))))) (.lit 0))
 (.ite (.cmp .eql (.fn 193 (.i (.var 2) (.i (.var 3) (.i (.var 4) (.i (.var 5) (.i (.var 6) (.x (.fn 6 (.x (.var 0) (.i (.var 2) (.i (.var 3) (.i (.var 4) (.i (.var 5) (.i (.var 6) .nil))))))) (.i (.var 12) (.i (.var 13) (.i (.var 14) (.i (.var 15) .nil))))))))))) (.lit 0))
 (.ite (.fn 190 (.i (.var 2) (.i (.var 3) (.i (.var 4) (.i (.var 5) (.i (.var 6) (.x (.fn 6 (.x (.var 0) (.i (.var 2) (.i (.var 3) (.i (.var 4) (.i (.var 5) (.i (.var 6) .nil))))))) (.i (.var 7) .nil))))))))
 (.ite (.cmp .neq (.fn 193 (.i (.var 2) (.i (.var 3) (.i (.var 4) (.i (.var 5) (.i (.var 6) (.x (.fn 6 (.x (.var 0) (.i (.var 2) (.i (.var 3) (.i (.var 4) (.i (.var 5) (.i (.var 6) .nil))))))) (.i (.var 8) (.i (.var 9) (.i (.var 10) (.i (.var 11) .nil))))))))))) (.lit 0))
 (.ret ((.v (.one (.z (.bool (.var 10000))))), [], 12))
 (.ite (.var 10000)
 (.ite (.cmp .eql (.fn 193 (.i (.var 2) (.i (.var 3) (.i (.ar .mul .i64 (.var 7) (.var 4)) (.i (.ar .quo .i64 (.var 5) (.var 7)) (.i (.ar .quo .i64 (.var 6) (.var 7)) (.x (.fn 5 (.i (.var 2) (.i (.var 3) (.i (.var 4) (.i (.var 5) (.i (.var 6) (.x (.fn 6 (.x (.var 0) (.i (.var 2) (.i (.var 3) (.i (.var 4) (.i (.var 5) (.i (.var 6) .nil))))))) (.i (.var 7) .nil)))))))) (.i (.var 8) (.i (.var 9) (.i (.var 10) (.i (.var 11) .nil))))))))))) (.lit 0))
 (.ret ((.v (.one (.z (.bool (.cmp .leq (.fn 192 (.i (.var 2) (.i (.var 3) (.i (.ar .mul .i64 (.var 7) (.var 4)) (.i (.ar .quo .i64 (.var 5) (.var 7)) (.i (.ar .quo .i64 (.var 6) (.var 7)) (.x (.fn 5 (.i (.var 2) (.i (.var 3) (.i (.var 4) (.i (.var 5) (.i (.var 6) (.x (.fn 6 (.x (.var 0) (.i (.var 2) (.i (.var 3) (.i (.var 4) (.i (.var 5) (.i (.var 6) .nil))))))) (.i (.var 7) .nil)))))))) (.i (.var 8) (.i (.var 9) (.i (.var 10) (.i (.var 11) .nil))))))))))) (.fn 192 (.i (.var 2) (.i (.var 3) (.i (.var 4) (.i (.var 5) (.i (.var 6) (.x (.fn 6 (.x (.var 0) (.i (.var 2) (.i (.var 3) (.i (.var 4) (.i (.var 5) (.i (.var 6) .nil))))))) (.i (.var 8) (.i (.var 9) (.i (.var 10) (.i (.var 11) .nil)))))))))))))))), [], 12))
 (.ret ((.v (.one (.z (.bool (.lit false))))), [], 12)))
 (.ret ((.v (.one (.z (.bool (.lit false))))), [], 12))))
 (.ret ((.v (.one (.z (.bool (.var 10000))))), [], 12)))
 (.ite (.fn 190 (.i (.var 2) (.i (.var 3) (.i (.var 4) (.i (.var 5) (.i (.var 6) (.x (.fn 6 (.x (.var 0) (.i (.var 2) (.i (.var 3) (.i (.var 4) (.i (.var 5) (.i (.var 6) .nil))))))) (.i (.var 7) .nil))))))))
 (.ite (.cmp .neq (.fn 193 (.i (.var 2) (.i (.var 3) (.i (.var 4) (.i (.var 5) (.i (.var 6) (.x (.fn 6 (.x (.var 0) (.i (.var 2) (.i (.var 3) (.i (.var 4) (.i (.var 5) (.i (.var 6) .nil))))))) (.i (.var 8) (.i (.var 9) (.i (.var 10) (.i (.var 11) .nil))))))))))) (.lit 0))
 (.ret ((.v (.one (.z (.bool (.var 10000))))), [], 12))
 (.ite (.var 10000)
 (.ite (.cmp .eql (.fn 193 (.i (.var 2) (.i (.var 3) (.i (.ar .mul .i64 (.var 7) (.var 4)) (.i (.ar .quo .i64 (.var 5) (.var 7)) (.i (.ar .quo .i64 (.var 6) (.var 7)) (.x (.fn 5 (.i (.var 2) (.i (.var 3) (.i (.var 4) (.i (.var 5) (.i (.var 6) (.x (.fn 6 (.x (.var 0) (.i (.var 2) (.i (.var 3) (.i (.var 4) (.i (.var 5) (.i (.var 6) .nil))))))) (.i (.var 7) .nil)))))))) (.i (.var 8) (.i (.var 9) (.i (.var 10) (.i (.var 11) .nil))))))))))) (.lit 0))
 (.ret ((.v (.one (.z (.bool (.cmp .leq (.fn 192 (.i (.var 2) (.i (.var 3) (.i (.ar .mul .i64 (.var 7) (.var 4)) (.i (.ar .quo .i64 (.var 5) (.var 7)) (.i (.ar .quo .i64 (.var 6) (.var 7)) (.x (.fn 5 (.i (.var 2) (.i (.var 3) (.i (.var 4) (.i (.var 5) (.i (.var 6) (.x (.fn 6 (.x (.var 0) (.i (.var 2) (.i (.var 3) (.i (.var 4) (.i (.var 5) (.i (.var 6) .nil))))))) (.i (.var 7) .nil)))))))) (.i (.var 8) (.i (.var 9) (.i (.var 10) (.i (.var 11) .nil))))))))))) (.fn 192 (.i (.var 2) (.i (.var 3) (.i (.var 4) (.i (.var 5) (.i (.var 6) (.x (.fn 6 (.x (.var 0) (.i (.var 2) (.i (.var 3) (.i (.var 4) (.i (.var 5) (.i (.var 6) .nil))))))) (.i (.var 8) (.i (.var 9) (.i (.var 10) (.i (.var 11) .nil)))))))))))))))), [], 12))
 (.ret ((.v (.one (.z (.bool (.lit false))))), [], 12)))
 (.ret ((.v (.one (.z (.bool (.lit false))))), [], 12))))
 (.ret ((.v (.one (.z (.bool (.var 10000))))), [], 12))))
 (.ite (.fn 190 (.i (.var 2) (.i (.var 3) (.i (.var 4) (.i (.var 5) (.i (.var 6) (.x (.fn 6 (.x (.var 0) (.i (.var 2) (.i (.var 3) (.i (.var 4) (.i (.var 5) (.i (.var 6) .nil))))))) (.i (.var 7) .nil))))))))
 (.ite (.cmp .neq (.fn 193 (.i (.var 2) (.i (.var 3) (.i (.var 4) (.i (.var 5) (.i (.var 6) (.x (.fn 6 (.x (.var 0) (.i (.var 2) (.i (.var 3) (.i (.var 4) (.i (.var 5) (.i (.var 6) .nil))))))) (.i (.var 8) (.i (.var 9) (.i (.var 10) (.i (.var 11) .nil))))))))))) (.lit 0))
 (.ret ((.v (.one (.z (.bool (.var 10000))))), [], 12))
 (.ite (.var 10000)
 (.ite (.cmp .eql (.fn 193 (.i (.var 2) (.i (.var 3) (.i (.ar .mul .i64 (.var 7) (.var 4)) (.i (.ar .quo .i64 (.var 5) (.var 7)) (.i (.ar .quo .i64 (.var 6) (.var 7)) (.x (.fn 5 (.i (.var 2) (.i (.var 3) (.i (.var 4) (.i (.var 5) (.i (.var 6) (.x (.fn 6 (.x (.var 0) (.i (.var 2) (.i (.var 3) (.i (.var 4) (.i (.var 5) (.i (.var 6) .nil))))))) (.i (.var 7) .nil)))))))) (.i (.var 8) (.i (.var 9) (.i (.var 10) (.i (.var 11) .nil))))))))))) (.lit 0))
 (.ret ((.v (.one (.z (.bool (.cmp .leq (.fn 192 (.i (.var 2) (.i (.var 3) (.i (.ar .mul .i64 (.var 7) (.var 4)) (.i (.ar .quo .i64 (.var 5) (.var 7)) (.i (.ar .quo .i64 (.var 6) (.var 7)) (.x (.fn 5 (.i (.var 2) (.i (.var 3) (.i (.var 4) (.i (.var 5) (.i (.var 6) (.x (.fn 6 (.x (.var 0) (.i (.var 2) (.i (.var 3) (.i (.var 4) (.i (.var 5) (.i (.var 6) .nil))))))) (.i (.var 7) .nil)))))))) (.i (.var 8) (.i (.var 9) (.i (.var 10) (.i (.var 11) .nil))))))))))) (.fn 192 (.i (.var 2) (.i (.var 3) (.i (.var 4) (.i (.var 5) (.i (.var 6) (.x (.fn 6 (.x (.var 0) (.i (.var 2) (.i (.var 3) (.i (.var 4) (.i (.var 5) (.i (.var 6) .nil))))))) (.i (.var 8) (.i (.var 9) (.i (.var 10) (.i (.var 11) .nil)))))))))))))))), [], 12))
 (.ret ((.v (.one (.z (.bool (.lit false))))), [], 12)))
 (.ret ((.v (.one (.z (.bool (.lit false))))), [], 12))))
 (.ret ((.v (.one (.z (.bool (.var 10000))))), [], 12))))))))
 (.ret ((.v (.one (.z (.bool (.lit false))))), [], 9)))))))))))
 (.ob (.tru (.lit true))
 (.ob (.tru (.cmp .leq (.lit 0) (.ar .rem .i64 (.wr .i64 (.var 1)) (.len (.var 0)))))
 (.ob (.tru (.cmp .leq (.ar .rem .i64 (.wr .i64 (.var 1)) (.len (.var 0))) (.len (.var 0))))
 (.ob (.tru (.cmp .leq (.len (.sub (.var 0) (.lit 0) (.ar .rem .i64 (.wr .i64 (.var 1)) (.len (.var 0))))) (.lit 1000000)))
 (.ob (.tru (.cmp .leq (.lit 0) (.ar .add .i64 (.ar .rem .i64 (.wr .i64 (.var 1)) (.len (.var 0))) (.lit 1))))
 (.ob (.tru (.cmp .leq (.ar .add .i64 (.ar .rem .i64 (.wr .i64 (.var 1)) (.len (.var 0))) (.lit 1)) (.len (.var 0))))
 (.ob (.tru (.lit true))
 (.ob (.tru (.cmp .leq (.len (.app (.sub (.var 0) (.lit 0) (.ar .rem .i64 (.wr .i64 (.var 1)) (.len (.var 0)))) (.sub (.var 0) (.ar .add .i64 (.ar .rem .i64 (.wr .i64 (.var 1)) (.len (.var 0))) (.lit 1)) (.len (.var 0))))) (.lit 1000000)))
 (.ite (.fn 191 (.x (.app (.sub (.var 0) (.lit 0) (.ar .rem .i64 (.wr .i64 (.var 1)) (.len (.var 0)))) (.sub (.var 0) (.ar .add .i64 (.ar .rem .i64 (.wr .i64 (.var 1)) (.len (.var 0))) (.lit 1)) (.len (.var 0)))) (.i (.var 2) (.i (.var 3) (.i (.var 4) (.i (.var 5) (.i (.var 6) .nil)))))))
 (.ret ((.v (.one (.z (.bool (.lit true))))), [], 9))
 (.ret ((.v (.one (.z (.bool (.lit true))))), [], 9)))))))))))))))
 (.ret ((.v (.one (.z (.bool (.lit true))))), [], 3)))
 (.ret ((.v (.one (.z (.bool (.lit true))))), [], 3)))
def trMore_h : List (Nat × St) := [
(9, ⟨(List.append [(.v (.one (.z (.ext [(.int .i64), (.int .i64), (.int .i64), (.int .i64), (.int .i64), (.sl [(.int .i64), (.int .i64)]), (.int .i64), (.int .i64), (.sl [(.int .i64), (.int .i64), (.int .i64), (.int .i64), (.int .i64), (.int .i64)])] (.var 0) false)))), (.v (.one (.z (.int .u8 (.var 1))))), (.v (.agg [(.z (.int .i64 (.var 2))), (.z (.int .i64 (.var 3)))])), (.v (.one (.z (.int .i64 (.var 4))))), (.v (.one (.z (.int .i64 (.var 5))))), (.v (.one (.z (.int .i64 (.var 6))))), (.v (.one (.z (.int .i64 (.var 7))))), (.v (.agg [(.z (.int .i64 (.var 8))), (.z (.int .i64 (.var 9))), (.z (.int .i64 (.var 10))), (.z (.int .i64 (.var 11)))])), (.v (.agg [(.z (.int .i64 (.var 12))), (.z (.int .i64 (.var 13))), (.z (.int .i64 (.var 14))), (.z (.int .i64 (.var 15)))])), (.v (.one (.z .any))), (.v (.one (.z .any))), (.v (.one (.z (.ptr 0 0))))] (List.append (List.replicate 4 V.any) (List.append [(.v (.one (.z (.ptr 1 0)))), (.v (.one (.z (.ptr 2 0)))), (.v (.one (.z (.bool (.lit false))))), (.v (.one (.z (.bool (.var 10000))))), (.v (.one (.z (.int .i64 (.ar .rem .i64 (.wr .i64 (.var 1)) (.len (.var 0))))))), (.v (.one (.z (.ptr 4 0)))), (.v (.one (.z (.int .i64 (.lit 0))))), (.v (.one (.z (.ptr 8 0)))), (.v (.one (.z (.int .i64 (.lit 0))))), (.v (.one (.z (.int .i64 (.var 10001)))))] (List.append (List.replicate 9 V.any) (List.append [(.v (.one (.z (.bool (.lit true))))), (.v (.one (.z (.ext [(.int .i64), (.int .i64), (.int .i64), (.int .i64), (.int .i64), (.sl [(.int .i64), (.int .i64)]), (.int .i64), (.int .i64), (.sl [(.int .i64), (.int .i64), (.int .i64), (.int .i64), (.int .i64), (.int .i64)])] (.var 0) false)))), (.v (.one (.z (.int .i64 (.var 5))))), (.v (.one (.z (.int .i64 (.var 6))))), (.v (.one (.z (.bool (.cmp .leq (.var 6) (.lit 12)))))), (.v (.one (.z (.bool (.not (.cmp .leq (.var 6) (.lit 12))))))), (.v (.one (.z (.bool (.lit false))))), (.v (.one (.z (.ext [(.int .i64), (.int .i64), (.int .i64), (.int .i64), (.int .i64), (.sl [(.int .i64), (.int .i64)]), (.int .i64), (.int .i64), (.sl [(.int .i64), (.int .i64), (.int .i64), (.int .i64), (.int .i64), (.int .i64)])] (.var 0) false)))), (.v (.one (.z (.int .i64 (.len (.var 0)))))), (.v (.one (.z (.bool (.cmp .eql (.len (.var 0)) (.lit 0)))))), (.v (.one (.z (.bool (.cmp .eql (.len (.var 0)) (.lit 0)))))), (.v (.one (.z .any))), (.v (.one (.z (.int .u8 (.var 1))))), (.v (.one (.z (.int .i64 (.wr .i64 (.var 1)))))), (.v (.one (.z (.ext [(.int .i64), (.int .i64), (.int .i64), (.int .i64), (.int .i64), (.sl [(.int .i64), (.int .i64)]), (.int .i64), (.int .i64), (.sl [(.int .i64), (.int .i64), (.int .i64), (.int .i64), (.int .i64), (.int .i64)])] (.var 0) false)))), (.v (.one (.z (.int .i64 (.len (.var 0)))))), (.v (.one (.z (.int .i64 (.ar .rem .i64 (.wr .i64 (.var 1)) (.len (.var 0))))))), (.v (.one (.z .any))), (.v (.one (.z (.ext [(.int .i64), (.int .i64), (.int .i64), (.int .i64), (.int .i64), (.sl [(.int .i64), (.int .i64)]), (.int .i64), (.int .i64), (.sl [(.int .i64), (.int .i64), (.int .i64), (.int .i64), (.int .i64), (.int .i64)])] (.var 0) false)))), (.v (.agg [(.z (.int .i64 (.var 2))), (.z (.int .i64 (.var 3)))])), (.v (.one (.z (.int .i64 (.var 4))))), (.v (.one (.z (.int .i64 (.var 5))))), (.v (.one (.z (.int .i64 (.var 6))))), (.v (.one (.z .any))), (.v (.agg [(.z (.int .i64 (.var 2))), (.z (.int .i64 (.var 3))), (.z (.int .i64 (.var 4))), (.z (.int .i64 (.var 5))), (.z (.int .i64 (.var 6))), (.z (.own 3 (.lit 0)))])), (.v (.one (.z (.int .i64 (.lit 0))))), (.v (.one (.z .any))), (.v (.one (.z (.sl 5 0 0 (some 0))))), (.v (.one (.z (.ext [(.int .i64), (.int .i64), (.int .i64), (.int .i64), (.int .i64), (.sl [(.int .i64), (.int .i64)]), (.int .i64), (.int .i64), (.sl [(.int .i64), (.int .i64), (.int .i64), (.int .i64), (.int .i64), (.int .i64)])] (.var 0) false)))), (.v (.one (.z (.int .i64 (.ar .rem .i64 (.wr .i64 (.var 1)) (.len (.var 0))))))), (.v (.one (.z (.ext [(.int .i64), (.int .i64), (.int .i64), (.int .i64), (.int .i64), (.sl [(.int .i64), (.int .i64)]), (.int .i64), (.int .i64), (.sl [(.int .i64), (.int .i64), (.int .i64), (.int .i64), (.int .i64), (.int .i64)])] (.sub (.var 0) (.lit 0) (.ar .rem .i64 (.wr .i64 (.var 1)) (.len (.var 0)))) false)))), (.v (.one (.z (.own 6 (.lit 0))))), (.v (.one (.z (.ext [(.int .i64), (.int .i64), (.int .i64), (.int .i64), (.int .i64), (.sl [(.int .i64), (.int .i64)]), (.int .i64), (.int .i64), (.sl [(.int .i64), (.int .i64), (.int .i64), (.int .i64), (.int .i64), (.int .i64)])] (.var 0) false)))), (.v (.one (.z (.int .i64 (.ar .rem .i64 (.wr .i64 (.var 1)) (.len (.var 0))))))), (.v (.one (.z (.int .i64 (.ar .add .i64 (.ar .rem .i64 (.wr .i64 (.var 1)) (.len (.var 0))) (.lit 1)))))), (.v (.one (.z (.ext [(.int .i64), (.int .i64), (.int .i64), (.int .i64), (.int .i64), (.sl [(.int .i64), (.int .i64)]), (.int .i64), (.int .i64), (.sl [(.int .i64), (.int .i64), (.int .i64), (.int .i64), (.int .i64), (.int .i64)])] (.sub (.var 0) (.ar .add .i64 (.ar .rem .i64 (.wr .i64 (.var 1)) (.len (.var 0))) (.lit 1)) (.len (.var 0))) false)))), (.v (.one (.z (.own 6 (.lit 1))))), (.v (.agg [(.z (.int .i64 (.var 2))), (.z (.int .i64 (.var 3)))])), (.v (.one (.z (.int .i64 (.var 4))))), (.v (.one (.z (.int .i64 (.var 5))))), (.v (.one (.z (.int .i64 (.var 6))))), (.v (.one (.z .any))), (.v (.agg [(.z (.int .i64 (.var 2))), (.z (.int .i64 (.var 3))), (.z (.int .i64 (.var 4))), (.z (.int .i64 (.var 5))), (.z (.int .i64 (.var 6))), (.z (.own 7 (.lit 0)))])), (.v (.one (.z (.int .i64 (.lit 0))))), (.v (.one (.z (.int .i64 (.lit 0))))), (.v (.one (.z (.bool (.lit false)))))] (List.append (List.replicate 5 V.any) (List.append [(.v (.one (.z (.int .i64 (.lit 0))))), (.v (.one (.z (.bool (.lit false))))), (.v (.one (.z (.bool (.lit false))))), (.v (.one (.z (.ptr 4 5)))), (.v (.one (.z (.own 3 (.lit 0))))), (.v (.one (.z (.int .i64 (.len (.fn 6 (.x (.var 0) (.i (.var 2) (.i (.var 3) (.i (.var 4) (.i (.var 5) (.i (.var 6) .nil)))))))))))), (.v (.one (.z (.ptr 8 5)))), (.v (.one (.z (.own 7 (.lit 0))))), (.v (.one (.z (.int .i64 (.len (.fn 6 (.x (.app (.sub (.var 0) (.lit 0) (.ar .rem .i64 (.wr .i64 (.var 1)) (.len (.var 0)))) (.sub (.var 0) (.ar .add .i64 (.ar .rem .i64 (.wr .i64 (.var 1)) (.len (.var 0))) (.lit 1)) (.len (.var 0)))) (.i (.var 2) (.i (.var 3) (.i (.var 4) (.i (.var 5) (.i (.var 6) .nil)))))))))))), (.v (.one (.z (.bool (.cmp .neq (.len (.fn 6 (.x (.var 0) (.i (.var 2) (.i (.var 3) (.i (.var 4) (.i (.var 5) (.i (.var 6) .nil)))))))) (.len (.fn 6 (.x (.app (.sub (.var 0) (.lit 0) (.ar .rem .i64 (.wr .i64 (.var 1)) (.len (.var 0)))) (.sub (.var 0) (.ar .add .i64 (.ar .rem .i64 (.wr .i64 (.var 1)) (.len (.var 0))) (.lit 1)) (.len (.var 0)))) (.i (.var 2) (.i (.var 3) (.i (.var 4) (.i (.var 5) (.i (.var 6) .nil))))))))))))), (.v (.one (.z (.bool (.cmp .neq (.len (.fn 6 (.x (.var 0) (.i (.var 2) (.i (.var 3) (.i (.var 4) (.i (.var 5) (.i (.var 6) .nil)))))))) (.len (.fn 6 (.x (.app (.sub (.var 0) (.lit 0) (.ar .rem .i64 (.wr .i64 (.var 1)) (.len (.var 0)))) (.sub (.var 0) (.ar .add .i64 (.ar .rem .i64 (.wr .i64 (.var 1)) (.len (.var 0))) (.lit 1)) (.len (.var 0)))) (.i (.var 2) (.i (.var 3) (.i (.var 4) (.i (.var 5) (.i (.var 6) .nil)))))))))))))] (List.replicate 111 V.any)))))))), [(8, (.cells 26 [(.z (.int .i64 (.var 2))), (.z (.int .i64 (.var 3))), (.z (.int .i64 (.var 4))), (.z (.int .i64 (.var 5))), (.z (.int .i64 (.var 6))), (.z (.own 7 (.lit 0)))])), (7, (.own 3 [(.int .i64)] (.fn 6 (.x (.app (.sub (.var 0) (.lit 0) (.ar .rem .i64 (.wr .i64 (.var 1)) (.len (.var 0)))) (.sub (.var 0) (.ar .add .i64 (.ar .rem .i64 (.wr .i64 (.var 1)) (.len (.var 0))) (.lit 1)) (.len (.var 0)))) (.i (.var 2) (.i (.var 3) (.i (.var 4) (.i (.var 5) (.i (.var 6) .nil))))))) (.lit 0))), (6, (.own 69 [(.int .i64), (.int .i64), (.int .i64), (.int .i64), (.int .i64), (.sl [(.int .i64), (.int .i64)]), (.int .i64), (.int .i64), (.sl [(.int .i64), (.int .i64), (.int .i64), (.int .i64), (.int .i64), (.int .i64)])] (.app (.sub (.var 0) (.lit 0) (.ar .rem .i64 (.wr .i64 (.var 1)) (.len (.var 0)))) (.sub (.var 0) (.ar .add .i64 (.ar .rem .i64 (.wr .i64 (.var 1)) (.len (.var 0))) (.lit 1)) (.len (.var 0)))) (.lit 1))), (5, (.cells 69 [])), (4, (.cells 26 [(.z (.int .i64 (.var 2))), (.z (.int .i64 (.var 3))), (.z (.int .i64 (.var 4))), (.z (.int .i64 (.var 5))), (.z (.int .i64 (.var 6))), (.z (.own 3 (.lit 0)))])), (3, (.own 3 [(.int .i64)] (.fn 6 (.x (.var 0) (.i (.var 2) (.i (.var 3) (.i (.var 4) (.i (.var 5) (.i (.var 6) .nil))))))) (.lit 0))), (2, (.cells 47 [(.z (.int .i64 (.var 12))), (.z (.int .i64 (.var 13))), (.z (.int .i64 (.var 14))), (.z (.int .i64 (.var 15)))])), (1, (.cells 47 [(.z (.int .i64 (.var 8))), (.z (.int .i64 (.var 9))), (.z (.int .i64 (.var 10))), (.z (.int .i64 (.var 11)))])), (0, (.cells 23 [(.z (.int .i64 (.var 2))), (.z (.int .i64 (.var 3)))]))], 10, []⟩)]
def trMore_j : List (FuncId × Nat × Nat × St) := [
]
set_option maxRecDepth 100000 in
theorem trMore_is : T.norm 0 (call Try.prog ctGg ⟨Lt.un (Lt.of []), trMore_h, trMore_j⟩ 200 7 (symArgs 0 [feats, u8S, pt, it, it, it, it, bx, bx]) [] 0) TT.ret = trMore := by kernel_rfl
theorem trMore_low : trMore.low 1000 = true := by kernel_rfl
end Go.Proofs.Ytcjaembdcfppfaa
/- Chapter 11: the law GridMore. -/
namespace Go.Proofs.Ytcjaembdcfppfaa
open Go.RowKit
theorem mkR_eq (x y s w h : Int) (r : Rows) : mkR [.l r, .i x, .i y, .i s, .i w, .i h] = if mkO [.l r, .i x, .i y, .i s, .i w, .i h] = true then rowsI (mkL r x y s w.toNat (w.toNat * h.toNat)) else [] := rfl
theorem mkO_eq (x y s w h : Int) (r : Rows) : mkO [.l r, .i x, .i y, .i s, .i w, .i h] = (decide (frP x y s w h) && listB r) := rfl
theorem lsE_eq (x y s w h a b c d : Int) (r : Rows) : lsE [.i x, .i y, .i s, .i w, .i h, .l r, .i a, .i b, .i c, .i d] = if (gvB x y s w h r && boxB a b c d) = true then (if decide (x ≤ a ∧ b ≤ x + w * s ∧ y ≤ c ∧ d ≤ y + h * s) = true then 0 else 3) else 1 := rfl
theorem lsR_eq (x y s w h a b c d : Int) (r : Rows) : lsR [.i x, .i y, .i s, .i w, .i h, .l r, .i a, .i b, .i c, .i d] = if lsE [.i x, .i y, .i s, .i w, .i h, .l r, .i a, .i b, .i c, .i d] = 0 then lsN x y s w.toNat (cellsI r) a b c d (w.toNat * h.toNat) else 0 := rfl
theorem coR_eq (x y s w h k : Int) (r : Rows) : coR [.i x, .i y, .i s, .i w, .i h, .l r, .i k] = if coO [.i x, .i y, .i s, .i w, .i h, .l r, .i k] = true then rowsI (coN w.toNat h.toNat k.toNat (cellsI r) (w.toNat * h.toNat)) else [] := rfl
theorem leq_t {a b : Int} (h : a ≤ b) : Value.bool (cmpEv .leq a b) = Value.bool true := by simp [cmpEv, h]
theorem lsE_ok {x y s w h a b c d : Int} {r : Rows} (q : lsE [.i x, .i y, .i s, .i w, .i h, .l r, .i a, .i b, .i c, .i d] = 0) : gvB x y s w h r = true ∧ boxB a b c d = true ∧ x ≤ a ∧ b ≤ x + w * s ∧ y ≤ c ∧ d ≤ y + h * s := by
  rw [lsE_eq] at q
  by_cases g : (gvB x y s w h r && boxB a b c d) = true
  · rw [if_pos g] at q
    obtain ⟨g1, g2⟩ := Bool.and_eq_true_iff.1 g
    by_cases e : x ≤ a ∧ b ≤ x + w * s ∧ y ≤ c ∧ d ≤ y + h * s
    · exact ⟨g1, g2, e⟩
    · rw [if_neg (by rw [decide_eq_true_eq]; exact e)] at q
      omega
  · rw [if_neg g] at q
    omega
theorem co_least {x y s a b c d : Int} {W H k : Nat} {l : List Int} (hc : coO [.i x, .i y, .i s, .i W, .i H, .l (rowsI l), .i k] = true) (hq : lsE [.i x, .i y, .i s, .i W, .i H, .l (rowsI l), .i a, .i b, .i c, .i d] = 0) :
    (k : Int) * s ≤ 100000 ∧ 1 ≤ k ∧ 1 ≤ s ∧ k ≤ 64 ∧ lsE [.i x, .i y, .i ((k : Int) * s), .i ((W / k : Nat) : Int), .i ((H / k : Nat) : Int), .l (coR [.i x, .i y, .i s, .i W, .i H, .l (rowsI l), .i k]), .i a, .i b, .i c, .i d] = 0 ∧
    lsR [.i x, .i y, .i ((k : Int) * s), .i ((W / k : Nat) : Int), .i ((H / k : Nat) : Int), .l (coR [.i x, .i y, .i s, .i W, .i H, .l (rowsI l), .i k]), .i a, .i b, .i c, .i d] ≤ lsR [.i x, .i y, .i s, .i W, .i H, .l (rowsI l), .i a, .i b, .i c, .i d] := by
  obtain ⟨hg, hb, hin⟩ := lsE_ok hq
  have hcr := coR_eq x y s W H k (rowsI l)
  rw [if_pos hc] at hcr
  rw [coO_eq] at hc
  have hc := of_decide_eq_true (Bool.and_eq_true_iff.1 hc).2
  obtain ⟨hf, hl, hcell⟩ := gv_facts hg
  have hf' := hf
  unfold frP at hf
  rw [rowsI_len] at hl hcell
  rw [cells_rows] at hcell hcr
  have hn : l.length = W * H := by
    have : (l.length : Int) = ((W * H : Nat) : Int) := by rw [hl]; simp
    omega
  rw [hn] at hcell
  simp only [Int.toNat_natCast] at hcr
  have hk : 0 < k := by omega
  have hw : 0 < W := by omega
  have hh : 0 < H := by omega
  have dW : k ∣ W := by
    have e : (W : Int).tmod k = ((W % k : Nat) : Int) := rfl
    rw [e] at hc
    exact Nat.dvd_of_mod_eq_zero (by omega)
  have dH : k ∣ H := by
    have e : (H : Int).tmod k = ((H % k : Nat) : Int) := rfl
    rw [e] at hc
    exact Nat.dvd_of_mod_eq_zero (by omega)
  obtain ⟨f1, f2, f3⟩ := coN_at hk dW dH hw hcell (W * H) (Nat.le_refl _)
  have fl := coN_len W H k l (W * H)
  have eW : ((W / k : Nat) : Int) * ((k : Int) * s) = (W : Int) * s := by rw [← Int.mul_assoc, ← Int.natCast_mul, Nat.div_mul_cancel dW]
  have eH : ((H / k : Nat) : Int) * ((k : Int) * s) = (H : Int) * s := by rw [← Int.mul_assoc, ← Int.natCast_mul, Nat.div_mul_cancel dH]
  have w1 : 0 < W / k := Nat.div_pos (Nat.le_of_dvd hw dW) hk
  have w2 : W / k ≤ W := Nat.div_le_self _ _
  have h1 : 0 < H / k := Nat.div_pos (Nat.le_of_dvd hh dH) hk
  have h2 : H / k ≤ H := Nat.div_le_self _ _
  have p1 := prod_in (a := (k : Int)) (b := s) (m := 64) (n := 100000) (by omega) (by omega) (by omega) (by omega)
  have hfc : frP x y ((k : Int) * s) ((W / k : Nat) : Int) ((H / k : Nat) : Int) := by
    unfold frP
    rw [eW, eH]
    generalize W / k = W' at *
    generalize H / k = H' at *
    omega
  have hgc : gvB x y ((k : Int) * s) ((W / k : Nat) : Int) ((H / k : Nat) : Int) (rowsI (coN W H k l (W * H))) = true :=
    gv_rowsI hfc (by rw [fl, Int.natCast_mul]) (fun i hi => f1 i (by rw [fl] at hi; exact hi))
  have hE : lsE [.i x, .i y, .i ((k : Int) * s), .i ((W / k : Nat) : Int), .i ((H / k : Nat) : Int), .l (rowsI (coN W H k l (W * H))), .i a, .i b, .i c, .i d] = 0 := by
    rw [lsE_eq, if_pos (by rw [hgc, hb]; rfl), eW, eH, if_pos (decide_eq_true hin)]
  rw [hcr]
  refine ⟨by omega, by omega, by omega, by omega, hE, ?_⟩
  rw [lsR_eq, lsR_eq, if_pos hE, if_pos hq, cells_rows, cells_rows]
  simp only [Int.toNat_natCast]
  exact coarse_least (by omega) hk dW dH hw hcell
theorem KGgb190 (W : World) (ds l : List D) : (envOf KGg W ds).fb 190 l = coO l := by simp only [envOf, KGg]
theorem KGgb191 (W : World) (ds l : List D) : (envOf KGg W ds).fb 191 l = mkO l := by simp only [envOf, KGg]
theorem KGgi192 (W : World) (ds l : List D) : (envOf KGg W ds).fi 192 l = lsR l := by simp only [envOf, KGg]
theorem KGgi193 (W : World) (ds l : List D) : (envOf KGg W ds).fi 193 l = lsE l := by simp only [envOf, KGg]
theorem KGgd5 (W : World) (ds l : List D) : (envOf KGg W ds).fd 5 l = coR l := by simp only [envOf, KGg]
theorem KGgd6 (W : World) (ds l : List D) : (envOf KGg W ds).fd 6 l = mkR l := by simp only [envOf, KGg]
set_option maxRecDepth 100000 in
set_option maxHeartbeats 8000000 in
theorem gMoreLaw : GivesIf Try.prog 7 [feats, u8S, pt, it, it, it, it, bx, bx] (fun ds => 0 ≤ iAt ds 1 ∧ iAt ds 1 ≤ 255) (fun _ => .bool true) := by
  refine fn_gives KGg (by kernel_rfl) (fun ρ h => ctGg_ok (Sees.of h 200) (SeesD.of h 7)) (by kernel_rfl) trMore_is trMore_low (by decide) (fun W0 vals ds hr hok => ?_)
  clear hr
  simp only [trMore, TT.sat_ret, TT.sat_ite, TT.sat_ob, TT.sat_next, TT.sat_stuck, put_i, put_b, put_d, put_fi, put_fb, put_fd, Ob.ok, B.ev, E.ev, X.ev, AL.ev, cmp_t, cmp_f, arEv, V.plain, V2.plain, S.plain, S0.plain, V.val, V2.val, S.val, S0.val, bV, iV, List.all_cons, List.all_nil, Bool.and_true, Bool.and_self, envOf_i, envOf_b, envOf_d, List.map_cons, List.map_nil, true_and, Bool.not_eq_true', Bool.not_eq_false', Bool.not_not, Bool.and_eq_true, and_f, cell_lg, cell_lb, cell_lr, cmpP, val_i, val_b, val_d, aget, Nat.reduceBEq, beq_self_eq_true, Bool.false_eq_true, if_true, if_false, Nat.reduceLT, Nat.reduceSub, Nat.sub_self, Nat.lt_irrefl, KGgb190, KGgb191, KGgi192, KGgi193, KGgd5, KGgd6]
  generalize e0 : rAt ds 0 = r at *
  generalize e1 : iAt ds 1 = u at *
  generalize e2 : iAt ds 2 = x at *
  generalize e3 : iAt ds 3 = y at *
  generalize e4 : iAt ds 4 = s at *
  generalize e5 : iAt ds 5 = w at *
  generalize e6 : iAt ds 6 = h at *
  generalize e7 : iAt ds 7 = k at *
  generalize e8 : iAt ds 8 = a1 at *
  generalize e9 : iAt ds 9 = a2 at *
  generalize e10 : iAt ds 10 = a3 at *
  generalize e11 : iAt ds 11 = a4 at *
  generalize e12 : iAt ds 12 = b1 at *
  generalize e13 : iAt ds 13 = b2 at *
  generalize e14 : iAt ds 14 = b3 at *
  generalize e15 : iAt ds 15 = b4 at *
  obtain ⟨u0, u1⟩ := hok
  obtain ⟨u, rfl⟩ := Int.eq_ofNat_of_zero_le u0
  by_cases hl8 : r.length ≤ 8
  · by_cases hl0 : r.length = 0
    · simp [hl0]
    · have eu : (IntKind.i64.wrap (u : Int)).tmod ((r.length : Nat) : Int) = ((u % r.length : Nat) : Int) := by rw [wrap_nat (by omega)]; rfl
      have hu := Nat.mod_lt u (show 0 < r.length by omega)
      rw [eu]
      generalize u % r.length = f at *
      have ef : IntKind.i64.wrap ((f : Int) + 1) = ((f + 1 : Nat) : Int) := by rw [wrap_in _ (by omega) (by omega)]; omega
      rw [ef]
      have l1 := mo_len (r := r) (a := 0) (b := f) (by omega)
      have l2 := mo_len (r := r) (a := f + 1) (b := r.length) (by omega)
      have e00 : ((0 : Nat) : Int) = 0 := rfl
      rw [e00] at l1
      have hlen : (subR r 0 (f : Int) ++ subR r ((f + 1 : Nat) : Int) (r.length : Int)).length = r.length - 1 := by rw [List.length_append, l1, l2]; omega
      rw [hlen, l1]
      have q0 : (r.length : Int) ≠ 0 := by omega
      have q1 : (0 : Int) ≤ (f : Int) := by omega
      have q2 : (f : Int) ≤ (r.length : Int) := by omega
      have q3 : ((f - 0 : Nat) : Int) ≤ 1000000 := by omega
      have q4 : (0 : Int) ≤ ((f + 1 : Nat) : Int) := by omega
      have q5 : ((f + 1 : Nat) : Int) ≤ (r.length : Int) := by omega
      have q6 : ((r.length - 1 : Nat) : Int) ≤ 1000000 := by omega
      by_cases M1 : mkO [.l r, .i x, .i y, .i s, .i w, .i h] = true
      · have hf := M1
        rw [mkO_eq] at hf
        obtain ⟨hfr, hlb⟩ := Bool.and_eq_true_iff.1 hf
        obtain ⟨but1, but2⟩ := mo_but hlb hu
        rw [e00] at but1 but2
        have M2 : mkO [.l (subR r 0 (f : Int) ++ subR r ((f + 1 : Nat) : Int) (r.length : Int)), .i x, .i y, .i s, .i w, .i h] = true := by rw [mkO_eq, hfr, but1]; rfl
        have R1 := mkR_eq x y s w h r
        rw [if_pos M1] at R1
        have R2 := mkR_eq x y s w h (subR r 0 (f : Int) ++ subR r ((f + 1 : Nat) : Int) (r.length : Int))
        rw [if_pos M2] at R2
        have hfr := of_decide_eq_true hfr
        unfold frP at hfr
        obtain ⟨W, rfl⟩ := Int.eq_ofNat_of_zero_le (a := w) (by omega)
        obtain ⟨H, rfl⟩ := Int.eq_ofNat_of_zero_le (a := h) (by omega)
        simp only [Int.toNat_natCast] at R1 R2
        have hWH : W * H ≤ 64 * 64 := Nat.mul_le_mul (by omega) (by omega)
        have G1 := mkL_len r x y s W (W * H)
        have G2 := mkL_len (subR r 0 (f : Int) ++ subR r ((f + 1 : Nat) : Int) (r.length : Int)) x y s W (W * H)
        have cel : ∀ c, c < W * H → Grid.at_ (mkL r x y s W (W * H)) c ≤ Grid.at_ (mkL (subR r 0 (f : Int) ++ subR r ((f + 1 : Nat) : Int) (r.length : Int)) x y s W (W * H)) c := fun c hc => by
          rw [at_mkL hc, at_mkL hc]
          exact but2 _
        generalize hrr : subR r 0 (f : Int) ++ subR r ((f + 1 : Nat) : Int) (r.length : Int) = r' at *
        generalize mkL r x y s W (W * H) = A at *
        generalize mkL r' x y s W (W * H) = A' at *
        simp only [M1, M2, R1, R2, rowsI_len, G1, G2]
        refine ⟨fun _ => ⟨fun _ => ⟨fun _ => trivial, fun _ => ⟨fun q => trivial, fun _ => ⟨q0, fun _ => ⟨q1, q2, q3, q4, q5, q6, fun _ => ⟨fun q => absurd rfl q, fun _ => ?_⟩, fun q => by cases q⟩, fun q => by cases q⟩⟩⟩, fun _ => trivial⟩, fun _ => trivial⟩
        refine TT.sat_loop (fun v => ∃ c : Nat, v.i 1 = c ∧ c ≤ W * H ∧ v.b 0 = true) (fun v => W * H - (v.i 1).toNat)
          ⟨0, by simp [val_i, aget, E.ev], by omega, by simp [val_b, aget, B.ev]⟩ (fun v hv => ?_)
        obtain ⟨c, c0, c1, c2⟩ := hv
        simp only [TT.sat_ret, TT.sat_ite, TT.sat_ob, TT.sat_next, TT.sat_stuck, put_i, put_b, put_d, put_fi, put_fb, put_fd, Ob.ok, B.ev, E.ev, X.ev, AL.ev, cmp_t, cmp_f, arEv, V.plain, V2.plain, S.plain, S0.plain, V.val, V2.val, S.val, S0.val, bV, iV, List.all_cons, List.all_nil, Bool.and_true, Bool.and_self, envOf_i, envOf_b, envOf_d, List.map_cons, List.map_nil, true_and, Bool.not_eq_true', Bool.not_eq_false', Bool.not_not, Bool.and_eq_true, and_f, cell_lg, cell_lb, cell_lr, cmpP, val_i, val_b, val_d, aget, Nat.reduceBEq, beq_self_eq_true, Bool.false_eq_true, if_true, if_false, Nat.reduceLT, Nat.reduceSub, Nat.sub_self, Nat.lt_irrefl, c0, c2, e0, e1, e2, e3, e4, e5, e6, e7, e8, e9, e10, e11, e12, e13, e14, e15, KGgb190, KGgb191, KGgi192, KGgi193, KGgd5, KGgd6, eu, ef, hrr, R1, R2, rowsI_len, G1, G2]
        refine ⟨fun hc => ⟨fun _ => ?_, fun q => by cases q⟩, fun hc => ?_⟩
        · have hcl : c < W * H := by omega
          have ew : IntKind.i64.wrap ((c : Int) + 1) = ((c + 1 : Nat) : Int) := by rw [wrap_in _ (by omega) (by omega)]; omega
          rw [ew, lg_rowsI (by omega), lg_rowsI (by omega)]
          refine ⟨by omega, by omega, by omega, by omega, ⟨c + 1, rfl, by omega, ?_⟩, by rw [Int.toNat_natCast, Int.toNat_natCast]; omega⟩
          have := cel c hcl
          simp [cmpEv, this]
        · have F1 : lsE [.i x, .i y, .i s, .i W, .i H, .l (rowsI A), .i a1, .i a2, .i a3, .i a4] = 0 → lsE [.i x, .i y, .i s, .i W, .i H, .l (rowsI A), .i b1, .i b2, .i b3, .i b4] = 0 → (a1 ≤ b1 ∧ b2 ≤ a2 ∧ a3 ≤ b3 ∧ b4 ≤ a4) →
              lsR [.i x, .i y, .i s, .i W, .i H, .l (rowsI A), .i a1, .i a2, .i a3, .i a4] ≤ lsR [.i x, .i y, .i s, .i W, .i H, .l (rowsI A), .i b1, .i b2, .i b3, .i b4] := fun g1 g2 g3 => by
            rw [lsR_eq, lsR_eq, if_pos g1, if_pos g2]
            exact ls_great g3 _
          by_cases C : coO [.i x, .i y, .i s, .i W, .i H, .l (rowsI A), .i k] = true
          · have hc := C
            rw [coO_eq] at hc
            have hgv := (Bool.and_eq_true_iff.1 hc).1
            have hc := of_decide_eq_true (Bool.and_eq_true_iff.1 hc).2
            obtain ⟨K, rfl⟩ := Int.eq_ofNat_of_zero_le (a := k) (by omega)
            have p1 := prod_in (a := (K : Int)) (b := s) (m := 64) (n := 100000) (by omega) (by omega) (by omega) (by omega)
            have w1 : IntKind.i64.wrap ((K : Int) * s) = (K : Int) * s := wrap_in _ (by omega) (by omega)
            have w2 : IntKind.i64.wrap ((W : Int).tdiv K) = ((W / K : Nat) : Int) := wrap_nat (Nat.le_trans (Nat.div_le_self _ _) (by omega))
            have w3 : IntKind.i64.wrap ((H : Int).tdiv K) = ((H / K : Nat) : Int) := wrap_nat (Nat.le_trans (Nat.div_le_self _ _) (by omega))
            have F2 := fun hq => (co_least (a := a1) (b := a2) (c := a3) (d := a4) C hq).2.2.2.2
            simp only [w1, w2, w3, C]
            generalize lsE [.i x, .i y, .i s, .i W, .i H, .l (rowsI A), .i a1, .i a2, .i a3, .i a4] = Ea at *
            generalize lsE [.i x, .i y, .i s, .i W, .i H, .l (rowsI A), .i b1, .i b2, .i b3, .i b4] = Eb at *
            generalize lsR [.i x, .i y, .i s, .i W, .i H, .l (rowsI A), .i a1, .i a2, .i a3, .i a4] = Ra at *
            generalize lsR [.i x, .i y, .i s, .i W, .i H, .l (rowsI A), .i b1, .i b2, .i b3, .i b4] = Rb at *
            generalize lsE [.i x, .i y, .i ((K : Int) * s), .i ((W / K : Nat) : Int), .i ((H / K : Nat) : Int), .l (coR [.i x, .i y, .i s, .i W, .i H, .l (rowsI A), .i K]), .i a1, .i a2, .i a3, .i a4] = Ec at *
            generalize lsR [.i x, .i y, .i ((K : Int) * s), .i ((W / K : Nat) : Int), .i ((H / K : Nat) : Int), .l (coR [.i x, .i y, .i s, .i W, .i H, .l (rowsI A), .i K]), .i a1, .i a2, .i a3, .i a4] = Rc at *
            clear hgv w1 w2 w3 C cel R1 R2 G1 G2
            repeat' (first | (with_reducible intro _) | (with_reducible refine And.intro ?_ ?_))
            all_goals first | exact True.intro | exact rfl | (exact leq_t (by omega)) | (exfalso; omega) | (exact absurd (show true = false by assumption) (by decide))
          · simp only [Bool.not_eq_true] at C
            simp only [C]
            generalize lsE [.i x, .i y, .i s, .i W, .i H, .l (rowsI A), .i a1, .i a2, .i a3, .i a4] = Ea at *
            generalize lsE [.i x, .i y, .i s, .i W, .i H, .l (rowsI A), .i b1, .i b2, .i b3, .i b4] = Eb at *
            generalize lsR [.i x, .i y, .i s, .i W, .i H, .l (rowsI A), .i a1, .i a2, .i a3, .i a4] = Ra at *
            generalize lsR [.i x, .i y, .i s, .i W, .i H, .l (rowsI A), .i b1, .i b2, .i b3, .i b4] = Rb at *
            clear C cel R1 R2 G1 G2
            repeat' (first | (with_reducible intro _) | (with_reducible refine And.intro ?_ ?_))
            all_goals first | exact True.intro | exact rfl | (exact leq_t (by omega)) | (exfalso; omega) | (exact absurd (show true = false by assumption) (by decide)) | (exact absurd (show false = true by assumption) (by decide))
      · simp only [Bool.not_eq_true] at M1
        simp only [M1]
        refine ⟨fun _ => ⟨fun _ => ⟨fun _ => trivial, fun _ => ⟨fun _ => trivial, fun _ => ⟨q0, (fun q => by cases q), fun _ => ?_⟩⟩⟩, fun _ => trivial⟩, fun _ => trivial⟩
        exact ⟨q1, q2, q3, q4, q5, q6, fun _ => trivial, fun _ => trivial⟩
  · simp [show ¬ ((r.length : Int) ≤ 8) by omega]
end Go.Proofs.Ytcjaembdcfppfaa
