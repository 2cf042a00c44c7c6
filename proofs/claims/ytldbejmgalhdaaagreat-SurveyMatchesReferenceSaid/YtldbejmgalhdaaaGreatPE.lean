/- PE, merged: TQ9, TYc, Ye9, Q9. -/
import Derived.Test.YtldbejmgalhdaaaGreatPD
import Derived.Test.YtldbejmgalhdaaaGreatLJoi
import Derived.Test.YtldbejmgalhdaaaGreatPC
set_option linter.unusedSimpArgs false
set_option linter.unusedVariables false
namespace Go.Proofs.YtldbejmgalhdaaaGreat
open Go.RowKit
def a7E:TT j6:=
(.ite (.cmp .leq (.len (.var 0)) (.lit 16))
 (.ite (.not (.cmp .leq (.len (.var 1)) (.lit 12)))
 (.ret ((.v (.one (.z (.bool (.lit true))))),[],4))
 (.ite (.cmp .leq (.len (.var 2)) (.lit 16))
 (.ite (.not (.cmp .leq (.len (.var 3)) (.lit 12)))
 (.ret ((.v (.one (.z (.bool (.lit true))))),[],5))
 (.ob (.tru (.fn 190 (.x (.fn 1 (.x (.var 0) (.x (.var 1) .nil))) (.x (.fn 1 (.x (.var 0) (.x (.var 1) .nil))) .nil))))
 (.ob (.tru (.fn 190 (.x (.fn 2 (.x (.var 0) (.x (.var 1) .nil))) (.x (.fn 2 (.x (.var 0) (.x (.var 1) .nil))) .nil))))
 (.ob (.tru (.fn 190 (.x (.fn 3 (.x (.var 0) (.x (.var 1) .nil))) (.x (.fn 3 (.x (.var 0) (.x (.var 1) .nil))) .nil))))
 (.ite (.not (.fn 150 (.x (.var 0) (.x (.var 1) .nil))))
 (.ob (.tru (.fn 210 (.x (.fn 5 (.x (.var 0) (.x (.var 1) (.x (.var 2) (.x (.var 3) .nil))))) (.x (.fn 6 (.x (.var 0) (.x (.var 1) (.x (.var 2) (.x (.var 3) .nil))))) (.x .nil (.x .nil .nil))))))
 (.ret ((.v (.one (.z (.bool (.cmp .eql (.fn 210 (.x (.var 0) (.x (.var 1) (.x (.var 2) (.x (.var 3) .nil))))) (.lit 1)))))),[],18)))
 (.ite (.not (.fn 150 (.x (.var 2) (.x (.var 3) .nil))))
 (.ob (.tru (.fn 210 (.x (.fn 5 (.x (.var 0) (.x (.var 1) (.x (.var 2) (.x (.var 3) .nil))))) (.x (.fn 6 (.x (.var 0) (.x (.var 1) (.x (.var 2) (.x (.var 3) .nil))))) (.x .nil (.x .nil .nil))))))
 (.ret ((.v (.one (.z (.bool (.cmp .eql (.fn 210 (.x (.var 0) (.x (.var 1) (.x (.var 2) (.x (.var 3) .nil))))) (.lit 1)))))),[],18)))
 (.ob (.tru (.fn 231 (.x (.var 0) (.x (.var 1) (.x (.var 2) (.x (.var 3) .nil))))))
 (.ite (.fn 230 (.x (.var 0) (.x (.var 1) (.x (.var 2) (.x (.var 3) .nil)))))
 (.ob (.tru (.fn 210 (.x (.fn 5 (.x (.var 0) (.x (.var 1) (.x (.var 2) (.x (.var 3) .nil))))) (.x (.fn 6 (.x (.var 0) (.x (.var 1) (.x (.var 2) (.x (.var 3) .nil))))) (.x .nil (.x .nil .nil))))))
 (.ret ((.v (.one (.z (.bool (.cmp .eql (.fn 210 (.x (.var 0) (.x (.var 1) (.x (.var 2) (.x (.var 3) .nil))))) (.lit 18)))))),[],18)))
 (.ite (.cmp .lss (.lit 0) (.len (.var 2)))
 (.ob (.tru (.lit true))
 (.ob (.tru (.cmp .lss (.lit 0) (.len (.var 2))))
 (.ob (.tru (.cmp .leq (.len (.var 0)) (.lit 1000)))
 (.loop 0 20000 ⟨[(0,(.lit 1)),(1,(.lit 0)),(3,(.lit 0)),(4,(.lit 1)),(5,(.lit 0)),(6,(.lit 0)),(7,(.rd (.var 2) (.lit 0) 0)),(8,(.rd (.var 2) (.lit 0) 1)),(9,(.rd (.var 2) (.lit 0) 2)),(10,(.rd (.var 2) (.lit 0) 3)),(11,(.rd (.var 2) (.lit 0) 4)),(12,(.rd (.var 2) (.lit 0) 5)),(13,(.rd (.var 2) (.lit 0) 6)),(14,(.lit 0)),(14,(.lit 0)),(14,(.lit 0))],[(2,(.cmp .lss (.lit 0) (.len (.var 2))))],[(15,(.fn 7 (.x (.var 0) (.i (.rd (.var 2) (.lit 0) 0) (.i (.rd (.var 2) (.lit 0) 1) (.i (.rd (.var 2) (.lit 0) 2) (.i (.rd (.var 2) (.lit 0) 3) (.i (.rd (.var 2) (.lit 0) 4) (.i (.rd (.var 2) (.lit 0) 5) (.i (.rd (.var 2) (.lit 0) 6) .nil))))))))))]⟩
 (.ite (.cmp .lss (.var 20000) (.len (.var 2)))
 (.ob (.tru (.cmp .leq (.lit 0) (.var 20000)))
 (.ob (.tru (.cmp .lss (.var 20000) (.len (.var 2))))
 (.ob (.tru (.cmp .leq (.len (.var 20015)) (.lit 1000)))
 (.next 0 ⟨[(0,(.ar .add .i64 (.var 20000) (.lit 1))),(1,(.var 20000)),(3,(.var 20000)),(4,(.ar .add .i64 (.var 20000) (.lit 1))),(5,(.var 20000)),(6,(.var 20000)),(7,(.rd (.var 2) (.var 20000) 0)),(8,(.rd (.var 2) (.var 20000) 1)),(9,(.rd (.var 2) (.var 20000) 2)),(10,(.rd (.var 2) (.var 20000) 3)),(11,(.rd (.var 2) (.var 20000) 4)),(12,(.rd (.var 2) (.var 20000) 5)),(13,(.rd (.var 2) (.var 20000) 6)),(14,(.plus (.var 20014) (.lit 1))),(14,(.plus (.var 20014) (.lit 1))),(14,(.plus (.var 20014) (.lit 1)))],[(2,(.cmp .lss (.var 20000) (.len (.var 2))))],[(15,(.fn 7 (.x (.var 20015) (.i (.rd (.var 2) (.var 20000) 0) (.i (.rd (.var 2) (.var 20000) 1) (.i (.rd (.var 2) (.var 20000) 2) (.i (.rd (.var 2) (.var 20000) 3) (.i (.rd (.var 2) (.var 20000) 4) (.i (.rd (.var 2) (.var 20000) 5) (.i (.rd (.var 2) (.var 20000) 6) .nil))))))))))]⟩))))
 (.ite (.cmp .lss (.lit 0) (.len (.var 3)))
 (.ob (.tru (.lit true))
 (.ob (.tru (.cmp .lss (.lit 0) (.len (.var 3))))
 (.ob (.tru (.cmp .leq (.len (.var 1)) (.lit 1000)))
 (.loop 1 22000 ⟨[(0,(.lit 1)),(1,(.lit 0)),(3,(.lit 0)),(4,(.lit 1)),(5,(.lit 0)),(6,(.lit 0)),(7,(.rd (.var 3) (.lit 0) 0)),(8,(.rd (.var 3) (.lit 0) 1)),(9,(.rd (.var 3) (.lit 0) 2)),(10,(.rd (.var 3) (.lit 0) 3)),(11,(.rd (.var 3) (.lit 0) 4)),(13,(.rd (.var 3) (.lit 0) 6)),(14,(.rd (.var 3) (.lit 0) 7)),(16,(.lit 0)),(16,(.lit 0)),(16,(.lit 0))],[(2,(.cmp .lss (.lit 0) (.len (.var 3))))],[(12,(.rd (.var 3) (.lit 0) 5)),(15,(.rd (.var 3) (.lit 0) 8)),(17,(.fn 8 (.x (.var 1) (.i (.rd (.var 3) (.lit 0) 0) (.i (.rd (.var 3) (.lit 0) 1) (.i (.rd (.var 3) (.lit 0) 2) (.i (.rd (.var 3) (.lit 0) 3) (.i (.rd (.var 3) (.lit 0) 4) (.x (.rd (.var 3) (.lit 0) 5) (.i (.rd (.var 3) (.lit 0) 6) (.i (.rd (.var 3) (.lit 0) 7) (.x (.rd (.var 3) (.lit 0) 8) .nil))))))))))))]⟩
 (.ite (.cmp .lss (.var 22000) (.len (.var 3)))
 (.ob (.tru (.cmp .leq (.lit 0) (.var 22000)))
 (.ob (.tru (.cmp .lss (.var 22000) (.len (.var 3))))
 (.ob (.tru (.cmp .leq (.len (.var 22017)) (.lit 1000)))
 (.next 1 ⟨[(0,(.ar .add .i64 (.var 22000) (.lit 1))),(1,(.var 22000)),(3,(.var 22000)),(4,(.ar .add .i64 (.var 22000) (.lit 1))),(5,(.var 22000)),(6,(.var 22000)),(7,(.rd (.var 3) (.var 22000) 0)),(8,(.rd (.var 3) (.var 22000) 1)),(9,(.rd (.var 3) (.var 22000) 2)),(10,(.rd (.var 3) (.var 22000) 3)),(11,(.rd (.var 3) (.var 22000) 4)),(13,(.rd (.var 3) (.var 22000) 6)),(14,(.rd (.var 3) (.var 22000) 7)),(16,(.plus (.var 22016) (.lit 1))),(16,(.plus (.var 22016) (.lit 1))),(16,(.plus (.var 22016) (.lit 1)))],[(2,(.cmp .lss (.var 22000) (.len (.var 3))))],[(12,(.rd (.var 3) (.var 22000) 5)),(15,(.rd (.var 3) (.var 22000) 8)),(17,(.fn 8 (.x (.var 22017) (.i (.rd (.var 3) (.var 22000) 0) (.i (.rd (.var 3) (.var 22000) 1) (.i (.rd (.var 3) (.var 22000) 2) (.i (.rd (.var 3) (.var 22000) 3) (.i (.rd (.var 3) (.var 22000) 4) (.x (.rd (.var 3) (.var 22000) 5) (.i (.rd (.var 3) (.var 22000) 6) (.i (.rd (.var 3) (.var 22000) 7) (.x (.rd (.var 3) (.var 22000) 8) .nil))))))))))))]⟩))))
 (.ite (.cmp .gtr (.ar .add .i64 (.len (.var 20015)) (.len (.var 22017))) (.lit 300))
 (.ob (.tru (.fn 210 (.x (.fn 5 (.x (.var 0) (.x (.var 1) (.x (.var 2) (.x (.var 3) .nil))))) (.x (.fn 6 (.x (.var 0) (.x (.var 1) (.x (.var 2) (.x (.var 3) .nil))))) (.x .nil (.x .nil .nil))))))
 (.ret ((.v (.one (.z (.bool (.cmp .eql (.fn 210 (.x (.var 0) (.x (.var 1) (.x (.var 2) (.x (.var 3) .nil))))) (.lit 2)))))),[],23)))
 (.ob (.tru (.fn 210 (.x (.fn 5 (.x (.var 0) (.x (.var 1) (.x (.var 2) (.x (.var 3) .nil))))) (.x (.fn 6 (.x (.var 0) (.x (.var 1) (.x (.var 2) (.x (.var 3) .nil))))) (.x (.var 20015) (.x (.var 22017) .nil))))))
 (.ret ((.v (.one (.z (.bool (.cmp .eql (.fn 210 (.x (.var 0) (.x (.var 1) (.x (.var 2) (.x (.var 3) .nil))))) (.lit 0)))))),[],23)))))))))
 (.ite (.cmp .gtr (.ar .add .i64 (.len (.var 20015)) (.len (.var 1))) (.lit 300))
 (.ob (.tru (.fn 210 (.x (.fn 5 (.x (.var 0) (.x (.var 1) (.x (.var 2) (.x (.var 3) .nil))))) (.x (.fn 6 (.x (.var 0) (.x (.var 1) (.x (.var 2) (.x (.var 3) .nil))))) (.x .nil (.x .nil .nil))))))
 (.ret ((.v (.one (.z (.bool (.cmp .eql (.fn 210 (.x (.var 0) (.x (.var 1) (.x (.var 2) (.x (.var 3) .nil))))) (.lit 2)))))),[],21)))
 (.ob (.tru (.fn 210 (.x (.fn 5 (.x (.var 0) (.x (.var 1) (.x (.var 2) (.x (.var 3) .nil))))) (.x (.fn 6 (.x (.var 0) (.x (.var 1) (.x (.var 2) (.x (.var 3) .nil))))) (.x (.var 20015) (.x (.var 1) .nil))))))
 (.ret ((.v (.one (.z (.bool (.cmp .eql (.fn 210 (.x (.var 0) (.x (.var 1) (.x (.var 2) (.x (.var 3) .nil))))) (.lit 0)))))),[],21))))))))))
 (.ite (.cmp .lss (.lit 0) (.len (.var 3)))
 (.ob (.tru (.lit true))
 (.ob (.tru (.cmp .lss (.lit 0) (.len (.var 3))))
 (.ob (.tru (.cmp .leq (.len (.var 1)) (.lit 1000)))
 (.loop 0 20000 ⟨[(0,(.lit 1)),(1,(.lit 0)),(3,(.lit 0)),(4,(.lit 1)),(5,(.lit 0)),(6,(.lit 0)),(7,(.rd (.var 3) (.lit 0) 0)),(8,(.rd (.var 3) (.lit 0) 1)),(9,(.rd (.var 3) (.lit 0) 2)),(10,(.rd (.var 3) (.lit 0) 3)),(11,(.rd (.var 3) (.lit 0) 4)),(13,(.rd (.var 3) (.lit 0) 6)),(14,(.rd (.var 3) (.lit 0) 7)),(16,(.lit 0)),(16,(.lit 0)),(16,(.lit 0))],[(2,(.cmp .lss (.lit 0) (.len (.var 3))))],[(12,(.rd (.var 3) (.lit 0) 5)),(15,(.rd (.var 3) (.lit 0) 8)),(17,(.fn 8 (.x (.var 1) (.i (.rd (.var 3) (.lit 0) 0) (.i (.rd (.var 3) (.lit 0) 1) (.i (.rd (.var 3) (.lit 0) 2) (.i (.rd (.var 3) (.lit 0) 3) (.i (.rd (.var 3) (.lit 0) 4) (.x (.rd (.var 3) (.lit 0) 5) (.i (.rd (.var 3) (.lit 0) 6) (.i (.rd (.var 3) (.lit 0) 7) (.x (.rd (.var 3) (.lit 0) 8) .nil))))))))))))]⟩
 (.ite (.cmp .lss (.var 20000) (.len (.var 3)))
 (.ob (.tru (.cmp .leq (.lit 0) (.var 20000)))
 (.ob (.tru (.cmp .lss (.var 20000) (.len (.var 3))))
 (.ob (.tru (.cmp .leq (.len (.var 20017)) (.lit 1000)))
 (.next 0 ⟨[(0,(.ar .add .i64 (.var 20000) (.lit 1))),(1,(.var 20000)),(3,(.var 20000)),(4,(.ar .add .i64 (.var 20000) (.lit 1))),(5,(.var 20000)),(6,(.var 20000)),(7,(.rd (.var 3) (.var 20000) 0)),(8,(.rd (.var 3) (.var 20000) 1)),(9,(.rd (.var 3) (.var 20000) 2)),(10,(.rd (.var 3) (.var 20000) 3)),(11,(.rd (.var 3) (.var 20000) 4)),(13,(.rd (.var 3) (.var 20000) 6)),(14,(.rd (.var 3) (.var 20000) 7)),(16,(.plus (.var 20016) (.lit 1))),(16,(.plus (.var 20016) (.lit 1))),(16,(.plus (.var 20016) (.lit 1)))],[(2,(.cmp .lss (.var 20000) (.len (.var 3))))],[(12,(.rd (.var 3) (.var 20000) 5)),(15,(.rd (.var 3) (.var 20000) 8)),(17,(.fn 8 (.x (.var 20017) (.i (.rd (.var 3) (.var 20000) 0) (.i (.rd (.var 3) (.var 20000) 1) (.i (.rd (.var 3) (.var 20000) 2) (.i (.rd (.var 3) (.var 20000) 3) (.i (.rd (.var 3) (.var 20000) 4) (.x (.rd (.var 3) (.var 20000) 5) (.i (.rd (.var 3) (.var 20000) 6) (.i (.rd (.var 3) (.var 20000) 7) (.x (.rd (.var 3) (.var 20000) 8) .nil))))))))))))]⟩))))
 (.ite (.cmp .gtr (.ar .add .i64 (.len (.var 0)) (.len (.var 20017))) (.lit 300))
 (.ob (.tru (.fn 210 (.x (.fn 5 (.x (.var 0) (.x (.var 1) (.x (.var 2) (.x (.var 3) .nil))))) (.x (.fn 6 (.x (.var 0) (.x (.var 1) (.x (.var 2) (.x (.var 3) .nil))))) (.x .nil (.x .nil .nil))))))
 (.ret ((.v (.one (.z (.bool (.cmp .eql (.fn 210 (.x (.var 0) (.x (.var 1) (.x (.var 2) (.x (.var 3) .nil))))) (.lit 2)))))),[],21)))
 (.ob (.tru (.fn 210 (.x (.fn 5 (.x (.var 0) (.x (.var 1) (.x (.var 2) (.x (.var 3) .nil))))) (.x (.fn 6 (.x (.var 0) (.x (.var 1) (.x (.var 2) (.x (.var 3) .nil))))) (.x (.var 0) (.x (.var 20017) .nil))))))
 (.ret ((.v (.one (.z (.bool (.cmp .eql (.fn 210 (.x (.var 0) (.x (.var 1) (.x (.var 2) (.x (.var 3) .nil))))) (.lit 0)))))),[],21)))))))))
 (.ite (.cmp .gtr (.ar .add .i64 (.len (.var 0)) (.len (.var 1))) (.lit 300))
 (.ob (.tru (.fn 210 (.x (.fn 5 (.x (.var 0) (.x (.var 1) (.x (.var 2) (.x (.var 3) .nil))))) (.x (.fn 6 (.x (.var 0) (.x (.var 1) (.x (.var 2) (.x (.var 3) .nil))))) (.x .nil (.x .nil .nil))))))
 (.ret ((.v (.one (.z (.bool (.cmp .eql (.fn 210 (.x (.var 0) (.x (.var 1) (.x (.var 2) (.x (.var 3) .nil))))) (.lit 2)))))),[],19)))
 (.ob (.tru (.fn 210 (.x (.fn 5 (.x (.var 0) (.x (.var 1) (.x (.var 2) (.x (.var 3) .nil))))) (.x (.fn 6 (.x (.var 0) (.x (.var 1) (.x (.var 2) (.x (.var 3) .nil))))) (.x (.var 0) (.x (.var 1) .nil))))))
 (.ret ((.v (.one (.z (.bool (.cmp .eql (.fn 210 (.x (.var 0) (.x (.var 1) (.x (.var 2) (.x (.var 3) .nil))))) (.lit 0)))))),[],19))))))))))))))
 (.ret ((.v (.one (.z (.bool (.lit true))))),[],5))))
 (.ret ((.v (.one (.z (.bool (.lit true))))),[],4)))
set_option maxRecDepth 100000 in
theorem b8A:T.norm 0 (call Tryz.prog d3D (Lt.of [(29,5000000),(3,3000000)]) 150 3 (i6 0 [o0,o0,pt,it]) [] 0) TT.ret=a7E:=by kernel_rfl
theorem b7x:a7E.low 1000=true:=by kernel_rfl
def d8f:TT j6:=
(.ite (.cmp .leq (.len (.var 0)) (.lit 16))
 (.ite (.not (.cmp .leq (.len (.var 1)) (.lit 12)))
 (.ret ((.v (.one (.z (.bool (.lit true))))),[],4))
 (.ite (.cmp .leq (.len (.var 2)) (.lit 16))
 (.ite (.not (.cmp .leq (.len (.var 3)) (.lit 12)))
 (.ret ((.v (.one (.z (.bool (.lit true))))),[],5))
 (.ite (.cmp .leq (.len (.var 4)) (.lit 16))
 (.ite (.not (.cmp .leq (.len (.var 5)) (.lit 12)))
 (.ret ((.v (.one (.z (.bool (.lit true))))),[],6))
 (.loop 0 13000 ⟨[],[(0,(.lit false))],[]⟩
 (.ite (.var 13000)
 (.ite (.cmp .neq (.fn 210 (.x (.var 0) (.x (.var 1) (.x (.var 2) (.x (.var 3) .nil))))) (.lit 0))
 (.ite (.cmp .eql (.fn 210 (.x (.var 0) (.x (.var 1) (.x (.var 2) (.x (.var 3) .nil))))) (.fn 210 (.x (.var 2) (.x (.var 3) (.x (.var 0) (.x (.var 1) .nil))))))
 (.ite (.cmp .eql (.fn 210 (.x (.var 0) (.x (.var 1) (.x (.var 2) (.x (.var 3) .nil))))) (.lit 1))
 (.ret ((.v (.one (.z (.bool (.lit true))))),[],16))
 (.ret ((.v (.one (.z (.bool (.cmp .eql (.fn 210 (.x (.var 0) (.x (.var 1) (.x (.var 2) (.x (.var 3) .nil))))) (.lit 18)))))),[],16)))
 (.ret ((.v (.one (.z (.bool (.lit false))))),[],16)))
 (.loop 1 20000 ⟨[],[(0,(.lit false))],[]⟩
 (.ite (.var 20000)
 (.loop 2 21000 ⟨[(1,(.lit 0))],[(0,(.var 20001))],[]⟩
 (.ite (.cmp .lss (.var 21001) (.len (.var 0)))
 (.ob (.tru (.cmp .leq (.lit 0) (.var 21001)))
 (.ob (.tru (.cmp .lss (.var 21001) (.len (.var 0))))
 (.ite (.var 21000)
 (.ite (.not (.fn 160 (.x (.fn 1 (.x (.fn 5 (.x (.var 0) (.x (.var 1) (.x (.var 2) (.x (.var 3) .nil))))) (.x (.fn 6 (.x (.var 0) (.x (.var 1) (.x (.var 2) (.x (.var 3) .nil))))) .nil))) (.i (.rd (.var 0) (.var 21001) 0) .nil))))
 (.next 2 ⟨[(1,(.ar .add .i64 (.var 21001) (.lit 1)))],[(0,(.lit true))],[]⟩)
 (.next 2 ⟨[(1,(.ar .add .i64 (.var 21001) (.lit 1)))],[(0,(.fn 160 (.x (.fn 1 (.x (.var 0) (.x (.var 1) .nil))) (.i (.rd (.var 0) (.var 21001) 0) .nil))))],[]⟩))
 (.next 2 ⟨[(1,(.ar .add .i64 (.var 21001) (.lit 1)))],[(0,(.lit false))],[]⟩))))
 (.loop 3 23000 ⟨[(1,(.lit 0))],[(0,(.var 21000))],[]⟩
 (.ite (.cmp .lss (.var 23001) (.len (.var 2)))
 (.ob (.tru (.cmp .leq (.lit 0) (.var 23001)))
 (.ob (.tru (.cmp .lss (.var 23001) (.len (.var 2))))
 (.ite (.var 23000)
 (.ite (.not (.fn 160 (.x (.fn 1 (.x (.fn 5 (.x (.var 0) (.x (.var 1) (.x (.var 2) (.x (.var 3) .nil))))) (.x (.fn 6 (.x (.var 0) (.x (.var 1) (.x (.var 2) (.x (.var 3) .nil))))) .nil))) (.i (.rd (.var 2) (.var 23001) 0) .nil))))
 (.next 3 ⟨[(1,(.ar .add .i64 (.var 23001) (.lit 1)))],[(0,(.lit true))],[]⟩)
 (.next 3 ⟨[(1,(.ar .add .i64 (.var 23001) (.lit 1)))],[(0,(.fn 160 (.x (.fn 1 (.x (.var 2) (.x (.var 3) .nil))) (.i (.rd (.var 2) (.var 23001) 0) .nil))))],[]⟩))
 (.next 3 ⟨[(1,(.ar .add .i64 (.var 23001) (.lit 1)))],[(0,(.lit false))],[]⟩))))
 (.ite (.cmp .eql (.fn 210 (.x (.fn 5 (.x (.var 0) (.x (.var 1) (.x (.var 2) (.x (.var 3) .nil))))) (.x (.fn 6 (.x (.var 0) (.x (.var 1) (.x (.var 2) (.x (.var 3) .nil))))) (.x (.var 4) (.x (.var 5) .nil))))) (.lit 0))
 (.ite (.not (.fn 150 (.x (.fn 5 (.x (.var 0) (.x (.var 1) (.x (.var 2) (.x (.var 3) .nil))))) (.x (.fn 6 (.x (.var 0) (.x (.var 1) (.x (.var 2) (.x (.var 3) .nil))))) .nil))))
 (.stuck "not possible")
 (.ite (.not (.fn 150 (.x (.var 4) (.x (.var 5) .nil))))
 (.stuck "not possible")
 (.ob (.tru (.fn 136 (.x (.fn 5 (.x (.var 0) (.x (.var 1) (.x (.var 2) (.x (.var 3) .nil))))) .nil)))
 (.ob (.tru (.fn 136 (.x (.var 4) .nil)))
 (.ob (.tru (.cmp .leq (.plus (.len (.fn 5 (.x (.var 0) (.x (.var 1) (.x (.var 2) (.x (.var 3) .nil)))))) (.len (.var 4))) (.lit 1000)))
 (.ob (.tru (.cmp .leq (.len (.fn 6 (.x (.var 0) (.x (.var 1) (.x (.var 2) (.x (.var 3) .nil)))))) (.lit 1000000)))
 (.loop 4 30000 ⟨[(0,(.lit 0)),(1,(.lit 0)),(0,(.lit 0))],[],[(2,(.fn 6 (.x (.var 0) (.x (.var 1) (.x (.var 2) (.x (.var 3) .nil))))))]⟩
 (.ite (.cmp .lss (.var 30001) (.len (.var 5)))
 (.ob (.tru (.cmp .leq (.lit 0) (.var 30001)))
 (.ob (.tru (.cmp .lss (.var 30001) (.len (.var 5))))
 (.ob (.tru (.fn 136 (.x (.var 30002) .nil)))
 (.ite (.not (.fn 135 (.x (.var 30002) (.i (.rd (.var 5) (.var 30001) 0) .nil))))
 (.ob (.tru (.cmp .leq (.lit 0) (.fn 135 (.x (.var 30002) (.i (.rd (.var 5) (.var 30001) 0) .nil)))))
 (.ob (.tru (.cmp .leq (.fn 135 (.x (.var 30002) (.i (.rd (.var 5) (.var 30001) 0) .nil))) (.len (.var 30002))))
 (.ob (.tru (.cmp .lss (.len (.var 30002)) (.lit 1000000)))
 (.next 4 ⟨[(0,(.plus (.var 30000) (.lit 1))),(1,(.ar .add .i64 (.var 30001) (.lit 1))),(0,(.plus (.var 30000) (.lit 1)))],[],[(2,(.app (.app (.sub (.var 30002) (.lit 0) (.fn 135 (.x (.var 30002) (.i (.rd (.var 5) (.var 30001) 0) .nil)))) (.app (.row (.i (.rd (.var 5) (.var 30001) 0) (.i (.rd (.var 5) (.var 30001) 1) (.i (.rd (.var 5) (.var 30001) 2) (.i (.rd (.var 5) (.var 30001) 3) (.i (.rd (.var 5) (.var 30001) 4) (.x (.rd (.var 5) (.var 30001) 5) (.i (.rd (.var 5) (.var 30001) 6) (.i (.rd (.var 5) (.var 30001) 7) (.x (.rd (.var 5) (.var 30001) 8) .nil)))))))))) .nil)) (.sub (.var 30002) (.fn 135 (.x (.var 30002) (.i (.rd (.var 5) (.var 30001) 0) .nil))) (.len (.var 30002)))))]⟩))))
 (.ob (.tru (.cmp .leq (.lit 0) (.fn 135 (.x (.var 30002) (.i (.rd (.var 5) (.var 30001) 0) .nil)))))
 (.ob (.tru (.cmp .lss (.fn 135 (.x (.var 30002) (.i (.rd (.var 5) (.var 30001) 0) .nil))) (.len (.var 30002))))
 (.ite (.not (.fn 129 (.i (.rd (.var 30002) (.fn 135 (.x (.var 30002) (.i (.rd (.var 5) (.var 30001) 0) .nil))) 0) (.i (.rd (.var 30002) (.fn 135 (.x (.var 30002) (.i (.rd (.var 5) (.var 30001) 0) .nil))) 1) (.i (.rd (.var 30002) (.fn 135 (.x (.var 30002) (.i (.rd (.var 5) (.var 30001) 0) .nil))) 2) (.i (.rd (.var 30002) (.fn 135 (.x (.var 30002) (.i (.rd (.var 5) (.var 30001) 0) .nil))) 3) (.i (.rd (.var 30002) (.fn 135 (.x (.var 30002) (.i (.rd (.var 5) (.var 30001) 0) .nil))) 4) (.x (.rd (.var 30002) (.fn 135 (.x (.var 30002) (.i (.rd (.var 5) (.var 30001) 0) .nil))) 5) (.i (.rd (.var 30002) (.fn 135 (.x (.var 30002) (.i (.rd (.var 5) (.var 30001) 0) .nil))) 6) (.i (.rd (.var 30002) (.fn 135 (.x (.var 30002) (.i (.rd (.var 5) (.var 30001) 0) .nil))) 7) (.x (.rd (.var 30002) (.fn 135 (.x (.var 30002) (.i (.rd (.var 5) (.var 30001) 0) .nil))) 8) (.i (.rd (.var 5) (.var 30001) 0) (.i (.rd (.var 5) (.var 30001) 1) (.i (.rd (.var 5) (.var 30001) 2) (.i (.rd (.var 5) (.var 30001) 3) (.i (.rd (.var 5) (.var 30001) 4) (.x (.rd (.var 5) (.var 30001) 5) (.i (.rd (.var 5) (.var 30001) 6) (.i (.rd (.var 5) (.var 30001) 7) (.x (.rd (.var 5) (.var 30001) 8) .nil))))))))))))))))))))
 (.ite (.not (.fn 200 (.x (.fn 5 (.x (.var 0) (.x (.var 1) (.x (.var 2) (.x (.var 3) .nil))))) (.x (.var 4) .nil))))
 (.stuck "not possible")
 (.stuck "not possible"))
 (.next 4 ⟨[(0,(.var 30000)),(1,(.ar .add .i64 (.var 30001) (.lit 1))),(0,(.var 30000))],[],[(2,(.var 30002))]⟩))))))))
 (.ite (.not (.fn 200 (.x (.fn 5 (.x (.var 0) (.x (.var 1) (.x (.var 2) (.x (.var 3) .nil))))) (.x (.var 4) .nil))))
 (.stuck "not possible")
 (.ob (.tru (.fn 136 (.x (.var 5) .nil)))
 (.ite (.fn 201 (.x (.fn 5 (.x (.var 0) (.x (.var 1) (.x (.var 2) (.x (.var 3) .nil))))) (.x (.var 5) .nil)))
 (.stuck "not possible")
 (.ob (.tru (.fn 136 (.x (.fn 6 (.x (.var 0) (.x (.var 1) (.x (.var 2) (.x (.var 3) .nil))))) .nil)))
 (.ite (.fn 201 (.x (.var 4) (.x (.fn 6 (.x (.var 0) (.x (.var 1) (.x (.var 2) (.x (.var 3) .nil))))) .nil)))
 (.stuck "not possible")
 (.ite (.cmp .gtr (.ar .add .i64 (.len (.fn 4 (.x (.fn 5 (.x (.var 0) (.x (.var 1) (.x (.var 2) (.x (.var 3) .nil))))) (.x (.var 4) .nil)))) (.len (.var 30002))) (.lit 300))
 (.stuck "not possible")
 (.ite (.cmp .neq (.fn 210 (.x (.var 2) (.x (.var 3) (.x (.var 4) (.x (.var 5) .nil))))) (.lit 0))
 (.ite (.var 23000)
 (.ret ((.v (.one (.z (.bool (.lit false))))),[],37))
 (.ret ((.v (.one (.z (.bool (.lit false))))),[],37)))
 (.ite (.cmp .eql (.fn 210 (.x (.var 0) (.x (.var 1) (.x (.fn 5 (.x (.var 2) (.x (.var 3) (.x (.var 4) (.x (.var 5) .nil))))) (.x (.fn 6 (.x (.var 2) (.x (.var 3) (.x (.var 4) (.x (.var 5) .nil))))) .nil))))) (.lit 0))
 (.ite (.not (.fn 150 (.x (.var 0) (.x (.var 1) .nil))))
 (.stuck "not possible")
 (.ite (.not (.fn 150 (.x (.fn 5 (.x (.var 2) (.x (.var 3) (.x (.var 4) (.x (.var 5) .nil))))) (.x (.fn 6 (.x (.var 2) (.x (.var 3) (.x (.var 4) (.x (.var 5) .nil))))) .nil))))
 (.stuck "not possible")
 (.ob (.tru (.fn 136 (.x (.var 0) .nil)))
 (.ob (.tru (.fn 136 (.x (.fn 5 (.x (.var 2) (.x (.var 3) (.x (.var 4) (.x (.var 5) .nil))))) .nil)))
 (.ob (.tru (.cmp .leq (.plus (.len (.var 0)) (.len (.fn 5 (.x (.var 2) (.x (.var 3) (.x (.var 4) (.x (.var 5) .nil))))))) (.lit 1000)))
 (.ob (.tru (.cmp .leq (.len (.var 1)) (.lit 1000000)))
 (.loop 5 43000 ⟨[(0,(.lit 0)),(1,(.lit 0)),(0,(.lit 0))],[],[(2,(.var 1))]⟩
 (.ite (.cmp .lss (.var 43001) (.len (.fn 6 (.x (.var 2) (.x (.var 3) (.x (.var 4) (.x (.var 5) .nil)))))))
 (.ob (.tru (.cmp .leq (.lit 0) (.var 43001)))
 (.ob (.tru (.cmp .lss (.var 43001) (.len (.fn 6 (.x (.var 2) (.x (.var 3) (.x (.var 4) (.x (.var 5) .nil))))))))
 (.ob (.tru (.fn 136 (.x (.var 43002) .nil)))
 (.ite (.not (.fn 135 (.x (.var 43002) (.i (.rd (.fn 6 (.x (.var 2) (.x (.var 3) (.x (.var 4) (.x (.var 5) .nil))))) (.var 43001) 0) .nil))))
 (.ob (.tru (.cmp .leq (.lit 0) (.fn 135 (.x (.var 43002) (.i (.rd (.fn 6 (.x (.var 2) (.x (.var 3) (.x (.var 4) (.x (.var 5) .nil))))) (.var 43001) 0) .nil)))))
 (.ob (.tru (.cmp .leq (.fn 135 (.x (.var 43002) (.i (.rd (.fn 6 (.x (.var 2) (.x (.var 3) (.x (.var 4) (.x (.var 5) .nil))))) (.var 43001) 0) .nil))) (.len (.var 43002))))
 (.ob (.tru (.cmp .lss (.len (.var 43002)) (.lit 1000000)))
 (.next 5 ⟨[(0,(.plus (.var 43000) (.lit 1))),(1,(.ar .add .i64 (.var 43001) (.lit 1))),(0,(.plus (.var 43000) (.lit 1)))],[],[(2,(.app (.app (.sub (.var 43002) (.lit 0) (.fn 135 (.x (.var 43002) (.i (.rd (.fn 6 (.x (.var 2) (.x (.var 3) (.x (.var 4) (.x (.var 5) .nil))))) (.var 43001) 0) .nil)))) (.app (.row (.i (.rd (.fn 6 (.x (.var 2) (.x (.var 3) (.x (.var 4) (.x (.var 5) .nil))))) (.var 43001) 0) (.i (.rd (.fn 6 (.x (.var 2) (.x (.var 3) (.x (.var 4) (.x (.var 5) .nil))))) (.var 43001) 1) (.i (.rd (.fn 6 (.x (.var 2) (.x (.var 3) (.x (.var 4) (.x (.var 5) .nil))))) (.var 43001) 2) (.i (.rd (.fn 6 (.x (.var 2) (.x (.var 3) (.x (.var 4) (.x (.var 5) .nil))))) (.var 43001) 3) (.i (.rd (.fn 6 (.x (.var 2) (.x (.var 3) (.x (.var 4) (.x (.var 5) .nil))))) (.var 43001) 4) (.x (.rd (.fn 6 (.x (.var 2) (.x (.var 3) (.x (.var 4) (.x (.var 5) .nil))))) (.var 43001) 5) (.i (.rd (.fn 6 (.x (.var 2) (.x (.var 3) (.x (.var 4) (.x (.var 5) .nil))))) (.var 43001) 6) (.i (.rd (.fn 6 (.x (.var 2) (.x (.var 3) (.x (.var 4) (.x (.var 5) .nil))))) (.var 43001) 7) (.x (.rd (.fn 6 (.x (.var 2) (.x (.var 3) (.x (.var 4) (.x (.var 5) .nil))))) (.var 43001) 8) .nil)))))))))) .nil)) (.sub (.var 43002) (.fn 135 (.x (.var 43002) (.i (.rd (.fn 6 (.x (.var 2) (.x (.var 3) (.x (.var 4) (.x (.var 5) .nil))))) (.var 43001) 0) .nil))) (.len (.var 43002)))))]⟩))))
 (.ob (.tru (.cmp .leq (.lit 0) (.fn 135 (.x (.var 43002) (.i (.rd (.fn 6 (.x (.var 2) (.x (.var 3) (.x (.var 4) (.x (.var 5) .nil))))) (.var 43001) 0) .nil)))))
 (.ob (.tru (.cmp .lss (.fn 135 (.x (.var 43002) (.i (.rd (.fn 6 (.x (.var 2) (.x (.var 3) (.x (.var 4) (.x (.var 5) .nil))))) (.var 43001) 0) .nil))) (.len (.var 43002))))
 (.ite (.not (.fn 129 (.i (.rd (.var 43002) (.fn 135 (.x (.var 43002) (.i (.rd (.fn 6 (.x (.var 2) (.x (.var 3) (.x (.var 4) (.x (.var 5) .nil))))) (.var 43001) 0) .nil))) 0) (.i (.rd (.var 43002) (.fn 135 (.x (.var 43002) (.i (.rd (.fn 6 (.x (.var 2) (.x (.var 3) (.x (.var 4) (.x (.var 5) .nil))))) (.var 43001) 0) .nil))) 1) (.i (.rd (.var 43002) (.fn 135 (.x (.var 43002) (.i (.rd (.fn 6 (.x (.var 2) (.x (.var 3) (.x (.var 4) (.x (.var 5) .nil))))) (.var 43001) 0) .nil))) 2) (.i (.rd (.var 43002) (.fn 135 (.x (.var 43002) (.i (.rd (.fn 6 (.x (.var 2) (.x (.var 3) (.x (.var 4) (.x (.var 5) .nil))))) (.var 43001) 0) .nil))) 3) (.i (.rd (.var 43002) (.fn 135 (.x (.var 43002) (.i (.rd (.fn 6 (.x (.var 2) (.x (.var 3) (.x (.var 4) (.x (.var 5) .nil))))) (.var 43001) 0) .nil))) 4) (.x (.rd (.var 43002) (.fn 135 (.x (.var 43002) (.i (.rd (.fn 6 (.x (.var 2) (.x (.var 3) (.x (.var 4) (.x (.var 5) .nil))))) (.var 43001) 0) .nil))) 5) (.i (.rd (.var 43002) (.fn 135 (.x (.var 43002) (.i (.rd (.fn 6 (.x (.var 2) (.x (.var 3) (.x (.var 4) (.x (.var 5) .nil))))) (.var 43001) 0) .nil))) 6) (.i (.rd (.var 43002) (.fn 135 (.x (.var 43002) (.i (.rd (.fn 6 (.x (.var 2) (.x (.var 3) (.x (.var 4) (.x (.var 5) .nil))))) (.var 43001) 0) .nil))) 7) (.x (.rd (.var 43002) (.fn 135 (.x (.var 43002) (.i (.rd (.fn 6 (.x (.var 2) (.x (.var 3) (.x (.var 4) (.x (.var 5) .nil))))) (.var 43001) 0) .nil))) 8) (.i (.rd (.fn 6 (.x (.var 2) (.x (.var 3) (.x (.var 4) (.x (.var 5) .nil))))) (.var 43001) 0) (.i (.rd (.fn 6 (.x (.var 2) (.x (.var 3) (.x (.var 4) (.x (.var 5) .nil))))) (.var 43001) 1) (.i (.rd (.fn 6 (.x (.var 2) (.x (.var 3) (.x (.var 4) (.x (.var 5) .nil))))) (.var 43001) 2) (.i (.rd (.fn 6 (.x (.var 2) (.x (.var 3) (.x (.var 4) (.x (.var 5) .nil))))) (.var 43001) 3) (.i (.rd (.fn 6 (.x (.var 2) (.x (.var 3) (.x (.var 4) (.x (.var 5) .nil))))) (.var 43001) 4) (.x (.rd (.fn 6 (.x (.var 2) (.x (.var 3) (.x (.var 4) (.x (.var 5) .nil))))) (.var 43001) 5) (.i (.rd (.fn 6 (.x (.var 2) (.x (.var 3) (.x (.var 4) (.x (.var 5) .nil))))) (.var 43001) 6) (.i (.rd (.fn 6 (.x (.var 2) (.x (.var 3) (.x (.var 4) (.x (.var 5) .nil))))) (.var 43001) 7) (.x (.rd (.fn 6 (.x (.var 2) (.x (.var 3) (.x (.var 4) (.x (.var 5) .nil))))) (.var 43001) 8) .nil))))))))))))))))))))
 (.ite (.not (.fn 200 (.x (.var 0) (.x (.fn 5 (.x (.var 2) (.x (.var 3) (.x (.var 4) (.x (.var 5) .nil))))) .nil))))
 (.stuck "not possible")
 (.stuck "not possible"))
 (.next 5 ⟨[(0,(.var 43000)),(1,(.ar .add .i64 (.var 43001) (.lit 1))),(0,(.var 43000))],[],[(2,(.var 43002))]⟩))))))))
 (.ite (.not (.fn 200 (.x (.var 0) (.x (.fn 5 (.x (.var 2) (.x (.var 3) (.x (.var 4) (.x (.var 5) .nil))))) .nil))))
 (.stuck "not possible")
 (.ob (.tru (.fn 136 (.x (.fn 6 (.x (.var 2) (.x (.var 3) (.x (.var 4) (.x (.var 5) .nil))))) .nil)))
 (.ite (.fn 201 (.x (.var 0) (.x (.fn 6 (.x (.var 2) (.x (.var 3) (.x (.var 4) (.x (.var 5) .nil))))) .nil)))
 (.stuck "not possible")
 (.ob (.tru (.fn 136 (.x (.var 1) .nil)))
 (.ite (.fn 201 (.x (.fn 5 (.x (.var 2) (.x (.var 3) (.x (.var 4) (.x (.var 5) .nil))))) (.x (.var 1) .nil)))
 (.stuck "not possible")
 (.ite (.cmp .gtr (.ar .add .i64 (.len (.fn 4 (.x (.var 0) (.x (.fn 5 (.x (.var 2) (.x (.var 3) (.x (.var 4) (.x (.var 5) .nil))))) .nil)))) (.len (.var 43002))) (.lit 300))
 (.stuck "not possible")
 (.ite (.var 23000)
 (.ob (.tru (.fn 210 (.x (.fn 4 (.x (.fn 5 (.x (.var 0) (.x (.var 1) (.x (.var 2) (.x (.var 3) .nil))))) (.x (.var 4) .nil))) (.x (.var 30002) (.x (.fn 4 (.x (.var 0) (.x (.fn 5 (.x (.var 2) (.x (.var 3) (.x (.var 4) (.x (.var 5) .nil))))) .nil))) (.x (.var 43002) .nil))))))
 (.ret ((.v (.one (.z (.bool (.lit true))))),[],46)))
 (.ret ((.v (.one (.z (.bool (.lit false))))),[],46)))))))))))))))))
 (.ite (.var 23000)
 (.ite (.cmp .eql (.lit 0) (.fn 210 (.x (.var 0) (.x (.var 1) (.x (.fn 5 (.x (.var 2) (.x (.var 3) (.x (.var 4) (.x (.var 5) .nil))))) (.x (.fn 6 (.x (.var 2) (.x (.var 3) (.x (.var 4) (.x (.var 5) .nil))))) .nil))))))
 (.ob (.tru (.fn 210 (.x (.fn 4 (.x (.fn 5 (.x (.var 0) (.x (.var 1) (.x (.var 2) (.x (.var 3) .nil))))) (.x (.var 4) .nil))) (.x (.var 30002) (.x .nil (.x .nil .nil))))))
 (.ret ((.v (.one (.z (.bool (.lit true))))),[],37)))
 (.ret ((.v (.one (.z (.bool (.lit false))))),[],37)))
 (.ret ((.v (.one (.z (.bool (.lit false))))),[],37)))))))))))))))))))
 (.ite (.cmp .neq (.fn 210 (.x (.var 2) (.x (.var 3) (.x (.var 4) (.x (.var 5) .nil))))) (.lit 0))
 (.ite (.var 23000)
 (.ret ((.v (.one (.z (.bool (.cmp .neq (.fn 210 (.x (.fn 5 (.x (.var 0) (.x (.var 1) (.x (.var 2) (.x (.var 3) .nil))))) (.x (.fn 6 (.x (.var 0) (.x (.var 1) (.x (.var 2) (.x (.var 3) .nil))))) (.x (.var 4) (.x (.var 5) .nil))))) (.lit 0)))))),[],28))
 (.ret ((.v (.one (.z (.bool (.lit false))))),[],28)))
 (.ite (.cmp .eql (.fn 210 (.x (.var 0) (.x (.var 1) (.x (.fn 5 (.x (.var 2) (.x (.var 3) (.x (.var 4) (.x (.var 5) .nil))))) (.x (.fn 6 (.x (.var 2) (.x (.var 3) (.x (.var 4) (.x (.var 5) .nil))))) .nil))))) (.lit 0))
 (.ite (.not (.fn 150 (.x (.var 0) (.x (.var 1) .nil))))
 (.stuck "not possible")
 (.ite (.not (.fn 150 (.x (.fn 5 (.x (.var 2) (.x (.var 3) (.x (.var 4) (.x (.var 5) .nil))))) (.x (.fn 6 (.x (.var 2) (.x (.var 3) (.x (.var 4) (.x (.var 5) .nil))))) .nil))))
 (.stuck "not possible")
 (.ob (.tru (.fn 136 (.x (.var 0) .nil)))
 (.ob (.tru (.fn 136 (.x (.fn 5 (.x (.var 2) (.x (.var 3) (.x (.var 4) (.x (.var 5) .nil))))) .nil)))
 (.ob (.tru (.cmp .leq (.plus (.len (.var 0)) (.len (.fn 5 (.x (.var 2) (.x (.var 3) (.x (.var 4) (.x (.var 5) .nil))))))) (.lit 1000)))
 (.ob (.tru (.cmp .leq (.len (.var 1)) (.lit 1000000)))
 (.loop 4 34000 ⟨[(0,(.lit 0)),(1,(.lit 0)),(0,(.lit 0))],[],[(2,(.var 1))]⟩
 (.ite (.cmp .lss (.var 34001) (.len (.fn 6 (.x (.var 2) (.x (.var 3) (.x (.var 4) (.x (.var 5) .nil)))))))
 (.ob (.tru (.cmp .leq (.lit 0) (.var 34001)))
 (.ob (.tru (.cmp .lss (.var 34001) (.len (.fn 6 (.x (.var 2) (.x (.var 3) (.x (.var 4) (.x (.var 5) .nil))))))))
 (.ob (.tru (.fn 136 (.x (.var 34002) .nil)))
 (.ite (.not (.fn 135 (.x (.var 34002) (.i (.rd (.fn 6 (.x (.var 2) (.x (.var 3) (.x (.var 4) (.x (.var 5) .nil))))) (.var 34001) 0) .nil))))
 (.ob (.tru (.cmp .leq (.lit 0) (.fn 135 (.x (.var 34002) (.i (.rd (.fn 6 (.x (.var 2) (.x (.var 3) (.x (.var 4) (.x (.var 5) .nil))))) (.var 34001) 0) .nil)))))
 (.ob (.tru (.cmp .leq (.fn 135 (.x (.var 34002) (.i (.rd (.fn 6 (.x (.var 2) (.x (.var 3) (.x (.var 4) (.x (.var 5) .nil))))) (.var 34001) 0) .nil))) (.len (.var 34002))))
 (.ob (.tru (.cmp .lss (.len (.var 34002)) (.lit 1000000)))
 (.next 4 ⟨[(0,(.plus (.var 34000) (.lit 1))),(1,(.ar .add .i64 (.var 34001) (.lit 1))),(0,(.plus (.var 34000) (.lit 1)))],[],[(2,(.app (.app (.sub (.var 34002) (.lit 0) (.fn 135 (.x (.var 34002) (.i (.rd (.fn 6 (.x (.var 2) (.x (.var 3) (.x (.var 4) (.x (.var 5) .nil))))) (.var 34001) 0) .nil)))) (.app (.row (.i (.rd (.fn 6 (.x (.var 2) (.x (.var 3) (.x (.var 4) (.x (.var 5) .nil))))) (.var 34001) 0) (.i (.rd (.fn 6 (.x (.var 2) (.x (.var 3) (.x (.var 4) (.x (.var 5) .nil))))) (.var 34001) 1) (.i (.rd (.fn 6 (.x (.var 2) (.x (.var 3) (.x (.var 4) (.x (.var 5) .nil))))) (.var 34001) 2) (.i (.rd (.fn 6 (.x (.var 2) (.x (.var 3) (.x (.var 4) (.x (.var 5) .nil))))) (.var 34001) 3) (.i (.rd (.fn 6 (.x (.var 2) (.x (.var 3) (.x (.var 4) (.x (.var 5) .nil))))) (.var 34001) 4) (.x (.rd (.fn 6 (.x (.var 2) (.x (.var 3) (.x (.var 4) (.x (.var 5) .nil))))) (.var 34001) 5) (.i (.rd (.fn 6 (.x (.var 2) (.x (.var 3) (.x (.var 4) (.x (.var 5) .nil))))) (.var 34001) 6) (.i (.rd (.fn 6 (.x (.var 2) (.x (.var 3) (.x (.var 4) (.x (.var 5) .nil))))) (.var 34001) 7) (.x (.rd (.fn 6 (.x (.var 2) (.x (.var 3) (.x (.var 4) (.x (.var 5) .nil))))) (.var 34001) 8) .nil)))))))))) .nil)) (.sub (.var 34002) (.fn 135 (.x (.var 34002) (.i (.rd (.fn 6 (.x (.var 2) (.x (.var 3) (.x (.var 4) (.x (.var 5) .nil))))) (.var 34001) 0) .nil))) (.len (.var 34002)))))]⟩))))
 (.ob (.tru (.cmp .leq (.lit 0) (.fn 135 (.x (.var 34002) (.i (.rd (.fn 6 (.x (.var 2) (.x (.var 3) (.x (.var 4) (.x (.var 5) .nil))))) (.var 34001) 0) .nil)))))
 (.ob (.tru (.cmp .lss (.fn 135 (.x (.var 34002) (.i (.rd (.fn 6 (.x (.var 2) (.x (.var 3) (.x (.var 4) (.x (.var 5) .nil))))) (.var 34001) 0) .nil))) (.len (.var 34002))))
 (.ite (.not (.fn 129 (.i (.rd (.var 34002) (.fn 135 (.x (.var 34002) (.i (.rd (.fn 6 (.x (.var 2) (.x (.var 3) (.x (.var 4) (.x (.var 5) .nil))))) (.var 34001) 0) .nil))) 0) (.i (.rd (.var 34002) (.fn 135 (.x (.var 34002) (.i (.rd (.fn 6 (.x (.var 2) (.x (.var 3) (.x (.var 4) (.x (.var 5) .nil))))) (.var 34001) 0) .nil))) 1) (.i (.rd (.var 34002) (.fn 135 (.x (.var 34002) (.i (.rd (.fn 6 (.x (.var 2) (.x (.var 3) (.x (.var 4) (.x (.var 5) .nil))))) (.var 34001) 0) .nil))) 2) (.i (.rd (.var 34002) (.fn 135 (.x (.var 34002) (.i (.rd (.fn 6 (.x (.var 2) (.x (.var 3) (.x (.var 4) (.x (.var 5) .nil))))) (.var 34001) 0) .nil))) 3) (.i (.rd (.var 34002) (.fn 135 (.x (.var 34002) (.i (.rd (.fn 6 (.x (.var 2) (.x (.var 3) (.x (.var 4) (.x (.var 5) .nil))))) (.var 34001) 0) .nil))) 4) (.x (.rd (.var 34002) (.fn 135 (.x (.var 34002) (.i (.rd (.fn 6 (.x (.var 2) (.x (.var 3) (.x (.var 4) (.x (.var 5) .nil))))) (.var 34001) 0) .nil))) 5) (.i (.rd (.var 34002) (.fn 135 (.x (.var 34002) (.i (.rd (.fn 6 (.x (.var 2) (.x (.var 3) (.x (.var 4) (.x (.var 5) .nil))))) (.var 34001) 0) .nil))) 6) (.i (.rd (.var 34002) (.fn 135 (.x (.var 34002) (.i (.rd (.fn 6 (.x (.var 2) (.x (.var 3) (.x (.var 4) (.x (.var 5) .nil))))) (.var 34001) 0) .nil))) 7) (.x (.rd (.var 34002) (.fn 135 (.x (.var 34002) (.i (.rd (.fn 6 (.x (.var 2) (.x (.var 3) (.x (.var 4) (.x (.var 5) .nil))))) (.var 34001) 0) .nil))) 8) (.i (.rd (.fn 6 (.x (.var 2) (.x (.var 3) (.x (.var 4) (.x (.var 5) .nil))))) (.var 34001) 0) (.i (.rd (.fn 6 (.x (.var 2) (.x (.var 3) (.x (.var 4) (.x (.var 5) .nil))))) (.var 34001) 1) (.i (.rd (.fn 6 (.x (.var 2) (.x (.var 3) (.x (.var 4) (.x (.var 5) .nil))))) (.var 34001) 2) (.i (.rd (.fn 6 (.x (.var 2) (.x (.var 3) (.x (.var 4) (.x (.var 5) .nil))))) (.var 34001) 3) (.i (.rd (.fn 6 (.x (.var 2) (.x (.var 3) (.x (.var 4) (.x (.var 5) .nil))))) (.var 34001) 4) (.x (.rd (.fn 6 (.x (.var 2) (.x (.var 3) (.x (.var 4) (.x (.var 5) .nil))))) (.var 34001) 5) (.i (.rd (.fn 6 (.x (.var 2) (.x (.var 3) (.x (.var 4) (.x (.var 5) .nil))))) (.var 34001) 6) (.i (.rd (.fn 6 (.x (.var 2) (.x (.var 3) (.x (.var 4) (.x (.var 5) .nil))))) (.var 34001) 7) (.x (.rd (.fn 6 (.x (.var 2) (.x (.var 3) (.x (.var 4) (.x (.var 5) .nil))))) (.var 34001) 8) .nil))))))))))))))))))))
 (.ite (.not (.fn 200 (.x (.var 0) (.x (.fn 5 (.x (.var 2) (.x (.var 3) (.x (.var 4) (.x (.var 5) .nil))))) .nil))))
 (.stuck "not possible")
 (.stuck "not possible"))
 (.next 4 ⟨[(0,(.var 34000)),(1,(.ar .add .i64 (.var 34001) (.lit 1))),(0,(.var 34000))],[],[(2,(.var 34002))]⟩))))))))
 (.ite (.not (.fn 200 (.x (.var 0) (.x (.fn 5 (.x (.var 2) (.x (.var 3) (.x (.var 4) (.x (.var 5) .nil))))) .nil))))
 (.stuck "not possible")
 (.ob (.tru (.fn 136 (.x (.fn 6 (.x (.var 2) (.x (.var 3) (.x (.var 4) (.x (.var 5) .nil))))) .nil)))
 (.ite (.fn 201 (.x (.var 0) (.x (.fn 6 (.x (.var 2) (.x (.var 3) (.x (.var 4) (.x (.var 5) .nil))))) .nil)))
 (.stuck "not possible")
 (.ob (.tru (.fn 136 (.x (.var 1) .nil)))
 (.ite (.fn 201 (.x (.fn 5 (.x (.var 2) (.x (.var 3) (.x (.var 4) (.x (.var 5) .nil))))) (.x (.var 1) .nil)))
 (.stuck "not possible")
 (.ite (.cmp .gtr (.ar .add .i64 (.len (.fn 4 (.x (.var 0) (.x (.fn 5 (.x (.var 2) (.x (.var 3) (.x (.var 4) (.x (.var 5) .nil))))) .nil)))) (.len (.var 34002))) (.lit 300))
 (.stuck "not possible")
 (.ite (.var 23000)
 (.ite (.cmp .eql (.fn 210 (.x (.fn 5 (.x (.var 0) (.x (.var 1) (.x (.var 2) (.x (.var 3) .nil))))) (.x (.fn 6 (.x (.var 0) (.x (.var 1) (.x (.var 2) (.x (.var 3) .nil))))) (.x (.var 4) (.x (.var 5) .nil))))) (.lit 0))
 (.ob (.tru (.fn 210 (.x .nil (.x .nil (.x (.fn 4 (.x (.var 0) (.x (.fn 5 (.x (.var 2) (.x (.var 3) (.x (.var 4) (.x (.var 5) .nil))))) .nil))) (.x (.var 34002) .nil))))))
 (.ret ((.v (.one (.z (.bool (.lit true))))),[],37)))
 (.ret ((.v (.one (.z (.bool (.lit false))))),[],37)))
 (.ret ((.v (.one (.z (.bool (.lit false))))),[],37)))))))))))))))))
 (.ite (.var 23000)
 (.ite (.cmp .eql (.fn 210 (.x (.fn 5 (.x (.var 0) (.x (.var 1) (.x (.var 2) (.x (.var 3) .nil))))) (.x (.fn 6 (.x (.var 0) (.x (.var 1) (.x (.var 2) (.x (.var 3) .nil))))) (.x (.var 4) (.x (.var 5) .nil))))) (.fn 210 (.x (.var 0) (.x (.var 1) (.x (.fn 5 (.x (.var 2) (.x (.var 3) (.x (.var 4) (.x (.var 5) .nil))))) (.x (.fn 6 (.x (.var 2) (.x (.var 3) (.x (.var 4) (.x (.var 5) .nil))))) .nil))))))
 (.ob (.tru (.fn 210 (.x .nil (.x .nil (.x .nil (.x .nil .nil))))))
 (.ret ((.v (.one (.z (.bool (.lit true))))),[],28)))
 (.ret ((.v (.one (.z (.bool (.lit false))))),[],28)))
 (.ret ((.v (.one (.z (.bool (.lit false))))),[],28))))))))))
 (.ite (.cmp .eql (.fn 210 (.x (.var 0) (.x (.var 1) (.x (.var 2) (.x (.var 3) .nil))))) (.fn 210 (.x (.var 2) (.x (.var 3) (.x (.var 0) (.x (.var 1) .nil))))))
 (.ite (.cmp .eql (.fn 210 (.x (.var 0) (.x (.var 1) (.x (.var 0) (.x (.var 1) .nil))))) (.lit 0))
 (.ite (.cmp .eql (.fn 160 (.x (.fn 5 (.x (.var 0) (.x (.var 1) (.x (.var 2) (.x (.var 3) .nil))))) (.x (.fn 6 (.x (.var 0) (.x (.var 1) (.x (.var 2) (.x (.var 3) .nil))))) .nil))) (.lit 0))
 (.ite (.cmp .eql (.fn 160 (.x (.var 0) (.x (.var 1) .nil))) (.lit 0))
 (.ite (.cmp .eql (.fn 160 (.x (.var 2) (.x (.var 3) .nil))) (.lit 0))
 (.ob (.tru (.fn 210 (.x (.fn 5 (.x (.var 0) (.x (.var 1) (.x (.var 0) (.x (.var 1) .nil))))) (.x (.fn 6 (.x (.var 0) (.x (.var 1) (.x (.var 0) (.x (.var 1) .nil))))) (.x (.var 0) (.x (.var 1) .nil))))))
 (.next 1 ⟨[],[(1,(.fn 150 (.x (.fn 5 (.x (.var 0) (.x (.var 1) (.x (.var 2) (.x (.var 3) .nil))))) (.x (.fn 6 (.x (.var 0) (.x (.var 1) (.x (.var 2) (.x (.var 3) .nil))))) .nil)))),(0,(.lit true))],[]⟩))
 (.next 1 ⟨[],[(1,(.lit false)),(0,(.lit true))],[]⟩))
 (.next 1 ⟨[],[(1,(.lit false)),(0,(.lit true))],[]⟩))
 (.next 1 ⟨[],[(1,(.lit false)),(0,(.lit true))],[]⟩))
 (.next 1 ⟨[],[(1,(.lit false)),(0,(.lit true))],[]⟩))
 (.next 1 ⟨[],[(1,(.lit false)),(0,(.lit true))],[]⟩)))))
 (.ob (.tru (.fn 210 (.x (.fn 5 (.x (.var 0) (.x (.var 1) (.x (.var 2) (.x (.var 3) .nil))))) (.x (.fn 6 (.x (.var 0) (.x (.var 1) (.x (.var 2) (.x (.var 3) .nil))))) (.x (.fn 5 (.x (.var 2) (.x (.var 3) (.x (.var 0) (.x (.var 1) .nil))))) (.x (.fn 6 (.x (.var 2) (.x (.var 3) (.x (.var 0) (.x (.var 1) .nil))))) .nil))))))
 (.next 0 ⟨[],[(0,(.lit true))],[]⟩)))))
 (.ret ((.v (.one (.z (.bool (.lit true))))),[],6))))
 (.ret ((.v (.one (.z (.bool (.lit true))))),[],5))))
 (.ret ((.v (.one (.z (.bool (.lit true))))),[],4)))
theorem Z0(s F t G:Rows):mgE [.l s,.l F,.l t,.l G]=J4 s F t G:=rfl
theorem Y6(s F t G:Rows):mgS [.l s,.l F,.l t,.l G]=if J4 s F t G=0 then y9 s t else []:=rfl
theorem Z1(s F t G:Rows):mgF [.l s,.l F,.l t,.l G]=if J4 s F t G=0 then y9 F G else []:=rfl
theorem a0Q{s t O:Rows}(ht:o5 t)(hC:CompL s t){j:Nat}(hO:o5 O)(hm:∀y,y∈O↔y∈s∨y∈t.take j)(hj:j<t.length):o5 (M1 O t[j])∧∀y,y∈M1 O t[j]↔y∈s∨y∈t.take (j+1):=by
 refine⟨c9P hO _,fun y=> ?_⟩
 rw[c7r hO,List.take_succ_eq_append_getElem hj,List.mem_append,List.mem_singleton,hm]
 constructor
 ·rintro(rfl | ⟨h | h,_⟩)
  ·exact .inr (.inr rfl)
  ·exact .inl h
  ·exact .inr (.inl h)
 ·rintro(h | h | rfl)
  ·by_cases e:cI y 0=cI t[j] 0
   ·exact .inl (hC y h _ (List.getElem_mem hj) e)
   ·exact .inr ⟨.inl h,e⟩
  ·refine .inr ⟨.inr h,?_⟩
   obtain⟨m,hm',rfl⟩:=List.getElem_of_mem h
   rw[List.length_take] at hm'
   have:=List.pairwise_iff_getElem.1 ht m j (by omega) hj (by omega)
   rw[List.getElem_take]
   omega
  ·exact .inl rfl
theorem b2i{s t O:Rows}(hs:o5 s)(ht:o5 t)(hC:CompL s t)(hO:o5 O)(hm:∀y,y∈O↔y∈s∨y∈t.take t.length):O=y9 s t:=
 b0Y hO (b9D hs ht) fun x=>by rw[hm,d4J hs hC,List.take_length]
theorem d6G(r:Rows):a4j [.l r,.l r]=true:=N2 r
theorem Z6(r:Rows)(a b c d e f g:Int):c2S [.l r,.i a,.i b,.i c,.i d,.i e,.i f,.i g]=M1 r [.i a,.i b,.i c,.i d,.i e,.i f,.i g]:=rfl
theorem a1U(r:Rows)(a b c d e:Int)(p:Rows)(f g:Int)(q:Rows):c3B [.l r,.i a,.i b,.i c,.i d,.i e,.l p,.i f,.i g,.l q]=M1 r [.i a,.i b,.i c,.i d,.i e,.l p,.i f,.i g,.l q]:=rfl
theorem d2z(W:World)(ds l:List D):(f0 J3 W ds).fb 150 l=I6 l:=by simp only[f0,J3,L0,m9,B0,u5,y3,B1,t6,p9,v8]
theorem d2t(W:World)(ds l:List D):(f0 J3 W ds).fb 190 l=a4j l:=by simp only[f0,J3,L0,m9,B0,u5,y3]
theorem a0N(W:World)(ds l:List D):(f0 J3 W ds).fb 210 l=eq4 l:=by simp only[f0,J3,L0,m9,B0]
theorem a0S(W:World)(ds l:List D):(f0 J3 W ds).fi 210 l=mgE l:=by simp only[f0,J3,L0,m9,B0]
theorem d1J(W:World)(ds l:List D):(f0 J3 W ds).fb 230 l=b0U l:=by simp only[f0,J3,L0]
theorem d2u(W:World)(ds l:List D):(f0 J3 W ds).fb 231 l=a7F l:=by simp only[f0,J3,L0]
theorem a5g(W:World)(ds l:List D):(f0 J3 W ds).fd 5 l=mgS l:=by simp only[f0,J3,L0,m9,B0]
theorem a5h(W:World)(ds l:List D):(f0 J3 W ds).fd 6 l=mgF l:=by simp only[f0,J3,L0,m9,B0]
theorem a4Z(W:World)(ds l:List D):(f0 J3 W ds).fd 7 l=c2S l:=by simp only[f0,J3,L0]
theorem a4J(W:World)(ds l:List D):(f0 J3 W ds).fd 8 l=c3B l:=by simp only[f0,J3]
set_option maxHeartbeats 4000000 in
theorem d2a:k8 Tryz.prog 3 [o0,o0,pt,it] (fun _=> .bool true):=by
 refine GivesIf.all (i7 J3 (by kernel_rfl) (fun ρ h=>d1T (Sees.of h 250) (SeesD.of h 9)) (by kernel_rfl) b8A b7x (by decide) (fun W vals ds hr _=> ?_))
 obtain⟨S1,S2⟩:=c6n hr
 clear hr
 simp only[a7E,g8,Nat.reduceBEq,Nat.reduceLT,Nat.reduceSub,d2z,d2t,a0N,a0S,d1J,d2u,a5g,a5h,a4Z,a4J,d6G,R0,Z0,Y6,Z1,Y8,implies_true,and_true,true_and]
 generalize e0:d9 ds 0=s at*
 generalize e1:d9 ds 1=F at*
 generalize e2:d9 ds 2=t at*
 generalize e3:d9 ds 3=G at*
 have hM:J4 s F t G=if (q9 s F&&q9 t G)=true then(if T8 s F t G=true then 18 else if ((y9 s t).length:Int)+(y9 F G).length>300 then 2 else 0) else 1:=rfl
 have BAD:∀m:Int,m≠0→J4 s F t G=m→(x6 (if J4 s F t G=0 then y9 s t else []) []=true∧x6 (if J4 s F t G=0 then y9 F G else []) []=true)∧Value.bool (u7 .eql (J4 s F t G) m)=Value.bool true:=fun m hm h=>by
  rw[h,if_neg hm,if_neg hm];exact⟨⟨rfl,rfl⟩,by simp [u7]⟩
 have GOOD:∀O1 O2,J4 s F t G=0→O1=y9 s t→O2=y9 F G→(x6 (if J4 s F t G=0 then y9 s t else []) O1=true∧x6 (if J4 s F t G=0 then y9 F G else []) O2=true)∧Value.bool (u7 .eql (J4 s F t G) 0)=Value.bool true:=fun O1 O2 h h1 h2=>by
  rw[h,if_pos rfl,if_pos rfl,h1,h2];exact⟨⟨N2 _,N2 _⟩,by simp [u7]⟩
 intro b1 b2 b3 b4
 refine⟨fun v1=>BAD 1 (by decide) (by rw[hM,v1];rfl),fun v1=>⟨fun v2=>BAD 1 (by decide) (by rw[hM,v1,v2];rfl),fun v2=>⟨?_,fun hl=>BAD 18 (by decide) ?_,fun hl=> ?_⟩⟩⟩
 ·show(q9 s F&&q9 t G)=true
  rw[v1,v2];rfl
 ·have hl:T8 s F t G=true:=hl
  rw[hM,v1,v2,hl];rfl
 have hl:T8 s F t G=false:=hl
 have hN:=(b9V S1 S2 v1 v2).1 hl
 obtain⟨rs,rF⟩:=a6I v1
 obtain⟨rt,rG⟩:=a6I v2
 have hM':J4 s F t G=if ((y9 s t).length:Int)+(y9 F G).length>300 then 2 else 0:=by rw[hM,v1,v2,hl];rfl
 clear hM
 have TAIL:∀O1 O2,O1=y9 s t→O2=y9 F G→(300<IntKind.i64.wrap ((O1.length:Int)+(O2.length:Int))→(x6 (if J4 s F t G=0 then y9 s t else []) []=true∧x6 (if J4 s F t G=0 then y9 F G else []) []=true)∧Value.bool (u7 .eql (J4 s F t G) 2)=Value.bool true)∧(¬300<IntKind.i64.wrap ((O1.length:Int)+(O2.length:Int))→(x6 (if J4 s F t G=0 then y9 s t else []) O1=true∧x6 (if J4 s F t G=0 then y9 F G else []) O2=true)∧Value.bool (u7 .eql (J4 s F t G) 0)=Value.bool true):=fun O1 O2 h1 h2=>by
  have l1:= @a6U s t
  have l2:= @a6U F G
  have e1:O1.length=(y9 s t).length:=by rw[h1]
  have e2:O2.length=(y9 F G).length:=by rw[h2]
  rw[f8 _ (by omega) (by omega)]
  refine⟨fun q=>BAD 2 (by decide) (by rw[hM',if_pos (by omega)]),fun q=>GOOD O1 O2 (by rw[hM',if_neg (by omega)]) h1 h2⟩
 have r7:∀(k:Nat) (hk:k<t.length),[D.i (cI t[k] 0),.i (cI t[k] 1),.i (cI t[k] 2),.i (cI t[k] 3),.i (cI t[k] 4),.i (cI t[k] 5),.i (cI t[k] 6)]=t[k]:=fun k hk=>(S2.s7 _ (List.getElem_mem hk)).symm
 have r9:∀(k:Nat) (hk:k<G.length),[D.i (cI G[k] 0),.i (cI G[k] 1),.i (cI G[k] 2),.i (cI G[k] 3),.i (cI G[k] 4),.l (cR G[k] 5),.i (cI G[k] 6),.i (cI G[k] 7),.l (cR G[k] 8)]=G[k]:=fun k hk=>(S2.f9 _ (List.getElem_mem hk)).1.symm
 have z0:∀y,y∈s↔y∈s∨y∈t.take 0:=fun y=>by simp
 have z1:∀y,y∈F↔y∈F∨y∈G.take 0:=fun y=>by simp
 refine⟨fun ht=> ?_,fun ht=> ?_⟩
 ·have ht0:0<t.length:=by omega
  refine⟨by omega,by omega,?_⟩
  refine TT.sat_loop (fun v=>∃j:Nat,v.i 0=j∧j≤t.length∧o5 (v.d 15)∧(∀y,y∈v.d 15↔y∈s∨y∈t.take j)∧(v.d 15).length≤s.length+j) (fun v=>t.length-(v.i 0).toNat)
   ⟨1,by simp [j7,i8,E.ev],by omega,?_⟩ (fun v hv=> ?_)
  ·have l0:∀c,lg t 0 c=cI t[0] c:=fun c=>j8 ht0 c
   simp only[g8,Nat.reduceBEq,Nat.reduceLT,Nat.reduceSub,e0,e1,e2,e3,a0N,a0S,a5g,a5h,a4Z,a4J,Z0,Y6,Z1,Y8,Z6,a1U,l0]
   simp only[r7 0 ht0]
   obtain⟨h1,h2⟩:=a0Q rt hN.cs rs z0 ht0
   have h3:=P3 s t[0]
   exact⟨h1,h2,h3⟩
  obtain⟨j,j0,j1,j2,j3,j4⟩:=hv
  simp only[g8,Nat.reduceBEq,Nat.reduceLT,Nat.reduceSub,j0,e0,e1,e2,e3,a0N,a0S,a5g,a5h,a4Z,a4J,Z0,Y6,Z1,Y8,Z6,a1U]
  refine⟨fun hj=> ?_,fun hj=> ?_⟩
  ·have hjt:j<t.length:=by omega
   simp only[j8 hjt,r7 j hjt]
   obtain⟨h1,h2⟩:=a0Q rt hN.cs j2 j3 hjt
   have h3:=P3 (v.d 15) t[j]
   rw[f8 ((j:Int)+1) (by omega) (by omega)]
   exact⟨by omega,by omega,by omega,⟨j+1,rfl,by omega,h1,h2,by omega⟩,by omega⟩
  ·have hjt:j=t.length:=by omega
   rw[hjt] at j3
   have hO1:=b2i rs rt hN.cs j2 j3
   refine⟨fun hg=> ?_,fun hg=> ?_⟩
   ·have hG0:0<G.length:=by omega
    have l0:∀c,lg G 0 c=cI G[0] c:=fun c=>j8 hG0 c
    have l1:∀c,lr G 0 c=cR G[0] c:=fun c=>I7 hG0 c
    refine⟨by omega,by omega,?_⟩
    refine TT.sat_loop (fun v=>∃j:Nat,v.i 0=j∧j≤G.length∧o5 (v.d 17)∧(∀y,y∈v.d 17↔y∈F∨y∈G.take j)∧(v.d 17).length≤F.length+j) (fun v=>G.length-(v.i 0).toNat)
     ⟨1,by simp [j7,i8,E.ev],by omega,?_⟩ (fun u hu=> ?_)
    ·simp only[g8,Nat.reduceBEq,Nat.reduceLT,Nat.reduceSub,j0,e0,e1,e2,e3,a0N,a0S,a5g,a5h,a4Z,a4J,Z0,Y6,Z1,Y8,Z6,a1U,l0,l1]
     simp only[r9 0 hG0]
     obtain⟨h1,h2⟩:=a0Q rG hN.cf rF z1 hG0
     have h3:=P3 F G[0]
     exact⟨h1,h2,h3⟩
    obtain⟨k,k0,k1,k2,k3,k4⟩:=hu
    simp only[g8,Nat.reduceBEq,Nat.reduceLT,Nat.reduceSub,j0,k0,e0,e1,e2,e3,a0N,a0S,a5g,a5h,a4Z,a4J,Z0,Y6,Z1,Y8,Z6,a1U,show((0:Nat)=1)=False from by simp,if_false]
    refine⟨fun hk=> ?_,fun hk=> ?_⟩
    ·have hkG:k<G.length:=by omega
     simp only[j8 hkG,I7 hkG,r9 k hkG]
     obtain⟨h1,h2⟩:=a0Q rG hN.cf k2 k3 hkG
     have h3:=P3 (u.d 17) G[k]
     rw[f8 ((k:Int)+1) (by omega) (by omega)]
     exact⟨by omega,by omega,by omega,⟨k+1,rfl,by omega,h1,h2,by omega⟩,by omega⟩
    ·have hkG:k=G.length:=by omega
     rw[hkG] at k3
     exact TAIL _ _ hO1 (b2i rF rG hN.cf k2 k3)
   ·have hG:G=[]:=List.eq_nil_of_length_eq_zero (by omega)
    exact TAIL _ _ hO1 (by rw[hG];rfl)
 ·have hT:t=[]:=List.eq_nil_of_length_eq_zero (by omega)
  have hO1:s=y9 s t:=by rw[hT];rfl
  refine⟨fun hg=> ?_,fun hg=> ?_⟩
  ·have hG0:0<G.length:=by omega
   have l0:∀c,lg G 0 c=cI G[0] c:=fun c=>j8 hG0 c
   have l1:∀c,lr G 0 c=cR G[0] c:=fun c=>I7 hG0 c
   refine⟨by omega,by omega,?_⟩
   refine TT.sat_loop (fun v=>∃j:Nat,v.i 0=j∧j≤G.length∧o5 (v.d 17)∧(∀y,y∈v.d 17↔y∈F∨y∈G.take j)∧(v.d 17).length≤F.length+j) (fun v=>G.length-(v.i 0).toNat)
    ⟨1,by simp [j7,i8,E.ev],by omega,?_⟩ (fun u hu=> ?_)
   ·simp only[g8,Nat.reduceBEq,Nat.reduceLT,Nat.reduceSub,e0,e1,e2,e3,a0N,a0S,a5g,a5h,a4Z,a4J,Z0,Y6,Z1,Y8,Z6,a1U,l0,l1]
    simp only[r9 0 hG0]
    obtain⟨h1,h2⟩:=a0Q rG hN.cf rF z1 hG0
    have h3:=P3 F G[0]
    exact⟨h1,h2,h3⟩
   obtain⟨k,k0,k1,k2,k3,k4⟩:=hu
   simp only[g8,Nat.reduceBEq,Nat.reduceLT,Nat.reduceSub,k0,e0,e1,e2,e3,a0N,a0S,a5g,a5h,a4Z,a4J,Z0,Y6,Z1,Y8,Z6,a1U,show((0:Nat)=1)=False from by simp,if_false]
   refine⟨fun hk=> ?_,fun hk=> ?_⟩
   ·have hkG:k<G.length:=by omega
    simp only[j8 hkG,I7 hkG,r9 k hkG]
    obtain⟨h1,h2⟩:=a0Q rG hN.cf k2 k3 hkG
    have h3:=P3 (u.d 17) G[k]
    rw[f8 ((k:Int)+1) (by omega) (by omega)]
    exact⟨by omega,by omega,by omega,⟨k+1,rfl,by omega,h1,h2,by omega⟩,by omega⟩
   ·have hkG:k=G.length:=by omega
    rw[hkG] at k3
    exact TAIL _ _ hO1 (b2i rF rG hN.cf k2 k3)
  ·have hG:G=[]:=List.eq_nil_of_length_eq_zero (by omega)
   exact TAIL _ _ hO1 (by rw[hG];rfl)
end Go.Proofs.YtldbejmgalhdaaaGreat
