/- SD, merged: TU2, U3. -/
import Derived.Test.YtbbjlleaofgddaaGreatSC
set_option linter.unusedSimpArgs false
set_option linter.unusedVariables false
namespace Go.Proofs.YtbbjlleaofgddaaGreat
open Go.RowKit
def a8N:TT i8:=
(.ite (.cmp .eql (.ar .sub .i64 (.var 2) (.var 1)) (.lit 1))
 (.loop 0 2000 ⟨[(0,(.var 2)),(1,(.var 3))],[],[]⟩
 (.ite (.cmp .lss (.var 2000) (.var 2001))
 (.ob (.tru (.cmp .leq (.lit 0) (.wr .i64 (.ar .shr .u64 (.wr .u64 (.ar .add .i64 (.var 2000) (.var 2001))) (.lit 1)))))
 (.ob (.tru (.cmp .lss (.wr .i64 (.ar .shr .u64 (.wr .u64 (.ar .add .i64 (.var 2000) (.var 2001))) (.lit 1))) (.len (.var 0))))
 (.ob (.tru (.cmp .leq (.lit 0) (.var 1)))
 (.ob (.tru (.cmp .lss (.var 1) (.len (.var 0))))
 (.ite (.cmp .lss (.fn 230 (.i (.rd (.var 0) (.wr .i64 (.ar .shr .u64 (.wr .u64 (.ar .add .i64 (.var 2000) (.var 2001))) (.lit 1))) 0) (.i (.rd (.var 0) (.wr .i64 (.ar .shr .u64 (.wr .u64 (.ar .add .i64 (.var 2000) (.var 2001))) (.lit 1))) 1) (.i (.rd (.var 0) (.wr .i64 (.ar .shr .u64 (.wr .u64 (.ar .add .i64 (.var 2000) (.var 2001))) (.lit 1))) 2) (.i (.rd (.var 0) (.wr .i64 (.ar .shr .u64 (.wr .u64 (.ar .add .i64 (.var 2000) (.var 2001))) (.lit 1))) 3) (.i (.rd (.var 0) (.wr .i64 (.ar .shr .u64 (.wr .u64 (.ar .add .i64 (.var 2000) (.var 2001))) (.lit 1))) 4) (.i (.rd (.var 0) (.wr .i64 (.ar .shr .u64 (.wr .u64 (.ar .add .i64 (.var 2000) (.var 2001))) (.lit 1))) 5) (.x (.rd (.var 0) (.wr .i64 (.ar .shr .u64 (.wr .u64 (.ar .add .i64 (.var 2000) (.var 2001))) (.lit 1))) 6) (.i (.rd (.var 0) (.var 1) 0) (.i (.rd (.var 0) (.var 1) 1) (.i (.rd (.var 0) (.var 1) 2) (.i (.rd (.var 0) (.var 1) 3) (.i (.rd (.var 0) (.var 1) 4) (.i (.rd (.var 0) (.var 1) 5) (.x (.rd (.var 0) (.var 1) 6) .nil))))))))))))))) (.lit 0))
 (.next 0 ⟨[(0,(.ar .add .i64 (.wr .i64 (.ar .shr .u64 (.wr .u64 (.ar .add .i64 (.var 2000) (.var 2001))) (.lit 1))) (.lit 1))),(1,(.var 2001))],[],[]⟩)
 (.next 0 ⟨[(0,(.var 2000)),(1,(.wr .i64 (.ar .shr .u64 (.wr .u64 (.ar .add .i64 (.var 2000) (.var 2001))) (.lit 1))))],[],[]⟩))))))
 (.loop 1 3000 ⟨[(0,(.var 1))],[],[(1,(.var 0))]⟩
 (.ite (.cmp .lss (.var 3000) (.ar .sub .i64 (.var 2000) (.lit 1)))
 (.ob (.tru (.cmp .leq (.lit 0) (.ar .add .i64 (.var 3000) (.lit 1))))
 (.ob (.tru (.cmp .lss (.ar .add .i64 (.var 3000) (.lit 1)) (.len (.var 3001))))
 (.ob (.tru (.cmp .leq (.lit 0) (.var 3000)))
 (.ob (.tru (.cmp .lss (.var 3000) (.len (.var 3001))))
 (.ob (.tru (.cmp .leq (.lit 0) (.var 3000)))
 (.ob (.tru (.cmp .lss (.var 3000) (.len (.var 3001))))
 (.ob (.tru (.cmp .leq (.lit 0) (.ar .add .i64 (.var 3000) (.lit 1))))
 (.ob (.tru (.cmp .lss (.ar .add .i64 (.var 3000) (.lit 1)) (.len (.upd (.var 3001) (.var 3000) 0 (.i (.rd (.var 3001) (.ar .add .i64 (.var 3000) (.lit 1)) 0) (.i (.rd (.var 3001) (.ar .add .i64 (.var 3000) (.lit 1)) 1) (.i (.rd (.var 3001) (.ar .add .i64 (.var 3000) (.lit 1)) 2) (.i (.rd (.var 3001) (.ar .add .i64 (.var 3000) (.lit 1)) 3) (.i (.rd (.var 3001) (.ar .add .i64 (.var 3000) (.lit 1)) 4) (.i (.rd (.var 3001) (.ar .add .i64 (.var 3000) (.lit 1)) 5) (.x (.rd (.var 3001) (.ar .add .i64 (.var 3000) (.lit 1)) 6) .nil)))))))))))
 (.next 1 ⟨[(0,(.ar .add .i64 (.var 3000) (.lit 1)))],[],[(1,(.upd (.upd (.var 3001) (.var 3000) 0 (.i (.rd (.var 3001) (.ar .add .i64 (.var 3000) (.lit 1)) 0) (.i (.rd (.var 3001) (.ar .add .i64 (.var 3000) (.lit 1)) 1) (.i (.rd (.var 3001) (.ar .add .i64 (.var 3000) (.lit 1)) 2) (.i (.rd (.var 3001) (.ar .add .i64 (.var 3000) (.lit 1)) 3) (.i (.rd (.var 3001) (.ar .add .i64 (.var 3000) (.lit 1)) 4) (.i (.rd (.var 3001) (.ar .add .i64 (.var 3000) (.lit 1)) 5) (.x (.rd (.var 3001) (.ar .add .i64 (.var 3000) (.lit 1)) 6) .nil)))))))) (.ar .add .i64 (.var 3000) (.lit 1)) 0 (.i (.rd (.var 3001) (.var 3000) 0) (.i (.rd (.var 3001) (.var 3000) 1) (.i (.rd (.var 3001) (.var 3000) 2) (.i (.rd (.var 3001) (.var 3000) 3) (.i (.rd (.var 3001) (.var 3000) 4) (.i (.rd (.var 3001) (.var 3000) 5) (.x (.rd (.var 3001) (.var 3000) 6) .nil)))))))))]⟩)))))))))
 (.ret ((.tup []),[(0,(.own 29 f7 (.var 3001) (.lit 0))),(0,(.own 29 f7 (.var 0) (.lit 0)))],3))))))
 (.ite (.cmp .eql (.ar .sub .i64 (.var 3) (.var 2)) (.lit 1))
 (.loop 0 2000 ⟨[(0,(.var 1)),(1,(.var 2))],[],[]⟩
 (.ite (.cmp .lss (.var 2000) (.var 2001))
 (.ob (.tru (.cmp .leq (.lit 0) (.var 2)))
 (.ob (.tru (.cmp .lss (.var 2) (.len (.var 0))))
 (.ob (.tru (.cmp .leq (.lit 0) (.wr .i64 (.ar .shr .u64 (.wr .u64 (.ar .add .i64 (.var 2000) (.var 2001))) (.lit 1)))))
 (.ob (.tru (.cmp .lss (.wr .i64 (.ar .shr .u64 (.wr .u64 (.ar .add .i64 (.var 2000) (.var 2001))) (.lit 1))) (.len (.var 0))))
 (.ite (.not (.cmp .lss (.fn 230 (.i (.rd (.var 0) (.var 2) 0) (.i (.rd (.var 0) (.var 2) 1) (.i (.rd (.var 0) (.var 2) 2) (.i (.rd (.var 0) (.var 2) 3) (.i (.rd (.var 0) (.var 2) 4) (.i (.rd (.var 0) (.var 2) 5) (.x (.rd (.var 0) (.var 2) 6) (.i (.rd (.var 0) (.wr .i64 (.ar .shr .u64 (.wr .u64 (.ar .add .i64 (.var 2000) (.var 2001))) (.lit 1))) 0) (.i (.rd (.var 0) (.wr .i64 (.ar .shr .u64 (.wr .u64 (.ar .add .i64 (.var 2000) (.var 2001))) (.lit 1))) 1) (.i (.rd (.var 0) (.wr .i64 (.ar .shr .u64 (.wr .u64 (.ar .add .i64 (.var 2000) (.var 2001))) (.lit 1))) 2) (.i (.rd (.var 0) (.wr .i64 (.ar .shr .u64 (.wr .u64 (.ar .add .i64 (.var 2000) (.var 2001))) (.lit 1))) 3) (.i (.rd (.var 0) (.wr .i64 (.ar .shr .u64 (.wr .u64 (.ar .add .i64 (.var 2000) (.var 2001))) (.lit 1))) 4) (.i (.rd (.var 0) (.wr .i64 (.ar .shr .u64 (.wr .u64 (.ar .add .i64 (.var 2000) (.var 2001))) (.lit 1))) 5) (.x (.rd (.var 0) (.wr .i64 (.ar .shr .u64 (.wr .u64 (.ar .add .i64 (.var 2000) (.var 2001))) (.lit 1))) 6) .nil))))))))))))))) (.lit 0)))
 (.next 0 ⟨[(0,(.ar .add .i64 (.wr .i64 (.ar .shr .u64 (.wr .u64 (.ar .add .i64 (.var 2000) (.var 2001))) (.lit 1))) (.lit 1))),(1,(.var 2001))],[],[]⟩)
 (.next 0 ⟨[(0,(.var 2000)),(1,(.wr .i64 (.ar .shr .u64 (.wr .u64 (.ar .add .i64 (.var 2000) (.var 2001))) (.lit 1))))],[],[]⟩))))))
 (.loop 1 3000 ⟨[(0,(.var 2))],[],[(1,(.var 0))]⟩
 (.ite (.cmp .gtr (.var 3000) (.var 2000))
 (.ob (.tru (.cmp .leq (.lit 0) (.ar .sub .i64 (.var 3000) (.lit 1))))
 (.ob (.tru (.cmp .lss (.ar .sub .i64 (.var 3000) (.lit 1)) (.len (.var 3001))))
 (.ob (.tru (.cmp .leq (.lit 0) (.var 3000)))
 (.ob (.tru (.cmp .lss (.var 3000) (.len (.var 3001))))
 (.ob (.tru (.cmp .leq (.lit 0) (.var 3000)))
 (.ob (.tru (.cmp .lss (.var 3000) (.len (.var 3001))))
 (.ob (.tru (.cmp .leq (.lit 0) (.ar .sub .i64 (.var 3000) (.lit 1))))
 (.ob (.tru (.cmp .lss (.ar .sub .i64 (.var 3000) (.lit 1)) (.len (.upd (.var 3001) (.var 3000) 0 (.i (.rd (.var 3001) (.ar .sub .i64 (.var 3000) (.lit 1)) 0) (.i (.rd (.var 3001) (.ar .sub .i64 (.var 3000) (.lit 1)) 1) (.i (.rd (.var 3001) (.ar .sub .i64 (.var 3000) (.lit 1)) 2) (.i (.rd (.var 3001) (.ar .sub .i64 (.var 3000) (.lit 1)) 3) (.i (.rd (.var 3001) (.ar .sub .i64 (.var 3000) (.lit 1)) 4) (.i (.rd (.var 3001) (.ar .sub .i64 (.var 3000) (.lit 1)) 5) (.x (.rd (.var 3001) (.ar .sub .i64 (.var 3000) (.lit 1)) 6) .nil)))))))))))
 (.next 1 ⟨[(0,(.ar .sub .i64 (.var 3000) (.lit 1)))],[],[(1,(.upd (.upd (.var 3001) (.var 3000) 0 (.i (.rd (.var 3001) (.ar .sub .i64 (.var 3000) (.lit 1)) 0) (.i (.rd (.var 3001) (.ar .sub .i64 (.var 3000) (.lit 1)) 1) (.i (.rd (.var 3001) (.ar .sub .i64 (.var 3000) (.lit 1)) 2) (.i (.rd (.var 3001) (.ar .sub .i64 (.var 3000) (.lit 1)) 3) (.i (.rd (.var 3001) (.ar .sub .i64 (.var 3000) (.lit 1)) 4) (.i (.rd (.var 3001) (.ar .sub .i64 (.var 3000) (.lit 1)) 5) (.x (.rd (.var 3001) (.ar .sub .i64 (.var 3000) (.lit 1)) 6) .nil)))))))) (.ar .sub .i64 (.var 3000) (.lit 1)) 0 (.i (.rd (.var 3001) (.var 3000) 0) (.i (.rd (.var 3001) (.var 3000) 1) (.i (.rd (.var 3001) (.var 3000) 2) (.i (.rd (.var 3001) (.var 3000) 3) (.i (.rd (.var 3001) (.var 3000) 4) (.i (.rd (.var 3001) (.var 3000) 5) (.x (.rd (.var 3001) (.var 3000) 6) .nil)))))))))]⟩)))))))))
 (.ret ((.tup []),[(0,(.own 29 f7 (.var 3001) (.lit 0))),(0,(.own 29 f7 (.var 0) (.lit 0)))],3))))))
 (.loop 0 2000 ⟨[],[(0,(.lit false))],[]⟩
 (.ite (.var 2000)
 (.loop 1 3000 ⟨[(0,(.var 2001)),(1,(.var 2002))],[],[]⟩
 (.ite (.cmp .lss (.var 3000) (.var 3001))
 (.ob (.tru (.cmp .leq (.lit 0) (.ar .sub .i64 (.ar .sub .i64 (.ar .add .i64 (.wr .i64 (.ar .shr .u64 (.wr .u64 (.ar .add .i64 (.var 1) (.var 3))) (.lit 1))) (.var 2)) (.lit 1)) (.wr .i64 (.ar .shr .u64 (.wr .u64 (.ar .add .i64 (.var 3000) (.var 3001))) (.lit 1))))))
 (.ob (.tru (.cmp .lss (.ar .sub .i64 (.ar .sub .i64 (.ar .add .i64 (.wr .i64 (.ar .shr .u64 (.wr .u64 (.ar .add .i64 (.var 1) (.var 3))) (.lit 1))) (.var 2)) (.lit 1)) (.wr .i64 (.ar .shr .u64 (.wr .u64 (.ar .add .i64 (.var 3000) (.var 3001))) (.lit 1)))) (.len (.var 0))))
 (.ob (.tru (.cmp .leq (.lit 0) (.wr .i64 (.ar .shr .u64 (.wr .u64 (.ar .add .i64 (.var 3000) (.var 3001))) (.lit 1)))))
 (.ob (.tru (.cmp .lss (.wr .i64 (.ar .shr .u64 (.wr .u64 (.ar .add .i64 (.var 3000) (.var 3001))) (.lit 1))) (.len (.var 0))))
 (.ite (.not (.cmp .lss (.fn 230 (.i (.rd (.var 0) (.ar .sub .i64 (.ar .sub .i64 (.ar .add .i64 (.wr .i64 (.ar .shr .u64 (.wr .u64 (.ar .add .i64 (.var 1) (.var 3))) (.lit 1))) (.var 2)) (.lit 1)) (.wr .i64 (.ar .shr .u64 (.wr .u64 (.ar .add .i64 (.var 3000) (.var 3001))) (.lit 1)))) 0) (.i (.rd (.var 0) (.ar .sub .i64 (.ar .sub .i64 (.ar .add .i64 (.wr .i64 (.ar .shr .u64 (.wr .u64 (.ar .add .i64 (.var 1) (.var 3))) (.lit 1))) (.var 2)) (.lit 1)) (.wr .i64 (.ar .shr .u64 (.wr .u64 (.ar .add .i64 (.var 3000) (.var 3001))) (.lit 1)))) 1) (.i (.rd (.var 0) (.ar .sub .i64 (.ar .sub .i64 (.ar .add .i64 (.wr .i64 (.ar .shr .u64 (.wr .u64 (.ar .add .i64 (.var 1) (.var 3))) (.lit 1))) (.var 2)) (.lit 1)) (.wr .i64 (.ar .shr .u64 (.wr .u64 (.ar .add .i64 (.var 3000) (.var 3001))) (.lit 1)))) 2) (.i (.rd (.var 0) (.ar .sub .i64 (.ar .sub .i64 (.ar .add .i64 (.wr .i64 (.ar .shr .u64 (.wr .u64 (.ar .add .i64 (.var 1) (.var 3))) (.lit 1))) (.var 2)) (.lit 1)) (.wr .i64 (.ar .shr .u64 (.wr .u64 (.ar .add .i64 (.var 3000) (.var 3001))) (.lit 1)))) 3) (.i (.rd (.var 0) (.ar .sub .i64 (.ar .sub .i64 (.ar .add .i64 (.wr .i64 (.ar .shr .u64 (.wr .u64 (.ar .add .i64 (.var 1) (.var 3))) (.lit 1))) (.var 2)) (.lit 1)) (.wr .i64 (.ar .shr .u64 (.wr .u64 (.ar .add .i64 (.var 3000) (.var 3001))) (.lit 1)))) 4) (.i (.rd (.var 0) (.ar .sub .i64 (.ar .sub .i64 (.ar .add .i64 (.wr .i64 (.ar .shr .u64 (.wr .u64 (.ar .add .i64 (.var 1) (.var 3))) (.lit 1))) (.var 2)) (.lit 1)) (.wr .i64 (.ar .shr .u64 (.wr .u64 (.ar .add .i64 (.var 3000) (.var 3001))) (.lit 1)))) 5) (.x (.rd (.var 0) (.ar .sub .i64 (.ar .sub .i64 (.ar .add .i64 (.wr .i64 (.ar .shr .u64 (.wr .u64 (.ar .add .i64 (.var 1) (.var 3))) (.lit 1))) (.var 2)) (.lit 1)) (.wr .i64 (.ar .shr .u64 (.wr .u64 (.ar .add .i64 (.var 3000) (.var 3001))) (.lit 1)))) 6) (.i (.rd (.var 0) (.wr .i64 (.ar .shr .u64 (.wr .u64 (.ar .add .i64 (.var 3000) (.var 3001))) (.lit 1))) 0) (.i (.rd (.var 0) (.wr .i64 (.ar .shr .u64 (.wr .u64 (.ar .add .i64 (.var 3000) (.var 3001))) (.lit 1))) 1) (.i (.rd (.var 0) (.wr .i64 (.ar .shr .u64 (.wr .u64 (.ar .add .i64 (.var 3000) (.var 3001))) (.lit 1))) 2) (.i (.rd (.var 0) (.wr .i64 (.ar .shr .u64 (.wr .u64 (.ar .add .i64 (.var 3000) (.var 3001))) (.lit 1))) 3) (.i (.rd (.var 0) (.wr .i64 (.ar .shr .u64 (.wr .u64 (.ar .add .i64 (.var 3000) (.var 3001))) (.lit 1))) 4) (.i (.rd (.var 0) (.wr .i64 (.ar .shr .u64 (.wr .u64 (.ar .add .i64 (.var 3000) (.var 3001))) (.lit 1))) 5) (.x (.rd (.var 0) (.wr .i64 (.ar .shr .u64 (.wr .u64 (.ar .add .i64 (.var 3000) (.var 3001))) (.lit 1))) 6) .nil))))))))))))))) (.lit 0)))
 (.next 1 ⟨[(0,(.ar .add .i64 (.wr .i64 (.ar .shr .u64 (.wr .u64 (.ar .add .i64 (.var 3000) (.var 3001))) (.lit 1))) (.lit 1))),(1,(.var 3001))],[],[]⟩)
 (.next 1 ⟨[(0,(.var 3000)),(1,(.wr .i64 (.ar .shr .u64 (.wr .u64 (.ar .add .i64 (.var 3000) (.var 3001))) (.lit 1))))],[],[]⟩))))))
 (.loop 2 4000 ⟨[],[(0,(.lit false))],[]⟩
 (.ite (.var 4000)
 (.loop 3 5000 ⟨[],[(0,(.lit false))],[]⟩
 (.ite (.var 5000)
 (.loop 4 6000 ⟨[],[(0,(.lit false))],[]⟩
 (.ite (.var 6000)
 (.loop 5 7000 ⟨[],[(0,(.lit false))],[]⟩
 (.ite (.var 7000)
 (.ite (.cmp .lss (.wr .i64 (.ar .shr .u64 (.wr .u64 (.ar .add .i64 (.var 1) (.var 3))) (.lit 1))) (.ar .sub .i64 (.ar .add .i64 (.wr .i64 (.ar .shr .u64 (.wr .u64 (.ar .add .i64 (.var 1) (.var 3))) (.lit 1))) (.var 2)) (.var 3000)))
 (.ite (.cmp .lss (.ar .sub .i64 (.ar .add .i64 (.wr .i64 (.ar .shr .u64 (.wr .u64 (.ar .add .i64 (.var 1) (.var 3))) (.lit 1))) (.var 2)) (.var 3000)) (.var 3))
 (.ob (.tru (.fn 260 (.x (.var 7001) (.i (.wr .i64 (.ar .shr .u64 (.wr .u64 (.ar .add .i64 (.var 1) (.var 3))) (.lit 1))) (.i (.ar .sub .i64 (.ar .add .i64 (.wr .i64 (.ar .shr .u64 (.wr .u64 (.ar .add .i64 (.var 1) (.var 3))) (.lit 1))) (.var 2)) (.var 3000)) (.i (.var 3) .nil))))))
 (.ret ((.tup []),[(0,(.own 29 f7 (.fn 3 (.x (.var 7001) (.i (.wr .i64 (.ar .shr .u64 (.wr .u64 (.ar .add .i64 (.var 1) (.var 3))) (.lit 1))) (.i (.ar .sub .i64 (.ar .add .i64 (.wr .i64 (.ar .shr .u64 (.wr .u64 (.ar .add .i64 (.var 1) (.var 3))) (.lit 1))) (.var 2)) (.var 3000)) (.i (.var 3) .nil))))) (.lit 0))),(0,(.own 29 f7 (.var 7001) (.lit 0))),(0,(.own 29 f7 (.var 5001) (.lit 0))),(0,(.own 29 f7 (.var 5001) (.lit 0))),(0,(.own 29 f7 (.var 0) (.lit 0))),(0,(.own 29 f7 (.var 0) (.lit 0))),(0,(.own 29 f7 (.var 0) (.lit 0)))],7)))
 (.ret ((.tup []),[(0,(.own 29 f7 (.var 7001) (.lit 0))),(0,(.own 29 f7 (.var 5001) (.lit 0))),(0,(.own 29 f7 (.var 5001) (.lit 0))),(0,(.own 29 f7 (.var 0) (.lit 0))),(0,(.own 29 f7 (.var 0) (.lit 0))),(0,(.own 29 f7 (.var 0) (.lit 0)))],7)))
 (.ret ((.tup []),[(0,(.own 29 f7 (.var 7001) (.lit 0))),(0,(.own 29 f7 (.var 5001) (.lit 0))),(0,(.own 29 f7 (.var 5001) (.lit 0))),(0,(.own 29 f7 (.var 0) (.lit 0))),(0,(.own 29 f7 (.var 0) (.lit 0))),(0,(.own 29 f7 (.var 0) (.lit 0)))],7)))
 (.ite (.var 6002)
 (.ob (.tru (.fn 260 (.x (.var 5001) (.i (.var 1) (.i (.var 3000) (.i (.wr .i64 (.ar .shr .u64 (.wr .u64 (.ar .add .i64 (.var 1) (.var 3))) (.lit 1))) .nil))))))
 (.next 5 ⟨[],[(0,(.lit true))],[(1,(.fn 3 (.x (.var 5001) (.i (.var 1) (.i (.var 3000) (.i (.wr .i64 (.ar .shr .u64 (.wr .u64 (.ar .add .i64 (.var 1) (.var 3))) (.lit 1))) .nil))))))]⟩))
 (.next 5 ⟨[],[(0,(.lit true))],[(1,(.var 5001))]⟩))))
 (.ite (.cmp .lss (.var 1) (.var 3000))
 (.next 4 ⟨[],[(1,(.lit true)),(2,(.cmp .lss (.var 3000) (.wr .i64 (.ar .shr .u64 (.wr .u64 (.ar .add .i64 (.var 1) (.var 3))) (.lit 1))))),(0,(.lit true))],[]⟩)
 (.next 4 ⟨[],[(1,(.lit false)),(2,(.lit false)),(0,(.lit true))],[]⟩))))
 (.ite (.var 4002)
 (.ob (.tru (.fn 250 (.x (.var 0) (.i (.var 3000) (.i (.var 2) (.i (.ar .sub .i64 (.ar .add .i64 (.wr .i64 (.ar .shr .u64 (.wr .u64 (.ar .add .i64 (.var 1) (.var 3))) (.lit 1))) (.var 2)) (.var 3000)) .nil))))))
 (.next 3 ⟨[],[(0,(.lit true))],[(1,(.fn 2 (.x (.var 0) (.i (.var 3000) (.i (.var 2) (.i (.ar .sub .i64 (.ar .add .i64 (.wr .i64 (.ar .shr .u64 (.wr .u64 (.ar .add .i64 (.var 1) (.var 3))) (.lit 1))) (.var 2)) (.var 3000)) .nil))))))]⟩))
 (.next 3 ⟨[],[(0,(.lit true))],[(1,(.var 0))]⟩))))
 (.ite (.cmp .lss (.var 3000) (.var 2))
 (.next 2 ⟨[],[(1,(.lit true)),(2,(.cmp .lss (.var 2) (.ar .sub .i64 (.ar .add .i64 (.wr .i64 (.ar .shr .u64 (.wr .u64 (.ar .add .i64 (.var 1) (.var 3))) (.lit 1))) (.var 2)) (.var 3000)))),(0,(.lit true))],[]⟩)
 (.next 2 ⟨[],[(1,(.lit false)),(2,(.lit false)),(0,(.lit true))],[]⟩))))))
 (.ite (.cmp .gtr (.var 2) (.wr .i64 (.ar .shr .u64 (.wr .u64 (.ar .add .i64 (.var 1) (.var 3))) (.lit 1))))
 (.next 0 ⟨[(1,(.ar .sub .i64 (.ar .add .i64 (.wr .i64 (.ar .shr .u64 (.wr .u64 (.ar .add .i64 (.var 1) (.var 3))) (.lit 1))) (.var 2)) (.var 3))),(2,(.wr .i64 (.ar .shr .u64 (.wr .u64 (.ar .add .i64 (.var 1) (.var 3))) (.lit 1))))],[(0,(.lit true))],[]⟩)
 (.next 0 ⟨[(1,(.var 1)),(2,(.var 2))],[(0,(.lit true))],[]⟩))))))
def b8E:List (Nat×St):=[
(1,⟨(List.append [(.v (.one (.z (.own 0 (.lit 0))))),(.v (.one (.z (.int .i64 (.var 1))))),(.v (.one (.z (.int .i64 (.var 2))))),(.v (.one (.z (.int .i64 (.var 3))))),(.v (.one (.z (.clo 65 []))))] (List.append (List.replicate 5 V.any) (List.append [(.v (.one (.z (.int .i64 (.var 2000))))),(.v (.one (.z (.int .i64 (.var 2001)))))] (List.append (List.replicate 13 V.any) (List.append [(.v (.one (.z (.int .i64 (.var 2))))),(.v (.one (.z (.int .i64 (.var 1))))),(.v (.one (.z (.int .i64 (.ar .sub .i64 (.var 2) (.var 1)))))),(.v (.one (.z (.bool (.cmp .eql (.ar .sub .i64 (.var 2) (.var 1)) (.lit 1)))))),(.v (.one (.z (.int .i64 (.var 2))))),(.v (.one (.z (.int .i64 (.var 3)))))] (List.replicate 189 V.any)))))),[(0,(.own 29 f7 (.var 0) (.lit 0)))],2,[]⟩),
(2,⟨(List.append [(.v (.one (.z (.own 0 (.lit 0))))),(.v (.one (.z (.int .i64 (.var 1))))),(.v (.one (.z (.int .i64 (.var 2))))),(.v (.one (.z (.int .i64 (.var 3))))),(.v (.one (.z (.clo 65 []))))] (List.append (List.replicate 5 V.any) (List.append [(.v (.one (.z (.int .i64 (.var 2000))))),(.v (.one (.z (.int .i64 (.var 2001))))),(.v (.one (.z .any))),(.v (.one (.z (.int .i64 (.var 3000)))))] (List.append (List.replicate 11 V.any) (List.append [(.v (.one (.z (.int .i64 (.var 2))))),(.v (.one (.z (.int .i64 (.var 1))))),(.v (.one (.z (.int .i64 (.ar .sub .i64 (.var 2) (.var 1)))))),(.v (.one (.z (.bool (.cmp .eql (.ar .sub .i64 (.var 2) (.var 1)) (.lit 1)))))),(.v (.one (.z (.int .i64 (.var 2))))),(.v (.one (.z (.int .i64 (.var 3))))),(.v (.one (.z (.int .i64 (.var 2000))))),(.v (.one (.z (.int .i64 (.var 2001))))),(.v (.one (.z (.bool (.cmp .lss (.var 2000) (.var 2001))))))] (List.append (List.replicate 20 V.any) (List.append [(.v (.one (.z (.int .i64 (.var 1)))))] (List.replicate 165 V.any)))))))),[(0,(.own 29 f7 (.var 3001) (.lit 0)))],3,[]⟩),
(1,⟨(List.append [(.v (.one (.z (.own 0 (.lit 0))))),(.v (.one (.z (.int .i64 (.var 1))))),(.v (.one (.z (.int .i64 (.var 2))))),(.v (.one (.z (.int .i64 (.var 3))))),(.v (.one (.z (.clo 65 []))))] (List.append (List.replicate 9 V.any) (List.append [(.v (.one (.z (.int .i64 (.var 2000))))),(.v (.one (.z (.int .i64 (.var 2001)))))] (List.append (List.replicate 9 V.any) (List.append [(.v (.one (.z (.int .i64 (.var 2))))),(.v (.one (.z (.int .i64 (.var 1))))),(.v (.one (.z (.int .i64 (.ar .sub .i64 (.var 2) (.var 1)))))),(.v (.one (.z (.bool (.cmp .eql (.ar .sub .i64 (.var 2) (.var 1)) (.lit 1))))))] (List.append (List.replicate 48 V.any) (List.append [(.v (.one (.z (.int .i64 (.var 3))))),(.v (.one (.z (.int .i64 (.var 2))))),(.v (.one (.z (.int .i64 (.ar .sub .i64 (.var 3) (.var 2)))))),(.v (.one (.z (.bool (.cmp .eql (.ar .sub .i64 (.var 3) (.var 2)) (.lit 1)))))),(.v (.one (.z (.int .i64 (.var 1))))),(.v (.one (.z (.int .i64 (.var 2)))))] (List.replicate 137 V.any)))))))),[(0,(.own 29 f7 (.var 0) (.lit 0)))],2,[]⟩),
(2,⟨(List.append [(.v (.one (.z (.own 0 (.lit 0))))),(.v (.one (.z (.int .i64 (.var 1))))),(.v (.one (.z (.int .i64 (.var 2))))),(.v (.one (.z (.int .i64 (.var 3))))),(.v (.one (.z (.clo 65 []))))] (List.append (List.replicate 9 V.any) (List.append [(.v (.one (.z (.int .i64 (.var 2000))))),(.v (.one (.z (.int .i64 (.var 2001))))),(.v (.one (.z .any))),(.v (.one (.z (.int .i64 (.var 3000)))))] (List.append (List.replicate 7 V.any) (List.append [(.v (.one (.z (.int .i64 (.var 2))))),(.v (.one (.z (.int .i64 (.var 1))))),(.v (.one (.z (.int .i64 (.ar .sub .i64 (.var 2) (.var 1)))))),(.v (.one (.z (.bool (.cmp .eql (.ar .sub .i64 (.var 2) (.var 1)) (.lit 1))))))] (List.append (List.replicate 48 V.any) (List.append [(.v (.one (.z (.int .i64 (.var 3))))),(.v (.one (.z (.int .i64 (.var 2))))),(.v (.one (.z (.int .i64 (.ar .sub .i64 (.var 3) (.var 2)))))),(.v (.one (.z (.bool (.cmp .eql (.ar .sub .i64 (.var 3) (.var 2)) (.lit 1)))))),(.v (.one (.z (.int .i64 (.var 1))))),(.v (.one (.z (.int .i64 (.var 2))))),(.v (.one (.z (.int .i64 (.var 2000))))),(.v (.one (.z (.int .i64 (.var 2001))))),(.v (.one (.z (.bool (.cmp .lss (.var 2000) (.var 2001))))))] (List.append (List.replicate 21 V.any) (List.append [(.v (.one (.z (.int .i64 (.var 2)))))] (List.replicate 112 V.any)))))))))),[(0,(.own 29 f7 (.var 3001) (.lit 0)))],3,[]⟩),
(2,⟨(List.append [(.v (.one (.z (.own 0 (.lit 0))))),(.v (.one (.z (.int .i64 (.var 1))))),(.v (.one (.z (.int .i64 (.var 2))))),(.v (.one (.z (.int .i64 (.var 3))))),(.v (.one (.z (.clo 65 []))))] (List.append (List.replicate 13 V.any) (List.append [(.v (.one (.z (.int .i64 (.wr .i64 (.ar .shr .u64 (.wr .u64 (.ar .add .i64 (.var 1) (.var 3))) (.lit 1))))))),(.v (.one (.z (.int .i64 (.ar .add .i64 (.wr .i64 (.ar .shr .u64 (.wr .u64 (.ar .add .i64 (.var 1) (.var 3))) (.lit 1))) (.var 2)))))),(.v (.one (.z (.int .i64 (.var 3000))))),(.v (.one (.z (.int .i64 (.var 3001))))),(.v (.one (.z (.int .i64 (.ar .sub .i64 (.ar .add .i64 (.wr .i64 (.ar .shr .u64 (.wr .u64 (.ar .add .i64 (.var 1) (.var 3))) (.lit 1))) (.var 2)) (.lit 1)))))),(.v (.one (.z .any))),(.v (.one (.z .any))),(.v (.one (.z (.int .i64 (.var 2))))),(.v (.one (.z (.int .i64 (.var 1))))),(.v (.one (.z (.int .i64 (.ar .sub .i64 (.var 2) (.var 1)))))),(.v (.one (.z (.bool (.cmp .eql (.ar .sub .i64 (.var 2) (.var 1)) (.lit 1))))))] (List.append (List.replicate 48 V.any) (List.append [(.v (.one (.z (.int .i64 (.var 3))))),(.v (.one (.z (.int .i64 (.var 2))))),(.v (.one (.z (.int .i64 (.ar .sub .i64 (.var 3) (.var 2)))))),(.v (.one (.z (.bool (.cmp .eql (.ar .sub .i64 (.var 3) (.var 2)) (.lit 1))))))] (List.append (List.replicate 48 V.any) (List.append [(.v (.one (.z (.int .i64 (.var 1))))),(.v (.one (.z (.int .i64 (.var 3))))),(.v (.one (.z (.int .i64 (.ar .add .i64 (.var 1) (.var 3)))))),(.v (.one (.z (.int .u64 (.wr .u64 (.ar .add .i64 (.var 1) (.var 3))))))),(.v (.one (.z (.int .u64 (.ar .shr .u64 (.wr .u64 (.ar .add .i64 (.var 1) (.var 3))) (.lit 1)))))),(.v (.one (.z (.int .i64 (.wr .i64 (.ar .shr .u64 (.wr .u64 (.ar .add .i64 (.var 1) (.var 3))) (.lit 1))))))),(.v (.one (.z (.int .i64 (.wr .i64 (.ar .shr .u64 (.wr .u64 (.ar .add .i64 (.var 1) (.var 3))) (.lit 1))))))),(.v (.one (.z (.int .i64 (.var 2))))),(.v (.one (.z (.int .i64 (.ar .add .i64 (.wr .i64 (.ar .shr .u64 (.wr .u64 (.ar .add .i64 (.var 1) (.var 3))) (.lit 1))) (.var 2)))))),(.v (.one (.z (.int .i64 (.var 2))))),(.v (.one (.z (.int .i64 (.wr .i64 (.ar .shr .u64 (.wr .u64 (.ar .add .i64 (.var 1) (.var 3))) (.lit 1))))))),(.v (.one (.z (.bool (.cmp .gtr (.var 2) (.wr .i64 (.ar .shr .u64 (.wr .u64 (.ar .add .i64 (.var 1) (.var 3))) (.lit 1))))))))] (List.append (List.replicate 6 V.any) (List.append [(.v (.one (.z (.int .i64 (.ar .add .i64 (.wr .i64 (.ar .shr .u64 (.wr .u64 (.ar .add .i64 (.var 1) (.var 3))) (.lit 1))) (.var 2)))))),(.v (.one (.z (.int .i64 (.ar .sub .i64 (.ar .add .i64 (.wr .i64 (.ar .shr .u64 (.wr .u64 (.ar .add .i64 (.var 1) (.var 3))) (.lit 1))) (.var 2)) (.lit 1))))))] (List.replicate 71 V.any)))))))))),[(0,(.own 29 f7 (.var 0) (.lit 0)))],3,[]⟩)]
def b7w:List (FuncId×Nat×Nat×St):=[
(120,1000140,1,⟨(List.append [(.v (.one (.z (.own 0 (.lit 0))))),(.v (.one (.z (.int .i64 (.var 1))))),(.v (.one (.z (.int .i64 (.var 2))))),(.v (.one (.z (.int .i64 (.var 3))))),(.v (.one (.z (.clo 65 []))))] (List.append (List.replicate 13 V.any) (List.append [(.v (.one (.z (.int .i64 (.wr .i64 (.ar .shr .u64 (.wr .u64 (.ar .add .i64 (.var 1) (.var 3))) (.lit 1))))))),(.v (.one (.z (.int .i64 (.ar .add .i64 (.wr .i64 (.ar .shr .u64 (.wr .u64 (.ar .add .i64 (.var 1) (.var 3))) (.lit 1))) (.var 2)))))),(.v (.one (.z (.int .i64 (.var 2001))))),(.v (.one (.z (.int .i64 (.var 2002))))),(.v (.one (.z .any))),(.v (.one (.z .any))),(.v (.one (.z .any))),(.v (.one (.z (.int .i64 (.var 2))))),(.v (.one (.z (.int .i64 (.var 1))))),(.v (.one (.z (.int .i64 (.ar .sub .i64 (.var 2) (.var 1)))))),(.v (.one (.z (.bool (.cmp .eql (.ar .sub .i64 (.var 2) (.var 1)) (.lit 1))))))] (List.append (List.replicate 48 V.any) (List.append [(.v (.one (.z (.int .i64 (.var 3))))),(.v (.one (.z (.int .i64 (.var 2))))),(.v (.one (.z (.int .i64 (.ar .sub .i64 (.var 3) (.var 2)))))),(.v (.one (.z (.bool (.cmp .eql (.ar .sub .i64 (.var 3) (.var 2)) (.lit 1))))))] (List.append (List.replicate 48 V.any) (List.append [(.v (.one (.z (.int .i64 (.var 1))))),(.v (.one (.z (.int .i64 (.var 3))))),(.v (.one (.z (.int .i64 (.ar .add .i64 (.var 1) (.var 3)))))),(.v (.one (.z (.int .u64 (.wr .u64 (.ar .add .i64 (.var 1) (.var 3))))))),(.v (.one (.z (.int .u64 (.ar .shr .u64 (.wr .u64 (.ar .add .i64 (.var 1) (.var 3))) (.lit 1)))))),(.v (.one (.z (.int .i64 (.wr .i64 (.ar .shr .u64 (.wr .u64 (.ar .add .i64 (.var 1) (.var 3))) (.lit 1))))))),(.v (.one (.z (.int .i64 (.wr .i64 (.ar .shr .u64 (.wr .u64 (.ar .add .i64 (.var 1) (.var 3))) (.lit 1))))))),(.v (.one (.z (.int .i64 (.var 2))))),(.v (.one (.z (.int .i64 (.ar .add .i64 (.wr .i64 (.ar .shr .u64 (.wr .u64 (.ar .add .i64 (.var 1) (.var 3))) (.lit 1))) (.var 2)))))),(.v (.one (.z (.int .i64 (.var 2))))),(.v (.one (.z (.int .i64 (.wr .i64 (.ar .shr .u64 (.wr .u64 (.ar .add .i64 (.var 1) (.var 3))) (.lit 1))))))),(.v (.one (.z (.bool (.cmp .gtr (.var 2) (.wr .i64 (.ar .shr .u64 (.wr .u64 (.ar .add .i64 (.var 1) (.var 3))) (.lit 1))))))))] (List.replicate 79 V.any)))))))),[(0,(.own 29 f7 (.var 0) (.lit 0)))],2,[]⟩),
(120,2000178,3,⟨(List.append [(.v (.one (.z (.own 0 (.lit 0))))),(.v (.one (.z (.int .i64 (.var 1))))),(.v (.one (.z (.int .i64 (.var 2))))),(.v (.one (.z (.int .i64 (.var 3))))),(.v (.one (.z (.clo 65 []))))] (List.append (List.replicate 13 V.any) (List.append [(.v (.one (.z (.int .i64 (.wr .i64 (.ar .shr .u64 (.wr .u64 (.ar .add .i64 (.var 1) (.var 3))) (.lit 1))))))),(.v (.one (.z (.int .i64 (.ar .add .i64 (.wr .i64 (.ar .shr .u64 (.wr .u64 (.ar .add .i64 (.var 1) (.var 3))) (.lit 1))) (.var 2)))))),(.v (.one (.z (.int .i64 (.var 3000))))),(.v (.one (.z (.int .i64 (.var 3001))))),(.v (.one (.z (.int .i64 (.ar .sub .i64 (.ar .add .i64 (.wr .i64 (.ar .shr .u64 (.wr .u64 (.ar .add .i64 (.var 1) (.var 3))) (.lit 1))) (.var 2)) (.lit 1)))))),(.v (.one (.z .any))),(.v (.one (.z (.int .i64 (.ar .sub .i64 (.ar .add .i64 (.wr .i64 (.ar .shr .u64 (.wr .u64 (.ar .add .i64 (.var 1) (.var 3))) (.lit 1))) (.var 2)) (.var 3000)))))),(.v (.one (.z (.int .i64 (.var 2))))),(.v (.one (.z (.int .i64 (.var 1))))),(.v (.one (.z (.int .i64 (.ar .sub .i64 (.var 2) (.var 1)))))),(.v (.one (.z (.bool (.cmp .eql (.ar .sub .i64 (.var 2) (.var 1)) (.lit 1))))))] (List.append (List.replicate 48 V.any) (List.append [(.v (.one (.z (.int .i64 (.var 3))))),(.v (.one (.z (.int .i64 (.var 2))))),(.v (.one (.z (.int .i64 (.ar .sub .i64 (.var 3) (.var 2)))))),(.v (.one (.z (.bool (.cmp .eql (.ar .sub .i64 (.var 3) (.var 2)) (.lit 1))))))] (List.append (List.replicate 48 V.any) (List.append [(.v (.one (.z (.int .i64 (.var 1))))),(.v (.one (.z (.int .i64 (.var 3))))),(.v (.one (.z (.int .i64 (.ar .add .i64 (.var 1) (.var 3)))))),(.v (.one (.z (.int .u64 (.wr .u64 (.ar .add .i64 (.var 1) (.var 3))))))),(.v (.one (.z (.int .u64 (.ar .shr .u64 (.wr .u64 (.ar .add .i64 (.var 1) (.var 3))) (.lit 1)))))),(.v (.one (.z (.int .i64 (.wr .i64 (.ar .shr .u64 (.wr .u64 (.ar .add .i64 (.var 1) (.var 3))) (.lit 1))))))),(.v (.one (.z (.int .i64 (.wr .i64 (.ar .shr .u64 (.wr .u64 (.ar .add .i64 (.var 1) (.var 3))) (.lit 1))))))),(.v (.one (.z (.int .i64 (.var 2))))),(.v (.one (.z (.int .i64 (.ar .add .i64 (.wr .i64 (.ar .shr .u64 (.wr .u64 (.ar .add .i64 (.var 1) (.var 3))) (.lit 1))) (.var 2)))))),(.v (.one (.z (.int .i64 (.var 2))))),(.v (.one (.z (.int .i64 (.wr .i64 (.ar .shr .u64 (.wr .u64 (.ar .add .i64 (.var 1) (.var 3))) (.lit 1))))))),(.v (.one (.z (.bool (.cmp .gtr (.var 2) (.wr .i64 (.ar .shr .u64 (.wr .u64 (.ar .add .i64 (.var 1) (.var 3))) (.lit 1))))))))] (List.append (List.replicate 6 V.any) (List.append [(.v (.one (.z (.int .i64 (.ar .add .i64 (.wr .i64 (.ar .shr .u64 (.wr .u64 (.ar .add .i64 (.var 1) (.var 3))) (.lit 1))) (.var 2)))))),(.v (.one (.z (.int .i64 (.ar .sub .i64 (.ar .add .i64 (.wr .i64 (.ar .shr .u64 (.wr .u64 (.ar .add .i64 (.var 1) (.var 3))) (.lit 1))) (.var 2)) (.lit 1)))))),(.v (.one (.z (.int .i64 (.var 3000))))),(.v (.one (.z (.int .i64 (.var 3001))))),(.v (.one (.z (.bool (.cmp .lss (.var 3000) (.var 3001))))))] (List.append (List.replicate 23 V.any) (List.append [(.v (.one (.z (.int .i64 (.ar .add .i64 (.wr .i64 (.ar .shr .u64 (.wr .u64 (.ar .add .i64 (.var 1) (.var 3))) (.lit 1))) (.var 2)))))),(.v (.one (.z (.int .i64 (.var 3000))))),(.v (.one (.z (.int .i64 (.ar .sub .i64 (.ar .add .i64 (.wr .i64 (.ar .shr .u64 (.wr .u64 (.ar .add .i64 (.var 1) (.var 3))) (.lit 1))) (.var 2)) (.var 3000)))))),(.v (.one (.z (.int .i64 (.var 3000))))),(.v (.one (.z (.int .i64 (.var 2))))),(.v (.one (.z (.bool (.cmp .lss (.var 3000) (.var 2)))))),(.v (.one (.z (.bool (.var 4001))))),(.v (.one (.z .any))),(.v (.one (.z .any))),(.v (.one (.z .any))),(.v (.one (.z (.bool (.var 4002)))))] (List.replicate 34 V.any)))))))))))),[(0,(.own 29 f7 (.var 0) (.lit 0)))],4,[]⟩),
(120,1000185,4,⟨(List.append [(.v (.one (.z (.own 0 (.lit 0))))),(.v (.one (.z (.int .i64 (.var 1))))),(.v (.one (.z (.int .i64 (.var 2))))),(.v (.one (.z (.int .i64 (.var 3))))),(.v (.one (.z (.clo 65 []))))] (List.append (List.replicate 13 V.any) (List.append [(.v (.one (.z (.int .i64 (.wr .i64 (.ar .shr .u64 (.wr .u64 (.ar .add .i64 (.var 1) (.var 3))) (.lit 1))))))),(.v (.one (.z (.int .i64 (.ar .add .i64 (.wr .i64 (.ar .shr .u64 (.wr .u64 (.ar .add .i64 (.var 1) (.var 3))) (.lit 1))) (.var 2)))))),(.v (.one (.z (.int .i64 (.var 3000))))),(.v (.one (.z (.int .i64 (.var 3001))))),(.v (.one (.z (.int .i64 (.ar .sub .i64 (.ar .add .i64 (.wr .i64 (.ar .shr .u64 (.wr .u64 (.ar .add .i64 (.var 1) (.var 3))) (.lit 1))) (.var 2)) (.lit 1)))))),(.v (.one (.z .any))),(.v (.one (.z (.int .i64 (.ar .sub .i64 (.ar .add .i64 (.wr .i64 (.ar .shr .u64 (.wr .u64 (.ar .add .i64 (.var 1) (.var 3))) (.lit 1))) (.var 2)) (.var 3000)))))),(.v (.one (.z (.int .i64 (.var 2))))),(.v (.one (.z (.int .i64 (.var 1))))),(.v (.one (.z (.int .i64 (.ar .sub .i64 (.var 2) (.var 1)))))),(.v (.one (.z (.bool (.cmp .eql (.ar .sub .i64 (.var 2) (.var 1)) (.lit 1))))))] (List.append (List.replicate 48 V.any) (List.append [(.v (.one (.z (.int .i64 (.var 3))))),(.v (.one (.z (.int .i64 (.var 2))))),(.v (.one (.z (.int .i64 (.ar .sub .i64 (.var 3) (.var 2)))))),(.v (.one (.z (.bool (.cmp .eql (.ar .sub .i64 (.var 3) (.var 2)) (.lit 1))))))] (List.append (List.replicate 48 V.any) (List.append [(.v (.one (.z (.int .i64 (.var 1))))),(.v (.one (.z (.int .i64 (.var 3))))),(.v (.one (.z (.int .i64 (.ar .add .i64 (.var 1) (.var 3)))))),(.v (.one (.z (.int .u64 (.wr .u64 (.ar .add .i64 (.var 1) (.var 3))))))),(.v (.one (.z (.int .u64 (.ar .shr .u64 (.wr .u64 (.ar .add .i64 (.var 1) (.var 3))) (.lit 1)))))),(.v (.one (.z (.int .i64 (.wr .i64 (.ar .shr .u64 (.wr .u64 (.ar .add .i64 (.var 1) (.var 3))) (.lit 1))))))),(.v (.one (.z (.int .i64 (.wr .i64 (.ar .shr .u64 (.wr .u64 (.ar .add .i64 (.var 1) (.var 3))) (.lit 1))))))),(.v (.one (.z (.int .i64 (.var 2))))),(.v (.one (.z (.int .i64 (.ar .add .i64 (.wr .i64 (.ar .shr .u64 (.wr .u64 (.ar .add .i64 (.var 1) (.var 3))) (.lit 1))) (.var 2)))))),(.v (.one (.z (.int .i64 (.var 2))))),(.v (.one (.z (.int .i64 (.wr .i64 (.ar .shr .u64 (.wr .u64 (.ar .add .i64 (.var 1) (.var 3))) (.lit 1))))))),(.v (.one (.z (.bool (.cmp .gtr (.var 2) (.wr .i64 (.ar .shr .u64 (.wr .u64 (.ar .add .i64 (.var 1) (.var 3))) (.lit 1))))))))] (List.append (List.replicate 6 V.any) (List.append [(.v (.one (.z (.int .i64 (.ar .add .i64 (.wr .i64 (.ar .shr .u64 (.wr .u64 (.ar .add .i64 (.var 1) (.var 3))) (.lit 1))) (.var 2)))))),(.v (.one (.z (.int .i64 (.ar .sub .i64 (.ar .add .i64 (.wr .i64 (.ar .shr .u64 (.wr .u64 (.ar .add .i64 (.var 1) (.var 3))) (.lit 1))) (.var 2)) (.lit 1)))))),(.v (.one (.z (.int .i64 (.var 3000))))),(.v (.one (.z (.int .i64 (.var 3001))))),(.v (.one (.z (.bool (.cmp .lss (.var 3000) (.var 3001))))))] (List.append (List.replicate 23 V.any) (List.append [(.v (.one (.z (.int .i64 (.ar .add .i64 (.wr .i64 (.ar .shr .u64 (.wr .u64 (.ar .add .i64 (.var 1) (.var 3))) (.lit 1))) (.var 2)))))),(.v (.one (.z (.int .i64 (.var 3000))))),(.v (.one (.z (.int .i64 (.ar .sub .i64 (.ar .add .i64 (.wr .i64 (.ar .shr .u64 (.wr .u64 (.ar .add .i64 (.var 1) (.var 3))) (.lit 1))) (.var 2)) (.var 3000)))))),(.v (.one (.z (.int .i64 (.var 3000))))),(.v (.one (.z (.int .i64 (.var 2))))),(.v (.one (.z (.bool (.cmp .lss (.var 3000) (.var 2)))))),(.v (.one (.z (.bool (.var 4001))))),(.v (.one (.z .any))),(.v (.one (.z .any))),(.v (.one (.z .any))),(.v (.one (.z (.bool (.var 4002)))))] (List.replicate 34 V.any)))))))))))),[(0,(.own 29 f7 (.var 5001) (.lit 0)))],5,[]⟩),
(120,2000192,5,⟨(List.append [(.v (.one (.z (.own 0 (.lit 0))))),(.v (.one (.z (.int .i64 (.var 1))))),(.v (.one (.z (.int .i64 (.var 2))))),(.v (.one (.z (.int .i64 (.var 3))))),(.v (.one (.z (.clo 65 []))))] (List.append (List.replicate 13 V.any) (List.append [(.v (.one (.z (.int .i64 (.wr .i64 (.ar .shr .u64 (.wr .u64 (.ar .add .i64 (.var 1) (.var 3))) (.lit 1))))))),(.v (.one (.z (.int .i64 (.ar .add .i64 (.wr .i64 (.ar .shr .u64 (.wr .u64 (.ar .add .i64 (.var 1) (.var 3))) (.lit 1))) (.var 2)))))),(.v (.one (.z (.int .i64 (.var 3000))))),(.v (.one (.z (.int .i64 (.var 3001))))),(.v (.one (.z (.int .i64 (.ar .sub .i64 (.ar .add .i64 (.wr .i64 (.ar .shr .u64 (.wr .u64 (.ar .add .i64 (.var 1) (.var 3))) (.lit 1))) (.var 2)) (.lit 1)))))),(.v (.one (.z .any))),(.v (.one (.z (.int .i64 (.ar .sub .i64 (.ar .add .i64 (.wr .i64 (.ar .shr .u64 (.wr .u64 (.ar .add .i64 (.var 1) (.var 3))) (.lit 1))) (.var 2)) (.var 3000)))))),(.v (.one (.z (.int .i64 (.var 2))))),(.v (.one (.z (.int .i64 (.var 1))))),(.v (.one (.z (.int .i64 (.ar .sub .i64 (.var 2) (.var 1)))))),(.v (.one (.z (.bool (.cmp .eql (.ar .sub .i64 (.var 2) (.var 1)) (.lit 1))))))] (List.append (List.replicate 48 V.any) (List.append [(.v (.one (.z (.int .i64 (.var 3))))),(.v (.one (.z (.int .i64 (.var 2))))),(.v (.one (.z (.int .i64 (.ar .sub .i64 (.var 3) (.var 2)))))),(.v (.one (.z (.bool (.cmp .eql (.ar .sub .i64 (.var 3) (.var 2)) (.lit 1))))))] (List.append (List.replicate 48 V.any) (List.append [(.v (.one (.z (.int .i64 (.var 1))))),(.v (.one (.z (.int .i64 (.var 3))))),(.v (.one (.z (.int .i64 (.ar .add .i64 (.var 1) (.var 3)))))),(.v (.one (.z (.int .u64 (.wr .u64 (.ar .add .i64 (.var 1) (.var 3))))))),(.v (.one (.z (.int .u64 (.ar .shr .u64 (.wr .u64 (.ar .add .i64 (.var 1) (.var 3))) (.lit 1)))))),(.v (.one (.z (.int .i64 (.wr .i64 (.ar .shr .u64 (.wr .u64 (.ar .add .i64 (.var 1) (.var 3))) (.lit 1))))))),(.v (.one (.z (.int .i64 (.wr .i64 (.ar .shr .u64 (.wr .u64 (.ar .add .i64 (.var 1) (.var 3))) (.lit 1))))))),(.v (.one (.z (.int .i64 (.var 2))))),(.v (.one (.z (.int .i64 (.ar .add .i64 (.wr .i64 (.ar .shr .u64 (.wr .u64 (.ar .add .i64 (.var 1) (.var 3))) (.lit 1))) (.var 2)))))),(.v (.one (.z (.int .i64 (.var 2))))),(.v (.one (.z (.int .i64 (.wr .i64 (.ar .shr .u64 (.wr .u64 (.ar .add .i64 (.var 1) (.var 3))) (.lit 1))))))),(.v (.one (.z (.bool (.cmp .gtr (.var 2) (.wr .i64 (.ar .shr .u64 (.wr .u64 (.ar .add .i64 (.var 1) (.var 3))) (.lit 1))))))))] (List.append (List.replicate 6 V.any) (List.append [(.v (.one (.z (.int .i64 (.ar .add .i64 (.wr .i64 (.ar .shr .u64 (.wr .u64 (.ar .add .i64 (.var 1) (.var 3))) (.lit 1))) (.var 2)))))),(.v (.one (.z (.int .i64 (.ar .sub .i64 (.ar .add .i64 (.wr .i64 (.ar .shr .u64 (.wr .u64 (.ar .add .i64 (.var 1) (.var 3))) (.lit 1))) (.var 2)) (.lit 1)))))),(.v (.one (.z (.int .i64 (.var 3000))))),(.v (.one (.z (.int .i64 (.var 3001))))),(.v (.one (.z (.bool (.cmp .lss (.var 3000) (.var 3001))))))] (List.append (List.replicate 23 V.any) (List.append [(.v (.one (.z (.int .i64 (.ar .add .i64 (.wr .i64 (.ar .shr .u64 (.wr .u64 (.ar .add .i64 (.var 1) (.var 3))) (.lit 1))) (.var 2)))))),(.v (.one (.z (.int .i64 (.var 3000))))),(.v (.one (.z (.int .i64 (.ar .sub .i64 (.ar .add .i64 (.wr .i64 (.ar .shr .u64 (.wr .u64 (.ar .add .i64 (.var 1) (.var 3))) (.lit 1))) (.var 2)) (.var 3000)))))),(.v (.one (.z (.int .i64 (.var 3000))))),(.v (.one (.z (.int .i64 (.var 2))))),(.v (.one (.z (.bool (.cmp .lss (.var 3000) (.var 2)))))),(.v (.one (.z (.bool (.var 4001))))),(.v (.one (.z .any))),(.v (.one (.z .any))),(.v (.one (.z .any))),(.v (.one (.z (.bool (.var 4002)))))] (List.append (List.replicate 6 V.any) (List.append [(.v (.one (.z (.int .i64 (.var 1))))),(.v (.one (.z (.int .i64 (.var 3000))))),(.v (.one (.z (.bool (.cmp .lss (.var 1) (.var 3000)))))),(.v (.one (.z (.bool (.var 6001))))),(.v (.one (.z .any))),(.v (.one (.z .any))),(.v (.one (.z .any))),(.v (.one (.z (.bool (.var 6002)))))] (List.replicate 20 V.any)))))))))))))),[(0,(.own 29 f7 (.var 5001) (.lit 0)))],6,[]⟩),
(120,1000199,6,⟨(List.append [(.v (.one (.z (.own 0 (.lit 0))))),(.v (.one (.z (.int .i64 (.var 1))))),(.v (.one (.z (.int .i64 (.var 2))))),(.v (.one (.z (.int .i64 (.var 3))))),(.v (.one (.z (.clo 65 []))))] (List.append (List.replicate 13 V.any) (List.append [(.v (.one (.z (.int .i64 (.wr .i64 (.ar .shr .u64 (.wr .u64 (.ar .add .i64 (.var 1) (.var 3))) (.lit 1))))))),(.v (.one (.z (.int .i64 (.ar .add .i64 (.wr .i64 (.ar .shr .u64 (.wr .u64 (.ar .add .i64 (.var 1) (.var 3))) (.lit 1))) (.var 2)))))),(.v (.one (.z (.int .i64 (.var 3000))))),(.v (.one (.z (.int .i64 (.var 3001))))),(.v (.one (.z (.int .i64 (.ar .sub .i64 (.ar .add .i64 (.wr .i64 (.ar .shr .u64 (.wr .u64 (.ar .add .i64 (.var 1) (.var 3))) (.lit 1))) (.var 2)) (.lit 1)))))),(.v (.one (.z .any))),(.v (.one (.z (.int .i64 (.ar .sub .i64 (.ar .add .i64 (.wr .i64 (.ar .shr .u64 (.wr .u64 (.ar .add .i64 (.var 1) (.var 3))) (.lit 1))) (.var 2)) (.var 3000)))))),(.v (.one (.z (.int .i64 (.var 2))))),(.v (.one (.z (.int .i64 (.var 1))))),(.v (.one (.z (.int .i64 (.ar .sub .i64 (.var 2) (.var 1)))))),(.v (.one (.z (.bool (.cmp .eql (.ar .sub .i64 (.var 2) (.var 1)) (.lit 1))))))] (List.append (List.replicate 48 V.any) (List.append [(.v (.one (.z (.int .i64 (.var 3))))),(.v (.one (.z (.int .i64 (.var 2))))),(.v (.one (.z (.int .i64 (.ar .sub .i64 (.var 3) (.var 2)))))),(.v (.one (.z (.bool (.cmp .eql (.ar .sub .i64 (.var 3) (.var 2)) (.lit 1))))))] (List.append (List.replicate 48 V.any) (List.append [(.v (.one (.z (.int .i64 (.var 1))))),(.v (.one (.z (.int .i64 (.var 3))))),(.v (.one (.z (.int .i64 (.ar .add .i64 (.var 1) (.var 3)))))),(.v (.one (.z (.int .u64 (.wr .u64 (.ar .add .i64 (.var 1) (.var 3))))))),(.v (.one (.z (.int .u64 (.ar .shr .u64 (.wr .u64 (.ar .add .i64 (.var 1) (.var 3))) (.lit 1)))))),(.v (.one (.z (.int .i64 (.wr .i64 (.ar .shr .u64 (.wr .u64 (.ar .add .i64 (.var 1) (.var 3))) (.lit 1))))))),(.v (.one (.z (.int .i64 (.wr .i64 (.ar .shr .u64 (.wr .u64 (.ar .add .i64 (.var 1) (.var 3))) (.lit 1))))))),(.v (.one (.z (.int .i64 (.var 2))))),(.v (.one (.z (.int .i64 (.ar .add .i64 (.wr .i64 (.ar .shr .u64 (.wr .u64 (.ar .add .i64 (.var 1) (.var 3))) (.lit 1))) (.var 2)))))),(.v (.one (.z (.int .i64 (.var 2))))),(.v (.one (.z (.int .i64 (.wr .i64 (.ar .shr .u64 (.wr .u64 (.ar .add .i64 (.var 1) (.var 3))) (.lit 1))))))),(.v (.one (.z (.bool (.cmp .gtr (.var 2) (.wr .i64 (.ar .shr .u64 (.wr .u64 (.ar .add .i64 (.var 1) (.var 3))) (.lit 1))))))))] (List.append (List.replicate 6 V.any) (List.append [(.v (.one (.z (.int .i64 (.ar .add .i64 (.wr .i64 (.ar .shr .u64 (.wr .u64 (.ar .add .i64 (.var 1) (.var 3))) (.lit 1))) (.var 2)))))),(.v (.one (.z (.int .i64 (.ar .sub .i64 (.ar .add .i64 (.wr .i64 (.ar .shr .u64 (.wr .u64 (.ar .add .i64 (.var 1) (.var 3))) (.lit 1))) (.var 2)) (.lit 1)))))),(.v (.one (.z (.int .i64 (.var 3000))))),(.v (.one (.z (.int .i64 (.var 3001))))),(.v (.one (.z (.bool (.cmp .lss (.var 3000) (.var 3001))))))] (List.append (List.replicate 23 V.any) (List.append [(.v (.one (.z (.int .i64 (.ar .add .i64 (.wr .i64 (.ar .shr .u64 (.wr .u64 (.ar .add .i64 (.var 1) (.var 3))) (.lit 1))) (.var 2)))))),(.v (.one (.z (.int .i64 (.var 3000))))),(.v (.one (.z (.int .i64 (.ar .sub .i64 (.ar .add .i64 (.wr .i64 (.ar .shr .u64 (.wr .u64 (.ar .add .i64 (.var 1) (.var 3))) (.lit 1))) (.var 2)) (.var 3000)))))),(.v (.one (.z (.int .i64 (.var 3000))))),(.v (.one (.z (.int .i64 (.var 2))))),(.v (.one (.z (.bool (.cmp .lss (.var 3000) (.var 2)))))),(.v (.one (.z (.bool (.var 4001))))),(.v (.one (.z .any))),(.v (.one (.z .any))),(.v (.one (.z .any))),(.v (.one (.z (.bool (.var 4002)))))] (List.append (List.replicate 6 V.any) (List.append [(.v (.one (.z (.int .i64 (.var 1))))),(.v (.one (.z (.int .i64 (.var 3000))))),(.v (.one (.z (.bool (.cmp .lss (.var 1) (.var 3000)))))),(.v (.one (.z (.bool (.var 6001))))),(.v (.one (.z .any))),(.v (.one (.z .any))),(.v (.one (.z .any))),(.v (.one (.z (.bool (.var 6002)))))] (List.replicate 20 V.any)))))))))))))),[(0,(.own 29 f7 (.var 7001) (.lit 0)))],7,[]⟩)]
set_option maxRecDepth 100000 in
theorem b5x:T.norm 0 (a4m Tryz.prog a6V ⟨Lt.un (Lt.of [(120,1000140),(120,2000178),(120,1000185),(120,2000192),(120,1000199)]),b8E,b7w⟩ 100 120 (a9m::A6 1 0 a5C) a9v 1) TT.ret=a8N:=by kernel_rfl
theorem b3C:a8N.low 1000=true:=by kernel_rfl
def QS(K:Nat):Interp where
 fi n l:=Q9.fi n l
 fb n l:=match n with | 260=>S6 K l | n=>Q9.fb n l
 fd n l:=match n with | 3=>U7 l | n=>Q9.fd n l
theorem c4j{ρ:Env}{K:Nat}(h:Sees ρ (QS K) 261):Sees ρ Q9 260:=h.trans (by decide) fun n l hn=>by
 refine⟨rfl,?_⟩
 simp only[QS]
 split<;>first | omega | rfl
theorem c3R{ρ:Env}{K:Nat}(h:SeesD ρ (QS K) 4):SeesD ρ Q9 3:=fun n l hn=>by
 rw[h n l (by omega)]
 simp only[QS]
 split<;>first | omega | rfl
section
variable {K:Nat} {w:World} {ds:List D} (l:List D)
theorem b5q:(g8 (QS K) w ds).fb 260 l=S6 K l:=rfl
theorem c2S:(g8 (QS K) w ds).fb 250 l=a4S l:=by show Q9.fb 250 l=_;simp only[Q9]
theorem a8p:(g8 (QS K) w ds).fi 230 l=K0 l:=by show Q9.fi 230 l=_;simp only[Q9,Q8,Q7]
theorem b6E:(g8 (QS K) w ds).fd 3 l=U7 l:=rfl
theorem c6s:(g8 (QS K) w ds).fd 2 l=a3j l:=by show Q9.fd 2 l=_;simp only[Q9]
end
theorem a8s(r:Rows)(a m b:Nat):U7 [.l r,.i (a:Int),.i (m:Int),.i (b:Int)]=Srt.symN m5 (b-a) r a m b:=rfl
theorem c3S(r:Rows)(a m b:Nat):a3j [.l r,.i (a:Int),.i (m:Int),.i (b:Int)]=Srt.rotS r a m b:=rfl
theorem b4o{K:Nat}{r:Rows}{a m b:Nat}(h1:a<m)(h2:m<b)(h3:b≤r.length)(h4:r.length≤1000)(h5:b-a<K):S6 K [.l r,.i (a:Int),.i (m:Int),.i (b:Int)]=true:=by
 unfold S6 M0
 rw[Bool.and_eq_true]
 refine⟨decide_eq_true ?_,decide_eq_true ?_⟩
 ·show 0≤(a:Int)∧(a:Int)<m∧(m:Int)<b∧(b:Int)≤(r.length:Nat)∧r.length≤1000
  omega
 ·show(b:Int)-(a:Int)<K
  omega
theorem c2m{r:Rows}{a m b:Nat}(h1:a<m)(h2:m<b)(h3:b≤r.length)(h4:r.length≤1000):a4S [.l r,.i (a:Int),.i (m:Int),.i (b:Int)]=true:=by
 unfold a4S
 refine decide_eq_true ?_
 show 0≤(a:Int)∧(a:Int)<m∧(m:Int)<b∧(b:Int)≤(r.length:Nat)∧r.length≤1000
 omega
theorem a8I(a b:Int):s7 .lss a b=decide (a<b):=rfl
namespace Srt
theorem shU_mem{α:Type}{r:List α}{a:Nat}{x:α}:∀ {n:Nat},x∈shU r a n→x∈r
 | 0,h=>h
 | n+1,h=>shU_mem (n:=n) (swp_mem h)
theorem shD_mem{α:Type}{r:List α}{a:Nat}{x:α}:∀ {n:Nat},x∈shD r a n→x∈r
 | 0,h=>h
 | n+1,h=>shD_mem (n:=n) (swp_mem h)
end Srt
set_option maxHeartbeats 1000000 in
theorem b7Y(K:Nat)(ih:F2 Tryz.prog 120 29 f7 a5C (fun ds=>S6 K ds=true) U7):F2 Tryz.prog 120 29 f7 a5C (fun ds=>S6 (K+1) ds=true) U7:=by
 refine b3b (QS K) (by kernel_rfl) (fun ρ h=> .cons (U1 ih (by kernel_rfl) (J1 fun l=>(Sees.of h 261 260 l (by decide)).2.trans rfl) (fun a=>(SeesD.of h 4 3 a (by decide)).trans rfl)) (a7G (c4j (Sees.of h 261)) (c3R (SeesD.of h 4)))) (by kernel_rfl) (by kernel_rfl) b5x b3C (by decide) (fun w0 r0 vals ds0 hbig hrow0 hr hok=> ?_)
 have hrow:=a5u hrow0
 have e0:f8 (.l r0::ds0) 0=r0:=rfl
 clear hr hrow0 hbig ih
 generalize D.l r0::ds0=ds at*
 unfold S6 M0 at hok
 rw[Bool.and_eq_true,decide_eq_true_eq,decide_eq_true_eq,e0] at hok
 obtain⟨hok,hK⟩:=hok
 obtain⟨a,ha⟩:=Int.eq_ofNat_of_zero_le hok.1
 obtain⟨m,hm⟩:=Int.eq_ofNat_of_zero_le (a:=a9 ds 2) (by omega)
 obtain⟨b,hb⟩:=Int.eq_ofNat_of_zero_le (a:=a9 ds 3) (by omega)
 rw[ha,hm,hb] at hok
 rw[ha,hb] at hK
 obtain⟨-,o1,o2,o3,o4⟩:=hok
 obtain⟨f,hf⟩:∃f,b-a=f+1:=⟨b-a-1,by omega⟩
 have hR:U7 ds=Srt.symN m5 (f+1) r0 a m b:=by unfold U7;rw[e0,ha,hm,hb,←hf];rfl
 rw[Srt.symN] at hR
 simp only[a8N,g7,Nat.reduceBEq,Nat.reduceLT,Nat.reduceSub,ha,hm,hb,e0]
 rw[f9 ((m:Int)-a) (by omega) (by omega),f9 ((b:Int)-m) (by omega) (by omega)]
 refine⟨fun hc=> ?_,fun hc=>⟨fun hc1=> ?_,fun hc1=> ?_⟩⟩
 ·rw[if_pos (by omega)] at hR
  have hU:Srt.upTo m5 r0 a m b=Srt.bsS (fun h=>Srt.lts m5 r0 h a) m b:=rfl
  refine TT.sat_loop (fun v=>∃i j:Nat,v.i 0=i∧v.i 1=j∧m≤i∧i≤j∧j≤b∧Srt.bsS (fun h=>Srt.lts m5 r0 h a) i j=Srt.upTo m5 r0 a m b) (fun v=>(v.i 1).toNat-(v.i 0).toNat)
   ⟨m,b,by simp only[g7,Nat.reduceBEq,Nat.reduceLT,Nat.reduceSub,hm],by simp only[g7,Nat.reduceBEq,Nat.reduceLT,Nat.reduceSub,hb],by omega,by omega,by omega,hU.symm⟩ (fun v hv=> ?_)
  obtain⟨i,j,i0,j0,h1,h2,h3,h4⟩:=hv
  simp only[g7,Nat.reduceBEq,Nat.reduceLT,Nat.reduceSub,i0,j0,ha,e0,a8p]
  refine⟨fun hlt=> ?_,fun hge=> ?_⟩
  ·rw[V7 (by omega)]
   have hmm:i≤(i+j)/2∧(i+j)/2<j:=by omega
   have hq:=a2p (r:=r0) (i:=(((i+j)/2:Nat):Int)) (j:=(a:Int)) (m:=(i+j)/2) (n:=a) rfl rfl (by omega) (by omega)
   rw[f9 ((((i+j)/2:Nat):Int)+1) (by omega) (by omega)]
   refine⟨by omega,by omega,by omega,by omega,fun hc1=> ?_,fun hc1=> ?_⟩
   ·exact⟨⟨(i+j)/2+1,j,by omega,rfl,by omega,by omega,h3,(Srt.bsS_up (fun h=>Srt.lts m5 r0 h a) (by omega) (by simp only[hq];exact decide_eq_true hc1)).symm.trans h4⟩,by omega⟩
   ·exact⟨⟨i,(i+j)/2,rfl,by omega,by omega,by omega,by omega,(Srt.bsS_dn (fun h=>Srt.lts m5 r0 h a) (by omega) (by simp only[hq];exact decide_eq_false hc1)).symm.trans h4⟩,by omega⟩
  ·rw[Srt.bsS_end _ (by omega)] at h4
   rw[←h4] at hR
   refine TT.sat_loop (fun u=>∃k:Nat,u.i 0=(a:Int)+k∧a+k+1≤i∧u.d 1=Srt.shU r0 a k) (fun u=>i-(u.i 0).toNat)
    ⟨0,by simp only[g7,Nat.reduceBEq,Nat.reduceLT,Nat.reduceSub,ha];omega,by omega,by simp only[g7,Nat.reduceBEq,Nat.reduceLT,Nat.reduceSub,e0];rfl⟩ (fun u hu=> ?_)
   obtain⟨k,k0,k1,k2⟩:=hu
   have hsl:=Srt.shU_len r0 a k
   have hmem:∀row∈Srt.shU r0 a k,m6 row:=fun row h=>hrow row (Srt.shU_mem h)
   simp only[g7,Nat.reduceBEq,Nat.reduceLT,Nat.reduceSub,k0,k2,i0]
   rw[f9 ((i:Int)-1) (by omega) (by omega),f9 ((a:Int)+k+1) (by omega) (by omega)]
   refine⟨fun hc=> ?_,fun hc=> ?_⟩
   ·have hl:∀l,(z9 (Srt.shU r0 a k) ((a:Int)+k) 0 l).length=r0.length:=fun l=>by rw[Srt.updR_len,hsl]
    have hx:=a2j hmem (i:=(a:Int)+k) (j:=(a:Int)+k+1) (m:=a+k) (n:=a+k+1) (by omega) (by omega) (by omega) (by omega)
    rw[hl,hsl,hx]
    exact⟨by omega,by omega,by omega,by omega,by omega,by omega,by omega,by omega,⟨k+1,by omega,by omega,rfl⟩,by omega⟩
   ·refine⟨rfl,.inl ⟨_,rfl,?_⟩⟩
    simp only[X.ev,p7,g7,Nat.reduceBEq,Nat.reduceLT,Nat.reduceSub,k2]
    rw[hR,show i-1-a=k by omega]
 ·rw[if_neg (by omega),if_pos (by omega)] at hR
  have hU:Srt.dnTo m5 r0 a m=Srt.bsS (fun h=> !Srt.lts m5 r0 m h) a m:=rfl
  refine TT.sat_loop (fun v=>∃i j:Nat,v.i 0=i∧v.i 1=j∧a≤i∧i≤j∧j≤m∧Srt.bsS (fun h=> !Srt.lts m5 r0 m h) i j=Srt.dnTo m5 r0 a m) (fun v=>(v.i 1).toNat-(v.i 0).toNat)
   ⟨a,m,by simp only[g7,Nat.reduceBEq,Nat.reduceLT,Nat.reduceSub,ha],by simp only[g7,Nat.reduceBEq,Nat.reduceLT,Nat.reduceSub,hm],by omega,by omega,by omega,hU.symm⟩ (fun v hv=> ?_)
  obtain⟨i,j,i0,j0,h1,h2,h3,h4⟩:=hv
  simp only[g7,Nat.reduceBEq,Nat.reduceLT,Nat.reduceSub,i0,j0,hm,e0,a8p]
  refine⟨fun hlt=> ?_,fun hge=> ?_⟩
  ·rw[V7 (by omega)]
   have hmm:i≤(i+j)/2∧(i+j)/2<j:=by omega
   have hq:=a2p (r:=r0) (i:=(m:Int)) (j:=(((i+j)/2:Nat):Int)) (m:=m) (n:=(i+j)/2) rfl rfl (by omega) (by omega)
   rw[f9 ((((i+j)/2:Nat):Int)+1) (by omega) (by omega)]
   refine⟨by omega,by omega,by omega,by omega,fun hc1=> ?_,fun hc1=> ?_⟩
   ·exact⟨⟨(i+j)/2+1,j,by omega,rfl,by omega,by omega,h3,(Srt.bsS_up (fun h=> !Srt.lts m5 r0 m h) (by omega) (by simp only[hq,decide_eq_false hc1];rfl)).symm.trans h4⟩,by omega⟩
   ·exact⟨⟨i,(i+j)/2,rfl,by omega,by omega,by omega,by omega,(Srt.bsS_dn (fun h=> !Srt.lts m5 r0 m h) (by omega) (by simp only[hq];rw[decide_eq_true (by omega)];rfl)).symm.trans h4⟩,by omega⟩
  ·rw[Srt.bsS_end _ (by omega)] at h4
   rw[←h4] at hR
   refine TT.sat_loop (fun u=>∃k:Nat,u.i 0=(m:Int)-k∧i+k≤m∧u.d 1=Srt.shD r0 m k) (fun u=>(u.i 0).toNat)
    ⟨0,by simp only[g7,Nat.reduceBEq,Nat.reduceLT,Nat.reduceSub,hm];omega,by omega,by simp only[g7,Nat.reduceBEq,Nat.reduceLT,Nat.reduceSub,e0];rfl⟩ (fun u hu=> ?_)
   obtain⟨k,k0,k1,k2⟩:=hu
   have hsl:=Srt.shD_len r0 m k
   have hmem:∀row∈Srt.shD r0 m k,m6 row:=fun row h=>hrow row (Srt.shD_mem h)
   simp only[g7,Nat.reduceBEq,Nat.reduceLT,Nat.reduceSub,k0,k2,i0]
   refine⟨fun hc=> ?_,fun hc=> ?_⟩
   ·rw[f9 ((m:Int)-k-1) (by omega) (by omega)]
    have hl:∀l,(z9 (Srt.shD r0 m k) ((m:Int)-k) 0 l).length=r0.length:=fun l=>by rw[Srt.updR_len,hsl]
    have hx:=a2j hmem (i:=(m:Int)-k) (j:=(m:Int)-k-1) (m:=m-k) (n:=m-k-1) (by omega) (by omega) (by omega) (by omega)
    rw[hl,hsl,hx]
    exact⟨by omega,by omega,by omega,by omega,by omega,by omega,by omega,by omega,⟨k+1,by omega,by omega,rfl⟩,by omega⟩
   ·refine⟨rfl,.inl ⟨_,rfl,?_⟩⟩
    simp only[X.ev,p7,g7,Nat.reduceBEq,Nat.reduceLT,Nat.reduceSub,k2]
    rw[hR,show m-i=k by omega]
 ·rw[if_neg (by omega),if_neg (by omega)] at hR
  have hmid:=V7 (i:=a) (j:=b) (by omega)
  have hh:a+b=2*((a+b)/2)∨a+b=2*((a+b)/2)+1:=by omega
  have hcut:Srt.cutS m5 r0 a m b=if (a+b)/2<m then Srt.bsN (fun c=> !Srt.lts m5 r0 ((a+b)/2+m-1-c) c) b ((a+b)/2+m-b) ((a+b)/2) else Srt.bsN (fun c=> !Srt.lts m5 r0 ((a+b)/2+m-1-c) c) b a m:=rfl
  generalize (a+b)/2=mid at*
  have hp:∃P:Nat→Bool,P=fun c=> !Srt.lts m5 r0 (mid+m-1-c) c:=⟨_,rfl⟩
  obtain⟨P,hP⟩:=hp
  rw[←hP] at hcut
  refine TT.sat_join (fun u=>∃lo hi:Nat,u.i 1=lo∧u.i 2=hi∧a≤lo∧lo≤hi∧hi≤m∧hi≤mid∧mid+m≤lo+b∧Srt.bsS P lo hi=Srt.cutS m5 r0 a m b) (fun u hu=> ?_) (fun u hu hU=> ?_)
  ·simp only[g7,Nat.reduceBEq,Nat.reduceLT,Nat.reduceSub,hu,ha,hm,hb,hmid]
   rw[f9 ((mid:Int)+m) (by omega) (by omega),f9 ((mid:Int)+m-b) (by omega) (by omega)]
   refine⟨fun hc=>⟨mid+m-b,mid,by omega,rfl,by omega,by omega,by omega,by omega,by omega,?_⟩,fun hc=>⟨a,m,rfl,rfl,by omega,by omega,by omega,by omega,by omega,?_⟩⟩
   ·rw[hcut,if_pos (by omega)];exact Srt.bsN_fuel _ _ _ _ _ (by omega) (by omega)
   ·rw[hcut,if_neg (by omega)];exact Srt.bsN_fuel _ _ _ _ _ (by omega) (by omega)
  obtain⟨lo,hi,l0,h0,b1,b2,b3,b4,b5,b6⟩:=hU
  refine TT.sat_loop (fun v=>∃i j:Nat,v.i 0=i∧v.i 1=j∧lo≤i∧i≤j∧j≤hi∧Srt.bsS P i j=Srt.cutS m5 r0 a m b) (fun v=>(v.i 1).toNat-(v.i 0).toNat)
   ⟨lo,hi,by simp only[g7,Nat.reduceBEq,Nat.reduceLT,Nat.reduceSub,l0],by simp only[g7,Nat.reduceBEq,Nat.reduceLT,Nat.reduceSub,h0],by omega,by omega,by omega,b6⟩ (fun v hv=> ?_)
  obtain⟨i,j,i0,j0,h1,h2,h3,h4⟩:=hv
  simp only[g7,Nat.reduceBEq,Nat.reduceLT,Nat.reduceSub,i0,j0,ha,hm,hb,e0,a8p,hmid]
  rw[f9 ((mid:Int)+m) (by omega) (by omega),f9 ((mid:Int)+m-1) (by omega) (by omega)]
  refine⟨fun hlt=> ?_,fun hge=> ?_⟩
  ·rw[V7 (by omega)]
   have hmm:i≤(i+j)/2∧(i+j)/2<j:=by omega
   rw[f9 ((mid:Int)+m-1-(((i+j)/2:Nat):Int)) (by omega) (by omega)]
   have hq:=a2p (r:=r0) (i:=(mid:Int)+m-1-(((i+j)/2:Nat):Int)) (j:=(((i+j)/2:Nat):Int)) (m:=mid+m-1-(i+j)/2) (n:=(i+j)/2) (by omega) rfl (by omega) (by omega)
   have hPq:P ((i+j)/2)= !Srt.lts m5 r0 (mid+m-1-(i+j)/2) ((i+j)/2):=by rw[hP]
   rw[f9 ((((i+j)/2:Nat):Int)+1) (by omega) (by omega)]
   refine⟨by omega,by omega,by omega,by omega,fun hc1=> ?_,fun hc1=> ?_⟩
   ·exact⟨⟨(i+j)/2+1,j,by omega,rfl,by omega,by omega,h3,(Srt.bsS_up P (by omega) (by rw[hPq,hq,decide_eq_false hc1];rfl)).symm.trans h4⟩,by omega⟩
   ·exact⟨⟨i,(i+j)/2,rfl,by omega,by omega,by omega,by omega,(Srt.bsS_dn P (by omega) (by rw[hPq,hq,decide_eq_true (by omega)];rfl)).symm.trans h4⟩,by omega⟩
  rw[Srt.bsS_end _ (by omega)] at h4
  rw[←h4] at hR
  have hw2:IntKind.i64.wrap ((mid:Int)+m-i)=((mid+m-i:Nat):Int):=by rw[f9 _ (by omega) (by omega)];omega
  have hw1:IntKind.i64.wrap ((mid:Int)+m)=(mid:Int)+m:=f9 _ (by omega) (by omega)
  have hrl:(Srt.rotIf r0 i m (mid+m-i)).length=r0.length:=by
   unfold Srt.rotIf
   split
   ·exact Srt.rotS_len ..
   ·rfl
  refine TT.sat_join (fun u=>u.b 2=decide (i<m∧m<mid+m-i)) (fun u hu=> ?_) (fun u hu hU=> ?_)
  ·simp only[g7,Nat.reduceBEq,Nat.reduceLT,Nat.reduceSub,hu,i0,ha,hm,hb,hmid,hw1,hw2,a8I]
   refine⟨fun hc=> ?_,fun hc=> ?_⟩
   ·have hc:=of_decide_eq_true hc
    rw[decide_eq_decide];omega
   ·have hc:=of_decide_eq_false hc
    rw[decide_eq_false (by omega)]
  refine TT.sat_join (fun y=>y.d 1=Srt.rotIf r0 i m (mid+m-i)) (fun y hy=> ?_) (fun y hy hY=> ?_)
  ·simp only[g7,Nat.reduceBEq,Nat.reduceLT,Nat.reduceSub,hu,hy,hU,i0,ha,hm,hb,e0,hmid,hw1,hw2,c2S,c6s,c3S,decide_eq_true_eq]
   refine⟨fun hc=>⟨c2m (by omega) (by omega) (by omega) (by omega),?_⟩,fun hc=> ?_⟩
   ·unfold Srt.rotIf;rw[if_pos (by omega)]
   ·unfold Srt.rotIf;rw[if_neg (of_decide_eq_false hc)]
  generalize Srt.rotIf r0 i m (mid+m-i)=r1 at*
  refine TT.sat_join (fun z=>z.b 2=decide (a<i∧i<mid)) (fun z hz=> ?_) (fun z hz hZ=> ?_)
  ·simp only[g7,Nat.reduceBEq,Nat.reduceLT,Nat.reduceSub,hu,hy,hz,i0,ha,hm,hb,hmid,a8I]
   refine⟨fun hc=> ?_,fun hc=> ?_⟩
   ·have hc:=of_decide_eq_true hc
    rw[decide_eq_decide];omega
   ·have hc:=of_decide_eq_false hc
    rw[decide_eq_false (by omega)]
  refine TT.sat_join (fun x=>x.d 1=if a<i∧i<mid then Srt.symN m5 f r1 a i mid else r1) (fun x hx=> ?_) (fun x hx hX=> ?_)
  ·simp only[g7,Nat.reduceBEq,Nat.reduceLT,Nat.reduceSub,hu,hy,hz,hx,hY,hZ,i0,ha,hm,hb,hmid,b5q,b6E,a8s,decide_eq_true_eq]
   refine⟨fun hc=>⟨b4o (by omega) (by omega) (by omega) (by omega) (by omega),?_⟩,fun hc=> ?_⟩
   ·rw[if_pos hc];exact Srt.symN_fuel _ _ _ _ _ _ (by omega) (by omega) (by omega) (by omega)
   ·rw[if_neg (of_decide_eq_false hc)]
  have hl2:(if a<i∧i<mid then Srt.symN m5 f r1 a i mid else r1).length=r0.length:=by
   split
   ·rw[Srt.symN_len,hrl]
   ·exact hrl
  have F1:mid<mid+m-i→mid+m-i<b→∀r2:Rows,Srt.symN m5 (b-mid) r2 mid (mid+m-i) b=Srt.symN m5 f r2 mid (mid+m-i) b:=fun k1 k2 r2=>Srt.symN_fuel _ _ _ _ _ _ (by omega) (by omega) (by omega) (by omega)
  generalize (if a<i∧i<mid then Srt.symN m5 f r1 a i mid else r1)=r2 at*
  simp only[g7,Nat.reduceBEq,Nat.reduceLT,Nat.reduceSub,hu,hy,hz,hx,hX,i0,ha,hm,hb,hmid,hw1,hw2,b5q,b6E,a8s]
  refine⟨fun k1=>⟨fun k2=>⟨b4o (by omega) (by omega) (by omega) (by omega) (by omega),rfl,.inl ⟨_,rfl,?_⟩⟩,fun k2=>⟨rfl,.inl ⟨_,rfl,?_⟩⟩⟩,fun k1=>⟨rfl,.inl ⟨_,rfl,?_⟩⟩⟩
  ·simp only[X.ev,p7,g7,Nat.reduceBEq,Nat.reduceLT,Nat.reduceSub,hX,i0,ha,hm,hb,hmid,hw1,hw2,b6E,a8s]
   rw[hR,if_pos (by omega)]
   exact F1 (by omega) (by omega) r2
  ·simp only[X.ev,p7,g7,Nat.reduceBEq,Nat.reduceLT,Nat.reduceSub,hX]
   rw[hR,if_neg (by omega)]
  ·simp only[X.ev,p7,g7,Nat.reduceBEq,Nat.reduceLT,Nat.reduceSub,hX]
   rw[hR,if_neg (by omega)]
theorem b9R:∀K:Nat,F2 Tryz.prog 120 29 f7 a5C (fun ds=>S6 K ds=true) U7
 | 0=>fun w0 W v r xs vals ds _ _ _ hok=>by
   have hok:S6 0 (.l r::ds)=true:=hok
   unfold S6 M0 at hok
   rw[Bool.and_eq_true,decide_eq_true_eq,decide_eq_true_eq] at hok
   omega
 | K+1=>b7Y K (b9R K)
theorem c5c:F2 Tryz.prog 120 29 f7 a5C (fun ds=>M0 ds=true) U7:=fun w0 W v r xs vals ds h1 h2 h3 hok=>b9R (((a9 (.l r::ds) 3)-(a9 (.l r::ds) 1)).toNat+1) w0 W v r xs vals ds h1 h2 h3 (by
 have hok:M0 (.l r::ds)=true:=hok
 show S6 _ (.l r::ds)=true
 unfold S6
 have hok':=hok
 unfold M0 at hok'
 have hok':=of_decide_eq_true hok'
 rw[hok,Bool.true_and]
 exact decide_eq_true (by omega))
def QA:Interp where
 fi n l:=Q9.fi n l
 fb n l:=match n with | 260=>M0 l | n=>Q9.fb n l
 fd n l:=match n with | 3=>U7 l | n=>Q9.fd n l
theorem c2F{ρ:Env}(h:SeesD ρ QA 4):SeesD ρ Q9 3:=fun n l hn=>by
 rw[h n l (by omega)]
 simp only[QA]
 split<;>first | omega | rfl
theorem c4V{ρ:Env}(h:Sees ρ QA 270):Sees ρ Q9 260:=h.trans (by decide) fun n l hn=>by
 refine⟨?_,?_⟩
 ·
  rfl
 ·
  simp only[QA]
  split<;>first | omega | rfl
theorem b7x{ρ:Env}(h:Sees ρ QA 270)(hd:SeesD ρ QA 4):i4 Tryz.prog ρ 120 b9G:=
 U1 c5c (by kernel_rfl) (J1 fun l=>(h 260 l (by decide)).2.trans rfl) (fun a=>(hd 3 a (by decide)).trans rfl)
theorem a9p{ρ:Env}(h:Sees ρ QA 270)(hd:SeesD ρ QA 4):CtOk Tryz.prog ρ a6V:= .cons (b7x h hd)<|a7G (c4V h) (c2F hd)
end Go.Proofs.YtbbjlleaofgddaaGreat
