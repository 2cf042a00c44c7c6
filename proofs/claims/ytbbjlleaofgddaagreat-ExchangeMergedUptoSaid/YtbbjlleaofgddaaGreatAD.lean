/- AD, merged: TAj, Aj, Ak. -/
import Derived.Test.YtbbjlleaofgddaaGreatAA
import Derived.Test.YtbbjlleaofgddaaGreatAC
import Derived.Test.YtbbjlleaofgddaaGreatMZ
set_option linter.unusedSimpArgs false
set_option linter.unusedVariables false
namespace Go.Proofs.YtbbjlleaofgddaaGreat
open Go.RowKit
def a2q:Sh:= .one (.sl B3)
def a5z:Sh:= .one (.sl [.int .i64])
def cE2:=o9 [S7,S7] fun al=> .ret (bV (.fn 220 al))
def cE6:=o9 [Z9,Z9] fun al=> .ret (bV (.fn 220 al))
def cE1:=o9 [a5z,a5z] fun al=> .ret (bV (.fn 220 al))
def cE7:=o9 [E5,E5] fun al=> .ret (bV (.fn 147 al))
def cEo:=o9 [V6,V6] fun al=> .ret (bV (.fn 180 al))
def cEO:=o9 [a2q,a2q] fun al=> .ret (bV (.fn 220 al))
def cEn:=o9 [notS,notS] fun al=> .ret (bV (.fn 190 al))
def cEl:=o9 [L5,L5] fun al=> .ret (bV (.fn 221 al))
def cEL:=o9 [E9,E9] fun al=> .ret (bV (.fn 220 al))
def c1t:=o9 [notS] fun al=> .ret (iV .i64 (.fn 220 al))
def c3l:=o9 [z0] fun al=> .ret (bV (.fn 222 al))
def b3K:Ct:=[]
def c6t:Ct:=[(141,cE2),(142,cE6)]
def c6j:Ct:=[(129,cE7)]
def c6Q:Ct:=[(116,cEo)]
def c6X:Ct:=[(89,cE1),(90,cEO)]
def c3v:Ct:=[(56,cEn)]
def c6O:Ct:=[(26,cEl)]
def c3o:Ct:=[(19,cEL)]
def c6f:Ct:=[(37,c1t)]
def c6p:Ct:=[(12,c3l)]
def b6Q:TT i8:=
(.ite (.cmp .neq (.len (.var 0)) (.len (.var 1)))
 (.ret ((.v (.one (.z (.bool (.lit false))))),[],0))
 (.loop 0 1000 ⟨[(0,(.lit 0))],[],[]⟩
 (.ite (.cmp .lss (.var 1000) (.len (.var 0)))
 (.ob (.tru (.cmp .leq (.lit 0) (.var 1000)))
 (.ob (.tru (.cmp .lss (.var 1000) (.len (.var 0))))
 (.ob (.tru (.cmp .leq (.lit 0) (.var 1000)))
 (.ob (.tru (.cmp .lss (.var 1000) (.len (.var 1))))
 (.ite (.not (.and (.cmp .eql (.rd (.var 0) (.var 1000) 0) (.rd (.var 1) (.var 1000) 0)) (.cmp .eql (.rd (.var 0) (.var 1000) 1) (.rd (.var 1) (.var 1000) 1))))
 (.ret ((.v (.one (.z (.bool (.lit false))))),[],1))
 (.next 0 ⟨[(0,(.ar .add .i64 (.var 1000) (.lit 1)))],[],[]⟩))))))
 (.ret ((.v (.one (.z (.bool (.lit true))))),[],1)))))
def c2T:List (Nat×St):=[
(0,⟨(List.append [(.v (.one (.z (.ext [(.int .i64),(.int .i64)] (.var 0) false)))),(.v (.one (.z (.ext [(.int .i64),(.int .i64)] (.var 1) false)))),(.v (.one (.z .any))),(.v (.one (.z .any))),(.v (.one (.z (.bool (.lit false))))),(.v (.one (.z (.int .i64 (.var 1000))))),(.v (.one (.z (.ext [(.int .i64),(.int .i64)] (.var 0) false)))),(.v (.one (.z (.int .i64 (.len (.var 0)))))),(.v (.one (.z (.ext [(.int .i64),(.int .i64)] (.var 1) false)))),(.v (.one (.z (.int .i64 (.len (.var 1)))))),(.v (.one (.z (.bool (.cmp .neq (.len (.var 0)) (.len (.var 1)))))))] (List.replicate 15 V.any)),[],1,[]⟩)]
def c1w:List (FuncId×Nat×Nat×St):=[
]
set_option maxRecDepth 100000 in
theorem c0k:T.norm 0 (call Tryz.prog b3K ⟨Lt.un (Lt.of []),c2T,c1w⟩ 100 141 (i5 0 [S7,S7]) [] 0) TT.ret=b6Q:=by kernel_rfl
theorem b8d:b6Q.low 1000=true:=by kernel_rfl
def b7M:TT i8:=
(.ite (.cmp .neq (.len (.var 0)) (.len (.var 1)))
 (.ret ((.v (.one (.z (.bool (.lit false))))),[],0))
 (.loop 0 1000 ⟨[(0,(.lit 0))],[],[]⟩
 (.ite (.cmp .lss (.var 1000) (.len (.var 0)))
 (.ob (.tru (.cmp .leq (.lit 0) (.var 1000)))
 (.ob (.tru (.cmp .lss (.var 1000) (.len (.var 0))))
 (.ob (.tru (.cmp .leq (.lit 0) (.var 1000)))
 (.ob (.tru (.cmp .lss (.var 1000) (.len (.var 1))))
 (.ite (.not (.and (.and (.cmp .eql (.rd (.var 0) (.var 1000) 0) (.rd (.var 1) (.var 1000) 0)) (.cmp .eql (.rd (.var 0) (.var 1000) 1) (.rd (.var 1) (.var 1000) 1))) (.and (.and (.cmp .eql (.rd (.var 0) (.var 1000) 2) (.rd (.var 1) (.var 1000) 2)) (.cmp .eql (.rd (.var 0) (.var 1000) 3) (.rd (.var 1) (.var 1000) 3))) (.and (.cmp .eql (.rd (.var 0) (.var 1000) 4) (.rd (.var 1) (.var 1000) 4)) (.cmp .eql (.rd (.var 0) (.var 1000) 5) (.rd (.var 1) (.var 1000) 5))))))
 (.ret ((.v (.one (.z (.bool (.lit false))))),[],1))
 (.next 0 ⟨[(0,(.ar .add .i64 (.var 1000) (.lit 1)))],[],[]⟩))))))
 (.ret ((.v (.one (.z (.bool (.lit true))))),[],1)))))
def c3h:List (Nat×St):=[
(0,⟨(List.append [(.v (.one (.z (.ext [(.int .i64),(.int .i64),(.int .i64),(.int .i64),(.int .i64),(.int .i64)] (.var 0) false)))),(.v (.one (.z (.ext [(.int .i64),(.int .i64),(.int .i64),(.int .i64),(.int .i64),(.int .i64)] (.var 1) false)))),(.v (.one (.z .any))),(.v (.one (.z .any))),(.v (.one (.z (.bool (.lit false))))),(.v (.one (.z (.int .i64 (.var 1000))))),(.v (.one (.z (.ext [(.int .i64),(.int .i64),(.int .i64),(.int .i64),(.int .i64),(.int .i64)] (.var 0) false)))),(.v (.one (.z (.int .i64 (.len (.var 0)))))),(.v (.one (.z (.ext [(.int .i64),(.int .i64),(.int .i64),(.int .i64),(.int .i64),(.int .i64)] (.var 1) false)))),(.v (.one (.z (.int .i64 (.len (.var 1)))))),(.v (.one (.z (.bool (.cmp .neq (.len (.var 0)) (.len (.var 1)))))))] (List.replicate 15 V.any)),[],1,[]⟩)]
def c3J:List (FuncId×Nat×Nat×St):=[
]
set_option maxRecDepth 100000 in
theorem c0Q:T.norm 0 (call Tryz.prog b3K ⟨Lt.un (Lt.of []),c3h,c3J⟩ 100 142 (i5 0 [Z9,Z9]) [] 0) TT.ret=b7M:=by kernel_rfl
theorem b7B:b7M.low 1000=true:=by kernel_rfl
def b7e:TT i8:=
(.ite (.cmp .neq (.len (.var 0)) (.len (.var 1)))
 (.ret ((.v (.one (.z (.bool (.lit false))))),[],0))
 (.loop 0 1000 ⟨[(0,(.lit 0))],[],[]⟩
 (.ite (.cmp .lss (.var 1000) (.len (.var 0)))
 (.ob (.tru (.cmp .leq (.lit 0) (.var 1000)))
 (.ob (.tru (.cmp .lss (.var 1000) (.len (.var 0))))
 (.ob (.tru (.cmp .leq (.lit 0) (.var 1000)))
 (.ob (.tru (.cmp .lss (.var 1000) (.len (.var 1))))
 (.ite (.cmp .neq (.rd (.var 0) (.var 1000) 0) (.rd (.var 1) (.var 1000) 0))
 (.ret ((.v (.one (.z (.bool (.lit false))))),[],1))
 (.next 0 ⟨[(0,(.ar .add .i64 (.var 1000) (.lit 1)))],[],[]⟩))))))
 (.ret ((.v (.one (.z (.bool (.lit true))))),[],1)))))
def c2Q:List (Nat×St):=[
(0,⟨(List.append [(.v (.one (.z (.ext [(.int .i64)] (.var 0) false)))),(.v (.one (.z (.ext [(.int .i64)] (.var 1) false)))),(.v (.one (.z .any))),(.v (.one (.z .any))),(.v (.one (.z (.bool (.lit false))))),(.v (.one (.z (.int .i64 (.var 1000))))),(.v (.one (.z (.ext [(.int .i64)] (.var 0) false)))),(.v (.one (.z (.int .i64 (.len (.var 0)))))),(.v (.one (.z (.ext [(.int .i64)] (.var 1) false)))),(.v (.one (.z (.int .i64 (.len (.var 1)))))),(.v (.one (.z (.bool (.cmp .neq (.len (.var 0)) (.len (.var 1)))))))] (List.replicate 15 V.any)),[],1,[]⟩)]
def c1p:List (FuncId×Nat×Nat×St):=[
]
set_option maxRecDepth 100000 in
theorem c0y:T.norm 0 (call Tryz.prog b3K ⟨Lt.un (Lt.of []),c2Q,c1p⟩ 100 89 (i5 0 [a5z,a5z]) [] 0) TT.ret=b7e:=by kernel_rfl
theorem b7a:b7e.low 1000=true:=by kernel_rfl
def b8o:TT i8:=
(.ite (.cmp .neq (.var 0) (.var 9))
 (.ret ((.v (.one (.z (.bool (.lit false))))),[],2))
 (.ite (.cmp .neq (.var 1) (.var 10))
 (.ret ((.v (.one (.z (.bool (.lit false))))),[],2))
 (.ite (.not (.and (.cmp .eql (.var 2) (.var 11)) (.cmp .eql (.var 3) (.var 12))))
 (.ret ((.v (.one (.z (.bool (.lit false))))),[],2))
 (.ite (.cmp .neq (.var 4) (.var 13))
 (.ret ((.v (.one (.z (.bool (.lit false))))),[],2))
 (.ite (.cmp .neq (.var 6) (.var 15))
 (.ret ((.v (.one (.z (.bool (.lit false))))),[],2))
 (.ite (.cmp .neq (.var 7) (.var 16))
 (.ret ((.v (.one (.z (.bool (.lit false))))),[],2))
 (.ite (.fn 220 (.x (.var 5) (.x (.var 14) .nil)))
 (.ret ((.v (.one (.z (.bool (.fn 220 (.x (.var 8) (.x (.var 17) .nil))))))),[],2))
 (.ret ((.v (.one (.z (.bool (.lit false))))),[],2)))))))))
set_option maxRecDepth 100000 in
theorem c0M:T.norm 0 (call Tryz.prog c6t (Lt.of []) 100 129 (i5 0 [E5,E5]) [] 0) TT.ret=b8o:=by kernel_rfl
theorem b7Q:b8o.low 1000=true:=by kernel_rfl
def b8a:TT i8:=
(.ite (.cmp .eql (.var 0) (.var 16))
 (.ite (.cmp .eql (.var 1) (.var 17))
 (.ite (.fn 147 (.i (.var 2) (.i (.var 3) (.i (.var 4) (.i (.var 5) (.i (.var 6) (.x (.var 7) (.i (.var 8) (.i (.var 9) (.x (.var 10) (.i (.var 18) (.i (.var 19) (.i (.var 20) (.i (.var 21) (.i (.var 22) (.x (.var 23) (.i (.var 24) (.i (.var 25) (.x (.var 26) .nil)))))))))))))))))))
 (.ite (.and (.cmp .eql (.var 11) (.var 27)) (.cmp .eql (.var 12) (.var 28)))
 (.ite (.cmp .eql (.var 13) (.var 29))
 (.ite (.cmp .eql (.var 14) (.var 30))
 (.ret ((.v (.one (.z (.bool (.cmp .eql (.var 15) (.var 31)))))),[],2))
 (.ret ((.v (.one (.z (.bool (.lit false))))),[],2)))
 (.ret ((.v (.one (.z (.bool (.lit false))))),[],2)))
 (.ret ((.v (.one (.z (.bool (.lit false))))),[],2)))
 (.ret ((.v (.one (.z (.bool (.lit false))))),[],2)))
 (.ret ((.v (.one (.z (.bool (.lit false))))),[],2)))
 (.ret ((.v (.one (.z (.bool (.lit false))))),[],2)))
set_option maxRecDepth 100000 in
theorem c0u:T.norm 0 (call Tryz.prog c6j (Lt.of []) 100 116 (i5 0 [V6,V6]) [] 0) TT.ret=b8a:=by kernel_rfl
theorem b8J:b8a.low 1000=true:=by kernel_rfl
def b6F:TT i8:=
(.ite (.cmp .neq (.len (.var 0)) (.len (.var 1)))
 (.ret ((.v (.one (.z (.bool (.lit false))))),[],0))
 (.loop 0 1000 ⟨[(0,(.lit 0))],[],[]⟩
 (.ite (.cmp .lss (.var 1000) (.len (.var 0)))
 (.ob (.tru (.cmp .leq (.lit 0) (.var 1000)))
 (.ob (.tru (.cmp .lss (.var 1000) (.len (.var 0))))
 (.ob (.tru (.cmp .leq (.lit 0) (.var 1000)))
 (.ob (.tru (.cmp .lss (.var 1000) (.len (.var 1))))
 (.ite (.not (.fn 180 (.i (.rd (.var 0) (.var 1000) 0) (.i (.rd (.var 0) (.var 1000) 1) (.i (.rd (.var 0) (.var 1000) 2) (.i (.rd (.var 0) (.var 1000) 3) (.i (.rd (.var 0) (.var 1000) 4) (.i (.rd (.var 0) (.var 1000) 5) (.i (.rd (.var 0) (.var 1000) 6) (.x (.rd (.var 0) (.var 1000) 7) (.i (.rd (.var 0) (.var 1000) 8) (.i (.rd (.var 0) (.var 1000) 9) (.x (.rd (.var 0) (.var 1000) 10) (.i (.rd (.var 0) (.var 1000) 11) (.i (.rd (.var 0) (.var 1000) 12) (.i (.rd (.var 0) (.var 1000) 13) (.i (.rd (.var 0) (.var 1000) 14) (.i (.rd (.var 0) (.var 1000) 15) (.i (.rd (.var 1) (.var 1000) 0) (.i (.rd (.var 1) (.var 1000) 1) (.i (.rd (.var 1) (.var 1000) 2) (.i (.rd (.var 1) (.var 1000) 3) (.i (.rd (.var 1) (.var 1000) 4) (.i (.rd (.var 1) (.var 1000) 5) (.i (.rd (.var 1) (.var 1000) 6) (.x (.rd (.var 1) (.var 1000) 7) (.i (.rd (.var 1) (.var 1000) 8) (.i (.rd (.var 1) (.var 1000) 9) (.x (.rd (.var 1) (.var 1000) 10) (.i (.rd (.var 1) (.var 1000) 11) (.i (.rd (.var 1) (.var 1000) 12) (.i (.rd (.var 1) (.var 1000) 13) (.i (.rd (.var 1) (.var 1000) 14) (.i (.rd (.var 1) (.var 1000) 15) .nil))))))))))))))))))))))))))))))))))
 (.ret ((.v (.one (.z (.bool (.lit false))))),[],1))
 (.next 0 ⟨[(0,(.ar .add .i64 (.var 1000) (.lit 1)))],[],[]⟩))))))
 (.ret ((.v (.one (.z (.bool (.lit true))))),[],1)))))
def c1q:List (Nat×St):=[
(0,⟨(List.append [(.v (.one (.z (.ext B3 (.var 0) false)))),(.v (.one (.z (.ext B3 (.var 1) false)))),(.v (.one (.z .any))),(.v (.one (.z .any))),(.v (.one (.z (.bool (.lit false))))),(.v (.one (.z (.int .i64 (.var 1000))))),(.v (.one (.z (.ext B3 (.var 0) false)))),(.v (.one (.z (.int .i64 (.len (.var 0)))))),(.v (.one (.z (.ext B3 (.var 1) false)))),(.v (.one (.z (.int .i64 (.len (.var 1)))))),(.v (.one (.z (.bool (.cmp .neq (.len (.var 0)) (.len (.var 1)))))))] (List.replicate 16 V.any)),[],1,[]⟩)]
def c2p:List (FuncId×Nat×Nat×St):=[
]
set_option maxRecDepth 100000 in
theorem c0j:T.norm 0 (call Tryz.prog c6Q ⟨Lt.un (Lt.of []),c1q,c2p⟩ 100 90 (i5 0 [a2q,a2q]) [] 0) TT.ret=b6F:=by kernel_rfl
theorem b7U:b6F.low 1000=true:=by kernel_rfl
def b6B:TT i8:=
(.ite (.cmp .neq (.var 0) (.var 7))
 (.ret ((.v (.one (.z (.bool (.lit false))))),[],2))
 (.ite (.cmp .neq (.var 1) (.var 8))
 (.ret ((.v (.one (.z (.bool (.lit false))))),[],2))
 (.ite (.cmp .neq (.var 2) (.var 9))
 (.ret ((.v (.one (.z (.bool (.lit false))))),[],2))
 (.ite (.cmp .neq (.var 3) (.var 10))
 (.ret ((.v (.one (.z (.bool (.lit false))))),[],2))
 (.ite (.cmp .neq (.var 4) (.var 11))
 (.ret ((.v (.one (.z (.bool (.lit false))))),[],2))
 (.ite (.cmp .neq (.var 5) (.var 12))
 (.ret ((.v (.one (.z (.bool (.lit false))))),[],2))
 (.ite (.cmp .neq (.len (.var 6)) (.len (.var 13)))
 (.ret ((.v (.one (.z (.bool (.lit false))))),[],2))
 (.loop 0 3000 ⟨[(0,(.lit 0))],[],[]⟩
 (.ite (.cmp .lss (.var 3000) (.len (.var 6)))
 (.ob (.tru (.cmp .leq (.lit 0) (.var 3000)))
 (.ob (.tru (.cmp .lss (.var 3000) (.len (.var 6))))
 (.ob (.tru (.cmp .leq (.lit 0) (.var 3000)))
 (.ob (.tru (.cmp .lss (.var 3000) (.len (.var 13))))
 (.ite (.cmp .neq (.rd (.var 6) (.var 3000) 0) (.rd (.var 13) (.var 3000) 0))
 (.ret ((.v (.one (.z (.bool (.lit false))))),[],5))
 (.ite (.not (.fn 220 (.x (.rd (.var 6) (.var 3000) 1) (.x (.rd (.var 13) (.var 3000) 1) .nil))))
 (.ret ((.v (.one (.z (.bool (.lit false))))),[],5))
 (.ite (.not (.fn 220 (.x (.rd (.var 6) (.var 3000) 2) (.x (.rd (.var 13) (.var 3000) 2) .nil))))
 (.ret ((.v (.one (.z (.bool (.lit false))))),[],5))
 (.next 0 ⟨[(0,(.ar .add .i64 (.var 3000) (.lit 1)))],[],[]⟩))))))))
 (.ret ((.v (.one (.z (.bool (.lit true))))),[],5)))))))))))
def c3p:List (Nat×St):=[
(2,⟨(List.append [(.v (.agg [(.z (.int .i64 (.var 0))),(.z (.int .i64 (.var 1))),(.z (.int .i64 (.var 2))),(.z (.int .i64 (.var 3))),(.z (.int .i64 (.var 4))),(.z (.int .i64 (.var 5))),(.z (.ext k6 (.var 6) false))])),(.v (.agg [(.z (.int .i64 (.var 7))),(.z (.int .i64 (.var 8))),(.z (.int .i64 (.var 9))),(.z (.int .i64 (.var 10))),(.z (.int .i64 (.var 11))),(.z (.int .i64 (.var 12))),(.z (.ext k6 (.var 13) false))])),(.v (.one (.z (.ptr 0 0)))),(.v (.one (.z (.ptr 1 0)))),(.v (.one (.z (.bool (.lit false))))),(.v (.one (.z (.int .i64 (.var 3000))))),(.v (.one (.z .any))),(.v (.one (.z .any))),(.v (.one (.z (.ptr 0 0)))),(.v (.one (.z (.int .i64 (.var 0))))),(.v (.one (.z (.ptr 1 0)))),(.v (.one (.z (.int .i64 (.var 7))))),(.v (.one (.z (.bool (.cmp .neq (.var 0) (.var 7)))))),(.v (.one (.z (.bool (.lit false))))),(.v (.one (.z (.ptr 0 1)))),(.v (.one (.z (.int .i64 (.var 1))))),(.v (.one (.z (.ptr 1 1)))),(.v (.one (.z (.int .i64 (.var 8))))),(.v (.one (.z (.bool (.cmp .neq (.var 1) (.var 8)))))),(.v (.one (.z (.bool (.cmp .neq (.var 1) (.var 8)))))),(.v (.one (.z (.bool (.lit false))))),(.v (.one (.z (.ptr 0 2)))),(.v (.one (.z (.int .i64 (.var 2))))),(.v (.one (.z (.ptr 1 2)))),(.v (.one (.z (.int .i64 (.var 9))))),(.v (.one (.z (.bool (.cmp .neq (.var 2) (.var 9)))))),(.v (.one (.z (.bool (.cmp .neq (.var 2) (.var 9)))))),(.v (.one (.z (.bool (.lit false))))),(.v (.one (.z (.ptr 0 3)))),(.v (.one (.z (.int .i64 (.var 3))))),(.v (.one (.z (.ptr 1 3)))),(.v (.one (.z (.int .i64 (.var 10))))),(.v (.one (.z (.bool (.cmp .neq (.var 3) (.var 10)))))),(.v (.one (.z (.bool (.cmp .neq (.var 3) (.var 10)))))),(.v (.one (.z (.bool (.lit false))))),(.v (.one (.z (.ptr 0 4)))),(.v (.one (.z (.int .i64 (.var 4))))),(.v (.one (.z (.ptr 1 4)))),(.v (.one (.z (.int .i64 (.var 11))))),(.v (.one (.z (.bool (.cmp .neq (.var 4) (.var 11)))))),(.v (.one (.z (.bool (.cmp .neq (.var 4) (.var 11)))))),(.v (.one (.z (.bool (.lit false))))),(.v (.one (.z (.ptr 0 5)))),(.v (.one (.z (.int .i64 (.var 5))))),(.v (.one (.z (.ptr 1 5)))),(.v (.one (.z (.int .i64 (.var 12))))),(.v (.one (.z (.bool (.cmp .neq (.var 5) (.var 12)))))),(.v (.one (.z (.bool (.cmp .neq (.var 5) (.var 12)))))),(.v (.one (.z (.bool (.lit false))))),(.v (.one (.z (.ptr 0 6)))),(.v (.one (.z (.ext k6 (.var 6) false)))),(.v (.one (.z (.int .i64 (.len (.var 6)))))),(.v (.one (.z (.ptr 1 6)))),(.v (.one (.z (.ext k6 (.var 13) false)))),(.v (.one (.z (.int .i64 (.len (.var 13)))))),(.v (.one (.z (.bool (.cmp .neq (.len (.var 6)) (.len (.var 13))))))),(.v (.one (.z (.bool (.cmp .neq (.len (.var 6)) (.len (.var 13)))))))] (List.replicate 38 V.any)),[(1,(.cells 29 [(.z (.int .i64 (.var 7))),(.z (.int .i64 (.var 8))),(.z (.int .i64 (.var 9))),(.z (.int .i64 (.var 10))),(.z (.int .i64 (.var 11))),(.z (.int .i64 (.var 12))),(.z (.ext k6 (.var 13) false))])),(0,(.cells 29 [(.z (.int .i64 (.var 0))),(.z (.int .i64 (.var 1))),(.z (.int .i64 (.var 2))),(.z (.int .i64 (.var 3))),(.z (.int .i64 (.var 4))),(.z (.int .i64 (.var 5))),(.z (.ext k6 (.var 6) false))]))],3,[]⟩)]
def c1v:List (FuncId×Nat×Nat×St):=[
]
set_option maxRecDepth 100000 in
theorem c0E:T.norm 0 (call Tryz.prog c6X ⟨Lt.un (Lt.of []),c3p,c1v⟩ 100 56 (i5 0 [notS,notS]) [] 0) TT.ret=b6B:=by kernel_rfl
theorem b8m:b6B.low 1000=true:=by kernel_rfl
def b7E:TT i8:=
(.ite (.fn 190 (.i (.var 4) (.i (.var 5) (.i (.var 6) (.i (.var 7) (.i (.var 8) (.i (.var 9) (.x (.var 10) (.i (.var 15) (.i (.var 16) (.i (.var 17) (.i (.var 18) (.i (.var 19) (.i (.var 20) (.x (.var 21) .nil)))))))))))))))
 (.ite (.cmp .eql (.var 0) (.var 11))
 (.ite (.cmp .eql (.var 1) (.var 12))
 (.ite (.cmp .eql (.var 2) (.var 13))
 (.ret ((.v (.one (.z (.bool (.eqb (.var 3) (.var 14)))))),[],2))
 (.ret ((.v (.one (.z (.bool (.lit false))))),[],2)))
 (.ret ((.v (.one (.z (.bool (.lit false))))),[],2)))
 (.ret ((.v (.one (.z (.bool (.lit false))))),[],2)))
 (.ret ((.v (.one (.z (.bool (.lit false))))),[],2)))
set_option maxRecDepth 100000 in
theorem c0w:T.norm 0 (call Tryz.prog c3v (Lt.of []) 100 26 (i5 0 [L5,L5]) [] 0) TT.ret=b7E:=by kernel_rfl
theorem b7u:b7E.low 1000=true:=by kernel_rfl
def b7h:TT i8:=
(.ite (.cmp .neq (.len (.var 0)) (.len (.var 1)))
 (.ret ((.v (.one (.z (.bool (.lit false))))),[],0))
 (.loop 0 1000 ⟨[(0,(.lit 0))],[],[]⟩
 (.ite (.cmp .lss (.var 1000) (.len (.var 0)))
 (.ob (.tru (.cmp .leq (.lit 0) (.var 1000)))
 (.ob (.tru (.cmp .lss (.var 1000) (.len (.var 0))))
 (.ob (.tru (.cmp .leq (.lit 0) (.var 1000)))
 (.ob (.tru (.cmp .lss (.var 1000) (.len (.var 1))))
 (.ite (.not (.fn 190 (.i (.rd (.var 0) (.var 1000) 0) (.i (.rd (.var 0) (.var 1000) 1) (.i (.rd (.var 0) (.var 1000) 2) (.i (.rd (.var 0) (.var 1000) 3) (.i (.rd (.var 0) (.var 1000) 4) (.i (.rd (.var 0) (.var 1000) 5) (.x (.rd (.var 0) (.var 1000) 6) (.i (.rd (.var 1) (.var 1000) 0) (.i (.rd (.var 1) (.var 1000) 1) (.i (.rd (.var 1) (.var 1000) 2) (.i (.rd (.var 1) (.var 1000) 3) (.i (.rd (.var 1) (.var 1000) 4) (.i (.rd (.var 1) (.var 1000) 5) (.x (.rd (.var 1) (.var 1000) 6) .nil))))))))))))))))
 (.ret ((.v (.one (.z (.bool (.lit false))))),[],1))
 (.next 0 ⟨[(0,(.ar .add .i64 (.var 1000) (.lit 1)))],[],[]⟩))))))
 (.ret ((.v (.one (.z (.bool (.lit true))))),[],1)))))
def c3a:List (Nat×St):=[
(0,⟨(List.append [(.v (.one (.z (.ext f7 (.var 0) false)))),(.v (.one (.z (.ext f7 (.var 1) false)))),(.v (.one (.z .any))),(.v (.one (.z .any))),(.v (.one (.z (.bool (.lit false))))),(.v (.one (.z (.int .i64 (.var 1000))))),(.v (.one (.z .any))),(.v (.one (.z (.ext f7 (.var 0) false)))),(.v (.one (.z (.int .i64 (.len (.var 0)))))),(.v (.one (.z (.ext f7 (.var 1) false)))),(.v (.one (.z (.int .i64 (.len (.var 1)))))),(.v (.one (.z (.bool (.cmp .neq (.len (.var 0)) (.len (.var 1)))))))] (List.replicate 17 V.any)),[],1,[]⟩)]
def c3z:List (FuncId×Nat×Nat×St):=[
]
set_option maxRecDepth 100000 in
theorem c0b:T.norm 0 (call Tryz.prog c3v ⟨Lt.un (Lt.of []),c3a,c3z⟩ 100 25 (i5 0 [z0,z0]) [] 0) TT.ret=b7h:=by kernel_rfl
theorem b7G:b7h.low 1000=true:=by kernel_rfl
def b8z:TT i8:=
(.ite (.cmp .neq (.len (.var 0)) (.len (.var 1)))
 (.ret ((.v (.one (.z (.bool (.lit false))))),[],0))
 (.loop 0 1000 ⟨[(0,(.lit 0))],[],[]⟩
 (.ite (.cmp .lss (.var 1000) (.len (.var 0)))
 (.ob (.tru (.cmp .leq (.lit 0) (.var 1000)))
 (.ob (.tru (.cmp .lss (.var 1000) (.len (.var 0))))
 (.ob (.tru (.cmp .leq (.lit 0) (.var 1000)))
 (.ob (.tru (.cmp .lss (.var 1000) (.len (.var 1))))
 (.ite (.not (.fn 221 (.i (.rd (.var 0) (.var 1000) 0) (.i (.rd (.var 0) (.var 1000) 1) (.i (.rd (.var 0) (.var 1000) 2) (.b (.rd (.var 0) (.var 1000) 3) (.i (.rd (.var 0) (.var 1000) 4) (.i (.rd (.var 0) (.var 1000) 5) (.i (.rd (.var 0) (.var 1000) 6) (.i (.rd (.var 0) (.var 1000) 7) (.i (.rd (.var 0) (.var 1000) 8) (.i (.rd (.var 0) (.var 1000) 9) (.x (.rd (.var 0) (.var 1000) 10) (.i (.rd (.var 1) (.var 1000) 0) (.i (.rd (.var 1) (.var 1000) 1) (.i (.rd (.var 1) (.var 1000) 2) (.b (.rd (.var 1) (.var 1000) 3) (.i (.rd (.var 1) (.var 1000) 4) (.i (.rd (.var 1) (.var 1000) 5) (.i (.rd (.var 1) (.var 1000) 6) (.i (.rd (.var 1) (.var 1000) 7) (.i (.rd (.var 1) (.var 1000) 8) (.i (.rd (.var 1) (.var 1000) 9) (.x (.rd (.var 1) (.var 1000) 10) .nil))))))))))))))))))))))))
 (.ret ((.v (.one (.z (.bool (.lit false))))),[],1))
 (.next 0 ⟨[(0,(.ar .add .i64 (.var 1000) (.lit 1)))],[],[]⟩))))))
 (.ret ((.v (.one (.z (.bool (.lit true))))),[],1)))))
def c2L:List (Nat×St):=[
(0,⟨(List.append [(.v (.one (.z (.ext s8 (.var 0) false)))),(.v (.one (.z (.ext s8 (.var 1) false)))),(.v (.one (.z .any))),(.v (.one (.z .any))),(.v (.one (.z (.bool (.lit false))))),(.v (.one (.z (.int .i64 (.var 1000))))),(.v (.one (.z .any))),(.v (.one (.z (.ext s8 (.var 0) false)))),(.v (.one (.z (.int .i64 (.len (.var 0)))))),(.v (.one (.z (.ext s8 (.var 1) false)))),(.v (.one (.z (.int .i64 (.len (.var 1)))))),(.v (.one (.z (.bool (.cmp .neq (.len (.var 0)) (.len (.var 1)))))))] (List.replicate 17 V.any)),[],1,[]⟩)]
def c4d:List (FuncId×Nat×Nat×St):=[
]
set_option maxRecDepth 100000 in
theorem c0K:T.norm 0 (call Tryz.prog c6O ⟨Lt.un (Lt.of []),c2L,c4d⟩ 100 19 (i5 0 [E9,E9]) [] 0) TT.ret=b8z:=by kernel_rfl
theorem b7o:b8z.low 1000=true:=by kernel_rfl
def b8c:TT i8:=
(.ite (.fn 220 (.x (.var 1) (.x (.var 3) .nil)))
 (.ret ((.v (.one (.z (.bool (.cmp .eql (.var 0) (.var 2)))))),[],2))
 (.ret ((.v (.one (.z (.bool (.lit false))))),[],2)))
set_option maxRecDepth 100000 in
theorem c0x:T.norm 0 (call Tryz.prog c3o (Lt.of []) 100 16 (i5 0 [D6,D6]) [] 0) TT.ret=b8c:=by kernel_rfl
theorem b6A:b8c.low 1000=true:=by kernel_rfl
def b7X:TT i8:=
(.ite (.fn 220 (.x (.var 1) (.x (.var 3) .nil)))
 (.ret ((.v (.one (.z (.bool (.cmp .eql (.var 0) (.var 2)))))),[],2))
 (.ret ((.v (.one (.z (.bool (.lit false))))),[],2)))
set_option maxRecDepth 100000 in
theorem c0W:T.norm 0 (call Tryz.prog c3o (Lt.of []) 100 24 (i5 0 [D6,D6]) [] 0) TT.ret=b7X:=by kernel_rfl
theorem b7q:b7X.low 1000=true:=by kernel_rfl
def b2e:TT i8:=
(.loop 0 2000 ⟨[(0,(.len (.var 6))),(1,(.lit 0))],[],[]⟩
 (.ite (.cmp .lss (.var 2001) (.len (.var 6)))
 (.ob (.tru (.cmp .leq (.lit 0) (.var 2001)))
 (.ob (.tru (.cmp .lss (.var 2001) (.len (.var 6))))
 (.loop 1 4000 ⟨[(0,(.ar .add .i64 (.ar .add .i64 (.var 2000) (.len (.rd (.var 6) (.var 2001) 1))) (.len (.rd (.var 6) (.var 2001) 2)))),(1,(.lit 0))],[],[]⟩
 (.ite (.cmp .lss (.var 4001) (.len (.rd (.var 6) (.var 2001) 2)))
 (.ob (.tru (.cmp .leq (.lit 0) (.var 4001)))
 (.ob (.tru (.cmp .lss (.var 4001) (.len (.rd (.var 6) (.var 2001) 2))))
 (.ob (.tru (.cmp .leq (.lit 0) (.var 4001)))
 (.ob (.tru (.cmp .lss (.var 4001) (.len (.rd (.var 6) (.var 2001) 2))))
 (.next 1 ⟨[(0,(.ar .add .i64 (.ar .add .i64 (.var 4000) (.len (.rd (.rd (.var 6) (.var 2001) 2) (.var 4001) 7))) (.len (.rd (.rd (.var 6) (.var 2001) 2) (.var 4001) 10)))),(1,(.ar .add .i64 (.var 4001) (.lit 1)))],[],[]⟩)))))
 (.next 0 ⟨[(0,(.var 4000)),(1,(.ar .add .i64 (.var 2001) (.lit 1)))],[],[]⟩)))))
 (.ret ((.v (.one (.z (.int .i64 (.var 2000))))),[],4))))
def b9X:List (Nat×St):=[
(1,⟨(List.append [(.v (.agg [(.z (.int .i64 (.var 0))),(.z (.int .i64 (.var 1))),(.z (.int .i64 (.var 2))),(.z (.int .i64 (.var 3))),(.z (.int .i64 (.var 4))),(.z (.int .i64 (.var 5))),(.z (.ext k6 (.var 6) false))])),(.v (.one (.z (.ptr 0 0)))),(.v (.one (.z (.int .i64 (.lit 0))))),(.v (.one (.z (.int .i64 (.var 2000))))),(.v (.one (.z (.int .i64 (.var 2001))))),(.v (.one (.z .any))),(.v (.one (.z .any))),(.v (.one (.z (.ptr 0 6)))),(.v (.one (.z (.ext k6 (.var 6) false)))),(.v (.one (.z (.int .i64 (.len (.var 6))))))] (List.replicate 48 V.any)),[(0,(.cells 29 [(.z (.int .i64 (.var 0))),(.z (.int .i64 (.var 1))),(.z (.int .i64 (.var 2))),(.z (.int .i64 (.var 3))),(.z (.int .i64 (.var 4))),(.z (.int .i64 (.var 5))),(.z (.ext k6 (.var 6) false))]))],2,[]⟩),
(3,⟨(List.append [(.v (.agg [(.z (.int .i64 (.var 0))),(.z (.int .i64 (.var 1))),(.z (.int .i64 (.var 2))),(.z (.int .i64 (.var 3))),(.z (.int .i64 (.var 4))),(.z (.int .i64 (.var 5))),(.z (.ext k6 (.var 6) false))])),(.v (.one (.z (.ptr 0 0)))),(.v (.one (.z (.int .i64 (.lit 0))))),(.v (.one (.z (.int .i64 (.var 4000))))),(.v (.one (.z (.int .i64 (.var 2001))))),(.v (.one (.z (.ptr 2 0)))),(.v (.one (.z (.int .i64 (.var 4001))))),(.v (.one (.z (.ptr 0 6)))),(.v (.one (.z (.ext k6 (.var 6) false)))),(.v (.one (.z (.int .i64 (.len (.var 6)))))),(.v (.one (.z (.int .i64 (.var 2001))))),(.v (.one (.z (.ptr 0 6)))),(.v (.one (.z (.ext k6 (.var 6) false)))),(.v (.one (.z (.int .i64 (.len (.var 6)))))),(.v (.one (.z (.bool (.cmp .lss (.var 2001) (.len (.var 6))))))),(.v (.one (.z .any))),(.v (.one (.z .any))),(.v (.one (.z (.ptr 0 6)))),(.v (.one (.z (.ext k6 (.var 6) false)))),(.v (.one (.z (.int .i64 (.var 2001))))),(.v (.one (.z (.eptr k6 (.var 6) (.var 2001) 0)))),(.v (.agg [(.z (.int .i64 (.rd (.var 6) (.var 2001) 0))),(.z (.ext [(.int .i64)] (.rd (.var 6) (.var 2001) 1) false)),(.z (.ext B3 (.rd (.var 6) (.var 2001) 2) false))])),(.v (.one (.z (.int .i64 (.var 2000))))),(.v (.one (.z (.ptr 2 1)))),(.v (.one (.z (.ext [(.int .i64)] (.rd (.var 6) (.var 2001) 1) false)))),(.v (.one (.z (.int .i64 (.len (.rd (.var 6) (.var 2001) 1)))))),(.v (.one (.z (.int .i64 (.ar .add .i64 (.var 2000) (.len (.rd (.var 6) (.var 2001) 1))))))),(.v (.one (.z (.ptr 2 2)))),(.v (.one (.z (.ext B3 (.rd (.var 6) (.var 2001) 2) false)))),(.v (.one (.z (.int .i64 (.len (.rd (.var 6) (.var 2001) 2)))))),(.v (.one (.z (.int .i64 (.ar .add .i64 (.ar .add .i64 (.var 2000) (.len (.rd (.var 6) (.var 2001) 1))) (.len (.rd (.var 6) (.var 2001) 2)))))))] (List.replicate 27 V.any)),[(2,(.cells 106 [(.z (.int .i64 (.rd (.var 6) (.var 2001) 0))),(.z (.ext [(.int .i64)] (.rd (.var 6) (.var 2001) 1) false)),(.z (.ext B3 (.rd (.var 6) (.var 2001) 2) false))])),(0,(.cells 29 [(.z (.int .i64 (.var 0))),(.z (.int .i64 (.var 1))),(.z (.int .i64 (.var 2))),(.z (.int .i64 (.var 3))),(.z (.int .i64 (.var 4))),(.z (.int .i64 (.var 5))),(.z (.ext k6 (.var 6) false))]))],4,[]⟩)]
def c0n:List (FuncId×Nat×Nat×St):=[
]
set_option maxRecDepth 100000 in
theorem b6T:T.norm 0 (call Tryz.prog b3K ⟨Lt.un (Lt.of []),b9X,c0n⟩ 100 37 (i5 0 [notS]) [] 0) TT.ret=b2e:=by kernel_rfl
theorem b5J:b2e.low 1000=true:=by kernel_rfl
def b2q:TT i8:=
(.ite (.cmp .gtr (.len (.var 0)) (.lit 12))
 (.ret ((.v (.one (.z (.bool (.lit false))))),[],0))
 (.loop 0 1000 ⟨[(0,(.lit 0))],[],[]⟩
 (.ite (.cmp .lss (.var 1000) (.len (.var 0)))
 (.ob (.tru (.cmp .leq (.lit 0) (.var 1000)))
 (.ob (.tru (.cmp .lss (.var 1000) (.len (.var 0))))
 (.ite (.cmp .gtr (.fn 220 (.i (.rd (.var 0) (.var 1000) 0) (.i (.rd (.var 0) (.var 1000) 1) (.i (.rd (.var 0) (.var 1000) 2) (.i (.rd (.var 0) (.var 1000) 3) (.i (.rd (.var 0) (.var 1000) 4) (.i (.rd (.var 0) (.var 1000) 5) (.x (.rd (.var 0) (.var 1000) 6) .nil)))))))) (.lit 400))
 (.ret ((.v (.one (.z (.bool (.lit false))))),[],1))
 (.next 0 ⟨[(0,(.ar .add .i64 (.var 1000) (.lit 1)))],[],[]⟩))))
 (.ret ((.v (.one (.z (.bool (.lit true))))),[],1)))))
def c0U:List (Nat×St):=[
(0,⟨(List.append [(.v (.one (.z (.ext f7 (.var 0) false)))),(.v (.one (.z .any))),(.v (.one (.z (.bool (.lit false))))),(.v (.one (.z (.int .i64 (.var 1000))))),(.v (.one (.z (.ext f7 (.var 0) false)))),(.v (.one (.z (.int .i64 (.len (.var 0)))))),(.v (.one (.z (.bool (.cmp .gtr (.len (.var 0)) (.lit 12))))))] (List.replicate 12 V.any)),[],1,[]⟩)]
def c0F:List (FuncId×Nat×Nat×St):=[
]
set_option maxRecDepth 100000 in
theorem b6K:T.norm 0 (call Tryz.prog c6f ⟨Lt.un (Lt.of []),c0U,c0F⟩ 100 12 (i5 0 [z0]) [] 0) TT.ret=b2q:=by kernel_rfl
theorem b4b:b2q.low 1000=true:=by kernel_rfl
def a5c:TT i8:=
(.loop 0 1000 ⟨[(0,(.lit 0))],[],[]⟩
 (.ite (.cmp .lss (.var 1000) (.len (.var 0)))
 (.ob (.tru (.cmp .leq (.lit 0) (.var 1000)))
 (.ob (.tru (.cmp .lss (.var 1000) (.len (.var 0))))
 (.ite (.not (.fn 222 (.x (.app (.row (.i (.rd (.var 0) (.var 1000) 4) (.i (.rd (.var 0) (.var 1000) 5) (.i (.rd (.var 0) (.var 1000) 6) (.i (.rd (.var 0) (.var 1000) 7) (.i (.rd (.var 0) (.var 1000) 8) (.i (.rd (.var 0) (.var 1000) 9) (.x (.rd (.var 0) (.var 1000) 10) .nil)))))))) .nil) .nil)))
 (.ret ((.v (.one (.z (.bool (.lit false))))),[],3))
 (.next 0 ⟨[(0,(.ar .add .i64 (.var 1000) (.lit 1)))],[],[]⟩))))
 (.ret ((.v (.one (.z (.bool (.lit true))))),[],3))))
def b4q:List (Nat×St):=[
(0,⟨(List.append [(.v (.one (.z (.ext s8 (.var 0) false)))),(.v (.one (.z .any))),(.v (.one (.z (.bool (.lit false))))),(.v (.one (.z .any))),(.v (.one (.z .any))),(.v (.one (.z (.ext s8 (.var 0) false)))),(.v (.one (.z (.int .i64 (.len (.var 0)))))),(.v (.one (.z (.int .i64 (.var 1000)))))] (List.replicate 9 V.any)),[],1,[]⟩)]
def b4f:List (FuncId×Nat×Nat×St):=[
]
set_option maxRecDepth 100000 in
theorem b2Y:T.norm 0 (call Tryz.prog c6p ⟨Lt.un (Lt.of []),b4q,b4f⟩ 100 13 (i5 0 [E9]) [] 0) TT.ret=a5c:=by kernel_rfl
theorem a9S:a5c.low 1000=true:=by kernel_rfl
def x6(ds:List D):Bool:=l9 (f8 ds 0) (f8 ds 1)
theorem a0N(a b:Rows):x6 [.l a,.l b]=l9 a b:=rfl
theorem c0D{a b:Rows}(hl:a.length=b.length)(h:∀k (h1:k<a.length) (h2:k<b.length),a[k]=b[k]):l9 a b=true:=by
 rw[List.ext_getElem hl h];exact x7 _
theorem A5{a b:Rows}(h:a≠b):l9 a b=false:=by
 cases q:l9 a b with
 | false=>rfl
 | true=>exact absurd (C4 _ _ q) h
theorem a5v{a b:Rows}:l9 a b=true↔a=b:=⟨C4 _ _,fun h=>by rw[h];exact x7 _⟩
theorem a5X{c:Nat}{a b:Rows}(wa:H3 c a)(wb:H3 c b){i:Nat}(ha:i<a.length)(hb:i<b.length)(h:∀j,j<c→lg a i j=lg b i j):a[i]=b[i]:=by
 obtain⟨l1,n1⟩:=wa _ (List.getElem_mem ha)
 obtain⟨l2,n2⟩:=wb _ (List.getElem_mem hb)
 refine List.ext_getElem (by omega) (fun j g1 g2=> ?_)
 have g:=h j (by omega)
 rw[q7 ha,q7 hb] at g
 unfold cI at g
 rw[List.getElem?_eq_getElem g1,List.getElem?_eq_getElem g2] at g
 simp only[Option.getD_some] at g
 obtain⟨u,eu⟩:=n1 _ (List.getElem_mem g1)
 obtain⟨v,ev⟩:=n2 _ (List.getElem_mem g2)
 rw[eu,ev] at g ⊢
 have g':u=v:=g
 rw[g']
def m6(row:List D):Prop:=row=[.i (cI row 0),.i (cI row 1),.i (cI row 2),.i (cI row 3),.i (cI row 4),.i (cI row 5),.l (cR row 6)]∧H4 k6 (cR row 6)
theorem J9{row:List D}(h:y3 f7 row):m6 row:=by
 obtain⟨d0,r0,rfl,h0,h⟩:=i7 h
 obtain⟨d1,r1,rfl,h1,h⟩:=i7 h
 obtain⟨d2,r2,rfl,h2,h⟩:=i7 h
 obtain⟨d3,r3,rfl,h3,h⟩:=i7 h
 obtain⟨d4,r4,rfl,h4,h⟩:=i7 h
 obtain⟨d5,r5,rfl,h5,h⟩:=i7 h
 obtain⟨d6,r6,rfl,h6,h⟩:=i7 h
 obtain rfl:=O3 h
 obtain⟨n0,rfl⟩:=l8 h0
 obtain⟨n1,rfl⟩:=l8 h1
 obtain⟨n2,rfl⟩:=l8 h2
 obtain⟨n3,rfl⟩:=l8 h3
 obtain⟨n4,rfl⟩:=l8 h4
 obtain⟨n5,rfl⟩:=l8 h5
 obtain⟨a6,rfl,w6⟩:=R6 h6
 exact⟨rfl,w6⟩
def b2h(row:List D):Prop:=row=[.i (cI row 0),.i (cI row 1),.i (cI row 2),.b (cB row 3),.i (cI row 4),.i (cI row 5),.i (cI row 6),.i (cI row 7),.i (cI row 8),.i (cI row 9),.l (cR row 10)]∧H4 k6 (cR row 10)
theorem b0V{row:List D}(h:y3 s8 row):b2h row:=by
 obtain⟨d0,r0,rfl,h0,h⟩:=i7 h
 obtain⟨d1,r1,rfl,h1,h⟩:=i7 h
 obtain⟨d2,r2,rfl,h2,h⟩:=i7 h
 obtain⟨d3,r3,rfl,h3,h⟩:=i7 h
 obtain⟨d4,r4,rfl,h4,h⟩:=i7 h
 obtain⟨d5,r5,rfl,h5,h⟩:=i7 h
 obtain⟨d6,r6,rfl,h6,h⟩:=i7 h
 obtain⟨d7,r7,rfl,h7,h⟩:=i7 h
 obtain⟨d8,r8,rfl,h8,h⟩:=i7 h
 obtain⟨d9,r9,rfl,h9,h⟩:=i7 h
 obtain⟨d10,r10,rfl,h10,h⟩:=i7 h
 obtain rfl:=O3 h
 obtain⟨n0,rfl⟩:=l8 h0
 obtain⟨n1,rfl⟩:=l8 h1
 obtain⟨n2,rfl⟩:=l8 h2
 obtain⟨n3,rfl⟩:=b6W h3
 obtain⟨n4,rfl⟩:=l8 h4
 obtain⟨n5,rfl⟩:=l8 h5
 obtain⟨n6,rfl⟩:=l8 h6
 obtain⟨n7,rfl⟩:=l8 h7
 obtain⟨n8,rfl⟩:=l8 h8
 obtain⟨n9,rfl⟩:=l8 h9
 obtain⟨a10,rfl,w10⟩:=R6 h10
 exact⟨rfl,w10⟩
def k7(x:List D)(j:Nat):List D:=[.i (cI x j),.i (cI x (j+1)),.i (cI x (j+2)),.i (cI x (j+3)),.i (cI x (j+4)),.i (cI x (j+5)),.l (cR x (j+6))]
theorem b6g(x y:List D)(i j:Nat):v4 (k7 x i++k7 y j)=true↔k7 x i=k7 y j:=by
 have e:v4 (k7 x i++k7 y j)=(decide (cI x i=cI y j∧cI x (i+1)=cI y (j+1)∧cI x (i+2)=cI y (j+2)∧cI x (i+3)=cI y (j+3)∧cI x (i+4)=cI y (j+4)∧cI x (i+5)=cI y (j+5))&&l9 (cR x (i+6)) (cR y (j+6))):=rfl
 rw[e]
 unfold k7
 simp only[Bool.and_eq_true,decide_eq_true_eq,a5v,List.cons.injEq,D.i.injEq,D.l.injEq,and_true]
 constructor
 ·rintro⟨⟨a,b,c,d,e,f⟩,g⟩;exact⟨a,b,c,d,e,f,g⟩
 ·rintro⟨a,b,c,d,e,f,g⟩;exact⟨⟨a,b,c,d,e,f⟩,g⟩
theorem b9P{x y:List D}(hx:m6 x)(hy:m6 y):v4 (k7 x 0++k7 y 0)=true↔x=y:=by
 have e1:x=k7 x 0:=hx.1
 have e2:y=k7 y 0:=hy.1
 rw[b6g,←e1,←e2]
def leL(ds:List D):Bool:=v4 (ntA ds 4++ntA ds 15)&&(decide (a9 ds 0=a9 ds 11∧a9 ds 1=a9 ds 12∧a9 ds 2=a9 ds 13)&&(bAt ds 3 == bAt ds 14))
def D3(x:List D):List D:=[.i (cI x 0),.i (cI x 1),.i (cI x 2),.b (cB x 3),.i (cI x 4),.i (cI x 5),.i (cI x 6),.i (cI x 7),.i (cI x 8),.i (cI x 9),.l (cR x 10)]
theorem c4X{x y:List D}(hx:b2h x)(hy:b2h y):leL (D3 x++D3 y)=true↔x=y:=by
 have e:leL (D3 x++D3 y)=(v4 (k7 x 4++k7 y 4)&&(decide (cI x 0=cI y 0∧cI x 1=cI y 1∧cI x 2=cI y 2)&&(cB x 3 == cB y 3))):=rfl
 have e1:x=D3 x:=hx.1
 have e2:y=D3 y:=hy.1
 rw[e,Bool.and_eq_true,b6g,Bool.and_eq_true,decide_eq_true_eq,beq_iff_eq]
 constructor
 ·rintro⟨h,⟨a,b,c⟩,d⟩
  unfold k7 at h
  simp only[List.cons.injEq,D.i.injEq,D.l.injEq,and_true] at h
  obtain⟨h4,h5,h6,h7,h8,h9,h10⟩:=h
  rw[e1,e2,D3,D3,a,b,c,d,h4,h5,h6,h7,h8,h9,h10]
 ·rintro rfl;exact⟨rfl,⟨rfl,rfl,rfl⟩,rfl⟩
def bxL(ds:List D):Bool:=l9 (f8 ds 1) (f8 ds 3)&&decide (a9 ds 0=a9 ds 2)
def a6f(r:Rows):Nat→Nat→Int→Int
 | 0,_,s=>s
 | f+1,k,s=>a6f r f (k+1) (IntKind.i64.wrap (IntKind.i64.wrap (s+((lr r k 7).length:Nat))+((lr r k 10).length:Nat)))
def a4Y(r:Rows):Nat→Nat→Int→Int
 | 0,_,s=>s
 | f+1,i,s=>a4Y r f (i+1) (a6f (lr r i 2) (lr r i 2).length 0 (IntKind.i64.wrap (IntKind.i64.wrap (s+((lr r i 1).length:Nat))+((lr r i 2).length:Nat))))
def a3d(ds:List D):Int:=a4Y (f8 ds 6) (f8 ds 6).length 0 ((f8 ds 6).length:Nat)
def a5N(r:Rows):Nat→Nat→Bool
 | 0,_=>true
 | f+1,i=>decide (a3d [.i (lg r i 0),.i (lg r i 1),.i (lg r i 2),.i (lg r i 3),.i (lg r i 4),.i (lg r i 5),.l (lr r i 6)]≤400)&&a5N r f (i+1)
def R9(ds:List D):Bool:=decide ((f8 ds 0).length≤12)&&a5N (f8 ds 0) (f8 ds 0).length 0
def smN(r:Rows):Nat→Nat→Bool
 | 0,_=>true
 | f+1,i=>R9 [.l [[.i (lg r i 4),.i (lg r i 5),.i (lg r i 6),.i (lg r i 7),.i (lg r i 8),.i (lg r i 9),.l (lr r i 10)]]]&&smN r f (i+1)
def smL(ds:List D):Bool:=smN (f8 ds 0) (f8 ds 0).length 0
def Q5:Interp where
 fi n l:=match n with | 220=>a3d l | n=>Q4.fi n l
 fb n l:=match n with | 220=>x6 l | 221=>leL l | 222=>R9 l | 223=>smL l | 224=>bxL l | n=>Q4.fb n l
 fd _ _:=[]
theorem c4t{ρ:Env}(h:Sees ρ Q5 230):Sees ρ Q4 220:=h.trans (by decide) fun n l hn=>by
 refine⟨?_,?_⟩
 ·
  simp only[Q5]
  split<;>first | omega | rfl
 ·
  simp only[Q5]
  split<;>first | omega | rfl
theorem b4s(W:World)(ds l:List D):(g8 Q5 W ds).fb 147 l=sameL l:=by simp only[g8,Q5,Q4,Q3,Q2,Q1,N4,N3,N2,N1]
theorem b6t(W:World)(ds l:List D):(g8 Q5 W ds).fb 180 l=z4 l:=by simp only[g8,Q5,Q4,Q3,Q2,Q1]
theorem a9A(W:World)(ds l:List D):(g8 Q5 W ds).fb 190 l=v4 l:=by simp only[g8,Q5,Q4,Q3,Q2]
theorem a1I(W:World)(ds l:List D):(g8 Q5 W ds).fb 220 l=x6 l:=by simp only[g8,Q5]
theorem b5O(W:World)(ds l:List D):(g8 Q5 W ds).fb 221 l=leL l:=by simp only[g8,Q5]
theorem b4x(W:World)(ds l:List D):(g8 Q5 W ds).fb 222 l=R9 l:=by simp only[g8,Q5]
theorem b5m(W:World)(ds l:List D):(g8 Q5 W ds).fi 220 l=a3d l:=by simp only[g8,Q5]
theorem G7{ks:List CK}{r:Rows}(hk:ks=List.replicate ks.length (.int .i64))(h:H4 ks r):H3 ks.length r:=a1c (fun k hm=>by rw[hk] at hm;exact⟨_,(List.eq_of_mem_replicate hm)⟩) h
def EqTo(a b:Rows)(i:Nat):Prop:=i≤a.length∧∀k (h1:k<a.length) (h2:k<b.length),k<i→a[k]=b[k]
theorem EqTo.zero(a b:Rows):EqTo a b 0:=⟨by omega,fun k _ _ h=>by omega⟩
theorem EqTo.next{a b:Rows}{i:Nat}(h:EqTo a b i)(h1:i<a.length)(h2:i<b.length)(e:a[i]=b[i]):EqTo a b (i+1):=⟨by omega,fun k g1 g2 hk=>by
 by_cases q:k=i
 ·subst q;exact e
 ·exact h.2 k g1 g2 (by omega)⟩
theorem EqTo.done{a b:Rows}{i:Nat}(h:EqTo a b i)(hl:a.length=b.length)(hi:a.length≤i):l9 a b=true:=c0D hl (fun k h1 h2=>h.2 k h1 h2 (by omega))
theorem a2m(a b:Int):s7 .eql a b=decide (a=b):=rfl
theorem gE2:k8 Tryz.prog 141 [S7,S7] (fun ds=> .bool (x6 ds)):=by
 refine GivesIf.all (i6 Q5 (by kernel_rfl) (fun ρ h=>CtOk.nil) (by kernel_rfl) c0k b8d (by decide) (fun W vals ds hr _=> ?_))
 have hw:=m8 hr
 have r0:=m7 (j:=0) hw rfl
 have r1:=m7 (j:=1) hw rfl
 have w0:H3 2 (f8 ds 0):=G7 rfl r0
 have w1:H3 2 (f8 ds 1):=G7 rfl r1
 have n0:=r0.1
 simp only[b6Q,g7,Nat.reduceBEq,Nat.reduceLT,Nat.reduceSub]
 unfold x6
 clear hr hw r0 r1
 generalize e0:f8 ds 0=a at*
 generalize e1:f8 ds 1=b at*
 refine⟨fun h=>by rw[A5 (fun e=>h (by rw[e]))],fun hl=> ?_⟩
 have hl:a.length=b.length:=by omega
 refine TT.sat_loop (fun v=>∃i:Nat,v.i 0=i∧EqTo a b i) (fun v=>a.length-(v.i 0).toNat) ⟨0,by simp [o6,j6,E.ev],.zero a b⟩ (fun v hv=> ?_)
 obtain⟨i,i0,i1⟩:=hv
 simp only[g7,Nat.reduceBEq,Nat.reduceLT,Nat.reduceSub,i0,e0,e1]
 refine⟨fun hc=> ?_,fun hc=> ?_⟩
 ·have ha:i<a.length:=by omega
  have hb:i<b.length:=by omega
  have ne:¬(∀j,j<2→lg a i j=lg b i j)→Value.bool false=Value.bool (l9 a b):=fun h=>by rw[A5 (fun e=>h (fun j _=>by subst e;rfl))]
  rw[f9 ((i:Int)+1) (by omega) (by omega)]
  refine⟨by omega,by omega,by omega,by omega,fun h=>ne (fun e=>h ⟨e 0 (by omega),e 1 (by omega)⟩),fun h=>⟨⟨i+1,rfl,i1.next ha hb (a5X w0 w1 ha hb (fun j hj=> ?_))⟩,by omega⟩⟩
  match j,hj with
  | 0,_=>exact h.1
  | 1,_=>exact h.2
  | j+2,hj=>omega
 ·rw[i1.done hl (by omega)]
theorem gE6:k8 Tryz.prog 142 [Z9,Z9] (fun ds=> .bool (x6 ds)):=by
 refine GivesIf.all (i6 Q5 (by kernel_rfl) (fun ρ h=>CtOk.nil) (by kernel_rfl) c0Q b7B (by decide) (fun W vals ds hr _=> ?_))
 have hw:=m8 hr
 have r0:=m7 (j:=0) hw rfl
 have r1:=m7 (j:=1) hw rfl
 have w0:H3 6 (f8 ds 0):=G7 rfl r0
 have w1:H3 6 (f8 ds 1):=G7 rfl r1
 have n0:=r0.1
 simp only[b7M,g7,Nat.reduceBEq,Nat.reduceLT,Nat.reduceSub]
 unfold x6
 clear hr hw r0 r1
 generalize e0:f8 ds 0=a at*
 generalize e1:f8 ds 1=b at*
 refine⟨fun h=>by rw[A5 (fun e=>h (by rw[e]))],fun hl=> ?_⟩
 have hl:a.length=b.length:=by omega
 refine TT.sat_loop (fun v=>∃i:Nat,v.i 0=i∧EqTo a b i) (fun v=>a.length-(v.i 0).toNat) ⟨0,by simp [o6,j6,E.ev],.zero a b⟩ (fun v hv=> ?_)
 obtain⟨i,i0,i1⟩:=hv
 simp only[g7,Nat.reduceBEq,Nat.reduceLT,Nat.reduceSub,i0,e0,e1]
 refine⟨fun hc=> ?_,fun hc=> ?_⟩
 ·have ha:i<a.length:=by omega
  have hb:i<b.length:=by omega
  have ne:¬(∀j,j<6→lg a i j=lg b i j)→Value.bool false=Value.bool (l9 a b):=fun h=>by rw[A5 (fun e=>h (fun j _=>by subst e;rfl))]
  rw[f9 ((i:Int)+1) (by omega) (by omega)]
  refine⟨by omega,by omega,by omega,by omega,fun h=>ne (fun e=>h ⟨⟨e 0 (by omega),e 1 (by omega)⟩,⟨e 2 (by omega),e 3 (by omega)⟩,e 4 (by omega),e 5 (by omega)⟩),fun h=>⟨⟨i+1,rfl,i1.next ha hb (a5X w0 w1 ha hb (fun j hj=> ?_))⟩,by omega⟩⟩
  match j,hj with
  | 0,_=>exact h.1.1
  | 1,_=>exact h.1.2
  | 2,_=>exact h.2.1.1
  | 3,_=>exact h.2.1.2
  | 4,_=>exact h.2.2.1
  | 5,_=>exact h.2.2.2
  | j+6,hj=>omega
 ·rw[i1.done hl (by omega)]
theorem gE1:k8 Tryz.prog 89 [a5z,a5z] (fun ds=> .bool (x6 ds)):=by
 refine GivesIf.all (i6 Q5 (by kernel_rfl) (fun ρ h=>CtOk.nil) (by kernel_rfl) c0y b7a (by decide) (fun W vals ds hr _=> ?_))
 have hw:=m8 hr
 have r0:=m7 (j:=0) hw rfl
 have r1:=m7 (j:=1) hw rfl
 have w0:H3 1 (f8 ds 0):=G7 rfl r0
 have w1:H3 1 (f8 ds 1):=G7 rfl r1
 have n0:=r0.1
 simp only[b7e,g7,Nat.reduceBEq,Nat.reduceLT,Nat.reduceSub]
 unfold x6
 clear hr hw r0 r1
 generalize e0:f8 ds 0=a at*
 generalize e1:f8 ds 1=b at*
 refine⟨fun h=>by rw[A5 (fun e=>h (by rw[e]))],fun hl=> ?_⟩
 have hl:a.length=b.length:=by omega
 refine TT.sat_loop (fun v=>∃i:Nat,v.i 0=i∧EqTo a b i) (fun v=>a.length-(v.i 0).toNat) ⟨0,by simp [o6,j6,E.ev],.zero a b⟩ (fun v hv=> ?_)
 obtain⟨i,i0,i1⟩:=hv
 simp only[g7,Nat.reduceBEq,Nat.reduceLT,Nat.reduceSub,i0,e0,e1]
 refine⟨fun hc=> ?_,fun hc=> ?_⟩
 ·have ha:i<a.length:=by omega
  have hb:i<b.length:=by omega
  have ne:¬(∀j,j<1→lg a i j=lg b i j)→Value.bool false=Value.bool (l9 a b):=fun h=>by rw[A5 (fun e=>h (fun j _=>by subst e;rfl))]
  rw[f9 ((i:Int)+1) (by omega) (by omega)]
  refine⟨by omega,by omega,by omega,by omega,fun h=>ne (fun e=>h (e 0 (by omega))),fun h=>⟨⟨i+1,rfl,i1.next ha hb (a5X w0 w1 ha hb (fun j hj=> ?_))⟩,by omega⟩⟩
  match j,hj with
  | 0,_=>exact Decidable.not_not.mp h
  | j+1,hj=>omega
 ·rw[i1.done hl (by omega)]
theorem c1n{ρ:Env}(h:∀l,ρ.fb 220 l=x6 l):i4 Tryz.prog ρ 141 cE2:=j4 gE2 (fun _=>rfl) (fun al=>by simp only[bV,iV,V.s0,V.val,V2.val,S.val,S0.val,B.ev,h])
theorem c3P{ρ:Env}(h:∀l,ρ.fb 220 l=x6 l):i4 Tryz.prog ρ 142 cE6:=j4 gE6 (fun _=>rfl) (fun al=>by simp only[bV,iV,V.s0,V.val,V2.val,S.val,S0.val,B.ev,h])
theorem c1F{ρ:Env}(h:∀l,ρ.fb 220 l=x6 l):i4 Tryz.prog ρ 89 cE1:=j4 gE1 (fun _=>rfl) (fun al=>by simp only[bV,iV,V.s0,V.val,V2.val,S.val,S0.val,B.ev,h])
theorem a5U{ρ:Env}(h:ρ.has Q5):∀l,ρ.fb 220 l=x6 l:=fun l=>by rw[h.2.1];exact a1I default [] l
theorem c6M{ρ:Env}(h:ρ.has Q5):∀l,ρ.fb 147 l=sameL l:=fun l=>by rw[h.2.1];exact b4s default [] l
theorem c6m{ρ:Env}(h:ρ.has Q5):∀l,ρ.fb 180 l=z4 l:=fun l=>by rw[h.2.1];exact b6t default [] l
theorem c2y{ρ:Env}(h:ρ.has Q5):∀l,ρ.fb 190 l=v4 l:=fun l=>by rw[h.2.1];exact a9A default [] l
theorem c6o{ρ:Env}(h:ρ.has Q5):∀l,ρ.fb 221 l=leL l:=fun l=>by rw[h.2.1];exact b5O default [] l
theorem c6K{ρ:Env}(h:ρ.has Q5):∀l,ρ.fb 222 l=R9 l:=fun l=>by rw[h.2.1];exact b4x default [] l
theorem c5u{ρ:Env}(h:ρ.has Q5):∀l,ρ.fi 220 l=a3d l:=fun l=>by rw[h.1];exact b5m default [] l
theorem gE7:k8 Tryz.prog 129 [E5,E5] (fun ds=> .bool (sameL ds)):=by
 refine GivesIf.all (i6 Q5 (by kernel_rfl) (fun ρ h=> .cons (c1n (a5U h))<| .cons (c3P (a5U h)) .nil) (by kernel_rfl) c0M b7Q (by decide) (fun W vals ds hr _=> ?_))
 have hw:=m8 hr
 have w5:H3 2 (f8 ds 5):=G7 rfl (m7 (j:=5) hw rfl)
 have w14:H3 2 (f8 ds 14):=G7 rfl (m7 (j:=14) hw rfl)
 have w8:H3 6 (f8 ds 8):=G7 rfl (m7 (j:=8) hw rfl)
 have w17:H3 6 (f8 ds 17):=G7 rfl (m7 (j:=17) hw rfl)
 have q2:l9 (f8 ds 5) (f8 ds 14)=R5 2 (f8 ds 5) (f8 ds 14):=by rw[Bool.eq_iff_iff,a5v,a4w w5 w14]
 have q6:l9 (f8 ds 8) (f8 ds 17)=R5 6 (f8 ds 8) (f8 ds 17):=by rw[Bool.eq_iff_iff,a5v,a4w w8 w17]
 simp only[b8o,g7,Nat.reduceBEq,Nat.reduceLT,Nat.reduceSub,a1I,a0N,q2,q6]
 have N:¬((a9 ds 0=a9 ds 9∧a9 ds 1=a9 ds 10∧a9 ds 2=a9 ds 11∧a9 ds 3=a9 ds 12)∧a9 ds 4=a9 ds 13∧a9 ds 6=a9 ds 15∧a9 ds 7=a9 ds 16)→Value.bool false=Value.bool (sameL ds):=fun h=>by rw[sameL,a0B,decide_eq_false h,Bool.false_and]
 refine⟨fun h=>N (by omega),fun h0=>⟨fun h=>N (by omega),fun h1=>⟨fun h=>N (by omega),fun h2=>⟨fun h=>N (by omega),fun h3=>⟨fun h=>N (by omega),fun h4=>⟨fun h=>N (by omega),fun h5=> ?_⟩⟩⟩⟩⟩⟩
 have hS:sameL ds=(R5 2 (f8 ds 5) (f8 ds 14)&&R5 6 (f8 ds 8) (f8 ds 17)):=by
  rw[sameL,a0B,decide_eq_true (by omega),Bool.true_and]
 rw[hS]
 exact⟨fun h=>by rw[h,Bool.true_and],fun h=>by rw[h,Bool.false_and]⟩
theorem c3f{ρ:Env}(h:∀l,ρ.fb 147 l=sameL l):i4 Tryz.prog ρ 129 cE7:=j4 gE7 (fun _=>rfl) (fun al=>by simp only[bV,iV,V.s0,V.val,V2.val,S.val,S0.val,B.ev,h])
theorem gEo:k8 Tryz.prog 116 [V6,V6] (fun ds=> .bool (z4 ds)):=by
 refine GivesIf.all (i6 Q5 (by kernel_rfl) (fun ρ h=> .cons (c3f (c6M h)) .nil) (by kernel_rfl) c0u b8J (by decide) (fun W vals ds hr _=> ?_))
 simp only[b8a,g7,Nat.reduceBEq,Nat.reduceLT,Nat.reduceSub,b4s]
 have F:∀b,z4 ds=b→Value.bool b=Value.bool (z4 ds):=fun b h=>by rw[h]
 have N:¬(a9 ds 0=a9 ds 16∧a9 ds 1=a9 ds 17∧(a9 ds 11=a9 ds 27∧a9 ds 12=a9 ds 28)∧a9 ds 13=a9 ds 29∧a9 ds 14=a9 ds 30∧a9 ds 15=a9 ds 31)→Value.bool false=Value.bool (z4 ds):=fun h=>F _ (by rw[z4,decide_eq_false h,Bool.false_and])
 refine⟨fun h1=>⟨fun h2=>⟨fun h3=>⟨fun h4=>⟨fun h5=>⟨fun h6=> ?_,fun h=>N (by omega)⟩,fun h=>N (by omega)⟩,fun h=>N (by omega)⟩,fun h=>F _ (by rw[z4,h,Bool.and_false])⟩,fun h=>N (by omega)⟩,fun h=>N (by omega)⟩
 by_cases h7:a9 ds 15=a9 ds 31
 ·rw[z4,decide_eq_true (by omega),h3,a2m,decide_eq_true h7];rfl
 ·rw[a2m,decide_eq_false h7];exact N (by omega)
theorem c2E{ρ:Env}(h:∀l,ρ.fb 180 l=z4 l):i4 Tryz.prog ρ 116 cEo:=j4 gEo (fun _=>rfl) (fun al=>by simp only[bV,iV,V.s0,V.val,V2.val,S.val,S0.val,B.ev,h])
theorem gEO:k8 Tryz.prog 90 [a2q,a2q] (fun ds=> .bool (x6 ds)):=by
 refine GivesIf.all (i6 Q5 (by kernel_rfl) (fun ρ h=> .cons (c2E (c6m h)) .nil) (by kernel_rfl) c0j b7U (by decide) (fun W vals ds hr _=> ?_))
 have hw:=m8 hr
 have r0:H4 B3 (f8 ds 0):=m7 (j:=0) hw rfl
 have r1:H4 B3 (f8 ds 1):=m7 (j:=1) hw rfl
 have n0:=r0.1
 simp only[b6F,g7,Nat.reduceBEq,Nat.reduceLT,Nat.reduceSub]
 unfold x6
 clear hr hw
 generalize e0:f8 ds 0=a at*
 generalize e1:f8 ds 1=b at*
 refine⟨fun h=>by rw[A5 (fun e=>h (by rw[e]))],fun hl=> ?_⟩
 have hl:a.length=b.length:=by omega
 refine TT.sat_loop (fun v=>∃i:Nat,v.i 0=i∧EqTo a b i) (fun v=>a.length-(v.i 0).toNat) ⟨0,by simp [o6,j6,E.ev],.zero a b⟩ (fun v hv=> ?_)
 obtain⟨i,i0,i1⟩:=hv
 simp only[g7,Nat.reduceBEq,Nat.reduceLT,Nat.reduceSub,i0,e0,e1,b6t]
 refine⟨fun hc=> ?_,fun hc=> ?_⟩
 ·have ha:i<a.length:=by omega
  have hb:i<b.length:=by omega
  have key:=b4r (a7O (r0.2 _ (List.getElem_mem ha))) (a7O (r1.2 _ (List.getElem_mem hb)))
  simp only[q7 ha,q7 hb,X2 ha,X2 hb,u6 ha,u6 hb]
  rw[f9 ((i:Int)+1) (by omega) (by omega)]
  refine⟨by omega,by omega,by omega,by omega,fun h=> ?_,fun h=>⟨⟨i+1,rfl,i1.next ha hb (key.1 h)⟩,by omega⟩⟩
  rw[A5 (fun e=> ?_)]
  have h':z4 (R1 a[i]++R1 b[i])=false:=h
  rw[key.2 (List.getElem_of_eq e _)] at h'
  cases h'
 ·rw[i1.done hl (by omega)]
theorem c1L{ρ:Env}(h:∀l,ρ.fb 220 l=x6 l):i4 Tryz.prog ρ 90 cEO:=j4 gEO (fun _=>rfl) (fun al=>by simp only[bV,iV,V.s0,V.val,V2.val,S.val,S0.val,B.ev,h])
theorem gEn:k8 Tryz.prog 56 [notS,notS] (fun ds=> .bool (v4 ds)):=by
 refine GivesIf.all (i6 Q5 (by kernel_rfl) (fun ρ h=> .cons (c1F (a5U h))<| .cons (c1L (a5U h)) .nil) (by kernel_rfl) c0E b8m (by decide) (fun W vals ds hr _=> ?_))
 have hw:=m8 hr
 have w6:H4 k6 (f8 ds 6):=m7 hw rfl
 have w13:H4 k6 (f8 ds 13):=m7 hw rfl
 have n0:=w6.1
 simp only[b6B,g7,Nat.reduceBEq,Nat.reduceLT,Nat.reduceSub]
 have F:∀b,v4 ds=b→Value.bool b=Value.bool (v4 ds):=fun b h=>by rw[h]
 have N:¬(a9 ds 0=a9 ds 7∧a9 ds 1=a9 ds 8∧a9 ds 2=a9 ds 9∧a9 ds 3=a9 ds 10∧a9 ds 4=a9 ds 11∧a9 ds 5=a9 ds 12)→Value.bool false=Value.bool (v4 ds):=fun h=>F _ (by rw[v4,decide_eq_false h,Bool.false_and])
 refine⟨fun h=>N (by omega),fun h0=>⟨fun h=>N (by omega),fun h1=>⟨fun h=>N (by omega),fun h2=>⟨fun h=>N (by omega),fun h3=>⟨fun h=>N (by omega),fun h4=>⟨fun h=>N (by omega),fun h5=> ?_⟩⟩⟩⟩⟩⟩
 have hS:v4 ds=l9 (f8 ds 6) (f8 ds 13):=by rw[v4,decide_eq_true (by omega),Bool.true_and]
 rw[hS]
 clear N F hS hr hw
 generalize e0:f8 ds 6=a at*
 generalize e1:f8 ds 13=b at*
 refine⟨fun h=>by rw[A5 (fun e=>h (by rw[e]))],fun hl=> ?_⟩
 have hl:a.length=b.length:=by omega
 refine TT.sat_loop (fun v=>∃i:Nat,v.i 0=i∧EqTo a b i) (fun v=>a.length-(v.i 0).toNat) ⟨0,by simp [o6,j6,E.ev],.zero a b⟩ (fun v hv=> ?_)
 obtain⟨i,i0,i1⟩:=hv
 simp only[g7,Nat.reduceBEq,Nat.reduceLT,Nat.reduceSub,i0,e0,e1,a1I,a0N]
 refine⟨fun hc=> ?_,fun hc=> ?_⟩
 ·have ha:i<a.length:=by omega
  have hb:i<b.length:=by omega
  obtain⟨pa,_,_⟩:=V3 (w6.2 _ (List.getElem_mem ha))
  obtain⟨pb,_,_⟩:=V3 (w13.2 _ (List.getElem_mem hb))
  have no:∀ {p q:Rows},a[i]≠b[i]→Value.bool false=Value.bool (l9 a b):=fun h=>by rw[A5 (fun e=>h (List.getElem_of_eq e _))]
  simp only[q7 ha,q7 hb,u6 ha,u6 hb]
  rw[f9 ((i:Int)+1) (by omega) (by omega)]
  refine⟨by omega,by omega,by omega,by omega,fun h=>no (p:=[]) (q:=[]) (fun e=>h (by rw[e])),fun c0=>⟨fun h=>no (p:=[]) (q:=[]) (fun e=> ?_),fun c1=>⟨fun h=>no (p:=[]) (q:=[]) (fun e=> ?_),fun c2=>⟨⟨i+1,rfl,i1.next ha hb ?_⟩,by omega⟩⟩⟩⟩
  ·rw[e,x7] at h;cases h
  ·rw[e,x7] at h;cases h
  ·have c0:cI a[i] 0=cI b[i] 0:=by omega
   rw[pa,pb,c0,C4 _ _ c1,C4 _ _ c2]
 ·rw[i1.done hl (by omega)]
theorem b4d{ρ:Env}(h:∀l,ρ.fb 190 l=v4 l):i4 Tryz.prog ρ 56 cEn:=j4 gEn (fun _=>rfl) (fun al=>by simp only[bV,iV,V.s0,V.val,V2.val,S.val,S0.val,B.ev,h])
theorem gEl:k8 Tryz.prog 26 [L5,L5] (fun ds=> .bool (leL ds)):=by
 refine GivesIf.all (i6 Q5 (by kernel_rfl) (fun ρ h=> .cons (b4d (c2y h)) .nil) (by kernel_rfl) c0w b7u (by decide) (fun W vals ds hr _=> ?_))
 simp only[b7E,g7,Nat.reduceBEq,Nat.reduceLT,Nat.reduceSub,a9A]
 have e:leL ds=(v4 [.i (a9 ds 4),.i (a9 ds 5),.i (a9 ds 6),.i (a9 ds 7),.i (a9 ds 8),.i (a9 ds 9),.l (f8 ds 10),.i (a9 ds 15),.i (a9 ds 16),.i (a9 ds 17),.i (a9 ds 18),.i (a9 ds 19),.i (a9 ds 20),.l (f8 ds 21)]&&(decide (a9 ds 0=a9 ds 11∧a9 ds 1=a9 ds 12∧a9 ds 2=a9 ds 13)&&(bAt ds 3 == bAt ds 14))):=rfl
 have N:¬(a9 ds 0=a9 ds 11∧a9 ds 1=a9 ds 12∧a9 ds 2=a9 ds 13)→Value.bool false=Value.bool (leL ds):=fun h=>by rw[e,decide_eq_false h,Bool.false_and,Bool.and_false]
 refine⟨fun h=>⟨fun h0=>⟨fun h1=>⟨fun h2=> ?_,fun h=>N (by omega)⟩,fun h=>N (by omega)⟩,fun h=>N (by omega)⟩,fun h=>by rw[e,h,Bool.false_and]⟩
 rw[e,h,decide_eq_true (by omega),Bool.true_and,Bool.true_and]
theorem c2X{ρ:Env}(h:∀l,ρ.fb 221 l=leL l):i4 Tryz.prog ρ 26 cEl:=j4 gEl (fun _=>rfl) (fun al=>by simp only[bV,iV,V.s0,V.val,V2.val,S.val,S0.val,B.ev,h])
theorem gEN:k8 Tryz.prog 25 [z0,z0] (fun ds=> .bool (x6 ds)):=by
 refine GivesIf.all (i6 Q5 (by kernel_rfl) (fun ρ h=> .cons (b4d (c2y h)) .nil) (by kernel_rfl) c0b b7G (by decide) (fun W vals ds hr _=> ?_))
 have hw:=m8 hr
 have r0:H4 f7 (f8 ds 0):=m7 (j:=0) hw rfl
 have r1:H4 f7 (f8 ds 1):=m7 (j:=1) hw rfl
 have n0:=r0.1
 simp only[b7h,g7,Nat.reduceBEq,Nat.reduceLT,Nat.reduceSub]
 unfold x6
 clear hr hw
 generalize e0:f8 ds 0=a at*
 generalize e1:f8 ds 1=b at*
 refine⟨fun h=>by rw[A5 (fun e=>h (by rw[e]))],fun hl=> ?_⟩
 have hl:a.length=b.length:=by omega
 refine TT.sat_loop (fun v=>∃i:Nat,v.i 0=i∧EqTo a b i) (fun v=>a.length-(v.i 0).toNat) ⟨0,by simp [o6,j6,E.ev],.zero a b⟩ (fun v hv=> ?_)
 obtain⟨i,i0,i1⟩:=hv
 simp only[g7,Nat.reduceBEq,Nat.reduceLT,Nat.reduceSub,i0,e0,e1,a9A]
 refine⟨fun hc=> ?_,fun hc=> ?_⟩
 ·have ha:i<a.length:=by omega
  have hb:i<b.length:=by omega
  have key:=b9P (J9 (r0.2 _ (List.getElem_mem ha))) (J9 (r1.2 _ (List.getElem_mem hb)))
  simp only[q7 ha,q7 hb,X2 ha,X2 hb,u6 ha,u6 hb]
  rw[f9 ((i:Int)+1) (by omega) (by omega)]
  refine⟨by omega,by omega,by omega,by omega,fun h=> ?_,fun h=>⟨⟨i+1,rfl,i1.next ha hb (key.1 h)⟩,by omega⟩⟩
  rw[A5 (fun e=> ?_)]
  have h':v4 (k7 a[i] 0++k7 b[i] 0)=false:=h
  rw[key.2 (List.getElem_of_eq e _)] at h'
  cases h'
 ·rw[i1.done hl (by omega)]
theorem gEL:k8 Tryz.prog 19 [E9,E9] (fun ds=> .bool (x6 ds)):=by
 refine GivesIf.all (i6 Q5 (by kernel_rfl) (fun ρ h=> .cons (c2X (c6o h)) .nil) (by kernel_rfl) c0K b7o (by decide) (fun W vals ds hr _=> ?_))
 have hw:=m8 hr
 have r0:H4 s8 (f8 ds 0):=m7 (j:=0) hw rfl
 have r1:H4 s8 (f8 ds 1):=m7 (j:=1) hw rfl
 have n0:=r0.1
 simp only[b8z,g7,Nat.reduceBEq,Nat.reduceLT,Nat.reduceSub]
 unfold x6
 clear hr hw
 generalize e0:f8 ds 0=a at*
 generalize e1:f8 ds 1=b at*
 refine⟨fun h=>by rw[A5 (fun e=>h (by rw[e]))],fun hl=> ?_⟩
 have hl:a.length=b.length:=by omega
 refine TT.sat_loop (fun v=>∃i:Nat,v.i 0=i∧EqTo a b i) (fun v=>a.length-(v.i 0).toNat) ⟨0,by simp [o6,j6,E.ev],.zero a b⟩ (fun v hv=> ?_)
 obtain⟨i,i0,i1⟩:=hv
 simp only[g7,Nat.reduceBEq,Nat.reduceLT,Nat.reduceSub,i0,e0,e1,b5O]
 refine⟨fun hc=> ?_,fun hc=> ?_⟩
 ·have ha:i<a.length:=by omega
  have hb:i<b.length:=by omega
  have key:=c4X (b0V (r0.2 _ (List.getElem_mem ha))) (b0V (r1.2 _ (List.getElem_mem hb)))
  simp only[q7 ha,q7 hb,X2 ha,X2 hb,u6 ha,u6 hb]
  rw[f9 ((i:Int)+1) (by omega) (by omega)]
  refine⟨by omega,by omega,by omega,by omega,fun h=> ?_,fun h=>⟨⟨i+1,rfl,i1.next ha hb (key.1 h)⟩,by omega⟩⟩
  rw[A5 (fun e=> ?_)]
  have h':leL (D3 a[i]++D3 b[i])=false:=h
  rw[key.2 (List.getElem_of_eq e _)] at h'
  cases h'
 ·rw[i1.done hl (by omega)]
theorem b5Z{ρ:Env}(h:∀l,ρ.fb 220 l=x6 l):i4 Tryz.prog ρ 19 cEL:=j4 gEL (fun _=>rfl) (fun al=>by simp only[bV,iV,V.s0,V.val,V2.val,S.val,S0.val,B.ev,h])
theorem gEB:k8 Tryz.prog 16 [D6,D6] (fun ds=> .bool (bxL ds)):=by
 refine GivesIf.all (i6 Q5 (by kernel_rfl) (fun ρ h=> .cons (b5Z (a5U h)) .nil) (by kernel_rfl) c0x b6A (by decide) (fun W vals ds hr _=> ?_))
 simp only[b8c,g7,Nat.reduceBEq,Nat.reduceLT,Nat.reduceSub,a1I,a0N]
 unfold bxL
 exact⟨fun h=>by rw[h,Bool.true_and,a2m],fun h=>by rw[h,Bool.false_and]⟩
theorem gEI:k8 Tryz.prog 24 [D6,D6] (fun ds=> .bool (bxL ds)):=by
 refine GivesIf.all (i6 Q5 (by kernel_rfl) (fun ρ h=> .cons (b5Z (a5U h)) .nil) (by kernel_rfl) c0W b7q (by decide) (fun W vals ds hr _=> ?_))
 simp only[b7X,g7,Nat.reduceBEq,Nat.reduceLT,Nat.reduceSub,a1I,a0N]
 unfold bxL
 exact⟨fun h=>by rw[h,Bool.true_and,a2m],fun h=>by rw[h,Bool.false_and]⟩
theorem c6E:k8 Tryz.prog 37 [notS] (fun ds=> .int .i64 (a3d ds)):=by
 refine GivesIf.all (i6 Q5 (by kernel_rfl) (fun ρ h=>CtOk.nil) (by kernel_rfl) b6T b5J (by decide) (fun W vals ds hr _=> ?_))
 have hw:=m8 hr
 have w6:H4 k6 (f8 ds 6):=m7 hw rfl
 have n0:=w6.1
 simp only[b2e,g7,Nat.reduceBEq,Nat.reduceLT,Nat.reduceSub]
 unfold a3d
 clear hr hw
 generalize e0:f8 ds 6=a at*
 refine TT.sat_loop (fun v=>∃i:Nat,v.i 1=i∧i≤a.length∧a4Y a (a.length-i) i (v.i 0)=a4Y a a.length 0 (a.length:Nat)) (fun v=>a.length-(v.i 1).toNat) ⟨0,by simp [o6,j6,E.ev],by omega,by simp [o6,j6,E.ev,X.ev,a5Q,e0]⟩ (fun v hv=> ?_)
 obtain⟨i,i0,i1,i2⟩:=hv
 simp only[g7,Nat.reduceBEq,Nat.reduceLT,Nat.reduceSub,i0,e0]
 refine⟨fun hc=> ?_,fun hc=> ?_⟩
 ·have ha:i<a.length:=by omega
  obtain⟨_,_,w2⟩:=V3 (w6.2 _ (List.getElem_mem ha))
  have n2:=w2.1
  have hn:a.length-i=(a.length-(i+1))+1:=by omega
  rw[hn,a4Y] at i2
  have hm:a.length-(((i+1:Nat):Int)).toNat<a.length-(i:Int).toNat:=by omega
  have hw1:IntKind.i64.wrap ((i:Int)+1)=((i+1:Nat):Int):=by rw[f9 _ (by omega) (by omega)];rfl
  rw[←u6 ha] at n2
  refine⟨by omega,by omega,?_⟩
  generalize hs0:IntKind.i64.wrap (IntKind.i64.wrap (v.i 0+((lr a i 1).length:Nat))+((lr a i 2).length:Nat))=s0 at i2
  generalize eo:lr a i 2=r at*
  refine TT.sat_loop (fun u=>∃k:Nat,u.i 1=k∧k≤r.length∧a6f r (r.length-k) k (u.i 0)=a6f r r.length 0 s0) (fun u=>r.length-(u.i 1).toNat) ⟨0,by simp [o6,j6,E.ev],by omega,?_⟩ (fun u hu=> ?_)
  ·rw[←hs0]
   simp only[g7,Nat.reduceBEq,Nat.reduceLT,Nat.reduceSub,i0,e0,eo,Nat.sub_zero]
  obtain⟨k,k0,k1,k2⟩:=hu
  simp only[g7,Nat.reduceBEq,Nat.reduceLT,Nat.reduceSub,i0,k0,e0,eo,hw1]
  refine⟨fun hk=> ?_,fun hk=> ?_⟩
  ·have hn:r.length-k=(r.length-(k+1))+1:=by omega
   rw[hn,a6f] at k2
   rw[f9 ((k:Int)+1) (by omega) (by omega)]
   exact⟨by omega,by omega,by omega,by omega,⟨k+1,rfl,by omega,k2⟩,by omega⟩
  ·have h0:r.length-k=0:=by omega
   rw[h0,a6f] at k2
   rw[if_neg (by decide)]
   refine⟨⟨i+1,rfl,by omega,?_⟩,hm⟩
   rw[←i2,←k2]
 ·have h0:a.length-i=0:=by omega
  rw[h0,a4Y] at i2
  rw[i2]
theorem c0t{ρ:Env}(h:∀l,ρ.fi 220 l=a3d l):i4 Tryz.prog ρ 37 c1t:=j4 c6E (fun _=>rfl) (fun al=>by simp only[bV,iV,V.s0,V.val,V2.val,S.val,S0.val,E.ev,h])
theorem c2R:k8 Tryz.prog 12 [z0] (fun ds=> .bool (R9 ds)):=by
 refine GivesIf.all (i6 Q5 (by kernel_rfl) (fun ρ h=> .cons (c0t (c5u h)) .nil) (by kernel_rfl) b6K b4b (by decide) (fun W vals ds hr _=> ?_))
 have hw:=m8 hr
 have n0:=(m7 (j:=0) hw rfl).1
 simp only[b2q,g7,Nat.reduceBEq,Nat.reduceLT,Nat.reduceSub]
 unfold R9
 clear hr hw
 generalize e0:f8 ds 0=a at*
 refine⟨fun h=>by rw[decide_eq_false (by omega),Bool.false_and],fun h=> ?_⟩
 rw[decide_eq_true (by omega),Bool.true_and]
 refine TT.sat_loop (fun v=>∃i:Nat,v.i 0=i∧i≤a.length∧a5N a (a.length-i) i=a5N a a.length 0) (fun v=>a.length-(v.i 0).toNat) ⟨0,by simp [o6,j6,E.ev],by omega,rfl⟩ (fun v hv=> ?_)
 obtain⟨i,i0,i1,i2⟩:=hv
 simp only[g7,Nat.reduceBEq,Nat.reduceLT,Nat.reduceSub,i0,e0,b5m]
 refine⟨fun hc=> ?_,fun hc=> ?_⟩
 ·have hn:a.length-i=(a.length-(i+1))+1:=by omega
  rw[hn,a5N] at i2
  rw[f9 ((i:Int)+1) (by omega) (by omega)]
  refine⟨by omega,by omega,fun q=> ?_,fun q=>⟨⟨i+1,rfl,by omega,?_⟩,by omega⟩⟩
  ·rw[←i2,decide_eq_false (by omega),Bool.false_and]
  ·rw[←i2,decide_eq_true (by omega),Bool.true_and]
 ·have h0:a.length-i=0:=by omega
  rw[h0,a5N] at i2
  rw[←i2]
theorem c0V{ρ:Env}(h:∀l,ρ.fb 222 l=R9 l):i4 Tryz.prog ρ 12 c3l:=j4 c2R (fun _=>rfl) (fun al=>by simp only[bV,iV,V.s0,V.val,V2.val,S.val,S0.val,B.ev,h])
theorem c3t:k8 Tryz.prog 13 [E9] (fun ds=> .bool (smL ds)):=by
 refine GivesIf.all (i6 Q5 (by kernel_rfl) (fun ρ h=> .cons (c0V (c6K h)) .nil) (by kernel_rfl) b2Y a9S (by decide) (fun W vals ds hr _=> ?_))
 have hw:=m8 hr
 have n0:=(m7 (j:=0) hw rfl).1
 simp only[a5c,g7,Nat.reduceBEq,Nat.reduceLT,Nat.reduceSub]
 unfold smL
 clear hr hw
 generalize e0:f8 ds 0=a at*
 refine TT.sat_loop (fun v=>∃i:Nat,v.i 0=i∧i≤a.length∧smN a (a.length-i) i=smN a a.length 0) (fun v=>a.length-(v.i 0).toNat) ⟨0,by simp [o6,j6,E.ev],by omega,rfl⟩ (fun v hv=> ?_)
 obtain⟨i,i0,i1,i2⟩:=hv
 simp only[g7,Nat.reduceBEq,Nat.reduceLT,Nat.reduceSub,i0,e0,b4x,X.ev,List.nil_append,List.append_nil]
 refine⟨fun hc=> ?_,fun hc=> ?_⟩
 ·have hn:a.length-i=(a.length-(i+1))+1:=by omega
  rw[hn,smN] at i2
  rw[f9 ((i:Int)+1) (by omega) (by omega)]
  refine⟨by omega,by omega,fun q=> ?_,fun q=>⟨⟨i+1,rfl,by omega,?_⟩,by omega⟩⟩
  ·rw[←i2,q,Bool.false_and]
  ·rw[←i2,q,Bool.true_and]
 ·have h0:a.length-i=0:=by omega
  rw[h0,smN] at i2
  rw[←i2]
set_option maxRecDepth 100000 in
theorem c0N:k8 Tryz.prog 11 [] (fun _=> .bool true):=by
 refine GivesIf.all (i6 Q4 (by kernel_rfl) (fun ρ h=>c0A (Sees.of h 220)) (by kernel_rfl) a9M a8b (by decide) (fun W vals ds _ _=> ?_))
 simp only[a3o,g7,Nat.reduceBEq,Nat.reduceLT,Nat.reduceSub]
def b1r:=o9 [] fun _=> .ret (bV (.lit true))
theorem b3G{ρ:Env}:i4 Tryz.prog ρ 11 b1r:=j4 c0N (fun _=>rfl) (fun _=>rfl)
def a8o:=o9 [L5,L5] fun al=> .ret (bV (bF 221 leL al))
theorem a9Q{ρ:Env}(h:Sees ρ Q5 230):i4 Tryz.prog ρ 26 a8o:=
 j4 gEl (fun _=>rfl) (fun al=>by simp only[iV,bV,V.s0,V.val,V2.val,S.val,S0.val,o8 (s:=221) (f:=leL) (fun l=>by rw[(h 221 l (by decide)).2];simp only[Q5])];try rfl)
def a6x:=o9 [E9,E9] fun al=> .ret (bV (bF 220 x6 al))
theorem a9w{ρ:Env}(h:Sees ρ Q5 230):i4 Tryz.prog ρ 19 a6x:=
 j4 gEL (fun _=>rfl) (fun al=>by simp only[iV,bV,V.s0,V.val,V2.val,S.val,S0.val,o8 (s:=220) (f:=x6) (fun l=>by rw[(h 220 l (by decide)).2];simp only[Q5])];try rfl)
def b5s:=o9 [z0,z0] fun al=> .ret (bV (bF 220 x6 al))
theorem b4I{ρ:Env}(h:Sees ρ Q5 230):i4 Tryz.prog ρ 25 b5s:=
 j4 gEN (fun _=>rfl) (fun al=>by simp only[iV,bV,V.s0,V.val,V2.val,S.val,S0.val,o8 (s:=220) (f:=x6) (fun l=>by rw[(h 220 l (by decide)).2];simp only[Q5])];try rfl)
def b8Z:=o9 [D6,D6] fun al=> .ret (bV (bF 224 bxL al))
theorem b8v{ρ:Env}(h:Sees ρ Q5 230):i4 Tryz.prog ρ 16 b8Z:=
 j4 gEB (fun _=>rfl) (fun al=>by simp only[iV,bV,V.s0,V.val,V2.val,S.val,S0.val,o8 (s:=224) (f:=bxL) (fun l=>by rw[(h 224 l (by decide)).2];simp only[Q5])];try rfl)
def c3F:=o9 [D6,D6] fun al=> .ret (bV (bF 224 bxL al))
theorem c0m{ρ:Env}(h:Sees ρ Q5 230):i4 Tryz.prog ρ 24 c3F:=
 j4 gEI (fun _=>rfl) (fun al=>by simp only[iV,bV,V.s0,V.val,V2.val,S.val,S0.val,o8 (s:=224) (f:=bxL) (fun l=>by rw[(h 224 l (by decide)).2];simp only[Q5])];try rfl)
def b9e:=o9 [z0] fun al=> .ret (bV (bF 222 R9 al))
theorem b7R{ρ:Env}(h:Sees ρ Q5 230):i4 Tryz.prog ρ 12 b9e:=
 j4 c2R (fun _=>rfl) (fun al=>by simp only[iV,bV,V.s0,V.val,V2.val,S.val,S0.val,o8 (s:=222) (f:=R9) (fun l=>by rw[(h 222 l (by decide)).2];simp only[Q5])];try rfl)
def b1h:=o9 [E9] fun al=> .ret (bV (bF 223 smL al))
theorem b1T{ρ:Env}(h:Sees ρ Q5 230):i4 Tryz.prog ρ 13 b1h:=
 j4 c3t (fun _=>rfl) (fun al=>by simp only[iV,bV,V.s0,V.val,V2.val,S.val,S0.val,o8 (s:=223) (f:=smL) (fun l=>by rw[(h 223 l (by decide)).2];simp only[Q5])];try rfl)
def c1l:Ct:=(11,b1r)::(26,a8o)::(19,a6x)::(25,b5s)::(16,b8Z)::(24,c3F)::(12,b9e)::(13,b1h)::
 (106,a3E)::(118,a5y)::(52,a5j)::(42,a2c)::c3e
theorem c0J{ρ:Env}(h:Sees ρ Q5 230):CtOk Tryz.prog ρ c1l:= .cons b3G<| .cons (a9Q h)<| .cons (a9w h)<| .cons (b4I h)<| .cons (b8v h)<| .cons (c0m h)<| .cons (b7R h)<| .cons (b1T h)<| .cons a2V<| .cons a4h<| .cons a3W<| .cons a1G (c0P (c4t h))
end Go.Proofs.YtbbjlleaofgddaaGreat
