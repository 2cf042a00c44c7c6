/- AD, merged: TAj, Aj, Ak. -/
import Derived.Test.YtbbjlleaofgddaaGreatAA
import Derived.Test.YtbbjlleaofgddaaGreatAC
import Derived.Test.YtbbjlleaofgddaaGreatMZ
set_option linter.unusedSimpArgs false
set_option linter.unusedVariables false
/- Chapter 42: trees of the reference's functions that compare. -/
namespace Go.Proofs.YtbbjlleaofgddaaGreat
open Go.RowKit
def ops16 : Sh := .one (.sl opK)
def ints : Sh := .one (.sl [.int .i64])
def cE2 := ctD [pts, pts] fun al => .ret (bV (.fn 220 al))
def cE6 := ctD [secs, secs] fun al => .ret (bV (.fn 220 al))
def cE1 := ctD [ints, ints] fun al => .ret (bV (.fn 220 al))
def cE7 := ctD [feat, feat] fun al => .ret (bV (.fn 147 al))
def cEo := ctD [opS, opS] fun al => .ret (bV (.fn 180 al))
def cEO := ctD [ops16, ops16] fun al => .ret (bV (.fn 220 al))
def cEn := ctD [notS, notS] fun al => .ret (bV (.fn 190 al))
def cEl := ctD [letS, letS] fun al => .ret (bV (.fn 221 al))
def cEL := ctD [lets, lets] fun al => .ret (bV (.fn 220 al))
def cLen := ctD [notS] fun al => .ret (iV .i64 (.fn 220 al))
def cFew := ctD [nots] fun al => .ret (bV (.fn 222 al))
def ctR0 : Ct := []
def ctR1 : Ct := [(141, cE2), (142, cE6)]
def ctR2 : Ct := [(129, cE7)]
def ctR3 : Ct := [(116, cEo)]
def ctR4 : Ct := [(89, cE1), (90, cEO)]
def ctR5 : Ct := [(56, cEn)]
def ctR6 : Ct := [(26, cEl)]
def ctR7 : Ct := [(19, cEL)]
def ctR8 : Ct := [(37, cLen)]
def ctR9 : Ct := [(12, cFew)]
-- term trE2: call Tryz.prog ctR0 (Lt.of []) 100 141 (symArgs 0 [pts, pts]) [] 0
def trE2 : TT OpR :=
(.ite (.cmp .neq (.len (.var 0)) (.len (.var 1)))
 (.ret ((.v (.one (.z (.bool (.lit false))))), [], 0))
 (.loop 0 1000 ⟨[(0, (.lit 0))], [], []⟩
 (.ite (.cmp .lss (.var 1000) (.len (.var 0)))
 (.ob (.tru (.cmp .leq (.lit 0) (.var 1000)))
 (.ob (.tru (.cmp .lss (.var 1000) (.len (.var 0))))
 (.ob (.tru (.cmp .leq (.lit 0) (.var 1000)))
 (.ob (.tru (.cmp .lss (.var 1000) (.len (.var 1))))
 (.ite (.not (.and (.cmp .eql (.rd (.var 0) (.var 1000) 0) (.rd (.var 1) (.var 1000) 0)) (.cmp .eql (.rd (.var 0) (.var 1000) 1) (.rd (.var 1) (.var 1000) 1))))
 (.ret ((.v (.one (.z (.bool (.lit false))))), [], 1))
 (.next 0 ⟨[(0, (.ar .add .i64 (.var 1000) (.lit 1)))], [], []⟩))))))
 (.ret ((.v (.one (.z (.bool (.lit true))))), [], 1)))))
-- end trE2
def trE2_h : List (Nat × St) := [
(0, ⟨(List.append [(.v (.one (.z (.ext [(.int .i64), (.int .i64)] (.var 0) false)))), (.v (.one (.z (.ext [(.int .i64), (.int .i64)] (.var 1) false)))), (.v (.one (.z .any))), (.v (.one (.z .any))), (.v (.one (.z (.bool (.lit false))))), (.v (.one (.z (.int .i64 (.var 1000))))), (.v (.one (.z (.ext [(.int .i64), (.int .i64)] (.var 0) false)))), (.v (.one (.z (.int .i64 (.len (.var 0)))))), (.v (.one (.z (.ext [(.int .i64), (.int .i64)] (.var 1) false)))), (.v (.one (.z (.int .i64 (.len (.var 1)))))), (.v (.one (.z (.bool (.cmp .neq (.len (.var 0)) (.len (.var 1)))))))] (List.replicate 15 V.any)), [], 1, []⟩)]
def trE2_j : List (FuncId × Nat × Nat × St) := [
]
set_option maxRecDepth 100000 in
theorem trE2_is : T.norm 0 (call Tryz.prog ctR0 ⟨Lt.un (Lt.of []), trE2_h, trE2_j⟩ 100 141 (symArgs 0 [pts, pts]) [] 0) TT.ret = trE2 := by kernel_rfl
theorem trE2_low : trE2.low 1000 = true := by kernel_rfl
-- term trE6: call Tryz.prog ctR0 (Lt.of []) 100 142 (symArgs 0 [secs, secs]) [] 0
def trE6 : TT OpR :=
(.ite (.cmp .neq (.len (.var 0)) (.len (.var 1)))
 (.ret ((.v (.one (.z (.bool (.lit false))))), [], 0))
 (.loop 0 1000 ⟨[(0, (.lit 0))], [], []⟩
 (.ite (.cmp .lss (.var 1000) (.len (.var 0)))
 (.ob (.tru (.cmp .leq (.lit 0) (.var 1000)))
 (.ob (.tru (.cmp .lss (.var 1000) (.len (.var 0))))
 (.ob (.tru (.cmp .leq (.lit 0) (.var 1000)))
 (.ob (.tru (.cmp .lss (.var 1000) (.len (.var 1))))
 (.ite (.not (.and (.and (.cmp .eql (.rd (.var 0) (.var 1000) 0) (.rd (.var 1) (.var 1000) 0)) (.cmp .eql (.rd (.var 0) (.var 1000) 1) (.rd (.var 1) (.var 1000) 1))) (.and (.and (.cmp .eql (.rd (.var 0) (.var 1000) 2) (.rd (.var 1) (.var 1000) 2)) (.cmp .eql (.rd (.var 0) (.var 1000) 3) (.rd (.var 1) (.var 1000) 3))) (.and (.cmp .eql (.rd (.var 0) (.var 1000) 4) (.rd (.var 1) (.var 1000) 4)) (.cmp .eql (.rd (.var 0) (.var 1000) 5) (.rd (.var 1) (.var 1000) 5))))))
 (.ret ((.v (.one (.z (.bool (.lit false))))), [], 1))
 (.next 0 ⟨[(0, (.ar .add .i64 (.var 1000) (.lit 1)))], [], []⟩))))))
 (.ret ((.v (.one (.z (.bool (.lit true))))), [], 1)))))
-- end trE6
def trE6_h : List (Nat × St) := [
(0, ⟨(List.append [(.v (.one (.z (.ext [(.int .i64), (.int .i64), (.int .i64), (.int .i64), (.int .i64), (.int .i64)] (.var 0) false)))), (.v (.one (.z (.ext [(.int .i64), (.int .i64), (.int .i64), (.int .i64), (.int .i64), (.int .i64)] (.var 1) false)))), (.v (.one (.z .any))), (.v (.one (.z .any))), (.v (.one (.z (.bool (.lit false))))), (.v (.one (.z (.int .i64 (.var 1000))))), (.v (.one (.z (.ext [(.int .i64), (.int .i64), (.int .i64), (.int .i64), (.int .i64), (.int .i64)] (.var 0) false)))), (.v (.one (.z (.int .i64 (.len (.var 0)))))), (.v (.one (.z (.ext [(.int .i64), (.int .i64), (.int .i64), (.int .i64), (.int .i64), (.int .i64)] (.var 1) false)))), (.v (.one (.z (.int .i64 (.len (.var 1)))))), (.v (.one (.z (.bool (.cmp .neq (.len (.var 0)) (.len (.var 1)))))))] (List.replicate 15 V.any)), [], 1, []⟩)]
def trE6_j : List (FuncId × Nat × Nat × St) := [
]
set_option maxRecDepth 100000 in
theorem trE6_is : T.norm 0 (call Tryz.prog ctR0 ⟨Lt.un (Lt.of []), trE6_h, trE6_j⟩ 100 142 (symArgs 0 [secs, secs]) [] 0) TT.ret = trE6 := by kernel_rfl
theorem trE6_low : trE6.low 1000 = true := by kernel_rfl
-- term trE1: call Tryz.prog ctR0 (Lt.of []) 100 89 (symArgs 0 [ints, ints]) [] 0
def trE1 : TT OpR :=
(.ite (.cmp .neq (.len (.var 0)) (.len (.var 1)))
 (.ret ((.v (.one (.z (.bool (.lit false))))), [], 0))
 (.loop 0 1000 ⟨[(0, (.lit 0))], [], []⟩
 (.ite (.cmp .lss (.var 1000) (.len (.var 0)))
 (.ob (.tru (.cmp .leq (.lit 0) (.var 1000)))
 (.ob (.tru (.cmp .lss (.var 1000) (.len (.var 0))))
 (.ob (.tru (.cmp .leq (.lit 0) (.var 1000)))
 (.ob (.tru (.cmp .lss (.var 1000) (.len (.var 1))))
 (.ite (.cmp .neq (.rd (.var 0) (.var 1000) 0) (.rd (.var 1) (.var 1000) 0))
 (.ret ((.v (.one (.z (.bool (.lit false))))), [], 1))
 (.next 0 ⟨[(0, (.ar .add .i64 (.var 1000) (.lit 1)))], [], []⟩))))))
 (.ret ((.v (.one (.z (.bool (.lit true))))), [], 1)))))
-- end trE1
def trE1_h : List (Nat × St) := [
(0, ⟨(List.append [(.v (.one (.z (.ext [(.int .i64)] (.var 0) false)))), (.v (.one (.z (.ext [(.int .i64)] (.var 1) false)))), (.v (.one (.z .any))), (.v (.one (.z .any))), (.v (.one (.z (.bool (.lit false))))), (.v (.one (.z (.int .i64 (.var 1000))))), (.v (.one (.z (.ext [(.int .i64)] (.var 0) false)))), (.v (.one (.z (.int .i64 (.len (.var 0)))))), (.v (.one (.z (.ext [(.int .i64)] (.var 1) false)))), (.v (.one (.z (.int .i64 (.len (.var 1)))))), (.v (.one (.z (.bool (.cmp .neq (.len (.var 0)) (.len (.var 1)))))))] (List.replicate 15 V.any)), [], 1, []⟩)]
def trE1_j : List (FuncId × Nat × Nat × St) := [
]
set_option maxRecDepth 100000 in
theorem trE1_is : T.norm 0 (call Tryz.prog ctR0 ⟨Lt.un (Lt.of []), trE1_h, trE1_j⟩ 100 89 (symArgs 0 [ints, ints]) [] 0) TT.ret = trE1 := by kernel_rfl
theorem trE1_low : trE1.low 1000 = true := by kernel_rfl
-- term trE7: call Tryz.prog ctR1 (Lt.of []) 100 129 (symArgs 0 [feat, feat]) [] 0
def trE7 : TT OpR :=
(.ite (.cmp .neq (.var 0) (.var 9))
 (.ret ((.v (.one (.z (.bool (.lit false))))), [], 2))
 (.ite (.cmp .neq (.var 1) (.var 10))
 (.ret ((.v (.one (.z (.bool (.lit false))))), [], 2))
 (.ite (.not (.and (.cmp .eql (.var 2) (.var 11)) (.cmp .eql (.var 3) (.var 12))))
 (.ret ((.v (.one (.z (.bool (.lit false))))), [], 2))
 (.ite (.cmp .neq (.var 4) (.var 13))
 (.ret ((.v (.one (.z (.bool (.lit false))))), [], 2))
 (.ite (.cmp .neq (.var 6) (.var 15))
 (.ret ((.v (.one (.z (.bool (.lit false))))), [], 2))
 (.ite (.cmp .neq (.var 7) (.var 16))
 (.ret ((.v (.one (.z (.bool (.lit false))))), [], 2))
 (.ite (.fn 220 (.x (.var 5) (.x (.var 14) .nil)))
 (.ret ((.v (.one (.z (.bool (.fn 220 (.x (.var 8) (.x (.var 17) .nil))))))), [], 2))
 (.ret ((.v (.one (.z (.bool (.lit false))))), [], 2)))))))))
-- end trE7
set_option maxRecDepth 100000 in
theorem trE7_is : T.norm 0 (call Tryz.prog ctR1 (Lt.of []) 100 129 (symArgs 0 [feat, feat]) [] 0) TT.ret = trE7 := by kernel_rfl
theorem trE7_low : trE7.low 1000 = true := by kernel_rfl
-- term trEo: call Tryz.prog ctR2 (Lt.of []) 100 116 (symArgs 0 [opS, opS]) [] 0
def trEo : TT OpR :=
(.ite (.cmp .eql (.var 0) (.var 16))
 (.ite (.cmp .eql (.var 1) (.var 17))
 (.ite (.fn 147 (.i (.var 2) (.i (.var 3) (.i (.var 4) (.i (.var 5) (.i (.var 6) (.x (.var 7) (.i (.var 8) (.i (.var 9) (.x (.var 10) (.i (.var 18) (.i (.var 19) (.i (.var 20) (.i (.var 21) (.i (.var 22) (.x (.var 23) (.i (.var 24) (.i (.var 25) (.x (.var 26) .nil)))))))))))))))))))
 (.ite (.and (.cmp .eql (.var 11) (.var 27)) (.cmp .eql (.var 12) (.var 28)))
 (.ite (.cmp .eql (.var 13) (.var 29))
 (.ite (.cmp .eql (.var 14) (.var 30))
 (.ret ((.v (.one (.z (.bool (.cmp .eql (.var 15) (.var 31)))))), [], 2))
 (.ret ((.v (.one (.z (.bool (.lit false))))), [], 2)))
 (.ret ((.v (.one (.z (.bool (.lit false))))), [], 2)))
 (.ret ((.v (.one (.z (.bool (.lit false))))), [], 2)))
 (.ret ((.v (.one (.z (.bool (.lit false))))), [], 2)))
 (.ret ((.v (.one (.z (.bool (.lit false))))), [], 2)))
 (.ret ((.v (.one (.z (.bool (.lit false))))), [], 2)))
-- end trEo
set_option maxRecDepth 100000 in
theorem trEo_is : T.norm 0 (call Tryz.prog ctR2 (Lt.of []) 100 116 (symArgs 0 [opS, opS]) [] 0) TT.ret = trEo := by kernel_rfl
theorem trEo_low : trEo.low 1000 = true := by kernel_rfl
-- term trEO: call Tryz.prog ctR3 (Lt.of []) 100 90 (symArgs 0 [ops16, ops16]) [] 0
def trEO : TT OpR :=
(.ite (.cmp .neq (.len (.var 0)) (.len (.var 1)))
 (.ret ((.v (.one (.z (.bool (.lit false))))), [], 0))
 (.loop 0 1000 ⟨[(0, (.lit 0))], [], []⟩
 (.ite (.cmp .lss (.var 1000) (.len (.var 0)))
 (.ob (.tru (.cmp .leq (.lit 0) (.var 1000)))
 (.ob (.tru (.cmp .lss (.var 1000) (.len (.var 0))))
 (.ob (.tru (.cmp .leq (.lit 0) (.var 1000)))
 (.ob (.tru (.cmp .lss (.var 1000) (.len (.var 1))))
 (.ite (.not (.fn 180 (.i (.rd (.var 0) (.var 1000) 0) (.i (.rd (.var 0) (.var 1000) 1) (.i (.rd (.var 0) (.var 1000) 2) (.i (.rd (.var 0) (.var 1000) 3) (.i (.rd (.var 0) (.var 1000) 4) (.i (.rd (.var 0) (.var 1000) 5) (.i (.rd (.var 0) (.var 1000) 6) (.x (.rd (.var 0) (.var 1000) 7) (.i (.rd (.var 0) (.var 1000) 8) (.i (.rd (.var 0) (.var 1000) 9) (.x (.rd (.var 0) (.var 1000) 10) (.i (.rd (.var 0) (.var 1000) 11) (.i (.rd (.var 0) (.var 1000) 12) (.i (.rd (.var 0) (.var 1000) 13) (.i (.rd (.var 0) (.var 1000) 14) (.i (.rd (.var 0) (.var 1000) 15) (.i (.rd (.var 1) (.var 1000) 0) (.i (.rd (.var 1) (.var 1000) 1) (.i (.rd (.var 1) (.var 1000) 2) (.i (.rd (.var 1) (.var 1000) 3) (.i (.rd (.var 1) (.var 1000) 4) (.i (.rd (.var 1) (.var 1000) 5) (.i (.rd (.var 1) (.var 1000) 6) (.x (.rd (.var 1) (.var 1000) 7) (.i (.rd (.var 1) (.var 1000) 8) (.i (.rd (.var 1) (.var 1000) 9) (.x (.rd (.var 1) (.var 1000) 10) (.i (.rd (.var 1) (.var 1000) 11) (.i (.rd (.var 1) (.var 1000) 12) (.i (.rd (.var 1) (.var 1000) 13) (.i (.rd (.var 1) (.var 1000) 14) (.i (.rd (.var 1) (.var 1000) 15) .nil))))))))))))))))))))))))))))))))))
 (.ret ((.v (.one (.z (.bool (.lit false))))), [], 1))
 (.next 0 ⟨[(0, (.ar .add .i64 (.var 1000) (.lit 1)))], [], []⟩))))))
 (.ret ((.v (.one (.z (.bool (.lit true))))), [], 1)))))
-- end trEO
def trEO_h : List (Nat × St) := [
(0, ⟨(List.append [(.v (.one (.z (.ext opK (.var 0) false)))), (.v (.one (.z (.ext opK (.var 1) false)))), (.v (.one (.z .any))), (.v (.one (.z .any))), (.v (.one (.z (.bool (.lit false))))), (.v (.one (.z (.int .i64 (.var 1000))))), (.v (.one (.z (.ext opK (.var 0) false)))), (.v (.one (.z (.int .i64 (.len (.var 0)))))), (.v (.one (.z (.ext opK (.var 1) false)))), (.v (.one (.z (.int .i64 (.len (.var 1)))))), (.v (.one (.z (.bool (.cmp .neq (.len (.var 0)) (.len (.var 1)))))))] (List.replicate 16 V.any)), [], 1, []⟩)]
def trEO_j : List (FuncId × Nat × Nat × St) := [
]
set_option maxRecDepth 100000 in
theorem trEO_is : T.norm 0 (call Tryz.prog ctR3 ⟨Lt.un (Lt.of []), trEO_h, trEO_j⟩ 100 90 (symArgs 0 [ops16, ops16]) [] 0) TT.ret = trEO := by kernel_rfl
theorem trEO_low : trEO.low 1000 = true := by kernel_rfl
-- term trEn: call Tryz.prog ctR4 (Lt.of []) 100 56 (symArgs 0 [notS, notS]) [] 0
def trEn : TT OpR :=
(.ite (.cmp .neq (.var 0) (.var 7))
 (.ret ((.v (.one (.z (.bool (.lit false))))), [], 2))
 (.ite (.cmp .neq (.var 1) (.var 8))
 (.ret ((.v (.one (.z (.bool (.lit false))))), [], 2))
 (.ite (.cmp .neq (.var 2) (.var 9))
 (.ret ((.v (.one (.z (.bool (.lit false))))), [], 2))
 (.ite (.cmp .neq (.var 3) (.var 10))
 (.ret ((.v (.one (.z (.bool (.lit false))))), [], 2))
 (.ite (.cmp .neq (.var 4) (.var 11))
 (.ret ((.v (.one (.z (.bool (.lit false))))), [], 2))
 (.ite (.cmp .neq (.var 5) (.var 12))
 (.ret ((.v (.one (.z (.bool (.lit false))))), [], 2))
 (.ite (.cmp .neq (.len (.var 6)) (.len (.var 13)))
 (.ret ((.v (.one (.z (.bool (.lit false))))), [], 2))
 (.loop 0 3000 ⟨[(0, (.lit 0))], [], []⟩
 (.ite (.cmp .lss (.var 3000) (.len (.var 6)))
 (.ob (.tru (.cmp .leq (.lit 0) (.var 3000)))
 (.ob (.tru (.cmp .lss (.var 3000) (.len (.var 6))))
 (.ob (.tru (.cmp .leq (.lit 0) (.var 3000)))
 (.ob (.tru (.cmp .lss (.var 3000) (.len (.var 13))))
 (.ite (.cmp .neq (.rd (.var 6) (.var 3000) 0) (.rd (.var 13) (.var 3000) 0))
 (.ret ((.v (.one (.z (.bool (.lit false))))), [], 5))
 (.ite (.not (.fn 220 (.x (.rd (.var 6) (.var 3000) 1) (.x (.rd (.var 13) (.var 3000) 1) .nil))))
 (.ret ((.v (.one (.z (.bool (.lit false))))), [], 5))
 (.ite (.not (.fn 220 (.x (.rd (.var 6) (.var 3000) 2) (.x (.rd (.var 13) (.var 3000) 2) .nil))))
 (.ret ((.v (.one (.z (.bool (.lit false))))), [], 5))
 (.next 0 ⟨[(0, (.ar .add .i64 (.var 3000) (.lit 1)))], [], []⟩))))))))
 (.ret ((.v (.one (.z (.bool (.lit true))))), [], 5)))))))))))
-- end trEn
def trEn_h : List (Nat × St) := [
(2, ⟨(List.append [(.v (.agg [(.z (.int .i64 (.var 0))), (.z (.int .i64 (.var 1))), (.z (.int .i64 (.var 2))), (.z (.int .i64 (.var 3))), (.z (.int .i64 (.var 4))), (.z (.int .i64 (.var 5))), (.z (.ext partK (.var 6) false))])), (.v (.agg [(.z (.int .i64 (.var 7))), (.z (.int .i64 (.var 8))), (.z (.int .i64 (.var 9))), (.z (.int .i64 (.var 10))), (.z (.int .i64 (.var 11))), (.z (.int .i64 (.var 12))), (.z (.ext partK (.var 13) false))])), (.v (.one (.z (.ptr 0 0)))), (.v (.one (.z (.ptr 1 0)))), (.v (.one (.z (.bool (.lit false))))), (.v (.one (.z (.int .i64 (.var 3000))))), (.v (.one (.z .any))), (.v (.one (.z .any))), (.v (.one (.z (.ptr 0 0)))), (.v (.one (.z (.int .i64 (.var 0))))), (.v (.one (.z (.ptr 1 0)))), (.v (.one (.z (.int .i64 (.var 7))))), (.v (.one (.z (.bool (.cmp .neq (.var 0) (.var 7)))))), (.v (.one (.z (.bool (.lit false))))), (.v (.one (.z (.ptr 0 1)))), (.v (.one (.z (.int .i64 (.var 1))))), (.v (.one (.z (.ptr 1 1)))), (.v (.one (.z (.int .i64 (.var 8))))), (.v (.one (.z (.bool (.cmp .neq (.var 1) (.var 8)))))), (.v (.one (.z (.bool (.cmp .neq (.var 1) (.var 8)))))), (.v (.one (.z (.bool (.lit false))))), (.v (.one (.z (.ptr 0 2)))), (.v (.one (.z (.int .i64 (.var 2))))), (.v (.one (.z (.ptr 1 2)))), (.v (.one (.z (.int .i64 (.var 9))))), (.v (.one (.z (.bool (.cmp .neq (.var 2) (.var 9)))))), (.v (.one (.z (.bool (.cmp .neq (.var 2) (.var 9)))))), (.v (.one (.z (.bool (.lit false))))), (.v (.one (.z (.ptr 0 3)))), (.v (.one (.z (.int .i64 (.var 3))))), (.v (.one (.z (.ptr 1 3)))), (.v (.one (.z (.int .i64 (.var 10))))), (.v (.one (.z (.bool (.cmp .neq (.var 3) (.var 10)))))), (.v (.one (.z (.bool (.cmp .neq (.var 3) (.var 10)))))), (.v (.one (.z (.bool (.lit false))))), (.v (.one (.z (.ptr 0 4)))), (.v (.one (.z (.int .i64 (.var 4))))), (.v (.one (.z (.ptr 1 4)))), (.v (.one (.z (.int .i64 (.var 11))))), (.v (.one (.z (.bool (.cmp .neq (.var 4) (.var 11)))))), (.v (.one (.z (.bool (.cmp .neq (.var 4) (.var 11)))))), (.v (.one (.z (.bool (.lit false))))), (.v (.one (.z (.ptr 0 5)))), (.v (.one (.z (.int .i64 (.var 5))))), (.v (.one (.z (.ptr 1 5)))), (.v (.one (.z (.int .i64 (.var 12))))), (.v (.one (.z (.bool (.cmp .neq (.var 5) (.var 12)))))), (.v (.one (.z (.bool (.cmp .neq (.var 5) (.var 12)))))), (.v (.one (.z (.bool (.lit false))))), (.v (.one (.z (.ptr 0 6)))), (.v (.one (.z (.ext partK (.var 6) false)))), (.v (.one (.z (.int .i64 (.len (.var 6)))))), (.v (.one (.z (.ptr 1 6)))), (.v (.one (.z (.ext partK (.var 13) false)))), (.v (.one (.z (.int .i64 (.len (.var 13)))))), (.v (.one (.z (.bool (.cmp .neq (.len (.var 6)) (.len (.var 13))))))), (.v (.one (.z (.bool (.cmp .neq (.len (.var 6)) (.len (.var 13)))))))] (List.replicate 38 V.any)), [(1, (.cells 29 [(.z (.int .i64 (.var 7))), (.z (.int .i64 (.var 8))), (.z (.int .i64 (.var 9))), (.z (.int .i64 (.var 10))), (.z (.int .i64 (.var 11))), (.z (.int .i64 (.var 12))), (.z (.ext partK (.var 13) false))])), (0, (.cells 29 [(.z (.int .i64 (.var 0))), (.z (.int .i64 (.var 1))), (.z (.int .i64 (.var 2))), (.z (.int .i64 (.var 3))), (.z (.int .i64 (.var 4))), (.z (.int .i64 (.var 5))), (.z (.ext partK (.var 6) false))]))], 3, []⟩)]
def trEn_j : List (FuncId × Nat × Nat × St) := [
]
set_option maxRecDepth 100000 in
theorem trEn_is : T.norm 0 (call Tryz.prog ctR4 ⟨Lt.un (Lt.of []), trEn_h, trEn_j⟩ 100 56 (symArgs 0 [notS, notS]) [] 0) TT.ret = trEn := by kernel_rfl
theorem trEn_low : trEn.low 1000 = true := by kernel_rfl
-- term trEl: call Tryz.prog ctR5 (Lt.of []) 100 26 (symArgs 0 [letS, letS]) [] 0
def trEl : TT OpR :=
(.ite (.fn 190 (.i (.var 4) (.i (.var 5) (.i (.var 6) (.i (.var 7) (.i (.var 8) (.i (.var 9) (.x (.var 10) (.i (.var 15) (.i (.var 16) (.i (.var 17) (.i (.var 18) (.i (.var 19) (.i (.var 20) (.x (.var 21) .nil)))))))))))))))
 (.ite (.cmp .eql (.var 0) (.var 11))
 (.ite (.cmp .eql (.var 1) (.var 12))
 (.ite (.cmp .eql (.var 2) (.var 13))
 (.ret ((.v (.one (.z (.bool (.eqb (.var 3) (.var 14)))))), [], 2))
 (.ret ((.v (.one (.z (.bool (.lit false))))), [], 2)))
 (.ret ((.v (.one (.z (.bool (.lit false))))), [], 2)))
 (.ret ((.v (.one (.z (.bool (.lit false))))), [], 2)))
 (.ret ((.v (.one (.z (.bool (.lit false))))), [], 2)))
-- end trEl
set_option maxRecDepth 100000 in
theorem trEl_is : T.norm 0 (call Tryz.prog ctR5 (Lt.of []) 100 26 (symArgs 0 [letS, letS]) [] 0) TT.ret = trEl := by kernel_rfl
theorem trEl_low : trEl.low 1000 = true := by kernel_rfl
-- term trEN: call Tryz.prog ctR5 (Lt.of []) 100 25 (symArgs 0 [nots, nots]) [] 0
def trEN : TT OpR :=
(.ite (.cmp .neq (.len (.var 0)) (.len (.var 1)))
 (.ret ((.v (.one (.z (.bool (.lit false))))), [], 0))
 (.loop 0 1000 ⟨[(0, (.lit 0))], [], []⟩
 (.ite (.cmp .lss (.var 1000) (.len (.var 0)))
 (.ob (.tru (.cmp .leq (.lit 0) (.var 1000)))
 (.ob (.tru (.cmp .lss (.var 1000) (.len (.var 0))))
 (.ob (.tru (.cmp .leq (.lit 0) (.var 1000)))
 (.ob (.tru (.cmp .lss (.var 1000) (.len (.var 1))))
 (.ite (.not (.fn 190 (.i (.rd (.var 0) (.var 1000) 0) (.i (.rd (.var 0) (.var 1000) 1) (.i (.rd (.var 0) (.var 1000) 2) (.i (.rd (.var 0) (.var 1000) 3) (.i (.rd (.var 0) (.var 1000) 4) (.i (.rd (.var 0) (.var 1000) 5) (.x (.rd (.var 0) (.var 1000) 6) (.i (.rd (.var 1) (.var 1000) 0) (.i (.rd (.var 1) (.var 1000) 1) (.i (.rd (.var 1) (.var 1000) 2) (.i (.rd (.var 1) (.var 1000) 3) (.i (.rd (.var 1) (.var 1000) 4) (.i (.rd (.var 1) (.var 1000) 5) (.x (.rd (.var 1) (.var 1000) 6) .nil))))))))))))))))
 (.ret ((.v (.one (.z (.bool (.lit false))))), [], 1))
 (.next 0 ⟨[(0, (.ar .add .i64 (.var 1000) (.lit 1)))], [], []⟩))))))
 (.ret ((.v (.one (.z (.bool (.lit true))))), [], 1)))))
-- end trEN
def trEN_h : List (Nat × St) := [
(0, ⟨(List.append [(.v (.one (.z (.ext notK (.var 0) false)))), (.v (.one (.z (.ext notK (.var 1) false)))), (.v (.one (.z .any))), (.v (.one (.z .any))), (.v (.one (.z (.bool (.lit false))))), (.v (.one (.z (.int .i64 (.var 1000))))), (.v (.one (.z .any))), (.v (.one (.z (.ext notK (.var 0) false)))), (.v (.one (.z (.int .i64 (.len (.var 0)))))), (.v (.one (.z (.ext notK (.var 1) false)))), (.v (.one (.z (.int .i64 (.len (.var 1)))))), (.v (.one (.z (.bool (.cmp .neq (.len (.var 0)) (.len (.var 1)))))))] (List.replicate 17 V.any)), [], 1, []⟩)]
def trEN_j : List (FuncId × Nat × Nat × St) := [
]
set_option maxRecDepth 100000 in
theorem trEN_is : T.norm 0 (call Tryz.prog ctR5 ⟨Lt.un (Lt.of []), trEN_h, trEN_j⟩ 100 25 (symArgs 0 [nots, nots]) [] 0) TT.ret = trEN := by kernel_rfl
theorem trEN_low : trEN.low 1000 = true := by kernel_rfl
-- term trEL: call Tryz.prog ctR6 (Lt.of []) 100 19 (symArgs 0 [lets, lets]) [] 0
def trEL : TT OpR :=
(.ite (.cmp .neq (.len (.var 0)) (.len (.var 1)))
 (.ret ((.v (.one (.z (.bool (.lit false))))), [], 0))
 (.loop 0 1000 ⟨[(0, (.lit 0))], [], []⟩
 (.ite (.cmp .lss (.var 1000) (.len (.var 0)))
 (.ob (.tru (.cmp .leq (.lit 0) (.var 1000)))
 (.ob (.tru (.cmp .lss (.var 1000) (.len (.var 0))))
 (.ob (.tru (.cmp .leq (.lit 0) (.var 1000)))
 (.ob (.tru (.cmp .lss (.var 1000) (.len (.var 1))))
 (.ite (.not (.fn 221 (.i (.rd (.var 0) (.var 1000) 0) (.i (.rd (.var 0) (.var 1000) 1) (.i (.rd (.var 0) (.var 1000) 2) (.b (.rd (.var 0) (.var 1000) 3) (.i (.rd (.var 0) (.var 1000) 4) (.i (.rd (.var 0) (.var 1000) 5) (.i (.rd (.var 0) (.var 1000) 6) (.i (.rd (.var 0) (.var 1000) 7) (.i (.rd (.var 0) (.var 1000) 8) (.i (.rd (.var 0) (.var 1000) 9) (.x (.rd (.var 0) (.var 1000) 10) (.i (.rd (.var 1) (.var 1000) 0) (.i (.rd (.var 1) (.var 1000) 1) (.i (.rd (.var 1) (.var 1000) 2) (.b (.rd (.var 1) (.var 1000) 3) (.i (.rd (.var 1) (.var 1000) 4) (.i (.rd (.var 1) (.var 1000) 5) (.i (.rd (.var 1) (.var 1000) 6) (.i (.rd (.var 1) (.var 1000) 7) (.i (.rd (.var 1) (.var 1000) 8) (.i (.rd (.var 1) (.var 1000) 9) (.x (.rd (.var 1) (.var 1000) 10) .nil))))))))))))))))))))))))
 (.ret ((.v (.one (.z (.bool (.lit false))))), [], 1))
 (.next 0 ⟨[(0, (.ar .add .i64 (.var 1000) (.lit 1)))], [], []⟩))))))
 (.ret ((.v (.one (.z (.bool (.lit true))))), [], 1)))))
-- end trEL
def trEL_h : List (Nat × St) := [
(0, ⟨(List.append [(.v (.one (.z (.ext letK (.var 0) false)))), (.v (.one (.z (.ext letK (.var 1) false)))), (.v (.one (.z .any))), (.v (.one (.z .any))), (.v (.one (.z (.bool (.lit false))))), (.v (.one (.z (.int .i64 (.var 1000))))), (.v (.one (.z .any))), (.v (.one (.z (.ext letK (.var 0) false)))), (.v (.one (.z (.int .i64 (.len (.var 0)))))), (.v (.one (.z (.ext letK (.var 1) false)))), (.v (.one (.z (.int .i64 (.len (.var 1)))))), (.v (.one (.z (.bool (.cmp .neq (.len (.var 0)) (.len (.var 1)))))))] (List.replicate 17 V.any)), [], 1, []⟩)]
def trEL_j : List (FuncId × Nat × Nat × St) := [
]
set_option maxRecDepth 100000 in
theorem trEL_is : T.norm 0 (call Tryz.prog ctR6 ⟨Lt.un (Lt.of []), trEL_h, trEL_j⟩ 100 19 (symArgs 0 [lets, lets]) [] 0) TT.ret = trEL := by kernel_rfl
theorem trEL_low : trEL.low 1000 = true := by kernel_rfl
-- term trEB: call Tryz.prog ctR7 (Lt.of []) 100 16 (symArgs 0 [boxS, boxS]) [] 0
def trEB : TT OpR :=
(.ite (.fn 220 (.x (.var 1) (.x (.var 3) .nil)))
 (.ret ((.v (.one (.z (.bool (.cmp .eql (.var 0) (.var 2)))))), [], 2))
 (.ret ((.v (.one (.z (.bool (.lit false))))), [], 2)))
-- end trEB
set_option maxRecDepth 100000 in
theorem trEB_is : T.norm 0 (call Tryz.prog ctR7 (Lt.of []) 100 16 (symArgs 0 [boxS, boxS]) [] 0) TT.ret = trEB := by kernel_rfl
theorem trEB_low : trEB.low 1000 = true := by kernel_rfl
-- term trEI: call Tryz.prog ctR7 (Lt.of []) 100 24 (symArgs 0 [boxS, boxS]) [] 0
def trEI : TT OpR :=
(.ite (.fn 220 (.x (.var 1) (.x (.var 3) .nil)))
 (.ret ((.v (.one (.z (.bool (.cmp .eql (.var 0) (.var 2)))))), [], 2))
 (.ret ((.v (.one (.z (.bool (.lit false))))), [], 2)))
-- end trEI
set_option maxRecDepth 100000 in
theorem trEI_is : T.norm 0 (call Tryz.prog ctR7 (Lt.of []) 100 24 (symArgs 0 [boxS, boxS]) [] 0) TT.ret = trEI := by kernel_rfl
theorem trEI_low : trEI.low 1000 = true := by kernel_rfl
-- term trLen: call Tryz.prog ctR0 (Lt.of []) 100 37 (symArgs 0 [notS]) [] 0
def trLen : TT OpR :=
(.loop 0 2000 ⟨[(0, (.len (.var 6))), (1, (.lit 0))], [], []⟩
 (.ite (.cmp .lss (.var 2001) (.len (.var 6)))
 (.ob (.tru (.cmp .leq (.lit 0) (.var 2001)))
 (.ob (.tru (.cmp .lss (.var 2001) (.len (.var 6))))
 (.loop 1 4000 ⟨[(0, (.ar .add .i64 (.ar .add .i64 (.var 2000) (.len (.rd (.var 6) (.var 2001) 1))) (.len (.rd (.var 6) (.var 2001) 2)))), (1, (.lit 0))], [], []⟩
 (.ite (.cmp .lss (.var 4001) (.len (.rd (.var 6) (.var 2001) 2)))
 (.ob (.tru (.cmp .leq (.lit 0) (.var 4001)))
 (.ob (.tru (.cmp .lss (.var 4001) (.len (.rd (.var 6) (.var 2001) 2))))
 (.ob (.tru (.cmp .leq (.lit 0) (.var 4001)))
 (.ob (.tru (.cmp .lss (.var 4001) (.len (.rd (.var 6) (.var 2001) 2))))
 (.next 1 ⟨[(0, (.ar .add .i64 (.ar .add .i64 (.var 4000) (.len (.rd (.rd (.var 6) (.var 2001) 2) (.var 4001) 7))) (.len (.rd (.rd (.var 6) (.var 2001) 2) (.var 4001) 10)))), (1, (.ar .add .i64 (.var 4001) (.lit 1)))], [], []⟩)))))
 (.next 0 ⟨[(0, (.var 4000)), (1, (.ar .add .i64 (.var 2001) (.lit 1)))], [], []⟩)))))
 (.ret ((.v (.one (.z (.int .i64 (.var 2000))))), [], 4))))
-- end trLen
def trLen_h : List (Nat × St) := [
(1, ⟨(List.append [(.v (.agg [(.z (.int .i64 (.var 0))), (.z (.int .i64 (.var 1))), (.z (.int .i64 (.var 2))), (.z (.int .i64 (.var 3))), (.z (.int .i64 (.var 4))), (.z (.int .i64 (.var 5))), (.z (.ext partK (.var 6) false))])), (.v (.one (.z (.ptr 0 0)))), (.v (.one (.z (.int .i64 (.lit 0))))), (.v (.one (.z (.int .i64 (.var 2000))))), (.v (.one (.z (.int .i64 (.var 2001))))), (.v (.one (.z .any))), (.v (.one (.z .any))), (.v (.one (.z (.ptr 0 6)))), (.v (.one (.z (.ext partK (.var 6) false)))), (.v (.one (.z (.int .i64 (.len (.var 6))))))] (List.replicate 48 V.any)), [(0, (.cells 29 [(.z (.int .i64 (.var 0))), (.z (.int .i64 (.var 1))), (.z (.int .i64 (.var 2))), (.z (.int .i64 (.var 3))), (.z (.int .i64 (.var 4))), (.z (.int .i64 (.var 5))), (.z (.ext partK (.var 6) false))]))], 2, []⟩),
(3, ⟨(List.append [(.v (.agg [(.z (.int .i64 (.var 0))), (.z (.int .i64 (.var 1))), (.z (.int .i64 (.var 2))), (.z (.int .i64 (.var 3))), (.z (.int .i64 (.var 4))), (.z (.int .i64 (.var 5))), (.z (.ext partK (.var 6) false))])), (.v (.one (.z (.ptr 0 0)))), (.v (.one (.z (.int .i64 (.lit 0))))), (.v (.one (.z (.int .i64 (.var 4000))))), (.v (.one (.z (.int .i64 (.var 2001))))), (.v (.one (.z (.ptr 2 0)))), (.v (.one (.z (.int .i64 (.var 4001))))), (.v (.one (.z (.ptr 0 6)))), (.v (.one (.z (.ext partK (.var 6) false)))), (.v (.one (.z (.int .i64 (.len (.var 6)))))), (.v (.one (.z (.int .i64 (.var 2001))))), (.v (.one (.z (.ptr 0 6)))), (.v (.one (.z (.ext partK (.var 6) false)))), (.v (.one (.z (.int .i64 (.len (.var 6)))))), (.v (.one (.z (.bool (.cmp .lss (.var 2001) (.len (.var 6))))))), (.v (.one (.z .any))), (.v (.one (.z .any))), (.v (.one (.z (.ptr 0 6)))), (.v (.one (.z (.ext partK (.var 6) false)))), (.v (.one (.z (.int .i64 (.var 2001))))), (.v (.one (.z (.eptr partK (.var 6) (.var 2001) 0)))), (.v (.agg [(.z (.int .i64 (.rd (.var 6) (.var 2001) 0))), (.z (.ext [(.int .i64)] (.rd (.var 6) (.var 2001) 1) false)), (.z (.ext opK (.rd (.var 6) (.var 2001) 2) false))])), (.v (.one (.z (.int .i64 (.var 2000))))), (.v (.one (.z (.ptr 2 1)))), (.v (.one (.z (.ext [(.int .i64)] (.rd (.var 6) (.var 2001) 1) false)))), (.v (.one (.z (.int .i64 (.len (.rd (.var 6) (.var 2001) 1)))))), (.v (.one (.z (.int .i64 (.ar .add .i64 (.var 2000) (.len (.rd (.var 6) (.var 2001) 1))))))), (.v (.one (.z (.ptr 2 2)))), (.v (.one (.z (.ext opK (.rd (.var 6) (.var 2001) 2) false)))), (.v (.one (.z (.int .i64 (.len (.rd (.var 6) (.var 2001) 2)))))), (.v (.one (.z (.int .i64 (.ar .add .i64 (.ar .add .i64 (.var 2000) (.len (.rd (.var 6) (.var 2001) 1))) (.len (.rd (.var 6) (.var 2001) 2)))))))] (List.replicate 27 V.any)), [(2, (.cells 106 [(.z (.int .i64 (.rd (.var 6) (.var 2001) 0))), (.z (.ext [(.int .i64)] (.rd (.var 6) (.var 2001) 1) false)), (.z (.ext opK (.rd (.var 6) (.var 2001) 2) false))])), (0, (.cells 29 [(.z (.int .i64 (.var 0))), (.z (.int .i64 (.var 1))), (.z (.int .i64 (.var 2))), (.z (.int .i64 (.var 3))), (.z (.int .i64 (.var 4))), (.z (.int .i64 (.var 5))), (.z (.ext partK (.var 6) false))]))], 4, []⟩)]
def trLen_j : List (FuncId × Nat × Nat × St) := [
]
set_option maxRecDepth 100000 in
theorem trLen_is : T.norm 0 (call Tryz.prog ctR0 ⟨Lt.un (Lt.of []), trLen_h, trLen_j⟩ 100 37 (symArgs 0 [notS]) [] 0) TT.ret = trLen := by kernel_rfl
theorem trLen_low : trLen.low 1000 = true := by kernel_rfl
-- term trFew: call Tryz.prog ctR8 (Lt.of []) 100 12 (symArgs 0 [nots]) [] 0
def trFew : TT OpR :=
(.ite (.cmp .gtr (.len (.var 0)) (.lit 12))
 (.ret ((.v (.one (.z (.bool (.lit false))))), [], 0))
 (.loop 0 1000 ⟨[(0, (.lit 0))], [], []⟩
 (.ite (.cmp .lss (.var 1000) (.len (.var 0)))
 (.ob (.tru (.cmp .leq (.lit 0) (.var 1000)))
 (.ob (.tru (.cmp .lss (.var 1000) (.len (.var 0))))
 (.ite (.cmp .gtr (.fn 220 (.i (.rd (.var 0) (.var 1000) 0) (.i (.rd (.var 0) (.var 1000) 1) (.i (.rd (.var 0) (.var 1000) 2) (.i (.rd (.var 0) (.var 1000) 3) (.i (.rd (.var 0) (.var 1000) 4) (.i (.rd (.var 0) (.var 1000) 5) (.x (.rd (.var 0) (.var 1000) 6) .nil)))))))) (.lit 400))
 (.ret ((.v (.one (.z (.bool (.lit false))))), [], 1))
 (.next 0 ⟨[(0, (.ar .add .i64 (.var 1000) (.lit 1)))], [], []⟩))))
 (.ret ((.v (.one (.z (.bool (.lit true))))), [], 1)))))
-- end trFew
def trFew_h : List (Nat × St) := [
(0, ⟨(List.append [(.v (.one (.z (.ext notK (.var 0) false)))), (.v (.one (.z .any))), (.v (.one (.z (.bool (.lit false))))), (.v (.one (.z (.int .i64 (.var 1000))))), (.v (.one (.z (.ext notK (.var 0) false)))), (.v (.one (.z (.int .i64 (.len (.var 0)))))), (.v (.one (.z (.bool (.cmp .gtr (.len (.var 0)) (.lit 12))))))] (List.replicate 12 V.any)), [], 1, []⟩)]
def trFew_j : List (FuncId × Nat × Nat × St) := [
]
set_option maxRecDepth 100000 in
theorem trFew_is : T.norm 0 (call Tryz.prog ctR8 ⟨Lt.un (Lt.of []), trFew_h, trFew_j⟩ 100 12 (symArgs 0 [nots]) [] 0) TT.ret = trFew := by kernel_rfl
theorem trFew_low : trFew.low 1000 = true := by kernel_rfl
-- term trSmall: call Tryz.prog ctR9 (Lt.of []) 100 13 (symArgs 0 [lets]) [] 0
def trSmall : TT OpR :=
(.loop 0 1000 ⟨[(0, (.lit 0))], [], []⟩
 (.ite (.cmp .lss (.var 1000) (.len (.var 0)))
 (.ob (.tru (.cmp .leq (.lit 0) (.var 1000)))
 (.ob (.tru (.cmp .lss (.var 1000) (.len (.var 0))))
 (.ite (.not (.fn 222 (.x (.app (.row (.i (.rd (.var 0) (.var 1000) 4) (.i (.rd (.var 0) (.var 1000) 5) (.i (.rd (.var 0) (.var 1000) 6) (.i (.rd (.var 0) (.var 1000) 7) (.i (.rd (.var 0) (.var 1000) 8) (.i (.rd (.var 0) (.var 1000) 9) (.x (.rd (.var 0) (.var 1000) 10) .nil)))))))) .nil) .nil)))
 (.ret ((.v (.one (.z (.bool (.lit false))))), [], 3))
 (.next 0 ⟨[(0, (.ar .add .i64 (.var 1000) (.lit 1)))], [], []⟩))))
 (.ret ((.v (.one (.z (.bool (.lit true))))), [], 3))))
-- end trSmall
def trSmall_h : List (Nat × St) := [
(0, ⟨(List.append [(.v (.one (.z (.ext letK (.var 0) false)))), (.v (.one (.z .any))), (.v (.one (.z (.bool (.lit false))))), (.v (.one (.z .any))), (.v (.one (.z .any))), (.v (.one (.z (.ext letK (.var 0) false)))), (.v (.one (.z (.int .i64 (.len (.var 0)))))), (.v (.one (.z (.int .i64 (.var 1000)))))] (List.replicate 9 V.any)), [], 1, []⟩)]
def trSmall_j : List (FuncId × Nat × Nat × St) := [
]
set_option maxRecDepth 100000 in
theorem trSmall_is : T.norm 0 (call Tryz.prog ctR9 ⟨Lt.un (Lt.of []), trSmall_h, trSmall_j⟩ 100 13 (symArgs 0 [lets]) [] 0) TT.ret = trSmall := by kernel_rfl
theorem trSmall_low : trSmall.low 1000 = true := by kernel_rfl
end Go.Proofs.YtbbjlleaofgddaaGreat
/- Chapter 42: the reference's functions that compare, and that tell what is small. -/
namespace Go.Proofs.YtbbjlleaofgddaaGreat
open Go.RowKit
/-! ### Equal lists -/
def eqRL (ds : List D) : Bool := rowsEqb (rAt ds 0) (rAt ds 1)
theorem eqRL_two (a b : Rows) : eqRL [.l a, .l b] = rowsEqb a b := rfl
theorem eqb_yes {a b : Rows} (hl : a.length = b.length) (h : ∀ k (h1 : k < a.length) (h2 : k < b.length), a[k] = b[k]) : rowsEqb a b = true := by
  rw [List.ext_getElem hl h]; exact rowsEqb_self _
theorem eqb_no {a b : Rows} (h : a ≠ b) : rowsEqb a b = false := by
  cases q : rowsEqb a b with
  | false => rfl
  | true => exact absurd (rowsEqb_eq _ _ q) h
theorem eqb_iff {a b : Rows} : rowsEqb a b = true ↔ a = b := ⟨rowsEqb_eq _ _, fun h => by rw [h]; exact rowsEqb_self _⟩
theorem int_row {c : Nat} {a b : Rows} (wa : wfI c a) (wb : wfI c b) {i : Nat} (ha : i < a.length) (hb : i < b.length) (h : ∀ j, j < c → lg a i j = lg b i j) : a[i] = b[i] := by
  obtain ⟨l1, n1⟩ := wa _ (List.getElem_mem ha)
  obtain ⟨l2, n2⟩ := wb _ (List.getElem_mem hb)
  refine List.ext_getElem (by omega) (fun j g1 g2 => ?_)
  have g := h j (by omega)
  rw [lg_cI ha, lg_cI hb] at g
  unfold cI at g
  rw [List.getElem?_eq_getElem g1, List.getElem?_eq_getElem g2] at g
  simp only [Option.getD_some] at g
  obtain ⟨u, eu⟩ := n1 _ (List.getElem_mem g1)
  obtain ⟨v, ev⟩ := n2 _ (List.getElem_mem g2)
  rw [eu, ev] at g ⊢
  have g' : u = v := g
  rw [g']
theorem lg_same {a b : Rows} {i : Nat} (ha : i < a.length) (hb : i < b.length) (h : a[i] = b[i]) (j : Nat) : lg a i j = lg b i j := by rw [lg_cI ha, lg_cI hb, h]
/-! ### Notices and letters -/
def notWf (row : List D) : Prop := row = [.i (cI row 0), .i (cI row 1), .i (cI row 2), .i (cI row 3), .i (cI row 4), .i (cI row 5), .l (cR row 6)] ∧ wfR partK (cR row 6)
theorem not_row {row : List D} (h : wfDs notK row) : notWf row := by
  obtain ⟨d0, r0, rfl, h0, h⟩ := wfDs_cons h
  obtain ⟨d1, r1, rfl, h1, h⟩ := wfDs_cons h
  obtain ⟨d2, r2, rfl, h2, h⟩ := wfDs_cons h
  obtain ⟨d3, r3, rfl, h3, h⟩ := wfDs_cons h
  obtain ⟨d4, r4, rfl, h4, h⟩ := wfDs_cons h
  obtain ⟨d5, r5, rfl, h5, h⟩ := wfDs_cons h
  obtain ⟨d6, r6, rfl, h6, h⟩ := wfDs_cons h
  obtain rfl := wfDs_nil h
  obtain ⟨n0, rfl⟩ := wfD_int h0
  obtain ⟨n1, rfl⟩ := wfD_int h1
  obtain ⟨n2, rfl⟩ := wfD_int h2
  obtain ⟨n3, rfl⟩ := wfD_int h3
  obtain ⟨n4, rfl⟩ := wfD_int h4
  obtain ⟨n5, rfl⟩ := wfD_int h5
  obtain ⟨a6, rfl, w6⟩ := wfD_sl h6
  exact ⟨rfl, w6⟩
def letWf (row : List D) : Prop := row = [.i (cI row 0), .i (cI row 1), .i (cI row 2), .b (cB row 3), .i (cI row 4), .i (cI row 5), .i (cI row 6), .i (cI row 7), .i (cI row 8), .i (cI row 9), .l (cR row 10)] ∧ wfR partK (cR row 10)
theorem let_row {row : List D} (h : wfDs letK row) : letWf row := by
  obtain ⟨d0, r0, rfl, h0, h⟩ := wfDs_cons h
  obtain ⟨d1, r1, rfl, h1, h⟩ := wfDs_cons h
  obtain ⟨d2, r2, rfl, h2, h⟩ := wfDs_cons h
  obtain ⟨d3, r3, rfl, h3, h⟩ := wfDs_cons h
  obtain ⟨d4, r4, rfl, h4, h⟩ := wfDs_cons h
  obtain ⟨d5, r5, rfl, h5, h⟩ := wfDs_cons h
  obtain ⟨d6, r6, rfl, h6, h⟩ := wfDs_cons h
  obtain ⟨d7, r7, rfl, h7, h⟩ := wfDs_cons h
  obtain ⟨d8, r8, rfl, h8, h⟩ := wfDs_cons h
  obtain ⟨d9, r9, rfl, h9, h⟩ := wfDs_cons h
  obtain ⟨d10, r10, rfl, h10, h⟩ := wfDs_cons h
  obtain rfl := wfDs_nil h
  obtain ⟨n0, rfl⟩ := wfD_int h0
  obtain ⟨n1, rfl⟩ := wfD_int h1
  obtain ⟨n2, rfl⟩ := wfD_int h2
  obtain ⟨n3, rfl⟩ := wfD_bool h3
  obtain ⟨n4, rfl⟩ := wfD_int h4
  obtain ⟨n5, rfl⟩ := wfD_int h5
  obtain ⟨n6, rfl⟩ := wfD_int h6
  obtain ⟨n7, rfl⟩ := wfD_int h7
  obtain ⟨n8, rfl⟩ := wfD_int h8
  obtain ⟨n9, rfl⟩ := wfD_int h9
  obtain ⟨a10, rfl, w10⟩ := wfD_sl h10
  exact ⟨rfl, w10⟩
def notArgs (x : List D) (j : Nat) : List D := [.i (cI x j), .i (cI x (j + 1)), .i (cI x (j + 2)), .i (cI x (j + 3)), .i (cI x (j + 4)), .i (cI x (j + 5)), .l (cR x (j + 6))]
theorem ns_iff (x y : List D) (i j : Nat) : nsL (notArgs x i ++ notArgs y j) = true ↔ notArgs x i = notArgs y j := by
  have e : nsL (notArgs x i ++ notArgs y j) = (decide (cI x i = cI y j ∧ cI x (i + 1) = cI y (j + 1) ∧ cI x (i + 2) = cI y (j + 2) ∧ cI x (i + 3) = cI y (j + 3) ∧ cI x (i + 4) = cI y (j + 4) ∧ cI x (i + 5) = cI y (j + 5)) && rowsEqb (cR x (i + 6)) (cR y (j + 6))) := rfl
  rw [e]
  unfold notArgs
  simp only [Bool.and_eq_true, decide_eq_true_eq, eqb_iff, List.cons.injEq, D.i.injEq, D.l.injEq, and_true]
  constructor
  · rintro ⟨⟨a, b, c, d, e, f⟩, g⟩; exact ⟨a, b, c, d, e, f, g⟩
  · rintro ⟨a, b, c, d, e, f, g⟩; exact ⟨⟨a, b, c, d, e, f⟩, g⟩
theorem ns_eq {x y : List D} (hx : notWf x) (hy : notWf y) : nsL (notArgs x 0 ++ notArgs y 0) = true ↔ x = y := by
  have e1 : x = notArgs x 0 := hx.1
  have e2 : y = notArgs y 0 := hy.1
  rw [ns_iff, ← e1, ← e2]
def leL (ds : List D) : Bool := nsL (ntA ds 4 ++ ntA ds 15) && (decide (iAt ds 0 = iAt ds 11 ∧ iAt ds 1 = iAt ds 12 ∧ iAt ds 2 = iAt ds 13) && (bAt ds 3 == bAt ds 14))
def letArgs (x : List D) : List D := [.i (cI x 0), .i (cI x 1), .i (cI x 2), .b (cB x 3), .i (cI x 4), .i (cI x 5), .i (cI x 6), .i (cI x 7), .i (cI x 8), .i (cI x 9), .l (cR x 10)]
theorem le_eq {x y : List D} (hx : letWf x) (hy : letWf y) : leL (letArgs x ++ letArgs y) = true ↔ x = y := by
  have e : leL (letArgs x ++ letArgs y) = (nsL (notArgs x 4 ++ notArgs y 4) && (decide (cI x 0 = cI y 0 ∧ cI x 1 = cI y 1 ∧ cI x 2 = cI y 2) && (cB x 3 == cB y 3))) := rfl
  have e1 : x = letArgs x := hx.1
  have e2 : y = letArgs y := hy.1
  rw [e, Bool.and_eq_true, ns_iff, Bool.and_eq_true, decide_eq_true_eq, beq_iff_eq]
  constructor
  · rintro ⟨h, ⟨a, b, c⟩, d⟩
    unfold notArgs at h
    simp only [List.cons.injEq, D.i.injEq, D.l.injEq, and_true] at h
    obtain ⟨h4, h5, h6, h7, h8, h9, h10⟩ := h
    rw [e1, e2, letArgs, letArgs, a, b, c, d, h4, h5, h6, h7, h8, h9, h10]
  · rintro rfl; exact ⟨rfl, ⟨rfl, rfl, rfl⟩, rfl⟩
def bxL (ds : List D) : Bool := rowsEqb (rAt ds 1) (rAt ds 3) && decide (iAt ds 0 = iAt ds 2)
/-! ### What is small -/
def lenO (r : Rows) : Nat → Nat → Int → Int
  | 0, _, s => s
  | f + 1, k, s => lenO r f (k + 1) (IntKind.i64.wrap (IntKind.i64.wrap (s + ((lr r k 7).length : Nat)) + ((lr r k 10).length : Nat)))
def lenP (r : Rows) : Nat → Nat → Int → Int
  | 0, _, s => s
  | f + 1, i, s => lenP r f (i + 1) (lenO (lr r i 2) (lr r i 2).length 0 (IntKind.i64.wrap (IntKind.i64.wrap (s + ((lr r i 1).length : Nat)) + ((lr r i 2).length : Nat))))
def lenL (ds : List D) : Int := lenP (rAt ds 6) (rAt ds 6).length 0 ((rAt ds 6).length : Nat)
def fewN (r : Rows) : Nat → Nat → Bool
  | 0, _ => true
  | f + 1, i => decide (lenL [.i (lg r i 0), .i (lg r i 1), .i (lg r i 2), .i (lg r i 3), .i (lg r i 4), .i (lg r i 5), .l (lr r i 6)] ≤ 400) && fewN r f (i + 1)
def fewL (ds : List D) : Bool := decide ((rAt ds 0).length ≤ 12) && fewN (rAt ds 0) (rAt ds 0).length 0
def smN (r : Rows) : Nat → Nat → Bool
  | 0, _ => true
  | f + 1, i => fewL [.l [[.i (lg r i 4), .i (lg r i 5), .i (lg r i 6), .i (lg r i 7), .i (lg r i 8), .i (lg r i 9), .l (lr r i 10)]]] && smN r f (i + 1)
def smL (ds : List D) : Bool := smN (rAt ds 0) (rAt ds 0).length 0
def Q5 : Interp where
  fi n l := match n with | 220 => lenL l | n => Q4.fi n l
  fb n l := match n with | 220 => eqRL l | 221 => leL l | 222 => fewL l | 223 => smL l | 224 => bxL l | n => Q4.fb n l
  fd _ _ := []
theorem Q5_Q4 {ρ : Env} (h : Sees ρ Q5 230) : Sees ρ Q4 220 := h.trans (by decide) fun n l hn => by
  refine ⟨?_, ?_⟩
  ·
    simp only [Q5]
    split <;> first | omega | rfl
  ·
    simp only [Q5]
    split <;> first | omega | rfl
theorem Q5b147 (W : World) (ds l : List D) : (envOf Q5 W ds).fb 147 l = sameL l := by simp only [envOf, Q5, Q4, Q3, Q2, Q1, N4, N3, N2, N1]
theorem Q5b180 (W : World) (ds l : List D) : (envOf Q5 W ds).fb 180 l = opqL l := by simp only [envOf, Q5, Q4, Q3, Q2, Q1]
theorem Q5b190 (W : World) (ds l : List D) : (envOf Q5 W ds).fb 190 l = nsL l := by simp only [envOf, Q5, Q4, Q3, Q2]
theorem Q5b220 (W : World) (ds l : List D) : (envOf Q5 W ds).fb 220 l = eqRL l := by simp only [envOf, Q5]
theorem Q5b221 (W : World) (ds l : List D) : (envOf Q5 W ds).fb 221 l = leL l := by simp only [envOf, Q5]
theorem Q5b222 (W : World) (ds l : List D) : (envOf Q5 W ds).fb 222 l = fewL l := by simp only [envOf, Q5]
theorem Q5i220 (W : World) (ds l : List D) : (envOf Q5 W ds).fi 220 l = lenL l := by simp only [envOf, Q5]
theorem seesB {ρ : Env} {I : Interp} (h : ρ.has I) {n : Nat} {f : List D → Bool} (hf : ∀ l, I.fb n l = f l) : ∀ l, ρ.fb n l = f l := fun l => by rw [h.2.1]; exact hf l
theorem seesI {ρ : Env} {I : Interp} (h : ρ.has I) {n : Nat} {f : List D → Int} (hf : ∀ l, I.fi n l = f l) : ∀ l, ρ.fi n l = f l := fun l => by rw [h.1]; exact hf l
theorem wfI_of {ks : List CK} {r : Rows} (hk : ks = List.replicate ks.length (.int .i64)) (h : wfR ks r) : wfI ks.length r := wfR_ints (fun k hm => by rw [hk] at hm; exact ⟨_, (List.eq_of_mem_replicate hm)⟩) h
def EqTo (a b : Rows) (i : Nat) : Prop := i ≤ a.length ∧ ∀ k (h1 : k < a.length) (h2 : k < b.length), k < i → a[k] = b[k]
theorem EqTo.zero (a b : Rows) : EqTo a b 0 := ⟨by omega, fun k _ _ h => by omega⟩
theorem EqTo.next {a b : Rows} {i : Nat} (h : EqTo a b i) (h1 : i < a.length) (h2 : i < b.length) (e : a[i] = b[i]) : EqTo a b (i + 1) := ⟨by omega, fun k g1 g2 hk => by
  by_cases q : k = i
  · subst q; exact e
  · exact h.2 k g1 g2 (by omega)⟩
theorem EqTo.done {a b : Rows} {i : Nat} (h : EqTo a b i) (hl : a.length = b.length) (hi : a.length ≤ i) : rowsEqb a b = true := eqb_yes hl (fun k h1 h2 => h.2 k h1 h2 (by omega))
theorem eql_dec (a b : Int) : cmpEv .eql a b = decide (a = b) := rfl
theorem gE2 : Gives Tryz.prog 141 [pts, pts] (fun ds => .bool (eqRL ds)) := by
  refine GivesIf.all (fn_gives Q5 (by kernel_rfl) (fun ρ h => CtOk.nil) (by kernel_rfl) trE2_is trE2_low (by decide) (fun W vals ds hr _ => ?_))
  have hw := rep_args hr
  have r0 := rAt_wf (j := 0) hw rfl
  have r1 := rAt_wf (j := 1) hw rfl
  have w0 : wfI 2 (rAt ds 0) := wfI_of rfl r0
  have w1 : wfI 2 (rAt ds 1) := wfI_of rfl r1
  have n0 := r0.1
  simp only [trE2, TT.sat_ret, TT.sat_ite, TT.sat_ob, TT.sat_next, TT.sat_stuck, put_i, put_b, put_d, put_fi, put_fb, put_fd, Ob.ok, B.ev, E.ev, X.ev, AL.ev, cmp_t, cmp_f, arEv, V.plain, V2.plain, S.plain, S0.plain, V.val, V2.val, S.val, S0.val, bV, iV, List.all_cons, List.all_nil, Bool.and_true, Bool.and_self, envOf_i, envOf_b, envOf_d, List.map_cons, List.map_nil, true_and, Bool.not_eq_true', Bool.not_eq_false', Bool.not_not, Bool.and_eq_true, and_f, cell_lg, cell_lb, cell_lr, cmpP, val_i, val_b, val_d, aget, Nat.reduceBEq, beq_self_eq_true, Bool.false_eq_true, if_true, if_false, Nat.reduceLT, Nat.reduceSub, Nat.sub_self, Nat.lt_irrefl]
  unfold eqRL
  clear hr hw r0 r1
  generalize e0 : rAt ds 0 = a at *
  generalize e1 : rAt ds 1 = b at *
  refine ⟨fun h => by rw [eqb_no (fun e => h (by rw [e]))], fun hl => ?_⟩
  have hl : a.length = b.length := by omega
  refine TT.sat_loop (fun v => ∃ i : Nat, v.i 0 = i ∧ EqTo a b i) (fun v => a.length - (v.i 0).toNat) ⟨0, by simp [val_i, aget, E.ev], .zero a b⟩ (fun v hv => ?_)
  obtain ⟨i, i0, i1⟩ := hv
  simp only [TT.sat_ret, TT.sat_ite, TT.sat_ob, TT.sat_next, TT.sat_stuck, put_i, put_b, put_d, put_fi, put_fb, put_fd, Ob.ok, B.ev, E.ev, X.ev, AL.ev, cmp_t, cmp_f, arEv, V.plain, V2.plain, S.plain, S0.plain, V.val, V2.val, S.val, S0.val, bV, iV, List.all_cons, List.all_nil, Bool.and_true, Bool.and_self, envOf_i, envOf_b, envOf_d, List.map_cons, List.map_nil, true_and, Bool.not_eq_true', Bool.not_eq_false', Bool.not_not, Bool.and_eq_true, and_f, cell_lg, cell_lb, cell_lr, cmpP, val_i, val_b, val_d, aget, Nat.reduceBEq, beq_self_eq_true, Bool.false_eq_true, if_true, if_false, Nat.reduceLT, Nat.reduceSub, Nat.sub_self, Nat.lt_irrefl, i0, e0, e1]
  refine ⟨fun hc => ?_, fun hc => ?_⟩
  · have ha : i < a.length := by omega
    have hb : i < b.length := by omega
    have ne : ¬ (∀ j, j < 2 → lg a i j = lg b i j) → Value.bool false = Value.bool (rowsEqb a b) := fun h => by rw [eqb_no (fun e => h (fun j _ => by subst e; rfl))]
    rw [wrap_in ((i : Int) + 1) (by omega) (by omega)]
    refine ⟨by omega, by omega, by omega, by omega, fun h => ne (fun e => h ⟨e 0 (by omega), e 1 (by omega)⟩), fun h => ⟨⟨i + 1, rfl, i1.next ha hb (int_row w0 w1 ha hb (fun j hj => ?_))⟩, by omega⟩⟩
    match j, hj with
    | 0, _ => exact h.1
    | 1, _ => exact h.2
    | j + 2, hj => omega
  · rw [i1.done hl (by omega)]
theorem gE6 : Gives Tryz.prog 142 [secs, secs] (fun ds => .bool (eqRL ds)) := by
  refine GivesIf.all (fn_gives Q5 (by kernel_rfl) (fun ρ h => CtOk.nil) (by kernel_rfl) trE6_is trE6_low (by decide) (fun W vals ds hr _ => ?_))
  have hw := rep_args hr
  have r0 := rAt_wf (j := 0) hw rfl
  have r1 := rAt_wf (j := 1) hw rfl
  have w0 : wfI 6 (rAt ds 0) := wfI_of rfl r0
  have w1 : wfI 6 (rAt ds 1) := wfI_of rfl r1
  have n0 := r0.1
  simp only [trE6, TT.sat_ret, TT.sat_ite, TT.sat_ob, TT.sat_next, TT.sat_stuck, put_i, put_b, put_d, put_fi, put_fb, put_fd, Ob.ok, B.ev, E.ev, X.ev, AL.ev, cmp_t, cmp_f, arEv, V.plain, V2.plain, S.plain, S0.plain, V.val, V2.val, S.val, S0.val, bV, iV, List.all_cons, List.all_nil, Bool.and_true, Bool.and_self, envOf_i, envOf_b, envOf_d, List.map_cons, List.map_nil, true_and, Bool.not_eq_true', Bool.not_eq_false', Bool.not_not, Bool.and_eq_true, and_f, cell_lg, cell_lb, cell_lr, cmpP, val_i, val_b, val_d, aget, Nat.reduceBEq, beq_self_eq_true, Bool.false_eq_true, if_true, if_false, Nat.reduceLT, Nat.reduceSub, Nat.sub_self, Nat.lt_irrefl]
  unfold eqRL
  clear hr hw r0 r1
  generalize e0 : rAt ds 0 = a at *
  generalize e1 : rAt ds 1 = b at *
  refine ⟨fun h => by rw [eqb_no (fun e => h (by rw [e]))], fun hl => ?_⟩
  have hl : a.length = b.length := by omega
  refine TT.sat_loop (fun v => ∃ i : Nat, v.i 0 = i ∧ EqTo a b i) (fun v => a.length - (v.i 0).toNat) ⟨0, by simp [val_i, aget, E.ev], .zero a b⟩ (fun v hv => ?_)
  obtain ⟨i, i0, i1⟩ := hv
  simp only [TT.sat_ret, TT.sat_ite, TT.sat_ob, TT.sat_next, TT.sat_stuck, put_i, put_b, put_d, put_fi, put_fb, put_fd, Ob.ok, B.ev, E.ev, X.ev, AL.ev, cmp_t, cmp_f, arEv, V.plain, V2.plain, S.plain, S0.plain, V.val, V2.val, S.val, S0.val, bV, iV, List.all_cons, List.all_nil, Bool.and_true, Bool.and_self, envOf_i, envOf_b, envOf_d, List.map_cons, List.map_nil, true_and, Bool.not_eq_true', Bool.not_eq_false', Bool.not_not, Bool.and_eq_true, and_f, cell_lg, cell_lb, cell_lr, cmpP, val_i, val_b, val_d, aget, Nat.reduceBEq, beq_self_eq_true, Bool.false_eq_true, if_true, if_false, Nat.reduceLT, Nat.reduceSub, Nat.sub_self, Nat.lt_irrefl, i0, e0, e1]
  refine ⟨fun hc => ?_, fun hc => ?_⟩
  · have ha : i < a.length := by omega
    have hb : i < b.length := by omega
    have ne : ¬ (∀ j, j < 6 → lg a i j = lg b i j) → Value.bool false = Value.bool (rowsEqb a b) := fun h => by rw [eqb_no (fun e => h (fun j _ => by subst e; rfl))]
    rw [wrap_in ((i : Int) + 1) (by omega) (by omega)]
    refine ⟨by omega, by omega, by omega, by omega, fun h => ne (fun e => h ⟨⟨e 0 (by omega), e 1 (by omega)⟩, ⟨e 2 (by omega), e 3 (by omega)⟩, e 4 (by omega), e 5 (by omega)⟩), fun h => ⟨⟨i + 1, rfl, i1.next ha hb (int_row w0 w1 ha hb (fun j hj => ?_))⟩, by omega⟩⟩
    match j, hj with
    | 0, _ => exact h.1.1
    | 1, _ => exact h.1.2
    | 2, _ => exact h.2.1.1
    | 3, _ => exact h.2.1.2
    | 4, _ => exact h.2.2.1
    | 5, _ => exact h.2.2.2
    | j + 6, hj => omega
  · rw [i1.done hl (by omega)]
theorem gE1 : Gives Tryz.prog 89 [ints, ints] (fun ds => .bool (eqRL ds)) := by
  refine GivesIf.all (fn_gives Q5 (by kernel_rfl) (fun ρ h => CtOk.nil) (by kernel_rfl) trE1_is trE1_low (by decide) (fun W vals ds hr _ => ?_))
  have hw := rep_args hr
  have r0 := rAt_wf (j := 0) hw rfl
  have r1 := rAt_wf (j := 1) hw rfl
  have w0 : wfI 1 (rAt ds 0) := wfI_of rfl r0
  have w1 : wfI 1 (rAt ds 1) := wfI_of rfl r1
  have n0 := r0.1
  simp only [trE1, TT.sat_ret, TT.sat_ite, TT.sat_ob, TT.sat_next, TT.sat_stuck, put_i, put_b, put_d, put_fi, put_fb, put_fd, Ob.ok, B.ev, E.ev, X.ev, AL.ev, cmp_t, cmp_f, arEv, V.plain, V2.plain, S.plain, S0.plain, V.val, V2.val, S.val, S0.val, bV, iV, List.all_cons, List.all_nil, Bool.and_true, Bool.and_self, envOf_i, envOf_b, envOf_d, List.map_cons, List.map_nil, true_and, Bool.not_eq_true', Bool.not_eq_false', Bool.not_not, Bool.and_eq_true, and_f, cell_lg, cell_lb, cell_lr, cmpP, val_i, val_b, val_d, aget, Nat.reduceBEq, beq_self_eq_true, Bool.false_eq_true, if_true, if_false, Nat.reduceLT, Nat.reduceSub, Nat.sub_self, Nat.lt_irrefl]
  unfold eqRL
  clear hr hw r0 r1
  generalize e0 : rAt ds 0 = a at *
  generalize e1 : rAt ds 1 = b at *
  refine ⟨fun h => by rw [eqb_no (fun e => h (by rw [e]))], fun hl => ?_⟩
  have hl : a.length = b.length := by omega
  refine TT.sat_loop (fun v => ∃ i : Nat, v.i 0 = i ∧ EqTo a b i) (fun v => a.length - (v.i 0).toNat) ⟨0, by simp [val_i, aget, E.ev], .zero a b⟩ (fun v hv => ?_)
  obtain ⟨i, i0, i1⟩ := hv
  simp only [TT.sat_ret, TT.sat_ite, TT.sat_ob, TT.sat_next, TT.sat_stuck, put_i, put_b, put_d, put_fi, put_fb, put_fd, Ob.ok, B.ev, E.ev, X.ev, AL.ev, cmp_t, cmp_f, arEv, V.plain, V2.plain, S.plain, S0.plain, V.val, V2.val, S.val, S0.val, bV, iV, List.all_cons, List.all_nil, Bool.and_true, Bool.and_self, envOf_i, envOf_b, envOf_d, List.map_cons, List.map_nil, true_and, Bool.not_eq_true', Bool.not_eq_false', Bool.not_not, Bool.and_eq_true, and_f, cell_lg, cell_lb, cell_lr, cmpP, val_i, val_b, val_d, aget, Nat.reduceBEq, beq_self_eq_true, Bool.false_eq_true, if_true, if_false, Nat.reduceLT, Nat.reduceSub, Nat.sub_self, Nat.lt_irrefl, i0, e0, e1]
  refine ⟨fun hc => ?_, fun hc => ?_⟩
  · have ha : i < a.length := by omega
    have hb : i < b.length := by omega
    have ne : ¬ (∀ j, j < 1 → lg a i j = lg b i j) → Value.bool false = Value.bool (rowsEqb a b) := fun h => by rw [eqb_no (fun e => h (fun j _ => by subst e; rfl))]
    rw [wrap_in ((i : Int) + 1) (by omega) (by omega)]
    refine ⟨by omega, by omega, by omega, by omega, fun h => ne (fun e => h (e 0 (by omega))), fun h => ⟨⟨i + 1, rfl, i1.next ha hb (int_row w0 w1 ha hb (fun j hj => ?_))⟩, by omega⟩⟩
    match j, hj with
    | 0, _ => exact Decidable.not_not.mp h
    | j + 1, hj => omega
  · rw [i1.done hl (by omega)]
theorem cE2_ok {ρ : Env} (h : ∀ l, ρ.fb 220 l = eqRL l) : CtOne Tryz.prog ρ 141 cE2 := ctD_ok gE2 (fun _ => rfl) (fun al => by simp only [bV, iV, V.s0, V.val, V2.val, S.val, S0.val, B.ev, h])
theorem cE6_ok {ρ : Env} (h : ∀ l, ρ.fb 220 l = eqRL l) : CtOne Tryz.prog ρ 142 cE6 := ctD_ok gE6 (fun _ => rfl) (fun al => by simp only [bV, iV, V.s0, V.val, V2.val, S.val, S0.val, B.ev, h])
theorem cE1_ok {ρ : Env} (h : ∀ l, ρ.fb 220 l = eqRL l) : CtOne Tryz.prog ρ 89 cE1 := ctD_ok gE1 (fun _ => rfl) (fun al => by simp only [bV, iV, V.s0, V.val, V2.val, S.val, S0.val, B.ev, h])
theorem s220 {ρ : Env} (h : ρ.has Q5) : ∀ l, ρ.fb 220 l = eqRL l := fun l => by rw [h.2.1]; exact Q5b220 default [] l
theorem s147 {ρ : Env} (h : ρ.has Q5) : ∀ l, ρ.fb 147 l = sameL l := fun l => by rw [h.2.1]; exact Q5b147 default [] l
theorem s180 {ρ : Env} (h : ρ.has Q5) : ∀ l, ρ.fb 180 l = opqL l := fun l => by rw [h.2.1]; exact Q5b180 default [] l
theorem s190 {ρ : Env} (h : ρ.has Q5) : ∀ l, ρ.fb 190 l = nsL l := fun l => by rw [h.2.1]; exact Q5b190 default [] l
theorem s221 {ρ : Env} (h : ρ.has Q5) : ∀ l, ρ.fb 221 l = leL l := fun l => by rw [h.2.1]; exact Q5b221 default [] l
theorem s222 {ρ : Env} (h : ρ.has Q5) : ∀ l, ρ.fb 222 l = fewL l := fun l => by rw [h.2.1]; exact Q5b222 default [] l
theorem si220 {ρ : Env} (h : ρ.has Q5) : ∀ l, ρ.fi 220 l = lenL l := fun l => by rw [h.1]; exact Q5i220 default [] l
theorem gE7 : Gives Tryz.prog 129 [feat, feat] (fun ds => .bool (sameL ds)) := by
  refine GivesIf.all (fn_gives Q5 (by kernel_rfl) (fun ρ h => .cons (cE2_ok (s220 h)) <| .cons (cE6_ok (s220 h)) .nil) (by kernel_rfl) trE7_is trE7_low (by decide) (fun W vals ds hr _ => ?_))
  have hw := rep_args hr
  have w5 : wfI 2 (rAt ds 5) := wfI_of rfl (rAt_wf (j := 5) hw rfl)
  have w14 : wfI 2 (rAt ds 14) := wfI_of rfl (rAt_wf (j := 14) hw rfl)
  have w8 : wfI 6 (rAt ds 8) := wfI_of rfl (rAt_wf (j := 8) hw rfl)
  have w17 : wfI 6 (rAt ds 17) := wfI_of rfl (rAt_wf (j := 17) hw rfl)
  have q2 : rowsEqb (rAt ds 5) (rAt ds 14) = eqX 2 (rAt ds 5) (rAt ds 14) := by rw [Bool.eq_iff_iff, eqb_iff, eqX_eq w5 w14]
  have q6 : rowsEqb (rAt ds 8) (rAt ds 17) = eqX 6 (rAt ds 8) (rAt ds 17) := by rw [Bool.eq_iff_iff, eqb_iff, eqX_eq w8 w17]
  simp only [trE7, TT.sat_ret, TT.sat_ite, TT.sat_ob, TT.sat_next, TT.sat_stuck, put_i, put_b, put_d, put_fi, put_fb, put_fd, Ob.ok, B.ev, E.ev, X.ev, AL.ev, cmp_t, cmp_f, arEv, V.plain, V2.plain, S.plain, S0.plain, V.val, V2.val, S.val, S0.val, bV, iV, List.all_cons, List.all_nil, Bool.and_true, Bool.and_self, envOf_i, envOf_b, envOf_d, List.map_cons, List.map_nil, true_and, Bool.not_eq_true', Bool.not_eq_false', Bool.not_not, Bool.and_eq_true, and_f, cell_lg, cell_lb, cell_lr, cmpP, val_i, val_b, val_d, aget, Nat.reduceBEq, beq_self_eq_true, Bool.false_eq_true, if_true, if_false, Nat.reduceLT, Nat.reduceSub, Nat.sub_self, Nat.lt_irrefl, Q5b220, eqRL_two, q2, q6]
  have N : ¬ ((iAt ds 0 = iAt ds 9 ∧ iAt ds 1 = iAt ds 10 ∧ iAt ds 2 = iAt ds 11 ∧ iAt ds 3 = iAt ds 12) ∧ iAt ds 4 = iAt ds 13 ∧ iAt ds 6 = iAt ds 15 ∧ iAt ds 7 = iAt ds 16) → Value.bool false = Value.bool (sameL ds) := fun h => by rw [sameL, sameB, decide_eq_false h, Bool.false_and]
  refine ⟨fun h => N (by omega), fun h0 => ⟨fun h => N (by omega), fun h1 => ⟨fun h => N (by omega), fun h2 => ⟨fun h => N (by omega), fun h3 => ⟨fun h => N (by omega), fun h4 => ⟨fun h => N (by omega), fun h5 => ?_⟩⟩⟩⟩⟩⟩
  have hS : sameL ds = (eqX 2 (rAt ds 5) (rAt ds 14) && eqX 6 (rAt ds 8) (rAt ds 17)) := by
    rw [sameL, sameB, decide_eq_true (by omega), Bool.true_and]
  rw [hS]
  exact ⟨fun h => by rw [h, Bool.true_and], fun h => by rw [h, Bool.false_and]⟩
theorem cE7_ok {ρ : Env} (h : ∀ l, ρ.fb 147 l = sameL l) : CtOne Tryz.prog ρ 129 cE7 := ctD_ok gE7 (fun _ => rfl) (fun al => by simp only [bV, iV, V.s0, V.val, V2.val, S.val, S0.val, B.ev, h])
theorem gEo : Gives Tryz.prog 116 [opS, opS] (fun ds => .bool (opqL ds)) := by
  refine GivesIf.all (fn_gives Q5 (by kernel_rfl) (fun ρ h => .cons (cE7_ok (s147 h)) .nil) (by kernel_rfl) trEo_is trEo_low (by decide) (fun W vals ds hr _ => ?_))
  simp only [trEo, TT.sat_ret, TT.sat_ite, TT.sat_ob, TT.sat_next, TT.sat_stuck, put_i, put_b, put_d, put_fi, put_fb, put_fd, Ob.ok, B.ev, E.ev, X.ev, AL.ev, cmp_t, cmp_f, arEv, V.plain, V2.plain, S.plain, S0.plain, V.val, V2.val, S.val, S0.val, bV, iV, List.all_cons, List.all_nil, Bool.and_true, Bool.and_self, envOf_i, envOf_b, envOf_d, List.map_cons, List.map_nil, true_and, Bool.not_eq_true', Bool.not_eq_false', Bool.not_not, Bool.and_eq_true, and_f, cell_lg, cell_lb, cell_lr, cmpP, val_i, val_b, val_d, aget, Nat.reduceBEq, beq_self_eq_true, Bool.false_eq_true, if_true, if_false, Nat.reduceLT, Nat.reduceSub, Nat.sub_self, Nat.lt_irrefl, Q5b147]
  have F : ∀ b, opqL ds = b → Value.bool b = Value.bool (opqL ds) := fun b h => by rw [h]
  have N : ¬ (iAt ds 0 = iAt ds 16 ∧ iAt ds 1 = iAt ds 17 ∧ (iAt ds 11 = iAt ds 27 ∧ iAt ds 12 = iAt ds 28) ∧ iAt ds 13 = iAt ds 29 ∧ iAt ds 14 = iAt ds 30 ∧ iAt ds 15 = iAt ds 31) → Value.bool false = Value.bool (opqL ds) := fun h => F _ (by rw [opqL, decide_eq_false h, Bool.false_and])
  refine ⟨fun h1 => ⟨fun h2 => ⟨fun h3 => ⟨fun h4 => ⟨fun h5 => ⟨fun h6 => ?_, fun h => N (by omega)⟩, fun h => N (by omega)⟩, fun h => N (by omega)⟩, fun h => F _ (by rw [opqL, h, Bool.and_false])⟩, fun h => N (by omega)⟩, fun h => N (by omega)⟩
  by_cases h7 : iAt ds 15 = iAt ds 31
  · rw [opqL, decide_eq_true (by omega), h3, eql_dec, decide_eq_true h7]; rfl
  · rw [eql_dec, decide_eq_false h7]; exact N (by omega)
theorem cEo_ok {ρ : Env} (h : ∀ l, ρ.fb 180 l = opqL l) : CtOne Tryz.prog ρ 116 cEo := ctD_ok gEo (fun _ => rfl) (fun al => by simp only [bV, iV, V.s0, V.val, V2.val, S.val, S0.val, B.ev, h])
theorem gEO : Gives Tryz.prog 90 [ops16, ops16] (fun ds => .bool (eqRL ds)) := by
  refine GivesIf.all (fn_gives Q5 (by kernel_rfl) (fun ρ h => .cons (cEo_ok (s180 h)) .nil) (by kernel_rfl) trEO_is trEO_low (by decide) (fun W vals ds hr _ => ?_))
  have hw := rep_args hr
  have r0 : wfR opK (rAt ds 0) := rAt_wf (j := 0) hw rfl
  have r1 : wfR opK (rAt ds 1) := rAt_wf (j := 1) hw rfl
  have n0 := r0.1
  simp only [trEO, TT.sat_ret, TT.sat_ite, TT.sat_ob, TT.sat_next, TT.sat_stuck, put_i, put_b, put_d, put_fi, put_fb, put_fd, Ob.ok, B.ev, E.ev, X.ev, AL.ev, cmp_t, cmp_f, arEv, V.plain, V2.plain, S.plain, S0.plain, V.val, V2.val, S.val, S0.val, bV, iV, List.all_cons, List.all_nil, Bool.and_true, Bool.and_self, envOf_i, envOf_b, envOf_d, List.map_cons, List.map_nil, true_and, Bool.not_eq_true', Bool.not_eq_false', Bool.not_not, Bool.and_eq_true, and_f, cell_lg, cell_lb, cell_lr, cmpP, val_i, val_b, val_d, aget, Nat.reduceBEq, beq_self_eq_true, Bool.false_eq_true, if_true, if_false, Nat.reduceLT, Nat.reduceSub, Nat.sub_self, Nat.lt_irrefl]
  unfold eqRL
  clear hr hw
  generalize e0 : rAt ds 0 = a at *
  generalize e1 : rAt ds 1 = b at *
  refine ⟨fun h => by rw [eqb_no (fun e => h (by rw [e]))], fun hl => ?_⟩
  have hl : a.length = b.length := by omega
  refine TT.sat_loop (fun v => ∃ i : Nat, v.i 0 = i ∧ EqTo a b i) (fun v => a.length - (v.i 0).toNat) ⟨0, by simp [val_i, aget, E.ev], .zero a b⟩ (fun v hv => ?_)
  obtain ⟨i, i0, i1⟩ := hv
  simp only [TT.sat_ret, TT.sat_ite, TT.sat_ob, TT.sat_next, TT.sat_stuck, put_i, put_b, put_d, put_fi, put_fb, put_fd, Ob.ok, B.ev, E.ev, X.ev, AL.ev, cmp_t, cmp_f, arEv, V.plain, V2.plain, S.plain, S0.plain, V.val, V2.val, S.val, S0.val, bV, iV, List.all_cons, List.all_nil, Bool.and_true, Bool.and_self, envOf_i, envOf_b, envOf_d, List.map_cons, List.map_nil, true_and, Bool.not_eq_true', Bool.not_eq_false', Bool.not_not, Bool.and_eq_true, and_f, cell_lg, cell_lb, cell_lr, cmpP, val_i, val_b, val_d, aget, Nat.reduceBEq, beq_self_eq_true, Bool.false_eq_true, if_true, if_false, Nat.reduceLT, Nat.reduceSub, Nat.sub_self, Nat.lt_irrefl, i0, e0, e1, Q5b180]
  refine ⟨fun hc => ?_, fun hc => ?_⟩
  · have ha : i < a.length := by omega
    have hb : i < b.length := by omega
    have key := opq_eq (op_row (r0.2 _ (List.getElem_mem ha))) (op_row (r1.2 _ (List.getElem_mem hb)))
    simp only [lg_cI ha, lg_cI hb, lb_cB ha, lb_cB hb, lr_cR ha, lr_cR hb]
    rw [wrap_in ((i : Int) + 1) (by omega) (by omega)]
    refine ⟨by omega, by omega, by omega, by omega, fun h => ?_, fun h => ⟨⟨i + 1, rfl, i1.next ha hb (key.1 h)⟩, by omega⟩⟩
    rw [eqb_no (fun e => ?_)]
    have h' : opqL (opArgs a[i] ++ opArgs b[i]) = false := h
    rw [key.2 (List.getElem_of_eq e _)] at h'
    cases h'
  · rw [i1.done hl (by omega)]
theorem cEO_ok {ρ : Env} (h : ∀ l, ρ.fb 220 l = eqRL l) : CtOne Tryz.prog ρ 90 cEO := ctD_ok gEO (fun _ => rfl) (fun al => by simp only [bV, iV, V.s0, V.val, V2.val, S.val, S0.val, B.ev, h])
theorem gEn : Gives Tryz.prog 56 [notS, notS] (fun ds => .bool (nsL ds)) := by
  refine GivesIf.all (fn_gives Q5 (by kernel_rfl) (fun ρ h => .cons (cE1_ok (s220 h)) <| .cons (cEO_ok (s220 h)) .nil) (by kernel_rfl) trEn_is trEn_low (by decide) (fun W vals ds hr _ => ?_))
  have hw := rep_args hr
  have w6 : wfR partK (rAt ds 6) := rAt_wf hw rfl
  have w13 : wfR partK (rAt ds 13) := rAt_wf hw rfl
  have n0 := w6.1
  simp only [trEn, TT.sat_ret, TT.sat_ite, TT.sat_ob, TT.sat_next, TT.sat_stuck, put_i, put_b, put_d, put_fi, put_fb, put_fd, Ob.ok, B.ev, E.ev, X.ev, AL.ev, cmp_t, cmp_f, arEv, V.plain, V2.plain, S.plain, S0.plain, V.val, V2.val, S.val, S0.val, bV, iV, List.all_cons, List.all_nil, Bool.and_true, Bool.and_self, envOf_i, envOf_b, envOf_d, List.map_cons, List.map_nil, true_and, Bool.not_eq_true', Bool.not_eq_false', Bool.not_not, Bool.and_eq_true, and_f, cell_lg, cell_lb, cell_lr, cmpP, val_i, val_b, val_d, aget, Nat.reduceBEq, beq_self_eq_true, Bool.false_eq_true, if_true, if_false, Nat.reduceLT, Nat.reduceSub, Nat.sub_self, Nat.lt_irrefl]
  have F : ∀ b, nsL ds = b → Value.bool b = Value.bool (nsL ds) := fun b h => by rw [h]
  have N : ¬ (iAt ds 0 = iAt ds 7 ∧ iAt ds 1 = iAt ds 8 ∧ iAt ds 2 = iAt ds 9 ∧ iAt ds 3 = iAt ds 10 ∧ iAt ds 4 = iAt ds 11 ∧ iAt ds 5 = iAt ds 12) → Value.bool false = Value.bool (nsL ds) := fun h => F _ (by rw [nsL, decide_eq_false h, Bool.false_and])
  refine ⟨fun h => N (by omega), fun h0 => ⟨fun h => N (by omega), fun h1 => ⟨fun h => N (by omega), fun h2 => ⟨fun h => N (by omega), fun h3 => ⟨fun h => N (by omega), fun h4 => ⟨fun h => N (by omega), fun h5 => ?_⟩⟩⟩⟩⟩⟩
  have hS : nsL ds = rowsEqb (rAt ds 6) (rAt ds 13) := by rw [nsL, decide_eq_true (by omega), Bool.true_and]
  rw [hS]
  clear N F hS hr hw
  generalize e0 : rAt ds 6 = a at *
  generalize e1 : rAt ds 13 = b at *
  refine ⟨fun h => by rw [eqb_no (fun e => h (by rw [e]))], fun hl => ?_⟩
  have hl : a.length = b.length := by omega
  refine TT.sat_loop (fun v => ∃ i : Nat, v.i 0 = i ∧ EqTo a b i) (fun v => a.length - (v.i 0).toNat) ⟨0, by simp [val_i, aget, E.ev], .zero a b⟩ (fun v hv => ?_)
  obtain ⟨i, i0, i1⟩ := hv
  simp only [TT.sat_ret, TT.sat_ite, TT.sat_ob, TT.sat_next, TT.sat_stuck, put_i, put_b, put_d, put_fi, put_fb, put_fd, Ob.ok, B.ev, E.ev, X.ev, AL.ev, cmp_t, cmp_f, arEv, V.plain, V2.plain, S.plain, S0.plain, V.val, V2.val, S.val, S0.val, bV, iV, List.all_cons, List.all_nil, Bool.and_true, Bool.and_self, envOf_i, envOf_b, envOf_d, List.map_cons, List.map_nil, true_and, Bool.not_eq_true', Bool.not_eq_false', Bool.not_not, Bool.and_eq_true, and_f, cell_lg, cell_lb, cell_lr, cmpP, val_i, val_b, val_d, aget, Nat.reduceBEq, beq_self_eq_true, Bool.false_eq_true, if_true, if_false, Nat.reduceLT, Nat.reduceSub, Nat.sub_self, Nat.lt_irrefl, i0, e0, e1, Q5b220, eqRL_two]
  refine ⟨fun hc => ?_, fun hc => ?_⟩
  · have ha : i < a.length := by omega
    have hb : i < b.length := by omega
    obtain ⟨pa, _, _⟩ := part_row (w6.2 _ (List.getElem_mem ha))
    obtain ⟨pb, _, _⟩ := part_row (w13.2 _ (List.getElem_mem hb))
    have no : ∀ {p q : Rows}, a[i] ≠ b[i] → Value.bool false = Value.bool (rowsEqb a b) := fun h => by rw [eqb_no (fun e => h (List.getElem_of_eq e _))]
    simp only [lg_cI ha, lg_cI hb, lr_cR ha, lr_cR hb]
    rw [wrap_in ((i : Int) + 1) (by omega) (by omega)]
    refine ⟨by omega, by omega, by omega, by omega, fun h => no (p := []) (q := []) (fun e => h (by rw [e])), fun c0 => ⟨fun h => no (p := []) (q := []) (fun e => ?_), fun c1 => ⟨fun h => no (p := []) (q := []) (fun e => ?_), fun c2 => ⟨⟨i + 1, rfl, i1.next ha hb ?_⟩, by omega⟩⟩⟩⟩
    · rw [e, rowsEqb_self] at h; cases h
    · rw [e, rowsEqb_self] at h; cases h
    · have c0 : cI a[i] 0 = cI b[i] 0 := by omega
      rw [pa, pb, c0, rowsEqb_eq _ _ c1, rowsEqb_eq _ _ c2]
  · rw [i1.done hl (by omega)]
theorem cEn_ok {ρ : Env} (h : ∀ l, ρ.fb 190 l = nsL l) : CtOne Tryz.prog ρ 56 cEn := ctD_ok gEn (fun _ => rfl) (fun al => by simp only [bV, iV, V.s0, V.val, V2.val, S.val, S0.val, B.ev, h])
theorem gEl : Gives Tryz.prog 26 [letS, letS] (fun ds => .bool (leL ds)) := by
  refine GivesIf.all (fn_gives Q5 (by kernel_rfl) (fun ρ h => .cons (cEn_ok (s190 h)) .nil) (by kernel_rfl) trEl_is trEl_low (by decide) (fun W vals ds hr _ => ?_))
  simp only [trEl, TT.sat_ret, TT.sat_ite, TT.sat_ob, TT.sat_next, TT.sat_stuck, put_i, put_b, put_d, put_fi, put_fb, put_fd, Ob.ok, B.ev, E.ev, X.ev, AL.ev, cmp_t, cmp_f, arEv, V.plain, V2.plain, S.plain, S0.plain, V.val, V2.val, S.val, S0.val, bV, iV, List.all_cons, List.all_nil, Bool.and_true, Bool.and_self, envOf_i, envOf_b, envOf_d, List.map_cons, List.map_nil, true_and, Bool.not_eq_true', Bool.not_eq_false', Bool.not_not, Bool.and_eq_true, and_f, cell_lg, cell_lb, cell_lr, cmpP, val_i, val_b, val_d, aget, Nat.reduceBEq, beq_self_eq_true, Bool.false_eq_true, if_true, if_false, Nat.reduceLT, Nat.reduceSub, Nat.sub_self, Nat.lt_irrefl, Q5b190]
  have e : leL ds = (nsL [.i (iAt ds 4), .i (iAt ds 5), .i (iAt ds 6), .i (iAt ds 7), .i (iAt ds 8), .i (iAt ds 9), .l (rAt ds 10), .i (iAt ds 15), .i (iAt ds 16), .i (iAt ds 17), .i (iAt ds 18), .i (iAt ds 19), .i (iAt ds 20), .l (rAt ds 21)] && (decide (iAt ds 0 = iAt ds 11 ∧ iAt ds 1 = iAt ds 12 ∧ iAt ds 2 = iAt ds 13) && (bAt ds 3 == bAt ds 14))) := rfl
  have N : ¬ (iAt ds 0 = iAt ds 11 ∧ iAt ds 1 = iAt ds 12 ∧ iAt ds 2 = iAt ds 13) → Value.bool false = Value.bool (leL ds) := fun h => by rw [e, decide_eq_false h, Bool.false_and, Bool.and_false]
  refine ⟨fun h => ⟨fun h0 => ⟨fun h1 => ⟨fun h2 => ?_, fun h => N (by omega)⟩, fun h => N (by omega)⟩, fun h => N (by omega)⟩, fun h => by rw [e, h, Bool.false_and]⟩
  rw [e, h, decide_eq_true (by omega), Bool.true_and, Bool.true_and]
theorem cEl_ok {ρ : Env} (h : ∀ l, ρ.fb 221 l = leL l) : CtOne Tryz.prog ρ 26 cEl := ctD_ok gEl (fun _ => rfl) (fun al => by simp only [bV, iV, V.s0, V.val, V2.val, S.val, S0.val, B.ev, h])
theorem gEN : Gives Tryz.prog 25 [nots, nots] (fun ds => .bool (eqRL ds)) := by
  refine GivesIf.all (fn_gives Q5 (by kernel_rfl) (fun ρ h => .cons (cEn_ok (s190 h)) .nil) (by kernel_rfl) trEN_is trEN_low (by decide) (fun W vals ds hr _ => ?_))
  have hw := rep_args hr
  have r0 : wfR notK (rAt ds 0) := rAt_wf (j := 0) hw rfl
  have r1 : wfR notK (rAt ds 1) := rAt_wf (j := 1) hw rfl
  have n0 := r0.1
  simp only [trEN, TT.sat_ret, TT.sat_ite, TT.sat_ob, TT.sat_next, TT.sat_stuck, put_i, put_b, put_d, put_fi, put_fb, put_fd, Ob.ok, B.ev, E.ev, X.ev, AL.ev, cmp_t, cmp_f, arEv, V.plain, V2.plain, S.plain, S0.plain, V.val, V2.val, S.val, S0.val, bV, iV, List.all_cons, List.all_nil, Bool.and_true, Bool.and_self, envOf_i, envOf_b, envOf_d, List.map_cons, List.map_nil, true_and, Bool.not_eq_true', Bool.not_eq_false', Bool.not_not, Bool.and_eq_true, and_f, cell_lg, cell_lb, cell_lr, cmpP, val_i, val_b, val_d, aget, Nat.reduceBEq, beq_self_eq_true, Bool.false_eq_true, if_true, if_false, Nat.reduceLT, Nat.reduceSub, Nat.sub_self, Nat.lt_irrefl]
  unfold eqRL
  clear hr hw
  generalize e0 : rAt ds 0 = a at *
  generalize e1 : rAt ds 1 = b at *
  refine ⟨fun h => by rw [eqb_no (fun e => h (by rw [e]))], fun hl => ?_⟩
  have hl : a.length = b.length := by omega
  refine TT.sat_loop (fun v => ∃ i : Nat, v.i 0 = i ∧ EqTo a b i) (fun v => a.length - (v.i 0).toNat) ⟨0, by simp [val_i, aget, E.ev], .zero a b⟩ (fun v hv => ?_)
  obtain ⟨i, i0, i1⟩ := hv
  simp only [TT.sat_ret, TT.sat_ite, TT.sat_ob, TT.sat_next, TT.sat_stuck, put_i, put_b, put_d, put_fi, put_fb, put_fd, Ob.ok, B.ev, E.ev, X.ev, AL.ev, cmp_t, cmp_f, arEv, V.plain, V2.plain, S.plain, S0.plain, V.val, V2.val, S.val, S0.val, bV, iV, List.all_cons, List.all_nil, Bool.and_true, Bool.and_self, envOf_i, envOf_b, envOf_d, List.map_cons, List.map_nil, true_and, Bool.not_eq_true', Bool.not_eq_false', Bool.not_not, Bool.and_eq_true, and_f, cell_lg, cell_lb, cell_lr, cmpP, val_i, val_b, val_d, aget, Nat.reduceBEq, beq_self_eq_true, Bool.false_eq_true, if_true, if_false, Nat.reduceLT, Nat.reduceSub, Nat.sub_self, Nat.lt_irrefl, i0, e0, e1, Q5b190]
  refine ⟨fun hc => ?_, fun hc => ?_⟩
  · have ha : i < a.length := by omega
    have hb : i < b.length := by omega
    have key := ns_eq (not_row (r0.2 _ (List.getElem_mem ha))) (not_row (r1.2 _ (List.getElem_mem hb)))
    simp only [lg_cI ha, lg_cI hb, lb_cB ha, lb_cB hb, lr_cR ha, lr_cR hb]
    rw [wrap_in ((i : Int) + 1) (by omega) (by omega)]
    refine ⟨by omega, by omega, by omega, by omega, fun h => ?_, fun h => ⟨⟨i + 1, rfl, i1.next ha hb (key.1 h)⟩, by omega⟩⟩
    rw [eqb_no (fun e => ?_)]
    have h' : nsL (notArgs a[i] 0 ++ notArgs b[i] 0) = false := h
    rw [key.2 (List.getElem_of_eq e _)] at h'
    cases h'
  · rw [i1.done hl (by omega)]
theorem gEL : Gives Tryz.prog 19 [lets, lets] (fun ds => .bool (eqRL ds)) := by
  refine GivesIf.all (fn_gives Q5 (by kernel_rfl) (fun ρ h => .cons (cEl_ok (s221 h)) .nil) (by kernel_rfl) trEL_is trEL_low (by decide) (fun W vals ds hr _ => ?_))
  have hw := rep_args hr
  have r0 : wfR letK (rAt ds 0) := rAt_wf (j := 0) hw rfl
  have r1 : wfR letK (rAt ds 1) := rAt_wf (j := 1) hw rfl
  have n0 := r0.1
  simp only [trEL, TT.sat_ret, TT.sat_ite, TT.sat_ob, TT.sat_next, TT.sat_stuck, put_i, put_b, put_d, put_fi, put_fb, put_fd, Ob.ok, B.ev, E.ev, X.ev, AL.ev, cmp_t, cmp_f, arEv, V.plain, V2.plain, S.plain, S0.plain, V.val, V2.val, S.val, S0.val, bV, iV, List.all_cons, List.all_nil, Bool.and_true, Bool.and_self, envOf_i, envOf_b, envOf_d, List.map_cons, List.map_nil, true_and, Bool.not_eq_true', Bool.not_eq_false', Bool.not_not, Bool.and_eq_true, and_f, cell_lg, cell_lb, cell_lr, cmpP, val_i, val_b, val_d, aget, Nat.reduceBEq, beq_self_eq_true, Bool.false_eq_true, if_true, if_false, Nat.reduceLT, Nat.reduceSub, Nat.sub_self, Nat.lt_irrefl]
  unfold eqRL
  clear hr hw
  generalize e0 : rAt ds 0 = a at *
  generalize e1 : rAt ds 1 = b at *
  refine ⟨fun h => by rw [eqb_no (fun e => h (by rw [e]))], fun hl => ?_⟩
  have hl : a.length = b.length := by omega
  refine TT.sat_loop (fun v => ∃ i : Nat, v.i 0 = i ∧ EqTo a b i) (fun v => a.length - (v.i 0).toNat) ⟨0, by simp [val_i, aget, E.ev], .zero a b⟩ (fun v hv => ?_)
  obtain ⟨i, i0, i1⟩ := hv
  simp only [TT.sat_ret, TT.sat_ite, TT.sat_ob, TT.sat_next, TT.sat_stuck, put_i, put_b, put_d, put_fi, put_fb, put_fd, Ob.ok, B.ev, E.ev, X.ev, AL.ev, cmp_t, cmp_f, arEv, V.plain, V2.plain, S.plain, S0.plain, V.val, V2.val, S.val, S0.val, bV, iV, List.all_cons, List.all_nil, Bool.and_true, Bool.and_self, envOf_i, envOf_b, envOf_d, List.map_cons, List.map_nil, true_and, Bool.not_eq_true', Bool.not_eq_false', Bool.not_not, Bool.and_eq_true, and_f, cell_lg, cell_lb, cell_lr, cmpP, val_i, val_b, val_d, aget, Nat.reduceBEq, beq_self_eq_true, Bool.false_eq_true, if_true, if_false, Nat.reduceLT, Nat.reduceSub, Nat.sub_self, Nat.lt_irrefl, i0, e0, e1, Q5b221]
  refine ⟨fun hc => ?_, fun hc => ?_⟩
  · have ha : i < a.length := by omega
    have hb : i < b.length := by omega
    have key := le_eq (let_row (r0.2 _ (List.getElem_mem ha))) (let_row (r1.2 _ (List.getElem_mem hb)))
    simp only [lg_cI ha, lg_cI hb, lb_cB ha, lb_cB hb, lr_cR ha, lr_cR hb]
    rw [wrap_in ((i : Int) + 1) (by omega) (by omega)]
    refine ⟨by omega, by omega, by omega, by omega, fun h => ?_, fun h => ⟨⟨i + 1, rfl, i1.next ha hb (key.1 h)⟩, by omega⟩⟩
    rw [eqb_no (fun e => ?_)]
    have h' : leL (letArgs a[i] ++ letArgs b[i]) = false := h
    rw [key.2 (List.getElem_of_eq e _)] at h'
    cases h'
  · rw [i1.done hl (by omega)]
theorem cEL_ok {ρ : Env} (h : ∀ l, ρ.fb 220 l = eqRL l) : CtOne Tryz.prog ρ 19 cEL := ctD_ok gEL (fun _ => rfl) (fun al => by simp only [bV, iV, V.s0, V.val, V2.val, S.val, S0.val, B.ev, h])
theorem gEB : Gives Tryz.prog 16 [boxS, boxS] (fun ds => .bool (bxL ds)) := by
  refine GivesIf.all (fn_gives Q5 (by kernel_rfl) (fun ρ h => .cons (cEL_ok (s220 h)) .nil) (by kernel_rfl) trEB_is trEB_low (by decide) (fun W vals ds hr _ => ?_))
  simp only [trEB, TT.sat_ret, TT.sat_ite, TT.sat_ob, TT.sat_next, TT.sat_stuck, put_i, put_b, put_d, put_fi, put_fb, put_fd, Ob.ok, B.ev, E.ev, X.ev, AL.ev, cmp_t, cmp_f, arEv, V.plain, V2.plain, S.plain, S0.plain, V.val, V2.val, S.val, S0.val, bV, iV, List.all_cons, List.all_nil, Bool.and_true, Bool.and_self, envOf_i, envOf_b, envOf_d, List.map_cons, List.map_nil, true_and, Bool.not_eq_true', Bool.not_eq_false', Bool.not_not, Bool.and_eq_true, and_f, cell_lg, cell_lb, cell_lr, cmpP, val_i, val_b, val_d, aget, Nat.reduceBEq, beq_self_eq_true, Bool.false_eq_true, if_true, if_false, Nat.reduceLT, Nat.reduceSub, Nat.sub_self, Nat.lt_irrefl, Q5b220, eqRL_two]
  unfold bxL
  exact ⟨fun h => by rw [h, Bool.true_and, eql_dec], fun h => by rw [h, Bool.false_and]⟩
theorem gEI : Gives Tryz.prog 24 [boxS, boxS] (fun ds => .bool (bxL ds)) := by
  refine GivesIf.all (fn_gives Q5 (by kernel_rfl) (fun ρ h => .cons (cEL_ok (s220 h)) .nil) (by kernel_rfl) trEI_is trEI_low (by decide) (fun W vals ds hr _ => ?_))
  simp only [trEI, TT.sat_ret, TT.sat_ite, TT.sat_ob, TT.sat_next, TT.sat_stuck, put_i, put_b, put_d, put_fi, put_fb, put_fd, Ob.ok, B.ev, E.ev, X.ev, AL.ev, cmp_t, cmp_f, arEv, V.plain, V2.plain, S.plain, S0.plain, V.val, V2.val, S.val, S0.val, bV, iV, List.all_cons, List.all_nil, Bool.and_true, Bool.and_self, envOf_i, envOf_b, envOf_d, List.map_cons, List.map_nil, true_and, Bool.not_eq_true', Bool.not_eq_false', Bool.not_not, Bool.and_eq_true, and_f, cell_lg, cell_lb, cell_lr, cmpP, val_i, val_b, val_d, aget, Nat.reduceBEq, beq_self_eq_true, Bool.false_eq_true, if_true, if_false, Nat.reduceLT, Nat.reduceSub, Nat.sub_self, Nat.lt_irrefl, Q5b220, eqRL_two]
  unfold bxL
  exact ⟨fun h => by rw [h, Bool.true_and, eql_dec], fun h => by rw [h, Bool.false_and]⟩
theorem gLen : Gives Tryz.prog 37 [notS] (fun ds => .int .i64 (lenL ds)) := by
  refine GivesIf.all (fn_gives Q5 (by kernel_rfl) (fun ρ h => CtOk.nil) (by kernel_rfl) trLen_is trLen_low (by decide) (fun W vals ds hr _ => ?_))
  have hw := rep_args hr
  have w6 : wfR partK (rAt ds 6) := rAt_wf hw rfl
  have n0 := w6.1
  simp only [trLen, TT.sat_ret, TT.sat_ite, TT.sat_ob, TT.sat_next, TT.sat_stuck, put_i, put_b, put_d, put_fi, put_fb, put_fd, Ob.ok, B.ev, E.ev, X.ev, AL.ev, cmp_t, cmp_f, arEv, V.plain, V2.plain, S.plain, S0.plain, V.val, V2.val, S.val, S0.val, bV, iV, List.all_cons, List.all_nil, Bool.and_true, Bool.and_self, envOf_i, envOf_b, envOf_d, List.map_cons, List.map_nil, true_and, Bool.not_eq_true', Bool.not_eq_false', Bool.not_not, Bool.and_eq_true, and_f, cell_lg, cell_lb, cell_lr, cmpP, val_i, val_b, val_d, aget, Nat.reduceBEq, beq_self_eq_true, Bool.false_eq_true, if_true, if_false, Nat.reduceLT, Nat.reduceSub, Nat.sub_self, Nat.lt_irrefl]
  unfold lenL
  clear hr hw
  generalize e0 : rAt ds 6 = a at *
  refine TT.sat_loop (fun v => ∃ i : Nat, v.i 1 = i ∧ i ≤ a.length ∧ lenP a (a.length - i) i (v.i 0) = lenP a a.length 0 (a.length : Nat)) (fun v => a.length - (v.i 1).toNat) ⟨0, by simp [val_i, aget, E.ev], by omega, by simp [val_i, aget, E.ev, X.ev, envOf_d, e0]⟩ (fun v hv => ?_)
  obtain ⟨i, i0, i1, i2⟩ := hv
  simp only [TT.sat_ret, TT.sat_ite, TT.sat_ob, TT.sat_next, TT.sat_stuck, put_i, put_b, put_d, put_fi, put_fb, put_fd, Ob.ok, B.ev, E.ev, X.ev, AL.ev, cmp_t, cmp_f, arEv, V.plain, V2.plain, S.plain, S0.plain, V.val, V2.val, S.val, S0.val, bV, iV, List.all_cons, List.all_nil, Bool.and_true, Bool.and_self, envOf_i, envOf_b, envOf_d, List.map_cons, List.map_nil, true_and, Bool.not_eq_true', Bool.not_eq_false', Bool.not_not, Bool.and_eq_true, and_f, cell_lg, cell_lb, cell_lr, cmpP, val_i, val_b, val_d, aget, Nat.reduceBEq, beq_self_eq_true, Bool.false_eq_true, if_true, if_false, Nat.reduceLT, Nat.reduceSub, Nat.sub_self, Nat.lt_irrefl, i0, e0]
  refine ⟨fun hc => ?_, fun hc => ?_⟩
  · have ha : i < a.length := by omega
    obtain ⟨_, _, w2⟩ := part_row (w6.2 _ (List.getElem_mem ha))
    have n2 := w2.1
    have hn : a.length - i = (a.length - (i + 1)) + 1 := by omega
    rw [hn, lenP] at i2
    have hm : a.length - (((i + 1 : Nat) : Int)).toNat < a.length - (i : Int).toNat := by omega
    have hw1 : IntKind.i64.wrap ((i : Int) + 1) = ((i + 1 : Nat) : Int) := by rw [wrap_in _ (by omega) (by omega)]; rfl
    rw [← lr_cR ha] at n2
    refine ⟨by omega, by omega, ?_⟩
    generalize hs0 : IntKind.i64.wrap (IntKind.i64.wrap (v.i 0 + ((lr a i 1).length : Nat)) + ((lr a i 2).length : Nat)) = s0 at i2
    generalize eo : lr a i 2 = r at *
    refine TT.sat_loop (fun u => ∃ k : Nat, u.i 1 = k ∧ k ≤ r.length ∧ lenO r (r.length - k) k (u.i 0) = lenO r r.length 0 s0) (fun u => r.length - (u.i 1).toNat) ⟨0, by simp [val_i, aget, E.ev], by omega, ?_⟩ (fun u hu => ?_)
    · rw [← hs0]
      simp only [TT.sat_ret, TT.sat_ite, TT.sat_ob, TT.sat_next, TT.sat_stuck, put_i, put_b, put_d, put_fi, put_fb, put_fd, Ob.ok, B.ev, E.ev, X.ev, AL.ev, cmp_t, cmp_f, arEv, V.plain, V2.plain, S.plain, S0.plain, V.val, V2.val, S.val, S0.val, bV, iV, List.all_cons, List.all_nil, Bool.and_true, Bool.and_self, envOf_i, envOf_b, envOf_d, List.map_cons, List.map_nil, true_and, Bool.not_eq_true', Bool.not_eq_false', Bool.not_not, Bool.and_eq_true, and_f, cell_lg, cell_lb, cell_lr, cmpP, val_i, val_b, val_d, aget, Nat.reduceBEq, beq_self_eq_true, Bool.false_eq_true, if_true, if_false, Nat.reduceLT, Nat.reduceSub, Nat.sub_self, Nat.lt_irrefl, i0, e0, eo, Nat.sub_zero]
    obtain ⟨k, k0, k1, k2⟩ := hu
    simp only [TT.sat_ret, TT.sat_ite, TT.sat_ob, TT.sat_next, TT.sat_stuck, put_i, put_b, put_d, put_fi, put_fb, put_fd, Ob.ok, B.ev, E.ev, X.ev, AL.ev, cmp_t, cmp_f, arEv, V.plain, V2.plain, S.plain, S0.plain, V.val, V2.val, S.val, S0.val, bV, iV, List.all_cons, List.all_nil, Bool.and_true, Bool.and_self, envOf_i, envOf_b, envOf_d, List.map_cons, List.map_nil, true_and, Bool.not_eq_true', Bool.not_eq_false', Bool.not_not, Bool.and_eq_true, and_f, cell_lg, cell_lb, cell_lr, cmpP, val_i, val_b, val_d, aget, Nat.reduceBEq, beq_self_eq_true, Bool.false_eq_true, if_true, if_false, Nat.reduceLT, Nat.reduceSub, Nat.sub_self, Nat.lt_irrefl, i0, k0, e0, eo, hw1]
    refine ⟨fun hk => ?_, fun hk => ?_⟩
    · have hn : r.length - k = (r.length - (k + 1)) + 1 := by omega
      rw [hn, lenO] at k2
      rw [wrap_in ((k : Int) + 1) (by omega) (by omega)]
      exact ⟨by omega, by omega, by omega, by omega, ⟨k + 1, rfl, by omega, k2⟩, by omega⟩
    · have h0 : r.length - k = 0 := by omega
      rw [h0, lenO] at k2
      rw [if_neg (by decide)]
      refine ⟨⟨i + 1, rfl, by omega, ?_⟩, hm⟩
      rw [← i2, ← k2]
  · have h0 : a.length - i = 0 := by omega
    rw [h0, lenP] at i2
    rw [i2]
theorem cLen_ok {ρ : Env} (h : ∀ l, ρ.fi 220 l = lenL l) : CtOne Tryz.prog ρ 37 cLen := ctD_ok gLen (fun _ => rfl) (fun al => by simp only [bV, iV, V.s0, V.val, V2.val, S.val, S0.val, E.ev, h])
theorem gFew : Gives Tryz.prog 12 [nots] (fun ds => .bool (fewL ds)) := by
  refine GivesIf.all (fn_gives Q5 (by kernel_rfl) (fun ρ h => .cons (cLen_ok (si220 h)) .nil) (by kernel_rfl) trFew_is trFew_low (by decide) (fun W vals ds hr _ => ?_))
  have hw := rep_args hr
  have n0 := (rAt_wf (j := 0) hw rfl).1
  simp only [trFew, TT.sat_ret, TT.sat_ite, TT.sat_ob, TT.sat_next, TT.sat_stuck, put_i, put_b, put_d, put_fi, put_fb, put_fd, Ob.ok, B.ev, E.ev, X.ev, AL.ev, cmp_t, cmp_f, arEv, V.plain, V2.plain, S.plain, S0.plain, V.val, V2.val, S.val, S0.val, bV, iV, List.all_cons, List.all_nil, Bool.and_true, Bool.and_self, envOf_i, envOf_b, envOf_d, List.map_cons, List.map_nil, true_and, Bool.not_eq_true', Bool.not_eq_false', Bool.not_not, Bool.and_eq_true, and_f, cell_lg, cell_lb, cell_lr, cmpP, val_i, val_b, val_d, aget, Nat.reduceBEq, beq_self_eq_true, Bool.false_eq_true, if_true, if_false, Nat.reduceLT, Nat.reduceSub, Nat.sub_self, Nat.lt_irrefl]
  unfold fewL
  clear hr hw
  generalize e0 : rAt ds 0 = a at *
  refine ⟨fun h => by rw [decide_eq_false (by omega), Bool.false_and], fun h => ?_⟩
  rw [decide_eq_true (by omega), Bool.true_and]
  refine TT.sat_loop (fun v => ∃ i : Nat, v.i 0 = i ∧ i ≤ a.length ∧ fewN a (a.length - i) i = fewN a a.length 0) (fun v => a.length - (v.i 0).toNat) ⟨0, by simp [val_i, aget, E.ev], by omega, rfl⟩ (fun v hv => ?_)
  obtain ⟨i, i0, i1, i2⟩ := hv
  simp only [TT.sat_ret, TT.sat_ite, TT.sat_ob, TT.sat_next, TT.sat_stuck, put_i, put_b, put_d, put_fi, put_fb, put_fd, Ob.ok, B.ev, E.ev, X.ev, AL.ev, cmp_t, cmp_f, arEv, V.plain, V2.plain, S.plain, S0.plain, V.val, V2.val, S.val, S0.val, bV, iV, List.all_cons, List.all_nil, Bool.and_true, Bool.and_self, envOf_i, envOf_b, envOf_d, List.map_cons, List.map_nil, true_and, Bool.not_eq_true', Bool.not_eq_false', Bool.not_not, Bool.and_eq_true, and_f, cell_lg, cell_lb, cell_lr, cmpP, val_i, val_b, val_d, aget, Nat.reduceBEq, beq_self_eq_true, Bool.false_eq_true, if_true, if_false, Nat.reduceLT, Nat.reduceSub, Nat.sub_self, Nat.lt_irrefl, i0, e0, Q5i220]
  refine ⟨fun hc => ?_, fun hc => ?_⟩
  · have hn : a.length - i = (a.length - (i + 1)) + 1 := by omega
    rw [hn, fewN] at i2
    rw [wrap_in ((i : Int) + 1) (by omega) (by omega)]
    refine ⟨by omega, by omega, fun q => ?_, fun q => ⟨⟨i + 1, rfl, by omega, ?_⟩, by omega⟩⟩
    · rw [← i2, decide_eq_false (by omega), Bool.false_and]
    · rw [← i2, decide_eq_true (by omega), Bool.true_and]
  · have h0 : a.length - i = 0 := by omega
    rw [h0, fewN] at i2
    rw [← i2]
theorem cFew_ok {ρ : Env} (h : ∀ l, ρ.fb 222 l = fewL l) : CtOne Tryz.prog ρ 12 cFew := ctD_ok gFew (fun _ => rfl) (fun al => by simp only [bV, iV, V.s0, V.val, V2.val, S.val, S0.val, B.ev, h])
theorem gSmall : Gives Tryz.prog 13 [lets] (fun ds => .bool (smL ds)) := by
  refine GivesIf.all (fn_gives Q5 (by kernel_rfl) (fun ρ h => .cons (cFew_ok (s222 h)) .nil) (by kernel_rfl) trSmall_is trSmall_low (by decide) (fun W vals ds hr _ => ?_))
  have hw := rep_args hr
  have n0 := (rAt_wf (j := 0) hw rfl).1
  simp only [trSmall, TT.sat_ret, TT.sat_ite, TT.sat_ob, TT.sat_next, TT.sat_stuck, put_i, put_b, put_d, put_fi, put_fb, put_fd, Ob.ok, B.ev, E.ev, X.ev, AL.ev, cmp_t, cmp_f, arEv, V.plain, V2.plain, S.plain, S0.plain, V.val, V2.val, S.val, S0.val, bV, iV, List.all_cons, List.all_nil, Bool.and_true, Bool.and_self, envOf_i, envOf_b, envOf_d, List.map_cons, List.map_nil, true_and, Bool.not_eq_true', Bool.not_eq_false', Bool.not_not, Bool.and_eq_true, and_f, cell_lg, cell_lb, cell_lr, cmpP, val_i, val_b, val_d, aget, Nat.reduceBEq, beq_self_eq_true, Bool.false_eq_true, if_true, if_false, Nat.reduceLT, Nat.reduceSub, Nat.sub_self, Nat.lt_irrefl]
  unfold smL
  clear hr hw
  generalize e0 : rAt ds 0 = a at *
  refine TT.sat_loop (fun v => ∃ i : Nat, v.i 0 = i ∧ i ≤ a.length ∧ smN a (a.length - i) i = smN a a.length 0) (fun v => a.length - (v.i 0).toNat) ⟨0, by simp [val_i, aget, E.ev], by omega, rfl⟩ (fun v hv => ?_)
  obtain ⟨i, i0, i1, i2⟩ := hv
  simp only [TT.sat_ret, TT.sat_ite, TT.sat_ob, TT.sat_next, TT.sat_stuck, put_i, put_b, put_d, put_fi, put_fb, put_fd, Ob.ok, B.ev, E.ev, X.ev, AL.ev, cmp_t, cmp_f, arEv, V.plain, V2.plain, S.plain, S0.plain, V.val, V2.val, S.val, S0.val, bV, iV, List.all_cons, List.all_nil, Bool.and_true, Bool.and_self, envOf_i, envOf_b, envOf_d, List.map_cons, List.map_nil, true_and, Bool.not_eq_true', Bool.not_eq_false', Bool.not_not, Bool.and_eq_true, and_f, cell_lg, cell_lb, cell_lr, cmpP, val_i, val_b, val_d, aget, Nat.reduceBEq, beq_self_eq_true, Bool.false_eq_true, if_true, if_false, Nat.reduceLT, Nat.reduceSub, Nat.sub_self, Nat.lt_irrefl, i0, e0, Q5b222, X.ev, List.nil_append, List.append_nil]
  refine ⟨fun hc => ?_, fun hc => ?_⟩
  · have hn : a.length - i = (a.length - (i + 1)) + 1 := by omega
    rw [hn, smN] at i2
    rw [wrap_in ((i : Int) + 1) (by omega) (by omega)]
    refine ⟨by omega, by omega, fun q => ?_, fun q => ⟨⟨i + 1, rfl, by omega, ?_⟩, by omega⟩⟩
    · rw [← i2, q, Bool.false_and]
    · rw [← i2, q, Bool.true_and]
  · have h0 : a.length - i = 0 := by omega
    rw [h0, smN] at i2
    rw [← i2]
end Go.Proofs.YtbbjlleaofgddaaGreat
/- Chapter 42: the laws' head is true; contracts for the laws. -/
namespace Go.Proofs.YtbbjlleaofgddaaGreat
open Go.RowKit
set_option maxRecDepth 100000 in
theorem gHead42 : Gives Tryz.prog 11 [] (fun _ => .bool true) := by
  refine GivesIf.all (fn_gives Q4 (by kernel_rfl) (fun ρ h => ctL0_ok (Sees.of h 220)) (by kernel_rfl) trHead42_is trHead42_low (by decide) (fun W vals ds _ _ => ?_))
  simp only [trHead42, TT.sat_ret, TT.sat_ite, TT.sat_ob, TT.sat_next, TT.sat_stuck, put_i, put_b, put_d, put_fi, put_fb, put_fd, Ob.ok, B.ev, E.ev, X.ev, AL.ev, cmp_t, cmp_f, arEv, V.plain, V2.plain, S.plain, S0.plain, V.val, V2.val, S.val, S0.val, bV, iV, List.all_cons, List.all_nil, Bool.and_true, Bool.and_self, envOf_i, envOf_b, envOf_d, List.map_cons, List.map_nil, true_and, Bool.not_eq_true', Bool.not_eq_false', Bool.not_not, Bool.and_eq_true, and_f, cell_lg, cell_lb, cell_lr, cmpP, val_i, val_b, val_d, aget, Nat.reduceBEq, beq_self_eq_true, Bool.false_eq_true, if_true, if_false, Nat.reduceLT, Nat.reduceSub, Nat.sub_self, Nat.lt_irrefl]
def cHead42 := ctD [] fun _ => .ret (bV (.lit true))
theorem cHead42_ok {ρ : Env} : CtOne Tryz.prog ρ 11 cHead42 := ctD_ok gHead42 (fun _ => rfl) (fun _ => rfl)
def cXLetter := ctD [letS, letS] fun al => .ret (bV (bF 221 leL al))
theorem cXLetter_ok {ρ : Env} (h : Sees ρ Q5 230) : CtOne Tryz.prog ρ 26 cXLetter :=
  ctD_ok gEl (fun _ => rfl) (fun al => by simp only [iV, bV, V.s0, V.val, V2.val, S.val, S0.val, bF_ev (s := 221) (f := leL) (fun l => by rw [(h 221 l (by decide)).2]; simp only [Q5])]; try rfl)
def cXLetters := ctD [lets, lets] fun al => .ret (bV (bF 220 eqRL al))
theorem cXLetters_ok {ρ : Env} (h : Sees ρ Q5 230) : CtOne Tryz.prog ρ 19 cXLetters :=
  ctD_ok gEL (fun _ => rfl) (fun al => by simp only [iV, bV, V.s0, V.val, V2.val, S.val, S0.val, bF_ev (s := 220) (f := eqRL) (fun l => by rw [(h 220 l (by decide)).2]; simp only [Q5])]; try rfl)
def cXSame := ctD [nots, nots] fun al => .ret (bV (bF 220 eqRL al))
theorem cXSame_ok {ρ : Env} (h : Sees ρ Q5 230) : CtOne Tryz.prog ρ 25 cXSame :=
  ctD_ok gEN (fun _ => rfl) (fun al => by simp only [iV, bV, V.s0, V.val, V2.val, S.val, S0.val, bF_ev (s := 220) (f := eqRL) (fun l => by rw [(h 220 l (by decide)).2]; simp only [Q5])]; try rfl)
def cXOut := ctD [boxS, boxS] fun al => .ret (bV (bF 224 bxL al))
theorem cXOut_ok {ρ : Env} (h : Sees ρ Q5 230) : CtOne Tryz.prog ρ 16 cXOut :=
  ctD_ok gEB (fun _ => rfl) (fun al => by simp only [iV, bV, V.s0, V.val, V2.val, S.val, S0.val, bF_ev (s := 224) (f := bxL) (fun l => by rw [(h 224 l (by decide)).2]; simp only [Q5])]; try rfl)
def cXIn := ctD [boxS, boxS] fun al => .ret (bV (bF 224 bxL al))
theorem cXIn_ok {ρ : Env} (h : Sees ρ Q5 230) : CtOne Tryz.prog ρ 24 cXIn :=
  ctD_ok gEI (fun _ => rfl) (fun al => by simp only [iV, bV, V.s0, V.val, V2.val, S.val, S0.val, bF_ev (s := 224) (f := bxL) (fun l => by rw [(h 224 l (by decide)).2]; simp only [Q5])]; try rfl)
def cXFew := ctD [nots] fun al => .ret (bV (bF 222 fewL al))
theorem cXFew_ok {ρ : Env} (h : Sees ρ Q5 230) : CtOne Tryz.prog ρ 12 cXFew :=
  ctD_ok gFew (fun _ => rfl) (fun al => by simp only [iV, bV, V.s0, V.val, V2.val, S.val, S0.val, bF_ev (s := 222) (f := fewL) (fun l => by rw [(h 222 l (by decide)).2]; simp only [Q5])]; try rfl)
def cXSmall := ctD [lets] fun al => .ret (bV (bF 223 smL al))
theorem cXSmall_ok {ρ : Env} (h : Sees ρ Q5 230) : CtOne Tryz.prog ρ 13 cXSmall :=
  ctD_ok gSmall (fun _ => rfl) (fun al => by simp only [iV, bV, V.s0, V.val, V2.val, S.val, S0.val, bF_ev (s := 223) (f := smL) (fun l => by rw [(h 223 l (by decide)).2]; simp only [Q5])]; try rfl)
def ctX0 : Ct := (11, cHead42) :: (26, cXLetter) :: (19, cXLetters) :: (25, cXSame) :: (16, cXOut) :: (24, cXIn) :: (12, cXFew) :: (13, cXSmall) ::
  (106, cGrowNot) :: (118, cDelLet) :: (52, cInsLet) :: (42, cCloneLet) :: ctQ4
theorem ctX0_ok {ρ : Env} (h : Sees ρ Q5 230) : CtOk Tryz.prog ρ ctX0 := .cons cHead42_ok <| .cons (cXLetter_ok h) <| .cons (cXLetters_ok h) <| .cons (cXSame_ok h) <| .cons (cXOut_ok h) <| .cons (cXIn_ok h) <| .cons (cXFew_ok h) <| .cons (cXSmall_ok h) <| .cons cGrowNot_ok <| .cons cDelLet_ok <| .cons cInsLet_ok <| .cons cCloneLet_ok (ctQ4_ok (Q5_Q4 h))
/-! ### Calls that must end well -/
def lt42 : Lt := Lt.of [(20, 2000008), (14, 2000018), (22, 2000014), (22, 2000042), (22, 2000060), (22, 1000076), (22, 4000000)]
def endsOk : List V2 → Bool
  | [] => false
  | [.one (.z (.int _ (.lit 0)))] => true
  | _ :: r => endsOk r
def keepOk (q : OpR) : T OpR := match q.1 with
  | .tup l => if endsOk l then .ret q else .stuck "not possible"
  | _ => .stuck "not possible"
theorem keepOk_res {ρ : Env} {q q' : OpR} (h : (keepOk q).res ρ q') : q' = q := by
  unfold keepOk at h
  split at h
  · split at h
    · exact res_ret h
    · exact h.elim
  · exact h.elim
def extBox : List V → Bool
  | .v (.agg [_, .z (.ext _ _ _)]) :: _ => true
  | _ => false
def cInl (ct : Ct) (lt : Lt) (f : FuncId) (P : Program) (args : List V) (mem : Mem) (nx : Nat) : T OpR :=
  if extBox args then call P ct lt 150 f args mem nx else (call P ct lt 150 f args mem nx).bind keepOk
theorem Sees.agree {ρ ρ' : Env} {I : Interp} {c : Nat} (h : Sees ρ I c) (ha : Agree 0 ρ ρ') : Sees ρ' I c := fun n l hn => by
  have := h n l hn
  rw [ha.fi, ha.fb] at this
  exact this
theorem cInl_ok {ct : Ct} (hct : ∀ {ρ : Env}, Sees ρ Q5 230 → CtOk Tryz.prog ρ ct) (hce : ct.all (fun p => entersB Tryz.prog p.1) = true) {lt : Lt} {f : FuncId} {ρ : Env} (h : Sees ρ Q5 230) : CtOne Tryz.prog ρ f (cInl ct lt f Tryz.prog) := by
  have key : CtOne Tryz.prog ρ f (fun args mem nx => call Tryz.prog ct lt 150 f args mem nx) := ct_inline (by kernel_rfl) hce (fun ρ' ha => hct (h.agree ha))
  intro args mem nx q hq hle
  unfold cInl at hq
  split at hq
  · exact key args mem nx q hq hle
  · obtain ⟨q0, h1, h2⟩ := T.res_bind hq
    obtain rfl := keepOk_res h2
    exact key args mem nx q h1 hle
def ctX1 (P : Program) : Ct := (20, cInl ctX0 lt42 20 P) :: (22, cInl ctX0 lt42 22 P) :: ctX0
theorem ctX1_ok {ρ : Env} (h : Sees ρ Q5 230) : CtOk Tryz.prog ρ (ctX1 Tryz.prog) := .cons (cInl_ok ctX0_ok (by kernel_rfl) h) <| .cons (cInl_ok ctX0_ok (by kernel_rfl) h) (ctX0_ok h)
end Go.Proofs.YtbbjlleaofgddaaGreat
