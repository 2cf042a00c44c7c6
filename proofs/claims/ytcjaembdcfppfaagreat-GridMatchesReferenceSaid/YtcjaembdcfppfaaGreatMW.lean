/- MW, merged: Wa, TWa, Wb, Wc, TWb, Wd, We. -/
import Derived.Test.YtcjaembdcfppfaaGreatMT
import Derived.Test.YtcjaembdcfppfaaGreatMJ
import Derived.Test.YtcjaembdcfppfaaGreatMV
set_option linter.unusedSimpArgs false
set_option linter.unusedVariables false
namespace Go.Proofs.YtcjaembdcfppfaaGreat
open Go.RowKit
def a6h(a b c d:Int):Int:=a*d-b*c
def c7M(r:Rows)(i:Nat)(u v:Int):Bool:=
 if 0<a6h (lg r (nxt r.length i) 0-lg r i 0) (lg r (nxt r.length i) 1-lg r i 1) (lg r (O3 r.length i) 0-lg r i 0) (lg r (O3 r.length i) 1-lg r i 1) then
  decide (0≤a6h (lg r (nxt r.length i) 0-lg r i 0) (lg r (nxt r.length i) 1-lg r i 1) u v)&&decide (0≤a6h u v (lg r (O3 r.length i) 0-lg r i 0) (lg r (O3 r.length i) 1-lg r i 1))
 else !(decide (0<a6h (lg r (O3 r.length i) 0-lg r i 0) (lg r (O3 r.length i) 1-lg r i 1) u v)&&decide (0<a6h u v (lg r (nxt r.length i) 0-lg r i 0) (lg r (nxt r.length i) 1-lg r i 1)))
def c3m(r:Rows)(x y u v:Int):Nat→Nat→Bool
 | 0,_=>true
 | f+1,i=>if A7 x y (lg r i 0) (lg r i 1) (lg r (nxt r.length i) 0) (lg r (nxt r.length i) 1) then decide (0≤a6h (lg r (nxt r.length i) 0-lg r i 0) (lg r (nxt r.length i) 1-lg r i 1) u v) else c3m r x y u v f (i+1)
def c6G(r:Rows)(x y u v:Int):Nat→Nat→Bool
 | 0,_=>c3m r x y u v r.length 0
 | f+1,i=>if lg r i 0=x∧lg r i 1=y then c7M r i u v else c6G r x y u v f (i+1)
theorem d0q{p q:Rows}(hp:j6 p=true)(hq:j6 q=true):S3 p q=(tmN p q p.length 0||(decide (0≤j9 q (lg p 0 0) (lg p 0 1) q.length 0 false)||decide (0≤j9 p (lg q 0 0) (lg q 0 1) p.length 0 false))):=by
 rw[Bool.eq_iff_iff]
 constructor
 ·intro h
  unfold S3 at h
  simp only[Bool.or_eq_true,decide_eq_true_eq] at h ⊢
  rcases h with h | h | h
  ·exact .inl h
  ·exact .inr (.inr (by omega))
  ·exact .inr (.inl (by omega))
 ·intro h
  simp only[Bool.or_eq_true,decide_eq_true_eq] at h
  rcases h with h | h | h
  ·unfold S3;rw[h];rfl
  ·rw[b0G hq hp];exact a9e hq hp h
  ·exact a9e hp hq h
theorem b8e{px py ax ay bx b d:Int}:U1 px py ax ay bx b d= !(if F7 ax ay bx b px py≤0 then decide (l9 ax ay px py<d*d) else if l9 ax ay bx b≤F7 ax ay bx b px py then decide (l9 bx b px py<d*d) else decide (a8 ax ay bx b px py*a8 ax ay bx b px py<d*d*l9 ax ay bx b)):=by
 unfold U1
 split
 ·rw[Bool.eq_iff_iff];simp only[decide_eq_true_eq,Bool.not_eq_true',decide_eq_false_iff_not];omega
 ·split<;>(rw[Bool.eq_iff_iff];simp only[decide_eq_true_eq,Bool.not_eq_true',decide_eq_false_iff_not];omega)
def b8J:TT j4:=
(.ite (.cmp .leq (.ar .add .i64 (.ar .mul .i64 (.ar .sub .i64 (.var 4) (.var 2)) (.ar .sub .i64 (.var 0) (.var 2))) (.ar .mul .i64 (.ar .sub .i64 (.var 5) (.var 3)) (.ar .sub .i64 (.var 1) (.var 3)))) (.lit 0))
 (.ret ((.v (.one (.z (.bool (.cmp .lss (.ar .add .i64 (.ar .mul .i64 (.ar .sub .i64 (.var 0) (.var 2)) (.ar .sub .i64 (.var 0) (.var 2))) (.ar .mul .i64 (.ar .sub .i64 (.var 1) (.var 3)) (.ar .sub .i64 (.var 1) (.var 3)))) (.ar .mul .i64 (.var 6) (.var 6))))))),[],17))
 (.ite (.cmp .geq (.ar .add .i64 (.ar .mul .i64 (.ar .sub .i64 (.var 4) (.var 2)) (.ar .sub .i64 (.var 0) (.var 2))) (.ar .mul .i64 (.ar .sub .i64 (.var 5) (.var 3)) (.ar .sub .i64 (.var 1) (.var 3)))) (.ar .add .i64 (.ar .mul .i64 (.ar .sub .i64 (.var 4) (.var 2)) (.ar .sub .i64 (.var 4) (.var 2))) (.ar .mul .i64 (.ar .sub .i64 (.var 5) (.var 3)) (.ar .sub .i64 (.var 5) (.var 3)))))
 (.ret ((.v (.one (.z (.bool (.cmp .lss (.ar .add .i64 (.ar .mul .i64 (.ar .sub .i64 (.var 4) (.var 0)) (.ar .sub .i64 (.var 4) (.var 0))) (.ar .mul .i64 (.ar .sub .i64 (.var 5) (.var 1)) (.ar .sub .i64 (.var 5) (.var 1)))) (.ar .mul .i64 (.var 6) (.var 6))))))),[],25))
 (.ob (.tru (.cmp .leq (.lit 0) (.ar .mul .i64 (.var 6) (.var 6))))
 (.ob (.tru (.cmp .lss (.ar .mul .i64 (.var 6) (.var 6)) (.lit 17592186044416)))
 (.ob (.tru (.cmp .leq (.lit 0) (.ar .add .i64 (.ar .mul .i64 (.ar .sub .i64 (.var 4) (.var 2)) (.ar .sub .i64 (.var 4) (.var 2))) (.ar .mul .i64 (.ar .sub .i64 (.var 5) (.var 3)) (.ar .sub .i64 (.var 5) (.var 3))))))
 (.ob (.tru (.cmp .lss (.ar .add .i64 (.ar .mul .i64 (.ar .sub .i64 (.var 4) (.var 2)) (.ar .sub .i64 (.var 4) (.var 2))) (.ar .mul .i64 (.ar .sub .i64 (.var 5) (.var 3)) (.ar .sub .i64 (.var 5) (.var 3)))) (.lit 17592186044416)))
 (.ob (.tru (.cmp .leq (.lit 0) (.mx (.ar .sub .i64 (.ar .mul .i64 (.ar .sub .i64 (.var 4) (.var 2)) (.ar .sub .i64 (.var 1) (.var 3))) (.ar .mul .i64 (.ar .sub .i64 (.var 5) (.var 3)) (.ar .sub .i64 (.var 0) (.var 2)))) (.ar .sub .i64 (.lit 0) (.ar .sub .i64 (.ar .mul .i64 (.ar .sub .i64 (.var 4) (.var 2)) (.ar .sub .i64 (.var 1) (.var 3))) (.ar .mul .i64 (.ar .sub .i64 (.var 5) (.var 3)) (.ar .sub .i64 (.var 0) (.var 2))))))))
 (.ob (.tru (.cmp .lss (.mx (.ar .sub .i64 (.ar .mul .i64 (.ar .sub .i64 (.var 4) (.var 2)) (.ar .sub .i64 (.var 1) (.var 3))) (.ar .mul .i64 (.ar .sub .i64 (.var 5) (.var 3)) (.ar .sub .i64 (.var 0) (.var 2)))) (.ar .sub .i64 (.lit 0) (.ar .sub .i64 (.ar .mul .i64 (.ar .sub .i64 (.var 4) (.var 2)) (.ar .sub .i64 (.var 1) (.var 3))) (.ar .mul .i64 (.ar .sub .i64 (.var 5) (.var 3)) (.ar .sub .i64 (.var 0) (.var 2)))))) (.lit 17592186044416)))
 (.ob (.tru (.cmp .leq (.lit 0) (.mx (.ar .sub .i64 (.ar .mul .i64 (.ar .sub .i64 (.var 4) (.var 2)) (.ar .sub .i64 (.var 1) (.var 3))) (.ar .mul .i64 (.ar .sub .i64 (.var 5) (.var 3)) (.ar .sub .i64 (.var 0) (.var 2)))) (.ar .sub .i64 (.lit 0) (.ar .sub .i64 (.ar .mul .i64 (.ar .sub .i64 (.var 4) (.var 2)) (.ar .sub .i64 (.var 1) (.var 3))) (.ar .mul .i64 (.ar .sub .i64 (.var 5) (.var 3)) (.ar .sub .i64 (.var 0) (.var 2))))))))
 (.ob (.tru (.cmp .lss (.mx (.ar .sub .i64 (.ar .mul .i64 (.ar .sub .i64 (.var 4) (.var 2)) (.ar .sub .i64 (.var 1) (.var 3))) (.ar .mul .i64 (.ar .sub .i64 (.var 5) (.var 3)) (.ar .sub .i64 (.var 0) (.var 2)))) (.ar .sub .i64 (.lit 0) (.ar .sub .i64 (.ar .mul .i64 (.ar .sub .i64 (.var 4) (.var 2)) (.ar .sub .i64 (.var 1) (.var 3))) (.ar .mul .i64 (.ar .sub .i64 (.var 5) (.var 3)) (.ar .sub .i64 (.var 0) (.var 2)))))) (.lit 17592186044416)))
 (.ite (.cmp .lss (.fn 91 (.i (.ar .mul .i64 (.var 6) (.var 6)) (.i (.ar .add .i64 (.ar .mul .i64 (.ar .sub .i64 (.var 4) (.var 2)) (.ar .sub .i64 (.var 4) (.var 2))) (.ar .mul .i64 (.ar .sub .i64 (.var 5) (.var 3)) (.ar .sub .i64 (.var 5) (.var 3)))) .nil))) (.fn 91 (.i (.mx (.ar .sub .i64 (.ar .mul .i64 (.ar .sub .i64 (.var 4) (.var 2)) (.ar .sub .i64 (.var 1) (.var 3))) (.ar .mul .i64 (.ar .sub .i64 (.var 5) (.var 3)) (.ar .sub .i64 (.var 0) (.var 2)))) (.ar .sub .i64 (.lit 0) (.ar .sub .i64 (.ar .mul .i64 (.ar .sub .i64 (.var 4) (.var 2)) (.ar .sub .i64 (.var 1) (.var 3))) (.ar .mul .i64 (.ar .sub .i64 (.var 5) (.var 3)) (.ar .sub .i64 (.var 0) (.var 2)))))) (.i (.mx (.ar .sub .i64 (.ar .mul .i64 (.ar .sub .i64 (.var 4) (.var 2)) (.ar .sub .i64 (.var 1) (.var 3))) (.ar .mul .i64 (.ar .sub .i64 (.var 5) (.var 3)) (.ar .sub .i64 (.var 0) (.var 2)))) (.ar .sub .i64 (.lit 0) (.ar .sub .i64 (.ar .mul .i64 (.ar .sub .i64 (.var 4) (.var 2)) (.ar .sub .i64 (.var 1) (.var 3))) (.ar .mul .i64 (.ar .sub .i64 (.var 5) (.var 3)) (.ar .sub .i64 (.var 0) (.var 2)))))) .nil))))
 (.ret ((.v (.one (.z (.bool (.lit false))))),[],19))
 (.ite (.cmp .eql (.fn 91 (.i (.ar .mul .i64 (.var 6) (.var 6)) (.i (.ar .add .i64 (.ar .mul .i64 (.ar .sub .i64 (.var 4) (.var 2)) (.ar .sub .i64 (.var 4) (.var 2))) (.ar .mul .i64 (.ar .sub .i64 (.var 5) (.var 3)) (.ar .sub .i64 (.var 5) (.var 3)))) .nil))) (.fn 91 (.i (.mx (.ar .sub .i64 (.ar .mul .i64 (.ar .sub .i64 (.var 4) (.var 2)) (.ar .sub .i64 (.var 1) (.var 3))) (.ar .mul .i64 (.ar .sub .i64 (.var 5) (.var 3)) (.ar .sub .i64 (.var 0) (.var 2)))) (.ar .sub .i64 (.lit 0) (.ar .sub .i64 (.ar .mul .i64 (.ar .sub .i64 (.var 4) (.var 2)) (.ar .sub .i64 (.var 1) (.var 3))) (.ar .mul .i64 (.ar .sub .i64 (.var 5) (.var 3)) (.ar .sub .i64 (.var 0) (.var 2)))))) (.i (.mx (.ar .sub .i64 (.ar .mul .i64 (.ar .sub .i64 (.var 4) (.var 2)) (.ar .sub .i64 (.var 1) (.var 3))) (.ar .mul .i64 (.ar .sub .i64 (.var 5) (.var 3)) (.ar .sub .i64 (.var 0) (.var 2)))) (.ar .sub .i64 (.lit 0) (.ar .sub .i64 (.ar .mul .i64 (.ar .sub .i64 (.var 4) (.var 2)) (.ar .sub .i64 (.var 1) (.var 3))) (.ar .mul .i64 (.ar .sub .i64 (.var 5) (.var 3)) (.ar .sub .i64 (.var 0) (.var 2)))))) .nil))))
 (.ret ((.v (.one (.z (.bool (.not (.cmp .leq (.fn 92 (.i (.ar .mul .i64 (.var 6) (.var 6)) (.i (.ar .add .i64 (.ar .mul .i64 (.ar .sub .i64 (.var 4) (.var 2)) (.ar .sub .i64 (.var 4) (.var 2))) (.ar .mul .i64 (.ar .sub .i64 (.var 5) (.var 3)) (.ar .sub .i64 (.var 5) (.var 3)))) .nil))) (.fn 92 (.i (.mx (.ar .sub .i64 (.ar .mul .i64 (.ar .sub .i64 (.var 4) (.var 2)) (.ar .sub .i64 (.var 1) (.var 3))) (.ar .mul .i64 (.ar .sub .i64 (.var 5) (.var 3)) (.ar .sub .i64 (.var 0) (.var 2)))) (.ar .sub .i64 (.lit 0) (.ar .sub .i64 (.ar .mul .i64 (.ar .sub .i64 (.var 4) (.var 2)) (.ar .sub .i64 (.var 1) (.var 3))) (.ar .mul .i64 (.ar .sub .i64 (.var 5) (.var 3)) (.ar .sub .i64 (.var 0) (.var 2)))))) (.i (.mx (.ar .sub .i64 (.ar .mul .i64 (.ar .sub .i64 (.var 4) (.var 2)) (.ar .sub .i64 (.var 1) (.var 3))) (.ar .mul .i64 (.ar .sub .i64 (.var 5) (.var 3)) (.ar .sub .i64 (.var 0) (.var 2)))) (.ar .sub .i64 (.lit 0) (.ar .sub .i64 (.ar .mul .i64 (.ar .sub .i64 (.var 4) (.var 2)) (.ar .sub .i64 (.var 1) (.var 3))) (.ar .mul .i64 (.ar .sub .i64 (.var 5) (.var 3)) (.ar .sub .i64 (.var 0) (.var 2)))))) .nil))))))))),[],19))
 (.ret ((.v (.one (.z (.bool (.lit true))))),[],19))))))))))))))
set_option maxRecDepth 100000 in
theorem c4P:T.norm 0 (call Tryz.prog b8d (Lt.of []) 100 87 (g7 0 [pt,pt,pt,it]) [] 0) TT.ret=b8J:=by kernel_rfl
theorem c3x:b8J.low 1000=true:=by kernel_rfl
def b3J:TT j4:=
(.ite (.not (.fn 69 (.x (.var 0) .nil)))
 (.ret ((.tup [(.one (.z (.bool (.lit false)))),(.one (.z (.int .i64 (.lit 1))))]),[],0))
 (.ite (.not (.fn 69 (.x (.var 1) .nil)))
 (.ret ((.tup [(.one (.z (.bool (.lit false)))),(.one (.z (.int .i64 (.lit 1))))]),[],0))
 (.loop 0 1000 ⟨[(0,(.lit 0))],[],[]⟩
 (.ite (.cmp .lss (.var 1000) (.len (.var 0)))
 (.loop 1 2000 ⟨[(0,(.lit 0))],[],[]⟩
 (.ite (.cmp .lss (.var 2000) (.len (.var 1)))
 (.ob (.tru (.cmp .leq (.lit 0) (.var 1000)))
 (.ob (.tru (.cmp .lss (.var 1000) (.len (.var 0))))
 (.ob (.tru (.cmp .neq (.len (.var 0)) (.lit 0)))
 (.ob (.tru (.cmp .leq (.lit 0) (.ar .rem .i64 (.ar .add .i64 (.var 1000) (.lit 1)) (.len (.var 0)))))
 (.ob (.tru (.cmp .lss (.ar .rem .i64 (.ar .add .i64 (.var 1000) (.lit 1)) (.len (.var 0))) (.len (.var 0))))
 (.ob (.tru (.cmp .leq (.lit 0) (.var 2000)))
 (.ob (.tru (.cmp .lss (.var 2000) (.len (.var 1))))
 (.ob (.tru (.cmp .neq (.len (.var 1)) (.lit 0)))
 (.ob (.tru (.cmp .leq (.lit 0) (.ar .rem .i64 (.ar .add .i64 (.var 2000) (.lit 1)) (.len (.var 1)))))
 (.ob (.tru (.cmp .lss (.ar .rem .i64 (.ar .add .i64 (.var 2000) (.lit 1)) (.len (.var 1))) (.len (.var 1))))
 (.ob (.tru (.fn 5 (.i (.rd (.var 0) (.var 1000) 0) (.i (.rd (.var 0) (.var 1000) 1) (.i (.rd (.var 0) (.ar .rem .i64 (.ar .add .i64 (.var 1000) (.lit 1)) (.len (.var 0))) 0) (.i (.rd (.var 0) (.ar .rem .i64 (.ar .add .i64 (.var 1000) (.lit 1)) (.len (.var 0))) 1) (.i (.rd (.var 1) (.var 2000) 0) (.i (.rd (.var 1) (.var 2000) 1) (.i (.rd (.var 1) (.ar .rem .i64 (.ar .add .i64 (.var 2000) (.lit 1)) (.len (.var 1))) 0) (.i (.rd (.var 1) (.ar .rem .i64 (.ar .add .i64 (.var 2000) (.lit 1)) (.len (.var 1))) 1) .nil))))))))))
 (.ite (.fn 6 (.i (.rd (.var 0) (.var 1000) 0) (.i (.rd (.var 0) (.var 1000) 1) (.i (.rd (.var 0) (.ar .rem .i64 (.ar .add .i64 (.var 1000) (.lit 1)) (.len (.var 0))) 0) (.i (.rd (.var 0) (.ar .rem .i64 (.ar .add .i64 (.var 1000) (.lit 1)) (.len (.var 0))) 1) (.i (.rd (.var 1) (.var 2000) 0) (.i (.rd (.var 1) (.var 2000) 1) (.i (.rd (.var 1) (.ar .rem .i64 (.ar .add .i64 (.var 2000) (.lit 1)) (.len (.var 1))) 0) (.i (.rd (.var 1) (.ar .rem .i64 (.ar .add .i64 (.var 2000) (.lit 1)) (.len (.var 1))) 1) .nil)))))))))
 (.ret ((.tup [(.one (.z (.bool (.lit true)))),(.one (.z (.int .i64 (.lit 0))))]),[],4))
 (.next 1 ⟨[(0,(.ar .add .i64 (.var 2000) (.lit 1)))],[],[]⟩)))))))))))))
 (.next 0 ⟨[(0,(.ar .add .i64 (.var 1000) (.lit 1)))],[],[]⟩)))
 (.ob (.tru (.lit true))
 (.ob (.tru (.cmp .lss (.lit 0) (.len (.var 0))))
 (.ob (.tru (.fn 3 (.i (.rd (.var 0) (.lit 0) 0) (.i (.rd (.var 0) (.lit 0) 1) .nil))))
 (.ob (.tru (.fn 69 (.x (.var 1) .nil)))
 (.ite (.cmp .geq (.fn 98 (.i (.rd (.var 0) (.lit 0) 0) (.i (.rd (.var 0) (.lit 0) 1) (.x (.var 1) .nil)))) (.lit 0))
 (.ret ((.tup [(.one (.z (.bool (.lit true)))),(.one (.z (.int .i64 (.lit 0))))]),[],4))
 (.ob (.tru (.lit true))
 (.ob (.tru (.cmp .lss (.lit 0) (.len (.var 1))))
 (.ob (.tru (.fn 3 (.i (.rd (.var 1) (.lit 0) 0) (.i (.rd (.var 1) (.lit 0) 1) .nil))))
 (.ob (.tru (.fn 69 (.x (.var 0) .nil)))
 (.ret ((.tup [(.one (.z (.bool (.cmp .geq (.fn 98 (.i (.rd (.var 1) (.lit 0) 0) (.i (.rd (.var 1) (.lit 0) 1) (.x (.var 0) .nil)))) (.lit 0))))),(.one (.z (.int .i64 (.lit 0))))]),[],4)))))))))))))))
def c5X:List (Nat×St):=[
(0,⟨(List.append [(.v (.one (.z (.ext [(.int .i64),(.int .i64)] (.var 0) false)))),(.v (.one (.z (.ext [(.int .i64),(.int .i64)] (.var 1) false)))),(.v (.one (.z .any))),(.v (.one (.z .any))),(.v (.one (.z (.bool (.lit false))))),(.v (.one (.z (.int .i64 (.lit 0))))),(.v (.one (.z (.bool (.fn 69 (.x (.var 0) .nil)))))),(.v (.one (.z (.bool (.fn 69 (.x (.var 1) .nil)))))),(.v (.one (.z (.int .i64 (.var 1000))))),(.v (.one (.z .any))),(.v (.one (.z (.ext [(.int .i64),(.int .i64)] (.var 0) false)))),(.v (.one (.z (.bool (.fn 69 (.x (.var 0) .nil)))))),(.v (.one (.z (.ext [(.int .i64),(.int .i64)] (.var 1) false)))),(.v (.one (.z (.bool (.fn 69 (.x (.var 1) .nil)))))),(.v (.one (.z (.bool (.fn 69 (.x (.var 0) .nil)))))),(.v (.one (.z (.bool (.not (.fn 69 (.x (.var 0) .nil))))))),(.v (.one (.z (.bool (.lit false))))),(.v (.one (.z (.bool (.fn 69 (.x (.var 1) .nil)))))),(.v (.one (.z (.bool (.not (.fn 69 (.x (.var 1) .nil))))))),(.v (.one (.z (.bool (.not (.fn 69 (.x (.var 1) .nil)))))))] (List.replicate 41 V.any)),[],1,[]⟩),
(1,⟨(List.append [(.v (.one (.z (.ext [(.int .i64),(.int .i64)] (.var 0) false)))),(.v (.one (.z (.ext [(.int .i64),(.int .i64)] (.var 1) false)))),(.v (.one (.z .any))),(.v (.one (.z .any))),(.v (.one (.z (.bool (.lit false))))),(.v (.one (.z (.int .i64 (.lit 0))))),(.v (.one (.z (.bool (.fn 69 (.x (.var 0) .nil)))))),(.v (.one (.z (.bool (.fn 69 (.x (.var 1) .nil)))))),(.v (.one (.z (.int .i64 (.var 1000))))),(.v (.one (.z (.int .i64 (.var 2000))))),(.v (.one (.z (.ext [(.int .i64),(.int .i64)] (.var 0) false)))),(.v (.one (.z (.bool (.fn 69 (.x (.var 0) .nil)))))),(.v (.one (.z (.ext [(.int .i64),(.int .i64)] (.var 1) false)))),(.v (.one (.z (.bool (.fn 69 (.x (.var 1) .nil)))))),(.v (.one (.z (.bool (.fn 69 (.x (.var 0) .nil)))))),(.v (.one (.z (.bool (.not (.fn 69 (.x (.var 0) .nil))))))),(.v (.one (.z (.bool (.lit false))))),(.v (.one (.z (.bool (.fn 69 (.x (.var 1) .nil)))))),(.v (.one (.z (.bool (.not (.fn 69 (.x (.var 1) .nil))))))),(.v (.one (.z (.bool (.not (.fn 69 (.x (.var 1) .nil))))))),(.v (.one (.z (.int .i64 (.var 1000))))),(.v (.one (.z (.ext [(.int .i64),(.int .i64)] (.var 0) false)))),(.v (.one (.z (.int .i64 (.len (.var 0)))))),(.v (.one (.z (.bool (.cmp .lss (.var 1000) (.len (.var 0)))))))] (List.replicate 37 V.any)),[],2,[]⟩)]
def c5J:List (FuncId×Nat×Nat×St):=[
]
set_option maxRecDepth 100000 in
theorem c0T:T.norm 0 (call Tryz.prog b8d ⟨Lt.un (Lt.of []),c5X,c5J⟩ 100 63 (g7 0 [A8,A8]) [] 0) TT.ret=b3J:=by kernel_rfl
theorem b7P:b3J.low 1000=true:=by kernel_rfl
def c3B(u v:Int):Bool:=decide ((-2000000≤u∧u≤2000000)∧ -2000000≤v∧v≤2000000)
def d5D(ds:List D):Bool:=c7M (b9 ds 0) (a7 ds 1).toNat (a7 ds 2) (a7 ds 3)
def d6h(ds:List D):Bool:=j6 (b9 ds 0)&&(decide (0≤a7 ds 1∧a7 ds 1<(b9 ds 0).length)&&c3B (a7 ds 2) (a7 ds 3))
theorem d5Y(W:World)(ds l:List D):(a9 KX W ds).fb 3 l=w7 l:=by simp only[a9,KX,KW,KV,KU,KT,KR,KG,KF,KE,KD,KC,KB,KA,K9,K8,K7,K6,K5,K]
theorem d6a(W:World)(ds l:List D):(a9 KX W ds).fb 5 l=D9 l:=by simp only[a9,KX,KW,KV,KU,KT,KR,KG,KF,KE,KD,KC,KB,KA,K9,K8,K7,K6,K5,K]
theorem d5F(W:World)(ds l:List D):(a9 KX W ds).fb 6 l=G8 l:=by simp only[a9,KX,KW,KV,KU,KT,KR,KG,KF,KE,KD,KC,KB,KA,K9,K8,K7,K6,K5,K]
theorem c7L(W:World)(ds l:List D):(a9 KX W ds).fb 69 l=H0 l:=by simp only[a9,KX,KW,KV,KU,KT,KR,KG,KF,KE,KD,KC,KB]
theorem d3z(W:World)(ds l:List D):(a9 KX W ds).fi 91 l=a4K l:=by simp only[a9,KX,KW,KV,KU,KT,KR]
theorem d4b(W:World)(ds l:List D):(a9 KX W ds).fi 92 l=a5p l:=by simp only[a9,KX,KW,KV,KU,KT,KR]
theorem d4d(W:World)(ds l:List D):(a9 KX W ds).fi 98 l=a9x l:=by simp only[a9,KX,KW,KV]
def a4L(ds:List D):Bool:= !U1 (a7 ds 0) (a7 ds 1) (a7 ds 2) (a7 ds 3) (a7 ds 4) (a7 ds 5) (a7 ds 6)
theorem d5O:GivesIf Tryz.prog 87 [pt,pt,pt,it] (fun ds=>a3I ds=true) (fun ds=> .bool (a4L ds)):=by
 refine i7 KX (by kernel_rfl) (fun ρ h=>a9V (Sees.of h 102)) (by kernel_rfl) c4P c3x (by decide) (fun W vals ds _ hok=> ?_)
 simp only[a3I,Bool.and_eq_true,A5,decide_eq_true_eq] at hok
 obtain⟨hok,h6⟩:=hok
 obtain⟨h0,h1,h2,h3,h4,h5⟩:=a1U hok
 simp only[b8J,g9,Nat.reduceBEq,Nat.reduceLT,Nat.reduceSub,d3z,d4b,b4E,b2V]
 have c0:=b9L h6
 have d1:=o6 h0 h2 h0 h2
 have d2:=o6 h1 h3 h1 h3
 have d3:=o6 h4 h0 h4 h0
 have d4:=o6 h5 h1 h5 h1
 have d5:=o6 h4 h2 h4 h2
 have d6:=o6 h5 h3 h5 h3
 have d7:=o6 h4 h2 h1 h3
 have d8:=o6 h5 h3 h0 h2
 have n1:=D3 (a7 ds 0-a7 ds 2)
 have n2:=D3 (a7 ds 1-a7 ds 3)
 have n5:=D3 (a7 ds 4-a7 ds 2)
 have n6:=D3 (a7 ds 5-a7 ds 3)
 have n7:=D3 (a7 ds 6)
 simp only[o0 h4 h2,o0 h0 h2,o0 h5 h3,o0 h1 h3,o0 h4 h0,o0 h5 h1,G6 h4 h2 h0 h2,G6 h5 h3 h1 h3,d1.1,d2.1,d3.1,d4.1,d5.1,d6.1,d7.1,d8.1,L5 h4 h2 h0 h2 h5 h3 h1 h3,
  L5 h0 h2 h0 h2 h1 h3 h1 h3,L5 h4 h0 h4 h0 h5 h1 h5 h1,L5 h4 h2 h4 h2 h5 h3 h5 h3,(T1 h4 h2 h1 h3 h5 h3 h0 h2).1,(T1 h4 h2 h1 h3 h5 h3 h0 h2).2,c0.1,b1P]
 have D2:l9 (a7 ds 4) (a7 ds 5) (a7 ds 0) (a7 ds 1)=(a7 ds 4-a7 ds 0)*(a7 ds 4-a7 ds 0)+(a7 ds 5-a7 ds 1)*(a7 ds 5-a7 ds 1):=by unfold l9;grind
 have hA:a4L ds=(if F7 (a7 ds 2) (a7 ds 3) (a7 ds 4) (a7 ds 5) (a7 ds 0) (a7 ds 1)≤0 then decide (l9 (a7 ds 2) (a7 ds 3) (a7 ds 0) (a7 ds 1)<a7 ds 6*a7 ds 6) else if l9 (a7 ds 2) (a7 ds 3) (a7 ds 4) (a7 ds 5)≤F7 (a7 ds 2) (a7 ds 3) (a7 ds 4) (a7 ds 5) (a7 ds 0) (a7 ds 1) then decide (l9 (a7 ds 4) (a7 ds 5) (a7 ds 0) (a7 ds 1)<a7 ds 6*a7 ds 6) else decide (a8 (a7 ds 2) (a7 ds 3) (a7 ds 4) (a7 ds 5) (a7 ds 0) (a7 ds 1)*a8 (a7 ds 2) (a7 ds 3) (a7 ds 4) (a7 ds 5) (a7 ds 0) (a7 ds 1)<a7 ds 6*a7 ds 6*l9 (a7 ds 2) (a7 ds 3) (a7 ds 4) (a7 ds 5))):=by
  unfold a4L;rw[b8e,Bool.not_not]
 rw[hA]
 refine⟨fun h=> ?_,fun h=>⟨fun h'=> ?_,fun h'=>⟨?_,?_,?_,?_,?_,?_,?_,?_,fun m=> ?_,fun m=>⟨fun m'=> ?_,fun m'=> ?_⟩⟩⟩⟩
 ·unfold F7 l9
  rw[if_pos h]
  congr 1
 ·unfold F7
  rw[if_neg h,if_pos (show l9 _ _ _ _≤_ by unfold l9;exact h'),D2]
  congr 1
 case refine_11=>
  unfold F7
  rw[if_neg h,if_neg (show ¬l9 _ _ _ _≤_ by unfold l9;exact h'),decide_eq_false]
  unfold a8 l9
  have:=a0C.mp (.inl m)
  omega
 case refine_12=>
  unfold F7
  rw[if_neg h,if_neg (show ¬l9 _ _ _ _≤_ by unfold l9;exact h')]
  congr 1
  rw[Bool.eq_iff_iff,Bool.not_eq_true',decide_eq_true_eq,←Bool.not_eq_true,n8]
  unfold a8 l9
  rw[←Int.not_le,←a0C]
  simp only[j8]
  omega
 case refine_13=>
  unfold F7
  rw[if_neg h,if_neg (show ¬l9 _ _ _ _≤_ by unfold l9;exact h'),decide_eq_true]
  unfold a8 l9
  rw[←Int.not_le,←a0C]
  omega
 all_goals omega
theorem b1e(r:Rows)(x y:Int):a9x [.i x,.i y,.l r]=j9 r x y r.length 0 false:=rfl
theorem c3d{p q:Rows}(hp:j6 p=true)(hq:j6 q=true){i k:Nat}(hi:i<p.length)(hk:k<q.length):a0W p q i k=n9 (lg p i 0) (lg p i 1) (lg p (nxt p.length i) 0) (lg p (nxt p.length i) 1) (lg q k 0) (lg q k 1) (lg q (nxt q.length k) 0) (lg q (nxt q.length k) 1):=a5T hp hq hi hk
set_option maxHeartbeats 1000000 in
theorem d4B:m8 Tryz.prog 63 [A8,A8] (fun ds=> .tuple #[.bool (J4 ds),.int .i64 (O5 ds)]):=by
 refine GivesIf.all (i7 KX (by kernel_rfl) (fun ρ h=>a9V (Sees.of h 102)) (by kernel_rfl) c0T b7P (by decide) (fun W vals ds hr _=> ?_))
 simp only[b3J,g9,Nat.reduceBEq,Nat.reduceLT,Nat.reduceSub,c7L,P8]
 have F:a1s ds=false→Value.tuple #[.bool false,.int .i64 1]=Value.tuple #[.bool (J4 ds),.int .i64 (O5 ds)]:=fun h=>by simp [J4,O5,h]
 refine⟨fun h=>F ?_,fun h1=>⟨fun h=>F ?_,fun h2=> ?_⟩⟩
 ·simp only[a1s,h,Bool.false_and]
 ·simp only[a1s,h,Bool.and_false]
 have T:∀b,S3 (b9 ds 0) (b9 ds 1)=b→Value.tuple #[.bool b,.int .i64 0]=Value.tuple #[.bool (J4 ds),.int .i64 (O5 ds)]:=fun b h=>by simp [J4,O5,a1s,h1,h2,h]
 rw[d0q h1 h2] at T
 clear F hr
 have l1:=H3 h1
 have l2:=H3 h2
 generalize hp:b9 ds 0=p at*
 generalize hq:b9 ds 1=q at*
 generalize hG:(tmN p q p.length 0||(decide (0≤j9 q (lg p 0 0) (lg p 0 1) q.length 0 false)||decide (0≤j9 p (lg q 0 0) (lg q 0 1) p.length 0 false)))=G at*
 have pl:∀k:Nat,k<p.length→f9 (lg p k 0) (lg p k 1)=true:=fun k hk=>x9 h1 hk
 have ql:∀k:Nat,k<q.length→f9 (lg q k 0) (lg q k 1)=true:=fun k hk=>x9 h2 hk
 refine TT.sat_loop (fun v=>∃i:Nat,v.i 0=i∧i≤p.length∧(tmN p q (p.length-i) i||(decide (0≤j9 q (lg p 0 0) (lg p 0 1) q.length 0 false)||decide (0≤j9 p (lg q 0 0) (lg q 0 1) p.length 0 false)))=G) (fun v=>p.length-(v.i 0).toNat)
  ⟨0,by simp [j5,i8,E.ev],by omega,hG⟩ (fun v hv=> ?_)
 obtain⟨i,i0,i1,i2⟩:=hv
 simp only[g9,Nat.reduceBEq,Nat.reduceLT,Nat.reduceSub,i0,hp,hq,d4d,d5Y,c7L,b1e,D7,P8]
 refine⟨fun hc=> ?_,fun hc=> ?_⟩
 ·have hi:i<p.length:=by omega
  have hn:=u6 hi
  obtain⟨f,hf⟩:∃f,p.length-i=f+1:=⟨p.length-i-1,by omega⟩
  rw[hf,tmN] at i2
  have hf':p.length-(i+1)=f:=by omega
  refine TT.sat_loop (fun u=>∃k:Nat,u.i 0=k∧k≤q.length∧((a0O p q i (q.length-k) k||tmN p q f (i+1))||(decide (0≤j9 q (lg p 0 0) (lg p 0 1) q.length 0 false)||decide (0≤j9 p (lg q 0 0) (lg q 0 1) p.length 0 false)))=G) (fun u=>q.length-(u.i 0).toNat)
   ⟨0,by simp [j5,i8,E.ev],by omega,i2⟩ (fun u hu=> ?_)
  obtain⟨k,k0,k1,k2⟩:=hu
  simp only[g9,Nat.reduceBEq,Nat.reduceLT,Nat.reduceSub,i0,k0,hp,hq,d6a,d5F,S2,W5]
  refine⟨fun hk=> ?_,fun hk=> ?_⟩
  ·have hkn:k<q.length:=by omega
   have hn':=u6 hkn
   obtain⟨g,hg⟩:∃g,q.length-k=g+1:=⟨q.length-k-1,by omega⟩
   rw[hg,a0O,c3d h1 h2 hi hkn] at k2
   have hg':q.length-(k+1)=g:=by omega
   rw[P0 hkn (by omega),P0 hi (by omega),b8 ((k:Int)+1) (by omega) (by omega)]
   simp only[pl i hi,pl _ hn,ql k hkn,ql _ hn',Bool.and_self]
   refine⟨by omega,by omega,by omega,by omega,by omega,by omega,by omega,by omega,by omega,by omega,by simp,fun h=>T _ ?_,fun h=>⟨⟨k+1,rfl,by omega,?_⟩,by omega⟩⟩
   ·rw[←k2,h];rfl
   ·rw[hg',←k2,h];rfl
  ·have:q.length-k=0:=by omega
   rw[this,a0O,Bool.false_or] at k2
   rw[b8 ((i:Int)+1) (by omega) (by omega)]
   exact⟨⟨i+1,rfl,by omega,by rw[hf'];exact k2⟩,by omega⟩
 ·have:p.length-i=0:=by omega
  rw[this,tmN,Bool.false_or] at i2
  have a1:=pl 0 (by omega)
  have a2:=ql 0 (by omega)
  refine⟨by omega,a1,h2,fun a=>T _ ?_,fun a=>⟨by omega,a2,h1,T _ ?_⟩⟩
  ·rw[←i2,decide_eq_true (p:=0≤j9 q (lg p 0 0) (lg p 0 1) q.length 0 false) (by omega)];rfl
  ·rw[←i2,decide_eq_false (p:=0≤j9 q (lg p 0 0) (lg p 0 1) q.length 0 false) (by omega),Bool.false_or,Bool.eq_iff_iff,n8]
   simp only[j8,decide_eq_true_eq,ge_iff_le]
def atO(ds:List D):Bool:=V4 (b9 ds 0)&&z8 (a7 ds 1) (a7 ds 2)
def R2:Interp where
 fi n l:=match n with | 106=>d0t l | 107=>d1B l | n=>KX.fi n l
 fb n l:=match n with | 102=>d5D l | 103=>a4L l | 104=>d6h l | 105=>atO l | n=>KX.fb n l
 fd _ _:=[]
theorem c1W{ρ:Env}(h:Sees ρ R2 112):Sees ρ KX 102:=h.trans (by decide) fun n l hn=>by
 refine⟨?_,?_⟩
 ·
  simp only[R2]
  split<;>first | omega | rfl
 ·
  simp only[R2]
  split<;>first | omega | rfl
theorem d0R{ρ:Env}(h:Sees ρ R2 112):Sees ρ KG 80:=c6P (c1W h)
def d3p(al:AL):T V:=match al with
 | .i a (.i b (.i c (.i d (.i e (.i f (.i r .nil))))))=>T.obs [.tru (.fn 1 (.i a (.i b (.i c (.i d (.i e (.i f .nil))))))),.tru (.cmpS .leq (.lit 0) r),.tru (.cmpS .leq r (.lit 3000000))] (.ret (bV (bF 103 a4L al)))
 | _=> .stuck "nearer"
def d1R:=u7 [pt,pt,pt,it] d3p
theorem c8E{ρ:Env}(h:Sees ρ R2 112):i9 Tryz.prog ρ 87 d1R:=by
 refine C7 d5O (fun al v hv=> ?_)
 have h1:∀l,ρ.fb 1 l=u0 l:=fun l=>by rw[(d0R h 1 l (by decide)).2];simp only[KG,KF,KE,KD,KC,KB,KA,K9,K8,K7,K6,K5,K]
 unfold d3p at hv
 split at hv
 ·rename_i a b c d e f r
  obtain⟨ho,hv⟩:=T.res_obs hv
  obtain rfl:=c9 hv
  have o1:=ho _ (List.mem_cons_self ..)
  have o2:=ho _ (List.mem_cons_of_mem _ (List.mem_cons_self ..))
  have o3:=ho _ (List.mem_cons_of_mem _ (List.mem_cons_of_mem _ (List.mem_cons_self ..)))
  simp only[Ob.ok,B.cmpS_ev,n8,j8,E.ev,B.ev,AL.ev,h1] at o1 o2 o3
  refine⟨rfl,?_,?_⟩
  ·show(u0 _&&A5 (r.ev ρ))=true
   rw[Bool.and_eq_true,A5,decide_eq_true_eq]
   exact⟨o1,o2,o3⟩
  ·simp only[bV,V.s0,V.val,V2.val,S.val,S0.val,m9 (s:=103) (f:=a4L) (fun l=>by rw[(h 103 l (by decide)).2];simp only[R2])]
 ·exact hv.elim
def c6o:Ct:=(87,d1R)::b8d
theorem b6L{ρ:Env}(h:Sees ρ R2 112):CtOk Tryz.prog ρ c6o:= .cons (c8E h)<|(a9V (c1W h))
def b4f:TT j4:=
(.ite (.cmp .geq (.var 3) (.lit 0))
 (.ite (.not (.fn 69 (.x (.var 0) .nil)))
 (.ret ((.tup [(.one (.z (.int .i64 (.lit 0)))),(.one (.z (.int .i64 (.lit 1))))]),[],1))
 (.ite (.not (.fn 3 (.i (.var 1) (.i (.var 2) .nil))))
 (.ret ((.tup [(.one (.z (.int .i64 (.lit 0)))),(.one (.z (.int .i64 (.lit 1))))]),[],1))
 (.ite (.not (.cmp .leq (.var 3) (.lit 3000000)))
 (.ret ((.tup [(.one (.z (.int .i64 (.lit 0)))),(.one (.z (.int .i64 (.lit 1))))]),[],1))
 (.loop 0 2000 ⟨[(2,(.lit 0))],[(0,(.lit false)),(1,(.lit false))],[]⟩
 (.ite (.cmp .lss (.var 2002) (.len (.var 0)))
 (.ite (.var 2000)
 (.ite (.var 2001)
 (.next 0 ⟨[(2,(.ar .add .i64 (.var 2002) (.lit 1)))],[(0,(.lit true)),(1,(.lit true))],[]⟩)
 (.ob (.tru (.cmp .leq (.lit 0) (.var 2002)))
 (.ob (.tru (.cmp .lss (.var 2002) (.len (.var 0))))
 (.ob (.tru (.cmp .neq (.len (.var 0)) (.lit 0)))
 (.ob (.tru (.cmp .leq (.lit 0) (.ar .rem .i64 (.ar .add .i64 (.var 2002) (.lit 1)) (.len (.var 0)))))
 (.ob (.tru (.cmp .lss (.ar .rem .i64 (.ar .add .i64 (.var 2002) (.lit 1)) (.len (.var 0))) (.len (.var 0))))
 (.ob (.tru (.fn 1 (.i (.var 1) (.i (.var 2) (.i (.rd (.var 0) (.var 2002) 0) (.i (.rd (.var 0) (.var 2002) 1) (.i (.rd (.var 0) (.ar .rem .i64 (.ar .add .i64 (.var 2002) (.lit 1)) (.len (.var 0))) 0) (.i (.rd (.var 0) (.ar .rem .i64 (.ar .add .i64 (.var 2002) (.lit 1)) (.len (.var 0))) 1) .nil))))))))
 (.ob (.tru (.cmp .leq (.lit 0) (.var 3)))
 (.ob (.tru (.cmp .leq (.var 3) (.lit 3000000)))
 (.next 0 ⟨[(2,(.ar .add .i64 (.var 2002) (.lit 1)))],[(0,(.lit true)),(1,(.fn 103 (.i (.var 1) (.i (.var 2) (.i (.rd (.var 0) (.var 2002) 0) (.i (.rd (.var 0) (.var 2002) 1) (.i (.rd (.var 0) (.ar .rem .i64 (.ar .add .i64 (.var 2002) (.lit 1)) (.len (.var 0))) 0) (.i (.rd (.var 0) (.ar .rem .i64 (.ar .add .i64 (.var 2002) (.lit 1)) (.len (.var 0))) 1) (.i (.var 3) .nil)))))))))],[]⟩))))))))))
 (.ob (.tru (.cmp .leq (.lit 0) (.var 2002)))
 (.ob (.tru (.cmp .lss (.var 2002) (.len (.var 0))))
 (.ob (.tru (.cmp .neq (.len (.var 0)) (.lit 0)))
 (.ob (.tru (.cmp .leq (.lit 0) (.ar .rem .i64 (.ar .add .i64 (.var 2002) (.lit 1)) (.len (.var 0)))))
 (.ob (.tru (.cmp .lss (.ar .rem .i64 (.ar .add .i64 (.var 2002) (.lit 1)) (.len (.var 0))) (.len (.var 0))))
 (.ob (.tru (.fn 1 (.i (.var 1) (.i (.var 2) (.i (.rd (.var 0) (.var 2002) 0) (.i (.rd (.var 0) (.var 2002) 1) (.i (.rd (.var 0) (.ar .rem .i64 (.ar .add .i64 (.var 2002) (.lit 1)) (.len (.var 0))) 0) (.i (.rd (.var 0) (.ar .rem .i64 (.ar .add .i64 (.var 2002) (.lit 1)) (.len (.var 0))) 1) .nil))))))))
 (.ob (.tru (.cmp .leq (.lit 0) (.var 3)))
 (.ob (.tru (.cmp .leq (.var 3) (.lit 3000000)))
 (.ite (.var 2001)
 (.next 0 ⟨[(2,(.ar .add .i64 (.var 2002) (.lit 1)))],[(0,(.fn 2 (.i (.var 1) (.i (.var 2) (.i (.rd (.var 0) (.var 2002) 0) (.i (.rd (.var 0) (.var 2002) 1) (.i (.rd (.var 0) (.ar .rem .i64 (.ar .add .i64 (.var 2002) (.lit 1)) (.len (.var 0))) 0) (.i (.rd (.var 0) (.ar .rem .i64 (.ar .add .i64 (.var 2002) (.lit 1)) (.len (.var 0))) 1) (.i (.var 3) .nil))))))))),(1,(.lit true))],[]⟩)
 (.ob (.tru (.cmp .leq (.lit 0) (.var 2002)))
 (.ob (.tru (.cmp .lss (.var 2002) (.len (.var 0))))
 (.ob (.tru (.cmp .neq (.len (.var 0)) (.lit 0)))
 (.ob (.tru (.cmp .leq (.lit 0) (.ar .rem .i64 (.ar .add .i64 (.var 2002) (.lit 1)) (.len (.var 0)))))
 (.ob (.tru (.cmp .lss (.ar .rem .i64 (.ar .add .i64 (.var 2002) (.lit 1)) (.len (.var 0))) (.len (.var 0))))
 (.ob (.tru (.fn 1 (.i (.var 1) (.i (.var 2) (.i (.rd (.var 0) (.var 2002) 0) (.i (.rd (.var 0) (.var 2002) 1) (.i (.rd (.var 0) (.ar .rem .i64 (.ar .add .i64 (.var 2002) (.lit 1)) (.len (.var 0))) 0) (.i (.rd (.var 0) (.ar .rem .i64 (.ar .add .i64 (.var 2002) (.lit 1)) (.len (.var 0))) 1) .nil))))))))
 (.ob (.tru (.cmp .leq (.lit 0) (.var 3)))
 (.ob (.tru (.cmp .leq (.var 3) (.lit 3000000)))
 (.next 0 ⟨[(2,(.ar .add .i64 (.var 2002) (.lit 1)))],[(0,(.fn 2 (.i (.var 1) (.i (.var 2) (.i (.rd (.var 0) (.var 2002) 0) (.i (.rd (.var 0) (.var 2002) 1) (.i (.rd (.var 0) (.ar .rem .i64 (.ar .add .i64 (.var 2002) (.lit 1)) (.len (.var 0))) 0) (.i (.rd (.var 0) (.ar .rem .i64 (.ar .add .i64 (.var 2002) (.lit 1)) (.len (.var 0))) 1) (.i (.var 3) .nil))))))))),(1,(.fn 103 (.i (.var 1) (.i (.var 2) (.i (.rd (.var 0) (.var 2002) 0) (.i (.rd (.var 0) (.var 2002) 1) (.i (.rd (.var 0) (.ar .rem .i64 (.ar .add .i64 (.var 2002) (.lit 1)) (.len (.var 0))) 0) (.i (.rd (.var 0) (.ar .rem .i64 (.ar .add .i64 (.var 2002) (.lit 1)) (.len (.var 0))) 1) (.i (.var 3) .nil)))))))))],[]⟩)))))))))))))))))))
 (.ob (.tru (.fn 3 (.i (.var 1) (.i (.var 2) .nil))))
 (.ob (.tru (.fn 69 (.x (.var 0) .nil)))
 (.ite (.cmp .geq (.fn 98 (.i (.var 1) (.i (.var 2) (.x (.var 0) .nil)))) (.lit 0))
 (.ite (.not (.var 2001))
 (.ret ((.tup [(.one (.z (.int .i64 (.lit 1)))),(.one (.z (.int .i64 (.lit 0))))]),[],4))
 (.ite (.cmp .lss (.fn 98 (.i (.var 1) (.i (.var 2) (.x (.var 0) .nil)))) (.lit 0))
 (.ite (.not (.var 2000))
 (.ret ((.tup [(.one (.z (.int .i64 (.lit (-1))))),(.one (.z (.int .i64 (.lit 0))))]),[],4))
 (.ret ((.tup [(.one (.z (.int .i64 (.lit 0)))),(.one (.z (.int .i64 (.lit 0))))]),[],4)))
 (.ret ((.tup [(.one (.z (.int .i64 (.lit 0)))),(.one (.z (.int .i64 (.lit 0))))]),[],4))))
 (.ite (.cmp .lss (.fn 98 (.i (.var 1) (.i (.var 2) (.x (.var 0) .nil)))) (.lit 0))
 (.ite (.not (.var 2000))
 (.ret ((.tup [(.one (.z (.int .i64 (.lit (-1))))),(.one (.z (.int .i64 (.lit 0))))]),[],4))
 (.ret ((.tup [(.one (.z (.int .i64 (.lit 0)))),(.one (.z (.int .i64 (.lit 0))))]),[],4)))
 (.ret ((.tup [(.one (.z (.int .i64 (.lit 0)))),(.one (.z (.int .i64 (.lit 0))))]),[],4)))))))))))
 (.ite (.not (.fn 69 (.x (.var 0) .nil)))
 (.ret ((.tup [(.one (.z (.int .i64 (.lit 0)))),(.one (.z (.int .i64 (.lit 1))))]),[],1))
 (.ite (.not (.fn 3 (.i (.var 1) (.i (.var 2) .nil))))
 (.ret ((.tup [(.one (.z (.int .i64 (.lit 0)))),(.one (.z (.int .i64 (.lit 1))))]),[],1))
 (.ret ((.tup [(.one (.z (.int .i64 (.lit 0)))),(.one (.z (.int .i64 (.lit 1))))]),[],1)))))
def c4h:List (Nat×St):=[
(1,⟨(List.append [(.v (.one (.z (.ext [(.int .i64),(.int .i64)] (.var 0) false)))),(.v (.agg [(.z (.int .i64 (.var 1))),(.z (.int .i64 (.var 2)))])),(.v (.one (.z (.int .i64 (.var 3))))),(.v (.one (.z .any))),(.v (.one (.z (.ptr 0 0)))),(.v (.one (.z .any))),(.v (.one (.z (.int .i64 (.lit 0))))),(.v (.one (.z (.int .i64 (.lit 0))))),(.v (.one (.z (.bool (.fn 69 (.x (.var 0) .nil)))))),(.v (.one (.z (.bool (.fn 3 (.i (.var 1) (.i (.var 2) .nil))))))),(.v (.one (.z (.bool (.cmp .leq (.var 3) (.lit 3000000)))))),(.v (.one (.z (.bool (.var 2000))))),(.v (.one (.z (.bool (.var 2001))))),(.v (.one (.z (.int .i64 (.var 2002))))),(.v (.one (.z .any))),(.v (.one (.z (.ext [(.int .i64),(.int .i64)] (.var 0) false)))),(.v (.one (.z (.bool (.fn 69 (.x (.var 0) .nil)))))),(.v (.agg [(.z (.int .i64 (.var 1))),(.z (.int .i64 (.var 2)))])),(.v (.one (.z (.bool (.fn 3 (.i (.var 1) (.i (.var 2) .nil))))))),(.v (.one (.z (.int .i64 (.var 3))))),(.v (.one (.z (.bool (.cmp .leq (.var 3) (.lit 3000000)))))),(.v (.one (.z (.bool (.fn 69 (.x (.var 0) .nil)))))),(.v (.one (.z (.bool (.not (.fn 69 (.x (.var 0) .nil))))))),(.v (.one (.z (.bool (.lit false))))),(.v (.one (.z (.bool (.fn 3 (.i (.var 1) (.i (.var 2) .nil))))))),(.v (.one (.z (.bool (.not (.fn 3 (.i (.var 1) (.i (.var 2) .nil)))))))),(.v (.one (.z (.bool (.not (.fn 3 (.i (.var 1) (.i (.var 2) .nil)))))))),(.v (.one (.z (.bool (.lit false))))),(.v (.one (.z (.bool (.cmp .leq (.var 3) (.lit 3000000)))))),(.v (.one (.z (.bool (.not (.cmp .leq (.var 3) (.lit 3000000))))))),(.v (.one (.z (.bool (.not (.cmp .leq (.var 3) (.lit 3000000)))))))] (List.replicate 47 V.any)),[(0,(.cells 23 [(.z (.int .i64 (.var 1))),(.z (.int .i64 (.var 2)))]))],2,[]⟩)]
def c4E:List (FuncId×Nat×Nat×St):=[
]
set_option maxRecDepth 100000 in
theorem c1S:T.norm 0 (call Tryz.prog c6o ⟨Lt.un (Lt.of []),c4h,c4E⟩ 100 62 (g7 0 [A8,pt,it]) [] 0) TT.ret=b4f:=by kernel_rfl
theorem b9a:b4f.low 1000=true:=by kernel_rfl
theorem d3R(W:World)(ds l:List D):(a9 R2 W ds).fb 1 l=u0 l:=by simp only[a9,R2,KX,KW,KV,KU,KT,KR,KG,KF,KE,KD,KC,KB,KA,K9,K8,K7,K6,K5,K]
theorem d3A(W:World)(ds l:List D):(a9 R2 W ds).fb 2 l=J1 l:=by simp only[a9,R2,KX,KW,KV,KU,KT,KR,KG,KF,KE,KD,KC,KB,KA,K9,K8,K7,K6,K5,K]
theorem c7i(W:World)(ds l:List D):(a9 R2 W ds).fb 3 l=w7 l:=by simp only[a9,R2,KX,KW,KV,KU,KT,KR,KG,KF,KE,KD,KC,KB,KA,K9,K8,K7,K6,K5,K]
theorem c1b(W:World)(ds l:List D):(a9 R2 W ds).fb 69 l=H0 l:=by simp only[a9,R2,KX,KW,KV,KU,KT,KR,KG,KF,KE,KD,KC,KB]
theorem d2F(W:World)(ds l:List D):(a9 R2 W ds).fi 98 l=a9x l:=by simp only[a9,R2,KX,KW,KV]
theorem c9h(W:World)(ds l:List D):(a9 R2 W ds).fb 103 l=a4L l:=by simp only[a9,R2]
def d5I(ds:List D):Bool:=c6G (b9 ds 0) (a7 ds 1) (a7 ds 2) (a7 ds 3) (a7 ds 4) (b9 ds 0).length 0
def d6z(ds:List D):Bool:=j6 (b9 ds 0)&&(f9 (a7 ds 1) (a7 ds 2)&&c3B (a7 ds 3) (a7 ds 4))
theorem c9j(a b c d e f r:Int):a4L [.i a,.i b,.i c,.i d,.i e,.i f,.i r]= !U1 a b c d e f r:=rfl
set_option maxHeartbeats 2000000 in
theorem d3L:m8 Tryz.prog 62 [A8,pt,it] (fun ds=> .tuple #[.int .i64 (G9 ds),.int .i64 (M3 ds)]):=by
 refine GivesIf.all (i7 R2 (by kernel_rfl) (fun ρ h=>b6L (Sees.of h 112)) (by kernel_rfl) c1S b9a (by decide) (fun W vals ds hr _=> ?_))
 simp only[b4f,g9,Nat.reduceBEq,Nat.reduceLT,Nat.reduceSub,c1b,P8,c7i,D7]
 have F:U4 ds=false→Value.tuple #[.int .i64 0,.int .i64 1]=Value.tuple #[.int .i64 (G9 ds),.int .i64 (M3 ds)]:=fun h=>by simp [G9,M3,h]
 have FR:¬(0≤a7 ds 3∧a7 ds 3≤3000000)→U4 ds=false:=fun h=>by simp only[U4,A5,Bool.and_eq_false_imp,decide_eq_false_iff_not];omega
 refine⟨fun r0=>⟨fun h=>F (by simp only[U4,h,Bool.false_and]),fun h1=>⟨fun h=>F (by simp only[U4,h,Bool.false_and,Bool.and_false]),fun h2=>⟨fun h=>F (FR (by omega)),fun r1=> ?_⟩⟩⟩,fun r0=>⟨fun _=>F (FR (by omega)),fun _=>⟨fun _=>F (FR (by omega)),fun _=>F (FR (by omega))⟩⟩⟩
 have hd:0≤a7 ds 3∧a7 ds 3≤3000000:=by omega
 have hO:U4 ds=true:=by simp only[U4,h1,h2,A5,Bool.true_and,decide_eq_true_eq];omega
 have T:∀n,Q6 (b9 ds 0) (a7 ds 1) (a7 ds 2) (a7 ds 3)=n→Value.tuple #[.int .i64 n,.int .i64 0]=Value.tuple #[.int .i64 (G9 ds),.int .i64 (M3 ds)]:=fun b h=>by simp [G9,M3,hO,h]
 clear F FR hr hO
 have l1:=H3 h1
 generalize e0:b9 ds 0=r at*
 generalize e1:a7 ds 1=x at*
 generalize e2:a7 ds 2=y at*
 generalize e3:a7 ds 3=d at*
 have pl:∀k:Nat,k<r.length→f9 (lg r k 0) (lg r k 1)=true:=fun k hk=>x9 h1 hk
 have EN:∀i:Nat,i<r.length→b1Y r x y d i=A9 x y (lg r i 0) (lg r i 1) (lg r (nxt r.length i) 0) (lg r (nxt r.length i) 1) d:=fun i hi=>c4M h1 h2 hd hi
 have EA:∀i:Nat,i<r.length→a8y r x y d i=U1 x y (lg r i 0) (lg r i 1) (lg r (nxt r.length i) 0) (lg r (nxt r.length i) 1) d:=fun i hi=>by
  have ho:a2j [.i x,.i y,.i (lg r i 0),.i (lg r i 1),.i (lg r (nxt r.length i) 0),.i (lg r (nxt r.length i) 1),.i d]=true:=by
   show((f9 x y&&f9 (lg r i 0) (lg r i 1)&&f9 (lg r (nxt r.length i) 0) (lg r (nxt r.length i) 1))&&A5 d)=true
   rw[h2,pl i hi,pl _ (u6 hi),A5,decide_eq_true hd];rfl
  unfold a8y a2f
  rw[ho]
  rfl
 refine TT.sat_loop (fun v=>∃i:Nat,v.i 2=i∧i≤r.length∧(v.b 0||S5 r x y d (r.length-i) i)=S5 r x y d r.length 0∧(v.b 1|| !S8 r x y d (r.length-i) i)= !S8 r x y d r.length 0) (fun v=>r.length-(v.i 2).toNat)
  ⟨0,by simp [j5,i8,E.ev],by omega,by simp [a6e,i8,B.ev],by simp [a6e,i8,B.ev]⟩ (fun v hv=> ?_)
 obtain⟨i,i0,i1,i2,i3⟩:=hv
 simp only[g9,Nat.reduceBEq,Nat.reduceLT,Nat.reduceSub,i0,e0,e1,e2,e3,d2F,d3R,d3A,c7i,c1b,c9h,b1e,D7,P8,R7,b4G,c9j]
 refine⟨fun hc=> ?_,fun hc=> ?_⟩
 ·have hi:i<r.length:=by omega
  have hn:=u6 hi
  obtain⟨f,hf⟩:∃f,r.length-i=f+1:=⟨r.length-i-1,by omega⟩
  rw[hf,S5,EN i hi] at i2
  rw[hf,S8,EA i hi] at i3
  have hf':r.length-(i+1)=f:=by omega
  simp only[P0 hi (show r.length≤281474976710656 by omega),h2,pl i hi,pl _ hn,Bool.and_self]
  rw[b8 ((i:Int)+1) (by omega) (by omega)]
  have N:∀b c:Bool,(b||S5 r x y d f (i+1))=S5 r x y d r.length 0→(c|| !S8 r x y d f (i+1))=(!S8 r x y d r.length 0)→(∃j:Nat,(i:Int)+1=j∧j≤r.length∧(b||S5 r x y d (r.length-j) j)=S5 r x y d r.length 0∧(c|| !S8 r x y d (r.length-j) j)= !S8 r x y d r.length 0)∧r.length-((i:Int)+1).toNat<r.length-(i:Int).toNat:=
   fun b c hb hc=>⟨⟨i+1,rfl,by omega,by rw[hf'];exact hb,by rw[hf'];exact hc⟩,by omega⟩
  clear T EN EA
  generalize A9 x y (lg r i 0) (lg r i 1) (lg r (nxt r.length i) 0) (lg r (nxt r.length i) 1) d=nb at*
  generalize U1 x y (lg r i 0) (lg r i 1) (lg r (nxt r.length i) 0) (lg r (nxt r.length i) 1) d=ab at*
  refine⟨fun a=>⟨fun b=>N _ _ ?_ ?_,fun b=>⟨by omega,by omega,by omega,by omega,by omega,by simp,by omega,by omega,N _ _ ?_ ?_⟩⟩,fun a=>⟨by omega,by omega,by omega,by omega,by omega,by simp,by omega,by omega,fun b=>N _ _ ?_ ?_,fun b=>⟨by omega,by omega,by omega,by omega,by omega,by simp,by omega,by omega,N _ _ ?_ ?_⟩⟩⟩
  all_goals first
   | (rw[←i2,a];clear N i2 i3;cases nb<;>simp;done)
   | (rw[←i3,b];clear N i2 i3;cases ab<;>simp;done)
   | (rw[←i2,a,Bool.false_or];done)
 ·have h0:r.length-i=0:=by omega
  rw[h0,S5,Bool.or_false] at i2
  rw[h0,S8,Bool.not_true,Bool.or_false] at i3
  rw[i2,i3]
  refine⟨h2,h1,fun a=>⟨fun b=>T _ ?_,fun b=>⟨fun c=>absurd a (by omega),fun c=>T _ ?_⟩⟩,fun a=>⟨fun c=>⟨fun e=>T _ ?_,fun e=>T _ ?_⟩,fun c=>absurd c (by omega)⟩⟩
  ·rw[Q6,if_pos a,if_pos (by simpa using b)]
  ·rw[Q6,if_pos a,if_neg (by simpa using b)]
  ·rw[Q6,if_neg a,if_neg (by rw[e];decide)]
  ·rw[Q6,if_neg a,if_pos e]
def KWb:Interp where
 fi n l:=match n with | 112=>O5 l | 115=>G9 l | 116=>M3 l | 117=>saE l | n=>R2.fi n l
 fb n l:=match n with | 112=>J4 l | 113=>d5I l | 114=>d6z l | 117=>saR l | n=>R2.fb n l
 fd _ _:=[]
theorem c9g{ρ:Env}(h:Sees ρ KWb 122):Sees ρ R2 112:=h.trans (by decide) fun n l hn=>by
 refine⟨?_,?_⟩
 ·
  simp only[KWb]
  split<;>first | omega | rfl
 ·
  simp only[KWb]
  split<;>first | omega | rfl
def c7K:=u7 [A8,A8] fun al=> .ret (.tup [.one (T7 112 J4 al),.one (w9 112 O5 al)])
theorem c4k{ρ:Env}(h:Sees ρ KWb 122):i9 Tryz.prog ρ 63 c7K:=
 j7 d4B (fun _=>rfl) (fun al=>by simp only[V.val,V2.val,S.val,S0.val,w9,T7,List.map_cons,List.map_nil,m9 (s:=112) (f:=J4) (fun l=>by rw[(h 112 l (by decide)).2];simp only[KWb]),k8 (s:=112) (f:=O5) (fun l=>by rw[(h 112 l (by decide)).1];simp only[KWb])];try rfl)
def c7Y:=u7 [A8,pt,it] fun al=> .ret (.tup [.one (w9 115 G9 al),.one (w9 116 M3 al)])
theorem c5U{ρ:Env}(h:Sees ρ KWb 122):i9 Tryz.prog ρ 62 c7Y:=
 j7 d3L (fun _=>rfl) (fun al=>by simp only[V.val,V2.val,S.val,S0.val,w9,T7,List.map_cons,List.map_nil,k8 (s:=115) (f:=G9) (fun l=>by rw[(h 115 l (by decide)).1];simp only[KWb]),k8 (s:=116) (f:=M3) (fun l=>by rw[(h 116 l (by decide)).1];simp only[KWb])];try rfl)
def d1h:Ct:=(63,c7K)::(62,c7Y)::c6o
theorem c8w{ρ:Env}(h:Sees ρ KWb 122):CtOk Tryz.prog ρ d1h:= .cons (c4k h)<| .cons (c5U h)<|(b6L (c9g h))
end Go.Proofs.YtcjaembdcfppfaaGreat
