/- MT, merged: TEa, Ea, TEb, Eb, TEc, Ec. -/
import Derived.Test.YtldbejmgalhdaaaGreatMI
set_option linter.unusedSimpArgs false
set_option linter.unusedVariables false
namespace Go.Proofs.YtldbejmgalhdaaaGreat
open Go.RowKit
def b1E:TT j6:=
(.ite (.not (.fn 3 (.i (.var 0) (.i (.var 1) .nil))))
 (.ret ((.tup [(.one (.z (.bool (.lit false)))),(.one (.z (.int .i64 (.lit 1))))]),[],5))
 (.ite (.not (.fn 3 (.i (.var 2) (.i (.var 3) .nil))))
 (.ret ((.tup [(.one (.z (.bool (.lit false)))),(.one (.z (.int .i64 (.lit 1))))]),[],6))
 (.ite (.not (.fn 3 (.i (.var 4) (.i (.var 5) .nil))))
 (.ret ((.tup [(.one (.z (.bool (.lit false)))),(.one (.z (.int .i64 (.lit 1))))]),[],7))
 (.ite (.cmp .geq (.var 6) (.lit 0))
 (.ite (.not (.cmp .leq (.var 6) (.lit 3000000)))
 (.ret ((.tup [(.one (.z (.bool (.lit false)))),(.one (.z (.int .i64 (.lit 1))))]),[],7))
 (.ite (.cmp .leq (.ar .add .i64 (.ar .mul .i64 (.ar .sub .i64 (.var 4) (.var 2)) (.ar .sub .i64 (.var 0) (.var 2))) (.ar .mul .i64 (.ar .sub .i64 (.var 5) (.var 3)) (.ar .sub .i64 (.var 1) (.var 3)))) (.lit 0))
 (.ob (.tru (.cmp .leq (.lit 0) (.ar .mul .i64 (.var 6) (.var 6))))
 (.ob (.tru (.cmp .lss (.ar .mul .i64 (.var 6) (.var 6)) (.lit 9223372036854775808)))
 (.ob (.tru (.lit true))
 (.ob (.tru (.lit true))
 (.ob (.tru (.cmp .leq (.lit 0) (.ar .add .i64 (.ar .mul .i64 (.ar .sub .i64 (.var 0) (.var 2)) (.ar .sub .i64 (.var 0) (.var 2))) (.ar .mul .i64 (.ar .sub .i64 (.var 1) (.var 3)) (.ar .sub .i64 (.var 1) (.var 3))))))
 (.ob (.tru (.cmp .lss (.ar .add .i64 (.ar .mul .i64 (.ar .sub .i64 (.var 0) (.var 2)) (.ar .sub .i64 (.var 0) (.var 2))) (.ar .mul .i64 (.ar .sub .i64 (.var 1) (.var 3)) (.ar .sub .i64 (.var 1) (.var 3)))) (.lit 9223372036854775808)))
 (.ob (.tru (.lit true))
 (.ob (.tru (.lit true))
 (.ret ((.tup [(.one (.z (.bool (.fn 0 (.i (.ar .mul .i64 (.var 6) (.var 6)) (.i (.lit 1) (.i (.ar .add .i64 (.ar .mul .i64 (.ar .sub .i64 (.var 0) (.var 2)) (.ar .sub .i64 (.var 0) (.var 2))) (.ar .mul .i64 (.ar .sub .i64 (.var 1) (.var 3)) (.ar .sub .i64 (.var 1) (.var 3)))) (.i (.lit 1) .nil)))))))),(.one (.z (.int .i64 (.lit 0))))]),[],24))))))))))
 (.ite (.cmp .geq (.ar .add .i64 (.ar .mul .i64 (.ar .sub .i64 (.var 4) (.var 2)) (.ar .sub .i64 (.var 0) (.var 2))) (.ar .mul .i64 (.ar .sub .i64 (.var 5) (.var 3)) (.ar .sub .i64 (.var 1) (.var 3)))) (.ar .add .i64 (.ar .mul .i64 (.ar .sub .i64 (.var 4) (.var 2)) (.ar .sub .i64 (.var 4) (.var 2))) (.ar .mul .i64 (.ar .sub .i64 (.var 5) (.var 3)) (.ar .sub .i64 (.var 5) (.var 3)))))
 (.ob (.tru (.cmp .leq (.lit 0) (.ar .mul .i64 (.var 6) (.var 6))))
 (.ob (.tru (.cmp .lss (.ar .mul .i64 (.var 6) (.var 6)) (.lit 9223372036854775808)))
 (.ob (.tru (.lit true))
 (.ob (.tru (.lit true))
 (.ob (.tru (.cmp .leq (.lit 0) (.ar .add .i64 (.ar .mul .i64 (.ar .sub .i64 (.var 0) (.var 4)) (.ar .sub .i64 (.var 0) (.var 4))) (.ar .mul .i64 (.ar .sub .i64 (.var 1) (.var 5)) (.ar .sub .i64 (.var 1) (.var 5))))))
 (.ob (.tru (.cmp .lss (.ar .add .i64 (.ar .mul .i64 (.ar .sub .i64 (.var 0) (.var 4)) (.ar .sub .i64 (.var 0) (.var 4))) (.ar .mul .i64 (.ar .sub .i64 (.var 1) (.var 5)) (.ar .sub .i64 (.var 1) (.var 5)))) (.lit 9223372036854775808)))
 (.ob (.tru (.lit true))
 (.ob (.tru (.lit true))
 (.ret ((.tup [(.one (.z (.bool (.fn 0 (.i (.ar .mul .i64 (.var 6) (.var 6)) (.i (.lit 1) (.i (.ar .add .i64 (.ar .mul .i64 (.ar .sub .i64 (.var 0) (.var 4)) (.ar .sub .i64 (.var 0) (.var 4))) (.ar .mul .i64 (.ar .sub .i64 (.var 1) (.var 5)) (.ar .sub .i64 (.var 1) (.var 5)))) (.i (.lit 1) .nil)))))))),(.one (.z (.int .i64 (.lit 0))))]),[],28))))))))))
 (.ob (.tru (.cmp .leq (.lit 0) (.ar .mul .i64 (.var 6) (.var 6))))
 (.ob (.tru (.cmp .lss (.ar .mul .i64 (.var 6) (.var 6)) (.lit 9223372036854775808)))
 (.ob (.tru (.cmp .leq (.lit 0) (.ar .add .i64 (.ar .mul .i64 (.ar .sub .i64 (.var 4) (.var 2)) (.ar .sub .i64 (.var 4) (.var 2))) (.ar .mul .i64 (.ar .sub .i64 (.var 5) (.var 3)) (.ar .sub .i64 (.var 5) (.var 3))))))
 (.ob (.tru (.cmp .lss (.ar .add .i64 (.ar .mul .i64 (.ar .sub .i64 (.var 4) (.var 2)) (.ar .sub .i64 (.var 4) (.var 2))) (.ar .mul .i64 (.ar .sub .i64 (.var 5) (.var 3)) (.ar .sub .i64 (.var 5) (.var 3)))) (.lit 9223372036854775808)))
 (.ob (.tru (.cmp .leq (.lit 0) (.mx (.ar .sub .i64 (.ar .mul .i64 (.ar .sub .i64 (.var 4) (.var 2)) (.ar .sub .i64 (.var 1) (.var 3))) (.ar .mul .i64 (.ar .sub .i64 (.var 5) (.var 3)) (.ar .sub .i64 (.var 0) (.var 2)))) (.ar .sub .i64 (.lit 0) (.ar .sub .i64 (.ar .mul .i64 (.ar .sub .i64 (.var 4) (.var 2)) (.ar .sub .i64 (.var 1) (.var 3))) (.ar .mul .i64 (.ar .sub .i64 (.var 5) (.var 3)) (.ar .sub .i64 (.var 0) (.var 2))))))))
 (.ob (.tru (.cmp .lss (.mx (.ar .sub .i64 (.ar .mul .i64 (.ar .sub .i64 (.var 4) (.var 2)) (.ar .sub .i64 (.var 1) (.var 3))) (.ar .mul .i64 (.ar .sub .i64 (.var 5) (.var 3)) (.ar .sub .i64 (.var 0) (.var 2)))) (.ar .sub .i64 (.lit 0) (.ar .sub .i64 (.ar .mul .i64 (.ar .sub .i64 (.var 4) (.var 2)) (.ar .sub .i64 (.var 1) (.var 3))) (.ar .mul .i64 (.ar .sub .i64 (.var 5) (.var 3)) (.ar .sub .i64 (.var 0) (.var 2)))))) (.lit 9223372036854775808)))
 (.ob (.tru (.cmp .leq (.lit 0) (.mx (.ar .sub .i64 (.ar .mul .i64 (.ar .sub .i64 (.var 4) (.var 2)) (.ar .sub .i64 (.var 1) (.var 3))) (.ar .mul .i64 (.ar .sub .i64 (.var 5) (.var 3)) (.ar .sub .i64 (.var 0) (.var 2)))) (.ar .sub .i64 (.lit 0) (.ar .sub .i64 (.ar .mul .i64 (.ar .sub .i64 (.var 4) (.var 2)) (.ar .sub .i64 (.var 1) (.var 3))) (.ar .mul .i64 (.ar .sub .i64 (.var 5) (.var 3)) (.ar .sub .i64 (.var 0) (.var 2))))))))
 (.ob (.tru (.cmp .lss (.mx (.ar .sub .i64 (.ar .mul .i64 (.ar .sub .i64 (.var 4) (.var 2)) (.ar .sub .i64 (.var 1) (.var 3))) (.ar .mul .i64 (.ar .sub .i64 (.var 5) (.var 3)) (.ar .sub .i64 (.var 0) (.var 2)))) (.ar .sub .i64 (.lit 0) (.ar .sub .i64 (.ar .mul .i64 (.ar .sub .i64 (.var 4) (.var 2)) (.ar .sub .i64 (.var 1) (.var 3))) (.ar .mul .i64 (.ar .sub .i64 (.var 5) (.var 3)) (.ar .sub .i64 (.var 0) (.var 2)))))) (.lit 9223372036854775808)))
 (.ret ((.tup [(.one (.z (.bool (.fn 0 (.i (.ar .mul .i64 (.var 6) (.var 6)) (.i (.ar .add .i64 (.ar .mul .i64 (.ar .sub .i64 (.var 4) (.var 2)) (.ar .sub .i64 (.var 4) (.var 2))) (.ar .mul .i64 (.ar .sub .i64 (.var 5) (.var 3)) (.ar .sub .i64 (.var 5) (.var 3)))) (.i (.mx (.ar .sub .i64 (.ar .mul .i64 (.ar .sub .i64 (.var 4) (.var 2)) (.ar .sub .i64 (.var 1) (.var 3))) (.ar .mul .i64 (.ar .sub .i64 (.var 5) (.var 3)) (.ar .sub .i64 (.var 0) (.var 2)))) (.ar .sub .i64 (.lit 0) (.ar .sub .i64 (.ar .mul .i64 (.ar .sub .i64 (.var 4) (.var 2)) (.ar .sub .i64 (.var 1) (.var 3))) (.ar .mul .i64 (.ar .sub .i64 (.var 5) (.var 3)) (.ar .sub .i64 (.var 0) (.var 2)))))) (.i (.mx (.ar .sub .i64 (.ar .mul .i64 (.ar .sub .i64 (.var 4) (.var 2)) (.ar .sub .i64 (.var 1) (.var 3))) (.ar .mul .i64 (.ar .sub .i64 (.var 5) (.var 3)) (.ar .sub .i64 (.var 0) (.var 2)))) (.ar .sub .i64 (.lit 0) (.ar .sub .i64 (.ar .mul .i64 (.ar .sub .i64 (.var 4) (.var 2)) (.ar .sub .i64 (.var 1) (.var 3))) (.ar .mul .i64 (.ar .sub .i64 (.var 5) (.var 3)) (.ar .sub .i64 (.var 0) (.var 2)))))) .nil)))))))),(.one (.z (.int .i64 (.lit 0))))]),[],24)))))))))))))
 (.ret ((.tup [(.one (.z (.bool (.lit false)))),(.one (.z (.int .i64 (.lit 1))))]),[],7))))))
set_option maxRecDepth 100000 in
theorem c3f:T.norm 0 (call Tryz.prog ct1 lt1 100 194 (i6 0 [pt,pt,pt,it]) [] 0) TT.ret=b1E:=by kernel_rfl
theorem b8q:b1E.low 1000=true:=by kernel_rfl
def b6U:TT j6:=
(.ite (.not (.fn 3 (.i (.var 0) (.i (.var 1) .nil))))
 (.ret ((.tup [(.one (.z (.bool (.lit false)))),(.one (.z (.int .i64 (.lit 1))))]),[],4))
 (.ite (.not (.fn 3 (.i (.var 3) (.i (.var 4) .nil))))
 (.ret ((.tup [(.one (.z (.bool (.lit false)))),(.one (.z (.int .i64 (.lit 1))))]),[],5))
 (.ite (.cmp .geq (.var 2) (.lit 0))
 (.ite (.not (.cmp .leq (.var 2) (.lit 3000000)))
 (.ret ((.tup [(.one (.z (.bool (.lit false)))),(.one (.z (.int .i64 (.lit 1))))]),[],5))
 (.ite (.cmp .geq (.var 5) (.lit 0))
 (.ite (.not (.cmp .leq (.var 5) (.lit 3000000)))
 (.ret ((.tup [(.one (.z (.bool (.lit false)))),(.one (.z (.int .i64 (.lit 1))))]),[],5))
 (.ite (.cmp .leq (.var 2) (.var 5))
 (.ret ((.tup [(.one (.z (.bool (.cmp .leq (.ar .add .i64 (.ar .mul .i64 (.ar .sub .i64 (.var 3) (.var 0)) (.ar .sub .i64 (.var 3) (.var 0))) (.ar .mul .i64 (.ar .sub .i64 (.var 4) (.var 1)) (.ar .sub .i64 (.var 4) (.var 1)))) (.ar .mul .i64 (.ar .sub .i64 (.var 5) (.var 2)) (.ar .sub .i64 (.var 5) (.var 2))))))),(.one (.z (.int .i64 (.lit 0))))]),[],11))
 (.ret ((.tup [(.one (.z (.bool (.lit false)))),(.one (.z (.int .i64 (.lit 0))))]),[],9))))
 (.ret ((.tup [(.one (.z (.bool (.lit false)))),(.one (.z (.int .i64 (.lit 1))))]),[],5))))
 (.ret ((.tup [(.one (.z (.bool (.lit false)))),(.one (.z (.int .i64 (.lit 1))))]),[],5)))))
set_option maxRecDepth 100000 in
theorem c3Y:T.norm 0 (call Tryz.prog ct1 lt1 100 211 (i6 0 [pt,it,pt,it]) [] 0) TT.ret=b6U:=by kernel_rfl
theorem c3K:b6U.low 1000=true:=by kernel_rfl
def a6l(px py ax ay bx by' d:Int):Bool:=
 if T0 ax ay bx by' px py≤0 then decide (d*d≤p7 ax ay px py)
 else if p7 ax ay bx by'≤T0 ax ay bx by' px py then decide (d*d≤p7 bx by' px py)
 else decide (d*d*p7 ax ay bx by'≤f7 ax ay bx by' px py*f7 ax ay bx by' px py)
def a3r(ds:List D):Bool:=s8 ds&&A8 (c9 ds 6)
def a3m(ds:List D):Bool:=a3r ds&&a6l (c9 ds 0) (c9 ds 1) (c9 ds 2) (c9 ds 3) (c9 ds 4) (c9 ds 5) (c9 ds 6)
def a5C(ds:List D):Int:=if a3r ds then 0 else 1
theorem d7m(W:World)(ds:List D)(a b c d:Int):(f0 I1 W ds).fb 0 [.i a,.i b,.i c,.i d]=decide (a*b≤c*d):=rfl
set_option maxHeartbeats 1000000 in
theorem d4e:k8 Tryz.prog 194 [pt,pt,pt,it] (fun ds=> .tuple #[.bool (a3m ds),.int .i64 (a5C ds)]):=by
 refine GivesIf.all (i7 I1 (by kernel_rfl) (fun ρ h=>a6r h) (by kernel_rfl) c3f b8q (by decide) (fun W vals ds _ _=> ?_))
 simp only[b1E,g8,Nat.reduceBEq,Nat.reduceLT,Nat.reduceSub,a9v,U8]
 have F:a3r ds=false→Value.tuple #[.bool false,.int .i64 1]=Value.tuple #[.bool (a3m ds),.int .i64 (a5C ds)]:=fun h=>by simp [a3m,a5C,h]
 refine⟨fun h=>F ?_,fun p0=>⟨fun h=>F ?_,fun p1=>⟨fun h=>F ?_,fun p2=>⟨fun p3=>⟨fun h=>F ?_,fun p4=> ?_⟩,fun h=>F ?_⟩⟩⟩⟩
 ·simp only[a3r,s8,h,Bool.false_and]
 ·simp only[a3r,s8,h,Bool.false_and,Bool.and_false]
 ·simp only[a3r,s8,h,Bool.false_and,Bool.and_false]
 ·simp only[a3r,A8,Bool.and_eq_false_imp,decide_eq_false_iff_not];omega
 ·have hO:a3r ds=true:=by simp only[a3r,s8,p0,p1,p2,A8,Bool.and_true,Bool.true_and,decide_eq_true_eq];omega
  have T:∀b,a6l (c9 ds 0) (c9 ds 1) (c9 ds 2) (c9 ds 3) (c9 ds 4) (c9 ds 5) (c9 ds 6)=b→Value.tuple #[.bool b,.int .i64 0]=Value.tuple #[.bool (a3m ds),.int .i64 (a5C ds)]:=fun b h=>by rw[a3m,a5C,hO,h];rfl
  have h6:0≤c9 ds 6∧c9 ds 6≤3000000:=by omega
  rw[t9] at p0 p1 p2
  obtain⟨h0,h1⟩:=p0
  obtain⟨h2,h3⟩:=p1
  obtain⟨h4,h5⟩:=p2
  have c0:=b6q h6
  have d1:=n9 h0 h2 h0 h2
  have d2:=n9 h1 h3 h1 h3
  have d3:=n9 h0 h4 h0 h4
  have d4:=n9 h1 h5 h1 h5
  have d5:=n9 h4 h2 h4 h2
  have d6:=n9 h5 h3 h5 h3
  have d7:=n9 h4 h2 h1 h3
  have d8:=n9 h5 h3 h0 h2
  have n1:=J0 (c9 ds 0-c9 ds 2)
  have n2:=J0 (c9 ds 1-c9 ds 3)
  have n3:=J0 (c9 ds 0-c9 ds 4)
  have n4:=J0 (c9 ds 1-c9 ds 5)
  have n5:=J0 (c9 ds 4-c9 ds 2)
  have n6:=J0 (c9 ds 5-c9 ds 3)
  simp only[m6 h4 h2,m6 h0 h2,m6 h5 h3,m6 h1 h3,m6 h0 h4,m6 h1 h5,L9 h4 h2 h0 h2,L9 h5 h3 h1 h3,d1.1,d2.1,d3.1,d4.1,d5.1,d6.1,d7.1,d8.1,M8 h4 h2 h0 h2 h5 h3 h1 h3,
   M8 h0 h2 h0 h2 h1 h3 h1 h3,M8 h0 h4 h0 h4 h1 h5 h1 h5,M8 h4 h2 h4 h2 h5 h3 h5 h3,(Y1 h4 h2 h1 h3 h5 h3 h0 h2).1,(Y1 h4 h2 h1 h3 h5 h3 h0 h2).2,c0.1,c1y,d7m,Int.mul_one]
  refine⟨fun h=>⟨?_,?_,?_,?_,T _ ?_⟩,fun h=>⟨fun h'=>⟨?_,?_,?_,?_,T _ ?_⟩,fun h'=>⟨?_,?_,?_,?_,?_,?_,?_,?_,T _ ?_⟩⟩⟩
  case refine_5=>unfold a6l T0 p7;rw[if_pos h]
  case refine_10=>unfold a6l T0 p7;rw[if_neg h,if_pos h']
  case refine_19=>unfold a6l T0 p7 f7;rw[if_neg h,if_neg h']
  all_goals (clear T F hO;omega)
 ·simp only[a3r,A8,Bool.and_eq_false_imp,decide_eq_false_iff_not];omega
def a0U(px py r qx qy s:Int):Bool:=decide (r≤s∧p7 px py qx qy≤(s-r)*(s-r))
def a3x(ds:List D):Bool:=g9 (c9 ds 0) (c9 ds 1)&&g9 (c9 ds 3) (c9 ds 4)&&A8 (c9 ds 2)&&A8 (c9 ds 5)
def a1z(ds:List D):Bool:=a3x ds&&a0U (c9 ds 0) (c9 ds 1) (c9 ds 2) (c9 ds 3) (c9 ds 4) (c9 ds 5)
def a1A(ds:List D):Int:=if a3x ds then 0 else 1
set_option maxHeartbeats 1000000 in
theorem d7I:k8 Tryz.prog 211 [pt,it,pt,it] (fun ds=> .tuple #[.bool (a1z ds),.int .i64 (a1A ds)]):=by
 refine GivesIf.all (i7 I1 (by kernel_rfl) (fun ρ h=>a6r h) (by kernel_rfl) c3Y c3K (by decide) (fun W vals ds _ _=> ?_))
 simp only[b6U,g8,Nat.reduceBEq,Nat.reduceLT,Nat.reduceSub,a9v,U8]
 have F:a3x ds=false→Value.tuple #[.bool false,.int .i64 1]=Value.tuple #[.bool (a1z ds),.int .i64 (a1A ds)]:=fun h=>by simp [a1z,a1A,h]
 have N:g9 (c9 ds 0) (c9 ds 1)=true→g9 (c9 ds 3) (c9 ds 4)=true→¬((0≤c9 ds 2∧c9 ds 2≤3000000)∧0≤c9 ds 5∧c9 ds 5≤3000000)→a3x ds=false:=fun a b h=>by
  simp only[a3x,a,b,A8,Bool.true_and,Bool.and_eq_false_imp,decide_eq_true_eq,decide_eq_false_iff_not];omega
 have P:g9 (c9 ds 0) (c9 ds 1)=true→g9 (c9 ds 3) (c9 ds 4)=true→((0≤c9 ds 2∧c9 ds 2≤3000000)∧0≤c9 ds 5∧c9 ds 5≤3000000)→a3x ds=true:=fun a b h=>by
  simp only[a3x,a,b,A8,Bool.true_and,Bool.and_eq_true,decide_eq_true_eq];exact h
 refine⟨fun h=>F ?_,fun p0=>⟨fun h=>F ?_,fun p1=>⟨fun r0=>⟨fun h=>F (N p0 p1 (by omega)),fun r1=>⟨fun s0=>⟨fun h=>F (N p0 p1 (by omega)),fun s1=>⟨fun h=> ?_,fun h=> ?_⟩⟩,fun h=>F (N p0 p1 (by omega))⟩⟩,fun h=>F (N p0 p1 (by omega))⟩⟩⟩
 ·simp only[a3x,h,Bool.false_and]
 ·simp only[a3x,h,Bool.false_and,Bool.and_false]
 ·have hO:=P p0 p1 (by omega)
  rw[a1z,a1A,hO,Bool.true_and,if_pos rfl]
  rw[t9] at p0 p1
  obtain⟨h0,h1⟩:=p0
  obtain⟨h2,h3⟩:=p1
  have d1:=n9 h2 h0 h2 h0
  have d2:=n9 h3 h1 h3 h1
  have d3:=b6q (d:=c9 ds 5-c9 ds 2) (by omega)
  simp only[m6 h2 h0,m6 h3 h1,d1.1,d2.1,M8 h2 h0 h2 h0 h3 h1 h3 h1]
  rw[f8 (c9 ds 5-c9 ds 2) (by omega) (by omega),d3.1]
  congr 4
  unfold a0U p7
  rw[Bool.eq_iff_iff,x7,decide_eq_true_eq]
  exact⟨fun q=>⟨h,q⟩,fun q=>q.2⟩
 ·rw[a1z,a1A,P p0 p1 (by omega),Bool.true_and,if_pos rfl]
  unfold a0U
  rw[decide_eq_false (fun q=>h q.1)]
def w9:Interp where
 fi n l:=match n with | 110=>a5C l | 111=>a1A l | n=>KI.fi n l
 fb n l:=match n with | 110=>a3m l | 111=>a1z l | n=>KI.fb n l
 fd _ _:=[]
theorem b6a{ρ:Env}(h:Sees ρ w9 112):Sees ρ KI 90:=h.trans (by decide) fun n l hn=>by
 refine⟨?_,?_⟩
 ·
  simp only[w9]
  split<;>first | omega | rfl
 ·
  simp only[w9]
  split<;>first | omega | rfl
def c6y:=o7 [pt,pt,pt,it] fun al=> .ret (.tup [.one (G8 110 a3m al),.one (w6 110 a5C al)])
theorem c5t{ρ:Env}(h:Sees ρ w9 112):i9 Tryz.prog ρ 194 c6y:=
 k5 d4e (fun _=>rfl) (fun al=>by simp only[V.val,V2.val,S.val,S0.val,w6,G8,List.map_cons,List.map_nil,k7 (s:=110) (f:=a3m) (fun l=>by rw[(h 110 l (by decide)).2];simp only[w9]),o6 (s:=110) (f:=a5C) (fun l=>by rw[(h 110 l (by decide)).1];simp only[w9])];try rfl)
def d0K:=o7 [pt,it,pt,it] fun al=> .ret (.tup [.one (G8 111 a1z al),.one (w6 111 a1A al)])
theorem c7Y{ρ:Env}(h:Sees ρ w9 112):i9 Tryz.prog ρ 211 d0K:=
 k5 d7I (fun _=>rfl) (fun al=>by simp only[V.val,V2.val,S.val,S0.val,w6,G8,List.map_cons,List.map_nil,k7 (s:=111) (f:=a1z) (fun l=>by rw[(h 111 l (by decide)).2];simp only[w9]),o6 (s:=111) (f:=a1A) (fun l=>by rw[(h 111 l (by decide)).1];simp only[w9])];try rfl)
def b4G:Ct:=(194,c6y)::(211,d0K)::(36,c0a)::d4p
theorem d4x{ρ:Env}(h:Sees ρ KI 90):Sees ρ KG 80:=c1M (c2a h)
theorem a6S{ρ:Env}(h:Sees ρ w9 112):CtOk Tryz.prog ρ b4G:= .cons (c5t h)<| .cons (c7Y h)<| .cons (c3H (d4x (b6a h))) (d2C (c2a (b6a h)))
def a6f:TT j6:=
(.ite (.not (.fn 69 (.x (.var 0) .nil)))
 (.ret ((.tup [(.one (.z (.bool (.lit false)))),(.one (.z (.int .i64 (.lit 1))))]),[],3))
 (.ite (.not (.fn 69 (.x (.var 1) .nil)))
 (.ret ((.tup [(.one (.z (.bool (.lit false)))),(.one (.z (.int .i64 (.lit 1))))]),[],3))
 (.loop 0 7000 ⟨[(0,(.lit 0))],[],[]⟩
 (.ite (.cmp .lss (.var 7000) (.len (.var 0)))
 (.ob (.tru (.cmp .leq (.lit 0) (.var 7000)))
 (.ob (.tru (.cmp .lss (.var 7000) (.len (.var 0))))
 (.ob (.tru (.cmp .neq (.len (.var 0)) (.lit 0)))
 (.ob (.tru (.cmp .leq (.lit 0) (.ar .rem .i64 (.ar .add .i64 (.ar .add .i64 (.var 7000) (.lit 1)) (.len (.var 0))) (.len (.var 0)))))
 (.ob (.tru (.cmp .lss (.ar .rem .i64 (.ar .add .i64 (.ar .add .i64 (.var 7000) (.lit 1)) (.len (.var 0))) (.len (.var 0))) (.len (.var 0))))
 (.loop 1 13000 ⟨[(0,(.lit 0))],[],[]⟩
 (.ite (.cmp .lss (.var 13000) (.len (.var 1)))
 (.ob (.tru (.cmp .leq (.lit 0) (.var 13000)))
 (.ob (.tru (.cmp .lss (.var 13000) (.len (.var 1))))
 (.ob (.tru (.cmp .neq (.len (.var 1)) (.lit 0)))
 (.ob (.tru (.cmp .leq (.lit 0) (.ar .rem .i64 (.ar .add .i64 (.ar .add .i64 (.var 13000) (.lit 1)) (.len (.var 1))) (.len (.var 1)))))
 (.ob (.tru (.cmp .lss (.ar .rem .i64 (.ar .add .i64 (.ar .add .i64 (.var 13000) (.lit 1)) (.len (.var 1))) (.len (.var 1))) (.len (.var 1))))
 (.ite (.fn 62 (.i (.rd (.var 0) (.var 7000) 0) (.i (.rd (.var 0) (.var 7000) 1) (.i (.rd (.var 0) (.ar .rem .i64 (.ar .add .i64 (.ar .add .i64 (.var 7000) (.lit 1)) (.len (.var 0))) (.len (.var 0))) 0) (.i (.rd (.var 0) (.ar .rem .i64 (.ar .add .i64 (.ar .add .i64 (.var 7000) (.lit 1)) (.len (.var 0))) (.len (.var 0))) 1) (.i (.rd (.var 1) (.var 13000) 0) (.i (.rd (.var 1) (.var 13000) 1) (.i (.rd (.var 1) (.ar .rem .i64 (.ar .add .i64 (.ar .add .i64 (.var 13000) (.lit 1)) (.len (.var 1))) (.len (.var 1))) 0) (.i (.rd (.var 1) (.ar .rem .i64 (.ar .add .i64 (.ar .add .i64 (.var 13000) (.lit 1)) (.len (.var 1))) (.len (.var 1))) 1) .nil)))))))))
 (.ret ((.tup [(.one (.z (.bool (.lit true)))),(.one (.z (.int .i64 (.lit 0))))]),[],16))
 (.next 1 ⟨[(0,(.ar .add .i64 (.var 13000) (.lit 1)))],[],[]⟩)))))))
 (.next 0 ⟨[(0,(.ar .add .i64 (.var 7000) (.lit 1)))],[],[]⟩))))))))
 (.ob (.tru (.lit true))
 (.ob (.tru (.cmp .lss (.lit 0) (.len (.var 1))))
 (.ite (.cmp .eql (.fn 67 (.x (.var 0) (.i (.rd (.var 1) (.lit 0) 0) (.i (.rd (.var 1) (.lit 0) 1) .nil)))) (.lit 1))
 (.ret ((.tup [(.one (.z (.bool (.lit true)))),(.one (.z (.int .i64 (.lit 0))))]),[],16))
 (.ob (.tru (.lit true))
 (.ob (.tru (.cmp .lss (.lit 0) (.len (.var 0))))
 (.ret ((.tup [(.one (.z (.bool (.cmp .eql (.fn 67 (.x (.var 1) (.i (.rd (.var 0) (.lit 0) 0) (.i (.rd (.var 0) (.lit 0) 1) .nil)))) (.lit 1))))),(.one (.z (.int .i64 (.lit 0))))]),[],16)))))))))))
set_option maxRecDepth 100000 in
theorem b4C:T.norm 0 (call Tryz.prog b4G (Lt.of []) 100 191 (i6 0 [v9,v9]) [] 0) TT.ret=a6f:=by kernel_rfl
theorem b3A:a6f.low 1000=true:=by kernel_rfl
def a8b:TT j6:=
(.ite (.not (.fn 69 (.x (.var 0) .nil)))
 (.ret ((.tup [(.one (.z (.int .i64 (.lit 0)))),(.one (.z (.int .i64 (.lit 1))))]),[],2))
 (.ite (.not (.fn 3 (.i (.var 1) (.i (.var 2) .nil))))
 (.ret ((.tup [(.one (.z (.int .i64 (.lit 0)))),(.one (.z (.int .i64 (.lit 1))))]),[],2))
 (.ite (.cmp .lss (.var 3) (.lit 0))
 (.ret ((.tup [(.one (.z (.int .i64 (.lit 0)))),(.one (.z (.int .i64 (.lit 1))))]),[],2))
 (.ite (.cmp .gtr (.var 3) (.lit 3000000))
 (.ret ((.tup [(.one (.z (.int .i64 (.lit 0)))),(.one (.z (.int .i64 (.lit 1))))]),[],2))
 (.loop 0 8000 ⟨[(0,(.lit 0))],[(1,(.lit true)),(2,(.lit false))],[]⟩
 (.ite (.cmp .lss (.var 8000) (.len (.var 0)))
 (.ob (.tru (.cmp .leq (.lit 0) (.var 8000)))
 (.ob (.tru (.cmp .lss (.var 8000) (.len (.var 0))))
 (.ob (.tru (.cmp .neq (.len (.var 0)) (.lit 0)))
 (.ob (.tru (.cmp .leq (.lit 0) (.ar .rem .i64 (.ar .add .i64 (.ar .add .i64 (.var 8000) (.lit 1)) (.len (.var 0))) (.len (.var 0)))))
 (.ob (.tru (.cmp .lss (.ar .rem .i64 (.ar .add .i64 (.ar .add .i64 (.var 8000) (.lit 1)) (.len (.var 0))) (.len (.var 0))) (.len (.var 0))))
 (.ite (.var 8002)
 (.ite (.var 8001)
 (.next 0 ⟨[(0,(.ar .add .i64 (.var 8000) (.lit 1)))],[(1,(.fn 110 (.i (.var 1) (.i (.var 2) (.i (.rd (.var 0) (.var 8000) 0) (.i (.rd (.var 0) (.var 8000) 1) (.i (.rd (.var 0) (.ar .rem .i64 (.ar .add .i64 (.ar .add .i64 (.var 8000) (.lit 1)) (.len (.var 0))) (.len (.var 0))) 0) (.i (.rd (.var 0) (.ar .rem .i64 (.ar .add .i64 (.ar .add .i64 (.var 8000) (.lit 1)) (.len (.var 0))) (.len (.var 0))) 1) (.i (.var 3) .nil))))))))),(2,(.lit true))],[]⟩)
 (.next 0 ⟨[(0,(.ar .add .i64 (.var 8000) (.lit 1)))],[(1,(.lit false)),(2,(.lit true))],[]⟩))
 (.ite (.var 8001)
 (.next 0 ⟨[(0,(.ar .add .i64 (.var 8000) (.lit 1)))],[(1,(.fn 110 (.i (.var 1) (.i (.var 2) (.i (.rd (.var 0) (.var 8000) 0) (.i (.rd (.var 0) (.var 8000) 1) (.i (.rd (.var 0) (.ar .rem .i64 (.ar .add .i64 (.ar .add .i64 (.var 8000) (.lit 1)) (.len (.var 0))) (.len (.var 0))) 0) (.i (.rd (.var 0) (.ar .rem .i64 (.ar .add .i64 (.ar .add .i64 (.var 8000) (.lit 1)) (.len (.var 0))) (.len (.var 0))) 1) (.i (.var 3) .nil))))))))),(2,(.fn 7 (.i (.var 1) (.i (.var 2) (.i (.rd (.var 0) (.var 8000) 0) (.i (.rd (.var 0) (.var 8000) 1) (.i (.rd (.var 0) (.ar .rem .i64 (.ar .add .i64 (.ar .add .i64 (.var 8000) (.lit 1)) (.len (.var 0))) (.len (.var 0))) 0) (.i (.rd (.var 0) (.ar .rem .i64 (.ar .add .i64 (.ar .add .i64 (.var 8000) (.lit 1)) (.len (.var 0))) (.len (.var 0))) 1) (.i (.var 3) .nil)))))))))],[]⟩)
 (.next 0 ⟨[(0,(.ar .add .i64 (.var 8000) (.lit 1)))],[(1,(.lit false)),(2,(.fn 7 (.i (.var 1) (.i (.var 2) (.i (.rd (.var 0) (.var 8000) 0) (.i (.rd (.var 0) (.var 8000) 1) (.i (.rd (.var 0) (.ar .rem .i64 (.ar .add .i64 (.ar .add .i64 (.var 8000) (.lit 1)) (.len (.var 0))) (.len (.var 0))) 0) (.i (.rd (.var 0) (.ar .rem .i64 (.ar .add .i64 (.ar .add .i64 (.var 8000) (.lit 1)) (.len (.var 0))) (.len (.var 0))) 1) (.i (.var 3) .nil)))))))))],[]⟩))))))))
 (.ite (.cmp .geq (.fn 67 (.x (.var 0) (.i (.var 1) (.i (.var 2) .nil)))) (.lit 0))
 (.ite (.var 8001)
 (.ret ((.tup [(.one (.z (.int .i64 (.lit 1)))),(.one (.z (.int .i64 (.lit 0))))]),[],11))
 (.ite (.cmp .lss (.fn 67 (.x (.var 0) (.i (.var 1) (.i (.var 2) .nil)))) (.lit 0))
 (.ite (.not (.var 8002))
 (.ret ((.tup [(.one (.z (.int .i64 (.lit (-1))))),(.one (.z (.int .i64 (.lit 0))))]),[],11))
 (.ret ((.tup [(.one (.z (.int .i64 (.lit 0)))),(.one (.z (.int .i64 (.lit 0))))]),[],11)))
 (.ret ((.tup [(.one (.z (.int .i64 (.lit 0)))),(.one (.z (.int .i64 (.lit 0))))]),[],11))))
 (.ite (.cmp .lss (.fn 67 (.x (.var 0) (.i (.var 1) (.i (.var 2) .nil)))) (.lit 0))
 (.ite (.not (.var 8002))
 (.ret ((.tup [(.one (.z (.int .i64 (.lit (-1))))),(.one (.z (.int .i64 (.lit 0))))]),[],11))
 (.ret ((.tup [(.one (.z (.int .i64 (.lit 0)))),(.one (.z (.int .i64 (.lit 0))))]),[],11)))
 (.ret ((.tup [(.one (.z (.int .i64 (.lit 0)))),(.one (.z (.int .i64 (.lit 0))))]),[],11))))))))))
set_option maxRecDepth 100000 in
theorem b8H:T.norm 0 (call Tryz.prog b4G (Lt.of []) 100 189 (i6 0 [v9,pt,it]) [] 0) TT.ret=a8b:=by kernel_rfl
theorem b4Q:a8b.low 1000=true:=by kernel_rfl
def b1R:TT j6:=
(.ob (.tru (.cmp .leq (.lit 0) (.var 1)))
(.ob (.tru (.cmp .lss (.var 1) (.len (.var 0))))
(.ob (.tru (.cmp .neq (.len (.var 0)) (.lit 0)))
(.ob (.tru (.cmp .leq (.lit 0) (.ar .rem .i64 (.ar .add .i64 (.ar .add .i64 (.var 1) (.lit 1)) (.len (.var 0))) (.len (.var 0)))))
(.ob (.tru (.cmp .lss (.ar .rem .i64 (.ar .add .i64 (.ar .add .i64 (.var 1) (.lit 1)) (.len (.var 0))) (.len (.var 0))) (.len (.var 0))))
(.ob (.tru (.cmp .neq (.len (.var 0)) (.lit 0)))
(.ob (.tru (.cmp .leq (.lit 0) (.ar .rem .i64 (.ar .add .i64 (.ar .sub .i64 (.var 1) (.lit 1)) (.len (.var 0))) (.len (.var 0)))))
(.ob (.tru (.cmp .lss (.ar .rem .i64 (.ar .add .i64 (.ar .sub .i64 (.var 1) (.lit 1)) (.len (.var 0))) (.len (.var 0))) (.len (.var 0))))
(.ite (.cmp .gtr (.fn 15 (.i (.rd (.var 0) (.ar .rem .i64 (.ar .add .i64 (.ar .sub .i64 (.var 1) (.lit 1)) (.len (.var 0))) (.len (.var 0))) 0) (.i (.rd (.var 0) (.ar .rem .i64 (.ar .add .i64 (.ar .sub .i64 (.var 1) (.lit 1)) (.len (.var 0))) (.len (.var 0))) 1) (.i (.rd (.var 0) (.var 1) 0) (.i (.rd (.var 0) (.var 1) 1) (.i (.rd (.var 0) (.ar .rem .i64 (.ar .add .i64 (.ar .add .i64 (.var 1) (.lit 1)) (.len (.var 0))) (.len (.var 0))) 0) (.i (.rd (.var 0) (.ar .rem .i64 (.ar .add .i64 (.ar .add .i64 (.var 1) (.lit 1)) (.len (.var 0))) (.len (.var 0))) 1) .nil))))))) (.lit 0))
 (.ite (.cmp .geq (.fn 15 (.i (.rd (.var 0) (.var 1) 0) (.i (.rd (.var 0) (.var 1) 1) (.i (.rd (.var 0) (.ar .rem .i64 (.ar .add .i64 (.ar .add .i64 (.var 1) (.lit 1)) (.len (.var 0))) (.len (.var 0))) 0) (.i (.rd (.var 0) (.ar .rem .i64 (.ar .add .i64 (.ar .add .i64 (.var 1) (.lit 1)) (.len (.var 0))) (.len (.var 0))) 1) (.i (.var 2) (.i (.var 3) .nil))))))) (.lit 0))
 (.ret ((.v (.one (.z (.bool (.cmp .geq (.fn 15 (.i (.rd (.var 0) (.var 1) 0) (.i (.rd (.var 0) (.var 1) 1) (.i (.var 2) (.i (.var 3) (.i (.rd (.var 0) (.ar .rem .i64 (.ar .add .i64 (.ar .sub .i64 (.var 1) (.lit 1)) (.len (.var 0))) (.len (.var 0))) 0) (.i (.rd (.var 0) (.ar .rem .i64 (.ar .add .i64 (.ar .sub .i64 (.var 1) (.lit 1)) (.len (.var 0))) (.len (.var 0))) 1) .nil))))))) (.lit 0)))))),[],15))
 (.ret ((.v (.one (.z (.bool (.lit false))))),[],12)))
 (.ite (.cmp .leq (.fn 15 (.i (.rd (.var 0) (.var 1) 0) (.i (.rd (.var 0) (.var 1) 1) (.i (.rd (.var 0) (.ar .rem .i64 (.ar .add .i64 (.ar .sub .i64 (.var 1) (.lit 1)) (.len (.var 0))) (.len (.var 0))) 0) (.i (.rd (.var 0) (.ar .rem .i64 (.ar .add .i64 (.ar .sub .i64 (.var 1) (.lit 1)) (.len (.var 0))) (.len (.var 0))) 1) (.i (.var 2) (.i (.var 3) .nil))))))) (.lit 0))
 (.ret ((.v (.one (.z (.bool (.lit true))))),[],12))
 (.ret ((.v (.one (.z (.bool (.cmp .leq (.fn 15 (.i (.rd (.var 0) (.var 1) 0) (.i (.rd (.var 0) (.var 1) 1) (.i (.var 2) (.i (.var 3) (.i (.rd (.var 0) (.ar .rem .i64 (.ar .add .i64 (.ar .add .i64 (.var 1) (.lit 1)) (.len (.var 0))) (.len (.var 0))) 0) (.i (.rd (.var 0) (.ar .rem .i64 (.ar .add .i64 (.ar .add .i64 (.var 1) (.lit 1)) (.len (.var 0))) (.len (.var 0))) 1) .nil))))))) (.lit 0)))))),[],15))))))))))))
set_option maxRecDepth 100000 in
theorem c1B:T.norm 0 (call Tryz.prog b4G (Lt.of []) 100 202 (i6 0 [v9,it,pt]) [] 0) TT.ret=b1R:=by kernel_rfl
theorem b8a:b1R.low 1000=true:=by kernel_rfl
def b6x(p q:Rows)(i k:Nat):Bool:=a1P [.i (lg p i 0),.i (lg p i 1),.i (lg p (nxt p.length i) 0),.i (lg p (nxt p.length i) 1),.i (lg q k 0),.i (lg q k 1),.i (lg q (nxt q.length k) 0),.i (lg q (nxt q.length k) 1)]
def a9N(p q:Rows)(i:Nat):Nat→Nat→Bool
 | 0,_=>false
 | f+1,k=>b6x p q i k||a9N p q i f (k+1)
def tmN(p q:Rows):Nat→Nat→Bool
 | 0,_=>false
 | f+1,i=>a9N p q i q.length 0||tmN p q f (i+1)
def a6D(p q:Rows):Bool:=tmN p q p.length 0||(decide (t3 p (lg q 0 0) (lg q 0 1) p.length 0 false=1)||decide (t3 q (lg p 0 0) (lg p 0 1) q.length 0 false=1))
def a1y(ds:List D):Bool:=n7 (d9 ds 0)&&n7 (d9 ds 1)
def a1D(ds:List D):Bool:=a1y ds&&a6D (d9 ds 0) (d9 ds 1)
def O4(ds:List D):Int:=if a1y ds then 0 else 1
theorem d7x(W:World)(ds l:List D):(f0 w9 W ds).fb 3 l=s9 l:=by simp only[f0,w9,KI,KH,KG,KF,KE,KD,KC,KB,KA,K9,K8,K7,K6,K5,K]
theorem c5u(W:World)(ds l:List D):(f0 w9 W ds).fb 69 l=H3 l:=by simp only[f0,w9,KI,KH,KG,KF,KE,KD,KC,KB]
theorem c4P(W:World)(ds l:List D):(f0 w9 W ds).fi 67 l=a2B l:=by simp only[f0,w9,KI,KH,KG,KF,KE,KD,KC,KB,KA,K9,K8,K7,K6,K5,K]
theorem d3S(W:World)(ds l:List D):(f0 w9 W ds).fb 62 l=a1P l:=by simp only[f0,w9,KI,KH,KG,KF,KE,KD,KC,KB,KA,K9,K8,K7,K6,K5,K]
theorem d7r(W:World)(ds l:List D):(f0 w9 W ds).fb 7 l=L6 l:=by simp only[f0,w9,KI,KH,KG,KF,KE,KD,KC,KB,KA,K9,K8,K7,K6,K5,K]
theorem d1A(W:World)(ds l:List D):(f0 w9 W ds).fb 110 l=a3m l:=by simp only[f0,w9]
theorem d5N(W:World)(ds l:List D):(f0 w9 W ds).fi 15 l=A6 l:=by simp only[f0,w9,KI,KH,KG,KF,KE,KD,KC,KB,KA,K9,K8,K7,K6,K5,K]
theorem c9v:k8 Tryz.prog 191 [v9,v9] (fun ds=> .tuple #[.bool (a1D ds),.int .i64 (O4 ds)]):=by
 refine GivesIf.all (i7 w9 (by kernel_rfl) (fun ρ h=>a6S (Sees.of h 112)) (by kernel_rfl) b4C b3A (by decide) (fun W vals ds hr _=> ?_))
 simp only[a6f,g8,Nat.reduceBEq,Nat.reduceLT,Nat.reduceSub,c5u,Y4]
 have F:a1y ds=false→Value.tuple #[.bool false,.int .i64 1]=Value.tuple #[.bool (a1D ds),.int .i64 (O4 ds)]:=fun h=>by simp [a1D,O4,h]
 refine⟨fun h=>F ?_,fun h1=>⟨fun h=>F ?_,fun h2=> ?_⟩⟩
 ·simp only[a1y,h,Bool.false_and]
 ·simp only[a1y,h,Bool.and_false]
 have T:∀b,a6D (d9 ds 0) (d9 ds 1)=b→Value.tuple #[.bool b,.int .i64 0]=Value.tuple #[.bool (a1D ds),.int .i64 (O4 ds)]:=fun b h=>by simp [a1D,O4,a1y,h1,h2,h]
 clear F hr
 have l1:=O7 h1
 have l2:=O7 h2
 generalize hp:d9 ds 0=p at*
 generalize hq:d9 ds 1=q at*
 refine TT.sat_loop (fun v=>∃i:Nat,v.i 0=i∧i≤p.length∧(tmN p q (p.length-i) i||(decide (t3 p (lg q 0 0) (lg q 0 1) p.length 0 false=1)||decide (t3 q (lg p 0 0) (lg p 0 1) q.length 0 false=1)))=a6D p q) (fun v=>p.length-(v.i 0).toNat)
  ⟨0,by simp [j7,i8,E.ev],by omega,rfl⟩ (fun v hv=> ?_)
 obtain⟨i,i0,i1,i2⟩:=hv
 simp only[g8,Nat.reduceBEq,Nat.reduceLT,Nat.reduceSub,i0,hp,hq,c4P,a0v]
 refine⟨fun hc=> ?_,fun hc=> ?_⟩
 ·have hi:i<p.length:=by omega
  have hn:=u0 hi
  obtain⟨f,hf⟩:∃f,p.length-i=f+1:=⟨p.length-i-1,by omega⟩
  rw[hf,tmN] at i2
  have hf':p.length-(i+1)=f:=by omega
  rw[D6 hi (by omega)]
  refine⟨by omega,by omega,by omega,by omega,by omega,?_⟩
  refine TT.sat_loop (fun u=>∃k:Nat,u.i 0=k∧k≤q.length∧((a9N p q i (q.length-k) k||tmN p q f (i+1))||(decide (t3 p (lg q 0 0) (lg q 0 1) p.length 0 false=1)||decide (t3 q (lg p 0 0) (lg p 0 1) q.length 0 false=1)))=a6D p q) (fun u=>q.length-(u.i 0).toNat)
   ⟨0,by simp [j7,i8,E.ev],by omega,i2⟩ (fun u hu=> ?_)
  obtain⟨k,k0,k1,k2⟩:=hu
  simp only[g8,Nat.reduceBEq,Nat.reduceLT,Nat.reduceSub,i0,k0,hp,hq,d3S]
  refine⟨fun hk=> ?_,fun hk=> ?_⟩
  ·have hkn:k<q.length:=by omega
   have hn':=u0 hkn
   obtain⟨g,hg⟩:∃g,q.length-k=g+1:=⟨q.length-k-1,by omega⟩
   rw[hg,a9N] at k2
   have hg':q.length-(k+1)=g:=by omega
   rw[D6 hkn (by omega),D6 hi (by omega),f8 ((k:Int)+1) (by omega) (by omega)]
   refine⟨by omega,by omega,by omega,by omega,by omega,fun h=>T _ ?_,fun h=>⟨⟨k+1,rfl,by omega,?_⟩,by omega⟩⟩
   ·rw[←k2,show b6x p q i k=true from h];rfl
   ·rw[hg',←k2,show b6x p q i k=false from h];rfl
  ·have:q.length-k=0:=by omega
   rw[this,a9N,Bool.false_or] at k2
   rw[f8 ((i:Int)+1) (by omega) (by omega)]
   exact⟨⟨i+1,rfl,by omega,by rw[hf'];exact k2⟩,by omega⟩
 ·have:p.length-i=0:=by omega
  rw[this,tmN,Bool.false_or] at i2
  refine⟨by omega,fun a=>T _ ?_,fun a=>⟨by omega,T _ ?_⟩⟩
  ·rw[←i2,decide_eq_true a];rfl
  ·rw[←i2,decide_eq_false a,Bool.false_or];simp only[u7]
   rfl
def d0j(r:Rows)(x y d:Int)(i:Nat):Bool:=L6 [.i x,.i y,.i (lg r i 0),.i (lg r i 1),.i (lg r (nxt r.length i) 0),.i (lg r (nxt r.length i) 1),.i d]
def c7k(r:Rows)(x y d:Int)(i:Nat):Bool:=a3m [.i x,.i y,.i (lg r i 0),.i (lg r i 1),.i (lg r (nxt r.length i) 0),.i (lg r (nxt r.length i) 1),.i d]
def a3q(r:Rows)(x y d:Int):Nat→Nat→Bool
 | 0,_=>false
 | f+1,i=>d0j r x y d i||a3q r x y d f (i+1)
def a3p(r:Rows)(x y d:Int):Nat→Nat→Bool
 | 0,_=>true
 | f+1,i=>c7k r x y d i&&a3p r x y d f (i+1)
def W6(r:Rows)(x y d:Int):Int:=
 if 0≤t3 r x y r.length 0 false then(if a3p r x y d r.length 0 then 1 else 0) else if a3q r x y d r.length 0 then 0 else -1
def a3l(ds:List D):Bool:=n7 (d9 ds 0)&&g9 (c9 ds 1) (c9 ds 2)&&A8 (c9 ds 3)
def a0t(ds:List D):Int:=if a3l ds then W6 (d9 ds 0) (c9 ds 1) (c9 ds 2) (c9 ds 3) else 0
def a0o(ds:List D):Int:=if a3l ds then 0 else 1
set_option maxHeartbeats 1000000 in
theorem d1P:k8 Tryz.prog 189 [v9,pt,it] (fun ds=> .tuple #[.int .i64 (a0t ds),.int .i64 (a0o ds)]):=by
 refine GivesIf.all (i7 w9 (by kernel_rfl) (fun ρ h=>a6S (Sees.of h 112)) (by kernel_rfl) b8H b4Q (by decide) (fun W vals ds hr _=> ?_))
 simp only[a8b,g8,Nat.reduceBEq,Nat.reduceLT,Nat.reduceSub,c5u,Y4,d7x,E5]
 have F:a3l ds=false→Value.tuple #[.int .i64 0,.int .i64 1]=Value.tuple #[.int .i64 (a0t ds),.int .i64 (a0o ds)]:=fun h=>by simp [a0t,a0o,h]
 refine⟨fun h=>F ?_,fun h1=>⟨fun h=>F ?_,fun h2=>⟨fun h=>F ?_,fun h3=>⟨fun h=>F ?_,fun h4=> ?_⟩⟩⟩⟩
 ·simp only[a3l,h,Bool.false_and]
 ·simp only[a3l,h,Bool.false_and,Bool.and_false]
 ·simp only[a3l,A8,Bool.and_eq_false_imp,decide_eq_false_iff_not];omega
 ·simp only[a3l,A8,Bool.and_eq_false_imp,decide_eq_false_iff_not];omega
 have hO:a3l ds=true:=by simp only[a3l,h1,h2,A8,Bool.true_and,decide_eq_true_eq];omega
 have T:∀n,W6 (d9 ds 0) (c9 ds 1) (c9 ds 2) (c9 ds 3)=n→Value.tuple #[.int .i64 n,.int .i64 0]=Value.tuple #[.int .i64 (a0t ds),.int .i64 (a0o ds)]:=fun b h=>by simp [a0t,a0o,hO,h]
 clear F hr hO
 have l1:=O7 h1
 generalize e0:d9 ds 0=r at*
 generalize e1:c9 ds 1=x at*
 generalize e2:c9 ds 2=y at*
 generalize e3:c9 ds 3=d at*
 refine TT.sat_loop (fun v=>∃i:Nat,v.i 0=i∧i≤r.length∧(v.b 2||a3q r x y d (r.length-i) i)=a3q r x y d r.length 0∧(v.b 1&&a3p r x y d (r.length-i) i)=a3p r x y d r.length 0) (fun v=>r.length-(v.i 0).toNat)
  ⟨0,by simp [j7,i8,E.ev],by omega,by simp [a9h,i8,B.ev],by simp [a9h,i8,B.ev]⟩ (fun v hv=> ?_)
 obtain⟨i,i0,i1,i2,i3⟩:=hv
 simp only[g8,Nat.reduceBEq,Nat.reduceLT,Nat.reduceSub,i0,e0,e1,e2,e3,c4P,a0v,d7r,d1A]
 refine⟨fun hc=> ?_,fun hc=> ?_⟩
 ·have hi:i<r.length:=by omega
  have hn:=u0 hi
  obtain⟨f,hf⟩:∃f,r.length-i=f+1:=⟨r.length-i-1,by omega⟩
  rw[hf,a3q] at i2
  rw[hf,a3p] at i3
  have hf':r.length-(i+1)=f:=by omega
  rw[D6 hi (by omega),f8 ((i:Int)+1) (by omega) (by omega)]
  have N:∀b c:Bool,(b||a3q r x y d f (i+1))=a3q r x y d r.length 0→(c&&a3p r x y d f (i+1))=a3p r x y d r.length 0→(∃j:Nat,(i:Int)+1=j∧j≤r.length∧(b||a3q r x y d (r.length-j) j)=a3q r x y d r.length 0∧(c&&a3p r x y d (r.length-j) j)=a3p r x y d r.length 0)∧r.length-((i:Int)+1).toNat<r.length-(i:Int).toNat:=
   fun b c hb hc=>⟨⟨i+1,rfl,by omega,by rw[hf'];exact hb,by rw[hf'];exact hc⟩,by omega⟩
  refine⟨by omega,by omega,by omega,by omega,by omega,fun a=>⟨fun b=>N _ _ ?_ ?_,fun b=>N _ _ ?_ ?_⟩,fun a=>⟨fun b=>N _ _ ?_ ?_,fun b=>N _ _ ?_ ?_⟩⟩
  all_goals (first | (rw[←i2,a];clear N T i2 i3;simp [d0j];done) | (rw[←i3,b];clear N T i2 i3;simp [c7k];done))
 ·have:r.length-i=0:=by omega
  rw[this,a3q,Bool.or_false] at i2
  rw[this,a3p,Bool.and_true] at i3
  rw[i2,i3]
  refine⟨fun a=>⟨fun b=>T _ ?_,fun b=>⟨fun c=>absurd a (by omega),fun c=>T _ ?_⟩⟩,fun a=>⟨fun c=>⟨fun e=>T _ ?_,fun e=>T _ ?_⟩,fun c=>absurd c (by omega)⟩⟩
  ·rw[W6,if_pos a,b];rfl
  ·rw[W6,if_pos a,b];rfl
  ·rw[W6,if_neg a,e];rfl
  ·rw[W6,if_neg a,e];rfl
def opB(r:Rows)(i:Nat)(x y:Int):Bool:=
 if 0<A6 [.i (lg r (X2 r.length i) 0),.i (lg r (X2 r.length i) 1),.i (lg r i 0),.i (lg r i 1),.i (lg r (nxt r.length i) 0),.i (lg r (nxt r.length i) 1)] then
  decide (0≤A6 [.i (lg r i 0),.i (lg r i 1),.i (lg r (nxt r.length i) 0),.i (lg r (nxt r.length i) 1),.i x,.i y])&&decide (0≤A6 [.i (lg r i 0),.i (lg r i 1),.i x,.i y,.i (lg r (X2 r.length i) 0),.i (lg r (X2 r.length i) 1)])
 else decide (A6 [.i (lg r i 0),.i (lg r i 1),.i (lg r (X2 r.length i) 0),.i (lg r (X2 r.length i) 1),.i x,.i y]≤0)||decide (A6 [.i (lg r i 0),.i (lg r i 1),.i x,.i y,.i (lg r (nxt r.length i) 0),.i (lg r (nxt r.length i) 1)]≤0)
def opL(ds:List D):Bool:=opB (d9 ds 0) (c9 ds 1).toNat (c9 ds 2) (c9 ds 3)
theorem d5J:GivesIf Tryz.prog 202 [v9,it,pt] (fun ds=>0≤c9 ds 1∧c9 ds 1<(d9 ds 0).length) (fun ds=> .bool (opL ds)):=by
 refine i7 w9 (by kernel_rfl) (fun ρ h=>a6S (Sees.of h 112)) (by kernel_rfl) c1B b8a (by decide) (fun W vals ds hr hok=> ?_)
 have hlen:=Q5 hr
 simp only[b1R,g8,Nat.reduceBEq,Nat.reduceLT,Nat.reduceSub,d5N]
 unfold opL
 obtain⟨h0,h1⟩:=hok
 obtain⟨i,hi⟩:=Int.eq_ofNat_of_zero_le h0
 rw[hi] at h1 ⊢
 generalize d9 ds 0=r at*
 have hi':i<r.length:=by omega
 have hn:=u0 hi'
 have hp:=a9M hi'
 rw[D6 hi' hlen,b6m hi' hlen,Int.toNat_natCast]
 refine⟨by omega,by omega,by omega,by omega,by omega,by omega,by omega,by omega,fun a=>⟨fun b=> ?_,fun b=> ?_⟩,fun a=>⟨fun b=> ?_,fun b=> ?_⟩⟩
 ·rw[opB,if_pos a,decide_eq_true b];rfl
 ·rw[opB,if_pos a,decide_eq_false b];rfl
 ·rw[opB,if_neg a,decide_eq_true b];rfl
 ·rw[opB,if_neg a,decide_eq_false b];rfl
def z9:Interp where
 fi n l:=match n with | 112=>O4 l | 113=>a0t l | 114=>a0o l | n=>w9.fi n l
 fb n l:=match n with | 112=>a1D l | 115=>opL l | n=>w9.fb n l
 fd _ _:=[]
theorem c0i{ρ:Env}(h:Sees ρ z9 116):Sees ρ w9 112:=h.trans (by decide) fun n l hn=>by
 refine⟨?_,?_⟩
 ·
  simp only[z9]
  split<;>first | omega | rfl
 ·
  simp only[z9]
  split<;>first | omega | rfl
def b5G:=o7 [v9,v9] fun al=> .ret (.tup [.one (G8 112 a1D al),.one (w6 112 O4 al)])
theorem b7Y{ρ:Env}(h:Sees ρ z9 116):i9 Tryz.prog ρ 191 b5G:=
 k5 c9v (fun _=>rfl) (fun al=>by simp only[V.val,V2.val,S.val,S0.val,w6,G8,List.map_cons,List.map_nil,k7 (s:=112) (f:=a1D) (fun l=>by rw[(h 112 l (by decide)).2];simp only[z9]),o6 (s:=112) (f:=O4) (fun l=>by rw[(h 112 l (by decide)).1];simp only[z9])];try rfl)
def b9c:=o7 [v9,pt,it] fun al=> .ret (.tup [.one (w6 113 a0t al),.one (w6 114 a0o al)])
theorem c1C{ρ:Env}(h:Sees ρ z9 116):i9 Tryz.prog ρ 189 b9c:=
 k5 d1P (fun _=>rfl) (fun al=>by simp only[V.val,V2.val,S.val,S0.val,w6,G8,List.map_cons,List.map_nil,o6 (s:=113) (f:=a0t) (fun l=>by rw[(h 113 l (by decide)).1];simp only[z9]),o6 (s:=114) (f:=a0o) (fun l=>by rw[(h 114 l (by decide)).1];simp only[z9])];try rfl)
def c3U(al:AL):T V:=match al with
 | .x r (.i k (.i x (.i y .nil)))=>T.obs [.tru (.cmpS .leq (.lit 0) k),.tru (.cmpS .lss k (.len r))] (.ret (bV (bF 115 opL al)))
 | _=> .stuck "opens"
def c6q:=o7 [v9,it,pt] c3U
theorem c6W{ρ:Env}(h:Sees ρ z9 116):i9 Tryz.prog ρ 202 c6q:=by
 refine A0 d5J (fun al v hv=> ?_)
 unfold c3U at hv
 split at hv
 ·rename_i r k x y
  obtain⟨ho,hv⟩:=T.res_obs hv
  obtain rfl:=g7 hv
  have o1:=ho _ (List.mem_cons_self ..)
  have o2:=ho _ (List.mem_cons_of_mem _ (List.mem_cons_self ..))
  simp only[Ob.ok,B.cmpS_ev,x7,p6,E.ev] at o1 o2
  refine⟨rfl,⟨?_,?_⟩,?_⟩
  ·simpa [c9,AL.ev,D.int] using o1
  ·simpa [c9,d9,AL.ev,D.int,D.rows] using o2
  ·simp only[bV,V.s0,V.val,V2.val,S.val,S0.val,k7 (s:=115) (f:=opL) (fun l=>by rw[(h 115 l (by decide)).2];simp only[z9])]
 ·exact hv.elim
def c8H:Ct:=(191,b5G)::(189,b9c)::(202,c6q)::b4G
theorem c0c{ρ:Env}(h:Sees ρ z9 116):CtOk Tryz.prog ρ c8H:= .cons (b7Y h)<| .cons (c1C h)<| .cons (c6W h) (a6S (c0i h))
def b0L:TT j6:=
(.loop 0 5000 ⟨[(0,(.lit 0))],[],[]⟩
 (.ite (.cmp .lss (.var 5000) (.len (.var 0)))
 (.ob (.tru (.cmp .leq (.lit 0) (.var 5000)))
 (.ob (.tru (.cmp .lss (.var 5000) (.len (.var 0))))
 (.ite (.and (.cmp .eql (.var 1) (.rd (.var 0) (.var 5000) 0)) (.cmp .eql (.var 2) (.rd (.var 0) (.var 5000) 1)))
 (.ite (.cmp .geq (.var 5000) (.lit 0))
 (.ob (.tru (.cmp .leq (.lit 0) (.var 5000)))
 (.ob (.tru (.cmp .lss (.var 5000) (.len (.var 0))))
 (.ret ((.v (.one (.z (.bool (.fn 115 (.x (.var 0) (.i (.var 5000) (.i (.var 3) (.i (.var 4) .nil))))))))),[],5))))
 (.loop 1 9000 ⟨[(0,(.lit 0))],[],[]⟩
 (.ite (.cmp .lss (.var 9000) (.len (.var 0)))
 (.ob (.tru (.cmp .leq (.lit 0) (.var 9000)))
 (.ob (.tru (.cmp .lss (.var 9000) (.len (.var 0))))
 (.ob (.tru (.cmp .neq (.len (.var 0)) (.lit 0)))
 (.ob (.tru (.cmp .leq (.lit 0) (.ar .rem .i64 (.ar .add .i64 (.ar .add .i64 (.var 9000) (.lit 1)) (.len (.var 0))) (.len (.var 0)))))
 (.ob (.tru (.cmp .lss (.ar .rem .i64 (.ar .add .i64 (.ar .add .i64 (.var 9000) (.lit 1)) (.len (.var 0))) (.len (.var 0))) (.len (.var 0))))
 (.ite (.fn 61 (.i (.var 1) (.i (.var 2) (.i (.rd (.var 0) (.var 9000) 0) (.i (.rd (.var 0) (.var 9000) 1) (.i (.rd (.var 0) (.ar .rem .i64 (.ar .add .i64 (.ar .add .i64 (.var 9000) (.lit 1)) (.len (.var 0))) (.len (.var 0))) 0) (.i (.rd (.var 0) (.ar .rem .i64 (.ar .add .i64 (.ar .add .i64 (.var 9000) (.lit 1)) (.len (.var 0))) (.len (.var 0))) 1) .nil)))))))
 (.ret ((.v (.one (.z (.bool (.cmp .geq (.fn 15 (.i (.rd (.var 0) (.var 9000) 0) (.i (.rd (.var 0) (.var 9000) 1) (.i (.rd (.var 0) (.ar .rem .i64 (.ar .add .i64 (.ar .add .i64 (.var 9000) (.lit 1)) (.len (.var 0))) (.len (.var 0))) 0) (.i (.rd (.var 0) (.ar .rem .i64 (.ar .add .i64 (.ar .add .i64 (.var 9000) (.lit 1)) (.len (.var 0))) (.len (.var 0))) 1) (.i (.var 3) (.i (.var 4) .nil))))))) (.lit 0)))))),[],18))
 (.next 1 ⟨[(0,(.ar .add .i64 (.var 9000) (.lit 1)))],[],[]⟩)))))))
 (.ret ((.v (.one (.z (.bool (.lit true))))),[],18)))))
 (.next 0 ⟨[(0,(.ar .add .i64 (.var 5000) (.lit 1)))],[],[]⟩))))
 (.loop 1 9000 ⟨[(0,(.lit 0))],[],[]⟩
 (.ite (.cmp .lss (.var 9000) (.len (.var 0)))
 (.ob (.tru (.cmp .leq (.lit 0) (.var 9000)))
 (.ob (.tru (.cmp .lss (.var 9000) (.len (.var 0))))
 (.ob (.tru (.cmp .neq (.len (.var 0)) (.lit 0)))
 (.ob (.tru (.cmp .leq (.lit 0) (.ar .rem .i64 (.ar .add .i64 (.ar .add .i64 (.var 9000) (.lit 1)) (.len (.var 0))) (.len (.var 0)))))
 (.ob (.tru (.cmp .lss (.ar .rem .i64 (.ar .add .i64 (.ar .add .i64 (.var 9000) (.lit 1)) (.len (.var 0))) (.len (.var 0))) (.len (.var 0))))
 (.ite (.fn 61 (.i (.var 1) (.i (.var 2) (.i (.rd (.var 0) (.var 9000) 0) (.i (.rd (.var 0) (.var 9000) 1) (.i (.rd (.var 0) (.ar .rem .i64 (.ar .add .i64 (.ar .add .i64 (.var 9000) (.lit 1)) (.len (.var 0))) (.len (.var 0))) 0) (.i (.rd (.var 0) (.ar .rem .i64 (.ar .add .i64 (.ar .add .i64 (.var 9000) (.lit 1)) (.len (.var 0))) (.len (.var 0))) 1) .nil)))))))
 (.ret ((.v (.one (.z (.bool (.cmp .geq (.fn 15 (.i (.rd (.var 0) (.var 9000) 0) (.i (.rd (.var 0) (.var 9000) 1) (.i (.rd (.var 0) (.ar .rem .i64 (.ar .add .i64 (.ar .add .i64 (.var 9000) (.lit 1)) (.len (.var 0))) (.len (.var 0))) 0) (.i (.rd (.var 0) (.ar .rem .i64 (.ar .add .i64 (.ar .add .i64 (.var 9000) (.lit 1)) (.len (.var 0))) (.len (.var 0))) 1) (.i (.var 3) (.i (.var 4) .nil))))))) (.lit 0)))))),[],18))
 (.next 1 ⟨[(0,(.ar .add .i64 (.var 9000) (.lit 1)))],[],[]⟩)))))))
 (.ret ((.v (.one (.z (.bool (.lit true))))),[],18))))))
set_option maxRecDepth 100000 in
theorem c0U:T.norm 0 (call Tryz.prog c8H (Lt.of []) 100 201 (i6 0 [v9,pt,pt]) [] 0) TT.ret=b0L:=by kernel_rfl
theorem b8w:b0L.low 1000=true:=by kernel_rfl
def leE(r:Rows)(x y tx ty:Int):Nat→Nat→Bool
 | 0,_=>true
 | f+1,i=>if onE r x y i then decide (0≤A6 [.i (lg r i 0),.i (lg r i 1),.i (lg r (nxt r.length i) 0),.i (lg r (nxt r.length i) 1),.i tx,.i ty]) else leE r x y tx ty f (i+1)
def leN(r:Rows)(x y tx ty:Int):Nat→Nat→Bool
 | 0,_=>leE r x y tx ty r.length 0
 | f+1,i=>if x=lg r i 0∧y=lg r i 1 then opB r i tx ty else leN r x y tx ty f (i+1)
def leL(ds:List D):Bool:=leN (d9 ds 0) (c9 ds 1) (c9 ds 2) (c9 ds 3) (c9 ds 4) (d9 ds 0).length 0
theorem d5s(W:World)(ds l:List D):(f0 z9 W ds).fb 61 l=onR l:=by simp only[f0,z9,w9,KI,KH,KG,KF,KE,KD,KC,KB,KA,K9,K8,K7,K6,K5,K]
theorem d2c(W:World)(ds l:List D):(f0 z9 W ds).fb 115 l=opL l:=by simp only[f0,z9]
theorem d4h(W:World)(ds l:List D):(f0 z9 W ds).fi 15 l=A6 l:=by simp only[f0,z9,w9,KI,KH,KG,KF,KE,KD,KC,KB,KA,K9,K8,K7,K6,K5,K]
theorem c0H(r:Rows)(i:Nat)(x y:Int):opL [.l r,.i i,.i x,.i y]=opB r i x y:=rfl
set_option maxHeartbeats 1000000 in
theorem d3J:k8 Tryz.prog 201 [v9,pt,pt] (fun ds=> .bool (leL ds)):=by
 refine GivesIf.all (i7 z9 (by kernel_rfl) (fun ρ h=>c0c (Sees.of h 116)) (by kernel_rfl) c0U b8w (by decide) (fun W vals ds hr _=> ?_))
 have hlen:=Q5 hr
 simp only[b0L]
 have hP:leL ds=leN (d9 ds 0) (c9 ds 1) (c9 ds 2) (c9 ds 3) (c9 ds 4) (d9 ds 0).length 0:=rfl
 rw[hP]
 clear hP hr
 generalize e0:d9 ds 0=r at*
 generalize e1:c9 ds 1=x at*
 generalize e2:c9 ds 2=y at*
 generalize e3:c9 ds 3=s at*
 generalize e4:c9 ds 4=t at*
 generalize hG:leN r x y s t r.length 0=G
 refine TT.sat_loop (fun v=>∃i:Nat,v.i 0=i∧i≤r.length∧leN r x y s t (r.length-i) i=G) (fun v=>r.length-(v.i 0).toNat)
  ⟨0,by simp [j7,i8,E.ev],by omega,hG⟩ (fun v hv=> ?_)
 obtain⟨i,i0,i1,i2⟩:=hv
 simp only[g8,Nat.reduceBEq,Nat.reduceLT,Nat.reduceSub,i0,e0,e1,e2,e3,e4,d2c,c0H]
 refine⟨fun hc=> ?_,fun hc=> ?_⟩
 ·have hi:i<r.length:=by omega
  obtain⟨f,hf⟩:∃f,r.length-i=f+1:=⟨r.length-i-1,by omega⟩
  rw[hf,leN] at i2
  have hf':r.length-(i+1)=f:=by omega
  rw[f8 ((i:Int)+1) (by omega) (by omega)]
  refine⟨by omega,by omega,fun a=>⟨fun _=>⟨by omega,by omega,?_⟩,fun h=>absurd h (by omega)⟩,fun a=>⟨⟨i+1,rfl,by omega,?_⟩,by omega⟩⟩
  ·rw[if_pos a] at i2;rw[←i2]
  ·rw[if_neg a] at i2;rw[hf'];exact i2
 ·have:r.length-i=0:=by omega
  rw[this,leN] at i2
  refine TT.sat_loop (fun u=>∃k:Nat,u.i 0=k∧k≤r.length∧leE r x y s t (r.length-k) k=G) (fun u=>r.length-(u.i 0).toNat)
   ⟨0,by simp [j7,i8,E.ev],by omega,i2⟩ (fun u hu=> ?_)
  obtain⟨k,k0,k1,k2⟩:=hu
  simp only[g8,Nat.reduceBEq,Nat.reduceLT,Nat.reduceSub,k0,e0,e1,e2,e3,e4,d5s,d4h]
  refine⟨fun hk=> ?_,fun hk=> ?_⟩
  ·have hkn:k<r.length:=by omega
   have hn':=u0 hkn
   obtain⟨g,hg⟩:∃g,r.length-k=g+1:=⟨r.length-k-1,by omega⟩
   rw[hg,leE] at k2
   have hg':r.length-(k+1)=g:=by omega
   rw[D6 hkn hlen,f8 ((k:Int)+1) (by omega) (by omega)]
   refine⟨by omega,by omega,by omega,by omega,by omega,fun a=> ?_,fun a=>⟨⟨k+1,rfl,by omega,?_⟩,by omega⟩⟩
   ·rw[if_pos (show onE r x y k=true from a)] at k2
    rw[←k2]
    rfl
   ·rw[if_neg (by rw[onE,a];decide)] at k2
    rw[hg'];exact k2
  ·have:r.length-k=0:=by omega
   rw[this,leE] at k2
   rw[←k2]
def C6:Interp where
 fi n l:=z9.fi n l
 fb n l:=match n with | 116=>leL l | n=>z9.fb n l
 fd _ _:=[]
theorem b9O{ρ:Env}(h:Sees ρ C6 117):Sees ρ z9 116:=h.trans (by decide) fun n l hn=>by
 refine⟨?_,?_⟩
 ·
  rfl
 ·
  simp only[C6]
  split<;>first | omega | rfl
def c4c:=o7 [v9,pt,pt] fun al=> .ret (bV (bF 116 leL al))
theorem c4n{ρ:Env}(h:Sees ρ C6 117):i9 Tryz.prog ρ 201 c4c:=
 k5 d3J (fun _=>rfl) (fun al=>by simp only[iV,bV,V.s0,V.val,V2.val,S.val,S0.val,k7 (s:=116) (f:=leL) (fun l=>by rw[(h 116 l (by decide)).2];simp only[C6])];try rfl)
def c8R:Ct:=(201,c4c)::c8H
theorem b9r{ρ:Env}(h:Sees ρ C6 117):CtOk Tryz.prog ρ c8R:= .cons (c4n h) (c0c (b9O h))
end Go.Proofs.YtldbejmgalhdaaaGreat
