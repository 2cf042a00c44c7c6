/- MT, merged: TDa, Da, Db0, TDb, Db, TEa, Ea, TEb, Eb, TEc, Ec, TEd, Ed, TEe, Ee, Fa, Pg. -/
import Derived.Test.YtcjaembdcfppfaaGreatMF
import Derived.Test.YtcjaembdcfppfaaGreatMI
set_option linter.unusedSimpArgs false
set_option linter.unusedVariables false
namespace Go.Proofs.YtcjaembdcfppfaaGreat
open Go.RowKit
def c4t(r:Rows):Nat→Nat→Int→Int→Int
 | 0,_,x,_=>x
 | f+1,i,x,y=>if a1f (lg r i 0) (lg r i 1) x y<0 then c4t r f (i+1) (lg r i 0) (lg r i 1) else c4t r f (i+1) x y
def c4o(r:Rows):Nat→Nat→Int→Int→Int
 | 0,_,x,_=>x
 | f+1,i,x,y=>if 0<a1f (lg r i 0) (lg r i 1) x y then c4o r f (i+1) (lg r i 0) (lg r i 1) else c4o r f (i+1) x y
def c4e(r:Rows):Nat→Nat→Int→Int
 | 0,_,y=>y
 | f+1,i,y=>if lg r i 1<y then c4e r f (i+1) (lg r i 1) else c4e r f (i+1) y
def c5m(r:Rows):Nat→Nat→Int→Int
 | 0,_,y=>y
 | f+1,i,y=>if y<lg r i 1 then c5m r f (i+1) (lg r i 1) else c5m r f (i+1) y
def pbA(ds:List D):Int:=if j6 (b9 ds 0) then c4t (b9 ds 0) ((b9 ds 0).length-1) 1 (lg (b9 ds 0) 0 0) (lg (b9 ds 0) 0 1) else 0
def pbB(ds:List D):Int:=if j6 (b9 ds 0) then c4o (b9 ds 0) ((b9 ds 0).length-1) 1 (lg (b9 ds 0) 0 0) (lg (b9 ds 0) 0 1) else 0
def pbC(ds:List D):Int:=if j6 (b9 ds 0) then c4e (b9 ds 0) ((b9 ds 0).length-1) 1 (lg (b9 ds 0) 0 1) else 0
def pbD(ds:List D):Int:=if j6 (b9 ds 0) then c5m (b9 ds 0) ((b9 ds 0).length-1) 1 (lg (b9 ds 0) 0 1) else 0
def pbE(ds:List D):Int:=if j6 (b9 ds 0) then 0 else 1
def KH:Interp where
 fi n l:=match n with | 80=>pbA l | 81=>pbB l | 82=>pbC l | 83=>pbD l | 84=>pbE l | n=>KG.fi n l
 fb n l:=KG.fb n l
 fd _ _:=[]
theorem c7E{ρ:Env}(h:Sees ρ KH 85):Sees ρ KG 80:=h.trans (by decide) fun n l hn=>by
 refine⟨?_,?_⟩
 ·
  simp only[KH]
  split<;>first | omega | rfl
 ·
  rfl
def d1u:Ct:=ctF
theorem c8S{ρ:Env}(h:Sees ρ KH 85):CtOk Tryz.prog ρ d1u:=(c1D (d3F (c7E h)))
def b7J(kind x rad p:Int)(s:Int):Int:=if kind=4 then x else if kind=3∨kind=6 then p else x+s*rad
def fbA(ds:List D):Int:=if G1 ds then b7J (a7 ds 1) (a7 ds 2) (a7 ds 4) (pbA [.l (b9 ds 5)]) (-1) else 0
def fbB(ds:List D):Int:=if G1 ds then b7J (a7 ds 1) (a7 ds 2) (a7 ds 4) (pbB [.l (b9 ds 5)]) 1 else 0
def fbC(ds:List D):Int:=if G1 ds then b7J (a7 ds 1) (a7 ds 3) (a7 ds 4) (pbC [.l (b9 ds 5)]) (-1) else 0
def fbD(ds:List D):Int:=if G1 ds then b7J (a7 ds 1) (a7 ds 3) (a7 ds 4) (pbD [.l (b9 ds 5)]) 1 else 0
def fbE(ds:List D):Int:=if G1 ds then 0 else 1
def KI:Interp where
 fi n l:=match n with | 85=>fbA l | 86=>fbB l | 87=>fbC l | 88=>fbD l | 89=>fbE l | n=>KH.fi n l
 fb n l:=KH.fb n l
 fd _ _:=[]
theorem c7W{ρ:Env}(h:Sees ρ KI 90):Sees ρ KH 85:=h.trans (by decide) fun n l hn=>by
 refine⟨?_,?_⟩
 ·
  simp only[KI]
  split<;>first | omega | rfl
 ·
  rfl
def b0z:TT j4:=
(.ite (.not (.fn 3 (.i (.var 0) (.i (.var 1) .nil))))
 (.ret ((.tup [(.one (.z (.bool (.lit false)))),(.one (.z (.int .i64 (.lit 1))))]),[],5))
 (.ite (.not (.fn 3 (.i (.var 2) (.i (.var 3) .nil))))
 (.ret ((.tup [(.one (.z (.bool (.lit false)))),(.one (.z (.int .i64 (.lit 1))))]),[],6))
 (.ite (.not (.fn 3 (.i (.var 4) (.i (.var 5) .nil))))
 (.ret ((.tup [(.one (.z (.bool (.lit false)))),(.one (.z (.int .i64 (.lit 1))))]),[],7))
 (.ite (.cmp .geq (.var 6) (.lit 0))
 (.ite (.not (.cmp .leq (.var 6) (.lit 3000000)))
 (.ret ((.tup [(.one (.z (.bool (.lit false)))),(.one (.z (.int .i64 (.lit 1))))]),[],7))
 (.ite (.cmp .leq (.ar .add .i64 (.ar .mul .i64 (.ar .sub .i64 (.var 4) (.var 2)) (.ar .sub .i64 (.var 0) (.var 2))) (.ar .mul .i64 (.ar .sub .i64 (.var 5) (.var 3)) (.ar .sub .i64 (.var 1) (.var 3)))) (.lit 0))
 (.ob (.tru (.cmp .leq (.lit 0) (.ar .mul .i64 (.var 6) (.var 6))))
 (.ob (.tru (.cmp .lss (.ar .mul .i64 (.var 6) (.var 6)) (.lit 9223372036854775808)))
 (.ob (.tru (.lit true))
 (.ob (.tru (.lit true))
 (.ob (.tru (.cmp .leq (.lit 0) (.ar .add .i64 (.ar .mul .i64 (.ar .sub .i64 (.var 0) (.var 2)) (.ar .sub .i64 (.var 0) (.var 2))) (.ar .mul .i64 (.ar .sub .i64 (.var 1) (.var 3)) (.ar .sub .i64 (.var 1) (.var 3))))))
 (.ob (.tru (.cmp .lss (.ar .add .i64 (.ar .mul .i64 (.ar .sub .i64 (.var 0) (.var 2)) (.ar .sub .i64 (.var 0) (.var 2))) (.ar .mul .i64 (.ar .sub .i64 (.var 1) (.var 3)) (.ar .sub .i64 (.var 1) (.var 3)))) (.lit 9223372036854775808)))
 (.ob (.tru (.lit true))
 (.ob (.tru (.lit true))
 (.ret ((.tup [(.one (.z (.bool (.fn 0 (.i (.ar .mul .i64 (.var 6) (.var 6)) (.i (.lit 1) (.i (.ar .add .i64 (.ar .mul .i64 (.ar .sub .i64 (.var 0) (.var 2)) (.ar .sub .i64 (.var 0) (.var 2))) (.ar .mul .i64 (.ar .sub .i64 (.var 1) (.var 3)) (.ar .sub .i64 (.var 1) (.var 3)))) (.i (.lit 1) .nil)))))))),(.one (.z (.int .i64 (.lit 0))))]),[],24))))))))))
 (.ite (.cmp .geq (.ar .add .i64 (.ar .mul .i64 (.ar .sub .i64 (.var 4) (.var 2)) (.ar .sub .i64 (.var 0) (.var 2))) (.ar .mul .i64 (.ar .sub .i64 (.var 5) (.var 3)) (.ar .sub .i64 (.var 1) (.var 3)))) (.ar .add .i64 (.ar .mul .i64 (.ar .sub .i64 (.var 4) (.var 2)) (.ar .sub .i64 (.var 4) (.var 2))) (.ar .mul .i64 (.ar .sub .i64 (.var 5) (.var 3)) (.ar .sub .i64 (.var 5) (.var 3)))))
 (.ob (.tru (.cmp .leq (.lit 0) (.ar .mul .i64 (.var 6) (.var 6))))
 (.ob (.tru (.cmp .lss (.ar .mul .i64 (.var 6) (.var 6)) (.lit 9223372036854775808)))
 (.ob (.tru (.lit true))
 (.ob (.tru (.lit true))
 (.ob (.tru (.cmp .leq (.lit 0) (.ar .add .i64 (.ar .mul .i64 (.ar .sub .i64 (.var 0) (.var 4)) (.ar .sub .i64 (.var 0) (.var 4))) (.ar .mul .i64 (.ar .sub .i64 (.var 1) (.var 5)) (.ar .sub .i64 (.var 1) (.var 5))))))
 (.ob (.tru (.cmp .lss (.ar .add .i64 (.ar .mul .i64 (.ar .sub .i64 (.var 0) (.var 4)) (.ar .sub .i64 (.var 0) (.var 4))) (.ar .mul .i64 (.ar .sub .i64 (.var 1) (.var 5)) (.ar .sub .i64 (.var 1) (.var 5)))) (.lit 9223372036854775808)))
 (.ob (.tru (.lit true))
 (.ob (.tru (.lit true))
 (.ret ((.tup [(.one (.z (.bool (.fn 0 (.i (.ar .mul .i64 (.var 6) (.var 6)) (.i (.lit 1) (.i (.ar .add .i64 (.ar .mul .i64 (.ar .sub .i64 (.var 0) (.var 4)) (.ar .sub .i64 (.var 0) (.var 4))) (.ar .mul .i64 (.ar .sub .i64 (.var 1) (.var 5)) (.ar .sub .i64 (.var 1) (.var 5)))) (.i (.lit 1) .nil)))))))),(.one (.z (.int .i64 (.lit 0))))]),[],28))))))))))
 (.ob (.tru (.cmp .leq (.lit 0) (.ar .mul .i64 (.var 6) (.var 6))))
 (.ob (.tru (.cmp .lss (.ar .mul .i64 (.var 6) (.var 6)) (.lit 9223372036854775808)))
 (.ob (.tru (.cmp .leq (.lit 0) (.ar .add .i64 (.ar .mul .i64 (.ar .sub .i64 (.var 4) (.var 2)) (.ar .sub .i64 (.var 4) (.var 2))) (.ar .mul .i64 (.ar .sub .i64 (.var 5) (.var 3)) (.ar .sub .i64 (.var 5) (.var 3))))))
 (.ob (.tru (.cmp .lss (.ar .add .i64 (.ar .mul .i64 (.ar .sub .i64 (.var 4) (.var 2)) (.ar .sub .i64 (.var 4) (.var 2))) (.ar .mul .i64 (.ar .sub .i64 (.var 5) (.var 3)) (.ar .sub .i64 (.var 5) (.var 3)))) (.lit 9223372036854775808)))
 (.ob (.tru (.cmp .leq (.lit 0) (.mx (.ar .sub .i64 (.ar .mul .i64 (.ar .sub .i64 (.var 4) (.var 2)) (.ar .sub .i64 (.var 1) (.var 3))) (.ar .mul .i64 (.ar .sub .i64 (.var 5) (.var 3)) (.ar .sub .i64 (.var 0) (.var 2)))) (.ar .sub .i64 (.lit 0) (.ar .sub .i64 (.ar .mul .i64 (.ar .sub .i64 (.var 4) (.var 2)) (.ar .sub .i64 (.var 1) (.var 3))) (.ar .mul .i64 (.ar .sub .i64 (.var 5) (.var 3)) (.ar .sub .i64 (.var 0) (.var 2))))))))
 (.ob (.tru (.cmp .lss (.mx (.ar .sub .i64 (.ar .mul .i64 (.ar .sub .i64 (.var 4) (.var 2)) (.ar .sub .i64 (.var 1) (.var 3))) (.ar .mul .i64 (.ar .sub .i64 (.var 5) (.var 3)) (.ar .sub .i64 (.var 0) (.var 2)))) (.ar .sub .i64 (.lit 0) (.ar .sub .i64 (.ar .mul .i64 (.ar .sub .i64 (.var 4) (.var 2)) (.ar .sub .i64 (.var 1) (.var 3))) (.ar .mul .i64 (.ar .sub .i64 (.var 5) (.var 3)) (.ar .sub .i64 (.var 0) (.var 2)))))) (.lit 9223372036854775808)))
 (.ob (.tru (.cmp .leq (.lit 0) (.mx (.ar .sub .i64 (.ar .mul .i64 (.ar .sub .i64 (.var 4) (.var 2)) (.ar .sub .i64 (.var 1) (.var 3))) (.ar .mul .i64 (.ar .sub .i64 (.var 5) (.var 3)) (.ar .sub .i64 (.var 0) (.var 2)))) (.ar .sub .i64 (.lit 0) (.ar .sub .i64 (.ar .mul .i64 (.ar .sub .i64 (.var 4) (.var 2)) (.ar .sub .i64 (.var 1) (.var 3))) (.ar .mul .i64 (.ar .sub .i64 (.var 5) (.var 3)) (.ar .sub .i64 (.var 0) (.var 2))))))))
 (.ob (.tru (.cmp .lss (.mx (.ar .sub .i64 (.ar .mul .i64 (.ar .sub .i64 (.var 4) (.var 2)) (.ar .sub .i64 (.var 1) (.var 3))) (.ar .mul .i64 (.ar .sub .i64 (.var 5) (.var 3)) (.ar .sub .i64 (.var 0) (.var 2)))) (.ar .sub .i64 (.lit 0) (.ar .sub .i64 (.ar .mul .i64 (.ar .sub .i64 (.var 4) (.var 2)) (.ar .sub .i64 (.var 1) (.var 3))) (.ar .mul .i64 (.ar .sub .i64 (.var 5) (.var 3)) (.ar .sub .i64 (.var 0) (.var 2)))))) (.lit 9223372036854775808)))
 (.ret ((.tup [(.one (.z (.bool (.fn 0 (.i (.ar .mul .i64 (.var 6) (.var 6)) (.i (.ar .add .i64 (.ar .mul .i64 (.ar .sub .i64 (.var 4) (.var 2)) (.ar .sub .i64 (.var 4) (.var 2))) (.ar .mul .i64 (.ar .sub .i64 (.var 5) (.var 3)) (.ar .sub .i64 (.var 5) (.var 3)))) (.i (.mx (.ar .sub .i64 (.ar .mul .i64 (.ar .sub .i64 (.var 4) (.var 2)) (.ar .sub .i64 (.var 1) (.var 3))) (.ar .mul .i64 (.ar .sub .i64 (.var 5) (.var 3)) (.ar .sub .i64 (.var 0) (.var 2)))) (.ar .sub .i64 (.lit 0) (.ar .sub .i64 (.ar .mul .i64 (.ar .sub .i64 (.var 4) (.var 2)) (.ar .sub .i64 (.var 1) (.var 3))) (.ar .mul .i64 (.ar .sub .i64 (.var 5) (.var 3)) (.ar .sub .i64 (.var 0) (.var 2)))))) (.i (.mx (.ar .sub .i64 (.ar .mul .i64 (.ar .sub .i64 (.var 4) (.var 2)) (.ar .sub .i64 (.var 1) (.var 3))) (.ar .mul .i64 (.ar .sub .i64 (.var 5) (.var 3)) (.ar .sub .i64 (.var 0) (.var 2)))) (.ar .sub .i64 (.lit 0) (.ar .sub .i64 (.ar .mul .i64 (.ar .sub .i64 (.var 4) (.var 2)) (.ar .sub .i64 (.var 1) (.var 3))) (.ar .mul .i64 (.ar .sub .i64 (.var 5) (.var 3)) (.ar .sub .i64 (.var 0) (.var 2)))))) .nil)))))))),(.one (.z (.int .i64 (.lit 0))))]),[],24)))))))))))))
 (.ret ((.tup [(.one (.z (.bool (.lit false)))),(.one (.z (.int .i64 (.lit 1))))]),[],7))))))
set_option maxRecDepth 100000 in
theorem b8E:T.norm 0 (call Tryz.prog ct1 lt1 100 167 (g7 0 [pt,pt,pt,it]) [] 0) TT.ret=b0z:=by kernel_rfl
theorem b5f:b0z.low 1000=true:=by kernel_rfl
def U1(px py ax ay bx by' d:Int):Bool:=
 if F7 ax ay bx by' px py≤0 then decide (d*d≤l9 ax ay px py)
 else if l9 ax ay bx by'≤F7 ax ay bx by' px py then decide (d*d≤l9 bx by' px py)
 else decide (d*d*l9 ax ay bx by'≤a8 ax ay bx by' px py*a8 ax ay bx by' px py)
def a2j(ds:List D):Bool:=u0 ds&&A5 (a7 ds 6)
def a2f(ds:List D):Bool:=a2j ds&&U1 (a7 ds 0) (a7 ds 1) (a7 ds 2) (a7 ds 3) (a7 ds 4) (a7 ds 5) (a7 ds 6)
def a5f(ds:List D):Int:=if a2j ds then 0 else 1
theorem d4W(W:World)(ds:List D)(a b c d:Int):(a9 I1 W ds).fb 0 [.i a,.i b,.i c,.i d]=decide (a*b≤c*d):=rfl
set_option maxHeartbeats 1000000 in
theorem d2U:m8 Tryz.prog 167 [pt,pt,pt,it] (fun ds=> .tuple #[.bool (a2f ds),.int .i64 (a5f ds)]):=by
 refine GivesIf.all (i7 I1 (by kernel_rfl) (fun ρ h=>a9a h) (by kernel_rfl) b8E b5f (by decide) (fun W vals ds _ _=> ?_))
 simp only[b0z,g9,Nat.reduceBEq,Nat.reduceLT,Nat.reduceSub,b1K,a0j]
 have F:a2j ds=false→Value.tuple #[.bool false,.int .i64 1]=Value.tuple #[.bool (a2f ds),.int .i64 (a5f ds)]:=fun h=>by simp [a2f,a5f,h]
 refine⟨fun h=>F ?_,fun p0=>⟨fun h=>F ?_,fun p1=>⟨fun h=>F ?_,fun p2=>⟨fun p3=>⟨fun h=>F ?_,fun p4=> ?_⟩,fun h=>F ?_⟩⟩⟩⟩
 ·simp only[a2j,u0,h,Bool.false_and]
 ·simp only[a2j,u0,h,Bool.false_and,Bool.and_false]
 ·simp only[a2j,u0,h,Bool.false_and,Bool.and_false]
 ·simp only[a2j,A5,Bool.and_eq_false_imp,decide_eq_false_iff_not];omega
 ·have hO:a2j ds=true:=by simp only[a2j,u0,p0,p1,p2,A5,Bool.and_true,Bool.true_and,decide_eq_true_eq];omega
  have T:∀b,U1 (a7 ds 0) (a7 ds 1) (a7 ds 2) (a7 ds 3) (a7 ds 4) (a7 ds 5) (a7 ds 6)=b→Value.tuple #[.bool b,.int .i64 0]=Value.tuple #[.bool (a2f ds),.int .i64 (a5f ds)]:=fun b h=>by rw[a2f,a5f,hO,h];rfl
  have h6:0≤a7 ds 6∧a7 ds 6≤3000000:=by omega
  rw[z0] at p0 p1 p2
  obtain⟨h0,h1⟩:=p0
  obtain⟨h2,h3⟩:=p1
  obtain⟨h4,h5⟩:=p2
  have c0:=b9L h6
  have d1:=o6 h0 h2 h0 h2
  have d2:=o6 h1 h3 h1 h3
  have d3:=o6 h0 h4 h0 h4
  have d4:=o6 h1 h5 h1 h5
  have d5:=o6 h4 h2 h4 h2
  have d6:=o6 h5 h3 h5 h3
  have d7:=o6 h4 h2 h1 h3
  have d8:=o6 h5 h3 h0 h2
  have n1:=D3 (a7 ds 0-a7 ds 2)
  have n2:=D3 (a7 ds 1-a7 ds 3)
  have n3:=D3 (a7 ds 0-a7 ds 4)
  have n4:=D3 (a7 ds 1-a7 ds 5)
  have n5:=D3 (a7 ds 4-a7 ds 2)
  have n6:=D3 (a7 ds 5-a7 ds 3)
  simp only[o0 h4 h2,o0 h0 h2,o0 h5 h3,o0 h1 h3,o0 h0 h4,o0 h1 h5,G6 h4 h2 h0 h2,G6 h5 h3 h1 h3,d1.1,d2.1,d3.1,d4.1,d5.1,d6.1,d7.1,d8.1,L5 h4 h2 h0 h2 h5 h3 h1 h3,
   L5 h0 h2 h0 h2 h1 h3 h1 h3,L5 h0 h4 h0 h4 h1 h5 h1 h5,L5 h4 h2 h4 h2 h5 h3 h5 h3,(T1 h4 h2 h1 h3 h5 h3 h0 h2).1,(T1 h4 h2 h1 h3 h5 h3 h0 h2).2,c0.1,b1P,d4W,Int.mul_one]
  refine⟨fun h=>⟨?_,?_,?_,?_,T _ ?_⟩,fun h=>⟨fun h'=>⟨?_,?_,?_,?_,T _ ?_⟩,fun h'=>⟨?_,?_,?_,?_,?_,?_,?_,?_,T _ ?_⟩⟩⟩
  case refine_5=>unfold U1 F7 l9;rw[if_pos h]
  case refine_10=>unfold U1 F7 l9;rw[if_neg h,if_pos h']
  case refine_19=>unfold U1 F7 l9 a8;rw[if_neg h,if_neg h']
  all_goals (clear T F hO;omega)
 ·simp only[a2j,A5,Bool.and_eq_false_imp,decide_eq_false_iff_not];omega
def c7a(px py r qx qy s:Int):Bool:=decide (r≤s∧l9 px py qx qy≤(s-r)*(s-r))
def d2Q(ds:List D):Bool:=f9 (a7 ds 0) (a7 ds 1)&&f9 (a7 ds 3) (a7 ds 4)&&A5 (a7 ds 2)&&A5 (a7 ds 5)
def d5U(ds:List D):Bool:=d2Q ds&&c7a (a7 ds 0) (a7 ds 1) (a7 ds 2) (a7 ds 3) (a7 ds 4) (a7 ds 5)
def d5M(ds:List D):Int:=if d2Q ds then 0 else 1
def B8:Interp where
 fi n l:=match n with | 110=>a5f l | 111=>d5M l | n=>KI.fi n l
 fb n l:=match n with | 110=>a2f l | 111=>d5U l | n=>KI.fb n l
 fd _ _:=[]
theorem c0I{ρ:Env}(h:Sees ρ B8 112):Sees ρ KI 90:=h.trans (by decide) fun n l hn=>by
 refine⟨?_,?_⟩
 ·
  simp only[B8]
  split<;>first | omega | rfl
 ·
  simp only[B8]
  split<;>first | omega | rfl
def c3u:=u7 [pt,pt,pt,it] fun al=> .ret (.tup [.one (T7 110 a2f al),.one (w9 110 a5f al)])
theorem c1F{ρ:Env}(h:Sees ρ B8 112):i9 Tryz.prog ρ 167 c3u:=
 j7 d2U (fun _=>rfl) (fun al=>by simp only[V.val,V2.val,S.val,S0.val,w9,T7,List.map_cons,List.map_nil,m9 (s:=110) (f:=a2f) (fun l=>by rw[(h 110 l (by decide)).2];simp only[B8]),k8 (s:=110) (f:=a5f) (fun l=>by rw[(h 110 l (by decide)).1];simp only[B8])];try rfl)
def b7x:Ct:=(167,c3u)::d1u
theorem b0r{ρ:Env}(h:Sees ρ B8 112):CtOk Tryz.prog ρ b7x:= .cons (c1F h)<|(c8S (c7W (c0I h)))
def a6a:TT j4:=
(.ite (.not (.fn 69 (.x (.var 0) .nil)))
 (.ret ((.tup [(.one (.z (.bool (.lit false)))),(.one (.z (.int .i64 (.lit 1))))]),[],3))
 (.ite (.not (.fn 69 (.x (.var 1) .nil)))
 (.ret ((.tup [(.one (.z (.bool (.lit false)))),(.one (.z (.int .i64 (.lit 1))))]),[],3))
 (.loop 0 7000 ⟨[(0,(.lit 0))],[],[]⟩
 (.ite (.cmp .lss (.var 7000) (.len (.var 0)))
 (.ob (.tru (.cmp .leq (.lit 0) (.var 7000)))
 (.ob (.tru (.cmp .lss (.var 7000) (.len (.var 0))))
 (.ob (.tru (.cmp .neq (.len (.var 0)) (.lit 0)))
 (.ob (.tru (.cmp .leq (.lit 0) (.ar .rem .i64 (.ar .add .i64 (.ar .add .i64 (.var 7000) (.lit 1)) (.len (.var 0))) (.len (.var 0)))))
 (.ob (.tru (.cmp .lss (.ar .rem .i64 (.ar .add .i64 (.ar .add .i64 (.var 7000) (.lit 1)) (.len (.var 0))) (.len (.var 0))) (.len (.var 0))))
 (.loop 1 13000 ⟨[(0,(.lit 0))],[],[]⟩
 (.ite (.cmp .lss (.var 13000) (.len (.var 1)))
 (.ob (.tru (.cmp .leq (.lit 0) (.var 13000)))
 (.ob (.tru (.cmp .lss (.var 13000) (.len (.var 1))))
 (.ob (.tru (.cmp .neq (.len (.var 1)) (.lit 0)))
 (.ob (.tru (.cmp .leq (.lit 0) (.ar .rem .i64 (.ar .add .i64 (.ar .add .i64 (.var 13000) (.lit 1)) (.len (.var 1))) (.len (.var 1)))))
 (.ob (.tru (.cmp .lss (.ar .rem .i64 (.ar .add .i64 (.ar .add .i64 (.var 13000) (.lit 1)) (.len (.var 1))) (.len (.var 1))) (.len (.var 1))))
 (.ite (.fn 62 (.i (.rd (.var 0) (.var 7000) 0) (.i (.rd (.var 0) (.var 7000) 1) (.i (.rd (.var 0) (.ar .rem .i64 (.ar .add .i64 (.ar .add .i64 (.var 7000) (.lit 1)) (.len (.var 0))) (.len (.var 0))) 0) (.i (.rd (.var 0) (.ar .rem .i64 (.ar .add .i64 (.ar .add .i64 (.var 7000) (.lit 1)) (.len (.var 0))) (.len (.var 0))) 1) (.i (.rd (.var 1) (.var 13000) 0) (.i (.rd (.var 1) (.var 13000) 1) (.i (.rd (.var 1) (.ar .rem .i64 (.ar .add .i64 (.ar .add .i64 (.var 13000) (.lit 1)) (.len (.var 1))) (.len (.var 1))) 0) (.i (.rd (.var 1) (.ar .rem .i64 (.ar .add .i64 (.ar .add .i64 (.var 13000) (.lit 1)) (.len (.var 1))) (.len (.var 1))) 1) .nil)))))))))
 (.ret ((.tup [(.one (.z (.bool (.lit true)))),(.one (.z (.int .i64 (.lit 0))))]),[],16))
 (.next 1 ⟨[(0,(.ar .add .i64 (.var 13000) (.lit 1)))],[],[]⟩)))))))
 (.next 0 ⟨[(0,(.ar .add .i64 (.var 7000) (.lit 1)))],[],[]⟩))))))))
 (.ob (.tru (.lit true))
 (.ob (.tru (.cmp .lss (.lit 0) (.len (.var 1))))
 (.ite (.cmp .eql (.fn 67 (.x (.var 0) (.i (.rd (.var 1) (.lit 0) 0) (.i (.rd (.var 1) (.lit 0) 1) .nil)))) (.lit 1))
 (.ret ((.tup [(.one (.z (.bool (.lit true)))),(.one (.z (.int .i64 (.lit 0))))]),[],16))
 (.ob (.tru (.lit true))
 (.ob (.tru (.cmp .lss (.lit 0) (.len (.var 0))))
 (.ret ((.tup [(.one (.z (.bool (.cmp .eql (.fn 67 (.x (.var 1) (.i (.rd (.var 0) (.lit 0) 0) (.i (.rd (.var 0) (.lit 0) 1) .nil)))) (.lit 1))))),(.one (.z (.int .i64 (.lit 0))))]),[],16)))))))))))
set_option maxRecDepth 100000 in
theorem b2F:T.norm 0 (call Tryz.prog b7x (Lt.of []) 100 164 (g7 0 [A8,A8]) [] 0) TT.ret=a6a:=by kernel_rfl
theorem b1E:a6a.low 1000=true:=by kernel_rfl
def a7F:TT j4:=
(.ite (.not (.fn 69 (.x (.var 0) .nil)))
 (.ret ((.tup [(.one (.z (.int .i64 (.lit 0)))),(.one (.z (.int .i64 (.lit 1))))]),[],2))
 (.ite (.not (.fn 3 (.i (.var 1) (.i (.var 2) .nil))))
 (.ret ((.tup [(.one (.z (.int .i64 (.lit 0)))),(.one (.z (.int .i64 (.lit 1))))]),[],2))
 (.ite (.cmp .lss (.var 3) (.lit 0))
 (.ret ((.tup [(.one (.z (.int .i64 (.lit 0)))),(.one (.z (.int .i64 (.lit 1))))]),[],2))
 (.ite (.cmp .gtr (.var 3) (.lit 3000000))
 (.ret ((.tup [(.one (.z (.int .i64 (.lit 0)))),(.one (.z (.int .i64 (.lit 1))))]),[],2))
 (.loop 0 8000 ⟨[(0,(.lit 0))],[(1,(.lit true)),(2,(.lit false))],[]⟩
 (.ite (.cmp .lss (.var 8000) (.len (.var 0)))
 (.ob (.tru (.cmp .leq (.lit 0) (.var 8000)))
 (.ob (.tru (.cmp .lss (.var 8000) (.len (.var 0))))
 (.ob (.tru (.cmp .neq (.len (.var 0)) (.lit 0)))
 (.ob (.tru (.cmp .leq (.lit 0) (.ar .rem .i64 (.ar .add .i64 (.ar .add .i64 (.var 8000) (.lit 1)) (.len (.var 0))) (.len (.var 0)))))
 (.ob (.tru (.cmp .lss (.ar .rem .i64 (.ar .add .i64 (.ar .add .i64 (.var 8000) (.lit 1)) (.len (.var 0))) (.len (.var 0))) (.len (.var 0))))
 (.ite (.var 8002)
 (.ite (.var 8001)
 (.next 0 ⟨[(0,(.ar .add .i64 (.var 8000) (.lit 1)))],[(1,(.fn 110 (.i (.var 1) (.i (.var 2) (.i (.rd (.var 0) (.var 8000) 0) (.i (.rd (.var 0) (.var 8000) 1) (.i (.rd (.var 0) (.ar .rem .i64 (.ar .add .i64 (.ar .add .i64 (.var 8000) (.lit 1)) (.len (.var 0))) (.len (.var 0))) 0) (.i (.rd (.var 0) (.ar .rem .i64 (.ar .add .i64 (.ar .add .i64 (.var 8000) (.lit 1)) (.len (.var 0))) (.len (.var 0))) 1) (.i (.var 3) .nil))))))))),(2,(.lit true))],[]⟩)
 (.next 0 ⟨[(0,(.ar .add .i64 (.var 8000) (.lit 1)))],[(1,(.lit false)),(2,(.lit true))],[]⟩))
 (.ite (.var 8001)
 (.next 0 ⟨[(0,(.ar .add .i64 (.var 8000) (.lit 1)))],[(1,(.fn 110 (.i (.var 1) (.i (.var 2) (.i (.rd (.var 0) (.var 8000) 0) (.i (.rd (.var 0) (.var 8000) 1) (.i (.rd (.var 0) (.ar .rem .i64 (.ar .add .i64 (.ar .add .i64 (.var 8000) (.lit 1)) (.len (.var 0))) (.len (.var 0))) 0) (.i (.rd (.var 0) (.ar .rem .i64 (.ar .add .i64 (.ar .add .i64 (.var 8000) (.lit 1)) (.len (.var 0))) (.len (.var 0))) 1) (.i (.var 3) .nil))))))))),(2,(.fn 7 (.i (.var 1) (.i (.var 2) (.i (.rd (.var 0) (.var 8000) 0) (.i (.rd (.var 0) (.var 8000) 1) (.i (.rd (.var 0) (.ar .rem .i64 (.ar .add .i64 (.ar .add .i64 (.var 8000) (.lit 1)) (.len (.var 0))) (.len (.var 0))) 0) (.i (.rd (.var 0) (.ar .rem .i64 (.ar .add .i64 (.ar .add .i64 (.var 8000) (.lit 1)) (.len (.var 0))) (.len (.var 0))) 1) (.i (.var 3) .nil)))))))))],[]⟩)
 (.next 0 ⟨[(0,(.ar .add .i64 (.var 8000) (.lit 1)))],[(1,(.lit false)),(2,(.fn 7 (.i (.var 1) (.i (.var 2) (.i (.rd (.var 0) (.var 8000) 0) (.i (.rd (.var 0) (.var 8000) 1) (.i (.rd (.var 0) (.ar .rem .i64 (.ar .add .i64 (.ar .add .i64 (.var 8000) (.lit 1)) (.len (.var 0))) (.len (.var 0))) 0) (.i (.rd (.var 0) (.ar .rem .i64 (.ar .add .i64 (.ar .add .i64 (.var 8000) (.lit 1)) (.len (.var 0))) (.len (.var 0))) 1) (.i (.var 3) .nil)))))))))],[]⟩))))))))
 (.ite (.cmp .geq (.fn 67 (.x (.var 0) (.i (.var 1) (.i (.var 2) .nil)))) (.lit 0))
 (.ite (.var 8001)
 (.ret ((.tup [(.one (.z (.int .i64 (.lit 1)))),(.one (.z (.int .i64 (.lit 0))))]),[],11))
 (.ite (.cmp .lss (.fn 67 (.x (.var 0) (.i (.var 1) (.i (.var 2) .nil)))) (.lit 0))
 (.ite (.not (.var 8002))
 (.ret ((.tup [(.one (.z (.int .i64 (.lit (-1))))),(.one (.z (.int .i64 (.lit 0))))]),[],11))
 (.ret ((.tup [(.one (.z (.int .i64 (.lit 0)))),(.one (.z (.int .i64 (.lit 0))))]),[],11)))
 (.ret ((.tup [(.one (.z (.int .i64 (.lit 0)))),(.one (.z (.int .i64 (.lit 0))))]),[],11))))
 (.ite (.cmp .lss (.fn 67 (.x (.var 0) (.i (.var 1) (.i (.var 2) .nil)))) (.lit 0))
 (.ite (.not (.var 8002))
 (.ret ((.tup [(.one (.z (.int .i64 (.lit (-1))))),(.one (.z (.int .i64 (.lit 0))))]),[],11))
 (.ret ((.tup [(.one (.z (.int .i64 (.lit 0)))),(.one (.z (.int .i64 (.lit 0))))]),[],11)))
 (.ret ((.tup [(.one (.z (.int .i64 (.lit 0)))),(.one (.z (.int .i64 (.lit 0))))]),[],11))))))))))
set_option maxRecDepth 100000 in
theorem b5m:T.norm 0 (call Tryz.prog b7x (Lt.of []) 100 163 (g7 0 [A8,pt,it]) [] 0) TT.ret=a7F:=by kernel_rfl
theorem b3R:a7F.low 1000=true:=by kernel_rfl
def a0W(p q:Rows)(i k:Nat):Bool:=T5 [.i (lg p i 0),.i (lg p i 1),.i (lg p (nxt p.length i) 0),.i (lg p (nxt p.length i) 1),.i (lg q k 0),.i (lg q k 1),.i (lg q (nxt q.length k) 0),.i (lg q (nxt q.length k) 1)]
def a0O(p q:Rows)(i:Nat):Nat→Nat→Bool
 | 0,_=>false
 | f+1,k=>a0W p q i k||a0O p q i f (k+1)
def tmN(p q:Rows):Nat→Nat→Bool
 | 0,_=>false
 | f+1,i=>a0O p q i q.length 0||tmN p q f (i+1)
def S3(p q:Rows):Bool:=tmN p q p.length 0||(decide (j9 p (lg q 0 0) (lg q 0 1) p.length 0 false=1)||decide (j9 q (lg p 0 0) (lg p 0 1) q.length 0 false=1))
def a1s(ds:List D):Bool:=j6 (b9 ds 0)&&j6 (b9 ds 1)
def J4(ds:List D):Bool:=a1s ds&&S3 (b9 ds 0) (b9 ds 1)
def O5(ds:List D):Int:=if a1s ds then 0 else 1
theorem d3U(W:World)(ds l:List D):(a9 B8 W ds).fb 3 l=w7 l:=by simp only[a9,B8,KI,KH,KG,KF,KE,KD,KC,KB,KA,K9,K8,K7,K6,K5,K]
theorem c2A(W:World)(ds l:List D):(a9 B8 W ds).fb 69 l=H0 l:=by simp only[a9,B8,KI,KH,KG,KF,KE,KD,KC,KB]
theorem c1L(W:World)(ds l:List D):(a9 B8 W ds).fi 67 l=a3y l:=by simp only[a9,B8,KI,KH,KG,KF,KE,KD,KC,KB,KA,K9,K8,K7,K6,K5,K]
theorem d2W(W:World)(ds l:List D):(a9 B8 W ds).fb 62 l=T5 l:=by simp only[a9,B8,KI,KH,KG,KF,KE,KD,KC,KB,KA,K9,K8,K7,K6,K5,K]
theorem d4S(W:World)(ds l:List D):(a9 B8 W ds).fb 7 l=P7 l:=by simp only[a9,B8,KI,KH,KG,KF,KE,KD,KC,KB,KA,K9,K8,K7,K6,K5,K]
theorem c9z(W:World)(ds l:List D):(a9 B8 W ds).fb 110 l=a2f l:=by simp only[a9,B8]
theorem c4m:m8 Tryz.prog 164 [A8,A8] (fun ds=> .tuple #[.bool (J4 ds),.int .i64 (O5 ds)]):=by
 refine GivesIf.all (i7 B8 (by kernel_rfl) (fun ρ h=>b0r (Sees.of h 112)) (by kernel_rfl) b2F b1E (by decide) (fun W vals ds hr _=> ?_))
 simp only[a6a,g9,Nat.reduceBEq,Nat.reduceLT,Nat.reduceSub,c2A,P8]
 have F:a1s ds=false→Value.tuple #[.bool false,.int .i64 1]=Value.tuple #[.bool (J4 ds),.int .i64 (O5 ds)]:=fun h=>by simp [J4,O5,h]
 refine⟨fun h=>F ?_,fun h1=>⟨fun h=>F ?_,fun h2=> ?_⟩⟩
 ·simp only[a1s,h,Bool.false_and]
 ·simp only[a1s,h,Bool.and_false]
 have T:∀b,S3 (b9 ds 0) (b9 ds 1)=b→Value.tuple #[.bool b,.int .i64 0]=Value.tuple #[.bool (J4 ds),.int .i64 (O5 ds)]:=fun b h=>by simp [J4,O5,a1s,h1,h2,h]
 clear F hr
 have l1:=H3 h1
 have l2:=H3 h2
 generalize hp:b9 ds 0=p at*
 generalize hq:b9 ds 1=q at*
 refine TT.sat_loop (fun v=>∃i:Nat,v.i 0=i∧i≤p.length∧(tmN p q (p.length-i) i||(decide (j9 p (lg q 0 0) (lg q 0 1) p.length 0 false=1)||decide (j9 q (lg p 0 0) (lg p 0 1) q.length 0 false=1)))=S3 p q) (fun v=>p.length-(v.i 0).toNat)
  ⟨0,by simp [j5,i8,E.ev],by omega,rfl⟩ (fun v hv=> ?_)
 obtain⟨i,i0,i1,i2⟩:=hv
 simp only[g9,Nat.reduceBEq,Nat.reduceLT,Nat.reduceSub,i0,hp,hq,c1L,a2b]
 refine⟨fun hc=> ?_,fun hc=> ?_⟩
 ·have hi:i<p.length:=by omega
  have hn:=u6 hi
  obtain⟨f,hf⟩:∃f,p.length-i=f+1:=⟨p.length-i-1,by omega⟩
  rw[hf,tmN] at i2
  have hf':p.length-(i+1)=f:=by omega
  rw[M5 hi (by omega)]
  refine⟨by omega,by omega,by omega,by omega,by omega,?_⟩
  refine TT.sat_loop (fun u=>∃k:Nat,u.i 0=k∧k≤q.length∧((a0O p q i (q.length-k) k||tmN p q f (i+1))||(decide (j9 p (lg q 0 0) (lg q 0 1) p.length 0 false=1)||decide (j9 q (lg p 0 0) (lg p 0 1) q.length 0 false=1)))=S3 p q) (fun u=>q.length-(u.i 0).toNat)
   ⟨0,by simp [j5,i8,E.ev],by omega,i2⟩ (fun u hu=> ?_)
  obtain⟨k,k0,k1,k2⟩:=hu
  simp only[g9,Nat.reduceBEq,Nat.reduceLT,Nat.reduceSub,i0,k0,hp,hq,d2W]
  refine⟨fun hk=> ?_,fun hk=> ?_⟩
  ·have hkn:k<q.length:=by omega
   have hn':=u6 hkn
   obtain⟨g,hg⟩:∃g,q.length-k=g+1:=⟨q.length-k-1,by omega⟩
   rw[hg,a0O] at k2
   have hg':q.length-(k+1)=g:=by omega
   rw[M5 hkn (by omega),M5 hi (by omega),b8 ((k:Int)+1) (by omega) (by omega)]
   refine⟨by omega,by omega,by omega,by omega,by omega,fun h=>T _ ?_,fun h=>⟨⟨k+1,rfl,by omega,?_⟩,by omega⟩⟩
   ·rw[←k2,show a0W p q i k=true from h];rfl
   ·rw[hg',←k2,show a0W p q i k=false from h];rfl
  ·have:q.length-k=0:=by omega
   rw[this,a0O,Bool.false_or] at k2
   rw[b8 ((i:Int)+1) (by omega) (by omega)]
   exact⟨⟨i+1,rfl,by omega,by rw[hf'];exact k2⟩,by omega⟩
 ·have:p.length-i=0:=by omega
  rw[this,tmN,Bool.false_or] at i2
  refine⟨by omega,fun a=>T _ ?_,fun a=>⟨by omega,T _ ?_⟩⟩
  ·rw[←i2,decide_eq_true a];rfl
  ·rw[←i2,decide_eq_false a,Bool.false_or];simp only[B6]
   rfl
def b1Y(r:Rows)(x y d:Int)(i:Nat):Bool:=P7 [.i x,.i y,.i (lg r i 0),.i (lg r i 1),.i (lg r (nxt r.length i) 0),.i (lg r (nxt r.length i) 1),.i d]
def a8y(r:Rows)(x y d:Int)(i:Nat):Bool:=a2f [.i x,.i y,.i (lg r i 0),.i (lg r i 1),.i (lg r (nxt r.length i) 0),.i (lg r (nxt r.length i) 1),.i d]
def S5(r:Rows)(x y d:Int):Nat→Nat→Bool
 | 0,_=>false
 | f+1,i=>b1Y r x y d i||S5 r x y d f (i+1)
def S8(r:Rows)(x y d:Int):Nat→Nat→Bool
 | 0,_=>true
 | f+1,i=>a8y r x y d i&&S8 r x y d f (i+1)
def Q6(r:Rows)(x y d:Int):Int:=
 if 0≤j9 r x y r.length 0 false then(if S8 r x y d r.length 0 then 1 else 0) else if S5 r x y d r.length 0 then 0 else -1
def U4(ds:List D):Bool:=j6 (b9 ds 0)&&f9 (a7 ds 1) (a7 ds 2)&&A5 (a7 ds 3)
def G9(ds:List D):Int:=if U4 ds then Q6 (b9 ds 0) (a7 ds 1) (a7 ds 2) (a7 ds 3) else 0
def M3(ds:List D):Int:=if U4 ds then 0 else 1
set_option maxHeartbeats 1000000 in
theorem c8Q:m8 Tryz.prog 163 [A8,pt,it] (fun ds=> .tuple #[.int .i64 (G9 ds),.int .i64 (M3 ds)]):=by
 refine GivesIf.all (i7 B8 (by kernel_rfl) (fun ρ h=>b0r (Sees.of h 112)) (by kernel_rfl) b5m b3R (by decide) (fun W vals ds hr _=> ?_))
 simp only[a7F,g9,Nat.reduceBEq,Nat.reduceLT,Nat.reduceSub,c2A,P8,d3U,D7]
 have F:U4 ds=false→Value.tuple #[.int .i64 0,.int .i64 1]=Value.tuple #[.int .i64 (G9 ds),.int .i64 (M3 ds)]:=fun h=>by simp [G9,M3,h]
 refine⟨fun h=>F ?_,fun h1=>⟨fun h=>F ?_,fun h2=>⟨fun h=>F ?_,fun h3=>⟨fun h=>F ?_,fun h4=> ?_⟩⟩⟩⟩
 ·simp only[U4,h,Bool.false_and]
 ·simp only[U4,h,Bool.false_and,Bool.and_false]
 ·simp only[U4,A5,Bool.and_eq_false_imp,decide_eq_false_iff_not];omega
 ·simp only[U4,A5,Bool.and_eq_false_imp,decide_eq_false_iff_not];omega
 have hO:U4 ds=true:=by simp only[U4,h1,h2,A5,Bool.true_and,decide_eq_true_eq];omega
 have T:∀n,Q6 (b9 ds 0) (a7 ds 1) (a7 ds 2) (a7 ds 3)=n→Value.tuple #[.int .i64 n,.int .i64 0]=Value.tuple #[.int .i64 (G9 ds),.int .i64 (M3 ds)]:=fun b h=>by simp [G9,M3,hO,h]
 clear F hr hO
 have l1:=H3 h1
 generalize e0:b9 ds 0=r at*
 generalize e1:a7 ds 1=x at*
 generalize e2:a7 ds 2=y at*
 generalize e3:a7 ds 3=d at*
 refine TT.sat_loop (fun v=>∃i:Nat,v.i 0=i∧i≤r.length∧(v.b 2||S5 r x y d (r.length-i) i)=S5 r x y d r.length 0∧(v.b 1&&S8 r x y d (r.length-i) i)=S8 r x y d r.length 0) (fun v=>r.length-(v.i 0).toNat)
  ⟨0,by simp [j5,i8,E.ev],by omega,by simp [a6e,i8,B.ev],by simp [a6e,i8,B.ev]⟩ (fun v hv=> ?_)
 obtain⟨i,i0,i1,i2,i3⟩:=hv
 simp only[g9,Nat.reduceBEq,Nat.reduceLT,Nat.reduceSub,i0,e0,e1,e2,e3,c1L,a2b,d4S,c9z]
 refine⟨fun hc=> ?_,fun hc=> ?_⟩
 ·have hi:i<r.length:=by omega
  have hn:=u6 hi
  obtain⟨f,hf⟩:∃f,r.length-i=f+1:=⟨r.length-i-1,by omega⟩
  rw[hf,S5] at i2
  rw[hf,S8] at i3
  have hf':r.length-(i+1)=f:=by omega
  rw[M5 hi (by omega),b8 ((i:Int)+1) (by omega) (by omega)]
  have N:∀b c:Bool,(b||S5 r x y d f (i+1))=S5 r x y d r.length 0→(c&&S8 r x y d f (i+1))=S8 r x y d r.length 0→(∃j:Nat,(i:Int)+1=j∧j≤r.length∧(b||S5 r x y d (r.length-j) j)=S5 r x y d r.length 0∧(c&&S8 r x y d (r.length-j) j)=S8 r x y d r.length 0)∧r.length-((i:Int)+1).toNat<r.length-(i:Int).toNat:=
   fun b c hb hc=>⟨⟨i+1,rfl,by omega,by rw[hf'];exact hb,by rw[hf'];exact hc⟩,by omega⟩
  refine⟨by omega,by omega,by omega,by omega,by omega,fun a=>⟨fun b=>N _ _ ?_ ?_,fun b=>N _ _ ?_ ?_⟩,fun a=>⟨fun b=>N _ _ ?_ ?_,fun b=>N _ _ ?_ ?_⟩⟩
  all_goals (first | (rw[←i2,a];clear N T i2 i3;simp [b1Y];done) | (rw[←i3,b];clear N T i2 i3;simp [a8y];done))
 ·have:r.length-i=0:=by omega
  rw[this,S5,Bool.or_false] at i2
  rw[this,S8,Bool.and_true] at i3
  rw[i2,i3]
  refine⟨fun a=>⟨fun b=>T _ ?_,fun b=>⟨fun c=>absurd a (by omega),fun c=>T _ ?_⟩⟩,fun a=>⟨fun c=>⟨fun e=>T _ ?_,fun e=>T _ ?_⟩,fun c=>absurd c (by omega)⟩⟩
  ·rw[Q6,if_pos a,b];rfl
  ·rw[Q6,if_pos a,b];rfl
  ·rw[Q6,if_neg a,e];rfl
  ·rw[Q6,if_neg a,e];rfl
def opB(r:Rows)(i:Nat)(x y:Int):Bool:=
 if 0<G3 [.i (lg r (O3 r.length i) 0),.i (lg r (O3 r.length i) 1),.i (lg r i 0),.i (lg r i 1),.i (lg r (nxt r.length i) 0),.i (lg r (nxt r.length i) 1)] then
  decide (0≤G3 [.i (lg r i 0),.i (lg r i 1),.i (lg r (nxt r.length i) 0),.i (lg r (nxt r.length i) 1),.i x,.i y])&&decide (0≤G3 [.i (lg r i 0),.i (lg r i 1),.i x,.i y,.i (lg r (O3 r.length i) 0),.i (lg r (O3 r.length i) 1)])
 else decide (G3 [.i (lg r i 0),.i (lg r i 1),.i (lg r (O3 r.length i) 0),.i (lg r (O3 r.length i) 1),.i x,.i y]≤0)||decide (G3 [.i (lg r i 0),.i (lg r i 1),.i x,.i y,.i (lg r (nxt r.length i) 0),.i (lg r (nxt r.length i) 1)]≤0)
def opL(ds:List D):Bool:=opB (b9 ds 0) (a7 ds 1).toNat (a7 ds 2) (a7 ds 3)
def F4:Interp where
 fi n l:=match n with | 112=>O5 l | 113=>G9 l | 114=>M3 l | n=>B8.fi n l
 fb n l:=match n with | 112=>J4 l | 115=>opL l | n=>B8.fb n l
 fd _ _:=[]
theorem b7o{ρ:Env}(h:Sees ρ F4 116):Sees ρ B8 112:=h.trans (by decide) fun n l hn=>by
 refine⟨?_,?_⟩
 ·
  simp only[F4]
  split<;>first | omega | rfl
 ·
  simp only[F4]
  split<;>first | omega | rfl
def b2Q:=u7 [A8,A8] fun al=> .ret (.tup [.one (T7 112 J4 al),.one (w9 112 O5 al)])
theorem b5D{ρ:Env}(h:Sees ρ F4 116):i9 Tryz.prog ρ 164 b2Q:=
 j7 c4m (fun _=>rfl) (fun al=>by simp only[V.val,V2.val,S.val,S0.val,w9,T7,List.map_cons,List.map_nil,m9 (s:=112) (f:=J4) (fun l=>by rw[(h 112 l (by decide)).2];simp only[F4]),k8 (s:=112) (f:=O5) (fun l=>by rw[(h 112 l (by decide)).1];simp only[F4])];try rfl)
def b6A:=u7 [A8,pt,it] fun al=> .ret (.tup [.one (w9 113 G9 al),.one (w9 114 M3 al)])
theorem c0c{ρ:Env}(h:Sees ρ F4 116):i9 Tryz.prog ρ 163 b6A:=
 j7 c8Q (fun _=>rfl) (fun al=>by simp only[V.val,V2.val,S.val,S0.val,w9,T7,List.map_cons,List.map_nil,k8 (s:=113) (f:=G9) (fun l=>by rw[(h 113 l (by decide)).1];simp only[F4]),k8 (s:=114) (f:=M3) (fun l=>by rw[(h 114 l (by decide)).1];simp only[F4])];try rfl)
def d0J:Ct:=(164,b2Q)::(163,b6A)::b7x
theorem c8q{ρ:Env}(h:Sees ρ F4 116):CtOk Tryz.prog ρ d0J:= .cons (b5D h)<| .cons (c0c h)<|(b0r (b7o h))
def leE(r:Rows)(x y tx ty:Int):Nat→Nat→Bool
 | 0,_=>true
 | f+1,i=>if onE r x y i then decide (0≤G3 [.i (lg r i 0),.i (lg r i 1),.i (lg r (nxt r.length i) 0),.i (lg r (nxt r.length i) 1),.i tx,.i ty]) else leE r x y tx ty f (i+1)
def leN(r:Rows)(x y tx ty:Int):Nat→Nat→Bool
 | 0,_=>leE r x y tx ty r.length 0
 | f+1,i=>if x=lg r i 0∧y=lg r i 1 then opB r i tx ty else leN r x y tx ty f (i+1)
def leL(ds:List D):Bool:=leN (b9 ds 0) (a7 ds 1) (a7 ds 2) (a7 ds 3) (a7 ds 4) (b9 ds 0).length 0
def M0:Interp where
 fi n l:=F4.fi n l
 fb n l:=match n with | 116=>leL l | n=>F4.fb n l
 fd _ _:=[]
theorem b6j{ρ:Env}(h:Sees ρ M0 117):Sees ρ F4 116:=h.trans (by decide) fun n l hn=>by
 refine⟨?_,?_⟩
 ·
  rfl
 ·
  simp only[M0]
  split<;>first | omega | rfl
def d2a:Ct:=d0J
theorem c8h{ρ:Env}(h:Sees ρ M0 117):CtOk Tryz.prog ρ d2a:=(c8q (b6j h))
def tur(a b c d e f:Int):Int:=G3 [.i a,.i b,.i c,.i d,.i e,.i f]
def phC(r:Rows)(ax ay bx by':Int)(i:Nat):Bool:=
 decide (tur ax ay bx by' (lg r i 0) (lg r i 1)*tur ax ay bx by' (lg r (nxt r.length i) 0) (lg r (nxt r.length i) 1)<0∧
  tur (lg r i 0) (lg r i 1) (lg r (nxt r.length i) 0) (lg r (nxt r.length i) 1) ax ay*tur (lg r i 0) (lg r i 1) (lg r (nxt r.length i) 0) (lg r (nxt r.length i) 1) bx by'<0)
def phI(r:Rows)(ax ay bx by':Int)(i:Nat):Bool:=
 !phC r ax ay bx by' i&&(decide ((lg r i 0=ax∧lg r i 1=ay)∨(lg r i 0=bx∧lg r i 1=by'))||(!onR [.i (lg r i 0),.i (lg r i 1),.i ax,.i ay,.i bx,.i by']||(opB r i ax ay&&opB r i bx by')))
def phN(r:Rows)(ax ay bx by':Int):Nat→Nat→Bool
 | 0,_=>true
 | f+1,i=>phI r ax ay bx by' i&&phN r ax ay bx by' f (i+1)
def phB(r:Rows)(ax ay bx by':Int):Bool:=
 decide (0≤j9 r ax ay r.length 0 false)&&(decide (0≤j9 r bx by' r.length 0 false)&&(leN r ax ay bx by' r.length 0&&(leN r bx by' ax ay r.length 0&&phN r ax ay bx by' r.length 0)))
def phL(ds:List D):Bool:=phB (b9 ds 0) (a7 ds 1) (a7 ds 2) (a7 ds 3) (a7 ds 4)
def L6:Interp where
 fi n l:=M0.fi n l
 fb n l:=match n with | 117=>phL l | n=>M0.fb n l
 fd _ _:=[]
theorem b6e{ρ:Env}(h:Sees ρ L6 118):Sees ρ M0 117:=h.trans (by decide) fun n l hn=>by
 refine⟨?_,?_⟩
 ·
  rfl
 ·
  simp only[L6]
  split<;>first | omega | rfl
def d1D:Ct:=d2a
theorem c8W{ρ:Env}(h:Sees ρ L6 118):CtOk Tryz.prog ρ d1D:=(c8h (b6e h))
def hoN(p q:Rows):Nat→Nat→Bool
 | 0,_=>true
 | f+1,i=>phB p (lg q i 0) (lg q i 1) (lg q (nxt q.length i) 0) (lg q (nxt q.length i) 1)&&hoN p q f (i+1)
def hoX(p q:Rows):Bool:=hoN p q q.length 0
def hoR(ds:List D):Bool:=a1s ds&&hoX (b9 ds 0) (b9 ds 1)
def E6:Interp where
 fi n l:=L6.fi n l
 fb n l:=match n with | 118=>hoR l | n=>L6.fb n l
 fd _ _:=[]
theorem b6n{ρ:Env}(h:Sees ρ E6 119):Sees ρ L6 118:=h.trans (by decide) fun n l hn=>by
 refine⟨?_,?_⟩
 ·
  rfl
 ·
  simp only[E6]
  split<;>first | omega | rfl
def c5D:Ct:=d1D
theorem b6I{ρ:Env}(h:Sees ρ E6 119):CtOk Tryz.prog ρ c5D:=(c8W (b6n h))
def a0d(p q:Rows)(i k:Nat):Bool:=n9 (cx p i) (cy p i) (cx p (nxt p.length i)) (cy p (nxt p.length i)) (cx q k) (cy q k) (cx q (nxt q.length k)) (cy q (nxt q.length k))
theorem a5T{p q:Rows}(hp:j6 p=true)(hq:j6 q=true){i k:Nat}(hi:i<p.length)(hk:k<q.length):a0W p q i k=a0d p q i k:=by
 have h1:=x9 hp hi
 have h2:=x9 hp (u6 hi)
 have h3:=x9 hq hk
 have h4:=x9 hq (u6 hk)
 unfold cx cy at h1 h2 h3 h4
 unfold a0W T5
 rw[S2,h1,h2,h3,h4,W5]
 rfl
theorem b0T{p q:Rows}{i:Nat}:∀(f k:Nat),a0O p q i f k=true↔∃j,k≤j∧j<k+f∧a0W p q i j=true
 | 0,k=>⟨fun h=>(by cases h),fun⟨j,h1,h2,_⟩=>by omega⟩
 | f+1,k=>by
   rw[a0O,Bool.or_eq_true,b0T f (k+1)]
   constructor
   ·rintro(h | ⟨j,h1,h2,h3⟩)
    ·exact⟨k,by omega,by omega,h⟩
    ·exact⟨j,by omega,by omega,h3⟩
   ·rintro⟨j,h1,h2,h3⟩
    by_cases e:j=k
    ·subst e;exact .inl h3
    ·exact .inr ⟨j,by omega,by omega,h3⟩
theorem b6W{p q:Rows}:∀(f i:Nat),tmN p q f i=true↔∃j,i≤j∧j<i+f∧∃k,k<q.length∧a0W p q j k=true
 | 0,i=>⟨fun h=>(by cases h),fun⟨j,h1,h2,_⟩=>by omega⟩
 | f+1,i=>by
   rw[tmN,Bool.or_eq_true,b6W f (i+1),b0T]
   constructor
   ·rintro(⟨k,_,h2,h3⟩ | ⟨j,h1,h2,h3⟩)
    ·exact⟨i,by omega,by omega,k,by omega,h3⟩
    ·exact⟨j,by omega,by omega,h3⟩
   ·rintro⟨j,h1,h2,k,h3,h4⟩
    by_cases e:j=i
    ·subst e;exact .inl ⟨k,by omega,by omega,h4⟩
    ·exact .inr ⟨j,by omega,by omega,k,h3,h4⟩
theorem a7y{p q:Rows}(hp:j6 p=true)(hq:j6 q=true):
 S3 p q=true↔(∃i k,i<p.length∧k<q.length∧a0d p q i k=true)∨j9 p (cx q 0) (cy q 0) p.length 0 false=1∨j9 q (cx p 0) (cy p 0) q.length 0 false=1:=by
 unfold S3
 rw[Bool.or_eq_true,Bool.or_eq_true,decide_eq_true_eq,decide_eq_true_eq,b6W]
 refine or_congr ⟨fun⟨i,_,h2,k,h3,h4⟩=>⟨i,k,by omega,h3,?_⟩,fun⟨i,k,h1,h2,h3⟩=>⟨i,by omega,by omega,k,h2,?_⟩⟩ Iff.rfl
 ·rw[←a5T hp hq (by omega) h3];exact h4
 ·rw[a5T hp hq h1 h2];exact h3
theorem a7W{p q:Rows}{i k:Nat}:a0d q p k i=a0d p q i k:=b0R
theorem b0G{p q:Rows}(hp:j6 p=true)(hq:j6 q=true):S3 q p=S3 p q:=by
 rw[Bool.eq_iff_iff,a7y hp hq,a7y hq hp]
 constructor
 ·rintro(⟨i,k,h1,h2,h3⟩ | h | h)
  ·exact .inl ⟨k,i,h2,h1,by rw[a7W] at h3;exact h3⟩
  ·exact .inr (.inr h)
  ·exact .inr (.inl h)
 ·rintro(⟨i,k,h1,h2,h3⟩ | h | h)
  ·exact .inl ⟨k,i,h2,h1,by rw[a7W];exact h3⟩
  ·exact .inr (.inr h)
  ·exact .inr (.inl h)
theorem a5w{p q:Rows}(hp:j6 p=true)(hq:j6 q=true)(H:∀i k,i<p.length→k<q.length→a0d p q i k=false):∀i,i<p.length→j9 q (cx p i) (cy p i) q.length 0 false=j9 q (cx p 0) (cy p 0) q.length 0 false
 | 0,_=>rfl
 | i+1,hi=>by
   rw[←a5w hp hq H i (by omega)]
   have hn:nxt p.length i=i+1:=by unfold nxt;rw[if_neg (by omega)]
   refine(a6I hq (x9 hp (by omega)) (x9 hp hi) (fun k hk=> ?_)).symm
   have:=H i k (by omega) hk
   unfold a0d at this
   rwa [hn] at this
theorem c0H{x y a b c d e f g h:Int}(h1:A7 x y a b c d=true)(h2:A7 x y e f g h=true):n9 a b c d e f g h=true:=by
 obtain⟨k,hk,s1⟩:=D5.mp h1
 obtain⟨m,hm,s2⟩:=D5.mp h2
 have t1:=a0b s1 (show 0≤m by omega)
 have t2:=a0b s2 (show 0≤k by omega)
 refine H7 ⟨k*m,k*x*m,k*y*m,Int.mul_pos hk hm,t1,?_⟩
 have e1:m*k=k*m:=Int.mul_comm _ _
 have e2:m*x*k=k*x*m:=by grind
 have e3:m*y*k=k*y*m:=by grind
 rw[←e1,←e2,←e3]
 exact t2
theorem c1I{r:Rows}(hr:j6 r=true){x y:Int}(hq:f9 x y=true)(h:0≤j9 r x y r.length 0 false)(hon:∀k,k<r.length→A7 x y (cx r k) (cy r k) (cx r (nxt r.length k)) (cy r (nxt r.length k))=false):j9 r x y r.length 0 false=1:=by
 rw[a8i hr hq hon] at h ⊢
 split at h
 ·omega
 ·rename_i hw;rw[if_neg hw]
theorem d1w{p q:Rows}(hp:j6 p=true)(hq:j6 q=true){x y:Int}(hxy:f9 x y=true){i:Nat}(hi:i<p.length)
 (hon:A7 x y (cx p i) (cy p i) (cx p (nxt p.length i)) (cy p (nxt p.length i))=true) (h:0≤j9 q x y q.length 0 false):S3 p q=true:=by
 rw[a7y hp hq]
 by_cases H:∃i k,i<p.length∧k<q.length∧a0d p q i k=true
 ·exact .inl H
 have H':∀i k,i<p.length→k<q.length→a0d p q i k=false:=fun i k h1 h2=>by
  cases hm:a0d p q i k with
  | false=>rfl
  | true=>exact absurd ⟨i,k,h1,h2,hm⟩ H
 have hoff:∀k,k<q.length→A7 x y (cx q k) (cy q k) (cx q (nxt q.length k)) (cy q (nxt q.length k))=false:=fun k hk=>by
  cases ho:A7 x y (cx q k) (cy q k) (cx q (nxt q.length k)) (cy q (nxt q.length k)) with
  | false=>rfl
  | true=>
    have:=c0H hon ho
    have h2:=H' i k hi hk
    unfold a0d at h2
    rw[this] at h2
    exact absurd h2 (by decide)
 have h1:=c1I hq hxy h hoff
 refine .inr (.inr ?_)
 rw[←a5w hp hq H' i hi,←h1]
 refine a6I hq (x9 hp hi) hxy (fun k hk=> ?_)
 cases hm:n9 (cx p i) (cy p i) x y (cx q k) (cy q k) (cx q (nxt q.length k)) (cy q (nxt q.length k)) with
 | false=>rfl
 | true=>
   obtain⟨n,u,v,hn,g1,g2⟩:=O2 hm
   obtain⟨k',hk',hs⟩:=D5.mp hon
   have t1:=c5B (by omega) hk' hs g1
   have t2:=a0b g2 (show 0≤k' by omega)
   have:=H7 ⟨n*k',u*k',v*k',Int.mul_pos hn hk',t1,t2⟩
   have h2:=H' i k hi hk
   unfold a0d at h2
   rw[this] at h2
   exact absurd h2 (by decide)
theorem a9e{p q:Rows}(hp:j6 p=true)(hq:j6 q=true)(h:0≤j9 p (cx q 0) (cy q 0) p.length 0 false):S3 p q=true:=by
 have lq:=H3 hq
 rw[b0G hq hp]
 refine d1w hq hp (x9 hq (by omega)) (i:=0) (by omega) ?_ h
 exact D5.mpr ⟨1,by decide,by simpa using a5s (cx q 0) (cy q 0) (cx q (nxt q.length 0)) (cy q (nxt q.length 0)) (k:=1) (by decide)⟩
theorem c4M{r:Rows}(hr:j6 r=true){x y d:Int}(hq:f9 x y=true)(hd:0≤d∧d≤3000000){i:Nat}(hi:i<r.length):b1Y r x y d i=A9 x y (cx r i) (cy r i) (cx r (nxt r.length i)) (cy r (nxt r.length i)) d:=
 (a7c hq (x9 hr hi) (x9 hr (u6 hi)) hd).1
end Go.Proofs.YtcjaembdcfppfaaGreat
