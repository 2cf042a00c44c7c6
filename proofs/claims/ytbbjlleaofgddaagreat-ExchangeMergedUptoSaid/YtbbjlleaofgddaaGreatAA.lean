/- AA, merged: TAa, Aa, TAb, Aw, Ab, TAc, Ac, TAd, Ad. -/
import Derived.Test.YtbbjlleaofgddaaGreatNB
import Derived.Test.YtbbjlleaofgddaaGreatMZ
set_option linter.unusedSimpArgs false
set_option linter.unusedVariables false
namespace Go.Proofs.YtbbjlleaofgddaaGreat
open Go.RowKit
def s8:List CK:=[.int .i64,.int .i64,.int .i64,.bool,.int .i64,.int .i64,.int .i64,.int .i64,.int .i64,.int .i64,.sl k6]
def L5:Sh:= .agg s8
def E9:Sh:= .one (.sl s8)
def D6:Sh:= .agg [.int .i64,.sl s8]
def a3x:TT i8:=
(.ite (.cmp .eql (.var 0) (.var 16))
 (.ite (.cmp .eql (.var 1) (.var 17))
 (.ite (.and (.cmp .eql (.var 11) (.var 27)) (.cmp .eql (.var 12) (.var 28)))
 (.ite (.cmp .eql (.var 13) (.var 29))
 (.ite (.cmp .eql (.var 14) (.var 30))
 (.ite (.cmp .eql (.var 15) (.var 31))
 (.ret ((.v (.one (.z (.bool (.fn 147 (.i (.var 2) (.i (.var 3) (.i (.var 4) (.i (.var 5) (.i (.var 6) (.x (.var 7) (.i (.var 8) (.i (.var 9) (.x (.var 10) (.i (.var 18) (.i (.var 19) (.i (.var 20) (.i (.var 21) (.i (.var 22) (.x (.var 23) (.i (.var 24) (.i (.var 25) (.x (.var 26) .nil))))))))))))))))))))))),[],2))
 (.ret ((.v (.one (.z (.bool (.lit false))))),[],2)))
 (.ret ((.v (.one (.z (.bool (.lit false))))),[],2)))
 (.ret ((.v (.one (.z (.bool (.lit false))))),[],2)))
 (.ret ((.v (.one (.z (.bool (.lit false))))),[],2)))
 (.ret ((.v (.one (.z (.bool (.lit false))))),[],2)))
 (.ret ((.v (.one (.z (.bool (.lit false))))),[],2)))
set_option maxRecDepth 100000 in
theorem a9I:T.norm 0 (call Tryz.prog b7d (Lt.of []) 100 74 (i5 0 [V6,V6]) [] 0) TT.ret=a3x:=by kernel_rfl
theorem a9y:a3x.low 1000=true:=by kernel_rfl
def z4(ds:List D):Bool:=decide (a9 ds 0=a9 ds 16∧a9 ds 1=a9 ds 17∧(a9 ds 11=a9 ds 27∧a9 ds 12=a9 ds 28)∧a9 ds 13=a9 ds 29∧a9 ds 14=a9 ds 30∧a9 ds 15=a9 ds 31)&&
 sameL [.i (a9 ds 2),.i (a9 ds 3),.i (a9 ds 4),.i (a9 ds 5),.i (a9 ds 6),.l (f8 ds 7),.i (a9 ds 8),.i (a9 ds 9),.l (f8 ds 10),.i (a9 ds 18),.i (a9 ds 19),.i (a9 ds 20),.i (a9 ds 21),.i (a9 ds 22),.l (f8 ds 23),.i (a9 ds 24),.i (a9 ds 25),.l (f8 ds 26)]
theorem c2e(W:World)(ds l:List D):(g8 N4 W ds).fb 147 l=sameL l:=by simp only[g8,N4,N3,N2,N1]
theorem c0R:k8 Tryz.prog 74 [V6,V6] (fun ds=> .bool (z4 ds)):=by
 refine GivesIf.all (i6 N4 (by kernel_rfl) (fun ρ h=>b0w (Sees.of h 180)) (by kernel_rfl) a9I a9y (by decide) (fun W vals ds hr _=> ?_))
 simp only[a3x,g7,Nat.reduceBEq,Nat.reduceLT,Nat.reduceSub,c2e]
 have F:∀b,z4 ds=b→Value.bool b=Value.bool (z4 ds):=fun b h=>by rw[h]
 have N:¬(a9 ds 0=a9 ds 16∧a9 ds 1=a9 ds 17∧(a9 ds 11=a9 ds 27∧a9 ds 12=a9 ds 28)∧a9 ds 13=a9 ds 29∧a9 ds 14=a9 ds 30∧a9 ds 15=a9 ds 31)→Value.bool false=Value.bool (z4 ds):=fun h=>F _ (by rw[z4,decide_eq_false h,Bool.false_and])
 refine⟨fun h1=>⟨fun h2=>⟨fun h3=>⟨fun h4=>⟨fun h5=>⟨fun h6=> ?_,fun h=>N (by omega)⟩,fun h=>N (by omega)⟩,fun h=>N (by omega)⟩,fun h=>N (by omega)⟩,fun h=>N (by omega)⟩,fun h=>N (by omega)⟩
 rw[z4,decide_eq_true (by omega),Bool.true_and]
def Q1:Interp where
 fi n l:=N4.fi n l
 fb n l:=match n with | 180=>z4 l | n=>N4.fb n l
 fd _ _:=[]
theorem b9N{ρ:Env}(h:Sees ρ Q1 190):Sees ρ N4 180:=h.trans (by decide) fun n l hn=>by
 refine⟨?_,?_⟩
 ·
  rfl
 ·
  simp only[Q1]
  split<;>first | omega | rfl
def b1q:=o9 [V6,V6] fun al=> .ret (bV (bF 180 z4 al))
theorem b3q{ρ:Env}(h:Sees ρ Q1 190):i4 Tryz.prog ρ 74 b1q:=
 j4 c0R (fun _=>rfl) (fun al=>by simp only[iV,bV,V.s0,V.val,V2.val,S.val,S0.val,o8 (s:=180) (f:=z4) (fun l=>by rw[(h 180 l (by decide)).2];simp only[Q1])];try rfl)
def b2i:Ct:=(74,b1q)::b7d
theorem a5n{ρ:Env}(h:Sees ρ Q1 190):CtOk Tryz.prog ρ b2i:= .cons (b3q h)<|b0w (b9N h)
def a5K:TT i8:=
(.ite (.cmp .neq (.var 0) (.var 7))
 (.ret ((.v (.one (.z (.bool (.lit false))))),[],2))
 (.ite (.cmp .neq (.var 1) (.var 8))
 (.ret ((.v (.one (.z (.bool (.lit false))))),[],2))
 (.ite (.cmp .neq (.var 2) (.var 9))
 (.ret ((.v (.one (.z (.bool (.lit false))))),[],2))
 (.ite (.cmp .neq (.var 3) (.var 10))
 (.ret ((.v (.one (.z (.bool (.lit false))))),[],2))
 (.ite (.cmp .neq (.var 4) (.var 11))
 (.ret ((.v (.one (.z (.bool (.lit false))))),[],2))
 (.ite (.cmp .neq (.var 5) (.var 12))
 (.ret ((.v (.one (.z (.bool (.lit false))))),[],2))
 (.ite (.cmp .neq (.len (.var 6)) (.len (.var 13)))
 (.ret ((.v (.one (.z (.bool (.lit false))))),[],2))
 (.loop 0 3000 ⟨[(0,(.lit 0))],[],[]⟩
 (.ite (.cmp .lss (.var 3000) (.len (.var 6)))
 (.ob (.tru (.cmp .leq (.lit 0) (.var 3000)))
 (.ob (.tru (.cmp .lss (.var 3000) (.len (.var 6))))
 (.ob (.tru (.cmp .leq (.lit 0) (.var 3000)))
 (.ob (.tru (.cmp .lss (.var 3000) (.len (.var 13))))
 (.ite (.cmp .eql (.rd (.var 6) (.var 3000) 0) (.rd (.var 13) (.var 3000) 0))
 (.ite (.cmp .neq (.len (.rd (.var 6) (.var 3000) 1)) (.len (.rd (.var 13) (.var 3000) 1)))
 (.ret ((.v (.one (.z (.bool (.lit false))))),[],11))
 (.loop 1 8000 ⟨[(0,(.lit 0))],[],[]⟩
 (.ite (.cmp .lss (.var 8000) (.len (.rd (.var 6) (.var 3000) 1)))
 (.ob (.tru (.cmp .leq (.lit 0) (.var 8000)))
 (.ob (.tru (.cmp .lss (.var 8000) (.len (.rd (.var 6) (.var 3000) 1))))
 (.ob (.tru (.cmp .leq (.lit 0) (.var 8000)))
 (.ob (.tru (.cmp .lss (.var 8000) (.len (.rd (.var 13) (.var 3000) 1))))
 (.ite (.cmp .neq (.rd (.rd (.var 6) (.var 3000) 1) (.var 8000) 0) (.rd (.rd (.var 13) (.var 3000) 1) (.var 8000) 0))
 (.ret ((.v (.one (.z (.bool (.lit false))))),[],11))
 (.next 1 ⟨[(0,(.ar .add .i64 (.var 8000) (.lit 1)))],[],[]⟩))))))
 (.ite (.cmp .neq (.len (.rd (.var 6) (.var 3000) 2)) (.len (.rd (.var 13) (.var 3000) 2)))
 (.ret ((.v (.one (.z (.bool (.lit false))))),[],11))
 (.loop 2 9000 ⟨[(0,(.lit 0))],[],[]⟩
 (.ite (.cmp .lss (.var 9000) (.len (.rd (.var 6) (.var 3000) 2)))
 (.ob (.tru (.cmp .leq (.lit 0) (.var 9000)))
 (.ob (.tru (.cmp .lss (.var 9000) (.len (.rd (.var 6) (.var 3000) 2))))
 (.ob (.tru (.cmp .leq (.lit 0) (.var 9000)))
 (.ob (.tru (.cmp .lss (.var 9000) (.len (.rd (.var 13) (.var 3000) 2))))
 (.ite (.not (.fn 180 (.i (.rd (.rd (.var 6) (.var 3000) 2) (.var 9000) 0) (.i (.rd (.rd (.var 6) (.var 3000) 2) (.var 9000) 1) (.i (.rd (.rd (.var 6) (.var 3000) 2) (.var 9000) 2) (.i (.rd (.rd (.var 6) (.var 3000) 2) (.var 9000) 3) (.i (.rd (.rd (.var 6) (.var 3000) 2) (.var 9000) 4) (.i (.rd (.rd (.var 6) (.var 3000) 2) (.var 9000) 5) (.i (.rd (.rd (.var 6) (.var 3000) 2) (.var 9000) 6) (.x (.rd (.rd (.var 6) (.var 3000) 2) (.var 9000) 7) (.i (.rd (.rd (.var 6) (.var 3000) 2) (.var 9000) 8) (.i (.rd (.rd (.var 6) (.var 3000) 2) (.var 9000) 9) (.x (.rd (.rd (.var 6) (.var 3000) 2) (.var 9000) 10) (.i (.rd (.rd (.var 6) (.var 3000) 2) (.var 9000) 11) (.i (.rd (.rd (.var 6) (.var 3000) 2) (.var 9000) 12) (.i (.rd (.rd (.var 6) (.var 3000) 2) (.var 9000) 13) (.i (.rd (.rd (.var 6) (.var 3000) 2) (.var 9000) 14) (.i (.rd (.rd (.var 6) (.var 3000) 2) (.var 9000) 15) (.i (.rd (.rd (.var 13) (.var 3000) 2) (.var 9000) 0) (.i (.rd (.rd (.var 13) (.var 3000) 2) (.var 9000) 1) (.i (.rd (.rd (.var 13) (.var 3000) 2) (.var 9000) 2) (.i (.rd (.rd (.var 13) (.var 3000) 2) (.var 9000) 3) (.i (.rd (.rd (.var 13) (.var 3000) 2) (.var 9000) 4) (.i (.rd (.rd (.var 13) (.var 3000) 2) (.var 9000) 5) (.i (.rd (.rd (.var 13) (.var 3000) 2) (.var 9000) 6) (.x (.rd (.rd (.var 13) (.var 3000) 2) (.var 9000) 7) (.i (.rd (.rd (.var 13) (.var 3000) 2) (.var 9000) 8) (.i (.rd (.rd (.var 13) (.var 3000) 2) (.var 9000) 9) (.x (.rd (.rd (.var 13) (.var 3000) 2) (.var 9000) 10) (.i (.rd (.rd (.var 13) (.var 3000) 2) (.var 9000) 11) (.i (.rd (.rd (.var 13) (.var 3000) 2) (.var 9000) 12) (.i (.rd (.rd (.var 13) (.var 3000) 2) (.var 9000) 13) (.i (.rd (.rd (.var 13) (.var 3000) 2) (.var 9000) 14) (.i (.rd (.rd (.var 13) (.var 3000) 2) (.var 9000) 15) .nil))))))))))))))))))))))))))))))))))
 (.ret ((.v (.one (.z (.bool (.lit false))))),[],11))
 (.next 2 ⟨[(0,(.ar .add .i64 (.var 9000) (.lit 1)))],[],[]⟩))))))
 (.next 0 ⟨[(0,(.ar .add .i64 (.var 3000) (.lit 1)))],[],[]⟩)))))))
 (.ret ((.v (.one (.z (.bool (.lit false))))),[],11)))))))
 (.ret ((.v (.one (.z (.bool (.lit true))))),[],11)))))))))))
def b5u:List (Nat×St):=[
(2,⟨(List.append [(.v (.one (.z (.ext k6 (.var 6) false)))),(.v (.one (.z (.ext k6 (.var 13) false)))),(.v (.one (.z (.clo 71 [])))),(.v (.one (.z .any))),(.v (.one (.z .any))),(.v (.one (.z .any))),(.v (.one (.z (.bool (.lit false))))),(.v (.one (.z .any))),(.v (.one (.z .any))),(.v (.one (.z .any))),(.v (.one (.z (.ext k6 (.var 6) false)))),(.v (.one (.z (.int .i64 (.len (.var 6)))))),(.v (.one (.z (.ext k6 (.var 13) false)))),(.v (.one (.z (.int .i64 (.len (.var 13)))))),(.v (.one (.z (.bool (.cmp .neq (.len (.var 6)) (.len (.var 13))))))),(.v (.one (.z (.ext k6 (.var 6) false)))),(.v (.one (.z (.int .i64 (.len (.var 6)))))),(.v (.one (.z (.int .i64 (.var 3000)))))] (List.replicate 14 V.any)),[(1,(.cells 29 [(.z (.int .i64 (.var 7))),(.z (.int .i64 (.var 8))),(.z (.int .i64 (.var 9))),(.z (.int .i64 (.var 10))),(.z (.int .i64 (.var 11))),(.z (.int .i64 (.var 12))),(.z (.ext k6 (.var 13) false))])),(0,(.cells 29 [(.z (.int .i64 (.var 0))),(.z (.int .i64 (.var 1))),(.z (.int .i64 (.var 2))),(.z (.int .i64 (.var 3))),(.z (.int .i64 (.var 4))),(.z (.int .i64 (.var 5))),(.z (.ext k6 (.var 6) false))]))],3,[]⟩),
(7,⟨(List.append [(.v (.one (.z (.ext [(.int .i64)] (.rd (.var 6) (.var 3000) 1) false)))),(.v (.one (.z (.ext [(.int .i64)] (.rd (.var 13) (.var 3000) 1) false)))),(.v (.one (.z .any))),(.v (.one (.z .any))),(.v (.one (.z (.bool (.lit false))))),(.v (.one (.z .any))),(.v (.one (.z (.ext [(.int .i64)] (.rd (.var 6) (.var 3000) 1) false)))),(.v (.one (.z (.int .i64 (.len (.rd (.var 6) (.var 3000) 1)))))),(.v (.one (.z (.ext [(.int .i64)] (.rd (.var 13) (.var 3000) 1) false)))),(.v (.one (.z (.int .i64 (.len (.rd (.var 13) (.var 3000) 1)))))),(.v (.one (.z (.bool (.cmp .neq (.len (.rd (.var 6) (.var 3000) 1)) (.len (.rd (.var 13) (.var 3000) 1))))))),(.v (.one (.z (.ext [(.int .i64)] (.rd (.var 6) (.var 3000) 1) false)))),(.v (.one (.z (.int .i64 (.len (.rd (.var 6) (.var 3000) 1)))))),(.v (.one (.z (.int .i64 (.var 8000)))))] (List.replicate 12 V.any)),[(6,(.cells 106 [(.z (.int .i64 (.rd (.var 13) (.var 3000) 0))),(.z (.ext [(.int .i64)] (.rd (.var 13) (.var 3000) 1) false)),(.z (.ext B3 (.rd (.var 13) (.var 3000) 2) false))])),(5,(.cells 106 [(.z (.int .i64 (.rd (.var 6) (.var 3000) 0))),(.z (.ext [(.int .i64)] (.rd (.var 6) (.var 3000) 1) false)),(.z (.ext B3 (.rd (.var 6) (.var 3000) 2) false))])),(4,(.cells 106 [(.z (.int .i64 (.rd (.var 13) (.var 3000) 0))),(.z (.ext [(.int .i64)] (.rd (.var 13) (.var 3000) 1) false)),(.z (.ext B3 (.rd (.var 13) (.var 3000) 2) false))])),(3,(.cells 106 [(.z (.int .i64 (.rd (.var 6) (.var 3000) 0))),(.z (.ext [(.int .i64)] (.rd (.var 6) (.var 3000) 1) false)),(.z (.ext B3 (.rd (.var 6) (.var 3000) 2) false))])),(1,(.cells 29 [(.z (.int .i64 (.var 7))),(.z (.int .i64 (.var 8))),(.z (.int .i64 (.var 9))),(.z (.int .i64 (.var 10))),(.z (.int .i64 (.var 11))),(.z (.int .i64 (.var 12))),(.z (.ext k6 (.var 13) false))])),(0,(.cells 29 [(.z (.int .i64 (.var 0))),(.z (.int .i64 (.var 1))),(.z (.int .i64 (.var 2))),(.z (.int .i64 (.var 3))),(.z (.int .i64 (.var 4))),(.z (.int .i64 (.var 5))),(.z (.ext k6 (.var 6) false))]))],8,[]⟩),
(8,⟨(List.append [(.v (.one (.z (.ext B3 (.rd (.var 6) (.var 3000) 2) false)))),(.v (.one (.z (.ext B3 (.rd (.var 13) (.var 3000) 2) false)))),(.v (.one (.z (.clo 74 [])))),(.v (.one (.z .any))),(.v (.one (.z .any))),(.v (.one (.z .any))),(.v (.one (.z (.bool (.lit false))))),(.v (.one (.z .any))),(.v (.one (.z .any))),(.v (.one (.z .any))),(.v (.one (.z (.ext B3 (.rd (.var 6) (.var 3000) 2) false)))),(.v (.one (.z (.int .i64 (.len (.rd (.var 6) (.var 3000) 2)))))),(.v (.one (.z (.ext B3 (.rd (.var 13) (.var 3000) 2) false)))),(.v (.one (.z (.int .i64 (.len (.rd (.var 13) (.var 3000) 2)))))),(.v (.one (.z (.bool (.cmp .neq (.len (.rd (.var 6) (.var 3000) 2)) (.len (.rd (.var 13) (.var 3000) 2))))))),(.v (.one (.z (.ext B3 (.rd (.var 6) (.var 3000) 2) false)))),(.v (.one (.z (.int .i64 (.len (.rd (.var 6) (.var 3000) 2)))))),(.v (.one (.z (.int .i64 (.var 9000)))))] (List.replicate 14 V.any)),[(6,(.cells 106 [(.z (.int .i64 (.rd (.var 13) (.var 3000) 0))),(.z (.ext [(.int .i64)] (.rd (.var 13) (.var 3000) 1) false)),(.z (.ext B3 (.rd (.var 13) (.var 3000) 2) false))])),(5,(.cells 106 [(.z (.int .i64 (.rd (.var 6) (.var 3000) 0))),(.z (.ext [(.int .i64)] (.rd (.var 6) (.var 3000) 1) false)),(.z (.ext B3 (.rd (.var 6) (.var 3000) 2) false))])),(4,(.cells 106 [(.z (.int .i64 (.rd (.var 13) (.var 3000) 0))),(.z (.ext [(.int .i64)] (.rd (.var 13) (.var 3000) 1) false)),(.z (.ext B3 (.rd (.var 13) (.var 3000) 2) false))])),(3,(.cells 106 [(.z (.int .i64 (.rd (.var 6) (.var 3000) 0))),(.z (.ext [(.int .i64)] (.rd (.var 6) (.var 3000) 1) false)),(.z (.ext B3 (.rd (.var 6) (.var 3000) 2) false))])),(1,(.cells 29 [(.z (.int .i64 (.var 7))),(.z (.int .i64 (.var 8))),(.z (.int .i64 (.var 9))),(.z (.int .i64 (.var 10))),(.z (.int .i64 (.var 11))),(.z (.int .i64 (.var 12))),(.z (.ext k6 (.var 13) false))])),(0,(.cells 29 [(.z (.int .i64 (.var 0))),(.z (.int .i64 (.var 1))),(.z (.int .i64 (.var 2))),(.z (.int .i64 (.var 3))),(.z (.int .i64 (.var 4))),(.z (.int .i64 (.var 5))),(.z (.ext k6 (.var 6) false))]))],9,[]⟩)]
def b4p:List (FuncId×Nat×Nat×St):=[
]
set_option maxRecDepth 100000 in
theorem b2R:T.norm 0 (call Tryz.prog b2i ⟨Lt.un (Lt.of []),b5u,b4p⟩ 150 35 (i5 0 [notS,notS]) [] 0) TT.ret=a5K:=by kernel_rfl
theorem a9J:a5K.low 1000=true:=by kernel_rfl
def a1u:TT i8:=
(.ite (.not (.var 3))
 (.ite (.cmp .geq (.var 0) (.lit 1))
 (.ite (.cmp .leq (.var 0) (.lit 20))
 (.ite (.cmp .geq (.var 1) (.lit 1))
 (.ite (.cmp .leq (.var 1) (.lit 20))
 (.ite (.cmp .neq (.var 0) (.var 1))
 (.ite (.cmp .geq (.var 2) (.lit 0))
 (.ite (.cmp .lss (.var 2) (.lit 1000))
 (.ret ((.v (.one (.z (.bool (.fn 170 (.i (.var 4) (.i (.var 5) (.i (.var 6) (.i (.var 7) (.i (.var 8) (.i (.var 9) (.x (.var 10) .nil)))))))))))),[],1))
 (.ret ((.v (.one (.z (.bool (.lit false))))),[],1)))
 (.ret ((.v (.one (.z (.bool (.lit false))))),[],1)))
 (.ret ((.v (.one (.z (.bool (.lit false))))),[],1)))
 (.ret ((.v (.one (.z (.bool (.lit false))))),[],1)))
 (.ret ((.v (.one (.z (.bool (.lit false))))),[],1)))
 (.ret ((.v (.one (.z (.bool (.lit false))))),[],1)))
 (.ret ((.v (.one (.z (.bool (.lit false))))),[],1)))
 (.ret ((.v (.one (.z (.bool (.lit false))))),[],1)))
set_option maxRecDepth 100000 in
theorem a8R:T.norm 0 (call Tryz.prog b2i (Lt.of []) 150 50 (i5 0 [L5]) [] 0) TT.ret=a1u:=by kernel_rfl
theorem a6O:a1u.low 1000=true:=by kernel_rfl
mutual
def wfD:CK→D→Prop
 | .int _,d=>∃n,d= .i n
 | .bool,d=>∃b,d= .b b
 | .sl ks,d=>∃r,d= .l r∧r.length≤281474976710656∧∀row∈r,y3 ks row
def y3:List CK→List D→Prop
 | [],ds=>ds=[]
 | k::ks,ds=>∃d r,ds=d::r∧wfD k d∧y3 ks r
end
mutual
theorem a5O{w:World}:∀(k:CK) (v:Value) (d:D),CK.rep w k v d→wfD k d
 | .int k,v,d,h=>by
   unfold CK.rep at h
   obtain⟨n,_,rfl⟩:=h
   simp [wfD]
 | .bool,v,d,h=>by
   unfold CK.rep at h
   obtain⟨n,_,rfl⟩:=h
   simp [wfD]
 | .sl ks,v,d,h=>by
   unfold CK.rep at h
   obtain⟨r,a,n,c,rfl,_,h1,_,h3,h4,h5⟩:=h
   unfold wfD
   refine⟨r,rfl,by omega,fun row hrow=> ?_⟩
   obtain⟨i,hi,rfl⟩:=List.getElem_of_mem hrow
   cases a with
   | none=>have:=h4 (by omega);cases this
   | some b=>
     obtain⟨vs,g1,_⟩:=h5 b rfl i r[i] (List.getElem?_eq_getElem hi)
     exact Y4 ks vs _ g1
theorem Y4{w:World}:∀(ks:List CK) (vs:List Value) (ds:List D),CK.reps w ks vs ds→y3 ks ds
 | [],vs,ds,h=>by
   unfold CK.reps at h
   rw[h.2];simp [y3]
 | k::ks,vs,ds,h=>by
   unfold CK.reps at h
   obtain⟨v,vs',d,ds',rfl,rfl,h1,h2⟩:=h
   unfold y3
   exact⟨d,ds',rfl,a5O k v d h1,Y4 ks vs' ds' h2⟩
end
def H4(ks:List CK)(r:Rows):Prop:=r.length≤281474976710656∧∀row∈r,y3 ks row
theorem R6{ks:List CK}{d:D}(h:wfD (.sl ks) d):∃r,d= .l r∧H4 ks r:=by
 unfold wfD at h;exact h
theorem l8{k:IntKind}{d:D}(h:wfD (.int k) d):∃n,d= .i n:=by
 unfold wfD at h;exact h
theorem b6W{d:D}(h:wfD .bool d):∃n,d= .b n:=by
 unfold wfD at h;exact h
theorem i7{k:CK}{ks:List CK}{ds:List D}(h:y3 (k::ks) ds):∃d r,ds=d::r∧wfD k d∧y3 ks r:=by
 unfold y3 at h;exact h
theorem O3{ds:List D}(h:y3 [] ds):ds=[]:=by
 unfold y3 at h;exact h
def cI(row:List D)(j:Nat):Int:=(row[j]?.getD (.i 0)).int
def cB(row:List D)(j:Nat):Bool:=(row[j]?.getD (.i 0)).bool
def cR(row:List D)(j:Nat):Rows:=(row[j]?.getD (.i 0)).rows
theorem q7{r:Rows}{i:Nat}(h:i<r.length)(j:Nat):lg r i j=cI r[i] j:=by
 unfold lg o5 cI
 rw[Int.toNat_natCast,List.getElem?_eq_getElem h];rfl
theorem X2{r:Rows}{i:Nat}(h:i<r.length)(j:Nat):lb r i j=cB r[i] j:=by
 unfold lb o5 cB
 rw[Int.toNat_natCast,List.getElem?_eq_getElem h];rfl
theorem u6{r:Rows}{i:Nat}(h:i<r.length)(j:Nat):lr r i j=cR r[i] j:=by
 unfold lr o5 cR
 rw[Int.toNat_natCast,List.getElem?_eq_getElem h];rfl
def H3(c:Nat)(r:Rows):Prop:=∀row∈r,row.length=c∧∀d∈row,∃n,d= .i n
theorem a6h:∀ {ks:List CK},(∀k∈ks,∃i,k= .int i)→∀ {row:List D},y3 ks row→row.length=ks.length∧∀d∈row,∃n,d= .i n
 | [],_,row,h=>by rw[O3 h];exact⟨rfl,fun d hd=>by cases hd⟩
 | k::ks,hk,row,h=>by
   obtain⟨d,r,rfl,h1,h2⟩:=i7 h
   obtain⟨i,rfl⟩:=hk k (List.mem_cons_self ..)
   obtain⟨g1,g2⟩:=a6h (fun k hk'=>hk k (List.mem_cons_of_mem _ hk')) h2
   refine⟨by simp [g1],fun e he=> ?_⟩
   rcases List.mem_cons.1 he with q | q
   ·subst q;exact l8 h1
   ·exact g2 e q
theorem b1a{c:Nat}{r s:Rows}(hr:H3 c r)(hs:H3 c s)(hl:r.length=s.length)(he:∀k,k<r.length→∀j,j<c→lg r k j=lg s k j):r=s:=by
 refine List.ext_getElem hl (fun i h1 h2=> ?_)
 obtain⟨l1,n1⟩:=hr _ (List.getElem_mem h1)
 obtain⟨l2,n2⟩:=hs _ (List.getElem_mem h2)
 refine List.ext_getElem (by omega) (fun j g1 g2=> ?_)
 have g:=he i h1 j (by omega)
 rw[q7 h1,q7 h2] at g
 unfold cI at g
 rw[List.getElem?_eq_getElem g1,List.getElem?_eq_getElem g2] at g
 simp only[Option.getD_some] at g
 obtain⟨u,eu⟩:=n1 _ (List.getElem_mem g1)
 obtain⟨v,ev⟩:=n2 _ (List.getElem_mem g2)
 rw[eu,ev] at g ⊢
 have g':u=v:=g
 rw[g']
theorem a4w{c:Nat}{r s:Rows}(hr:H3 c r)(hs:H3 c s):R5 c r s=true↔r=s:=by
 rw[c0r]
 constructor
 ·rintro⟨h1,h2⟩;exact b1a hr hs h1 h2
 ·rintro rfl;exact⟨rfl,fun _ _ _ _=>rfl⟩
def b1X(row:List D):Prop:=row=[.i (cI row 0),.i (cI row 1),.i (cI row 2),.i (cI row 3),.i (cI row 4),.i (cI row 5),.i (cI row 6),.l (cR row 7),.i (cI row 8),.i (cI row 9),.l (cR row 10),.i (cI row 11),.i (cI row 12),.i (cI row 13),.i (cI row 14),.i (cI row 15)]∧H3 2 (cR row 7)∧H3 6 (cR row 10)
theorem a1c{ks:List CK}(hk:∀k∈ks,∃i,k= .int i){r:Rows}(h:H4 ks r):H3 ks.length r:=fun row hrow=>a6h hk (h.2 row hrow)
theorem a7O{row:List D}(h:y3 B3 row):b1X row:=by
 obtain⟨d0,r0,rfl,h0,h⟩:=i7 h
 obtain⟨d1,r1,rfl,h1,h⟩:=i7 h
 obtain⟨d2,r2,rfl,h2,h⟩:=i7 h
 obtain⟨d3,r3,rfl,h3,h⟩:=i7 h
 obtain⟨d4,r4,rfl,h4,h⟩:=i7 h
 obtain⟨d5,r5,rfl,h5,h⟩:=i7 h
 obtain⟨d6,r6,rfl,h6,h⟩:=i7 h
 obtain⟨d7,r7,rfl,h7,h⟩:=i7 h
 obtain⟨d8,r8,rfl,h8,h⟩:=i7 h
 obtain⟨d9,r9,rfl,h9,h⟩:=i7 h
 obtain⟨d10,r10,rfl,h10,h⟩:=i7 h
 obtain⟨d11,r11,rfl,h11,h⟩:=i7 h
 obtain⟨d12,r12,rfl,h12,h⟩:=i7 h
 obtain⟨d13,r13,rfl,h13,h⟩:=i7 h
 obtain⟨d14,r14,rfl,h14,h⟩:=i7 h
 obtain⟨d15,r15,rfl,h15,h⟩:=i7 h
 obtain rfl:=O3 h
 obtain⟨n0,rfl⟩:=l8 h0
 obtain⟨n1,rfl⟩:=l8 h1
 obtain⟨n2,rfl⟩:=l8 h2
 obtain⟨n3,rfl⟩:=l8 h3
 obtain⟨n4,rfl⟩:=l8 h4
 obtain⟨n5,rfl⟩:=l8 h5
 obtain⟨n6,rfl⟩:=l8 h6
 obtain⟨a7,rfl,w7⟩:=R6 h7
 obtain⟨n8,rfl⟩:=l8 h8
 obtain⟨n9,rfl⟩:=l8 h9
 obtain⟨a10,rfl,w10⟩:=R6 h10
 obtain⟨n11,rfl⟩:=l8 h11
 obtain⟨n12,rfl⟩:=l8 h12
 obtain⟨n13,rfl⟩:=l8 h13
 obtain⟨n14,rfl⟩:=l8 h14
 obtain⟨n15,rfl⟩:=l8 h15
 refine⟨rfl,a1c (ks:=ptK) ?_ w7,a1c (ks:=a5F) ?_ w10⟩
 all_goals
  intro k hk
  simp only[ptK,a5F,List.mem_cons,List.not_mem_nil,or_false] at hk
  first
   | (rcases hk with rfl | rfl<;>exact⟨_,rfl⟩)
   | (rcases hk with rfl | rfl | rfl | rfl | rfl | rfl<;>exact⟨_,rfl⟩)
def R1(x:List D):List D:=[.i (cI x 0),.i (cI x 1),.i (cI x 2),.i (cI x 3),.i (cI x 4),.i (cI x 5),.i (cI x 6),.l (cR x 7),.i (cI x 8),.i (cI x 9),.l (cR x 10),.i (cI x 11),.i (cI x 12),.i (cI x 13),.i (cI x 14),.i (cI x 15)]
theorem b4r{x y:List D}(hx:b1X x)(hy:b1X y):z4 (R1 x++R1 y)=true↔x=y:=by
 have e:z4 (R1 x++R1 y)=(decide (cI x 0=cI y 0∧cI x 1=cI y 1∧(cI x 11=cI y 11∧cI x 12=cI y 12)∧cI x 13=cI y 13∧cI x 14=cI y 14∧cI x 15=cI y 15)&&
  a0B (cI x 2) (cI x 3) (cI x 4) (cI x 5) (cI x 6) (cR x 7) (cI x 8) (cI x 9) (cR x 10) (cI y 2) (cI y 3) (cI y 4) (cI y 5) (cI y 6) (cR y 7) (cI y 8) (cI y 9) (cR y 10)):=rfl
 rw[e]
 unfold a0B
 simp only[Bool.and_eq_true,decide_eq_true_eq,a4w hx.2.1 hy.2.1,a4w hx.2.2 hy.2.2]
 constructor
 ·rintro⟨⟨a0,a1,⟨a11,a12⟩,a13,a14,a15⟩,⟨⟨b2,b3,b4,b5⟩,b6,b8,b9⟩,b7,b10⟩
  rw[hx.1,hy.1,a0,a1,a11,a12,a13,a14,a15,b2,b3,b4,b5,b6,b7,b8,b9,b10]
 ·rintro rfl;simp
mutual
def D.eqb:D→D→Bool
 | .i a,b=>match b with | .i c=>decide (a=c) | _=>false
 | .b a,b=>match b with | .b c=>a == c | _=>false
 | .l a,b=>match b with | .l c=>l9 a c | _=>false
def l9:List (List D)→List (List D)→Bool
 | [],b=>match b with | []=>true | _=>false
 | r::a,b=>match b with | r'::b'=>R7 r r'&&l9 a b' | _=>false
def R7:List D→List D→Bool
 | [],b=>match b with | []=>true | _=>false
 | d::a,b=>match b with | d'::b'=>D.eqb d d'&&R7 a b' | _=>false
end
mutual
theorem D.eqb_eq:∀(a b:D),D.eqb a b=true→a=b
 | .i a,b,h=>by cases b<;>simp [D.eqb] at h;rw[h]
 | .b a,b,h=>by cases b<;>simp [D.eqb] at h;rw[h]
 | .l a,b,h=>by cases b<;>simp [D.eqb] at h;rw[C4 _ _ h]
theorem C4:∀(a b:List (List D)),l9 a b=true→a=b
 | [],b,h=>by cases b<;>simp [l9] at h;rfl
 | r::a,b,h=>by cases b<;>simp [l9] at h;rw[a6j _ _ h.1,C4 _ _ h.2]
theorem a6j:∀(a b:List D),R7 a b=true→a=b
 | [],b,h=>by cases b<;>simp [R7] at h;rfl
 | r::a,b,h=>by cases b<;>simp [R7] at h;rw[D.eqb_eq _ _ h.1,a6j _ _ h.2]
end
mutual
theorem D.eqb_self:∀(a:D),D.eqb a a=true
 | .i a=>by simp [D.eqb]
 | .b a=>by simp [D.eqb]
 | .l a=>by simp [D.eqb,x7 a]
theorem x7:∀(a:List (List D)),l9 a a=true
 | []=>by simp [l9]
 | r::a=>by simp [l9,a2K r,x7 a]
theorem a2K:∀(a:List D),R7 a a=true
 | []=>by simp [R7]
 | r::a=>by simp [R7,D.eqb_self r,a2K a]
end
def c3T(row:List D):Prop:=row=[.i (cI row 0),.l (cR row 1),.l (cR row 2)]∧H4 [.int .i64] (cR row 1)∧H4 B3 (cR row 2)
theorem V3{row:List D}(h:y3 k6 row):c3T row:=by
 obtain⟨d0,r0,rfl,h0,h⟩:=i7 h
 obtain⟨d1,r1,rfl,h1,h⟩:=i7 h
 obtain⟨d2,r2,rfl,h2,h⟩:=i7 h
 obtain rfl:=O3 h
 obtain⟨n0,rfl⟩:=l8 h0
 obtain⟨a1,rfl,w1⟩:=R6 h1
 obtain⟨a2,rfl,w2⟩:=R6 h2
 exact⟨rfl,w1,w2⟩
theorem b5R{r:Rows}(h:H4 B3 r):∀x∈r,b1X x:=fun x hx=>a7O (h.2 x hx)
theorem b6j{r:Rows}(h:H4 [.int .i64] r):H3 1 r:=a1c (fun k hk=>by
 simp only[List.mem_cons,List.not_mem_nil,or_false] at hk
 exact⟨_,hk⟩) h
theorem m8{w:World}:∀ {sh:List Sh} {vals:List Value} {ds:List D},D8 w sh vals ds→y3 (sh.flatMap fun s=>match s with | .one k=>[k] | .agg ks=>ks) ds
 | [],vals,ds,h=>by
   rw[h.2];simp [y3]
 | .one k::sh,vals,ds,h=>by
   obtain⟨v,vs',d,ds',rfl,rfl,⟨d0,rfl,h1⟩,h2⟩:=h
   rw[List.flatMap_cons]
   simp only[List.cons_append,List.nil_append]
   unfold y3
   exact⟨d0,ds',rfl,a5O k v d0 h1,m8 h2⟩
 | .agg ks::sh,vals,ds,h=>by
   obtain⟨v,vs',d,ds',rfl,rfl,⟨us,rfl,h1⟩,h2⟩:=h
   rw[List.flatMap_cons]
   exact wfDs_app (Y4 ks us d h1) (m8 h2)
where
 wfDs_app:∀ {ks ks':List CK} {a b:List D},y3 ks a→y3 ks' b→y3 (ks++ks') (a++b)
 | [],ks',a,b,h,h'=>by rw[O3 h];exact h'
 | k::ks,ks',a,b,h,h'=>by
   obtain⟨d,r,rfl,h1,h2⟩:=i7 h
   show y3 (k::(ks++ks')) (d::(r++b))
   unfold y3
   exact⟨d,r++b,rfl,h1,wfDs_app h2 h'⟩
theorem b0K:∀ {ks:List CK} {ds:List D} {j:Nat} {k:CK},y3 ks ds→ks[j]? = some k→∃d,ds[j]? = some d∧wfD k d
 | [],_,_,_,_,h=>by simp at h
 | k0::ks,ds,j,k,h,hk=>by
   obtain⟨d,r,rfl,h1,h2⟩:=i7 h
   cases j with
   | zero=>
     simp only[List.getElem?_cons_zero,Option.some.injEq] at hk
     subst hk
     exact⟨d,rfl,h1⟩
   | succ j=>
     rw[List.getElem?_cons_succ] at hk
     obtain⟨e,g1,g2⟩:=b0K h2 hk
     exact⟨e,by rw[List.getElem?_cons_succ];exact g1,g2⟩
theorem m7{ks:List CK}{ds:List D}{j:Nat}{l:List CK}(h:y3 ks ds)(hk:ks[j]? = some (.sl l)):H4 l (f8 ds j):=by
 obtain⟨d,h1,h2⟩:=b0K h hk
 obtain⟨r,rfl,h3⟩:=R6 h2
 unfold f8
 rw[List.getD_eq_getElem?_getD,h1]
 exact h3
def v4(ds:List D):Bool:=decide (a9 ds 0=a9 ds 7∧a9 ds 1=a9 ds 8∧a9 ds 2=a9 ds 9∧a9 ds 3=a9 ds 10∧a9 ds 4=a9 ds 11∧a9 ds 5=a9 ds 12)&&l9 (f8 ds 6) (f8 ds 13)
theorem c2u(W:World)(ds l:List D):(g8 Q1 W ds).fb 180 l=z4 l:=by simp only[g8,Q1]
theorem c1R(W:World)(ds l:List D):(g8 Q1 W ds).fb 170 l=y6 l:=by simp only[g8,Q1,N4]
theorem b7O(x y:List D):z4 [.i (cI x 0),.i (cI x 1),.i (cI x 2),.i (cI x 3),.i (cI x 4),.i (cI x 5),.i (cI x 6),.l (cR x 7),.i (cI x 8),.i (cI x 9),.l (cR x 10),.i (cI x 11),.i (cI x 12),.i (cI x 13),.i (cI x 14),.i (cI x 15),.i (cI y 0),.i (cI y 1),.i (cI y 2),.i (cI y 3),.i (cI y 4),.i (cI y 5),.i (cI y 6),.l (cR y 7),.i (cI y 8),.i (cI y 9),.l (cR y 10),.i (cI y 11),.i (cI y 12),.i (cI y 13),.i (cI y 14),.i (cI y 15)]=z4 (R1 x++R1 y):=rfl
set_option maxHeartbeats 1000000 in
theorem c2b:k8 Tryz.prog 35 [notS,notS] (fun ds=> .bool (v4 ds)):=by
 refine GivesIf.all (i6 Q1 (by kernel_rfl) (fun ρ h=>a5n (Sees.of h 190)) (by kernel_rfl) b2R a9J (by decide) (fun W vals ds hr _=> ?_))
 have hw:=m8 hr
 have w6:H4 k6 (f8 ds 6):=m7 hw rfl
 have w13:H4 k6 (f8 ds 13):=m7 hw rfl
 simp only[a5K,g7,Nat.reduceBEq,Nat.reduceLT,Nat.reduceSub]
 have F:∀b,v4 ds=b→Value.bool b=Value.bool (v4 ds):=fun b h=>by rw[h]
 have N:¬(a9 ds 0=a9 ds 7∧a9 ds 1=a9 ds 8∧a9 ds 2=a9 ds 9∧a9 ds 3=a9 ds 10∧a9 ds 4=a9 ds 11∧a9 ds 5=a9 ds 12)→Value.bool false=Value.bool (v4 ds):=fun h=>F _ (by rw[v4,decide_eq_false h,Bool.false_and])
 refine⟨fun h=>N (by omega),fun h0=>⟨fun h=>N (by omega),fun h1=>⟨fun h=>N (by omega),fun h2=>⟨fun h=>N (by omega),fun h3=>⟨fun h=>N (by omega),fun h4=>⟨fun h=>N (by omega),fun h5=> ?_⟩⟩⟩⟩⟩⟩
 have hS:v4 ds=l9 (f8 ds 6) (f8 ds 13):=by rw[v4,decide_eq_true (by omega),Bool.true_and]
 rw[hS]
 clear N F hS hr hw
 generalize e6:f8 ds 6=a at*
 generalize e13:f8 ds 13=b at*
 have NE:a≠b→Value.bool false=Value.bool (l9 a b):=fun h=>by
  cases q:l9 a b with
  | false=>rfl
  | true=>exact absurd (C4 _ _ q) h
 have NEi:∀i (hi:i<a.length) (hj:i<b.length),a[i]≠b[i]→Value.bool false=Value.bool (l9 a b):=fun i hi hj h=>NE (fun e=>h (by subst e;rfl))
 refine⟨fun h=>NE (fun e=>by rw[e] at h;exact h rfl),fun hl=> ?_⟩
 have hl:a.length=b.length:=by omega
 have hb1:=w6.1
 refine TT.sat_loop (fun v=>∃i:Nat,v.i 0=i∧i≤a.length∧∀k (hk:k<a.length) (hk':k<b.length),k<i→a[k]=b[k]) (fun v=>a.length-(v.i 0).toNat)
  ⟨0,by simp [o6,j6,E.ev],by omega,fun k hk hk' h=>by omega⟩ (fun v hv=> ?_)
 obtain⟨i,i0,i1,i2⟩:=hv
 simp only[g7,Nat.reduceBEq,Nat.reduceLT,Nat.reduceSub,i0,e6,e13]
 refine⟨fun hc=> ?_,fun hc=> ?_⟩
 ·have hi:i<a.length:=by omega
  have hi':i<b.length:=by omega
  obtain⟨pa,pa1,pa2⟩:=V3 (w6.2 _ (List.getElem_mem hi))
  obtain⟨pb,pb1,pb2⟩:=V3 (w13.2 _ (List.getElem_mem hi'))
  have hw1:IntKind.i64.wrap ((i:Int)+1)=((i+1:Nat):Int):=by rw[f9 _ (by omega) (by omega)];rfl
  have hm:a.length-(((i+1:Nat):Int)).toNat<a.length-(i:Int).toNat:=by omega
  simp only[q7 hi,q7 hi',u6 hi,u6 hi']
  refine⟨by omega,by omega,by omega,by omega,fun c0=> ?_,fun c0=>NEi i hi hi' (fun e=>c0 (by rw[e]))⟩
  refine⟨fun h=>NEi i hi hi' (fun e=>by rw[e] at h;exact h rfl),fun hA=> ?_⟩
  have hA:(cR a[i] 1).length=(cR b[i] 1).length:=by omega
  have hb2:=pa1.1
  refine TT.sat_loop (fun v=>∃j:Nat,v.i 0=j∧j≤(cR a[i] 1).length∧∀k:Nat,k<j→lg (cR a[i] 1) k 0=lg (cR b[i] 1) k 0) (fun v=>(cR a[i] 1).length-(v.i 0).toNat)
   ⟨0,by simp [o6,j6,E.ev],by omega,fun k h=>by omega⟩ (fun u hu=> ?_)
  obtain⟨j,j0,j1,j2⟩:=hu
  simp only[g7,Nat.reduceBEq,Nat.reduceLT,Nat.reduceSub,i0,j0,e6,e13,u6 hi,u6 hi']
  refine⟨fun hcj=> ?_,fun hcj=> ?_⟩
  ·rw[f9 ((j:Int)+1) (by omega) (by omega)]
   refine⟨by omega,by omega,by omega,by omega,fun h=>NEi i hi hi' (fun e=>by rw[e] at h;exact h rfl),fun h=>⟨⟨j+1,rfl,by omega,fun k hk=> ?_⟩,by omega⟩⟩
   by_cases e:k=j
   ·subst e;omega
   ·exact j2 k (by omega)
  ·have eA:cR a[i] 1=cR b[i] 1:=b1a (c:=1) (b6j pa1) (b6j pb1) hA (fun k hk c hc=>by
    obtain rfl:c=0:=by omega
    exact j2 k (by omega))
   refine⟨fun h=>NEi i hi hi' (fun e=>by rw[e] at h;exact h rfl),fun hO=> ?_⟩
   have hO:(cR a[i] 2).length=(cR b[i] 2).length:=by omega
   have hb3:=pa2.1
   refine TT.sat_loop (fun v=>∃m:Nat,v.i 0=m∧m≤(cR a[i] 2).length∧∀k (hk:k<(cR a[i] 2).length) (hk':k<(cR b[i] 2).length),k<m→(cR a[i] 2)[k]=(cR b[i] 2)[k]) (fun v=>(cR a[i] 2).length-(v.i 0).toNat)
    ⟨0,by simp [o6,j6,E.ev],by omega,fun k hk hk' h=>by omega⟩ (fun z hz=> ?_)
   obtain⟨m,m0,m1,m2⟩:=hz
   simp only[g7,Nat.reduceBEq,Nat.reduceLT,Nat.reduceSub,i0,m0,e6,e13,u6 hi,u6 hi',c2u,hw1]
   refine⟨fun hcm=> ?_,fun hcm=> ?_⟩
   ·have hm1:m<(cR a[i] 2).length:=by omega
    have hm2:m<(cR b[i] 2).length:=by omega
    have ho:=b4r (b5R pa2 _ (List.getElem_mem hm1)) (b5R pb2 _ (List.getElem_mem hm2))
    rw[f9 ((m:Int)+1) (by omega) (by omega)]
    simp only[q7 hm1,q7 hm2,u6 hm1,u6 hm2,b7O]
    refine⟨by omega,by omega,by omega,by omega,fun h=>NEi i hi hi' (fun e=> ?_),fun h=>⟨⟨m+1,rfl,by omega,fun k hk hk' hkm=> ?_⟩,by omega⟩⟩
    ·have:(cR a[i] 2)[m]=(cR b[i] 2)[m]:=by
      have e2:cR a[i] 2=cR b[i] 2:=by rw[e]
      exact List.getElem_of_eq e2 _
     rw[ho.2 this] at h
     cases h
    ·by_cases e:k=m
     ·subst e;exact ho.1 h
     ·exact m2 k hk hk' (by omega)
   ·have eO:cR a[i] 2=cR b[i] 2:=List.ext_getElem hO (fun k h1 h2=>m2 k h1 h2 (by omega))
    rw[if_neg (by decide)]
    refine⟨⟨i+1,rfl,by omega,fun k hk hk' hki=> ?_⟩,hm⟩
    by_cases e:k=i
    ·subst e
     rw[pa,pb,c0,eA,eO]
    ·exact i2 k hk hk' (by omega)
 ·have e:a=b:=List.ext_getElem hl (fun k h1 h2=>i2 k h1 h2 (by omega))
  rw[e,x7]
def S5(f t:Int):Prop:=1≤f∧f≤20∧1≤t∧t≤20∧f≠t
instance (f t:Int):Decidable (S5 f t):=by unfold S5;infer_instance
def c1d(f t q:Int)(k:Bool)(nt:List D):Bool:=(!k&&decide (S5 f t∧0≤q∧q<1000))&&y6 nt
def ntA(ds:List D)(i:Nat):List D:=[.i (a9 ds i),.i (a9 ds (i+1)),.i (a9 ds (i+2)),.i (a9 ds (i+3)),.i (a9 ds (i+4)),.i (a9 ds (i+5)),.l (f8 ds (i+6))]
def a1s(ds:List D):Bool:=c1d (a9 ds 0) (a9 ds 1) (a9 ds 2) (bAt ds 3) (ntA ds 4)
theorem b8h:k8 Tryz.prog 50 [L5] (fun ds=> .bool (a1s ds)):=by
 refine GivesIf.all (i6 Q1 (by kernel_rfl) (fun ρ h=>a5n (Sees.of h 190)) (by kernel_rfl) a8R a6O (by decide) (fun W vals ds hr _=> ?_))
 have e:a1s ds=((!bAt ds 3&&decide (S5 (a9 ds 0) (a9 ds 1)∧0≤a9 ds 2∧a9 ds 2<1000))&&y6 [.i (a9 ds 4),.i (a9 ds 5),.i (a9 ds 6),.i (a9 ds 7),.i (a9 ds 8),.i (a9 ds 9),.l (f8 ds 10)]):=rfl
 have N:¬(S5 (a9 ds 0) (a9 ds 1)∧0≤a9 ds 2∧a9 ds 2<1000)→Value.bool false=Value.bool (a1s ds):=fun h=>by rw[e,decide_eq_false h,Bool.and_false,Bool.false_and]
 unfold S5 at N
 simp only[a1u,g7,Nat.reduceBEq,Nat.reduceLT,Nat.reduceSub,c1R]
 refine⟨fun h0=>⟨fun h1=>⟨fun h2=>⟨fun h3=>⟨fun h4=>⟨fun h5=>⟨fun h6=>⟨fun h7=> ?_,fun h=>N (by omega)⟩,fun h=>N (by omega)⟩,fun h=>N (by omega)⟩,fun h=>N (by omega)⟩,fun h=>N (by omega)⟩,fun h=>N (by omega)⟩,fun h=>N (by omega)⟩,fun h=> ?_⟩
 ·rw[e,h0,decide_eq_true (by unfold S5;omega)];rfl
 ·rw[e,h];rfl
def Q2:Interp where
 fi n l:=Q1.fi n l
 fb n l:=match n with | 190=>v4 l | 191=>a1s l | n=>Q1.fb n l
 fd _ _:=[]
theorem b9Q{ρ:Env}(h:Sees ρ Q2 200):Sees ρ Q1 190:=h.trans (by decide) fun n l hn=>by
 refine⟨?_,?_⟩
 ·
  rfl
 ·
  simp only[Q2]
  split<;>first | omega | rfl
def a9g:=o9 [notS,notS] fun al=> .ret (bV (bF 190 v4 al))
theorem a6B{ρ:Env}(h:Sees ρ Q2 200):i4 Tryz.prog ρ 35 a9g:=
 j4 c2b (fun _=>rfl) (fun al=>by simp only[iV,bV,V.s0,V.val,V2.val,S.val,S0.val,o8 (s:=190) (f:=v4) (fun l=>by rw[(h 190 l (by decide)).2];simp only[Q2])];try rfl)
def a3f:=o9 [L5] fun al=> .ret (bV (bF 191 a1s al))
theorem a2U{ρ:Env}(h:Sees ρ Q2 200):i4 Tryz.prog ρ 50 a3f:=
 j4 b8h (fun _=>rfl) (fun al=>by simp only[iV,bV,V.s0,V.val,V2.val,S.val,S0.val,o8 (s:=191) (f:=a1s) (fun l=>by rw[(h 191 l (by decide)).2];simp only[Q2])];try rfl)
def a5q:Ct:=(35,a9g)::(50,a3f)::b2i
theorem a0m{ρ:Env}(h:Sees ρ Q2 200):CtOk Tryz.prog ρ a5q:= .cons (a6B h)<| .cons (a2U h)<|a5n (b9Q h)
def a7v:TT i8:=
(.ite (.var 3)
 (.ite (.cmp .geq (.var 0) (.lit 1))
 (.ite (.cmp .leq (.var 0) (.lit 20))
 (.ite (.cmp .geq (.var 1) (.lit 1))
 (.ite (.cmp .leq (.var 1) (.lit 20))
 (.ite (.cmp .neq (.var 0) (.var 1))
 (.ite (.cmp .geq (.var 2) (.lit 0))
 (.ite (.cmp .leq (.var 2) (.lit 1000))
 (.ret ((.v (.one (.z (.bool (.fn 190 (.i (.var 4) (.i (.var 5) (.i (.var 6) (.i (.var 7) (.i (.var 8) (.i (.var 9) (.x (.var 10) (.i (.lit 0) (.i (.lit 0) (.i (.lit 0) (.i (.lit 0) (.i (.lit 0) (.i (.lit 0) (.x .nil .nil))))))))))))))))))),[],1))
 (.ret ((.v (.one (.z (.bool (.lit false))))),[],1)))
 (.ret ((.v (.one (.z (.bool (.lit false))))),[],1)))
 (.ret ((.v (.one (.z (.bool (.lit false))))),[],1)))
 (.ret ((.v (.one (.z (.bool (.lit false))))),[],1)))
 (.ret ((.v (.one (.z (.bool (.lit false))))),[],1)))
 (.ret ((.v (.one (.z (.bool (.lit false))))),[],1)))
 (.ret ((.v (.one (.z (.bool (.lit false))))),[],1)))
 (.ret ((.v (.one (.z (.bool (.lit false))))),[],1)))
set_option maxRecDepth 100000 in
theorem b5f:T.norm 0 (call Tryz.prog a5q (Lt.of []) 150 47 (i5 0 [L5]) [] 0) TT.ret=a7v:=by kernel_rfl
theorem b1E:a7v.low 1000=true:=by kernel_rfl
def a7A:TT i8:=
(.loop 0 3000 ⟨[(0,(.lit 0))],[],[]⟩
 (.ite (.cmp .lss (.var 3000) (.len (.var 0)))
 (.ob (.tru (.cmp .leq (.lit 0) (.var 3000)))
 (.ob (.tru (.cmp .lss (.var 3000) (.len (.var 0))))
 (.ite (.not (.fn 191 (.i (.rd (.var 0) (.var 3000) 0) (.i (.rd (.var 0) (.var 3000) 1) (.i (.rd (.var 0) (.var 3000) 2) (.b (.rd (.var 0) (.var 3000) 3) (.i (.rd (.var 0) (.var 3000) 4) (.i (.rd (.var 0) (.var 3000) 5) (.i (.rd (.var 0) (.var 3000) 6) (.i (.rd (.var 0) (.var 3000) 7) (.i (.rd (.var 0) (.var 3000) 8) (.i (.rd (.var 0) (.var 3000) 9) (.x (.rd (.var 0) (.var 3000) 10) .nil)))))))))))))
 (.ret ((.v (.one (.z (.bool (.not (.cmp .geq (.var 3000) (.lit 0))))))),[],4))
 (.ite (.cmp .neq (.rd (.var 0) (.var 3000) 0) (.var 1))
 (.ret ((.v (.one (.z (.bool (.not (.cmp .geq (.var 3000) (.lit 0))))))),[],4))
 (.ite (.cmp .neq (.rd (.var 0) (.var 3000) 1) (.var 2))
 (.ret ((.v (.one (.z (.bool (.not (.cmp .geq (.var 3000) (.lit 0))))))),[],4))
 (.next 0 ⟨[(0,(.ar .add .i64 (.var 3000) (.lit 1)))],[],[]⟩))))))
 (.ret ((.v (.one (.z (.bool (.lit true))))),[],4))))
set_option maxRecDepth 100000 in
theorem b4Z:T.norm 0 (call Tryz.prog a5q (Lt.of []) 150 41 (i5 0 [E9,it,it]) [] 0) TT.ret=a7A:=by kernel_rfl
theorem b2L:a7A.low 1000=true:=by kernel_rfl
def a9a:TT i8:=
(.ite (.cmp .leq (.len (.var 0)) (.lit 200))
 (.loop 0 1000 ⟨[(0,(.lit 0))],[],[]⟩
 (.ite (.cmp .lss (.var 1000) (.len (.var 0)))
 (.ob (.tru (.cmp .leq (.lit 0) (.var 1000)))
 (.ob (.tru (.cmp .lss (.var 1000) (.len (.var 0))))
 (.ite (.not (.fn 170 (.i (.rd (.var 0) (.var 1000) 0) (.i (.rd (.var 0) (.var 1000) 1) (.i (.rd (.var 0) (.var 1000) 2) (.i (.rd (.var 0) (.var 1000) 3) (.i (.rd (.var 0) (.var 1000) 4) (.i (.rd (.var 0) (.var 1000) 5) (.x (.rd (.var 0) (.var 1000) 6) .nil)))))))))
 (.ret ((.v (.one (.z (.bool (.not (.cmp .geq (.var 1000) (.lit 0))))))),[],2))
 (.next 0 ⟨[(0,(.ar .add .i64 (.var 1000) (.lit 1)))],[],[]⟩))))
 (.ret ((.v (.one (.z (.bool (.lit true))))),[],2))))
 (.ret ((.v (.one (.z (.bool (.lit false))))),[],0)))
set_option maxRecDepth 100000 in
theorem b4E:T.norm 0 (call Tryz.prog a5q (Lt.of []) 150 58 (i5 0 [z0]) [] 0) TT.ret=a9a:=by kernel_rfl
theorem b2G:a9a.low 1000=true:=by kernel_rfl
def a3y:TT i8:=
(.loop 0 1000 ⟨[(0,(.lit 0)),(1,(.len (.var 0)))],[],[]⟩
 (.ite (.cmp .lss (.var 1000) (.var 1001))
 (.ob (.tru (.cmp .leq (.lit 0) (.wr .i64 (.ar .shr .u64 (.wr .u64 (.ar .add .i64 (.var 1000) (.var 1001))) (.lit 1)))))
 (.ob (.tru (.cmp .lss (.wr .i64 (.ar .shr .u64 (.wr .u64 (.ar .add .i64 (.var 1000) (.var 1001))) (.lit 1))) (.len (.var 0))))
 (.ite (.cmp .lss (.rd (.var 0) (.wr .i64 (.ar .shr .u64 (.wr .u64 (.ar .add .i64 (.var 1000) (.var 1001))) (.lit 1))) 2) (.var 1))
 (.next 0 ⟨[(0,(.ar .add .i64 (.wr .i64 (.ar .shr .u64 (.wr .u64 (.ar .add .i64 (.var 1000) (.var 1001))) (.lit 1))) (.lit 1))),(1,(.var 1001))],[],[]⟩)
 (.ite (.cmp .gtr (.rd (.var 0) (.wr .i64 (.ar .shr .u64 (.wr .u64 (.ar .add .i64 (.var 1000) (.var 1001))) (.lit 1))) 2) (.var 1))
 (.next 0 ⟨[(0,(.var 1000)),(1,(.wr .i64 (.ar .shr .u64 (.wr .u64 (.ar .add .i64 (.var 1000) (.var 1001))) (.lit 1))))],[],[]⟩)
 (.next 0 ⟨[(0,(.var 1000)),(1,(.wr .i64 (.ar .shr .u64 (.wr .u64 (.ar .add .i64 (.var 1000) (.var 1001))) (.lit 1))))],[],[]⟩)))))
 (.ite (.cmp .lss (.var 1000) (.len (.var 0)))
 (.ob (.tru (.cmp .leq (.lit 0) (.var 1000)))
 (.ob (.tru (.cmp .lss (.var 1000) (.len (.var 0))))
 (.ite (.cmp .lss (.rd (.var 0) (.var 1000) 2) (.var 1))
 (.ret ((.tup [(.one (.z (.int .i64 (.var 1000)))),(.one (.z (.bool (.lit false))))]),[],3))
 (.ite (.cmp .gtr (.rd (.var 0) (.var 1000) 2) (.var 1))
 (.ret ((.tup [(.one (.z (.int .i64 (.var 1000)))),(.one (.z (.bool (.lit false))))]),[],3))
 (.ret ((.tup [(.one (.z (.int .i64 (.var 1000)))),(.one (.z (.bool (.lit true))))]),[],3))))))
 (.ret ((.tup [(.one (.z (.int .i64 (.var 1000)))),(.one (.z (.bool (.lit false))))]),[],2)))))
set_option maxRecDepth 100000 in
theorem a9Z:T.norm 0 (call Tryz.prog a5q (Lt.of []) 150 51 (i5 0 [E9,it]) [] 0) TT.ret=a3y:=by kernel_rfl
theorem a7J:a3y.low 1000=true:=by kernel_rfl
def ntR(row:List D):List D:=[.i (cI row 4),.i (cI row 5),.i (cI row 6),.i (cI row 7),.i (cI row 8),.i (cI row 9),.l (cR row 10)]
def b2C(row:List D):Bool:=c1d (cI row 0) (cI row 1) (cI row 2) (cB row 3) (ntR row)
def K4(r:Rows)(f t:Int):Bool:=r.all fun x=>b2C x&&decide (cI x 0=f∧cI x 1=t)
def Y9(ds:List D):Bool:=K4 (f8 ds 0) (a9 ds 1) (a9 ds 2)
def c5g:List D:=[.i 0,.i 0,.i 0,.i 0,.i 0,.i 0,.l []]
def c6N(f t q:Int)(k:Bool)(nt:List D):Bool:=(k&&decide (S5 f t∧0≤q∧q≤1000))&&v4 (nt++c5g)
def a5V(ds:List D):Bool:=c6N (a9 ds 0) (a9 ds 1) (a9 ds 2) (bAt ds 3) (ntA ds 4)
def b8q(row:List D):List D:=[.i (cI row 0),.i (cI row 1),.i (cI row 2),.i (cI row 3),.i (cI row 4),.i (cI row 5),.l (cR row 6)]
def u9(r:Rows):Bool:=decide (r.length≤200)&&r.all fun x=>y6 (b8q x)
def O6(ds:List D):Bool:=u9 (f8 ds 0)
theorem c2M(W:World)(ds l:List D):(g8 Q2 W ds).fb 170 l=y6 l:=by simp only[g8,Q2,Q1,N4]
theorem c3d(W:World)(ds l:List D):(g8 Q2 W ds).fb 190 l=v4 l:=by simp only[g8,Q2]
theorem c2I(W:World)(ds l:List D):(g8 Q2 W ds).fb 191 l=a1s l:=by simp only[g8,Q2]
theorem c4U:k8 Tryz.prog 47 [L5] (fun ds=> .bool (a5V ds)):=by
 refine GivesIf.all (i6 Q2 (by kernel_rfl) (fun ρ h=>a0m (Sees.of h 200)) (by kernel_rfl) b5f b1E (by decide) (fun W vals ds hr _=> ?_))
 have e:a5V ds=((bAt ds 3&&decide (S5 (a9 ds 0) (a9 ds 1)∧0≤a9 ds 2∧a9 ds 2≤1000))&&v4 [.i (a9 ds 4),.i (a9 ds 5),.i (a9 ds 6),.i (a9 ds 7),.i (a9 ds 8),.i (a9 ds 9),.l (f8 ds 10),.i 0,.i 0,.i 0,.i 0,.i 0,.i 0,.l []]):=rfl
 have N:¬(S5 (a9 ds 0) (a9 ds 1)∧0≤a9 ds 2∧a9 ds 2≤1000)→Value.bool false=Value.bool (a5V ds):=fun h=>by rw[e,decide_eq_false h,Bool.and_false,Bool.false_and]
 unfold S5 at N
 simp only[a7v,g7,Nat.reduceBEq,Nat.reduceLT,Nat.reduceSub,c3d]
 refine⟨fun h0=>⟨fun h1=>⟨fun h2=>⟨fun h3=>⟨fun h4=>⟨fun h5=>⟨fun h6=>⟨fun h7=> ?_,fun h=>N (by omega)⟩,fun h=>N (by omega)⟩,fun h=>N (by omega)⟩,fun h=>N (by omega)⟩,fun h=>N (by omega)⟩,fun h=>N (by omega)⟩,fun h=>N (by omega)⟩,fun h=> ?_⟩
 ·rw[e,h0,decide_eq_true (by unfold S5;omega)];rfl
 ·rw[e,h];rfl
theorem c4I:k8 Tryz.prog 41 [E9,it,it] (fun ds=> .bool (Y9 ds)):=by
 refine GivesIf.all (i6 Q2 (by kernel_rfl) (fun ρ h=>a0m (Sees.of h 200)) (by kernel_rfl) b4Z b2L (by decide) (fun W vals ds hr _=> ?_))
 have hlen:=(m7 (m8 hr) (j:=0) rfl).1
 have e:Y9 ds=K4 (f8 ds 0) (a9 ds 1) (a9 ds 2):=rfl
 simp only[a7A,g7,Nat.reduceBEq,Nat.reduceLT,Nat.reduceSub]
 rw[e]
 clear hr e
 generalize e0:f8 ds 0=r at*
 generalize e1:a9 ds 1=f at*
 generalize e2:a9 ds 2=t at*
 refine TT.sat_loop (fun v=>∃i:Nat,v.i 0=i∧i≤r.length∧∀k (hk:k<r.length),k<i→b2C r[k]=true∧cI r[k] 0=f∧cI r[k] 1=t) (fun v=>r.length-(v.i 0).toNat)
  ⟨0,by simp [o6,j6,E.ev],by omega,fun k hk h=>by omega⟩ (fun v hv=> ?_)
 obtain⟨i,i0,i1,i2⟩:=hv
 simp only[g7,Nat.reduceBEq,Nat.reduceLT,Nat.reduceSub,i0,e0,e1,e2,c2I]
 refine⟨fun hc=> ?_,fun hc=> ?_⟩
 ·have hi:i<r.length:=by omega
  have NO:(¬(b2C r[i]=true∧cI r[i] 0=f∧cI r[i] 1=t))→K4 r f t=false:=fun h=>by
   unfold K4
   rw[List.all_eq_false]
   refine⟨_,List.getElem_mem hi,fun q=>h ?_⟩
   simp only[Bool.and_eq_true,decide_eq_true_eq] at q
   exact⟨q.1,q.2.1,q.2.2⟩
  have hca:a1s [.i (cI r[i] 0),.i (cI r[i] 1),.i (cI r[i] 2),.b (cB r[i] 3),.i (cI r[i] 4),.i (cI r[i] 5),.i (cI r[i] 6),.i (cI r[i] 7),.i (cI r[i] 8),.i (cI r[i] 9),.l (cR r[i] 10)]=b2C r[i]:=rfl
  have cell_lb':∀c,(o5 r (i:Int) c).bool=cB r[i] c:=fun c=>X2 hi c
  rw[f9 ((i:Int)+1) (by omega) (by omega)]
  simp only[q7 hi,u6 hi,X2 hi,hca]
  refine⟨by omega,by omega,fun h=> ?_,fun h=>⟨fun h1=> ?_,fun h1=>⟨fun h2=> ?_,fun h2=>⟨⟨i+1,rfl,by omega,fun k hk hki=> ?_⟩,by omega⟩⟩⟩⟩
  ·rw[NO (fun q=>by rw[h] at q;exact absurd q.1 (by decide))];simp [s7]
  ·rw[NO (fun q=>h1 q.2.1)];simp [s7]
  ·rw[NO (fun q=>h2 q.2.2)];simp [s7]
  ·by_cases e:k=i
   ·subst e;exact⟨h,by omega,by omega⟩
   ·exact i2 k hk (by omega)
 ·have:K4 r f t=true:=by
   unfold K4
   rw[List.all_eq_true]
   intro x hx
   obtain⟨k,hk,rfl⟩:=List.getElem_of_mem hx
   obtain⟨a,b,c⟩:=i2 k hk (by omega)
   rw[a,decide_eq_true ⟨b,c⟩];rfl
  rw[this]
theorem c4R:k8 Tryz.prog 58 [z0] (fun ds=> .bool (O6 ds)):=by
 refine GivesIf.all (i6 Q2 (by kernel_rfl) (fun ρ h=>a0m (Sees.of h 200)) (by kernel_rfl) b4E b2G (by decide) (fun W vals ds hr _=> ?_))
 have hlen:=(m7 (m8 hr) (j:=0) rfl).1
 have e:O6 ds=u9 (f8 ds 0):=rfl
 simp only[a9a,g7,Nat.reduceBEq,Nat.reduceLT,Nat.reduceSub]
 rw[e]
 clear hr e
 generalize e0:f8 ds 0=r at*
 refine⟨fun h2=> ?_,fun h2=> ?_⟩
 ·refine TT.sat_loop (fun v=>∃i:Nat,v.i 0=i∧i≤r.length∧∀k (hk:k<r.length),k<i→y6 (b8q r[k])=true) (fun v=>r.length-(v.i 0).toNat)
   ⟨0,by simp [o6,j6,E.ev],by omega,fun k hk h=>by omega⟩ (fun v hv=> ?_)
  obtain⟨i,i0,i1,i2⟩:=hv
  simp only[g7,Nat.reduceBEq,Nat.reduceLT,Nat.reduceSub,i0,e0,c2M]
  refine⟨fun hc=> ?_,fun hc=> ?_⟩
  ·have hi:i<r.length:=by omega
   have hca:y6 [.i (cI r[i] 0),.i (cI r[i] 1),.i (cI r[i] 2),.i (cI r[i] 3),.i (cI r[i] 4),.i (cI r[i] 5),.l (cR r[i] 6)]=y6 (b8q r[i]):=rfl
   rw[f9 ((i:Int)+1) (by omega) (by omega)]
   simp only[q7 hi,u6 hi,hca]
   refine⟨by omega,by omega,fun h=> ?_,fun h=>⟨⟨i+1,rfl,by omega,fun k hk hki=> ?_⟩,by omega⟩⟩
   ·have:u9 r=false:=by
     unfold u9
     rw[Bool.and_eq_false_iff]
     right
     rw[List.all_eq_false]
     exact⟨_,List.getElem_mem hi,by rw[h];decide⟩
    rw[this];simp [s7]
   ·by_cases e:k=i
    ·subst e;exact h
    ·exact i2 k hk (by omega)
  ·have:u9 r=true:=by
    unfold u9
    rw[decide_eq_true (by omega),Bool.true_and,List.all_eq_true]
    intro x hx
    obtain⟨k,hk,rfl⟩:=List.getElem_of_mem hx
    exact i2 k hk (by omega)
   rw[this]
 ·have:u9 r=false:=by
   unfold u9
   rw[decide_eq_false (by omega),Bool.false_and]
  rw[this]
def b1D(r:Rows):Nat→Nat→Bool
 | 0,_=>true
 | f+1,i=>decide (lg r i 2<lg r (i+1:Nat) 2)&&b1D r f (i+1)
def c2B(r:Rows):Bool:=b1D r (r.length-1) 0
def a0c(r:Rows)(n:Int):Nat→Nat→Nat
 | 0,i=>i
 | f+1,i=>if lg r i 2<n then a0c r n f (i+1) else i
def S1(r:Rows)(n:Int):Nat:=a0c r n r.length 0
def isS(r:Rows)(n:Int):Bool:=decide (S1 r n<r.length∧lg r (S1 r n) 2=n)
def b1J(ds:List D):Int:=S1 (f8 ds 0) (a9 ds 1)
def b6H(ds:List D):Bool:=isS (f8 ds 0) (a9 ds 1)
def b2K(ds:List D):Bool:=c2B (f8 ds 0)
theorem a7D{r:Rows}:∀(f i:Nat),b1D r f i=true↔∀k,i≤k→k<i+f→lg r k 2<lg r (k+1:Nat) 2
 | 0,i=>⟨fun _ k h1 h2=>by omega,fun _=>rfl⟩
 | f+1,i=>by
   rw[b1D,Bool.and_eq_true,decide_eq_true_eq,a7D f (i+1)]
   constructor
   ·rintro⟨h1,h2⟩ k hk hk'
    by_cases e:k=i
    ·subst e;exact h1
    ·exact h2 k (by omega) (by omega)
   ·exact fun h=>⟨h i (by omega) (by omega),fun k h1 h2=>h k (by omega) (by omega)⟩
theorem b0S{r:Rows}(h:c2B r=true):∀ {i j:Nat},i<j→j<r.length→lg r i 2<lg r j 2:=by
 have h1:=(a7D _ _).mp h
 have key:∀(d i:Nat),i+d+1<r.length→lg r i 2<lg r (i+d+1:Nat) 2:=by
  intro d
  induction d with
  | zero=>intro i hi;exact h1 i (by omega) (by omega)
  | succ d ih=>
    intro i hi
    have a:=ih i (by omega)
    have b:=h1 (i+d+1) (by omega) (by omega)
    rw[show i+(d+1)+1=i+d+1+1 by omega]
    omega
 intro i j hij hj
 have:=key (j-i-1) i (by omega)
 rw[show i+(j-i-1)+1=j by omega] at this
 exact this
theorem a6J{r:Rows}{n:Int}:∀(f i:Nat),i≤a0c r n f i∧a0c r n f i≤i+f∧(∀k:Nat,i≤k→k<a0c r n f i→lg r k 2<n)∧(a0c r n f i<i+f→¬lg r (a0c r n f i) 2<n)
 | 0,i=>⟨Nat.le_refl _,Nat.le_refl _,fun k h1 h2=>by rw[a0c] at h2;omega,fun h=>by rw[a0c] at h;omega⟩
 | f+1,i=>by
   obtain⟨a,b,c,d⟩:=a6J (r:=r) (n:=n) f (i+1)
   rw[a0c]
   split
   ·rename_i h
    refine⟨by omega,by omega,fun k h1 h2=> ?_,fun h=>d (by omega)⟩
    by_cases e:k=i
    ·subst e;assumption
    ·exact c k (by omega) h2
   ·rename_i h
    exact⟨Nat.le_refl _,by omega,fun k h1 h2=>by omega,fun _=>h⟩
theorem b3V(r:Rows)(n:Int):S1 r n≤r.length∧(∀k:Nat,k<S1 r n→lg r k 2<n)∧(S1 r n<r.length→¬lg r (S1 r n) 2<n):=by
 obtain⟨_,b,c,d⟩:=a6J (r:=r) (n:=n) r.length 0
 exact⟨by unfold S1;omega,fun k hk=>c k (by omega) hk,fun h=>d (by unfold S1 at h;omega)⟩
theorem b5P{r:Rows}{n:Int}{i:Nat}(hi:i≤r.length)(h1:∀k:Nat,k<i→lg r k 2<n)(h2:i<r.length→¬lg r i 2<n):i=S1 r n:=by
 obtain⟨a,b,c⟩:=b3V r n
 rcases Nat.lt_trichotomy i (S1 r n) with h | h | h
 ·exact absurd (b i h) (h2 (by omega))
 ·exact h
 ·exact absurd (h1 _ h) (c (by omega))
theorem V7{i j:Nat}(hj:i+j≤562949953421312):IntKind.i64.wrap ((IntKind.u64.wrap (IntKind.i64.wrap ((i:Int)+(j:Int)))).fdiv (2^min (1:Int).toNat IntKind.u64.bits))=(((i+j)/2:Nat):Int):=by
 rw[f9 ((i:Int)+(j:Int)) (by omega) (by omega)]
 have w:∀x:Int,IntKind.u64.wrap x=x % 18446744073709551616:=fun x=>rfl
 have e:IntKind.u64.wrap ((i:Int)+(j:Int))=(i:Int)+(j:Int):=by
  rw[w];omega
 rw[e,show(2:Int)^min (1:Int).toNat IntKind.u64.bits=2 from rfl,Int.fdiv_eq_ediv_of_nonneg _ (by omega),show((i:Int)+(j:Int))/2=(((i+j)/2:Nat):Int) by omega,f9 _ (by omega) (by omega)]
theorem c0T:GivesIf Tryz.prog 51 [E9,it] (fun ds=>b2K ds=true) (fun ds=> .tuple #[.int .i64 (b1J ds),.bool (b6H ds)]):=by
 refine i6 Q2 (by kernel_rfl) (fun ρ h=>a0m (Sees.of h 200)) (by kernel_rfl) a9Z a7J (by decide) (fun W vals ds hr hok=> ?_)
 have hlen:=(m7 (m8 hr) (j:=0) rfl).1
 simp only[a3y]
 unfold b1J b6H b2K at*
 clear hr
 generalize e0:f8 ds 0=r at*
 generalize e1:a9 ds 1=n at*
 refine TT.sat_loop (fun v=>∃i j:Nat,v.i 0=i∧v.i 1=j∧i≤j∧j≤r.length∧(∀k:Nat,k<i→lg r k 2<n)∧∀k:Nat,j≤k→k<r.length→n≤lg r k 2) (fun v=>(v.i 1).toNat-(v.i 0).toNat)
  ⟨0,r.length,by simp [o6,j6,E.ev],by simp [o6,j6,E.ev,X.ev,a5Q,e0],by omega,by omega,fun k hk=>by omega,fun k h1 h2=>by omega⟩ (fun v hv=> ?_)
 obtain⟨i,j,i0,j0,hij,hj,h1,h2⟩:=hv
 simp only[g7,Nat.reduceBEq,Nat.reduceLT,Nat.reduceSub,i0,j0,e0,e1]
 refine⟨fun hc=> ?_,fun hc=> ?_⟩
 ·rw[V7 (by omega)]
  have hm:i≤(i+j)/2∧(i+j)/2<j:=by omega
  generalize (i+j)/2=m at*
  rw[f9 ((m:Int)+1) (by omega) (by omega)]
  refine⟨by omega,by omega,fun a=>⟨⟨m+1,j,rfl,rfl,by omega,hj,fun k hk=> ?_,h2⟩,by omega⟩,fun a=>⟨fun b=>⟨⟨i,m,rfl,rfl,by omega,by omega,h1,fun k g1 g2=> ?_⟩,by omega⟩,fun b=>⟨⟨i,m,rfl,rfl,by omega,by omega,h1,fun k g1 g2=> ?_⟩,by omega⟩⟩⟩
  ·by_cases e:k=m
   ·subst e;exact a
   ·have:=b0S hok (i:=k) (j:=m) (by omega) (by omega)
    omega
  all_goals
   by_cases e:k=m
   ·subst e;omega
   ·have:=b0S hok (i:=m) (j:=k) (by omega) g2
    omega
 ·have hi:i=j:=by omega
  subst hi
  have hl:i=S1 r n:=b5P hj h1 (fun h=>by have:=h2 i (Nat.le_refl _) h;omega)
  have hB:isS r n=decide (i<r.length∧lg r i 2=n):=by unfold isS;rw[←hl]
  rw[hB,←hl]
  refine⟨fun a=>⟨by omega,by omega,fun b=> ?_,fun b=>⟨fun c=> ?_,fun c=> ?_⟩⟩,fun a=> ?_⟩
  ·rw[decide_eq_false (by omega)]
  ·rw[decide_eq_false (by omega)]
  ·rw[decide_eq_true (by omega)]
  ·rw[decide_eq_false (by omega)]
def Q3:Interp where
 fi n l:=match n with | 200=>b1J l | n=>Q2.fi n l
 fb n l:=match n with | 200=>a5V l | 201=>Y9 l | 202=>O6 l | 203=>b2K l | 204=>b6H l | n=>Q2.fb n l
 fd _ _:=[]
theorem a6U{ρ:Env}(h:Sees ρ Q3 210):Sees ρ Q2 200:=h.trans (by decide) fun n l hn=>by
 refine⟨?_,?_⟩
 ·
  simp only[Q3]
  split<;>first | omega | rfl
 ·
  simp only[Q3]
  split<;>first | omega | rfl
def b2v:=o9 [L5] fun al=> .ret (bV (bF 200 a5V al))
theorem a9x{ρ:Env}(h:Sees ρ Q3 210):i4 Tryz.prog ρ 47 b2v:=
 j4 c4U (fun _=>rfl) (fun al=>by simp only[iV,bV,V.s0,V.val,V2.val,S.val,S0.val,o8 (s:=200) (f:=a5V) (fun l=>by rw[(h 200 l (by decide)).2];simp only[Q3])];try rfl)
def b2x:=o9 [E9,it,it] fun al=> .ret (bV (bF 201 Y9 al))
theorem a9o{ρ:Env}(h:Sees ρ Q3 210):i4 Tryz.prog ρ 41 b2x:=
 j4 c4I (fun _=>rfl) (fun al=>by simp only[iV,bV,V.s0,V.val,V2.val,S.val,S0.val,o8 (s:=201) (f:=Y9) (fun l=>by rw[(h 201 l (by decide)).2];simp only[Q3])];try rfl)
def b2b:=o9 [z0] fun al=> .ret (bV (bF 202 O6 al))
theorem a7L{ρ:Env}(h:Sees ρ Q3 210):i4 Tryz.prog ρ 58 b2b:=
 j4 c4R (fun _=>rfl) (fun al=>by simp only[iV,bV,V.s0,V.val,V2.val,S.val,S0.val,o8 (s:=202) (f:=O6) (fun l=>by rw[(h 202 l (by decide)).2];simp only[Q3])];try rfl)
def b1t:=o9 [E9,it] fun al=>match al with
 | .x r (.i n .nil)=> .ob (.tru (.fn 203 (.x r .nil))) (.ret (.tup [.one (.z (.int .i64 (.fn 200 (.x r (.i n .nil))))),.one (.z (.bool (.fn 204 (.x r (.i n .nil)))))]))
 | _=> .stuck "search"
theorem b3l{ρ:Env}(h:Sees ρ Q3 210):i4 Tryz.prog ρ 51 b1t:=by
 refine a0t c0T (fun al v hv=> ?_)
 split at hv
 ·rename_i r n
  obtain⟨ho,hv⟩:=hv
  obtain rfl:=g9 hv
  have h1:(B.fn 203 (.x r .nil)).ev ρ=true:=ho
  simp only[B.ev,AL.ev] at h1
  rw[(h 203 _ (by decide)).2] at h1
  simp only[Q3] at h1
  refine⟨rfl,h1,?_⟩
  simp only[V.val,V2.val,S.val,S0.val,List.map_cons,List.map_nil,E.ev,B.ev]
  rw[(h 200 _ (by decide)).1,(h 204 _ (by decide)).2]
  simp only[Q3]
 ·exact hv.elim
def b2c:Ct:=(47,b2v)::(41,b2x)::(58,b2b)::(51,b1t)::a5q
theorem a6c{ρ:Env}(h:Sees ρ Q3 210):CtOk Tryz.prog ρ b2c:= .cons (a9x h)<| .cons (a9o h)<| .cons (a7L h)<| .cons (b3l h)<|a0m (a6U h)
def a5w:TT i8:=
(.ite (.cmp .lss (.var 0) (.lit 0))
 (.ret ((.v (.one (.z (.bool (.lit false))))),[],1))
 (.ite (.cmp .gtr (.var 0) (.lit 1000))
 (.ret ((.v (.one (.z (.bool (.lit false))))),[],1))
 (.ite (.cmp .gtr (.len (.var 1)) (.ar .sub .i64 (.lit 1000) (.var 0)))
 (.ret ((.v (.one (.z (.bool (.lit false))))),[],1))
 (.ite (.cmp .eql (.len (.var 1)) (.lit 0))
 (.loop 0 2000 ⟨[(0,(.lit 0))],[],[]⟩
 (.ite (.cmp .lss (.var 2000) (.len (.var 1)))
 (.ob (.tru (.cmp .leq (.lit 0) (.var 2000)))
 (.ob (.tru (.cmp .lss (.var 2000) (.len (.var 1))))
 (.ite (.cmp .neq (.rd (.var 1) (.var 2000) 2) (.ar .add .i64 (.var 0) (.var 2000)))
 (.ret ((.v (.one (.z (.bool (.lit false))))),[],3))
 (.next 0 ⟨[(0,(.ar .add .i64 (.var 2000) (.lit 1)))],[],[]⟩))))
 (.ret ((.v (.one (.z (.bool (.lit true))))),[],3))))
 (.ob (.tru (.lit true))
 (.ob (.tru (.cmp .lss (.lit 0) (.len (.var 1))))
 (.ob (.tru (.lit true))
 (.ob (.tru (.cmp .lss (.lit 0) (.len (.var 1))))
 (.ite (.not (.fn 201 (.x (.var 1) (.i (.rd (.var 1) (.lit 0) 0) (.i (.rd (.var 1) (.lit 0) 1) .nil)))))
 (.ret ((.v (.one (.z (.bool (.lit false))))),[],1))
 (.loop 0 2000 ⟨[(0,(.lit 0))],[],[]⟩
 (.ite (.cmp .lss (.var 2000) (.len (.var 1)))
 (.ob (.tru (.cmp .leq (.lit 0) (.var 2000)))
 (.ob (.tru (.cmp .lss (.var 2000) (.len (.var 1))))
 (.ite (.cmp .neq (.rd (.var 1) (.var 2000) 2) (.ar .add .i64 (.var 0) (.var 2000)))
 (.ret ((.v (.one (.z (.bool (.lit false))))),[],3))
 (.next 0 ⟨[(0,(.ar .add .i64 (.var 2000) (.lit 1)))],[],[]⟩))))
 (.ret ((.v (.one (.z (.bool (.lit true))))),[],3)))))))))))))
def b5H:List (Nat×St):=[
(1,⟨(List.append [(.v (.agg [(.z (.int .i64 (.var 0))),(.z (.ext s8 (.var 1) false))])),(.v (.one (.z (.ptr 0 0)))),(.v (.one (.z (.bool (.lit false))))),(.v (.one (.z .any))),(.v (.one (.z .any))),(.v (.one (.z (.ptr 0 0)))),(.v (.one (.z (.int .i64 (.var 0))))),(.v (.one (.z (.bool (.cmp .lss (.var 0) (.lit 0)))))),(.v (.one (.z (.bool (.lit false))))),(.v (.one (.z (.ptr 0 0)))),(.v (.one (.z (.int .i64 (.var 0))))),(.v (.one (.z (.bool (.cmp .gtr (.var 0) (.lit 1000)))))),(.v (.one (.z (.bool (.cmp .gtr (.var 0) (.lit 1000)))))),(.v (.one (.z (.bool (.lit false))))),(.v (.one (.z (.ptr 0 1)))),(.v (.one (.z (.ext s8 (.var 1) false)))),(.v (.one (.z (.int .i64 (.len (.var 1)))))),(.v (.one (.z (.ptr 0 0)))),(.v (.one (.z (.int .i64 (.var 0))))),(.v (.one (.z (.int .i64 (.ar .sub .i64 (.lit 1000) (.var 0)))))),(.v (.one (.z (.bool (.cmp .gtr (.len (.var 1)) (.ar .sub .i64 (.lit 1000) (.var 0))))))),(.v (.one (.z (.bool (.cmp .gtr (.len (.var 1)) (.ar .sub .i64 (.lit 1000) (.var 0))))))),(.v (.one (.z (.bool (.lit false))))),(.v (.one (.z (.ptr 0 1)))),(.v (.one (.z (.ext s8 (.var 1) false)))),(.v (.one (.z (.bool (.lit true))))),(.v (.one (.z (.bool (.lit false))))),(.v (.one (.z (.bool (.lit false))))),(.v (.one (.z (.ptr 0 1)))),(.v (.one (.z (.ext s8 (.var 1) false)))),(.v (.one (.z (.int .i64 (.len (.var 1)))))),(.v (.one (.z (.int .i64 (.var 2000)))))] (List.replicate 12 V.any)),[(0,(.cells 24 [(.z (.int .i64 (.var 0))),(.z (.ext s8 (.var 1) false))]))],2,[]⟩),
(1,⟨(List.append [(.v (.agg [(.z (.int .i64 (.var 0))),(.z (.ext s8 (.var 1) false))])),(.v (.one (.z (.ptr 0 0)))),(.v (.one (.z (.bool (.lit false))))),(.v (.one (.z .any))),(.v (.one (.z .any))),(.v (.one (.z (.ptr 0 0)))),(.v (.one (.z (.int .i64 (.var 0))))),(.v (.one (.z (.bool (.cmp .lss (.var 0) (.lit 0)))))),(.v (.one (.z (.bool (.lit false))))),(.v (.one (.z (.ptr 0 0)))),(.v (.one (.z (.int .i64 (.var 0))))),(.v (.one (.z (.bool (.cmp .gtr (.var 0) (.lit 1000)))))),(.v (.one (.z (.bool (.cmp .gtr (.var 0) (.lit 1000)))))),(.v (.one (.z (.bool (.lit false))))),(.v (.one (.z (.ptr 0 1)))),(.v (.one (.z (.ext s8 (.var 1) false)))),(.v (.one (.z (.int .i64 (.len (.var 1)))))),(.v (.one (.z (.ptr 0 0)))),(.v (.one (.z (.int .i64 (.var 0))))),(.v (.one (.z (.int .i64 (.ar .sub .i64 (.lit 1000) (.var 0)))))),(.v (.one (.z (.bool (.cmp .gtr (.len (.var 1)) (.ar .sub .i64 (.lit 1000) (.var 0))))))),(.v (.one (.z (.bool (.cmp .gtr (.len (.var 1)) (.ar .sub .i64 (.lit 1000) (.var 0))))))),(.v (.one (.z (.bool (.lit false))))),(.v (.one (.z (.ptr 0 1)))),(.v (.one (.z (.ext s8 (.var 1) false)))),(.v (.one (.z (.bool (.fn 201 (.x (.var 1) (.i (.rd (.var 1) (.lit 0) 0) (.i (.rd (.var 1) (.lit 0) 1) .nil)))))))),(.v (.one (.z (.bool (.not (.fn 201 (.x (.var 1) (.i (.rd (.var 1) (.lit 0) 0) (.i (.rd (.var 1) (.lit 0) 1) .nil))))))))),(.v (.one (.z (.bool (.not (.fn 201 (.x (.var 1) (.i (.rd (.var 1) (.lit 0) 0) (.i (.rd (.var 1) (.lit 0) 1) .nil))))))))),(.v (.one (.z (.ptr 0 1)))),(.v (.one (.z (.ext s8 (.var 1) false)))),(.v (.one (.z (.int .i64 (.len (.var 1)))))),(.v (.one (.z (.int .i64 (.var 2000)))))] (List.replicate 12 V.any)),[(0,(.cells 24 [(.z (.int .i64 (.var 0))),(.z (.ext s8 (.var 1) false))]))],2,[]⟩)]
def b4t:List (FuncId×Nat×Nat×St):=[
]
set_option maxRecDepth 100000 in
theorem b3i:T.norm 0 (call Tryz.prog b2c ⟨Lt.un (Lt.of []),b5H,b4t⟩ 150 38 (i5 0 [D6]) [] 0) TT.ret=a5w:=by kernel_rfl
theorem a9T:a5w.low 1000=true:=by kernel_rfl
def a7t:TT i8:=
(.ite (.cmp .lss (.var 0) (.lit 0))
 (.ret ((.v (.one (.z (.bool (.lit false))))),[],1))
 (.ite (.cmp .gtr (.var 0) (.lit 1000))
 (.ret ((.v (.one (.z (.bool (.lit false))))),[],1))
 (.ite (.cmp .eql (.len (.var 1)) (.lit 0))
 (.loop 0 2000 ⟨[(0,(.var 0)),(1,(.lit 0))],[],[]⟩
 (.ite (.cmp .lss (.var 2001) (.len (.var 1)))
 (.ob (.tru (.cmp .leq (.lit 0) (.var 2001)))
 (.ob (.tru (.cmp .lss (.var 2001) (.len (.var 1))))
 (.ite (.cmp .leq (.rd (.var 1) (.var 2001) 2) (.var 2000))
 (.ret ((.v (.one (.z (.bool (.lit false))))),[],3))
 (.ite (.cmp .geq (.rd (.var 1) (.var 2001) 2) (.ar .add .i64 (.var 0) (.lit 4)))
 (.ret ((.v (.one (.z (.bool (.lit false))))),[],3))
 (.next 0 ⟨[(0,(.rd (.var 1) (.var 2001) 2)),(1,(.ar .add .i64 (.var 2001) (.lit 1)))],[],[]⟩)))))
 (.ret ((.v (.one (.z (.bool (.lit true))))),[],3))))
 (.ob (.tru (.lit true))
 (.ob (.tru (.cmp .lss (.lit 0) (.len (.var 1))))
 (.ob (.tru (.lit true))
 (.ob (.tru (.cmp .lss (.lit 0) (.len (.var 1))))
 (.ite (.not (.fn 201 (.x (.var 1) (.i (.rd (.var 1) (.lit 0) 0) (.i (.rd (.var 1) (.lit 0) 1) .nil)))))
 (.ret ((.v (.one (.z (.bool (.lit false))))),[],1))
 (.loop 0 2000 ⟨[(0,(.var 0)),(1,(.lit 0))],[],[]⟩
 (.ite (.cmp .lss (.var 2001) (.len (.var 1)))
 (.ob (.tru (.cmp .leq (.lit 0) (.var 2001)))
 (.ob (.tru (.cmp .lss (.var 2001) (.len (.var 1))))
 (.ite (.cmp .leq (.rd (.var 1) (.var 2001) 2) (.var 2000))
 (.ret ((.v (.one (.z (.bool (.lit false))))),[],3))
 (.ite (.cmp .geq (.rd (.var 1) (.var 2001) 2) (.ar .add .i64 (.var 0) (.lit 4)))
 (.ret ((.v (.one (.z (.bool (.lit false))))),[],3))
 (.next 0 ⟨[(0,(.rd (.var 1) (.var 2001) 2)),(1,(.ar .add .i64 (.var 2001) (.lit 1)))],[],[]⟩)))))
 (.ret ((.v (.one (.z (.bool (.lit true))))),[],3))))))))))))
def b8w:List (Nat×St):=[
(1,⟨(List.append [(.v (.agg [(.z (.int .i64 (.var 0))),(.z (.ext s8 (.var 1) false))])),(.v (.one (.z (.ptr 0 0)))),(.v (.one (.z (.bool (.lit false))))),(.v (.one (.z (.int .i64 (.var 2000))))),(.v (.one (.z .any))),(.v (.one (.z .any))),(.v (.one (.z (.ptr 0 0)))),(.v (.one (.z (.int .i64 (.var 0))))),(.v (.one (.z (.bool (.cmp .lss (.var 0) (.lit 0)))))),(.v (.one (.z (.bool (.lit false))))),(.v (.one (.z (.ptr 0 0)))),(.v (.one (.z (.int .i64 (.var 0))))),(.v (.one (.z (.bool (.cmp .gtr (.var 0) (.lit 1000)))))),(.v (.one (.z (.bool (.cmp .gtr (.var 0) (.lit 1000)))))),(.v (.one (.z (.bool (.lit false))))),(.v (.one (.z (.ptr 0 1)))),(.v (.one (.z (.ext s8 (.var 1) false)))),(.v (.one (.z (.bool (.lit true))))),(.v (.one (.z (.bool (.lit false))))),(.v (.one (.z (.bool (.lit false))))),(.v (.one (.z (.ptr 0 0)))),(.v (.one (.z (.int .i64 (.var 0))))),(.v (.one (.z (.ptr 0 1)))),(.v (.one (.z (.ext s8 (.var 1) false)))),(.v (.one (.z (.int .i64 (.len (.var 1)))))),(.v (.one (.z (.int .i64 (.var 2001)))))] (List.replicate 18 V.any)),[(0,(.cells 26 [(.z (.int .i64 (.var 0))),(.z (.ext s8 (.var 1) false))]))],2,[]⟩),
(1,⟨(List.append [(.v (.agg [(.z (.int .i64 (.var 0))),(.z (.ext s8 (.var 1) false))])),(.v (.one (.z (.ptr 0 0)))),(.v (.one (.z (.bool (.lit false))))),(.v (.one (.z (.int .i64 (.var 2000))))),(.v (.one (.z .any))),(.v (.one (.z .any))),(.v (.one (.z (.ptr 0 0)))),(.v (.one (.z (.int .i64 (.var 0))))),(.v (.one (.z (.bool (.cmp .lss (.var 0) (.lit 0)))))),(.v (.one (.z (.bool (.lit false))))),(.v (.one (.z (.ptr 0 0)))),(.v (.one (.z (.int .i64 (.var 0))))),(.v (.one (.z (.bool (.cmp .gtr (.var 0) (.lit 1000)))))),(.v (.one (.z (.bool (.cmp .gtr (.var 0) (.lit 1000)))))),(.v (.one (.z (.bool (.lit false))))),(.v (.one (.z (.ptr 0 1)))),(.v (.one (.z (.ext s8 (.var 1) false)))),(.v (.one (.z (.bool (.fn 201 (.x (.var 1) (.i (.rd (.var 1) (.lit 0) 0) (.i (.rd (.var 1) (.lit 0) 1) .nil)))))))),(.v (.one (.z (.bool (.not (.fn 201 (.x (.var 1) (.i (.rd (.var 1) (.lit 0) 0) (.i (.rd (.var 1) (.lit 0) 1) .nil))))))))),(.v (.one (.z (.bool (.not (.fn 201 (.x (.var 1) (.i (.rd (.var 1) (.lit 0) 0) (.i (.rd (.var 1) (.lit 0) 1) .nil))))))))),(.v (.one (.z (.ptr 0 0)))),(.v (.one (.z (.int .i64 (.var 0))))),(.v (.one (.z (.ptr 0 1)))),(.v (.one (.z (.ext s8 (.var 1) false)))),(.v (.one (.z (.int .i64 (.len (.var 1)))))),(.v (.one (.z (.int .i64 (.var 2001)))))] (List.replicate 18 V.any)),[(0,(.cells 26 [(.z (.int .i64 (.var 0))),(.z (.ext s8 (.var 1) false))]))],2,[]⟩)]
def b7f:List (FuncId×Nat×Nat×St):=[
]
set_option maxRecDepth 100000 in
theorem b4B:T.norm 0 (call Tryz.prog b2c ⟨Lt.un (Lt.of []),b8w,b7f⟩ 150 49 (i5 0 [D6]) [] 0) TT.ret=a7t:=by kernel_rfl
theorem b3H:a7t.low 1000=true:=by kernel_rfl
def G6(r:Rows):Bool:=decide (r.length=0)||K4 r (lg r 0 0) (lg r 0 1)
def a1A(q:Int)(r:Rows):Bool:=(decide (0≤q∧q≤1000∧(r.length:Int)≤1000-q)&&G6 r)&&decide (∀i,i<r.length→lg r i 2=q+i)
def b3E(g:Int)(r:Rows)(i:Nat):Int:=if i=0 then g else lg r (i-1:Nat) 2
def inB(g:Int)(r:Rows):Bool:=(decide (0≤g∧g≤1000)&&G6 r)&&decide (∀i,i<r.length→b3E g r i<lg r i 2∧lg r i 2<g+4)
def a7W(ds:List D):Bool:=a1A (a9 ds 0) (f8 ds 1)
def inL(ds:List D):Bool:=inB (a9 ds 0) (f8 ds 1)
theorem b5j(W:World)(ds l:List D):(g8 Q3 W ds).fb 201 l=Y9 l:=by simp only[g8,Q3]
theorem c2J:k8 Tryz.prog 38 [D6] (fun ds=> .bool (a7W ds)):=by
 refine GivesIf.all (i6 Q3 (by kernel_rfl) (fun ρ h=>a6c (Sees.of h 210)) (by kernel_rfl) b3i a9T (by decide) (fun W vals ds hr _=> ?_))
 have hlen:=(m7 (m8 hr) (j:=1) rfl).1
 have e:a7W ds=a1A (a9 ds 0) (f8 ds 1):=rfl
 simp only[a5w,g7,Nat.reduceBEq,Nat.reduceLT,Nat.reduceSub,b5j]
 rw[e]
 clear hr e
 generalize e1:f8 ds 1=r at*
 generalize e0:a9 ds 0=q at*
 have N:¬(0≤q∧q≤1000∧(r.length:Int)≤1000-q)→Value.bool false=Value.bool (a1A q r):=fun h=>by
  unfold a1A
  rw[decide_eq_false h,Bool.false_and,Bool.false_and]
 refine⟨fun h=>N (by omega),fun h0=>⟨fun h=>N (by omega),fun h1=> ?_⟩⟩
 rw[f9 (1000-q) (by omega) (by omega)]
 refine⟨fun h=>N (by omega),fun h2=> ?_⟩
 have F:¬G6 r=true→Value.bool false=Value.bool (a1A q r):=fun h=>by
  unfold a1A
  rw[Bool.eq_false_iff.2 h,Bool.and_false,Bool.false_and]
 have E:G6 r=true→a1A q r=decide (∀i,i<r.length→lg r i 2=q+i):=fun h=>by
  unfold a1A
  rw[decide_eq_true (by omega),h,Bool.true_and,Bool.true_and]
 have A0:r.length=0→G6 r=true:=fun h=>by unfold G6;rw[decide_eq_true h,Bool.true_or]
 have A1:r.length≠0→G6 r=K4 r (lg r 0 0) (lg r 0 1):=fun h=>by unfold G6;rw[decide_eq_false h,Bool.false_or]
 have hO:∀a b,Y9 [.l r,.i a,.i b]=K4 r a b:=fun _ _=>rfl
 simp only[hO]
 refine⟨fun h3=> ?_,fun h3=>⟨by omega,by omega,fun h4=>F (by rw[A1 (by omega),h4];decide),fun h4=> ?_⟩⟩
 all_goals
  have hA:G6 r=true:=by first | exact A0 (by omega) | (rw[A1 (by omega)];assumption)
  rw[E hA]
  clear F E A0 A1 hO
  refine TT.sat_loop (fun v=>∃i:Nat,v.i 0=i∧i≤r.length∧∀k:Nat,k<i→lg r k 2=q+k) (fun v=>r.length-(v.i 0).toNat)
   ⟨0,by simp [o6,j6,E.ev],by omega,fun k h=>by omega⟩ (fun v hv=> ?_)
  obtain⟨i,i0,i1,i2⟩:=hv
  simp only[g7,Nat.reduceBEq,Nat.reduceLT,Nat.reduceSub,i0,e0,e1]
  refine⟨fun hc=> ?_,fun hc=> ?_⟩
  ·rw[f9 ((i:Int)+1) (by omega) (by omega),f9 (q+(i:Int)) (by omega) (by omega)]
   refine⟨by omega,by omega,fun h=> ?_,fun h=>⟨⟨i+1,rfl,by omega,fun k hk=> ?_⟩,by omega⟩⟩
   ·rw[decide_eq_false (fun a=>h (a i (by omega)))]
   ·by_cases e:k=i
    ·subst e;omega
    ·exact i2 k (by omega)
  ·rw[decide_eq_true (fun k hk=>i2 k (by omega))]
theorem c4S:k8 Tryz.prog 49 [D6] (fun ds=> .bool (inL ds)):=by
 refine GivesIf.all (i6 Q3 (by kernel_rfl) (fun ρ h=>a6c (Sees.of h 210)) (by kernel_rfl) b4B b3H (by decide) (fun W vals ds hr _=> ?_))
 have hlen:=(m7 (m8 hr) (j:=1) rfl).1
 have e:inL ds=inB (a9 ds 0) (f8 ds 1):=rfl
 simp only[a7t,g7,Nat.reduceBEq,Nat.reduceLT,Nat.reduceSub,b5j]
 rw[e]
 clear hr e
 generalize e1:f8 ds 1=r at*
 generalize e0:a9 ds 0=g at*
 have N:¬(0≤g∧g≤1000)→Value.bool false=Value.bool (inB g r):=fun h=>by
  unfold inB
  rw[decide_eq_false h,Bool.false_and,Bool.false_and]
 refine⟨fun h=>N (by omega),fun h0=>⟨fun h=>N (by omega),fun h1=> ?_⟩⟩
 have F:¬G6 r=true→Value.bool false=Value.bool (inB g r):=fun h=>by
  unfold inB
  rw[Bool.eq_false_iff.2 h,Bool.and_false,Bool.false_and]
 have E:G6 r=true→inB g r=decide (∀i,i<r.length→b3E g r i<lg r i 2∧lg r i 2<g+4):=fun h=>by
  unfold inB
  rw[decide_eq_true (by omega),h,Bool.true_and,Bool.true_and]
 have A0:r.length=0→G6 r=true:=fun h=>by unfold G6;rw[decide_eq_true h,Bool.true_or]
 have A1:r.length≠0→G6 r=K4 r (lg r 0 0) (lg r 0 1):=fun h=>by unfold G6;rw[decide_eq_false h,Bool.false_or]
 have hO:∀a b,Y9 [.l r,.i a,.i b]=K4 r a b:=fun _ _=>rfl
 simp only[hO]
 refine⟨fun h3=> ?_,fun h3=>⟨by omega,by omega,fun h4=>F (by rw[A1 (by omega),h4];decide),fun h4=> ?_⟩⟩
 all_goals
  have hA:G6 r=true:=by first | exact A0 (by omega) | (rw[A1 (by omega)];assumption)
  rw[E hA]
  clear F E A0 A1 hO
  refine TT.sat_loop (fun v=>∃i:Nat,v.i 1=i∧i≤r.length∧v.i 0=b3E g r i∧∀k:Nat,k<i→b3E g r k<lg r k 2∧lg r k 2<g+4) (fun v=>r.length-(v.i 1).toNat)
   ⟨0,by simp [o6,j6,E.ev],by omega,e0,fun k h=>by omega⟩ (fun v hv=> ?_)
  obtain⟨i,i0,i1,ib,i2⟩:=hv
  simp only[g7,Nat.reduceBEq,Nat.reduceLT,Nat.reduceSub,i0,ib,e0,e1]
  refine⟨fun hc=> ?_,fun hc=> ?_⟩
  ·rw[f9 ((i:Int)+1) (by omega) (by omega),f9 (g+4) (by omega) (by omega)]
   refine⟨by omega,by omega,fun h=> ?_,fun h=>⟨fun h'=> ?_,fun h'=>⟨⟨i+1,rfl,by omega,rfl,fun k hk=> ?_⟩,by omega⟩⟩⟩
   ·rw[decide_eq_false (fun a=>by have:=a i (by omega);omega)]
   ·rw[decide_eq_false (fun a=>by have:=a i (by omega);omega)]
   ·by_cases e:k=i
    ·subst e;omega
    ·exact i2 k (by omega)
  ·rw[decide_eq_true (fun k hk=>i2 k (by omega))]
def Q4:Interp where
 fi n l:=Q3.fi n l
 fb n l:=match n with | 210=>a7W l | 211=>inL l | n=>Q3.fb n l
 fd _ _:=[]
theorem a0A{ρ:Env}(h:Sees ρ Q4 220):Sees ρ Q3 210:=h.trans (by decide) fun n l hn=>by
 refine⟨?_,?_⟩
 ·
  rfl
 ·
  simp only[Q4]
  split<;>first | omega | rfl
def a8O:=o9 [D6] fun al=> .ret (bV (bF 210 a7W al))
theorem a6i{ρ:Env}(h:Sees ρ Q4 220):i4 Tryz.prog ρ 38 a8O:=
 j4 c2J (fun _=>rfl) (fun al=>by simp only[iV,bV,V.s0,V.val,V2.val,S.val,S0.val,o8 (s:=210) (f:=a7W) (fun l=>by rw[(h 210 l (by decide)).2];simp only[Q4])];try rfl)
def b2I:=o9 [D6] fun al=> .ret (bV (bF 211 inL al))
theorem a7M{ρ:Env}(h:Sees ρ Q4 220):i4 Tryz.prog ρ 49 b2I:=
 j4 c4S (fun _=>rfl) (fun al=>by simp only[iV,bV,V.s0,V.val,V2.val,S.val,S0.val,o8 (s:=211) (f:=inL) (fun l=>by rw[(h 211 l (by decide)).2];simp only[Q4])];try rfl)
def c3e:Ct:=(38,a8O)::(49,b2I)::b2c
theorem c0P{ρ:Env}(h:Sees ρ Q4 220):CtOk Tryz.prog ρ c3e:= .cons (a6i h)<| .cons (a7M h)<|a6c (a0A h)
end Go.Proofs.YtbbjlleaofgddaaGreat
