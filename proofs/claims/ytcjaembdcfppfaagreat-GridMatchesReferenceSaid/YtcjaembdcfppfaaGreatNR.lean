/- NR, merged: TL7, L7, L8, TL9, L9. -/
import Derived.Test.YtcjaembdcfppfaaGreatNQ
import Derived.Test.YtcjaembdcfppfaaGreatNJ
set_option linter.unusedSimpArgs false
set_option linter.unusedVariables false
namespace Go.Proofs.YtcjaembdcfppfaaGreat
open Go.RowKit
def idl:Sh:= .one (.sl [.int .i64])
def b0b:TT j4:=
(.ite (.cmp .geq (.var 1) (.lit (-1000000)))
 (.ite (.cmp .leq (.var 1) (.lit 1000000))
 (.ite (.cmp .geq (.var 2) (.lit (-1000000)))
 (.ite (.not (.cmp .leq (.var 2) (.lit 1000000)))
 (.ret ((.tup [(.agg [(.z (.int .i64 (.lit 0))),(.z (.int .i64 (.lit 0))),(.z (.int .i64 (.lit 0))),(.z (.int .i64 (.lit 0))),(.z (.int .i64 (.lit 0))),(.z (.const (.slice none 0 0)))]),(.one (.z (.int .i64 (.lit 1))))]),[],4))
 (.ite (.cmp .lss (.var 3) (.lit 1))
 (.ret ((.tup [(.agg [(.z (.int .i64 (.lit 0))),(.z (.int .i64 (.lit 0))),(.z (.int .i64 (.lit 0))),(.z (.int .i64 (.lit 0))),(.z (.int .i64 (.lit 0))),(.z (.const (.slice none 0 0)))]),(.one (.z (.int .i64 (.lit 1))))]),[],4))
 (.ite (.cmp .gtr (.var 3) (.lit 100000))
 (.ret ((.tup [(.agg [(.z (.int .i64 (.lit 0))),(.z (.int .i64 (.lit 0))),(.z (.int .i64 (.lit 0))),(.z (.int .i64 (.lit 0))),(.z (.int .i64 (.lit 0))),(.z (.const (.slice none 0 0)))]),(.one (.z (.int .i64 (.lit 1))))]),[],4))
 (.ite (.cmp .lss (.var 4) (.lit 1))
 (.ret ((.tup [(.agg [(.z (.int .i64 (.lit 0))),(.z (.int .i64 (.lit 0))),(.z (.int .i64 (.lit 0))),(.z (.int .i64 (.lit 0))),(.z (.int .i64 (.lit 0))),(.z (.const (.slice none 0 0)))]),(.one (.z (.int .i64 (.lit 1))))]),[],4))
 (.ite (.cmp .gtr (.var 4) (.lit 64))
 (.ret ((.tup [(.agg [(.z (.int .i64 (.lit 0))),(.z (.int .i64 (.lit 0))),(.z (.int .i64 (.lit 0))),(.z (.int .i64 (.lit 0))),(.z (.int .i64 (.lit 0))),(.z (.const (.slice none 0 0)))]),(.one (.z (.int .i64 (.lit 1))))]),[],4))
 (.ite (.cmp .lss (.var 5) (.lit 1))
 (.ret ((.tup [(.agg [(.z (.int .i64 (.lit 0))),(.z (.int .i64 (.lit 0))),(.z (.int .i64 (.lit 0))),(.z (.int .i64 (.lit 0))),(.z (.int .i64 (.lit 0))),(.z (.const (.slice none 0 0)))]),(.one (.z (.int .i64 (.lit 1))))]),[],4))
 (.ite (.cmp .gtr (.var 5) (.lit 64))
 (.ret ((.tup [(.agg [(.z (.int .i64 (.lit 0))),(.z (.int .i64 (.lit 0))),(.z (.int .i64 (.lit 0))),(.z (.int .i64 (.lit 0))),(.z (.int .i64 (.lit 0))),(.z (.const (.slice none 0 0)))]),(.one (.z (.int .i64 (.lit 1))))]),[],4))
 (.ite (.cmp .leq (.ar .add .i64 (.var 1) (.ar .mul .i64 (.var 3) (.var 4))) (.lit 1000000))
 (.ite (.not (.cmp .leq (.ar .add .i64 (.var 2) (.ar .mul .i64 (.var 3) (.var 5))) (.lit 1000000)))
 (.ret ((.tup [(.agg [(.z (.int .i64 (.lit 0))),(.z (.int .i64 (.lit 0))),(.z (.int .i64 (.lit 0))),(.z (.int .i64 (.lit 0))),(.z (.int .i64 (.lit 0))),(.z (.const (.slice none 0 0)))]),(.one (.z (.int .i64 (.lit 1))))]),[],4))
 (.ite (.not (.fn 140 (.x (.var 0) .nil)))
 (.ret ((.tup [(.agg [(.z (.int .i64 (.lit 0))),(.z (.int .i64 (.lit 0))),(.z (.int .i64 (.lit 0))),(.z (.int .i64 (.lit 0))),(.z (.int .i64 (.lit 0))),(.z (.const (.slice none 0 0)))]),(.one (.z (.int .i64 (.lit 1))))]),[],4))
 (.loop 0 6000 ⟨[(0,(.lit 0)),(1,(.lit 0)),(1,(.lit 0))],[],[(2,.nil)]⟩
 (.ite (.cmp .lss (.var 6000) (.ar .mul .i64 (.var 4) (.var 5)))
 (.ob (.tru (.cmp .neq (.var 4) (.lit 0)))
 (.ob (.tru (.cmp .neq (.var 4) (.lit 0)))
 (.loop 1 14000 ⟨[(0,(.lit 100000)),(1,(.lit 0))],[],[]⟩
 (.ite (.cmp .lss (.var 14001) (.len (.var 0)))
 (.ob (.tru (.cmp .leq (.lit 0) (.var 14001)))
 (.ob (.tru (.cmp .lss (.var 14001) (.len (.var 0))))
 (.ob (.tru (.fn 211 (.i (.rd (.var 0) (.var 14001) 0) (.i (.rd (.var 0) (.var 14001) 1) (.i (.rd (.var 0) (.var 14001) 2) (.i (.rd (.var 0) (.var 14001) 3) (.i (.rd (.var 0) (.var 14001) 4) (.x (.rd (.var 0) (.var 14001) 5) (.i (.rd (.var 0) (.var 14001) 6) (.i (.rd (.var 0) (.var 14001) 7) (.x (.rd (.var 0) (.var 14001) 8) (.i (.lit 1) (.i (.lit 3) (.i (.lit 0) (.i (.lit 0) (.i (.lit 0) (.x (.app (.row (.i (.ar .add .i64 (.var 1) (.ar .mul .i64 (.ar .rem .i64 (.var 6000) (.var 4)) (.var 3))) (.i (.ar .add .i64 (.var 2) (.ar .mul .i64 (.ar .quo .i64 (.var 6000) (.var 4)) (.var 3))) .nil))) (.app (.row (.i (.ar .add .i64 (.ar .add .i64 (.var 1) (.ar .mul .i64 (.ar .rem .i64 (.var 6000) (.var 4)) (.var 3))) (.var 3)) (.i (.ar .add .i64 (.var 2) (.ar .mul .i64 (.ar .quo .i64 (.var 6000) (.var 4)) (.var 3))) .nil))) (.app (.row (.i (.ar .add .i64 (.ar .add .i64 (.var 1) (.ar .mul .i64 (.ar .rem .i64 (.var 6000) (.var 4)) (.var 3))) (.var 3)) (.i (.ar .add .i64 (.ar .add .i64 (.var 2) (.ar .mul .i64 (.ar .quo .i64 (.var 6000) (.var 4)) (.var 3))) (.var 3)) .nil))) (.app (.row (.i (.ar .add .i64 (.var 1) (.ar .mul .i64 (.ar .rem .i64 (.var 6000) (.var 4)) (.var 3))) (.i (.ar .add .i64 (.ar .add .i64 (.var 2) (.ar .mul .i64 (.ar .quo .i64 (.var 6000) (.var 4)) (.var 3))) (.var 3)) .nil))) .nil)))) (.i (.lit 0) (.i (.lit 0) (.x .nil .nil))))))))))))))))))))
 (.ite (.fn 210 (.i (.rd (.var 0) (.var 14001) 0) (.i (.rd (.var 0) (.var 14001) 1) (.i (.rd (.var 0) (.var 14001) 2) (.i (.rd (.var 0) (.var 14001) 3) (.i (.rd (.var 0) (.var 14001) 4) (.x (.rd (.var 0) (.var 14001) 5) (.i (.rd (.var 0) (.var 14001) 6) (.i (.rd (.var 0) (.var 14001) 7) (.x (.rd (.var 0) (.var 14001) 8) (.i (.lit 1) (.i (.lit 3) (.i (.lit 0) (.i (.lit 0) (.i (.lit 0) (.x (.app (.row (.i (.ar .add .i64 (.var 1) (.ar .mul .i64 (.ar .rem .i64 (.var 6000) (.var 4)) (.var 3))) (.i (.ar .add .i64 (.var 2) (.ar .mul .i64 (.ar .quo .i64 (.var 6000) (.var 4)) (.var 3))) .nil))) (.app (.row (.i (.ar .add .i64 (.ar .add .i64 (.var 1) (.ar .mul .i64 (.ar .rem .i64 (.var 6000) (.var 4)) (.var 3))) (.var 3)) (.i (.ar .add .i64 (.var 2) (.ar .mul .i64 (.ar .quo .i64 (.var 6000) (.var 4)) (.var 3))) .nil))) (.app (.row (.i (.ar .add .i64 (.ar .add .i64 (.var 1) (.ar .mul .i64 (.ar .rem .i64 (.var 6000) (.var 4)) (.var 3))) (.var 3)) (.i (.ar .add .i64 (.ar .add .i64 (.var 2) (.ar .mul .i64 (.ar .quo .i64 (.var 6000) (.var 4)) (.var 3))) (.var 3)) .nil))) (.app (.row (.i (.ar .add .i64 (.var 1) (.ar .mul .i64 (.ar .rem .i64 (.var 6000) (.var 4)) (.var 3))) (.i (.ar .add .i64 (.ar .add .i64 (.var 2) (.ar .mul .i64 (.ar .quo .i64 (.var 6000) (.var 4)) (.var 3))) (.var 3)) .nil))) .nil)))) (.i (.lit 0) (.i (.lit 0) (.x .nil .nil)))))))))))))))))))
 (.ob (.tru (.cmp .leq (.lit 0) (.var 14001)))
 (.ob (.tru (.cmp .lss (.var 14001) (.len (.var 0))))
 (.next 1 ⟨[(0,(.mn (.var 14000) (.rd (.var 0) (.var 14001) 6))),(1,(.ar .add .i64 (.var 14001) (.lit 1)))],[],[]⟩)))
 (.next 1 ⟨[(0,(.var 14000)),(1,(.ar .add .i64 (.var 14001) (.lit 1)))],[],[]⟩)))))
 (.ob (.tru (.cmp .leq (.len (.app (.var 6002) (.app (.row (.i (.var 14000) .nil)) .nil))) (.lit 1000000)))
 (.next 0 ⟨[(0,(.ar .add .i64 (.var 6000) (.lit 1))),(1,(.plus (.var 6001) (.lit 1))),(1,(.plus (.var 6001) (.lit 1)))],[],[(2,(.app (.var 6002) (.app (.row (.i (.var 14000) .nil)) .nil)))]⟩))))))
 (.ret ((.tup [(.agg [(.z (.int .i64 (.var 1))),(.z (.int .i64 (.var 2))),(.z (.int .i64 (.var 3))),(.z (.int .i64 (.var 4))),(.z (.int .i64 (.var 5))),(.z (.own 6 (.var 6001)))]),(.one (.z (.int .i64 (.lit 0))))]),[(6,(.own 3 [(.int .i64)] (.var 6002) (.var 6001)))],15))))))
 (.ret ((.tup [(.agg [(.z (.int .i64 (.lit 0))),(.z (.int .i64 (.lit 0))),(.z (.int .i64 (.lit 0))),(.z (.int .i64 (.lit 0))),(.z (.int .i64 (.lit 0))),(.z (.const (.slice none 0 0)))]),(.one (.z (.int .i64 (.lit 1))))]),[],4))))))))))
 (.ret ((.tup [(.agg [(.z (.int .i64 (.lit 0))),(.z (.int .i64 (.lit 0))),(.z (.int .i64 (.lit 0))),(.z (.int .i64 (.lit 0))),(.z (.int .i64 (.lit 0))),(.z (.const (.slice none 0 0)))]),(.one (.z (.int .i64 (.lit 1))))]),[],4)))
 (.ret ((.tup [(.agg [(.z (.int .i64 (.lit 0))),(.z (.int .i64 (.lit 0))),(.z (.int .i64 (.lit 0))),(.z (.int .i64 (.lit 0))),(.z (.int .i64 (.lit 0))),(.z (.const (.slice none 0 0)))]),(.one (.z (.int .i64 (.lit 1))))]),[],4)))
 (.ret ((.tup [(.agg [(.z (.int .i64 (.lit 0))),(.z (.int .i64 (.lit 0))),(.z (.int .i64 (.lit 0))),(.z (.int .i64 (.lit 0))),(.z (.int .i64 (.lit 0))),(.z (.const (.slice none 0 0)))]),(.one (.z (.int .i64 (.lit 1))))]),[],4)))
set_option maxRecDepth 100000 in
theorem b8c:T.norm 0 (call Tryz.prog b0l (Lt.of []) 200 11 (g7 0 [G4,pt,it,it,it]) [] 0) TT.ret=b0b:=by kernel_rfl
theorem b5j:b0b.low 1000=true:=by kernel_rfl
def a7t:TT j4:=
(.ite (.not (.fn 150 (.i (.var 0) (.i (.var 1) (.i (.var 2) (.i (.var 3) (.i (.var 4) (.x (.var 5) .nil))))))))
 (.ret ((.tup [(.one (.z (.int .i64 (.lit 0)))),(.one (.z (.int .i64 (.lit 1))))]),[],2))
 (.ite (.not (.fn 31 (.i (.var 6) (.i (.var 7) (.i (.var 8) (.i (.var 9) .nil))))))
 (.ret ((.tup [(.one (.z (.int .i64 (.lit 0)))),(.one (.z (.int .i64 (.lit 1))))]),[],2))
 (.ite (.not (.fn 51 (.i (.var 6) (.i (.var 7) (.i (.var 8) (.i (.var 9) (.i (.var 0) (.i (.ar .add .i64 (.var 0) (.ar .mul .i64 (.var 3) (.var 2))) (.i (.var 1) (.i (.ar .add .i64 (.var 1) (.ar .mul .i64 (.var 4) (.var 2))) .nil))))))))))
 (.ret ((.tup [(.one (.z (.int .i64 (.lit 0)))),(.one (.z (.int .i64 (.lit 3))))]),[],4))
 (.loop 0 5000 ⟨[(0,(.lit 100000)),(1,(.lit 0))],[],[]⟩
 (.ite (.cmp .lss (.var 5001) (.len (.var 5)))
 (.ob (.tru (.cmp .neq (.var 3) (.lit 0)))
 (.ob (.tru (.cmp .neq (.var 3) (.lit 0)))
 (.ite (.cmp .eql (.fn 41 (.i (.ar .add .i64 (.var 0) (.ar .mul .i64 (.ar .rem .i64 (.var 5001) (.var 3)) (.var 2))) (.i (.ar .add .i64 (.ar .add .i64 (.var 0) (.ar .mul .i64 (.ar .rem .i64 (.var 5001) (.var 3)) (.var 2))) (.var 2)) (.i (.ar .add .i64 (.var 1) (.ar .mul .i64 (.ar .quo .i64 (.var 5001) (.var 3)) (.var 2))) (.i (.ar .add .i64 (.ar .add .i64 (.var 1) (.ar .mul .i64 (.ar .quo .i64 (.var 5001) (.var 3)) (.var 2))) (.var 2)) (.i (.var 6) (.i (.var 7) (.i (.var 8) (.i (.var 9) .nil))))))))) (.lit 0))
 (.ob (.tru (.cmp .leq (.lit 0) (.var 5001)))
 (.ob (.tru (.cmp .lss (.var 5001) (.len (.var 5))))
 (.next 0 ⟨[(0,(.mn (.var 5000) (.rd (.var 5) (.var 5001) 0))),(1,(.ar .add .i64 (.var 5001) (.lit 1)))],[],[]⟩)))
 (.next 0 ⟨[(0,(.var 5000)),(1,(.ar .add .i64 (.var 5001) (.lit 1)))],[],[]⟩))))
 (.ret ((.tup [(.one (.z (.int .i64 (.var 5000)))),(.one (.z (.int .i64 (.lit 0))))]),[],8)))))))
set_option maxRecDepth 100000 in
theorem b5x:T.norm 0 (call Tryz.prog b0l (Lt.of []) 200 16 (g7 0 [l8,bx]) [] 0) TT.ret=a7t:=by kernel_rfl
theorem b4S:a7t.low 1000=true:=by kernel_rfl
def a7C:TT j4:=
(.ite (.cmp .neq (.len (.var 0)) (.len (.var 1)))
 (.ret ((.v (.one (.z (.bool (.lit false))))),[],0))
 (.loop 0 1000 ⟨[(0,(.lit 0))],[],[]⟩
 (.ite (.cmp .lss (.var 1000) (.len (.var 0)))
 (.ob (.tru (.cmp .leq (.lit 0) (.var 1000)))
 (.ob (.tru (.cmp .lss (.var 1000) (.len (.var 0))))
 (.ob (.tru (.cmp .leq (.lit 0) (.var 1000)))
 (.ob (.tru (.cmp .lss (.var 1000) (.len (.var 1))))
 (.ite (.cmp .neq (.rd (.var 0) (.var 1000) 0) (.rd (.var 1) (.var 1000) 0))
 (.ret ((.v (.one (.z (.bool (.lit false))))),[],1))
 (.next 0 ⟨[(0,(.ar .add .i64 (.var 1000) (.lit 1)))],[],[]⟩))))))
 (.ret ((.v (.one (.z (.bool (.lit true))))),[],1)))))
set_option maxRecDepth 100000 in
theorem b4V:T.norm 0 (call Tryz.prog b0l (Lt.of []) 200 19 (g7 0 [idl,idl]) [] 0) TT.ret=a7C:=by kernel_rfl
theorem b3T:a7C.low 1000=true:=by kernel_rfl
def a4I:TT j4:=
(.ite (.not (.and (.cmp .eql (.var 0) (.var 6)) (.cmp .eql (.var 1) (.var 7))))
 (.ret ((.v (.one (.z (.bool (.lit false))))),[],2))
 (.ite (.cmp .neq (.var 2) (.var 8))
 (.ret ((.v (.one (.z (.bool (.lit false))))),[],2))
 (.ite (.cmp .neq (.var 3) (.var 9))
 (.ret ((.v (.one (.z (.bool (.lit false))))),[],2))
 (.ite (.cmp .neq (.var 4) (.var 10))
 (.ret ((.v (.one (.z (.bool (.lit false))))),[],2))
 (.ite (.cmp .neq (.len (.var 5)) (.len (.var 11)))
 (.ret ((.v (.one (.z (.bool (.lit false))))),[],2))
 (.loop 0 3000 ⟨[(0,(.lit 0))],[],[]⟩
 (.ite (.cmp .lss (.var 3000) (.len (.var 5)))
 (.ob (.tru (.cmp .leq (.lit 0) (.var 3000)))
 (.ob (.tru (.cmp .lss (.var 3000) (.len (.var 5))))
 (.ob (.tru (.cmp .leq (.lit 0) (.var 3000)))
 (.ob (.tru (.cmp .lss (.var 3000) (.len (.var 11))))
 (.ite (.cmp .neq (.rd (.var 5) (.var 3000) 0) (.rd (.var 11) (.var 3000) 0))
 (.ret ((.v (.one (.z (.bool (.lit false))))),[],3))
 (.next 0 ⟨[(0,(.ar .add .i64 (.var 3000) (.lit 1)))],[],[]⟩))))))
 (.ret ((.v (.one (.z (.bool (.lit true))))),[],3)))))))))
set_option maxRecDepth 100000 in
theorem b2Y:T.norm 0 (call Tryz.prog b0l (Lt.of []) 200 12 (g7 0 [l8,l8]) [] 0) TT.ret=a4I:=by kernel_rfl
theorem b1v:a4I.low 1000=true:=by kernel_rfl
theorem b0U{A:Rows}(h:j6 A=true):G2 1 3 0 0 0 A 0 0 []=true:=by
 rw[a1a]
 unfold a4r
 exact⟨by omega,by omega,by omega,by omega,.inr (.inl ⟨.inl rfl,h,rfl,rfl,rfl,rfl⟩)⟩
theorem d1L{r:Rows}{f:Nat}{A:Rows}(hf:W6 r f=true)(hA:j6 A=true):a9Q r f A=y7 (lg r f 1) (lg r f 2) (lg r f 3) (lg r f 4) (lr r f 5) 3 0 0 0 A:=by
 have h9:Q7 (X7 r f A)=true:=by
  have:Q7 (X7 r f A)=(W6 r f&&G2 1 3 0 0 0 A 0 0 []):=rfl
  rw[this,hf,b0U hA];rfl
 unfold a9Q feE T3
 rw[h9]
 rfl
theorem d1N(W:World)(ds l:List D):(a9 C2 W ds).fb 31 l=S4 l:=by simp only[a9,C2,B7,B9,y6,B4,B3,w8,K82,W8,I9,R5,T2,L4,E6,L6,M0,F4,B8,KI,KH,KG,KF,KE,KD,KC,KB,KA,K9,K8,K7,K6,K5,K]
theorem d1n(W:World)(ds l:List D):(a9 C2 W ds).fb 51 l=H6 l:=by simp only[a9,C2,B7,B9,y6,B4,B3,w8,K82,W8,I9,R5,T2,L4,E6,L6,M0,F4,B8,KI,KH,KG,KF,KE,KD,KC,KB,KA,K9,K8,K7,K6,K5,K]
theorem c0B(W:World)(ds l:List D):(a9 C2 W ds).fi 41 l=a0J l:=by simp only[a9,C2,B7,B9,y6,B4,B3,w8,K82,W8,I9,R5,T2,L4,E6,L6,M0,F4,B8,KI,KH,KG,KF,KE,KD,KC,KB,KA,K9,K8,K7,K6,K5,K]
theorem c8P(W:World)(ds l:List D):(a9 C2 W ds).fb 140 l=M7 l:=by simp only[a9,C2,B7,B9,y6,B4,B3,w8]
theorem c8r(W:World)(ds l:List D):(a9 C2 W ds).fb 150 l=Z3 l:=by simp only[a9,C2,B7,B9,y6,B4,B3]
theorem c8K(W:World)(ds l:List D):(a9 C2 W ds).fb 210 l=a1O l:=by simp only[a9,C2]
theorem c9d(W:World)(ds l:List D):(a9 C2 W ds).fb 211 l=Q7 l:=by simp only[a9,C2]
set_option maxHeartbeats 2000000 in
theorem c9J:m8 Tryz.prog 16 [l8,bx] (fun ds=> .tuple #[.int .i64 (lsR ds),.int .i64 (lsE ds)]):=by
 refine GivesIf.all (i7 C2 (by kernel_rfl) (fun ρ h=>a3p (Sees.of h 230) (SeesD.of h 8)) (by kernel_rfl) b5x b4S (by decide) (fun W0 vals ds hr _=> ?_))
 have hR:lsR ds=if lsE ds=0 then lsN (a7 ds 0) (a7 ds 1) (a7 ds 2) (a7 ds 3).toNat (g8 (b9 ds 5)) (a7 ds 6) (a7 ds 7) (a7 ds 8) (a7 ds 9) ((a7 ds 3).toNat*(a7 ds 4).toNat) else 0:=rfl
 have hE:lsE ds=if lsO ds=true then(if lsW ds=true then 0 else 3) else 1:=rfl
 have hO:lsO ds=(F5 (a7 ds 0) (a7 ds 1) (a7 ds 2) (a7 ds 3) (a7 ds 4) (b9 ds 5)&&o8 (a7 ds 6) (a7 ds 7) (a7 ds 8) (a7 ds 9)):=rfl
 have hW:lsW ds=decide (a7 ds 0≤a7 ds 6∧a7 ds 7≤a7 ds 0+a7 ds 3*a7 ds 2∧a7 ds 1≤a7 ds 8∧a7 ds 9≤a7 ds 1+a7 ds 4*a7 ds 2):=rfl
 clear hr
 simp only[a7t,g9,Nat.reduceBEq,Nat.reduceLT,Nat.reduceSub,c8r,d1N,d1n,c0B,I5,a1V,b0O]
 generalize e0:a7 ds 0=x at*
 generalize e1:a7 ds 1=y at*
 generalize e2:a7 ds 2=s at*
 generalize e3:a7 ds 3=w at*
 generalize e4:a7 ds 4=h at*
 generalize e5:b9 ds 5=r at*
 generalize e6:a7 ds 6=b1 at*
 generalize e7:a7 ds 7=b2 at*
 generalize e8:a7 ds 8=b3 at*
 generalize e9:a7 ds 9=b4 at*
 have no:lsO ds=false→Value.tuple #[.int .i64 0,.int .i64 1]= .tuple #[.int .i64 (lsR ds),.int .i64 (lsE ds)]:=fun q=>by
  rw[q] at hE
  have hE:lsE ds=1:=hE
  rw[hE,if_neg (by decide)] at hR
  rw[hE,hR]
 refine⟨fun hg=>no (by rw[hO,hg,Bool.false_and]),fun hg=>⟨fun hb=>no (by rw[hO,hb,Bool.and_false]),fun hb=> ?_⟩⟩
 obtain⟨hf,hl,hcell⟩:=z9 hg
 have hok:lsO ds=true:=by rw[hO,hg,hb];rfl
 rw[if_pos hok] at hE
 have hf':=hf
 unfold s8 at hf
 have p1:=o5 (a:=w) (b:=s) (m:=64) (n:=100000) (by omega) (by omega) (by omega) (by omega)
 have p2:=o5 (a:=h) (b:=s) (m:=64) (n:=100000) (by omega) (by omega) (by omega) (by omega)
 have hfb:o8 x (x+w*s) y (y+h*s)=true:=by unfold o8;exact decide_eq_true (by omega)
 rw[b8 (w*s) (by omega) (by omega),b8 (h*s) (by omega) (by omega),b8 (x+w*s) (by omega) (by omega),b8 (y+h*s) (by omega) (by omega),hb,hfb]
 refine⟨fun q=> ?_,fun q=> ?_⟩
 ·have:lsW ds=false:=by rw[hW];simpa using q
  rw[this] at hE
  have hE:lsE ds=3:=hE
  rw[hE,if_neg (by decide)] at hR
  rw[hE,hR]
 have hwt:lsW ds=true:=by rw[hW];simpa using q
 rw[if_pos hwt] at hE
 rw[if_pos hE] at hR
 obtain⟨W,rfl⟩:=Int.eq_ofNat_of_zero_le (a:=w) (by omega)
 obtain⟨H,rfl⟩:=Int.eq_ofNat_of_zero_le (a:=h) (by omega)
 have hn:r.length=W*H:=by
  have:(r.length:Int)=((W*H:Nat):Int):=by rw[hl];simp
  omega
 simp only[Int.toNat_natCast] at hR
 have hWH:W*H≤64*64:=Nat.mul_le_mul (by omega) (by omega)
 have hbb:=hb
 unfold o8 at hbb
 have hbb:=of_decide_eq_true hbb
 have hWne:W≠0:=by omega
 refine TT.sat_loop (fun v=>∃c:Nat,v.i 1=c∧c≤W*H∧v.i 0=lsN x y s W (g8 r) b1 b2 b3 b4 c) (fun v=>W*H-(v.i 1).toNat)
  ⟨0,by simp [j5,i8,E.ev],by omega,by simp [j5,i8,E.ev,lsN]⟩ (fun v hv=> ?_)
 obtain⟨c,c0,c1,c2⟩:=hv
 simp only[g9,Nat.reduceBEq,Nat.reduceLT,Nat.reduceSub,c0,c2,e0,e1,e2,e3,e4,e5,e6,e7,e8,e9,c0B,hn]
 refine⟨fun hc=> ?_,fun hc=> ?_⟩
 ·have hcc:c<W*H:=by omega
  have hiW:c % W<W:=Nat.mod_lt _ (by omega)
  have hjH:c/W<H:=Nat.div_lt_of_lt_mul hcc
  obtain⟨s1,s2⟩:=Z1 (s:=s) (by omega) hiW
  obtain⟨s3,s4⟩:=Z1 (s:=s) (by omega) hjH
  have ex:x+((c % W:Nat):Int)*s=cX x s W c:=rfl
  have ey:y+((c/W:Nat):Int)*s=cY y s W c:=rfl
  have hcb:o8 (cX x s W c) (cX x s W c+s) (cY y s W c) (cY y s W c+s)=true:=by
   rw[←ex,←ey];unfold o8;exact decide_eq_true (by omega)
  have hm:=c1Z hcb hb
  have t1:(c:Int).tmod (W:Int)=((c % W:Nat):Int):=rfl
  have t2:IntKind.i64.wrap ((c:Int).tdiv (W:Int))=((c/W:Nat):Int):=y3 (n:=c/W) (Nat.le_trans (Nat.div_le_self _ _) (by omega))
  have x1:IntKind.i64.wrap ((c:Int)+1)=((c+1:Nat):Int):=by rw[b8 _ (by omega) (by omega)];omega
  rw[t2,t1,b8 (((c % W:Nat):Int)*s) (by omega) (by omega),b8 (((c/W:Nat):Int)*s) (by omega) (by omega),b8 (x+((c % W:Nat):Int)*s) (by omega) (by omega),b8 (y+((c/W:Nat):Int)*s) (by omega) (by omega),b8 (x+((c % W:Nat):Int)*s+s) (by omega) (by omega),b8 (y+((c/W:Nat):Int)*s+s) (by omega) (by omega),ex,ey,hm,x1,C6 (by omega)]
  have hs:lsN x y s W (g8 r) b1 b2 b3 b4 (c+1)=if mtC x y s W c b1 b2 b3 b4=true then min (lsN x y s W (g8 r) b1 b2 b3 b4 c) (Grid.at_ (g8 r) c) else lsN x y s W (g8 r) b1 b2 b3 b4 c:=rfl
  have hmu:W*H-((c+1:Nat):Int).toNat<W*H-(c:Int).toNat:=by rw[Int.toNat_natCast,Int.toNat_natCast];omega
  exact⟨by omega,by omega,fun q=>⟨by omega,by omega,⟨c+1,rfl,by omega,by rw[hs,if_pos q]⟩,hmu⟩,fun q=>⟨⟨c+1,rfl,by omega,by rw[hs,if_neg q]⟩,hmu⟩⟩
 ·have hcn:c=W*H:=by omega
  rw[hR,hE,hcn]
set_option maxHeartbeats 4000000 in
theorem d0O:B2 Tryz.prog 11 [G4,pt,it,it,it] [N6] (fun _=>True) (fun _ ds vs u=>∃v,vs=[v]∧u=mkV ds v):=by
 refine A4 C2 (by kernel_rfl) (fun ρ h=>a3p (Sees.of h 230) (SeesD.of h 8)) (by kernel_rfl) b8c b5j (by decide) (fun w0 vals ds hr _=> ?_)
 have hR:N6.rows ds=if R3 ds=true then g0 (mkL (b9 ds 0) (a7 ds 1) (a7 ds 2) (a7 ds 3) (a7 ds 4).toNat ((a7 ds 4).toNat*(a7 ds 5).toNat)) else []:=rfl
 have hV:∀v,mkV ds v=if R3 ds=true then X6 (a7 ds 1) (a7 ds 2) (a7 ds 3) (a7 ds 4) (a7 ds 5) v 0 else X6 0 0 0 0 0 v 1:=fun _=>rfl
 have hO:R3 ds=(decide (s8 (a7 ds 1) (a7 ds 2) (a7 ds 3) (a7 ds 4) (a7 ds 5))&&L7 (b9 ds 0)):=rfl
 have bad:∀ {ρ:Env} {ws:Mem},R3 ds=false→∃s' x',A0 ws N6.e N6.ks s'=some x'∧x'.ev ρ=N6.rows ds∧∀(σ:As) u,ρ.w=w0→(V.tup [.agg [.z (.int .i64 (.lit 0)),.z (.int .i64 (.lit 0)),.z (.int .i64 (.lit 0)),.z (.int .i64 (.lit 0)),.z (.int .i64 (.lit 0)),.z (.const (.slice none 0 0))],.one (.z (.int .i64 (.lit 1)))]).den ρ σ u→∃v,s'.den ρ σ v∧u=mkV ds v:=fun h=>by
  rw[h] at hR
  exact P4 (x:= .nil) rfl (by rw[hR];rfl) (fun v=>by rw[hV,h];rfl)
 clear hr
 simp only[b0b,g9,Nat.reduceBEq,Nat.reduceLT,Nat.reduceSub,c8P,b3Y]
 generalize e0:b9 ds 0=r at*
 generalize e1:a7 ds 1=x at*
 generalize e2:a7 ds 2=y at*
 generalize e3:a7 ds 3=s at*
 generalize e4:a7 ds 4=w at*
 generalize e5:a7 ds 5=h at*
 have N:¬s8 x y s w h→R3 ds=false:=fun q=>by rw[hO,decide_eq_false q];rfl
 refine⟨fun q1=>⟨fun q2=>⟨fun q3=>⟨fun q=>bad (N fun k=> ?_),fun q4=>⟨fun q=>bad (N fun k=>by unfold s8 at k;omega),fun q5=>⟨fun q=>bad (N fun k=>by unfold s8 at k;omega),fun q6=>⟨fun q=>bad (N fun k=>by unfold s8 at k;omega),fun q7=>⟨fun q=>bad (N fun k=>by unfold s8 at k;omega),fun q8=>⟨fun q=>bad (N fun k=>by unfold s8 at k;omega),fun q9=>⟨fun q=>bad (N fun k=>by unfold s8 at k;omega),fun q10=> ?_⟩⟩⟩⟩⟩⟩⟩,fun q=>bad (N fun k=> ?_)⟩,fun q=>bad (N fun k=> ?_)⟩,fun q=>bad (N fun k=> ?_)⟩
 ·unfold s8 at k
  have p2:=o5 (a:=h) (b:=s) (m:=64) (n:=100000) (by omega) (by omega) (by omega) (by omega)
  omega
 ·have p1:=o5 (a:=w) (b:=s) (m:=64) (n:=100000) (by omega) (by omega) (by omega) (by omega)
  have p2:=o5 (a:=h) (b:=s) (m:=64) (n:=100000) (by omega) (by omega) (by omega) (by omega)
  have p3:=o5 (a:=w) (b:=h) (m:=64) (n:=64) (by omega) (by omega) (by omega) (by omega)
  rw[Int.mul_comm s w,Int.mul_comm s h,b8 (w*s) (by omega) (by omega),b8 (h*s) (by omega) (by omega),b8 (x+w*s) (by omega) (by omega),b8 (y+h*s) (by omega) (by omega)]
  refine⟨fun g1=>⟨fun g=>bad (N fun k=>by unfold s8 at k;omega),fun g2=>⟨fun g=>bad (by rw[hO,g,Bool.and_false]),fun hl=> ?_⟩⟩,fun g=>bad (N fun k=>by unfold s8 at k;omega)⟩
  have hf:s8 x y s w h:=by unfold s8;omega
  have hok:R3 ds=true:=by rw[hO,decide_eq_true hf,hl];rfl
  rw[hok] at hR hV
  simp only[if_true] at hR hV
  obtain⟨W,rfl⟩:=Int.eq_ofNat_of_zero_le (a:=w) (by omega)
  obtain⟨H,rfl⟩:=Int.eq_ofNat_of_zero_le (a:=h) (by omega)
  simp only[Int.toNat_natCast] at hR
  have hWH:W*H≤64*64:=Nat.mul_le_mul (by omega) (by omega)
  obtain⟨h300,hfeat,_⟩:=c8B hl
  refine TT.sat_loop (fun v=>∃c:Nat,v.i 0=c∧c≤W*H∧v.d 2=g0 (mkL r x y s W c)) (fun v=>W*H-(v.i 0).toNat)
   ⟨0,by simp [j5,i8,E.ev],by omega,by simp [D4,i8,X.ev,mkL,g0]⟩ (fun v hv=> ?_)
  obtain⟨c,c0,c1,c2⟩:=hv
  have eWH:IntKind.i64.wrap ((W:Int)*(H:Int))=((W*H:Nat):Int):=by rw[←Int.natCast_mul];exact y3 (n:=W*H) (by omega)
  simp only[g9,Nat.reduceBEq,Nat.reduceLT,Nat.reduceSub,c0,c2,e0,e1,e2,e3,e4,e5,eWH]
  refine⟨fun hc=> ?_,fun hc=> ?_⟩
  ·have hcc:c<W*H:=by omega
   have hiW:c % W<W:=Nat.mod_lt _ (by omega)
   have hjH:c/W<H:=Nat.div_lt_of_lt_mul hcc
   obtain⟨s1,s2⟩:=Z1 (s:=s) (by omega) hiW
   obtain⟨s3,s4⟩:=Z1 (s:=s) (by omega) hjH
   have t1:(c:Int).tmod (W:Int)=((c % W:Nat):Int):=rfl
   have t2:IntKind.i64.wrap ((c:Int).tdiv (W:Int))=((c/W:Nat):Int):=y3 (n:=c/W) (Nat.le_trans (Nat.div_le_self _ _) (by omega))
   have wa:IntKind.i64.wrap (((c % W:Nat):Int)*s)=((c % W:Nat):Int)*s:=b8 _ (by omega) (by omega)
   have wb:IntKind.i64.wrap (((c/W:Nat):Int)*s)=((c/W:Nat):Int)*s:=b8 _ (by omega) (by omega)
   have wc:IntKind.i64.wrap (x+((c % W:Nat):Int)*s)=cX x s W c:=b8 _ (by omega) (by omega)
   have wd:IntKind.i64.wrap (y+((c/W:Nat):Int)*s)=cY y s W c:=b8 _ (by omega) (by omega)
   have we:IntKind.i64.wrap (cX x s W c+s)=cX x s W c+s:=by unfold cX;exact b8 _ (by omega) (by omega)
   have wf:IntKind.i64.wrap (cY y s W c+s)=cY y s W c+s:=by unfold cY;exact b8 _ (by omega) (by omega)
   have hb:o8 (cX x s W c) (cX x s W c+s) (cY y s W c) (cY y s W c+s)=true:=by unfold o8 cX cY;exact decide_eq_true (by omega)
   have hA:=c3g hb (by omega)
   have x6:IntKind.i64.wrap ((c:Int)+1)=((c+1:Nat):Int):=by rw[b8 _ (by omega) (by omega)];omega
   refine⟨by omega,by omega,?_⟩
   refine TT.sat_loop (fun t=>∃k:Nat,t.i 1=k∧k≤r.length∧t.i 0=mkD r (u5 (cX x s W c) (cY y s W c) s) k) (fun t=>r.length-(t.i 1).toNat)
    ⟨0,by simp [j5,i8,E.ev],by omega,by simp [j5,i8,E.ev,mkD]⟩ (fun t ht=> ?_)
   obtain⟨k,k0,k1,k2⟩:=ht
   simp only[g9,Nat.reduceBEq,Nat.reduceLT,Nat.reduceSub,c0,c2,k0,k2,e0,e1,e2,e3,e4,e5,c8K,c9d,t1,t2,wa,wb,wc,wd,we,wf,x6]
   refine⟨fun hk=> ?_,fun hk=> ?_⟩
   ·have hkl:k<r.length:=by omega
    have hT:=d1L (hfeat k hkl) hA
    have x2:IntKind.i64.wrap ((k:Int)+1)=((k+1:Nat):Int):=by rw[b8 _ (by omega) (by omega)];omega
    rw[x2]
    have hs:mkD r (u5 (cX x s W c) (cY y s W c) s) (k+1)=if lg r k 6<mkD r (u5 (cX x s W c) (cY y s W c) s) k∧a9Q r k (u5 (cX x s W c) (cY y s W c) s)=true then lg r k 6 else mkD r (u5 (cX x s W c) (cY y s W c) s) k:=rfl
    have hm:r.length-((k+1:Nat):Int).toNat<r.length-((k:Int)).toNat:=by rw[Int.toNat_natCast,Int.toNat_natCast];omega
    show _∧_∧(W6 r k&&G2 1 3 0 0 0 (u5 (cX x s W c) (cY y s W c) s) 0 0 [])=true∧(y7 (lg r k 1) (lg r k 2) (lg r k 3) (lg r k 4) (lr r k 5) 3 0 0 0 (u5 (cX x s W c) (cY y s W c) s)=true→_)∧(y7 (lg r k 1) (lg r k 2) (lg r k 3) (lg r k 4) (lr r k 5) 3 0 0 0 (u5 (cX x s W c) (cY y s W c) s)=false→_)
    rw[←hT]
    generalize u5 (cX x s W c) (cY y s W c) s=A at*
    refine⟨by omega,by omega,by rw[hfeat k hkl,b0U hA];rfl,fun q=>⟨by omega,by omega,⟨k+1,rfl,by omega,?_⟩,hm⟩,fun q=>⟨⟨k+1,rfl,by omega,?_⟩,hm⟩⟩
    ·rw[hs]
     by_cases z:lg r k 6<mkD r A k
     ·rw[if_pos ⟨z,q⟩];exact Int.min_eq_right (Int.le_of_lt z)
     ·rw[if_neg (fun y=>z y.1)];exact Int.min_eq_left (Int.not_lt.1 z)
    ·rw[hs,if_neg (fun z=>by rw[q] at z;exact absurd z.2 (by decide))]
   ·have hkl:k=r.length:=by omega
    rw[List.append_nil,K0,hkl,←b4Q r x y s W c,s7,b7v]
    exact⟨by omega,⟨c+1,rfl,by omega,rfl⟩,by rw[Int.toNat_natCast,Int.toNat_natCast];omega⟩
  ·have hcn:c=W*H:=by omega
   refine P4 (x:= .var 6002) (by kernel_rfl) ?_ (fun v'=> ?_)
   ·rw[hR]
    simp only[X.ev,x7,g9,Nat.reduceBEq,Nat.reduceLT,Nat.reduceSub,c2]
    rw[hcn]
   ·rw[hV]
    simp only[g9,Nat.reduceBEq,Nat.reduceLT,Nat.reduceSub,e1,e2,e3,e4,e5]
 all_goals
  unfold s8 at k
  have p1:=o5 (a:=w) (b:=s) (m:=64) (n:=100000) (by omega) (by omega) (by omega) (by omega)
  have p2:=o5 (a:=h) (b:=s) (m:=64) (n:=100000) (by omega) (by omega) (by omega) (by omega)
  omega
theorem c8N:GivesIf Tryz.prog 19 [idl,idl] (fun ds=>b8T ds=true) (fun _=> .bool true):=by
 refine i7 C2 (by kernel_rfl) (fun ρ h=>a3p (Sees.of h 230) (SeesD.of h 8)) (by kernel_rfl) b4V b3T (by decide) (fun W vals ds hr hok=> ?_)
 have hl:=d0l hr
 have e1:=a1G _ _ hok
 simp only[a7C,g9,Nat.reduceBEq,Nat.reduceLT,Nat.reduceSub,←e1]
 clear hr hok
 generalize e0:b9 ds 0=r at*
 refine⟨fun h=>absurd rfl h,fun _=> ?_⟩
 refine TT.sat_loop (fun v=>∃i:Nat,v.i 0=i∧i≤r.length) (fun v=>r.length-(v.i 0).toNat) ⟨0,by simp [j5,i8,E.ev],by omega⟩ (fun v hv=> ?_)
 obtain⟨i,i0,i1⟩:=hv
 simp only[g9,Nat.reduceBEq,Nat.reduceLT,Nat.reduceSub,i0,e0,←e1]
 refine⟨fun hc=> ?_,fun _=>trivial⟩
 rw[b8 ((i:Int)+1) (by omega) (by omega)]
 exact⟨by omega,by omega,by omega,by omega,fun h=>absurd rfl h,fun _=>⟨⟨i+1,rfl,by omega⟩,by omega⟩⟩
theorem c5r:GivesIf Tryz.prog 12 [l8,l8] (fun ds=>b4n ds=true) (fun _=> .bool true):=by
 refine i7 C2 (by kernel_rfl) (fun ρ h=>a3p (Sees.of h 230) (SeesD.of h 8)) (by kernel_rfl) b2Y b1v (by decide) (fun W vals ds hr hok=> ?_)
 have hl:=(N9 (C3 hr) (j:=5) rfl).1
 unfold b4n at hok
 obtain⟨h1,h2⟩:=Bool.and_eq_true_iff.1 hok
 have h1:=of_decide_eq_true h1
 have e1:=a1G _ _ h2
 simp only[a4I,g9,Nat.reduceBEq,Nat.reduceLT,Nat.reduceSub,←e1]
 clear hr hok h2
 generalize e0:b9 ds 5=r at*
 refine⟨fun q=>(q ⟨h1.1,h1.2.1⟩).elim,fun _=>⟨fun q=>absurd h1.2.2.1 q,fun _=>⟨fun q=>absurd h1.2.2.2.1 q,fun _=>⟨fun q=>absurd h1.2.2.2.2 q,fun _=>⟨fun h=>absurd rfl h,fun _=> ?_⟩⟩⟩⟩⟩
 refine TT.sat_loop (fun v=>∃i:Nat,v.i 0=i∧i≤r.length) (fun v=>r.length-(v.i 0).toNat) ⟨0,by simp [j5,i8,E.ev],by omega⟩ (fun v hv=> ?_)
 obtain⟨i,i0,i1⟩:=hv
 simp only[g9,Nat.reduceBEq,Nat.reduceLT,Nat.reduceSub,i0,e0,←e1]
 refine⟨fun hc=> ?_,fun _=>trivial⟩
 rw[b8 ((i:Int)+1) (by omega) (by omega)]
 exact⟨by omega,by omega,by omega,by omega,fun h=>absurd rfl h,fun _=>⟨⟨i+1,rfl,by omega⟩,by omega⟩⟩
section
variable {ρ:Env} (h:Sees ρ C2 230) (hd:SeesD ρ C2 8)
def b9m(a b c d e er:E)(nx:Nat):V:= .tup [.agg [.z (.int .i64 a),.z (.int .i64 b),.z (.int .i64 c),.z (.int .i64 d),.z (.int .i64 e),.z (.own nx (.lit 0))],.one (.z (.int .i64 er))]
theorem b1d{σ:As}{a b c d e er:E}{nx:Nat}{v:Value}(h:(S0.own nx (.lit 0)).den ρ σ v):(b9m a b c d e er nx).den ρ σ (X6 (a.ev ρ) (b.ev ρ) (c.ev ρ) (d.ev ρ) (e.ev ρ) v (er.ev ρ)):=
 ⟨[.agg #[.int .i64 (a.ev ρ),.int .i64 (b.ev ρ),.int .i64 (c.ev ρ),.int .i64 (d.ev ρ),.int .i64 (e.ev ρ),v],.int .i64 (er.ev ρ)],⟨⟨[.int .i64 (a.ev ρ),.int .i64 (b.ev ρ),.int .i64 (c.ev ρ),.int .i64 (d.ev ρ),.int .i64 (e.ev ρ),v],⟨rfl,rfl,rfl,rfl,rfl,h,trivial⟩,rfl⟩,rfl,trivial⟩,rfl⟩
def cMk:=a2O [G4,pt,it,it,it] N6 (fun _=>[]) fun al nx=>b9m (iF 220 mkX al) (iF 221 mkY al) (iF 222 mkS al) (iF 223 mkW al) (iF 224 mkH al) (iF 225 mkE al) nx
def cCo:=a2O [l8,it] F3 (fun _=>[]) fun al nx=>b9m (iF 214 coX al) (iF 215 coY al) (iF 216 coS al) (iF 217 coW al) (iF 218 coH al) (iF 219 coE al) nx
include h
theorem Y2{n:Nat}{f:List D→Int}(hn:n<230)(e:∀l,C2.fi n l=f l)(al:AL):(iF n f al).ev ρ=f (al.ev ρ):=k8 (fun l=>by rw[(h n l hn).1,e]) al
include hd
theorem c1e{f:FuncId}(g:B2 Tryz.prog f [G4,pt,it,it,it] [N6] (fun _=>True) (fun _ ds vs u=>∃v,vs=[v]∧u=mkV ds v)):i9 Tryz.prog ρ f cMk:=by
 refine a0A g (by decide) (fun al _=>trivial) (fun a=> ?_) (fun al nx σ' v hv=> ?_)
 ·show ρ.fd 6 a=mkR a
  exact(hd 6 a (by decide)).trans rfl
 ·rw[c9S,←Y2 h (n:=220) (f:=mkX) (by decide) (fun _=>rfl),←Y2 h (n:=221) (f:=mkY) (by decide) (fun _=>rfl),←Y2 h (n:=222) (f:=mkS) (by decide) (fun _=>rfl),←Y2 h (n:=223) (f:=mkW) (by decide) (fun _=>rfl),←Y2 h (n:=224) (f:=mkH) (by decide) (fun _=>rfl),←Y2 h (n:=225) (f:=mkE) (by decide) (fun _=>rfl)]
  exact b1d hv
theorem c0w{f:FuncId}(g:B2 Tryz.prog f [l8,it] [F3] (fun _=>True) (fun _ ds vs u=>∃v,vs=[v]∧u=coV ds v)):i9 Tryz.prog ρ f cCo:=by
 refine a0A g (by decide) (fun al _=>trivial) (fun a=> ?_) (fun al nx σ' v hv=> ?_)
 ·show ρ.fd 5 a=coR a
  exact(hd 5 a (by decide)).trans rfl
 ·rw[c9i,←Y2 h (n:=214) (f:=coX) (by decide) (fun _=>rfl),←Y2 h (n:=215) (f:=coY) (by decide) (fun _=>rfl),←Y2 h (n:=216) (f:=coS) (by decide) (fun _=>rfl),←Y2 h (n:=217) (f:=coW) (by decide) (fun _=>rfl),←Y2 h (n:=218) (f:=coH) (by decide) (fun _=>rfl),←Y2 h (n:=219) (f:=coE) (by decide) (fun _=>rfl)]
  exact b1d hv
theorem a7m{f:FuncId}{sh:List Sh}{l:NL}{ev:List D→Int}{n:Nat}(hn:n<230)(he:∀a,C2.fi n a=ev a)(hl:l.ks.all CK.flat=true)(hs:l.s<8)(hR:∀a,C2.fd l.s a=l.rows a)
 (g:B2 Tryz.prog f sh [l] (fun _=>True) (fun _ ds vs u=>∃v,vs=[v]∧u= .tuple #[v,.int .i64 (ev ds)])):i9 Tryz.prog ρ f (a2O sh l (fun _=>[]) fun al nx=> .tup [.one (.z (.own nx (.lit 0))),.one (w9 n ev al)]):=by
 refine a0A g hl (fun al _=>trivial) (fun a=>(hd l.s a hs).trans (hR a)) (fun al nx σ' v hv=> ?_)
 refine⟨[v,.int .i64 (ev (al.ev ρ))],⟨hv,?_,trivial⟩,rfl⟩
 show Value.int .i64 (ev (al.ev ρ))= .int .i64 ((iF n ev al).ev ρ)
 rw[Y2 h hn he]
omit hd
theorem b7T:i9 Tryz.prog ρ 16 a6w:=by
 refine j7 c9J (fun _=>rfl) (fun al=> ?_)
 simp only[V.val,V2.val,S.val,S0.val,w9,List.map_cons,List.map_nil,Y2 h (n:=192) (f:=lsR) (by decide) (fun _=>rfl),Y2 h (n:=193) (f:=lsE) (by decide) (fun _=>rfl)]
def c0i(n:Nat)(sh:List Sh):=u7 sh fun al=> .ob (.tru (.fn n al)) (.ret (bV (.lit true)))
theorem b4g{n:Nat}{q:List D→Bool}(hn:n<230)(e:∀l,C2.fb n l=q l){f:FuncId}{sh:List Sh}(g:GivesIf Tryz.prog f sh (fun ds=>q ds=true) (fun _=> .bool true)):i9 Tryz.prog ρ f (c0i n sh):=by
 refine C7 g (fun al v hv=> ?_)
 obtain⟨ho,hv⟩:=hv
 obtain rfl:=c9 hv
 refine⟨rfl,?_,rfl⟩
 have h1:(B.fn n al).ev ρ=true:=ho
 simp only[B.ev] at h1
 rw[(h n _ hn).2,e] at h1
 exact h1
end
def d1C:Ct:=(10,cMk)::(11,cMk)::(13,cCo)::(14,cCo)::(16,a6w)::(18,b0u)::(21,a9E)::(23,b3C)::(19,c0i 212 [idl,idl])::(12,c0i 213 [l8,l8])::b0l
theorem c9f{ρ:Env}(h:Sees ρ C2 230)(hd:SeesD ρ C2 8):CtOk Tryz.prog ρ d1C:=
 .cons (c1e h hd c6u)<| .cons (c1e h hd d0O)<| .cons (c0w h hd b7s)<| .cons (c0w h hd c5S)<| .cons (b7T h)<|
  .cons (a7m h hd (n:=160) (by decide) (fun _=>rfl) (by decide) (by decide) (fun _=>rfl) c9W)<| .cons (a7m h hd (n:=160) (by decide) (fun _=>rfl) (by decide) (by decide) (fun _=>rfl) c9e)<| .cons (a7m h hd (n:=161) (by decide) (fun _=>rfl) (by decide) (by decide) (fun _=>rfl) d1U)<|
  .cons (b4g h (n:=212) (by decide) (fun _=>rfl) c8N)<| .cons (b4g h (n:=213) (by decide) (fun _=>rfl) c5r)<|a3p h hd
end Go.Proofs.YtcjaembdcfppfaaGreat
namespace Go.Proofs.YtcjaembdcfppfaaGreat
open Go.RowKit
def a6W:TT j4:=
(.ite (.cmp .leq (.len (.var 0)) (.lit 8))
 (.ite (.cmp .leq (.var 4) (.lit 12))
 (.ite (.not (.cmp .leq (.var 5) (.lit 12)))
 (.ret ((.v (.one (.z (.bool (.lit true))))),[],3))
 (.ite (.cmp .leq (.var 9) (.lit 12))
 (.ite (.not (.cmp .leq (.var 10) (.lit 12)))
 (.ret ((.v (.one (.z (.bool (.lit true))))),[],3))
 (.ob (.tru (.fn 213 (.i (.fn 220 (.x (.var 0) (.i (.var 1) (.i (.var 2) (.i (.var 3) (.i (.var 4) (.i (.var 5) .nil))))))) (.i (.fn 221 (.x (.var 0) (.i (.var 1) (.i (.var 2) (.i (.var 3) (.i (.var 4) (.i (.var 5) .nil))))))) (.i (.fn 222 (.x (.var 0) (.i (.var 1) (.i (.var 2) (.i (.var 3) (.i (.var 4) (.i (.var 5) .nil))))))) (.i (.fn 223 (.x (.var 0) (.i (.var 1) (.i (.var 2) (.i (.var 3) (.i (.var 4) (.i (.var 5) .nil))))))) (.i (.fn 224 (.x (.var 0) (.i (.var 1) (.i (.var 2) (.i (.var 3) (.i (.var 4) (.i (.var 5) .nil))))))) (.x (.fn 6 (.x (.var 0) (.i (.var 1) (.i (.var 2) (.i (.var 3) (.i (.var 4) (.i (.var 5) .nil))))))) (.i (.fn 220 (.x (.var 0) (.i (.var 1) (.i (.var 2) (.i (.var 3) (.i (.var 4) (.i (.var 5) .nil))))))) (.i (.fn 221 (.x (.var 0) (.i (.var 1) (.i (.var 2) (.i (.var 3) (.i (.var 4) (.i (.var 5) .nil))))))) (.i (.fn 222 (.x (.var 0) (.i (.var 1) (.i (.var 2) (.i (.var 3) (.i (.var 4) (.i (.var 5) .nil))))))) (.i (.fn 223 (.x (.var 0) (.i (.var 1) (.i (.var 2) (.i (.var 3) (.i (.var 4) (.i (.var 5) .nil))))))) (.i (.fn 224 (.x (.var 0) (.i (.var 1) (.i (.var 2) (.i (.var 3) (.i (.var 4) (.i (.var 5) .nil))))))) (.x (.fn 6 (.x (.var 0) (.i (.var 1) (.i (.var 2) (.i (.var 3) (.i (.var 4) (.i (.var 5) .nil))))))) .nil))))))))))))))
 (.ob (.tru (.fn 213 (.i (.fn 214 (.i (.var 6) (.i (.var 7) (.i (.var 8) (.i (.var 9) (.i (.var 10) (.x (.var 11) (.i (.var 12) .nil)))))))) (.i (.fn 215 (.i (.var 6) (.i (.var 7) (.i (.var 8) (.i (.var 9) (.i (.var 10) (.x (.var 11) (.i (.var 12) .nil)))))))) (.i (.fn 216 (.i (.var 6) (.i (.var 7) (.i (.var 8) (.i (.var 9) (.i (.var 10) (.x (.var 11) (.i (.var 12) .nil)))))))) (.i (.fn 217 (.i (.var 6) (.i (.var 7) (.i (.var 8) (.i (.var 9) (.i (.var 10) (.x (.var 11) (.i (.var 12) .nil)))))))) (.i (.fn 218 (.i (.var 6) (.i (.var 7) (.i (.var 8) (.i (.var 9) (.i (.var 10) (.x (.var 11) (.i (.var 12) .nil)))))))) (.x (.fn 5 (.i (.var 6) (.i (.var 7) (.i (.var 8) (.i (.var 9) (.i (.var 10) (.x (.var 11) (.i (.var 12) .nil)))))))) (.i (.fn 214 (.i (.var 6) (.i (.var 7) (.i (.var 8) (.i (.var 9) (.i (.var 10) (.x (.var 11) (.i (.var 12) .nil)))))))) (.i (.fn 215 (.i (.var 6) (.i (.var 7) (.i (.var 8) (.i (.var 9) (.i (.var 10) (.x (.var 11) (.i (.var 12) .nil)))))))) (.i (.fn 216 (.i (.var 6) (.i (.var 7) (.i (.var 8) (.i (.var 9) (.i (.var 10) (.x (.var 11) (.i (.var 12) .nil)))))))) (.i (.fn 217 (.i (.var 6) (.i (.var 7) (.i (.var 8) (.i (.var 9) (.i (.var 10) (.x (.var 11) (.i (.var 12) .nil)))))))) (.i (.fn 218 (.i (.var 6) (.i (.var 7) (.i (.var 8) (.i (.var 9) (.i (.var 10) (.x (.var 11) (.i (.var 12) .nil)))))))) (.x (.fn 5 (.i (.var 6) (.i (.var 7) (.i (.var 8) (.i (.var 9) (.i (.var 10) (.x (.var 11) (.i (.var 12) .nil)))))))) .nil))))))))))))))
 (.ob (.tru (.fn 212 (.x (.fn 4 (.i (.var 6) (.i (.var 7) (.i (.var 8) (.i (.var 9) (.i (.var 10) (.x (.var 11) (.i (.var 17) .nil)))))))) (.x (.fn 4 (.i (.var 6) (.i (.var 7) (.i (.var 8) (.i (.var 9) (.i (.var 10) (.x (.var 11) (.i (.var 17) .nil)))))))) .nil))))
 (.ob (.tru (.fn 212 (.x (.fn 2 (.i (.var 6) (.i (.var 7) (.i (.var 8) (.i (.var 9) (.i (.var 10) (.x (.var 11) (.i (.var 17) .nil)))))))) (.x (.fn 2 (.i (.var 6) (.i (.var 7) (.i (.var 8) (.i (.var 9) (.i (.var 10) (.x (.var 11) (.i (.var 17) .nil)))))))) .nil))))
 (.ob (.tru (.fn 212 (.x (.fn 3 (.i (.var 6) (.i (.var 7) (.i (.var 8) (.i (.var 9) (.i (.var 10) (.x (.var 11) (.i (.var 17) (.i (.var 18) (.i (.var 19) .nil)))))))))) (.x (.fn 3 (.i (.var 6) (.i (.var 7) (.i (.var 8) (.i (.var 9) (.i (.var 10) (.x (.var 11) (.i (.var 17) (.i (.var 18) (.i (.var 19) .nil)))))))))) .nil))))
 (.ret ((.v (.one (.z (.bool (.lit true))))),[],15))))))))
 (.ret ((.v (.one (.z (.bool (.lit true))))),[],3))))
 (.ret ((.v (.one (.z (.bool (.lit true))))),[],3)))
 (.ret ((.v (.one (.z (.bool (.lit true))))),[],3)))
set_option maxRecDepth 100000 in
theorem b5z:T.norm 0 (call Tryz.prog d1C (Lt.of []) 200 3 (g7 0 [G4,pt,it,it,it,l8,it,bx,it,it,it]) [] 0) TT.ret=a6W:=by kernel_rfl
theorem b3g:a6W.low 1000=true:=by kernel_rfl
theorem c5n(a b c d e:Int)(r:Rows):b4n [.i a,.i b,.i c,.i d,.i e,.l r,.i a,.i b,.i c,.i d,.i e,.l r]=true:=by
 show(decide ((a=a∧b=b∧c=c∧d=d∧e=e))&&O8 r r)=true
 rw[a0h,decide_eq_true ⟨rfl,rfl,rfl,rfl,rfl⟩];rfl
theorem c4A(r:Rows):b8T [.l r,.l r]=true:=a0h r
theorem c8j(W:World)(ds l:List D):(a9 C2 W ds).fb 212 l=b8T l:=by simp only[a9,C2]
theorem c9k(W:World)(ds l:List D):(a9 C2 W ds).fb 213 l=b4n l:=by simp only[a9,C2]
theorem c0l:m8 Tryz.prog 3 [G4,pt,it,it,it,l8,it,bx,it,it,it] (fun _=> .bool true):=by
 refine GivesIf.all (i7 C2 (by kernel_rfl) (fun ρ h=>c9f (Sees.of h 230) (SeesD.of h 8)) (by kernel_rfl) b5z b3g (by decide) (fun W vals ds hr _=> ?_))
 simp only[a6W,g9,Nat.reduceBEq,Nat.reduceLT,Nat.reduceSub,c8j,c9k,c5n,c4A,implies_true,and_self]
end Go.Proofs.YtcjaembdcfppfaaGreat
