/- MV, merged: TEf, Ef, Eg, Gr, TEk, Ek, TEl, El, TEm, Em, TEh, Eh, En, TEs, Es. -/
import Derived.Test.YtcjaembdcfppfaaGreatMT
import Derived.Test.YtcjaembdcfppfaaGreatMK
import Derived.OwnWalk
import Derived.Maps.AppendAt
set_option linter.unusedSimpArgs false
set_option linter.unusedVariables false
namespace Go.Proofs.YtcjaembdcfppfaaGreat
open Go.RowKit
def a5h:TT j4:=
(.ite (.not (.fn 76 (.i (.var 0) (.i (.var 1) (.i (.var 2) (.i (.var 3) (.i (.var 4) (.x (.var 5) (.i (.var 6) (.i (.var 7) (.x (.var 8) .nil)))))))))))
 (.ret ((.tup [(.one (.z (.bool (.lit false)))),(.one (.z (.int .i64 (.lit 1))))]),[],2))
 (.ite (.not (.fn 76 (.i (.var 9) (.i (.var 10) (.i (.var 11) (.i (.var 12) (.i (.var 13) (.x (.var 14) (.i (.var 15) (.i (.var 16) (.x (.var 17) .nil)))))))))))
 (.ret ((.tup [(.one (.z (.bool (.lit false)))),(.one (.z (.int .i64 (.lit 1))))]),[],2))
 (.ite (.cmp .eql (.var 1) (.lit 4))
 (.ite (.cmp .eql (.var 10) (.lit 4))
 (.ret ((.tup [(.one (.z (.bool (.lit false)))),(.one (.z (.int .i64 (.lit 0))))]),[],5))
 (.ite (.cmp .eql (.var 10) (.lit 3))
 (.ite (.cmp .eql (.var 10) (.lit 3))
 (.ret ((.tup [(.one (.z (.bool (.lit false)))),(.one (.z (.int .i64 (.lit 0))))]),[],5))
 (.ret ((.tup [(.one (.z (.bool (.lit false)))),(.one (.z (.int .i64 (.lit 0))))]),[],5)))
 (.ite (.cmp .eql (.var 10) (.lit 6))
 (.ret ((.tup [(.one (.z (.bool (.lit false)))),(.one (.z (.int .i64 (.lit 0))))]),[],5))
 (.ret ((.tup [(.one (.z (.bool (.lit false)))),(.one (.z (.int .i64 (.lit 0))))]),[],5)))))
 (.ite (.cmp .eql (.var 1) (.lit 3))
 (.ite (.cmp .eql (.var 1) (.lit 3))
 (.ite (.cmp .eql (.var 10) (.lit 4))
 (.ret ((.tup [(.one (.z (.bool (.lit false)))),(.one (.z (.int .i64 (.lit 0))))]),[],4))
 (.ite (.cmp .eql (.var 10) (.lit 3))
 (.ite (.cmp .eql (.var 10) (.lit 3))
 (.ite (.cmp .eql (.fn 112 (.x (.var 5) (.x (.var 14) .nil))) (.lit 0))
 (.ret ((.tup [(.one (.z (.bool (.fn 112 (.x (.var 5) (.x (.var 14) .nil)))))),(.one (.z (.int .i64 (.lit 0))))]),[],4))
 (.ret ((.tup [(.one (.z (.bool (.lit false)))),(.one (.z (.int .i64 (.lit 0))))]),[],4)))
 (.ite (.cmp .eql (.fn 114 (.x (.var 5) (.i (.var 11) (.i (.var 12) (.i (.var 13) .nil))))) (.lit 0))
 (.ret ((.tup [(.one (.z (.bool (.cmp .geq (.fn 113 (.x (.var 5) (.i (.var 11) (.i (.var 12) (.i (.var 13) .nil))))) (.lit 0))))),(.one (.z (.int .i64 (.lit 0))))]),[],5))
 (.ret ((.tup [(.one (.z (.bool (.lit false)))),(.one (.z (.int .i64 (.lit 0))))]),[],5))))
 (.ite (.cmp .eql (.var 10) (.lit 6))
 (.ite (.cmp .eql (.fn 112 (.x (.var 5) (.x (.var 14) .nil))) (.lit 0))
 (.ret ((.tup [(.one (.z (.bool (.fn 112 (.x (.var 5) (.x (.var 14) .nil)))))),(.one (.z (.int .i64 (.lit 0))))]),[],4))
 (.ret ((.tup [(.one (.z (.bool (.lit false)))),(.one (.z (.int .i64 (.lit 0))))]),[],4)))
 (.ite (.cmp .eql (.fn 114 (.x (.var 5) (.i (.var 11) (.i (.var 12) (.i (.var 13) .nil))))) (.lit 0))
 (.ret ((.tup [(.one (.z (.bool (.cmp .geq (.fn 113 (.x (.var 5) (.i (.var 11) (.i (.var 12) (.i (.var 13) .nil))))) (.lit 0))))),(.one (.z (.int .i64 (.lit 0))))]),[],5))
 (.ret ((.tup [(.one (.z (.bool (.lit false)))),(.one (.z (.int .i64 (.lit 0))))]),[],5))))))
 (.ite (.cmp .eql (.var 10) (.lit 4))
 (.ret ((.tup [(.one (.z (.bool (.lit false)))),(.one (.z (.int .i64 (.lit 0))))]),[],5))
 (.ite (.cmp .eql (.var 10) (.lit 3))
 (.ite (.cmp .eql (.var 10) (.lit 3))
 (.ite (.cmp .eql (.fn 114 (.x (.var 14) (.i (.var 2) (.i (.var 3) (.i (.var 4) .nil))))) (.lit 0))
 (.ret ((.tup [(.one (.z (.bool (.cmp .geq (.fn 113 (.x (.var 14) (.i (.var 2) (.i (.var 3) (.i (.var 4) .nil))))) (.lit 0))))),(.one (.z (.int .i64 (.lit 0))))]),[],6))
 (.ret ((.tup [(.one (.z (.bool (.lit false)))),(.one (.z (.int .i64 (.lit 0))))]),[],6)))
 (.ite (.cmp .eql (.fn 13 (.i (.var 11) (.i (.var 12) (.i (.var 2) (.i (.var 3) (.i (.var 2) (.i (.var 3) (.i (.ar .add .i64 (.var 13) (.var 4)) .nil)))))))) (.lit 0))
 (.ret ((.tup [(.one (.z (.bool (.fn 7 (.i (.var 11) (.i (.var 12) (.i (.var 2) (.i (.var 3) (.i (.var 2) (.i (.var 3) (.i (.ar .add .i64 (.var 13) (.var 4)) .nil))))))))))),(.one (.z (.int .i64 (.lit 0))))]),[],6))
 (.ret ((.tup [(.one (.z (.bool (.lit false)))),(.one (.z (.int .i64 (.lit 0))))]),[],6))))
 (.ite (.cmp .eql (.var 10) (.lit 6))
 (.ite (.cmp .eql (.fn 114 (.x (.var 14) (.i (.var 2) (.i (.var 3) (.i (.var 4) .nil))))) (.lit 0))
 (.ret ((.tup [(.one (.z (.bool (.cmp .geq (.fn 113 (.x (.var 14) (.i (.var 2) (.i (.var 3) (.i (.var 4) .nil))))) (.lit 0))))),(.one (.z (.int .i64 (.lit 0))))]),[],6))
 (.ret ((.tup [(.one (.z (.bool (.lit false)))),(.one (.z (.int .i64 (.lit 0))))]),[],6)))
 (.ite (.cmp .eql (.fn 13 (.i (.var 11) (.i (.var 12) (.i (.var 2) (.i (.var 3) (.i (.var 2) (.i (.var 3) (.i (.ar .add .i64 (.var 13) (.var 4)) .nil)))))))) (.lit 0))
 (.ret ((.tup [(.one (.z (.bool (.fn 7 (.i (.var 11) (.i (.var 12) (.i (.var 2) (.i (.var 3) (.i (.var 2) (.i (.var 3) (.i (.ar .add .i64 (.var 13) (.var 4)) .nil))))))))))),(.one (.z (.int .i64 (.lit 0))))]),[],6))
 (.ret ((.tup [(.one (.z (.bool (.lit false)))),(.one (.z (.int .i64 (.lit 0))))]),[],6)))))))
 (.ite (.cmp .eql (.var 1) (.lit 6))
 (.ite (.cmp .eql (.var 10) (.lit 4))
 (.ret ((.tup [(.one (.z (.bool (.lit false)))),(.one (.z (.int .i64 (.lit 0))))]),[],4))
 (.ite (.cmp .eql (.var 10) (.lit 3))
 (.ite (.cmp .eql (.var 10) (.lit 3))
 (.ite (.cmp .eql (.fn 112 (.x (.var 5) (.x (.var 14) .nil))) (.lit 0))
 (.ret ((.tup [(.one (.z (.bool (.fn 112 (.x (.var 5) (.x (.var 14) .nil)))))),(.one (.z (.int .i64 (.lit 0))))]),[],4))
 (.ret ((.tup [(.one (.z (.bool (.lit false)))),(.one (.z (.int .i64 (.lit 0))))]),[],4)))
 (.ite (.cmp .eql (.fn 114 (.x (.var 5) (.i (.var 11) (.i (.var 12) (.i (.var 13) .nil))))) (.lit 0))
 (.ret ((.tup [(.one (.z (.bool (.cmp .geq (.fn 113 (.x (.var 5) (.i (.var 11) (.i (.var 12) (.i (.var 13) .nil))))) (.lit 0))))),(.one (.z (.int .i64 (.lit 0))))]),[],5))
 (.ret ((.tup [(.one (.z (.bool (.lit false)))),(.one (.z (.int .i64 (.lit 0))))]),[],5))))
 (.ite (.cmp .eql (.var 10) (.lit 6))
 (.ite (.cmp .eql (.fn 112 (.x (.var 5) (.x (.var 14) .nil))) (.lit 0))
 (.ret ((.tup [(.one (.z (.bool (.fn 112 (.x (.var 5) (.x (.var 14) .nil)))))),(.one (.z (.int .i64 (.lit 0))))]),[],4))
 (.ret ((.tup [(.one (.z (.bool (.lit false)))),(.one (.z (.int .i64 (.lit 0))))]),[],4)))
 (.ite (.cmp .eql (.fn 114 (.x (.var 5) (.i (.var 11) (.i (.var 12) (.i (.var 13) .nil))))) (.lit 0))
 (.ret ((.tup [(.one (.z (.bool (.cmp .geq (.fn 113 (.x (.var 5) (.i (.var 11) (.i (.var 12) (.i (.var 13) .nil))))) (.lit 0))))),(.one (.z (.int .i64 (.lit 0))))]),[],5))
 (.ret ((.tup [(.one (.z (.bool (.lit false)))),(.one (.z (.int .i64 (.lit 0))))]),[],5))))))
 (.ite (.cmp .eql (.var 10) (.lit 4))
 (.ret ((.tup [(.one (.z (.bool (.lit false)))),(.one (.z (.int .i64 (.lit 0))))]),[],5))
 (.ite (.cmp .eql (.var 10) (.lit 3))
 (.ite (.cmp .eql (.var 10) (.lit 3))
 (.ite (.cmp .eql (.fn 114 (.x (.var 14) (.i (.var 2) (.i (.var 3) (.i (.var 4) .nil))))) (.lit 0))
 (.ret ((.tup [(.one (.z (.bool (.cmp .geq (.fn 113 (.x (.var 14) (.i (.var 2) (.i (.var 3) (.i (.var 4) .nil))))) (.lit 0))))),(.one (.z (.int .i64 (.lit 0))))]),[],6))
 (.ret ((.tup [(.one (.z (.bool (.lit false)))),(.one (.z (.int .i64 (.lit 0))))]),[],6)))
 (.ite (.cmp .eql (.fn 13 (.i (.var 11) (.i (.var 12) (.i (.var 2) (.i (.var 3) (.i (.var 2) (.i (.var 3) (.i (.ar .add .i64 (.var 13) (.var 4)) .nil)))))))) (.lit 0))
 (.ret ((.tup [(.one (.z (.bool (.fn 7 (.i (.var 11) (.i (.var 12) (.i (.var 2) (.i (.var 3) (.i (.var 2) (.i (.var 3) (.i (.ar .add .i64 (.var 13) (.var 4)) .nil))))))))))),(.one (.z (.int .i64 (.lit 0))))]),[],6))
 (.ret ((.tup [(.one (.z (.bool (.lit false)))),(.one (.z (.int .i64 (.lit 0))))]),[],6))))
 (.ite (.cmp .eql (.var 10) (.lit 6))
 (.ite (.cmp .eql (.fn 114 (.x (.var 14) (.i (.var 2) (.i (.var 3) (.i (.var 4) .nil))))) (.lit 0))
 (.ret ((.tup [(.one (.z (.bool (.cmp .geq (.fn 113 (.x (.var 14) (.i (.var 2) (.i (.var 3) (.i (.var 4) .nil))))) (.lit 0))))),(.one (.z (.int .i64 (.lit 0))))]),[],6))
 (.ret ((.tup [(.one (.z (.bool (.lit false)))),(.one (.z (.int .i64 (.lit 0))))]),[],6)))
 (.ite (.cmp .eql (.fn 13 (.i (.var 11) (.i (.var 12) (.i (.var 2) (.i (.var 3) (.i (.var 2) (.i (.var 3) (.i (.ar .add .i64 (.var 13) (.var 4)) .nil)))))))) (.lit 0))
 (.ret ((.tup [(.one (.z (.bool (.fn 7 (.i (.var 11) (.i (.var 12) (.i (.var 2) (.i (.var 3) (.i (.var 2) (.i (.var 3) (.i (.ar .add .i64 (.var 13) (.var 4)) .nil))))))))))),(.one (.z (.int .i64 (.lit 0))))]),[],6))
 (.ret ((.tup [(.one (.z (.bool (.lit false)))),(.one (.z (.int .i64 (.lit 0))))]),[],6)))))))))))
set_option maxRecDepth 100000 in
theorem b2K:T.norm 0 (call Tryz.prog c5D (Lt.of []) 100 35 (g7 0 [S6,S6]) [] 0) TT.ret=a5h:=by kernel_rfl
theorem b1w:a5h.low 1000=true:=by kernel_rfl
def d3f(a:Rows)(x y r:Int):Nat→Nat→Bool
 | 0,_=>true
 | f+1,i=>A9 (lg a i 0) (lg a i 1) x y x y r&&d3f a x y r f (i+1)
def c7V(k1 x1 y1 r1:Int)(a1:Rows)(k2 x2 y2 r2:Int)(a2:Rows):Bool:=
 if k1=4 then decide (k2=4)
 else if k1=3∨k1=6 then(if k2=4 then true else if k2=3∨k2=6 then hoX a1 a2 else decide (Q6 a1 x2 y2 r2=1))
 else(if k2=4 then true else if k2=3∨k2=6 then d3f a2 x1 y1 r1 a2.length 0 else c7a x2 y2 r2 x1 y1 r1)
def y7(k1 x1 y1 r1:Int)(a1:Rows)(k2 x2 y2 r2:Int)(a2:Rows):Bool:=
 if k1=4∨k2=4 then false
 else if k1=3∨k1=6 then(if k2=3∨k2=6 then S3 a1 a2 else decide (0≤Q6 a1 x2 y2 r2))
 else(if k2=3∨k2=6 then decide (0≤Q6 a2 x1 y1 r1) else A9 x2 y2 x1 y1 x1 y1 (r2+r1))
def Q7(ds:List D):Bool:=G2 (a7 ds 0) (a7 ds 1) (a7 ds 2) (a7 ds 3) (a7 ds 4) (b9 ds 5) (a7 ds 6) (a7 ds 7) (b9 ds 8)&&G2 (a7 ds 9) (a7 ds 10) (a7 ds 11) (a7 ds 12) (a7 ds 13) (b9 ds 14) (a7 ds 15) (a7 ds 16) (b9 ds 17)
def feE(ds:List D):Int:=if Q7 ds then 0 else 1
def d4J(ds:List D):Bool:=Q7 ds&&c7V (a7 ds 1) (a7 ds 2) (a7 ds 3) (a7 ds 4) (b9 ds 5) (a7 ds 10) (a7 ds 11) (a7 ds 12) (a7 ds 13) (b9 ds 14)
def T3(ds:List D):Bool:=Q7 ds&&y7 (a7 ds 1) (a7 ds 2) (a7 ds 3) (a7 ds 4) (b9 ds 5) (a7 ds 10) (a7 ds 11) (a7 ds 12) (a7 ds 13) (b9 ds 14)
theorem d0y(W:World)(ds l:List D):(a9 E6 W ds).fb 76 l=G1 l:=by simp only[a9,E6,L6,M0,F4,B8,KI,KH,KG,KF]
theorem c9C(W:World)(ds l:List D):(a9 E6 W ds).fb 112 l=J4 l:=by simp only[a9,E6,L6,M0,F4]
theorem c9V(W:World)(ds l:List D):(a9 E6 W ds).fi 112 l=O5 l:=by simp only[a9,E6,L6,M0,F4]
theorem c8i(W:World)(ds l:List D):(a9 E6 W ds).fi 113 l=G9 l:=by simp only[a9,E6,L6,M0,F4]
theorem c9R(W:World)(ds l:List D):(a9 E6 W ds).fi 114 l=M3 l:=by simp only[a9,E6,L6,M0,F4]
theorem d4t(W:World)(ds l:List D):(a9 E6 W ds).fb 7 l=P7 l:=by simp only[a9,E6,L6,M0,F4,B8,KI,KH,KG,KF,KE,KD,KC,KB,KA,K9,K8,K7,K6,K5,K]
theorem d1Q(W:World)(ds l:List D):(a9 E6 W ds).fi 13 l=X9 l:=by simp only[a9,E6,L6,M0,F4,B8,KI,KH,KG,KF,KE,KD,KC,KB,KA,K9,K8,K7,K6,K5,K]
section
variable {id1 k1 x1 y1 r1 d1 s1 id2 k2 x2 y2 r2 d2 s2:Int} {a1 t1 a2 t2:Rows}
theorem a2r(h:G2 id1 k1 x1 y1 r1 a1 d1 s1 t1=true)(hk:k1=3∨k1=6):j6 a1=true:=by
 have:=(a1a.mp h).2.2.2.2
 rcases this with q | q | q
 ·omega
 ·exact q.2.1
 ·omega
theorem a2q(h:G2 id1 k1 x1 y1 r1 a1 d1 s1 t1=true)(h3:k1≠3)(h6:k1≠6):f9 x1 y1=true∧0≤r1∧r1≤100000:=by
 obtain⟨_,_,_,hr,this⟩:=a1a.mp h
 rcases this with q | q | q
 ·exact⟨q.2.1,hr⟩
 ·omega
 ·exact⟨q.2.1,hr⟩
theorem c2X(h1:j6 a1=true)(h2:j6 a2=true):hoR [.l a1,.l a2]=hoX a1 a2∧J4 [.l a1,.l a2]=S3 a1 a2∧O5 [.l a1,.l a2]=0:=by
 have:a1s [.l a1,.l a2]=true:=by show(j6 a1&&j6 a2)=true;rw[h1,h2];rfl
 unfold hoR J4 O5
 rw[this]
 exact⟨rfl,rfl,rfl⟩
theorem a6A(h1:j6 a1=true)(h2:f9 x2 y2=true)(hr:0≤r2∧r2≤3000000):G9 [.l a1,.i x2,.i y2,.i r2]=Q6 a1 x2 y2 r2∧M3 [.l a1,.i x2,.i y2,.i r2]=0:=by
 have:U4 [.l a1,.i x2,.i y2,.i r2]=true:=by
  show(j6 a1&&f9 x2 y2&&A5 r2)=true
  rw[h1,h2,A5,decide_eq_true hr];rfl
 unfold G9 M3
 rw[this]
 exact⟨rfl,rfl⟩
theorem c5W(h1:f9 x1 y1=true)(h2:f9 x2 y2=true){r:Int}(hr:0≤r∧r≤3000000):P7 [.i x2,.i y2,.i x1,.i y1,.i x1,.i y1,.i r]=A9 x2 y2 x1 y1 x1 y1 r∧X9 [.i x2,.i y2,.i x1,.i y1,.i x1,.i y1,.i r]=0:=
 ⟨(a7c h2 h1 h1 hr).1,(a7c h2 h1 h1 hr).2⟩
end
end Go.Proofs.YtcjaembdcfppfaaGreat
namespace Go.Proofs.YtcjaembdcfppfaaGreat
open Go.RowKit
set_option maxHeartbeats 4000000 in
theorem c4g:m8 Tryz.prog 35 [S6,S6] (fun ds=> .tuple #[.bool (T3 ds),.int .i64 (feE ds)]):=by
 refine GivesIf.all (i7 E6 (by kernel_rfl) (fun ρ h=>b6I (Sees.of h 119)) (by kernel_rfl) b2K b1w (by decide) (fun W vals ds hr _=> ?_))
 simp only[a5h,g9,Nat.reduceBEq,Nat.reduceLT,Nat.reduceSub,d0y,c9C,c9V,c8i,c9R,d1Q,d4t,a5t]
 have F:Q7 ds=false→Value.tuple #[.bool false,.int .i64 1]=Value.tuple #[.bool (T3 ds),.int .i64 (feE ds)]:=fun h=>by simp [T3,feE,h]
 have T:∀b,Q7 ds=true→y7 (a7 ds 1) (a7 ds 2) (a7 ds 3) (a7 ds 4) (b9 ds 5) (a7 ds 10) (a7 ds 11) (a7 ds 12) (a7 ds 13) (b9 ds 14)=b→Value.tuple #[.bool b,.int .i64 0]=Value.tuple #[.bool (T3 ds),.int .i64 (feE ds)]:=fun b h h'=>by simp [T3,feE,h,h']
 refine⟨fun h=>F (by simp only[Q7,h,Bool.false_and]),fun f1=>⟨fun h=>F (by simp only[Q7,h,Bool.and_false]),fun f2=> ?_⟩⟩
 have hO:Q7 ds=true:=by simp only[Q7,f1,f2,Bool.and_self]
 replace T:=fun b=>T b hO
 clear F hr hO
 generalize a7 ds 1=k1 at*
 generalize a7 ds 2=x1 at*
 generalize a7 ds 3=y1 at*
 generalize a7 ds 4=r1 at*
 generalize b9 ds 5=a1 at*
 generalize a7 ds 10=k2 at*
 generalize a7 ds 11=x2 at*
 generalize a7 ds 12=y2 at*
 generalize a7 ds 13=r2 at*
 generalize b9 ds 14=a2 at*
 have A1:=a2r f1
 have A2:=a2r f2
 have D1:=a2q f1
 have D2:=a2q f2
 have H4:(k1=4∨k2=4)→y7 k1 x1 y1 r1 a1 k2 x2 y2 r2 a2=false:=fun h=>by unfold y7;rw[if_pos h]
 have HAA:(k1=3∨k1=6)→(k2=3∨k2=6)→y7 k1 x1 y1 r1 a1 k2 x2 y2 r2 a2=S3 a1 a2:=fun h h'=>by unfold y7;rw[if_neg (by omega),if_pos h,if_pos h']
 have HAD:(k1=3∨k1=6)→k2≠3→k2≠6→k2≠4→y7 k1 x1 y1 r1 a1 k2 x2 y2 r2 a2=B6 BinOp.geq (Q6 a1 x2 y2 r2) 0:=fun h h1 h2 h3=>by
  unfold y7;rw[if_neg (by omega),if_pos h,if_neg (by omega),Bool.eq_iff_iff,n8];simp only[j8,decide_eq_true_eq,ge_iff_le]
 have HDA:k1≠3→k1≠6→k1≠4→(k2=3∨k2=6)→y7 k1 x1 y1 r1 a1 k2 x2 y2 r2 a2=B6 BinOp.geq (Q6 a2 x1 y1 r1) 0:=fun h1 h2 h3 h=>by
  unfold y7;rw[if_neg (by omega),if_neg (by omega),if_pos h,Bool.eq_iff_iff,n8];simp only[j8,decide_eq_true_eq,ge_iff_le]
 have HDD:k1≠3→k1≠6→k1≠4→k2≠3→k2≠6→k2≠4→y7 k1 x1 y1 r1 a1 k2 x2 y2 r2 a2=A9 x2 y2 x1 y1 x1 y1 (r2+r1):=fun h1 h2 h3 h4 h5 h6=>by unfold y7;rw[if_neg (by omega),if_neg (by omega),if_neg (by omega)]
 have EAA:(k1=3∨k1=6)→(k2=3∨k2=6)→J4 [.l a1,.l a2]=S3 a1 a2∧O5 [.l a1,.l a2]=0:=fun h h'=>(c2X (A1 h) (A2 h')).2
 have EAD:(k1=3∨k1=6)→k2≠3→k2≠6→G9 [.l a1,.i x2,.i y2,.i r2]=Q6 a1 x2 y2 r2∧M3 [.l a1,.i x2,.i y2,.i r2]=0:=fun h h1 h2=>a6A (A1 h) (D2 h1 h2).1 (by have:=(D2 h1 h2).2;omega)
 have EDA:k1≠3→k1≠6→(k2=3∨k2=6)→G9 [.l a2,.i x1,.i y1,.i r1]=Q6 a2 x1 y1 r1∧M3 [.l a2,.i x1,.i y1,.i r1]=0:=fun h1 h2 h=>a6A (A2 h) (D1 h1 h2).1 (by have:=(D1 h1 h2).2;omega)
 have EDD:k1≠3→k1≠6→k2≠3→k2≠6→P7 [.i x2,.i y2,.i x1,.i y1,.i x1,.i y1,.i (IntKind.i64.wrap (r2+r1))]=A9 x2 y2 x1 y1 x1 y1 (r2+r1)∧X9 [.i x2,.i y2,.i x1,.i y1,.i x1,.i y1,.i (IntKind.i64.wrap (r2+r1))]=0:=fun h1 h2 h3 h4=>by
  have q1:=(D1 h1 h2).2
  have q2:=(D2 h3 h4).2
  rw[b8 (r2+r1) (by omega) (by omega)]
  exact c5W (D1 h1 h2).1 (D2 h3 h4).1 (by omega)
 clear A1 A2 D1 D2 f1 f2
 repeat' (first | (intro h;skip) | (refine And.intro ?_ ?_))
 all_goals first
  | omega
  | exact T _ (H4 (by omega))
  | (rw[(EAA (by omega) (by omega)).1];exact T _ (HAA (by omega) (by omega)))
  | (exact absurd (EAA (by omega) (by omega)).2 (by assumption))
  | (rw[(EAD (by omega) (by omega) (by omega)).1];exact T _ (HAD (by omega) (by omega) (by omega) (by omega)))
  | (exact absurd (EAD (by omega) (by omega) (by omega)).2 (by assumption))
  | (rw[(EDA (by omega) (by omega) (by omega)).1];exact T _ (HDA (by omega) (by omega) (by omega) (by omega)))
  | (exact absurd (EDA (by omega) (by omega) (by omega)).2 (by assumption))
  | (rw[(EDD (by omega) (by omega) (by omega) (by omega)).1];exact T _ (HDD (by omega) (by omega) (by omega) (by omega) (by omega) (by omega)))
  | (exact absurd (EDD (by omega) (by omega) (by omega) (by omega)).2 (by assumption))
def L4:Interp where
 fi n l:=match n with | 119=>feE l | n=>E6.fi n l
 fb n l:=match n with | 119=>d4J l | 120=>T3 l | n=>E6.fb n l
 fd _ _:=[]
theorem b6X{ρ:Env}(h:Sees ρ L4 122):Sees ρ E6 119:=h.trans (by decide) fun n l hn=>by
 refine⟨?_,?_⟩
 ·
  simp only[L4]
  split<;>first | omega | rfl
 ·
  simp only[L4]
  split<;>first | omega | rfl
def b2X:=u7 [S6,S6] fun al=> .ret (.tup [.one (T7 120 T3 al),.one (w9 119 feE al)])
theorem b5w{ρ:Env}(h:Sees ρ L4 122):i9 Tryz.prog ρ 35 b2X:=
 j7 c4g (fun _=>rfl) (fun al=>by simp only[V.val,V2.val,S.val,S0.val,w9,T7,List.map_cons,List.map_nil,m9 (s:=120) (f:=T3) (fun l=>by rw[(h 120 l (by decide)).2];simp only[L4]),k8 (s:=119) (f:=feE) (fun l=>by rw[(h 119 l (by decide)).1];simp only[L4])];try rfl)
def d0P:Ct:=(35,b2X)::c5D
theorem c9c{ρ:Env}(h:Sees ρ L4 122):CtOk Tryz.prog ρ d0P:= .cons (b5w h) (b6I (b6X h))
def d1k:Ct:=d0P
def shI(r:Rows)(x y:Int):Nat→Nat→Nat
 | 0,i=>i
 | f+1,i=>if a2m (lg r i 0) (lg r i 1) (lg r i 2) (lg r i 3) x y=true then i else shI r x y f (i+1)
def shC(r:Rows)(x y:Int):Int:=if shI r x y r.length 0<r.length then lg r (shI r x y r.length 0) 4 else 0
def shR(r:Rows)(x y:Int):Int:=if shI r x y r.length 0<r.length then lg r (shI r x y r.length 0) 5 else 0
def d0t(ds:List D):Int:=shC (b9 ds 0) (a7 ds 1) (a7 ds 2)
def d1B(ds:List D):Int:=shR (b9 ds 0) (a7 ds 1) (a7 ds 2)
theorem c9p{ρ:Env}(h:Sees ρ L4 122):CtOk Tryz.prog ρ d1k:=(c9c h)
def T2:Interp where
 fi n l:=match n with | 122=>d0t l | 123=>d1B l | n=>L4.fi n l
 fb n l:=L4.fb n l
 fd _ _:=[]
theorem b6Y{ρ:Env}(h:Sees ρ T2 126):Sees ρ L4 122:=h.trans (by decide) fun n l hn=>by
 refine⟨?_,?_⟩
 ·
  simp only[T2]
  split<;>first | omega | rfl
 ·
  rfl
def d2Z:Ct:=d1k
theorem d0k{ρ:Env}(h:Sees ρ T2 126):CtOk Tryz.prog ρ d2Z:=(c9p (b6Y h))
def wrD(x y:Rows)(dx dy:Int):Bool:=decide (shC x dx dy=1)&&(decide (¬shC y dx dy=1)||decide (shR y dx dy<shR x dx dy))
def sfN(x y l:Rows):Nat→Nat→Bool
 | 0,_=>false
 | f+1,i=>wrD x y (lg l i 0) (lg l i 1)||(wrD x y (lg l i 2) (lg l i 3)||sfN x y l f (i+1))
def c3R(a b:Rows):Bool:=sfN b a (b++a) (b++a).length 0
def saO(ds:List D):Bool:=V4 (b9 ds 0)&&V4 (b9 ds 1)
def saR(ds:List D):Bool:=saO ds&&c3R (b9 ds 0) (b9 ds 1)
def saE(ds:List D):Int:=if saO ds then 0 else 1
def R5:Interp where
 fi n l:=match n with | 126=>saE l | n=>T2.fi n l
 fb n l:=match n with | 126=>saR l | n=>T2.fb n l
 fd _ _:=[]
theorem b6r{ρ:Env}(h:Sees ρ R5 128):Sees ρ T2 126:=h.trans (by decide) fun n l hn=>by
 refine⟨?_,?_⟩
 ·
  simp only[R5]
  split<;>first | omega | rfl
 ·
  simp only[R5]
  split<;>first | omega | rfl
def c7b:Ct:=d2Z
theorem c5I{ρ:Env}(h:Sees ρ R5 128):CtOk Tryz.prog ρ c7b:=(d0k (b6r h))
def d2V(k2 x2 y2 r2:Int)(a2:Rows)(d2:Int)(t2:Rows)(k1 x1 y1 r1:Int)(a1:Rows)(d1:Int)(t1:Rows):Bool:=
 if k2≠4 then decide (d1≤d2)&&c7V k1 x1 y1 r1 a1 k2 x2 y2 r2 a2
 else decide (k1=4∧x1=x2∧y1=y2)&& !c3R t2 t1
def d4n(ds:List D):Bool:=Q7 ds&&d2V (a7 ds 1) (a7 ds 2) (a7 ds 3) (a7 ds 4) (b9 ds 5) (a7 ds 6) (b9 ds 8) (a7 ds 10) (a7 ds 11) (a7 ds 12) (a7 ds 13) (b9 ds 14) (a7 ds 15) (b9 ds 17)
def eqC(r s:Rows)(i:Nat):Nat→Bool
 | 0=>true
 | c+1=>eqC r s i c&&decide (lg r i c=lg s i c)
def eqN(c:Nat)(r s:Rows):Nat→Nat→Bool
 | 0,_=>true
 | f+1,i=>eqC r s i c&&eqN c r s f (i+1)
def eqX(c:Nat)(r s:Rows):Bool:=decide (r.length=s.length)&&eqN c r s r.length 0
def d4i(i1 k1 x1 y1 r1:Int)(a1:Rows)(d1 s1:Int)(t1:Rows)(i2 k2 x2 y2 r2:Int)(a2:Rows)(d2 s2:Int)(t2:Rows):Bool:=
 decide ((i1=i2∧k1=k2∧x1=x2∧y1=y2)∧r1=r2∧d1=d2∧s1=s2)&&(eqX 2 a1 a2&&eqX 6 t1 t2)
def sameL(ds:List D):Bool:=d4i (a7 ds 0) (a7 ds 1) (a7 ds 2) (a7 ds 3) (a7 ds 4) (b9 ds 5) (a7 ds 6) (a7 ds 7) (b9 ds 8) (a7 ds 9) (a7 ds 10) (a7 ds 11) (a7 ds 12) (a7 ds 13) (b9 ds 14) (a7 ds 15) (a7 ds 16) (b9 ds 17)
def I9:Interp where
 fi n l:=R5.fi n l
 fb n l:=match n with | 128=>d4n l | 129=>sameL l | n=>R5.fb n l
 fd _ _:=[]
theorem b6U{ρ:Env}(h:Sees ρ I9 132):Sees ρ R5 128:=h.trans (by decide) fun n l hn=>by
 refine⟨?_,?_⟩
 ·
  rfl
 ·
  simp only[I9]
  split<;>first | omega | rfl
def b7S:Ct:=c7b
theorem b3c{ρ:Env}(h:Sees ρ I9 132):CtOk Tryz.prog ρ b7S:=(c5I (b6U h))
def d4m:List CK:=[.int .i64,.int .i64,.int .i64,.int .i64,.int .i64,.sl ptK,.int .i64,.int .i64,.sl b9n]
def G4:Sh:= .one (.sl d4m)
def d6K:TT j4:=
(.loop 0 1000 ⟨[(0,(.lit 0)),(1,(.lit 0))],[],[]⟩
 (.ite (.cmp .lss (.var 1001) (.len (.var 0)))
 (.ob (.tru (.cmp .leq (.lit 0) (.var 1001)))
 (.ob (.tru (.cmp .lss (.var 1001) (.len (.var 0))))
 (.ite (.not (.fn 76 (.i (.rd (.var 0) (.var 1001) 0) (.i (.rd (.var 0) (.var 1001) 1) (.i (.rd (.var 0) (.var 1001) 2) (.i (.rd (.var 0) (.var 1001) 3) (.i (.rd (.var 0) (.var 1001) 4) (.x (.rd (.var 0) (.var 1001) 5) (.i (.rd (.var 0) (.var 1001) 6) (.i (.rd (.var 0) (.var 1001) 7) (.x (.rd (.var 0) (.var 1001) 8) .nil)))))))))))
 (.ret ((.v (.one (.z (.bool (.lit false))))),[],2))
 (.ite (.cmp .leq (.rd (.var 0) (.var 1001) 0) (.var 1000))
 (.ret ((.v (.one (.z (.bool (.lit false))))),[],2))
 (.next 0 ⟨[(0,(.rd (.var 0) (.var 1001) 0)),(1,(.ar .add .i64 (.var 1001) (.lit 1)))],[],[]⟩)))))
 (.ret ((.v (.one (.z (.bool (.cmp .leq (.len (.var 0)) (.lit 300)))))),[],2))))
def a5k:TT j4:=
(.loop 0 2000 ⟨[(0,(.lit 0)),(1,(.lit 0))],[],[]⟩
 (.ite (.cmp .lss (.var 2001) (.len (.var 0)))
 (.ob (.tru (.cmp .leq (.lit 0) (.var 2001)))
 (.ob (.tru (.cmp .lss (.var 2001) (.len (.var 0))))
 (.ite (.not (.fn 76 (.i (.rd (.var 0) (.var 2001) 0) (.i (.rd (.var 0) (.var 2001) 1) (.i (.rd (.var 0) (.var 2001) 2) (.i (.rd (.var 0) (.var 2001) 3) (.i (.rd (.var 0) (.var 2001) 4) (.x (.rd (.var 0) (.var 2001) 5) (.i (.rd (.var 0) (.var 2001) 6) (.i (.rd (.var 0) (.var 2001) 7) (.x (.rd (.var 0) (.var 2001) 8) .nil)))))))))))
 (.ret ((.tup [(.one (.z (.int .i64 (.lit 0)))),(.one (.z (.int .i64 (.lit 1))))]),[],3))
 (.ite (.cmp .leq (.rd (.var 0) (.var 2001) 0) (.var 2000))
 (.ret ((.tup [(.one (.z (.int .i64 (.lit 0)))),(.one (.z (.int .i64 (.lit 1))))]),[],3))
 (.next 0 ⟨[(0,(.rd (.var 0) (.var 2001) 0)),(1,(.ar .add .i64 (.var 2001) (.lit 1)))],[],[]⟩)))))
 (.ite (.not (.cmp .leq (.len (.var 0)) (.lit 300)))
 (.ret ((.tup [(.one (.z (.int .i64 (.lit 0)))),(.one (.z (.int .i64 (.lit 1))))]),[],3))
 (.ite (.not (.fn 3 (.i (.var 1) (.i (.var 2) .nil))))
 (.ret ((.tup [(.one (.z (.int .i64 (.lit 0)))),(.one (.z (.int .i64 (.lit 1))))]),[],3))
 (.loop 1 4000 ⟨[(1,(.lit 100000)),(0,(.lit 0))],[],[]⟩
 (.ite (.cmp .lss (.var 4000) (.len (.var 0)))
 (.ob (.tru (.cmp .leq (.lit 0) (.var 4000)))
 (.ob (.tru (.cmp .lss (.var 4000) (.len (.var 0))))
 (.ite (.cmp .lss (.rd (.var 0) (.var 4000) 6) (.var 4001))
 (.ite (.cmp .eql (.rd (.var 0) (.var 4000) 1) (.lit 4))
 (.next 1 ⟨[(1,(.var 4001)),(0,(.ar .add .i64 (.var 4000) (.lit 1)))],[],[]⟩)
 (.ite (.cmp .eql (.rd (.var 0) (.var 4000) 1) (.lit 3))
 (.ite (.cmp .eql (.rd (.var 0) (.var 4000) 1) (.lit 3))
 (.ite (.cmp .eql (.fn 71 (.i (.var 1) (.i (.var 2) (.x (.rd (.var 0) (.var 4000) 5) .nil)))) (.lit 0))
 (.ite (.cmp .geq (.fn 70 (.i (.var 1) (.i (.var 2) (.x (.rd (.var 0) (.var 4000) 5) .nil)))) (.lit 0))
 (.next 1 ⟨[(1,(.rd (.var 0) (.var 4000) 6)),(0,(.ar .add .i64 (.var 4000) (.lit 1)))],[],[]⟩)
 (.next 1 ⟨[(1,(.var 4001)),(0,(.ar .add .i64 (.var 4000) (.lit 1)))],[],[]⟩))
 (.next 1 ⟨[(1,(.var 4001)),(0,(.ar .add .i64 (.var 4000) (.lit 1)))],[],[]⟩))
 (.ite (.cmp .eql (.fn 13 (.i (.var 1) (.i (.var 2) (.i (.rd (.var 0) (.var 4000) 2) (.i (.rd (.var 0) (.var 4000) 3) (.i (.rd (.var 0) (.var 4000) 2) (.i (.rd (.var 0) (.var 4000) 3) (.i (.rd (.var 0) (.var 4000) 4) .nil)))))))) (.lit 0))
 (.ite (.fn 7 (.i (.var 1) (.i (.var 2) (.i (.rd (.var 0) (.var 4000) 2) (.i (.rd (.var 0) (.var 4000) 3) (.i (.rd (.var 0) (.var 4000) 2) (.i (.rd (.var 0) (.var 4000) 3) (.i (.rd (.var 0) (.var 4000) 4) .nil))))))))
 (.next 1 ⟨[(1,(.rd (.var 0) (.var 4000) 6)),(0,(.ar .add .i64 (.var 4000) (.lit 1)))],[],[]⟩)
 (.next 1 ⟨[(1,(.var 4001)),(0,(.ar .add .i64 (.var 4000) (.lit 1)))],[],[]⟩))
 (.next 1 ⟨[(1,(.var 4001)),(0,(.ar .add .i64 (.var 4000) (.lit 1)))],[],[]⟩)))
 (.ite (.cmp .eql (.rd (.var 0) (.var 4000) 1) (.lit 6))
 (.ite (.cmp .eql (.fn 71 (.i (.var 1) (.i (.var 2) (.x (.rd (.var 0) (.var 4000) 5) .nil)))) (.lit 0))
 (.ite (.cmp .geq (.fn 70 (.i (.var 1) (.i (.var 2) (.x (.rd (.var 0) (.var 4000) 5) .nil)))) (.lit 0))
 (.next 1 ⟨[(1,(.rd (.var 0) (.var 4000) 6)),(0,(.ar .add .i64 (.var 4000) (.lit 1)))],[],[]⟩)
 (.next 1 ⟨[(1,(.var 4001)),(0,(.ar .add .i64 (.var 4000) (.lit 1)))],[],[]⟩))
 (.next 1 ⟨[(1,(.var 4001)),(0,(.ar .add .i64 (.var 4000) (.lit 1)))],[],[]⟩))
 (.ite (.cmp .eql (.fn 13 (.i (.var 1) (.i (.var 2) (.i (.rd (.var 0) (.var 4000) 2) (.i (.rd (.var 0) (.var 4000) 3) (.i (.rd (.var 0) (.var 4000) 2) (.i (.rd (.var 0) (.var 4000) 3) (.i (.rd (.var 0) (.var 4000) 4) .nil)))))))) (.lit 0))
 (.ite (.fn 7 (.i (.var 1) (.i (.var 2) (.i (.rd (.var 0) (.var 4000) 2) (.i (.rd (.var 0) (.var 4000) 3) (.i (.rd (.var 0) (.var 4000) 2) (.i (.rd (.var 0) (.var 4000) 3) (.i (.rd (.var 0) (.var 4000) 4) .nil))))))))
 (.next 1 ⟨[(1,(.rd (.var 0) (.var 4000) 6)),(0,(.ar .add .i64 (.var 4000) (.lit 1)))],[],[]⟩)
 (.next 1 ⟨[(1,(.var 4001)),(0,(.ar .add .i64 (.var 4000) (.lit 1)))],[],[]⟩))
 (.next 1 ⟨[(1,(.var 4001)),(0,(.ar .add .i64 (.var 4000) (.lit 1)))],[],[]⟩)))))
 (.next 1 ⟨[(1,(.var 4001)),(0,(.ar .add .i64 (.var 4000) (.lit 1)))],[],[]⟩))))
 (.ret ((.tup [(.one (.z (.int .i64 (.var 4001)))),(.one (.z (.int .i64 (.lit 0))))]),[],8))))))))
def b5Y:List (Nat×St):=[
(1,⟨([(.v (.one (.z (.ext [(.int .i64),(.int .i64),(.int .i64),(.int .i64),(.int .i64),(.sl [(.int .i64),(.int .i64)]),(.int .i64),(.int .i64),(.sl [(.int .i64),(.int .i64),(.int .i64),(.int .i64),(.int .i64),(.int .i64)])] (.var 0) false)))),(.v (.one (.z .any))),(.v (.one (.z (.bool (.lit false))))),(.v (.one (.z (.int .i64 (.var 2000))))),(.v (.one (.z .any))),(.v (.one (.z .any))),(.v (.one (.z (.ext [(.int .i64),(.int .i64),(.int .i64),(.int .i64),(.int .i64),(.sl [(.int .i64),(.int .i64)]),(.int .i64),(.int .i64),(.sl [(.int .i64),(.int .i64),(.int .i64),(.int .i64),(.int .i64),(.int .i64)])] (.var 0) false)))),(.v (.one (.z (.int .i64 (.len (.var 0)))))),(.v (.one (.z (.int .i64 (.var 2001)))))]++List.replicate 18 V.any),[(0,(.cells 23 [(.z (.int .i64 (.var 1))),(.z (.int .i64 (.var 2)))]))],2,[]⟩),
(3,⟨([(.v (.one (.z (.ext [(.int .i64),(.int .i64),(.int .i64),(.int .i64),(.int .i64),(.sl [(.int .i64),(.int .i64)]),(.int .i64),(.int .i64),(.sl [(.int .i64),(.int .i64),(.int .i64),(.int .i64),(.int .i64),(.int .i64)])] (.var 0) false)))),(.v (.agg [(.z (.int .i64 (.var 1))),(.z (.int .i64 (.var 2)))])),(.v (.one (.z .any))),(.v (.one (.z (.ptr 0 0)))),(.v (.one (.z (.int .i64 (.lit 0))))),(.v (.one (.z (.int .i64 (.lit 0))))),(.v (.one (.z (.int .i64 (.var 4001))))),(.v (.one (.z .any))),(.v (.one (.z .any))),(.v (.one (.z (.ext [(.int .i64),(.int .i64),(.int .i64),(.int .i64),(.int .i64),(.sl [(.int .i64),(.int .i64)]),(.int .i64),(.int .i64),(.sl [(.int .i64),(.int .i64),(.int .i64),(.int .i64),(.int .i64),(.int .i64)])] (.var 0) false)))),(.v (.one (.z (.bool (.cmp .leq (.len (.var 0)) (.lit 300)))))),(.v (.one (.z (.bool (.not (.cmp .leq (.len (.var 0)) (.lit 300))))))),(.v (.one (.z (.bool (.lit false))))),(.v (.agg [(.z (.int .i64 (.var 1))),(.z (.int .i64 (.var 2)))])),(.v (.one (.z (.bool (.fn 3 (.i (.var 1) (.i (.var 2) .nil))))))),(.v (.one (.z (.bool (.not (.fn 3 (.i (.var 1) (.i (.var 2) .nil)))))))),(.v (.one (.z (.bool (.not (.fn 3 (.i (.var 1) (.i (.var 2) .nil)))))))),(.v (.one (.z (.ext [(.int .i64),(.int .i64),(.int .i64),(.int .i64),(.int .i64),(.sl [(.int .i64),(.int .i64)]),(.int .i64),(.int .i64),(.sl [(.int .i64),(.int .i64),(.int .i64),(.int .i64),(.int .i64),(.int .i64)])] (.var 0) false)))),(.v (.one (.z (.int .i64 (.len (.var 0)))))),(.v (.one (.z (.int .i64 (.var 4000)))))]++List.replicate 17 V.any),[(0,(.cells 23 [(.z (.int .i64 (.var 1))),(.z (.int .i64 (.var 2)))]))],4,[]⟩)]
def b5q:List (FuncId×Nat×Nat×St):=[
]
set_option maxRecDepth 100000 in
theorem b3y:T.norm 0 (call Tryz.prog b7S ⟨Lt.un (Lt.of []),b5Y,b5q⟩ 100 24 (g7 0 [G4,pt]) [] 0) TT.ret=a5k:=by kernel_rfl
theorem b1A:a5k.low 1000=true:=by kernel_rfl
def W6(r:Rows)(i:Nat):Bool:=G2 (lg r i 0) (lg r i 1) (lg r i 2) (lg r i 3) (lg r i 4) (lr r i 5) (lg r i 6) (lg r i 7) (lr r i 8)
def H8(r:Rows):Nat→Nat→Int→Bool
 | 0,_,_=>true
 | f+1,i,last=>(W6 r i&&decide (last<lg r i 0))&&H8 r f (i+1) (lg r i 0)
def L7(r:Rows):Bool:=H8 r r.length 0 0&&decide (r.length≤300)
def M7(ds:List D):Bool:=L7 (b9 ds 0)
def a0S(r:Rows)(i:Nat)(px py:Int):Bool:=a9T (lg r i 1) (lg r i 2) (lg r i 3) (lg r i 4) (lr r i 5) px py
def a4t(r:Rows)(px py:Int):Nat→Nat→Int→Int
 | 0,_,m=>m
 | f+1,i,m=>a4t r px py f (i+1) (if lg r i 6<m∧a0S r i px py=true then lg r i 6 else m)
def a3b(ds:List D):Bool:=L7 (b9 ds 0)&&f9 (a7 ds 1) (a7 ds 2)
def a1k(ds:List D):Int:=if a3b ds then a4t (b9 ds 0) (a7 ds 1) (a7 ds 2) (b9 ds 0).length 0 100000 else 0
def a1q(ds:List D):Int:=if a3b ds then 0 else 1
theorem a4P{W:World}{vals:List Value}{ds:List D}{sh:List Sh}(h:T4 W (G4::sh) vals ds):(b9 ds 0).length≤281474976710656:=by
 obtain⟨v,vs',d,ds',rfl,rfl,⟨d,rfl,h⟩,_⟩:=h
 rw[R1] at h
 obtain⟨r,rfl,a,n,c,_,hs,_⟩:=h
 have e1:=hs.len
 have e2:=hs.big
 show r.length≤_
 omega
theorem d1z(W:World)(ds l:List D):(a9 I9 W ds).fb 76 l=G1 l:=by simp only[a9,I9,R5,T2,L4,E6,L6,M0,F4,B8,KI,KH,KG,KF]
theorem d4L(W:World)(ds l:List D):(a9 I9 W ds).fb 3 l=w7 l:=by simp only[a9,I9,R5,T2,L4,E6,L6,M0,F4,B8,KI,KH,KG,KF,KE,KD,KC,KB,KA,K9,K8,K7,K6,K5,K]
theorem d2m(W:World)(ds l:List D):(a9 I9 W ds).fi 70 l=a1X l:=by simp only[a9,I9,R5,T2,L4,E6,L6,M0,F4,B8,KI,KH,KG,KF,KE,KD,KC]
theorem d1i(W:World)(ds l:List D):(a9 I9 W ds).fi 71 l=a2W l:=by simp only[a9,I9,R5,T2,L4,E6,L6,M0,F4,B8,KI,KH,KG,KF,KE,KD,KC]
theorem d0A(W:World)(ds l:List D):(a9 I9 W ds).fi 13 l=X9 l:=by simp only[a9,I9,R5,T2,L4,E6,L6,M0,F4,B8,KI,KH,KG,KF,KE,KD,KC,KB,KA,K9,K8,K7,K6,K5,K]
theorem d4o(W:World)(ds l:List D):(a9 I9 W ds).fb 7 l=P7 l:=by simp only[a9,I9,R5,T2,L4,E6,L6,M0,F4,B8,KI,KH,KG,KF,KE,KD,KC,KB,KA,K9,K8,K7,K6,K5,K]
theorem a3Y(r:Rows)(i:Nat):G2 (lg r i 0) (lg r i 1) (lg r i 2) (lg r i 3) (lg r i 4) (lr r i 5) (lg r i 6) (lg r i 7) (lr r i 8)=W6 r i:=rfl
set_option maxHeartbeats 2000000 in
theorem c4S:m8 Tryz.prog 24 [G4,pt] (fun ds=> .tuple #[.int .i64 (a1k ds),.int .i64 (a1q ds)]):=by
 refine GivesIf.all (i7 I9 (by kernel_rfl) (fun ρ h=>b3c (Sees.of h 132)) (by kernel_rfl) b3y b1A (by decide) (fun W vals ds hr _=> ?_))
 have hlen:=a4P hr
 simp only[a5k]
 have F:a3b ds=false→Value.tuple #[.int .i64 0,.int .i64 1]=Value.tuple #[.int .i64 (a1k ds),.int .i64 (a1q ds)]:=fun h=>by simp [a1k,a1q,h]
 have T:a3b ds=true→∀m,a4t (b9 ds 0) (a7 ds 1) (a7 ds 2) (b9 ds 0).length 0 100000=m→Value.tuple #[.int .i64 m,.int .i64 0]=Value.tuple #[.int .i64 (a1k ds),.int .i64 (a1q ds)]:=fun h m h'=>by simp [a1k,a1q,h,h']
 have hO:a3b ds=(L7 (b9 ds 0)&&f9 (a7 ds 1) (a7 ds 2)):=rfl
 clear hr
 generalize e0:b9 ds 0=r at*
 generalize e1:a7 ds 1=px at*
 generalize e2:a7 ds 2=py at*
 refine TT.sat_loop (fun v=>∃i:Nat,v.i 1=i∧i≤r.length∧(H8 r (r.length-i) i (v.i 0)&&decide (r.length≤300))=L7 r) (fun v=>r.length-(v.i 1).toNat)
  ⟨0,by simp [j5,i8,E.ev],by omega,rfl⟩ (fun v hv=> ?_)
 obtain⟨i,i0,i1,i2⟩:=hv
 simp only[g9,Nat.reduceBEq,Nat.reduceLT,Nat.reduceSub,i0,e0,e1,e2,d1z,d4L,a5t,D7,a3Y]
 refine⟨fun hc=> ?_,fun hc=> ?_⟩
 ·have hi:i<r.length:=by omega
  obtain⟨f,hf⟩:∃f,r.length-i=f+1:=⟨r.length-i-1,by omega⟩
  have hf':r.length-(i+1)=f:=by omega
  rw[hf,H8] at i2
  rw[b8 ((i:Int)+1) (by omega) (by omega)]
  refine⟨by omega,by omega,fun h=>F ?_,fun h=>⟨fun g=>F ?_,fun g=>⟨⟨i+1,rfl,by omega,?_⟩,by omega⟩⟩⟩
  ·rw[hO,←i2,h];rfl
  ·rw[hO,←i2,h,decide_eq_false (by omega)];rfl
  ·rw[hf',←i2,h,decide_eq_true (p:=v.i 0<lg r i 0) (by omega)];rfl
 ·have h0:r.length-i=0:=by omega
  rw[h0,H8,Bool.true_and] at i2
  refine⟨fun h=>F ?_,fun h=>⟨fun g=>F ?_,fun g=> ?_⟩⟩
  ·rw[hO,←i2,decide_eq_false (by omega)];rfl
  ·rw[hO,g,Bool.and_false]
  have hO':a3b ds=true:=by rw[hO,←i2,g,decide_eq_true (by omega)];rfl
  replace T:=T hO'
  clear F hO hO' i2
  refine TT.sat_loop (fun v=>∃i:Nat,v.i 0=i∧i≤r.length∧a4t r px py (r.length-i) i (v.i 1)=a4t r px py r.length 0 100000) (fun v=>r.length-(v.i 0).toNat)
   ⟨0,by simp [j5,i8,E.ev],by omega,rfl⟩ (fun u hu=> ?_)
  obtain⟨j,j0,j1,j2⟩:=hu
  simp only[g9,Nat.reduceBEq,Nat.reduceLT,Nat.reduceSub,j0,e0,e1,e2,d2m,d1i,d0A,d4o]
  refine⟨fun hc=> ?_,fun hc=> ?_⟩
  ·have hj:j<r.length:=by omega
   obtain⟨f,hf⟩:∃f,r.length-j=f+1:=⟨r.length-j-1,by omega⟩
   have hf':r.length-(j+1)=f:=by omega
   rw[hf,a4t] at j2
   have hw:IntKind.i64.wrap ((j:Int)+1)=(j:Int)+1:=b8 _ (by omega) (by omega)
   simp only[hw]
   have N:∀m,(if lg r j 6<u.i 1∧a0S r j px py=true then lg r j 6 else u.i 1)=m→∃i:Nat,(j:Int)+1=i∧i≤r.length∧a4t r px py (r.length-i) i m=a4t r px py r.length 0 100000:=
    fun m h=>⟨j+1,rfl,by omega,by rw[hf',←j2,h]⟩
   have hm:r.length-((j:Int)+1).toNat<r.length-(j:Int).toNat:=by omega
   have C4:lg r j 1=4→a0S r j px py=false:=fun h=>by unfold a0S a9T;rw[if_pos h]
   have CA:(lg r j 1=3∨lg r j 1=6)→a0S r j px py=decide (a2W [.i px,.i py,.l (lr r j 5)]=0∧0≤a1X [.i px,.i py,.l (lr r j 5)]):=fun h=>by unfold a0S a9T;rw[if_neg (by omega),if_pos h]
   have CD:lg r j 1≠4→lg r j 1≠3→lg r j 1≠6→a0S r j px py=(decide (X9 [.i px,.i py,.i (lg r j 2),.i (lg r j 3),.i (lg r j 2),.i (lg r j 3),.i (lg r j 4)]=0)&&P7 [.i px,.i py,.i (lg r j 2),.i (lg r j 3),.i (lg r j 2),.i (lg r j 3),.i (lg r j 4)]):=fun h1 h2 h3=>by unfold a0S a9T;rw[if_neg h1,if_neg (by omega)]
   refine⟨by omega,by omega,?_⟩
   clear hc hf hf' j2 T e0 e1 e2
   repeat' (first | (intro h;skip) | (refine And.intro ?_ ?_))
   all_goals first
    | exact hm
    | omega
    | (refine N _ (if_neg ?_);omega)
    | (refine N _ (if_neg ?_);rw[C4 (by omega)];simp)
    | (refine N _ (if_neg ?_);rw[CA (by omega),decide_eq_true_eq];omega)
    | (refine N _ (if_pos ⟨by omega,?_⟩);rw[CA (by omega),decide_eq_true_eq];omega)
    | (refine N _ (if_pos ⟨by omega,?_⟩);rw[CD (by omega) (by omega) (by omega)];simp [*];done)
    | (refine N _ (if_neg (fun q=> ?_));have q2:=q.2;rw[CD (by omega) (by omega) (by omega),Bool.and_eq_true,decide_eq_true_eq] at q2;simp_all;done)
  ·have h0:r.length-j=0:=by omega
   rw[h0,a4t] at j2
   exact T _ j2.symm
def W8:Interp where
 fi n l:=match n with | 132=>a1k l | 133=>a1q l | n=>I9.fi n l
 fb n l:=I9.fb n l
 fd _ _:=[]
theorem b6p{ρ:Env}(h:Sees ρ W8 134):Sees ρ I9 132:=h.trans (by decide) fun n l hn=>by
 refine⟨?_,?_⟩
 ·
  simp only[W8]
  split<;>first | omega | rfl
 ·
  rfl
def b4P:=u7 [G4,pt] fun al=> .ret (.tup [.one (w9 132 a1k al),.one (w9 133 a1q al)])
theorem b5E{ρ:Env}(h:Sees ρ W8 134):i9 Tryz.prog ρ 24 b4P:=
 j7 c4S (fun _=>rfl) (fun al=>by simp only[V.val,V2.val,S.val,S0.val,w9,T7,List.map_cons,List.map_nil,k8 (s:=132) (f:=a1k) (fun l=>by rw[(h 132 l (by decide)).1];simp only[W8]),k8 (s:=133) (f:=a1q) (fun l=>by rw[(h 133 l (by decide)).1];simp only[W8])];try rfl)
def c6X:Ct:=(24,b4P)::b7S
theorem c6f{ρ:Env}(h:Sees ρ W8 134):CtOk Tryz.prog ρ c6X:= .cons (b5E h) (b3c (b6p h))
end Go.Proofs.YtcjaembdcfppfaaGreat
