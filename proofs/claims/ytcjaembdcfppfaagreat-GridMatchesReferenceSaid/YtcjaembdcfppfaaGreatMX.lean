/- MX, merged: TWe, Wh, TWf, Wi, Wj. -/
import Derived.Test.YtcjaembdcfppfaaGreatMQ
set_option linter.unusedSimpArgs false
set_option linter.unusedVariables false
namespace Go.Proofs.YtcjaembdcfppfaaGreat
open Go.RowKit
theorem c5w(k:Int):a3W [.i k]=decide (k=1∨k=2∨k=5):=rfl
theorem c5L(px py x y r:Int):A9 px py x y x y r=decide (l9 x y px py≤r*r):=by
 have h:F7 x y x y px py=0:=by unfold F7;grind
 unfold A9
 rw[if_pos (by omega)]
theorem b1l{id1 k1 x1 y1 r1 d1 s1:Int}{a1 t1:Rows}(h:G2 id1 k1 x1 y1 r1 a1 d1 s1 t1=true):k1=1∨k1=2∨k1=3∨k1=4∨k1=5∨k1=6:=by
 have:=(a1a.mp h).2.2.2.2
 omega
def d4c(ds:List D):Bool:=a9T (a7 ds 1) (a7 ds 2) (a7 ds 3) (a7 ds 4) (b9 ds 5) (a7 ds 9) (a7 ds 10)
def d4O(ds:List D):Bool:=G2 (a7 ds 0) (a7 ds 1) (a7 ds 2) (a7 ds 3) (a7 ds 4) (b9 ds 5) (a7 ds 6) (a7 ds 7) (b9 ds 8)&&f9 (a7 ds 9) (a7 ds 10)
def KWe:Interp where
 fi n l:=KWd.fi n l
 fb n l:=match n with | 140=>d4c l | 141=>d4O l | n=>KWd.fb n l
 fd _ _:=[]
theorem d0b{ρ:Env}(h:Sees ρ KWe 150):Sees ρ KWd 140:=h.trans (by decide) fun n l hn=>by
 refine⟨?_,?_⟩
 ·
  rfl
 ·
  simp only[KWe]
  split<;>first | omega | rfl
def d1P:Ct:=d2N
theorem c9w{ρ:Env}(h:Sees ρ KWe 150):CtOk Tryz.prog ρ d1P:=(c8J (d0b h))
def b2o:TT j4:=
(.ite (.cmp .eql (.var 1) (.lit 4))
 (.ret ((.v (.one (.z (.bool (.lit false))))),[],2))
 (.ite (.cmp .eql (.var 10) (.lit 4))
 (.ret ((.v (.one (.z (.bool (.lit false))))),[],2))
 (.ite (.fn 101 (.i (.var 1) .nil))
 (.ite (.fn 101 (.i (.var 10) .nil))
 (.ret ((.v (.one (.z (.bool (.cmp .leq (.ar .add .i64 (.ar .mul .i64 (.ar .sub .i64 (.var 11) (.var 2)) (.ar .sub .i64 (.var 11) (.var 2))) (.ar .mul .i64 (.ar .sub .i64 (.var 12) (.var 3)) (.ar .sub .i64 (.var 12) (.var 3)))) (.ar .mul .i64 (.ar .add .i64 (.var 4) (.var 13)) (.ar .add .i64 (.var 4) (.var 13)))))))),[],12))
 (.ite (.fn 101 (.i (.var 1) .nil))
 (.ret ((.v (.one (.z (.bool (.cmp .geq (.fn 115 (.x (.var 14) (.i (.var 2) (.i (.var 3) (.i (.var 4) .nil))))) (.lit 0)))))),[],2))
 (.ite (.fn 101 (.i (.var 10) .nil))
 (.ret ((.v (.one (.z (.bool (.cmp .geq (.fn 115 (.x (.var 5) (.i (.var 11) (.i (.var 12) (.i (.var 13) .nil))))) (.lit 0)))))),[],2))
 (.ret ((.v (.one (.z (.bool (.fn 112 (.x (.var 5) (.x (.var 14) .nil))))))),[],2)))))
 (.ite (.fn 101 (.i (.var 1) .nil))
 (.ret ((.v (.one (.z (.bool (.cmp .geq (.fn 115 (.x (.var 14) (.i (.var 2) (.i (.var 3) (.i (.var 4) .nil))))) (.lit 0)))))),[],2))
 (.ite (.fn 101 (.i (.var 10) .nil))
 (.ret ((.v (.one (.z (.bool (.cmp .geq (.fn 115 (.x (.var 5) (.i (.var 11) (.i (.var 12) (.i (.var 13) .nil))))) (.lit 0)))))),[],2))
 (.ret ((.v (.one (.z (.bool (.fn 112 (.x (.var 5) (.x (.var 14) .nil))))))),[],2)))))))
set_option maxRecDepth 100000 in
theorem c2D:T.norm 0 (call Tryz.prog d1P (Lt.of []) 100 38 (g7 0 [S6,S6]) [] 0) TT.ret=b2o:=by kernel_rfl
theorem b7B:b2o.low 1000=true:=by kernel_rfl
theorem c8e(W:World)(ds l:List D):(a9 KWe W ds).fb 101 l=a3W l:=by simp only[a9,KWe,KWd,KWc,KWb,R2,KX]
theorem c8H(W:World)(ds l:List D):(a9 KWe W ds).fb 112 l=J4 l:=by simp only[a9,KWe,KWd,KWc,KWb]
theorem c9u(W:World)(ds l:List D):(a9 KWe W ds).fi 115 l=G9 l:=by simp only[a9,KWe,KWd,KWc,KWb]
def a1O(ds:List D):Bool:=y7 (a7 ds 1) (a7 ds 2) (a7 ds 3) (a7 ds 4) (b9 ds 5) (a7 ds 10) (a7 ds 11) (a7 ds 12) (a7 ds 13) (b9 ds 14)
theorem a8C{k:Int}(h:k=1∨k=2∨k=5):k≠3∧k≠6∧k≠4:=by omega
theorem a8t{k:Int}(q:k=1∨k=2∨k=3∨k=4∨k=5∨k=6)(n4:¬k=4)(nd:¬(k=1∨k=2∨k=5)):k=3∨k=6:=by omega
set_option maxHeartbeats 400000 in
theorem d3T:GivesIf Tryz.prog 38 [S6,S6] (fun ds=>Q7 ds=true) (fun ds=> .bool (a1O ds)):=by
 refine i7 KWe (by kernel_rfl) (fun ρ h=>c9w (Sees.of h 150)) (by kernel_rfl) c2D b7B (by decide) (fun W vals ds hr hok=> ?_)
 rw[Q7,Bool.and_eq_true] at hok
 obtain⟨f1,f2⟩:=hok
 simp only[b2o,g9,Nat.reduceBEq,Nat.reduceLT,Nat.reduceSub,c8e,c8H,c9u,c5w,decide_eq_true_eq,decide_eq_false_iff_not]
 have hL:a1O ds=y7 (a7 ds 1) (a7 ds 2) (a7 ds 3) (a7 ds 4) (b9 ds 5) (a7 ds 10) (a7 ds 11) (a7 ds 12) (a7 ds 13) (b9 ds 14):=rfl
 rw[hL]
 clear hr hL
 generalize a7 ds 1=k1 at*
 generalize a7 ds 2=x1 at*
 generalize a7 ds 3=y1 at*
 generalize a7 ds 4=r1 at*
 generalize b9 ds 5=a1 at*
 generalize a7 ds 10=k2 at*
 generalize a7 ds 11=x2 at*
 generalize a7 ds 12=y2 at*
 generalize a7 ds 13=r2 at*
 generalize b9 ds 14=a2 at*
 have q1:=b1l f1
 have q2:=b1l f2
 have A1:=a2r f1
 have A2:=a2r f2
 have D1:=a2q f1
 have D2:=a2q f2
 have H4:(k1=4∨k2=4)→y7 k1 x1 y1 r1 a1 k2 x2 y2 r2 a2=false:=fun h=>by unfold y7;rw[if_pos h]
 have HAA:(k1=3∨k1=6)→(k2=3∨k2=6)→y7 k1 x1 y1 r1 a1 k2 x2 y2 r2 a2=J4 [.l a1,.l a2]:=fun h h'=>by rw[(c2X (A1 h) (A2 h')).2.1];unfold y7;rw[if_neg (by omega),if_pos h,if_pos h']
 have HAD:(k1=3∨k1=6)→k2≠3→k2≠6→k2≠4→y7 k1 x1 y1 r1 a1 k2 x2 y2 r2 a2=B6 BinOp.geq (G9 [.l a1,.i x2,.i y2,.i r2]) 0:=fun h h1 h2 h3=>by
  rw[(a6A (A1 h) (D2 h1 h2).1 (by have:=(D2 h1 h2).2;omega)).1];unfold y7;rw[if_neg (by omega),if_pos h,if_neg (by omega),Bool.eq_iff_iff,n8];simp only[j8,decide_eq_true_eq,ge_iff_le]
 have HDA:k1≠3→k1≠6→k1≠4→(k2=3∨k2=6)→y7 k1 x1 y1 r1 a1 k2 x2 y2 r2 a2=B6 BinOp.geq (G9 [.l a2,.i x1,.i y1,.i r1]) 0:=fun h1 h2 h3 h=>by
  rw[(a6A (A2 h) (D1 h1 h2).1 (by have:=(D1 h1 h2).2;omega)).1];unfold y7;rw[if_neg (by omega),if_neg (by omega),if_pos h,Bool.eq_iff_iff,n8];simp only[j8,decide_eq_true_eq,ge_iff_le]
 have HDD:k1≠3→k1≠6→k1≠4→k2≠3→k2≠6→k2≠4→y7 k1 x1 y1 r1 a1 k2 x2 y2 r2 a2=B6 BinOp.leq (IntKind.i64.wrap (IntKind.i64.wrap (IntKind.i64.wrap (x2-x1)*IntKind.i64.wrap (x2-x1))+IntKind.i64.wrap (IntKind.i64.wrap (y2-y1)*IntKind.i64.wrap (y2-y1)))) (IntKind.i64.wrap (IntKind.i64.wrap (r1+r2)*IntKind.i64.wrap (r1+r2))):=fun h1 h2 h3 h4 h5 h6=>by
  have p1:=(D1 h1 h2).1
  have p2:=(D2 h4 h5).1
  have b1:=(D1 h1 h2).2
  have b2:=(D2 h4 h5).2
  rw[z0] at p1 p2
  have c1:=o6 p2.1 p1.1 p2.1 p1.1
  have c2:=o6 p2.2 p1.2 p2.2 p1.2
  have c3:=N8 (a:=r1+r2) (b:=r1+r2) (A:=200000) (B:=200000) (by omega) (by omega) (by omega) (by omega)
  rw[o0 p2.1 p1.1,o0 p2.2 p1.2,c1.1,c2.1,L5 p2.1 p1.1 p2.1 p1.1 p2.2 p1.2 p2.2 p1.2,b8 (r1+r2) (by omega) (by omega),b8 _ (by omega) (by omega)]
  unfold y7
  rw[if_neg (by omega),if_neg (by omega),if_neg (by omega),c5L,Int.add_comm r2 r1,Bool.eq_iff_iff,n8,decide_eq_true_eq]
  simp only[j8]
  exact Iff.rfl
 clear A1 A2 D1 D2 f1 f2
 refine⟨fun e1=> ?_,fun n1=>⟨fun e2=> ?_,fun n2=>⟨fun kd1=>⟨fun kd2=> ?_,fun nd2=>⟨fun _=> ?_,fun c=>absurd kd1 c⟩⟩,fun nd1=>⟨fun c=>absurd c nd1,fun _=>⟨fun kd2=> ?_,fun nd2=> ?_⟩⟩⟩⟩⟩
 ·rw[H4 (.inl e1)]
 ·rw[H4 (.inr e2)]
 ·obtain⟨g1,g2,g3⟩:=a8C kd1
  obtain⟨g4,g5,g6⟩:=a8C kd2
  rw[HDD g1 g2 g3 g4 g5 g6]
 ·obtain⟨g1,g2,g3⟩:=a8C kd1
  rw[HDA g1 g2 g3 (a8t q2 n2 nd2)]
 ·obtain⟨g4,g5,g6⟩:=a8C kd2
  rw[HAD (a8t q1 n1 nd1) g4 g5 g6]
 ·rw[HAA (a8t q1 n1 nd1) (a8t q2 n2 nd2)]
end Go.Proofs.YtcjaembdcfppfaaGreat
