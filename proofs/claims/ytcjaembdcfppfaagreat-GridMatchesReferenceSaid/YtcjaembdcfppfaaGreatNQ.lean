/- NQ, merged: TL0, L0, TL6, L5, Yq, L6. -/
import Derived.Test.YtcjaembdcfppfaaGreatNL
import Derived.Test.YtcjaembdcfppfaaGreatNM
import Derived.Test.YtcjaembdcfppfaaGreatMC
set_option linter.unusedSimpArgs false
set_option linter.unusedVariables false
namespace Go.Proofs.YtcjaembdcfppfaaGreat
open Go.RowKit
def b8I:TT j4:=
(.ite (.cmp .geq (.var 0) (.lit (-1000000000000)))
 (.ite (.cmp .leq (.var 0) (.var 1))
 (.ret ((.v (.one (.z (.bool (.cmp .leq (.var 1) (.lit 1000000000000)))))),[],1))
 (.ret ((.v (.one (.z (.bool (.lit false))))),[],1)))
 (.ret ((.v (.one (.z (.bool (.lit false))))),[],1)))
set_option maxRecDepth 100000 in
theorem c4B:T.norm 0 (call Tryz.prog [] (Lt.of []) 100 116 (g7 0 [sp]) [] 0) TT.ret=b8I:=by kernel_rfl
theorem c1f:b8I.low 1000=true:=by kernel_rfl
theorem c3w{ρ:Env}(h:Sees ρ B7 210):Sees ρ KG 80:=c0J (b0g (a9P (a9F (b0w (a9k h)))))
theorem d5N:m8 Tryz.prog 116 [sp] (fun ds=> .bool (P9 ds)):=by
 refine GivesIf.all (i7 I0 (by kernel_rfl) (fun ρ _=>CtOk.nil) (by kernel_rfl) c4B c1f (by decide) (fun W vals ds _ _=> ?_))
 simp only[b8I,g9,Nat.reduceBEq,Nat.reduceLT,Nat.reduceSub,P9]
 refine⟨fun h1=>⟨fun h2=>congrArg Value.bool ?_,fun h2=>congrArg Value.bool ?_⟩,fun h1=>congrArg Value.bool ?_⟩
 all_goals (rw[Bool.eq_iff_iff];simp only[a0M,n8,j8,decide_eq_true_eq,Bool.false_eq_true,false_iff];omega)
def d1J:=u7 [sp] fun al=> .ret (bV (bF 30 P9 al))
theorem c9T{ρ:Env}(h:Sees ρ KG 80):i9 Tryz.prog ρ 116 d1J:=
 j7 d5N (fun _=>rfl) (fun al=>by simp only[bV,V.s0,V.val,V2.val,S.val,S0.val,m9 (fun l=>((h 30 l (by decide)).2.trans rfl:ρ.fb 30 l=P9 l))])
def b9K:Ct:=(116,d1J)::(43,b8K)::a9t
theorem a9w{ρ:Env}(h:Sees ρ B7 210)(hd:SeesD ρ B7 8):CtOk Tryz.prog ρ b9K:= .cons (c9T (c3w h))<| .cons (b3X (c3w h)) (a3e h hd)
def b3r:TT j4:=
(.ite (.fn 31 (.i (.var 0) (.i (.var 1) (.i (.var 2) (.i (.var 3) .nil)))))
 (.ite (.not (.fn 31 (.i (.var 4) (.i (.var 5) (.i (.var 6) (.i (.var 7) .nil))))))
 (.ret ((.tup [(.agg [(.z (.int .i64 (.lit 0))),(.z (.int .i64 (.lit 0))),(.z (.int .i64 (.lit 0))),(.z (.int .i64 (.lit 0)))]),(.one (.z (.int .i64 (.lit 1))))]),[],5))
 (.ite (.fn 30 (.i (.var 0) (.i (.var 1) .nil)))
 (.ite (.not (.fn 30 (.i (.var 4) (.i (.var 5) .nil))))
 (.ite (.fn 30 (.i (.var 2) (.i (.var 3) .nil)))
 (.ite (.not (.fn 30 (.i (.var 6) (.i (.var 7) .nil))))
 (.ret ((.tup [(.agg [(.z (.int .i64 (.lit 0))),(.z (.int .i64 (.lit 0))),(.z (.int .i64 (.lit 0))),(.z (.int .i64 (.lit 0)))]),(.one (.z (.int .i64 (.lit 4))))]),[],17))
 (.ite (.cmp .gtr (.mx (.var 2) (.var 6)) (.mn (.var 3) (.var 7)))
 (.ret ((.tup [(.agg [(.z (.int .i64 (.lit 0))),(.z (.int .i64 (.lit 0))),(.z (.int .i64 (.lit 0))),(.z (.int .i64 (.lit 0)))]),(.one (.z (.int .i64 (.lit 4))))]),[],18))
 (.ret ((.tup [(.agg [(.z (.int .i64 (.lit 0))),(.z (.int .i64 (.lit 0))),(.z (.int .i64 (.lit 0))),(.z (.int .i64 (.lit 0)))]),(.one (.z (.int .i64 (.lit 4))))]),[],18))))
 (.ret ((.tup [(.agg [(.z (.int .i64 (.lit 0))),(.z (.int .i64 (.lit 0))),(.z (.int .i64 (.lit 0))),(.z (.int .i64 (.lit 0)))]),(.one (.z (.int .i64 (.lit 4))))]),[],17)))
 (.ite (.cmp .gtr (.mx (.var 0) (.var 4)) (.mn (.var 1) (.var 5)))
 (.ite (.fn 30 (.i (.var 2) (.i (.var 3) .nil)))
 (.ite (.not (.fn 30 (.i (.var 6) (.i (.var 7) .nil))))
 (.ret ((.tup [(.agg [(.z (.int .i64 (.lit 0))),(.z (.int .i64 (.lit 0))),(.z (.int .i64 (.lit 0))),(.z (.int .i64 (.lit 0)))]),(.one (.z (.int .i64 (.lit 4))))]),[],18))
 (.ite (.cmp .gtr (.mx (.var 2) (.var 6)) (.mn (.var 3) (.var 7)))
 (.ret ((.tup [(.agg [(.z (.int .i64 (.lit 0))),(.z (.int .i64 (.lit 0))),(.z (.int .i64 (.lit 0))),(.z (.int .i64 (.lit 0)))]),(.one (.z (.int .i64 (.lit 4))))]),[],19))
 (.ret ((.tup [(.agg [(.z (.int .i64 (.lit 0))),(.z (.int .i64 (.lit 0))),(.z (.int .i64 (.lit 0))),(.z (.int .i64 (.lit 0)))]),(.one (.z (.int .i64 (.lit 4))))]),[],19))))
 (.ret ((.tup [(.agg [(.z (.int .i64 (.lit 0))),(.z (.int .i64 (.lit 0))),(.z (.int .i64 (.lit 0))),(.z (.int .i64 (.lit 0)))]),(.one (.z (.int .i64 (.lit 4))))]),[],18)))
 (.ite (.fn 30 (.i (.var 2) (.i (.var 3) .nil)))
 (.ite (.not (.fn 30 (.i (.var 6) (.i (.var 7) .nil))))
 (.ret ((.tup [(.agg [(.z (.int .i64 (.lit 0))),(.z (.int .i64 (.lit 0))),(.z (.int .i64 (.lit 0))),(.z (.int .i64 (.lit 0)))]),(.one (.z (.int .i64 (.lit 4))))]),[],18))
 (.ite (.cmp .gtr (.mx (.var 2) (.var 6)) (.mn (.var 3) (.var 7)))
 (.ret ((.tup [(.agg [(.z (.int .i64 (.lit 0))),(.z (.int .i64 (.lit 0))),(.z (.int .i64 (.lit 0))),(.z (.int .i64 (.lit 0)))]),(.one (.z (.int .i64 (.lit 4))))]),[],19))
 (.ret ((.tup [(.agg [(.z (.int .i64 (.mx (.var 0) (.var 4)))),(.z (.int .i64 (.mn (.var 1) (.var 5)))),(.z (.int .i64 (.mx (.var 2) (.var 6)))),(.z (.int .i64 (.mn (.var 3) (.var 7))))]),(.one (.z (.int .i64 (.lit 0))))]),[],19))))
 (.ret ((.tup [(.agg [(.z (.int .i64 (.lit 0))),(.z (.int .i64 (.lit 0))),(.z (.int .i64 (.lit 0))),(.z (.int .i64 (.lit 0)))]),(.one (.z (.int .i64 (.lit 4))))]),[],18)))))
 (.ite (.fn 30 (.i (.var 2) (.i (.var 3) .nil)))
 (.ite (.not (.fn 30 (.i (.var 6) (.i (.var 7) .nil))))
 (.ret ((.tup [(.agg [(.z (.int .i64 (.lit 0))),(.z (.int .i64 (.lit 0))),(.z (.int .i64 (.lit 0))),(.z (.int .i64 (.lit 0)))]),(.one (.z (.int .i64 (.lit 4))))]),[],17))
 (.ite (.cmp .gtr (.mx (.var 2) (.var 6)) (.mn (.var 3) (.var 7)))
 (.ret ((.tup [(.agg [(.z (.int .i64 (.lit 0))),(.z (.int .i64 (.lit 0))),(.z (.int .i64 (.lit 0))),(.z (.int .i64 (.lit 0)))]),(.one (.z (.int .i64 (.lit 4))))]),[],18))
 (.ret ((.tup [(.agg [(.z (.int .i64 (.lit 0))),(.z (.int .i64 (.lit 0))),(.z (.int .i64 (.lit 0))),(.z (.int .i64 (.lit 0)))]),(.one (.z (.int .i64 (.lit 4))))]),[],18))))
 (.ret ((.tup [(.agg [(.z (.int .i64 (.lit 0))),(.z (.int .i64 (.lit 0))),(.z (.int .i64 (.lit 0))),(.z (.int .i64 (.lit 0)))]),(.one (.z (.int .i64 (.lit 4))))]),[],17)))))
 (.ret ((.tup [(.agg [(.z (.int .i64 (.lit 0))),(.z (.int .i64 (.lit 0))),(.z (.int .i64 (.lit 0))),(.z (.int .i64 (.lit 0)))]),(.one (.z (.int .i64 (.lit 1))))]),[],5)))
set_option maxRecDepth 100000 in
theorem c2Z:T.norm 0 (call Tryz.prog b9K (Lt.of []) 200 46 (g7 0 [bx,bx]) [] 0) TT.ret=b3r:=by kernel_rfl
theorem b8B:b3r.low 1000=true:=by kernel_rfl
def b2t:TT j4:=
(.ite (.fn 31 (.i (.var 0) (.i (.var 1) (.i (.var 2) (.i (.var 3) .nil)))))
 (.ite (.not (.fn 31 (.i (.var 4) (.i (.var 5) (.i (.var 6) (.i (.var 7) .nil))))))
 (.ret ((.tup [(.one (.z (.bool (.lit false)))),(.one (.z (.int .i64 (.lit 1))))]),[],4))
 (.ite (.fn 30 (.i (.var 0) (.i (.var 1) .nil)))
 (.ite (.not (.fn 30 (.i (.var 4) (.i (.var 5) .nil))))
 (.ite (.fn 30 (.i (.var 2) (.i (.var 3) .nil)))
 (.ite (.not (.fn 30 (.i (.var 6) (.i (.var 7) .nil))))
 (.ret ((.tup [(.one (.z (.bool (.lit false)))),(.one (.z (.int .i64 (.lit 0))))]),[],12))
 (.ite (.cmp .leq (.var 6) (.var 2))
 (.ret ((.tup [(.one (.z (.bool (.lit false)))),(.one (.z (.int .i64 (.lit 0))))]),[],12))
 (.ret ((.tup [(.one (.z (.bool (.lit false)))),(.one (.z (.int .i64 (.lit 0))))]),[],12))))
 (.ret ((.tup [(.one (.z (.bool (.lit false)))),(.one (.z (.int .i64 (.lit 0))))]),[],12)))
 (.ite (.cmp .leq (.var 4) (.var 0))
 (.ite (.fn 30 (.i (.var 2) (.i (.var 3) .nil)))
 (.ite (.not (.fn 30 (.i (.var 6) (.i (.var 7) .nil))))
 (.ite (.cmp .leq (.var 1) (.var 5))
 (.ret ((.tup [(.one (.z (.bool (.lit false)))),(.one (.z (.int .i64 (.lit 0))))]),[],12))
 (.ret ((.tup [(.one (.z (.bool (.lit false)))),(.one (.z (.int .i64 (.lit 0))))]),[],12)))
 (.ite (.cmp .leq (.var 6) (.var 2))
 (.ite (.cmp .leq (.var 1) (.var 5))
 (.ret ((.tup [(.one (.z (.bool (.cmp .leq (.var 3) (.var 7))))),(.one (.z (.int .i64 (.lit 0))))]),[],12))
 (.ret ((.tup [(.one (.z (.bool (.lit false)))),(.one (.z (.int .i64 (.lit 0))))]),[],12)))
 (.ite (.cmp .leq (.var 1) (.var 5))
 (.ret ((.tup [(.one (.z (.bool (.lit false)))),(.one (.z (.int .i64 (.lit 0))))]),[],12))
 (.ret ((.tup [(.one (.z (.bool (.lit false)))),(.one (.z (.int .i64 (.lit 0))))]),[],12)))))
 (.ite (.cmp .leq (.var 1) (.var 5))
 (.ret ((.tup [(.one (.z (.bool (.lit false)))),(.one (.z (.int .i64 (.lit 0))))]),[],12))
 (.ret ((.tup [(.one (.z (.bool (.lit false)))),(.one (.z (.int .i64 (.lit 0))))]),[],12))))
 (.ite (.fn 30 (.i (.var 2) (.i (.var 3) .nil)))
 (.ite (.not (.fn 30 (.i (.var 6) (.i (.var 7) .nil))))
 (.ret ((.tup [(.one (.z (.bool (.lit false)))),(.one (.z (.int .i64 (.lit 0))))]),[],12))
 (.ite (.cmp .leq (.var 6) (.var 2))
 (.ret ((.tup [(.one (.z (.bool (.lit false)))),(.one (.z (.int .i64 (.lit 0))))]),[],12))
 (.ret ((.tup [(.one (.z (.bool (.lit false)))),(.one (.z (.int .i64 (.lit 0))))]),[],12))))
 (.ret ((.tup [(.one (.z (.bool (.lit false)))),(.one (.z (.int .i64 (.lit 0))))]),[],12)))))
 (.ite (.fn 30 (.i (.var 2) (.i (.var 3) .nil)))
 (.ite (.not (.fn 30 (.i (.var 6) (.i (.var 7) .nil))))
 (.ret ((.tup [(.one (.z (.bool (.lit false)))),(.one (.z (.int .i64 (.lit 0))))]),[],12))
 (.ite (.cmp .leq (.var 6) (.var 2))
 (.ret ((.tup [(.one (.z (.bool (.lit false)))),(.one (.z (.int .i64 (.lit 0))))]),[],12))
 (.ret ((.tup [(.one (.z (.bool (.lit false)))),(.one (.z (.int .i64 (.lit 0))))]),[],12))))
 (.ret ((.tup [(.one (.z (.bool (.lit false)))),(.one (.z (.int .i64 (.lit 0))))]),[],12)))))
 (.ret ((.tup [(.one (.z (.bool (.lit false)))),(.one (.z (.int .i64 (.lit 1))))]),[],4)))
set_option maxRecDepth 100000 in
theorem c2L:T.norm 0 (call Tryz.prog b9K (Lt.of []) 200 44 (g7 0 [bx,bx]) [] 0) TT.ret=b2t:=by kernel_rfl
theorem b9T:b2t.low 1000=true:=by kernel_rfl
def a0n(W k i j:Nat):Nat:=i % (W/k)*k+j % k+W*(i/(W/k)*k+j/k)
theorem b4l{W H k i j:Nat}(hk:0<k)(hW:k∣W)(hH:k∣H)(hw:0<W)(hi:i<W/k*(H/k))(hj:j<k*k):a0n W k i j<W*H∧N0 W k (a0n W k i j)=i:=by
 obtain⟨a,rfl⟩:=hW
 obtain⟨b,rfl⟩:=hH
 rw[Nat.mul_div_cancel_left a hk,Nat.mul_div_cancel_left b hk] at hi
 unfold N0 a0n
 rw[Nat.mul_div_cancel_left a hk]
 have ha:0<a:=Nat.pos_of_ne_zero fun e=>by subst e;simp at hw
 have x1:j % k<k:=Nat.mod_lt _ hk
 have y1:j/k<k:=(Nat.div_lt_iff_lt_mul hk).2 hj
 have i1:i % a<a:=Nat.mod_lt _ ha
 have i2:i/a<b:=(Nat.div_lt_iff_lt_mul ha).2 (by rw[Nat.mul_comm];exact hi)
 have u1:=Q2 x1 i1
 have v1:=Q2 y1 i2
 obtain⟨e1,e2⟩:=a2x (j:=i % a) x1
 obtain⟨e3,e4⟩:=a2x (j:=i/a) y1
 have em:=Nat.mod_add_div' i a
 generalize i % a*k+j % k=u at*
 generalize i/a*k+j/k=v at*
 rw[show u+k*a*v=v*(k*a)+u by rw[Nat.mul_comm (k*a) v,Nat.add_comm]]
 obtain⟨e5,e6⟩:=a2x (j:=v) u1
 rw[e5,e6,e2,e4]
 exact⟨Q2 u1 v1,em⟩
theorem c6s{W H k i x y:Nat}(hk:0<k)(hW:k∣W)(hH:k∣H)(hw:0<W)(hi:i<W/k*(H/k))(hx:x<k)(hy:y<k):i % (W/k)*k+x<W∧i/(W/k)*k+y<H∧a0n W k i (y*k+x)=i % (W/k)*k+x+W*(i/(W/k)*k+y):=by
 obtain⟨e1,e2⟩:=a2x (j:=y) hx
 refine⟨?_,?_,by unfold a0n;rw[e1,e2]⟩
 all_goals
  obtain⟨a,rfl⟩:=hW
  obtain⟨b,rfl⟩:=hH
  rw[Nat.mul_div_cancel_left a hk,Nat.mul_div_cancel_left b hk] at hi
  rw[Nat.mul_div_cancel_left a hk]
  have ha:0<a:=Nat.pos_of_ne_zero fun e=>by subst e;simp at hw
 ·exact Q2 hx (Nat.mod_lt _ ha)
 ·exact Q2 hy ((Nat.div_lt_iff_lt_mul ha).2 (by rw[Nat.mul_comm];exact hi))
theorem c2q{W H k c:Nat}(hk:0<k)(hW:k∣W)(hw:0<W):∃j,j<k*k∧a0n W k (N0 W k c) j=c:=by
 have x1:c % W % k<k:=Nat.mod_lt _ hk
 have y1:c/W % k<k:=Nat.mod_lt _ hk
 refine⟨c/W % k*k+c % W % k,Q2 x1 y1,?_⟩
 obtain⟨e1,e2⟩:=a2x (j:=c/W % k) x1
 obtain⟨e3,e4⟩:=c5f (c:=c) hk hW hw
 unfold a0n
 rw[e1,e2,e3,e4,Nat.div_add_mod',Nat.div_add_mod',Nat.mod_add_div]
def b0o(D:List Int)(W k i:Nat)(d:Int)(q:Nat):Prop:=(d≤100000∧∀j,j<q→d≤Grid.at_ D (a0n W k i j))∧(d=100000∨∃j,j<q∧d=Grid.at_ D (a0n W k i j))
theorem c0N(D:List Int)(W k i:Nat):b0o D W k i 100000 0:=⟨⟨by omega,fun j hj=>by omega⟩,.inl rfl⟩
theorem c1c{D:List Int}{W k i q:Nat}{d:Int}(h:b0o D W k i d q):b0o D W k i (min d (Grid.at_ D (a0n W k i q))) (q+1):=by
 obtain⟨⟨h1,h2⟩,h3⟩:=h
 refine⟨⟨by omega,fun j hj=> ?_⟩,?_⟩
 ·by_cases e:j=q
  ·subst e;omega
  ·have:=h2 j (by omega);omega
 ·by_cases g:d≤Grid.at_ D (a0n W k i q)
  ·rw[Int.min_eq_left g]
   rcases h3 with h3 | ⟨j,g1,g2⟩
   ·exact .inl h3
   ·exact .inr ⟨j,by omega,g2⟩
  ·rw[Int.min_eq_right (by omega)]
   exact .inr ⟨q,by omega,rfl⟩
theorem c6p{W H k i:Nat}{D:List Int}{d:Int}(hk:0<k)(hW:k∣W)(hH:k∣H)(hw:0<W)(hD:∀c,c<W*H→0≤Grid.at_ D c∧Grid.at_ D c≤100000)(hi:i<W/k*(H/k))(h:b0o D W k i d (k*k)):d=Grid.at_ (O7 W H k D (W*H)) i:=by
 obtain⟨c1,c2,c3⟩:=c1r hk hW hH hw hD (W*H) (Nat.le_refl _)
 obtain⟨⟨h1,h2⟩,h3⟩:=h
 have a1:=(c1 i hi).2
 have g1:Grid.at_ (O7 W H k D (W*H)) i≤d:=by
  rcases h3 with h3 | ⟨j,g1,g2⟩
  ·omega
  ·obtain⟨k1,k2⟩:=b4l hk hW hH hw hi g1
   have:=c2 _ k1
   rw[k2] at this
   omega
 have g2:d≤Grid.at_ (O7 W H k D (W*H)) i:=by
  rcases c3 i hi with c3 | ⟨c,k1,k2,k3⟩
  ·omega
  ·obtain⟨j,j1,j2⟩:=c2q (H:=H) (c:=c) hk hW hw
   have:=h2 j j1
   rw[k2] at j2
   rw[j2] at this
   omega
 omega
theorem c8A{L:List Int}{c:Nat}(h:c<L.length):L.take (c+1)=L.take c++[Grid.at_ L c]:=by
 rw[List.take_add_one,List.getElem?_eq_getElem h]
 simp [Grid.at_,h]
set_option maxHeartbeats 2000000 in
theorem c5S:B2 Tryz.prog 14 [l8,it] [F3] (fun _=>True) (fun _ ds vs u=>∃v,vs=[v]∧u=coV ds v):=by
 refine A4 B7 (by kernel_rfl) (fun ρ h=>a3e (Sees.of h 210) (SeesD.of h 8)) (by kernel_rfl) b4B b1z (by decide) (fun w0 vals ds hr _=> ?_)
 have hwf:=N9 (C3 hr) (j:=5) rfl
 have hR:F3.rows ds=if R0 ds=true then g0 (O7 (a7 ds 3).toNat (a7 ds 4).toNat (a7 ds 6).toNat (g8 (b9 ds 5)) ((a7 ds 3).toNat*(a7 ds 4).toNat)) else []:=rfl
 have hV:∀v,coV ds v=if R0 ds=true then X6 (a7 ds 0) (a7 ds 1) (a7 ds 6*a7 ds 2) ((a7 ds 3).tdiv (a7 ds 6)) ((a7 ds 4).tdiv (a7 ds 6)) v 0 else X6 0 0 0 0 0 v 1:=fun _=>rfl
 have hO:R0 ds=(F5 (a7 ds 0) (a7 ds 1) (a7 ds 2) (a7 ds 3) (a7 ds 4) (b9 ds 5)&&decide (1≤a7 ds 6∧a7 ds 6≤64∧(a7 ds 3).tmod (a7 ds 6)=0∧(a7 ds 4).tmod (a7 ds 6)=0∧a7 ds 6*a7 ds 2≤100000)):=rfl
 have bad:∀ {ρ:Env} {ws:Mem},R0 ds=false→∃s' x',A0 ws F3.e F3.ks s'=some x'∧x'.ev ρ=F3.rows ds∧∀(σ:As) u,ρ.w=w0→(V.tup [.agg [.z (.int .i64 (.lit 0)),.z (.int .i64 (.lit 0)),.z (.int .i64 (.lit 0)),.z (.int .i64 (.lit 0)),.z (.int .i64 (.lit 0)),.z (.const (.slice none 0 0))],.one (.z (.int .i64 (.lit 1)))]).den ρ σ u→∃v,s'.den ρ σ v∧u=coV ds v:=fun h=>by
  rw[h] at hR
  exact P4 (x:= .nil) rfl (by rw[hR];rfl) (fun v=>by rw[hV,h];rfl)
 clear hr
 simp only[a4Q,g9,Nat.reduceBEq,Nat.reduceLT,Nat.reduceSub,a0a,I5]
 generalize e0:a7 ds 0=x at*
 generalize e1:a7 ds 1=y at*
 generalize e2:a7 ds 2=s at*
 generalize e3:a7 ds 3=w at*
 generalize e4:a7 ds 4=h at*
 generalize e5:b9 ds 5=r at*
 generalize e6:a7 ds 6=k at*
 refine⟨fun hg=>bad (by rw[hO,hg,Bool.false_and]),fun hg=>⟨fun q=>bad (by rw[hO,decide_eq_false (by omega),Bool.and_false]),fun q1=>⟨fun q=>bad (by rw[hO,decide_eq_false (by omega),Bool.and_false]),fun q2=>⟨by omega,fun q=>bad (by rw[hO,decide_eq_false (fun z=>q z.2.2.1),Bool.and_false]),fun q3=>⟨by omega,fun q=>bad (by rw[hO,decide_eq_false (fun z=>q z.2.2.2.1),Bool.and_false]),fun q4=>⟨fun q=>bad ?_,fun q5=> ?_⟩⟩⟩⟩⟩⟩
 ·have p1:=o5 (a:=k) (b:=s) (m:=64) (n:=100000) (by omega) (by have:=(z9 hg).1;unfold s8 at this;omega) (by omega) (by have:=(z9 hg).1;unfold s8 at this;omega)
  rw[b8 (k*s) (by omega) (by omega)] at q
  rw[hO,decide_eq_false (by omega),Bool.and_false]
 ·obtain⟨hf,hl,hcell⟩:=z9 hg
  unfold s8 at hf
  obtain⟨⟨hs,hw,hh⟩,_⟩:=hf
  have p1:=o5 (a:=k) (b:=s) (m:=64) (n:=100000) (by omega) (by omega) (by omega) (by omega)
  have ews:IntKind.i64.wrap (k*s)=k*s:=b8 (k*s) (by omega) (by omega)
  rw[ews] at q5
  have hok:R0 ds=true:=by rw[hO,hg,decide_eq_true (by omega)];rfl
  rw[hok] at hR hV
  simp only[if_true] at hR hV
  obtain⟨W,rfl⟩:=Int.eq_ofNat_of_zero_le (a:=w) (by omega)
  obtain⟨H,rfl⟩:=Int.eq_ofNat_of_zero_le (a:=h) (by omega)
  obtain⟨K,rfl⟩:=Int.eq_ofNat_of_zero_le (a:=k) (by omega)
  have hn:r.length=W*H:=by
   have:(r.length:Int)=((W*H:Nat):Int):=by rw[hl];simp
   omega
  have hWH:W*H≤64*64:=Nat.mul_le_mul (by omega) (by omega)
  have hW:0<W:=by omega
  have hK:0<K:=by omega
  have dW:K∣W:=by
   have e:(W:Int).tmod K=((W % K:Nat):Int):=rfl
   have:=Classical.not_not.1 q3
   rw[e] at this
   exact Nat.dvd_of_mod_eq_zero (by omega)
  have dH:K∣H:=by
   have e:(H:Int).tmod K=((H % K:Nat):Int):=rfl
   have:=Classical.not_not.1 q4
   rw[e] at this
   exact Nat.dvd_of_mod_eq_zero (by omega)
  have hWK:W/K≤64:=Nat.le_trans (Nat.div_le_self _ _) (by omega)
  have hHK:H/K≤64:=Nat.le_trans (Nat.div_le_self _ _) (by omega)
  have hP:W/K*(H/K)≤64*64:=Nat.mul_le_mul hWK hHK
  have eW:IntKind.i64.wrap ((W:Int).tdiv K)=((W/K:Nat):Int):=by
   exact y3 (Nat.le_trans hWK (by decide))
  have eH:IntKind.i64.wrap ((H:Int).tdiv K)=((H/K:Nat):Int):=by
   exact y3 (Nat.le_trans hHK (by decide))
  have eP:IntKind.i64.wrap (((W/K:Nat):Int)*((H/K:Nat):Int))=((W/K*(H/K):Nat):Int):=by
   rw[←Int.natCast_mul]
   exact y3 (Nat.le_trans hP (by decide))
  refine⟨by omega,by omega,?_⟩
  simp only[Int.toNat_natCast] at hR
  have hlen:(O7 W H K (g8 r) (W*H)).length=W/K*(H/K):=a6o W H K (g8 r) (W*H)
  have hcell':∀c,c<W*H→0≤Grid.at_ (g8 r) c∧Grid.at_ (g8 r) c≤100000:=fun c hc=>hcell c (by omega)
  refine TT.sat_loop (fun v=>∃c:Nat,v.i 0=c∧c≤W/K*(H/K)∧v.d 2=g0 ((O7 W H K (g8 r) (W*H)).take c)) (fun v=>W/K*(H/K)-(v.i 0).toNat)
   ⟨0,by simp [j5,i8,E.ev],by omega,by simp [D4,i8,X.ev,g0]⟩ (fun v hv=> ?_)
  obtain⟨c,c0,c1,c2⟩:=hv
  simp only[g9,Nat.reduceBEq,Nat.reduceLT,Nat.reduceSub,c0,c2,e0,e1,e2,e3,e4,e5,e6,hn,eW,eH,eP]
  refine⟨fun hc=> ?_,fun hc=> ?_⟩
  ·have hcc:c<W/K*(H/K):=by omega
   refine TT.sat_loop (fun u=>∃y:Nat,u.i 1=y∧y≤K∧b0o (g8 r) W K c (u.i 0) (y*K)) (fun u=>K-(u.i 1).toNat)
    ⟨0,by simp [j5,i8,E.ev],by omega,by simpa [j5,i8,E.ev] using c0N _ _ _ _⟩ (fun u hu=> ?_)
   obtain⟨y,y0,y1,y2⟩:=hu
   simp only[g9,Nat.reduceBEq,Nat.reduceLT,Nat.reduceSub,c0,c2,y0,e0,e1,e2,e3,e4,e5,e6,hn,eW,eH,eP]
   refine⟨fun hy=> ?_,fun hy=> ?_⟩
   ·have hyK:y<K:=by omega
    refine TT.sat_loop (fun t=>∃x:Nat,t.i 1=x∧x≤K∧b0o (g8 r) W K c (t.i 0) (y*K+x)) (fun t=>K-(t.i 1).toNat)
     ⟨0,by simp [j5,i8,E.ev],by omega,by simpa [j5,i8,E.ev,F6] using y2⟩ (fun t ht=> ?_)
    obtain⟨x,x0,x1,x2⟩:=ht
    simp only[g9,Nat.reduceBEq,Nat.reduceLT,Nat.reduceSub,c0,c2,y0,x0,e0,e1,e2,e3,e4,e5,e6,hn,eW,eH,eP]
    refine⟨fun hx=> ?_,fun hx=> ?_⟩
    ·have hxK:x<K:=by omega
     obtain⟨u1,v1,ek⟩:=c6s hK dW dH hW hcc hxK hyK
     have hq:=Q2 hxK hyK
     have hlt:=(b4l hK dW dH hW hcc hq).1
     have hs:=c1c x2
     rw[ek] at hlt hs
     have m1:W*(c/(W/K)*K+y)≤64*64:=Nat.mul_le_mul (by omega) (by omega)
     have t2:IntKind.i64.wrap ((c:Int).tdiv ((W/K:Nat):Int))=((c/(W/K):Nat):Int):=by
      exact y3 (Nat.le_trans (Nat.div_le_self _ _) (by omega))
     have t3:IntKind.i64.wrap ((c:Int).tmod ((W/K:Nat):Int)*(K:Int))=((c % (W/K)*K:Nat):Int):=by
      exact y3 (n:=c % (W/K)*K) (by omega)
     have t4:IntKind.i64.wrap (((c % (W/K)*K:Nat):Int)+(x:Int))=((c % (W/K)*K+x:Nat):Int):=by
      exact y3 (n:=c % (W/K)*K+x) (by omega)
     have t5:IntKind.i64.wrap (((c/(W/K):Nat):Int)*(K:Int))=((c/(W/K)*K:Nat):Int):=by
      exact y3 (n:=c/(W/K)*K) (by omega)
     have t6:IntKind.i64.wrap (((c/(W/K)*K:Nat):Int)+(y:Int))=((c/(W/K)*K+y:Nat):Int):=by
      exact y3 (n:=c/(W/K)*K+y) (by omega)
     have t7:IntKind.i64.wrap ((W:Int)*((c/(W/K)*K+y:Nat):Int))=((W*(c/(W/K)*K+y):Nat):Int):=by
      exact y3 (n:=W*(c/(W/K)*K+y)) (by omega)
     have t8:IntKind.i64.wrap (((c % (W/K)*K+x:Nat):Int)+((W*(c/(W/K)*K+y):Nat):Int))=((c % (W/K)*K+x+W*(c/(W/K)*K+y):Nat):Int):=by
      exact y3 (n:=c % (W/K)*K+x+W*(c/(W/K)*K+y)) (by omega)
     have x6:IntKind.i64.wrap ((x:Int)+1)=((x+1:Nat):Int):=by rw[b8 _ (by omega) (by omega)];omega
     rw[t2,t3,t4,t5,t6,t7,t8,x6,C6 (by omega)]
     have hWp:W/K≠0:=fun e=>by rw[e,Nat.zero_mul] at hcc;omega
     exact⟨by omega,by omega,by omega,by omega,⟨x+1,rfl,by omega,hs⟩,by rw[Int.toNat_natCast,Int.toNat_natCast];omega⟩
    ·have hxK:x=K:=by omega
     subst hxK
     have x6:IntKind.i64.wrap ((y:Int)+1)=((y+1:Nat):Int):=by rw[b8 _ (by omega) (by omega)];omega
     have e7:(y+1)*x=y*x+x:=by rw[Nat.add_mul,Nat.one_mul]
     rw[x6]
     exact⟨⟨y+1,rfl,by omega,by rw[e7];exact x2⟩,by rw[Int.toNat_natCast,Int.toNat_natCast];omega⟩
   ·have hyK:y=K:=by omega
    subst hyK
    have hd:=c6p hK dW dH hW hcell' hcc y2
    have x6:IntKind.i64.wrap ((c:Int)+1)=((c+1:Nat):Int):=by rw[b8 _ (by omega) (by omega)];omega
    have ht:=c8A (L:=O7 W H y (g8 r) (W*H)) (c:=c) (by omega)
    rw[x6,List.append_nil,K0,hd,←ht,s7,List.length_take]
    exact⟨by omega,⟨c+1,rfl,by omega,rfl⟩,by rw[Int.toNat_natCast,Int.toNat_natCast];omega⟩
  ·have hcn:c=W/K*(H/K):=by omega
   refine P4 (x:= .var 4002) (by kernel_rfl) ?_ (fun v'=> ?_)
   ·rw[hR]
    simp only[X.ev,x7,g9,Nat.reduceBEq,Nat.reduceLT,Nat.reduceSub,c2]
    rw[hcn,List.take_of_length_le (by omega)]
   ·rw[hV]
    simp only[g9,Nat.reduceBEq,Nat.reduceLT,Nat.reduceSub,e0,e1,e2,e3,e4,e6,ews,eW,eH]
    rfl
mutual
def D.eqb:D→D→Bool
 | .i a,b=>match b with | .i c=>decide (a=c) | _=>false
 | .b a,b=>match b with | .b c=>a == c | _=>false
 | .l a,b=>match b with | .l c=>O8 a c | _=>false
def O8:List (List D)→List (List D)→Bool
 | [],b=>match b with | []=>true | _=>false
 | r::a,b=>match b with | r'::b'=>a0T r r'&&O8 a b' | _=>false
def a0T:List D→List D→Bool
 | [],b=>match b with | []=>true | _=>false
 | d::a,b=>match b with | d'::b'=>D.eqb d d'&&a0T a b' | _=>false
end
mutual
theorem D.eqb_eq:∀(a b:D),D.eqb a b=true→a=b
 | .i a,b,h=>by cases b<;>simp [D.eqb] at h;rw[h]
 | .b a,b,h=>by cases b<;>simp [D.eqb] at h;rw[h]
 | .l a,b,h=>by cases b<;>simp [D.eqb] at h;rw[a1G _ _ h]
theorem a1G:∀(a b:List (List D)),O8 a b=true→a=b
 | [],b,h=>by cases b<;>simp [O8] at h;rfl
 | r::a,b,h=>by cases b<;>simp [O8] at h;rw[b0P _ _ h.1,a1G _ _ h.2]
theorem b0P:∀(a b:List D),a0T a b=true→a=b
 | [],b,h=>by cases b<;>simp [a0T] at h;rfl
 | r::a,b,h=>by cases b<;>simp [a0T] at h;rw[D.eqb_eq _ _ h.1,b0P _ _ h.2]
end
mutual
theorem D.eqb_self:∀(a:D),D.eqb a a=true
 | .i a=>by simp [D.eqb]
 | .b a=>by simp [D.eqb]
 | .l a=>by simp [D.eqb,a0h a]
theorem a0h:∀(a:List (List D)),O8 a a=true
 | []=>by simp [O8]
 | r::a=>by simp [O8,a6T r,a0h a]
theorem a6T:∀(a:List D),a0T a a=true
 | []=>by simp [a0T]
 | r::a=>by simp [a0T,D.eqb_self r,a6T a]
end
def b8T(ds:List D):Bool:=O8 (b9 ds 0) (b9 ds 1)
theorem d0l{W:World}{vals:List Value}{ds:List D}{ks:List CK}{sh:List Sh}(h:T4 W (.one (.sl ks)::sh) vals ds):(b9 ds 0).length≤281474976710656:=by
 obtain⟨v,vs',d,ds',rfl,rfl,⟨d,rfl,h⟩,_⟩:=h
 rw[R1] at h
 obtain⟨r,rfl,a,n,c,_,hs,_⟩:=h
 have e1:=hs.len
 have e2:=hs.big
 show r.length≤_
 omega
theorem c3j(W:World)(ds l:List D):(a9 B7 W ds).fb 30 l=P9 l:=by simp only[a9,B7,B9,y6,B4,B3,w8,K82,W8,I9,R5,T2,L4,E6,L6,M0,F4,B8,KI,KH,KG,KF,KE,KD,KC,KB,KA,K9,K8,K7,K6,K5,K]
theorem c3N(W:World)(ds l:List D):(a9 B7 W ds).fb 31 l=S4 l:=by simp only[a9,B7,B9,y6,B4,B3,w8,K82,W8,I9,R5,T2,L4,E6,L6,M0,F4,B8,KI,KH,KG,KF,KE,KD,KC,KB,KA,K9,K8,K7,K6,K5,K]
theorem d3K:m8 Tryz.prog 46 [bx,bx] R4:=by
 refine GivesIf.all (i7 B7 (by kernel_rfl) (fun ρ h=>a9w (Sees.of h 210) (SeesD.of h 8)) (by kernel_rfl) c2Z b8B (by decide) (fun W vals ds _ _=> ?_))
 simp only[b3r,g9,Nat.reduceBEq,Nat.reduceLT,Nat.reduceSub,c3N,c3j,a4s,a2h]
 cases h1:o8 (a7 ds 0) (a7 ds 1) (a7 ds 2) (a7 ds 3)
 ·simp [R4,G5,h1,J5]
 ·cases h2:o8 (a7 ds 4) (a7 ds 5) (a7 ds 6) (a7 ds 7)
  ·simp [R4,G5,h1,h2,J5]
  ·rw[show R4 ds=if Q9 ds=true then J5 (max (a7 ds 0) (a7 ds 4)) (min (a7 ds 1) (a7 ds 5)) (max (a7 ds 2) (a7 ds 6)) (min (a7 ds 3) (a7 ds 7)) 0 else J5 0 0 0 0 4 from by simp [R4,G5,h1,h2]]
   simp only[P3 h1,P3 h2,reduceCtorEq,false_implies,forall_const,true_and,and_true]
   have T:∀ {v:Value},Q9 ds=true→(v=if Q9 ds=true then v else J5 0 0 0 0 4):=fun h=>(if_pos h).symm
   have F:∀ {v:Value},Q9 ds=false→(J5 0 0 0 0 4=if Q9 ds=true then v else J5 0 0 0 0 4):=fun h=>(if_neg (by rw[h];decide)).symm
   have hF:¬(max (a7 ds 0) (a7 ds 4)≤min (a7 ds 1) (a7 ds 5)∧max (a7 ds 2) (a7 ds 6)≤min (a7 ds 3) (a7 ds 7))→Q9 ds=false:=fun h=>decide_eq_false h
   exact⟨fun a=>⟨fun b=>F (hF (by omega)),fun b=>F (hF (by omega))⟩,fun a=>⟨fun b=>F (hF (by omega)),fun b=>T (decide_eq_true (by omega))⟩⟩
theorem d3P:m8 Tryz.prog 44 [bx,bx] Y7:=by
 refine GivesIf.all (i7 B7 (by kernel_rfl) (fun ρ h=>a9w (Sees.of h 210) (SeesD.of h 8)) (by kernel_rfl) c2L b9T (by decide) (fun W vals ds _ _=> ?_))
 simp only[b2t,g9,Nat.reduceBEq,Nat.reduceLT,Nat.reduceSub,c3N,c3j,a4s,a2h]
 cases h1:o8 (a7 ds 0) (a7 ds 1) (a7 ds 2) (a7 ds 3)
 ·simp [Y7,H6,G5,h1,M2]
 ·cases h2:o8 (a7 ds 4) (a7 ds 5) (a7 ds 6) (a7 ds 7)
  ·simp [Y7,H6,G5,h1,h2,M2]
  ·simp only[P3 h1,P3 h2,reduceCtorEq,false_implies,forall_const,true_and,and_true]
   have hV:Y7 ds= .tuple #[.bool (decide (a7 ds 4≤a7 ds 0∧a7 ds 1≤a7 ds 5∧a7 ds 6≤a7 ds 2∧a7 ds 3≤a7 ds 7)),.int .i64 0]:=by simp [Y7,H6,G5,h1,h2,M2]
   have V:∀ {b:Bool},b=decide (a7 ds 4≤a7 ds 0∧a7 ds 1≤a7 ds 5∧a7 ds 6≤a7 ds 2∧a7 ds 3≤a7 ds 7)→Value.tuple #[.bool b,.int .i64 0]=Y7 ds:=fun h=>by rw[hV,h]
   refine⟨fun a=>⟨fun b=>⟨fun c=>V ?_,fun c=>V (decide_eq_false (by omega)).symm⟩,fun b=>⟨fun c=>V (decide_eq_false (by omega)).symm,fun c=>V (decide_eq_false (by omega)).symm⟩⟩,fun a=>⟨fun b=>V (decide_eq_false (by omega)).symm,fun b=>V (decide_eq_false (by omega)).symm⟩⟩
   rw[Bool.eq_iff_iff]
   simp only[n8,j8,decide_eq_true_eq]
   omega
theorem c3v{ρ:Env}(h:Sees ρ K5 50):i9 Tryz.prog ρ 46 a4V:=
 j7 d3K (fun _=>rfl) (fun al=>by
  simp only[bx5,V.val,V2.val,S.val,S0.val,w9,List.map_cons,List.map_nil,k8 (s:=37) (f:=a6j) (fun l=>by rw[(h 37 l (by decide)).1];simp only[K5]),k8 (s:=38) (f:=a3d) (fun l=>by rw[(h 38 l (by decide)).1];simp only[K5]),k8 (s:=39) (f:=a6g) (fun l=>by rw[(h 39 l (by decide)).1];simp only[K5]),k8 (s:=40) (f:=a6r) (fun l=>by rw[(h 40 l (by decide)).1];simp only[K5]),k8 (s:=41) (f:=a0J) (fun l=>by rw[(h 41 l (by decide)).1];simp only[K5])];rw[b3Q];rfl)
theorem c1B{ρ:Env}(h:Sees ρ K6 60):i9 Tryz.prog ρ 44 a6z:=
 j7 d3P (fun _=>rfl) (fun al=>by
  simp only[V.val,V2.val,S.val,S0.val,w9,T7,List.map_cons,List.map_nil,m9 (s:=51) (f:=H6) (fun l=>by rw[(h 51 l (by decide)).2];simp only[K6]),k8 (s:=36) (f:=M2) (fun l=>by rw[(h 36 l (by decide)).1];simp only[K6,K5])];rfl)
def coX(ds:List D):Int:=if R0 ds=true then a7 ds 0 else 0
def coY(ds:List D):Int:=if R0 ds=true then a7 ds 1 else 0
def coS(ds:List D):Int:=if R0 ds=true then a7 ds 6*a7 ds 2 else 0
def coW(ds:List D):Int:=if R0 ds=true then(a7 ds 3).tdiv (a7 ds 6) else 0
def coH(ds:List D):Int:=if R0 ds=true then(a7 ds 4).tdiv (a7 ds 6) else 0
def mkX(ds:List D):Int:=if R3 ds=true then a7 ds 1 else 0
def mkY(ds:List D):Int:=if R3 ds=true then a7 ds 2 else 0
def mkS(ds:List D):Int:=if R3 ds=true then a7 ds 3 else 0
def mkW(ds:List D):Int:=if R3 ds=true then a7 ds 4 else 0
def mkH(ds:List D):Int:=if R3 ds=true then a7 ds 5 else 0
theorem c9i(ds:List D)(v:Value):coV ds v=X6 (coX ds) (coY ds) (coS ds) (coW ds) (coH ds) v (coE ds):=by
 unfold coV coX coY coS coW coH coE;split<;>rfl
theorem c9S(ds:List D)(v:Value):mkV ds v=X6 (mkX ds) (mkY ds) (mkS ds) (mkW ds) (mkH ds) v (mkE ds):=by
 unfold mkV mkX mkY mkS mkW mkH mkE;split<;>rfl
def b4n(ds:List D):Bool:=decide ((a7 ds 0=a7 ds 6∧a7 ds 1=a7 ds 7∧a7 ds 2=a7 ds 8∧a7 ds 3=a7 ds 9∧a7 ds 4=a7 ds 10))&&O8 (b9 ds 5) (b9 ds 11)
def C2:Interp where
 fi n l:=match n with | 214=>coX l | 215=>coY l | 216=>coS l | 217=>coW l | 218=>coH l | 219=>coE l | 220=>mkX l | 221=>mkY l | 222=>mkS l | 223=>mkW l | 224=>mkH l | 225=>mkE l | n=>B7.fi n l
 fb n l:=match n with | 210=>a1O l | 211=>Q7 l | 212=>b8T l | 213=>b4n l | n=>B7.fb n l
 fd n l:=B7.fd n l
theorem c9l{ρ:Env}(h:Sees ρ C2 230):Sees ρ B7 210:=h.trans (by decide) fun n l hn=>by
 refine⟨?_,?_⟩
 ·
  simp only[C2]
  split<;>first | omega | rfl
 ·
  simp only[C2]
  split<;>first | omega | rfl
def c2d:=u7 [S6,S6] fun al=> .ob (.tru (bF 211 Q7 al)) (.ret (bV (bF 210 a1O al)))
theorem c0O{ρ:Env}(h:Sees ρ C2 230):i9 Tryz.prog ρ 38 c2d:=by
 refine C7 d3T (fun al v hv=> ?_)
 obtain⟨ho,hv⟩:=hv
 obtain rfl:=c9 hv
 refine⟨rfl,?_,?_⟩
 ·have h1:(bF 211 Q7 al).ev ρ=true:=ho
  rw[m9 (s:=211) (f:=Q7) (fun l=>by rw[(h 211 l (by decide)).2];simp only[C2])] at h1
  exact h1
 ·simp only[iV,bV,V.s0,V.val,V2.val,S.val,S0.val,m9 (s:=210) (f:=a1O) (fun l=>by rw[(h 210 l (by decide)).2];simp only[C2])];try rfl
def c1q:=u7 [G4] fun al=> .ret (bV (bF 140 M7 al))
theorem c3b{ρ:Env}(h:Sees ρ C2 230):i9 Tryz.prog ρ 36 c1q:=
 j7 c6U (fun _=>rfl) (fun al=>by simp only[iV,bV,V.s0,V.val,V2.val,S.val,S0.val,m9 (s:=140) (f:=M7) (fun l=>by rw[(h 140 l (by decide)).2];simp only[C2,B7,B9,y6,B4,B3,w8])];try rfl)
theorem c9F{ρ:Env}(h:SeesD ρ C2 8):SeesD ρ B7 8:=fun n l hn=>(h n l hn).trans rfl
def b0l:Ct:=(46,a4V)::(44,a6z)::(38,c2d)::(36,c1q)::b9K
theorem a3p{ρ:Env}(h:Sees ρ C2 230)(hd:SeesD ρ C2 8):CtOk Tryz.prog ρ b0l:=
 have hk:=c9l h
 have h6:=a8z (b0g (a9P (a9F (b0w (a9k hk)))))
 .cons (c3v (b7Q h6))<| .cons (c1B h6)<| .cons (c0O h)<| .cons (c3b h)<|a9w hk (c9F hd)
end Go.Proofs.YtcjaembdcfppfaaGreat
