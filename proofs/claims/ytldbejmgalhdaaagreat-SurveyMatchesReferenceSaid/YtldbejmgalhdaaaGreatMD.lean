/- MD, merged: Cg0, Yk, TCg, Cg, TCh, Ch, TCi, Ci, TCj, Cj, TCk, Ck, Cl, TCm, Cm, TCn, Cn. -/
import Derived.Test.YtldbejmgalhdaaaGreatMC
import Derived.Test.YtldbejmgalhdaaaGreatMY
set_option linter.unusedSimpArgs false
set_option linter.unusedVariables false
namespace Go.Proofs.YtldbejmgalhdaaaGreat
open Go.RowKit
mutual
def V5:X→Option Rows
 | .nil=>some []
 | .row l=>match a0w l with | some a=>some [a] | none=>none
 | .app x y=>match V5 x,V5 y with | some a,some b=>some (a++b) | _,_=>none
 | .sub x (.lit m) (.lit n)=>match V5 x with | some a=>some (m8 a m n) | none=>none
 | .upd x (.lit m) j l=>match V5 x,a0w l with | some a,some b=>some (a0A a m j b) | _,_=>none
 | .rep (.lit n) l=>match a0w l with | some b=>some (List.replicate n.toNat b) | none=>none
 | _=>none
def a0w:AL→Option (List D)
 | .nil=>some []
 | .i (.lit n) r=>match a0w r with | some l=>some (.i n::l) | none=>none
 | .b (.lit b) r=>match a0w r with | some l=>some (.b b::l) | none=>none
 | .x x r=>match V5 x,a0w r with | some a,some l=>some (.l a::l) | _,_=>none
 | _=>none
end
mutual
theorem a3F(ρ:Env):∀(x:X) (r:Rows),V5 x=some r→x.ev ρ=r
 | .nil,r,h=>by simp only[V5,Option.some.injEq] at h;subst h;simp [X.ev]
 | .row l,r,h=>by
   simp only[V5] at h
   split at h
   ·rename_i a ha
    simp only[Option.some.injEq] at h;subst h
    simp only[X.ev,U9 ρ l a ha]
   ·cases h
 | .app x y,r,h=>by
   simp only[V5] at h
   split at h
   ·rename_i a b ha hb
    simp only[Option.some.injEq] at h;subst h
    simp only[X.ev,a3F ρ x a ha,a3F ρ y b hb]
   ·cases h
 | .var _,r,h=>by simp [V5] at h
 | .rd _ _ _,r,h=>by simp [V5] at h
 | .sub x lo hi,r,h=>by
   cases lo<;>(try (simp only[V5,reduceCtorEq] at h;done))
   cases hi<;>simp only[V5,reduceCtorEq] at h
   split at h
   ·rename_i a ha
    simp only[Option.some.injEq] at h;subst h
    simp only[X.ev,E.ev,a3F ρ x a ha]
   ·cases h
 | .upd x i j l,r,h=>by
   cases i<;>simp only[V5,reduceCtorEq] at h
   split at h
   ·rename_i a b ha hb
    simp only[Option.some.injEq] at h;subst h
    simp only[X.ev,E.ev,a3F ρ x a ha,U9 ρ l b hb]
   ·cases h
 | .fn _ _,r,h=>by simp [V5] at h
 | .rep n l,r,h=>by
   cases n<;>simp only[V5,reduceCtorEq] at h
   split at h
   ·rename_i b hb
    simp only[Option.some.injEq] at h;subst h
    simp only[X.ev,E.ev,U9 ρ l b hb]
   ·cases h
theorem U9(ρ:Env):∀(a:AL) (l:List D),a0w a=some l→a.ev ρ=l
 | .nil,l,h=>by simp only[a0w,Option.some.injEq] at h;subst h;simp [AL.ev]
 | .i e r,l,h=>by
   cases e<;>simp only[a0w,reduceCtorEq] at h
   split at h
   ·rename_i m hm
    simp only[Option.some.injEq] at h;subst h
    simp only[AL.ev,E.ev,U9 ρ r m hm]
   ·cases h
 | .b e r,l,h=>by
   cases e<;>simp only[a0w,reduceCtorEq] at h
   split at h
   ·rename_i m hm
    simp only[Option.some.injEq] at h;subst h
    simp only[AL.ev,B.ev,U9 ρ r m hm]
   ·cases h
 | .x x r,l,h=>by
   simp only[a0w] at h
   split at h
   ·rename_i a m ha hm
    simp only[Option.some.injEq] at h;subst h
    simp only[AL.ev,a3F ρ x a ha,U9 ρ r m hm]
   ·cases h
end
def bF(s:Nat)(f:List D→Bool)(al:AL):B:=match a0w al with | some l=> .lit (f l) | none=> .fn s al
def iF(s:Nat)(f:List D→Int)(al:AL):E:=match a0w al with | some l=> .lit (f l) | none=> .fn s al
theorem k7{ρ:Env}{s:Nat}{f:List D→Bool}(h:∀l,ρ.fb s l=f l)(al:AL):(bF s f al).ev ρ=f (al.ev ρ):=by
 unfold bF
 split
 ·rename_i l hl;simp only[B.ev,U9 ρ al l hl]
 ·simp only[B.ev,h]
theorem o6{ρ:Env}{s:Nat}{f:List D→Int}(h:∀l,ρ.fi s l=f l)(al:AL):(iF s f al).ev ρ=f (al.ev ρ):=by
 unfold iF
 split
 ·rename_i l hl;simp only[E.ev,U9 ρ al l hl]
 ·simp only[E.ev,h]
def G8(s:Nat)(f:List D→Bool)(al:AL):S:= .z (.bool (bF s f al))
def w6(s:Nat)(f:List D→Int)(al:AL):S:= .z (.int .i64 (iF s f al))
def b4z:Interp:= { fi:=fun n l=>match n with | 0=>H5 l | _=>0,fb:=fun n l=>match n with | 1=>s8 l | 3=>s9 l | 4=>onL l | _=>false,fd:=fun _ _=>[] }
def a5P:=o7 [pt,pt,pt] fun al=> .ob (.tru (bF 1 s8 al)) (.ret (iV .i64 (iF 0 H5 al)))
def b0v:=o7 [pt,pt,pt] fun al=> .ob (.tru (bF 1 s8 al)) (.ret (bV (bF 4 onL al)))
theorem c4v{ρ:Env}(h1:∀l,ρ.fb 1 l=s8 l)(h0:∀l,ρ.fi 0 l=H5 l):i9 Tryz.prog ρ 153 a5P:=by
 refine A0 c6A (fun al v hv=> ?_)
 obtain⟨ho,hv⟩:=hv
 obtain rfl:=g7 hv
 have ho:(bF 1 s8 al).ev ρ=true:=ho
 rw[k7 h1] at ho
 refine⟨rfl,a3O ho,?_⟩
 simp only[iV,V.s0,V.val,V2.val,S.val,S0.val,o6 h0,H5]
theorem b9E{ρ:Env}(h1:∀l,ρ.fb 1 l=s8 l)(h4:∀l,ρ.fb 4 l=onL l):i9 Tryz.prog ρ 163 b0v:=by
 refine A0 d9h (fun al v hv=> ?_)
 obtain⟨ho,hv⟩:=hv
 obtain rfl:=g7 hv
 have ho:(bF 1 s8 al).ev ρ=true:=ho
 rw[k7 h1] at ho
 refine⟨rfl,ho,?_⟩
 simp only[bV,V.s0,V.val,V2.val,S.val,S0.val,k7 h4]
def ctM:Ct:=[(153,a5P),(163,b0v)]
theorem d4X{ρ:Env}(h:ρ.has b4z):CtOk Tryz.prog ρ ctM:=
 .cons (c4v (fun l=>by rw[h.2.1];rfl) (fun l=>by rw[h.1];rfl))<| .cons (b9E (fun l=>by rw[h.2.1];rfl) (fun l=>by rw[h.2.1];rfl)) .nil
def SeesD(ρ:Env)(I:Interp)(c:Nat):Prop:=∀n l,n<c→ρ.fd n l=I.fd n l
theorem SeesD.of{ρ:Env}{I:Interp}(h:ρ.has I)(c:Nat):SeesD ρ I c:=fun n l _=>by rw[h.2.2]
def dA:List D→Option AL
 | []=>some .nil
 | .i n::r=>(dA r).map (.i (.lit n))
 | .b x::r=>(dA r).map (.b (.lit x))
 | .l _::_=>none
def dX:Rows→Option X
 | []=>some .nil
 | r::t=>match dA r,dX t with | some a,some x=>some (.app (.row a) x) | _,_=>none
theorem c3Q(ρ:Env):∀(r:List D) (a:AL),dA r=some a→a.ev ρ=r
 | [],a,h=>by simp only[dA,Option.some.injEq] at h;subst h;simp [AL.ev]
 | .i n::r,a,h=>by
   simp only[dA,Option.map_eq_some_iff] at h
   obtain⟨b,hb,rfl⟩:=h
   simp [AL.ev,E.ev,c3Q ρ r b hb]
 | .b n::r,a,h=>by
   simp only[dA,Option.map_eq_some_iff] at h
   obtain⟨b,hb,rfl⟩:=h
   simp [AL.ev,B.ev,c3Q ρ r b hb]
 | .l _::_,a,h=>by simp [dA] at h
theorem d0i(ρ:Env):∀(r:Rows) (x:X),dX r=some x→x.ev ρ=r
 | [],x,h=>by simp only[dX,Option.some.injEq] at h;subst h;simp [X.ev]
 | r::t,x,h=>by
   simp only[dX] at h
   split at h
   ·rename_i a y ha hy
    simp only[Option.some.injEq] at h
    subst h
    simp [X.ev,c3Q ρ r a ha,d0i ρ t y hy]
   ·cases h
def dF(s:Nat)(f:List D→Rows)(al:AL):X:=match a0w al with
 | some l=>match dX (f l) with | some x=>x | none=> .fn s al
 | none=> .fn s al
theorem b4b{ρ:Env}{s:Nat}{f:List D→Rows}(h:∀l,ρ.fd s l=f l)(al:AL):(dF s f al).ev ρ=f (al.ev ρ):=by
 unfold dF
 split
 ·rename_i l hl
  split
  ·rename_i x hx
   rw[d0i ρ _ x hx,U9 ρ al l hl]
  ·simp only[X.ev,h]
 ·simp only[X.ev,h]
def a9r(sh:List Sh)(l:NL)(obs:AL→List Ob)(args:List V)(mem:Mem)(nx:Nat):T j6:=match U5 mem sh args with
 | some al=> .obs (obs al) (.ret (.s0 (.own nx (.lit 0)),[(nx,.own l.e l.ks (dF l.s l.rows al) (.lit 0))],nx+1))
 | none=> .stuck "new list"
theorem a7H{P:Program}{ρ:Env}{f:FuncId}{sh:List Sh}{l:NL}{ok:List D→Prop}(hg:B9 P f sh [l] ok (fun _ _ vs u=>∃v,vs=[v]∧u=v))(hf:l.ks.all CK.flat=true){obs:AL→List Ob}
 (hobs:∀al,(∀o∈obs al,o.ok ρ)→ok (al.ev ρ)) (hs:∀a,ρ.fd l.s a=l.rows a):i9 P ρ f (a9r sh l obs):=by
 intro args mem nx q hq hle σ W vals hr hfr hd
 unfold a9r at hq
 split at hq
 ·rename_i al ha
  obtain⟨ho,hq⟩:=T.res_obs hq
  obtain rfl:=g7 hq
  have hc:=hg W W vals (al.ev ρ) (Below.refl _ _) (a0P hr sh args al ha vals hd) (hobs al ho)
  have hw:CallsIn Fence.wide 0 P f vals.toArray W _:=callsIn_wide.2 hc
  refine CallsIn.mono (F:=FR none) hw ?_
  rintro en W' ⟨vs,u,rfl,⟨v,rfl,rfl⟩,hb,hn⟩
  obtain⟨xs,h1,h2,h3,⟨a,c,rfl⟩,h5⟩:=hn.each 0 l _ rfl rfl
  have hnx:=hfr nx (Nat.le_refl _) (Nat.lt_succ_self _)
  have hnone:∀k,σ.h nx k= .none:=fun k=>by
   cases hk:σ.h nx k with
   | none=>rfl
   | some y=>exact absurd (.inr ⟨k,y,hk⟩) hnx
  have hx:=b4b (ρ:=ρ) (s:=l.s) (f:=l.rows) hs al
  have hstep:=G4 (ρ:=ρ) (σ:=σ) (W:=W) (id:=nx) (t:=l.e) (ks:=l.ks) (x:=dF l.s l.rows al) (ver:= .lit 0) (v:= .slice .none 0 0) (W':=W') (xs:=xs) (fun i a hi=>hr.lt i a hi) (hnone _) (fun u _=>hnone u) hr.inj (fun k hk=>by cases hk)
   (by
    rw[hx]
    exact⟨h1.base hr.base.size,hb.os,hb.tape,hb.output,hb.size,fun k hk _=>hb.block k hk,fun k hk=> .inr (h5 k hk),Keep.of_eq (fun k hk=>hb.block k hk),a,c,rfl⟩)
   (by rw[hx];exact fun i row hi=>a1l hf (h2.2 i row hi)) (by rw[hx];exact h3)
  exact⟨_,_,rfl,⟨⟨a,_,c,rfl⟩,As.say_self⟩,hstep,fun i hi=>(F7 hi).imp (fun h=>h) (fun h=>⟨by omega,by show i<nx+1;omega⟩)⟩
 ·exact hq.elim
def a9c(sh:List Sh)(l:NL)(obs:AL→List Ob)(out:AL→Nat→V)(args:List V)(mem:Mem)(nx:Nat):T j6:=match U5 mem sh args with
 | some al=> .obs (obs al) (.ret (out al nx,[(nx,.own l.e l.ks (dF l.s l.rows al) (.lit 0))],nx+1))
 | none=> .stuck "new list"
theorem a8F{P:Program}{ρ:Env}{f:FuncId}{sh:List Sh}{l:NL}{ok:List D→Prop}{res:List D→Value→Value}(hg:B9 P f sh [l] ok (fun _ ds vs u=>∃v,vs=[v]∧u=res ds v))(hf:l.ks.all CK.flat=true){obs:AL→List Ob}
 (hobs:∀al,(∀o∈obs al,o.ok ρ)→ok (al.ev ρ)) (hs:∀a,ρ.fd l.s a=l.rows a) {out:AL→Nat→V}
 (hout:∀(al:AL) (nx:Nat) (σ':As) (v:Value),(S0.own nx (.lit 0)).den ρ σ' v→(out al nx).den ρ σ' (res (al.ev ρ) v)):i9 P ρ f (a9c sh l obs out):=by
 intro args mem nx q hq hle σ W vals hr hfr hd
 unfold a9c at hq
 split at hq
 ·rename_i al ha
  obtain⟨ho,hq⟩:=T.res_obs hq
  obtain rfl:=g7 hq
  have hc:=hg W W vals (al.ev ρ) (Below.refl _ _) (a0P hr sh args al ha vals hd) (hobs al ho)
  have hw:CallsIn Fence.wide 0 P f vals.toArray W _:=callsIn_wide.2 hc
  refine CallsIn.mono (F:=FR none) hw ?_
  rintro en W' ⟨vs,u,rfl,⟨v,rfl,rfl⟩,hb,hn⟩
  obtain⟨xs,h1,h2,h3,⟨a,c,rfl⟩,h5⟩:=hn.each 0 l _ rfl rfl
  have hnx:=hfr nx (Nat.le_refl _) (Nat.lt_succ_self _)
  have hnone:∀k,σ.h nx k= .none:=fun k=>by
   cases hk:σ.h nx k with
   | none=>rfl
   | some y=>exact absurd (.inr ⟨k,y,hk⟩) hnx
  have hx:=b4b (ρ:=ρ) (s:=l.s) (f:=l.rows) hs al
  have hstep:=G4 (ρ:=ρ) (σ:=σ) (W:=W) (id:=nx) (t:=l.e) (ks:=l.ks) (x:=dF l.s l.rows al) (ver:= .lit 0) (v:= .slice .none 0 0) (W':=W') (xs:=xs) (fun i a hi=>hr.lt i a hi) (hnone _) (fun u _=>hnone u) hr.inj (fun k hk=>by cases hk)
   (by
    rw[hx]
    exact⟨h1.base hr.base.size,hb.os,hb.tape,hb.output,hb.size,fun k hk _=>hb.block k hk,fun k hk=> .inr (h5 k hk),Keep.of_eq (fun k hk=>hb.block k hk),a,c,rfl⟩)
   (by rw[hx];exact fun i row hi=>a1l hf (h2.2 i row hi)) (by rw[hx];exact h3)
  exact⟨_,_,rfl,hout al nx _ _ ⟨⟨a,_,c,rfl⟩,As.say_self⟩,hstep,fun i hi=>(F7 hi).imp (fun h=>h) (fun h=>⟨by omega,by show i<nx+1;omega⟩)⟩
 ·exact hq.elim
def b1j:TT j6:=
(.ob (.tru (.fn 1 (.i (.var 0) (.i (.var 1) (.i (.var 2) (.i (.var 3) (.i (.var 4) (.i (.var 5) .nil))))))))
(.ob (.tru (.fn 1 (.i (.var 0) (.i (.var 1) (.i (.var 2) (.i (.var 3) (.i (.var 6) (.i (.var 7) .nil))))))))
(.ite (.cmp .lss (.ar .mul .i64 (.fn 0 (.i (.var 0) (.i (.var 1) (.i (.var 2) (.i (.var 3) (.i (.var 4) (.i (.var 5) .nil))))))) (.fn 0 (.i (.var 0) (.i (.var 1) (.i (.var 2) (.i (.var 3) (.i (.var 6) (.i (.var 7) .nil)))))))) (.lit 0))
 (.ob (.tru (.fn 1 (.i (.var 4) (.i (.var 5) (.i (.var 6) (.i (.var 7) (.i (.var 0) (.i (.var 1) .nil))))))))
 (.ob (.tru (.fn 1 (.i (.var 4) (.i (.var 5) (.i (.var 6) (.i (.var 7) (.i (.var 2) (.i (.var 3) .nil))))))))
 (.ite (.cmp .lss (.ar .mul .i64 (.fn 0 (.i (.var 4) (.i (.var 5) (.i (.var 6) (.i (.var 7) (.i (.var 0) (.i (.var 1) .nil))))))) (.fn 0 (.i (.var 4) (.i (.var 5) (.i (.var 6) (.i (.var 7) (.i (.var 2) (.i (.var 3) .nil)))))))) (.lit 0))
 (.ret ((.v (.one (.z (.bool (.lit true))))),[],4))
 (.ob (.tru (.fn 1 (.i (.var 0) (.i (.var 1) (.i (.var 4) (.i (.var 5) (.i (.var 6) (.i (.var 7) .nil))))))))
 (.ite (.fn 4 (.i (.var 0) (.i (.var 1) (.i (.var 4) (.i (.var 5) (.i (.var 6) (.i (.var 7) .nil)))))))
 (.ret ((.v (.one (.z (.bool (.lit true))))),[],4))
 (.ob (.tru (.fn 1 (.i (.var 2) (.i (.var 3) (.i (.var 4) (.i (.var 5) (.i (.var 6) (.i (.var 7) .nil))))))))
 (.ite (.fn 4 (.i (.var 2) (.i (.var 3) (.i (.var 4) (.i (.var 5) (.i (.var 6) (.i (.var 7) .nil)))))))
 (.ret ((.v (.one (.z (.bool (.lit true))))),[],4))
 (.ob (.tru (.fn 1 (.i (.var 4) (.i (.var 5) (.i (.var 0) (.i (.var 1) (.i (.var 2) (.i (.var 3) .nil))))))))
 (.ite (.fn 4 (.i (.var 4) (.i (.var 5) (.i (.var 0) (.i (.var 1) (.i (.var 2) (.i (.var 3) .nil)))))))
 (.ret ((.v (.one (.z (.bool (.lit true))))),[],4))
 (.ob (.tru (.fn 1 (.i (.var 6) (.i (.var 7) (.i (.var 0) (.i (.var 1) (.i (.var 2) (.i (.var 3) .nil))))))))
 (.ret ((.v (.one (.z (.bool (.fn 4 (.i (.var 6) (.i (.var 7) (.i (.var 0) (.i (.var 1) (.i (.var 2) (.i (.var 3) .nil))))))))))),[],4))))))))))))
 (.ob (.tru (.fn 1 (.i (.var 0) (.i (.var 1) (.i (.var 4) (.i (.var 5) (.i (.var 6) (.i (.var 7) .nil))))))))
 (.ite (.fn 4 (.i (.var 0) (.i (.var 1) (.i (.var 4) (.i (.var 5) (.i (.var 6) (.i (.var 7) .nil)))))))
 (.ret ((.v (.one (.z (.bool (.lit true))))),[],4))
 (.ob (.tru (.fn 1 (.i (.var 2) (.i (.var 3) (.i (.var 4) (.i (.var 5) (.i (.var 6) (.i (.var 7) .nil))))))))
 (.ite (.fn 4 (.i (.var 2) (.i (.var 3) (.i (.var 4) (.i (.var 5) (.i (.var 6) (.i (.var 7) .nil)))))))
 (.ret ((.v (.one (.z (.bool (.lit true))))),[],4))
 (.ob (.tru (.fn 1 (.i (.var 4) (.i (.var 5) (.i (.var 0) (.i (.var 1) (.i (.var 2) (.i (.var 3) .nil))))))))
 (.ite (.fn 4 (.i (.var 4) (.i (.var 5) (.i (.var 0) (.i (.var 1) (.i (.var 2) (.i (.var 3) .nil)))))))
 (.ret ((.v (.one (.z (.bool (.lit true))))),[],4))
 (.ob (.tru (.fn 1 (.i (.var 6) (.i (.var 7) (.i (.var 0) (.i (.var 1) (.i (.var 2) (.i (.var 3) .nil))))))))
 (.ret ((.v (.one (.z (.bool (.fn 4 (.i (.var 6) (.i (.var 7) (.i (.var 0) (.i (.var 1) (.i (.var 2) (.i (.var 3) .nil))))))))))),[],4))))))))))))
set_option maxRecDepth 100000 in
theorem c3L:T.norm 0 (call Tryz.prog ctM (Lt.of []) 100 155 (i6 0 [pt,pt,pt,pt]) [] 0) TT.ret=b1j:=by kernel_rfl
theorem b7R:b1j.low 1000=true:=by kernel_rfl
def t4(ax ay bx by' cx cy dx dy:Int):Bool:=
 decide (A5 ax ay bx by' cx cy*A5 ax ay bx by' dx dy<0∧A5 cx cy dx dy ax ay*A5 cx cy dx dy bx by'<0)||
 (D5 ax ay cx cy dx dy||(D5 bx by' cx cy dx dy||(D5 cx cy ax ay bx by'||D5 dx dy ax ay bx by')))
def L5(ds:List D):Bool:=t4 (c9 ds 0) (c9 ds 1) (c9 ds 2) (c9 ds 3) (c9 ds 4) (c9 ds 5) (c9 ds 6) (c9 ds 7)
def G9(ds:List D):Bool:=g9 (c9 ds 0) (c9 ds 1)&&(g9 (c9 ds 2) (c9 ds 3)&&(g9 (c9 ds 4) (c9 ds 5)&&g9 (c9 ds 6) (c9 ds 7)))
theorem b0g(n:Int): -1≤J2 n∧J2 n≤1:=by unfold J2;split<;>(try split)<;>omega
theorem a8U(a b c d e f:Int):onL [.i a,.i b,.i c,.i d,.i e,.i f]=D5 a b c d e f:=rfl
theorem d4I(W:World)(ds l:List D):(f0 b4z W ds).fb 1 l=s8 l:=rfl
theorem d5K(W:World)(ds l:List D):(f0 b4z W ds).fb 4 l=onL l:=rfl
theorem d5o(W:World)(ds l:List D):(f0 b4z W ds).fi 0 l=H5 l:=rfl
theorem d7g(a b:Int):IntKind.i64.wrap (J2 a*J2 b)=J2 a*J2 b:=by
 have h1:=b0g a
 have h2:=b0g b
 have:=N7 (a:=J2 a) (b:=J2 b) (A:=1) (B:=1) (by omega) (by omega) (by omega) (by omega)
 exact f8 _ (by omega) (by omega)
theorem d4y(a b c d e f a' b' c' d' e' f':Int):IntKind.i64.wrap (A5 a b c d e f*A5 a' b' c' d' e' f')=A5 a b c d e f*A5 a' b' c' d' e' f':=d7g _ _
theorem d3O:GivesIf Tryz.prog 155 [pt,pt,pt,pt] (fun ds=>G9 ds=true) (fun ds=> .bool (L5 ds)):=by
 refine i7 b4z (by kernel_rfl) (fun ρ h=>d4X h) (by kernel_rfl) c3L b7R (by decide) (fun W vals ds _ hok=> ?_)
 simp only[G9,Bool.and_eq_true] at hok
 obtain⟨p1,p2,p3,p4⟩:=hok
 simp only[b1j,g8,Nat.reduceBEq,Nat.reduceLT,Nat.reduceSub,d4I,d5K,d5o,U1,a2o,a8U]
 simp only[p1,p2,p3,p4,and_self,true_and,d4y]
 simp only[L5,t4]
 generalize D5 (c9 ds 0) (c9 ds 1) (c9 ds 4) (c9 ds 5) (c9 ds 6) (c9 ds 7)=o1
 generalize D5 (c9 ds 2) (c9 ds 3) (c9 ds 4) (c9 ds 5) (c9 ds 6) (c9 ds 7)=o2
 generalize D5 (c9 ds 4) (c9 ds 5) (c9 ds 0) (c9 ds 1) (c9 ds 2) (c9 ds 3)=o3
 generalize D5 (c9 ds 6) (c9 ds 7) (c9 ds 0) (c9 ds 1) (c9 ds 2) (c9 ds 3)=o4
 refine⟨fun h=>⟨fun h'=> ?_,fun h'=> ?_⟩,fun h=> ?_⟩
 ·rw[decide_eq_true ⟨h,h'⟩];rfl
 ·rw[decide_eq_false (fun q=>h' q.2)]
  cases o1<;>cases o2<;>cases o3<;>cases o4<;>simp
 ·rw[decide_eq_false (fun q=>h q.1)]
  cases o1<;>cases o2<;>cases o3<;>cases o4<;>simp
def c5h:=o7 [pt,pt,pt,pt] fun al=> .ob (.tru (bF 5 G9 al)) (.ret (bV (bF 6 L5 al)))
def a6T:=o7 [pt] fun al=> .ret (bV (bF 3 s9 al))
theorem c5m{ρ:Env}(h5:∀l,ρ.fb 5 l=G9 l)(h6:∀l,ρ.fb 6 l=L5 l):i9 Tryz.prog ρ 155 c5h:=by
 refine A0 d3O (fun al v hv=> ?_)
 obtain⟨ho,hv⟩:=hv
 obtain rfl:=g7 hv
 have ho:(bF 5 G9 al).ev ρ=true:=ho
 rw[k7 h5] at ho
 refine⟨rfl,ho,?_⟩
 simp only[bV,V.s0,V.val,V2.val,S.val,S0.val,k7 h6]
theorem a9t{ρ:Env}(h:∀l,ρ.fb 3 l=s9 l):i9 Tryz.prog ρ 54 a6T:=
 k5 c7p (fun _=>rfl) (fun al=>by simp only[bV,V.s0,V.val,V2.val,S.val,S0.val,k7 h,s9])
def d5f(ax ay bx by' cx cy dx dy r:Int):Bool:=
 t4 ax ay bx by' cx cy dx dy||(B8 ax ay cx cy dx dy r||(B8 bx by' cx cy dx dy r||(B8 cx cy ax ay bx by' r||B8 dx dy ax ay bx by' r)))
def d5t(ds:List D):Bool:=d5f (c9 ds 0) (c9 ds 1) (c9 ds 2) (c9 ds 3) (c9 ds 4) (c9 ds 5) (c9 ds 6) (c9 ds 7) (c9 ds 8)
theorem a0X(a b c d e f g h:Int):G9 [.i a,.i b,.i c,.i d,.i e,.i f,.i g,.i h]=(g9 a b&&(g9 c d&&(g9 e f&&g9 g h))):=rfl
theorem a1N(a b c d e f g h:Int):L5 [.i a,.i b,.i c,.i d,.i e,.i f,.i g,.i h]=t4 a b c d e f g h:=by
 unfold L5 c9;simp only[List.getD_cons_zero,List.getD_cons_succ,D.int]
def b9B(ds:List D):Bool:=G9 ds&&A8 (c9 ds 8)
def a9i(ds:List D):Bool:=s8 ds&&A8 (c9 ds 6)
def L6(ds:List D):Bool:=a9i ds&&N1 ds
def R4(ds:List D):Int:=if a9i ds then 0 else 1
def a3S(ds:List D):Bool:=b9B ds&&d5t ds
def d5g(ds:List D):Int:=if b9B ds then 0 else 1
def A6(ds:List D):Int:=if s8 ds then H5 ds else 0
def a6Z(ds:List D):Int:=if s8 ds then 0 else 1
def d5k(ds:List D):Bool:=a7T (c9 ds 0) (c9 ds 1) (c9 ds 2) (d9 ds 3)&&decide (0≤c9 ds 4∧c9 ds 4≤(d9 ds 3).length)
def c7N(ds:List D):Bool:=d5k ds&& !decide (10000000<tHi (d9 ds 3) (c9 ds 1) (c9 ds 4).toNat)
def d8q(ds:List D):Int:=if c7N ds then tLo (d9 ds 3) (c9 ds 0) (c9 ds 4).toNat else 0
def d8k(ds:List D):Int:=if c7N ds then tHi (d9 ds 3) (c9 ds 1) (c9 ds 4).toNat else 0
def d8E(ds:List D):Int:=if d5k ds then(if c7N ds then 0 else 3) else 1
def d3Q(ds:List D):Bool:=a7T (c9 ds 0) (c9 ds 1) (c9 ds 2) (d9 ds 3)&&decide (0≤c9 ds 4∧c9 ds 4<(d9 ds 3).length)
def c8Q(ds:List D):Bool:=d3Q ds&& !decide (10000000<tHi (d9 ds 3) (c9 ds 1) ((c9 ds 4).toNat+1))
def d6j(ds:List D):Int:=if c8Q ds then tLo (d9 ds 3) (c9 ds 0) (c9 ds 4).toNat else 0
def d4E(ds:List D):Int:=if c8Q ds then tHi (d9 ds 3) (c9 ds 1) ((c9 ds 4).toNat+1) else 0
def c9s(ds:List D):Int:=if d3Q ds then(if c8Q ds then 0 else 3) else 1
def d7b(ds:List D):Int:=(d0u ds).1
def d6X(ds:List D):Int:=(d0u ds).2
def K:Interp where
 fi n l:=match n with | 0=>H5 l | 10=>b7A l | 11=>b6z l | 12=>c4h l | 13=>R4 l | 14=>d5g l | 15=>A6 l | 16=>a6Z l | 21=>d8q l | 22=>d8k l | 23=>d8E l | 24=>d6j l | 25=>d4E l | 26=>c9s l | 27=>d7b l | 28=>d6X l | _=>0
 fb n l:=match n with | 0=>b3W l | 1=>s8 l | 2=>N1 l | 3=>s9 l | 4=>onL l | 5=>G9 l | 6=>L5 l | 7=>L6 l | 8=>a3S l | 20=>d8z l | _=>false
 fd _ _:=[]
def c5W:=o7 [pt,pt,pt,it] fun al=> .ret (.tup [.one (G8 7 L6 al),.one (w6 13 R4 al)])
def c6P:=o7 [pt,pt,pt] fun al=> .ret (.tup [.one (w6 15 A6 al),.one (w6 16 a6Z al)])
def Sees(ρ:Env)(I:Interp)(c:Nat):Prop:=∀n l,n<c→ρ.fi n l=I.fi n l∧ρ.fb n l=I.fb n l
theorem Sees.of{ρ:Env}{I:Interp}(h:ρ.has I)(c:Nat):Sees ρ I c:=fun n l _=>by rw[h.1,h.2.1];exact⟨rfl,rfl⟩
theorem Sees.trans{ρ:Env}{I J:Interp}{c d:Nat}(h:Sees ρ I c)(hd:d≤c)(hj:∀n l,n<d→I.fi n l=J.fi n l∧I.fb n l=J.fb n l):Sees ρ J d:=
 fun n l hn=>⟨(h n l (Nat.lt_of_lt_of_le hn hd)).1.trans (hj n l hn).1,(h n l (Nat.lt_of_lt_of_le hn hd)).2.trans (hj n l hn).2⟩
section
variable {ρ:Env} (h:Sees ρ K 30)
include h
theorem c4J:i9 Tryz.prog ρ 193 c5W:=
 k5 d6Z (fun _=>rfl) (fun al=>by
  simp only[V.val,V2.val,S.val,S0.val,w6,G8,List.map_cons,List.map_nil,k7 (s:=7) (f:=L6) (fun l=>by rw[(h 7 l (by decide)).2];simp only[K]),o6 (s:=13) (f:=R4) (fun l=>by rw[(h 13 l (by decide)).1];simp only[K])];rfl)
end
end Go.Proofs.YtldbejmgalhdaaaGreat
namespace Go.Proofs.YtldbejmgalhdaaaGreat
open Go.RowKit
def sp:Sh:= .agg [.int .i64,.int .i64]
def bx:Sh:= .agg [.int .i64,.int .i64,.int .i64,.int .i64]
def d7e(a b:Int):Bool:=decide (-1000000000000≤a∧a≤b∧b≤1000000000000)
def d6x(ds:List D):Bool:=d7e (c9 ds 0) (c9 ds 1)
def b0V(a b c d:Int):Bool:=decide ((-1000000≤a∧a≤b∧b≤1000000)∧ -1000000≤c∧c≤d∧d≤1000000)
def d9b(ds:List D):Bool:=b0V (c9 ds 0) (c9 ds 1) (c9 ds 2) (c9 ds 3)
def a5E(ds:List D):Bool:=b0V (c9 ds 0) (c9 ds 1) (c9 ds 2) (c9 ds 3)&&b0V (c9 ds 4) (c9 ds 5) (c9 ds 6) (c9 ds 7)
def d4U(ds:List D):Bool:=decide (max (c9 ds 0) (c9 ds 4)≤min (c9 ds 1) (c9 ds 5)∧max (c9 ds 2) (c9 ds 6)≤min (c9 ds 3) (c9 ds 7))
def d8Y(ds:List D):Int:=if a5E ds then min (c9 ds 0) (c9 ds 4) else 0
def d8C(ds:List D):Int:=if a5E ds then max (c9 ds 1) (c9 ds 5) else 0
def d8r(ds:List D):Int:=if a5E ds then min (c9 ds 2) (c9 ds 6) else 0
def d8W(ds:List D):Int:=if a5E ds then max (c9 ds 3) (c9 ds 7) else 0
def d8l(ds:List D):Int:=if a5E ds then 0 else 1
def a9K(ds:List D):Bool:=a5E ds&&d4U ds
def d7J(ds:List D):Int:=if a9K ds then max (c9 ds 0) (c9 ds 4) else 0
def d5c(ds:List D):Int:=if a9K ds then min (c9 ds 1) (c9 ds 5) else 0
def d7D(ds:List D):Int:=if a9K ds then max (c9 ds 2) (c9 ds 6) else 0
def d7c(ds:List D):Int:=if a9K ds then min (c9 ds 3) (c9 ds 7) else 0
def d7h(ds:List D):Int:=if a9K ds then 0 else if a5E ds then 4 else 1
def d0X(ds:List D):Bool:=b0V (c9 ds 0) (c9 ds 1) (c9 ds 2) (c9 ds 3)&&decide (0≤c9 ds 4∧c9 ds 4≤3000000)
def b0j(ds:List D):Bool:=d0X ds&&b0V (c9 ds 0-c9 ds 4) (c9 ds 1+c9 ds 4) (c9 ds 2-c9 ds 4) (c9 ds 3+c9 ds 4)
def c9Z(ds:List D):Int:=if b0j ds then c9 ds 0-c9 ds 4 else 0
def d0w(ds:List D):Int:=if b0j ds then c9 ds 1+c9 ds 4 else 0
def d0A(ds:List D):Int:=if b0j ds then c9 ds 2-c9 ds 4 else 0
def d0C(ds:List D):Int:=if b0j ds then c9 ds 3+c9 ds 4 else 0
def d0f(ds:List D):Int:=if b0j ds then 0 else if d0X ds then 3 else 1
def K5:Interp where
 fi n l:=match n with | 32=>d8Y l | 33=>d8C l | 34=>d8r l | 35=>d8W l | 36=>d8l l | 37=>d7J l | 38=>d5c l | 39=>d7D l | 40=>d7c l | 41=>d7h l | 42=>c9Z l | 43=>d0w l | 44=>d0A l | 45=>d0C l | 46=>d0f l | n=>K.fi n l
 fb n l:=match n with | 30=>d6x l | 31=>d9b l | n=>K.fb n l
 fd _ _:=[]
section
variable {ρ:Env} (h:Sees ρ K5 50)
include h
end
end Go.Proofs.YtldbejmgalhdaaaGreat
namespace Go.Proofs.YtldbejmgalhdaaaGreat
open Go.RowKit
section
variable (W:World) (ds l:List D)
end
def b9l(ds:List D):Bool:=a5E ds&&decide (c9 ds 4≤c9 ds 0∧c9 ds 1≤c9 ds 5∧c9 ds 6≤c9 ds 2∧c9 ds 3≤c9 ds 7)
def a9X(ds:List D):Bool:=a7T (c9 ds 0) (c9 ds 1) (c9 ds 2) (d9 ds 3)&&decide (0≤c9 ds 4∧c9 ds 4<(d9 ds 3).length)
def a8W(ds:List D):List D:=[.i (min (lg (d9 ds 3) (c9 ds 4) 0) (lg (d9 ds 3) (c9 ds 4) 2)),.i (max (lg (d9 ds 3) (c9 ds 4) 0) (lg (d9 ds 3) (c9 ds 4) 2)),.i (min (lg (d9 ds 3) (c9 ds 4) 1) (lg (d9 ds 3) (c9 ds 4) 3)),.i (max (lg (d9 ds 3) (c9 ds 4) 1) (lg (d9 ds 3) (c9 ds 4) 3)),.i (c9 ds 2)]
def d5W(ds:List D):Bool:=g9 (c9 ds 6) (c9 ds 7)&&a9y (c9 ds 5)&&decide (c9s ds=0)&&L6 [.i (c9 ds 6),.i (c9 ds 7),.i (lg (d9 ds 3) (c9 ds 4) 0),.i (lg (d9 ds 3) (c9 ds 4) 1),.i (lg (d9 ds 3) (c9 ds 4) 2),.i (lg (d9 ds 3) (c9 ds 4) 3),.i (c9 ds 2)]&&decide (d6j ds≤c9 ds 5∧c9 ds 5≤d4E ds)
def d5j(ds:List D):Int:=if g9 (c9 ds 6) (c9 ds 7)&&a9y (c9 ds 5) then c9s ds else 1
def d6M(ds:List D):Int:=if a9X ds then c9Z (a8W ds) else 0
def d6I(ds:List D):Int:=if a9X ds then d0w (a8W ds) else 0
def d6F(ds:List D):Int:=if a9X ds then d0A (a8W ds) else 0
def d7s(ds:List D):Int:=if a9X ds then d0C (a8W ds) else 0
def d7G(ds:List D):Int:=if a9X ds then d0f (a8W ds) else 1
def K6:Interp where
 fi n l:=match n with | 53=>d5j l | 54=>d6M l | 55=>d6I l | 56=>d6F l | 57=>d7s l | 58=>d7G l | n=>K5.fi n l
 fb n l:=match n with | 51=>b9l l | 52=>d5W l | n=>K5.fb n l
 fd _ _:=[]
section
variable {ρ:Env} (h:Sees ρ K6 60)
include h
end
end Go.Proofs.YtldbejmgalhdaaaGreat
namespace Go.Proofs.YtldbejmgalhdaaaGreat
open Go.RowKit
section
variable (W:World) (ds l:List D)
end
def d4N(r:Rows)(i a b c d off:Int):Bool:=
 b9l [.i (lg r i 0),.i (lg r i 0),.i (lg r i 1),.i (lg r i 1),.i a,.i b,.i c,.i d]||(a3S [.i (lg r i 0),.i (lg r i 1),.i (lg r i 2),.i (lg r i 3),.i a,.i d,.i a,.i c,.i off]||(a3S [.i (lg r i 0),.i (lg r i 1),.i (lg r i 2),.i (lg r i 3),.i a,.i c,.i b,.i c,.i off]||(a3S [.i (lg r i 0),.i (lg r i 1),.i (lg r i 2),.i (lg r i 3),.i b,.i c,.i b,.i d,.i off]||a3S [.i (lg r i 0),.i (lg r i 1),.i (lg r i 2),.i (lg r i 3),.i b,.i d,.i a,.i d,.i off])))
def c0x(r:Rows)(a b c d off:Int):Nat→Nat→Bool
 | 0,_=>false
 | f+1,j=>d4N r j a b c d off||c0x r a b c d off f (j+1)
def d3W(ds:List D):Bool:=a7T (c9 ds 0) (c9 ds 1) (c9 ds 2) (d9 ds 3)&&b0V (c9 ds 4) (c9 ds 5) (c9 ds 6) (c9 ds 7)&&decide (0≤c9 ds 8∧c9 ds 8≤(d9 ds 3).length)
def d8S(ds:List D):Bool:=d3W ds&&c0x (d9 ds 3) (c9 ds 4) (c9 ds 5) (c9 ds 6) (c9 ds 7) (c9 ds 2) ((d9 ds 3).length-(c9 ds 8).toNat) (c9 ds 8).toNat
def d8K(ds:List D):Int:=if d3W ds then 0 else 1
def K7:Interp where
 fi n l:=match n with | 60=>d8K l | n=>K6.fi n l
 fb n l:=match n with | 60=>d8S l | n=>K6.fb n l
 fd _ _:=[]
section
variable {ρ:Env} (h:Sees ρ K7 61)
include h
end
end Go.Proofs.YtldbejmgalhdaaaGreat
