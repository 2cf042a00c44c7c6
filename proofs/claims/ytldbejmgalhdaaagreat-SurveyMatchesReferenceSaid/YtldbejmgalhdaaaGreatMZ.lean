/- MZ, merged: Yl. -/
import Derived.Test.YtldbejmgalhdaaaGreatMY
import Derived.Test.YtldbejmgalhdaaaGreatMD
set_option linter.unusedSimpArgs false
set_option linter.unusedVariables false
namespace Go.Proofs.YtldbejmgalhdaaaGreat
open Go.RowKit
def b0c:List Ag→Bool
 | []=>true
 | .p _ _::_=>false
 | _::r=>b0c r
def b0E(P:Program)(f:FuncId)(ag:List Ag)(nl:List NL)(ok:List D→Prop)(res:World→List D→List Value→Value→Prop):Prop:=
 ∀(w0 W:World) (vals:List Value) (ds:List D),Below w0.heap.size w0 W→U0 w0 W ag vals ds []→ok ds→Calls P f vals.toArray W (fun en W'=>∃vs u,en= .returned u∧res w0 ds vs u∧Below W.heap.size W W'∧NewLs w0 W W' ds nl vs)
theorem a3u{w0 w w':World}:∀ {l:List Ag},b0c l=true→∀ {vs:List Value} {ds:List D} {bs:List Nat},U0 w0 w l vs ds bs→U0 w0 w' l vs ds bs
 | [],_,_,_,_,h=>h
 | .d sh::r,hp,_,_,_,h=>by
   obtain⟨v,vs',d,ds',h1,h2,h3,h4⟩:=h
   exact⟨v,vs',d,ds',h1,h2,h3,a3u (l:=r) hp h4⟩
 | .f g::r,hp,_,_,_,h=>by
   obtain⟨vs',h1,h2⟩:=h
   exact⟨vs',h1,a3u (l:=r) hp h2⟩
 | .p t ks::r,hp,_,_,_,h=>by cases hp
theorem c2X{ρ:Env}{l:List Ag}(_:b0c l=true){j id:Nat}{vs:List Value}(h:DL (V.den ρ (a8e [])) (Q3 j id l) vs):DL (V.den ρ As.none) (Q3 j id l) vs:=h
section
variable {P:Program} {ct:Ct} {lt:Lt}
theorem b8D(I:Interp)(hmix:P.follows .mixedOrders=true)(hct:∀ρ,ρ.has I→CtOk P ρ ct)(hce:ct.all (fun p=>N8 P p.1)=true){n:Nat}{f:FuncId}{ag:List Ag}(hag:b0c ag=true){tr:TT j6}(he:T.norm 0 (call P ct lt n f (Q3 0 0 ag) [] 0) TT.ret=tr)
 (hlow:tr.low 1000=true) (hsh:a0u ag≤1000) {l:NL} {ok:List D→Prop} {res:World→List D→Value→Value→Prop}
 (hs:∀w0 vals ds,U0 w0 w0 ag vals ds []→ok ds→tr.sat (f0 I w0 ds) (fun ρ q=>∃s x,K3 q.2.1 l.e l.ks s=some x∧x.ev ρ=l.rows ds∧∀(σ:As) u,ρ.w=w0→q.1.den ρ σ u→∃v,s.den ρ σ v∧res w0 ds v u) (fun _ _=>False)):b0E P f ag [l] ok (fun w0 ds vs u=>∃v,vs=[v]∧res w0 ds v u):=by
 intro w0 W vals ds hbase hrep hok
 obtain⟨ρ',q,h1,⟨s,x,h2,h3,h4⟩,_,h5⟩:=O5 (lt:=lt) hmix (fun ρ' ha=>hct ρ' ⟨ha.fi.symm,ha.fb.symm,ha.fd.symm⟩) (L4 hce) he hlow (hs w0 vals ds (a3u hag hrep) hok) (σ:=As.none) (W:=W) (vals:=vals)
  (fun ρ' ha=>⟨fun id b h=>by simp [Mem.get] at h,fun i j a h=>absurd h (m5 _ _),fun i a h=>absurd h (m5 _ _),fun i a h=>absurd h (m5 _ _),by rw[←ha.w];exact hbase⟩) (fun k _=>T4 k) (fun ρ' ha=>c2X hag (P6 (bs0:=[]) ha ag 0 0 vals [] ds [] [] rfl rfl (by omega) rfl rfl hrep).1)
 refine(callsIn_wide (n:=0)).1 ?_
 have h':CallsIn Fence.wide 0 P f vals.toArray W (J1 ρ' As.none W 0 q):=h5
 have hw:ρ'.w=w0:=by rw[←h1.w];rfl
 refine CallsIn.mono h' ?_
 rintro en W' ⟨u,σ',rfl,e1,e2,e3⟩
 obtain⟨v,hd,hres⟩:=h4 σ' u hw e1
 have hb:Below W.heap.size W W':=⟨e2.os,e2.tape,e2.output,e2.size,fun k hk=>e2.frame k hk (fun i b _ e=>m5 _ _ e)⟩
 have whole:∀(id:Nat) (ver:E) (x':X) (ver':E) (e':TypeId) (ks':List CK) (a:Option Addr) (m c:Nat),q.2.1.get id=some (.own e' ks' x' ver')→l.e=e'→l.ks=ks'→ver=ver'→σ'.h id (ver.ev ρ')=some (.slice a m c)→
  ∃xs,OwnRow W' w0.heap.size l.e l.ks.length (.slice a m c) m xs∧RowsAt w0 l.ks xs (x'.ev ρ')∧m=(x'.ev ρ').length∧m≤281474976710656∧∀k,k9 (.slice a m c)=some k→W.heap.size≤k∧k<W'.heap.size:=by
  intro id ver x' ver' e' ks' a m c hm c1 c2 c3 e5
  subst c1 c2 c3
  obtain⟨v2,xs,hO⟩:=e2.blk _ _ hm
  have hvv:=hO.now
  rw[e5] at hvv
  simp only[Option.some.injEq] at hvv
  subst hvv
  have hrow:=hO.row
  have hrows:=hO.reps
  have hbig:=hO.big
  rw[hw] at hrow
  rw[hw] at hrows
  have hm:m=(x'.ev ρ').length:=by
   rcases hrow with ⟨_,h2⟩ | ⟨h2,_,b,h3⟩
   ·rcases h2 with ⟨h2,h3⟩ | ⟨g,cap,cur,h2,_⟩
    ·simp only[Value.slice.injEq] at h2;omega
    ·simp only[Value.slice.injEq] at h2
     exact h2.2.1
   ·simp only[Value.slice.injEq] at h3;omega
  refine⟨xs,by rw[hm] at hrow ⊢;exact hrow,⟨?_,hrows⟩,hm,by omega,fun k hk=> ?_⟩
  ·rcases hrow with h | ⟨h3,h4,_⟩
   ·exact h.1
   ·rw[h3,h4];simp
  ·rcases e2.new id k (.inr ⟨_,_,e5,hk⟩) with h | h
   ·exact absurd h (m5 _ _)
   ·exact h
 have key:b2g w0 W W' ds l v:=by
  unfold K3 at h2
  split at h2
  ·rename_i id ver k lo hi full
   split at h2
   ·rename_i e' ks' x' ver' hm
    split at h2
    ·rename_i hc
     simp only[Bool.and_eq_true,Bool.not_eq_true'] at hc
     obtain⟨⟨⟨⟨⟨c1,c2⟩,c3⟩,c4⟩,c5⟩,c6⟩:=hc
     have c1:=j9 c1
     have c2:=CK.sameL_eq _ _ c2
     have c3:=E.same_eq _ _ c3
     obtain rfl:=E.same_eq _ _ c5
     simp only[Option.some.injEq] at h2
     subst h2
     obtain⟨a,m,c,b,c',e5,l1,l2,l3,rfl,l4,l5,l6,l7⟩:=hd
     obtain⟨rfl,rfl⟩:=l7 (by simp [E.ev]) c6
     obtain⟨xs,w1,w2,w3,w4,w5⟩:=whole id ver x' ver' e' ks' b m c' hm c1 c2 c3 e5
     have hlo:(E.lit 0).ev ρ'=0:=rfl
     rw[hlo] at l2 ⊢
     have hz:(hi.ev ρ').toNat-(0:Int).toNat=(hi.ev ρ').toNat:=by simp
     rw[hz]
     have hle:(hi.ev ρ').toNat≤m:=by omega
     have hev:(X.sub x' (.lit 0) hi).ev ρ'=m8 (x'.ev ρ') 0 (hi.ev ρ'):=by simp only[X.ev,E.ev]
     have hlen:(l.rows ds).length=(hi.ev ρ').toNat:=by
      rw[←h3,hev];simp only[m8,List.length_take,List.length_drop,Int.toNat_zero];omega
     have hsub:=w2.sub (l:=0) (m:=hi.ev ρ') (by omega) (by simp)
     simp only[Int.toNat_zero,Nat.zero_mul,List.drop_zero,Nat.sub_zero] at hsub
     rw[←hev,h3] at hsub
     refine⟨xs.take ((hi.ev ρ').toNat*l.ks.length),by rw[hlen];exact w1.first hle,hsub,by omega,⟨b,c',by rw[hlen]⟩,fun k hk=>w5 k (by rw[←hk];exact a8Q)⟩
    ·cases h2
   ·cases h2
  ·unfold U2 at h2
   split at h2
   ·rename_i id ver _
    split at h2
    ·rename_i e' ks' x' ver' hm
     split at h2
     ·rename_i hc
      simp only[Bool.and_eq_true] at hc
      obtain⟨⟨c1,c2⟩,c3⟩:=hc
      have c1:=j9 c1
      have c2:=CK.sameL_eq _ _ c2
      have c3:=E.same_eq _ _ c3
      simp only[Option.some.injEq] at h2
      subst h2
      obtain⟨⟨a,m,c,rfl⟩,e5⟩:=hd
      obtain⟨xs,w1,w2,w3,w4,w5⟩:=whole id ver x' ver' e' ks' a m c hm c1 c2 c3 e5
      have hlen:(l.rows ds).length=m:=by rw[←h3,w3]
      rw[h3] at w2
      exact⟨xs,by rw[hlen];exact w1,w2,by omega,⟨a,c,by rw[hlen]⟩,w5⟩
     ·cases h2
    ·cases h2
   ·simp only[Option.some.injEq] at h2
    subst h2
    obtain rfl:v= .slice none 0 0:=hd
    have h3:[]=l.rows ds:=by rw[←h3];simp [X.ev]
    refine⟨[],?_,?_,?_,⟨none,0,?_⟩,fun k hk=>by simp [k9] at hk⟩
    ·rw[←h3];exact .inl (World.ownsRow_nil _ _ _ _)
    ·rw[←h3];exact RowsAt.nil _ _
    ·rw[←h3];simp
    ·rw[←h3];rfl
   ·cases h2
 refine⟨[v],u,rfl,⟨v,rfl,hres⟩,hb,rfl,fun k l' v' hk hv=> ?_,fun i j vi vj a hi hj _ _=> ?_⟩
 ·cases k with
  | zero=>
    simp only[List.getElem?_cons_zero,Option.some.injEq] at hk hv
    subst hk hv
    exact key
  | succ k=>simp at hk
 ·cases i with
  | zero=>cases j with
    | zero=>rfl
    | succ j=>simp at hj
  | succ i=>simp at hi
variable {ρ:Env}
def b5Y(ag:List Ag)(l:NL)(obs:AL→List Ob)(out:AL→Nat→V)(args:List V)(mem:Mem)(nx:Nat):T j6:=match J9 mem ag args with
 | some al=> .obs (obs al) (.ret (out al nx,[(nx,.own l.e l.ks (dF l.s l.rows al) (.lit 0))],nx+1))
 | none=> .stuck "new list"
theorem c5X{f:FuncId}{ag:List Ag}{l:NL}{ok:List D→Prop}{res:List D→Value→Value}(hg:b0E P f ag [l] ok (fun _ ds vs u=>∃v,vs=[v]∧u=res ds v))(hf:l.ks.all CK.flat=true){obs:AL→List Ob}
 (hobs:∀al,(∀o∈obs al,o.ok ρ)→ok (al.ev ρ)) (hs:∀a,ρ.fd l.s a=l.rows a) {out:AL→Nat→V}
 (hout:∀(al:AL) (nx:Nat) (σ':As) (v:Value),(S0.own nx (.lit 0)).den ρ σ' v→(out al nx).den ρ σ' (res (al.ev ρ) v)):i9 P ρ f (b5Y ag l obs out):=by
 intro args mem nx q hq hle σ W vals hr hfr hd
 unfold b5Y at hq
 split at hq
 ·rename_i al ha
  obtain⟨ho,hq⟩:=T.res_obs hq
  obtain rfl:=g7 hq
  have hc:=hg W W vals (al.ev ρ) (Below.refl _ _) (a1J hr ag args al ha vals hd) (hobs al ho)
  have hw:CallsIn Fence.wide 0 P f vals.toArray W _:=callsIn_wide.2 hc
  refine CallsIn.mono (F:=FR none) hw ?_
  rintro en W' ⟨vs,u,rfl,⟨v,rfl,rfl⟩,hb,hn⟩
  obtain⟨xs,h1,h2,h3,⟨a,c,rfl⟩,h5⟩:=hn.each 0 l _ rfl rfl
  have hnx:=hfr nx (Nat.le_refl _) (Nat.lt_succ_self _)
  have hnone:∀k,σ.h nx k= .none:=fun k=>by
   cases hk:σ.h nx k with
   | none=>rfl
   | some y=>exact absurd (.inr ⟨k,y,hk⟩) hnx
  have hx:=b4b (ρ:=ρ) (s:=l.s) (f:=l.rows) hs al
  have hstep:=G4 (ρ:=ρ) (σ:=σ) (W:=W) (id:=nx) (t:=l.e) (ks:=l.ks) (x:=dF l.s l.rows al) (ver:= .lit 0) (v:= .slice .none 0 0) (W':=W') (xs:=xs) (fun i a hi=>hr.lt i a hi) (hnone _) (fun u _=>hnone u) hr.inj (fun k hk=>by cases hk)
   (by
    rw[hx]
    exact⟨h1.base hr.base.size,hb.os,hb.tape,hb.output,hb.size,fun k hk _=>hb.block k hk,fun k hk=> .inr (h5 k hk),Keep.of_eq (fun k hk=>hb.block k hk),a,c,rfl⟩)
   (by rw[hx];exact fun i row hi=>a1l hf (h2.2 i row hi)) (by rw[hx];exact h3)
  exact⟨_,_,rfl,hout al nx _ _ ⟨⟨a,_,c,rfl⟩,As.say_self⟩,hstep,fun i hi=>(F7 hi).imp (fun h=>h) (fun h=>⟨by omega,by show i<nx+1;omega⟩)⟩
 ·exact hq.elim
end
end Go.Proofs.YtldbejmgalhdaaaGreat
