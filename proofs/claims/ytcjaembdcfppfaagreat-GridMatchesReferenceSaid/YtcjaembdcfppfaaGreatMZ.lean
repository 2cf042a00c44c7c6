/- MZ, merged: Zx, Yf, Yg, Yk, Yl, G1, G2, G3. -/
import Derived.Test.YtcjaembdcfppfaaGreatMK
import Derived.Test.YtcjaembdcfppfaaGreatMC
import Derived.Handy
set_option linter.unusedSimpArgs false
set_option linter.unusedVariables false
namespace Go.Proofs.YtcjaembdcfppfaaGreat
open Go.RowKit
structure NL where
 e:TypeId
 ks:List CK
 s:Nat
 rows:List D→Rows
def d2o(w0 W W':World)(ds:List D)(l:NL)(v:Value):Prop:=∃xs,OwnRow W' w0.heap.size l.e l.ks.length v (l.rows ds).length xs∧RowsAt w0 l.ks xs (l.rows ds)∧(l.rows ds).length≤281474976710656∧(∃a c,v= .slice a (l.rows ds).length c)∧∀k,y5 v=some k→W.heap.size≤k∧k<W'.heap.size
structure NewLs (w0 W W':World) (ds:List D) (nl:List NL) (vs:List Value):Prop where
 len:vs.length=nl.length
 each:∀(k:Nat) (l:NL) (v:Value),nl[k]? = some l→vs[k]? = some v→d2o w0 W W' ds l v
 apart:∀(i j:Nat) (vi vj:Value) (a:Nat),vs[i]? = some vi→vs[j]? = some vj→y5 vi=some a→y5 vj=some a→i=j
section
variable {P:Program} {ρ:Env} {σ:As} {nx:Nat} {vs:List Value}
def B2(P:Program)(f:FuncId)(sh:List Sh)(nl:List NL)(ok:List D→Prop)(res:World→List D→List Value→Value→Prop):Prop:=
 ∀(w0 W:World) (vals:List Value) (ds:List D),Below w0.heap.size w0 W→T4 w0 sh vals ds→ok ds→Calls P f vals.toArray W (fun en W'=>∃vs u,en= .returned u∧res w0 ds vs u∧Below W.heap.size W W'∧NewLs w0 W W' ds nl vs)
structure LsAre (ρ:Env) (q:j4) (nl:List NL) (ds:List D) (ss:List S0):Prop where
 len:ss.length=nl.length
 each:∀(k:Nat) (l:NL) (s:S0),nl[k]? = some l→ss[k]? = some s→∃x,b9k q.2.1 l.e l.ks s=some x∧x.ev ρ=l.rows ds
 apart:∀(i j id:Nat) (v v':E),ss[i]? = some (.own id v)→ss[j]? = some (.own id v')→i=j
variable {ct:Ct} {lt:Lt}
end
end Go.Proofs.YtcjaembdcfppfaaGreat
namespace Go.Proofs.YtcjaembdcfppfaaGreat
open Go.RowKit
inductive Ag where | d (sh:Sh) | f (g:FuncId) | p (t:TypeId) (ks:List CK)
section
variable {P:Program} {ρ:Env}
variable {ct:Ct} {lt:Lt}
end
end Go.Proofs.YtcjaembdcfppfaaGreat
namespace Go.Proofs.YtcjaembdcfppfaaGreat
open Go.RowKit
def A0(ws:Mem)(e:TypeId)(ks:List CK):S0→Option X
 | .ovw id ver k lo hi full=>match ws.get id with
   | some (.own e' ks' x v)=>if Nat.beq e e'&&CK.sameL ks ks'&&E.same ver v&&Nat.beq k ks.length&&E.same lo (.lit 0)&& !full then some (.sub x (.lit 0) hi) else none
   | _=>none
 | s=>b9k ws e ks s
section
variable {P:Program} {ct:Ct} {lt:Lt}
theorem b8y{a:Option Addr}{n m c:Nat}:y5 (.slice a n c)=y5 (.slice a m c):=by
 cases a with
 | none=>rfl
 | some a=>cases c<;>rfl
theorem A4(I:Interp)(hmix:P.follows .mixedOrders=true)(hct:∀ρ,ρ.has I→CtOk P ρ ct)(hce:ct.all (fun p=>a3f P p.1)=true){n:Nat}{f:FuncId}{sh:List Sh}{tr:TT j4}(he:T.norm 0 (call P ct lt n f (g7 0 sh) [] 0) TT.ret=tr)
 (hlow:tr.low 1000=true) (hsh:a3X sh≤1000) {l:NL} {ok:List D→Prop} {res:World→List D→Value→Value→Prop}
 (hs:∀w0 vals ds,T4 w0 sh vals ds→ok ds→tr.sat (a9 I w0 ds) (fun ρ q=>∃s x,A0 q.2.1 l.e l.ks s=some x∧x.ev ρ=l.rows ds∧∀(σ:As) u,ρ.w=w0→q.1.den ρ σ u→∃v,s.den ρ σ v∧res w0 ds v u) (fun _ _=>False)):B2 P f sh [l] ok (fun w0 ds vs u=>∃v,vs=[v]∧res w0 ds v u):=by
 intro w0 W vals ds hbase hrep hok
 obtain⟨ρ',q,h1,⟨s,x,h2,h3,h4⟩,_,h5⟩:=b0Y (lt:=lt) hmix (fun ρ' ha=>hct ρ' ⟨ha.fi.symm,ha.fb.symm,ha.fd.symm⟩) (a8g hce) he hlow (hs w0 vals ds hrep hok) (σ:=As.none) (W:=W) (vals:=vals)
  (fun ρ' ha=>⟨fun id b h=>by simp [Mem.get] at h,fun i j a h=>absurd h (Q5 _ _),fun i a h=>absurd h (Q5 _ _),fun i a h=>absurd h (Q5 _ _),by rw[←ha.w];exact hbase⟩) (fun k _=>a7s k) (fun ρ' ha=>a0P ha sh 0 vals [] ds rfl rfl (by omega) hrep)
 refine(callsIn_wide (n:=0)).1 ?_
 have h':CallsIn Fence.wide 0 P f vals.toArray W (a0o ρ' As.none W 0 q):=h5
 have hw:ρ'.w=w0:=by rw[←h1.w];rfl
 refine CallsIn.mono h' ?_
 rintro en W' ⟨u,σ',rfl,e1,e2,e3⟩
 obtain⟨v,hd,hres⟩:=h4 σ' u hw e1
 have hb:Below W.heap.size W W':=⟨e2.os,e2.tape,e2.output,e2.size,fun k hk=>e2.frame k hk (fun i b _ e=>Q5 _ _ e)⟩
 have whole:∀(id:Nat) (ver:E) (x':X) (ver':E) (e':TypeId) (ks':List CK) (a:Option Addr) (m c:Nat),q.2.1.get id=some (.own e' ks' x' ver')→l.e=e'→l.ks=ks'→ver=ver'→σ'.h id (ver.ev ρ')=some (.slice a m c)→
  ∃xs,OwnRow W' w0.heap.size l.e l.ks.length (.slice a m c) m xs∧RowsAt w0 l.ks xs (x'.ev ρ')∧m=(x'.ev ρ').length∧m≤281474976710656∧∀k,y5 (.slice a m c)=some k→W.heap.size≤k∧k<W'.heap.size:=by
  intro id ver x' ver' e' ks' a m c hm c1 c2 c3 e5
  subst c1 c2 c3
  obtain⟨v2,xs,hO⟩:=e2.blk _ _ hm
  have hvv:=hO.now
  rw[e5] at hvv
  simp only[Option.some.injEq] at hvv
  subst hvv
  have hrow:=hO.row
  have hrows:=hO.reps
  have hbig:=hO.big
  rw[hw] at hrow
  rw[hw] at hrows
  have hm:m=(x'.ev ρ').length:=by
   rcases hrow with ⟨_,h2⟩ | ⟨h2,_,b,h3⟩
   ·rcases h2 with ⟨h2,h3⟩ | ⟨g,cap,cur,h2,_⟩
    ·simp only[Value.slice.injEq] at h2;omega
    ·simp only[Value.slice.injEq] at h2
     exact h2.2.1
   ·simp only[Value.slice.injEq] at h3;omega
  refine⟨xs,by rw[hm] at hrow ⊢;exact hrow,⟨?_,hrows⟩,hm,by omega,fun k hk=> ?_⟩
  ·rcases hrow with h | ⟨h3,h4,_⟩
   ·exact h.1
   ·rw[h3,h4];simp
  ·rcases e2.new id k (.inr ⟨_,_,e5,hk⟩) with h | h
   ·exact absurd h (Q5 _ _)
   ·exact h
 have key:d2o w0 W W' ds l v:=by
  unfold A0 at h2
  split at h2
  ·rename_i id ver k lo hi full
   split at h2
   ·rename_i e' ks' x' ver' hm
    split at h2
    ·rename_i hc
     simp only[Bool.and_eq_true,Bool.not_eq_true'] at hc
     obtain⟨⟨⟨⟨⟨c1,c2⟩,c3⟩,c4⟩,c5⟩,c6⟩:=hc
     have c1:=k6 c1
     have c2:=CK.sameL_eq _ _ c2
     have c3:=E.same_eq _ _ c3
     obtain rfl:=E.same_eq _ _ c5
     simp only[Option.some.injEq] at h2
     subst h2
     obtain⟨a,m,c,b,c',e5,l1,l2,l3,rfl,l4,l5,l6,l7⟩:=hd
     obtain⟨rfl,rfl⟩:=l7 (by simp [E.ev]) c6
     obtain⟨xs,w1,w2,w3,w4,w5⟩:=whole id ver x' ver' e' ks' b m c' hm c1 c2 c3 e5
     have hlo:(E.lit 0).ev ρ'=0:=rfl
     rw[hlo] at l2 ⊢
     have hz:(hi.ev ρ').toNat-(0:Int).toNat=(hi.ev ρ').toNat:=by simp
     rw[hz]
     have hle:(hi.ev ρ').toNat≤m:=by omega
     have hev:(X.sub x' (.lit 0) hi).ev ρ'=o7 (x'.ev ρ') 0 (hi.ev ρ'):=by simp only[X.ev,E.ev]
     have hlen:(l.rows ds).length=(hi.ev ρ').toNat:=by
      rw[←h3,hev];simp only[o7,List.length_take,List.length_drop,Int.toNat_zero];omega
     have hsub:=w2.sub (l:=0) (m:=hi.ev ρ') (by omega) (by simp)
     simp only[Int.toNat_zero,Nat.zero_mul,List.drop_zero,Nat.sub_zero] at hsub
     rw[←hev,h3] at hsub
     refine⟨xs.take ((hi.ev ρ').toNat*l.ks.length),by rw[hlen];exact w1.first hle,hsub,by omega,⟨b,c',by rw[hlen]⟩,fun k hk=>w5 k (by rw[←hk];exact b8y)⟩
    ·cases h2
   ·cases h2
  ·unfold b9k at h2
   split at h2
   ·rename_i id ver _
    split at h2
    ·rename_i e' ks' x' ver' hm
     split at h2
     ·rename_i hc
      simp only[Bool.and_eq_true] at hc
      obtain⟨⟨c1,c2⟩,c3⟩:=hc
      have c1:=k6 c1
      have c2:=CK.sameL_eq _ _ c2
      have c3:=E.same_eq _ _ c3
      simp only[Option.some.injEq] at h2
      subst h2
      obtain⟨⟨a,m,c,rfl⟩,e5⟩:=hd
      obtain⟨xs,w1,w2,w3,w4,w5⟩:=whole id ver x' ver' e' ks' a m c hm c1 c2 c3 e5
      have hlen:(l.rows ds).length=m:=by rw[←h3,w3]
      rw[h3] at w2
      exact⟨xs,by rw[hlen];exact w1,w2,by omega,⟨a,c,by rw[hlen]⟩,w5⟩
     ·cases h2
    ·cases h2
   ·simp only[Option.some.injEq] at h2
    subst h2
    obtain rfl:v= .slice none 0 0:=hd
    have h3:[]=l.rows ds:=by rw[←h3];simp [X.ev]
    refine⟨[],?_,?_,?_,⟨none,0,?_⟩,fun k hk=>by simp [y5] at hk⟩
    ·rw[←h3];exact .inl (World.ownsRow_nil _ _ _ _)
    ·rw[←h3];exact RowsAt.nil _ _
    ·rw[←h3];simp
    ·rw[←h3];rfl
   ·cases h2
 refine⟨[v],u,rfl,⟨v,rfl,hres⟩,hb,rfl,fun k l' v' hk hv=> ?_,fun i j vi vj a hi hj _ _=> ?_⟩
 ·cases k with
  | zero=>
    simp only[List.getElem?_cons_zero,Option.some.injEq] at hk hv
    subst hk hv
    exact key
  | succ k=>simp at hk
 ·cases i with
  | zero=>cases j with
    | zero=>rfl
    | succ j=>simp at hj
  | succ i=>simp at hi
end
end Go.Proofs.YtcjaembdcfppfaaGreat
namespace Go.Proofs.YtcjaembdcfppfaaGreat
open Go.RowKit
def SeesD(ρ:Env)(I:Interp)(c:Nat):Prop:=∀n l,n<c→ρ.fd n l=I.fd n l
theorem SeesD.of{ρ:Env}{I:Interp}(h:ρ.has I)(c:Nat):SeesD ρ I c:=fun n l _=>by rw[h.2.2]
def dA:List D→Option AL
 | []=>some .nil
 | .i n::r=>(dA r).map (.i (.lit n))
 | .b x::r=>(dA r).map (.b (.lit x))
 | .l _::_=>none
def dX:Rows→Option X
 | []=>some .nil
 | r::t=>match dA r,dX t with | some a,some x=>some (.app (.row a) x) | _,_=>none
theorem b7Y(ρ:Env):∀(r:List D) (a:AL),dA r=some a→a.ev ρ=r
 | [],a,h=>by simp only[dA,Option.some.injEq] at h;subst h;simp [AL.ev]
 | .i n::r,a,h=>by
   simp only[dA,Option.map_eq_some_iff] at h
   obtain⟨b,hb,rfl⟩:=h
   simp [AL.ev,E.ev,b7Y ρ r b hb]
 | .b n::r,a,h=>by
   simp only[dA,Option.map_eq_some_iff] at h
   obtain⟨b,hb,rfl⟩:=h
   simp [AL.ev,B.ev,b7Y ρ r b hb]
 | .l _::_,a,h=>by simp [dA] at h
theorem c6M(ρ:Env):∀(r:Rows) (x:X),dX r=some x→x.ev ρ=r
 | [],x,h=>by simp only[dX,Option.some.injEq] at h;subst h;simp [X.ev]
 | r::t,x,h=>by
   simp only[dX] at h
   split at h
   ·rename_i a y ha hy
    simp only[Option.some.injEq] at h
    subst h
    simp [X.ev,b7Y ρ r a ha,c6M ρ t y hy]
   ·cases h
def dF(s:Nat)(f:List D→Rows)(al:AL):X:=match a0f al with
 | some l=>match dX (f l) with | some x=>x | none=> .fn s al
 | none=> .fn s al
theorem b7K{ρ:Env}{s:Nat}{f:List D→Rows}(h:∀l,ρ.fd s l=f l)(al:AL):(dF s f al).ev ρ=f (al.ev ρ):=by
 unfold dF
 split
 ·rename_i l hl
  split
  ·rename_i x hx
   rw[c6M ρ _ x hx,V8 ρ al l hl]
  ·simp only[X.ev,h]
 ·simp only[X.ev,h]
def a7S(sh:List Sh)(l:NL)(obs:AL→List Ob)(args:List V)(mem:Mem)(nx:Nat):T j4:=match a0e mem sh args with
 | some al=> .obs (obs al) (.ret (.s0 (.own nx (.lit 0)),[(nx,.own l.e l.ks (dF l.s l.rows al) (.lit 0))],nx+1))
 | none=> .stuck "new list"
theorem a7d{P:Program}{ρ:Env}{f:FuncId}{sh:List Sh}{l:NL}{ok:List D→Prop}(hg:B2 P f sh [l] ok (fun _ _ vs u=>∃v,vs=[v]∧u=v))(hf:l.ks.all CK.flat=true){obs:AL→List Ob}
 (hobs:∀al,(∀o∈obs al,o.ok ρ)→ok (al.ev ρ)) (hs:∀a,ρ.fd l.s a=l.rows a):i9 P ρ f (a7S sh l obs):=by
 intro args mem nx q hq hle σ W vals hr hfr hd
 unfold a7S at hq
 split at hq
 ·rename_i al ha
  obtain⟨ho,hq⟩:=T.res_obs hq
  obtain rfl:=c9 hq
  have hc:=hg W W vals (al.ev ρ) (Below.refl _ _) (a0u hr sh args al ha vals hd) (hobs al ho)
  have hw:CallsIn Fence.wide 0 P f vals.toArray W _:=callsIn_wide.2 hc
  refine CallsIn.mono (F:=FR none) hw ?_
  rintro en W' ⟨vs,u,rfl,⟨v,rfl,rfl⟩,hb,hn⟩
  obtain⟨xs,h1,h2,h3,⟨a,c,rfl⟩,h5⟩:=hn.each 0 l _ rfl rfl
  have hnx:=hfr nx (Nat.le_refl _) (Nat.lt_succ_self _)
  have hnone:∀k,σ.h nx k= .none:=fun k=>by
   cases hk:σ.h nx k with
   | none=>rfl
   | some y=>exact absurd (.inr ⟨k,y,hk⟩) hnx
  have hx:=b7K (ρ:=ρ) (s:=l.s) (f:=l.rows) hs al
  have hstep:=Q4 (ρ:=ρ) (σ:=σ) (W:=W) (id:=nx) (t:=l.e) (ks:=l.ks) (x:=dF l.s l.rows al) (ver:= .lit 0) (v:= .slice .none 0 0) (W':=W') (xs:=xs) (fun i a hi=>hr.lt i a hi) (hnone _) (fun u _=>hnone u) hr.inj (fun k hk=>by cases hk)
   (by
    rw[hx]
    exact⟨h1.base hr.base.size,hb.os,hb.tape,hb.output,hb.size,fun k hk _=>hb.block k hk,fun k hk=> .inr (h5 k hk),Keep.of_eq (fun k hk=>hb.block k hk),a,c,rfl⟩)
   (by rw[hx];exact fun i row hi=>a1j hf (h2.2 i row hi)) (by rw[hx];exact h3)
  exact⟨_,_,rfl,⟨⟨a,_,c,rfl⟩,As.say_self⟩,hstep,fun i hi=>(O9 hi).imp (fun h=>h) (fun h=>⟨by omega,by show i<nx+1;omega⟩)⟩
 ·exact hq.elim
def a2O(sh:List Sh)(l:NL)(obs:AL→List Ob)(out:AL→Nat→V)(args:List V)(mem:Mem)(nx:Nat):T j4:=match a0e mem sh args with
 | some al=> .obs (obs al) (.ret (out al nx,[(nx,.own l.e l.ks (dF l.s l.rows al) (.lit 0))],nx+1))
 | none=> .stuck "new list"
theorem a0A{P:Program}{ρ:Env}{f:FuncId}{sh:List Sh}{l:NL}{ok:List D→Prop}{res:List D→Value→Value}(hg:B2 P f sh [l] ok (fun _ ds vs u=>∃v,vs=[v]∧u=res ds v))(hf:l.ks.all CK.flat=true){obs:AL→List Ob}
 (hobs:∀al,(∀o∈obs al,o.ok ρ)→ok (al.ev ρ)) (hs:∀a,ρ.fd l.s a=l.rows a) {out:AL→Nat→V}
 (hout:∀(al:AL) (nx:Nat) (σ':As) (v:Value),(S0.own nx (.lit 0)).den ρ σ' v→(out al nx).den ρ σ' (res (al.ev ρ) v)):i9 P ρ f (a2O sh l obs out):=by
 intro args mem nx q hq hle σ W vals hr hfr hd
 unfold a2O at hq
 split at hq
 ·rename_i al ha
  obtain⟨ho,hq⟩:=T.res_obs hq
  obtain rfl:=c9 hq
  have hc:=hg W W vals (al.ev ρ) (Below.refl _ _) (a0u hr sh args al ha vals hd) (hobs al ho)
  have hw:CallsIn Fence.wide 0 P f vals.toArray W _:=callsIn_wide.2 hc
  refine CallsIn.mono (F:=FR none) hw ?_
  rintro en W' ⟨vs,u,rfl,⟨v,rfl,rfl⟩,hb,hn⟩
  obtain⟨xs,h1,h2,h3,⟨a,c,rfl⟩,h5⟩:=hn.each 0 l _ rfl rfl
  have hnx:=hfr nx (Nat.le_refl _) (Nat.lt_succ_self _)
  have hnone:∀k,σ.h nx k= .none:=fun k=>by
   cases hk:σ.h nx k with
   | none=>rfl
   | some y=>exact absurd (.inr ⟨k,y,hk⟩) hnx
  have hx:=b7K (ρ:=ρ) (s:=l.s) (f:=l.rows) hs al
  have hstep:=Q4 (ρ:=ρ) (σ:=σ) (W:=W) (id:=nx) (t:=l.e) (ks:=l.ks) (x:=dF l.s l.rows al) (ver:= .lit 0) (v:= .slice .none 0 0) (W':=W') (xs:=xs) (fun i a hi=>hr.lt i a hi) (hnone _) (fun u _=>hnone u) hr.inj (fun k hk=>by cases hk)
   (by
    rw[hx]
    exact⟨h1.base hr.base.size,hb.os,hb.tape,hb.output,hb.size,fun k hk _=>hb.block k hk,fun k hk=> .inr (h5 k hk),Keep.of_eq (fun k hk=>hb.block k hk),a,c,rfl⟩)
   (by rw[hx];exact fun i row hi=>a1j hf (h2.2 i row hi)) (by rw[hx];exact h3)
  exact⟨_,_,rfl,hout al nx _ _ ⟨⟨a,_,c,rfl⟩,As.say_self⟩,hstep,fun i hi=>(O9 hi).imp (fun h=>h) (fun h=>⟨by omega,by show i<nx+1;omega⟩)⟩
 ·exact hq.elim
section
variable {P:Program} {ct:Ct} {lt:Lt}
variable {ρ:Env}
end
end Go.Proofs.YtcjaembdcfppfaaGreat
namespace Go.Proofs.YtcjaembdcfppfaaGreat
namespace Grid
def near(w h c:Nat):List Nat:=
 (if c/w=0 then [] else [c-w])++(if c % w=0 then [] else [c-1])++(if c % w=w-1 then [] else [c+1])++(if c/w<h-1 then [c+w] else [])
theorem c5T{w h c d:Nat}:d∈near w h c↔(c/w≠0∧d=c-w)∨(c % w≠0∧d=c-1)∨(c % w≠w-1∧d=c+1)∨(c/w<h-1∧d=c+w):=by
 unfold near
 by_cases h1:c/w=0<;>by_cases h2:c % w=0<;>by_cases h3:c % w=w-1<;>by_cases h4:c/w<h-1<;>simp [h1,h2,h3,h4]
theorem a7K{w h c d:Nat}(hw:0<w)(hc:c<w*h):d∈near w h c↔d<w*h∧((d % w=c % w∧(d/w+1=c/w∨d/w=c/w+1))∨(d/w=c/w∧(d % w+1=c % w∨d % w=c % w+1))):=by
 have e1:=Nat.div_add_mod c w
 have e2:=Nat.div_add_mod d w
 have l1:=Nat.mod_lt c hw
 have l2:=Nat.mod_lt d hw
 have hch:c/w<h:=Nat.div_lt_of_lt_mul hc
 have key:∀q r:Nat,r<w→(w*q+r)/w=q∧(w*q+r) % w=r:=fun q r hr=>by
  constructor
  ·rw[Nat.mul_add_div hw,Nat.div_eq_of_lt hr,Nat.add_zero]
  ·rw[Nat.mul_add_mod,Nat.mod_eq_of_lt hr]
 rw[c5T]
 generalize hq:c/w=q at*
 generalize hr:c % w=r at*
 constructor
 ·rintro(⟨h1,rfl⟩ | ⟨h1,rfl⟩ | ⟨h1,rfl⟩ | ⟨h1,rfl⟩)
  ·obtain⟨q',rfl⟩:∃q',q=q'+1:=⟨q-1,by omega⟩
   have hcw:c-w=w*q'+r:=by rw[Nat.mul_succ] at e1;omega
   obtain⟨k1,k2⟩:=key q' r l1
   rw[hcw,k1,k2]
   refine⟨?_,.inl ⟨rfl,.inl rfl⟩⟩
   omega
  ·have hcw:c-1=w*q+(r-1):=by omega
   obtain⟨k1,k2⟩:=key q (r-1) (by omega)
   rw[hcw,k1,k2]
   refine⟨by omega,.inr ⟨rfl,.inl (by omega)⟩⟩
  ·have hcw:c+1=w*q+(r+1):=by omega
   obtain⟨k1,k2⟩:=key q (r+1) (by omega)
   rw[hcw,k1,k2]
   refine⟨?_,.inr ⟨rfl,.inr rfl⟩⟩
   have:w*(q+1)≤w*h:=Nat.mul_le_mul_left _ hch
   rw[Nat.mul_succ] at this
   omega
  ·have hcw:c+w=w*(q+1)+r:=by rw[Nat.mul_succ];omega
   obtain⟨k1,k2⟩:=key (q+1) r l1
   rw[hcw,k1,k2]
   refine⟨?_,.inl ⟨rfl,.inr rfl⟩⟩
   have:w*(q+1+1)≤w*h:=Nat.mul_le_mul_left _ (by omega)
   rw[Nat.mul_succ (m:=q+1)] at this
   omega
 ·rintro⟨hd,hh⟩
  have hdh:=Nat.div_lt_of_lt_mul hd
  generalize d/w=q2 at*
  generalize d % w=r2 at*
  rcases hh with ⟨h1,h2 | h2⟩ | ⟨h1,h2 | h2⟩
  ·refine .inl ⟨by omega,?_⟩
   rw[←h2,Nat.mul_succ] at e1
   omega
  ·refine .inr (.inr (.inr ⟨by omega,?_⟩))
   rw[h2,Nat.mul_succ] at e2
   omega
  ·refine .inr (.inl ⟨by omega,?_⟩)
   rw[h1] at e2
   omega
  ·refine .inr (.inr (.inl ⟨by omega,?_⟩))
   rw[h1] at e2
   omega
theorem near_lt{w h c d:Nat}(hw:0<w)(hc:c<w*h)(hd:d∈near w h c):d<w*h:=((a7K hw hc).1 hd).1
theorem a2K{w h c d:Nat}(hw:0<w)(hc:c<w*h)(hd:d∈near w h c):c∈near w h d:=by
 obtain⟨h1,h2⟩:=(a7K hw hc).1 hd
 refine(a7K hw h1).2 ⟨hc,?_⟩
 rcases h2 with ⟨h2,h3 | h3⟩ | ⟨h2,h3 | h3⟩<;>omega
inductive Walk (w h:Nat) (ok:Nat→Prop) (a:Nat):Nat→Nat→Prop
 | zero:Walk w h ok a 0 a
 | succ {k c d:Nat}:Walk w h ok a k c→d∈near w h c→ok d→Walk w h ok a (k+1) d
section
variable {w h:Nat} {ok:Nat→Prop} {a:Nat}
theorem Walk.lt(hw:0<w)(ha:a<w*h){k c:Nat}(q:Walk w h ok a k c):c<w*h:=by
 induction q with
 | zero=>exact ha
 | succ _ hd _ ih=>exact near_lt hw ih hd
theorem Walk.good(ha:ok a){k c:Nat}(q:Walk w h ok a k c):ok c:=by
 cases q with
 | zero=>exact ha
 | succ _ _ h=>exact h
theorem Walk.trans{b k c l:Nat}(q:Walk w h ok a k b)(r:Walk w h ok b l c):Walk w h ok a (k+l) c:=by
 induction r with
 | zero=>exact q
 | succ _ hd ho ih=>exact .succ ih hd ho
theorem Walk.one{c:Nat}(hd:c∈near w h a)(ho:ok c):Walk w h ok a 1 c:= .succ .zero hd ho
theorem Walk.symm(hw:0<w)(hl:a<w*h)(ha:ok a){k c:Nat}(q:Walk w h ok a k c):Walk w h ok c k a:=by
 induction q with
 | zero=>exact .zero
 | succ q hd ho ih=>
   rename_i k c d
   have h1:Walk w h ok d 1 c:= .one (a2K hw (q.lt hw hl) hd) (q.good ha)
   have:=h1.trans ih
   rwa [Nat.add_comm] at this
theorem Walk.leaves{p:Nat→Prop}[DecidablePred p](h0:p a){k c:Nat}(q:Walk w h ok a k c)(hc:¬p c):∃j b d,j<k∧Walk w h ok a j b∧d∈near w h b∧Grid.Walk w h ok a (j+1) d∧ok d∧p b∧¬p d:=by
 induction q with
 | zero=>exact absurd h0 hc
 | succ q hd ho ih=>
   rename_i k c d
   by_cases hp:p c
   ·exact⟨k,c,d,by omega,q,hd,.succ q hd ho,ho,hp,hc⟩
   ·obtain⟨j,b,e,h1,h2⟩:=ih hp
    exact⟨j,b,e,by omega,h2⟩
end
def at_(l:List Int)(c:Nat):Int:=(l[c]?).getD 0
structure IsDist (w h:Nat) (ok:Nat→Prop) (a:Nat) (out:List Int):Prop where
 len:out.length=w*h
 none:∀c,c<w*h→at_ out c<0→at_ out c= -1∧∀k,¬Walk w h ok a k c
 some:∀c,c<w*h→0≤at_ out c→Walk w h ok a (at_ out c).toNat c∧∀j:Nat,(j:Int)<at_ out c→¬Walk w h ok a j c
theorem list_at{l r:List Int}(hl:l.length=r.length)(h:∀c,c<l.length→at_ l c=at_ r c):l=r:=by
 apply List.ext_getElem hl
 intro i h1 h2
 have:=h i h1
 simp only[at_,List.getElem?_eq_getElem h1,List.getElem?_eq_getElem h2,Option.getD_some] at this
 exact this
section
variable {w h:Nat} {ok:Nat→Prop} {a:Nat}
theorem IsDist.eq{l r:List Int}(hl:IsDist w h ok a l)(hr:IsDist w h ok a r):l=r:=by
 refine list_at (by rw[hl.len,hr.len]) (fun c hc=> ?_)
 rw[hl.len] at hc
 rcases Int.lt_or_le (at_ l c) 0 with h1 | h1
 ·rcases Int.lt_or_le (at_ r c) 0 with h2 | h2
  ·rw[(hl.none c hc h1).1,(hr.none c hc h2).1]
  ·exact absurd (hr.some c hc h2).1 ((hl.none c hc h1).2 _)
 ·rcases Int.lt_or_le (at_ r c) 0 with h2 | h2
  ·exact absurd (hl.some c hc h1).1 ((hr.none c hc h2).2 _)
  ·have e1:=hl.some c hc h1
   have e2:=hr.some c hc h2
   have k1:¬at_ l c<at_ r c:=fun q=>e2.2 (at_ l c).toNat (by omega) e1.1
   have k2:¬at_ r c<at_ l c:=fun q=>e1.2 (at_ r c).toNat (by omega) e2.1
   omega
theorem at_set{l:List Int}{d c:Nat}{v:Int}(hd:d<l.length):at_ (l.set d v) c=if c=d then v else at_ l c:=by
 unfold at_
 rw[List.getElem?_set]
 by_cases e:d=c
 ·subst e;simp [hd]
 ·simp [e,Ne.symm e]
theorem nodup_len:∀(n:Nat) (l:List Nat),l.Nodup→(∀x∈l,x<n)→l.length≤n
 | 0,l,_,h=>by
   cases l with
   | nil=>simp
   | cons x l=>exact absurd (h x (List.mem_cons_self ..)) (Nat.not_lt_zero _)
 | n+1,l,hn,h=>by
   by_cases hm:n∈l
   ·have h1:=nodup_len n (l.erase n) (hn.erase n) (fun x hx=>by
     have hx':=hn.mem_erase_iff.1 hx
     have:=h x hx'.2
     omega)
    rw[List.length_erase_of_mem hm] at h1
    omega
   ·have:=nodup_len n l hn (fun x hx=>by
     have h1:=h x hx
     have:x≠n:=fun e=>hm (e▸hx)
     omega)
    omega
structure Mid (w h:Nat) (ok:Nat→Prop) (a c:Nat) (seen:List Nat) (out:List Int) (q:List Nat):Prop where
 len:out.length=w*h
 cl:c<w*h
 low:∀x,x<w*h→at_ out x<0→at_ out x= -1
 dist:∀x,x<w*h→0≤at_ out x→Walk w h ok a (at_ out x).toNat x∧∀j:Nat,(j:Int)<at_ out x→¬Walk w h ok a j x
 start:at_ out a=0
 c0:0≤at_ out c
 qlt:∀x∈q,x<w*h
 nodup:(c::q).Nodup
 sort:∀(i j x y:Nat),i<j→q[i]? = some x→q[j]? = some y→at_ out x≤at_ out y
 from_:∀x∈q,at_ out c≤at_ out x
 upto:∀x∈q,at_ out x≤at_ out c+1
 shut:∀x,x<w*h→0≤at_ out x→x=c∨x∈q∨∀d∈near w h x,ok d→0≤at_ out d
 seen:∀d∈seen,ok d→0≤at_ out d
structure Wait (w h:Nat) (ok:Nat→Prop) (a:Nat) (out:List Int) (q:List Nat):Prop where
 len:out.length=w*h
 low:∀x,x<w*h→at_ out x<0→at_ out x= -1
 dist:∀x,x<w*h→0≤at_ out x→Walk w h ok a (at_ out x).toNat x∧∀j:Nat,(j:Int)<at_ out x→¬Walk w h ok a j x
 start:at_ out a=0
 qlt:∀x∈q,x<w*h∧0≤at_ out x
 nodup:q.Nodup
 sort:∀(i j x y:Nat),i<j→q[i]? = some x→q[j]? = some y→at_ out x≤at_ out y
 span:∀x∈q,∀y∈q,at_ out y≤at_ out x+1
 shut:∀x,x<w*h→0≤at_ out x→x∈q∨∀d∈near w h x,ok d→0≤at_ out d
theorem Wait.begin(ha:a<w*h):Wait w h ok a ((List.replicate (w*h) (-1)).set a 0) [a]:=by
 have hl:a<(List.replicate (w*h) (-1:Int)).length:=by simpa using ha
 have key:∀x,x<w*h→at_ ((List.replicate (w*h) (-1:Int)).set a 0) x=if x=a then 0 else -1:=fun x hx=>by
  rw[at_set hl]
  simp [at_,hx]
 refine⟨by simp,fun x hx h1=> ?_,fun x hx h1=> ?_,by rw[key a ha];simp,fun x hx=> ?_,by simp,fun i j x y h1 h2 h3=> ?_,fun x hx y hy=> ?_,fun x hx h1=> ?_⟩
 ·rw[key x hx] at h1 ⊢
  split at h1
  ·omega
  ·rename_i e;simp [e]
 ·rw[key x hx] at h1 ⊢
  split at h1
  ·rename_i e
   subst e
   simp only[if_true]
   exact⟨.zero,fun j hj=>by omega⟩
  ·omega
 ·simp only[List.mem_singleton] at hx
  subst hx
  rw[key x ha]
  simp [ha]
 ·cases j with
  | zero=>omega
  | succ j=>simp at h3
 ·simp only[List.mem_singleton] at hx hy
  subst hx hy
  omega
 ·rw[key x hx] at h1
  split at h1
  ·rename_i e;exact .inl (by simp [e])
  ·omega
theorem Wait.take{out:List Int}{c:Nat}{q:List Nat}(H:Wait w h ok a out (c::q)):Mid w h ok a c [] out q where
 len:=H.len
 cl:=(H.qlt c (List.mem_cons_self ..)).1
 low:=H.low
 dist:=H.dist
 start:=H.start
 c0:=(H.qlt c (List.mem_cons_self ..)).2
 qlt:=fun x hx=>(H.qlt x (List.mem_cons_of_mem _ hx)).1
 nodup:=H.nodup
 sort:=fun i j x y h1 h2 h3=>H.sort (i+1) (j+1) x y (by omega) (by simpa using h2) (by simpa using h3)
 from_:=fun x hx=>by
  obtain⟨i,hi⟩:=List.getElem?_of_mem hx
  exact H.sort 0 (i+1) c x (by omega) (by simp) (by simpa using hi)
 upto:=fun x hx=>H.span c (List.mem_cons_self ..) x (List.mem_cons_of_mem _ hx)
 shut:=fun x hx h1=>by
  rcases H.shut x hx h1 with h2 | h2
  ·rcases List.mem_cons.1 h2 with h2 | h2
   ·exact .inl h2
   ·exact .inr (.inl h2)
  ·exact .inr (.inr h2)
 seen:=fun d hd=>by cases hd
theorem Mid.end_{out:List Int}{c:Nat}{q:List Nat}(H:Mid w h ok a c (near w h c) out q):Wait w h ok a out q where
 len:=H.len
 low:=H.low
 dist:=H.dist
 start:=H.start
 qlt:=fun x hx=>⟨H.qlt x hx,by have:=H.from_ x hx;have:=H.c0;omega⟩
 nodup:=(List.nodup_cons.1 H.nodup).2
 sort:=H.sort
 span:=fun x hx y hy=>by have:=H.upto y hy;have:=H.from_ x hx;omega
 shut:=fun x hx h1=>by
  rcases H.shut x hx h1 with h2 | h2 | h2
  ·subst h2;exact .inr H.seen
  ·exact .inl h2
  ·exact .inr h2
theorem Mid.more{out:List Int}{c d:Nat}{seen q:List Nat}(H:Mid w h ok a c seen out q)(hd:ok d→0≤at_ out d):Mid w h ok a c (seen++[d]) out q:=
 ⟨H.len,H.cl,H.low,H.dist,H.start,H.c0,H.qlt,H.nodup,H.sort,H.from_,H.upto,H.shut,fun x hx ho=>by
  rcases List.mem_append.1 hx with h1 | h1
  ·exact H.seen x h1 ho
  ·simp only[List.mem_singleton] at h1;subst h1;exact hd ho⟩
theorem Mid.room{out:List Int}{c d:Nat}{seen q:List Nat}(H:Mid w h ok a c seen out q)(hd:d<w*h)(h1:at_ out d<0):q.length+1<w*h:=by
 have hq:d∉c::q:=fun hm=>by
  rcases List.mem_cons.1 hm with e | hm
  ·subst e;have:=H.c0;omega
  ·have:=H.from_ d hm;have:=H.c0;omega
 have:=nodup_len (w*h) (d::c::q) (List.nodup_cons.2 ⟨hq,H.nodup⟩) (fun x hx=>by
  rcases List.mem_cons.1 hx with e | hx
  ·subst e;exact hd
  ·rcases List.mem_cons.1 hx with e | hx
   ·subst e;exact H.cl
   ·exact H.qlt x hx)
 simp only[List.length_cons] at this
 omega
theorem Mid.push(hw:0<w)(ha:a<w*h){out:List Int}{c d:Nat}{seen q:List Nat}(H:Mid w h ok a c seen out q)(hd:d∈near w h c)(ho:ok d)(h1:at_ out d<0):
 Mid w h ok a c (seen++[d]) (out.set d (at_ out c+1)) (q++[d]):=by
 have hdl:=near_lt hw H.cl hd
 have hdo:d<out.length:=by rw[H.len];exact hdl
 have hdc:c≠d:=fun e=>by subst e;have:=H.c0;omega
 have hdq:d∉q:=fun hm=>by have:=H.from_ d hm;have:=H.c0;omega
 have hda:a≠d:=fun e=>by subst e;have:=H.start;omega
 have key:∀x,at_ (out.set d (at_ out c+1)) x=if x=d then at_ out c+1 else at_ out x:=fun x=>at_set hdo
 have old:∀x,x≠d→at_ (out.set d (at_ out c+1)) x=at_ out x:=fun x hx=>by rw[key,if_neg hx]
 have oldq:∀x∈q,at_ (out.set d (at_ out c+1)) x=at_ out x:=fun x hx=>old x (fun e=>hdq (e▸hx))
 have new:at_ (out.set d (at_ out c+1)) d=at_ out c+1:=by rw[key,if_pos rfl]
 have c0:=H.c0
 have hc:=H.dist c H.cl c0
 have up:∀x,0≤at_ out x→0≤at_ (out.set d (at_ out c+1)) x:=fun x hx=>by rw[key];split<;>omega
 refine⟨by simpa using H.len,H.cl,fun x hx h2=> ?_,fun x hx h2=> ?_,by rw[old a hda];exact H.start,by rw[old c hdc];exact c0,fun x hx=> ?_,?_,fun i j x y hij hi hj=> ?_,fun x hx=> ?_,fun x hx=> ?_,fun x hx h2=> ?_,fun x hx hox=> ?_⟩
 ·rw[key] at h2 ⊢
  split at h2
  ·omega
  ·rename_i e;rw[if_neg e];exact H.low x hx h2
 ·rw[key] at h2 ⊢
  split
  ·rename_i e
   subst e
   have ek:(at_ out c+1).toNat=(at_ out c).toNat+1:=by omega
   rw[ek]
   refine⟨.succ hc.1 hd ho,fun j hj hwk=> ?_⟩
   have hp0:(0:Int)≤at_ out a:=by rw[H.start];omega
   obtain⟨i,b,e,h3,h4,h5,_,h6,h7,h8⟩:=hwk.leaves (p:=fun x=>0≤at_ out x) hp0 (by omega)
   have hbl:=h4.lt hw ha
   have hb:=H.dist b hbl h7
   have hbi:at_ out b≤i:=by
    rcases Int.lt_or_le i (at_ out b) with q | q
    ·exact absurd h4 (hb.2 i q)
    ·exact q
   rcases H.shut b hbl h7 with h9 | h9 | h9
   ·subst h9;omega
   ·have:=H.from_ b h9;omega
   ·exact h8 (h9 e h5 h6)
  ·rename_i e
   rw[if_neg e] at h2
   exact H.dist x hx h2
 ·rcases List.mem_append.1 hx with h2 | h2
  ·exact H.qlt x h2
  ·simp only[List.mem_singleton] at h2;subst h2;exact hdl
 ·have:=H.nodup
  rw[List.nodup_cons] at this ⊢
  refine⟨fun hm=> ?_,?_⟩
  ·rcases List.mem_append.1 hm with h2 | h2
   ·exact this.1 h2
   ·simp only[List.mem_singleton] at h2;exact hdc h2
  ·rw[List.nodup_append]
   refine⟨this.2,by simp,fun x hx y hy e=> ?_⟩
   simp only[List.mem_singleton] at hy
   subst hy e
   exact hdq hx
 ·rw[List.getElem?_append] at hi hj
  split at hj
  ·rename_i hjl
   rw[if_pos (by omega)] at hi
   rw[oldq x (List.mem_of_getElem? hi),oldq y (List.mem_of_getElem? hj)]
   exact H.sort i j x y hij hi hj
  ·rename_i hjl
   have hj0:j-q.length=0:=by
    cases hk:j-q.length with
    | zero=>rfl
    | succ k=>rw[hk] at hj;simp at hj
   rw[hj0] at hj
   simp only[List.getElem?_cons_zero,Option.some.injEq] at hj
   subst hj
   rw[if_pos (by omega)] at hi
   have hxq:=List.mem_of_getElem? hi
   rw[oldq x hxq,new]
   exact H.upto x hxq
 ·rw[old c hdc]
  rcases List.mem_append.1 hx with h2 | h2
  ·rw[oldq x h2];exact H.from_ x h2
  ·simp only[List.mem_singleton] at h2;subst h2;rw[new];omega
 ·rw[old c hdc]
  rcases List.mem_append.1 hx with h2 | h2
  ·rw[oldq x h2];exact H.upto x h2
  ·simp only[List.mem_singleton] at h2;subst h2;rw[new];omega
 ·by_cases e:x=d
  ·exact .inr (.inl (by simp [e]))
  ·rw[old x e] at h2
   rcases H.shut x hx h2 with h3 | h3 | h3
   ·exact .inl h3
   ·exact .inr (.inl (List.mem_append_left _ h3))
   ·exact .inr (.inr (fun y hy hoy=>up y (h3 y hy hoy)))
 ·rcases List.mem_append.1 hx with h2 | h2
  ·exact up x (H.seen x h2 hox)
  ·simp only[List.mem_singleton] at h2;subst h2;rw[new];omega
theorem Wait.dist_end(hw:0<w)(ha:a<w*h){out:List Int}(H:Wait w h ok a out []):IsDist w h ok a out:=by
 refine⟨H.len,fun c hc h1=>⟨H.low c hc h1,fun k hk=> ?_⟩,H.dist⟩
 have hp0:(0:Int)≤at_ out a:=by rw[H.start];omega
 obtain⟨i,b,e,_,h4,h5,_,h6,h7,h8⟩:=hk.leaves (p:=fun x=>0≤at_ out x) hp0 (by omega)
 rcases H.shut b (h4.lt hw ha) h7 with h9 | h9
 ·cases h9
 ·exact h8 (h9 e h5 h6)
end
end Grid
end Go.Proofs.YtcjaembdcfppfaaGreat
namespace Go.Proofs.YtcjaembdcfppfaaGreat
namespace Grid
def Deep(D:List Int)(need:Int)(c:Nat):Prop:=need≤at_ D c
def b9p(w h:Nat)(D:List Int)(need:Int)(k:Int)(l:List Int):List Int:=
 (List.range (w*h)).map fun c=>if 0≤at_ l c then at_ l c else if decide (need≤at_ D c)&&(near w h c).any (fun e=>at_ l e == k) then k+1 else -1
def X2(w h:Nat)(D:List Int)(need:Int)(a:Nat):Nat→List Int
 | 0=>(List.range (w*h)).map fun c=>if c=a then 0 else -1
 | k+1=>b9p w h D need k (X2 w h D need a k)
def stepsF(w h:Nat)(D:List Int)(need:Int)(a:Nat):List Int:=X2 w h D need a (w*h)
structure Upto (w h:Nat) (ok:Nat→Prop) (a k:Nat) (l:List Int):Prop where
 len:l.length=w*h
 none:∀c,c<w*h→at_ l c<0→at_ l c= -1∧∀j,j≤k→¬Walk w h ok a j c
 some:∀c,c<w*h→0≤at_ l c→at_ l c≤k∧Walk w h ok a (at_ l c).toNat c∧∀j:Nat,(j:Int)<at_ l c→¬Walk w h ok a j c
theorem a7p{n:Nat}{f:Nat→Int}{c:Nat}(hc:c<n):at_ ((List.range n).map f) c=f c:=by simp [at_,hc]
theorem a6O{w h:Nat}{D:List Int}{need:Int}{a:Nat}(hw:0<w)(ha:a<w*h):∀k,Upto w h (Deep D need) a k (X2 w h D need a k)
 | 0=>by
   refine⟨by simp [X2],fun c hc h1=> ?_,fun c hc h1=> ?_⟩
   ·rw[X2,a7p hc] at h1 ⊢
    split at h1
    ·omega
    ·rename_i e
     rw[if_neg e]
     refine⟨rfl,fun j hj hk=> ?_⟩
     obtain rfl:j=0:=by omega
     cases hk
     exact e rfl
   ·rw[X2,a7p hc] at h1 ⊢
    split at h1
    ·rename_i e
     subst e
     rw[if_pos rfl]
     exact⟨Int.le_refl _,.zero,fun j hj=>by omega⟩
    ·omega
 | k+1=>by
   have H:=a6O (D:=D) (need:=need) hw ha k
   generalize hl:X2 w h D need a k=l at H
   have key:∀c,c<w*h→at_ (X2 w h D need a (k+1)) c=if 0≤at_ l c then at_ l c else if decide (need≤at_ D c)&&(near w h c).any (fun e=>at_ l e == (k:Int)) then(k:Int)+1 else -1:=fun c hc=>by
    rw[X2,hl,b9p,a7p hc]
   refine⟨by simp [X2,b9p],fun c hc h1=> ?_,fun c hc h1=> ?_⟩
   ·rw[key c hc] at h1 ⊢
    split at h1
    ·omega
    ·rename_i h2
     rw[if_neg h2]
     split at h1
     ·omega
     ·rename_i h3
      rw[if_neg h3]
      refine⟨rfl,fun j hj hk=> ?_⟩
      have hn:=(H.none c hc (by omega)).2
      by_cases e:j≤k
      ·exact hn j e hk
      ·obtain rfl:j=k+1:=by omega
       cases hk with
       | succ q hd ho=>
         rename_i d
         have hdl:=q.lt hw ha
         apply h3
         rw[Bool.and_eq_true,decide_eq_true_eq,List.any_eq_true]
         refine⟨ho,d,a2K hw hdl hd,?_⟩
         rcases Int.lt_or_le (at_ l d) 0 with g | g
         ·exact absurd q ((H.none d hdl g).2 k (Nat.le_refl _))
         ·obtain⟨g1,g2,g3⟩:=H.some d hdl g
          have:¬at_ l d<k:=fun g4=>hn ((at_ l d).toNat+1) (by omega) (.succ g2 hd ho)
          simp only[beq_iff_eq]
          omega
   ·rw[key c hc] at h1 ⊢
    by_cases h2:0≤at_ l c
    ·rw[if_pos h2]
     obtain⟨g1,g2,g3⟩:=H.some c hc h2
     exact⟨by omega,g2,g3⟩
    ·rw[if_neg h2] at h1 ⊢
     split at h1
     ·rename_i h3
      rw[if_pos h3]
      rw[Bool.and_eq_true,decide_eq_true_eq,List.any_eq_true] at h3
      obtain⟨ho,d,hd,hk⟩:=h3
      simp only[beq_iff_eq] at hk
      have hdl:=near_lt hw hc hd
      obtain⟨_,g2,_⟩:=H.some d hdl (by omega)
      rw[hk] at g2
      have e1:((k:Int)+1).toNat=k+1:=by omega
      rw[e1]
      refine⟨by omega,.succ g2 (a2K hw hc hd) ho,fun j hj=> ?_⟩
      exact(H.none c hc (by omega)).2 j (by omega)
     ·omega
theorem levels{w h:Nat}{ok:Nat→Prop}{a:Nat}(hw:0<w)(ha:a<w*h):∀(m c:Nat),Walk w h ok a m c→(∀j,j<m→¬Walk w h ok a j c)→
 ∃l:List Nat,l.length=m+1∧l.Nodup∧∀x∈l,x<w*h∧∃j,j≤m∧Walk w h ok a j x∧∀i,i<j→¬Walk w h ok a i x
 | 0,c,hk,hm=>⟨[c],rfl,by simp,fun x hx=>by
  simp only[List.mem_singleton] at hx
  subst hx
  exact⟨hk.lt hw ha,0,Nat.le_refl _,hk,hm⟩⟩
 | m+1,c,hk,hm=>by
   have hcl:=hk.lt hw ha
   cases hk with
   | succ q hd ho=>
     rename_i d
     obtain⟨l,l1,l2,l3⟩:=levels hw ha m d q (fun j hj hw'=>hm (j+1) (by omega) (.succ hw' hd ho))
     refine⟨c::l,by simp [l1],List.nodup_cons.2 ⟨fun hx=> ?_,l2⟩,fun x hx=> ?_⟩
     ·obtain⟨_,j,j1,j2,_⟩:=l3 c hx
      exact hm j (by omega) j2
     ·rcases List.mem_cons.1 hx with e | hx
      ·subst e;exact⟨hcl,m+1,Nat.le_refl _,.succ q hd ho,hm⟩
      ·obtain⟨x1,j,j1,j2⟩:=l3 x hx
       exact⟨x1,j,by omega,j2⟩
theorem stepsF_is{w h:Nat}{D:List Int}{need:Int}{a:Nat}(hw:0<w)(ha:a<w*h):IsDist w h (Deep D need) a (stepsF w h D need a):=by
 have H:=a6O (D:=D) (need:=need) hw ha (w*h)
 refine⟨H.len,fun c hc h1=>⟨(H.none c hc h1).1,fun k hk=> ?_⟩,fun c hc h1=>(H.some c hc h1).2⟩
 have least:∀k,Walk w h (Deep D need) a k c→∃m,m≤k∧Walk w h (Deep D need) a m c∧∀j,j<m→¬Walk w h (Deep D need) a j c:=by
  intro k
  induction k using Nat.strongRecOn with
  | _ k ih=>
    intro hk
    by_cases hq:∃j,j<k∧Walk w h (Deep D need) a j c
    ·obtain⟨j,j1,j2⟩:=hq
     obtain⟨m,m1,m2⟩:=ih j j1 j2
     exact⟨m,by omega,m2⟩
    ·exact⟨k,Nat.le_refl _,hk,fun j j1 j2=>hq ⟨j,j1,j2⟩⟩
 obtain⟨m,_,m1,m2⟩:=least k hk
 obtain⟨l,l1,l2,l3⟩:=levels hw ha m c m1 m2
 have:=nodup_len (w*h) l l2 (fun x hx=>(l3 x hx).1)
 exact(H.none c hc h1).2 m (by omega) m1
theorem stepsF_eq{w h:Nat}{D:List Int}{need:Int}{a:Nat}(hw:0<w)(ha:a<w*h){out:List Int}(H:IsDist w h (Deep D need) a out):out=stepsF w h D need a:=H.eq (stepsF_is hw ha)
def Conn(w h:Nat)(ok:Nat→Prop)(a b:Nat):Prop:=∃k,Walk w h ok a k b
section
variable {w h:Nat} {ok:Nat→Prop}
theorem Conn.refl(a:Nat):Conn w h ok a a:=⟨0,.zero⟩
theorem Conn.trans{a b c:Nat}(p:Conn w h ok a b)(q:Conn w h ok b c):Conn w h ok a c:=let ⟨_,p⟩:=p;let ⟨_,q⟩:=q;⟨_,p.trans q⟩
theorem Conn.symm(hw:0<w){a b:Nat}(ha:a<w*h)(ho:ok a)(p:Conn w h ok a b):Conn w h ok b a:=let ⟨_,p⟩:=p;⟨_,p.symm hw ha ho⟩
theorem Conn.good{a b:Nat}(ho:ok a)(p:Conn w h ok a b):ok b:=let ⟨_,p⟩:=p;p.good ho
theorem Conn.lt(hw:0<w){a b:Nat}(ha:a<w*h)(p:Conn w h ok a b):b<w*h:=let ⟨_,p⟩:=p;p.lt hw ha
end
def fillF(s:List Int)(num:Int)(out:List Int):List Int:=(List.range out.length).map fun k=>if 0≤at_ s k then num else at_ out k
theorem at_fill{s out:List Int}{num:Int}{k:Nat}(hk:k<out.length):at_ (fillF s num out) k=if 0≤at_ s k then num else at_ out k:=by simp [fillF,at_,hk]
theorem fill_len(s out:List Int)(num:Int):(fillF s num out).length=out.length:=by simp [fillF]
def waterStep(w h:Nat)(D:List Int)(need:Int)(st:List Int×Int)(c:Nat):List Int×Int:=
 if at_ D c<need∨0<at_ st.1 c then st else(fillF (stepsF w h D need c) (st.2+1) st.1,st.2+1)
def waterN(w h:Nat)(D:List Int)(need:Int):Nat→List Int×Int
 | 0=>(List.replicate (w*h) 0,0)
 | k+1=>waterStep w h D need (waterN w h D need k) k
def waterF(w h:Nat)(D:List Int)(need:Int):List Int:=(waterN w h D need (w*h)).1
structure WInv (w h:Nat) (ok:Nat→Prop) (k:Nat) (out:List Int) (m:Int):Prop where
 len:out.length=w*h
 m0:0≤m
 rng:∀x,x<w*h→0≤at_ out x∧at_ out x≤m
 shoal:∀x,x<w*h→¬ok x→at_ out x=0
 pos:∀x,x<w*h→ok x→(0<at_ out x↔∃r,r<k∧ok r∧Conn w h ok r x)
 same:∀x y,x<w*h→y<w*h→0<at_ out x→0<at_ out y→(at_ out x=at_ out y↔Conn w h ok x y)
 rep:∀v,1≤v→v≤m→∃r,r<k∧at_ out r=v
 first:∀x,x<k→1<at_ out x→∃y,y<x∧at_ out y=at_ out x-1
end Grid
end Go.Proofs.YtcjaembdcfppfaaGreat
namespace Go.Proofs.YtcjaembdcfppfaaGreat
namespace Grid
def nextF(w h:Nat)(left:List Int)(c:Nat):Nat:=((near w h c).find? fun d=>at_ left d == at_ left c-1).getD c
def pathF(w h:Nat)(left:List Int):Nat→Nat→List Nat
 | 0,_=>[]
 | k+1,c=>nextF w h left c::pathF w h left k (nextF w h left c)
def wayF(w h:Nat)(left:List Int)(a:Nat):List Nat:=a::pathF w h left (at_ left a).toNat a
theorem b5I{w h c:Nat}(hw:0<w):(near w h c).Pairwise (· < ·):=by
 have one:∀x:Nat,1<w∨w=1:=fun x=>by omega
 have pA:∀x,x∈(if c/w=0 then [] else [c-w])→x=c-w∧w≤c:=fun x hx=>by
  split at hx
  ·cases hx
  ·rename_i q
   simp only[List.mem_singleton] at hx
   refine⟨hx,?_⟩
   rcases Nat.lt_or_ge c w with k | k
   ·exact absurd (Nat.div_eq_of_lt k) q
   ·exact k
 have pB:∀x,x∈(if c % w=0 then [] else [c-1])→x=c-1∧1<w∧0<c:=fun x hx=>by
  split at hx
  ·cases hx
  ·rename_i q
   simp only[List.mem_singleton] at hx
   refine⟨hx,?_,?_⟩
   ·rcases one 0 with k | k
    ·exact k
    ·subst k;exact absurd (Nat.mod_one c) q
   ·rcases Nat.eq_zero_or_pos c with k | k
    ·subst k;exact absurd (Nat.zero_mod w) q
    ·exact k
 have pC:∀x,x∈(if c % w=w-1 then [] else [c+1])→x=c+1∧1<w:=fun x hx=>by
  split at hx
  ·cases hx
  ·rename_i q
   simp only[List.mem_singleton] at hx
   refine⟨hx,?_⟩
   rcases one 0 with k | k
   ·exact k
   ·subst k;exact absurd (by simp [Nat.mod_one]) q
 have pD:∀x,x∈(if c/w<h-1 then [c+w] else [])→x=c+w:=fun x hx=>by
  split at hx
  ·simpa using hx
  ·cases hx
 unfold near
 simp only[List.pairwise_append,List.mem_append]
 refine⟨⟨⟨?_,?_,fun a ha b hb=> ?_⟩,?_,fun a ha b hb=> ?_⟩,?_,fun a ha b hb=> ?_⟩
 ·split<;>simp
 ·split<;>simp
 ·have:=pA a ha;have:=pB b hb;omega
 ·split<;>simp
 ·have h2:=pC b hb
  rcases ha with ha | ha
  ·have:=pA a ha;omega
  ·have:=pB a ha;omega
 ·split<;>simp
 ·have h2:=pD b hb
  rcases ha with (ha | ha) | ha
  ·have:=pA a ha;omega
  ·have:=pB a ha;omega
  ·have:=pC a ha;omega
section
variable {w h:Nat} {ok:Nat→Prop} {b:Nat} {left:List Int}
theorem IsDist.le(H:IsDist w h ok b left){k c:Nat}(hc:c<w*h)(q:Walk w h ok b k c):0≤at_ left c∧at_ left c≤k:=by
 rcases Int.lt_or_le (at_ left c) 0 with h1 | h1
 ·exact absurd q ((H.none c hc h1).2 k)
 ·refine⟨h1,?_⟩
  rcases Int.lt_or_le k (at_ left c) with h2 | h2
  ·exact absurd q ((H.some c hc h1).2 k h2)
  ·exact h2
theorem IsDist.near_le(H:IsDist w h ok b left){c d:Nat}(hc:c<w*h)(hd:d<w*h)(ho:ok c)(hn:c∈near w h d)(h1:0≤at_ left d):0≤at_ left c∧at_ left c≤at_ left d+1:=by
 have:=H.le hc (Walk.succ (H.some d hd h1).1 hn ho)
 omega
theorem IsDist.step(H:IsDist w h ok b left)(hw:0<w)(hb:b<w*h){c:Nat}(hc:c<w*h)(h0:0<at_ left c):∃d,d∈near w h c∧at_ left d=at_ left c-1:=by
 have hs:=H.some c hc (by omega)
 obtain⟨k,hk⟩:∃k,(at_ left c).toNat=k+1:=⟨(at_ left c).toNat-1,by omega⟩
 have hw':=hs.1
 rw[hk] at hw'
 cases hw' with
 | succ q hd ho=>
   rename_i d
   have hdl:=q.lt hw hb
   refine⟨d,a2K hw hdl hd,?_⟩
   have h1:=H.le hdl q
   have h2:=H.near_le hc hdl ho hd h1.1
   omega
theorem next_spec(H:IsDist w h ok b left)(hw:0<w)(hb:b<w*h){c:Nat}(hc:c<w*h)(h0:0<at_ left c):
 nextF w h left c∈near w h c∧at_ left (nextF w h left c)=at_ left c-1∧∀d,d∈near w h c→at_ left d=at_ left c-1→nextF w h left c≤d:=by
 obtain⟨d,h1,h2⟩:=H.step hw hb hc h0
 unfold nextF
 cases hf:(near w h c).find? fun d=>at_ left d == at_ left c-1 with
 | none=>exact absurd (List.find?_eq_none.1 hf d h1) (by simp [h2])
 | some e=>
   have h3:=List.find?_some hf
   simp only[beq_iff_eq] at h3
   simp only[Option.getD_some]
   refine⟨List.mem_of_find?_eq_some hf,h3,fun x hx he=> ?_⟩
   obtain⟨_,xs,ys,e1,e2⟩:=List.find?_eq_some_iff_append.1 hf
   have hp:=b5I (h:=h) (c:=c) hw
   rw[e1] at hp hx
   rcases List.mem_append.1 hx with q | q
   ·have:=e2 x q
    simp [he] at this
   ·rcases List.mem_cons.1 q with q | q
    ·omega
    ·have:=(List.pairwise_cons.1 (List.pairwise_append.1 hp).2.1).1 x q
     omega
structure IsWay (w h:Nat) (ok:Nat→Prop) (l:List Nat) (a b:Nat):Prop where
 head:l[0]? = some a
 last:l[l.length-1]? = some b
 all:∀x∈l,x<w*h∧ok x
 step:∀i x y,l[i]? = some x→l[i+1]? = some y→y∈near w h x
theorem path_len(w h:Nat)(left:List Int):∀k c,(pathF w h left k c).length=k
 | 0,_=>rfl
 | k+1,c=>by simp [pathF,path_len w h left k]
theorem way_len(a:Nat):(wayF w h left a).length=(at_ left a).toNat+1:=by simp [wayF,path_len]
end
end Grid
end Go.Proofs.YtcjaembdcfppfaaGreat
