/- MY, merged: Zx, Yc, Yh, Yf, Yg. -/
import Derived.Test.YtldbejmgalhdaaaGreatMK
import Derived.OwnWalk
import Derived.Shelf.Spec.SlicesInsert
import Derived.Lib.AppendZerosOnto
import Derived.Lib.Overlaps
import Derived.Laws.Externs
set_option linter.unusedSimpArgs false
set_option linter.unusedVariables false
namespace Go.Proofs.YtldbejmgalhdaaaGreat
open Go.RowKit
def d3y(sh:Sh)(v:V):Option AL:=match sh,v with
 | .one k,.v (.one s)=>X1 k s
 | .agg ks,.v (.agg cs)=>a2j X1 ks cs
 | _,_=>none
def Y0:List Sh→List V→Option AL
 | [],[]=>some .nil
 | s::sh,v::vs=>match d3y s v,Y0 sh vs with | some a,some b=>some (a.app b) | _,_=>none
 | _,_=>none
theorem a8w{ρ:Env}{σ:As}:∀(sh:List Sh) (args:List V) (a:AL),Y0 sh args=some a→∀vals,DL (V.den ρ σ) args vals→A4 ρ.w sh vals (a.ev ρ)
 | [],[],a,h,vals,hd=>by
   simp only[Y0,Option.some.injEq] at h
   subst h
   exact⟨DL.nil_inv hd,by simp [AL.ev]⟩
 | s::sh,v::vs,a,h,vals,hd=>by
   simp only[Y0] at h
   split at h
   ·rename_i a1 a2 h1 h2
    simp only[Option.some.injEq] at h
    subst h
    obtain⟨u,us,rfl,e1,e2⟩:=DL.cons_inv hd
    refine⟨u,us,a1.ev ρ,a2.ev ρ,rfl,AL.app_ev _ _ _,?_,a8w sh vs a2 h2 us e2⟩
    unfold d3y at h1
    split at h1
    ·obtain⟨d,e3,e4⟩:=O8 (W:=ρ.w) (Below.refl _ _) _ _ _ h1 u e1
     exact⟨d,e3,e4⟩
    ·obtain⟨ws,e3,rfl⟩:=e1
     exact⟨ws,rfl,a2b (O8 (W:=ρ.w) (Below.refl _ _)) _ _ _ h1 ws e3⟩
    ·cases h1
   ·cases h
 | [],_::_,a,h,_,_=>by simp [Y0] at h
 | _::_,[],a,h,_,_=>by simp [Y0] at h
structure NL where
 e:TypeId
 ks:List CK
 s:Nat
 rows:List D→Rows
def b1f:List NL→AL→Nat→Mem
 | [],_,_=>[]
 | l::r,al,n=>(n,.own l.e l.ks (.fn l.s al) (.lit 0))::b1f r al (n+1)
theorem a8D{al:AL}:∀ {nl:List NL} {n i:Nat},(b1f nl al n).get i=if n≤i then(nl[i-n]?).map fun l=>Blk.own l.e l.ks (.fn l.s al) (.lit 0) else none
 | [],n,i=>by simp [b1f,Mem.get]
 | l::r,n,i=>by
   simp only[b1f,Mem.get]
   by_cases e:n=i
   ·subst e;simp
   ·rw[if_neg (by simpa using e),a8D (nl:=r)]
    by_cases h:n≤i
    ·rw[if_pos (by omega),if_pos h,show i-n=(i-(n+1))+1 by omega,List.getElem?_cons_succ]
    ·rw[if_neg (by omega),if_neg h]
def b2g(w0 W W':World)(ds:List D)(l:NL)(v:Value):Prop:=∃xs,OwnRow W' w0.heap.size l.e l.ks.length v (l.rows ds).length xs∧RowsAt w0 l.ks xs (l.rows ds)∧(l.rows ds).length≤281474976710656∧(∃a c,v= .slice a (l.rows ds).length c)∧∀k,k9 v=some k→W.heap.size≤k∧k<W'.heap.size
structure NewLs (w0 W W':World) (ds:List D) (nl:List NL) (vs:List Value):Prop where
 len:vs.length=nl.length
 each:∀(k:Nat) (l:NL) (v:Value),nl[k]? = some l→vs[k]? = some v→b2g w0 W W' ds l v
 apart:∀(i j:Nat) (vi vj:Value) (a:Nat),vs[i]? = some vi→vs[j]? = some vj→k9 vi=some a→k9 vj=some a→i=j
def As.sayN(σ:As)(nx:Nat)(vs:List Value):As:= { σ with h:=fun i m=>if nx≤i∧i<nx+vs.length∧m=0 then vs[i-nx]? else σ.h i m }
section
variable {P:Program} {ρ:Env} {σ:As} {nx:Nat} {vs:List Value}
theorem b1K{i:Nat}(h:nx≤i)(h2:i<nx+vs.length):(σ.sayN nx vs).h i 0=vs[i-nx]? := if_pos ⟨h,h2,rfl⟩
theorem a2A{i:Nat}{m:Int}(h:¬(nx≤i∧i<nx+vs.length∧m=0)):(σ.sayN nx vs).h i m=σ.h i m:=if_neg h
theorem a4I{i k:Nat}(h:(σ.sayN nx vs).own i k):σ.own i k∨(nx≤i∧i<nx+vs.length∧∃v,vs[i-nx]? = some v∧k9 v=some k):=by
 rcases h with h | ⟨m,u,h1,h2⟩
 ·exact .inl (.inl h)
 ·by_cases e:nx≤i∧i<nx+vs.length∧m=0
  ·obtain⟨e1,e2,rfl⟩:=e
   rw[b1K e1 e2] at h1
   exact .inr ⟨e1,e2,u,h1,h2⟩
  ·rw[a2A e] at h1
   exact .inl (.inr ⟨m,u,h1,h2⟩)
theorem c4R{mem:Mem}{W W':World}{ds:List D}{nl:List NL}{al:AL}(hr:RelM ρ σ mem W)(hfr:∀i,nx≤i→i<nx+nl.length→¬σ.has i)(hb:Below W.heap.size W W')(hn:NewLs ρ.w W W' ds nl vs)(hs:∀l∈nl,(X.fn l.s al).ev ρ=l.rows ds):
 Step ρ σ W (b1f nl al nx) (σ.sayN nx vs) W':=by
 have none_h:∀i,nx≤i→i<nx+vs.length→∀m,σ.h i m=none:=fun i h1 h2 m=>by
  cases q:σ.h i m with
  | none=>rfl
  | some y=>exact absurd (.inr ⟨m,y,q⟩) (hfr i h1 (by rw[←hn.len];exact h2))
 have room:∀i v k,vs[i]? = some v→k9 v=some k→W.heap.size≤k∧k<W'.heap.size:=fun i v k h1 h2=>by
  have hi:i<nl.length:=by rw[←hn.len];exact(List.getElem?_eq_some_iff.1 h1).1
  obtain⟨xs,_,_,_,_,q⟩:=hn.each i nl[i] v (List.getElem?_eq_getElem hi) h1
  exact q k h2
 refine⟨⟨fun _ _ h=>h,fun i n u h=> ?_⟩,hb.os,hb.tape,hb.output,hb.size,fun k hk _=>hb.block k hk,fun i hi _=> ?_,fun i a hi=> ?_,fun hinj i j a hi hj=> ?_,fun i b hi=> ?_,Keep.of_eq (fun k hk=>hb.block k hk)⟩
 ·by_cases e:nx≤i∧i<nx+vs.length∧n=0
  ·rw[none_h i e.1 e.2.1] at h;cases h
  ·rw[a2A e];exact h
 ·funext m
  refine a2A fun e=> ?_
  rw[a8D,if_pos e.1,Option.map_eq_none_iff,List.getElem?_eq_none_iff] at hi
  have:=hn.len
  omega
 ·rcases a4I hi with h | ⟨_,_,v,h1,h2⟩
  ·exact .inl h
  ·exact .inr (room _ _ _ h1 h2)
 ·rcases a4I hi with h | ⟨a1,a2,v,h1,h2⟩
  ·rcases a4I hj with h' | ⟨b1,b2,v',h1',h2'⟩
   ·exact hinj i j a h h'
   ·have q1:=hr.lt i a h
    have q2:=room _ _ _ h1' h2'
    omega
  ·rcases a4I hj with h' | ⟨b1,b2,v',h1',h2'⟩
   ·have q1:=hr.lt j a h'
    have q2:=room _ _ _ h1 h2
    omega
   ·have q:=hn.apart _ _ _ _ a h1 h1' h2 h2'
    omega
 ·rw[a8D] at hi
  by_cases hle:nx≤i
  ·rw[if_pos hle,Option.map_eq_some_iff] at hi
   obtain⟨l,hl,rfl⟩:=hi
   have hlt:i-nx<nl.length:=(List.getElem?_eq_some_iff.1 hl).1
   have hlt':i-nx<vs.length:=by rw[hn.len];exact hlt
   have hv:=List.getElem?_eq_getElem hlt'
   obtain⟨xs,h1,h2,h3,h4,h5⟩:=hn.each _ _ _ hl hv
   have ex:(X.fn l.s al).ev ρ=l.rows ds:=hs l (List.mem_of_getElem? hl)
   refine⟨vs[i-nx],xs,?_,fun u hu=> ?_,by rw[ex];exact h1,by rw[ex];exact h2.2,by rw[ex];exact h3⟩
   ·show(σ.sayN nx vs).h i 0=_
    rw[b1K hle (by omega)]
    exact hv
   ·have hu:(0:Int)<u:=hu
    rw[a2A (by omega)]
    exact none_h i hle (by omega) u
  ·rw[if_neg hle] at hi;cases hi
def B9(P:Program)(f:FuncId)(sh:List Sh)(nl:List NL)(ok:List D→Prop)(res:World→List D→List Value→Value→Prop):Prop:=
 ∀(w0 W:World) (vals:List Value) (ds:List D),Below w0.heap.size w0 W→A4 w0 sh vals ds→ok ds→Calls P f vals.toArray W (fun en W'=>∃vs u,en= .returned u∧res w0 ds vs u∧Below W.heap.size W W'∧NewLs w0 W W' ds nl vs)
def ctN(nl:List NL)(obs:List Ob)(out:V)(al:AL)(nx:Nat):T j6:=T.obs obs (.ret (out,b1f nl al nx,nx+nl.length))
theorem a9O{f:FuncId}{sh:List Sh}{nl:List NL}{ok:List D→Prop}{res:World→List D→List Value→Value→Prop}(hg:B9 P f sh nl ok res){args:List V}{al:AL}(ha:Y0 sh args=some al){obs:List Ob}{out:V}
 (hobs:(∀o∈obs,o.ok ρ)→ok (al.ev ρ)) (hs:∀l∈nl,∀a,ρ.fd l.s a=l.rows a) {q:j6} (hq:(ctN nl obs out al nx).res ρ q)
 (hout:∀(σ':As) vs u,(∀k v,vs[k]? = some v→σ'.h (nx+k) 0=some v∧∃a n c,v= .slice a n c)→vs.length=nl.length→res ρ.w (al.ev ρ) vs u→out.den ρ σ' u)
 {mem:Mem} {W:World} {vals:List Value} (hr:RelM ρ σ mem W) (hfr:Fr nx q.2.2 σ) (hd:DL (V.den ρ σ) args vals):CallsIn (FR none) 0 P f vals.toArray W (J1 ρ σ W nx q):=by
 obtain⟨ho,hq⟩:=T.res_obs hq
 obtain rfl:=g7 hq
 have hc:=hg ρ.w W vals (al.ev ρ) hr.base (a8w sh args al ha vals hd) (hobs ho)
 have hw:CallsIn Fence.wide 0 P f vals.toArray W _:=callsIn_wide.2 hc
 refine CallsIn.mono (F:=FR none) hw ?_
 rintro en W' ⟨vs,u,rfl,hres,hb,hn⟩
 have hstep:=c4R (nx:=nx) (al:=al) hr (fun i h1 h2=>hfr i h1 h2) hb hn (fun l hl=>by simp only[X.ev];exact hs l hl _)
 refine⟨u,σ.sayN nx vs,rfl,hout _ vs u (fun k v hk=> ?_) hn.len hres,hstep,fun i hi=> ?_⟩
 ·have hlt:k<vs.length:=(List.getElem?_eq_some_iff.1 hk).1
  have hk':k<nl.length:=by rw[←hn.len];exact hlt
  obtain⟨xs,_,_,_,⟨a,c,e⟩,_⟩:=hn.each k _ v (List.getElem?_eq_getElem hk') hk
  refine⟨?_,a,_,c,e⟩
  rw[b1K (by omega) (by omega),Nat.add_sub_cancel_left]
  exact hk
 ·rcases hi with h | ⟨m,v,h⟩
  ·exact .inl (.inl h)
  ·by_cases e:nx≤i∧i<nx+vs.length∧m=0
   ·exact .inr ⟨e.1,by rw[hn.len] at e;exact e.2.1⟩
   ·rw[a2A e] at h
    exact .inl (.inr ⟨m,v,h⟩)
structure LsAre (ρ:Env) (q:j6) (nl:List NL) (ds:List D) (ss:List S0):Prop where
 len:ss.length=nl.length
 each:∀(k:Nat) (l:NL) (s:S0),nl[k]? = some l→ss[k]? = some s→∃x,U2 q.2.1 l.e l.ks s=some x∧x.ev ρ=l.rows ds
 apart:∀(i j id:Nat) (v v':E),ss[i]? = some (.own id v)→ss[j]? = some (.own id v')→i=j
theorem c6D{q:j6}{l:NL}{ds:List D}{s:S0}{x:X}(h:U2 q.2.1 l.e l.ks s=some x)(hx:x.ev ρ=l.rows ds):LsAre ρ q [l] ds [s]:=by
 refine⟨rfl,fun k l' s' hk hs=> ?_,fun i j id v v' hi hj=> ?_⟩
 ·cases k with
  | zero=>
    simp only[List.getElem?_cons_zero,Option.some.injEq] at hk hs
    subst hk hs
    exact⟨x,h,hx⟩
  | succ k=>simp at hk
 ·cases i with
  | zero=>cases j with
    | zero=>rfl
    | succ j=>simp at hj
  | succ i=>simp at hi
variable {ct:Ct} {lt:Lt}
theorem c3Z(I:Interp)(hmix:P.follows .mixedOrders=true)(hct:∀ρ,ρ.has I→CtOk P ρ ct)(hce:ct.all (fun p=>N8 P p.1)=true){n:Nat}{f:FuncId}{sh:List Sh}{tr:TT j6}(he:T.norm 0 (call P ct lt n f (i6 0 sh) [] 0) TT.ret=tr)
 (hlow:tr.low 1000=true) (hsh:a0Z sh≤1000) {nl:List NL} {ok:List D→Prop} {res:World→List D→List Value→Value→Prop}
 (hs:∀w0 vals ds,A4 w0 sh vals ds→ok ds→tr.sat (f0 I w0 ds) (fun ρ q=>∃ss,LsAre ρ q nl ds ss∧∀(σ:As) u,ρ.w=w0→q.1.den ρ σ u→∃vs,DL (S0.den ρ σ) ss vs∧res w0 ds vs u) (fun _ _=>False)):B9 P f sh nl ok res:=by
 intro w0 W vals ds hbase hrep hok
 obtain⟨ρ',q,h1,⟨ss,h2,h4⟩,_,h5⟩:=O5 (lt:=lt) hmix (fun ρ' ha=>hct ρ' ⟨ha.fi.symm,ha.fb.symm,ha.fd.symm⟩) (L4 hce) he hlow (hs w0 vals ds hrep hok) (σ:=As.none) (W:=W) (vals:=vals)
  (fun ρ' ha=>⟨fun id b h=>by simp [Mem.get] at h,fun i j a h=>absurd h (m5 _ _),fun i a h=>absurd h (m5 _ _),fun i a h=>absurd h (m5 _ _),by rw[←ha.w];exact hbase⟩) (fun k _=>T4 k) (fun ρ' ha=>M2 ha sh 0 vals [] ds rfl rfl (by omega) hrep)
 refine(callsIn_wide (n:=0)).1 ?_
 have h':CallsIn Fence.wide 0 P f vals.toArray W (J1 ρ' As.none W 0 q):=h5
 have hw:ρ'.w=w0:=by rw[←h1.w];rfl
 refine CallsIn.mono h' ?_
 rintro en W' ⟨u,σ',rfl,e1,e2,e3⟩
 obtain⟨vs,hd,hres⟩:=h4 σ' u hw e1
 have hb:Below W.heap.size W W':=⟨e2.os,e2.tape,e2.output,e2.size,fun k hk=>e2.frame k hk (fun i b _ e=>m5 _ _ e)⟩
 have hinj:=e2.inj (fun i j a h=>absurd h (m5 _ _))
 have hl:vs.length=nl.length:=by rw[←h2.len];exact(DL.length hd).symm
 have key:∀(k:Nat) (l:NL) (v:Value),nl[k]? = some l→vs[k]? = some v→b2g w0 W W' ds l v∧∀a,k9 v=some a→∃id ver,ss[k]? = some (S0.own id ver)∧σ'.own id a:=fun k l v hk hv=>by
  have hks:k<ss.length:=by rw[h2.len];exact(List.getElem?_eq_some_iff.1 hk).1
  have hsk:=List.getElem?_eq_getElem hks
  obtain⟨v',hv',hden⟩:=DL.get hd hsk
  obtain rfl:v'=v:=by rw[hv'] at hv;exact Option.some.inj hv
  obtain⟨x,hx1,hx2⟩:=h2.each k l _ hk hsk
  have hsk':∀id ver,ss[k]=S0.own id ver→ss[k]? = some (S0.own id ver):=fun id ver e=>by rw[hsk,e]
  generalize ss[k]=s at hx1 hden hsk'
  unfold U2 at hx1
  split at hx1
  ·rename_i id ver
   split at hx1
   ·rename_i e' ks' x' ver' hm
    split at hx1
    ·rename_i hc
     simp only[Bool.and_eq_true] at hc
     obtain⟨⟨c1,c2⟩,c3⟩:=hc
     have c1:=j9 c1
     have c2:=CK.sameL_eq _ _ c2
     have c3:=E.same_eq _ _ c3
     simp only[Option.some.injEq] at hx1
     subst hx1
     obtain⟨v2,xs,hO⟩:=e2.blk _ _ hm
     obtain⟨⟨a,m,c,rfl⟩,e5⟩:=hden
     have hvv:=hO.now
     rw[←c3,e5] at hvv
     simp only[Option.some.injEq] at hvv
     subst hvv
     have hrow:=hO.row
     have hrows:=hO.reps
     have hbig:=hO.big
     rw[hw,←c1,←c2] at hrow
     rw[hw,←c2] at hrows
     rw[hx2] at hrow hrows hbig
     have hm:m=(l.rows ds).length:=by
      rcases hrow with ⟨_,h2⟩ | ⟨h2,_,b,h3⟩
      ·rcases h2 with ⟨h2,h3⟩ | ⟨g,cap,cur,h2,_⟩
       ·simp only[Value.slice.injEq] at h2;omega
       ·simp only[Value.slice.injEq] at h2
        exact h2.2.1
      ·simp only[Value.slice.injEq] at h3;omega
     have hown:∀k,k9 (.slice a m c)=some k→σ'.own id k:=fun k hk=> .inr ⟨_,_,e5,hk⟩
     refine⟨⟨xs,hrow,⟨?_,hrows⟩,hbig,⟨a,c,by rw[hm]⟩,fun k hk=> ?_⟩,fun k hk=>⟨id,ver,hsk' _ _ rfl,hown k hk⟩⟩
     ·rcases hrow with h | ⟨h3,h4,_⟩
      ·exact h.1
      ·rw[h3,h4];simp
     ·rcases e2.new id k (hown k hk) with h | h
      ·exact absurd h (m5 _ _)
      ·exact h
    ·cases hx1
   ·cases hx1
  ·simp only[Option.some.injEq] at hx1
   subst hx1
   obtain rfl:v'= .slice none 0 0:=hden
   have h3:[]=l.rows ds:=by rw[←hx2];simp [X.ev]
   refine⟨⟨[],?_,?_,?_,⟨none,0,?_⟩,fun k hk=>by simp [k9] at hk⟩,fun k hk=>by simp [k9] at hk⟩
   ·rw[←h3];exact .inl (World.ownsRow_nil _ _ _ _)
   ·rw[←h3];exact RowsAt.nil _ _
   ·rw[←h3];simp
   ·rw[←h3];rfl
  ·cases hx1
 refine⟨vs,u,rfl,hres,hb,hl,fun k l v hk hv=>(key k l v hk hv).1,fun i j vi vj a hi hj ha hb'=> ?_⟩
 have hi':i<nl.length:=by rw[←hl];exact(List.getElem?_eq_some_iff.1 hi).1
 have hj':j<nl.length:=by rw[←hl];exact(List.getElem?_eq_some_iff.1 hj).1
 obtain⟨id,ver,p1,p2⟩:=(key i _ vi (List.getElem?_eq_getElem hi') hi).2 a ha
 obtain⟨id',ver',p3,p4⟩:=(key j _ vj (List.getElem?_eq_getElem hj') hj).2 a hb'
 obtain rfl:=hinj _ _ _ p2 p4
 exact h2.apart _ _ _ _ _ p1 p3
end
end Go.Proofs.YtldbejmgalhdaaaGreat
namespace Go.Proofs.YtldbejmgalhdaaaGreat
open Go.RowKit
section
variable {P:Program}
theorem M7{ops:Array Oper}{rest:List Oper}{o:Oper}{a:Act}{W:World}{Q:Exit→Act→World→Prop}(hgd:o.guard=none)(s x:Operand)(t:TypeId)
 (ho:o.op= .call { callee:= .builtin .append,args:= #[s,x],argTypes:= #[t,t] }) (base:Nat) (e:TypeId) (i:TypeInfo) (z:Value) (size bytes:Nat) (ht:P.underlying t=some (.slice e)) (hi:P.info? e=some i) (hz:i.zero=some z)
 (hsize:i.size=size) (hby:i.bytes=bytes) (hzs:z.cells.size=size) (v:Value) (n:Nat) (xs:List Value) (hs:a.eval s=v) (hown:OwnRow W base e size v n xs) (hv:∃a c,v= .slice a n c)
 (ad:Option Addr) (m c:Nat) (news:List Value) (hx:a.eval x= .slice ad m c) (hl:news.length=m*size) (ha:0<m→ad.isSome=true) (hnews:∀b,ad=some b→∀j u,news[j]? = some u→W.cell? (b.add j)=some u) (h1:∀u∈news,u.oneCell'=true)
 (h63:n+m≤maxLen) (hbytes:(n+m)*bytes≤140737488355328) (hbase:base≤W.heap.size)
 (h:∀v' W',AppRes W base e size v (n+m) (xs++news) v' W'→wpList P ops Q rest (a.put o.dst v') W'):wpList P ops Q (o::rest) a W:=by
 refine wpList_plain hgd fun K hK=> ?_
 obtain⟨v',W',hr,h2⟩:=a0R (P:=P) W (base:=base) (t:=t) (ty:=o.type) (z:=z) (size:=size) ht hi hz hsize hzs hown hv hl ha hnews h1 h63 (by rw[hby];exact hbytes) hbase
 unfold Oper.wp execOp
 simp only[ho,resolve,invoke,builtin,Sem.run_bind,Sem.run_pure,Result.andThen_ok,List.map_toArray,List.map_cons,List.map_nil,hs,hx]
 rw[hr]
 exact hK _ _ (h v' W' h2)
theorem a9s{t e:TypeId}(ht:P.underlying t=some (.slice e))(a:Option Addr)(n c:Nat)(W:World):Sem.run P (binOp .eql t (.slice a n c) (.slice none 0 0)) W= .ok (.bool a.isNone) W:=by
 have h0:binOp .eql t (.slice a n c) (.slice none 0 0)=(do pure (.bool (←Op.equal t (.slice a n c) (.slice none 0 0)))):=rfl
 have h1:∀d,Sem.run P (Op.equalIn (d+1) t (.slice a n c) (.slice none 0 0)) W= .ok a.isNone W:=fun d=>by
  rw[Op.equalIn]
  simp only[Sem.run_bind,run_underlying ht,Result.andThen_ok]
  cases a<;>rfl
 have h2:Sem.run P (Op.equal t (.slice a n c) (.slice none 0 0)) W= .ok a.isNone W:=h1 _
 rw[h0]
 simp only[Sem.run_bind,h2,Result.andThen_ok,Sem.run_pure]
theorem AppRes.fresh{W W':World}{o:Obj}{base:Nat}{e:TypeId}{size:Nat}{a:Option Addr}{n m:Nat}{xs:List Value}{v':Value}(h:AppRes (W.alloc o) base e size (.slice a 0 0) m xs v' W')(hm:m=n):AppRes W base e size (.slice none 0 0) n xs v' W':=by
 subst hm
 have hr:k9 (.slice a 0 0)=none:=by cases a<;>rfl
 refine⟨h.row,h.os,h.tape,h.output,?_,fun k hk _=> ?_,fun k hk=> ?_,?_,h.sl⟩
 ·have:=h.size
  simp only[World.size_alloc] at this
  omega
 ·rw[h.block k (by simp;omega) (by rw[hr];simp)]
  exact Below.heap_alloc _ _ _ hk
 ·rcases h.room k hk with q | q
  ·rw[hr] at q;cases q
  ·simp only[World.size_alloc] at q
   exact .inr ⟨by omega,q.2⟩
 ·exact Keep.trans (Keep.of_eq (fun k hk=>Below.heap_alloc _ _ _ hk)) h.keep
def b1r(P:Program)(f:FuncId)(e:TypeId)(size:Nat):Prop:=∀(W:World) (base:Nat) (a:Option Addr) (n c:Nat) (news:List Value),base≤W.heap.size→news.length=n*size→(0<n→a.isSome=true)→
 (∀b,a=some b→∀j u,news[j]? = some u→W.cell? (b.add j)=some u)→(∀u∈news,u.oneCell'=true)→n≤1000000→Calls P f #[.slice a n c] W (fun en W'=>∃v',en= .returned v'∧AppRes W base e size (.slice none 0 0) n news v' W')
def a9m(e:TypeId)(ks:List CK)(args:List V)(mem:Mem)(nx:Nat):T j6:=match args with
 | [.v (.one (.z s))]=>match b1z mem ks s with
   | some x=> .obs [a1Q x] (.ret (.s0 (.own nx (.lit 0)),[(nx,.own e ks x (.lit 0))],nx+1))
   | none=> .stuck "Clone"
 | _=> .stuck "Clone"
theorem b2r{ρ:Env}{f:FuncId}{e:TypeId}{ks:List CK}(hc:b1r P f e ks.length):i9 P ρ f (a9m e ks):=by
 intro args mem nx q hq hle σ W vals hr hfr hd
 unfold a9m at hq
 split at hq
 ·rename_i s
  split at hq
  ·rename_i x hx
   obtain⟨ho,hq⟩:=T.res_obs hq
   obtain rfl:=g7 hq
   obtain⟨u1,us,rfl,d1,d2⟩:=DL.cons_inv hd
   obtain rfl:=DL.nil_inv d2
   have hlen:=a0x (ho _ (List.mem_singleton.2 rfl))
   obtain⟨a,n,c,xs,rfl,hsrc,hnb,_⟩:=a2M hx d1 hr
   have hml:=hsrc.len
   have hcalls:=hc W ρ.w.heap.size a n c xs hr.base.size (by rw[hsrc.rows.1,←hml]) hsrc.there hsrc.cell hsrc.rows.all_one (by omega)
   have hw:CallsIn Fence.wide 0 P f #[.slice a n c] W _:=callsIn_wide.2 hcalls
   refine CallsIn.mono (F:=FR none) hw ?_
   rintro en W' ⟨v',rfl,happ⟩
   have hnx:=hfr nx (Nat.le_refl _) (Nat.lt_succ_self _)
   have hnone:∀k,σ.h nx k= .none:=fun k=>by
    cases hk:σ.h nx k with
    | none=>rfl
    | some y=>exact absurd (.inr ⟨k,y,hk⟩) hnx
   rw[hml] at happ
   have hstep:=G4 (ρ:=ρ) (σ:=σ) (W:=W) (id:=nx) (t:=e) (ks:=ks) (x:=x) (ver:= .lit 0) (v:= .slice .none 0 0) (v':=v') (W':=W') (xs:=xs) (fun i a hi=>hr.lt i a hi) (hnone _) (fun u _=>hnone u) hr.inj (fun k hk=>by cases hk) happ hsrc.rows.2 (by omega)
   obtain⟨a',c',hv'⟩:=happ.sl
   exact⟨_,_,rfl,⟨⟨a',_,c',hv'⟩,As.say_self⟩,hstep,fun i hi=>(F7 hi).imp id (fun h=>⟨by omega,by show i<nx+1;omega⟩)⟩
  ·exact hq.elim
 ·exact hq.elim
end
end Go.Proofs.YtldbejmgalhdaaaGreat
namespace Go.Proofs.YtldbejmgalhdaaaGreat
open Go.RowKit
section
variable {P:Program}
theorem C5(W:World){bt:TypeId}(g o:Nat)(cur:List Value)(hg:W.heap[g]? = some (.cells cur.toArray bt (0,0)))(zs:List Value)(h1:∀u∈zs,u.oneCell'=true)(hfit:o+zs.length≤cur.length):
 (storeCells ⟨g,o,none⟩ zs).run P W= .ok () (W.setCells g o zs)∧(W.setCells g o zs).heap[g]? = some (.cells (w7 cur o zs).toArray bt (0,0))∧
  (W.setCells g o zs).os=W.os∧(W.setCells g o zs).tape=W.tape∧(W.setCells g o zs).output=W.output∧(W.setCells g o zs).heap.size=W.heap.size∧∀q,q≠g→(W.setCells g o zs).heap[q]? = W.heap[q]? := by
 obtain⟨W',e1,e2,e3,e4,e5,e6,e7⟩:=H8 (P:=P) zs 0 W cur o (fun u hu=>a9l (h1 u hu)) hg (by omega)
 have e:=run_storeCells_cells (P:=P) g o zs 0 W (fun j hj=>by
  rw[v6 hg,List.getElem?_toArray,List.getElem?_eq_getElem (by omega)]
  rfl) (fun j hj=>by simp [World.frozen?,hg,Addr.off]) h1
 have hw:W'=W.setCells g o zs:=by
  have q:=e1.symm.trans e
  simp only[Result.ok.injEq,true_and] at q
  simpa using q
 subst hw
 exact⟨e1,e2,e3,e4,e5,e6,e7⟩
theorem E3(W:World){t t' ty e bt:TypeId}{i:TypeInfo}(hu:P.underlying t=some (.slice e))(hi:P.info? e=some i)(g o dn dc:Nat)(cur:List Value)(hg:W.heap[g]? = some (.cells cur.toArray bt (0,0)))
 (b:Addr) (m c k:Nat) (hk:Nat.min m dn=k) (zs:List Value) (hz:zs.length=k*i.size) (hcell:∀j v,zs[j]? = some v→W.cell? (b.add j)=some v) (h1:∀u∈zs,u.oneCell'=true) (hfit:o+zs.length≤cur.length):
 (Builtin.copy_ #[t,t'] ty #[.slice (some ⟨g,o,none⟩) dn dc,.slice (some b) m c]).run P W= .ok (.int .i64 k) (W.setCells g o zs):=by
 obtain⟨e1,_⟩:=C5 (P:=P) W g o cur hg zs h1 hfit
 have hfirst:(Builtin.firstCells i.size k (.slice (some b) m c)).run P W= .ok zs.toArray W:=run_firstCells_some (P:=P) W i.size k b m c _ hz hcell
 have hc:P.cellsOf e=i.size:=by simp [Program.cellsOf,hi]
 rw[←hc] at hfirst
 simp [Builtin.copy_,run_underlying hu,Builtin.lenOf,l9 hi,hk,hfirst,e1,goInt]
theorem AppRes.inplace{W W':World}{base:Nat}{e:TypeId}{size g n cap:Nat}{cur cur':List Value}{ys:List Value}(hbg:base≤g)(hg:W.heap[g]? = some (.cells cur.toArray e (0,0)))(hn:n<cap)(hcm:cap≤maxLen)(hcs:cur'.length=cap*size)
 (hg':W'.heap[g]? = some (.cells cur'.toArray e (0,0))) (hl:ys.length=(n+1)*size) (htk:cur'.take ((n+1)*size)=ys) (h1:W'.os=W.os) (h2:W'.tape=W.tape) (h3:W'.output=W.output) (h4:W.heap.size≤W'.heap.size)
 (h5:∀q,q≠g→q<W.heap.size→W'.heap[q]? = W.heap[q]?):AppRes W base e size (.slice (some ⟨g,0,none⟩) n cap) (n+1) ys (.slice (some ⟨g,0,none⟩) (n+1) cap) W':=by
 obtain⟨c',rfl⟩:∃c',cap=c'+1:=⟨cap-1,by omega⟩
 refine⟨.inl ⟨hl,.inr ⟨g,_,_,rfl,hbg,hg',hn,hcm,by simpa using hcs,by simpa using htk⟩⟩,h1,h2,h3,h4,fun k hk hr=>h5 k (fun e=>hr (by rw[e];rfl)) hk,fun k hk=> .inl hk,fun k L hL=> ?_,_,_,rfl⟩
 have hkg:k≠g:=fun e=>by subst e;rw[hg] at hL;cases hL
 exact⟨L,by rw[h5 k hkg (L7 hL)];exact hL,rfl,rfl,rfl,rfl⟩
theorem AppRes.newrow{W W':World}{base:Nat}{e:TypeId}{size g n cap:Nat}{v:Value}{cur':List Value}{ys:List Value}(hbg:base≤W.heap.size)(hge:W.heap.size≤g)(hgl:g<W'.heap.size)(hn:n+1≤cap)(hcm:cap≤maxLen)(hcs:cur'.length=cap*size)
 (hg':W'.heap[g]? = some (.cells cur'.toArray e (0,0))) (hl:ys.length=(n+1)*size) (htk:cur'.take ((n+1)*size)=ys) (h1:W'.os=W.os) (h2:W'.tape=W.tape) (h3:W'.output=W.output)
 (h5:∀q,q<W.heap.size→W'.heap[q]? = W.heap[q]?):AppRes W base e size v (n+1) ys (.slice (some ⟨g,0,none⟩) (n+1) cap) W':=by
 refine⟨.inl ⟨hl,.inr ⟨g,_,_,rfl,by omega,hg',hn,hcm,by simpa using hcs,by simpa using htk⟩⟩,h1,h2,h3,by omega,fun k hk _=>h5 k hk,fun k hk=> .inr ?_,fun k L hL=> ?_,_,_,rfl⟩
 ·obtain⟨c',rfl⟩:∃c',cap=c'+1:=⟨cap-1,by omega⟩
  simp only[k9,Option.some.injEq] at hk
  omega
 ·exact⟨L,by rw[h5 k (L7 hL)];exact hL,rfl,rfl,rfl,rfl⟩
theorem a7u{cur xs news:List Value}{p s m:Nat}(hx:cur.take m=xs)(hxl:xs.length=m)(hp:p≤m)(hnl:news.length=s)(hfit:m+s≤cur.length):
 (w7 (w7 cur (p+s) (xs.drop p)) p news).take (m+s)=xs.take p++news++xs.drop p∧(w7 (w7 cur (p+s) (xs.drop p)) p news).length=cur.length:=by
 have hd:(xs.drop p).length=m-p:=by rw[List.length_drop,hxl]
 have l1:(w7 cur (p+s) (xs.drop p)).length=cur.length:=D7 (by omega)
 have l2:(w7 (w7 cur (p+s) (xs.drop p)) p news).length=cur.length:=by rw[D7 (by omega),l1]
 refine⟨List.ext_getElem? fun j=> ?_,l2⟩
 have hxj:∀j,j<m→cur[j]? = xs[j]? := fun j hj=>by rw[←hx,List.getElem?_take_of_lt hj]
 rcases Nat.lt_or_ge j (m+s) with q | q
 ·rw[List.getElem?_take_of_lt q,F5 (by omega),F5 (by omega)]
  rcases Nat.lt_or_ge j p with q1 | q1
  ·rw[if_neg (by omega),if_neg (by omega),List.append_assoc,List.getElem?_append_left (by rw[List.length_take];omega),List.getElem?_take_of_lt q1,hxj j (by omega)]
  ·rcases Nat.lt_or_ge j (p+s) with q2 | q2
   ·rw[if_pos (by omega),List.append_assoc,List.getElem?_append_right (by rw[List.length_take];omega),List.getElem?_append_left (by rw[List.length_take];omega)]
    congr 1
    rw[List.length_take];omega
   ·rw[if_neg (by omega),if_pos (by omega),List.getElem?_append_right (by rw[List.length_append,List.length_take];omega)]
    congr 1
    rw[List.length_append,List.length_take];omega
 ·rw[List.getElem?_eq_none (by rw[List.length_take];omega),List.getElem?_eq_none (by rw[List.length_append,List.length_append,List.length_take,hd];omega)]
theorem a3h{rest xs news:List Value}{p s m:Nat}(hxl:xs.length=m)(hp:p≤m)(hnl:news.length=s)(hfit:m+s≤(xs.take p++rest).length):
 (w7 (w7 (xs.take p++rest) p news) (p+s) (xs.drop p)).take (m+s)=xs.take p++news++xs.drop p∧(w7 (w7 (xs.take p++rest) p news) (p+s) (xs.drop p)).length=(xs.take p++rest).length:=by
 have hd:(xs.drop p).length=m-p:=by rw[List.length_drop,hxl]
 have ht:(xs.take p).length=p:=by rw[List.length_take];omega
 have l1:(w7 (xs.take p++rest) p news).length=(xs.take p++rest).length:=D7 (by omega)
 have l2:(w7 (w7 (xs.take p++rest) p news) (p+s) (xs.drop p)).length=(xs.take p++rest).length:=by rw[D7 (by omega),l1]
 refine⟨List.ext_getElem? fun j=> ?_,l2⟩
 rcases Nat.lt_or_ge j (m+s) with q | q
 ·rw[List.getElem?_take_of_lt q,F5 (by omega),F5 (by omega)]
  rcases Nat.lt_or_ge j p with q1 | q1
  ·rw[if_neg (by omega),if_neg (by omega),List.append_assoc,List.getElem?_append_left (by omega),List.getElem?_append_left (by omega)]
  ·rcases Nat.lt_or_ge j (p+s) with q2 | q2
   ·rw[if_neg (by omega),if_pos (by omega),List.append_assoc,List.getElem?_append_right (by omega),List.getElem?_append_left (by omega),ht]
   ·rw[if_pos (by omega),List.getElem?_append_right (by rw[List.length_append];omega)]
    congr 1
    rw[List.length_append];omega
 ·rw[List.getElem?_eq_none (by rw[List.length_take];omega),List.getElem?_eq_none (by rw[List.length_append,List.length_append,hd];omega)]
theorem a5m{α:Type}(l:List α)(A B:Array α):(l++(A++B).toList).toArray=l.toArray++A++B:=by
 apply Array.ext'
 simp
def a7J(P:Program)(f:FuncId)(e:TypeId)(size:Nat):Prop:=∀(W:World) (base:Nat) (a:Option Addr) (n c i vb vo vc:Nat) (xs vs news:List Value) (tv:TypeId),
 base≤W.heap.size→OwnRow W base e size (.slice a n c) n xs→i≤n→W.heap[vb]? = some (.cells vs.toArray tv (0,0))→(vs.drop vo).take size=news→news.length=size→(∀k,k9 (.slice a n c)=some k→k≠vb)→
 (∀u∈news,u.oneCell'=true)→(∀u∈xs,u.oneCell'=true)→n<1000000→
 Calls P f #[.slice a n c,.int .i64 i,.slice (some ⟨vb,vo,none⟩) 1 vc] W (fun en W'=>∃v',en= .returned v'∧AppRes W base e size (.slice a n c) (n+1) (xs.take (i*size)++news++xs.drop (i*size)) v' W')
end
end Go.Proofs.YtldbejmgalhdaaaGreat
namespace Go.Proofs.YtldbejmgalhdaaaGreat
open Go.RowKit
inductive Ag where | d (sh:Sh) | f (g:FuncId) | p (t:TypeId) (ks:List CK)
def Q3:Nat→Nat→List Ag→List V
 | _,_,[]=>[]
 | j,id,.d (.one k)::r=> .v (.one (a6O j k))::Q3 (j+1) id r
 | j,id,.d (.agg ks)::r=> .v (.agg (a2t j ks))::Q3 (j+ks.length) id r
 | j,id,.f g::r=> .s0 (.clo g [])::Q3 j id r
 | j,id,.p _ ks::r=> .s0 (.ptr id 0)::Q3 (j+ks.length) (id+1) r
def a1b:Nat→Nat→List Ag→Mem
 | _,_,[]=>[]
 | j,id,.d (.one _)::r=>a1b (j+1) id r
 | j,id,.d (.agg ks)::r=>a1b (j+ks.length) id r
 | j,id,.f _::r=>a1b j id r
 | j,id,.p t ks::r=>(id,.cells t (a2t j ks))::a1b (j+ks.length) (id+1) r
def a0u:List Ag→Nat
 | []=>0
 | .d (.one _)::r=>a0u r+1
 | .d (.agg ks)::r=>ks.length+a0u r
 | .f _::r=>a0u r
 | .p _ ks::r=>ks.length+a0u r
def agN:List Ag→Nat
 | []=>0
 | .p _ _::r=>agN r+1
 | _::r=>agN r
def U0(w0 w:World):List Ag→List Value→List D→List Nat→Prop
 | [],vs,ds,bs=>vs=[]∧ds=[]∧bs=[]
 | .d sh::r,vs,ds,bs=>∃v vs' d ds',vs=v::vs'∧ds=d++ds'∧sh.rep w0 v d∧U0 w0 w r vs' ds' bs
 | .f g::r,vs,ds,bs=>∃vs',vs= .func (.func g) #[] #[]::vs'∧U0 w0 w r vs' ds bs
 | .p t ks::r,vs,ds,bs=>∃b vs' us d ds' bs',vs= .pointer (some ⟨b,0,none⟩)::vs'∧bs=b::bs'∧ds=d++ds'∧w0.heap.size≤b∧w.heap[b]? = some (.cells us.toArray t (0,0))∧CK.reps w0 ks us d∧U0 w0 w r vs' ds' bs'
def a5S(P:Program)(f:FuncId)(l:List Ag)(ok:List D→Prop)(g:List D→Value):Prop:=
 ∀(w0 W:World) (vals:List Value) (ds:List D) (bs:List Nat),Below w0.heap.size w0 W→U0 w0 W l vals ds bs→bs.Nodup→ok ds→Calls P f vals.toArray W (fun e W'=>e= .returned (g ds)∧Below W.heap.size W W')
def a8e(bs:List Nat):As:= { f:=fun i=>bs[i]?,h:=fun _ _=>none }
section
variable {P:Program} {ρ:Env}
theorem a2z{bs:List Nat}{i a:Nat}(h:(a8e bs).own i a):bs[i]? = some a:=by
 rcases h with h | ⟨n,v,h,_⟩
 ·exact h
 ·cases h
theorem a2U{w0 w:World}:∀ {l:List Ag} {vs:List Value} {ds:List D} {bs:List Nat},U0 w0 w l vs ds bs→bs.length=agN l∧∀b∈bs,w0.heap.size≤b∧b<w.heap.size
 | [],vs,ds,bs,h=>by obtain⟨_,_,rfl⟩:=h;exact⟨rfl,fun b hb=>by simp at hb⟩
 | .d sh::r,vs,ds,bs,h=>by obtain⟨_,_,_,_,_,_,_,h⟩:=h;exact a2U (l:=r) h
 | .f g::r,vs,ds,bs,h=>by obtain⟨_,_,h⟩:=h;exact a2U (l:=r) h
 | .p t ks::r,vs,ds,bs,h=>by
   obtain⟨b,_,_,_,_,bs',_,rfl,_,h1,h2,_,h⟩:=h
   obtain⟨e1,e2⟩:=a2U (l:=r) h
   refine⟨by simp [agN,e1],fun x hx=> ?_⟩
   rcases List.mem_cons.1 hx with e | hx
   ·subst e;exact⟨h1,L7 h2⟩
   ·exact e2 x hx
theorem P6{w0 W:World}{ds0:List D}{I:Interp}{c:Nat}(ha:Agree c (f0 I w0 ds0) ρ){bs0:List Nat}:∀(l:List Ag) (j id:Nat) (vs:List Value) (pre ds:List D) (bp bs:List Nat),ds0=pre++ds→pre.length=j→j+a0u l≤c→bs0=bp++bs→bp.length=id→U0 w0 W l vs ds bs→
 DL (V.den ρ (a8e bs0)) (Q3 j id l) vs∧∀i b,(a1b j id l).get i=some b→BlkRel ρ (a8e bs0) i W b
 | [],j,id,vs,pre,ds,bp,bs,_,_,_,_,_,h=>by
   obtain⟨rfl,_,_⟩:=h
   exact⟨trivial,fun i b hi=>by simp [a1b,Mem.get] at hi⟩
 | .d (.one k)::r,j,id,vs,pre,ds,bp,bs,hds,hj,hc,hb,hid,h=>by
   obtain⟨v,vs',d,ds',rfl,rfl,⟨d0,rfl,h1⟩,h2⟩:=h
   simp only[a0u] at hc
   obtain⟨e1,e2⟩:=P6 ha r (j+1) id vs' (pre++[d0]) ds' bp bs (by simp [hds]) (by simp [hj]) (by omega) hb hid h2
   refine⟨⟨a3v ha (by omega) (d:=d0) ?_ h1,e1⟩,e2⟩
   rw[hds,←hj]
   simp
 | .d (.agg ks)::r,j,id,vs,pre,ds,bp,bs,hds,hj,hc,hb,hid,h=>by
   obtain⟨v,vs',d,ds',rfl,rfl,⟨us,rfl,h1⟩,h2⟩:=h
   simp only[a0u] at hc
   have hl:d.length=ks.length:=(u9 h1).2
   obtain⟨e1,e2⟩:=P6 ha r (j+ks.length) id vs' (pre++d) ds' bp bs (by simp [hds]) (by simp [hj,hl]) (by omega) hb hid h2
   exact⟨⟨⟨us,a0z ha ks j us pre d ds' (by simp [hds]) hj (by omega) h1,rfl⟩,e1⟩,e2⟩
 | .f g::r,j,id,vs,pre,ds,bp,bs,hds,hj,hc,hb,hid,h=>by
   obtain⟨vs',rfl,h2⟩:=h
   simp only[a0u] at hc
   obtain⟨e1,e2⟩:=P6 ha r j id vs' pre ds bp bs hds hj hc hb hid h2
   exact⟨⟨⟨[],trivial,rfl⟩,e1⟩,e2⟩
 | .p t ks::r,j,id,vs,pre,ds,bp,bs,hds,hj,hc,hb,hid,h=>by
   obtain⟨b,vs',us,d,ds',bs',rfl,rfl,rfl,h0,h1,h3,h2⟩:=h
   simp only[a0u] at hc
   have hl:d.length=ks.length:=(u9 h3).2
   obtain⟨e1,e2⟩:=P6 (bs0:=bs0) ha r (j+ks.length) (id+1) vs' (pre++d) ds' (bp++[b]) bs' (by simp [hds]) (by simp [hj,hl]) (by omega) (by simp [hb]) (by simp [hid]) h2
   have hσ:(a8e bs0) id=some b:=by
    show bs0[id]? = some b
    rw[hb,List.getElem?_append_right (by omega),hid,Nat.sub_self];rfl
   refine⟨⟨⟨b,hσ,rfl⟩,e1⟩,fun i b' hi=> ?_⟩
   simp only[a1b,Mem.get] at hi
   split at hi
   ·rename_i hii
    simp only[beq_iff_eq] at hii
    subst hii
    simp only[Option.some.injEq] at hi
    subst hi
    exact⟨b,hσ,us,a0z ha ks j us pre d ds' (by simp [hds]) hj (by omega) h3,h1⟩
   ·exact e2 i b' hi
variable {ct:Ct} {lt:Lt}
theorem b3d(I:Interp)(hmix:P.follows .mixedOrders=true)(hct:∀ρ,ρ.has I→CtOk P ρ ct)(hce:ct.all (fun p=>N8 P p.1)=true){n:Nat}{f:FuncId}{l:List Ag}{tr:TT j6}(he:T.norm 0 (call P ct lt n f (Q3 0 0 l) (a1b 0 0 l) (agN l)) TT.ret=tr)
 (hlow:tr.low 1000=true) (hsh:a0u l≤1000) {ok:List D→Prop} {g:List D→Value} (hs:∀w0 W vals ds bs,U0 w0 W l vals ds bs→ok ds→tr.sat (f0 I w0 ds) (fun ρ q=>q.1.plain=true∧q.1.val ρ=g ds∧q.2.1=[]) (fun _ _=>False)):a5S P f l ok g:=by
 intro w0 W vals ds bs hbase hr hnd hok
 obtain⟨hbl,hbb⟩:=a2U hr
 obtain⟨ρ',q,h1,⟨h2,h3,h4⟩,_,h5⟩:=O5 (lt:=lt) hmix (fun ρ' ha=>hct ρ' ⟨ha.fi.symm,ha.fb.symm,ha.fd.symm⟩) (L4 hce) he hlow (hs w0 W vals ds bs hr hok) (σ:=a8e bs) (W:=W) (vals:=vals)
  (fun ρ' ha=>⟨(P6 ha l 0 0 vals [] ds [] bs rfl rfl (by omega) rfl rfl hr).2,fun i j a hi hj=>(List.getElem?_inj (by
   have:=a2z hi
   exact(List.getElem?_eq_some_iff.1 this).1) hnd).mp ((a2z hi).trans (a2z hj).symm),fun i a h=>(hbb a (List.mem_of_getElem? (a2z h))).2,fun i a h=>by rw[←ha.w];exact(hbb a (List.mem_of_getElem? (a2z h))).1,by rw[←ha.w];exact hbase⟩)
  (fun k hk h=>by
   rcases h with ⟨a,h⟩ | ⟨m,v,h⟩
   ·have:bs[k]? = some a:=h
    have:=(List.getElem?_eq_some_iff.1 this).1
    omega
   ·cases h) (fun ρ' ha=>(P6 ha l 0 0 vals [] ds [] bs rfl rfl (by omega) rfl rfl hr).1)
 refine(callsIn_wide (n:=0)).1 ?_
 have h':CallsIn Fence.wide 0 P f vals.toArray W (J1 ρ' (a8e bs) W (agN l) q):=h5
 refine CallsIn.mono h' ?_
 rintro e W' ⟨u,σ',rfl,e1,e2,e3⟩
 refine⟨by rw[V.den_val h2 e1,h3],?_⟩
 exact⟨e2.os,e2.tape,e2.output,e2.size,fun k hk=>e2.frame k hk (fun i b hi=>by rw[h4] at hi;simp [Mem.get] at hi)⟩
def c9D(g:FuncId):V→Bool
 | .v (.one (.z (.clo g' [])))=>Nat.beq g g'
 | _=>false
theorem c8g{σ:As}{g:FuncId}{v:V}(h:c9D g v=true){u:Value}(hd:v.den ρ σ u):u= .func (.func g) #[] #[]:=by
 unfold c9D at h
 split at h
 ·obtain rfl:=j9 h
  obtain⟨vs,h1,rfl⟩:=hd
  cases vs with
  | nil=>rfl
  | cons a b=>exact h1.elim
 ·cases h
def J9(mem:Mem):List Ag→List V→Option AL
 | [],[]=>some .nil
 | .d sh::r,v::vs=>match c8L mem sh v,J9 mem r vs with
   | some a,some b=>some (a.app b)
   | _,_=>none
 | .f g::r,v::vs=>if c9D g v then J9 mem r vs else none
 | _,_=>none
def b7e(l:List Ag)(out:AL→T V)(args:List V)(mem:Mem)(nx:Nat):T j6:=match J9 mem l args with
 | some al=>(out al).bind fun v=> .ret (v,[],nx)
 | none=> .stuck "contract"
theorem a1J{σ:As}{mem:Mem}{W:World}(hr:RelM ρ σ mem W):∀(l:List Ag) (args:List V) (al:AL),J9 mem l args=some al→∀vals,DL (V.den ρ σ) args vals→U0 W W l vals (al.ev ρ) []
 | [],[],al,h,vals,hd=>by
   simp only[J9,Option.some.injEq] at h
   subst h
   exact⟨DL.nil_inv hd,by simp [AL.ev],rfl⟩
 | .d sh::r,v::vs,al,h,vals,hd=>by
   simp only[J9] at h
   split at h
   ·rename_i a b h1 h2
    simp only[Option.some.injEq] at h
    subst h
    obtain⟨u,us,rfl,e1,e2⟩:=DL.cons_inv hd
    have g1:=a1J hr r vs b h2 us e2
    have h1':U5 mem [sh] [v]=some (a.app .nil):=by simp [U5,h1]
    obtain⟨u',us',d,ds',q1,q2,q3,q4,q5⟩:=a0P hr [sh] [v] _ h1' [u] ⟨e1,trivial⟩
    simp only[List.cons.injEq] at q1
    obtain⟨rfl,rfl⟩:=q1
    subst q5
    rw[AL.app_ev] at q2
    simp only[AL.ev,List.append_nil] at q2
    exact⟨u,us,a.ev ρ,b.ev ρ,rfl,AL.app_ev _ _ _,by rw[q2];exact q3,g1⟩
   ·cases h
 | .f g::r,v::vs,al,h,vals,hd=>by
   simp only[J9] at h
   split at h
   ·rename_i hf
    obtain⟨u,us,rfl,e1,e2⟩:=DL.cons_inv hd
    exact⟨us,by rw[c8g hf e1],a1J hr r vs al h us e2⟩
   ·cases h
 | .p t ks::r,_,al,h,vals,hd=>by simp [J9] at h
 | [],_::_,al,h,_,_=>by simp [J9] at h
 | .d _::_,[],al,h,_,_=>by simp [J9] at h
 | .f _::_,[],al,h,_,_=>by simp [J9] at h
theorem d1N{f:FuncId}{l:List Ag}{out:AL→T V}{ok:List D→Prop}{g:List D→Value}(hg:a5S P f l ok g)(h:∀al v,(out al).res ρ v→v.plain=true∧ok (al.ev ρ)∧v.val ρ=g (al.ev ρ)):i9 P ρ f (b7e l out):=by
 intro args mem nx q hq hle σ W vals hr hfr hd
 unfold b7e at hq
 split at hq
 ·rename_i al ha
  obtain⟨v,h1,h2⟩:=T.res_bind hq
  obtain rfl:=g7 h2
  obtain⟨p1,p2,p3⟩:=h al v h1
  have hc:=hg W W vals (al.ev ρ) [] (Below.refl _ _) (a1J hr l args al ha vals hd) List.nodup_nil p2
  have hw:CallsIn Fence.wide 0 P f vals.toArray W _:=callsIn_wide.2 hc
  refine CallsIn.mono (F:=FR none) hw ?_
  rintro e W' ⟨rfl,hb⟩
  exact⟨_,σ,rfl,by rw[←p3];exact V.val_den p1,Step.below hb,fun i hi=> .inl hi⟩
 ·exact hq.elim
end
end Go.Proofs.YtldbejmgalhdaaaGreat
namespace Go.Proofs.YtldbejmgalhdaaaGreat
open Go.RowKit
def K3(ws:Mem)(e:TypeId)(ks:List CK):S0→Option X
 | .ovw id ver k lo hi full=>match ws.get id with
   | some (.own e' ks' x v)=>if Nat.beq e e'&&CK.sameL ks ks'&&E.same ver v&&Nat.beq k ks.length&&E.same lo (.lit 0)&& !full then some (.sub x (.lit 0) hi) else none
   | _=>none
 | s=>U2 ws e ks s
section
variable {P:Program} {ct:Ct} {lt:Lt}
theorem a8Q{a:Option Addr}{n m c:Nat}:k9 (.slice a n c)=k9 (.slice a m c):=by
 cases a with
 | none=>rfl
 | some a=>cases c<;>rfl
theorem H0(I:Interp)(hmix:P.follows .mixedOrders=true)(hct:∀ρ,ρ.has I→CtOk P ρ ct)(hce:ct.all (fun p=>N8 P p.1)=true){n:Nat}{f:FuncId}{sh:List Sh}{tr:TT j6}(he:T.norm 0 (call P ct lt n f (i6 0 sh) [] 0) TT.ret=tr)
 (hlow:tr.low 1000=true) (hsh:a0Z sh≤1000) {l:NL} {ok:List D→Prop} {res:World→List D→Value→Value→Prop}
 (hs:∀w0 vals ds,A4 w0 sh vals ds→ok ds→tr.sat (f0 I w0 ds) (fun ρ q=>∃s x,K3 q.2.1 l.e l.ks s=some x∧x.ev ρ=l.rows ds∧∀(σ:As) u,ρ.w=w0→q.1.den ρ σ u→∃v,s.den ρ σ v∧res w0 ds v u) (fun _ _=>False)):B9 P f sh [l] ok (fun w0 ds vs u=>∃v,vs=[v]∧res w0 ds v u):=by
 intro w0 W vals ds hbase hrep hok
 obtain⟨ρ',q,h1,⟨s,x,h2,h3,h4⟩,_,h5⟩:=O5 (lt:=lt) hmix (fun ρ' ha=>hct ρ' ⟨ha.fi.symm,ha.fb.symm,ha.fd.symm⟩) (L4 hce) he hlow (hs w0 vals ds hrep hok) (σ:=As.none) (W:=W) (vals:=vals)
  (fun ρ' ha=>⟨fun id b h=>by simp [Mem.get] at h,fun i j a h=>absurd h (m5 _ _),fun i a h=>absurd h (m5 _ _),fun i a h=>absurd h (m5 _ _),by rw[←ha.w];exact hbase⟩) (fun k _=>T4 k) (fun ρ' ha=>M2 ha sh 0 vals [] ds rfl rfl (by omega) hrep)
 refine(callsIn_wide (n:=0)).1 ?_
 have h':CallsIn Fence.wide 0 P f vals.toArray W (J1 ρ' As.none W 0 q):=h5
 have hw:ρ'.w=w0:=by rw[←h1.w];rfl
 refine CallsIn.mono h' ?_
 rintro en W' ⟨u,σ',rfl,e1,e2,e3⟩
 obtain⟨v,hd,hres⟩:=h4 σ' u hw e1
 have hb:Below W.heap.size W W':=⟨e2.os,e2.tape,e2.output,e2.size,fun k hk=>e2.frame k hk (fun i b _ e=>m5 _ _ e)⟩
 have whole:∀(id:Nat) (ver:E) (x':X) (ver':E) (e':TypeId) (ks':List CK) (a:Option Addr) (m c:Nat),q.2.1.get id=some (.own e' ks' x' ver')→l.e=e'→l.ks=ks'→ver=ver'→σ'.h id (ver.ev ρ')=some (.slice a m c)→
  ∃xs,OwnRow W' w0.heap.size l.e l.ks.length (.slice a m c) m xs∧RowsAt w0 l.ks xs (x'.ev ρ')∧m=(x'.ev ρ').length∧m≤281474976710656∧∀k,k9 (.slice a m c)=some k→W.heap.size≤k∧k<W'.heap.size:=by
  intro id ver x' ver' e' ks' a m c hm c1 c2 c3 e5
  subst c1 c2 c3
  obtain⟨v2,xs,hO⟩:=e2.blk _ _ hm
  have hvv:=hO.now
  rw[e5] at hvv
  simp only[Option.some.injEq] at hvv
  subst hvv
  have hrow:=hO.row
  have hrows:=hO.reps
  have hbig:=hO.big
  rw[hw] at hrow
  rw[hw] at hrows
  have hm:m=(x'.ev ρ').length:=by
   rcases hrow with ⟨_,h2⟩ | ⟨h2,_,b,h3⟩
   ·rcases h2 with ⟨h2,h3⟩ | ⟨g,cap,cur,h2,_⟩
    ·simp only[Value.slice.injEq] at h2;omega
    ·simp only[Value.slice.injEq] at h2
     exact h2.2.1
   ·simp only[Value.slice.injEq] at h3;omega
  refine⟨xs,by rw[hm] at hrow ⊢;exact hrow,⟨?_,hrows⟩,hm,by omega,fun k hk=> ?_⟩
  ·rcases hrow with h | ⟨h3,h4,_⟩
   ·exact h.1
   ·rw[h3,h4];simp
  ·rcases e2.new id k (.inr ⟨_,_,e5,hk⟩) with h | h
   ·exact absurd h (m5 _ _)
   ·exact h
 have key:b2g w0 W W' ds l v:=by
  unfold K3 at h2
  split at h2
  ·rename_i id ver k lo hi full
   split at h2
   ·rename_i e' ks' x' ver' hm
    split at h2
    ·rename_i hc
     simp only[Bool.and_eq_true,Bool.not_eq_true'] at hc
     obtain⟨⟨⟨⟨⟨c1,c2⟩,c3⟩,c4⟩,c5⟩,c6⟩:=hc
     have c1:=j9 c1
     have c2:=CK.sameL_eq _ _ c2
     have c3:=E.same_eq _ _ c3
     obtain rfl:=E.same_eq _ _ c5
     simp only[Option.some.injEq] at h2
     subst h2
     obtain⟨a,m,c,b,c',e5,l1,l2,l3,rfl,l4,l5,l6,l7⟩:=hd
     obtain⟨rfl,rfl⟩:=l7 (by simp [E.ev]) c6
     obtain⟨xs,w1,w2,w3,w4,w5⟩:=whole id ver x' ver' e' ks' b m c' hm c1 c2 c3 e5
     have hlo:(E.lit 0).ev ρ'=0:=rfl
     rw[hlo] at l2 ⊢
     have hz:(hi.ev ρ').toNat-(0:Int).toNat=(hi.ev ρ').toNat:=by simp
     rw[hz]
     have hle:(hi.ev ρ').toNat≤m:=by omega
     have hev:(X.sub x' (.lit 0) hi).ev ρ'=m8 (x'.ev ρ') 0 (hi.ev ρ'):=by simp only[X.ev,E.ev]
     have hlen:(l.rows ds).length=(hi.ev ρ').toNat:=by
      rw[←h3,hev];simp only[m8,List.length_take,List.length_drop,Int.toNat_zero];omega
     have hsub:=w2.sub (l:=0) (m:=hi.ev ρ') (by omega) (by simp)
     simp only[Int.toNat_zero,Nat.zero_mul,List.drop_zero,Nat.sub_zero] at hsub
     rw[←hev,h3] at hsub
     refine⟨xs.take ((hi.ev ρ').toNat*l.ks.length),by rw[hlen];exact w1.first hle,hsub,by omega,⟨b,c',by rw[hlen]⟩,fun k hk=>w5 k (by rw[←hk];exact a8Q)⟩
    ·cases h2
   ·cases h2
  ·unfold U2 at h2
   split at h2
   ·rename_i id ver _
    split at h2
    ·rename_i e' ks' x' ver' hm
     split at h2
     ·rename_i hc
      simp only[Bool.and_eq_true] at hc
      obtain⟨⟨c1,c2⟩,c3⟩:=hc
      have c1:=j9 c1
      have c2:=CK.sameL_eq _ _ c2
      have c3:=E.same_eq _ _ c3
      simp only[Option.some.injEq] at h2
      subst h2
      obtain⟨⟨a,m,c,rfl⟩,e5⟩:=hd
      obtain⟨xs,w1,w2,w3,w4,w5⟩:=whole id ver x' ver' e' ks' a m c hm c1 c2 c3 e5
      have hlen:(l.rows ds).length=m:=by rw[←h3,w3]
      rw[h3] at w2
      exact⟨xs,by rw[hlen];exact w1,w2,by omega,⟨a,c,by rw[hlen]⟩,w5⟩
     ·cases h2
    ·cases h2
   ·simp only[Option.some.injEq] at h2
    subst h2
    obtain rfl:v= .slice none 0 0:=hd
    have h3:[]=l.rows ds:=by rw[←h3];simp [X.ev]
    refine⟨[],?_,?_,?_,⟨none,0,?_⟩,fun k hk=>by simp [k9] at hk⟩
    ·rw[←h3];exact .inl (World.ownsRow_nil _ _ _ _)
    ·rw[←h3];exact RowsAt.nil _ _
    ·rw[←h3];simp
    ·rw[←h3];rfl
   ·cases h2
 refine⟨[v],u,rfl,⟨v,rfl,hres⟩,hb,rfl,fun k l' v' hk hv=> ?_,fun i j vi vj a hi hj _ _=> ?_⟩
 ·cases k with
  | zero=>
    simp only[List.getElem?_cons_zero,Option.some.injEq] at hk hv
    subst hk hv
    exact key
  | succ k=>simp at hk
 ·cases i with
  | zero=>cases j with
    | zero=>rfl
    | succ j=>simp at hj
  | succ i=>simp at hi
end
end Go.Proofs.YtldbejmgalhdaaaGreat
