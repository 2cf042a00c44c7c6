/- MZ, merged: Zx, Yf, Yg, Yk, Yl, Yj0, Ym, Yn. -/
import Derived.Test.YtbbjlleaofgddaaGreatMK
import Derived.Test.YtbbjlleaofgddaaGreatMD
import Derived.Test.YtbbjlleaofgddaaGreatMY
set_option linter.unusedSimpArgs false
set_option linter.unusedVariables false
namespace Go.Proofs.YtbbjlleaofgddaaGreat
open Go.RowKit
def c3A(sh:Sh)(v:V):Option AL:=match sh,v with
 | .one k,.v (.one s)=>B7 k s
 | .agg ks,.v (.agg cs)=>L3 B7 ks cs
 | _,_=>none
structure NL where
 e:TypeId
 ks:List CK
 s:Nat
 rows:List D→Rows
def b2m(w0 W W':World)(ds:List D)(l:NL)(v:Value):Prop:=∃xs,OwnRow W' w0.heap.size l.e l.ks.length v (l.rows ds).length xs∧RowsAt w0 l.ks xs (l.rows ds)∧(l.rows ds).length≤281474976710656∧(∃a c,v= .slice a (l.rows ds).length c)∧∀k,j9 v=some k→W.heap.size≤k∧k<W'.heap.size
structure NewLs (w0 W W':World) (ds:List D) (nl:List NL) (vs:List Value):Prop where
 len:vs.length=nl.length
 each:∀(k:Nat) (l:NL) (v:Value),nl[k]? = some l→vs[k]? = some v→b2m w0 W W' ds l v
 apart:∀(i j:Nat) (vi vj:Value) (a:Nat),vs[i]? = some vi→vs[j]? = some vj→j9 vi=some a→j9 vj=some a→i=j
section
variable {P:Program} {ρ:Env} {σ:As} {nx:Nat} {vs:List Value}
def a8H(P:Program)(f:FuncId)(sh:List Sh)(nl:List NL)(ok:List D→Prop)(res:World→List D→List Value→Value→Prop):Prop:=
 ∀(w0 W:World) (vals:List Value) (ds:List D),Below w0.heap.size w0 W→D8 w0 sh vals ds→ok ds→Calls P f vals.toArray W (fun en W'=>∃vs u,en= .returned u∧res w0 ds vs u∧Below W.heap.size W W'∧NewLs w0 W W' ds nl vs)
structure LsAre (ρ:Env) (q:i8) (nl:List NL) (ds:List D) (ss:List S0):Prop where
 len:ss.length=nl.length
 each:∀(k:Nat) (l:NL) (s:S0),nl[k]? = some l→ss[k]? = some s→∃x,a2A q.2.1 l.e l.ks s=some x∧x.ev ρ=l.rows ds
 apart:∀(i j id:Nat) (v v':E),ss[i]? = some (.own id v)→ss[j]? = some (.own id v')→i=j
theorem b4Y{q:i8}{l:NL}{ds:List D}{s:S0}{x:X}(h:a2A q.2.1 l.e l.ks s=some x)(hx:x.ev ρ=l.rows ds):LsAre ρ q [l] ds [s]:=by
 refine⟨rfl,fun k l' s' hk hs=> ?_,fun i j id v v' hi hj=> ?_⟩
 ·cases k with
  | zero=>
    simp only[List.getElem?_cons_zero,Option.some.injEq] at hk hs
    subst hk hs
    exact⟨x,h,hx⟩
  | succ k=>simp at hk
 ·cases i with
  | zero=>cases j with
    | zero=>rfl
    | succ j=>simp at hj
  | succ i=>simp at hi
variable {ct:Ct} {lt:Lt}
theorem b3O(I:Interp)(hmix:P.follows .mixedOrders=true)(hct:∀ρ,ρ.has I→CtOk P ρ ct)(hce:ct.all (fun p=>G0 P p.1)=true){n:Nat}{f:FuncId}{sh:List Sh}{tr:TT i8}(he:T.norm 0 (call P ct lt n f (i5 0 sh) [] 0) TT.ret=tr)
 (hlow:tr.low 1000=true) (hsh:Y6 sh≤1000) {nl:List NL} {ok:List D→Prop} {res:World→List D→List Value→Value→Prop}
 (hs:∀w0 vals ds,D8 w0 sh vals ds→ok ds→tr.sat (g8 I w0 ds) (fun ρ q=>∃ss,LsAre ρ q nl ds ss∧∀(σ:As) u,ρ.w=w0→q.1.den ρ σ u→∃vs,DL (S0.den ρ σ) ss vs∧res w0 ds vs u) (fun _ _=>False)):a8H P f sh nl ok res:=by
 intro w0 W vals ds hbase hrep hok
 obtain⟨ρ',q,h1,⟨ss,h2,h4⟩,_,h5⟩:=Z2 (lt:=lt) hmix (fun ρ' ha=>hct ρ' ⟨ha.fi.symm,ha.fb.symm,ha.fd.symm⟩) (L6 hce) he hlow (hs w0 vals ds hrep hok) (σ:=As.none) (W:=W) (vals:=vals)
  (fun ρ' ha=>⟨fun id b h=>by simp [Mem.get] at h,fun i j a h=>absurd h (y7 _ _),fun i a h=>absurd h (y7 _ _),fun i a h=>absurd h (y7 _ _),by rw[←ha.w];exact hbase⟩) (fun k _=>U9 k) (fun ρ' ha=>P5 ha sh 0 vals [] ds rfl rfl (by omega) hrep)
 refine(callsIn_wide (n:=0)).1 ?_
 have h':CallsIn Fence.wide 0 P f vals.toArray W (A8 ρ' As.none W 0 q):=h5
 have hw:ρ'.w=w0:=by rw[←h1.w];rfl
 refine CallsIn.mono h' ?_
 rintro en W' ⟨u,σ',rfl,e1,e2,e3⟩
 obtain⟨vs,hd,hres⟩:=h4 σ' u hw e1
 have hb:Below W.heap.size W W':=⟨e2.os,e2.tape,e2.output,e2.size,fun k hk=>e2.frame k hk (fun i b _ e=>y7 _ _ e)⟩
 have hinj:=e2.inj (fun i j a h=>absurd h (y7 _ _))
 have hl:vs.length=nl.length:=by rw[←h2.len];exact(DL.length hd).symm
 have key:∀(k:Nat) (l:NL) (v:Value),nl[k]? = some l→vs[k]? = some v→b2m w0 W W' ds l v∧∀a,j9 v=some a→∃id ver,ss[k]? = some (S0.own id ver)∧σ'.own id a:=fun k l v hk hv=>by
  have hks:k<ss.length:=by rw[h2.len];exact(List.getElem?_eq_some_iff.1 hk).1
  have hsk:=List.getElem?_eq_getElem hks
  obtain⟨v',hv',hden⟩:=DL.get hd hsk
  obtain rfl:v'=v:=by rw[hv'] at hv;exact Option.some.inj hv
  obtain⟨x,hx1,hx2⟩:=h2.each k l _ hk hsk
  have hsk':∀id ver,ss[k]=S0.own id ver→ss[k]? = some (S0.own id ver):=fun id ver e=>by rw[hsk,e]
  generalize ss[k]=s at hx1 hden hsk'
  unfold a2A at hx1
  split at hx1
  ·rename_i id ver
   split at hx1
   ·rename_i e' ks' x' ver' hm
    split at hx1
    ·rename_i hc
     simp only[Bool.and_eq_true] at hc
     obtain⟨⟨c1,c2⟩,c3⟩:=hc
     have c1:=i9 c1
     have c2:=CK.sameL_eq _ _ c2
     have c3:=E.same_eq _ _ c3
     simp only[Option.some.injEq] at hx1
     subst hx1
     obtain⟨v2,xs,hO⟩:=e2.blk _ _ hm
     obtain⟨⟨a,m,c,rfl⟩,e5⟩:=hden
     have hvv:=hO.now
     rw[←c3,e5] at hvv
     simp only[Option.some.injEq] at hvv
     subst hvv
     have hrow:=hO.row
     have hrows:=hO.reps
     have hbig:=hO.big
     rw[hw,←c1,←c2] at hrow
     rw[hw,←c2] at hrows
     rw[hx2] at hrow hrows hbig
     have hm:m=(l.rows ds).length:=by
      rcases hrow with ⟨_,h2⟩ | ⟨h2,_,b,h3⟩
      ·rcases h2 with ⟨h2,h3⟩ | ⟨g,cap,cur,h2,_⟩
       ·simp only[Value.slice.injEq] at h2;omega
       ·simp only[Value.slice.injEq] at h2
        exact h2.2.1
      ·simp only[Value.slice.injEq] at h3;omega
     have hown:∀k,j9 (.slice a m c)=some k→σ'.own id k:=fun k hk=> .inr ⟨_,_,e5,hk⟩
     refine⟨⟨xs,hrow,⟨?_,hrows⟩,hbig,⟨a,c,by rw[hm]⟩,fun k hk=> ?_⟩,fun k hk=>⟨id,ver,hsk' _ _ rfl,hown k hk⟩⟩
     ·rcases hrow with h | ⟨h3,h4,_⟩
      ·exact h.1
      ·rw[h3,h4];simp
     ·rcases e2.new id k (hown k hk) with h | h
      ·exact absurd h (y7 _ _)
      ·exact h
    ·cases hx1
   ·cases hx1
  ·simp only[Option.some.injEq] at hx1
   subst hx1
   obtain rfl:v'= .slice none 0 0:=hden
   have h3:[]=l.rows ds:=by rw[←hx2];simp [X.ev]
   refine⟨⟨[],?_,?_,?_,⟨none,0,?_⟩,fun k hk=>by simp [j9] at hk⟩,fun k hk=>by simp [j9] at hk⟩
   ·rw[←h3];exact .inl (World.ownsRow_nil _ _ _ _)
   ·rw[←h3];exact RowsAt.nil _ _
   ·rw[←h3];simp
   ·rw[←h3];rfl
  ·cases hx1
 refine⟨vs,u,rfl,hres,hb,hl,fun k l v hk hv=>(key k l v hk hv).1,fun i j vi vj a hi hj ha hb'=> ?_⟩
 have hi':i<nl.length:=by rw[←hl];exact(List.getElem?_eq_some_iff.1 hi).1
 have hj':j<nl.length:=by rw[←hl];exact(List.getElem?_eq_some_iff.1 hj).1
 obtain⟨id,ver,p1,p2⟩:=(key i _ vi (List.getElem?_eq_getElem hi') hi).2 a ha
 obtain⟨id',ver',p3,p4⟩:=(key j _ vj (List.getElem?_eq_getElem hj') hj).2 a hb'
 obtain rfl:=hinj _ _ _ p2 p4
 exact h2.apart _ _ _ _ _ p1 p3
end
end Go.Proofs.YtbbjlleaofgddaaGreat
namespace Go.Proofs.YtbbjlleaofgddaaGreat
open Go.RowKit
inductive Ag where | d (sh:Sh) | f (g:FuncId) | p (t:TypeId) (ks:List CK)
def A6:Nat→Nat→List Ag→List V
 | _,_,[]=>[]
 | j,id,.d (.one k)::r=> .v (.one (a2y j k))::A6 (j+1) id r
 | j,id,.d (.agg ks)::r=> .v (.agg (E4 j ks))::A6 (j+ks.length) id r
 | j,id,.f g::r=> .s0 (.clo g [])::A6 j id r
 | j,id,.p _ ks::r=> .s0 (.ptr id 0)::A6 (j+ks.length) (id+1) r
def a0x:Nat→Nat→List Ag→Mem
 | _,_,[]=>[]
 | j,id,.d (.one _)::r=>a0x (j+1) id r
 | j,id,.d (.agg ks)::r=>a0x (j+ks.length) id r
 | j,id,.f _::r=>a0x j id r
 | j,id,.p t ks::r=>(id,.cells t (E4 j ks))::a0x (j+ks.length) (id+1) r
def H8:List Ag→Nat
 | []=>0
 | .d (.one _)::r=>H8 r+1
 | .d (.agg ks)::r=>ks.length+H8 r
 | .f _::r=>H8 r
 | .p _ ks::r=>ks.length+H8 r
def K3(w0 w:World):List Ag→List Value→List D→List Nat→Prop
 | [],vs,ds,bs=>vs=[]∧ds=[]∧bs=[]
 | .d sh::r,vs,ds,bs=>∃v vs' d ds',vs=v::vs'∧ds=d++ds'∧sh.rep w0 v d∧K3 w0 w r vs' ds' bs
 | .f g::r,vs,ds,bs=>∃vs',vs= .func (.func g) #[] #[]::vs'∧K3 w0 w r vs' ds bs
 | .p t ks::r,vs,ds,bs=>∃b vs' us d ds' bs',vs= .pointer (some ⟨b,0,none⟩)::vs'∧bs=b::bs'∧ds=d++ds'∧w0.heap.size≤b∧w.heap[b]? = some (.cells us.toArray t (0,0))∧CK.reps w0 ks us d∧K3 w0 w r vs' ds' bs'
def a2i(bs:List Nat):As:= { f:=fun i=>bs[i]?,h:=fun _ _=>none }
section
variable {P:Program} {ρ:Env}
theorem b8y{bs:List Nat}{i a:Nat}(h:(a2i bs).own i a):bs[i]? = some a:=by
 rcases h with h | ⟨n,v,h,_⟩
 ·exact h
 ·cases h
theorem C2{w0 W:World}{ds0:List D}{I:Interp}{c:Nat}(ha:Agree c (g8 I w0 ds0) ρ){bs0:List Nat}:∀(l:List Ag) (j id:Nat) (vs:List Value) (pre ds:List D) (bp bs:List Nat),ds0=pre++ds→pre.length=j→j+H8 l≤c→bs0=bp++bs→bp.length=id→K3 w0 W l vs ds bs→
 DL (V.den ρ (a2i bs0)) (A6 j id l) vs∧∀i b,(a0x j id l).get i=some b→BlkRel ρ (a2i bs0) i W b
 | [],j,id,vs,pre,ds,bp,bs,_,_,_,_,_,h=>by
   obtain⟨rfl,_,_⟩:=h
   exact⟨trivial,fun i b hi=>by simp [a0x,Mem.get] at hi⟩
 | .d (.one k)::r,j,id,vs,pre,ds,bp,bs,hds,hj,hc,hb,hid,h=>by
   obtain⟨v,vs',d,ds',rfl,rfl,⟨d0,rfl,h1⟩,h2⟩:=h
   simp only[H8] at hc
   obtain⟨e1,e2⟩:=C2 ha r (j+1) id vs' (pre++[d0]) ds' bp bs (by simp [hds]) (by simp [hj]) (by omega) hb hid h2
   refine⟨⟨a0f ha (by omega) (d:=d0) ?_ h1,e1⟩,e2⟩
   rw[hds,←hj]
   simp
 | .d (.agg ks)::r,j,id,vs,pre,ds,bp,bs,hds,hj,hc,hb,hid,h=>by
   obtain⟨v,vs',d,ds',rfl,rfl,⟨us,rfl,h1⟩,h2⟩:=h
   simp only[H8] at hc
   have hl:d.length=ks.length:=(w9 h1).2
   obtain⟨e1,e2⟩:=C2 ha r (j+ks.length) id vs' (pre++d) ds' bp bs (by simp [hds]) (by simp [hj,hl]) (by omega) hb hid h2
   exact⟨⟨⟨us,M2 ha ks j us pre d ds' (by simp [hds]) hj (by omega) h1,rfl⟩,e1⟩,e2⟩
 | .f g::r,j,id,vs,pre,ds,bp,bs,hds,hj,hc,hb,hid,h=>by
   obtain⟨vs',rfl,h2⟩:=h
   simp only[H8] at hc
   obtain⟨e1,e2⟩:=C2 ha r j id vs' pre ds bp bs hds hj hc hb hid h2
   exact⟨⟨⟨[],trivial,rfl⟩,e1⟩,e2⟩
 | .p t ks::r,j,id,vs,pre,ds,bp,bs,hds,hj,hc,hb,hid,h=>by
   obtain⟨b,vs',us,d,ds',bs',rfl,rfl,rfl,h0,h1,h3,h2⟩:=h
   simp only[H8] at hc
   have hl:d.length=ks.length:=(w9 h3).2
   obtain⟨e1,e2⟩:=C2 (bs0:=bs0) ha r (j+ks.length) (id+1) vs' (pre++d) ds' (bp++[b]) bs' (by simp [hds]) (by simp [hj,hl]) (by omega) (by simp [hb]) (by simp [hid]) h2
   have hσ:(a2i bs0) id=some b:=by
    show bs0[id]? = some b
    rw[hb,List.getElem?_append_right (by omega),hid,Nat.sub_self];rfl
   refine⟨⟨⟨b,hσ,rfl⟩,e1⟩,fun i b' hi=> ?_⟩
   simp only[a0x,Mem.get] at hi
   split at hi
   ·rename_i hii
    simp only[beq_iff_eq] at hii
    subst hii
    simp only[Option.some.injEq] at hi
    subst hi
    exact⟨b,hσ,us,M2 ha ks j us pre d ds' (by simp [hds]) hj (by omega) h3,h1⟩
   ·exact e2 i b' hi
variable {ct:Ct} {lt:Lt}
def b6M(g:FuncId):V→Bool
 | .v (.one (.z (.clo g' [])))=>Nat.beq g g'
 | _=>false
theorem b7m{σ:As}{g:FuncId}{v:V}(h:b6M g v=true){u:Value}(hd:v.den ρ σ u):u= .func (.func g) #[] #[]:=by
 unfold b6M at h
 split at h
 ·obtain rfl:=i9 h
  obtain⟨vs,h1,rfl⟩:=hd
  cases vs with
  | nil=>rfl
  | cons a b=>exact h1.elim
 ·cases h
def b2g(mem:Mem)(t:TypeId)(ks:List CK):V→Option (AL×Nat)
 | .v (.one (.z (.ptr id off)))=>if Nat.beq off 0 then match mem.get id with
   | some (.cells t' cs)=>if Nat.beq t t' then(L3 B7 ks cs).map fun a=>(a,id) else none
   | _=>none
   else none
 | _=>none
theorem b6d{σ:As}{mem:Mem}{W:World}(hr:RelM ρ σ mem W){t:TypeId}{ks:List CK}{v:V}{a:AL}{id:Nat}(h:b2g mem t ks v=some (a,id)){u:Value}(hd:v.den ρ σ u):
 ∃b us,u= .pointer (some ⟨b,0,none⟩)∧σ id=some b∧W.heap[b]? = some (.cells us.toArray t (0,0))∧CK.reps ρ.w ks us (a.ev ρ):=by
 unfold b2g at h
 split at h
 ·rename_i id' off
  split at h
  ·rename_i ho
   obtain rfl:=i9 ho
   split at h
   ·rename_i t' cs hm
    split at h
    ·rename_i ht
     obtain rfl:=i9 ht
     rw[Option.map_eq_some_iff] at h
     obtain⟨a',ha,he⟩:=h
     simp only[Prod.mk.injEq] at he
     obtain⟨rfl,rfl⟩:=he
     obtain⟨b,h1,rfl⟩:=hd
     obtain⟨b',h2,us,h3,h4⟩:=hr.blk _ _ hm
     rw[h1] at h2
     simp only[Option.some.injEq] at h2
     subst h2
     exact⟨b,us,rfl,h1,h4,F7 (y4 (W:=ρ.w) (Below.refl _ _)) _ _ _ ha us h3⟩
    ·cases h
   ·cases h
  ·cases h
 ·cases h
def B8(mem:Mem):List Ag→List V→Option (AL×List Nat)
 | [],[]=>some (.nil,[])
 | .d sh::r,v::vs=>match c3A sh v,B8 mem r vs with
   | some a,some (b,l)=>some (a.app b,l)
   | _,_=>none
 | .f g::r,v::vs=>if b6M g v then B8 mem r vs else none
 | .p t ks::r,v::vs=>match b2g mem t ks v,B8 mem r vs with
   | some (a,id),some (b,l)=>if l.contains id then none else some (a.app b,id::l)
   | _,_=>none
 | _,_=>none
theorem W7{σ:As}{mem:Mem}{W:World}(hr:RelM ρ σ mem W):∀(l:List Ag) (args:List V) (al:AL) (ids:List Nat),B8 mem l args=some (al,ids)→∀vals,DL (V.den ρ σ) args vals→∃bs,K3 ρ.w W l vals (al.ev ρ) bs∧bs.Nodup∧∀b∈bs,∃i∈ids,σ i=some b
 | [],[],al,ids,h,vals,hd=>by
   simp only[B8,Option.some.injEq,Prod.mk.injEq] at h
   obtain⟨rfl,rfl⟩:=h
   exact⟨[],⟨DL.nil_inv hd,by simp [AL.ev],rfl⟩,List.nodup_nil,fun b h=>by simp at h⟩
 | .d sh::r,v::vs,al,ids,h,vals,hd=>by
   simp only[B8] at h
   split at h
   ·rename_i a b l' h1 h2
    simp only[Option.some.injEq,Prod.mk.injEq] at h
    obtain⟨rfl,rfl⟩:=h
    obtain⟨u,us,rfl,e1,e2⟩:=DL.cons_inv hd
    obtain⟨bs,g1,g2,g3⟩:=W7 hr r vs b l' h2 us e2
    refine⟨bs,⟨u,us,a.ev ρ,b.ev ρ,rfl,AL.app_ev _ _ _,?_,g1⟩,g2,g3⟩
    unfold c3A at h1
    split at h1
    ·obtain⟨d,e3,e4⟩:=y4 (W:=ρ.w) (Below.refl _ _) _ _ _ h1 u e1
     exact⟨d,e3,e4⟩
    ·obtain⟨ws,e3,rfl⟩:=e1
     exact⟨ws,rfl,F7 (y4 (W:=ρ.w) (Below.refl _ _)) _ _ _ h1 ws e3⟩
    ·cases h1
   ·cases h
 | .f g::r,v::vs,al,ids,h,vals,hd=>by
   simp only[B8] at h
   split at h
   ·rename_i hf
    obtain⟨u,us,rfl,e1,e2⟩:=DL.cons_inv hd
    obtain⟨bs,g1,g2,g3⟩:=W7 hr r vs al ids h us e2
    exact⟨bs,⟨us,by rw[b7m hf e1],g1⟩,g2,g3⟩
   ·cases h
 | .p t ks::r,v::vs,al,ids,h,vals,hd=>by
   simp only[B8] at h
   split at h
   ·rename_i a id b l' h1 h2
    split at h
    ·cases h
    ·rename_i hn
     simp only[Option.some.injEq,Prod.mk.injEq] at h
     obtain⟨rfl,rfl⟩:=h
     obtain⟨u,us,rfl,e1,e2⟩:=DL.cons_inv hd
     obtain⟨bs,g1,g2,g3⟩:=W7 hr r vs b l' h2 us e2
     obtain⟨c,ws,rfl,q1,q2,q3⟩:=b6d hr h1 e1
     refine⟨c::bs,⟨c,us,ws,a.ev ρ,b.ev ρ,bs,rfl,rfl,AL.app_ev _ _ _,hr.above _ _ (.inl q1),q2,q3,g1⟩,List.nodup_cons.2 ⟨fun hc=> ?_,g2⟩,fun x hx=> ?_⟩
     ·obtain⟨i,hi,hs⟩:=g3 c hc
      have:=hr.inj i id c (.inl hs) (.inl q1)
      subst this
      exact hn (List.contains_iff_mem.2 hi)
     ·rcases List.mem_cons.1 hx with e | hx
      ·subst e;exact⟨id,List.mem_cons_self ..,q1⟩
      ·obtain⟨i,hi,hs⟩:=g3 x hx
       exact⟨i,List.mem_cons_of_mem _ hi,hs⟩
   ·cases h
 | [],_::_,al,ids,h,_,_=>by simp [B8] at h
 | .d _::_,[],al,ids,h,_,_=>by simp [B8] at h
 | .f _::_,[],al,ids,h,_,_=>by simp [B8] at h
 | .p _ _::_,[],al,ids,h,_,_=>by simp [B8] at h
end
end Go.Proofs.YtbbjlleaofgddaaGreat
namespace Go.Proofs.YtbbjlleaofgddaaGreat
open Go.RowKit
def b3S(ws:Mem)(e:TypeId)(ks:List CK):S0→Option X
 | .ovw id ver k lo hi full=>match ws.get id with
   | some (.own e' ks' x v)=>if Nat.beq e e'&&CK.sameL ks ks'&&E.same ver v&&Nat.beq k ks.length&&E.same lo (.lit 0)&& !full then some (.sub x (.lit 0) hi) else none
   | _=>none
 | s=>a2A ws e ks s
section
variable {P:Program} {ct:Ct} {lt:Lt}
theorem b2P{a:Option Addr}{n m c:Nat}:j9 (.slice a n c)=j9 (.slice a m c):=by
 cases a with
 | none=>rfl
 | some a=>cases c<;>rfl
end
end Go.Proofs.YtbbjlleaofgddaaGreat
namespace Go.Proofs.YtbbjlleaofgddaaGreat
open Go.RowKit
def SeesD(ρ:Env)(I:Interp)(c:Nat):Prop:=∀n l,n<c→ρ.fd n l=I.fd n l
theorem SeesD.of{ρ:Env}{I:Interp}(h:ρ.has I)(c:Nat):SeesD ρ I c:=fun n l _=>by rw[h.2.2]
def dA:List D→Option AL
 | []=>some .nil
 | .i n::r=>(dA r).map (.i (.lit n))
 | .b x::r=>(dA r).map (.b (.lit x))
 | .l _::_=>none
def dX:Rows→Option X
 | []=>some .nil
 | r::t=>match dA r,dX t with | some a,some x=>some (.app (.row a) x) | _,_=>none
theorem b1Z(ρ:Env):∀(r:List D) (a:AL),dA r=some a→a.ev ρ=r
 | [],a,h=>by simp only[dA,Option.some.injEq] at h;subst h;simp [AL.ev]
 | .i n::r,a,h=>by
   simp only[dA,Option.map_eq_some_iff] at h
   obtain⟨b,hb,rfl⟩:=h
   simp [AL.ev,E.ev,b1Z ρ r b hb]
 | .b n::r,a,h=>by
   simp only[dA,Option.map_eq_some_iff] at h
   obtain⟨b,hb,rfl⟩:=h
   simp [AL.ev,B.ev,b1Z ρ r b hb]
 | .l _::_,a,h=>by simp [dA] at h
theorem b9i(ρ:Env):∀(r:Rows) (x:X),dX r=some x→x.ev ρ=r
 | [],x,h=>by simp only[dX,Option.some.injEq] at h;subst h;simp [X.ev]
 | r::t,x,h=>by
   simp only[dX] at h
   split at h
   ·rename_i a y ha hy
    simp only[Option.some.injEq] at h
    subst h
    simp [X.ev,b1Z ρ r a ha,b9i ρ t y hy]
   ·cases h
def dF(s:Nat)(f:List D→Rows)(al:AL):X:=match K2 al with
 | some l=>match dX (f l) with | some x=>x | none=> .fn s al
 | none=> .fn s al
theorem c5q{ρ:Env}{s:Nat}{f:List D→Rows}(h:∀l,ρ.fd s l=f l)(al:AL):(dF s f al).ev ρ=f (al.ev ρ):=by
 unfold dF
 split
 ·rename_i l hl
  split
  ·rename_i x hx
   rw[b9i ρ _ x hx,G1 ρ al l hl]
  ·simp only[X.ev,h]
 ·simp only[X.ev,h]
def b1Q(sh:List Sh)(l:NL)(obs:AL→List Ob)(out:AL→Nat→V)(args:List V)(mem:Mem)(nx:Nat):T i8:=match Z3 mem sh args with
 | some al=> .obs (obs al) (.ret (out al nx,[(nx,.own l.e l.ks (dF l.s l.rows al) (.lit 0))],nx+1))
 | none=> .stuck "new list"
theorem b6C{P:Program}{ρ:Env}{f:FuncId}{sh:List Sh}{l:NL}{ok:List D→Prop}{res:List D→Value→Value}(hg:a8H P f sh [l] ok (fun _ ds vs u=>∃v,vs=[v]∧u=res ds v))(hf:l.ks.all CK.flat=true){obs:AL→List Ob}
 (hobs:∀al,(∀o∈obs al,o.ok ρ)→ok (al.ev ρ)) (hs:∀a,ρ.fd l.s a=l.rows a) {out:AL→Nat→V}
 (hout:∀(al:AL) (nx:Nat) (σ':As) (v:Value),(S0.own nx (.lit 0)).den ρ σ' v→(out al nx).den ρ σ' (res (al.ev ρ) v)):i4 P ρ f (b1Q sh l obs out):=by
 intro args mem nx q hq hle σ W vals hr hfr hd
 unfold b1Q at hq
 split at hq
 ·rename_i al ha
  obtain⟨ho,hq⟩:=T.res_obs hq
  obtain rfl:=g9 hq
  have hc:=hg W W vals (al.ev ρ) (Below.refl _ _) (a3n hr sh args al ha vals hd) (hobs al ho)
  have hw:CallsIn Fence.wide 0 P f vals.toArray W _:=callsIn_wide.2 hc
  refine CallsIn.mono (F:=FR none) hw ?_
  rintro en W' ⟨vs,u,rfl,⟨v,rfl,rfl⟩,hb,hn⟩
  obtain⟨xs,h1,h2,h3,⟨a,c,rfl⟩,h5⟩:=hn.each 0 l _ rfl rfl
  have hnx:=hfr nx (Nat.le_refl _) (Nat.lt_succ_self _)
  have hnone:∀k,σ.h nx k= .none:=fun k=>by
   cases hk:σ.h nx k with
   | none=>rfl
   | some y=>exact absurd (.inr ⟨k,y,hk⟩) hnx
  have hx:=c5q (ρ:=ρ) (s:=l.s) (f:=l.rows) hs al
  have hstep:=B2 (ρ:=ρ) (σ:=σ) (W:=W) (id:=nx) (t:=l.e) (ks:=l.ks) (x:=dF l.s l.rows al) (ver:= .lit 0) (v:= .slice .none 0 0) (W':=W') (xs:=xs) (fun i a hi=>hr.lt i a hi) (hnone _) (fun u _=>hnone u) hr.inj (fun k hk=>by cases hk)
   (by
    rw[hx]
    exact⟨h1.base hr.base.size,hb.os,hb.tape,hb.output,hb.size,fun k hk _=>hb.block k hk,fun k hk=> .inr (h5 k hk),Keep.of_eq (fun k hk=>hb.block k hk),a,c,rfl⟩)
   (by rw[hx];exact fun i row hi=>a6q hf (h2.2 i row hi)) (by rw[hx];exact h3)
  exact⟨_,_,rfl,hout al nx _ _ ⟨⟨a,_,c,rfl⟩,As.say_self⟩,hstep,fun i hi=>(v8 hi).imp (fun h=>h) (fun h=>⟨by omega,by show i<nx+1;omega⟩)⟩
 ·exact hq.elim
def a0q:List Ag→Bool
 | []=>true
 | .p _ _::_=>false
 | _::r=>a0q r
theorem P4{w0 w w':World}:∀ {l:List Ag},a0q l=true→∀ {vs:List Value} {ds:List D} {bs:List Nat},K3 w0 w l vs ds bs→K3 w0 w' l vs ds bs
 | [],_,_,_,_,h=>h
 | .d sh::r,hp,_,_,_,h=>by
   obtain⟨v,vs',d,ds',h1,h2,h3,h4⟩:=h
   exact⟨v,vs',d,ds',h1,h2,h3,P4 (l:=r) hp h4⟩
 | .f g::r,hp,_,_,_,h=>by
   obtain⟨vs',h1,h2⟩:=h
   exact⟨vs',h1,P4 (l:=r) hp h2⟩
 | .p t ks::r,hp,_,_,_,h=>by cases hp
theorem a4A{ρ:Env}{l:List Ag}(_:a0q l=true){j id:Nat}{vs:List Value}(h:DL (V.den ρ (a2i [])) (A6 j id l) vs):DL (V.den ρ As.none) (A6 j id l) vs:=h
section
variable {P:Program} {ct:Ct} {lt:Lt}
variable {ρ:Env}
end
end Go.Proofs.YtbbjlleaofgddaaGreat
namespace Go.Proofs.YtbbjlleaofgddaaGreat
open Go.RowKit
def X.ins(x:X)(i:E)(y:X):X:= .appS (.appS (.sub x (.lit 0) i) y) (.sub x i (.lenS x))
theorem X.ins_ev(ρ:Env)(x:X)(i:E)(y:X):(X.ins x i y).ev ρ=k5 (x.ev ρ) 0 (i.ev ρ)++y.ev ρ++k5 (x.ev ρ) (i.ev ρ) ((x.ev ρ).length:Nat):=by
 simp only[X.ins,X.appS_ev,X.ev,E.ev,E.lenS_ev]
def a5Y(e:TypeId)(ks:List CK)(args:List V)(mem:Mem)(nx:Nat):T i8:=match args with
 | [.v (.one (.z (.own id ver))),.v (.one (.z (.int .i64 i))),.v (.one (.z (.sl vid off 1 (some c))))]=>match mem.get id with
   | some (.own t ks' x v)=>match mem.get vid with
     | some (.cells _ cs)=>if E.same ver v&&Nat.beq t e&&CK.sameL ks ks'&& !Nat.beq id vid&&decide (1≤c)&&decide (off+ks.length≤cs.length) then match X0 B7 ks 1 (cs.drop off) with
       | some y=> .obs [.tru (.cmpS .leq (.lit 0) i),.tru (.cmpS .leq i (.lenS x)),.tru (.cmpS .lss (.lenS x) (.lit 1000000))] (.ret (.s0 (.own id (.plusS ver (.lit 1))),[(id,.own e ks (X.ins x i y) (.plusS ver (.lit 1)))],nx))
       | none=> .stuck "Insert: row" else .stuck "Insert: kinds"
     | _=> .stuck "Insert: what"
   | _=> .stuck "Insert: into"
 | _=> .stuck "Insert"
theorem b2Q{P:Program}{ρ:Env}{f:FuncId}{e:TypeId}{ks:List CK}(hc:a8a P f e ks.length):i4 P ρ f (a5Y e ks):=by
 intro args mem nx q hq hle σ W vals hr hfr hd
 unfold a5Y at hq
 split at hq
 ·rename_i id ver i vid off c
  split at hq
  ·rename_i t ks' x v hm
   split at hq
   ·rename_i tv cs hmv
    split at hq
    ·rename_i hcond
     simp only[Bool.and_eq_true,decide_eq_true_eq,Bool.not_eq_true'] at hcond
     obtain⟨⟨⟨⟨⟨hv,ht⟩,hk⟩,hid⟩,hc1⟩,hoff⟩:=hcond
     obtain rfl:=E.same_eq _ _ hv
     obtain rfl:=i9 ht
     obtain rfl:=CK.sameL_eq _ _ hk
     have hid:id≠vid:=fun e=>by subst e;simp at hid
     split at hq
     ·rename_i y hy
      obtain⟨ho,hq⟩:=T.res_obs hq
      obtain rfl:=g9 hq
      obtain⟨u1,us,rfl,d1,d2⟩:=DL.cons_inv hd
      obtain⟨u2,us2,rfl,d3,d4⟩:=DL.cons_inv d2
      obtain⟨u3,us3,rfl,d5,d6⟩:=DL.cons_inv d4
      obtain rfl:=DL.nil_inv d6
      have o1:=ho _ (List.mem_cons_self ..)
      have o2:=ho _ (List.mem_cons_of_mem _ (List.mem_cons_self ..))
      have o3:=ho _ (List.mem_cons_of_mem _ (List.mem_cons_of_mem _ (List.mem_cons_self ..)))
      simp only[Ob.ok,B.cmpS_ev] at o1 o2 o3
      have o1:=of_decide_eq_true o1
      have o2:=of_decide_eq_true o2
      have o3:=of_decide_eq_true o3
      simp only[E.ev,E.lenS_ev] at o1 o2 o3
      obtain⟨⟨a,n,c0,rfl⟩,hd1⟩:=d1
      obtain rfl:u2= .int .i64 (i.ev ρ):=d3
      obtain⟨b,hb,rfl⟩:=d5
      obtain⟨b',hb',vs,h3,h4⟩:=hr.blk _ _ hmv
      rw[hb] at hb'
      simp only[Option.some.injEq] at hb'
      subst hb'
      obtain⟨ov,xs,hO⟩:=hr.blk _ _ hm
      have hvv:=hO.now
      rw[hd1] at hvv
      simp only[Option.some.injEq] at hvv
      subst hvv
      have hn:n=(x.ev ρ).length:=by
       rcases hO.row with ⟨_,h2⟩ | ⟨h2,_,b,h3⟩
       ·rcases h2 with ⟨h2,h3⟩ | ⟨g,cap,cur,h2,_⟩
        ·simp only[Value.slice.injEq] at h2;omega
        ·simp only[Value.slice.injEq] at h2
         exact h2.2.1
       ·simp only[Value.slice.injEq] at h3;omega
      have hl:=h3.length
      obtain⟨e1,e2⟩:=V0 (y4 (W:=ρ.w) (Below.refl _ _)) ks 1 _ y hy _ (h3.drop off) (by rw[List.length_drop];omega)
      obtain⟨k,hki⟩:=Int.eq_ofNat_of_zero_le o1
      have hrows:=hO.rows
      have hnews:RowsAt ρ.w ks ((vs.drop off).take ks.length) (y.ev ρ):=by
       refine⟨by rw[e1,List.length_take,List.length_drop];omega,fun j row hj=> ?_⟩
       have hlt:j<1:=by rw[←e1];exact(List.getElem?_eq_some_iff.1 hj).1
       obtain rfl:j=0:=by omega
       have:=e2 0 row hj
       rw[Nat.zero_mul,List.drop_zero] at this ⊢
       rw[List.take_take,Nat.min_self]
       exact this
      have hcalls:=hc W ρ.w.heap.size a n c0 k b off c xs vs ((vs.drop off).take ks.length) tv hr.base.size (hn▸hO.row) (by omega) h4 rfl (by rw[List.length_take,List.length_drop];omega)
       (fun k' hk' e=>hid (hr.inj id vid k' (.inr ⟨_,_,hd1,hk'⟩) (.inl (by rw[hb,e])))) hnews.all_one hrows.all_one (by omega)
      have hw:CallsIn Fence.wide 0 P f #[.slice a n c0,.int .i64 k,.slice (some ⟨b,off,none⟩) 1 c] W _:=callsIn_wide.2 hcalls
      rw[hki]
      refine CallsIn.mono (F:=FR none) hw ?_
      rintro en W' ⟨v',rfl,happ⟩
      have hver:(E.plusS ver (.lit 1)).ev ρ=ver.ev ρ+1:=by rw[E.plusS_ev];rfl
      obtain⟨b2,c2,hb2⟩:=happ.sl
      have hev:=X.ins_ev ρ x i y
      have s1:=hrows.sub (l:=0) (m:=i.ev ρ) (by omega) (by omega)
      have s2:=hrows.sub (l:=i.ev ρ) (m:=((x.ev ρ).length:Nat)) (by omega) (by omega)
      have hall:=(s1.app hnews).app s2
      have hxl:=hrows.1
      have e0:(xs.drop ((0:Int).toNat*ks.length)).take (((i.ev ρ).toNat-(0:Int).toNat)*ks.length)++(vs.drop off).take ks.length++(xs.drop ((i.ev ρ).toNat*ks.length)).take ((((x.ev ρ).length:Int).toNat-(i.ev ρ).toNat)*ks.length)=xs.take (k*ks.length)++(vs.drop off).take ks.length++xs.drop (k*ks.length):=by
       rw[hki]
       simp only[Int.toNat_zero,Nat.zero_mul,List.drop_zero,Nat.sub_zero,Int.ofNat_eq_natCast,Int.toNat_natCast]
       congr 1
       rw[List.take_of_length_le]
       rw[List.length_drop,hxl,Nat.sub_mul]
       omega
      rw[e0,←hev] at hall
      have hlen:((X.ins x i y).ev ρ).length=n+1:=by
       rw[hev]
       simp only[k5,List.length_append,List.length_take,List.length_drop,Int.toNat_zero,e1,Int.toNat_natCast]
       omega
      have hstep:=B2 (ρ:=ρ) (σ:=σ) (W:=W) (id:=id) (t:=t) (ks:=ks) (x:=X.ins x i y) (ver:= .plusS ver (.lit 1)) (v:= .slice a n c0) (v':=v') (W':=W') (xs:=xs.take (k*ks.length)++(vs.drop off).take ks.length++xs.drop (k*ks.length)) (fun i a hi=>hr.lt i a hi) (by rw[hver];exact hO.last _ (by omega)) (fun u hu=>hO.last u (by rw[hver] at hu;omega)) hr.inj
       (fun k' hk'=> .inr ⟨_,_,hd1,hk'⟩) (by rw[hlen];exact happ) hall.2 (by rw[hlen];omega)
      refine⟨_,_,rfl,⟨⟨b2,_,c2,hb2⟩,As.say_self⟩,hstep,fun j hj=> ?_⟩
      rcases v8 hj with h | h
      ·exact .inl h
      ·exact .inl (.inr ⟨_,_,by rw[h];exact hO.now⟩)
     ·exact hq.elim
    ·exact hq.elim
   ·exact hq.elim
  ·exact hq.elim
 ·exact hq.elim
section
variable {P:Program}
theorem U6{ops:Array Oper}{o:Oper}{a:Act}{w:World}{K:Act→World→Prop}{Q:Exit→Act→World→Prop}{E:Prop}
 (hg:o.guard=none) (d x:Operand) (dT sT:TypeId) (hop:o.op=Op.call { callee:=Callee.builtin Builtin.append,args:= #[d,x],argTypes:= #[dT,sT] })
 (v u:Value) (hd:a.eval d=v) (hx:a.eval x=u) {v':Value} {w':World} (hr:(Builtin.append_ #[dT,sT] o.type #[v,u]).run P w= .ok v' w') (hK:K (a.put o.dst v') w'):
 if Region.wanted o (yielded ops a.tmps)=true then Oper.wp P o a w K Q else E:=by
 have hw:Region.wanted o (yielded ops a.tmps)=true:=by simp [Region.wanted,hg]
 rw[if_pos hw]
 unfold Oper.wp execOp
 simp only[hop,resolve,invoke,builtin,Sem.run_bind,Sem.run_pure,Result.andThen_ok,List.map_toArray,List.map_cons,List.map_nil,hd,hx]
 rw[hr]
 exact hK
theorem a4g(W:World){t ty e bt:TypeId}{i:TypeInfo}(ht:P.underlying t=some (.slice e))(hi:P.info? e=some i)(g sLen sCap:Nat)(cur:List Value)(hg:W.heap[g]? = some (.cells cur.toArray bt (0,0)))
 (a:Addr) (m c:Nat) (news:List Value) (hl:news.length=m*i.size) (hcell:∀j v,news[j]? = some v→W.cell? (a.add j)=some v) (h1:∀u∈news,u.oneCell'=true) (hroom:sLen+m≤sCap) (hfit:sLen*i.size+news.length≤cur.length):
 (Builtin.append_ #[t,t] ty #[.slice (some ⟨g,0,none⟩) sLen sCap,.slice (some a) m c]).run P W= .ok (.slice (some ⟨g,0,none⟩) (sLen+m) sCap) (W.setCells g (sLen*i.size) news):=by
 obtain⟨e1,_⟩:=q9 (P:=P) W g (sLen*i.size) cur hg news h1 hfit
 have hf:=run_firstCells_some (P:=P) W i.size m a m c news hl hcell
 simp [Builtin.append_,run_underlying ht,sizeOf,typeInfo,hi,Builtin.lenOf,hroom,hf,Addr.add_lit,e1]
theorem a2H(W:World){t ty e:TypeId}{i:TypeInfo}(ht:P.underlying t=some (.slice e))(hi:P.info? e=some i)(g sLen sCap:Nat)(hle:sLen≤sCap)(ad:Option Addr)(c:Nat):
 (Builtin.append_ #[t,t] ty #[.slice (some ⟨g,0,none⟩) sLen sCap,.slice ad 0 c]).run P W= .ok (.slice (some ⟨g,0,none⟩) sLen sCap) W:=by
 cases ad with
 | none=>simp [Builtin.append_,run_underlying ht,sizeOf,typeInfo,hi,Builtin.lenOf,hle,Builtin.firstCells,storeCells]
 | some b=>
   have hf:=run_firstCells_some (P:=P) W i.size 0 b 0 c [] (by simp) (by simp)
   simp [Builtin.append_,run_underlying ht,sizeOf,typeInfo,hi,Builtin.lenOf,hle,hf,storeCells]
theorem a6M(W:World){t ty e bt:TypeId}{i:TypeInfo}{z:Value}(ht:P.underlying t=some (.slice e))(hi:P.info? e=some i)(hz:i.zero=some z)(g o:Nat)(cur:List Value)(hg:W.heap[g]? = some (.cells cur.toArray bt (0,0)))
 (h1:∀u∈z.cells.toList,u.oneCell'=true) (hfit:o+z.cells.size≤cur.length) (c:Nat):
 (Builtin.clear_ #[t] ty #[.slice (some ⟨g,o,none⟩) 1 c]).run P W= .ok (.tuple #[]) (W.setCells g o z.cells.toList):=by
 obtain⟨e1,_⟩:=q9 (P:=P) W g o cur hg z.cells.toList h1 (by simpa using hfit)
 have hzc:(Builtin.zeroCells z.cells 1).toList=z.cells.toList:=by
  unfold Builtin.zeroCells
  rw[Array.toList_map,Array.toList_range,Nat.one_mul]
  apply List.ext_getElem
  ·simp
  ·intro j h1 h2
   have h3:j<z.cells.size:=by simpa using h1
   simp [Nat.mod_eq_of_lt h3,getElem!_pos,h3]
 simp [Builtin.clear_,run_underlying ht,zeroValue,typeInfo,hi,hz,hzc,e1]
theorem a2L{cur xs zs:List Value}{p s m:Nat}(hx:cur.take m=xs)(hxl:xs.length=m)(hp:p+s≤m)(hz:zs.length=s)(hfit:m≤cur.length):
 (o0 (o0 cur p (xs.drop (p+s))) (m-s) zs).take (m-s)=xs.take p++xs.drop (p+s)∧(o0 (o0 cur p (xs.drop (p+s))) (m-s) zs).length=cur.length:=by
 have hd:(xs.drop (p+s)).length=m-(p+s):=by rw[List.length_drop,hxl]
 have l1:(o0 cur p (xs.drop (p+s))).length=cur.length:=t0 (by omega)
 have l2:(o0 (o0 cur p (xs.drop (p+s))) (m-s) zs).length=cur.length:=by rw[t0 (by omega),l1]
 refine⟨List.ext_getElem? fun j=> ?_,l2⟩
 have hxj:∀j,j<m→cur[j]? = xs[j]? := fun j hj=>by rw[←hx,List.getElem?_take_of_lt hj]
 rcases Nat.lt_or_ge j (m-s) with q | q
 ·rw[List.getElem?_take_of_lt q,t6 (by omega),t6 (by omega),if_neg (by omega)]
  rcases Nat.lt_or_ge j p with q1 | q1
  ·rw[if_neg (by omega),List.getElem?_append_left (by rw[List.length_take];omega),List.getElem?_take_of_lt q1,hxj j (by omega)]
  ·rw[if_pos (by omega),List.getElem?_append_right (by rw[List.length_take];omega)]
   congr 1
   rw[List.length_take];omega
 ·rw[List.getElem?_eq_none (by rw[List.length_take];omega),List.getElem?_eq_none (by rw[List.length_append,List.length_take,hd];omega)]
theorem AppRes.shrunk{W W':World}{base:Nat}{e:TypeId}{size g n k cap:Nat}{cur cur':List Value}{ys:List Value}(hbg:base≤g)(hg:W.heap[g]? = some (.cells cur.toArray e (0,0)))(hn:k≤cap)(hc:0<cap)(hcm:cap≤maxLen)(hcs:cur'.length=cap*size)
 (hg':W'.heap[g]? = some (.cells cur'.toArray e (0,0))) (hl:ys.length=k*size) (htk:cur'.take (k*size)=ys) (h1:W'.os=W.os) (h2:W'.tape=W.tape) (h3:W'.output=W.output) (h4:W.heap.size≤W'.heap.size)
 (h5:∀q,q≠g→q<W.heap.size→W'.heap[q]? = W.heap[q]?):AppRes W base e size (.slice (some ⟨g,0,none⟩) n cap) k ys (.slice (some ⟨g,0,none⟩) k cap) W':=by
 obtain⟨c',rfl⟩:∃c',cap=c'+1:=⟨cap-1,by omega⟩
 refine⟨.inl ⟨hl,.inr ⟨g,_,_,rfl,hbg,hg',hn,hcm,by simpa using hcs,by simpa using htk⟩⟩,h1,h2,h3,h4,fun k hk hr=>h5 k (fun e=>hr (by rw[e];rfl)) hk,fun k hk=> .inl hk,fun k L hL=> ?_,_,_,rfl⟩
 have hkg:k≠g:=fun e=>by subst e;rw[hg] at hL;cases hL
 exact⟨L,by rw[h5 k hkg (C5 hL)];exact hL,rfl,rfl,rfl,rfl⟩
def a9n(P:Program)(f:FuncId)(e:TypeId)(size:Nat):Prop:=∀(W:World) (base:Nat) (a:Option Addr) (n c i:Nat) (xs:List Value),
 base≤W.heap.size→OwnRow W base e size (.slice a n c) n xs→i<n→(∀u∈xs,u.oneCell'=true)→n<1000000→
 Calls P f #[.slice a n c,.int .i64 i,.int .i64 ((i:Int)+1)] W (fun en W'=>∃v',en= .returned v'∧AppRes W base e size (.slice a n c) (n-1) (xs.take (i*size)++xs.drop ((i+1)*size)) v' W')
end
end Go.Proofs.YtbbjlleaofgddaaGreat
namespace Go.Proofs.YtbbjlleaofgddaaGreat
open Go.RowKit
def X.cut(x:X)(i j:E):X:= .appS (.sub x (.lit 0) i) (.sub x j (.lenS x))
theorem X.cut_ev(ρ:Env)(x:X)(i j:E):(X.cut x i j).ev ρ=k5 (x.ev ρ) 0 (i.ev ρ)++k5 (x.ev ρ) (j.ev ρ) ((x.ev ρ).length:Nat):=by
 simp only[X.cut,X.appS_ev,X.ev,E.ev,E.lenS_ev]
def a6d(e:TypeId)(ks:List CK)(args:List V)(mem:Mem)(nx:Nat):T i8:=match args with
 | [.v (.one (.z (.own id ver))),.v (.one (.z (.int .i64 i))),.v (.one (.z (.int .i64 j)))]=>match mem.get id with
   | some (.own t ks' x v)=>if E.same ver v&&Nat.beq t e&&CK.sameL ks ks' then
    .obs [.tru (.cmpS .leq (.lit 0) i),.tru (.cmpS .lss i (.lenS x)),.tru (.cmpS .eql j (.plusS i (.lit 1))),.tru (.cmpS .lss (.lenS x) (.lit 1000000))] (.ret (.s0 (.own id (.plusS ver (.lit 1))),[(id,.own e ks (X.cut x i j) (.plusS ver (.lit 1)))],nx)) else .stuck "Delete: kinds"
   | _=> .stuck "Delete: from"
 | _=> .stuck "Delete"
theorem b2T{P:Program}{ρ:Env}{f:FuncId}{e:TypeId}{ks:List CK}(hc:a9n P f e ks.length):i4 P ρ f (a6d e ks):=by
 intro args mem nx q hq hle σ W vals hr hfr hd
 unfold a6d at hq
 split at hq
 ·rename_i id ver i j
  split at hq
  ·rename_i t ks' x v hm
   split at hq
   ·rename_i hcond
    simp only[Bool.and_eq_true] at hcond
    obtain⟨⟨hv,ht⟩,hk⟩:=hcond
    obtain rfl:=E.same_eq _ _ hv
    obtain rfl:=i9 ht
    obtain rfl:=CK.sameL_eq _ _ hk
    obtain⟨ho,hq⟩:=T.res_obs hq
    obtain rfl:=g9 hq
    obtain⟨u1,us,rfl,d1,d2⟩:=DL.cons_inv hd
    obtain⟨u2,us2,rfl,d3,d4⟩:=DL.cons_inv d2
    obtain⟨u3,us3,rfl,d5,d6⟩:=DL.cons_inv d4
    obtain rfl:=DL.nil_inv d6
    have o1:=ho _ (List.mem_cons_self ..)
    have o2:=ho _ (List.mem_cons_of_mem _ (List.mem_cons_self ..))
    have o3:=ho _ (List.mem_cons_of_mem _ (List.mem_cons_of_mem _ (List.mem_cons_self ..)))
    have o4:=ho _ (List.mem_cons_of_mem _ (List.mem_cons_of_mem _ (List.mem_cons_of_mem _ (List.mem_cons_self ..))))
    simp only[Ob.ok,B.cmpS_ev] at o1 o2 o3 o4
    have o1:=of_decide_eq_true o1
    have o2:=of_decide_eq_true o2
    have o3:=of_decide_eq_true o3
    have o4:=of_decide_eq_true o4
    simp only[E.ev,E.lenS_ev,E.plusS_ev] at o1 o2 o3 o4
    obtain⟨⟨a,n,c0,rfl⟩,hd1⟩:=d1
    obtain rfl:u2= .int .i64 (i.ev ρ):=d3
    obtain rfl:u3= .int .i64 (j.ev ρ):=d5
    obtain⟨ov,xs,hO⟩:=hr.blk _ _ hm
    have hvv:=hO.now
    rw[hd1] at hvv
    simp only[Option.some.injEq] at hvv
    subst hvv
    have hn:n=(x.ev ρ).length:=by
     rcases hO.row with ⟨_,h2⟩ | ⟨h2,_,b,h3⟩
     ·rcases h2 with ⟨h2,h3⟩ | ⟨g,cap,cur,h2,_⟩
      ·simp only[Value.slice.injEq] at h2;omega
      ·simp only[Value.slice.injEq] at h2
       exact h2.2.1
     ·simp only[Value.slice.injEq] at h3;omega
    obtain⟨k,hki⟩:=Int.eq_ofNat_of_zero_le o1
    have hrows:=hO.rows
    have hcalls:=hc W ρ.w.heap.size a n c0 k xs hr.base.size (hn▸hO.row) (by omega) hrows.all_one (by omega)
    have hw:CallsIn Fence.wide 0 P f #[.slice a n c0,.int .i64 k,.int .i64 ((k:Int)+1)] W _:=callsIn_wide.2 hcalls
    rw[o3,hki]
    refine CallsIn.mono (F:=FR none) hw ?_
    rintro en W' ⟨v',rfl,happ⟩
    have hver:(E.plusS ver (.lit 1)).ev ρ=ver.ev ρ+1:=by rw[E.plusS_ev];rfl
    obtain⟨b2,c2,hb2⟩:=happ.sl
    have hev:=X.cut_ev ρ x i j
    have s1:=hrows.sub (l:=0) (m:=i.ev ρ) (by omega) (by omega)
    have s2:=hrows.sub (l:=j.ev ρ) (m:=((x.ev ρ).length:Nat)) (by omega) (by omega)
    have hall:=s1.app s2
    have hxl:=hrows.1
    have e0:(xs.drop ((0:Int).toNat*ks.length)).take (((i.ev ρ).toNat-(0:Int).toNat)*ks.length)++(xs.drop ((j.ev ρ).toNat*ks.length)).take ((((x.ev ρ).length:Int).toNat-(j.ev ρ).toNat)*ks.length)=xs.take (k*ks.length)++xs.drop ((k+1)*ks.length):=by
     have hj:(j.ev ρ).toNat=k+1:=by omega
     rw[hki,hj]
     simp only[Int.toNat_zero,Nat.zero_mul,List.drop_zero,Nat.sub_zero,Int.ofNat_eq_natCast,Int.toNat_natCast]
     congr 1
     rw[List.take_of_length_le]
     rw[List.length_drop,hxl,Nat.sub_mul]
     omega
    rw[e0,←hev] at hall
    have hlen:((X.cut x i j).ev ρ).length=n-1:=by
     rw[hev]
     simp only[k5,List.length_append,List.length_take,List.length_drop,Int.toNat_zero,Int.toNat_natCast]
     omega
    have hstep:=B2 (ρ:=ρ) (σ:=σ) (W:=W) (id:=id) (t:=t) (ks:=ks) (x:=X.cut x i j) (ver:= .plusS ver (.lit 1)) (v:= .slice a n c0) (v':=v') (W':=W') (xs:=xs.take (k*ks.length)++xs.drop ((k+1)*ks.length)) (fun i a hi=>hr.lt i a hi) (by rw[hver];exact hO.last _ (by omega)) (fun u hu=>hO.last u (by rw[hver] at hu;omega)) hr.inj
     (fun k' hk'=> .inr ⟨_,_,hd1,hk'⟩) (by rw[hlen];exact happ) hall.2 (by rw[hlen];omega)
    refine⟨_,_,rfl,⟨⟨b2,_,c2,hb2⟩,As.say_self⟩,hstep,fun j hj=> ?_⟩
    rcases v8 hj with h | h
    ·exact .inl h
    ·subst h;exact .inl (.inr ⟨_,_,hd1⟩)
   ·exact hq.elim
  ·exact hq.elim
 ·exact hq.elim
end Go.Proofs.YtbbjlleaofgddaaGreat
