/- MK, merged: Zs, Zw, Zl, Zm, Zr, Zn, Zo, Zu, Ro. -/
import Derived.Test.YtbbjlleaofgddaaGreatMB
import Derived.Test.YtbbjlleaofgddaaGreatMA
import Derived.ChangeArms
import Derived.OpenShut
import Derived.SizedLaws
import Derived.DataReads
import Derived.Test.YtbbjlleaofgddaaGreatRows
import Derived.ProofKit
set_option linter.unusedSimpArgs false
set_option linter.unusedVariables false
namespace Go.Proofs.YtbbjlleaofgddaaGreat
open Go.RowKit
theorem N9:∀ {ws:Mem} {id:Nat},ws.get id≠none→id∈ws.map (·.1)
 | [],_,h=>absurd rfl h
 | (j,b)::ws,id,h=>by
   simp only[Mem.get] at h
   split at h
   ·rename_i e;simp only[beq_iff_eq] at e;simp [e]
   ·simp only[List.map_cons,List.mem_cons];exact .inr (N9 h)
section
variable {ρ:Env} {σ σ1:As} {N nx:Nat} {m:Asg} {v:LV}
def Lo(nx:Nat)(σ1 σ:As):Prop:=∀i,i<nx→σ1 i=σ i∧σ1.h i=σ.h i
theorem Lo.f{nx:Nat}{σ1 σ:As}(h:Lo nx σ1 σ){i a:Nat}(hi:i<nx)(q:σ1 i=some a):σ i=some a:=by rw[←(h i hi).1];exact q
theorem Lo.refl(nx:Nat)(σ:As):Lo nx σ σ:=fun _ _=>⟨rfl,rfl⟩
theorem a5Z(ρ:Env)(N:Nat)(v:LV):Agree N (ρ.put N v) ρ:=Env.put_agree ρ N v
theorem a0n{a b:Nat}(h:Nat.ble a b=true):a≤b:=Nat.le_of_ble_eq_true h
theorem z6(hf:m.fits ρ v){p e:E}(h:Y5 N m p e=true):p.ev (ρ.put N v)=e.ev ρ:=by
 unfold Y5 at h
 split at h
 ·rename_i j
  split at h
  ·rename_i hj
   have hj:=a0n hj
   split at h
   ·rename_i e' he
    rw[←E.same_eq _ _ h]
    simp only[E.ev,Env.put,if_neg (Nat.not_lt.2 hj)]
    exact hf.i _ _ he
   ·cases h
  ·rename_i hj
   rw[←E.same_eq _ _ h]
   have:j<N:=by
    rcases Nat.lt_or_ge j N with q | q
    ·exact q
    ·exact absurd (Nat.ble_eq_true_of_le q) hj
   simp [E.ev,Env.put,this]
 ·simp only[Bool.and_eq_true] at h
  rw[←E.same_eq _ _ h.2,E.low_ev (a5Z ρ N v) _ h.1]
theorem c1G(hf:m.fits ρ v){p e:B}(h:okB N m p e=true):p.ev (ρ.put N v)=e.ev ρ:=by
 unfold okB at h
 split at h
 ·rename_i j
  split at h
  ·rename_i hj
   have hj:=a0n hj
   split at h
   ·rename_i e' he
    rw[←B.same_eq _ _ h]
    simp only[B.ev,Env.put,if_neg (Nat.not_lt.2 hj)]
    exact hf.b _ _ he
   ·cases h
  ·rename_i hj
   rw[←B.same_eq _ _ h]
   have:j<N:=by
    rcases Nat.lt_or_ge j N with q | q
    ·exact q
    ·exact absurd (Nat.ble_eq_true_of_le q) hj
   simp [B.ev,Env.put,this]
 ·simp only[Bool.and_eq_true] at h
  rw[←B.same_eq _ _ h.2,B.low_ev (a5Z ρ N v) _ h.1]
theorem a4d(hf:m.fits ρ v){p e:X}(h:okX N m p e=true):p.ev (ρ.put N v)=e.ev ρ:=by
 unfold okX at h
 split at h
 ·rename_i j
  split at h
  ·rename_i hj
   have hj:=a0n hj
   split at h
   ·rename_i e' he
    rw[←X.same_eq _ _ h]
    simp only[X.ev,Env.put,if_neg (Nat.not_lt.2 hj)]
    exact hf.d _ _ he
   ·cases h
  ·rename_i hj
   rw[←X.same_eq _ _ h]
   have:j<N:=by
    rcases Nat.lt_or_ge j N with q | q
    ·exact q
    ·exact absurd (Nat.ble_eq_true_of_le q) hj
   simp [X.ev,Env.put,this]
 ·simp only[Bool.and_eq_true] at h
  rw[←X.same_eq _ _ h.2,X.low_ev (a5Z ρ N v) _ h.1]
theorem b8M{c c':Value}(h:b1F c c'=true):c=c':=by
 unfold b1F at h
 split at h<;>first | rfl | cases h
theorem a2Q(hσ:Lo nx σ1 σ):∀ {l l':List (Nat×Nat)},U0 nx l l'=true→∀ {vs:List Value},DL (capDen σ1) l' vs→DL (capDen σ) l vs
 | [],[],_,vs,hd=>by rw[DL.nil_inv hd];trivial
 | (i,o)::l,(i',o')::l',h,vs,hd=>by
   simp only[U0,Bool.and_eq_true] at h
   obtain⟨⟨⟨h1,h2⟩,h3⟩,h4⟩:=h
   obtain⟨w,ws,rfl,⟨a,e1,e2⟩,e3⟩:=DL.cons_inv hd
   obtain rfl:=i9 h1
   obtain rfl:=i9 h2
   exact⟨⟨a,hσ.f (o7 h3) e1,e2⟩,a2Q hσ h4 e3⟩
 | [],_::_,h,_,_=>by simp [U0] at h
 | _::_,[],h,_,_=>by simp [U0] at h
theorem a9j(hf:m.fits ρ v)(hσ:Lo nx σ1 σ){p s:S0}(h:a5m N nx m p s=true){u:Value}(hd:s.den ρ σ1 u):p.den (ρ.put N v) σ u:=by
 unfold a5m at h
 split at h
 ·trivial
 ·simp only[Bool.and_eq_true,decide_eq_true_eq] at h
  obtain⟨rfl,h⟩:=h
  show u= .int _ _
  rw[z6 hf h]
  exact hd
 ·show u= .bool _
  rw[c1G hf h]
  exact hd
 ·rename_i K x f K' y f'
  simp only[Bool.and_eq_true,Bool.or_eq_true,Bool.not_eq_true'] at h
  obtain⟨⟨h1,h2⟩,h3⟩:=h
  obtain rfl:=CK.sameL_eq _ _ h1
  obtain⟨a,n,c,e1,e2,e3⟩:=hd
  refine⟨a,n,c,e1,?_,fun hff=>e3 ?_⟩
  ·rw[a4d hf h2];exact e2
  ·rcases h3 with h3 | h3
   ·rw[h3] at hff;cases hff
   ·exact h3
 ·rename_i K x i o K' x' i' o'
  simp only[Bool.and_eq_true] at h
  obtain⟨⟨⟨h1,h2⟩,h3⟩,h4⟩:=h
  obtain rfl:=CK.sameL_eq _ _ h1
  obtain rfl:=i9 h4
  obtain⟨b,n,c,e1,e2,e3,e4⟩:=hd
  refine⟨b,n,c,?_,?_,?_,?_⟩
  ·rw[a4d hf h2];exact e1
  ·rw[z6 hf h3];exact e2
  ·rw[z6 hf h3];exact e3
  ·rw[z6 hf h3];exact e4
 ·simp only[Bool.and_eq_true] at h
  obtain⟨⟨h1,h2⟩,h3⟩:=h
  obtain rfl:=i9 h1
  obtain rfl:=i9 h2
  obtain⟨a,h4,h5⟩:=hd
  exact⟨a,hσ.f (o7 h3) h4,h5⟩
 ·rename_i i o l c i' o' l' c'
  simp only[Bool.and_eq_true,decide_eq_true_eq] at h
  obtain⟨⟨⟨⟨h1,h2⟩,h3⟩,h4⟩,h5⟩:=h
  obtain rfl:=i9 h1
  obtain rfl:=i9 h2
  obtain rfl:=i9 h3
  subst h4
  cases c with
  | none=>obtain⟨a,c,e1,e2,e3⟩:=hd;exact⟨a,c,hσ.f (o7 h5) e1,e2,e3⟩
  | some c=>obtain⟨a,e1,e2⟩:=hd;exact⟨a,hσ.f (o7 h5) e1,e2⟩
 ·simp only[Bool.and_eq_true] at h
  obtain⟨h1,h2⟩:=h
  obtain rfl:=i9 h1
  obtain⟨vs,e1,e2⟩:=hd
  exact⟨vs,a2Q hσ h2 e1,e2⟩
 ·simp only[Bool.and_eq_true] at h
  obtain⟨⟨h1,h2⟩,h3⟩:=h
  obtain rfl:=i9 h1
  obtain⟨e1,e2⟩:=hd
  exact⟨e1,by rw[z6 hf h3,←(hσ _ (o7 h2)).2];exact e2⟩
 ·simp only[Bool.and_eq_true,beq_iff_eq] at h
  obtain⟨⟨⟨⟨⟨⟨h1,h2⟩,h3⟩,h4⟩,h5⟩,h6⟩,h7⟩:=h
  obtain rfl:=i9 h1
  obtain rfl:=i9 h4
  subst h7
  obtain⟨a,n,c,b,c',e⟩:=hd
  refine⟨a,n,c,b,c',?_⟩
  rw[z6 hf h3,z6 hf h5,z6 hf h6,←(hσ _ (o7 h2)).2]
  exact e
 ·simp only[Bool.and_eq_true] at h
  obtain⟨⟨⟨⟨⟨h1,h2⟩,h3⟩,h4⟩,h5⟩,h6⟩:=h
  obtain rfl:=i9 h1
  obtain rfl:=i9 h4
  obtain rfl:=i9 h6
  obtain⟨a,n,c,e⟩:=hd
  refine⟨a,n,c,?_⟩
  rw[z6 hf h3,z6 hf h5,←(hσ _ (o7 h2)).2]
  exact e
 ·simp only[Bool.and_eq_true] at h
  obtain⟨h1,h3⟩:=h
  obtain rfl:=i9 h1
  obtain⟨a,h4,h5⟩:=hd
  exact⟨a,hσ.f (o7 h3) h4,h5⟩
 ·simp only[Bool.and_eq_true] at h
  obtain⟨h1,h3⟩:=h
  obtain rfl:=i9 h1
  obtain⟨a,h4,h5⟩:=hd
  exact⟨a,hσ.f (o7 h3) h4,h5⟩
 ·simp only[Bool.and_eq_true] at h
  obtain⟨⟨⟨h1,h2⟩,h3⟩,h4⟩:=h
  obtain rfl:=i9 h1
  obtain rfl:=i9 h4
  obtain⟨a,h5,h6⟩:=hd
  exact⟨a,by rw[z6 hf h3,←(hσ _ (o7 h2)).2];exact h5,h6⟩
 ·show u=_
  rw[b8M h]
  exact hd
 ·cases h
theorem P8(hf:m.fits ρ v)(hσ:Lo nx σ1 σ):∀ {ps ss:List S0},a0T N nx m ps ss=true→∀ {us:List Value},DL (S0.den ρ σ1) ss us→DL (S0.den (ρ.put N v) σ) ps us
 | [],[],_,us,hd=>by rw[DL.nil_inv hd];trivial
 | p::ps,s::ss,h,us,hd=>by
   simp only[a0T,Bool.and_eq_true] at h
   obtain⟨w,ws,rfl,h1,h2⟩:=DL.cons_inv hd
   exact⟨a9j hf hσ h.1 h1,P8 hf hσ h.2 h2⟩
 | [],_::_,h,_,_=>by simp [a0T] at h
 | _::_,[],h,_,_=>by simp [a0T] at h
theorem b0M(hf:m.fits ρ v)(hσ:Lo nx σ1 σ){p s:S}(h:okS N nx m p s=true){u:Value}(hd:s.den ρ σ1 u):p.den (ρ.put N v) σ u:=by
 unfold okS at h
 split at h
 ·trivial
 ·exact a9j hf hσ h hd
 ·rename_i t a cs t' a' cs'
  simp only[Bool.and_eq_true,beq_iff_eq] at h
  obtain⟨⟨h1,rfl⟩,h2⟩:=h
  obtain rfl:=i9 h1
  cases a with
  | true=>obtain⟨vs,e1,e2⟩:=hd;exact⟨vs,P8 hf hσ h2 e1,e2⟩
  | false=>obtain⟨w,e1,e2⟩:=hd;exact⟨w,P8 hf hσ h2 e1,e2⟩
 ·rename_i t f a cs t' f' a' cs'
  simp only[Bool.and_eq_true,beq_iff_eq] at h
  obtain⟨⟨⟨h0,h1⟩,rfl⟩,h2⟩:=h
  obtain rfl:=i9 h1
  have ht:t=t':=by
   cases t with
   | none=>cases t' with
     | none=>rfl
     | some _=>cases h0
   | some t=>cases t' with
     | none=>cases h0
     | some t'=>rw[i9 h0]
  subst ht
  cases a with
  | true=>obtain⟨vs,e1,e2⟩:=hd;exact⟨vs,P8 hf hσ h2 e1,e2⟩
  | false=>obtain⟨w,e1,e2⟩:=hd;exact⟨w,P8 hf hσ h2 e1,e2⟩
 ·cases h
theorem U5(hf:m.fits ρ v)(hσ:Lo nx σ1 σ):∀ {ps ss:List S},a1h N nx m ps ss=true→∀ {us:List Value},DL (S.den ρ σ1) ss us→DL (S.den (ρ.put N v) σ) ps us
 | [],[],_,us,hd=>by rw[DL.nil_inv hd];trivial
 | p::ps,s::ss,h,us,hd=>by
   simp only[a1h,Bool.and_eq_true] at h
   obtain⟨w,ws,rfl,h1,h2⟩:=DL.cons_inv hd
   exact⟨b0M hf hσ h.1 h1,U5 hf hσ h.2 h2⟩
 | [],_::_,h,_,_=>by simp [a1h] at h
 | _::_,[],h,_,_=>by simp [a1h] at h
theorem b7p(hf:m.fits ρ v)(hσ:Lo nx σ1 σ){p s:V}(h:a8W N nx m p s=true){u:Value}(hd:s.den ρ σ1 u):p.den (ρ.put N v) σ u:=by
 unfold a8W at h
 rw[Bool.or_eq_true] at h
 rcases h with h | h
 ·unfold b2d at h
  split at h
  ·trivial
  ·cases h
 ·split at h
  ·rename_i p s
   unfold b8e at h
   split at h
   ·exact b0M hf hσ h hd
   ·obtain⟨us,h1,h2⟩:=hd
    exact⟨us,U5 hf hσ h h1,h2⟩
   ·cases h
  ·cases h
theorem I9(hf:m.fits ρ v)(hσ:Lo nx σ1 σ):∀ {ps ss:List V},B6 N nx m ps ss=true→∀ {us:List Value},DL (V.den ρ σ1) ss us→DL (V.den (ρ.put N v) σ) ps us
 | [],[],_,us,hd=>by rw[DL.nil_inv hd];trivial
 | p::ps,s::ss,h,us,hd=>by
   simp only[B6,Bool.and_eq_true] at h
   obtain⟨w,ws,rfl,h1,h2⟩:=DL.cons_inv hd
   exact⟨b7p hf hσ h.1 h1,I9 hf hσ h.2 h2⟩
 | [],_::_,h,_,_=>by simp [B6] at h
 | _::_,[],h,_,_=>by simp [B6] at h
theorem Z6(hf:m.fits ρ v)(hσ:Lo nx σ1 σ){p b:Blk}(h:a6W N nx m p b=true){i:Nat}(hi:i<nx){W:World}(hd:BlkRel ρ σ1 i W b)
 (hk:∀s pe tm ps asg body df,p= .loop s pe tm ps asg body df→∀x,σ1 i=some x→∀L,W.heap[x]? = some (.loop L)→L.params=ps.toArray∧L.assign=asg∧L.body=body):BlkRel (ρ.put N v) σ i W p:=by
 unfold a6W at h
 split at h
 ·simp only[Bool.and_eq_true] at h
  obtain⟨h1,h2⟩:=h
  obtain rfl:=i9 h1
  obtain⟨x,e0,vs,e1,e2⟩:=hd
  exact⟨x,hσ.f hi e0,vs,U5 hf hσ h2 e1,e2⟩
 ·simp only[Bool.and_eq_true] at h
  obtain⟨h1,h2⟩:=h
  obtain rfl:=i9 h1
  obtain⟨x,e0,vs,ex,e1,e2⟩:=hd
  exact⟨x,hσ.f hi e0,vs,ex,U5 hf hσ h2 e1,e2⟩
 ·simp only[Bool.and_eq_true] at h
  obtain⟨⟨⟨h1,h2⟩,h3⟩,h4⟩:=h
  obtain rfl:=i9 h1
  obtain rfl:=CK.sameL_eq _ _ h2
  obtain⟨u,xs,hO⟩:=hd
  have e1:=a4d hf h3
  have e2:=z6 hf h4
  have e3:=(hσ i hi).2
  exact⟨u,xs,by rw[e2,←e3];exact hO.now,by rw[e2,←e3];exact hO.last,by rw[e1];exact hO.row,by rw[e1];exact hO.reps,by rw[e1];exact hO.big⟩
 ·rename_i s pe tm ps asg body df s' pe' tm' ps' asg' body' df'
  simp only[Bool.and_eq_true,decide_eq_true_eq,Option.isNone_iff_eq_none] at h
  obtain⟨⟨⟨⟨⟨rfl,rfl⟩,rfl⟩,h2⟩,h3⟩,h4⟩:=h
  obtain rfl:=i9 h3
  obtain⟨x,e0,fn,tv,d,e1,e2,e3⟩:=hd
  obtain⟨k1,k2,k3⟩:=hk _ _ _ _ _ _ _ rfl _ e0 _ e3
  refine⟨x,hσ.f hi e0,fn,tv,d,I9 hf hσ h2 e1,hσ.f (o7 h4) e2,?_⟩
  rw[e3]
  simp only at k1 k2 k3
  rw[k1,k2,k3]
 ·rename_i s s'
  simp only[beq_iff_eq] at h
  subst h
  obtain⟨x,e0,e1⟩:=hd
  exact⟨x,hσ.f hi e0,e1⟩
 ·obtain⟨e1,e2⟩:=hd
  have e3:=(hσ i hi).2
  exact⟨by rw[←e3];exact e1,fun n v hn hv=>e2 n v hn (by rw[e3];exact hv)⟩
 ·simp only[Bool.and_eq_true,decide_eq_true_eq] at h
  obtain⟨⟨rfl,h2⟩,h3⟩:=h
  obtain⟨x,e0,ns,s,r,e1,e2,e3⟩:=hd
  exact⟨x,hσ.f hi e0,ns,s,r,by rw[a4d hf h2];exact e1,by rw[z6 hf h3];exact e2,by rw[z6 hf h3];exact e3⟩
 ·simp only[Bool.and_eq_true] at h
  obtain⟨⟨h1,h2⟩,h3⟩:=h
  obtain rfl:=i9 h1
  obtain⟨x,e0,e1,vs,e2,e4⟩:=hd
  have e5:=(hσ i hi).2
  have e6:=z6 hf h3
  exact⟨x,by rw[e6,←e5];exact e0,by rw[e6,←e5];exact e1,vs,U5 hf hσ h2 e2,e4⟩
 ·trivial
 ·cases h
theorem J3:∀ {pm mm:Mem},a4N N nx m pm mm=true→∀ {i:Nat} {b:Blk},pm.get i=some b→i<nx∧∃b',mm.get i=some b'∧a6W N nx m b b'=true
 | (j,c)::l,mm,h,i,b,hb=>by
   simp only[a4N,Bool.and_eq_true] at h
   obtain⟨⟨h1,h2⟩,h3⟩:=h
   simp only[Mem.get] at hb
   split at hb
   ·rename_i e
    simp only[beq_iff_eq] at e
    subst e
    simp only[Option.some.injEq] at hb
    subst hb
    split at h2
    ·rename_i b' hb'
     exact⟨o7 h1,b',hb',h2⟩
    ·cases h2
   ·exact J3 h3 hb
theorem T3:∀ {l mm:Mem} {i:Nat} {s pe tm ps asg body df},(a1U l mm).get i=some (.loop s pe tm ps asg body df)→∃s' pe' tm' df',mm.get i=some (.loop s' pe' tm' ps asg body df')
 | (j,b)::l,mm,i,s,pe,tm,ps,asg,body,df,h=>by
   simp only[a1U,List.map_cons,Mem.get] at h
   split at h
   ·rename_i e
    simp only[beq_iff_eq] at e
    subst e
    simp only[Option.some.injEq] at h
    unfold b4i at h
    split at h
    ·split at h
     ·rename_i s' pe' tm' ps' asg' body' df' hm
      simp only[Blk.loop.injEq] at h
      obtain⟨_,_,_,rfl,rfl,rfl,_⟩:=h
      exact⟨_,_,_,_,hm⟩
     ·simp at h
    ·rename_i hne
     exact absurd h (hne _ _ _ _ _ _ _)
   ·exact T3 (l:=l) h
theorem L0{pat st:St}(h:v7 N pat st=some m):B6 N pat.nx m pat.tm st.tm=true∧a4N N pat.nx m pat.mem st.mem=true∧a7j pat st=true∧∀i,st.mem.get i≠none→(pat.mem.get i).isSome=true∨(pat.nx≤i∧i<st.nx):=by
 unfold v7 at h
 simp only at h
 split at h
 ·rename_i hc
  simp only[Option.some.injEq] at h
  subst h
  simp only[Bool.and_eq_true,List.all_eq_true,Bool.or_eq_true] at hc
  obtain⟨⟨⟨h1,h2⟩,h3⟩,h4⟩:=hc
  refine⟨h1,h2,h3,fun i hi=> ?_⟩
  have hk:=N9 hi
  simp only[List.mem_map] at hk
  obtain⟨q,hq,rfl⟩:=hk
  rcases h4 q hq with h | h
  ·exact .inl h
  ·exact .inr ⟨a0n h.1,o7 h.2⟩
 ·cases h
end
section
variable {ρ:Env} {σ:As} {mm:Mem} {new:Nat→Bool} {W:World}
def As.nil(σ:As)(new:Nat→Bool):As:= { σ with h:=fun i n=>if new i=true∧n=0 then some (.slice none 0 0) else σ.h i n }
theorem As.nil_new{i:Nat}(h:new i=true):(σ.nil new).h i 0=some (.slice none 0 0):=by show(if new i=true∧(0:Int)=0 then some _ else _)=_;rw[if_pos ⟨h,rfl⟩]
theorem As.nil_old{i:Nat}{n:Int}(h:¬(new i=true∧n=0)):(σ.nil new).h i n=σ.h i n:=by show(if new i=true∧n=0 then some _ else _)=_;rw[if_neg h]
theorem M8{i k:Nat}(h:(σ.nil new).own i k):σ.own i k:=by
 rcases h with h | ⟨n,v,h1,h2⟩
 ·exact .inl h
 ·by_cases e:new i=true∧n=0
  ·rw[e.2,As.nil_new e.1] at h1
   simp only[Option.some.injEq] at h1
   subst h1
   cases h2
  ·rw[As.nil_old e] at h1
   exact .inr ⟨n,v,h1,h2⟩
theorem b0E{i:Nat}(h:(σ.nil new).has i):σ.has i∨new i=true:=by
 rcases h with h | ⟨n,v,h1⟩
 ·exact .inl (.inl h)
 ·by_cases e:new i=true∧n=0
  ·exact .inr e.1
  ·rw[As.nil_old e] at h1
   exact .inl (.inr ⟨n,v,h1⟩)
section
variable (hn:∀i,new i=true→¬σ.has i)
include hn
theorem D2:Ext σ (σ.nil new):=⟨fun _ _ h=>h,fun i n v h=>by
 rw[As.nil_old (fun e=>hn i e.1 (.inr ⟨n,v,h⟩))];exact h⟩
theorem a9s{i:Nat}(h:∃n v,σ.h i n=some v):(σ.nil new).h i=σ.h i:=by
 funext n
 exact As.nil_old (fun e=>hn i e.1 (.inr h))
theorem b4h(hr:RelM ρ σ mm W){p s:S0}{v:Value}(hd:s.den ρ σ v):(b2E mm new p s).den ρ (σ.nil new) v:=by
 have hx:=D2 hn
 unfold b2E
 split
 ·split
  ·rename_i i _ h
   obtain rfl:v= .slice none 0 0:=hd
   exact⟨⟨none,0,0,rfl⟩,As.nil_new h⟩
  ·exact S0.den_ext hx _ _ hd
 ·split
  ·rename_i i _ k _ _ h
   obtain rfl:v= .slice none 0 0:=hd
   have e0:E.ev ρ (.lit 0)=0:=by simp [E.ev]
   exact⟨none,0,0,none,0,As.nil_new h,by rw[e0];omega,by rw[e0];omega,by rw[e0];omega,by rw[e0];simp,by rw[e0];simp,fun h0=>by rw[e0] at h0;omega,(fun h=>by cases h),fun _ _=>⟨rfl,rfl⟩⟩
  ·exact S0.den_ext hx _ _ hd
 ·obtain rfl:v= .slice none 0 0:=hd
  exact⟨none,0,0,rfl,⟨by simp [X.ev],Nat.le_refl _,by simp,fun h=>absurd h (Nat.lt_irrefl _),fun b h=>by cases h⟩,fun _=>rfl⟩
 ·rename_i i pv k i' ve
  split
  ·split
   ·rename_i t ks x v' hm
    split
    ·rename_i hc
     simp only[Bool.and_eq_true] at hc
     obtain⟨hc1,hc2⟩:=hc
     obtain rfl:=E.same_eq _ _ hc1
     obtain rfl:=i9 hc2
     obtain⟨⟨a,n,c,rfl⟩,hd⟩:=hd
     obtain⟨u,xs,hO⟩:=hr.blk _ _ hm
     have hvv:=hO.now
     rw[hd] at hvv
     simp only[Option.some.injEq] at hvv
     subst hvv
     have hlen:n=(x.ev ρ).length∧n≤c∧(0<n→∃b,a=some b):=by
      rcases hO.row with ⟨_,h2⟩ | ⟨h2,_,b,h3⟩
      ·rcases h2 with ⟨h2,h3⟩ | ⟨g,cap,cur,h2,_,_,r1,_⟩
       ·simp only[Value.slice.injEq] at h2;exact⟨by omega,by omega,by omega⟩
       ·simp only[Value.slice.injEq] at h2
        obtain⟨rfl,rfl,rfl⟩:=h2
        exact⟨rfl,r1,fun _=>⟨_,rfl⟩⟩
      ·simp only[Value.slice.injEq] at h3;exact⟨by omega,by omega,by omega⟩
     have e0:E.ev ρ (.lit 0)=0:=by simp [E.ev]
     have e1:E.ev ρ (.len x)=(n:Int):=by simp only[E.ev];rw[←hlen.1]
     refine⟨a,n,c,a,c,hx.h _ _ _ hd,by rw[e0];omega,by rw[e0,e1];omega,by rw[e1];omega,by rw[e0,e1];simp,by rw[e0,e1];simpa using hlen.2.1,fun h0=> ?_,(fun h=>by cases h),fun _ _=>⟨rfl,rfl⟩⟩
     rw[e0,e1] at h0
     obtain⟨b,rfl⟩:=hlen.2.2 (by omega)
     refine⟨b,rfl,?_⟩
     rw[e0]
     simp [Addr.add]
    ·exact S0.den_ext hx _ _ hd
   ·exact S0.den_ext hx _ _ hd
  ·exact S0.den_ext hx _ _ hd
 ·exact S0.den_ext hx _ _ hd
theorem a8q(hr:RelM ρ σ mm W){p s:S}{v:Value}(hd:s.den ρ σ v):(b2S mm new p s).den ρ (σ.nil new) v:=by
 unfold b2S
 split
 ·exact b4h hn hr hd
 ·exact S.den_ext (D2 hn) _ _ hd
theorem W9(hr:RelM ρ σ mm W):∀ {ps ss:List S} {vs:List Value},DL (S.den ρ σ) ss vs→DL (S.den ρ (σ.nil new)) (a1d mm new ps ss) vs
 | p::ps,s::ss,vs,hd=>by
   obtain⟨v,vs',rfl,h1,h2⟩:=DL.cons_inv hd
   exact⟨a8q hn hr h1,W9 hr h2⟩
 | [],ss,vs,hd=>by simp only[a1d];exact hd.mono (S.den_ext (D2 hn))
 | _::_,[],vs,hd=>by simp only[a1d];exact hd.mono (S.den_ext (D2 hn))
theorem b6V(hr:RelM ρ σ mm W){p s:V}{v:Value}(hd:s.den ρ σ v):(b7I mm new p s).den ρ (σ.nil new) v:=by
 unfold b7I
 split
 ·exact a8q hn hr hd
 ·obtain⟨vs,h1,h2⟩:=hd
  exact⟨vs,W9 hn hr h1,h2⟩
 ·exact V.den_ext (D2 hn) _ _ hd
theorem a1y(hr:RelM ρ σ mm W):∀ {ps ss:List V} {vs:List Value},DL (V.den ρ σ) ss vs→DL (V.den ρ (σ.nil new)) (a2r mm new ps ss) vs
 | p::ps,s::ss,vs,hd=>by
   obtain⟨v,vs',rfl,h1,h2⟩:=DL.cons_inv hd
   exact⟨b6V hn hr h1,a1y hr h2⟩
 | [],ss,vs,hd=>by simp only[a2r];exact hd.mono (V.den_ext (D2 hn))
 | _::_,[],vs,hd=>by simp only[a2r];exact hd.mono (V.den_ext (D2 hn))
theorem BlkRel.nil{id:Nat}{b:Blk}(hd:BlkRel ρ σ id W b):BlkRel ρ (σ.nil new) id W b:=hd.later (D2 hn) (a9s hn) (fun _ _=>rfl)
theorem b2l(hr:RelM ρ σ mm W){id:Nat}{p b:Blk}(hd:BlkRel ρ σ id W b):BlkRel ρ (σ.nil new) id W (a3R mm new p b):=by
 unfold a3R
 split
 ·obtain⟨a,h1,vs,h2,h3⟩:=hd
  exact⟨a,h1,vs,W9 hn hr h2,h3⟩
 ·obtain⟨a,h1,vs,ex,h2,h3⟩:=hd
  exact⟨a,h1,vs,ex,W9 hn hr h2,h3⟩
 ·obtain⟨a,h1,fn,tv,d,h2,h3⟩:=hd
  exact⟨a,h1,fn,tv,d,a1y hn hr h2,h3⟩
 ·exact hd.nil hn
end
theorem b0C(f:Nat→Blk→Blk):∀(m:Mem) (i:Nat),Mem.get (m.map fun p=>(p.1,f p.1 p.2)) i=(m.get i).map (f i)
 | [],i=>rfl
 | (j,b)::m,i=>by
   simp only[List.map_cons,Mem.get]
   split
   ·rename_i e
    simp only[beq_iff_eq] at e
    subst e
    rfl
   ·exact b0C f m i
theorem a4H{pat:Mem}{st:St}:∀ {i:Nat} {b:Blk},(B0 pat st).get i=some b→st.nx<i∧st.mem.get i=none∧((∃t ks,b= .own t ks .nil (.lit 0))∨b= .dfm)∧i∈pat.map (·.1):=by
 induction pat with
 | nil=>intro i b h;simp [B0,Mem.get] at h
 | cons p pat ih=>
   intro i b h
   have key:(B0 pat st).get i=some b→st.nx<i∧st.mem.get i=none∧((∃t ks,b= .own t ks .nil (.lit 0))∨b= .dfm)∧i∈(p::pat).map (·.1):=fun h=>by
    obtain⟨h1,h2,h3,h4⟩:=ih h
    exact⟨h1,h2,h3,List.mem_cons_of_mem _ h4⟩
   unfold B0 at h
   rw[List.filterMap_cons] at h
   split at h
   ·exact key h
   ·rename_i q hq
    split at hq
    ·split at hq
     ·rename_i t ks x ver _ hc
      simp only[Bool.and_eq_true,Option.isNone_iff_eq_none] at hc
      simp only[Option.some.injEq] at hq
      subst hq
      simp only[Mem.get] at h
      split at h
      ·rename_i e
       simp only[beq_iff_eq] at e
       subst e
       simp only[Option.some.injEq] at h
       exact⟨o7 hc.1,hc.2,.inl ⟨t,ks,h.symm⟩,by simp⟩
      ·exact key h
     ·cases hq
    ·split at hq
     ·rename_i hc
      simp only[Bool.and_eq_true,Option.isNone_iff_eq_none] at hc
      simp only[Option.some.injEq] at hq
      subst hq
      simp only[Mem.get] at h
      split at h
      ·rename_i e
       simp only[beq_iff_eq] at e
       subst e
       simp only[Option.some.injEq] at h
       exact⟨o7 hc.1,hc.2,.inr h.symm,by simp⟩
      ·exact key h
     ·cases hq
    ·cases hq
theorem b6o{pat st:St}{a:Act}(hbeg:Beg ρ st σ a W)(hn:∀i,((B0 pat.mem st).get i).isSome=true→¬σ.has i):
 Beg ρ (Y2 pat st) (σ.nil fun i=>((B0 pat.mem st).get i).isSome) a W:=by
 have hx:=D2 (σ:=σ) (new:=fun i=>((B0 pat.mem st).get i).isSome) hn
 refine⟨⟨fun id b hb=> ?_,fun i j k h1 h2=>hbeg.rel.inj i j k (M8 h1) (M8 h2),fun i k h=>hbeg.rel.lt i k (M8 h),fun i k h=>hbeg.rel.above i k (M8 h),hbeg.rel.base⟩,a1y hn hbeg.rel hbeg.tm,?_⟩
 case refine_2=>
  show Dfr _ (b1y pat st (B0 pat.mem st)) a.defers
  unfold b1y
  split
  ·split
   ·rename_i d _ _ hc
    simp only[Bool.and_eq_true] at hc
    exact(Dfr.of_many (Nat.le_of_ble_eq_true hc.1)).2 ⟨[],a.defers,List.nodup_nil,fun r hr=>(by cases hr),rfl,hbeg.df.ext hx⟩
   ·exact hbeg.df.ext hx
  ·exact hbeg.df.ext hx
 unfold Y2 at hb
 simp only at hb
 rw[Mem.get_append] at hb
 cases hw:(B0 pat.mem st).get id with
 | some b'=>
   rw[hw] at hb
   simp at hb
   subst hb
   obtain⟨h1,h2,ho | rfl,_⟩:=a4H hw
   case inr=>
    have hni:=hn id (by rw[hw];rfl)
    refine⟨As.nil_new (by rw[hw];rfl),fun n v hn0 hv=> ?_⟩
    rw[As.nil_old (fun q=>hn0 q.2)] at hv
    exact absurd (.inr ⟨n,v,hv⟩) hni
   obtain⟨t,ks,rfl⟩:=ho
   have hni:=hn id (by rw[hw];rfl)
   refine⟨.slice none 0 0,[],As.nil_new (by rw[hw];rfl),fun u hu=> ?_,.inl (by simp only[X.ev];exact World.ownsRow_nil _ _ _ _),fun i row hi=>by simp [X.ev] at hi,by simp [X.ev]⟩
   have e0:E.ev ρ (.lit 0)=0:=by simp [E.ev]
   rw[e0] at hu
   rw[As.nil_old (by omega)]
   cases hh:σ.h id u with
   | none=>rfl
   | some y=>exact absurd (.inr ⟨u,y,hh⟩) hni
 | none=>
   rw[hw] at hb
   simp only[Option.none_or] at hb
   have hb:=(b0C (fun i b=>match pat.mem.get i with | some q=>a3R st.mem (fun i=>((B0 pat.mem st).get i).isSome) q b | none=>b) st.mem id).symm.trans hb
   simp only[Option.map_eq_some_iff] at hb
   obtain⟨b0,hb0,rfl⟩:=hb
   have h0:=hbeg.rel.blk _ _ hb0
   split
   ·exact b2l hn hbeg.rel h0
   ·exact h0.nil hn
end
def As.cut(σ:As)(a b:Nat):As:= { f:=fun i=>if a≤i∧i<b then none else σ i,h:=fun i n=>if a≤i∧i<b then none else σ.h i n }
theorem A9{σ:As}{a b i:Nat}(h:¬(a≤i∧i<b)):(σ.cut a b) i=σ i∧(σ.cut a b).h i=σ.h i:=⟨by show(if a≤i∧i<b then none else σ i)=_;rw[if_neg h],by funext n;show(if a≤i∧i<b then none else σ.h i n)=_;rw[if_neg h]⟩
theorem a4I{σ:As}{a b i:Nat}(h:a≤i∧i<b):¬(σ.cut a b).has i:=by
 rintro(⟨x,q⟩ | ⟨n,v,q⟩)
 ·have:(σ.cut a b) i=none:=by show(if a≤i∧i<b then none else σ i)=_;rw[if_pos h]
  rw[this] at q;cases q
 ·have:(σ.cut a b).h i n=none:=by show(if a≤i∧i<b then none else σ.h i n)=_;rw[if_pos h]
  rw[this] at q;cases q
theorem a2o{σ:As}{a b i k:Nat}(h:(σ.cut a b).own i k):σ.own i k:=by
 by_cases e:a≤i∧i<b
 ·exact absurd (As.own_has h) (a4I e)
 ·obtain⟨h1,h2⟩:=A9 (σ:=σ) e
  rcases h with h | ⟨n,v,h3,h4⟩
  ·exact .inl (by rw[←h1];exact h)
  ·exact .inr ⟨n,v,by rw[←h2];exact h3,h4⟩
theorem c0B{σ:As}{a b i:Nat}(h:(σ.cut a b).has i):σ.has i∧¬(a≤i∧i<b):=by
 by_cases e:a≤i∧i<b
 ·exact absurd h (a4I e)
 ·obtain⟨h1,h2⟩:=A9 (σ:=σ) e
  refine⟨?_,e⟩
  rcases h with ⟨x,h⟩ | ⟨n,v,h⟩
  ·exact .inl ⟨x,by rw[←h1];exact h⟩
  ·exact .inr ⟨n,v,by rw[←h2];exact h⟩
def As.mark(σ:As)(D:Nat)(rs:List Nat):As:= { σ with h:=fun i n=>if i=D∧∃r∈rs,n=(r:Int)+1 then some (C6 (n-1).toNat) else σ.h i n }
theorem a0o{σ:As}{D:Nat}{rs:List Nat}{r:Nat}(h:r∈rs):(σ.mark D rs).h D ((r:Int)+1)=some (C6 r):=by
 show(if D=D∧∃r'∈rs,(r:Int)+1=(r':Int)+1 then some (C6 ((r:Int)+1-1).toNat) else _)=_
 rw[if_pos ⟨rfl,r,h,rfl⟩]
 congr 2
 omega
theorem E8{σ:As}{D:Nat}{rs:List Nat}{i:Nat}{n:Int}(h:¬(i=D∧∃r∈rs,n=(r:Int)+1)):(σ.mark D rs).h i n=σ.h i n:=if_neg h
theorem a0Z{σ:As}{D:Nat}:σ.mark D []=σ:=by
 obtain⟨f,h⟩:=σ
 simp [As.mark]
theorem a3l{σ:As}{D:Nat}{rs:List Nat}{i k:Nat}(h:(σ.mark D rs).own i k):σ.own i k∨(i=D∧k∈rs):=by
 rcases h with h | ⟨n,v,h1,h2⟩
 ·exact .inl (.inl h)
 ·by_cases e:i=D∧∃r∈rs,n=(r:Int)+1
  ·obtain⟨rfl,r,hr,rfl⟩:=e
   rw[a0o hr] at h1
   simp only[Option.some.injEq] at h1
   subst h1
   have:some r=some k:=h2
   simp only[Option.some.injEq] at this
   subst this
   exact .inr ⟨rfl,hr⟩
  ·rw[E8 e] at h1
   exact .inl (.inr ⟨n,v,h1,h2⟩)
theorem a8S{σ:As}{D:Nat}{rs:List Nat}(hD:rs=[]∨σ.has D){i:Nat}(h:(σ.mark D rs).has i):σ.has i:=by
 rcases hD with rfl | hD
 ·rw[a0Z] at h;exact h
 ·rcases h with h | ⟨n,v,h⟩
  ·exact .inl h
  ·by_cases e:i=D
   ·subst e;exact hD
   ·rw[E8 (fun q=>e q.1)] at h
    exact .inr ⟨n,v,h⟩
theorem a8A{ρ:Env}{σ:As}{D:Nat}{rs:List Nat}{W:World}(hD:rs=[]∨BlkRel ρ σ D W .dfm):Ext σ (σ.mark D rs):=by
 rcases hD with rfl | hD
 ·rw[a0Z];exact Ext.refl _
 ·refine⟨fun _ _ h=>h,fun i n v h=> ?_⟩
  by_cases e:i=D∧∃r∈rs,n=(r:Int)+1
  ·obtain⟨rfl,r,hr,rfl⟩:=e
   obtain⟨r',e1,e2,_⟩:=hD.2 _ _ (by omega) h
   have:r'=r:=by omega
   subst this
   rw[a0o hr,e2]
  ·rw[E8 e];exact h
theorem Step.mark{ρ:Env}{σ0 σ1:As}{W0 W':World}{ws:Mem}{D:Nat}{rs:List Nat}(s:Step ρ σ0 W0 ws σ1 W')(hm:rs=[]∨ws.get D=some .dfm)
 (hr:∀r∈rs,W0.heap.size≤r∧r<W'.heap.size∧W'.heap[r]? = some (.deferred (some []))∧∀j,¬σ1.own j r):Step ρ σ0 W0 ws (σ1.mark D rs) W':=by
 rcases hm with rfl | hm
 ·rw[a0Z];exact s
 ·have hb:=s.blk _ _ hm
  have hx:=a8A (rs:=rs) (.inr hb)
  refine⟨s.ext.trans hx,s.os,s.tape,s.output,s.size,s.frame,fun i hi hh=> ?_,fun i a hi=> ?_,fun e i j a hi hj=> ?_,fun i b hi=> ?_,s.keep⟩
  ·have hne:i≠D:=fun e=>by subst e;rw[hm] at hi;cases hi
   rw[←s.hist i hi hh]
   funext n
   exact E8 (fun q=>hne q.1)
  ·rcases a3l hi with h | ⟨rfl,h⟩
   ·exact s.new i a h
   ·exact .inr ⟨(hr a h).1,(hr a h).2.1⟩
  ·rcases a3l hi with h | ⟨rfl,h⟩<;>rcases a3l hj with h' | ⟨rfl,h'⟩
   ·exact s.inj e i j a h h'
   ·exact absurd h ((hr a h').2.2.2 i)
   ·exact absurd h' ((hr a h).2.2.2 j)
   ·rfl
  ·by_cases e:i=D
   ·subst e
    rw[hm] at hi
    simp only[Option.some.injEq] at hi
    subst hi
    refine⟨?_,fun n v hn hv=> ?_⟩
    ·rw[E8 (fun q=>by obtain⟨_,r,_,q⟩:=q;omega)];exact hb.1
    ·by_cases q:∃r∈rs,n=(r:Int)+1
     ·obtain⟨r,h1,rfl⟩:=q
      rw[a0o h1] at hv
      simp only[Option.some.injEq] at hv
      exact⟨r,rfl,hv.symm,(hr r h1).2.2.1⟩
     ·rw[E8 (fun q'=>q q'.2)] at hv
      exact hb.2 n v hn hv
   ·exact(s.blk i b hi).later hx (fun _=>by funext n;exact E8 (fun q=>e q.1)) (fun _ _=>rfl)
theorem Dfr.cut{σ:As}{a b:Nat}:∀ {l:List Nat} {ds:List Deferred},(∀d∈l,¬(a≤M4 d∧M4 d<b))→Dfr σ l ds→Dfr (σ.cut a b) l ds
 | [],_,_,h=>h
 | d::l,ds,hl,h=>by
   have hd:=hl d (List.mem_cons_self ..)
   have hr:∀x∈l,¬(a≤M4 x∧M4 x<b):=fun x hx=>hl x (List.mem_cons_of_mem _ hx)
   by_cases hb:j5≤d
   ·have e:M4 d=d-j5:=if_pos (Nat.ble_eq_true_of_le hb)
    rw[e] at hd
    rw[Dfr.of_many hb] at h ⊢
    obtain⟨rs,ds',h1,h2,h3,h4⟩:=h
    exact⟨rs,ds',h1,fun r q=>by rw[(A9 hd).2];exact h2 r q,h3,Dfr.cut hr h4⟩
   ·have e:M4 d=d:=if_neg (fun q=>hb (Nat.le_of_ble_eq_true q))
    rw[e] at hd
    rw[Dfr.of_one hb] at h ⊢
    obtain⟨r,ds',h1,h2,h3⟩:=h
    exact⟨r,ds',by rw[(A9 hd).1];exact h1,h2,Dfr.cut hr h3⟩
theorem a4x{ρ:Env}{σ:As}{mm:Mem}{W:World}(hrel:RelM ρ σ mm W){nx top d:Nat}{l:List Nat}:∀(s:List Nat) (ds:List Deferred),a1q nx top mm d l s=true→Dfr σ s ds→
 ∃(rs:List Nat) (ds':List Deferred),ds=rs.map a1b++ds'∧Dfr σ (d::l) ds'∧rs.Nodup∧∀r∈rs,∃x,x∈s∧nx≤x∧x<top∧σ x=some r∧W.heap[r]? = some (.deferred (some []))
 | [],ds,h,_=>by simp [a1q] at h
 | x::s,ds,h,hd=>by
   simp only[a1q,Bool.or_eq_true,Bool.and_eq_true,Bool.not_eq_true'] at h
   rcases h with ⟨h1,h2⟩ | ⟨⟨⟨⟨⟨h1,h2⟩,h3⟩,h4⟩,h5⟩,h6⟩
   ·obtain rfl:=i9 h1
    obtain rfl:=J7 h2
    exact⟨[],ds,rfl,hd,List.nodup_nil,fun r hr=>by cases hr⟩
   ·have hnb:¬j5≤x:=by have:=o7 h3;omega
    rw[Dfr.of_one hnb] at hd
    obtain⟨r,ds1,e1,rfl,e2⟩:=hd
    obtain⟨rs,ds',rfl,g1,g2,g3⟩:=a4x hrel s ds1 h6 e2
    have hm:mm.get x=some (.dfd false):=by
     split at h4
     ·assumption
     ·cases h4
    obtain⟨y,y1,y2⟩:=hrel.blk _ _ hm
    rw[e1] at y1
    simp only[Option.some.injEq] at y1
    subst y1
    refine⟨r::rs,ds',rfl,g1,List.nodup_cons.2 ⟨fun hr=> ?_,g2⟩,fun r' hr'=> ?_⟩
    ·obtain⟨x',x1,_,_,x4,_⟩:=g3 r hr
     have:=hrel.inj x x' r (.inl e1) (.inl x4)
     subst this
     rw[List.contains_iff_mem.2 x1] at h5
     cases h5
    ·rcases List.mem_cons.1 hr' with e | hr'
     ·subst e
      exact⟨x,by simp,a0n h1,o7 h2,e1,y2⟩
     ·obtain⟨x',x1,x2⟩:=g3 r' hr'
      exact⟨x',List.mem_cons_of_mem _ x1,x2⟩
theorem c3Q{ρ:Env}{σ:As}{pat st:St}{W:World}{M:Nat}{ds:List Deferred}(hrel:RelM ρ σ st.mem W)(hf:a7j pat st=true)(hd:Dfr σ st.df ds)(hlow:∀d∈pat.df,M4 d<pat.nx)(hM:st.nx≤M):
 ∃(D:Nat) (rs:List Nat),(rs=[]∨pat.mem.get D=some .dfm)∧(∀r∈rs,(∃x,pat.nx≤x∧x<M∧σ x=some r)∧W.heap[r]? = some (.deferred (some [])))∧Dfr ((σ.cut pat.nx M).mark D rs) pat.df ds:=by
 have hcl:∀ {l:List Nat},(∀d∈l,M4 d<pat.nx)→∀d∈l,¬(pat.nx≤M4 d∧M4 d<M):=fun h d hd q=>by have:=h d hd;omega
 unfold a7j at hf
 rw[Bool.or_eq_true] at hf
 rcases hf with hf | hf
 ·refine⟨0,[],.inl rfl,fun r hr=>(by cases hr),?_⟩
  rw[a0Z,J7 hf]
  exact Dfr.cut (hcl (by rw[←J7 hf];exact hlow)) hd
 ·split at hf
  ·rename_i e l hpe
   simp only[Bool.and_eq_true] at hf
   obtain⟨⟨h1,h2⟩,h3⟩:=hf
   have hb:=Nat.le_of_ble_eq_true h1
   have hDn:e-j5<pat.nx:=by
    have:=hlow e (by rw[hpe];simp)
    rwa [show M4 e=e-j5 from if_pos h1] at this
   have hpm:pat.mem.get (e-j5)=some .dfm:=by
    unfold a0z at h2
    split at h2
    ·assumption
    ·cases h2
   obtain⟨rs,ds',rfl,g1,g2,g3⟩:=a4x hrel st.df ds h3 hd
   rw[Dfr.of_many hb] at g1
   obtain⟨rs2,ds2,k1,k2,rfl,k3⟩:=g1
   have hmany:∀ {σ':As} {ds:List Deferred},Dfr σ' (e::l) ds↔∃(rs:List Nat) (ds':List Deferred),rs.Nodup∧(∀r∈rs,σ'.h (e-j5) ((r:Int)+1)=some (C6 r))∧ds=rs.map a1b++ds'∧Dfr σ' l ds':=Dfr.of_many hb
   generalize e-j5=D at hDn hpm k2 hmany
   have hcD:¬(pat.nx≤D∧D<M):=by omega
   refine⟨D,rs,.inr hpm,fun r hr=> ?_,?_⟩
   ·obtain⟨x,_,x1,x2,x3,x4⟩:=g3 r hr
    exact⟨⟨x,x1,by omega,x3⟩,x4⟩
   ·rw[hpe,hmany]
    have keep:∀i n v,(σ.cut pat.nx M).h i n=some v→(∀r∈rs,i=D→n=(r:Int)+1→v=C6 r)→((σ.cut pat.nx M).mark D rs).h i n=some v:=fun i n v h1 h2=>by
     by_cases q:i=D∧∃r∈rs,n=(r:Int)+1
     ·obtain⟨rfl,r,hr,rfl⟩:=q
      rw[a0o hr,h2 r hr rfl rfl]
     ·rw[E8 q];exact h1
    have hdis:∀r∈rs,∀r'∈rs2,r≠r':=fun r hr r' hr' q=>by
     subst q
     obtain⟨x,_,x1,_,x3,_⟩:=g3 r hr
     have:=hrel.inj x D r (.inl x3) (.inr ⟨_,_,k2 r hr',rfl⟩)
     omega
    refine⟨rs++rs2,ds2,List.nodup_append.2 ⟨g2,k1,hdis⟩,fun r hr=> ?_,by simp,?_⟩
    ·rcases List.mem_append.1 hr with hr | hr
     ·exact a0o hr
     ·refine keep _ _ _ (by rw[(A9 hcD).2];exact k2 r hr) (fun r' _ _ q=> ?_)
      have:r=r':=by omega
      rw[this]
    ·have hl:∀d∈l,M4 d<pat.nx:=fun d hd=>hlow d (by rw[hpe];exact List.mem_cons_of_mem _ hd)
     have hc:=Dfr.cut (hcl hl) k3
     have aux:∀ {l:List Nat} {ds:List Deferred},Dfr (σ.cut pat.nx M) l ds→Dfr ((σ.cut pat.nx M).mark D rs) l ds:=by
      intro l
      induction l with
      | nil=>exact fun h=>h
      | cons d l ih=>
        intro ds h
        by_cases hb':j5≤d
        ·rw[Dfr.of_many hb'] at h ⊢
         obtain⟨rs3,ds3,q1,q2,q3,q4⟩:=h
         exact⟨rs3,ds3,q1,fun r hr=>keep _ _ _ (q2 r hr) (fun r' _ _ q=>(by rw[show r=r' by omega])),q3,ih q4⟩
        ·rw[Dfr.of_one hb'] at h ⊢
         obtain⟨r,ds3,q1,q2,q3⟩:=h
         exact⟨r,ds3,q1,q2,ih q3⟩
     exact aux hc
  ·cases hf
section
variable {P:Program} {ct:Ct} {lt:Lt} {ρ:Env} {σ:As}
theorem RelM.put{N:Nat}{v:LV}{W:World}{m:Mem}(h:RelM ρ σ m W):RelM (ρ.put N v) σ [] W:=⟨fun id b hb=>by simp [Mem.get] at hb,h.inj,h.lt,h.above,h.base⟩
structure LInv (ρ:Env) (N:Nat) (pat:St) (nx M:Nat) (σ:As) (W0:World) (v:LV) (a:Act) (W:World) (σr:As):Prop where
 step:Step (ρ.put N v) σ W0 pat.mem σr W
 tm:DL (V.den (ρ.put N v) σr) pat.tm a.tmps.toList
 df:Dfr σr pat.df a.defers
 fresh:Fr pat.nx M σr
 has:∀i,σr.has i→σ.has i∨(nx≤i∧i<pat.nx)
theorem b7J(n:Nat)(hcode:∀N v,C9 P (ρ.put N v) ct lt n){w:Where}{r:Option Nat}{b:Code}{hint:Option St}{st:St}{p:Ex×St}(h:(a6Y hint (code P ct lt n w r b) st).res ρ p):
 ∃k,∀σ a W,Beg ρ st σ a W→Fr st.nx p.2.nx σ→(∀id,r=some id→∃l,σ id=some l)→∀Q:Exit→Act→World→Prop,(∀a' W' σ',Fin ρ σ W st.mem st.nx p.2 σ' a' W'→Q p.1.toExit a' W')→
  Code.roundsIn (FR (r.bind σ)) 0 P b Q k a W:=by
 obtain⟨N,m,v0,q,hN,hm,⟨hpdf,hplow⟩,hfit,hr,rfl⟩:=a6m h
 generalize hpat:u7 hint (code P ct lt n w r b) st=pat at hm hr hpdf hplow ⊢
 have hpnx:st.nx+1≤pat.nx:=by rw[←hpat];exact Nat.le_max_left _ _
 have hpm:∀ {i s pe tm ps asg body df},pat.mem.get i=some (.loop s pe tm ps asg body df)→∃s' pe' tm' df',st.mem.get i=some (.loop s' pe' tm' ps asg body df'):=by
  intro i s pe tm ps asg body df hi
  rw[←hpat] at hi
  exact T3 hi
 generalize hM:H5 (code P ct lt n w r b pat)=M
 have hrec:∀ {σ σ' a W W'},Beg ρ st σ a W→Keep W W'→Ext σ σ'→∀ {i},∀s pe tm ps asg body df,pat.mem.get i=some (.loop s pe tm ps asg body df)→∀x,σ' i=some x→∀L,W'.heap[x]? = some (.loop L)→L.params=ps.toArray∧L.assign=asg∧L.body=body:=by
  intro σ σ' a W W' hbeg hkeep hext i s pe tm ps asg body df hi x hx L hL
  obtain⟨s',pe',tm',df',h1⟩:=hpm hi
  obtain⟨y,h2,fn,tv,d,_,_,h3⟩:=hbeg.rel.blk _ _ h1
  rw[hext.f _ _ h2] at hx
  simp only[Option.some.injEq] at hx
  subst hx
  obtain⟨L',h4,e1,e2,e3,_⟩:=hkeep _ _ h3
  rw[hL] at h4
  simp only[Option.some.injEq,Obj.loop.injEq] at h4
  subst h4
  exact⟨e1,e2,e3⟩
 have key:∀(v:LV) (q:Ex×St),Rounds N pat (fun ρ' p=>(code P ct lt n w r b pat).res ρ' p) ρ v q→∃k,∀σ a0 W0,Beg ρ st σ a0 W0→Fr st.nx M σ→(∀id,r=some id→∃l,σ id=some l)→
  ∀Q:Exit→Act→World→Prop,(∀a' W' σ',Step ρ σ W0 q.2.mem σ' W'→New st.nx q.2.nx σ σ'→DL (V.den ρ σ') q.2.tm a'.tmps.toList→Dfr σ' q.2.df a'.defers→Q q.1.toExit a' W')→
  ∀a1 W1 σr,LInv ρ N pat st.nx M σ W0 v a1 W1 σr→Code.roundsIn (FR (r.bind σ)) 0 P b Q k a1 W1:=by
  intro v q hr
  have round:∀(v:LV) (p:Ex×St),(code P ct lt n w r b pat).res (ρ.put N v) p→∀σ a0 W0,Beg ρ st σ a0 W0→Fr st.nx M σ→(∀id,r=some id→∃l,σ id=some l)→∀a1 W1 σr,LInv ρ N pat st.nx M σ W0 v a1 W1 σr→
   ∀R:Exit→Act→World→Prop,(∀a' W' σ',Step (ρ.put N v) σ W0 p.2.mem σ' W'→New pat.nx p.2.nx σr σ'→DL (V.den (ρ.put N v) σ') p.2.tm a'.tmps.toList→Dfr σ' p.2.df a'.defers→RelM (ρ.put N v) σ' p.2.mem W'→R p.1.toExit a' W')→b.wpIn (FR (r.bind σ)) 0 P R a1 W1:=by
   intro v p hp σ a0 W0 hbeg hfr hrr a1 W1 σr hinv R hR
   have hrel0:RelM (ρ.put N v) σ [] W0:=hbeg.rel.put
   have hrel1:RelM (ρ.put N v) σr pat.mem W1:=by have:=hrel0.step hinv.step;simpa using this
   have htop:p.2.nx≤M:=by rw[←hM];exact U2 hp
   have hle:pat.nx≤p.2.nx:=(a0L n (ρ.put N v)).code _ _ _ _ _ hp
   have hc:=hcode N v w r b pat p hp σr a1 W1 ⟨hrel1,hinv.tm,hinv.df⟩ (hinv.fresh.less htop) (a4v hrr hinv.step.ext) R (fun a' W' σ' hf=>by
    obtain⟨ws,e1,s1⟩:=hf.step
    refine hR a' W' σ' ?_ hf.new hf.tm hf.df (hf.beg hrel1).rel
    rw[e1]
    exact Step.trans (fun i k hi=>hrel0.lt i k hi) hrel0.inj hinv.step s1)
   rw[a4n hrr hinv.step.ext] at hc
   exact hc
  induction hr with
  | @last v p hv hp hne=>
    refine⟨1,fun σ a0 W0 hbeg hfr hrr Q hQ a1 W1 σr hinv=> ?_⟩
    rw[roundsIn_succ]
    rw[←hv] at hp
    refine round v p hp σ a0 W0 hbeg hfr hrr a1 W1 σr hinv _ (fun a' W' σ' s1 s2 s3 s4 _=> ?_)
    rw[hv] at s1 s3
    have hle:pat.nx≤p.2.nx:=(a0L n (ρ.put N v)).code _ _ _ _ _ hp
    have:=hQ a' W' σ' s1 (fun i hi=>by
     rcases s2 i hi with h | ⟨h1,h2⟩
     ·rcases hinv.has i h with h | ⟨h1,h2⟩
      ·exact .inl h
      ·exact .inr ⟨h1,by omega⟩
     ·exact .inr ⟨by omega,h2⟩) s3 s4
    revert this
    cases hpe:p.1 with
    | normal=>exact absurd hpe hne
    | _=>exact fun h=>h
  | @next v p m' v' q hp hno hm' hfit' _ ih=>
    obtain⟨k,hk⟩:=ih
    refine⟨k+1,fun σ a0 W0 hbeg hfr hrr Q hQ a1 W1 σr hinv=> ?_⟩
    rw[roundsIn_succ]
    refine round v p hp σ a0 W0 hbeg hfr hrr a1 W1 σr hinv _ (fun a' W' σ' s1 s2 s3 s4 s5=> ?_)
    rw[hno]
    obtain⟨f1,f2,f3,f4⟩:=L0 hm'
    have htop:p.2.nx≤M:=by rw[←hM];exact U2 hp
    have hlo:Lo pat.nx σ' (σ'.cut pat.nx M):=fun i hi=>by
     have:=A9 (σ:=σ') (a:=pat.nx) (b:=M) (i:=i) (by omega)
     exact⟨this.1.symm,this.2.symm⟩
    have hout:∀i,σ.has i→¬(pat.nx≤i∧i<M):=fun i hi q=>hfr i (by omega) q.2 hi
    have hext:Ext σ (σ'.cut pat.nx M):=⟨fun i x hi=>by
     rw[(A9 (hout i (.inl ⟨x,hi⟩))).1];exact s1.ext.f _ _ hi,fun i n v hi=>by
     rw[(A9 (hout i (.inr ⟨n,v,hi⟩))).2];exact s1.ext.h _ _ _ hi⟩
    have hin:∀i c,p.2.mem.get i=some c→σ.has i→∃c',pat.mem.get i=some c':=fun i c hi he=>by
     rcases f4 i (by rw[hi];simp) with g | ⟨g1,g2⟩
     ·exact Option.isSome_iff_exists.1 g
     ·exact absurd he (hfr i (by omega) (by omega))
    have hcut:Step (ρ.put N v') σ W0 pat.mem (σ'.cut pat.nx M) W':=by
     refine⟨hext,s1.os,s1.tape,s1.output,s1.size,fun j hj hne=>s1.frame j hj (fun i c hi he=> ?_),fun i hi hh=> ?_,fun i x hi=>s1.new i x (a2o hi),fun e i j x h1 h2=>s1.inj e i j x (a2o h1) (a2o h2),fun i c hi=> ?_,s1.keep⟩
     ·obtain⟨c',hc'⟩:=hin i c hi (As.own_has he)
      exact hne i c' hc' he
     ·rw[(A9 (hout i (.inr hh))).2]
      refine s1.hist i ?_ hh
      cases hw:p.2.mem.get i with
      | none=>rfl
      | some c=>
        obtain⟨c',hc'⟩:=hin i c hw (.inr hh)
        rw[hi] at hc';cases hc'
     ·obtain⟨g1,c',g2,g3⟩:=J3 f2 hi
      have:=Z6 (σ:=σ'.cut pat.nx M) hfit' hlo g3 g1 (s5.blk _ _ g2) (fun s pe tm ps asg body df e x hx L hL=>hrec hbeg s1.keep s1.ext s pe tm ps asg body df (by rw[←e];exact hi) x hx L hL)
      rw[Env.put_put] at this
      exact this
    have htm:DL (V.den (ρ.put N v') (σ'.cut pat.nx M)) pat.tm a'.tmps.toList:=by
     have:=I9 (σ:=σ'.cut pat.nx M) hfit' hlo f1 s3
     rw[Env.put_put] at this
     exact this
    have hhas:∀i,(σ'.cut pat.nx M).has i→σ.has i∨(st.nx≤i∧i<pat.nx):=fun i hi=>by
     obtain⟨h1,h2⟩:=c0B hi
     rcases s2 i h1 with h | ⟨h3,h4⟩
     ·exact hinv.has i h
     ·exact absurd ⟨h3,by omega⟩ h2
    obtain⟨D,rs,hD,hrs,hdfr⟩:=c3Q (M:=M) s5 f3 s4 hplow htop
    have hmk:∀r∈rs,W0.heap.size≤r∧r<W'.heap.size∧W'.heap[r]? = some (.deferred (some []))∧∀j,¬(σ'.cut pat.nx M).own j r:=fun r hr=>by
     obtain⟨⟨x,x1,x2,x3⟩,x4⟩:=hrs r hr
     have hnx:¬σ.has x:=hfr x (by omega) x2
     rcases s1.new x r (.inl x3) with h | ⟨h1,h2⟩
     ·exact absurd (As.own_has h) hnx
     ·refine⟨h1,h2,x4,fun j hj=> ?_⟩
      have:=s5.inj j x r (a2o hj) (.inl x3)
      subst this
      exact a4I ⟨x1,x2⟩ (As.own_has hj)
    have hDh:rs=[]∨(σ'.cut pat.nx M).has D:=hD.imp id (fun h=>by
     have hb:BlkRel (ρ.put N v') (σ'.cut pat.nx M) D W' .dfm:=hcut.blk _ _ h
     exact .inr ⟨_,_,hb.1⟩)
    have hmark:=hcut.mark hD hmk
    have hxm:=a8A (rs:=rs) (hD.imp id fun h=>hcut.blk _ _ h)
    refine hk σ a0 W0 hbeg hfr hrr Q hQ a' W' ((σ'.cut pat.nx M).mark D rs) ⟨hmark,htm.mono (V.den_ext hxm),hdfr,fun i h1 h2 hh=>a4I ⟨h1,h2⟩ (a8S hDh hh),fun i hi=>hhas i (a8S hDh hi)⟩
 obtain⟨k,hk⟩:=key v0 q hr
 refine⟨k,fun σ a W hbeg hfr hrr Q hQ=> ?_⟩
 have hfr:Fr st.nx M σ:=hfr
 obtain⟨f1,f2,f3,f4⟩:=L0 hm
 have hq:=hr.last_res
 have htop:q.2.nx≤M:=by rw[←hM];exact U2 hq
 have hle:pat.nx≤q.2.nx:=(a0L n ρ).code _ _ _ _ _ hq
 have hlt:∀i,((B0 pat.mem st).get i).isSome=true→st.nx<i∧i<pat.nx:=fun i hi=>by
  obtain⟨b0,hb0⟩:=Option.isSome_iff_exists.1 hi
  obtain⟨h1,h2,_,h3⟩:=a4H hb0
  refine⟨h1,?_⟩
  have:pat.mem.get i≠none:=by
   intro e
   have hk:∀(l:Mem),i∈l.map (·.1)→l.get i≠none:=by
    intro l
    induction l with
    | nil=>intro h;simp at h
    | cons p l ih=>
      intro h
      simp only[Mem.get]
      split
      ·simp
      ·rename_i hne
       simp only[List.map_cons,List.mem_cons] at h
       rcases h with h | h
       ·subst h;simp at hne
       ·exact ih h
   exact hk _ h3 e
  obtain⟨c,hc⟩:=Option.ne_none_iff_exists'.1 this
  exact(J3 f2 hc).1
 have hnew:∀i,((B0 pat.mem st).get i).isSome=true→¬σ.has i:=fun i hi=>hfr i (by have:=hlt i hi;omega) (by have:=hlt i hi;omega)
 have hsee:=b6o (pat:=pat) hbeg hnew
 have hx:=D2 hnew
 refine hk σ a W hbeg hfr hrr Q (fun a' W' σ' s1 s2 s3 s4=>hQ a' W' σ' ⟨⟨q.2.mem,rfl,s1⟩,fun i hi=> ?_,by show st.nx≤M;omega,s3,s4⟩) a W (σ.nil fun i=>((B0 pat.mem st).get i).isSome) ?_
 ·rcases s2 i hi with h | ⟨h1,h2⟩
  ·exact .inl h
  ·exact .inr ⟨by omega,by show i<M;omega⟩
 ·refine⟨⟨hx,rfl,rfl,rfl,Nat.le_refl _,fun _ _ _=>rfl,fun i _ hh=>a9s hnew hh,fun i x hi=> .inl (M8 hi),fun e i j x h1 h2=>e i j x (M8 h1) (M8 h2),fun i c hi=> ?_,Keep.refl _⟩,I9 hfit (Lo.refl _ _) f1 hsee.tm,by rw[hpdf];exact hsee.df,fun i h1 h2 hh=> ?_,fun i hi=> ?_⟩
  ·obtain⟨g1,c',g2,g3⟩:=J3 f2 hi
   exact Z6 hfit (Lo.refl _ _) g3 g1 (hsee.rel.blk _ _ g2) (fun s pe tm ps asg body df e x hx' L hL=>hrec hbeg (Keep.refl _) hx s pe tm ps asg body df (by rw[←e];exact hi) x hx' L hL)
  ·rcases b0E hh with h | h
   ·exact hfr i (by omega) h2 h
   ·have:=hlt i h;omega
  ·rcases b0E hi with h | h
   ·exact .inl h
   ·have:=hlt i h
    exact .inr ⟨by omega,this.2⟩
end
end Go.Proofs.YtbbjlleaofgddaaGreat
namespace Go.Proofs.YtbbjlleaofgddaaGreat
open Go.RowKit
theorem a5G:∀(m:Mem) (seen:List Nat) (i:Nat),seen.contains i=false→(m.nub seen).get i=m.get i
 | [],_,_,_=>rfl
 | (j,b)::m,seen,i,h=>by
   unfold Mem.nub
   split
   ·rename_i hc
    rw[a5G m seen i h]
    simp only[Mem.get]
    split
    ·rename_i e;simp only[beq_iff_eq] at e;subst e;rw[h] at hc;cases hc
    ·rfl
   ·simp only[Mem.get]
    split
    ·rfl
    ·rename_i e
     refine a5G m (j::seen) i ?_
     simp only[List.contains_cons,h,Bool.or_false,beq_eq_false_iff_ne,ne_eq]
     intro q
     subst q
     simp at e
section
variable {P:Program} {ct:Ct} {lt:Lt} {ρ:Env} {σ:As}
theorem a6E{x:V}{u:Value}(h:x.den ρ σ u):(a2t x).den ρ σ u:=by
 unfold a2t
 split
 ·exact h
 ·exact h
 ·exact h
 ·trivial
theorem b6L{st:St}{x:Operand}{b:B}(h:G2 st.tm x= .v (.one (.z (.bool b)))):G2 (S4 st).tm x= .v (.one (.z (.bool b))):=by
 cases x with
 | tmp t=>
   simp only[G2,List.getD_eq_getElem?_getD] at h ⊢
   rw[show(S4 st).tm=st.tm.map a2t from rfl,List.getElem?_map]
   cases hh:st.tm[t]? with
   | none=>rw[hh] at h;cases h
   | some v=>rw[hh] at h;simp only[Option.getD_some] at h;subst h;rfl
 | const v=>exact h
 | global g=>exact h
 | func f=>exact h
theorem b6p{N:Nat}{v:LV}{st:St}{a:Act}{W:World}(h:a7d N st=true)(hbeg:Beg ρ st σ a W):Beg (ρ.put N v) (S4 st) σ a W:=by
 have htm:DL (V.den ρ σ) (S4 st).tm a.tmps.toList:=DL.map a2t (fun _ _=>a6E) hbeg.tm
 unfold a7d at h
 split at h
 ·rename_i hm
  obtain⟨f1,f2,_,_⟩:=L0 hm
  have hfit:(⟨[],[],[]⟩:Asg).fits ρ v:=⟨(fun _ _ q=>nomatch q),(fun _ _ q=>nomatch q),(fun _ _ q=>nomatch q)⟩
  refine⟨⟨fun id b hb=> ?_,hbeg.rel.inj,hbeg.rel.lt,hbeg.rel.above,hbeg.rel.base⟩,I9 hfit (Lo.refl _ _) f1 htm,hbeg.df⟩
  have hb:st.mem.get id=some b:=hb
  obtain⟨g1,b',g2,g3⟩:=J3 f2 (by rw[a5G _ _ _ (by simp)];exact hb)
  have g2:st.mem.get id=some b':=g2
  rw[hb] at g2
  simp only[Option.some.injEq] at g2
  subst g2
  refine Z6 hfit (Lo.refl _ _) g3 g1 (hbeg.rel.blk _ _ hb) (fun s pe tm ps asg body df e x hx L hL=> ?_)
  subst e
  obtain⟨y,h2,fn,tv,d,_,_,h3⟩:=hbeg.rel.blk _ _ hb
  rw[h2] at hx
  simp only[Option.some.injEq] at hx
  subst hx
  rw[h3] at hL
  simp only[Option.some.injEq,Obj.loop.injEq] at hL
  subst hL
  exact⟨rfl,rfl,rfl⟩
 ·cases h
theorem b3u{hint:Option St}{N:Nat}{st:St}{t:T (Ex×St)}:st.nx+1≤(s6 hint N st t).nx:=by
 unfold s6;split
 ·exact Nat.le_max_left _ _
 ·split
  ·exact Nat.le_refl _
  ·exact Nat.le_max_left _ _
theorem b3B{hint:Option St}{N:Nat}{st:St}{t:T (Ex×St)}:(s6 hint N st t).df=st.df:=by
 unfold s6;split
 ·rfl
 ·split<;>rfl
theorem a8e{hint:Option St}{N:Nat}{st:St}{t:T (Ex×St)}{i:Nat}{s pe tm ps asg body df}(h:(s6 hint N st t).mem.get i=some (.loop s pe tm ps asg body df)):∃s' pe' tm' df',st.mem.get i=some (.loop s' pe' tm' ps asg body df'):=by
 unfold s6 at h
 split at h
 ·exact T3 h
 ·split at h
  ·simp [Mem.get] at h
  ·exact T3 h
theorem a0S{hint:Option St}{r:Option Nat}{c:Code}{st:St}{t:T (Ex×St)}{p:Ex×St}(h:(Z0 hint st t).res ρ p)
 (ht:∀N v q,t.res (ρ.put N v) q→∀σ a W,Beg (ρ.put N v) (S4 st) σ a W→Fr (st.nx+1) q.2.nx σ→(∀id,r=some id→∃l,σ id=some l)→
  ∀Q:Exit→Act→World→Prop,(∀a' W' σ',Fin (ρ.put N v) σ W st.mem (st.nx+1) q.2 σ' a' W'→Q q.1.toExit a' W')→c.wpIn (FR (r.bind σ)) 0 P Q a W)
 {a:Act} {W:World} (hbeg:Beg ρ st σ a W) (hfr:Fr st.nx p.2.nx σ) (hrr:∀id,r=some id→∃l,σ id=some l)
 {Q:Exit→Act→World→Prop} (hQ:∀a' W' σ',Fin ρ σ W st.mem st.nx p.2 σ' a' W'→Q p.1.toExit a' W'):c.wpIn (FR (r.bind σ)) 0 P Q a W:=by
 obtain⟨hlow,h | ⟨v0,q0,m,v',h1,⟨h2,hqd⟩,h3,h4,h5,rfl⟩⟩:=a6n h
 ·have hv:ρ.put 0 (ρ.from 0)=ρ:=Env.put_from ⟨fun k h=>absurd h (Nat.not_lt_zero _),fun k h=>absurd h (Nat.not_lt_zero _),fun k h=>absurd h (Nat.not_lt_zero _),rfl,rfl,rfl,rfl⟩
  have:=ht 0 (ρ.from 0) p (by rw[hv];exact h.1) σ a W (by rw[hv];exact⟨hbeg.rel,DL.map a2t (fun _ _=>a6E) hbeg.tm,hbeg.df⟩) (fun i q1 q2=>hfr i (by omega) q2) hrr Q (fun a' W' σ' hf=> ?_)
  ·exact this
  ·rw[hv] at hf
   exact hQ a' W' σ' ⟨hf.step,fun i hi=>(hf.new i hi).elim .inl (fun q=> .inr ⟨by have:=q.1;omega,q.2⟩),by have:=hf.le;omega,hf.tm,hf.df⟩
 ·have htop:q0.2.nx≤H5 t:=U2 h1
  have hfr:Fr st.nx (H5 t) σ:=hfr
  have hb0:=b6p (v:=v0) hlow hbeg
  refine ht _ v0 q0 h1 σ a W hb0 (fun i q1 q2=>hfr i (by omega) (by omega)) hrr Q (fun a' W' σ' hf=> ?_)
  have e:q0.1.toExit=(Ex.normal).toExit:=by rw[h2]
  rw[e]
  obtain⟨f1,f2,f3,f4⟩:=L0 h3
  have hrel:=(hf.beg hb0.rel).rel
  obtain⟨ws,e0,s⟩:=hf.step
  have hpn:st.nx+1≤(s6 hint (1000*(st.nx+1)) st t).nx:=b3u
  have hin:∀i c,ws.get i=some c→σ.has i→∃c',(s6 hint (1000*(st.nx+1)) st t).mem.get i=some c':=fun i c hi he=>by
   have:q0.2.mem.get i≠none:=by rw[e0,Mem.get_append,hi];simp
   rcases f4 i this with g | ⟨g1,g2⟩
   ·exact Option.isSome_iff_exists.1 g
   ·have g1:(s6 hint (1000*(st.nx+1)) st t).nx≤i:=g1
    have g2:i<q0.2.nx:=g2
    exact absurd he (hfr i (by omega) (by omega))
  have hput:=h5
  refine hQ a' W' σ' ⟨⟨(s6 hint (1000*(st.nx+1)) st t).mem,rfl,⟨s.ext,s.os,s.tape,s.output,s.size,fun j hj hne=>s.frame j hj (fun i c hi he=> ?_),fun i hi hh=> ?_,s.new,s.inj,fun i c hi=> ?_,s.keep⟩⟩,fun i hi=> ?_,by show st.nx≤H5 t;have:=hf.le;omega,?_,?_⟩
  ·obtain⟨c',hc'⟩:=hin i c hi (As.own_has he)
   exact hne i c' hc' he
  ·refine s.hist i ?_ hh
   cases hw:ws.get i with
   | none=>rfl
   | some c=>
     obtain⟨c',hc'⟩:=hin i c hw (.inr hh)
     rw[hi] at hc';cases hc'
  ·obtain⟨g1,c',g2,g3⟩:=J3 f2 hi
   have:=Z6 (σ:=σ') h4 (Lo.refl _ _) g3 g1 (hrel.blk _ _ g2) (fun s0 pe tm ps asg body df e x hx L hL=>by
    subst e
    obtain⟨s',pe',tm',df',h1⟩:=a8e hi
    obtain⟨y,h2,fn,tv,d,_,_,h3⟩:=hbeg.rel.blk _ _ h1
    rw[s.ext.f _ _ h2] at hx
    simp only[Option.some.injEq] at hx
    subst hx
    obtain⟨L',h4,e1,e2,e3,_⟩:=s.keep _ _ h3
    rw[hL] at h4
    simp only[Option.some.injEq,Obj.loop.injEq] at h4
    subst h4
    exact⟨e1,e2,e3⟩)
   rw[Env.put_put,hput] at this
   exact this
  ·rcases hf.new i hi with q | ⟨q1,q2⟩
   ·exact .inl q
   ·exact .inr ⟨by omega,by show i<H5 t;omega⟩
  ·have hd:DL (V.den (ρ.put (1000*(st.nx+1)) v0) σ') (q0.2.tm++[V.v (.one (.z (.bool (.lit true))))]) (a'.tmps.toList++[.bool true]):=hf.tm.append ⟨rfl,trivial⟩
   have:=I9 (σ:=σ') h4 (Lo.refl _ _) f1 hd
   rw[Env.put_put,hput] at this
   obtain⟨us,us',e1,d1,d2⟩:=DL.append_inv this
   have hl:=d2.length
   have hl2:us'.length=[Value.bool true].length:=by rw[←hl];rfl
   obtain⟨rfl,rfl⟩:=List.append_inj' e1 hl2.symm
   exact d1
  ·have f3:(s6 hint (1000*(st.nx+1)) st t).df=q0.2.df:=by rw[hqd];exact b3B
   have:=hf.df
   rw[←f3] at this
   exact this
end
end Go.Proofs.YtbbjlleaofgddaaGreat
namespace Go.Proofs.YtbbjlleaofgddaaGreat
open Go.RowKit
section
variable {P:Program} {ct:Ct} {lt:Lt} {ρ:Env} {σ:As}
theorem a6I:∀(ps:List Tmp) (args:List V) (vals:List Value) (tm:List V) (tv:List Value),args.length=ps.length→DL (V.den ρ σ) args vals→DL (V.den ρ σ) tm tv→
 DL (V.den ρ σ) (a2s ps args tm) ((ps.zip vals).foldl (fun(tmps:Array Value) (p:Tmp×Value)=>tmps.setIfInBounds p.1 p.2) tv.toArray).toList
 | [],[],[],tm,tv,_,_,h=>by simpa [a2s] using h
 | t::ps,v::args,u::vals,tm,tv,hl,⟨h1,h2⟩,h=>by
   have ih:=a6I ps args vals (tm.set t v) (tv.set t u) (by simpa using hl) h2 (h.set t h1)
   simp only[a2s,List.zip_cons_cons,List.foldl_cons]
   rw[show tv.toArray.setIfInBounds t u=(tv.set t u).toArray by simp]
   exact ih
 | [],_::_,_,_,_,hl,_,_=>by simp at hl
 | _::_,[],_,_,_,hl,_,_=>by simp at hl
 | _::_,_::_,[],_,_,_,h,_=>h.elim
theorem D0{P:Program}{b:Frame}{a:Act}{k:List Item}{cs:List Frame}{w:World}{c:Code}:step P (lone (b.atR a (.code (.scope c)::k)) cs w)= .next (lone (b.atR a (.code c:: .inScope c::k)) cs w):=
 step_lone_go (by simp [stepG,stepG.exec,Frame.atR])
theorem a6P{P:Program}{b:Frame}{a:Act}{k:List Item}{cs:List Frame}{w:World}{c:Code}:step P (lone (b.atR a (.inScope c::k)) cs w)= .next (lone (b.atR a k) cs w):=
 step_lone_go (by simp [stepG,stepG.exec,Frame.atR])
theorem b2D{F:Fence}{n:Nat}{P:Program}{Q:Exit→Act→World→Prop}{a:Act}{w:World}{c:Code}(h:c.wpIn F n P (fun e a w=>(∀l,e≠ .goto l)∧Q e a w) a w):(Code.scope c).wpIn F n P Q a w:=by
 intro b k cs hro hb hr
 have h0:(lone (b.atR a (.code (.scope c)::k)) cs w).fenced P F:=fenced_calm hb hr rfl
 obtain⟨e,a₁,w₁,⟨hg,hq⟩,harr⟩:=h b (.inScope c::k) cs hro hb hr
 cases e with
 | normal=>exact⟨.normal,a₁,w₁,hq,.head h0 D0 (StepsIn.trans harr (.one (fenced_calm hb hr rfl) a6P))⟩
 | exit id=>
   have hx:exitTo id (.inScope c::k)=exitTo id k:=by simp [exitTo]
   exact⟨.exit id,a₁,w₁,hq,fun k' hk=> .head h0 D0 (harr.1 k' (by rw[hx];exact hk)),
    fun hr' hk=>let ⟨k₁,h1,h2⟩:=harr.2 hr' (by rw[hx];exact hk);⟨k₁,h1,.head h0 D0 h2⟩⟩
 | goto l=>exact absurd rfl (hg l)
 | ret=>exact⟨_,a₁,w₁,hq,.of_steps (.one h0 D0) harr⟩
 | panic ch=>exact⟨_,a₁,w₁,hq,.of_steps (.one h0 D0) harr⟩
 | outgrown=>exact⟨_,a₁,w₁,hq,.of_steps (.one h0 D0) harr⟩
theorem b6P(n:Nat)(hcode:C9 P ρ ct lt n):a5A P ρ ct lt (n+1):=by
 intro lid args mem nx q h σ W vals l hr ht hargs hl ro
 simp only[round] at h
 split at h
 ·rename_i pe tm ps asg body d hm
  split at h
  ·rename_i hlen
   obtain⟨l',e1,fn,tv,dd,e2,e3,e4⟩:=hr.blk _ _ hm
   rw[hl] at e1
   simp only[Option.some.injEq] at e1
   subst e1
   have hvl:=hargs.length
   refine⟨_,e4,by simp;omega,?_⟩
   obtain⟨p,h1,h2⟩:=T.res_bind h
   split at h2
   ·rename_i pe1 tm1 ps1 asg1 body1 d1 hp1 hm1
    obtain⟨q2,h3,h4⟩:=T.res_bind h2
    split at h4
    ·rename_i s2 pe2 tm2 ps2 asg2 body2 d2 hm2
     simp only[T.res] at h4
     subst h4
     refine roundIn_of_wpIn (F:=FR ro) trivial ?_
     have hrr:∀id,some lid=some id→∃l,σ id=some l:=fun id e=>by simp only[Option.some.injEq] at e;subst e;exact⟨l,hl⟩
     have hF:FR ((some lid).bind σ)=(FR ro).inRound l:=by simp only[Option.bind_some,hl];rfl
     have hbeg:Beg ρ { tm:=a2s ps args tm,mem,nx,df:=[] } σ { tmps:=((ps.toArray.zip vals.toArray).foldl (fun tmps (p:Tmp×Value)=>tmps.setIfInBounds p.1 p.2) tv.toArray),defers:=[] } W:=by
      refine⟨hr,?_,rfl⟩
      have:=a6I (ρ:=ρ) (σ:=σ) ps args vals tm tv hlen hargs e2
      simpa using this
     have hc1:=hcode _ (some lid) asg _ p h1 σ _ W hbeg (ht.less (by have e:=(mono n).code _ _ _ _ _ h3;exact e)) hrr
     rw[hF] at hc1
     refine hc1 _ (fun a1 W1 σ1 hf1=> ?_)
     rw[hp1]
     have hb1:=hf1.beg hr
     have hl1:σ1 lid=some l:=hf1.ext.f _ _ hl
     obtain⟨l1,k1,fn1,tv1,dd1,k2,k3,k4⟩:=hb1.rel.blk _ _ hm1
     rw[hl1] at k1
     simp only[Option.some.injEq] at k1
     subst k1
     have hlt1:=hb1.rel.lt _ _ (.inl hl1)
     have hs1:Step ρ σ1 W1 [(lid,.loop .busy pe1 tm1 ps1 asg1 body1 d1)] σ1 _:=a0C hl1 hlt1 ⟨fn1,tv1,dd1,k2,k3,rfl⟩ (fun L e=>by rw[k4] at e;simp only[Option.some.injEq,Obj.loop.injEq] at e;subst e;exact⟨_,rfl,rfl,rfl,rfl,rfl⟩)
     refine⟨_,run_beginRound k4 rfl,?_⟩
     have hfin1:Fin ρ σ1 W1 p.2.mem p.2.nx { p.2 with mem:=(lid,.loop .busy pe1 tm1 ps1 asg1 body1 d1)::p.2.mem } σ1 a1 _:=⟨⟨_,rfl,hs1⟩,New.refl _ _ _,Nat.le_refl _,hb1.tm,hb1.df⟩
     have hb2:=hfin1.beg hb1.rel
     have hrr1:∀id,some lid=some id→∃l,σ1 id=some l:=fun id e=>by simp only[Option.some.injEq] at e;subst e;exact⟨l,hl1⟩
     have hF1:FR ((some lid).bind σ1)=(FR ro).inRound l:=by simp only[Option.bind_some,hl1];rfl
     have hc2:=hcode _ (some lid) body _ q2 h3 σ1 a1 _ hb2 (ht.after hf1.le hf1.new) hrr1
     rw[hF1] at hc2
     refine hc2 _ (fun a2 W2 σ2 hf2=> ?_)
     have hf02:Fin ρ σ W mem nx q2.2 σ2 a2 W2:=Fin.trans hr hf1 (Fin.trans hb1.rel hfin1 hf2)
     have hb3:=hf02.beg hr
     have hl2:σ2 lid=some l:=hf02.ext.f _ _ hl
     obtain⟨l2,m1,fn2,tv2,dd2,m2,m3,m4⟩:=hb3.rel.blk _ _ hm2
     rw[hl2] at m1
     simp only[Option.some.injEq] at m1
     subst m1
     have hlt2:=hb3.rel.lt _ _ (.inl hl2)
     have hend:=fun j=>run_endRound (P:=P) j m4
     have hs2:Step ρ σ2 W2 [(lid,.loop (if q2.1.jump.isNone then .ready else .done) q2.1.jump tm2 ps2 asg2 body2 d2)] σ2 _:=a0C hl2 hlt2 ⟨fn2,tv2,dd2,m2,m3,rfl⟩ (fun L e=>by rw[m4] at e;simp only[Option.some.injEq,Obj.loop.injEq] at e;subst e;exact⟨_,rfl,rfl,rfl,rfl,rfl⟩)
     have hret:A8 ρ σ W nx (bV (.lit q2.1.jump.isNone),J4 nx q2.2.nx (bV (.lit true)) ((lid,.loop (if q2.1.jump.isNone then .ready else .done) q2.1.jump tm2 ps2 asg2 body2 d2)::q2.2.mem.take (q2.2.mem.length-mem.length)),q2.2.nx)
      (.returned (.bool q2.1.jump.isNone)) (W2.putObj l (.loop { state:=if q2.1.jump.isNone then .ready else .done,pending:=q2.1.jump,fn:=fn2,tmps:=tv2.toArray,params:=ps2.toArray,assign:=asg2,body:=body2,defers:=dd2 })):=by
      refine⟨_,σ2,rfl,rfl,V9 ht ?_,hf02.new⟩
      obtain⟨ws,e,s0⟩:=hf02.step
      rw[e,a3k]
      exact Step.trans (ws:=ws) (ws':=[_]) (fun i k hi=>hr.lt i k hi) hr.inj s0 hs2
     cases hj:q2.1 with
     | normal=>rw[hj] at hret;exact⟨_,_,hend none,hret⟩
     | ret=>rw[hj] at hret;exact⟨_,_,hend (some .ret),hret⟩
     | exit id=>rw[hj] at hret;exact⟨_,_,hend (some (.exit id)),hret⟩
     | goto t=>rw[hj] at hret;exact⟨_,_,hend (some (.goto t)),hret⟩
    ·exact h4.elim
   ·exact h2.elim
  ·exact h.elim
 ·exact h.elim
theorem b8x:a1g P ρ ct lt 0:=by intro r ops i st s' h;simp [G8,T.res] at h
theorem c1U(n:Nat)(hoper:a0i P ρ ct lt n)(hops:a1g P ρ ct lt n):a1g P ρ ct lt (n+1):=by
 intro r ops i st s' h σ a W hbeg ht ro Q hQ
 simp only[G8] at h
 split at h
 ·rename_i ho
  simp only[T.res] at h
  subst h
  have:ops.size-i=0:=by
   rcases Nat.lt_or_ge i ops.size with q | q
   ·rw[Array.getElem?_eq_getElem q] at ho;simp at ho
   ·omega
  rw[this]
  exact RegIn.nil (hQ a W σ (Fin.refl hbeg))
 ·rename_i o ho
  have hi:i<ops.size:=(Array.getElem?_eq_some_iff.1 ho).1
  have er:List.range' i (ops.size-i)=i::List.range' (i+1) (ops.size-(i+1)):=by
   rw[show ops.size-i=(ops.size-(i+1))+1 by omega,List.range'_succ]
  rw[er]
  split at h
  ·exact h.elim
  ·rename_i hw
   have hw':=a0y hw hbeg.tm
   refine RegIn.pass ho hw' ?_
   have hbeg':Beg ρ { st with tm:=B5 st.tm o.dst (.tup []) } σ (a.put o.dst undef) W:=⟨hbeg.rel,R0 hbeg.tm (show(V.tup []).den ρ σ undef from a6k) _,by rw[L4];exact hbeg.df⟩
   exact hops r ops (i+1) _ s' h σ _ W hbeg' ht ro Q hQ
  ·rename_i hw
   have hw':=a0y hw hbeg.tm
   obtain⟨q,h1,h2⟩:=T.res_bind h
   have m2:=(mono n).ops _ _ _ _ _ h2
   split at h1
   ·rename_i tr htr
    have m1:=a7q htr h1
    refine b6Y htr h1 (fun x _=>E2 hbeg.tm x) hbeg.rel ho hw' (fun u W' σ' k1 k2 k3=> ?_)
    have hfin:Fin ρ σ W st.mem st.nx { st with tm:=B5 st.tm o.dst q.1,mem:=q.2.1++st.mem,nx:=q.2.2 } σ' (a.put o.dst u) W':=
     ⟨⟨q.2.1,rfl,k2⟩,k3,m1,R0 (hbeg.tm.mono (V.den_ext k2.ext)) k1 _,by rw[L4];exact hbeg.df.ext k2.ext⟩
    exact hops r ops (i+1) _ s' h2 σ' _ W' (hfin.beg hbeg.rel) (ht.after m1 k3) ro Q (fun a' W2 σ2 hf=>hQ _ _ _ (Fin.trans hbeg.rel hfin hf))
   obtain⟨q0,h3,h4,h5⟩:=O9 h1
   have m1:=(mono n).oper _ _ _ _ _ h3
   refine RegIn.one ho hw' ?_
   refine hoper o _ _ _ q0 h3 σ a W hbeg.rel (ht.less (by rw[←h4];exact m2)) (fun x _=>E2 hbeg.tm x) ro _ Q (fun u W' σ' k1 k2 k3=> ?_)
   rw[←h4] at k2 k3 m1
   have hfin:Fin ρ σ W st.mem st.nx { st with tm:=B5 st.tm o.dst q.1,mem:=q.2.1++st.mem,nx:=q.2.2 } σ' (a.put o.dst u) W':=
    ⟨⟨q.2.1,rfl,k2⟩,k3,m1,R0 (hbeg.tm.mono (V.den_ext k2.ext)) (h5 _ _ k1) _,by rw[L4];exact hbeg.df.ext k2.ext⟩
   exact hops r ops (i+1) _ s' h2 σ' _ W' (hfin.beg hbeg.rel) (ht.after m1 k3) ro Q (fun a' W2 σ2 hf=>hQ _ _ _ (Fin.trans hbeg.rel hfin hf))
theorem Step.of_drew{W W':World}{ws:Mem}{σ':As}(h:Step ρ σ W.drew ws σ' W'):Step ρ σ W ws σ' W':=
 ⟨h.ext,h.os,h.tape,h.output,h.size,h.frame,h.hist,h.new,h.inj,h.blk,h.keep⟩
theorem Beg.drew{st:St}{a:Act}{W:World}(h:Beg ρ st σ a W):Beg ρ st σ a W.drew:=⟨h.rel.step (Step.drew _ _ _),h.tm,h.df⟩
theorem Fin.of_drew{W W':World}{mem:Mem}{nx:Nat}{st':St}{σ':As}{a':Act}(h:Fin ρ σ W.drew mem nx st' σ' a' W'):Fin ρ σ W mem nx st' σ' a' W':=by
 obtain⟨ws,e,s⟩:=h.step
 exact⟨⟨ws,e,s.of_drew⟩,h.new,h.le,h.tm,h.df⟩
theorem c0X(n:Nat)(hc0:C9 P ρ ct lt n)(hcN:∀N v,C9 P (ρ.put N v) ct lt n)(hloop:a3L P ρ ct lt n):a3L P ρ ct lt (n+1):=by
 intro w r b st p h
 simp only[code] at h
 split at h
 ·obtain⟨p1,h1,h2⟩:=T.res_bind h
  cases hp:p1.1 with
  | normal=>
    rw[hp] at h2
    obtain⟨k,hk⟩:=hloop w r b p1.2 p h2
    refine⟨k+1,fun σ a W hbeg ht hrr Q hQ=> ?_⟩
    rw[roundsIn_succ]
    refine hc0 _ r b st p1 h1 σ a W hbeg (ht.less ((mono n).code _ _ _ _ _ h2)) hrr _ (fun a1 W1 σ1 hf1=> ?_)
    rw[hp]
    have:=hk σ1 a1 W1 (hf1.beg hbeg.rel) (ht.after hf1.le hf1.new) (a4v hrr hf1.ext) Q (fun a2 W2 σ2 hf2=>hQ _ _ _ (Fin.trans hbeg.rel hf1 hf2))
    rw[a4n hrr hf1.ext] at this
    exact this
  | exit id=>
    rw[hp] at h2
    obtain rfl:=g9 h2
    refine⟨1,fun σ a W hbeg ht hrr Q hQ=> ?_⟩
    rw[roundsIn_succ]
    refine hc0 _ r b st p h1 σ a W hbeg ht hrr _ (fun a1 W1 σ1 hf1=> ?_)
    have:=hQ a1 W1 σ1 hf1
    rw[hp] at this ⊢
    exact this
  | goto l=>
    rw[hp] at h2
    obtain rfl:=g9 h2
    refine⟨1,fun σ a W hbeg ht hrr Q hQ=> ?_⟩
    rw[roundsIn_succ]
    refine hc0 _ r b st p h1 σ a W hbeg ht hrr _ (fun a1 W1 σ1 hf1=> ?_)
    have:=hQ a1 W1 σ1 hf1
    rw[hp] at this ⊢
    exact this
  | ret=>
    rw[hp] at h2
    obtain rfl:=g9 h2
    refine⟨1,fun σ a W hbeg ht hrr Q hQ=> ?_⟩
    rw[roundsIn_succ]
    refine hc0 _ r b st p h1 σ a W hbeg ht hrr _ (fun a1 W1 σ1 hf1=> ?_)
    have:=hQ a1 W1 σ1 hf1
    rw[hp] at this ⊢
    exact this
 ·exact b7J n hcN h
theorem a2W{l₀:Nat}{r₀:Loop}{w:World}(h:w.heap[l₀]? = some (.loop r₀))(fn:FuncId)(tmps:Array Value)(ps:Array Tmp)(assign body:Code):
 (Instr.enterLoop fn tmps ps assign body (some l₀)).run P w= .ok (w.heap.size,[]) (w.alloc (.loop { state:= .ready,pending:=none,fn,tmps,params:=ps,assign,body,defers:=r₀.defers })):=by
 unfold Instr.enterLoop
 simp only[Sem.run_bind,run_getLoop h,run_newObj_alloc,Result.andThen,Sem.run_pure]
theorem a3S{g:Operand}{a:Act}{f:FuncId}{vs:List Value}(hg:a.eval g= .func (.func f) #[] vs.toArray)(l:Nat)(hen:Z5 P f)(W:World):
 ∃d,(resolve a.eval (rangeCall g l) 0).run P W= .ok d W∧(invoke d.target d.args).run P W= .ok (.enter f (Value.func (.yield l) #[] #[]::vs).toArray) W:=by
 refine⟨{ target:= .fn (.func f) vs.toArray,args:= #[.func (.yield l) #[] #[]] },?_,?_⟩
 ·unfold resolve rangeCall
  simp only[hg]
  simp [Deferred.ofValue,Act.eval]
 ·have:=hen (Value.func (.yield l) #[] #[]::vs).toArray W
  simp only[invoke]
  rw[←this]
  congr 2
  simp
theorem c0s(hmix:P.follows .mixedOrders=true)(hce:O1 P ct)(n:Nat)(hcode:C9 P ρ ct lt n)(hcN:∀N v,C9 P (ρ.put N v) ct lt n)(hloop:a3L P ρ ct lt (n+1))(hops:a1g P ρ ct lt n)(hopsN:∀N v,a1g P (ρ.put N v) ct lt n)(hdraw:a3X P ρ ct lt n)(hdrawN:∀N v,a3X P (ρ.put N v) ct lt n)(hcall:a4y P ρ ct lt n)(hend:a0Q P ρ ct lt n):C9 P ρ ct lt (n+1):=by
 intro w r c st p h σ a W hbeg ht hrr Q hQ
 cases c with
 | skip=>
   simp only[code,T.res] at h
   subst h
   exact wpIn_skip (hQ _ _ _ (Fin.refl hbeg))
 | label l=>
   simp only[code,T.res] at h
   subst h
   exact wpIn_label (hQ _ _ _ (Fin.refl hbeg))
 | exit id=>
   simp only[code,T.res] at h
   subst h
   exact wpIn_exit (hQ _ _ _ (Fin.refl hbeg))
 | goto l=>
   simp only[code,T.res] at h
   subst h
   exact wpIn_goto (hQ _ _ _ (Fin.refl hbeg))
 | ret=>
   simp only[code,T.res] at h
   subst h
   exact wpIn_ret (hQ _ _ _ (Fin.refl hbeg))
 | seq x y=>
   simp only[code] at h
   obtain⟨p1,h1,h2⟩:=T.res_bind h
   have hle:p1.2.nx≤p.2.nx:=by
    split at h2
    ·exact(mono n).code _ _ _ _ _ h2
    ·obtain rfl:=g9 h2;exact Nat.le_refl _
   refine wpIn_seq (hcode _ r x st p1 h1 σ a W hbeg (ht.less hle) hrr _ (fun a1 W1 σ1 hf1=> ?_))
   cases hp:p1.1 with
   | normal=>
     rw[hp] at h2
     have:=hcode _ r y p1.2 p h2 σ1 a1 W1 (hf1.beg hbeg.rel) (ht.after hf1.le hf1.new) (a4v hrr hf1.ext) Q (fun a2 W2 σ2 hf2=>hQ _ _ _ (Fin.trans hbeg.rel hf1 hf2))
     rw[a4n hrr hf1.ext] at this
     exact this
   | exit id=>
     rw[hp] at h2
     simp only[T.res] at h2
     subst h2
     have:=hQ a1 W1 σ1 hf1
     rw[hp] at this
     exact this
   | goto l=>
     rw[hp] at h2
     simp only[T.res] at h2
     subst h2
     have:=hQ a1 W1 σ1 hf1
     rw[hp] at this
     exact this
   | ret=>
     rw[hp] at h2
     simp only[T.res] at h2
     subst h2
     have:=hQ a1 W1 σ1 hf1
     rw[hp] at this
     exact this
 | cond x y z=>
   simp only[code] at h
   split at h
   ·rename_i b hb
    split at h
    ·refine a0S h (fun N v q hq σ a W hbeg ht hrr Q hQ=> ?_) hbeg ht hrr hQ
     have hx:=E2 hbeg.tm x
     rw[b6L hb] at hx
     have hx':a.eval x= .bool (b.ev (ρ.put N v)):=hx
     rcases T.res_iteS hq with ⟨e,h1⟩ | ⟨e,h1⟩
     ·rw[e] at hx'
      exact wpIn_cond_true hx' (hcN N v _ r y _ q h1 σ a W hbeg ht hrr Q hQ)
     ·rw[e] at hx'
      exact wpIn_cond_false hx' (hcN N v _ r z _ q h1 σ a W hbeg ht hrr Q hQ)
    have hx:=E2 hbeg.tm x
    rw[hb] at hx
    have hx':a.eval x= .bool (b.ev ρ):=hx
    rcases T.res_iteS h with ⟨e,h1⟩ | ⟨e,h1⟩
    ·rw[e] at hx'
     exact wpIn_cond_true hx' (hcode _ r y st p h1 σ a W hbeg ht hrr Q hQ)
    ·rw[e] at hx'
     exact wpIn_cond_false hx' (hcode _ r z st p h1 σ a W hbeg ht hrr Q hQ)
   ·exact h.elim
 | block id b=>
   simp only[code] at h
   split at h
   ·refine a0S h (fun N v q hq σ a W hbeg ht hrr Q hQ=> ?_) hbeg ht hrr hQ
    obtain⟨p1,h1,h2⟩:=T.res_bind hq
    have hle:p1.2.nx≤q.2.nx:=by
     repeat' split at h2
     all_goals (obtain rfl:=g9 h2;exact Nat.le_refl _)
    refine wpIn_block (hcN N v _ r b _ p1 h1 σ a W hbeg (ht.less hle) hrr _ (fun a1 W1 σ1 hf1=> ?_))
    cases hp:p1.1 with
    | normal=>
      rw[hp] at h2
      simp only[T.res] at h2
      subst h2
      have:=hQ a1 W1 σ1 hf1
      rw[hp] at this
      exact this
    | exit id'=>
      rw[hp] at h2
      simp only at h2
      show if id'=id then Q .normal a1 W1 else Q (.exit id') a1 W1
      by_cases he:id'=id
      ·rw[if_pos he] at h2 ⊢
       simp only[T.res] at h2
       subst h2
       exact hQ a1 W1 σ1 hf1
      ·rw[if_neg he] at h2 ⊢
       simp only[T.res] at h2
       subst h2
       have:=hQ a1 W1 σ1 hf1
       rw[hp] at this
       exact this
    | goto l=>
      rw[hp] at h2
      simp only[T.res] at h2
      subst h2
      have:=hQ a1 W1 σ1 hf1
      rw[hp] at this
      exact this
    | ret=>
      rw[hp] at h2
      simp only[T.res] at h2
      subst h2
      have:=hQ a1 W1 σ1 hf1
      rw[hp] at this
      exact this
   obtain⟨p1,h1,h2⟩:=T.res_bind h
   have hle:p1.2.nx≤p.2.nx:=by
    repeat' split at h2
    all_goals (obtain rfl:=g9 h2;exact Nat.le_refl _)
   refine wpIn_block (hcode _ r b st p1 h1 σ a W hbeg (ht.less hle) hrr _ (fun a1 W1 σ1 hf1=> ?_))
   cases hp:p1.1 with
   | normal=>
     rw[hp] at h2
     simp only[T.res] at h2
     subst h2
     have:=hQ a1 W1 σ1 hf1
     rw[hp] at this
     exact this
   | exit id'=>
     rw[hp] at h2
     simp only at h2
     show if id'=id then Q .normal a1 W1 else Q (.exit id') a1 W1
     by_cases he:id'=id
     ·rw[if_pos he] at h2 ⊢
      simp only[T.res] at h2
      subst h2
      exact hQ a1 W1 σ1 hf1
     ·rw[if_neg he] at h2 ⊢
      simp only[T.res] at h2
      subst h2
      have:=hQ a1 W1 σ1 hf1
      rw[hp] at this
      exact this
   | goto l=>
     rw[hp] at h2
     simp only[T.res] at h2
     subst h2
     have:=hQ a1 W1 σ1 hf1
     rw[hp] at this
     exact this
   | ret=>
     rw[hp] at h2
     simp only[T.res] at h2
     subst h2
     have:=hQ a1 W1 σ1 hf1
     rw[hp] at this
     exact this
 | loop b=>
   obtain⟨k,hk⟩:=hloop w r b st p h
   exact wpIn_loop_rounds k (hk σ a W hbeg ht hrr Q hQ)
 | region id ops draw=>
   cases draw with
   | false=>
     simp only[code] at h
     split at h
     ·refine a0S h (fun N v q hq σ a W hbeg ht hrr Q hQ=> ?_) hbeg ht hrr hQ
      obtain⟨s1,h1,h2⟩:=T.res_bind hq
      simp only[T.res] at h2
      subst h2
      refine RegIn.region ?_
      have:=hopsN N v r ops 0 _ s1 h1 σ a W hbeg ht (r.bind σ) Q (fun a' W' σ' hf=>hQ a' W' σ' hf)
      simpa [List.range_eq_range'] using this
     obtain⟨s1,h1,h2⟩:=T.res_bind h
     simp only[T.res] at h2
     subst h2
     refine RegIn.region ?_
     have:=hops r ops 0 st s1 h1 σ a W hbeg ht (r.bind σ) Q (fun a' W' σ' hf=>hQ a' W' σ' hf)
     simpa [List.range_eq_range'] using this
   | true=>
     simp only[code] at h
     split at h
     ·refine a0S h (fun N v q hq σ a W hbeg ht hrr Q hQ=> ?_) hbeg ht hrr hQ
      obtain⟨s1,h1,h2⟩:=T.res_bind hq
      simp only[T.res] at h2
      subst h2
      refine wpIn_region_any hmix ?_
      exact hdrawN N v r ops _ s1 h1 σ a W.drew hbeg.drew ht (r.bind σ) Q (fun a' W' σ' hf=>hQ a' W' σ' hf.of_drew)
     obtain⟨s1,h1,h2⟩:=T.res_bind h
     simp only[T.res] at h2
     subst h2
     refine wpIn_region_any hmix ?_
     exact hdraw r ops st s1 h1 σ a W.drew hbeg.drew ht (r.bind σ) Q (fun a' W' σ' hf=>hQ a' W' σ' hf.of_drew)
 | rangeFunc g ps asg body=>
   simp only[code] at h
   split at h
   ·rename_i f cap hg
    have hgd:=E2 hbeg.tm g
    rw[hg] at hgd
    obtain⟨vs,hvs,hge⟩:=b0L hgd
    split at h
    ·
     split at h
     ·exact h.elim
     rename_i hnb
     have hnb:¬j5≤st.nx:=fun q=>hnb (Nat.ble_eq_true_of_le q)
     obtain⟨q,h1,h2⟩:=T.res_bind h
     have m1:st.nx+2≤q.2.2:=(mono n).call _ _ _ _ _ h1
     have m2:q.2.2≤p.2.nx:=by have e:=(mono n).rend _ _ _ _ h2;exact e
     refine wpIn_rangeFunc (fun fn _=> ?_)
     obtain⟨s1,t1⟩:=I6 (ρ:=ρ) (nx:=st.nx) (ht _ (Nat.le_refl _) (by omega)) (fun i a hi=>hbeg.rel.lt i a hi) (b:= .dfd false) (o:= .deferred (some [])) ⟨W.heap.size,As.put_self,by rw[F4];rfl⟩
     have r1:=hbeg.rel.step s1
     have hd0:(σ.put st.nx W.heap.size) st.nx=some W.heap.size:=As.put_self
     have htm1:=hbeg.tm.mono (V.den_ext s1.ext)
     have hx2:=a0k (σ:=σ.put st.nx W.heap.size) (nx:=st.nx+1) (a:=(W.alloc (.deferred (some []))).heap.size) ((ht.after (by omega) t1) _ (Nat.le_refl _) (by omega))
     obtain⟨s2,t2⟩:=I6 (ρ:=ρ) (nx:=st.nx+1) ((ht.after (by omega) t1) _ (Nat.le_refl _) (by omega)) (fun i a hi=>r1.lt i a hi) (b:= .loop .ready none st.tm ps.toList asg body st.nx)
      (o:= .loop { state:= .ready,pending:=none,fn:=fn,tmps:=a.tmps,params:=ps,assign:=asg,body:=body,defers:=W.heap.size }) ⟨_,As.put_self,fn,a.tmps.toList,W.heap.size,htm1.mono (V.den_ext hx2),hx2.f _ _ hd0,by rw[F4]⟩
     have r2:=r1.step s2
     have hl:((σ.put st.nx W.heap.size).put (st.nx+1) (W.alloc (.deferred (some []))).heap.size) (st.nx+1)=some (W.heap.size+1):=by rw[As.put_self];simp
     have hcap:=hvs.mono (fun _ _=>capDen.ext (s1.ext.trans s2.ext))
     have hcc:=hcall f _ _ _ q h1 _ _ (Value.func (.yield (W.heap.size+1)) #[] #[]::vs) r2 (((ht.after (by omega) t1).after (by omega) t2).less m2) ⟨⟨W.heap.size+1,hl,rfl⟩,a5B hcap⟩
     obtain⟨d,hd1,hd2⟩:=a3S (a:=a) hge (W.heap.size+1) (F9 hce h1) ((W.alloc (.deferred (some []))).alloc (.loop { state:= .ready,pending:=none,fn:=fn,tmps:=a.tmps,params:=ps,assign:=asg,body:=body,defers:=W.heap.size }))
     refine⟨W.heap.size+1,[{ target:= .collected W.heap.size,args:= #[] }],_,d,_,f,_,_,run_enterLoop_outer fn a.tmps ps asg body,hd1,fun _ _=>trivial,hd2,fun h=>by simp [FR] at h,?_⟩
     refine CallsIn.mono (F:=FR none) (n:=0-1) hcc ?_
     rintro e W3 ⟨u,σ3,rfl,k1,k2,k3⟩
     have s12:=Step.trans (fun i k hi=>hbeg.rel.lt i k hi) hbeg.rel.inj s1 s2
     have s123:=Step.trans (fun i k hi=>hbeg.rel.lt i k hi) hbeg.rel.inj s12 k2
     have hfin:Fin ρ σ W st.mem st.nx { st with mem:=q.2.1++(st.nx+1,.loop .ready none st.tm ps.toList asg body st.nx)::(st.nx,.dfd false)::st.mem,nx:=q.2.2,df:=st.nx::st.df } σ3
      { a with defers:=[{ target:= .collected W.heap.size,args:= #[] }]++a.defers } W3:=by
      refine⟨⟨_,by simp,s123⟩,(t1.trans (by omega) (by omega) t2).trans (by omega) m1 k3,by show st.nx≤q.2.2;omega,hbeg.tm.mono (V.den_ext s123.ext),(Dfr.of_one hnb).2 ⟨W.heap.size,a.defers,?_,rfl,hbeg.df.ext s123.ext⟩⟩
      exact k2.ext.f _ _ (s2.ext.f _ _ hd0)
     have he:=hend none (st.nx+1) _ p h2 σ3 _ W3 (W.heap.size+1) (hfin.beg hbeg.rel) (ht.after hfin.le hfin.new) (fun id e=>by simp at e) (k2.ext.f _ _ hl) Q (fun a' W' σ' hf=>hQ _ _ _ (Fin.trans hbeg.rel hfin hf))
     exact he
    ·
     rename_i rid
     split at h
     ·rename_i s0 p0 tm0 ps0 asg0 body0 d0 hm0
      obtain⟨q,h1,h2⟩:=T.res_bind h
      obtain⟨l0,hl0⟩:=hrr rid rfl
      obtain⟨l0',e1,fn0,tv0,dd0,e2,e3,e4⟩:=hbeg.rel.blk _ _ hm0
      rw[hl0] at e1
      simp only[Option.some.injEq] at e1
      subst e1
      have hFl:FR ((some rid).bind σ)=FR (some l0):=by simp only[Option.bind_some,hl0]
      rw[hFl]
      have m1:st.nx+1≤q.2.2:=(mono n).call _ _ _ _ _ h1
      have m2:q.2.2≤p.2.nx:=by have e:=(mono n).rend _ _ _ _ h2;exact e
      refine wpIn_rangeFunc (fun fn _=> ?_)
      have hx2:=a0k (a:=W.heap.size) (ht st.nx (Nat.le_refl _) (by omega))
      obtain⟨s2,t2⟩:=I6 (ρ:=ρ) (nx:=st.nx) (ht _ (Nat.le_refl _) (by omega)) (fun i a hi=>hbeg.rel.lt i a hi) (b:= .loop .ready none st.tm ps.toList asg body d0)
       (o:= .loop { state:= .ready,pending:=none,fn:=fn,tmps:=a.tmps,params:=ps,assign:=asg,body:=body,defers:=dd0 }) ⟨_,As.put_self,fn,a.tmps.toList,dd0,hbeg.tm.mono (V.den_ext hx2),hx2.f _ _ e3,by rw[F4]⟩
      have r2:=hbeg.rel.step s2
      have hl:(σ.put st.nx W.heap.size) st.nx=some W.heap.size:=As.put_self
      have hcap:=hvs.mono (fun _ _=>capDen.ext s2.ext)
      have hcc:=hcall f _ _ _ q h1 _ _ (Value.func (.yield W.heap.size) #[] #[]::vs) r2 ((ht.after (by omega) t2).less m2) ⟨⟨W.heap.size,hl,rfl⟩,a5B hcap⟩
      obtain⟨d,hd1,hd2⟩:=a3S (a:=a) hge W.heap.size (F9 hce h1) (W.alloc (.loop { state:= .ready,pending:=none,fn:=fn,tmps:=a.tmps,params:=ps,assign:=asg,body:=body,defers:=dd0 }))
      refine⟨W.heap.size,[],_,d,_,f,_,_,a2W e4 fn a.tmps ps asg body,hd1,fun _ _=>trivial,hd2,fun h=>by simp [FR] at h,?_⟩
      refine CallsIn.mono (F:=FR none) (n:=0-1) hcc ?_
      rintro e W3 ⟨u,σ3,rfl,k1,k2,k3⟩
      have s123:=Step.trans (fun i k hi=>hbeg.rel.lt i k hi) hbeg.rel.inj s2 k2
      have hfin:Fin ρ σ W st.mem st.nx { st with mem:=q.2.1++(st.nx,.loop .ready none st.tm ps.toList asg body d0)::st.mem,nx:=q.2.2 } σ3 { a with defers:=[]++a.defers } W3:=
       ⟨⟨_,by simp,s123⟩,t2.trans (by omega) m1 k3,by show st.nx≤q.2.2;omega,hbeg.tm.mono (V.den_ext s123.ext),hbeg.df.ext s123.ext⟩
      have he:=hend (some rid) st.nx _ p h2 σ3 _ W3 W.heap.size (hfin.beg hbeg.rel) (ht.after hfin.le hfin.new) (a4v hrr s123.ext) (k2.ext.f _ _ hl) Q (fun a' W' σ' hf=>hQ _ _ _ (Fin.trans hbeg.rel hfin hf))
      rw[a4n hrr s123.ext,hFl] at he
      exact he
     ·exact h.elim
   ·exact h.elim
 | scope b=>
   simp only[code] at h
   obtain⟨p1,h1,h2⟩:=T.res_bind h
   have hp:p1=p∧∀l,p1.1≠ .goto l:=by
    split at h2
    ·exact h2.elim
    ·rename_i hng
     exact⟨(g9 h2).symm,hng⟩
   obtain⟨rfl,hng⟩:=hp
   exact b2D (hcode _ r b st p1 h1 σ a W hbeg ht hrr _ (fun a1 W1 σ1 hf1=>⟨fun l e=>(by
    cases hp:p1.1 with
    | goto l'=>exact hng _ hp
    | _=>rw[hp] at e;cases e),hQ a1 W1 σ1 hf1⟩))
 | refuse w=>simp [code,T.res] at h
end
end Go.Proofs.YtbbjlleaofgddaaGreat
namespace Go.Proofs.YtbbjlleaofgddaaGreat
open Go.RowKit
def FA{β:Type}(L:Nat→Bool)(u:Nat→Option β)(b:Option β):Nat→Option β
 | 0=>b
 | n+1=>if L n then(u n).or (FA L u b n) else FA L u b n
theorem I4{β:Type}{L L':Nat→Bool}{u:Nat→Option β}{b:Option β}:∀(n:Nat),(∀k,k<n→u k≠none→L k=L' k)→FA L u b n=FA L' u b n
 | 0,_=>rfl
 | n+1,h=>by
   have ih:=I4 n (fun k hk=>h k (by omega)) (b:=b)
   simp only[FA,ih]
   cases hu:u n with
   | none=>simp
   | some x=>rw[h n (by omega) (by rw[hu];simp)]
theorem a1K{β:Type}{L:Nat→Bool}{u:Nat→Option β}{b:Option β}{j:Nat}:∀(n:Nat),j<n→L j=false→(∀k,j<k→k<n→u j≠none→u k≠none→L k=false)→
 FA (fun k=>if k=j then true else L k) u b n=(u j).or (FA L u b n)
 | n+1,hj,hl,h=>by
   rcases Nat.lt_or_ge j n with q | q
   ·have ih:=a1K n q hl (fun k h1 h2=>h k h1 (by omega)) (b:=b)
    simp only[FA,ih,if_neg (show ¬n=j by omega)]
    cases hu:u j with
    | none=>simp
    | some x=>
      cases hn:u n with
      | none=>simp
      | some y=>simp [h n q (by omega) (by rw[hu];simp) (by rw[hn];simp)]
   ·obtain rfl:j=n:=by omega
    have e:FA (fun k=>if k=j then true else L k) u b j=FA L u b j:=I4 j (fun k hk _=>by simp [show ¬k=j by omega])
    simp only[FA,e,if_true,hl,Bool.false_eq_true,if_false]
theorem a3z{β:Type}{u:Nat→Option β}{b:Option β}{j:Nat}:∀(n:Nat),j≤n→FA (fun k=>decide (k<j)) u b n=FA (fun _=>true) u b j
 | 0,h=>by obtain rfl:j=0:=by omega
           rfl
 | n+1,h=>by
   rcases Nat.lt_or_ge n j with q | q
   ·obtain rfl:j=n+1:=by omega
    exact I4 _ (fun k hk _=>by simp [hk])
   ·have ih:=a3z n q (u:=u) (b:=b)
    simp only[FA,ih,show ¬n<j by omega,decide_false,Bool.false_eq_true,if_false]
structure E1 where
 v:V
 ws:Mem
 nx:Nat
 inf:Info
def O5(ops:Array Oper)(k:Nat):Option Tmp:=(ops[k]?).bind (·.dst)
def J0(ops:Array Oper)(tm:List V)(ev:Nat→E1)(L:Nat→Bool):Nat→List V
 | 0=>tm
 | n+1=>if L n then B5 (J0 ops tm ev L n) (O5 ops n) (ev n).v else J0 ops tm ev L n
def P9(ev:Nat→E1)(L:Nat→Bool):Nat→Mem
 | 0=>[]
 | n+1=>if L n then(ev n).ws++P9 ev L n else P9 ev L n
def M3(nx:Nat)(ev:Nat→E1):Nat→Nat
 | 0=>nx
 | n+1=>(ev n).nx
def G3(ops:Array Oper)(st:St)(ev:Nat→E1)(n:Nat):St:= { st with tm:=J0 ops st.tm ev (fun _=>true) n,mem:=P9 ev (fun _=>true) n++st.mem,nx:=M3 st.nx ev n }
theorem a6u(tm:List V)(d:Option Tmp)(v:V)(t:Nat):(B5 tm d v)[t]? = (if d=some t∧t<tm.length then some v else none).or tm[t]? := by
 cases d with
 | none=>simp [B5]
 | some d=>
   simp only[B5,Option.some.injEq]
   by_cases h:d=t
   ·subst h
    by_cases q:d<tm.length
    ·simp [q]
    ·simp [q]
   ·simp [h]
theorem a6e(ops:Array Oper)(tm:List V)(ev:Nat→E1)(L:Nat→Bool):∀n,(J0 ops tm ev L n).length=tm.length
 | 0=>rfl
 | n+1=>by
   have ih:=a6e ops tm ev L n
   simp only[J0]
   split
   ·cases O5 ops n<;>simp [B5,ih]
   ·exact ih
def uT(ops:Array Oper)(tm:List V)(ev:Nat→E1)(t:Nat)(k:Nat):Option V:=if O5 ops k=some t∧t<tm.length then some (ev k).v else none
theorem O4(ops:Array Oper)(tm:List V)(ev:Nat→E1)(L:Nat→Bool)(t:Nat):∀n,(J0 ops tm ev L n)[t]? = FA L (uT ops tm ev t) tm[t]? n
 | 0=>rfl
 | n+1=>by
   have ih:=O4 ops tm ev L t n
   simp only[J0,FA]
   split
   ·rw[a6u,a6e,ih,uT]
   ·exact ih
theorem N5(ev:Nat→E1)(L:Nat→Bool)(id:Nat):∀n,(P9 ev L n).get id=FA L (fun k=>(ev k).ws.get id) none n
 | 0=>rfl
 | n+1=>by
   have ih:=N5 ev L id n
   simp only[P9,FA]
   split
   ·rw[Mem.get_append,ih]
   ·exact ih
theorem b1B{ops:Array Oper}{tm:List V}{ev:Nat→E1}{t k:Nat}(h:uT ops tm ev t k≠none):O5 ops k=some t:=by
 unfold uT at h
 split at h
 ·rename_i q;exact q.1
 ·exact absurd rfl h
theorem c0C(m:Mem)(l:List Nat)(id:Nat)(b:Blk)(h:(m.sub l).get id=some b):id∈l∧m.get id=some b:=by
 have h2:=T2 (fun i=>l.contains i) m id b h
 refine⟨?_,h2⟩
 have:id∈(m.sub l).map (·.1):=N9 (by rw[h];simp)
 simp only[Mem.sub,List.mem_map,List.mem_filter] at this
 obtain⟨p,⟨_,h3⟩,rfl⟩:=this
 simpa using h3
section
variable {P:Program} {ct:Ct} {lt:Lt} {ρ:Env} {σ:As}
def a0P(P:Program)(ct:Ct)(lt:Lt)(ρ:Env)(M:Nat)(ops:Array Oper)(st:St)(k:Nat)(e:E1):Prop:=
 e.inf.wr=e.ws.map (·.1)∧∃o,ops[k]? = some o∧((Z7 ops st.tm o=some false∧e.v= .tup []∧e.ws=[]∧e.nx=st.nx)∨
  (Z7 ops st.tm o=some true∧e.inf.rd=a6a st.mem (G2 st.tm) o∧∃n,n<M∧∃q0:i8,(oper P ct lt n o (G2 st.tm) (st.mem.sub (a6a st.mem (G2 st.tm) o)) st.nx).res ρ q0∧e.ws=q0.2.1∧e.nx=q0.2.2∧∀(σ:As) (u:Value),q0.1.den ρ σ u→e.v.den ρ σ u))
theorem a6A{ops:Array Oper}{tm:List V}{ev ev':Nat→E1}{L:Nat→Bool}:∀n,(∀k,k<n→ev k=ev' k)→J0 ops tm ev L n=J0 ops tm ev' L n
 | 0,_=>rfl
 | n+1,h=>by simp only[J0,a6A n (fun k hk=>h k (by omega)),h n (by omega)]
theorem a6v{ev ev':Nat→E1}{L:Nat→Bool}:∀n,(∀k,k<n→ev k=ev' k)→P9 ev L n=P9 ev' L n
 | 0,_=>rfl
 | n+1,h=>by simp only[P9,a6v n (fun k hk=>h k (by omega)),h n (by omega)]
theorem a1J{ops:Array Oper}{st:St}{ev ev':Nat→E1}(n:Nat)(h:∀k,k<n→ev k=ev' k):G3 ops st ev n=G3 ops st ev' n:=by
 unfold G3
 rw[a6A n h,a6v n h]
 cases n with
 | zero=>rfl
 | succ n=>simp only[M3,h n (by omega)]
theorem a8Q{r:Option Nat}{ops:Array Oper}{st0 s':St}{M:Nat}:∀(m i:Nat) (st:St) (log:List Info) (ev:Nat→E1),(A3 P ct lt m r ops i st log).res ρ s'→i≤ops.size→st=G3 ops st0 ev i→
 log=(List.range i).map (fun k=>(ev k).inf)→(∀k,k<i→a0P P ct lt ρ M ops (G3 ops st0 ev k) k (ev k))→m≤M→
 ∃ev',(∀k,k<ops.size→a0P P ct lt ρ M ops (G3 ops st0 ev' k) k (ev' k))∧s'=G3 ops st0 ev' ops.size∧a1H ops ((List.range ops.size).map (fun k=>(ev' k).inf))=true
 | 0,i,st,log,ev,h,_,_,_,_,_=>by simp [A3,T.res] at h
 | m+1,i,st,log,ev,h,hi,hst,hlog,hg,hm=>by
   simp only[A3] at h
   split at h
   ·rename_i ho
    have:i=ops.size:=by
     rcases Nat.lt_or_ge i ops.size with q | q
     ·rw[Array.getElem?_eq_getElem q] at ho;simp at ho
     ·omega
    subst this
    split at h
    ·rename_i hd
     obtain rfl:=g9 h
     exact⟨ev,hg,hst,by rw[←hlog];exact hd⟩
    ·exact h.elim
   ·rename_i o ho
    have hi':i<ops.size:=(Array.getElem?_eq_some_iff.1 ho).1
    have step:∀e:E1,a0P P ct lt ρ M ops st i e→(A3 P ct lt m r ops (i+1) { st with tm:=B5 st.tm o.dst e.v,mem:=e.ws++st.mem,nx:=e.nx } (log++[e.inf])).res ρ s'→
     ∃ev',(∀k,k<ops.size→a0P P ct lt ρ M ops (G3 ops st0 ev' k) k (ev' k))∧s'=G3 ops st0 ev' ops.size∧a1H ops ((List.range ops.size).map (fun k=>(ev' k).inf))=true:=by
     intro e he h
     have hc:∀k,k<i→ev k=(fun k=>if k=i then e else ev k) k:=fun k hk=>by simp [show ¬k=i by omega]
     refine a8Q m (i+1) _ _ (fun k=>if k=i then e else ev k) h (by omega) ?_ ?_ ?_ (by omega)
     ·have e1:=a1J (ops:=ops) (st:=st0) i hc
      have e2:st=G3 ops st0 (fun k=>if k=i then e else ev k) i:=by rw[←e1];exact hst
      have e3:O5 ops i=o.dst:=by simp [O5,ho]
      rw[e2]
      simp [G3,J0,P9,M3,e3]
     ·rw[hlog,List.range_succ,List.map_append]
      congr 1
      ·exact List.map_congr_left (fun k hk=>congrArg E1.inf (hc k (List.mem_range.1 hk)))
      ·simp
     ·intro k hk
      rcases Nat.lt_or_ge k i with q | q
      ·rw[←a1J k (fun k' hk'=>hc k' (by omega))]
       have:=hg k q
       simpa [show ¬k=i by omega] using this
      ·obtain rfl:k=i:=by omega
       rw[←a1J k hc,←hst]
       simpa using he
    split at h
    ·exact h.elim
    ·rename_i hw
     exact step ⟨.tup [],[],st.nx,⟨[],[]⟩⟩ ⟨rfl,o,ho,.inl ⟨hw,rfl,rfl,rfl⟩⟩ h
    ·rename_i hw
     obtain⟨q,h1,h2⟩:=T.res_bind h
     obtain⟨q0,h3,h4,h5⟩:=O9 h1
     exact step ⟨q.1,q.2.1,q.2.2,⟨a6a st.mem (G2 st.tm) o,q.2.1.map (·.1)⟩⟩ ⟨rfl,o,ho,.inr ⟨hw,rfl,m,by omega,q0,h3,by rw[h4],by rw[h4],h5⟩⟩ h2
theorem a1Y{α β:Type}(f:List β→α→β):∀(l:List α) (acc:List β),∃t,l.foldl (fun acc o=>acc++[f acc o]) acc=acc++t∧t.length=l.length
 | [],acc=>⟨[],by simp,rfl⟩
 | o::l,acc=>by
   obtain⟨t,h1,h2⟩:=a1Y f l (acc++[f acc o])
   exact⟨f acc o::t,by rw[List.foldl_cons,h1];simp,by simp [h2]⟩
theorem a6D{ops:Array Oper}{j:Nat}{o:Oper}(ho:ops[j]? = some o):∃acc:List (List Nat),acc.length=j∧(N6 ops).getD j []=(o.after.toList.flatMap fun e=>if Region.binds .any e then e.on::acc.getD e.on [] else [])∧
 ∀k,k<j→acc.getD k []=(N6 ops).getD k []:=by
 have hj:j<ops.toList.length:=by have:=(Array.getElem?_eq_some_iff.1 ho).1;simpa using this
 have hl:ops.toList=ops.toList.take j++o::ops.toList.drop (j+1):=by
  have e:ops.toList[j]=o:=by
   have:=(Array.getElem?_eq_some_iff.1 ho).2
   simpa using this
  rw[←e,←List.drop_eq_getElem_cons hj,List.take_append_drop]
 let f:List (List Nat)→Oper→List Nat:=fun acc o=>o.after.toList.flatMap fun e=>if Region.binds .any e then e.on::acc.getD e.on [] else []
 obtain⟨t,h1,h2⟩:=a1Y f (ops.toList.take j) []
 have hlen:t.length=j:=by rw[h2,List.length_take];omega
 obtain⟨t2,h3,h4⟩:=a1Y f (ops.toList.drop (j+1)) (t++[f t o])
 have e:N6 ops=t++[f t o]++t2:=by
  rw[←h3]
  show List.foldl (fun acc o=>acc++[f acc o]) [] ops.toList=_
  rw[hl,List.foldl_append,h1,List.foldl_cons]
  simp only[List.nil_append]
  congr 1
  have:(List.take j ops.toList++o::List.drop (j+1) ops.toList)=ops.toList:=hl.symm
  rw[this]
 refine⟨t,hlen,?_,fun k hk=> ?_⟩
 ·rw[e,List.getD_eq_getElem?_getD,List.append_assoc,List.getElem?_append_right (by omega),hlen]
  simp [f]
 ·rw[e,List.getD_eq_getElem?_getD,List.getD_eq_getElem?_getD,List.append_assoc,List.getElem?_append_left (by omega)]
structure DrawSpec (ops:Array Oper) (inf:Nat→Info):Prop where
 on:∀(j:Nat) (o:Oper),ops[j]? = some o→∀e∈o.after,Region.binds .any e=true→e.on<j
 inv:∀(j:Nat) (o:Oper),ops[j]? = some o→∀x∈(N6 ops).getD j [],∃e∈o.after,Region.binds .any e=true∧(x=e.on∨x∈(N6 ops).getD e.on [])
 apart:∀i j,i<j→j<ops.size→i∉(N6 ops).getD j []→∃x y,ops[i]? = some x∧ops[j]? = some y∧x.apart ops y=true∧(∀b∈(inf i).wr,b∉(inf j).rd)∧(∀b∈(inf i).wr,b∉(inf j).wr)∧(∀b∈(inf j).wr,b∉(inf i).rd)
theorem a9H{ops:Array Oper}{inf:Nat→Info}(h:a1H ops ((List.range ops.size).map inf)=true):DrawSpec ops inf:=by
 unfold a1H at h
 simp only[Bool.and_eq_true,List.all_eq_true,List.mem_range,decide_eq_true_eq,Bool.or_eq_true,Bool.not_eq_true',List.contains_eq_mem] at h
 obtain⟨⟨h1,h2⟩,h3⟩:=h
 have hon:∀(j:Nat) (o:Oper),ops[j]? = some o→∀e∈o.after,Region.binds .any e=true→e.on<j:=by
  intro j o ho e he hb
  obtain⟨acc,a1,a2,a3⟩:=a6D ho
  have hj:=(Array.getElem?_eq_some_iff.1 ho).1
  refine(h3 j hj).1 _ ?_
  rw[a2,List.mem_flatMap]
  exact⟨e,by simpa using he,by simp [hb]⟩
 refine⟨hon,?_,?_⟩
 ·intro j o ho x hx
  obtain⟨acc,a1,a2,a3⟩:=a6D ho
  rw[a2,List.mem_flatMap] at hx
  obtain⟨e,he,hx⟩:=hx
  have he:e∈o.after:=by simpa using he
  split at hx
  ·rename_i hb
   refine⟨e,he,hb,?_⟩
   rw[List.mem_cons,a3 e.on (hon j o ho e he hb)] at hx
   exact hx
  ·simp at hx
 ·intro i j hij hj hni
  rcases(h3 j hj).2 i hij with hc | hc
  ·unfold b9y at hc
   simp only[Bool.or_eq_false_iff] at hc
   obtain⟨c1,c2⟩:=hc
   have e1:ops[i]? = some ops[i]:=Array.getElem?_eq_getElem (by omega)
   have e2:ops[j]? = some ops[j]:=Array.getElem?_eq_getElem hj
   have e3:((List.range ops.size).map inf)[i]? = some (inf i):=by simp [show i<ops.size by omega]
   have e4:((List.range ops.size).map inf)[j]? = some (inf j):=by simp [hj]
   rw[e1,e2] at c1
   rw[e3,e4] at c2
   simp only[Bool.not_eq_false'] at c1
   simp only[Bool.or_eq_false_iff,b2p,List.any_eq_false,List.contains_eq_mem,decide_eq_true_eq,List.mem_append,not_or] at c2
   exact⟨_,_,e1,e2,c1,fun b hb=>(c2.1 b hb).1,fun b hb=>(c2.1 b hb).2,fun b hb hr=>c2.2 b hr hb⟩
  ·exact absurd hc hni
end
end Go.Proofs.YtbbjlleaofgddaaGreat
namespace Go.Proofs.YtbbjlleaofgddaaGreat
open Go.RowKit
inductive TT (α:Type) where
 | ret (a:α)
 | ite (b:B) (t e:TT α)
 | ob (o:Ob) (t:TT α)
 | stuck (why:String)
 | loop (d N:Nat) (init:Asg) (body:TT α)
 | next (d:Nat) (m:Asg)
def T.norm{β α:Type}(d:Nat)(t:T β)(k:β→TT α):TT α:=
 match t with
 | .ret a=>k a
 | .ite b t e=> .ite b (T.norm d t k) (T.norm d e k)
 | .ob o t=> .ob o (T.norm d t k)
 | .stuck s=> .stuck s
 | .loop N pat init body kk=> .loop d N init (T.norm (d+1) body (fun p=>match p.1 with
  | .normal=>match v7 N pat p.2 with | some m=> .next d m | none=> .stuck "loop: slots"
  | _=>T.norm (d+1) (kk p) k))
def Asg.small(m:Asg):Bool:=(m.i.all fun p=>Nat.blt p.1 1000)&&(m.b.all fun p=>Nat.blt p.1 1000)&&(m.d.all fun p=>Nat.blt p.1 1000)
def TT.low{α:Type}(c:Nat):TT α→Bool
 | .ret _=>true
 | .ite b t e=>B.low c b&&TT.low c t&&TT.low c e
 | .ob (.tru b) t=>B.low c b&&TT.low c t
 | .stuck _=>true
 | .loop _ N init body=>Nat.ble c N&&(init.i.all fun p=>Nat.blt p.1 1000&&E.low c p.2)&&(init.b.all fun p=>Nat.blt p.1 1000&&B.low c p.2)&&(init.d.all fun p=>Nat.blt p.1 1000&&X.low c p.2)&&TT.low (N+1000) body
 | .next _ m=>m.small
def TT.sat{α:Type}(t:TT α)(ρ:Env)(K:Env→α→Prop)(J:Nat→LV→Prop):Prop:=
 match t with
 | .ret a=>K ρ a
 | .ite b t e=>(b.ev ρ=true→TT.sat t ρ K J)∧(b.ev ρ=false→TT.sat e ρ K J)
 | .ob o t=>o.ok ρ∧TT.sat t ρ K J
 | .stuck _=>False
 | .loop d N init body=>∃n,Nat.rec (motive:=fun _=>LV→Prop) (fun _=>False) (fun _ I v=>TT.sat body (ρ.put N v) K (fun d' v'=>if d'=d then I v' else J d' v')) n (init.val ρ)
 | .next d m=>J d (m.val ρ)
section
variable {α:Type} {K:Env→α→Prop} {J:Nat→LV→Prop} {ρ:Env}
theorem TT.sat_ret{a:α}:(TT.ret a).sat ρ K J=K ρ a:=rfl
theorem TT.sat_ite{b:B}{t e:TT α}:(TT.ite b t e).sat ρ K J=((b.ev ρ=true→t.sat ρ K J)∧(b.ev ρ=false→e.sat ρ K J)):=rfl
theorem TT.sat_ob{o:Ob}{t:TT α}:(TT.ob o t).sat ρ K J=(o.ok ρ∧t.sat ρ K J):=rfl
theorem TT.sat_stuck{s:String}:(TT.stuck s:TT α).sat ρ K J=False:=rfl
theorem TT.sat_next{d:Nat}{m:Asg}:(TT.next d m:TT α).sat ρ K J=J d (m.val ρ):=rfl
theorem c5s(N:Nat)(v:LV)(k:Nat):(ρ.put N v).i k=if k<N then ρ.i k else v.i (k-N):=rfl
theorem c4v(N:Nat)(v:LV)(k:Nat):(ρ.put N v).b k=if k<N then ρ.b k else v.b (k-N):=rfl
theorem p7(N:Nat)(v:LV)(k:Nat):(ρ.put N v).d k=if k<N then ρ.d k else v.d (k-N):=rfl
theorem c3b(N:Nat)(v:LV):(ρ.put N v).fi=ρ.fi:=rfl
theorem c3m(N:Nat)(v:LV):(ρ.put N v).fb=ρ.fb:=rfl
theorem c1o(N:Nat)(v:LV):(ρ.put N v).fd=ρ.fd:=rfl
theorem o6(m:Asg)(j:Nat):(m.val ρ).i j=match j6 m.i j with | some e=>e.ev ρ | none=>0:=rfl
theorem c5b(m:Asg)(j:Nat):(m.val ρ).b j=match j6 m.b j with | some e=>e.ev ρ | none=>false:=rfl
theorem Y8(m:Asg)(j:Nat):(m.val ρ).d j=match j6 m.d j with | some e=>e.ev ρ | none=>[]:=rfl
end
theorem TT.sat_mono{α:Type}{K:Env→α→Prop}{t:TT α}:∀ {ρ:Env} {J J':Nat→LV→Prop},(∀d v,J d v→J' d v)→t.sat ρ K J→t.sat ρ K J':=by
 induction t with
 | ret a=>intro ρ J J' _ h;exact h
 | ite b t e i1 i2=>intro ρ J J' hj h;exact⟨fun q=>i1 hj (h.1 q),fun q=>i2 hj (h.2 q)⟩
 | ob o t ih=>intro ρ J J' hj h;exact⟨h.1,ih hj h.2⟩
 | stuck s=>intro ρ J J' _ h;exact h
 | next d m=>intro ρ J J' hj h;exact hj _ _ h
 | loop d N init body ih=>
   intro ρ J J' hj h
   obtain⟨n,h⟩:=h
   refine⟨n,?_⟩
   revert h
   generalize init.val ρ=v
   induction n generalizing v with
   | zero=>exact fun h=>h
   | succ n ihn=>
     intro h
     refine ih (fun d' v'=> ?_) h
     by_cases e:d'=d
     ·simp only[e,if_true];exact ihn v'
     ·simp only[e,if_false];exact hj d' v'
theorem TT.sat_loop{α:Type}{d N:Nat}{init:Asg}{body:TT α}{ρ:Env}{K:Env→α→Prop}{J:Nat→LV→Prop}(I:LV→Prop)(μ:LV→Nat)(h0:I (init.val ρ))
 (hs:∀v,I v→body.sat (ρ.put N v) K (fun d' v'=>if d'=d then I v'∧μ v'<μ v else J d' v')):(TT.loop d N init body).sat ρ K J:=by
 refine⟨μ (init.val ρ)+1,?_⟩
 have key:∀n v,I v→μ v<n→Nat.rec (motive:=fun _=>LV→Prop) (fun _=>False) (fun _ I v=>TT.sat body (ρ.put N v) K (fun d' v'=>if d'=d then I v' else J d' v')) n v:=by
  intro n
  induction n with
  | zero=>intro v _ h;omega
  | succ n ih=>
    intro v hv hn
    refine TT.sat_mono (fun d' v' h=> ?_) (hs v hv)
    by_cases e:d'=d
    ·simp only[e,if_true] at h ⊢;exact ih v' h.1 (by omega)
    ·simp only[e,if_false] at h ⊢;exact h
 exact key _ _ h0 (Nat.lt_succ_self _)
theorem TT.sat_join{α:Type}{d N:Nat}{rest t:TT α}{ρ:Env}{K:Env→α→Prop}{J:Nat→LV→Prop}(R:LV→Prop)
 (h1:∀v:LV,v.b 0=false→t.sat (ρ.put N v) K (fun d' v'=>if d'=d then v'.b 0=true∧R v' else J d' v'))
 (h2:∀v:LV,v.b 0=true→R v→rest.sat (ρ.put N v) K (fun d' v'=>if d'=d then False else J d' v')):(TT.loop d N ⟨[],[(0,.lit false)],[]⟩ (.ite (.var N) rest t)).sat ρ K J:=by
 refine TT.sat_loop (fun v=>v.b 0=true→R v) (fun v=>if v.b 0=true then 0 else 1) (fun h=>by simp [Asg.val,j6,B.ev] at h) (fun v hv=> ?_)
 have hb:(B.var N).ev (ρ.put N v)=v.b 0:=by simp [B.ev,Env.put]
 refine⟨fun q=> ?_,fun q=> ?_⟩
 ·rw[hb] at q
  refine TT.sat_mono (fun d' v' h=> ?_) (h2 v q (hv q))
  by_cases e:d'=d
  ·simp only[e,if_true] at h
  ·simp only[e,if_false] at h ⊢;exact h
 ·rw[hb] at q
  refine TT.sat_mono (fun d' v' h=> ?_) (h1 v q)
  by_cases e:d'=d
  ·simp only[e,if_true] at h ⊢
   refine⟨fun _=>h.2,?_⟩
   rw[h.1,q]
   simp
  ·simp only[e,if_false] at h ⊢;exact h
theorem I3{α:Type}{p:Nat×α→Bool}:∀ {l:List (Nat×α)} {j:Nat} {e:α},l.all p=true→j6 l j=some e→p (j,e)=true
 | (k,x)::l,j,e,h,q=>by
   simp only[List.all_cons,Bool.and_eq_true] at h
   simp only[j6] at q
   split at q
   ·rename_i hk
    simp only[beq_iff_eq] at hk
    simp only[Option.some.injEq] at q
    subst hk q
    exact h.1
   ·exact I3 h.2 q
inductive Out (α:Type) where | val (a:α) | nxt (d:Nat) (m:Asg) (ρ:Env)
theorem Asg.fits_of{m:Asg}{ρ:Env}{v:LV}(h:m.small=true)(hi:∀j,j<1000→v.i j=(m.val ρ).i j)(hb:∀j,j<1000→v.b j=(m.val ρ).b j)(hd:∀j,j<1000→v.d j=(m.val ρ).d j):m.fits ρ v:=by
 simp only[Asg.small,Bool.and_eq_true] at h
 refine⟨fun j e q=> ?_,fun j e q=> ?_,fun j e q=> ?_⟩
 ·rw[hi j (o7 (I3 h.1.1 q))];simp [Asg.val,q]
 ·rw[hb j (o7 (I3 h.1.2 q))];simp [Asg.val,q]
 ·rw[hd j (o7 (I3 h.2 q))];simp [Asg.val,q]
inductive TRounds {α:Type} (N d:Nat) (R:Env→Out α→Prop) (ρ:Env):LV→Out α→Prop
 | last {v o}:ρ.put N v=ρ→R ρ o→(∀m ρ',o≠ .nxt d m ρ')→TRounds N d R ρ v o
 | next {v m ρ1 v' o}:R (ρ.put N v) (.nxt d m ρ1)→m.fits ρ1 v'→TRounds N d R ρ v' o→TRounds N d R ρ v o
def TT.res{α:Type}(t:TT α)(ρ:Env)(x:Out α):Prop:=
 match t with
 | .ret a=>x= .val a
 | .ite b t e=>if b.ev ρ then TT.res t ρ x else TT.res e ρ x
 | .ob o t=>o.ok ρ∧TT.res t ρ x
 | .stuck _=>False
 | .next d m=>x= .nxt d m ρ
 | .loop d N init body=>∃v,init.fits ρ v∧TRounds N d (fun ρ' o=>TT.res body ρ' o) ρ v x
theorem Agree.refl(N:Nat)(ρ:Env):Agree N ρ ρ:=⟨fun _ _=>rfl,fun _ _=>rfl,fun _ _=>rfl,rfl,rfl,rfl,rfl⟩
theorem Agree.symm{N:Nat}{ρ ρ':Env}(h:Agree N ρ ρ'):Agree N ρ' ρ:=⟨fun k q=>(h.i k q).symm,fun k q=>(h.b k q).symm,fun k q=>(h.d k q).symm,h.fi.symm,h.fb.symm,h.fd.symm,h.w.symm⟩
theorem Agree.trans{N:Nat}{a b c:Env}(h:Agree N a b)(k:Agree N b c):Agree N a c:=⟨fun j q=>(h.i j q).trans (k.i j q),fun j q=>(h.b j q).trans (k.b j q),fun j q=>(h.d j q).trans (k.d j q),h.fi.trans k.fi,h.fb.trans k.fb,h.fd.trans k.fd,h.w.trans k.w⟩
theorem Agree.less{N M:Nat}{ρ ρ':Env}(h:Agree N ρ ρ')(q:M≤N):Agree M ρ ρ':=⟨fun k e=>h.i k (by omega),fun k e=>h.b k (by omega),fun k e=>h.d k (by omega),h.fi,h.fb,h.fd,h.w⟩
theorem TT.res_of_sat{α:Type}{K:Env→α→Prop}{t:TT α}:∀ {c:Nat} {ρ:Env} {J:Nat→LV→Prop},t.low c=true→t.sat ρ K J→
 ∃ρ' o,Agree c ρ ρ'∧t.res ρ' o∧(∀a,o= .val a→K ρ' a)∧∀d m ρ1,o= .nxt d m ρ1→m.small=true∧J d (m.val ρ1):=by
 induction t with
 | ret a=>intro c ρ J _ h;exact⟨ρ,.val a,Agree.refl _ _,rfl,fun x e=>by simp only[Out.val.injEq] at e;subst e;exact h,fun d m ρ1 e=>by cases e⟩
 | next d m=>intro c ρ J hl h;exact⟨ρ,.nxt d m ρ,Agree.refl _ _,rfl,(fun x e=>by cases e),fun d m ρ1 e=>by simp only[Out.nxt.injEq] at e;obtain⟨rfl,rfl,rfl⟩:=e;exact⟨hl,h⟩⟩
 | stuck s=>intro c ρ J _ h;exact h.elim
 | ite b t e i1 i2=>
   intro c ρ J hl h
   simp only[TT.low,Bool.and_eq_true] at hl
   cases hb:b.ev ρ with
   | true=>
     obtain⟨ρ',o,h1,h2,h3⟩:=i1 hl.1.2 (h.1 hb)
     refine⟨ρ',o,h1,?_,h3⟩
     simp only[TT.res,←B.low_ev h1 b hl.1.1,hb,if_true]
     exact h2
   | false=>
     obtain⟨ρ',o,h1,h2,h3⟩:=i2 hl.2 (h.2 hb)
     refine⟨ρ',o,h1,?_,h3⟩
     simp only[TT.res,←B.low_ev h1 b hl.1.1,hb,Bool.false_eq_true,if_false]
     exact h2
 | ob o t ih=>
   intro c ρ J hl h
   cases o with
   | tru b=>
     simp only[TT.low,Bool.and_eq_true] at hl
     obtain⟨ρ',o,h1,h2,h3⟩:=ih hl.2 h.2
     refine⟨ρ',o,h1,⟨?_,h2⟩,h3⟩
     show b.ev ρ'=true
     rw[←B.low_ev h1 b hl.1]
     exact h.1
 | loop d N init body ih=>
   intro c ρ J hl h
   simp only[TT.low,Bool.and_eq_true] at hl
   obtain⟨⟨⟨⟨l1,l2⟩,l3⟩,l4⟩,l5⟩:=hl
   have l1:c≤N:=Nat.le_of_ble_eq_true l1
   obtain⟨n,h⟩:=h
   have key:∀n (w:LV),Nat.rec (motive:=fun _=>LV→Prop) (fun _=>False) (fun _ I v=>TT.sat body (ρ.put N v) K (fun d' v'=>if d'=d then I v' else J d' v')) n w→
    ∃ρ' o v,Agree N ρ ρ'∧(∀j,j<1000→v.i j=w.i j)∧(∀j,j<1000→v.b j=w.b j)∧(∀j,j<1000→v.d j=w.d j)∧TRounds N d (fun ρ' o=>TT.res body ρ' o) ρ' v o∧(∀a,o= .val a→K ρ' a)∧∀d m ρ1,o= .nxt d m ρ1→m.small=true∧J d (m.val ρ1):=by
    intro n
    induction n with
    | zero=>intro w h;exact h.elim
    | succ n ihn=>
      intro w h
      obtain⟨ρ1,o,a1,r1,k1,j1⟩:=ih l5 h
      have a0:Agree N ρ ρ1:=((Env.put_agree ρ N w).symm).trans (a1.less (by omega))
      have hv:ρ.put N (ρ1.from N)=ρ1:=Env.put_from a0
      have e1:∀j,j<1000→(ρ1.from N).i j=w.i j:=fun j hj=>by have:=a1.i (N+j) (by omega);simp only[Env.put,show ¬N+j<N by omega,if_false,Nat.add_sub_cancel_left] at this;exact this.symm
      have e2:∀j,j<1000→(ρ1.from N).b j=w.b j:=fun j hj=>by have:=a1.b (N+j) (by omega);simp only[Env.put,show ¬N+j<N by omega,if_false,Nat.add_sub_cancel_left] at this;exact this.symm
      have e3:∀j,j<1000→(ρ1.from N).d j=w.d j:=fun j hj=>by have:=a1.d (N+j) (by omega);simp only[Env.put,show ¬N+j<N by omega,if_false,Nat.add_sub_cancel_left] at this;exact this.symm
      by_cases hn:∃m ρ2,o= .nxt d m ρ2
      ·obtain⟨m,ρm,rfl⟩:=hn
       obtain⟨hm,hu⟩:=j1 d m ρm rfl
       simp only[if_true] at hu
       obtain⟨ρ2,o2,v2,b1,b2,b3,b4,b5,b6,b7⟩:=ihn _ hu
       refine⟨ρ2,o2,ρ1.from N,b1,e1,e2,e3,.next (m:=m) (ρ1:=ρm) ?_ (Asg.fits_of hm b2 b3 b4) b5,b6,b7⟩
       rw[Env.put_congr b1.symm,hv]
       exact r1
      ·refine⟨ρ1,o,ρ1.from N,a0,e1,e2,e3,.last ?_ r1 (fun m ρ' e=>hn ⟨m,ρ',e⟩),k1,fun d' m ρm e=> ?_⟩
       ·rw[Env.put_congr a0.symm];exact hv
       ·obtain⟨hm,this⟩:=j1 d' m ρm e
        have hd:¬d'=d:=fun q=>hn ⟨m,ρm,by rw[e,q]⟩
        exact⟨hm,by simpa only[hd,if_false] using this⟩
   obtain⟨ρ',o,v,a1,e1,e2,e3,r,k1,j1⟩:=key n _ h
   refine⟨ρ',o,a1.less l1,⟨v,?_,r⟩,k1,j1⟩
   have a2:=a1.less l1
   refine⟨fun j e q=> ?_,fun j e q=> ?_,fun j e q=> ?_⟩
   ·have:=I3 l2 q
    simp only[Bool.and_eq_true] at this
    rw[e1 j (o7 this.1),←E.low_ev a2 e this.2]
    simp [Asg.val,q]
   ·have:=I3 l3 q
    simp only[Bool.and_eq_true] at this
    rw[e2 j (o7 this.1),←B.low_ev a2 e this.2]
    simp [Asg.val,q]
   ·have:=I3 l4 q
    simp only[Bool.and_eq_true] at this
    rw[e3 j (o7 this.1),←X.low_ev a2 e this.2]
    simp [Asg.val,q]
theorem a9F{β α:Type}{t:T β}:∀ {d:Nat} {k:β→TT α} {ρ:Env} {o:Out α},(∀x ρ l m ρ1,(k x).res ρ (.nxt l m ρ1)→l<d)→(T.norm d t k).res ρ o→∃x,t.res ρ x∧(k x).res ρ o:=by
 induction t with
 | ret a=>intro d k ρ o _ h;exact⟨a,rfl,h⟩
 | ite b t e i1 i2=>
   intro d k ρ o hk h
   simp only[T.norm,TT.res] at h
   split at h
   ·rename_i hb
    obtain⟨x,h1,h2⟩:=i1 hk h
    exact⟨x,by simp only[T.res,hb,if_true];exact h1,h2⟩
   ·rename_i hb
    obtain⟨x,h1,h2⟩:=i2 hk h
    exact⟨x,by simp only[T.res,if_neg hb];exact h1,h2⟩
 | ob o t ih=>
   intro d k ρ o hk h
   obtain⟨x,h1,h2⟩:=ih hk h.2
   exact⟨x,⟨h.1,h1⟩,h2⟩
 | stuck s=>intro d k ρ o _ h;exact h.elim
 | loop N pat init body kk ih1 ih2=>
   intro d k ρ o hk h
   obtain⟨v0,hf,hr⟩:=h
   have hfree:∀(q:Ex×St) ρ l m ρ1,(T.norm (d+1) (kk q) k).res ρ (.nxt l m ρ1)→l<d:=by
    intro q ρ l m ρ1 hq
    obtain⟨x,_,hx⟩:=ih2 q (fun x ρ l m ρ1 hx=>Nat.lt_succ_of_lt (hk x ρ l m ρ1 hx)) hq
    exact hk x ρ l m ρ1 hx
   have hround:∀(ρ':Env) (o':Out α),(T.norm (d+1) body (fun p=>match p.1 with | .normal=>(match v7 N pat p.2 with | some m=>TT.next d m | none=>TT.stuck "loop: slots") | _=>T.norm (d+1) (kk p) k)).res ρ' o'→
    ∃p,body.res ρ' p∧((p.1= .normal∧∃m,v7 N pat p.2=some m∧o'= .nxt d m ρ')∨(p.1≠ .normal∧(T.norm (d+1) (kk p) k).res ρ' o')):=by
    intro ρ' o' h
    obtain⟨p,h1,h2⟩:=ih1 (fun q ρ l m ρ1 hq=>by
     split at hq
     ·split at hq
      ·simp only[TT.res,Out.nxt.injEq] at hq;omega
      ·exact hq.elim
     ·exact Nat.lt_succ_of_lt (hfree q ρ l m ρ1 hq)) h
    refine⟨p,h1,?_⟩
    cases hp:p.1 with
    | normal=>
      rw[hp] at h2
      simp only at h2
      split at h2
      ·rename_i m hm
       exact .inl ⟨rfl,m,hm,h2⟩
      ·exact h2.elim
    | exit id=>rw[hp] at h2;exact .inr ⟨by simp,h2⟩
    | goto id=>rw[hp] at h2;exact .inr ⟨by simp,h2⟩
    | ret=>rw[hp] at h2;exact .inr ⟨by simp,h2⟩
   have key:∃p,Rounds N pat (fun ρ' p=>T.res body ρ' p) ρ v0 p∧(T.norm (d+1) (kk p) k).res ρ o:=by
    clear hf
    induction hr with
    | last hv hr hne=>
      obtain⟨p,h1,h2⟩:=hround _ _ hr
      rcases h2 with ⟨_,m,_,e⟩ | ⟨h2,h3⟩
      ·exact absurd e (hne _ _)
      ·exact⟨p,.last hv h1 h2,h3⟩
    | next hr hfit _ ih=>
      obtain⟨p,h1,h2⟩:=ih
      obtain⟨q,h3,h4⟩:=hround _ _ hr
      rcases h4 with ⟨h4,m,hm,e⟩ | ⟨_,h5⟩
      ·simp only[Out.nxt.injEq,true_and] at e
       obtain⟨rfl,rfl⟩:=e
       exact⟨p,.next h3 h4 hm hfit h1,h2⟩
      ·have:=hfree q _ d _ _ h5
       omega
   obtain⟨p,h1,h2⟩:=key
   obtain⟨x,h3,h4⟩:=ih2 p (fun x ρ l m ρ1 hx=>Nat.lt_succ_of_lt (hk x ρ l m ρ1 hx)) h2
   exact⟨x,⟨v0,p,hf,h1,h3⟩,h4⟩
theorem T.res_of_flat{β:Type}{t:T β}{tr:TT β}(hn:T.norm 0 t TT.ret=tr){c:Nat}(hl:tr.low c=true){ρ:Env}{K:Env→β→Prop}(hs:tr.sat ρ K (fun _ _=>False)):
 ∃ρ' x,Agree c ρ ρ'∧t.res ρ' x∧K ρ' x:=by
 obtain⟨ρ',o,h1,h2,h3,h4⟩:=TT.res_of_sat hl hs
 rw[←hn] at h2
 obtain⟨x,h5,h6⟩:=a9F (fun x ρ l m ρ1 h=>by simp [TT.res] at h) h2
 exact⟨ρ',x,h1,h5,h3 x h6⟩
end Go.Proofs.YtbbjlleaofgddaaGreat
namespace Go.Proofs.YtbbjlleaofgddaaGreat
open Go.RowKit
section
variable {P:Program} {ct:Ct} {lt:Lt} {ρ:Env} {σ:As}
theorem Step.congr{W W':World}{ws ws':Mem}{σ':As}(h:Step ρ σ W ws σ' W')(e:∀i,ws'.get i=ws.get i):Step ρ σ W ws' σ' W':=
 ⟨h.ext,h.os,h.tape,h.output,h.size,fun k hk hn=>h.frame k hk (fun i b hi=>hn i b (by rw[e];exact hi)),fun i hi hh=>h.hist i (by rw[←e];exact hi) hh,h.new,h.inj,fun i b hi=>h.blk i b (by rw[←e];exact hi),h.keep⟩
theorem RelM.sub{m m':Mem}{W:World}(h:RelM ρ σ m W)(e:∀i b,m'.get i=some b→m.get i=some b):RelM ρ σ m' W:=
 ⟨fun id b hb=>h.blk id b (e _ _ hb),h.inj,h.lt,h.above,h.base⟩
theorem DL.len_get{α:Type}{R:α→Value→Prop}{l l':List α}{vs:List Value}(h:DL R l vs)(e:l'=l):DL R l' vs:=by rw[e];exact h
theorem a6R{ops:Array Oper}{o:Oper}{t:Tmp}(h:Operand.tmp t∈o.op.operands):t∈o.looksAt ops:=by
 unfold Oper.looksAt
 rw[List.mem_append,List.mem_filterMap]
 exact .inl ⟨.tmp t,by simpa using h,rfl⟩
theorem a9G{ops:Array Oper}{o:Oper}{g:Nat}{w:Bool}{t:Tmp}(h:o.guard=some (g,w))(hd:(ops[g]?).bind (·.dst)=some t):t∈o.looksAt ops:=by
 unfold Oper.looksAt
 rw[h,List.mem_append]
 refine .inr ?_
 show t∈((ops[g]?).bind (·.dst)).toList
 rw[hd]
 simp
structure DInv (P:Program) (ρ:Env) (ops:Array Oper) (st0:St) (ev:Nat→E1) (σ0:As) (W0:World) (L:Nat→Bool) (σ:As) (a:Act) (W:World):Prop where
 tm:DL (V.den ρ σ) (J0 ops st0.tm ev L ops.size) a.tmps.toList
 step:Step ρ σ0 W0 (P9 ev L ops.size) σ W
 new:∀i,σ.has i→σ0.has i∨∃k,k<ops.size∧L k=true∧M3 st0.nx ev k≤i∧i<M3 st0.nx ev (k+1)
 df:Dfr σ st0.df a.defers
theorem a3F{nx:Nat}{ev:Nat→E1}{n:Nat}(h:∀k,k<n→M3 nx ev k≤M3 nx ev (k+1)):∀(j i:Nat),i≤j→j≤n→M3 nx ev i≤M3 nx ev j
 | 0,i,h1,_=>by obtain rfl:i=0:=by omega
                exact Nat.le_refl _
 | j+1,i,h1,h2=>by
   rcases Nat.lt_or_ge j i with q | q
   ·obtain rfl:i=j+1:=by omega
    exact Nat.le_refl _
   ·exact Nat.le_trans (a3F h j i q (by omega)) (h j (by omega))
theorem b1e{M:Nat}{ops:Array Oper}{st0:St}{ev:Nat→E1}{k:Nat}(h:a0P P ct lt ρ M ops (G3 ops st0 ev k) k (ev k)):M3 st0.nx ev k≤M3 st0.nx ev (k+1):=by
 obtain⟨_,o,_,h | ⟨_,_,n,_,q0,h1,_,h3,_⟩⟩:=h
 ·simp only[M3]
  rw[h.2.2.2]
  exact Nat.le_refl _
 ·have:=(mono (P:=P) (ct:=ct) (lt:=lt) (ρ:=ρ) n).oper _ _ _ _ _ h1
  simp only[M3]
  rw[h3]
  exact this
theorem b6w{M:Nat}{ops:Array Oper}{st0:St}{ev:Nat→E1}{σ0:As}{a:Act}{W0 W:World}(hoper:∀n,n<M→a0i P ρ ct lt n)(hg:∀k,k<ops.size→a0P P ct lt ρ M ops (G3 ops st0 ev k) k (ev k))
 (hd:DrawSpec ops (fun k=>(ev k).inf)) (hr0:RelM ρ σ0 st0.mem W0) (hfr:Fr st0.nx (M3 st0.nx ev ops.size) σ0) {L:Nat→Bool} (hinv:DInv P ρ ops st0 ev σ0 W0 L σ a W)
 (hcl:∀i,L i=true→∀x∈(N6 ops).getD i [],L x=true) {j:Nat} (hj:j<ops.size) (hlj:L j=false) (hanc:∀x∈(N6 ops).getD j [],L x=true) {ro:Option Nat} {K:Act→World→Prop} {Q:Exit→Act→World→Prop}
 (hK:∀σ' a' W',DInv P ρ ops st0 ev σ0 W0 (fun k=>if k=j then true else L k) σ' a' W'→K a' W'):wpOpIn (FR ro) 0 P ops Q j K a W:=by
 obtain⟨hwr,o,ho,hcase⟩:=hg j hj
 have hmono:=a3F (fun k hk=>b1e (hg k hk))
 have hind:∀k,k<ops.size→k≠j→L k=decide (k<j)∨∃x,ops[k]? = some x∧(∀d,x.dst=some d→d∉o.looksAt ops)∧(∀d,x.dst=some d→o.dst≠some d)∧(∀b∈(ev k).inf.wr,b∉(ev j).inf.rd)∧(∀b∈(ev k).inf.wr,b∉(ev j).inf.wr):=by
  intro k hk hne
  rcases Nat.lt_or_ge k j with q | q
  ·by_cases hin:k∈(N6 ops).getD j []
   ·left
    rw[hanc k hin]
    simp [q]
   ·right
    obtain⟨x,y,e1,e2,e3,e4,e5,e6⟩:=hd.apart k j q hj hin
    rw[ho] at e2
    simp only[Option.some.injEq] at e2
    subst e2
    obtain⟨a1,a2,a3⟩:=Oper.apart_spec e3
    exact⟨x,e1,a1,a2,e4,e5⟩
  ·have q:j<k:=by omega
   by_cases hin:j∈(N6 ops).getD k []
   ·left
    have:¬k<j:=by omega
    simp only[this,decide_false]
    cases hlk:L k with
    | false=>rfl
    | true=>rw[hcl k hlk j hin] at hlj;cases hlj
   ·right
    obtain⟨x,y,e1,e2,e3,e4,e5,e6⟩:=hd.apart j k q hk hin
    rw[ho] at e1
    simp only[Option.some.injEq] at e1
    subst e1
    obtain⟨a1,a2,a3⟩:=Oper.apart_spec e3
    exact⟨y,e2,a3,fun d hd e=>a2 d e hd,e6,fun b hb hb'=>e5 b hb' hb⟩
 have hslot:∀t,t∈o.looksAt ops→(J0 ops st0.tm ev L ops.size)[t]? = (G3 ops st0 ev j).tm[t]? := by
  intro t ht
  show _=(J0 ops st0.tm ev (fun _=>true) j)[t]?
  rw[O4,O4,←a3z ops.size (Nat.le_of_lt hj)]
  refine I4 _ (fun k hk hu=> ?_)
  by_cases e:k=j
  ·subst e;simp [hlj]
  ·rcases hind k hk e with h1 | ⟨x,h1,h2,_⟩
   ·exact h1
   ·exfalso
    refine h2 t ?_ ht
    have:=b1B hu
    simpa [O5,h1] using this
 have hmem:∀id,id∈(ev j).inf.rd→(P9 ev L ops.size++st0.mem).get id=(G3 ops st0 ev j).mem.get id:=by
  intro id hid
  show _=(P9 ev (fun _=>true) j++st0.mem).get id
  rw[Mem.get_append,Mem.get_append,N5,N5,←a3z ops.size (Nat.le_of_lt hj)]
  congr 1
  refine I4 _ (fun k hk hu=> ?_)
  by_cases e:k=j
  ·subst e;simp [hlj]
  ·rcases hind k hk e with h1 | ⟨x,h1,_,_,h2,_⟩
   ·exact h1
   ·exfalso
    refine h2 id ?_ hid
    rw[(hg k hk).1]
    exact N9 hu
 have hopv:∀x∈o.op.operands,G2 (J0 ops st0.tm ev L ops.size) x=G2 (G3 ops st0 ev j).tm x:=by
  intro x hx
  cases x with
  | tmp t=>
    simp only[G2,List.getD_eq_getElem?_getD]
    rw[hslot t (a6R hx)]
  | _=>rfl
 have hrel:=hr0.step hinv.step
 have htm:∀v:V,v=(ev j).v→B5 (J0 ops st0.tm ev L ops.size) o.dst v=J0 ops st0.tm ev (fun k=>if k=j then true else L k) ops.size:=by
  intro v hv
  refine List.ext_getElem? (fun t=> ?_)
  rw[a6u,a6e,O4,O4,a1K ops.size hj hlj]
  ·congr 1
   simp [uT,O5,ho,hv]
  ·intro k h1 h2 h3 h4
   rcases hind k h2 (by omega) with h5 | ⟨x,h5,_,h6,_⟩
   ·rw[h5];simp;omega
   ·exfalso
    have e1:=b1B h3
    have e2:=b1B h4
    refine h6 t (by simpa [O5,h5] using e2) (by simpa [O5,ho] using e1)
 have hws:∀i,(P9 ev (fun k=>if k=j then true else L k) ops.size).get i=((ev j).ws++P9 ev L ops.size).get i:=by
  intro i
  rw[Mem.get_append,N5,N5,a1K ops.size hj hlj]
  intro k h1 h2 h3 h4
  rcases hind k h2 (by omega) with h5 | ⟨x,h5,_,_,_,h6⟩
  ·rw[h5];simp;omega
  ·exfalso
   refine h6 i ?_ ?_
   ·rw[(hg k h2).1];exact N9 h4
   ·rw[hwr];exact N9 h3
 unfold wpOpIn
 rw[ho]
 simp only
 have hwants:∀c,Z7 ops (G3 ops st0 ev j).tm o=some c→Region.wanted o (yielded ops a.tmps)=c:=by
  intro c hc
  refine a0y ?_ hinv.tm
  rw[←hc]
  unfold Z7
  cases hgd:o.guard with
  | none=>rfl
  | some p=>
    obtain⟨g,w⟩:=p
    simp only
    cases hdst:(ops[g]?).bind (·.dst) with
    | none=>rfl
    | some d=>simp only;rw[hslot d (a9G hgd hdst)]
 rcases hcase with ⟨hw,hv,hws0,hnx⟩ | ⟨hw,hrd,n,hn,q0,h1,h2,h3,h4⟩
 ·rw[hwants _ hw]
  simp only[Bool.false_eq_true,if_false]
  refine⟨fun _ _=>trivial,hK σ _ W ⟨?_,?_,?_,by rw[L4];exact hinv.df⟩⟩
  ·rw[←htm (.tup []) hv.symm]
   exact R0 hinv.tm (show(V.tup []).den ρ σ undef from a6k) _
  ·exact hinv.step.congr (fun i=>by rw[hws i,hws0];rfl)
  ·intro i hi
   rcases hinv.new i hi with h | ⟨k,k1,k2,k3⟩
   ·exact .inl h
   ·exact .inr ⟨k,k1,by show(if k=j then true else L k)=true;split<;>simp [k2],k3⟩
 ·rw[hwants _ hw]
  simp only[if_true]
  have hfr':Fr (M3 st0.nx ev j) q0.2.2 σ:=by
   intro i i1 i2
   have i2:i<M3 st0.nx ev (j+1):=by show i<(ev j).nx;rw[h3];exact i2
   intro hi
   ·rcases hinv.new i hi with h | ⟨k,k1,k2,k3,k4⟩
    ·have e1:=hmono j 0 (Nat.zero_le _) (Nat.le_of_lt hj)
     have e2:=hmono ops.size (j+1) hj (Nat.le_refl _)
     exact hfr i (Nat.le_trans e1 i1) (Nat.lt_of_lt_of_le i2 e2) h
    ·have hne:k≠j:=fun e=>by subst e;rw[hlj] at k2;cases k2
     rcases Nat.lt_or_ge k j with q | q
     ·have:=hmono j (k+1) q (Nat.le_of_lt hj)
      omega
     ·have:=hmono k (j+1) (by omega) (Nat.le_of_lt k1)
      omega
  have hrel2:RelM ρ σ ((G3 ops st0 ev j).mem.sub (a6a (G3 ops st0 ev j).mem (G2 (G3 ops st0 ev j).tm) o)) W:=hrel.sub (fun i b hb=>by
   obtain⟨e1,e2⟩:=c0C _ _ _ _ hb
   rw[hmem i (by rw[hrd];exact e1)]
   exact e2)
  refine hoper n hn o _ _ _ q0 h1 σ a W hrel2 hfr' (fun x hx=>by rw[←hopv x hx];exact E2 hinv.tm x) ro K Q (fun u W' σ' k1 k2 k3=>hK σ' _ W' ⟨?_,?_,?_,by rw[L4];exact hinv.df.ext k2.ext⟩)
  ·rw[←htm _ rfl]
   exact R0 (hinv.tm.mono (V.den_ext k2.ext)) (h4 _ _ k1) _
  ·refine Step.congr ?_ hws
   rw[h2]
   exact Step.trans (fun i k hi=>hr0.lt i k hi) hr0.inj hinv.step k2
  ·intro i hi
   rcases k3 i hi with h | ⟨h5,h6⟩
   ·rcases hinv.new i h with h | ⟨k,k1,k2,k3⟩
    ·exact .inl h
    ·exact .inr ⟨k,k1,by show(if k=j then true else L k)=true;split<;>simp [k2],k3⟩
   ·exact .inr ⟨j,hj,by simp,h5,by show i<(ev j).nx;rw[h3];exact h6⟩
theorem a2R{p q:Nat→Bool}:∀(l:List Nat),(∀x∈l,q x=true→p x=true)→∀y∈l,p y=true→q y=false→l.countP q<l.countP p
 | [],_,y,hy,_,_=>by simp at hy
 | x::l,h,y,hy,h1,h2=>by
   have le:∀l':List Nat,(∀x∈l',q x=true→p x=true)→l'.countP q≤l'.countP p:=fun l' hl=>List.countP_mono_left hl
   have le':=le l (fun x hx=>h x (List.mem_cons_of_mem _ hx))
   simp only[List.countP_cons]
   rcases List.mem_cons.1 hy with e | e
   ·subst e
    simp [h1,h2]
    omega
   ·have ih:=a2R l (fun x hx=>h x (List.mem_cons_of_mem _ hx)) y e h1 h2
    have:=h x (List.mem_cons_self ..)
    cases hq:q x with
    | false=>simp;omega
    | true=>simp [this hq];exact ih
theorem b8H{M:Nat}{ops:Array Oper}{st0:St}{ev:Nat→E1}{σ0:As}{W0:World}(hoper:∀n,n<M→a0i P ρ ct lt n)(hg:∀k,k<ops.size→a0P P ct lt ρ M ops (G3 ops st0 ev k) k (ev k))
 (hd:DrawSpec ops (fun k=>(ev k).inf)) (hr0:RelM ρ σ0 st0.mem W0) (hfr:Fr st0.nx (M3 st0.nx ev ops.size) σ0) {ro:Option Nat} {Q:Exit→Act→World→Prop}
 (hQ:∀σ a W,DInv P ρ ops st0 ev σ0 W0 (fun _=>true) σ a W→Q .normal a W):∀(fuel:Nat) (listed:Array Bool) (σ:As) (a:Act) (W:World),listed.size=ops.size→
 (List.range ops.size).countP (fun i=> !listed.getD i false)≤fuel→DInv P ρ ops st0 ev σ0 W0 (fun k=>listed.getD k false) σ a W→(∀i,listed.getD i false=true→∀x∈(N6 ops).getD i [],listed.getD x false=true)→
 wpAnyIn (FR ro) 0 P .any ops Q fuel listed a W:=by
 intro fuel
 have hready:∀(listed:Array Bool),listed.size=ops.size→Region.ready .any ops listed=[]→∀k,k<ops.size→listed.getD k false=true:=by
  intro listed hl hr k
  induction k using Nat.strongRecOn with
  | _ k ih=>
    intro hk
    have ho:ops[k]? = some ops[k]:=Array.getElem?_eq_getElem hk
    cases hb:listed.getD k false with
    | true=>rfl
    | false=>
      exfalso
      have:k∈Region.ready .any ops listed:=by
       unfold Region.ready
       rw[List.mem_filter,List.mem_range]
       refine⟨hk,?_⟩
       have hlk:listed.getD k true=false:=by
        have hb':=hb
        simp only[Array.getD_eq_getD_getElem?,Array.getElem?_eq_getElem (show k<listed.size by omega),Option.getD_some] at hb' ⊢
        exact hb'
       rw[hlk,ho]
       simp only[Bool.not_false,Bool.true_and,Option.map_some,Option.getD_some,Array.all_eq_true_iff_forall_mem,Bool.or_eq_true,Bool.not_eq_true']
       intro e he
       cases hbi:Region.binds .any e with
       | false=>exact .inl rfl
       | true=>
         have:=hd.on k _ ho e he hbi
         exact .inr (ih e.on this (by omega))
      rw[hr] at this
      simp at this
 have hdone:∀(listed:Array Bool) (σ:As) (a:Act) (W:World),listed.size=ops.size→(∀k,k<ops.size→listed.getD k false=true)→DInv P ρ ops st0 ev σ0 W0 (fun k=>listed.getD k false) σ a W→Q .normal a W:=by
  intro listed σ a W hl hall hinv
  refine hQ σ a W ⟨?_,?_,?_,hinv.df⟩
  ·refine DL.len_get hinv.tm (List.ext_getElem? (fun t=> ?_))
   rw[O4,O4]
   exact I4 _ (fun k hk _=>(hall k hk).symm)
  ·refine hinv.step.congr (fun i=> ?_)
   rw[N5,N5]
   exact I4 _ (fun k hk _=>(hall k hk).symm)
  ·intro i hi
   rcases hinv.new i hi with h | ⟨k,k1,k2,k3⟩
   ·exact .inl h
   ·exact .inr ⟨k,k1,rfl,k3⟩
 induction fuel with
 | zero=>
   intro listed σ a W hl hc hinv hcl
   have hall:∀k,k<ops.size→listed.getD k false=true:=by
    intro k hk
    have hz:(List.range ops.size).countP (fun i=> !listed.getD i false)=0:=by omega
    have:=List.countP_eq_zero.1 hz k (List.mem_range.2 hk)
    simpa using this
   refine⟨?_,hdone listed σ a W hl hall hinv⟩
   unfold Region.ready
   rw[List.filter_eq_nil_iff]
   intro k hk
   have h1:=hall k (List.mem_range.1 hk)
   have:listed.getD k true=true:=by
    simp only[Array.getD_eq_getD_getElem?,Array.getElem?_eq_getElem (show k<listed.size by have:=List.mem_range.1 hk;omega),Option.getD_some] at h1 ⊢
    exact h1
   rw[this]
   simp
 | succ fuel ih=>
   intro listed σ a W hl hc hinv hcl
   refine⟨fun hr=>hdone listed σ a W hl (hready listed hl hr) hinv,fun j hj=> ?_⟩
   unfold Region.ready at hj
   rw[List.mem_filter,List.mem_range] at hj
   obtain⟨hjs,hj2⟩:=hj
   have ho:ops[j]? = some ops[j]:=Array.getElem?_eq_getElem hjs
   rw[ho] at hj2
   simp only[Option.map_some,Option.getD_some,Bool.and_eq_true,Bool.not_eq_true',Array.all_eq_true_iff_forall_mem,Bool.or_eq_true] at hj2
   obtain⟨h1,h2⟩:=hj2
   have hlj:listed.getD j false=false:=by
    simp only[Array.getD_eq_getD_getElem?,Array.getElem?_eq_getElem (show j<listed.size by omega),Option.getD_some] at h1 ⊢
    exact h1
   have hanc:∀x∈(N6 ops).getD j [],listed.getD x false=true:=by
    intro x hx
    obtain⟨e,he,hb,hx⟩:=hd.inv j _ ho x hx
    have hon:listed.getD e.on false=true:=by
     rcases h2 e he with h | h
     ·rw[hb] at h;cases h
     ·exact h
    rcases hx with hx | hx
    ·subst hx;exact hon
    ·exact hcl _ hon x hx
   have hset:(fun k=>(listed.setIfInBounds j true).getD k false)=fun k=>if k=j then true else listed.getD k false:=by
    funext k
    simp only[Array.getD_eq_getD_getElem?,Array.getElem?_setIfInBounds]
    by_cases e:k=j
    ·subst e
     simp [show k<listed.size by omega]
    ·simp [e,Ne.symm e]
   refine b6w hoper hg hd hr0 hfr hinv hcl hjs hlj hanc (fun σ' a' W' hinv'=>ih _ σ' a' W' (by simp [hl]) ?_ (by rw[hset];exact hinv') ?_)
   ·have:=a2R (p:=fun i=> !listed.getD i false) (q:=fun i=> !(listed.setIfInBounds j true).getD i false) (List.range ops.size) (fun x _=>by
     have:=congrFun hset x
     rw[this]
     split<;>simp) j (List.mem_range.2 hjs) (by simp [hlj]) (by have:=congrFun hset j;rw[this];simp)
    omega
   ·intro i hi x hx
    have e1:=congrFun hset i
    have e2:=congrFun hset x
    rw[e1] at hi
    rw[e2]
    split
    ·rfl
    ·split at hi
     ·rename_i e;subst e;exact hanc x hx
     ·exact hcl i hi x hx
theorem b1i(n:Nat)(hoper:∀m,m<n→a0i P ρ ct lt m):a3X P ρ ct lt n:=by
 intro r ops st s' h σ a W hbeg hfr ro Q hQ
 obtain⟨ev,hg,rfl,hd⟩:=a8Q (M:=n) (st0:=st) n 0 st [] (fun _=>⟨V.any,[],0,⟨[],[]⟩⟩) h (Nat.zero_le _) (by simp [G3,J0,P9,M3]) rfl (fun k hk=>by omega) (Nat.le_refl _)
 have hds:=a9H hd
 have hfr:Fr st.nx (M3 st.nx ev ops.size) σ:=hfr
 have hmono:=a3F (fun k hk=>b1e (hg k hk))
 have hnone:∀k,(Array.replicate ops.size false).getD k false=false:=by
  intro k
  rw[Array.getD_eq_getD_getElem?,Array.getElem?_replicate]
  split<;>rfl
 refine b8H hoper hg hds hbeg.rel hfr (fun σ' a' W' hi=>hQ a' W' σ' ⟨⟨_,rfl,hi.step⟩,?_,hmono ops.size 0 (Nat.zero_le _) (Nat.le_refl _),hi.tm,hi.df⟩) ops.size _ σ a W (by simp) ?_ ?_ ?_
 ·intro i hx
  rcases hi.new i hx with h | ⟨k,k1,_,k2,k3⟩
  ·exact .inl h
  ·have e1:=hmono k 0 (Nat.zero_le _) (Nat.le_of_lt k1)
   have e2:=hmono ops.size (k+1) k1 (Nat.le_refl _)
   exact .inr ⟨Nat.le_trans e1 k2,Nat.lt_of_lt_of_le k3 e2⟩
 ·exact Nat.le_trans List.countP_le_length (by simp)
 ·have hL:(fun k=>(Array.replicate ops.size false).getD k false)=fun _=>false:=funext hnone
  rw[hL]
  refine⟨?_,?_,fun i hx=> .inl hx,hbeg.df⟩
  ·have:∀n,J0 ops st.tm ev (fun _=>false) n=st.tm:=by
    intro n
    induction n with
    | zero=>rfl
    | succ n ih=>simp [J0,ih]
   rw[this]
   exact hbeg.tm
  ·have:∀n,P9 ev (fun _=>false) n=[]:=by
    intro n
    induction n with
    | zero=>rfl
    | succ n ih=>simp [P9,ih]
   rw[this]
   exact Step.refl _ _ _
 ·intro i hi
  rw[hnone] at hi
  cases hi
structure AllOk (P:Program) (ρ:Env) (ct:Ct) (lt:Lt) (n:Nat):Prop where
 code:C9 P ρ ct lt n
 loop:a3L P ρ ct lt n
 rend:a0Q P ρ ct lt n
 ops:a1g P ρ ct lt n
 oper:a0i P ρ ct lt n
 round:a5A P ρ ct lt n
 call:a4y P ρ ct lt n
theorem a9l(hmix:P.follows .mixedOrders=true)(hce:O1 P ct):∀n,∀m,m≤n→∀ρ:Env,(∀ρ',Agree 0 ρ ρ'→CtOk P ρ' ct)→AllOk P ρ ct lt m
 | 0,m,hm,ρ,_=>by
   obtain rfl:m=0:=by omega
   exact⟨by intro w r c st p h;simp [code,T.res] at h,by intro w r c st p h;simp [code,T.res] at h,by intro r c st p h;simp [E7,T.res] at h,b8x,by intro o g m n q h;simp [oper,T.res] at h,by intro o g m n q h;simp [round,T.res] at h,by intro o g m n q h;simp [call,T.res] at h⟩
 | n+1,m,hm,ρ,hct=>by
   have ih:=a9l hmix hce n
   rcases Nat.lt_or_ge n m with q | q
   ·obtain rfl:m=n+1:=by omega
    have h:=ih n (Nat.le_refl _) ρ hct
    have hput:∀N v,C9 P (ρ.put N v) ct lt n:=fun N v=>(ih n (Nat.le_refl _) (ρ.put N v) (fun ρ' ha=>hct ρ' ((((Env.put_agree ρ N v).less (Nat.zero_le _)).symm).trans ha))).code
    have hloop:=c0X n h.code hput h.loop
    have hputO:∀N v,a1g P (ρ.put N v) ct lt n:=fun N v=>(ih n (Nat.le_refl _) (ρ.put N v) (fun ρ' ha=>hct ρ' ((((Env.put_agree ρ N v).less (Nat.zero_le _)).symm).trans ha))).ops
    have hputD:∀N v,a3X P (ρ.put N v) ct lt n:=fun N v=>b1i n (fun k hk=>(ih k (by omega) (ρ.put N v) (fun ρ' ha=>hct ρ' ((((Env.put_agree ρ N v).less (Nat.zero_le _)).symm).trans ha))).oper)
    exact⟨c0s hmix hce n h.code hput hloop h.ops hputO (b1i n (fun k hk=>(ih k (by omega) ρ hct).oper)) hputD h.call h.rend,hloop,a9W n h.code,c1U n h.oper h.ops,b9Y hce n h.call h.round,b6P n h.code,c0l (hct ρ (Agree.refl _ _)) n h.code⟩
   ·exact ih m q ρ hct
end
theorem Z2{P:Program}{ρ:Env}{ct:Ct}{lt:Lt}(hmix:P.follows .mixedOrders=true)(hct:∀ρ',Agree 0 ρ ρ'→CtOk P ρ' ct)(hce:O1 P ct){n:Nat}{f:FuncId}{args:List V}{mem:Mem}{nx c:Nat}{tr:TT i8}(he:T.norm 0 (call P ct lt n f args mem nx) TT.ret=tr)
 (hlow:tr.low c=true) {K:Env→i8→Prop} (hs:tr.sat ρ K (fun _ _=>False)) {σ:As} {vals:List Value} {W:World} (hr:∀ρ',Agree c ρ ρ'→RelM ρ' σ mem W) (hfr:∀k,nx≤k→¬σ.has k) (ha:∀ρ',Agree c ρ ρ'→DL (V.den ρ' σ) args vals):
 ∃ρ' q,Agree c ρ ρ'∧K ρ' q∧nx≤q.2.2∧CallsIn (FR none) 0 P f vals.toArray W (A8 ρ' σ W nx q):=by
 obtain⟨ρ',q,h1,h2,h3⟩:=T.res_of_flat he hlow hs
 refine⟨ρ',q,h1,h3,(mono n).call _ _ _ _ _ h2,?_⟩
 exact(a9l hmix hce n n (Nat.le_refl _) ρ' (fun ρ2 h=>hct ρ2 ((h1.less (Nat.zero_le _)).trans h))).call f args mem nx q h2 σ W vals (hr ρ' h1) (fun i h _=>hfr i h) (ha ρ' h1)
end Go.Proofs.YtbbjlleaofgddaaGreat
namespace Go.Proofs.YtbbjlleaofgddaaGreat
open Go.RowKit
def S0.val(ρ:Env):S0→Value | .bool b=> .bool (b.ev ρ) | .int k e=> .int k (e.ev ρ) | .const v=>v | _=>undef
def S0.plain:S0→Bool | .bool _ | .int _ _ | .const _=>true | _=>false
def S.val(ρ:Env):S→Value | .z s=>s.val ρ | _=>undef
def S.plain:S→Bool | .z s=>s.plain | _=>false
def V2.val(ρ:Env):V2→Value | .one s=>s.val ρ | .agg cs=> .agg (cs.map (S.val ρ)).toArray
def V2.plain:V2→Bool | .one s=>s.plain | .agg cs=>cs.all S.plain
def V.val(ρ:Env):V→Value | .v x=>x.val ρ | .tup l=> .tuple (l.map (V2.val ρ)).toArray
def V.plain:V→Bool | .v x=>x.plain | .tup l=>l.all V2.plain
section
variable {ρ:Env} {σ:As}
theorem S.val_den{s:S}(h:s.plain=true):s.den ρ σ (s.val ρ):=by
 cases s with
 | z s=>cases s<;>first | rfl | simp [S.plain,S0.plain] at h
 | iface t a cs=>simp [S.plain] at h
 | meth n t a cs=>simp [S.plain] at h
 | via t f a c=>simp [S.plain] at h
theorem a7I{α:Type}{R:α→Value→Prop}{f:α→Value}{p:α→Bool}(hp:∀x,p x=true→R x (f x)):∀ {l:List α},l.all p=true→DL R l (l.map f)
 | [],_=>trivial
 | x::l,h=>by
   simp only[List.all_cons,Bool.and_eq_true] at h
   exact⟨hp x h.1,a7I hp h.2⟩
theorem V2.val_den{s:V2}(h:s.plain=true):s.den ρ σ (s.val ρ):=by
 cases s with
 | one s=>exact S.val_den h
 | agg cs=>exact⟨_,a7I (fun _=>S.val_den) h,rfl⟩
theorem V.val_den{s:V}(h:s.plain=true):s.den ρ σ (s.val ρ):=by
 cases s with
 | v s=>exact V2.val_den h
 | tup cs=>exact⟨_,a7I (fun _=>V2.val_den) h,rfl⟩
theorem S.den_val{s:S}(h:s.plain=true){v:Value}(hd:s.den ρ σ v):v=s.val ρ:=by
 cases s with
 | z s=>cases s<;>first | exact hd | simp [S.plain,S0.plain] at h
 | iface t a cs=>simp [S.plain] at h
 | meth n t a cs=>simp [S.plain] at h
 | via t f a c=>simp [S.plain] at h
theorem a7E{α:Type}{R:α→Value→Prop}{f:α→Value}{p:α→Bool}(hp:∀x v,p x=true→R x v→v=f x):∀ {l:List α} {vs:List Value},l.all p=true→DL R l vs→vs=l.map f
 | [],vs,_,hd=>DL.nil_inv hd
 | x::l,vs,h,hd=>by
   simp only[List.all_cons,Bool.and_eq_true] at h
   obtain⟨v,vs',rfl,h1,h2⟩:=DL.cons_inv hd
   rw[hp x v h.1 h1,a7E hp h.2 h2]
   rfl
theorem V2.den_val{s:V2}(h:s.plain=true){v:Value}(hd:s.den ρ σ v):v=s.val ρ:=by
 cases s with
 | one s=>exact S.den_val h hd
 | agg cs=>
   obtain⟨vs,h1,rfl⟩:=hd
   rw[a7E (f:=S.val ρ) (fun x v hp hd=>S.den_val hp hd) h h1]
   rfl
theorem V.den_val{s:V}(h:s.plain=true){v:Value}(hd:s.den ρ σ v):v=s.val ρ:=by
 cases s with
 | v s=>exact V2.den_val h hd
 | tup cs=>
   obtain⟨vs,h1,rfl⟩:=hd
   rw[a7E (f:=V2.val ρ) (fun x v hp hd=>V2.den_val hp hd) h h1]
   rfl
end
inductive Sh where | one (k:CK) | agg (ks:List CK)
def Sh.rep(w:World):Sh→Value→List D→Prop
 | .one k,v,ds=>∃d,ds=[d]∧CK.rep w k v d
 | .agg ks,v,ds=>∃vs,v= .agg vs.toArray∧CK.reps w ks vs ds
def D8(w:World):List Sh→List Value→List D→Prop
 | [],vs,ds=>vs=[]∧ds=[]
 | s::sh,vs,ds=>∃v vs' d ds',vs=v::vs'∧ds=d++ds'∧s.rep w v d∧D8 w sh vs' ds'
section
variable (mem:Mem)
def a3G(f:CK→S→Option AL)(k:CK)(s:S):Option AL:=match f k s with
 | some a=>some a
 | none=>match k,s with
   | .sl ks,.z (.sl id off len (some c))=>match mem.get id with
     | some (.cells _ cs)=>if decide (len≤c)&&decide (len≤1000000)&&decide (off+len*ks.length≤cs.length) then(X0 f ks len (cs.drop off)).map fun x=> .x x .nil else none
     | _=>none
   | _,_=>none
def a7i(f:CK→S→Option AL)(k:CK)(s:S):Option AL:=match f k s with
 | some a=>some a
 | none=>match k,s with
   | .sl ks,.z s=>match C0 mem s with
     | some q=>if CK.sameL ks q.ks then some (.x q.x .nil) else none
     | none=>none
   | _,_=>none
def b1C(k:CK)(s:S):Option AL:=a7i mem (a3G mem (a7i mem (a3G mem B7))) k s
def c3y(sh:Sh)(v:V):Option AL:=match sh,v with
 | .one k,.v (.one s)=>b1C mem k s
 | .agg ks,.v (.agg cs)=>L3 (b1C mem) ks cs
 | _,_=>none
def Z3:List Sh→List V→Option AL
 | [],[]=>some .nil
 | s::sh,v::vs=>match c3y mem s v,Z3 sh vs with | some a,some b=>some (a.app b) | _,_=>none
 | _,_=>none
end
section
variable {ρ:Env} {σ:As} {mem:Mem} {W:World}
theorem a6y(hr:RelM ρ σ mem W){f:CK→S→Option AL}(hf:Q6 ρ σ W f):Q6 ρ σ W (a3G mem f):=by
 intro k s a h v hd
 unfold a3G at h
 split at h
 ·rename_i a' h1
  simp only[Option.some.injEq] at h
  subst h
  exact hf k s _ h1 v hd
 ·split at h
  ·rename_i ks id off len c _
   split at h
   ·rename_i t cs hm
    split at h
    ·rename_i hc
     simp only[Bool.and_eq_true,decide_eq_true_eq] at hc
     obtain⟨⟨c1,c2⟩,c3⟩:=hc
     simp only[Option.map_eq_some_iff] at h
     obtain⟨x,hx,rfl⟩:=h
     obtain⟨b,h1,rfl⟩:=hd
     obtain⟨b',h2,vs,h3,h4⟩:=hr.blk _ _ hm
     rw[h1] at h2
     simp only[Option.some.injEq] at h2
     subst h2
     obtain⟨e1,e2⟩:=V0 hf ks len _ x hx _ (h3.drop off) (by rw[List.length_drop];omega)
     refine⟨.l (x.ev ρ),by simp [AL.ev],x9.2 ⟨_,rfl,some ⟨b,off,none⟩,len,c,rfl,⟨e1,c1,by omega,fun _=>rfl,fun q hq=> ?_⟩,by simp⟩⟩
     simp only[Option.some.injEq] at hq
     subst hq
     intro i row hi
     refine⟨_,e2 i row hi,fun j u hj=> ?_⟩
     rw[m9,t9 h4]
     have hj':j<ks.length:=by
      rcases Nat.lt_or_ge j ks.length with q | q
      ·exact q
      ·rw[List.getElem?_eq_none (by simp;omega)] at hj;simp at hj
     rw[List.getElem?_take_of_lt hj',List.getElem?_drop,List.getElem?_drop] at hj
     simp only[List.getElem?_toArray]
     rw[←hj]
    ·cases h
   ·cases h
  ·cases h
theorem RowsAt.sl{w:World}(hb:Below w.heap.size w W){ks:List CK}{a:Option Addr}{n c:Nat}{r:Rows}{xs:List Value}(h:RowsAt w ks xs r)(hn:n=r.length)(hc:n≤c)(hbig:n≤281474976710656)(ht:0<n→a.isSome=true)(hcell:∀b,a=some b→∀j v,xs[j]? = some v→W.cell? (b.add j)=some v):
 SlAt W ks a n c r:=by
 refine⟨hn.symm,hc,hbig,ht,fun b hb' i row hi=>⟨_,CK.reps_below hb _ _ _ (h.2 i row hi),fun j v hj=> ?_⟩⟩
 have hj':j<ks.length:=by
  rcases Nat.lt_or_ge j ks.length with e | e
  ·exact e
  ·rw[List.getElem?_eq_none (by rw[List.length_take];omega)] at hj;cases hj
 rw[List.getElem?_take_of_lt hj',List.getElem?_drop] at hj
 exact hcell b hb' _ v hj
theorem a7Z(hr:RelM ρ σ mem W){f:CK→S→Option AL}(hf:Q6 ρ σ W f):Q6 ρ σ W (a7i mem f):=by
 intro k s a h v hd
 unfold a7i at h
 split at h
 ·rename_i a' h1
  simp only[Option.some.injEq] at h
  subst h
  exact hf k s _ h1 v hd
 ·split at h
  ·rename_i ks s0
   split at h
   ·rename_i q hq
    split at h
    ·rename_i hk
     obtain rfl:=CK.sameL_eq _ _ hk
     simp only[Option.some.injEq] at h
     subst h
     obtain⟨b,n,c,a0,n0,c0,xs,rfl,hnow,hnc,hbig,_⟩:=B1 hq hd hr
     exact⟨.l (q.x.ev ρ),by simp [AL.ev],x9.2 ⟨_,rfl,b,n,c,rfl,hnow.rows.sl hr.base hnow.len hnc hbig hnow.there hnow.cell,by simp⟩⟩
    ·cases h
   ·cases h
  ·cases h
theorem a7H(hr:RelM ρ σ mem W):Q6 ρ σ W (b1C mem):=a7Z hr (a6y hr (a7Z hr (a6y hr (y4 hr.base))))
theorem a3n(hr:RelM ρ σ mem W):∀(sh:List Sh) (args:List V) (a:AL),Z3 mem sh args=some a→∀vals,DL (V.den ρ σ) args vals→D8 W sh vals (a.ev ρ)
 | [],[],a,h,vals,hd=>by
   simp only[Z3,Option.some.injEq] at h
   subst h
   exact⟨DL.nil_inv hd,by simp [AL.ev]⟩
 | s::sh,v::vs,a,h,vals,hd=>by
   simp only[Z3] at h
   split at h
   ·rename_i a1 a2 h1 h2
    simp only[Option.some.injEq] at h
    subst h
    obtain⟨u,us,rfl,e1,e2⟩:=DL.cons_inv hd
    refine⟨u,us,a1.ev ρ,a2.ev ρ,rfl,AL.app_ev _ _ _,?_,a3n hr sh vs a2 h2 us e2⟩
    unfold c3y at h1
    split at h1
    ·obtain⟨d,e3,e4⟩:=a7H hr _ _ _ h1 u e1
     exact⟨d,e3,e4⟩
    ·obtain⟨ws,e3,rfl⟩:=e1
     exact⟨ws,rfl,F7 (a7H hr) _ _ _ h1 ws e3⟩
    ·cases h1
   ·cases h
 | [],_::_,a,h,_,_=>by simp [Z3] at h
 | _::_,[],a,h,_,_=>by simp [Z3] at h
end
def o9(sh:List Sh)(out:AL→T V)(args:List V)(mem:Mem)(nx:Nat):T i8:=match Z3 mem sh args with
 | some al=>(out al).bind fun v=> .ret (v,[],nx)
 | none=> .stuck "contract"
def k8(P:Program)(f:FuncId)(sh:List Sh)(g:List D→Value):Prop:=∀(W:World) (vals:List Value) (ds:List D),D8 W sh vals ds→Calls P f vals.toArray W (fun e W'=>e= .returned (g ds)∧Below W.heap.size W W')
def GivesIf(P:Program)(f:FuncId)(sh:List Sh)(ok:List D→Prop)(g:List D→Value):Prop:=∀(W:World) (vals:List Value) (ds:List D),D8 W sh vals ds→ok ds→Calls P f vals.toArray W (fun e W'=>e= .returned (g ds)∧Below W.heap.size W W')
def As.none:As:=⟨fun _=> .none,fun _ _=> .none⟩
theorem U9(i:Nat):¬As.none.has i:=by rintro(⟨a,h⟩ | ⟨n,v,h⟩)<;>cases h
theorem y7(i k:Nat):¬As.none.own i k:=fun h=>U9 i (As.own_has h)
def CK.flat:CK→Bool | .sl _=>false | _=>true
theorem b6S{w w':World}{k:CK}(hk:k.flat=true){v:Value}{d:D}(h:CK.rep w k v d):CK.rep w' k v d:=by
 cases k with
 | int k=>unfold CK.rep at h ⊢;exact h
 | bool=>unfold CK.rep at h ⊢;exact h
 | sl ks=>cases hk
theorem a6q{w w':World}:∀ {ks:List CK},ks.all CK.flat=true→∀ {vs:List Value} {ds:List D},CK.reps w ks vs ds→CK.reps w' ks vs ds
 | [],_,vs,ds,h=>by unfold CK.reps at h ⊢;exact h
 | k::ks,hk,vs,ds,h=>by
   simp only[List.all_cons,Bool.and_eq_true] at hk
   unfold CK.reps at h ⊢
   obtain⟨v,vs',d,ds',e1,e2,h1,h2⟩:=h
   exact⟨v,vs',d,ds',e1,e2,b6S hk.1 h1,a6q hk.2 h2⟩
section
variable {P:Program} {ct:Ct} {lt:Lt} {ρ:Env}
theorem b3s{W W':World}{e:TypeId}{size:Nat}{v:Value}{n:Nat}{xs:List Value}(h:OwnRow W' W.heap.size e size v n xs){k:Nat}(hk:j9 v=some k):W.heap.size≤k∧k<W'.heap.size:=h.lt hk
theorem OwnRow.base{W:World}{base base':Nat}{e:TypeId}{size:Nat}{v:Value}{n:Nat}{xs:List Value}(h:OwnRow W base e size v n xs)(hb:base'≤base):OwnRow W base' e size v n xs:=by
 rcases h with ⟨h1,h2⟩ | h
 ·rcases h2 with h2 | ⟨g,cap,cur,e1,e2,r⟩
  ·exact .inl ⟨h1,.inl h2⟩
  ·exact .inl ⟨h1,.inr ⟨g,cap,cur,e1,Nat.le_trans hb e2,r⟩⟩
 ·exact .inr h
theorem CtOk.nil:CtOk P ρ []:=fun f c h=>by simp [Ct.find] at h
theorem CtOk.cons{f:FuncId}{c:List V→Mem→Nat→T i8}(h:i4 P ρ f c)(hs:CtOk P ρ ct):CtOk P ρ ((f,c)::ct):=by
 intro g d hd
 simp only[Ct.find] at hd
 split at hd
 ·rename_i e
  simp only[beq_iff_eq] at e
  subst e
  simp only[Option.some.injEq] at hd
  subst hd
  exact h
 ·exact hs g d hd
theorem a0t{f:FuncId}{sh:List Sh}{out:AL→T V}{ok:List D→Prop}{g:List D→Value}(hg:GivesIf P f sh ok g)(h:∀al v,(out al).res ρ v→v.plain=true∧ok (al.ev ρ)∧v.val ρ=g (al.ev ρ)):i4 P ρ f (o9 sh out):=by
 intro args mem nx q hq hle σ W vals hr hfr hd
 unfold o9 at hq
 split at hq
 ·rename_i al ha
  obtain⟨v,h1,h2⟩:=T.res_bind hq
  obtain rfl:=g9 h2
  obtain⟨h3,h4,h5⟩:=h al v h1
  have hc:=hg W vals (al.ev ρ) (a3n hr sh args al ha vals hd) h4
  have hw:CallsIn Fence.wide 0 P f vals.toArray W _:=callsIn_wide.2 hc
  refine CallsIn.mono (F:=FR none) hw ?_
  rintro e W' ⟨rfl,hb⟩
  exact⟨_,σ,rfl,by rw[←h5];exact V.val_den h3,Step.below hb,New.refl _ _ _⟩
 ·exact hq.elim
theorem j4{f:FuncId}{sh:List Sh}{out:AL→V}{g:List D→Value}(hg:k8 P f sh g)(hp:∀al,(out al).plain=true)(h:∀al,(out al).val ρ=g (al.ev ρ)):i4 P ρ f (o9 sh fun al=> .ret (out al)):=
 a0t (ok:=fun _=>True) (fun W vals ds hr _=>hg W vals ds hr) (fun al v hv=>by obtain rfl:=g9 hv;exact⟨hp al,trivial,h al⟩)
def G0(P:Program)(f:FuncId):Bool:=match P.funcs[f]? with | some fn=> !(fn.name == "runtime.NumGoroutine")&&fn.body.isSome | none=>false
theorem a8F{f:FuncId}(h:G0 P f=true):Z5 P f:=by
 unfold G0 at h
 split at h
 ·rename_i fn hf
  simp only[Bool.and_eq_true,Bool.not_eq_true'] at h
  obtain⟨h1,h2⟩:=h
  obtain⟨c,hc⟩:=Option.isSome_iff_exists.1 h2
  intro args W
  exact a2d hf h1 hc args W
 ·simp at h
theorem L6(h:ct.all (fun p=>G0 P p.1)=true):O1 P ct:=by
 induction ct with
 | nil=>intro f c hf;simp [Ct.find] at hf
 | cons p ct ih=>
   obtain⟨g,c⟩:=p
   simp only[List.all_cons,Bool.and_eq_true] at h
   intro f d hf
   simp only[Ct.find] at hf
   split at hf
   ·rename_i e
    simp only[beq_iff_eq] at e
    subst e
    exact a8F h.1
   ·exact ih h.2 f d hf
def a2y(j:Nat):CK→S
 | .int k=> .z (.int k (.var j))
 | .bool=> .z (.bool (.var j))
 | .sl ks=> .z (.ext ks (.var j) false)
def E4:Nat→List CK→List S
 | _,[]=>[]
 | j,k::ks=>a2y j k::E4 (j+1) ks
def i5:Nat→List Sh→List V
 | _,[]=>[]
 | j,.one k::r=> .v (.one (a2y j k))::i5 (j+1) r
 | j,.agg ks::r=> .v (.agg (E4 j ks))::i5 (j+ks.length) r
structure Interp where
 fi:Nat→List D→Int
 fb:Nat→List D→Bool
 fd:Nat→List D→Rows
def g8(I:Interp)(W:World)(ds:List D):Env:= { i:=fun k=>(ds.getD k (.i 0)).int,b:=fun k=>(ds.getD k (.i 0)).bool,d:=fun k=>(ds.getD k (.i 0)).rows,fi:=I.fi,fb:=I.fb,fd:=I.fd,w:=W }
def Env.has(ρ:Env)(I:Interp):Prop:=ρ.fi=I.fi∧ρ.fb=I.fb∧ρ.fd=I.fd
theorem a0f{W:World}{ds:List D}{I:Interp}{ρ:Env}{c:Nat}(ha:Agree c (g8 I W ds) ρ){σ:As}{j:Nat}(hj:j<c){k:CK}{v:Value}{d:D}(hd:ds[j]? = some d)(h:CK.rep W k v d):(a2y j k).den ρ σ v:=by
 have e:ds.getD j (.i 0)=d:=by simp [List.getD_eq_getElem?_getD,hd]
 cases k with
 | int k=>
   unfold CK.rep at h
   obtain⟨n,rfl,rfl⟩:=h
   show Value.int k n= .int k _
   simp only[E.ev,←ha.i j hj]
   simp only[g8,e,D.int]
 | bool=>
   unfold CK.rep at h
   obtain⟨n,rfl,rfl⟩:=h
   show Value.bool n= .bool _
   simp only[B.ev,←ha.b j hj]
   simp only[g8,e,D.bool]
 | sl ks=>
   rw[x9] at h
   obtain⟨r,rfl,h⟩:=h
   show Sl ρ.w ks v _ false
   simp only[X.ev,←ha.d j hj,←ha.w]
   simp only[g8,e,D.rows]
   exact h
theorem M2{W:World}{ds:List D}{I:Interp}{ρ:Env}{c:Nat}(ha:Agree c (g8 I W ds) ρ){σ:As}:∀(ks:List CK) (j:Nat) (vs:List Value) (pre row post:List D),ds=pre++row++post→pre.length=j→j+ks.length≤c→CK.reps W ks vs row→DL (S.den ρ σ) (E4 j ks) vs
 | [],j,vs,pre,row,post,_,_,_,h=>by unfold CK.reps at h;rw[h.1];trivial
 | k::ks,j,vs,pre,row,post,hds,hj,hc,h=>by
   unfold CK.reps at h
   obtain⟨v,vs',d,row',rfl,rfl,h1,h2⟩:=h
   simp only[List.length_cons] at hc
   refine⟨a0f ha (by omega) (d:=d) ?_ h1,M2 ha ks (j+1) vs' (pre++[d]) row' post (by simp [hds]) (by simp [hj]) (by omega) h2⟩
   rw[hds,←hj]
   simp
def Y6:List Sh→Nat
 | []=>0
 | .one _::r=>Y6 r+1
 | .agg ks::r=>ks.length+Y6 r
theorem P5{W:World}{ds:List D}{I:Interp}{ρ:Env}{c:Nat}(ha:Agree c (g8 I W ds) ρ){σ:As}:∀(sh:List Sh) (j:Nat) (vs:List Value) (pre row:List D),ds=pre++row→pre.length=j→j+Y6 sh≤c→D8 W sh vs row→DL (V.den ρ σ) (i5 j sh) vs
 | [],j,vs,pre,row,_,_,_,h=>by rw[h.1];trivial
 | .one k::sh,j,vs,pre,row,hds,hj,hc,h=>by
   obtain⟨v,vs',d,row',rfl,rfl,⟨d0,rfl,h1⟩,h2⟩:=h
   simp only[Y6] at hc
   refine⟨a0f ha (by omega) (d:=d0) ?_ h1,P5 ha sh (j+1) vs' (pre++[d0]) row' (by simp [hds]) (by simp [hj]) (by omega) h2⟩
   rw[hds,←hj]
   simp
 | .agg ks::sh,j,vs,pre,row,hds,hj,hc,h=>by
   obtain⟨v,vs',d,row',rfl,rfl,⟨us,rfl,h1⟩,h2⟩:=h
   simp only[Y6] at hc
   have hl:=(w9 h1).2
   refine⟨⟨us,M2 ha ks j us pre d row' (by simp [hds]) hj (by omega) h1,rfl⟩,P5 ha sh (j+ks.length) vs' (pre++d) row' (by simp [hds]) (by simp [hj,hl]) (by omega) h2⟩
theorem i6(I:Interp)(hmix:P.follows .mixedOrders=true)(hct:∀ρ,ρ.has I→CtOk P ρ ct)(hce:ct.all (fun p=>G0 P p.1)=true){n:Nat}{f:FuncId}{sh:List Sh}{tr:TT i8}(he:T.norm 0 (call P ct lt n f (i5 0 sh) [] 0) TT.ret=tr)
 (hlow:tr.low 1000=true) (hsh:Y6 sh≤1000) {ok:List D→Prop} {g:List D→Value} (hs:∀W vals ds,D8 W sh vals ds→ok ds→tr.sat (g8 I W ds) (fun ρ q=>q.1.plain=true∧q.1.val ρ=g ds) (fun _ _=>False)):GivesIf P f sh ok g:=by
 intro W vals ds hr hok
 obtain⟨ρ',q,h1,⟨h2,h3⟩,_,h5⟩:=Z2 (lt:=lt) hmix (fun ρ' ha=>hct ρ' ⟨ha.fi.symm,ha.fb.symm,ha.fd.symm⟩) (L6 hce) he hlow (hs W vals ds hr hok) (σ:=As.none) (W:=W) (vals:=vals)
  (fun ρ' ha=>⟨fun id b h=>by simp [Mem.get] at h,fun i j a h=>absurd h (y7 _ _),fun i a h=>absurd h (y7 _ _),fun i a h=>absurd h (y7 _ _),by rw[←ha.w];exact Below.refl _ _⟩) (fun k _=>U9 k) (fun ρ' ha=>P5 ha sh 0 vals [] ds rfl rfl (by omega) hr)
 refine(callsIn_wide (n:=0)).1 ?_
 have h':CallsIn Fence.wide 0 P f vals.toArray W (A8 ρ' As.none W 0 q):=h5
 refine CallsIn.mono h' ?_
 rintro e W' ⟨u,σ',rfl,e1,e2,e3⟩
 refine⟨by rw[V.den_val h2 e1,h3],?_⟩
 exact⟨e2.os,e2.tape,e2.output,e2.size,fun k hk=>e2.frame k hk (fun i b _ e=>y7 _ _ e)⟩
def a2A(ws:Mem)(e:TypeId)(ks:List CK):S0→Option X
 | .own id ver=>match ws.get id with
   | some (.own e' ks' x v)=>if Nat.beq e e'&&CK.sameL ks ks'&&E.same ver v then some x else none
   | _=>none
 | .const (.slice none 0 0)=>some .nil
 | _=>none
theorem GivesIf.all{f:FuncId}{sh:List Sh}{g:List D→Value}(h:GivesIf P f sh (fun _=>True) g):k8 P f sh g:=fun W vals ds hr=>h W vals ds hr trivial
end
end Go.Proofs.YtbbjlleaofgddaaGreat
namespace Go.Proofs.YtbbjlleaofgddaaGreat
open Go.RowKit
def F0(P:Program)(f:TypeId→Bool):Nat→List Field→Option Nat
 | off,[]=>some off
 | off,x::r=>if Nat.beq x.offset off&&f x.type then F0 P f (off+P.cellsOf x.type) r else none
def L7(P:Program):Nat→TypeId→Bool
 | 0,_=>false
 | n+1,t=>match P.underlying t with
   | some (.int _)=>Nat.beq (P.cellsOf t) 1
   | some .bool=>Nat.beq (P.cellsOf t) 1
   | some (.slice e)=>Nat.beq (P.cellsOf t) 1&&Nat.ble 1 (P.bytesOf e)&&L7 P n e
   | some (.struct fs)=>match F0 P (L7 P n) 0 fs.toList with | some m=>Nat.beq m (P.cellsOf t) | none=>false
   | some (.array m e)=>L7 P n e&&Nat.beq (m*P.cellsOf e) (P.cellsOf t)
   | _=>false
theorem Q0{P:Program}:∀(n:Nat) (t:TypeId) (ks:List CK),A4 P n t=some ks→L7 P n t=true→ks.length=P.cellsOf t
 | 0,t,ks,h,_=>by simp [A4] at h
 | n+1,t,ks,h,hf=>by
   unfold A4 at h
   unfold L7 at hf
   split at h
   ·rename_i k hu
    rw[hu] at hf
    simp only at hf
    simp only[Option.some.injEq] at h
    subst h
    exact(i9 hf).symm
   ·rename_i hu
    rw[hu] at hf
    simp only at hf
    simp only[Option.some.injEq] at h
    subst h
    exact(i9 hf).symm
   ·rename_i e hu
    rw[hu] at hf
    simp only at hf
    simp only[Bool.and_eq_true] at hf
    simp only[Option.map_eq_some_iff] at h
    obtain⟨l,_,rfl⟩:=h
    exact(i9 hf.1.1).symm
   ·rename_i fs hu
    rw[hu] at hf
    simp only at hf
    have key:∀(l:List Field) (off m:Nat) (ks:List CK),F0 P (L7 P n) off l=some m→R2 (A4 P n) l=some ks→off+ks.length=m:=by
     intro l
     induction l with
     | nil=>intro off m ks h1 h2;simp only[F0,Option.some.injEq] at h1;simp only[R2,Option.some.injEq] at h2;subst h1 h2;rfl
     | cons x l ih=>
       intro off m ks h1 h2
       simp only[F0] at h1
       simp only[R2] at h2
       split at h1
       ·rename_i hc
        simp only[Bool.and_eq_true] at hc
        split at h2
        ·rename_i a b ha hb
         simp only[Option.some.injEq] at h2
         subst h2
         have e1:=Q0 n x.type a ha hc.2
         have e2:=ih _ _ _ h1 hb
         rw[List.length_append]
         omega
        ·cases h2
       ·cases h1
    split at hf
    ·rename_i m hm
     have:=key _ _ _ _ hm h
     have:=i9 hf
     omega
    ·cases hf
   ·rename_i m e hu
    rw[hu] at hf
    simp only at hf
    simp only[Bool.and_eq_true] at hf
    simp only[Option.map_eq_some_iff] at h
    obtain⟨l,hl,rfl⟩:=h
    have e1:=Q0 n e l hl hf.1
    have e2:=i9 hf.2
    simp only[List.length_flatten,List.map_replicate,List.sum_replicate_nat,e1]
    exact e2
   ·cases h
theorem a2X{w:World}:∀ {ks ks':List CK} {vs vs':List Value} {ds ds':List D},CK.reps w ks vs ds→CK.reps w ks' vs' ds'→CK.reps w (ks++ks') (vs++vs') (ds++ds')
 | [],ks',vs,vs',ds,ds',h,h'=>by unfold CK.reps at h;rw[h.1,h.2];exact h'
 | k::ks,ks',vs,vs',ds,ds',h,h'=>by
   unfold CK.reps at h
   obtain⟨v,us,d,es,rfl,rfl,h1,h2⟩:=h
   show CK.reps w (k::(ks++ks')) _ _
   unfold CK.reps
   exact⟨v,us++vs',d,es++ds',rfl,rfl,h1,a2X h2 h'⟩
theorem b8b{w:World}{base:Nat}{a:Addr}{n:Nat}{cs:List Value}(h:w.cells? base a n=some cs):cs.length=n∧∀(j:Nat) (v:Value),cs[j]? = some v→w.cell? (a.add j)=some v:=by
 obtain⟨_,h1,h2⟩:=World.cells?_some h
 refine⟨h1,fun j v hj=> ?_⟩
 have hj':j<n:=by have:=(List.getElem?_eq_some_iff.1 hj).1;omega
 rw[h2 j hj',hj]
section
variable {H:Type} {enc:TypeId×Value→H} {P:Program} {w:World} {spare:Nat→Bool} {held:Bool}
theorem a0Y:∀(n:Nat) (t:TypeId) (ks:List CK),A4 P n t=some ks→L7 P n t=true→∀(fuel:Nat) (cs:List Value) (d:DataW H) (ps:List MemPlace),DataW.trod enc P w 0 spare held fuel t cs=some (d,ps)→
 (d.weights P t).all (· ≤ reachBytes)=true→∃ds,CK.reps w ks cs ds
 | 0,t,ks,h,_,_,_,_,_,_,_=>by simp [A4] at h
 | n+1,t,ks,h,hf,fuel,cs,d,ps,ht,hw=>by
   unfold A4 at h
   unfold L7 at hf
   split at h
   ·rename_i k hu
    simp only[Option.some.injEq] at h
    subst h
    obtain⟨m,rfl,_,_⟩:=DataW.trod_int hu ht
    refine⟨[.i m],?_⟩
    unfold CK.reps CK.reps CK.rep
    exact⟨_,_,_,_,rfl,rfl,⟨m,rfl,rfl⟩,rfl,rfl⟩
   ·rename_i hu
    simp only[Option.some.injEq] at h
    subst h
    obtain⟨m,rfl,_⟩:=DataW.trod_bool hu ht
    refine⟨[.b m],?_⟩
    unfold CK.reps CK.reps CK.rep
    exact⟨_,_,_,_,rfl,rfl,⟨m,rfl,rfl⟩,rfl,rfl⟩
   ·rename_i e hu
    rw[hu] at hf
    simp only at hf
    simp only[Bool.and_eq_true] at hf
    obtain⟨⟨_,f2⟩,f3⟩:=hf
    simp only[Option.map_eq_some_iff] at h
    obtain⟨l,hl,rfl⟩:=h
    have one:∀(v:Value) (r:Rows),Sl w l v r false→∃ds,CK.reps w [.sl l] [v] ds:=fun v r hs=>⟨[.l r],by
     unfold CK.reps CK.reps
     exact⟨_,_,_,_,rfl,rfl,x9.2 ⟨r,rfl,hs⟩,rfl,rfl⟩⟩
    rcases DataW.trod_slice hu ht with ⟨rfl,_⟩ | ⟨a,len,cap,elems,rest,m,_,rfl,hx,_,hlc,_,hlen,hel,_,_⟩
    ·exact one _ [] (b5b w l)
    ·simp only[Prod.mk.injEq] at hx
     obtain⟨rfl,_⟩:=hx
     simp only[DataW.weights,hu,List.all_cons,Bool.and_eq_true,decide_eq_true_eq,List.all_append] at hw
     obtain⟨hw1,hw2,_⟩:=hw
     have hkl:=Q0 n e l hl f3
     have each:∀i,i<len→∃row vs,CK.reps w l vs row∧∀(j:Nat) (v:Value),vs[j]? = some v→w.cell? (a.add (i*l.length+j))=some v:=by
      intro i hi
      have h1:=hel i hi
      rw[List.getElem?_eq_getElem (by omega)] at h1
      simp only[Option.bind_eq_some_iff] at h1
      obtain⟨vs,h2,h3⟩:=h1
      obtain⟨c1,c2⟩:=b8b h2
      have hwe:∀(l:List (DataW H)) (x:DataW H),x∈l→(DataW.weightsAll P e l).all (· ≤ reachBytes)=true→(x.weights P e).all (· ≤ reachBytes)=true:=by
       intro l x hx hl
       induction l with
       | nil=>simp at hx
       | cons y l ih=>
         simp only[DataW.weightsAll,List.all_append,Bool.and_eq_true] at hl
         rcases List.mem_cons.1 hx with e | hx
         ·subst e;exact hl.1
         ·exact ih hx hl.2
      obtain⟨row,hrow⟩:=a0Y n e l hl f3 m vs (elems[i]'(by omega)).1 (elems[i]'(by omega)).2 h3 (hwe _ _ (List.mem_map.2 ⟨_,List.getElem_mem (by omega),rfl⟩) hw2)
      refine⟨row,vs,hrow,fun j v hj=> ?_⟩
      rw[←J5,hkl]
      exact c2 j v hj
     obtain⟨rows,hr1,hr2⟩:∃rows:Rows,rows.length=len∧∀i row,rows[i]? = some row→∃vs,CK.reps w l vs row∧∀(j:Nat) (v:Value),vs[j]? = some v→w.cell? (a.add (i*l.length+j))=some v:=by
      have:∀k,k≤len→∃rows:Rows,rows.length=k∧∀i row,rows[i]? = some row→∃vs,CK.reps w l vs row∧∀(j:Nat) (v:Value),vs[j]? = some v→w.cell? (a.add (i*l.length+j))=some v:=by
       intro k
       induction k with
       | zero=>intro _;exact⟨[],rfl,fun i row h=>by simp at h⟩
       | succ k ih=>
         intro hk
         obtain⟨rows,e1,e2⟩:=ih (by omega)
         obtain⟨row,vs,e3,e4⟩:=each k (by omega)
         refine⟨rows++[row],by simp [e1],fun i row' hi=> ?_⟩
         rcases Nat.lt_or_ge i k with q | q
         ·rw[List.getElem?_append_left (by omega)] at hi
          exact e2 i row' hi
         ·rw[List.getElem?_append_right (by omega)] at hi
          have hik:i=k:=by
           rcases Nat.lt_or_ge k i with q2 | q2
           ·rw[List.getElem?_eq_none (by simp;omega)] at hi;simp at hi
           ·omega
          subst hik
          rw[e1,Nat.sub_self] at hi
          simp only[List.getElem?_cons_zero,Option.some.injEq] at hi
          subst hi
          exact⟨vs,e3,e4⟩
      exact this len (Nat.le_refl _)
     refine one _ rows ⟨some a,len,cap,rfl,⟨hr1,hlc,?_,fun _=>rfl,fun b hb=> ?_⟩,by simp⟩
     ·have f2:=a0n f2
      simp only[List.length_map] at hw1
      have:elems.length≤(elems.length+rest.length)*P.bytesOf e:=Nat.le_trans (Nat.le_add_right _ _) (Nat.le_mul_of_pos_right _ f2)
      have hb:reachBytes<281474976710656:=by decide
      omega
     ·simp only[Option.some.injEq] at hb
      subst hb
      exact hr2
   ·rename_i fs hu
    rw[hu] at hf
    simp only at hf
    split at hf
    ·rename_i mm hm
     have hmm:=i9 hf
     obtain⟨xs,m,_,hx,hcl,hxl,hxs⟩:=DataW.trod_struct hu ht
     simp only[Prod.mk.injEq] at hx
     obtain⟨rfl,_⟩:=hx
     simp only[DataW.weights,hu] at hw
     have key:∀(l:List Field) (off mm i:Nat) (ks:List CK) (ys:List (DataW H×List MemPlace)),F0 P (L7 P n) off l=some mm→R2 (A4 P n) l=some ks→fs.toList.drop i=l→xs.drop i=ys→
      (DataW.weightsEach P (l.map (·.type)) (ys.map (·.1))).all (· ≤ reachBytes)=true→mm≤cs.length→∃ds,CK.reps w ks ((cs.drop off).take (mm-off)) ds:=by
      intro l
      induction l with
      | nil=>
        intro off mm i ks ys h1 h2 _ _ _ _
        simp only[F0,Option.some.injEq] at h1
        simp only[R2,Option.some.injEq] at h2
        subst h1 h2
        exact⟨[],by unfold CK.reps;simp⟩
      | cons x l ih=>
        intro off mm i ks ys h1 h2 h3 h4 h5 h6
        simp only[F0] at h1
        simp only[R2] at h2
        split at h1
        ·rename_i hc
         simp only[Bool.and_eq_true] at hc
         have hoff:=i9 hc.1
         split at h2
         ·rename_i a b ha hb
          simp only[Option.some.injEq] at h2
          subst h2
          have hi:fs[i]? = some x:=by
           have:(fs.toList.drop i)[0]? = some x:=by rw[h3];rfl
           rw[List.getElem?_drop] at this
           simpa using this
          have hlen:i<xs.length:=by rw[hxl];exact(Array.getElem?_eq_some_iff.1 hi).1
          have h7:=hxs i x hi
          rw[List.getElem?_eq_getElem hlen,hoff] at h7
          cases ys with
          | nil=>exfalso;have:=congrArg List.length h4;simp at this;omega
          | cons y ys=>
            have hy:xs[i]=y:=by
             have:(xs.drop i)[0]? = some y:=by rw[h4];rfl
             rw[List.getElem?_drop] at this
             simpa [List.getElem?_eq_getElem hlen] using this
            simp only[List.map_cons,DataW.weightsEach,List.all_append,Bool.and_eq_true] at h5
            rw[hy] at h7
            obtain⟨d1,e1⟩:=a0Y n x.type a ha hc.2 m _ y.1 y.2 h7 h5.1
            have hka:=Q0 n x.type a ha hc.2
            obtain⟨d2,e2⟩:=ih (off+P.cellsOf x.type) mm (i+1) b ys h1 hb (by rw[←List.drop_drop,h3];rfl) (by rw[←List.drop_drop,h4];rfl) h5.2 h6
            have hle:off+P.cellsOf x.type≤mm:=by
             have:∀(l:List Field) (o m:Nat),F0 P (L7 P n) o l=some m→o≤m:=by
              intro l
              induction l with
              | nil=>intro o m h;simp only[F0,Option.some.injEq] at h;omega
              | cons z l ihl=>
                intro o m h
                simp only[F0] at h
                split at h
                ·have:=ihl _ _ h;omega
                ·cases h
             exact this _ _ _ h1
            refine⟨d1++d2,?_⟩
            have e3:=a2X e1 e2
            have e4:(cs.drop off).take (P.cellsOf x.type)++(cs.drop (off+P.cellsOf x.type)).take (mm-(off+P.cellsOf x.type))=(cs.drop off).take (mm-off):=by
             rw[←List.drop_drop,show mm-off=P.cellsOf x.type+(mm-(off+P.cellsOf x.type)) by omega,List.take_add]
            rw[e4] at e3
            exact e3
         ·cases h2
        ·cases h1
     obtain⟨ds,hd⟩:=key fs.toList 0 mm 0 ks xs hm h rfl rfl hw (by omega)
     refine⟨ds,?_⟩
     rw[List.drop_zero,Nat.sub_zero,List.take_of_length_le (by omega)] at hd
     exact hd
    ·cases hf
   ·rename_i mm e hu
    rw[hu] at hf
    simp only at hf
    simp only[Bool.and_eq_true] at hf
    obtain⟨f1,f2⟩:=hf
    have f2:=i9 f2
    simp only[Option.map_eq_some_iff] at h
    obtain⟨l,hl,rfl⟩:=h
    obtain⟨xs,m,_,hx,hcl,hxl,hxs⟩:=DataW.trod_array hu ht
    simp only[Prod.mk.injEq] at hx
    obtain⟨rfl,_⟩:=hx
    simp only[DataW.weights,hu] at hw
    have hkl:=Q0 n e l hl f1
    have hwe:∀(l:List (DataW H)) (x:DataW H),x∈l→(DataW.weightsAll P e l).all (· ≤ reachBytes)=true→(x.weights P e).all (· ≤ reachBytes)=true:=by
     intro l x hx hl
     induction l with
     | nil=>simp at hx
     | cons y l ih=>
       simp only[DataW.weightsAll,List.all_append,Bool.and_eq_true] at hl
       rcases List.mem_cons.1 hx with e | hx
       ·subst e;exact hl.1
       ·exact ih hx hl.2
    have:∀k,k≤mm→∃ds,CK.reps w (List.replicate k l).flatten (cs.take (k*P.cellsOf e)) ds:=by
     intro k
     induction k with
     | zero=>intro _;exact⟨[],by simp [CK.reps]⟩
     | succ k ih=>
       intro hk
       obtain⟨d1,e1⟩:=ih (by omega)
       have h7:=hxs k (by omega)
       rw[List.getElem?_eq_getElem (by omega)] at h7
       obtain⟨d2,e2⟩:=a0Y n e l hl f1 m _ (xs[k]'(by omega)).1 (xs[k]'(by omega)).2 h7 (hwe _ _ (List.mem_map.2 ⟨_,List.getElem_mem (by omega),rfl⟩) hw)
       refine⟨d1++d2,?_⟩
       rw[List.replicate_succ',List.flatten_append,Nat.succ_mul,List.take_add]
       have:=a2X e1 e2
       simpa using this
    obtain⟨ds,hd⟩:=this mm (Nat.le_refl _)
    rw[List.take_of_length_le (by omega)] at hd
    exact⟨ds,hd⟩
   ·cases h
end
end Go.Proofs.YtbbjlleaofgddaaGreat
namespace Go.Proofs.YtbbjlleaofgddaaGreat
open Go.ChangeShapes Go.WideShapes Go.ChangeAt Go.RowKit
theorem Tryz.own:ownKnob Tryz.prog.godebug=none:=by kernel_rfl
theorem Tryz.laidOut:laidOutB Tryz.prog=true:=by kernel_rfl
section
variable {H:Type} {enc:TypeId×Value→H} {P:Program}
theorem a6S{f:Func}{s:ChangeSpec}{apart fresh handsOn again:Bool}{W W':World}{args:Array Value}{v:Value}{ds gs:List (DataW H)}{before pa pv:List MemPlace}
 (hW:DataW.Whole enc P f.params.toList s.vars apart W args.toList ds gs before)
 (hres:∀(b:Nat) (sp:Nat→Bool) (hd:Bool),DataW.TrodAll enc P W' b sp hd f.resultTypes.toList (v.resultList f.resultTypes.size) (s.fn H (ds++gs)).results [])
 (hargs:∀sp:Nat→Bool,(∀p∈before,sp p.block=true)→DataW.TrodAll enc P W' 0 sp true f.params.toList args.toList (s.fn H (ds++gs)).args pa)
 (hvars:∀sp:Nat→Bool,(∀p∈before,sp p.block=true)→DataW.TrodVars enc P W' sp s.vars (s.fn H (ds++gs)).vars pv)
 (hps:before=pa++pv) (hb:Below W.heap.size W W')
 (hok:∀(j:Nat) (t:TypeId) (r:Value),f.resultTypes[j]? = some t→(v.resultList f.resultTypes.size)[j]? = some r→Value.okWide P W' .any 0 t r):
 s.post enc P f apart fresh handsOn again W args v W':=by
 have hlt:∀p∈before,p.block<W.heap.size:=fun p hp=>hW.lt p hp
 have hold:∀p∈before,(fun b=>decide (b<W.heap.size)) p.block=true:=fun p hp=>by simpa using hlt p hp
 refine⟨ds,gs,before,[],pa,pv,hW,hres _ _ _,hargs _ hold,hvars _ hold,World.keptBut_mono (fun p hp=>⟨hp,?_⟩) (hb.frame (· ∈ before)),fun _=> ?_⟩
 ·rw[hps,List.mem_append] at hp
  exact Or.inr hp
 ·obtain⟨_,_,_,_,_,hz,hn⟩:=hW
  refine⟨hok,_,_,([]++pa)++pv,⟨[]++pa,pv,trodAll_append (hargs _ (fun _ _=>rfl)) (hres _ _ _),hvars _ (fun _ _=>rfl),rfl,?_,?_⟩,?_⟩
  ·intro b off hp
   have hin:MemPlace.cell b off∈before:=by rw[hps];simpa using hp
   rw[hb.frozen (hlt _ hin)]
   exact hz b off hin
  ·intro ha
   have:=hn ha
   rw[hps] at this
   simpa using this
  ·intro p hp _
   rw[hps]
   simpa using hp
theorem b3v{t:TypeId}(hl:laidOutB P=true)(hr:P.readableRec t=true)(hrow:t<P.types.size){W W':World}{v:Value}{d:DataW H}{ps:List MemPlace}
 (h:DataW.Trod enc P W 0 (fun _=>true) true t v d ps) (hb:Below W.heap.size W W') (hlt:∀x∈ps,x.block<W.heap.size) (sp:Nat→Bool) (hsp:∀p∈ps,sp p.block=true):
 DataW.Trod enc P W' 0 sp true t v d ps:=
 WideElems.Trod_stays hl hr hrow h (fun x hx=>hb.same (hlt x hx)) (fun x hx=>hsp x hx)
theorem a1m(hl:laidOutB P=true){W W':World}(hb:Below W.heap.size W W')(sp:Nat→Bool):∀(ts:List TypeId) (vs:List Value) (ds:List (DataW H)) (ps:List MemPlace),
 (ts.all fun t=>P.readableRec t&&decide (t<P.types.size))=true→DataW.TrodAll enc P W 0 (fun _=>true) true ts vs ds ps→(∀x∈ps,x.block<W.heap.size)→(∀p∈ps,sp p.block=true)→
 DataW.TrodAll enc P W' 0 sp true ts vs ds ps
 | [],vs,ds,ps,_,h,_,_=>by obtain⟨rfl,rfl,rfl⟩:=trodAll_nil h;rfl
 | t::ts,vs,ds,ps,hr,h,hlt,hsp=>by
   obtain⟨v,vs',d,ds',p,q,rfl,rfl,rfl,h0,hs⟩:=trodAll_cons h
   simp only[List.all_cons,Bool.and_eq_true,decide_eq_true_eq] at hr
   exact⟨p,q,b3v hl hr.1.1 hr.1.2 h0 hb (fun x hx=>hlt x (by simp [hx])) sp (fun x hx=>hsp x (by simp [hx])),
    a1m hl hb sp ts vs' ds' q hr.2 hs (fun x hx=>hlt x (by simp [hx])) (fun x hx=>hsp x (by simp [hx])),rfl⟩
def shT(P:Program)(t:TypeId):Option Sh:=match A4 P 20 t with
 | some ks=>if L7 P 20 t then(if v6 P t then some (.agg ks) else match ks with | [k]=>some (.one k) | _=>none) else none
 | none=>none
def b2y(P:Program):List TypeId→Option (List Sh)
 | []=>some []
 | t::ts=>match shT P t,b2y P ts with | some s,some l=>some (s::l) | _,_=>none
theorem b1L{w:World}{r:Reach}{base:Nat}{t:TypeId}{v:Value}{ks:List CK}(hk:A4 P 20 t=some ks)(ha:v6 P t=false)(h:Value.okWide P w r base t v):v.cells= #[v]:=by
 unfold A4 at hk
 unfold v6 at ha
 unfold Value.okWide at h
 cases hu:P.underlying t with
 | none=>rw[hu] at hk;cases hk
 | some d=>
   rw[hu] at hk ha h
   cases d<;>simp at hk ha<;>simp [Cell.okWide,Cell.ok,hu] at h<;>(cases v<;>first | rfl | (simp at h))
theorem a8L{W:World}{base:Nat}{sp:Nat→Bool}{held:Bool}:∀(ts:List TypeId) (sh:List Sh),b2y P ts=some sh→∀(vs:List Value) (ds:List (DataW H)) (ps:List MemPlace),DataW.TrodAll enc P W 0 sp held ts vs ds ps→
 (∀(j:Nat) t v,ts[j]? = some t→vs[j]? = some v→Value.okWide P W .any base t v)→(DataW.weightsEach P ts ds).all (· ≤ reachBytes)=true→∃xs,D8 W sh vs xs
 | [],sh,hsh,vs,ds,ps,h,_,_=>by
   simp only[b2y,Option.some.injEq] at hsh
   subst hsh
   obtain⟨rfl,rfl,rfl⟩:=trodAll_nil h
   exact⟨[],rfl,rfl⟩
 | t::ts,sh,hsh,vs,ds,ps,h,hval,hw=>by
   simp only[b2y] at hsh
   split at hsh
   ·rename_i s l hs hl
    simp only[Option.some.injEq] at hsh
    subst hsh
    obtain⟨v,vs',d,ds',p,q,rfl,rfl,rfl,h0,hr⟩:=trodAll_cons h
    simp only[DataW.weightsEach,List.all_append,Bool.and_eq_true] at hw
    obtain⟨xs,hxs⟩:=a8L ts l hl vs' ds' q hr (fun j t v h1 h2=>hval (j+1) t v (by simpa using h1) (by simpa using h2)) hw.2
    obtain⟨fuel,hf⟩:=h0
    have hv:=hval 0 t v rfl rfl
    unfold shT at hs
    split at hs
    ·rename_i ks hk
     split at hs
     ·rename_i hfl
      obtain⟨x,hx⟩:=a0Y 20 t ks hk hfl fuel _ d p hf hw.1
      refine⟨x++xs,v,vs',x,xs,rfl,rfl,?_,hxs⟩
      split at hs
      ·rename_i ha
       simp only[Option.some.injEq] at hs
       subst hs
       have:∃cs,v= .agg cs:=by
        unfold v6 at ha
        unfold Value.okWide at hv
        split at ha
        ·rename_i fs hu;rw[hu] at hv;obtain⟨cs,e,_⟩:=hv;exact⟨cs,e⟩
        ·rename_i m e hu;rw[hu] at hv;obtain⟨cs,e,_⟩:=hv;exact⟨cs,e⟩
        ·cases ha
       obtain⟨cs,rfl⟩:=this
       exact⟨cs.toList,by simp,hx⟩
      ·rename_i ha
       split at hs
       ·rename_i k
        simp only[Option.some.injEq] at hs
        subst hs
        have e:=b1L hk (by simpa using ha) hv
        rw[e] at hx
        unfold CK.reps at hx
        obtain⟨v',vs2,d',ds2,e1,rfl,h1,h2⟩:=hx
        have e1:[v]=v'::vs2:=e1
        simp only[List.cons.injEq] at e1
        obtain⟨rfl,rfl⟩:=e1
        unfold CK.reps at h2
        obtain⟨_,rfl⟩:=h2
        exact⟨d',rfl,h1⟩
       ·cases hs
     ·cases hs
    ·cases hs
   ·cases hsh
end
end Go.Proofs.YtbbjlleaofgddaaGreat
