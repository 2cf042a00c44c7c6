/- NG, merged: G0, Gw, G4, TG5, G5, TG6, G6, G7, G8. -/
import Derived.Test.YtcjaembdcfppfaaGreatMZ
import Derived.Test.YtcjaembdcfppfaaGreatMI
import Derived.Test.YtcjaembdcfppfaaGreatMR
set_option linter.unusedSimpArgs false
set_option linter.unusedVariables false
namespace Go.Proofs.YtcjaembdcfppfaaGreat
end Go.Proofs.YtcjaembdcfppfaaGreat
namespace Go.Proofs.YtcjaembdcfppfaaGreat
open Go.RowKit
mutual
def wfD:CK→D→Prop
 | .int _,d=>∃n,d= .i n
 | .bool,d=>∃b,d= .b b
 | .sl ks,d=>∃r,d= .l r∧r.length≤281474976710656∧∀row∈r,M4 ks row
def M4:List CK→List D→Prop
 | [],ds=>ds=[]
 | k::ks,ds=>∃d r,ds=d::r∧wfD k d∧M4 ks r
end
mutual
theorem b7r{w:World}:∀(k:CK) (v:Value) (d:D),CK.rep w k v d→wfD k d
 | .int k,v,d,h=>by
   unfold CK.rep at h
   obtain⟨n,_,rfl⟩:=h
   simp [wfD]
 | .bool,v,d,h=>by
   unfold CK.rep at h
   obtain⟨n,_,rfl⟩:=h
   simp [wfD]
 | .sl ks,v,d,h=>by
   unfold CK.rep at h
   obtain⟨r,a,n,c,rfl,_,h1,_,h3,h4,h5⟩:=h
   unfold wfD
   refine⟨r,rfl,by omega,fun row hrow=> ?_⟩
   obtain⟨i,hi,rfl⟩:=List.getElem_of_mem hrow
   cases a with
   | none=>have:=h4 (by omega);cases this
   | some b=>
     obtain⟨vs,g1,_⟩:=h5 b rfl i r[i] (List.getElem?_eq_getElem hi)
     exact a5V ks vs _ g1
theorem a5V{w:World}:∀(ks:List CK) (vs:List Value) (ds:List D),CK.reps w ks vs ds→M4 ks ds
 | [],vs,ds,h=>by
   unfold CK.reps at h
   rw[h.2];simp [M4]
 | k::ks,vs,ds,h=>by
   unfold CK.reps at h
   obtain⟨v,vs',d,ds',rfl,rfl,h1,h2⟩:=h
   unfold M4
   exact⟨d,ds',rfl,b7r k v d h1,a5V ks vs' ds' h2⟩
end
def wfR(ks:List CK)(r:Rows):Prop:=r.length≤281474976710656∧∀row∈r,M4 ks row
theorem d2B{ks:List CK}{d:D}(h:wfD (.sl ks) d):∃r,d= .l r∧wfR ks r:=by
 unfold wfD at h;exact h
theorem c8O{k:IntKind}{d:D}(h:wfD (.int k) d):∃n,d= .i n:=by
 unfold wfD at h;exact h
theorem a5U{k:CK}{ks:List CK}{ds:List D}(h:M4 (k::ks) ds):∃d r,ds=d::r∧wfD k d∧M4 ks r:=by
 unfold M4 at h;exact h
theorem b4a{ds:List D}(h:M4 [] ds):ds=[]:=by
 unfold M4 at h;exact h
def cI(row:List D)(j:Nat):Int:=(row[j]?.getD (.i 0)).int
theorem a8G{r:Rows}{i:Nat}(h:i<r.length)(j:Nat):lg r i j=cI r[i] j:=by
 unfold lg u9 cI
 rw[Int.toNat_natCast,List.getElem?_eq_getElem h];rfl
theorem C3{w:World}:∀ {sh:List Sh} {vals:List Value} {ds:List D},T4 w sh vals ds→M4 (sh.flatMap fun s=>match s with | .one k=>[k] | .agg ks=>ks) ds
 | [],vals,ds,h=>by
   rw[h.2];simp [M4]
 | .one k::sh,vals,ds,h=>by
   obtain⟨v,vs',d,ds',rfl,rfl,⟨d0,rfl,h1⟩,h2⟩:=h
   rw[List.flatMap_cons]
   simp only[List.cons_append,List.nil_append]
   unfold M4
   exact⟨d0,ds',rfl,b7r k v d0 h1,C3 h2⟩
 | .agg ks::sh,vals,ds,h=>by
   obtain⟨v,vs',d,ds',rfl,rfl,⟨us,rfl,h1⟩,h2⟩:=h
   rw[List.flatMap_cons]
   exact wfDs_app (a5V ks us d h1) (C3 h2)
where
 wfDs_app:∀ {ks ks':List CK} {a b:List D},M4 ks a→M4 ks' b→M4 (ks++ks') (a++b)
 | [],ks',a,b,h,h'=>by rw[b4a h];exact h'
 | k::ks,ks',a,b,h,h'=>by
   obtain⟨d,r,rfl,h1,h2⟩:=a5U h
   show M4 (k::(ks++ks')) (d::(r++b))
   unfold M4
   exact⟨d,r++b,rfl,h1,wfDs_app h2 h'⟩
theorem b7i:∀ {ks:List CK} {ds:List D} {j:Nat} {k:CK},M4 ks ds→ks[j]? = some k→∃d,ds[j]? = some d∧wfD k d
 | [],_,_,_,_,h=>by simp at h
 | k0::ks,ds,j,k,h,hk=>by
   obtain⟨d,r,rfl,h1,h2⟩:=a5U h
   cases j with
   | zero=>
     simp only[List.getElem?_cons_zero,Option.some.injEq] at hk
     subst hk
     exact⟨d,rfl,h1⟩
   | succ j=>
     rw[List.getElem?_cons_succ] at hk
     obtain⟨e,g1,g2⟩:=b7i h2 hk
     exact⟨e,by rw[List.getElem?_cons_succ];exact g1,g2⟩
theorem N9{ks:List CK}{ds:List D}{j:Nat}{l:List CK}(h:M4 ks ds)(hk:ks[j]? = some (.sl l)):wfR l (b9 ds j):=by
 obtain⟨d,h1,h2⟩:=b7i h hk
 obtain⟨r,rfl,h3⟩:=d2B h2
 unfold b9
 rw[List.getD_eq_getElem?_getD,h1]
 exact h3
def g0(l:List Int):Rows:=l.map fun n=>[D.i n]
def g8(r:Rows):List Int:=r.map fun q=>cI q 0
theorem s7(l:List Int):(g0 l).length=l.length:=by simp [g0]
theorem a4x(r:Rows):(g8 r).length=r.length:=by simp [g8]
theorem a3F(l:List Int):g8 (g0 l)=l:=by
 unfold g8 g0
 rw[List.map_map]
 conv=>rhs;rw[←List.map_id l]
 rfl
theorem b9I{r:Rows}(h:wfR [.int .i64] r):g0 (g8 r)=r:=by
 unfold g8 g0
 rw[List.map_map]
 conv=>rhs;rw[←List.map_id r]
 refine List.map_congr_left (fun q hq=> ?_)
 obtain⟨d,q',rfl,h1,h2⟩:=a5U (h.2 q hq)
 obtain rfl:=b4a h2
 obtain⟨n,rfl⟩:=c8O h1
 rfl
theorem y8{l:List Int}{c:Nat}(h:c<l.length):lg (g0 l) (c:Int) 0=Grid.at_ l c:=by
 rw[a8G (by rw[s7];exact h)]
 simp [g0,cI,Grid.at_,h,D.int]
theorem C6{r:Rows}{c:Nat}(h:c<r.length):lg r (c:Int) 0=Grid.at_ (g8 r) c:=by
 rw[a8G h]
 simp [g8,Grid.at_,h]
theorem P6(l:List Int)(c:Nat)(v:Int):a1t (g0 l) (c:Int) 0 [.i v]=g0 (l.set c v):=by
 unfold a1t g0
 rw[Int.toNat_natCast]
 refine List.ext_getElem? (fun k=> ?_)
 rw[List.getElem?_modify,List.getElem?_map,List.getElem?_map,List.getElem?_set]
 by_cases e:c=k
 ·subst e
  by_cases hk:c<l.length
  ·simp [hk]
  ·simp [hk]
 ·simp [e]
theorem a1i(n:Nat)(v:Int):List.replicate n [D.i v]=g0 (List.replicate n v):=by simp [g0]
theorem K0(l:List Int)(v:Int):g0 l++[[D.i v]]=g0 (l++[v]):=by simp [g0]
theorem b7X(v:Int)(l:List Int):o7 (g0 (v::l)) 1 ((g0 (v::l)).length:Nat)=g0 l:=by
 simp [o7,g0,List.take_of_length_le]
def k7(l:List Nat):List Int:=List.map (fun n:Nat=>(n:Int)) l
theorem B5(l:List Nat):(k7 l).length=l.length:=by simp [k7]
def b8z:Sh:= .one (.int .u64)
def c5i:Sh:= .one (.sl [.int .i64])
def l8:Sh:= .agg [.int .i64,.int .i64,.int .i64,.int .i64,.int .i64,.sl [.int .i64]]
theorem d2u:GivesIf Tryz.prog 91 [b8z,b8z] (fun ds=>(0≤a7 ds 0∧a7 ds 0≤1)∧0≤a7 ds 1∧a7 ds 1≤1000000) (fun ds=> .tuple #[.int .u64 0,.int .u64 (a7 ds 0*a7 ds 1)]):=by
 intro W vals ds hr hok
 obtain⟨v0,vs0,d0,ds0,rfl,rfl,⟨e0,rfl,h0⟩,hr⟩:=hr
 obtain⟨v1,vs1,d1,ds1,rfl,rfl,⟨e1,rfl,h1⟩,rfl,rfl⟩:=hr
 unfold CK.rep at h0 h1
 obtain⟨a,rfl,rfl⟩:=h0
 obtain⟨b,rfl,rfl⟩:=h1
 obtain⟨⟨q1,q2⟩,q3,q4⟩:=hok
 have q1:0≤a:=q1
 have q2:a≤1:=q2
 have q3:0≤b:=q3
 have q4:b≤1000000:=q4
 obtain⟨a,rfl⟩:=Int.eq_ofNat_of_zero_le q1
 obtain⟨b,rfl⟩:=Int.eq_ofNat_of_zero_le q3
 have hab:a*b<18446744073709551616:=by
  have:a*b≤1*b:=Nat.mul_le_mul_right b (by omega)
  omega
 have:=a5Z a b (by omega) (by omega) W
 refine Calls.mono this ?_
 rintro e w ⟨rfl,hb⟩
 refine⟨?_,hb⟩
 show Ending.returned _=Ending.returned (.tuple #[.int .u64 0,.int .u64 ((a:Int)*b)])
 rw[Nat.div_eq_of_lt hab,Nat.mod_eq_of_lt hab]
 simp
def c1G:=u7 [b8z,b8z] fun al=>match al with
 | .i a (.i b .nil)=>T.obs [.tru (.cmpS .leq (.lit 0) a),.tru (.cmpS .leq a (.lit 1)),.tru (.cmpS .leq (.lit 0) b),.tru (.cmpS .leq b (.lit 1000000))] (.ret (.tup [.one (.z (.int .u64 (.lit 0))),.one (.z (.int .u64 (.arS .mul .u64 a b)))]))
 | _=> .stuck "Mul64"
theorem c3C{ρ:Env}:i9 Tryz.prog ρ 91 c1G:=by
 refine C7 d2u (fun al v hv=> ?_)
 split at hv
 ·rename_i a b
  obtain⟨ho,hv⟩:=T.res_obs hv
  obtain rfl:=c9 hv
  have o1:=ho _ (List.mem_cons_self ..)
  have o2:=ho _ (List.mem_cons_of_mem _ (List.mem_cons_self ..))
  have o3:=ho _ (List.mem_cons_of_mem _ (List.mem_cons_of_mem _ (List.mem_cons_self ..)))
  have o4:=ho _ (List.mem_cons_of_mem _ (List.mem_cons_of_mem _ (List.mem_cons_of_mem _ (List.mem_cons_self ..))))
  simp only[Ob.ok,B.cmpS_ev,n8,j8,E.ev] at o1 o2 o3 o4
  refine⟨rfl,⟨⟨o1,o2⟩,o3,o4⟩,?_⟩
  have hm:a.ev ρ*b.ev ρ=0∨a.ev ρ*b.ev ρ=b.ev ρ:=by
   have:a.ev ρ=0∨a.ev ρ=1:=by omega
   rcases this with e | e<;>rw[e]<;>simp
  have w:IntKind.u64.wrap (a.ev ρ*b.ev ρ)=a.ev ρ*b.ev ρ:=by
   have:∀x:Int,0≤x→x≤1000000→IntKind.u64.wrap x=x:=fun x h1 h2=>by
    show x % 18446744073709551616=x
    omega
   rcases hm with e | e<;>rw[e]
   ·exact this 0 (by omega) (by omega)
   ·exact this _ o3 o4
  simp only[V.val,V2.val,S.val,S0.val,List.map_cons,List.map_nil,E.arS_ev,E.ev,y9,w,AL.ev]
  rfl
 ·exact hv.elim
def c0j(sh:List Sh)(e:TypeId)(ks:List CK)(cont:AL→Option X)(obs:AL→List Ob)(args:List V)(mem:Mem)(nx:Nat):T j4:=match a0e mem sh args with
 | some al=>match cont al with
   | some x=> .obs (obs al) (.ret (.s0 (.own nx (.lit 0)),[(nx,.own e ks x (.lit 0))],nx+1))
   | none=> .stuck "new list"
 | none=> .stuck "new list"
theorem c4N{P:Program}{ρ:Env}{f:FuncId}{sh:List Sh}{l:NL}{ok:List D→Prop}(hg:B2 P f sh [l] ok (fun _ _ vs u=>∃v,vs=[v]∧u=v))(hf:l.ks.all CK.flat=true){cont:AL→Option X}{obs:AL→List Ob}
 (hobs:∀al x,cont al=some x→(∀o∈obs al,o.ok ρ)→ok (al.ev ρ)∧x.ev ρ=l.rows (al.ev ρ)):i9 P ρ f (c0j sh l.e l.ks cont obs):=by
 intro args mem nx q hq hle σ W vals hr hfr hd
 unfold c0j at hq
 split at hq
 ·rename_i al ha
  split at hq
  ·rename_i x hcx
   obtain⟨ho,hq⟩:=T.res_obs hq
   obtain rfl:=c9 hq
   obtain⟨hok,hx⟩:=hobs al x hcx ho
   have hc:=hg W W vals (al.ev ρ) (Below.refl _ _) (a0u hr sh args al ha vals hd) hok
   have hw:CallsIn Fence.wide 0 P f vals.toArray W _:=callsIn_wide.2 hc
   refine CallsIn.mono (F:=FR none) hw ?_
   rintro en W' ⟨vs,u,rfl,⟨v,rfl,rfl⟩,hb,hn⟩
   obtain⟨xs,h1,h2,h3,⟨a,c,rfl⟩,h5⟩:=hn.each 0 l _ rfl rfl
   have hnx:=hfr nx (Nat.le_refl _) (Nat.lt_succ_self _)
   have hnone:∀k,σ.h nx k= .none:=fun k=>by
    cases hk:σ.h nx k with
    | none=>rfl
    | some y=>exact absurd (.inr ⟨k,y,hk⟩) hnx
   have hstep:=Q4 (ρ:=ρ) (σ:=σ) (W:=W) (id:=nx) (t:=l.e) (ks:=l.ks) (x:=x) (ver:= .lit 0) (v:= .slice .none 0 0) (W':=W') (xs:=xs) (fun i a hi=>hr.lt i a hi) (hnone _) (fun u _=>hnone u) hr.inj (fun k hk=>by cases hk)
    (by
     rw[hx]
     exact⟨h1.base hr.base.size,hb.os,hb.tape,hb.output,hb.size,fun k hk _=>hb.block k hk,fun k hk=> .inr (h5 k hk),Keep.of_eq (fun k hk=>hb.block k hk),a,c,rfl⟩)
    (by rw[hx];exact fun i row hi=>a1j hf (h2.2 i row hi)) (by rw[hx];exact h3)
   exact⟨_,_,rfl,⟨⟨a,_,c,rfl⟩,As.say_self⟩,hstep,fun i hi=>(O9 hi).imp (fun h=>h) (fun h=>⟨by omega,by show i<nx+1;omega⟩)⟩
  ·exact hq.elim
 ·exact hq.elim
def d0Y:Ct:=[(91,c1G)]
theorem c9s{ρ:Env}:CtOk Tryz.prog ρ d0Y:= .cons c3C .nil
def b8s:TT j4:=
(.ite (.cmp .lss (.var 1) (.lit 0))
 (.stuck "operation")
 (.ob (.tru (.cmp .leq (.lit 0) (.wr .u64 (.len (.var 0)))))
 (.ob (.tru (.cmp .leq (.wr .u64 (.len (.var 0))) (.lit 1)))
 (.ob (.tru (.cmp .leq (.lit 0) (.wr .u64 (.var 1))))
 (.ob (.tru (.cmp .leq (.wr .u64 (.var 1)) (.lit 1000000)))
 (.ite (.cmp .gtr (.ar .mul .u64 (.wr .u64 (.len (.var 0))) (.wr .u64 (.var 1))) (.lit 9223372036854775807))
 (.stuck "operation")
 (.ob (.tru (.cmp .leq (.lit 0) (.wr .i64 (.ar .mul .u64 (.wr .u64 (.len (.var 0))) (.wr .u64 (.var 1))))))
 (.ob (.tru (.cmp .leq (.wr .i64 (.ar .mul .u64 (.wr .u64 (.len (.var 0))) (.wr .u64 (.var 1)))) (.lit 1000000)))
 (.loop 0 2000 ⟨[(0,(.mn (.len (.rep (.wr .i64 (.ar .mul .u64 (.wr .u64 (.len (.var 0))) (.wr .u64 (.var 1)))) (.i (.lit 0) .nil))) (.len (.var 0))))],[],[(1,(.app (.app (.sub (.rep (.wr .i64 (.ar .mul .u64 (.wr .u64 (.len (.var 0))) (.wr .u64 (.var 1)))) (.i (.lit 0) .nil)) (.lit 0) (.lit 0)) (.sub (.var 0) (.lit 0) (.mn (.len (.rep (.wr .i64 (.ar .mul .u64 (.wr .u64 (.len (.var 0))) (.wr .u64 (.var 1)))) (.i (.lit 0) .nil))) (.len (.var 0))))) (.sub (.rep (.wr .i64 (.ar .mul .u64 (.wr .u64 (.len (.var 0))) (.wr .u64 (.var 1)))) (.i (.lit 0) .nil)) (.len (.sub (.var 0) (.lit 0) (.mn (.len (.rep (.wr .i64 (.ar .mul .u64 (.wr .u64 (.len (.var 0))) (.wr .u64 (.var 1)))) (.i (.lit 0) .nil))) (.len (.var 0))))) (.len (.rep (.wr .i64 (.ar .mul .u64 (.wr .u64 (.len (.var 0))) (.wr .u64 (.var 1)))) (.i (.lit 0) .nil))))))]⟩
 (.ite (.cmp .lss (.var 2000) (.len (.var 2001)))
 (.ob (.tru (.cmp .leq (.lit 0) (.var 2000)))
 (.ob (.tru (.cmp .leq (.var 2000) (.len (.var 2001))))
 (.ob (.tru (.lit true))
 (.ob (.tru (.lit true))
 (.ob (.tru (.cmp .leq (.lit 0) (.var 2000)))
 (.ob (.tru (.cmp .leq (.var 2000) (.len (.var 2001))))
 (.next 0 ⟨[(0,(.ar .add .i64 (.var 2000) (.mn (.len (.sub (.var 2001) (.var 2000) (.len (.var 2001)))) (.len (.sub (.var 2001) (.lit 0) (.var 2000))))))],[],[(1,(.app (.app (.sub (.var 2001) (.lit 0) (.var 2000)) (.sub (.sub (.var 2001) (.lit 0) (.var 2000)) (.lit 0) (.mn (.len (.sub (.var 2001) (.var 2000) (.len (.var 2001)))) (.len (.sub (.var 2001) (.lit 0) (.var 2000)))))) (.sub (.var 2001) (.plus (.var 2000) (.len (.sub (.sub (.var 2001) (.lit 0) (.var 2000)) (.lit 0) (.mn (.len (.sub (.var 2001) (.var 2000) (.len (.var 2001)))) (.len (.sub (.var 2001) (.lit 0) (.var 2000))))))) (.len (.var 2001)))))]⟩)))))))
 (.ret ((.v (.one (.z (.own 0 (.lit 0))))),[(0,(.own 3 [(.int .i64)] (.var 2001) (.lit 0))),(0,(.own 3 [(.int .i64)] (.app (.app (.sub (.rep (.wr .i64 (.ar .mul .u64 (.wr .u64 (.len (.var 0))) (.wr .u64 (.var 1)))) (.i (.lit 0) .nil)) (.lit 0) (.lit 0)) (.sub (.var 0) (.lit 0) (.mn (.len (.rep (.wr .i64 (.ar .mul .u64 (.wr .u64 (.len (.var 0))) (.wr .u64 (.var 1)))) (.i (.lit 0) .nil))) (.len (.var 0))))) (.sub (.rep (.wr .i64 (.ar .mul .u64 (.wr .u64 (.len (.var 0))) (.wr .u64 (.var 1)))) (.i (.lit 0) .nil)) (.len (.sub (.var 0) (.lit 0) (.mn (.len (.rep (.wr .i64 (.ar .mul .u64 (.wr .u64 (.len (.var 0))) (.wr .u64 (.var 1)))) (.i (.lit 0) .nil))) (.len (.var 0))))) (.len (.rep (.wr .i64 (.ar .mul .u64 (.wr .u64 (.len (.var 0))) (.wr .u64 (.var 1)))) (.i (.lit 0) .nil))))) (.lit 0))),(0,(.own 3 [(.int .i64)] (.rep (.wr .i64 (.ar .mul .u64 (.wr .u64 (.len (.var 0))) (.wr .u64 (.var 1)))) (.i (.lit 0) .nil)) (.lit 0)))],2))))))))))))
def c9U:List (Nat×St):=[
(1,⟨(List.append [(.v (.one (.z (.ext [(.int .i64)] (.var 0) false)))),(.v (.one (.z (.int .i64 (.var 1))))),(.v (.one (.z .any))),(.v (.one (.z .any))),(.v (.one (.z (.const (.slice none 0 0))))),(.v (.one (.z (.int .u64 (.lit 0))))),(.v (.one (.z (.int .u64 (.ar .mul .u64 (.wr .u64 (.len (.var 0))) (.wr .u64 (.var 1))))))),(.v (.one (.z (.own 0 (.lit 0))))),(.v (.one (.z (.int .i64 (.var 2000))))),(.v (.one (.z (.int .i64 (.var 1))))),(.v (.one (.z (.bool (.cmp .lss (.var 1) (.lit 0)))))),(.v (.one (.z .any))),(.v (.one (.z .any))),(.v (.one (.z (.ext [(.int .i64)] (.var 0) false)))),(.v (.one (.z (.int .i64 (.len (.var 0)))))),(.v (.one (.z (.int .u64 (.wr .u64 (.len (.var 0))))))),(.v (.one (.z (.int .i64 (.var 1))))),(.v (.one (.z (.int .u64 (.wr .u64 (.var 1)))))),(.v (.one (.z .any))),(.v (.one (.z (.int .u64 (.lit 0))))),(.v (.one (.z (.int .u64 (.ar .mul .u64 (.wr .u64 (.len (.var 0))) (.wr .u64 (.var 1))))))),(.v (.one (.z (.int .u64 (.lit 0))))),(.v (.one (.z (.bool (.lit false))))),(.v (.one (.z (.bool (.lit false))))),(.v (.one (.z (.int .u64 (.ar .mul .u64 (.wr .u64 (.len (.var 0))) (.wr .u64 (.var 1))))))),(.v (.one (.z (.bool (.cmp .gtr (.ar .mul .u64 (.wr .u64 (.len (.var 0))) (.wr .u64 (.var 1))) (.lit 9223372036854775807)))))),(.v (.one (.z (.bool (.cmp .gtr (.ar .mul .u64 (.wr .u64 (.len (.var 0))) (.wr .u64 (.var 1))) (.lit 9223372036854775807)))))),(.v (.one (.z .any))),(.v (.one (.z (.int .u64 (.ar .mul .u64 (.wr .u64 (.len (.var 0))) (.wr .u64 (.var 1))))))),(.v (.one (.z (.int .i64 (.wr .i64 (.ar .mul .u64 (.wr .u64 (.len (.var 0))) (.wr .u64 (.var 1)))))))),(.v (.one (.z (.own 0 (.lit 0))))),(.v (.one (.z (.own 0 (.lit 0))))),(.v (.one (.z (.ext [(.int .i64)] (.var 0) false)))),(.v (.one (.z (.int .i64 (.mn (.len (.rep (.wr .i64 (.ar .mul .u64 (.wr .u64 (.len (.var 0))) (.wr .u64 (.var 1)))) (.i (.lit 0) .nil))) (.len (.var 0)))))))] (List.replicate 14 V.any)),[(0,(.own 3 [(.int .i64)] (.var 2001) (.lit 0)))],2,[]⟩)]
def c8f:List (FuncId×Nat×Nat×St):=[
]
set_option maxRecDepth 100000 in
theorem c4j:T.norm 0 (call Tryz.prog d0Y ⟨Lt.un (Lt.of []),c9U,c8f⟩ 200 39 (g7 0 [c5i,it]) [] 0) TT.ret=b8s:=by kernel_rfl
theorem c2m:b8s.low 1000=true:=by kernel_rfl
def a7i:TT j4:=
(.loop 0 1000 ⟨[(0,(.lit 0)),(1,(.lit 0))],[],[]⟩
 (.ite (.cmp .lss (.var 1001) (.len (.var 0)))
 (.ob (.tru (.cmp .leq (.lit 0) (.var 1001)))
 (.ob (.tru (.cmp .lss (.var 1001) (.len (.var 0))))
 (.ite (.not (.fn 76 (.i (.rd (.var 0) (.var 1001) 0) (.i (.rd (.var 0) (.var 1001) 1) (.i (.rd (.var 0) (.var 1001) 2) (.i (.rd (.var 0) (.var 1001) 3) (.i (.rd (.var 0) (.var 1001) 4) (.x (.rd (.var 0) (.var 1001) 5) (.i (.rd (.var 0) (.var 1001) 6) (.i (.rd (.var 0) (.var 1001) 7) (.x (.rd (.var 0) (.var 1001) 8) .nil)))))))))))
 (.ret ((.v (.one (.z (.bool (.lit false))))),[],2))
 (.ite (.cmp .leq (.rd (.var 0) (.var 1001) 0) (.var 1000))
 (.ret ((.v (.one (.z (.bool (.lit false))))),[],2))
 (.next 0 ⟨[(0,(.rd (.var 0) (.var 1001) 0)),(1,(.ar .add .i64 (.var 1001) (.lit 1)))],[],[]⟩)))))
 (.ret ((.v (.one (.z (.bool (.cmp .leq (.len (.var 0)) (.lit 300)))))),[],2))))
def b8h:List (Nat×St):=[
(0,⟨(List.append [(.v (.one (.z (.ext [(.int .i64),(.int .i64),(.int .i64),(.int .i64),(.int .i64),(.sl [(.int .i64),(.int .i64)]),(.int .i64),(.int .i64),(.sl [(.int .i64),(.int .i64),(.int .i64),(.int .i64),(.int .i64),(.int .i64)])] (.var 0) false)))),(.v (.one (.z .any))),(.v (.one (.z (.bool (.lit false))))),(.v (.one (.z (.int .i64 (.var 1000))))),(.v (.one (.z .any))),(.v (.one (.z .any))),(.v (.one (.z (.ext [(.int .i64),(.int .i64),(.int .i64),(.int .i64),(.int .i64),(.sl [(.int .i64),(.int .i64)]),(.int .i64),(.int .i64),(.sl [(.int .i64),(.int .i64),(.int .i64),(.int .i64),(.int .i64),(.int .i64)])] (.var 0) false)))),(.v (.one (.z (.int .i64 (.len (.var 0)))))),(.v (.one (.z (.int .i64 (.var 1001)))))] (List.replicate 18 V.any)),[],1,[]⟩)]
def b8H:List (FuncId×Nat×Nat×St):=[
]
set_option maxRecDepth 100000 in
theorem b4T:T.norm 0 (call Tryz.prog ctF ⟨Lt.un (Lt.of []),b8h,b8H⟩ 100 32 (g7 0 [G4]) [] 0) TT.ret=a7i:=by kernel_rfl
theorem b4N:a7i.low 1000=true:=by kernel_rfl
def d6b(ds:List D):Rows:=List.replicate (a7 ds 1).toNat (((b9 ds 0)[0]?).getD [])
def b1X:NL:=⟨3,[.int .i64],0,d6b⟩
def d3B(ds:List D):Prop:=(b9 ds 0).length=1∧0≤a7 ds 1∧a7 ds 1≤1000000
def I11:Interp:= { fi:=fun _ _=>0,fb:=fun _ _=>false,fd:=fun _ _=>[] }
theorem b3j{a:Int}(h0:0≤a)(h1:a≤9223372036854775807):IntKind.u64.wrap a=a:=by
 show a % 18446744073709551616=a
 omega
theorem a9y(a:List D)(n k:Nat):o7 (List.replicate n a) 0 (k:Int)=List.replicate (min k n) a:=by simp [o7]
theorem d0x(a b:List D)(m j:Nat):o7 (List.replicate m a++List.replicate j b) 0 (m:Int)=List.replicate m a:=by simp [o7]
theorem b4d(a b:List D)(m j k:Nat)(N:Nat)(hN:N=m+j)(hk:k≤j):o7 (List.replicate m a++List.replicate j b) ((m:Int)+(k:Int)) (N:Int)=List.replicate (j-k) b:=by
 have e1:((m:Int)+(k:Int)).toNat=m+k:=by omega
 simp only[o7,e1,Int.toNat_natCast,hN]
 rw[List.drop_append,List.length_replicate,List.drop_replicate,show m-(m+k)=0 by omega,List.drop_replicate,show m+k-m=k by omega]
 simp
 omega
theorem d5z:B2 Tryz.prog 39 [c5i,it] [b1X] d3B (fun _ _ vs u=>∃v,vs=[v]∧u=v):=by
 refine A4 I11 (by kernel_rfl) (fun ρ h=>c9s) (by kernel_rfl) c4j c2m (by decide) (fun w0 vals ds hr hok=> ?_)
 obtain⟨h1,h2,h3⟩:=hok
 have hR:b1X.rows ds=List.replicate (a7 ds 1).toNat (((b9 ds 0)[0]?).getD []):=rfl
 clear hr
 simp only[b8s]
 generalize e0:b9 ds 0=r at*
 generalize e1:a7 ds 1=n at*
 match r,h1 with
 | [row],_=>
   have hR:b1X.rows ds=List.replicate n.toNat row:=hR
   obtain⟨N,rfl⟩:=Int.eq_ofNat_of_zero_le h2
   have hN:N≤1000000:=by omega
   have w1:IntKind.u64.wrap ((List.length [row]:Nat):Int)=1:=b3j (by simp) (by simp)
   have w5:IntKind.u64.wrap ((1:Nat):Int)=1:=b3j (by simp) (by simp)
   have w2:IntKind.u64.wrap (N:Int)=N:=b3j (by omega) (by omega)
   have w3:IntKind.u64.wrap (1*(N:Int))=N:=by rw[Int.one_mul];exact w2
   have w4:IntKind.i64.wrap (N:Int)=N:=b8 _ (by omega) (by omega)
   simp only[g9,Nat.reduceBEq,Nat.reduceLT,Nat.reduceSub,e0,e1,w1,w2,w3,w4]
   refine⟨fun h=>by omega,fun _=>⟨by omega,by omega,by omega,by omega,fun h=>by omega,fun _=>⟨by omega,by omega,?_⟩⟩⟩
   have hmin:min (N:Int) ((1:Nat):Int)=((min N 1:Nat):Int):=by omega
   have hz:∀m:Nat,m≤N→(List.replicate m row++List.replicate (N-m) [D.i 0]).length=N:=fun m hm=>by simp;omega
   refine TT.sat_loop (fun v=>∃m:Nat,v.i 0=m∧m≤N∧(m=0→N=0)∧v.d 1=List.replicate m row++List.replicate (N-m) [D.i 0]) (fun v=>N-(v.i 0).toNat)
    ⟨min N 1,?_,by omega,by omega,?_⟩ (fun v hv=> ?_)
   ·simp only[j5,i8,beq_self_eq_true,if_true,E.ev,X.ev,Z9,w6,e0,e1,w1,w5,w2,w3,w4,AL.ev,y9,List.length_replicate,Int.toNat_natCast,List.length_singleton]
    exact hmin
   ·simp only[D4,i8,beq_self_eq_true,if_true,E.ev,X.ev,Z9,w6,e0,e1,w1,w5,w2,w3,w4,AL.ev,y9,List.length_replicate,Int.toNat_natCast,List.length_singleton]
    have s1:=a9y row 1 (min N 1)
    have s0:=a9y [D.i 0] N 0
    have s2:=b4d row [D.i 0] 0 N (min N 1) N (by omega) (by omega)
    rw[hmin,show [row]=List.replicate 1 row from rfl,s1]
    simp only[List.length_replicate]
    simp only[List.replicate_zero,List.nil_append,Int.natCast_zero,Int.zero_add] at s2
    rw[show((min (min N 1) 1:Nat):Int)=((min N 1:Nat):Int) by omega,s2,show o7 (List.replicate N [D.i 0]) 0 0=[] by simp [o7],show min (min N 1) 1=min N 1 by omega]
    rfl
   ·obtain⟨m,m0,m1,m2,md⟩:=hv
    have s1:=d0x row [D.i 0] m (N-m)
    have s2:((o7 (List.replicate m row++List.replicate (N-m) [D.i 0]) (m:Int) (N:Int)).length:Int)=((N-m:Nat):Int):=by
     have:=b4d row [D.i 0] m (N-m) 0 N (by omega) (by omega)
     simp only[Int.natCast_zero,Int.add_zero] at this
     rw[this];simp
    have s3:min ((N-m:Nat):Int) ((m:Nat):Int)=((min (N-m) m:Nat):Int):=by omega
    have s4:=a9y row m (min (N-m) m)
    have s5:=b4d row [D.i 0] m (N-m) (min (N-m) m) N (by omega) (by omega)
    simp only[g9,Nat.reduceBEq,Nat.reduceLT,Nat.reduceSub,m0,md,hz m m1,s2,s1,List.length_replicate,s3,s4]
    rw[show min (min (N-m) m) m=min (N-m) m by omega,s5,b8 ((m:Int)+((min (N-m) m:Nat):Int)) (by omega) (by omega)]
    refine⟨fun hc=>⟨by omega,by omega,by omega,by omega,⟨m+min (N-m) m,by omega,by omega,by omega,?_⟩,by omega⟩,fun hc=> ?_⟩
    ·rw[List.replicate_append_replicate]
     congr 2
     omega
    ·obtain rfl:m=N:=by omega
     refine⟨.own 0 (.lit 0),.var 2001,by kernel_rfl,?_,fun σ u _ hu=>⟨u,hu,rfl⟩⟩
     rw[hR]
     simp only[X.ev,x7,g9,Nat.reduceBEq,Nat.reduceLT,Nat.reduceSub,md]
     simp
def d1e:=c0j [c5i,it] 3 [.int .i64] (fun al=>match al with | .x x (.i n .nil)=>(match x.lenN,x.at 0 with | some 1,some r=>some (.rep n r) | _,_=>none) | _=>none)
 (fun al=>match al with | .x _ (.i n .nil)=>[.tru (.cmpS .leq (.lit 0) n),.tru (.cmpS .leq n (.lit 1000000))] | _=>[])
theorem c8t{ρ:Env}:i9 Tryz.prog ρ 39 d1e:=by
 refine c4N (l:=b1X) d5z (by decide) (fun al x hc ho=> ?_)
 split at hc
 ·rename_i x n
  split at hc
  ·rename_i r h1 h2
   simp only[Option.some.injEq] at hc
   subst hc
   have o1:=ho _ (List.mem_cons_self ..)
   have o2:=ho _ (List.mem_cons_of_mem _ (List.mem_cons_self ..))
   simp only[Ob.ok,B.cmpS_ev,n8,j8,E.ev] at o1 o2
   have e1:=X.lenN_ev ρ h1
   have e2:=X.at_ev ρ h2
   refine⟨⟨e1,o1,o2⟩,?_⟩
   show List.replicate (n.ev ρ).toNat (r.ev ρ)=List.replicate (n.ev ρ).toNat (((x.ev ρ)[0]?).getD [])
   rw[e2]
   rfl
  ·cases hc
 ·cases hc
theorem b9v(f0 f1 f2 f3 f4 f6 f7:Int)(f5 f8:Rows):G1 [.i f0,.i f1,.i f2,.i f3,.i f4,.l f5,.i f6,.i f7,.l f8]=G2 f0 f1 f2 f3 f4 f5 f6 f7 f8:=rfl
theorem c8T:m8 Tryz.prog 32 [G4] (fun ds=> .bool (M7 ds)):=by
 refine GivesIf.all (i7 KF (by kernel_rfl) (fun ρ h=>c1D (Sees.of h 77)) (by kernel_rfl) b4T b4N (by decide) (fun W vals ds hr _=> ?_))
 have hlen:=a4P hr
 simp only[a7i]
 have hO:M7 ds=L7 (b9 ds 0):=rfl
 rw[hO]
 clear hr
 generalize e0:b9 ds 0=r at*
 refine TT.sat_loop (fun v=>∃i:Nat,v.i 1=i∧i≤r.length∧(H8 r (r.length-i) i (v.i 0)&&decide (r.length≤300))=L7 r) (fun v=>r.length-(v.i 1).toNat)
  ⟨0,by simp [j5,i8,E.ev],by omega,rfl⟩ (fun v hv=> ?_)
 obtain⟨i,i0,i1,i2⟩:=hv
 simp only[g9,Nat.reduceBEq,Nat.reduceLT,Nat.reduceSub,i0,e0,d4M,b9v,a3Y]
 refine⟨fun hc=> ?_,fun hc=> ?_⟩
 ·have hi:i<r.length:=by omega
  obtain⟨f,hf⟩:∃f,r.length-i=f+1:=⟨r.length-i-1,by omega⟩
  have hf':r.length-(i+1)=f:=by omega
  rw[hf,H8] at i2
  rw[b8 ((i:Int)+1) (by omega) (by omega)]
  refine⟨by omega,by omega,fun h=> ?_,fun h=>⟨fun g=> ?_,fun g=>⟨⟨i+1,rfl,by omega,?_⟩,by omega⟩⟩⟩
  ·rw[←i2,h];rfl
  ·rw[←i2,h,decide_eq_false (by omega)];rfl
  ·rw[hf',←i2,h,decide_eq_true (p:=v.i 0<lg r i 0) (by omega)];rfl
 ·have h0:r.length-i=0:=by omega
  rw[h0,H8,Bool.true_and] at i2
  rw[←i2]
  refine congrArg Value.bool ?_
  rw[Bool.eq_iff_iff]
  simp only[n8,j8,decide_eq_true_eq]
  omega
def w8:Interp where
 fi n l:=K82.fi n l
 fb n l:=match n with | 140=>M7 l | n=>K82.fb n l
 fd _ _:=[]
theorem c8M{ρ:Env}(h:Sees ρ w8 150):Sees ρ K82 136:=h.trans (by decide) fun n l hn=>by
 refine⟨?_,?_⟩
 ·
  rfl
 ·
  simp only[w8]
  split<;>first | omega | rfl
theorem c7O{ρ:Env}(h:Sees ρ w8 150):Sees ρ W8 134:=d0f (c8M h)
theorem c0J{ρ:Env}(h:Sees ρ w8 150):Sees ρ KG 80:=c7E (c7W (c0I (b7o (b6j (b6e (b6n (b6X (b6Y (b6r (b6U (b6p (c7O h))))))))))))
theorem a8z{ρ:Env}(h:Sees ρ w8 150):Sees ρ K6 60:=d3G (d3H (c0J h))
def b2N:=u7 [G4] fun al=> .ret (bV (bF 140 M7 al))
theorem b4X{ρ:Env}(h:Sees ρ w8 150):i9 Tryz.prog ρ 32 b2N:=
 j7 c8T (fun _=>rfl) (fun al=>by simp only[iV,bV,V.s0,V.val,V2.val,S.val,S0.val,m9 (s:=140) (f:=M7) (fun l=>by rw[(h 140 l (by decide)).2];simp only[w8])];try rfl)
def b8L:Ct:=(39,d1e)::(32,b2N)::(40,a8l)::(41,a6z)::(42,a4V)::c6X
theorem b0s{ρ:Env}(h:Sees ρ w8 150):CtOk Tryz.prog ρ b8L:= .cons c8t<| .cons (b4X h)<| .cons (b0C (b7Q (a8z h)))<| .cons (b8p (a8z h))<| .cons (b1u (b7Q (a8z h)))<|c6f (c7O h)
def a6Y:TT j4:=
(.ite (.cmp .lss (.var 2) (.lit 1))
 (.ret ((.v (.one (.z (.bool (.lit false))))),[],4))
 (.ite (.cmp .gtr (.var 2) (.lit 100000))
 (.ret ((.v (.one (.z (.bool (.lit false))))),[],4))
 (.ite (.cmp .lss (.var 3) (.lit 1))
 (.ret ((.v (.one (.z (.bool (.lit false))))),[],4))
 (.ite (.cmp .gtr (.var 3) (.lit 64))
 (.ret ((.v (.one (.z (.bool (.lit false))))),[],4))
 (.ite (.cmp .lss (.var 4) (.lit 1))
 (.ret ((.v (.one (.z (.bool (.lit false))))),[],4))
 (.ite (.cmp .gtr (.var 4) (.lit 64))
 (.ret ((.v (.one (.z (.bool (.lit false))))),[],4))
 (.ite (.not (.fn 31 (.i (.var 0) (.i (.var 0) (.i (.var 1) (.i (.var 1) .nil))))))
 (.ret ((.v (.one (.z (.bool (.lit false))))),[],5))
 (.ite (.fn 31 (.i (.var 0) (.i (.ar .add .i64 (.var 0) (.ar .mul .i64 (.var 3) (.var 2))) (.i (.var 1) (.i (.ar .add .i64 (.var 1) (.ar .mul .i64 (.var 4) (.var 2))) .nil)))))
 (.ite (.cmp .eql (.len (.var 5)) (.ar .mul .i64 (.var 3) (.var 4)))
 (.loop 0 6000 ⟨[(0,(.lit 0))],[],[]⟩
 (.ite (.cmp .lss (.var 6000) (.len (.var 5)))
 (.ob (.tru (.cmp .leq (.lit 0) (.var 6000)))
 (.ob (.tru (.cmp .lss (.var 6000) (.len (.var 5))))
 (.ite (.cmp .lss (.rd (.var 5) (.var 6000) 0) (.lit 0))
 (.ret ((.v (.one (.z (.bool (.not (.cmp .geq (.var 6000) (.lit 0))))))),[],6))
 (.ite (.cmp .gtr (.rd (.var 5) (.var 6000) 0) (.lit 100000))
 (.ret ((.v (.one (.z (.bool (.not (.cmp .geq (.var 6000) (.lit 0))))))),[],6))
 (.next 0 ⟨[(0,(.ar .add .i64 (.var 6000) (.lit 1)))],[],[]⟩)))))
 (.ret ((.v (.one (.z (.bool (.lit true))))),[],6))))
 (.ret ((.v (.one (.z (.bool (.lit false))))),[],5)))
 (.ret ((.v (.one (.z (.bool (.lit false))))),[],5))))))))))
def b8G:List (Nat×St):=[
(5,⟨(List.append [(.v (.one (.z (.ext [(.int .i64)] (.var 5) false)))),(.v (.one (.z (.clo 37 [])))),(.v (.one (.z .any))),(.v (.one (.z .any))),(.v (.one (.z (.int .i64 (.lit 0))))),(.v (.one (.z .any))),(.v (.one (.z (.ext [(.int .i64)] (.var 5) false)))),(.v (.one (.z (.int .i64 (.len (.var 5)))))),(.v (.one (.z (.int .i64 (.var 6000)))))] (List.replicate 10 V.any)),[(4,(.cells 47 [(.z (.int .i64 (.var 0))),(.z (.int .i64 (.ar .add .i64 (.var 0) (.ar .mul .i64 (.var 3) (.var 2))))),(.z (.int .i64 (.var 1))),(.z (.int .i64 (.ar .add .i64 (.var 1) (.ar .mul .i64 (.var 4) (.var 2)))))])),(0,(.cells 26 [(.z (.int .i64 (.var 0))),(.z (.int .i64 (.var 1))),(.z (.int .i64 (.var 2))),(.z (.int .i64 (.var 3))),(.z (.int .i64 (.var 4))),(.z (.ext [(.int .i64)] (.var 5) false))]))],6,[]⟩)]
def b9w:List (FuncId×Nat×Nat×St):=[
]
set_option maxRecDepth 100000 in
theorem b5W:T.norm 0 (call Tryz.prog b8L ⟨Lt.un (Lt.of []),b8G,b9w⟩ 200 8 (g7 0 [l8]) [] 0) TT.ret=a6Y:=by kernel_rfl
theorem b3n:a6Y.low 1000=true:=by kernel_rfl
def a9i:TT j4:=
(.ob (.tru (.cmp .leq (.lit 0) (.len (.var 5))))
(.ob (.tru (.cmp .leq (.len (.var 5)) (.lit 1000000)))
(.ob (.tru (.cmp .leq (.lit 0) (.var 7)))
(.ob (.tru (.cmp .lss (.var 7) (.len (.rep (.len (.var 5)) (.i (.lit (-1)) .nil)))))
(.ob (.tru (.cmp .leq (.lit 0) (.len (.var 5))))
(.ob (.tru (.cmp .leq (.len (.var 5)) (.lit 1000000)))
(.ob (.tru (.cmp .lss (.lit 0) (.len (.var 5))))
(.loop 0 8000 ⟨[],[],[(0,(.row (.i (.var 7) .nil))),(1,(.upd (.rep (.len (.var 5)) (.i (.lit (-1)) .nil)) (.var 7) 0 (.i (.lit 0) .nil)))]⟩
 (.ite (.cmp .gtr (.len (.var 8000)) (.lit 0))
 (.ob (.tru (.cmp .lss (.lit 0) (.len (.var 8000))))
 (.ob (.tru (.cmp .neq (.var 3) (.lit 0)))
 (.ob (.tru (.cmp .neq (.var 3) (.lit 0)))
 (.loop 1 15000 ⟨[],[(0,(.lit false))],[]⟩
 (.ite (.var 15000)
 (.loop 2 16000 ⟨[],[(0,(.lit false))],[]⟩
 (.ite (.var 16000)
 (.loop 3 17000 ⟨[],[(0,(.lit false))],[]⟩
 (.ite (.var 17000)
 (.ite (.cmp .lss (.ar .quo .i64 (.rd (.var 8000) (.lit 0) 0) (.var 3)) (.ar .sub .i64 (.var 4) (.lit 1)))
 (.ob (.tru (.cmp .leq (.lit 0) (.ar .add .i64 (.rd (.var 8000) (.lit 0) 0) (.var 3))))
 (.ob (.tru (.cmp .lss (.ar .add .i64 (.rd (.var 8000) (.lit 0) 0) (.var 3)) (.len (.var 17003))))
 (.ite (.cmp .lss (.rd (.var 17003) (.ar .add .i64 (.rd (.var 8000) (.lit 0) 0) (.var 3)) 0) (.lit 0))
 (.ob (.tru (.cmp .leq (.lit 0) (.ar .add .i64 (.rd (.var 8000) (.lit 0) 0) (.var 3))))
 (.ob (.tru (.cmp .lss (.ar .add .i64 (.rd (.var 8000) (.lit 0) 0) (.var 3)) (.len (.var 5))))
 (.ite (.cmp .geq (.rd (.var 5) (.ar .add .i64 (.rd (.var 8000) (.lit 0) 0) (.var 3)) 0) (.var 6))
 (.ob (.tru (.cmp .leq (.lit 0) (.rd (.var 8000) (.lit 0) 0)))
 (.ob (.tru (.cmp .lss (.rd (.var 8000) (.lit 0) 0) (.len (.var 17003))))
 (.ob (.tru (.cmp .leq (.lit 0) (.ar .add .i64 (.rd (.var 8000) (.lit 0) 0) (.var 3))))
 (.ob (.tru (.cmp .lss (.ar .add .i64 (.rd (.var 8000) (.lit 0) 0) (.var 3)) (.len (.var 17003))))
 (.ob (.tru (.cmp .lss (.len (.var 17002)) (.len (.var 5))))
 (.next 0 ⟨[],[],[(0,(.app (.var 17002) (.row (.i (.ar .add .i64 (.rd (.var 8000) (.lit 0) 0) (.var 3)) .nil)))),(1,(.upd (.var 17003) (.ar .add .i64 (.rd (.var 8000) (.lit 0) 0) (.var 3)) 0 (.i (.ar .add .i64 (.rd (.var 17003) (.rd (.var 8000) (.lit 0) 0) 0) (.lit 1)) .nil)))]⟩))))))
 (.next 0 ⟨[],[],[(0,(.var 17002)),(1,(.var 17003))]⟩))))
 (.next 0 ⟨[],[],[(0,(.var 17002)),(1,(.var 17003))]⟩))))
 (.next 0 ⟨[],[],[(0,(.var 17002)),(1,(.var 17003))]⟩))
 (.ite (.cmp .eql (.ar .rem .i64 (.rd (.var 8000) (.lit 0) 0) (.var 3)) (.ar .sub .i64 (.var 3) (.lit 1)))
 (.next 3 ⟨[],[(1,(.lit true)),(0,(.lit true))],[(2,(.var 16002)),(3,(.var 16003))]⟩)
 (.ob (.tru (.cmp .leq (.lit 0) (.ar .add .i64 (.rd (.var 8000) (.lit 0) 0) (.lit 1))))
 (.ob (.tru (.cmp .lss (.ar .add .i64 (.rd (.var 8000) (.lit 0) 0) (.lit 1)) (.len (.var 16003))))
 (.ite (.cmp .lss (.rd (.var 16003) (.ar .add .i64 (.rd (.var 8000) (.lit 0) 0) (.lit 1)) 0) (.lit 0))
 (.ob (.tru (.cmp .leq (.lit 0) (.ar .add .i64 (.rd (.var 8000) (.lit 0) 0) (.lit 1))))
 (.ob (.tru (.cmp .lss (.ar .add .i64 (.rd (.var 8000) (.lit 0) 0) (.lit 1)) (.len (.var 5))))
 (.ite (.cmp .geq (.rd (.var 5) (.ar .add .i64 (.rd (.var 8000) (.lit 0) 0) (.lit 1)) 0) (.var 6))
 (.ob (.tru (.cmp .leq (.lit 0) (.rd (.var 8000) (.lit 0) 0)))
 (.ob (.tru (.cmp .lss (.rd (.var 8000) (.lit 0) 0) (.len (.var 16003))))
 (.ob (.tru (.cmp .leq (.lit 0) (.ar .add .i64 (.rd (.var 8000) (.lit 0) 0) (.lit 1))))
 (.ob (.tru (.cmp .lss (.ar .add .i64 (.rd (.var 8000) (.lit 0) 0) (.lit 1)) (.len (.var 16003))))
 (.ob (.tru (.cmp .lss (.len (.var 16002)) (.len (.var 5))))
 (.next 3 ⟨[],[(1,(.lit false)),(0,(.lit true))],[(2,(.app (.var 16002) (.row (.i (.ar .add .i64 (.rd (.var 8000) (.lit 0) 0) (.lit 1)) .nil)))),(3,(.upd (.var 16003) (.ar .add .i64 (.rd (.var 8000) (.lit 0) 0) (.lit 1)) 0 (.i (.ar .add .i64 (.rd (.var 16003) (.rd (.var 8000) (.lit 0) 0) 0) (.lit 1)) .nil)))]⟩))))))
 (.next 3 ⟨[],[(1,(.lit false)),(0,(.lit true))],[(2,(.var 16002)),(3,(.var 16003))]⟩))))
 (.next 3 ⟨[],[(1,(.lit false)),(0,(.lit true))],[(2,(.var 16002)),(3,(.var 16003))]⟩)))))))
 (.ite (.cmp .eql (.ar .rem .i64 (.rd (.var 8000) (.lit 0) 0) (.var 3)) (.lit 0))
 (.next 2 ⟨[],[(1,(.lit true)),(0,(.lit true))],[(2,(.var 15002)),(3,(.var 15003))]⟩)
 (.ob (.tru (.cmp .leq (.lit 0) (.ar .sub .i64 (.rd (.var 8000) (.lit 0) 0) (.lit 1))))
 (.ob (.tru (.cmp .lss (.ar .sub .i64 (.rd (.var 8000) (.lit 0) 0) (.lit 1)) (.len (.var 15003))))
 (.ite (.cmp .lss (.rd (.var 15003) (.ar .sub .i64 (.rd (.var 8000) (.lit 0) 0) (.lit 1)) 0) (.lit 0))
 (.ob (.tru (.cmp .leq (.lit 0) (.ar .sub .i64 (.rd (.var 8000) (.lit 0) 0) (.lit 1))))
 (.ob (.tru (.cmp .lss (.ar .sub .i64 (.rd (.var 8000) (.lit 0) 0) (.lit 1)) (.len (.var 5))))
 (.ite (.cmp .geq (.rd (.var 5) (.ar .sub .i64 (.rd (.var 8000) (.lit 0) 0) (.lit 1)) 0) (.var 6))
 (.ob (.tru (.cmp .leq (.lit 0) (.rd (.var 8000) (.lit 0) 0)))
 (.ob (.tru (.cmp .lss (.rd (.var 8000) (.lit 0) 0) (.len (.var 15003))))
 (.ob (.tru (.cmp .leq (.lit 0) (.ar .sub .i64 (.rd (.var 8000) (.lit 0) 0) (.lit 1))))
 (.ob (.tru (.cmp .lss (.ar .sub .i64 (.rd (.var 8000) (.lit 0) 0) (.lit 1)) (.len (.var 15003))))
 (.ob (.tru (.cmp .lss (.len (.var 15002)) (.len (.var 5))))
 (.next 2 ⟨[],[(1,(.lit false)),(0,(.lit true))],[(2,(.app (.var 15002) (.row (.i (.ar .sub .i64 (.rd (.var 8000) (.lit 0) 0) (.lit 1)) .nil)))),(3,(.upd (.var 15003) (.ar .sub .i64 (.rd (.var 8000) (.lit 0) 0) (.lit 1)) 0 (.i (.ar .add .i64 (.rd (.var 15003) (.rd (.var 8000) (.lit 0) 0) 0) (.lit 1)) .nil)))]⟩))))))
 (.next 2 ⟨[],[(1,(.lit false)),(0,(.lit true))],[(2,(.var 15002)),(3,(.var 15003))]⟩))))
 (.next 2 ⟨[],[(1,(.lit false)),(0,(.lit true))],[(2,(.var 15002)),(3,(.var 15003))]⟩)))))))
 (.ite (.cmp .eql (.ar .quo .i64 (.rd (.var 8000) (.lit 0) 0) (.var 3)) (.lit 0))
 (.next 1 ⟨[],[(1,(.lit true)),(0,(.lit true))],[(2,(.sub (.var 8000) (.lit 1) (.len (.var 8000)))),(3,(.var 8001))]⟩)
 (.ob (.tru (.cmp .leq (.lit 0) (.ar .sub .i64 (.rd (.var 8000) (.lit 0) 0) (.var 3))))
 (.ob (.tru (.cmp .lss (.ar .sub .i64 (.rd (.var 8000) (.lit 0) 0) (.var 3)) (.len (.var 8001))))
 (.ite (.cmp .lss (.rd (.var 8001) (.ar .sub .i64 (.rd (.var 8000) (.lit 0) 0) (.var 3)) 0) (.lit 0))
 (.ob (.tru (.cmp .leq (.lit 0) (.ar .sub .i64 (.rd (.var 8000) (.lit 0) 0) (.var 3))))
 (.ob (.tru (.cmp .lss (.ar .sub .i64 (.rd (.var 8000) (.lit 0) 0) (.var 3)) (.len (.var 5))))
 (.ite (.cmp .geq (.rd (.var 5) (.ar .sub .i64 (.rd (.var 8000) (.lit 0) 0) (.var 3)) 0) (.var 6))
 (.ob (.tru (.cmp .leq (.lit 0) (.rd (.var 8000) (.lit 0) 0)))
 (.ob (.tru (.cmp .lss (.rd (.var 8000) (.lit 0) 0) (.len (.var 8001))))
 (.ob (.tru (.cmp .leq (.lit 0) (.ar .sub .i64 (.rd (.var 8000) (.lit 0) 0) (.var 3))))
 (.ob (.tru (.cmp .lss (.ar .sub .i64 (.rd (.var 8000) (.lit 0) 0) (.var 3)) (.len (.var 8001))))
 (.ob (.tru (.cmp .lss (.len (.sub (.var 8000) (.lit 1) (.len (.var 8000)))) (.len (.var 5))))
 (.next 1 ⟨[],[(1,(.lit false)),(0,(.lit true))],[(2,(.app (.sub (.var 8000) (.lit 1) (.len (.var 8000))) (.row (.i (.ar .sub .i64 (.rd (.var 8000) (.lit 0) 0) (.var 3)) .nil)))),(3,(.upd (.var 8001) (.ar .sub .i64 (.rd (.var 8000) (.lit 0) 0) (.var 3)) 0 (.i (.ar .add .i64 (.rd (.var 8001) (.rd (.var 8000) (.lit 0) 0) 0) (.lit 1)) .nil)))]⟩))))))
 (.next 1 ⟨[],[(1,(.lit false)),(0,(.lit true))],[(2,(.sub (.var 8000) (.lit 1) (.len (.var 8000)))),(3,(.var 8001))]⟩))))
 (.next 1 ⟨[],[(1,(.lit false)),(0,(.lit true))],[(2,(.sub (.var 8000) (.lit 1) (.len (.var 8000)))),(3,(.var 8001))]⟩))))))))))
 (.ret ((.v (.one (.z (.own 3 (.lit 0))))),[(3,(.own 3 [(.int .i64)] (.var 8001) (.lit 0))),(3,(.own 3 [(.int .i64)] (.upd (.rep (.len (.var 5)) (.i (.lit (-1)) .nil)) (.var 7) 0 (.i (.lit 0) .nil)) (.lit 0))),(3,(.own 3 [(.int .i64)] (.rep (.len (.var 5)) (.i (.lit (-1)) .nil)) (.lit 0)))],17)))))))))))
def c1a:List (Nat×St):=[
(7,⟨(List.append [(.v (.agg [(.z (.int .i64 (.var 0))),(.z (.int .i64 (.var 1))),(.z (.int .i64 (.var 2))),(.z (.int .i64 (.var 3))),(.z (.int .i64 (.var 4))),(.z (.ext [(.int .i64)] (.var 5) false))])),(.v (.one (.z (.int .i64 (.var 6))))),(.v (.one (.z (.int .i64 (.var 7))))),(.v (.one (.z (.ptr 0 0)))),(.v (.one (.z (.ptr 1 0)))),(.v (.one (.z .any))),(.v (.one (.z (.const (.slice none 0 0))))),(.v (.one (.z (.ptr 4 0)))),(.v (.one (.z (.ptr 6 0)))),(.v (.one (.z .any))),(.v (.one (.z .any))),(.v (.one (.z (.sl 2 0 1 (some 1))))),(.v (.one (.z (.ptr 0 5)))),(.v (.one (.z (.ext [(.int .i64)] (.var 5) false)))),(.v (.one (.z (.int .i64 (.len (.var 5)))))),(.v (.one (.z (.own 3 (.lit 0))))),(.v (.one (.z (.own 3 (.lit 0))))),(.v (.one (.z (.int .i64 (.var 7))))),(.v (.one (.z (.optr 3 (.lit 0) 1 (.var 7) 0)))),(.v (.one (.z (.ptr 0 5)))),(.v (.one (.z (.ext [(.int .i64)] (.var 5) false)))),(.v (.one (.z (.int .i64 (.len (.var 5)))))),(.v (.one (.z (.chn 5)))),(.v (.one (.z (.chn 5)))),(.v (.one (.z (.int .i64 (.var 7)))))] (List.replicate 34 V.any)),[(8,.dfm),(5,(.chn .i64 (.var 8000) (.len (.var 5)))),(6,(.cells 79 [(.z (.chn 5))])),(3,(.own 3 [(.int .i64)] (.var 8001) (.lit 0))),(4,(.cells 24 [(.z (.own 3 (.lit 0)))])),(2,(.cells 3 [(.z (.int .i64 (.lit (-1))))])),(1,(.cells 3 [(.z (.int .i64 (.var 6)))])),(0,(.cells 26 [(.z (.int .i64 (.var 0))),(.z (.int .i64 (.var 1))),(.z (.int .i64 (.var 2))),(.z (.int .i64 (.var 3))),(.z (.int .i64 (.var 4))),(.z (.ext [(.int .i64)] (.var 5) false))]))],9,[1000000008]⟩)]
def c3F:List (FuncId×Nat×Nat×St):=[
(33,2000015,12,⟨(List.append [(.v (.one (.z (.yl 11)))),(.v (.one (.z (.ptr 9 0)))),(.v (.one (.z (.ptr 8 0)))),(.v (.one (.z .any))),(.v (.one (.z (.int .i64 (.ar .rem .i64 (.var 7) (.var 3)))))),(.v (.one (.z (.int .i64 (.ar .quo .i64 (.var 7) (.var 3)))))),(.v (.one (.z (.bool (.lit true))))),(.v (.one (.z (.int .i64 (.var 7))))),(.v (.one (.z (.ptr 8 3)))),(.v (.one (.z (.int .i64 (.var 3))))),(.v (.one (.z (.int .i64 (.ar .rem .i64 (.var 7) (.var 3)))))),(.v (.one (.z (.int .i64 (.var 7))))),(.v (.one (.z (.ptr 8 3)))),(.v (.one (.z (.int .i64 (.var 3))))),(.v (.one (.z (.int .i64 (.ar .quo .i64 (.var 7) (.var 3)))))),(.v (.one (.z (.int .i64 (.ar .quo .i64 (.var 7) (.var 3)))))),(.v (.one (.z (.bool (.cmp .eql (.ar .quo .i64 (.var 7) (.var 3)) (.lit 0)))))),(.v (.one (.z (.bool (.var 13001)))))] (List.append (List.replicate 6 V.any) (List.append [(.v (.one (.z (.bool (.lit true)))))] (List.replicate 39 V.any)))),[(11,(.loop .ready none (List.append [(.v (.agg [(.z (.int .i64 (.var 0))),(.z (.int .i64 (.var 1))),(.z (.int .i64 (.var 2))),(.z (.int .i64 (.var 3))),(.z (.int .i64 (.var 4))),(.z (.ext [(.int .i64)] (.var 5) false))])),(.v (.one (.z (.int .i64 (.var 6))))),(.v (.one (.z (.int .i64 (.var 7))))),(.v (.one (.z (.ptr 0 0)))),(.v (.one (.z (.ptr 1 0)))),(.v (.one (.z .any))),(.v (.one (.z (.const (.slice none 0 0))))),(.v (.one (.z (.ptr 4 0)))),(.v (.one (.z (.ptr 6 0)))),(.v (.one (.z (.ptr 7 0)))),(.v (.one (.z .any))),(.v (.one (.z (.sl 2 0 1 (some 1))))),(.v (.one (.z (.ptr 0 5)))),(.v (.one (.z (.ext [(.int .i64)] (.var 5) false)))),(.v (.one (.z (.int .i64 (.len (.var 5)))))),(.v (.one (.z (.own 3 (.lit 0))))),(.v (.one (.z (.own 3 (.lit 0))))),(.v (.one (.z (.int .i64 (.var 7))))),(.v (.one (.z (.optr 3 (.lit 0) 1 (.var 7) 0)))),(.v (.one (.z (.ptr 0 5)))),(.v (.one (.z (.ext [(.int .i64)] (.var 5) false)))),(.v (.one (.z (.int .i64 (.len (.var 5)))))),(.v (.one (.z (.chn 5)))),(.v (.one (.z (.chn 5)))),(.v (.one (.z (.int .i64 (.var 7))))),(.v (.one (.z (.chn 5)))),(.v (.one (.z (.int .i64 (.lit 1))))),(.v (.one (.z (.bool (.lit true))))),(.v (.one (.z (.chn 5)))),(.v (.one (.z (.int .i64 (.var 7))))),(.v (.agg [(.z (.int .i64 (.var 0))),(.z (.int .i64 (.var 1))),(.z (.int .i64 (.var 2))),(.z (.int .i64 (.var 3))),(.z (.int .i64 (.var 4))),(.z (.ext [(.int .i64)] (.var 5) false))])),(.v (.one (.z (.int .i64 (.var 7))))),(.v (.one (.z (.clo 33 [(9,0),(8,0)]))))] (List.replicate 26 V.any)) [] .skip .skip 10)),(10,(.dfd false)),(9,(.cells 3 [(.z (.int .i64 (.var 7)))])),(8,(.cells 26 [(.z (.int .i64 (.var 0))),(.z (.int .i64 (.var 1))),(.z (.int .i64 (.var 2))),(.z (.int .i64 (.var 3))),(.z (.int .i64 (.var 4))),(.z (.ext [(.int .i64)] (.var 5) false))])),(7,(.cells 3 [(.z (.int .i64 (.var 7)))])),(5,(.chn .i64 (.var 13002) (.len (.var 5)))),(6,(.cells 79 [(.z (.chn 5))])),(3,(.own 3 [(.int .i64)] (.var 13003) (.lit 0))),(4,(.cells 24 [(.z (.own 3 (.lit 0)))])),(2,(.cells 3 [(.z (.int .i64 (.lit (-1))))])),(1,(.cells 3 [(.z (.int .i64 (.var 6)))])),(0,(.cells 26 [(.z (.int .i64 (.var 0))),(.z (.int .i64 (.var 1))),(.z (.int .i64 (.var 2))),(.z (.int .i64 (.var 3))),(.z (.int .i64 (.var 4))),(.z (.ext [(.int .i64)] (.var 5) false))]))],13,[]⟩),
(33,2000015,13,⟨(List.append [(.v (.one (.z (.yl 12)))),(.v (.one (.z (.ptr 10 0)))),(.v (.one (.z (.ptr 9 0)))),(.v (.one (.z .any))),(.v (.one (.z (.int .i64 (.ar .rem .i64 (.var 7) (.var 3)))))),(.v (.one (.z (.int .i64 (.ar .quo .i64 (.var 7) (.var 3)))))),(.v (.one (.z (.bool (.lit true))))),(.v (.one (.z (.int .i64 (.var 7))))),(.v (.one (.z (.ptr 9 3)))),(.v (.one (.z (.int .i64 (.var 3))))),(.v (.one (.z (.int .i64 (.ar .rem .i64 (.var 7) (.var 3)))))),(.v (.one (.z (.int .i64 (.var 7))))),(.v (.one (.z (.ptr 9 3)))),(.v (.one (.z (.int .i64 (.var 3))))),(.v (.one (.z (.int .i64 (.ar .quo .i64 (.var 7) (.var 3)))))),(.v (.one (.z (.int .i64 (.ar .quo .i64 (.var 7) (.var 3)))))),(.v (.one (.z (.bool (.cmp .eql (.ar .quo .i64 (.var 7) (.var 3)) (.lit 0)))))),(.v (.one (.z (.bool (.var 14001)))))] (List.append (List.replicate 6 V.any) (List.append [(.v (.one (.z (.bool (.lit true)))))] (List.replicate 39 V.any)))),[(12,(.loop .ready none (List.append [(.v (.agg [(.z (.int .i64 (.var 0))),(.z (.int .i64 (.var 1))),(.z (.int .i64 (.var 2))),(.z (.int .i64 (.var 3))),(.z (.int .i64 (.var 4))),(.z (.ext [(.int .i64)] (.var 5) false))])),(.v (.one (.z (.int .i64 (.var 6))))),(.v (.one (.z (.int .i64 (.var 7))))),(.v (.one (.z (.ptr 0 0)))),(.v (.one (.z (.ptr 1 0)))),(.v (.one (.z .any))),(.v (.one (.z (.const (.slice none 0 0))))),(.v (.one (.z (.ptr 4 0)))),(.v (.one (.z (.ptr 6 0)))),(.v (.one (.z (.ptr 8 0)))),(.v (.one (.z .any))),(.v (.one (.z (.sl 2 0 1 (some 1))))),(.v (.one (.z (.ptr 0 5)))),(.v (.one (.z (.ext [(.int .i64)] (.var 5) false)))),(.v (.one (.z (.int .i64 (.len (.var 5)))))),(.v (.one (.z (.own 3 (.lit 0))))),(.v (.one (.z (.own 3 (.lit 0))))),(.v (.one (.z (.int .i64 (.var 7))))),(.v (.one (.z (.optr 3 (.lit 0) 1 (.var 7) 0)))),(.v (.one (.z (.ptr 0 5)))),(.v (.one (.z (.ext [(.int .i64)] (.var 5) false)))),(.v (.one (.z (.int .i64 (.len (.var 5)))))),(.v (.one (.z (.chn 5)))),(.v (.one (.z (.chn 5)))),(.v (.one (.z (.int .i64 (.var 7))))),(.v (.one (.z (.chn 5)))),(.v (.one (.z (.int .i64 (.lit 1))))),(.v (.one (.z (.bool (.lit true))))),(.v (.one (.z (.chn 5)))),(.v (.one (.z (.int .i64 (.var 7))))),(.v (.agg [(.z (.int .i64 (.var 0))),(.z (.int .i64 (.var 1))),(.z (.int .i64 (.var 2))),(.z (.int .i64 (.var 3))),(.z (.int .i64 (.var 4))),(.z (.ext [(.int .i64)] (.var 5) false))])),(.v (.one (.z (.int .i64 (.var 7))))),(.v (.one (.z (.clo 33 [(10,0),(9,0)]))))] (List.replicate 26 V.any)) [] .skip .skip 11)),(11,(.dfd false)),(10,(.cells 3 [(.z (.int .i64 (.var 7)))])),(9,(.cells 26 [(.z (.int .i64 (.var 0))),(.z (.int .i64 (.var 1))),(.z (.int .i64 (.var 2))),(.z (.int .i64 (.var 3))),(.z (.int .i64 (.var 4))),(.z (.ext [(.int .i64)] (.var 5) false))])),(8,(.cells 3 [(.z (.int .i64 (.var 7)))])),(5,(.chn .i64 (.var 14002) (.len (.var 5)))),(6,(.cells 79 [(.z (.chn 5))])),(3,(.own 3 [(.int .i64)] (.var 14003) (.lit 0))),(4,(.cells 24 [(.z (.own 3 (.lit 0)))])),(2,(.cells 3 [(.z (.int .i64 (.lit (-1))))])),(1,(.cells 3 [(.z (.int .i64 (.var 6)))])),(0,(.cells 26 [(.z (.int .i64 (.var 0))),(.z (.int .i64 (.var 1))),(.z (.int .i64 (.var 2))),(.z (.int .i64 (.var 3))),(.z (.int .i64 (.var 4))),(.z (.ext [(.int .i64)] (.var 5) false))]))],14,[]⟩),
(33,2000025,14,⟨(List.append [(.v (.one (.z (.yl 12)))),(.v (.one (.z (.ptr 10 0)))),(.v (.one (.z (.ptr 9 0)))),(.v (.one (.z .any))),(.v (.one (.z (.int .i64 (.ar .rem .i64 (.var 7) (.var 3)))))),(.v (.one (.z (.int .i64 (.ar .quo .i64 (.var 7) (.var 3)))))),(.v (.one (.z (.bool (.lit true))))),(.v (.one (.z (.int .i64 (.var 7))))),(.v (.one (.z (.ptr 9 3)))),(.v (.one (.z (.int .i64 (.var 3))))),(.v (.one (.z (.int .i64 (.ar .rem .i64 (.var 7) (.var 3)))))),(.v (.one (.z (.int .i64 (.var 7))))),(.v (.one (.z (.ptr 9 3)))),(.v (.one (.z (.int .i64 (.var 3))))),(.v (.one (.z (.int .i64 (.ar .quo .i64 (.var 7) (.var 3)))))),(.v (.one (.z (.int .i64 (.ar .quo .i64 (.var 7) (.var 3)))))),(.v (.one (.z (.bool (.cmp .eql (.ar .quo .i64 (.var 7) (.var 3)) (.lit 0)))))),(.v (.one (.z (.bool (.var 14001)))))] (List.append (List.replicate 6 V.any) (List.append [(.v (.one (.z (.bool (.lit true))))),(.v (.one (.z (.bool (.lit true))))),(.v (.one (.z (.bool (.lit true))))),(.v (.one (.z (.int .i64 (.ar .rem .i64 (.var 7) (.var 3)))))),(.v (.one (.z (.bool (.cmp .eql (.ar .rem .i64 (.var 7) (.var 3)) (.lit 0)))))),(.v (.one (.z (.bool (.var 15001)))))] (List.append (List.replicate 4 V.any) (List.append [(.v (.one (.z (.bool (.lit true))))),(.v (.one (.z (.bool (.lit true)))))] (List.replicate 28 V.any)))))),[(12,(.loop .ready none (List.append [(.v (.agg [(.z (.int .i64 (.var 0))),(.z (.int .i64 (.var 1))),(.z (.int .i64 (.var 2))),(.z (.int .i64 (.var 3))),(.z (.int .i64 (.var 4))),(.z (.ext [(.int .i64)] (.var 5) false))])),(.v (.one (.z (.int .i64 (.var 6))))),(.v (.one (.z (.int .i64 (.var 7))))),(.v (.one (.z (.ptr 0 0)))),(.v (.one (.z (.ptr 1 0)))),(.v (.one (.z .any))),(.v (.one (.z (.const (.slice none 0 0))))),(.v (.one (.z (.ptr 4 0)))),(.v (.one (.z (.ptr 6 0)))),(.v (.one (.z (.ptr 8 0)))),(.v (.one (.z .any))),(.v (.one (.z (.sl 2 0 1 (some 1))))),(.v (.one (.z (.ptr 0 5)))),(.v (.one (.z (.ext [(.int .i64)] (.var 5) false)))),(.v (.one (.z (.int .i64 (.len (.var 5)))))),(.v (.one (.z (.own 3 (.lit 0))))),(.v (.one (.z (.own 3 (.lit 0))))),(.v (.one (.z (.int .i64 (.var 7))))),(.v (.one (.z (.optr 3 (.lit 0) 1 (.var 7) 0)))),(.v (.one (.z (.ptr 0 5)))),(.v (.one (.z (.ext [(.int .i64)] (.var 5) false)))),(.v (.one (.z (.int .i64 (.len (.var 5)))))),(.v (.one (.z (.chn 5)))),(.v (.one (.z (.chn 5)))),(.v (.one (.z (.int .i64 (.var 7))))),(.v (.one (.z (.chn 5)))),(.v (.one (.z (.int .i64 (.lit 1))))),(.v (.one (.z (.bool (.lit true))))),(.v (.one (.z (.chn 5)))),(.v (.one (.z (.int .i64 (.var 7))))),(.v (.agg [(.z (.int .i64 (.var 0))),(.z (.int .i64 (.var 1))),(.z (.int .i64 (.var 2))),(.z (.int .i64 (.var 3))),(.z (.int .i64 (.var 4))),(.z (.ext [(.int .i64)] (.var 5) false))])),(.v (.one (.z (.int .i64 (.var 7))))),(.v (.one (.z (.clo 33 [(10,0),(9,0)]))))] (List.replicate 26 V.any)) [] .skip .skip 11)),(11,(.dfd false)),(10,(.cells 3 [(.z (.int .i64 (.var 7)))])),(9,(.cells 26 [(.z (.int .i64 (.var 0))),(.z (.int .i64 (.var 1))),(.z (.int .i64 (.var 2))),(.z (.int .i64 (.var 3))),(.z (.int .i64 (.var 4))),(.z (.ext [(.int .i64)] (.var 5) false))])),(8,(.cells 3 [(.z (.int .i64 (.var 7)))])),(5,(.chn .i64 (.var 15002) (.len (.var 5)))),(6,(.cells 79 [(.z (.chn 5))])),(3,(.own 3 [(.int .i64)] (.var 15003) (.lit 0))),(4,(.cells 24 [(.z (.own 3 (.lit 0)))])),(2,(.cells 3 [(.z (.int .i64 (.lit (-1))))])),(1,(.cells 3 [(.z (.int .i64 (.var 6)))])),(0,(.cells 26 [(.z (.int .i64 (.var 0))),(.z (.int .i64 (.var 1))),(.z (.int .i64 (.var 2))),(.z (.int .i64 (.var 3))),(.z (.int .i64 (.var 4))),(.z (.ext [(.int .i64)] (.var 5) false))]))],15,[]⟩),
(33,2000036,15,⟨(List.append [(.v (.one (.z (.yl 12)))),(.v (.one (.z (.ptr 10 0)))),(.v (.one (.z (.ptr 9 0)))),(.v (.one (.z .any))),(.v (.one (.z (.int .i64 (.ar .rem .i64 (.var 7) (.var 3)))))),(.v (.one (.z (.int .i64 (.ar .quo .i64 (.var 7) (.var 3)))))),(.v (.one (.z (.bool (.lit true))))),(.v (.one (.z (.int .i64 (.var 7))))),(.v (.one (.z (.ptr 9 3)))),(.v (.one (.z (.int .i64 (.var 3))))),(.v (.one (.z (.int .i64 (.ar .rem .i64 (.var 7) (.var 3)))))),(.v (.one (.z (.int .i64 (.var 7))))),(.v (.one (.z (.ptr 9 3)))),(.v (.one (.z (.int .i64 (.var 3))))),(.v (.one (.z (.int .i64 (.ar .quo .i64 (.var 7) (.var 3)))))),(.v (.one (.z (.int .i64 (.ar .quo .i64 (.var 7) (.var 3)))))),(.v (.one (.z (.bool (.cmp .eql (.ar .quo .i64 (.var 7) (.var 3)) (.lit 0)))))),(.v (.one (.z (.bool (.var 14001)))))] (List.append (List.replicate 6 V.any) (List.append [(.v (.one (.z (.bool (.lit true))))),(.v (.one (.z (.bool (.lit true))))),(.v (.one (.z (.bool (.lit true))))),(.v (.one (.z (.int .i64 (.ar .rem .i64 (.var 7) (.var 3)))))),(.v (.one (.z (.bool (.cmp .eql (.ar .rem .i64 (.var 7) (.var 3)) (.lit 0)))))),(.v (.one (.z (.bool (.var 15001)))))] (List.append (List.replicate 4 V.any) (List.append [(.v (.one (.z (.bool (.lit true))))),(.v (.one (.z (.bool (.lit true))))),(.v (.one (.z (.bool (.lit true))))),(.v (.one (.z (.bool (.lit true))))),(.v (.one (.z (.int .i64 (.ar .rem .i64 (.var 7) (.var 3)))))),(.v (.one (.z (.ptr 9 3)))),(.v (.one (.z (.int .i64 (.var 3))))),(.v (.one (.z (.int .i64 (.ar .sub .i64 (.var 3) (.lit 1)))))),(.v (.one (.z (.bool (.cmp .eql (.ar .rem .i64 (.var 7) (.var 3)) (.ar .sub .i64 (.var 3) (.lit 1))))))),(.v (.one (.z (.bool (.var 16001)))))] (List.append (List.replicate 4 V.any) (List.append [(.v (.one (.z (.bool (.lit true))))),(.v (.one (.z (.bool (.lit true)))))] (List.replicate 14 V.any)))))))),[(12,(.loop .ready none (List.append [(.v (.agg [(.z (.int .i64 (.var 0))),(.z (.int .i64 (.var 1))),(.z (.int .i64 (.var 2))),(.z (.int .i64 (.var 3))),(.z (.int .i64 (.var 4))),(.z (.ext [(.int .i64)] (.var 5) false))])),(.v (.one (.z (.int .i64 (.var 6))))),(.v (.one (.z (.int .i64 (.var 7))))),(.v (.one (.z (.ptr 0 0)))),(.v (.one (.z (.ptr 1 0)))),(.v (.one (.z .any))),(.v (.one (.z (.const (.slice none 0 0))))),(.v (.one (.z (.ptr 4 0)))),(.v (.one (.z (.ptr 6 0)))),(.v (.one (.z (.ptr 8 0)))),(.v (.one (.z .any))),(.v (.one (.z (.sl 2 0 1 (some 1))))),(.v (.one (.z (.ptr 0 5)))),(.v (.one (.z (.ext [(.int .i64)] (.var 5) false)))),(.v (.one (.z (.int .i64 (.len (.var 5)))))),(.v (.one (.z (.own 3 (.lit 0))))),(.v (.one (.z (.own 3 (.lit 0))))),(.v (.one (.z (.int .i64 (.var 7))))),(.v (.one (.z (.optr 3 (.lit 0) 1 (.var 7) 0)))),(.v (.one (.z (.ptr 0 5)))),(.v (.one (.z (.ext [(.int .i64)] (.var 5) false)))),(.v (.one (.z (.int .i64 (.len (.var 5)))))),(.v (.one (.z (.chn 5)))),(.v (.one (.z (.chn 5)))),(.v (.one (.z (.int .i64 (.var 7))))),(.v (.one (.z (.chn 5)))),(.v (.one (.z (.int .i64 (.lit 1))))),(.v (.one (.z (.bool (.lit true))))),(.v (.one (.z (.chn 5)))),(.v (.one (.z (.int .i64 (.var 7))))),(.v (.agg [(.z (.int .i64 (.var 0))),(.z (.int .i64 (.var 1))),(.z (.int .i64 (.var 2))),(.z (.int .i64 (.var 3))),(.z (.int .i64 (.var 4))),(.z (.ext [(.int .i64)] (.var 5) false))])),(.v (.one (.z (.int .i64 (.var 7))))),(.v (.one (.z (.clo 33 [(10,0),(9,0)]))))] (List.replicate 26 V.any)) [] .skip .skip 11)),(11,(.dfd false)),(10,(.cells 3 [(.z (.int .i64 (.var 7)))])),(9,(.cells 26 [(.z (.int .i64 (.var 0))),(.z (.int .i64 (.var 1))),(.z (.int .i64 (.var 2))),(.z (.int .i64 (.var 3))),(.z (.int .i64 (.var 4))),(.z (.ext [(.int .i64)] (.var 5) false))])),(8,(.cells 3 [(.z (.int .i64 (.var 7)))])),(5,(.chn .i64 (.var 16002) (.len (.var 5)))),(6,(.cells 79 [(.z (.chn 5))])),(3,(.own 3 [(.int .i64)] (.var 16003) (.lit 0))),(4,(.cells 24 [(.z (.own 3 (.lit 0)))])),(2,(.cells 3 [(.z (.int .i64 (.lit (-1))))])),(1,(.cells 3 [(.z (.int .i64 (.var 6)))])),(0,(.cells 26 [(.z (.int .i64 (.var 0))),(.z (.int .i64 (.var 1))),(.z (.int .i64 (.var 2))),(.z (.int .i64 (.var 3))),(.z (.int .i64 (.var 4))),(.z (.ext [(.int .i64)] (.var 5) false))]))],16,[]⟩),
(33,2000015,14,⟨(List.append [(.v (.one (.z (.yl 13)))),(.v (.one (.z (.ptr 11 0)))),(.v (.one (.z (.ptr 10 0)))),(.v (.one (.z .any))),(.v (.one (.z (.int .i64 (.ar .rem .i64 (.rd (.var 8000) (.lit 0) 0) (.var 3)))))),(.v (.one (.z (.int .i64 (.ar .quo .i64 (.rd (.var 8000) (.lit 0) 0) (.var 3)))))),(.v (.one (.z (.bool (.lit true))))),(.v (.one (.z (.int .i64 (.rd (.var 8000) (.lit 0) 0))))),(.v (.one (.z (.ptr 10 3)))),(.v (.one (.z (.int .i64 (.var 3))))),(.v (.one (.z (.int .i64 (.ar .rem .i64 (.rd (.var 8000) (.lit 0) 0) (.var 3)))))),(.v (.one (.z (.int .i64 (.rd (.var 8000) (.lit 0) 0))))),(.v (.one (.z (.ptr 10 3)))),(.v (.one (.z (.int .i64 (.var 3))))),(.v (.one (.z (.int .i64 (.ar .quo .i64 (.rd (.var 8000) (.lit 0) 0) (.var 3)))))),(.v (.one (.z (.int .i64 (.ar .quo .i64 (.rd (.var 8000) (.lit 0) 0) (.var 3)))))),(.v (.one (.z (.bool (.cmp .eql (.ar .quo .i64 (.rd (.var 8000) (.lit 0) 0) (.var 3)) (.lit 0)))))),(.v (.one (.z (.bool (.var 15001)))))] (List.append (List.replicate 6 V.any) (List.append [(.v (.one (.z (.bool (.lit true)))))] (List.replicate 39 V.any)))),[(13,(.loop .ready none (List.append [(.v (.agg [(.z (.int .i64 (.var 0))),(.z (.int .i64 (.var 1))),(.z (.int .i64 (.var 2))),(.z (.int .i64 (.var 3))),(.z (.int .i64 (.var 4))),(.z (.ext [(.int .i64)] (.var 5) false))])),(.v (.one (.z (.int .i64 (.var 6))))),(.v (.one (.z (.int .i64 (.var 7))))),(.v (.one (.z (.ptr 0 0)))),(.v (.one (.z (.ptr 1 0)))),(.v (.one (.z .any))),(.v (.one (.z (.const (.slice none 0 0))))),(.v (.one (.z (.ptr 4 0)))),(.v (.one (.z (.ptr 6 0)))),(.v (.one (.z (.ptr 9 0)))),(.v (.one (.z .any))),(.v (.one (.z (.sl 2 0 1 (some 1))))),(.v (.one (.z (.ptr 0 5)))),(.v (.one (.z (.ext [(.int .i64)] (.var 5) false)))),(.v (.one (.z (.int .i64 (.len (.var 5)))))),(.v (.one (.z (.own 3 (.lit 0))))),(.v (.one (.z (.own 3 (.lit 0))))),(.v (.one (.z (.int .i64 (.var 7))))),(.v (.one (.z (.optr 3 (.lit 0) 1 (.var 7) 0)))),(.v (.one (.z (.ptr 0 5)))),(.v (.one (.z (.ext [(.int .i64)] (.var 5) false)))),(.v (.one (.z (.int .i64 (.len (.var 5)))))),(.v (.one (.z (.chn 5)))),(.v (.one (.z (.chn 5)))),(.v (.one (.z (.int .i64 (.var 7))))),(.v (.one (.z (.chn 5)))),(.v (.one (.z (.int .i64 (.len (.var 8000)))))),(.v (.one (.z (.bool (.cmp .gtr (.len (.var 8000)) (.lit 0)))))),(.v (.one (.z (.chn 5)))),(.v (.one (.z (.int .i64 (.rd (.var 8000) (.lit 0) 0))))),(.v (.agg [(.z (.int .i64 (.var 0))),(.z (.int .i64 (.var 1))),(.z (.int .i64 (.var 2))),(.z (.int .i64 (.var 3))),(.z (.int .i64 (.var 4))),(.z (.ext [(.int .i64)] (.var 5) false))])),(.v (.one (.z (.int .i64 (.rd (.var 8000) (.lit 0) 0))))),(.v (.one (.z (.clo 33 [(11,0),(10,0)]))))] (List.replicate 26 V.any)) [] .skip .skip 12)),(12,(.dfd false)),(11,(.cells 3 [(.z (.int .i64 (.rd (.var 8000) (.lit 0) 0)))])),(10,(.cells 26 [(.z (.int .i64 (.var 0))),(.z (.int .i64 (.var 1))),(.z (.int .i64 (.var 2))),(.z (.int .i64 (.var 3))),(.z (.int .i64 (.var 4))),(.z (.ext [(.int .i64)] (.var 5) false))])),(9,(.cells 3 [(.z (.int .i64 (.rd (.var 8000) (.lit 0) 0)))])),(5,(.chn .i64 (.var 15002) (.len (.var 5)))),(8,.dfm),(6,(.cells 79 [(.z (.chn 5))])),(3,(.own 3 [(.int .i64)] (.var 15003) (.lit 0))),(4,(.cells 24 [(.z (.own 3 (.lit 0)))])),(2,(.cells 3 [(.z (.int .i64 (.lit (-1))))])),(1,(.cells 3 [(.z (.int .i64 (.var 6)))])),(0,(.cells 26 [(.z (.int .i64 (.var 0))),(.z (.int .i64 (.var 1))),(.z (.int .i64 (.var 2))),(.z (.int .i64 (.var 3))),(.z (.int .i64 (.var 4))),(.z (.ext [(.int .i64)] (.var 5) false))]))],15,[]⟩),
(33,2000025,15,⟨(List.append [(.v (.one (.z (.yl 13)))),(.v (.one (.z (.ptr 11 0)))),(.v (.one (.z (.ptr 10 0)))),(.v (.one (.z .any))),(.v (.one (.z (.int .i64 (.ar .rem .i64 (.rd (.var 8000) (.lit 0) 0) (.var 3)))))),(.v (.one (.z (.int .i64 (.ar .quo .i64 (.rd (.var 8000) (.lit 0) 0) (.var 3)))))),(.v (.one (.z (.bool (.lit true))))),(.v (.one (.z (.int .i64 (.rd (.var 8000) (.lit 0) 0))))),(.v (.one (.z (.ptr 10 3)))),(.v (.one (.z (.int .i64 (.var 3))))),(.v (.one (.z (.int .i64 (.ar .rem .i64 (.rd (.var 8000) (.lit 0) 0) (.var 3)))))),(.v (.one (.z (.int .i64 (.rd (.var 8000) (.lit 0) 0))))),(.v (.one (.z (.ptr 10 3)))),(.v (.one (.z (.int .i64 (.var 3))))),(.v (.one (.z (.int .i64 (.ar .quo .i64 (.rd (.var 8000) (.lit 0) 0) (.var 3)))))),(.v (.one (.z (.int .i64 (.ar .quo .i64 (.rd (.var 8000) (.lit 0) 0) (.var 3)))))),(.v (.one (.z (.bool (.cmp .eql (.ar .quo .i64 (.rd (.var 8000) (.lit 0) 0) (.var 3)) (.lit 0)))))),(.v (.one (.z (.bool (.var 15001)))))] (List.append (List.replicate 6 V.any) (List.append [(.v (.one (.z (.bool (.lit true))))),(.v (.one (.z (.bool (.lit true))))),(.v (.one (.z (.bool (.lit true))))),(.v (.one (.z (.int .i64 (.ar .rem .i64 (.rd (.var 8000) (.lit 0) 0) (.var 3)))))),(.v (.one (.z (.bool (.cmp .eql (.ar .rem .i64 (.rd (.var 8000) (.lit 0) 0) (.var 3)) (.lit 0)))))),(.v (.one (.z (.bool (.var 16001)))))] (List.append (List.replicate 4 V.any) (List.append [(.v (.one (.z (.bool (.lit true))))),(.v (.one (.z (.bool (.lit true)))))] (List.replicate 28 V.any)))))),[(13,(.loop .ready none (List.append [(.v (.agg [(.z (.int .i64 (.var 0))),(.z (.int .i64 (.var 1))),(.z (.int .i64 (.var 2))),(.z (.int .i64 (.var 3))),(.z (.int .i64 (.var 4))),(.z (.ext [(.int .i64)] (.var 5) false))])),(.v (.one (.z (.int .i64 (.var 6))))),(.v (.one (.z (.int .i64 (.var 7))))),(.v (.one (.z (.ptr 0 0)))),(.v (.one (.z (.ptr 1 0)))),(.v (.one (.z .any))),(.v (.one (.z (.const (.slice none 0 0))))),(.v (.one (.z (.ptr 4 0)))),(.v (.one (.z (.ptr 6 0)))),(.v (.one (.z (.ptr 9 0)))),(.v (.one (.z .any))),(.v (.one (.z (.sl 2 0 1 (some 1))))),(.v (.one (.z (.ptr 0 5)))),(.v (.one (.z (.ext [(.int .i64)] (.var 5) false)))),(.v (.one (.z (.int .i64 (.len (.var 5)))))),(.v (.one (.z (.own 3 (.lit 0))))),(.v (.one (.z (.own 3 (.lit 0))))),(.v (.one (.z (.int .i64 (.var 7))))),(.v (.one (.z (.optr 3 (.lit 0) 1 (.var 7) 0)))),(.v (.one (.z (.ptr 0 5)))),(.v (.one (.z (.ext [(.int .i64)] (.var 5) false)))),(.v (.one (.z (.int .i64 (.len (.var 5)))))),(.v (.one (.z (.chn 5)))),(.v (.one (.z (.chn 5)))),(.v (.one (.z (.int .i64 (.var 7))))),(.v (.one (.z (.chn 5)))),(.v (.one (.z (.int .i64 (.len (.var 8000)))))),(.v (.one (.z (.bool (.cmp .gtr (.len (.var 8000)) (.lit 0)))))),(.v (.one (.z (.chn 5)))),(.v (.one (.z (.int .i64 (.rd (.var 8000) (.lit 0) 0))))),(.v (.agg [(.z (.int .i64 (.var 0))),(.z (.int .i64 (.var 1))),(.z (.int .i64 (.var 2))),(.z (.int .i64 (.var 3))),(.z (.int .i64 (.var 4))),(.z (.ext [(.int .i64)] (.var 5) false))])),(.v (.one (.z (.int .i64 (.rd (.var 8000) (.lit 0) 0))))),(.v (.one (.z (.clo 33 [(11,0),(10,0)]))))] (List.replicate 26 V.any)) [] .skip .skip 12)),(12,(.dfd false)),(11,(.cells 3 [(.z (.int .i64 (.rd (.var 8000) (.lit 0) 0)))])),(10,(.cells 26 [(.z (.int .i64 (.var 0))),(.z (.int .i64 (.var 1))),(.z (.int .i64 (.var 2))),(.z (.int .i64 (.var 3))),(.z (.int .i64 (.var 4))),(.z (.ext [(.int .i64)] (.var 5) false))])),(9,(.cells 3 [(.z (.int .i64 (.rd (.var 8000) (.lit 0) 0)))])),(5,(.chn .i64 (.var 16002) (.len (.var 5)))),(8,.dfm),(6,(.cells 79 [(.z (.chn 5))])),(3,(.own 3 [(.int .i64)] (.var 16003) (.lit 0))),(4,(.cells 24 [(.z (.own 3 (.lit 0)))])),(2,(.cells 3 [(.z (.int .i64 (.lit (-1))))])),(1,(.cells 3 [(.z (.int .i64 (.var 6)))])),(0,(.cells 26 [(.z (.int .i64 (.var 0))),(.z (.int .i64 (.var 1))),(.z (.int .i64 (.var 2))),(.z (.int .i64 (.var 3))),(.z (.int .i64 (.var 4))),(.z (.ext [(.int .i64)] (.var 5) false))]))],16,[]⟩),
(33,2000036,16,⟨(List.append [(.v (.one (.z (.yl 13)))),(.v (.one (.z (.ptr 11 0)))),(.v (.one (.z (.ptr 10 0)))),(.v (.one (.z .any))),(.v (.one (.z (.int .i64 (.ar .rem .i64 (.rd (.var 8000) (.lit 0) 0) (.var 3)))))),(.v (.one (.z (.int .i64 (.ar .quo .i64 (.rd (.var 8000) (.lit 0) 0) (.var 3)))))),(.v (.one (.z (.bool (.lit true))))),(.v (.one (.z (.int .i64 (.rd (.var 8000) (.lit 0) 0))))),(.v (.one (.z (.ptr 10 3)))),(.v (.one (.z (.int .i64 (.var 3))))),(.v (.one (.z (.int .i64 (.ar .rem .i64 (.rd (.var 8000) (.lit 0) 0) (.var 3)))))),(.v (.one (.z (.int .i64 (.rd (.var 8000) (.lit 0) 0))))),(.v (.one (.z (.ptr 10 3)))),(.v (.one (.z (.int .i64 (.var 3))))),(.v (.one (.z (.int .i64 (.ar .quo .i64 (.rd (.var 8000) (.lit 0) 0) (.var 3)))))),(.v (.one (.z (.int .i64 (.ar .quo .i64 (.rd (.var 8000) (.lit 0) 0) (.var 3)))))),(.v (.one (.z (.bool (.cmp .eql (.ar .quo .i64 (.rd (.var 8000) (.lit 0) 0) (.var 3)) (.lit 0)))))),(.v (.one (.z (.bool (.var 15001)))))] (List.append (List.replicate 6 V.any) (List.append [(.v (.one (.z (.bool (.lit true))))),(.v (.one (.z (.bool (.lit true))))),(.v (.one (.z (.bool (.lit true))))),(.v (.one (.z (.int .i64 (.ar .rem .i64 (.rd (.var 8000) (.lit 0) 0) (.var 3)))))),(.v (.one (.z (.bool (.cmp .eql (.ar .rem .i64 (.rd (.var 8000) (.lit 0) 0) (.var 3)) (.lit 0)))))),(.v (.one (.z (.bool (.var 16001)))))] (List.append (List.replicate 4 V.any) (List.append [(.v (.one (.z (.bool (.lit true))))),(.v (.one (.z (.bool (.lit true))))),(.v (.one (.z (.bool (.lit true))))),(.v (.one (.z (.bool (.lit true))))),(.v (.one (.z (.int .i64 (.ar .rem .i64 (.rd (.var 8000) (.lit 0) 0) (.var 3)))))),(.v (.one (.z (.ptr 10 3)))),(.v (.one (.z (.int .i64 (.var 3))))),(.v (.one (.z (.int .i64 (.ar .sub .i64 (.var 3) (.lit 1)))))),(.v (.one (.z (.bool (.cmp .eql (.ar .rem .i64 (.rd (.var 8000) (.lit 0) 0) (.var 3)) (.ar .sub .i64 (.var 3) (.lit 1))))))),(.v (.one (.z (.bool (.var 17001)))))] (List.append (List.replicate 4 V.any) (List.append [(.v (.one (.z (.bool (.lit true))))),(.v (.one (.z (.bool (.lit true)))))] (List.replicate 14 V.any)))))))),[(13,(.loop .ready none (List.append [(.v (.agg [(.z (.int .i64 (.var 0))),(.z (.int .i64 (.var 1))),(.z (.int .i64 (.var 2))),(.z (.int .i64 (.var 3))),(.z (.int .i64 (.var 4))),(.z (.ext [(.int .i64)] (.var 5) false))])),(.v (.one (.z (.int .i64 (.var 6))))),(.v (.one (.z (.int .i64 (.var 7))))),(.v (.one (.z (.ptr 0 0)))),(.v (.one (.z (.ptr 1 0)))),(.v (.one (.z .any))),(.v (.one (.z (.const (.slice none 0 0))))),(.v (.one (.z (.ptr 4 0)))),(.v (.one (.z (.ptr 6 0)))),(.v (.one (.z (.ptr 9 0)))),(.v (.one (.z .any))),(.v (.one (.z (.sl 2 0 1 (some 1))))),(.v (.one (.z (.ptr 0 5)))),(.v (.one (.z (.ext [(.int .i64)] (.var 5) false)))),(.v (.one (.z (.int .i64 (.len (.var 5)))))),(.v (.one (.z (.own 3 (.lit 0))))),(.v (.one (.z (.own 3 (.lit 0))))),(.v (.one (.z (.int .i64 (.var 7))))),(.v (.one (.z (.optr 3 (.lit 0) 1 (.var 7) 0)))),(.v (.one (.z (.ptr 0 5)))),(.v (.one (.z (.ext [(.int .i64)] (.var 5) false)))),(.v (.one (.z (.int .i64 (.len (.var 5)))))),(.v (.one (.z (.chn 5)))),(.v (.one (.z (.chn 5)))),(.v (.one (.z (.int .i64 (.var 7))))),(.v (.one (.z (.chn 5)))),(.v (.one (.z (.int .i64 (.len (.var 8000)))))),(.v (.one (.z (.bool (.cmp .gtr (.len (.var 8000)) (.lit 0)))))),(.v (.one (.z (.chn 5)))),(.v (.one (.z (.int .i64 (.rd (.var 8000) (.lit 0) 0))))),(.v (.agg [(.z (.int .i64 (.var 0))),(.z (.int .i64 (.var 1))),(.z (.int .i64 (.var 2))),(.z (.int .i64 (.var 3))),(.z (.int .i64 (.var 4))),(.z (.ext [(.int .i64)] (.var 5) false))])),(.v (.one (.z (.int .i64 (.rd (.var 8000) (.lit 0) 0))))),(.v (.one (.z (.clo 33 [(11,0),(10,0)]))))] (List.replicate 26 V.any)) [] .skip .skip 12)),(12,(.dfd false)),(11,(.cells 3 [(.z (.int .i64 (.rd (.var 8000) (.lit 0) 0)))])),(10,(.cells 26 [(.z (.int .i64 (.var 0))),(.z (.int .i64 (.var 1))),(.z (.int .i64 (.var 2))),(.z (.int .i64 (.var 3))),(.z (.int .i64 (.var 4))),(.z (.ext [(.int .i64)] (.var 5) false))])),(9,(.cells 3 [(.z (.int .i64 (.rd (.var 8000) (.lit 0) 0)))])),(5,(.chn .i64 (.var 17002) (.len (.var 5)))),(8,.dfm),(6,(.cells 79 [(.z (.chn 5))])),(3,(.own 3 [(.int .i64)] (.var 17003) (.lit 0))),(4,(.cells 24 [(.z (.own 3 (.lit 0)))])),(2,(.cells 3 [(.z (.int .i64 (.lit (-1))))])),(1,(.cells 3 [(.z (.int .i64 (.var 6)))])),(0,(.cells 26 [(.z (.int .i64 (.var 0))),(.z (.int .i64 (.var 1))),(.z (.int .i64 (.var 2))),(.z (.int .i64 (.var 3))),(.z (.int .i64 (.var 4))),(.z (.ext [(.int .i64)] (.var 5) false))]))],17,[]⟩)]
set_option maxRecDepth 100000 in
theorem b8w:T.norm 0 (call Tryz.prog b8L ⟨Lt.un (Lt.of [(73,2000015),(73,2000025),(73,2000036)]),c1a,c3F⟩ 200 49 (g7 0 [l8,it,it]) [] 0) TT.ret=a9i:=by kernel_rfl
theorem b5V:a9i.low 1000=true:=by kernel_rfl
def s8(x y s w h:Int):Prop:=((1≤s∧s≤100000)∧(1≤w∧w≤64)∧1≤h∧h≤64)∧(-1000000≤x∧x+w*s≤1000000)∧ -1000000≤y∧y+h*s≤1000000
instance (x y s w h:Int):Decidable (s8 x y s w h):=by unfold s8;infer_instance
def F5(x y s w h:Int)(r:Rows):Bool:=decide (s8 x y s w h)&&(decide ((r.length:Int)=w*h)&&r.all fun q=>decide (0≤cI q 0∧cI q 0≤100000))
def Z3(ds:List D):Bool:=F5 (a7 ds 0) (a7 ds 1) (a7 ds 2) (a7 ds 3) (a7 ds 4) (b9 ds 5)
theorem o5{a b m n:Int}(ha:1≤a)(hb:1≤b)(hm:a≤m)(hn:b≤n):1≤a*b∧a*b≤m*n:=by
 constructor
 ·have:=Int.mul_le_mul ha hb (by omega) (by omega)
  omega
 ·exact Int.mul_le_mul hm hn (by omega) (by omega)
theorem a1V(a b c d:Int):S4 [.i a,.i b,.i c,.i d]=o8 a b c d:=rfl
theorem d1m(W:World)(ds l:List D):(a9 w8 W ds).fb 31 l=S4 l:=by simp only[a9,w8,K82,W8,I9,R5,T2,L4,E6,L6,M0,F4,B8,KI,KH,KG,KF,KE,KD,KC,KB,KA,K9,K8,K7,K6,K5,K]
theorem c8z:m8 Tryz.prog 8 [l8] (fun ds=> .bool (Z3 ds)):=by
 refine GivesIf.all (i7 w8 (by kernel_rfl) (fun ρ h=>b0s (Sees.of h 150)) (by kernel_rfl) b5W b3n (by decide) (fun W vals ds hr _=> ?_))
 have hlen:=(N9 (C3 hr) (j:=5) rfl).1
 have e:Z3 ds=F5 (a7 ds 0) (a7 ds 1) (a7 ds 2) (a7 ds 3) (a7 ds 4) (b9 ds 5):=rfl
 simp only[a6Y,g9,Nat.reduceBEq,Nat.reduceLT,Nat.reduceSub,d1m,a1V]
 rw[e]
 clear hr e
 generalize e0:a7 ds 0=x at*
 generalize e1:a7 ds 1=y at*
 generalize e2:a7 ds 2=s at*
 generalize e3:a7 ds 3=w at*
 generalize e4:a7 ds 4=h at*
 generalize e5:b9 ds 5=r at*
 have N:¬s8 x y s w h→Value.bool false=Value.bool (F5 x y s w h r):=fun q=>by unfold F5;rw[decide_eq_false q,Bool.false_and]
 have NL:(r.length:Int)≠w*h→Value.bool false=Value.bool (F5 x y s w h r):=fun q=>by unfold F5;rw[decide_eq_false q,Bool.false_and,Bool.and_false]
 refine⟨fun q=>N (fun k=>by unfold s8 at k;omega),fun q1=>⟨fun q=>N (fun k=>by unfold s8 at k;omega),fun q2=>⟨fun q=>N (fun k=>by unfold s8 at k;omega),fun q3=>⟨fun q=>N (fun k=>by unfold s8 at k;omega),fun q4=>⟨fun q=>N (fun k=>by unfold s8 at k;omega),fun q5=>⟨fun q=>N (fun k=>by unfold s8 at k;omega),fun q6=> ?_⟩⟩⟩⟩⟩⟩
 have p1:=o5 (a:=w) (b:=s) (m:=64) (n:=100000) (by omega) (by omega) (by omega) (by omega)
 have p2:=o5 (a:=h) (b:=s) (m:=64) (n:=100000) (by omega) (by omega) (by omega) (by omega)
 have p3:=o5 (a:=w) (b:=h) (m:=64) (n:=64) (by omega) (by omega) (by omega) (by omega)
 refine⟨fun q=>N (fun k=> ?_),fun hb1=>⟨fun hb2=>⟨fun hl=> ?_,fun hl=> ?_⟩,fun q=>N (fun k=> ?_)⟩⟩
 ·unfold s8 at k
  unfold o8 at q
  exact absurd (of_decide_eq_false q) (fun k'=>k' (by omega))
 ·unfold o8 at hb1 hb2
  have hb1:=of_decide_eq_true hb1
  have hb2:=of_decide_eq_true hb2
  rw[b8 (w*s) (by omega) (by omega),b8 (h*s) (by omega) (by omega),b8 (x+w*s) (by omega) (by omega),b8 (y+h*s) (by omega) (by omega)] at hb2
  rw[b8 (w*h) (by omega) (by omega)] at hl
  have hf:s8 x y s w h:=by unfold s8;omega
  refine TT.sat_loop (fun v=>∃i:Nat,v.i 0=i∧i≤r.length∧∀k (hk:k<r.length),k<i→0≤cI r[k] 0∧cI r[k] 0≤100000) (fun v=>r.length-(v.i 0).toNat)
   ⟨0,by simp [j5,i8,E.ev],by omega,fun k hk h=>by omega⟩ (fun v hv=> ?_)
  obtain⟨i,i0,i1,i2⟩:=hv
  simp only[g9,Nat.reduceBEq,Nat.reduceLT,Nat.reduceSub,i0,e5]
  refine⟨fun hc=> ?_,fun hc=> ?_⟩
  ·have hi:i<r.length:=by omega
   have NO:¬(0≤cI r[i] 0∧cI r[i] 0≤100000)→Value.bool false=Value.bool (F5 x y s w h r):=fun k=>by
    unfold F5
    have:(r.all fun q=>decide (0≤cI q 0∧cI q 0≤100000))=false:=by
     rw[List.all_eq_false]
     exact⟨_,List.getElem_mem hi,by simp only[decide_eq_true_eq];exact k⟩
    rw[this,Bool.and_false,Bool.and_false]
   rw[b8 ((i:Int)+1) (by omega) (by omega)]
   simp only[a8G hi]
   refine⟨by omega,by omega,fun q=> ?_,fun q=>⟨fun q'=> ?_,fun q'=>⟨⟨i+1,rfl,by omega,fun k hk hki=> ?_⟩,by omega⟩⟩⟩
   ·rw[←NO (by omega)];simp [B6]
   ·rw[←NO (by omega)];simp [B6]
   ·by_cases e:k=i
    ·subst e;omega
    ·exact i2 k hk (by omega)
  ·have:F5 x y s w h r=true:=by
    unfold F5
    rw[decide_eq_true hf,decide_eq_true (by omega),Bool.true_and,Bool.true_and,List.all_eq_true]
    intro q hq
    obtain⟨k,hk,rfl⟩:=List.getElem_of_mem hq
    exact decide_eq_true (i2 k hk (by omega))
   rw[this]
 ·rw[b8 (w*h) (by omega) (by omega)] at hl
  exact NL hl
 ·unfold s8 at k
  unfold o8 at q
  rw[b8 (w*s) (by omega) (by omega),b8 (h*s) (by omega) (by omega),b8 (x+w*s) (by omega) (by omega),b8 (y+h*s) (by omega) (by omega)] at q
  exact absurd (of_decide_eq_false q) (fun k'=>k' (by omega))
def G7:List Int→Nat
 | []=>0
 | x::l=>(if x<0 then 1 else 0)+G7 l
theorem a3T:∀(l:List Int) (d:Nat) (v:Int),d<l.length→Grid.at_ l d<0→0≤v→G7 (l.set d v)+1=G7 l
 | x::l,0,v,_,h,hv=>by
   have h:x<0:=h
   simp only[List.set_cons_zero,G7,if_pos h,if_neg (Int.not_lt.2 hv)]
   omega
 | x::l,d+1,v,hd,h,hv=>by
   have h':Grid.at_ l d<0:=by simpa [Grid.at_] using h
   have:=a3T l d v (by simpa using hd) h' hv
   simp only[List.set_cons_succ,G7]
   omega
 | [],d,v,hd,_,_=>by simp at hd
theorem a4y{α:Type}{ρ:Env}{K:Env→α→Prop}{J:Nat→LV→Prop}{eE cE nE:E}{Q O C:X}{t1 t2 t3:TT α}{e c n:Nat}{need:Int}{q:List Nat}{out D:List Int}
 (he:eE.ev ρ=(e:Int)) (hc:cE.ev ρ=(c:Int)) (hn:nE.ev ρ=need) (hQ:Q.ev ρ=g0 (k7 q)) (hO:O.ev ρ=g0 out) (hC:C.ev ρ=g0 D) (ho:out.length=n) (hD:D.length=n) (hen:e<n) (hcn:c<n)
 (hroom:Grid.at_ out e<0→need≤Grid.at_ D e→q.length<n)
 (h1:Grid.at_ out e<0→need≤Grid.at_ D e→t1.sat ρ K J) (h2:Grid.at_ out e<0→¬need≤Grid.at_ D e→t2.sat ρ K J) (h3:¬Grid.at_ out e<0→t3.sat ρ K J):
 (TT.ob (.tru (.cmp .leq (.lit 0) eE)) (.ob (.tru (.cmp .lss eE (.len O))) (.ite (.cmp .lss (.rd O eE 0) (.lit 0)) (.ob (.tru (.cmp .leq (.lit 0) eE)) (.ob (.tru (.cmp .lss eE (.len C))) (.ite (.cmp .geq (.rd C eE 0) nE)
  (.ob (.tru (.cmp .leq (.lit 0) cE)) (.ob (.tru (.cmp .lss cE (.len O))) (.ob (.tru (.cmp .leq (.lit 0) eE)) (.ob (.tru (.cmp .lss eE (.len O))) (.ob (.tru (.cmp .lss (.len Q) (.len C))) t1))))) t2))) t3))).sat ρ K J:=by
 have l1:lg (g0 out) (e:Int) 0=Grid.at_ out e:=y8 (by omega)
 have l2:lg (g0 D) (e:Int) 0=Grid.at_ D e:=y8 (by omega)
 simp only[TT.sat_ob,TT.sat_ite,Ob.ok,B.ev,E.ev,n8,a2w,j8,he,hc,hn,hQ,hO,hC,s7,B5,ho,hD]
 simp only[show(u9 (g0 out) (e:Int) 0).int=Grid.at_ out e from l1,show(u9 (g0 D) (e:Int) 0).int=Grid.at_ D e from l2]
 refine⟨by omega,by omega,fun a=>⟨by omega,by omega,fun b=>⟨by omega,by omega,by omega,by omega,?_,h1 a (by omega)⟩,fun b=>h2 a ?_⟩,fun a=>h3 ?_⟩
 ·have:=hroom a (by omega);omega
 ·omega
 ·omega
theorem a6t{ρ:Env}{eE cE:E}{Q O:X}{e c:Nat}{q:List Nat}{out:List Int}(he:eE.ev ρ=(e:Int))(hc:cE.ev ρ=(c:Int))(hQ:Q.ev ρ=g0 (k7 q))(hO:O.ev ρ=g0 out)(hcn:c<out.length)(hb:0≤Grid.at_ out c∧Grid.at_ out c≤1000000):
 (X.app Q (.row (.i eE .nil))).ev ρ=g0 (k7 (q++[e]))∧(X.upd O eE 0 (.i (.ar .add .i64 (.rd O cE 0) (.lit 1)) .nil)).ev ρ=g0 (out.set e (Grid.at_ out c+1)):=by
 have l1:(u9 (g0 out) (c:Int) 0).int=Grid.at_ out c:=y8 hcn
 constructor
 ·simp only[X.ev,AL.ev,he,hQ,K0]
  simp [k7]
 ·simp only[X.ev,AL.ev,E.ev,y9,he,hc,hO,l1]
  rw[b8 (Grid.at_ out c+1) (by omega) (by omega)]
  exact P6 _ _ _
theorem b0L{w h:Nat}{ok:Nat→Prop}{a c:Nat}{seen q:List Nat}{out:List Int}(hw:0<w)(ha:a<w*h)(H:Grid.Mid w h ok a c seen out q):Grid.at_ out c<(w*h:Nat):=by
 have c0:=H.c0
 obtain⟨h1,h2⟩:=H.dist c H.cl c0
 obtain⟨l,l1,l2,l3⟩:=Grid.levels hw ha _ _ h1 (fun j hj=>h2 j (by omega))
 have:=Grid.nodup_len (w*h) l l2 (fun x hx=>(l3 x hx).1)
 omega
theorem z9{x y s w h:Int}{r:Rows}(hg:F5 x y s w h r=true):s8 x y s w h∧(r.length:Int)=w*h∧∀c,c<r.length→0≤Grid.at_ (g8 r) c∧Grid.at_ (g8 r) c≤100000:=by
 unfold F5 at hg
 simp only[Bool.and_eq_true,decide_eq_true_eq,List.all_eq_true] at hg
 refine⟨hg.1,hg.2.1,fun c hc=> ?_⟩
 rw[←C6 hc,a8G hc]
 exact hg.2.2 _ (List.getElem_mem hc)
def b6P(ds:List D):Prop:=Z3 ds=true∧0≤a7 ds 7∧a7 ds 7<((b9 ds 5).length:Nat)
def a5M(ds:List D):Rows:=g0 (Grid.stepsF (a7 ds 3).toNat (a7 ds 4).toNat (g8 (b9 ds 5)) (a7 ds 6) (a7 ds 7).toNat)
def a1K:NL:=⟨3,[.int .i64],1,a5M⟩
def StM(W H:Nat)(D:List Int)(need:Int)(a c M:Nat)(seen:List Nat)(v:LV):Prop:=∃(q:List Nat) (out:List Int),v.d 2=g0 (k7 q)∧v.d 3=g0 out∧Grid.Mid W H (Grid.Deep D need) a c seen out q∧G7 out+q.length=M
theorem d0Z:B2 Tryz.prog 49 [l8,it,it] [a1K] b6P (fun _ _ vs u=>∃v,vs=[v]∧u=v):=by
 refine A4 w8 (by kernel_rfl) (fun ρ h=>b0s (Sees.of h 150)) (by kernel_rfl) b8w b5V (by decide) (fun w0 vals ds hr hok=> ?_)
 have hwf:=N9 (C3 hr) (j:=5) rfl
 have hR:a1K.rows ds=g0 (Grid.stepsF (a7 ds 3).toNat (a7 ds 4).toNat (g8 (b9 ds 5)) (a7 ds 6) (a7 ds 7).toNat):=rfl
 obtain⟨hg,hto0,hto1⟩:=hok
 have hg:F5 (a7 ds 0) (a7 ds 1) (a7 ds 2) (a7 ds 3) (a7 ds 4) (b9 ds 5)=true:=hg
 obtain⟨hf,hl,hcell⟩:=z9 hg
 clear hr hg
 simp only[a9i]
 generalize e0:a7 ds 0=x at*
 generalize e1:a7 ds 1=y at*
 generalize e2:a7 ds 2=s at*
 generalize e3:a7 ds 3=w at*
 generalize e4:a7 ds 4=h at*
 generalize e5:b9 ds 5=r at*
 generalize e6:a7 ds 6=need at*
 generalize e7:a7 ds 7=to at*
 unfold s8 at hf
 obtain⟨⟨_,hw,hh⟩,_⟩:=hf
 obtain⟨W,rfl⟩:=Int.eq_ofNat_of_zero_le (a:=w) (by omega)
 obtain⟨H,rfl⟩:=Int.eq_ofNat_of_zero_le (a:=h) (by omega)
 obtain⟨a,rfl⟩:=Int.eq_ofNat_of_zero_le hto0
 have hn:r.length=W*H:=by
  have:(r.length:Int)=((W*H:Nat):Int):=by rw[hl];simp
  omega
 have hWH:W*H≤64*64:=Nat.mul_le_mul (by omega) (by omega)
 have hW:0<W:=by omega
 have ha:a<W*H:=by omega
 have hr0:=b9I hwf
 generalize hD:g8 r=dp at*
 have hDl:dp.length=W*H:=by rw[←hD,a4x,hn]
 have hrep:List.replicate (W*H) [D.i (-1)]=g0 (List.replicate (W*H) (-1)):=a1i _ _
 have hC:∀ρ:Env,ρ.d 5=(a9 w8 w0 ds).d 5→(X.var 5).ev ρ=g0 dp:=fun ρ q=>by
  rw[hr0]
  show ρ.d 5=r
  rw[q,Z9,e5]
 simp only[g9,Nat.reduceBEq,Nat.reduceLT,Nat.reduceSub,e5,e6,e7,hn,List.length_replicate,Int.toNat_natCast]
 refine⟨by omega,by omega,by omega,by omega,by omega,by omega,by omega,?_⟩
 refine TT.sat_loop (fun v=>∃(q:List Nat) (out:List Int),v.d 0=g0 (k7 q)∧v.d 1=g0 out∧Grid.Wait W H (Grid.Deep dp need) a out q) (fun v=>G7 (g8 (v.d 1))+(v.d 0).length)
  ⟨[a],(List.replicate (W*H) (-1)).set a 0,?_,?_,Grid.Wait.begin ha⟩ (fun v hv=> ?_)
 ·simp [D4,i8,X.ev,AL.ev,E.ev,w6,e7,k7,g0]
 ·simp only[D4,i8,show((0:Nat) == 1)=false from rfl,beq_self_eq_true,if_true,Bool.false_eq_true,if_false,X.ev,AL.ev,E.ev,w6,Z9,e5,e7,hn,Int.toNat_natCast,hrep]
  exact P6 _ _ _
 obtain⟨q0,out0,v0,v1,hwt⟩:=hv
 cases q0 with
 | nil=>
   simp only[g9,Nat.reduceBEq,Nat.reduceLT,Nat.reduceSub,v0,v1]
   refine⟨fun hc=> ?_,fun hc=> ?_⟩
   ·simp [k7,g0] at hc
   ·refine⟨.own 3 (.lit 0),.var 8001,by kernel_rfl,?_,fun σ u _ hu=>⟨u,hu,rfl⟩⟩
    rw[hR,Int.toNat_natCast,Int.toNat_natCast,Int.toNat_natCast,←Grid.stepsF_eq hW ha (hwt.dist_end hW ha)]
    simp only[X.ev,x7,g9,Nat.reduceBEq,Nat.reduceLT,Nat.reduceSub,v1]
 | cons c q=>
   have hmid:=hwt.take
   have hcl:=hmid.cl
   have hM:G7 (g8 (v.d 1))+(v.d 0).length=G7 out0+q.length+1:=by
    rw[v0,v1,a3F,s7,B5];simp only[List.length_cons];omega
   have hc0:(u9 (g0 (k7 (c::q))) 0 0).int=(c:Int):=rfl
   have hq1:o7 (g0 (k7 (c::q))) 1 ((g0 (k7 (c::q))).length:Nat)=g0 (k7 q):=b7X _ _
   have hquo:IntKind.i64.wrap ((c:Int).tdiv (W:Int))=((c/W:Nat):Int):=by
    have h1:(c:Int).tdiv (W:Int)=((c/W:Nat):Int):=rfl
    have h2:c/W≤c:=Nat.div_le_self _ _
    rw[h1]
    generalize c/W=k at h2
    exact b8 _ (by omega) (by omega)
   have hrem:(c:Int).tmod (W:Int)=((c % W:Nat):Int):=rfl
   have hw1:IntKind.i64.wrap ((W:Int)-1)=((W-1:Nat):Int):=by rw[b8 _ (by omega) (by omega)];omega
   have hh1:IntKind.i64.wrap ((H:Int)-1)=((H-1:Nat):Int):=by rw[b8 _ (by omega) (by omega)];omega
   have hAe:c/W≠0→IntKind.i64.wrap ((c:Int)-(W:Int))=((c-W:Nat):Int):=fun hq=>by
    have:W≤c:=by
     rcases Nat.lt_or_ge c W with k | k
     ·exact absurd (Nat.div_eq_of_lt k) hq
     ·exact k
    rw[b8 _ (by omega) (by omega)];omega
   have hBe:c % W≠0→IntKind.i64.wrap ((c:Int)-1)=((c-1:Nat):Int):=fun hq=>by
    have:0<c:=by
     rcases Nat.eq_zero_or_pos c with k | k
     ·subst k;exact absurd (Nat.zero_mod W) hq
     ·exact k
    rw[b8 _ (by omega) (by omega)];omega
   have hCe:IntKind.i64.wrap ((c:Int)+1)=((c+1:Nat):Int):=by rw[b8 _ (by omega) (by omega)];omega
   have hDe:IntKind.i64.wrap ((c:Int)+(W:Int))=((c+W:Nat):Int):=by rw[b8 _ (by omega) (by omega)];omega
   have L0:∀ρ':Env,(E.lit 0).ev ρ'=0:=fun _=>rfl
   have C1:∀ρ':Env,ρ'.d 8000=g0 (k7 (c::q))→(E.rd (X.var 8000) (E.lit 0) 0).ev ρ'=(c:Int):=fun ρ' k=>by
    show(u9 (ρ'.d 8000) 0 0).int=_
    rw[k];exact hc0
   have K1:∀ρ':Env,ρ'.d 8000=g0 (k7 (c::q))→ρ'.i 3=(W:Int)→(E.ar .quo .i64 (.rd (.var 8000) (.lit 0) 0) (.var 3)).ev ρ'=((c/W:Nat):Int):=fun ρ' k1 k2=>by
    show IntKind.i64.wrap (((E.rd (X.var 8000) (E.lit 0) 0).ev ρ').tdiv (ρ'.i 3))=_
    rw[C1 ρ' k1,k2];exact hquo
   have K2:∀ρ':Env,ρ'.d 8000=g0 (k7 (c::q))→ρ'.i 3=(W:Int)→(E.ar .rem .i64 (.rd (.var 8000) (.lit 0) 0) (.var 3)).ev ρ'=((c % W:Nat):Int):=fun ρ' k1 k2=>by
    show((E.rd (X.var 8000) (E.lit 0) 0).ev ρ').tmod (ρ'.i 3)=_
    rw[C1 ρ' k1,k2];exact hrem
   have K3:∀ρ':Env,ρ'.i 3=(W:Int)→(E.ar .sub .i64 (.var 3) (.lit 1)).ev ρ'=((W-1:Nat):Int):=fun ρ' k=>by
    show IntKind.i64.wrap (ρ'.i 3-1)=_
    rw[k];exact hw1
   have K4:∀ρ':Env,ρ'.i 4=(H:Int)→(E.ar .sub .i64 (.var 4) (.lit 1)).ev ρ'=((H-1:Nat):Int):=fun ρ' k=>by
    show IntKind.i64.wrap (ρ'.i 4-1)=_
    rw[k];exact hh1
   have E1:∀ρ':Env,c/W≠0→ρ'.d 8000=g0 (k7 (c::q))→ρ'.i 3=(W:Int)→(E.ar .sub .i64 (.rd (.var 8000) (.lit 0) 0) (.var 3)).ev ρ'=((c-W:Nat):Int):=fun ρ' k0 k1 k2=>by
    show IntKind.i64.wrap ((E.rd (X.var 8000) (E.lit 0) 0).ev ρ'-ρ'.i 3)=_
    rw[C1 ρ' k1,k2];exact hAe k0
   have E2:∀ρ':Env,c % W≠0→ρ'.d 8000=g0 (k7 (c::q))→(E.ar .sub .i64 (.rd (.var 8000) (.lit 0) 0) (.lit 1)).ev ρ'=((c-1:Nat):Int):=fun ρ' k0 k1=>by
    show IntKind.i64.wrap ((E.rd (X.var 8000) (E.lit 0) 0).ev ρ'-1)=_
    rw[C1 ρ' k1];exact hBe k0
   have E3:∀ρ':Env,ρ'.d 8000=g0 (k7 (c::q))→(E.ar .add .i64 (.rd (.var 8000) (.lit 0) 0) (.lit 1)).ev ρ'=((c+1:Nat):Int):=fun ρ' k1=>by
    show IntKind.i64.wrap ((E.rd (X.var 8000) (E.lit 0) 0).ev ρ'+1)=_
    rw[C1 ρ' k1];exact hCe
   have E4:∀ρ':Env,ρ'.d 8000=g0 (k7 (c::q))→ρ'.i 3=(W:Int)→(E.ar .add .i64 (.rd (.var 8000) (.lit 0) 0) (.var 3)).ev ρ'=((c+W:Nat):Int):=fun ρ' k1 k2=>by
    show IntKind.i64.wrap ((E.rd (X.var 8000) (E.lit 0) 0).ev ρ'+ρ'.i 3)=_
    rw[C1 ρ' k1,k2];exact hDe
   have step:∀(e:Nat) (seen q':List Nat) (out':List Int),e∈Grid.near W H c→Grid.Mid W H (Grid.Deep dp need) a c seen out' q'→G7 out'+q'.length=G7 out0+q.length→
    e<W*H∧out'.length=W*H∧(0≤Grid.at_ out' c∧Grid.at_ out' c≤1000000)∧(Grid.at_ out' e<0→need≤Grid.at_ dp e→q'.length<W*H∧Grid.Mid W H (Grid.Deep dp need) a c (seen++[e]) (out'.set e (Grid.at_ out' c+1)) (q'++[e])∧G7 (out'.set e (Grid.at_ out' c+1))+(q'++[e]).length=G7 out0+q.length)∧
    (¬(Grid.at_ out' e<0∧need≤Grid.at_ dp e)→Grid.Mid W H (Grid.Deep dp need) a c (seen++[e]) out' q'):=by
    intro e seen q' out' he hm hM'
    have hel:=Grid.near_lt hW hcl he
    have hs:=b0L hW ha hm
    have hc0':=hm.c0
    refine⟨hel,hm.len,⟨hc0',by omega⟩,fun k1 k2=>⟨by have:=hm.room hel k1;omega,hm.push hW ha he k2 k1,?_⟩,fun k=>hm.more (fun ho=> ?_)⟩
    ·have:=a3T out' e (Grid.at_ out' c+1) (by rw[hm.len];exact hel) k1 (by omega)
     simp only[List.length_append,List.length_singleton]
     omega
    ·rcases Int.lt_or_le (Grid.at_ out' e) 0 with g | g
     ·exact absurd ⟨g,ho⟩ k
     ·exact g
   have nr:Grid.near W H c=(if c/W=0 then [] else [c-W])++(if c % W=0 then [] else [c-1])++(if c % W=W-1 then [] else [c+1])++(if c/W<H-1 then [c+W] else []):=rfl
   simp only[g9,Nat.reduceBEq,Nat.reduceLT,Nat.reduceSub,v0,v1,e3]
   refine⟨fun _=>⟨by simp [k7,g0],by omega,by omega,?_⟩,fun hc=>by simp [k7,g0] at hc⟩
   refine TT.sat_join (StM W H dp need a c (G7 out0+q.length) (if c/W=0 then [] else [c-W])) (fun u hu=> ?_) (fun u hu hU=> ?_)
   ·have d8:(((a9 w8 w0 ds).put 8000 v).put 15000 u).d 8000=g0 (k7 (c::q)):=by simp [x7,v0]
    have d5:(((a9 w8 w0 ds).put 8000 v).put 15000 u).d 5=(a9 w8 w0 ds).d 5:=by simp [x7]
    have i3:(((a9 w8 w0 ds).put 8000 v).put 15000 u).i 3=(W:Int):=by simp [F6,w6,e3]
    have i6:(E.var 6).ev (((a9 w8 w0 ds).put 8000 v).put 15000 u)=need:=by simp [E.ev,F6,w6,e6]
    have hO:(X.var 8001).ev (((a9 w8 w0 ds).put 8000 v).put 15000 u)=g0 out0:=by simp [X.ev,x7,v1]
    have hQ:(X.sub (.var 8000) (.lit 1) (.len (.var 8000))).ev (((a9 w8 w0 ds).put 8000 v).put 15000 u)=g0 (k7 q):=by
     simp only[X.ev,E.ev,d8];exact hq1
    have hq:=K1 _ d8 i3
    rw[TT.sat_ite]
    refine⟨fun b=> ?_,fun b=> ?_⟩
    ·have b0:c/W=0:=by
      simp only[B.ev,n8,j8,hq,L0] at b
      omega
     rw[TT.sat_next,if_pos rfl,if_pos b0]
     exact⟨rfl,q,out0,hQ,hO,hmid,rfl⟩
    ·have b0:c/W≠0:=by
      simp only[B.ev,a2w,j8,hq,L0] at b
      omega
     rw[if_neg b0]
     obtain⟨s1,s2,s3,s4,s5⟩:=step (c-W) [] q out0 (by rw[nr,if_neg b0];simp) hmid rfl
     obtain⟨p1,p2⟩:=a6t (E1 _ b0 d8 i3) (C1 _ d8) hQ hO (by rw[s2];exact hcl) s3
     refine a4y (E1 _ b0 d8 i3) (C1 _ d8) i6 hQ hO (hC _ d5) s2 hDl s1 hcl (fun k1 k2=>(s4 k1 k2).1) (fun k1 k2=> ?_) (fun k1 k2=> ?_) (fun k1=> ?_)
     ·rw[TT.sat_next,if_pos rfl]
      exact⟨rfl,_,_,p1,p2,(s4 k1 k2).2.1,(s4 k1 k2).2.2⟩
     ·rw[TT.sat_next,if_pos rfl]
      exact⟨rfl,_,_,hQ,hO,s5 (fun k=>k2 k.2),rfl⟩
     ·rw[TT.sat_next,if_pos rfl]
      exact⟨rfl,_,_,hQ,hO,s5 (fun k=>k1 k.1),rfl⟩
   obtain⟨q1,o1,u2,u3,um,uM⟩:=hU
   refine TT.sat_join (StM W H dp need a c (G7 out0+q.length) ((if c/W=0 then [] else [c-W])++(if c % W=0 then [] else [c-1]))) (fun t ht=> ?_) (fun t ht hUt=> ?_)
   ·have d8:((((a9 w8 w0 ds).put 8000 v).put 15000 u).put 16000 t).d 8000=g0 (k7 (c::q)):=by simp [x7,v0]
    have d5:((((a9 w8 w0 ds).put 8000 v).put 15000 u).put 16000 t).d 5=(a9 w8 w0 ds).d 5:=by simp [x7]
    have i3:((((a9 w8 w0 ds).put 8000 v).put 15000 u).put 16000 t).i 3=(W:Int):=by simp [F6,w6,e3]
    have i4:((((a9 w8 w0 ds).put 8000 v).put 15000 u).put 16000 t).i 4=(H:Int):=by simp [F6,w6,e4]
    have i6:(E.var 6).ev ((((a9 w8 w0 ds).put 8000 v).put 15000 u).put 16000 t)=need:=by simp [E.ev,F6,w6,e6]
    have hO:(X.var 15003).ev ((((a9 w8 w0 ds).put 8000 v).put 15000 u).put 16000 t)=g0 o1:=by simp [X.ev,x7,u3]
    have hQ:(X.var 15002).ev ((((a9 w8 w0 ds).put 8000 v).put 15000 u).put 16000 t)=g0 (k7 q1):=by simp [X.ev,x7,u2]
    have hq:=K2 _ d8 i3
    have hq3:=K3 _ i3
    rw[TT.sat_ite]
    refine⟨fun b=> ?_,fun b=> ?_⟩
    ·have b0:c % W=0:=by
      simp only[B.ev,n8,j8,hq,hq3,L0] at b
      omega
     rw[TT.sat_next,if_pos rfl,if_pos b0,List.append_nil]
     exact⟨rfl,q1,o1,hQ,hO,um,uM⟩
    ·have b0:¬c % W=0:=by
      simp only[B.ev,a2w,j8,hq,hq3,L0] at b
      omega
     rw[if_neg b0]
     obtain⟨s1,s2,s3,s4,s5⟩:=step (c-1) ((if c/W=0 then [] else [c-W])) q1 o1 (by rw[nr,if_neg b0];simp) um uM
     obtain⟨p1,p2⟩:=a6t (E2 _ b0 d8) (C1 _ d8) hQ hO (by rw[s2];exact hcl) s3
     refine a4y (E2 _ b0 d8) (C1 _ d8) i6 hQ hO (hC _ d5) s2 hDl s1 hcl (fun k1 k2=>(s4 k1 k2).1) (fun k1 k2=> ?_) (fun k1 k2=> ?_) (fun k1=> ?_)
     ·rw[TT.sat_next,if_pos rfl]
      exact⟨rfl,_,_,p1,p2,(s4 k1 k2).2.1,(s4 k1 k2).2.2⟩
     ·rw[TT.sat_next,if_pos rfl]
      exact⟨rfl,_,_,hQ,hO,s5 (fun k=>k2 k.2),uM⟩
     ·rw[TT.sat_next,if_pos rfl]
      exact⟨rfl,_,_,hQ,hO,s5 (fun k=>k1 k.1),uM⟩
   obtain⟨q1,o1,u2,u3,um,uM⟩:=hUt
   refine TT.sat_join (StM W H dp need a c (G7 out0+q.length) ((if c/W=0 then [] else [c-W])++(if c % W=0 then [] else [c-1])++(if c % W=W-1 then [] else [c+1]))) (fun z hz=> ?_) (fun z hz hUz=> ?_)
   ·have d8:(((((a9 w8 w0 ds).put 8000 v).put 15000 u).put 16000 t).put 17000 z).d 8000=g0 (k7 (c::q)):=by simp [x7,v0]
    have d5:(((((a9 w8 w0 ds).put 8000 v).put 15000 u).put 16000 t).put 17000 z).d 5=(a9 w8 w0 ds).d 5:=by simp [x7]
    have i3:(((((a9 w8 w0 ds).put 8000 v).put 15000 u).put 16000 t).put 17000 z).i 3=(W:Int):=by simp [F6,w6,e3]
    have i4:(((((a9 w8 w0 ds).put 8000 v).put 15000 u).put 16000 t).put 17000 z).i 4=(H:Int):=by simp [F6,w6,e4]
    have i6:(E.var 6).ev (((((a9 w8 w0 ds).put 8000 v).put 15000 u).put 16000 t).put 17000 z)=need:=by simp [E.ev,F6,w6,e6]
    have hO:(X.var 16003).ev (((((a9 w8 w0 ds).put 8000 v).put 15000 u).put 16000 t).put 17000 z)=g0 o1:=by simp [X.ev,x7,u3]
    have hQ:(X.var 16002).ev (((((a9 w8 w0 ds).put 8000 v).put 15000 u).put 16000 t).put 17000 z)=g0 (k7 q1):=by simp [X.ev,x7,u2]
    have hq:=K2 _ d8 i3
    have hq3:=K3 _ i3
    rw[TT.sat_ite]
    refine⟨fun b=> ?_,fun b=> ?_⟩
    ·have b0:c % W=W-1:=by
      simp only[B.ev,n8,j8,hq,hq3,L0] at b
      omega
     rw[TT.sat_next,if_pos rfl,if_pos b0,List.append_nil]
     exact⟨rfl,q1,o1,hQ,hO,um,uM⟩
    ·have b0:¬c % W=W-1:=by
      simp only[B.ev,a2w,j8,hq,hq3,L0] at b
      omega
     rw[if_neg b0]
     obtain⟨s1,s2,s3,s4,s5⟩:=step (c+1) ((if c/W=0 then [] else [c-W])++(if c % W=0 then [] else [c-1])) q1 o1 (by rw[nr,if_neg b0];simp) um uM
     obtain⟨p1,p2⟩:=a6t (E3 _ d8) (C1 _ d8) hQ hO (by rw[s2];exact hcl) s3
     refine a4y (E3 _ d8) (C1 _ d8) i6 hQ hO (hC _ d5) s2 hDl s1 hcl (fun k1 k2=>(s4 k1 k2).1) (fun k1 k2=> ?_) (fun k1 k2=> ?_) (fun k1=> ?_)
     ·rw[TT.sat_next,if_pos rfl]
      exact⟨rfl,_,_,p1,p2,(s4 k1 k2).2.1,(s4 k1 k2).2.2⟩
     ·rw[TT.sat_next,if_pos rfl]
      exact⟨rfl,_,_,hQ,hO,s5 (fun k=>k2 k.2),uM⟩
     ·rw[TT.sat_next,if_pos rfl]
      exact⟨rfl,_,_,hQ,hO,s5 (fun k=>k1 k.1),uM⟩
   obtain⟨q1,o1,u2,u3,um,uM⟩:=hUz
   have d8:(((((a9 w8 w0 ds).put 8000 v).put 15000 u).put 16000 t).put 17000 z).d 8000=g0 (k7 (c::q)):=by simp [x7,v0]
   have d5:(((((a9 w8 w0 ds).put 8000 v).put 15000 u).put 16000 t).put 17000 z).d 5=(a9 w8 w0 ds).d 5:=by simp [x7]
   have i3:(((((a9 w8 w0 ds).put 8000 v).put 15000 u).put 16000 t).put 17000 z).i 3=(W:Int):=by simp [F6,w6,e3]
   have i4:(((((a9 w8 w0 ds).put 8000 v).put 15000 u).put 16000 t).put 17000 z).i 4=(H:Int):=by simp [F6,w6,e4]
   have i6:(E.var 6).ev (((((a9 w8 w0 ds).put 8000 v).put 15000 u).put 16000 t).put 17000 z)=need:=by simp [E.ev,F6,w6,e6]
   have hO:(X.var 17003).ev (((((a9 w8 w0 ds).put 8000 v).put 15000 u).put 16000 t).put 17000 z)=g0 o1:=by simp [X.ev,x7,u3]
   have hQ:(X.var 17002).ev (((((a9 w8 w0 ds).put 8000 v).put 15000 u).put 16000 t).put 17000 z)=g0 (k7 q1):=by simp [X.ev,x7,u2]
   have hq:=K1 _ d8 i3
   have hq4:=K4 _ i4
   have fin:∀(v':LV) (q':List Nat) (out':List Int),v'.d 0=g0 (k7 q')→v'.d 1=g0 out'→Grid.Mid W H (Grid.Deep dp need) a c (Grid.near W H c) out' q'→G7 out'+q'.length=G7 out0+q.length→
    (∃q out,v'.d 0=g0 (k7 q)∧v'.d 1=g0 out∧Grid.Wait W H (Grid.Deep dp need) a out q)∧G7 (g8 (v'.d 1))+(v'.d 0).length<G7 (g8 (g0 out0))+(g0 (k7 (c::q))).length:=fun v' q' out' g1 g2 g3 g4=>by
    refine⟨⟨q',out',g1,g2,g3.end_⟩,?_⟩
    rw[g1,g2,a3F,a3F,s7,s7,B5,B5]
    simp only[List.length_cons]
    omega
   rw[TT.sat_ite]
   refine⟨fun b=> ?_,fun b=> ?_⟩
   ·have b0:c/W<H-1:=by
     simp only[B.ev,n8,j8,hq,hq4,L0] at b
     omega
    obtain⟨s1,s2,s3,s4,s5⟩:=step (c+W) ((if c/W=0 then [] else [c-W])++(if c % W=0 then [] else [c-1])++(if c % W=W-1 then [] else [c+1])) q1 o1 (by rw[nr,if_pos b0];simp) um uM
    have nr':Grid.near W H c=(if c/W=0 then [] else [c-W])++(if c % W=0 then [] else [c-1])++(if c % W=W-1 then [] else [c+1])++[c+W]:=by rw[nr,if_pos b0]
    rw[←nr'] at s4 s5
    obtain⟨p1,p2⟩:=a6t (E4 _ d8 i3) (C1 _ d8) hQ hO (by rw[s2];exact hcl) s3
    refine a4y (E4 _ d8 i3) (C1 _ d8) i6 hQ hO (hC _ d5) s2 hDl s1 hcl (fun k1 k2=>(s4 k1 k2).1) (fun k1 k2=> ?_) (fun k1 k2=> ?_) (fun k1=> ?_)
    ·rw[TT.sat_next]
     exact fin _ _ _ p1 p2 (s4 k1 k2).2.1 (s4 k1 k2).2.2
    ·rw[TT.sat_next]
     exact fin _ _ _ hQ hO (s5 (fun k=>k2 k.2)) uM
    ·rw[TT.sat_next]
     exact fin _ _ _ hQ hO (s5 (fun k=>k1 k.1)) uM
   ·have b0:¬c/W<H-1:=by
     simp only[B.ev,a2w,j8,hq,hq4,L0] at b
     omega
    have nr':Grid.near W H c=(if c/W=0 then [] else [c-W])++(if c % W=0 then [] else [c-1])++(if c % W=W-1 then [] else [c+1]):=by rw[nr,if_neg b0,List.append_nil]
    rw[←nr'] at um
    rw[TT.sat_next]
    exact fin _ _ _ hQ hO um uM
def B3:Interp where
 fi n l:=w8.fi n l
 fb n l:=match n with | 150=>Z3 l | n=>w8.fb n l
 fd n l:=match n with | 1=>a5M l | n=>w8.fd n l
theorem b0g{ρ:Env}(h:Sees ρ B3 160):Sees ρ w8 150:=h.trans (by decide) fun n l hn=>by
 refine⟨?_,?_⟩
 ·
  rfl
 ·
  simp only[B3]
  split<;>first | omega | rfl
def b7n:=u7 [l8] fun al=> .ret (bV (bF 150 Z3 al))
theorem b8U{ρ:Env}(h:Sees ρ B3 160):i9 Tryz.prog ρ 8 b7n:=
 j7 c8z (fun _=>rfl) (fun al=>by simp only[iV,bV,V.s0,V.val,V2.val,S.val,S0.val,m9 (s:=150) (f:=Z3) (fun l=>by rw[(h 150 l (by decide)).2];simp only[B3])];try rfl)
def a8k(al:AL):List Ob:=match al with
 | .i x (.i y (.i s (.i w (.i h (.x r (.i need (.i to .nil)))))))=>[.tru (.fn 150 (.i x (.i y (.i s (.i w (.i h (.x r .nil))))))),.tru (.cmpS .leq (.lit 0) to),.tru (.cmpS .lss to (.len r))]
 | _=>[.tru (.lit false)]
def c1T:=a7S [l8,it,it] a1K a8k
theorem c3c{ρ:Env}(h:Sees ρ B3 160)(hd:SeesD ρ B3 2):i9 Tryz.prog ρ 49 c1T:=by
 refine a7d d0Z (by decide) (fun al ho=> ?_) (fun a=>(hd 1 a (by decide)).trans rfl)
 unfold a8k at ho
 split at ho
 ·rename_i x y s w h' r need to
  have o1:=ho _ (List.mem_cons_self ..)
  have o2:=ho _ (List.mem_cons_of_mem _ (List.mem_cons_self ..))
  have o3:=ho _ (List.mem_cons_of_mem _ (List.mem_cons_of_mem _ (List.mem_cons_self ..)))
  simp only[Ob.ok,B.cmpS_ev,n8,j8,E.ev,B.ev] at o1 o2 o3
  rw[(h 150 _ (by decide)).2] at o1
  simp only[B3] at o1
  exact⟨o1,o2,o3⟩
 ·have:=ho _ (List.mem_cons_self ..)
  simp [Ob.ok,B.ev] at this
def a9J:Ct:=(8,b7n)::(49,c1T)::b8L
theorem a3h{ρ:Env}(h:Sees ρ B3 160)(hd:SeesD ρ B3 2):CtOk Tryz.prog ρ a9J:= .cons (b8U h)<| .cons (c3c h hd)<|b0s (b0g h)
end Go.Proofs.YtcjaembdcfppfaaGreat
