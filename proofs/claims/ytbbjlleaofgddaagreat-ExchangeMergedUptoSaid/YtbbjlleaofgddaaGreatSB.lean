/- SB, merged: S4, S5, S6, Yr, Yu, Yw. -/
import Derived.Test.YtbbjlleaofgddaaGreatSA
import Derived.Test.YtbbjlleaofgddaaGreatMZ
set_option linter.unusedSimpArgs false
set_option linter.unusedVariables false
namespace Go.Proofs.YtbbjlleaofgddaaGreat
namespace Srt
variable {α:Type} {lt:α→α→Bool}
theorem symN_fuel:∀(f g:Nat) (r:List α) (a m b:Nat),a<m→m<b→b-a≤f→b-a≤g→symN lt f r a m b=symN lt g r a m b
 | 0,_,_,_,_,_,h1,h2,h3,_=>by omega
 | _,0,_,_,_,_,h1,h2,_,h4=>by omega
 | f+1,g+1,r,a,m,b,h1,h2,h3,h4=>by
   rw[symN,symN]
   have e1:∀r' s,a<s→s<(a+b)/2→symN lt f r' a s ((a+b)/2)=symN lt g r' a s ((a+b)/2):=fun r' s k1 k2=>symN_fuel f g r' a s _ k1 k2 (by omega) (by omega)
   by_cases c0:m-a=1
   ·rw[if_pos c0,if_pos c0]
   rw[if_neg c0,if_neg c0]
   by_cases c9:b-m=1
   ·rw[if_pos c9,if_pos c9]
   rw[if_neg c9,if_neg c9]
   have e2:∀r' e,(a+b)/2<e→e<b→symN lt f r' ((a+b)/2) e b=symN lt g r' ((a+b)/2) e b:=fun r' e k1 k2=>symN_fuel f g r' _ e b k1 k2 (by omega) (by omega)
   generalize cutS lt r a m b=s
   by_cases c1:a<s∧s<(a+b)/2
   ·simp only[if_pos c1,e1 _ _ c1.1 c1.2]
    by_cases c2:(a+b)/2<(a+b)/2+m-s∧(a+b)/2+m-s<b
    ·rw[if_pos c2,if_pos c2,e2 _ _ c2.1 c2.2]
    ·rw[if_neg c2,if_neg c2]
   ·simp only[if_neg c1]
    by_cases c2:(a+b)/2<(a+b)/2+m-s∧(a+b)/2+m-s<b
    ·rw[if_pos c2,if_pos c2,e2 _ _ c2.1 c2.2]
    ·rw[if_neg c2,if_neg c2]
theorem bsN_fuel(p:Nat→Bool):∀(f g i j:Nat),j-i≤f→j-i≤g→bsN p f i j=bsN p g i j
 | 0,0,i,j,_,_=>rfl
 | 0,g+1,i,j,h1,_=>by rw[bsN,bsN,if_neg (by omega)]
 | f+1,0,i,j,_,h2=>by rw[bsN,bsN,if_neg (by omega)]
 | f+1,g+1,i,j,h1,h2=>by
   rw[bsN,bsN]
   by_cases c:i<j
   ·rw[if_pos c,if_pos c,bsN_fuel p f g _ _ (by omega) (by omega),bsN_fuel p f g _ _ (by omega) (by omega)]
   ·rw[if_neg c,if_neg c]
def bsS(p:Nat→Bool)(i j:Nat):Nat:=bsN p (j-i) i j
theorem bsS_end(p:Nat→Bool){i j:Nat}(h:j≤i):bsS p i j=i:=by
 unfold bsS
 rw[show j-i=0 by omega,bsN]
theorem bsS_up(p:Nat→Bool){i j:Nat}(h:i<j)(hp:p ((i+j)/2)=true):bsS p i j=bsS p ((i+j)/2+1) j:=by
 unfold bsS
 obtain⟨f,hf⟩:∃f,j-i=f+1:=⟨j-i-1,by omega⟩
 rw[hf,bsN,if_pos h,if_pos hp]
 exact bsN_fuel p _ _ _ _ (by omega) (by omega)
theorem bsS_dn(p:Nat→Bool){i j:Nat}(h:i<j)(hp:p ((i+j)/2)=false):bsS p i j=bsS p i ((i+j)/2):=by
 unfold bsS
 obtain⟨f,hf⟩:∃f,j-i=f+1:=⟨j-i-1,by omega⟩
 rw[hf,bsN,if_pos h,if_neg (by rw[hp];decide)]
 exact bsN_fuel p _ _ _ _ (by omega) (by omega)
end Srt
end Go.Proofs.YtbbjlleaofgddaaGreat
namespace Go.Proofs.YtbbjlleaofgddaaGreat
namespace Srt
variable {α:Type} (lt same:α→α→Bool)
def mgD:List α→List α→Option (List α)
 | out,[]=>some out
 | out,n::rest=>match out.getLast? with
   | none=>mgD (out++[n]) rest
   | some x=>if (lt x n||lt n x)=true then mgD (out++[n]) rest else if same x n=true then mgD out rest else none
variable {lt same}
def Strict(lt:α→α→Bool)(m:List α):Prop:=m.Pairwise fun x y=>lt x y=true
def a7R(lt:α→α→Bool)(m:List α):Prop:=m.Pairwise fun x y=>lt y x=false
theorem b6q{r:List α}(h:Sorted lt r 0 r.length):a7R lt r:=by
 refine List.pairwise_iff_getElem.2 fun i j hi hj hij=> ?_
 exact h i j _ _ (Nat.zero_le _) hij hj (List.getElem?_eq_getElem hi) (List.getElem?_eq_getElem hj)
theorem Ord.lt_trans(O:Ord lt){x y z:α}(h1:lt x y=true)(h2:lt z y=false):lt x z=true:=by
 cases h:lt x z with
 | true=>rfl
 | false=>
   have:=O.tr y z x h2 h
   rw[this] at h1
   cases h1
theorem b0m(O:Ord lt){out:List α}{x:α}(hs:Strict lt out)(hl:out.getLast? = some x):∀y∈out,y=x∨lt y x=true:=by
 intro y hy
 obtain⟨l,rfl⟩:∃l,out=l++[x]:=List.getLast?_eq_some_iff.1 hl
 rcases List.mem_append.1 hy with h | h
 ·exact .inr ((List.pairwise_append.1 hs).2.2 y h x (by simp))
 ·exact .inl (by simpa using h)
theorem a8t(O:Ord lt){ok:α→Prop}(hsame:∀x y,ok x→ok y→(same x y=true↔x=y)):∀(rest out:List α),Strict lt out→a7R lt rest→(∀x∈out,∀y∈rest,lt y x=false)→(∀x∈out,ok x)→(∀x∈rest,ok x)→
 (∃m,mgD lt same out rest=some m∧Strict lt m∧(∀x,x∈m↔x∈out∨x∈rest))∨(mgD lt same out rest=none∧∃x y,(x∈out∨x∈rest)∧y∈rest∧lt x y=false∧lt y x=false∧x≠y)
 | [],out,h1,_,_,_,_=> .inl ⟨out,by rw[mgD],h1,fun x=>by simp⟩
 | n::rest,out,h1,h2,h3,h4,h5=>by
   have r1:=(List.pairwise_cons.1 h2).1
   have r2:a7R lt rest:=(List.pairwise_cons.1 h2).2
   have key:Strict lt (out++[n])→(∃m,mgD lt same (out++[n]) rest=some m∧Strict lt m∧(∀x,x∈m↔x∈out∨x∈n::rest))∨(mgD lt same (out++[n]) rest=none∧∃x y,(x∈out∨x∈n::rest)∧y∈n::rest∧lt x y=false∧lt y x=false∧x≠y):=fun hs=>by
    rcases a8t O hsame rest (out++[n]) hs r2 (fun x hx y hy=>by
     rcases List.mem_append.1 hx with h | h
     ·exact h3 x h y (List.mem_cons_of_mem _ hy)
     ·obtain rfl:x=n:=by simpa using h
      exact r1 y hy) (fun x hx=>by
     rcases List.mem_append.1 hx with h | h
     ·exact h4 x h
     ·obtain rfl:x=n:=by simpa using h
      exact h5 x (List.mem_cons_self ..)) (fun x hx=>h5 x (List.mem_cons_of_mem _ hx)) with ⟨m,a1,a2,a3⟩ | ⟨a1,x,y,a2,a3,a4⟩
    ·refine .inl ⟨m,a1,a2,fun x=> ?_⟩
     rw[a3]
     simp only[List.mem_append,List.mem_cons,List.not_mem_nil,or_false,or_assoc]
    ·refine .inr ⟨a1,x,y,?_,List.mem_cons_of_mem _ a3,a4⟩
     simpa only[List.mem_append,List.mem_cons,List.not_mem_nil,or_false,or_assoc] using a2
   rw[mgD]
   cases hl:out.getLast? with
   | none=>
     obtain rfl:=List.getLast?_eq_none_iff.1 hl
     exact key (List.pairwise_singleton ..)
   | some x=>
     have hx:x∈out:=List.mem_of_getLast? hl
     have hnx:lt n x=false:=h3 x hx n (List.mem_cons_self ..)
     simp only[hnx,Bool.or_false]
     by_cases c:lt x n=true
     ·rw[if_pos c]
      refine key (List.pairwise_append.2 ⟨h1,List.pairwise_singleton ..,fun y hy z hz=> ?_⟩)
      obtain rfl:z=n:=by simpa using hz
      rcases b0m O h1 hl y hy with h | h
      ·rw[h];exact c
      ·exact O.lt_trans h hnx
     ·rw[if_neg c]
      have c':lt x n=false:=by simpa using c
      by_cases d:same x n=true
      ·rw[if_pos d]
       have e:x=n:=(hsame x n (h4 x hx) (h5 n (List.mem_cons_self ..))).1 d
       rcases a8t O hsame rest out h1 r2 (fun x hx y hy=>h3 x hx y (List.mem_cons_of_mem _ hy)) h4 (fun x hx=>h5 x (List.mem_cons_of_mem _ hx)) with ⟨m,a1,a2,a3⟩ | ⟨a1,u,y,a2,a3,a4⟩
       ·refine .inl ⟨m,a1,a2,fun u=> ?_⟩
        rw[a3,List.mem_cons]
        constructor
        ·rintro(h | h)
         ·exact .inl h
         ·exact .inr (.inr h)
        ·rintro(h | h | h)
         ·exact .inl h
         ·exact .inl (by rw[h,←e];exact hx)
         ·exact .inr h
       ·exact .inr ⟨a1,u,y,a2.imp_right (List.mem_cons_of_mem _),List.mem_cons_of_mem _ a3,a4⟩
      ·rw[if_neg d]
       refine .inr ⟨rfl,x,n,.inl hx,List.mem_cons_self ..,c',hnx,fun e=>d ((hsame x n (h4 x hx) (h5 n (List.mem_cons_self ..))).2 e)⟩
theorem a4o(O:Ord lt){m:List α}(h:Strict lt m){x y:α}(hx:x∈m)(hy:y∈m)(h1:lt x y=false)(h2:lt y x=false):x=y:=by
 obtain⟨i,hi,rfl⟩:=List.getElem_of_mem hx
 obtain⟨j,hj,rfl⟩:=List.getElem_of_mem hy
 have hp:=List.pairwise_iff_getElem.1 h
 rcases Nat.lt_trichotomy i j with c | c | c
 ·have:=hp i j hi hj c
  rw[this] at h1
  cases h1
 ·subst c
  rfl
 ·have:=hp j i hj hi c
  rw[this] at h2
  cases h2
theorem a3N(O:Ord lt):∀ {m n:List α},Strict lt m→Strict lt n→(∀x,x∈m↔x∈n)→m=n
 | [],[],_,_,_=>rfl
 | [],y::n,_,_,h=>absurd ((h y).2 (List.mem_cons_self ..)) (by simp)
 | x::m,[],_,_,h=>absurd ((h x).1 (List.mem_cons_self ..)) (by simp)
 | x::m,y::n,h1,h2,h=>by
   have a1:=(List.pairwise_cons.1 h1).1
   have a2:=(List.pairwise_cons.1 h2).1
   have irr:∀z,lt z z=false:=fun z=>by
    cases e:lt z z with
    | false=>rfl
    | true=>have:=O.asym z z e;rw[this] at e;cases e
   have e:x=y:=by
    rcases List.mem_cons.1 ((h x).1 (List.mem_cons_self ..)) with k | k
    ·exact k
    ·rcases List.mem_cons.1 ((h y).2 (List.mem_cons_self ..)) with k' | k'
     ·exact k'.symm
     ·have b1:=a1 y k'
      have b2:=a2 x k
      have:=O.asym _ _ b1
      rw[this] at b2
      cases b2
   subst e
   congr 1
   refine a3N O (List.pairwise_cons.1 h1).2 (List.pairwise_cons.1 h2).2 fun z=>⟨fun hz=> ?_,fun hz=> ?_⟩
   ·rcases List.mem_cons.1 ((h z).1 (List.mem_cons_of_mem _ hz)) with k | k
    ·have:=a1 z hz
     rw[k,irr] at this
     cases this
    ·exact k
   ·rcases List.mem_cons.1 ((h z).2 (List.mem_cons_of_mem _ hz)) with k | k
    ·have:=a2 z hz
     rw[k,irr] at this
     cases this
    ·exact k
def mgS(lt same:α→α→Bool)(l:List α):Option (List α):=mgD lt same [] (sortS lt l)
theorem b4a{r:List α}{x:α}:In r 0 r.length x↔x∈r:=by
 rw[List.mem_iff_getElem?]
 exact⟨fun⟨k,_,_,h⟩=>⟨k,h⟩,fun⟨k,h⟩=>⟨k,Nat.zero_le _,(List.getElem?_eq_some_iff.1 h).1,h⟩⟩
theorem sortS_mem(O:Ord lt){l:List α}(h:l.length<40)(x:α):x∈sortS lt l↔x∈l:=by
 have:=(a7B O h).2.mem x
 rw[b4a] at this
 rw[←this,←b4a,sortS_len]
theorem mgS_ok(O:Ord lt){ok:α→Prop}(hsame:∀x y,ok x→ok y→(same x y=true↔x=y)){l:List α}(h:l.length<40)(hok:∀x∈l,ok x):
 (∃m,mgS lt same l=some m∧Strict lt m∧(∀x,x∈m↔x∈l))∨(mgS lt same l=none∧∃x y,x∈l∧y∈l∧lt x y=false∧lt y x=false∧x≠y):=by
 have hr:=b6q (r:=sortS lt l) (by rw[sortS_len];exact(a7B O h).1)
 rcases a8t O hsame (sortS lt l) [] List.Pairwise.nil hr (fun x hx=>by simp at hx) (fun x hx=>by simp at hx) (fun x hx=>hok x ((sortS_mem O h x).1 hx)) with ⟨m,a1,a2,a3⟩ | ⟨a1,x,y,a2,a3,a4⟩
 ·exact .inl ⟨m,a1,a2,fun x=>by rw[a3,sortS_mem O h];simp⟩
 ·refine .inr ⟨a1,x,y,?_,(sortS_mem O h y).1 a3,a4⟩
  rcases a2 with k | k
  ·simp at k
  ·exact(sortS_mem O h x).1 k
theorem mgS_lie(O:Ord lt){ok:α→Prop}(hsame:∀x y,ok x→ok y→(same x y=true↔x=y)){l:List α}(h:l.length<40)(hok:∀x∈l,ok x):mgS lt same l=none↔∃x y,x∈l∧y∈l∧lt x y=false∧lt y x=false∧x≠y:=by
 rcases mgS_ok O hsame h hok with ⟨m,a1,a2,a3⟩ | ⟨a1,a2⟩
 ·rw[a1]
  refine⟨fun e=>(by cases e),fun⟨x,y,b1,b2,b3,b4,b5⟩=>absurd (a4o O a2 ((a3 x).2 b1) ((a3 y).2 b2) b3 b4) b5⟩
 ·exact⟨fun _=>a2,fun _=>a1⟩
theorem mgS_same(O:Ord lt){ok:α→Prop}(hsame:∀x y,ok x→ok y→(same x y=true↔x=y)){l l':List α}(h:l.length<40)(h':l'.length<40)(hok:∀x∈l,ok x)(hm:∀x,x∈l↔x∈l'):mgS lt same l=mgS lt same l':=by
 have hok':∀x∈l',ok x:=fun x hx=>hok x ((hm x).2 hx)
 rcases mgS_ok O hsame h hok with ⟨m,a1,a2,a3⟩ | ⟨a1,x,y,b1,b2,b3⟩
 ·rcases mgS_ok O hsame h' hok' with ⟨n,c1,c2,c3⟩ | ⟨c1,x,y,d1,d2,d3,d4,d5⟩
  ·rw[a1,c1,a3N O a2 c2 fun x=>by rw[a3,c3,hm]]
  ·exact absurd (a4o O a2 ((a3 x).2 ((hm x).2 d1)) ((a3 y).2 ((hm y).2 d2)) d3 d4) d5
 ·rw[a1,((mgS_lie O hsame h' hok').2 ⟨x,y,(hm x).1 b1,(hm y).1 b2,b3⟩)]
end Srt
end Go.Proofs.YtbbjlleaofgddaaGreat
namespace Go.Proofs.YtbbjlleaofgddaaGreat
namespace Srt
theorem a9C{r:Rows}{i:Int}{n:Nat}(hi:i=n){l c:List D}(hc:r[n]? = some c)(hl:c.length=l.length):z9 r i 0 l=r.set n l:=by
 subst hi
 unfold z9
 rw[Int.toNat_natCast]
 apply List.ext_getElem?
 intro k
 rw[List.getElem?_modify,List.getElem?_set]
 by_cases e:n=k
 ·subst e
  rw[if_pos rfl,if_pos (List.getElem?_eq_some_iff.1 hc).1,hc]
  simp [←hl]
 ·simp [e]
theorem swp_upd{r:Rows}{i j:Int}{m n:Nat}(hi:i=m)(hj:j=n){x y:List D}(hx:r[m]? = some x)(hy:r[n]? = some y)(hl:x.length=y.length):z9 (z9 r i 0 y) j 0 x=swp r m n:=by
 rw[a9C hi hx hl]
 have h2:(r.set m y)[n]? = some y:=by
  rw[List.getElem?_set]
  split
  ·rename_i e
   subst e
   rw[if_pos (List.getElem?_eq_some_iff.1 hx).1]
  ·exact hy
 rw[a9C hj h2 hl.symm]
 unfold swp
 rw[hx,hy]
theorem updR_len(r:Rows)(i:Int)(o:Nat)(l:List D):(z9 r i o l).length=r.length:=by unfold z9;simp
end Srt
end Go.Proofs.YtbbjlleaofgddaaGreat
namespace Go.Proofs.YtbbjlleaofgddaaGreat
open Go.RowKit
section
variable {P:Program} {ct:Ct} {lt:Lt}
structure OwnL (w0 W:World) (t:TypeId) (ks:List CK) (v:Value) (r:Rows) (xs:List Value):Prop where
 row:OwnRow W w0.heap.size t ks.length v r.length xs
 reps:∀(i:Nat) (row:List D),r[i]? = some row→CK.reps w0 ks ((xs.drop (i*ks.length)).take ks.length) row
 big:r.length≤281474976710656
structure ButRow (W:World) (v:Value) (W':World):Prop where
 os:W'.os=W.os
 tape:W'.tape=W.tape
 output:W'.output=W.output
 size:W.heap.size≤W'.heap.size
 block:∀k,k<W.heap.size→j9 v≠some k→W'.heap[k]? = W.heap[k]?
 keep:Keep W W'
end
section
variable {P:Program} {ρ:Env}
end
end Go.Proofs.YtbbjlleaofgddaaGreat
namespace Go.Proofs.YtbbjlleaofgddaaGreat
open Go.RowKit
section
variable {P:Program} {ct:Ct} {lt:Lt}
def F2(P:Program)(f:FuncId)(t:TypeId)(ks:List CK)(ag:List Ag)(ok:List D→Prop)(upd:List D→Rows):Prop:=
 ∀(w0 W:World) (v:Value) (r:Rows) (xs:List Value) (vals:List Value) (ds:List D),Below w0.heap.size w0 W→OwnL w0 W t ks v r xs→K3 w0 W ag vals ds []→ok (.l r::ds)→
  Calls P f (v::vals).toArray W (fun en W'=>en= .returned (.tuple #[])∧ButRow W v W'∧∃ys,OwnL w0 W' t ks v (upd (.l r::ds)) ys)
def b8Q(t:TypeId)(ks:List CK)(upd:List D→Rows)(ds:List D)(ρ:Env)(q:i8):Prop:=q.1= .tup []∧((∃x,q.2.1.get 0=some (.own t ks x (.lit 0))∧x.ev ρ=upd ds)∨(q.2.1.get 0=none∧(match ds with | .l r::_=>r | _=>[])=upd ds))
theorem Y3(I:Interp)(hmix:P.follows .mixedOrders=true)(hct:∀ρ,ρ.has I→CtOk P ρ ct)(hce:ct.all (fun p=>G0 P p.1)=true){n:Nat}{f:FuncId}{t:TypeId}{ks:List CK}{ag:List Ag}(hag:a0q ag=true){tr:TT i8}
 (he:T.norm 0 (call P ct lt n f ((.v (.one (.z (.own 0 (.lit 0)))))::A6 1 0 ag) [(0,.own t ks (.var 0) (.lit 0))] 1) TT.ret=tr) (hlow:tr.low 1000=true) (hsh:1+H8 ag≤1000) {ok:List D→Prop} {upd:List D→Rows}
 (hs:∀w0 r vals ds,r.length≤281474976710656→(∀row∈r,∃us,CK.reps w0 ks us row)→K3 w0 w0 ag vals ds []→ok (.l r::ds)→tr.sat (g8 I w0 (.l r::ds)) (b8Q t ks upd (.l r::ds)) (fun _ _=>False)):F2 P f t ks ag ok upd:=by
 intro w0 W v r xs vals ds hbase hO hrep hok
 have own0:∀ {i k},(As.none.say 0 0 v).own i k→i=0∧j9 v=some k:=fun h=>by
  rcases I7 h with h | h
  ·exact absurd h (y7 _ _)
  ·exact h
 have hv:∃a m c,v= .slice a m c:=by
  rcases hO.row with h | ⟨_,_,b,h⟩
  ·rcases h with ⟨_,h2⟩
   rcases h2 with ⟨h2,_⟩ | ⟨g,cap,cur,h2,_⟩
   ·exact⟨_,_,_,h2⟩
   ·exact⟨_,_,_,h2⟩
  ·exact⟨_,_,_,h⟩
 have hx:Ext As.none (As.none.say 0 0 v):=⟨fun _ _ h=>h,fun i n u h=>by cases h⟩
 obtain⟨ρ',q,h1,⟨hq1,hq2⟩,_,h5⟩:=Z2 (lt:=lt) hmix (fun ρ' ha=>hct ρ' ⟨ha.fi.symm,ha.fb.symm,ha.fd.symm⟩) (L6 hce) he hlow (hs w0 r vals ds hO.big (fun row hrow=>by
  obtain⟨i,hi,rfl⟩:=List.getElem_of_mem hrow
  exact⟨_,hO.reps i _ (List.getElem?_eq_getElem hi)⟩) (P4 hag hrep) hok) (σ:=As.none.say 0 0 v) (W:=W) (vals:=v::vals)
  (fun ρ' ha=>by
   have hw:ρ'.w=w0:=by rw[←ha.w];rfl
   have hd0:ρ'.d 0=r:=by rw[←ha.d 0 (by omega)];rfl
   refine⟨fun id b h=> ?_,fun i j a h g=>by rw[(own0 h).1,(own0 g).1],fun i a h=>(hO.row.lt (own0 h).2).2,fun i a h=>by rw[hw];exact(hO.row.lt (own0 h).2).1,by rw[hw];exact hbase⟩
   simp only[Mem.get] at h
   split at h
   ·rename_i e
    obtain rfl:0=id:=by simpa using e
    obtain rfl:=Option.some.inj h
    exact⟨v,xs,As.say_self,fun u hu=>by rw[As.say_other (fun e=>by have:u=0:=e.2;have:(0:Int)<u:=hu;omega)];rfl,by rw[hw];show OwnRow _ _ _ _ _ (ρ'.d 0).length _;rw[hd0];exact hO.row,fun i row hi=>by rw[hw];exact hO.reps i row (by rw[←hd0];exact hi),by show(ρ'.d 0).length≤_;rw[hd0];exact hO.big⟩
   ·cases h)
  (fun k hk hh=>by
   rcases v8 hh with h | h
   ·exact U9 _ h
   ·omega)
  (fun ρ' ha=>⟨⟨hv,As.say_self⟩,(a4A hag (C2 (bs0:=[]) ha ag 1 0 vals [.l r] ds [] [] rfl rfl (by omega) rfl rfl hrep).1).mono (V.den_ext hx)⟩)
 refine(callsIn_wide (n:=0)).1 ?_
 have h':CallsIn Fence.wide 0 P f (v::vals).toArray W (A8 ρ' (As.none.say 0 0 v) W 1 q):=h5
 have hw:ρ'.w=w0:=by rw[←h1.w];rfl
 refine CallsIn.mono h' ?_
 rintro en W' ⟨u,σ',rfl,e1,e2,e3⟩
 have hu:u= .tuple #[]:=by
  rw[hq1] at e1
  obtain⟨vs,h,rfl⟩:=e1
  obtain rfl:=DL.nil_inv h
  rfl
 have hb:ButRow W v W':=⟨e2.os,e2.tape,e2.output,e2.size,fun k hk hne=>e2.frame k hk (fun i b hi e=>hne (own0 e).2),e2.keep⟩
 refine⟨by rw[hu],hb,?_⟩
 rcases hq2 with ⟨x,hm,hxu⟩ | ⟨hm,hxu⟩
 ·obtain⟨v2,ys,hR⟩:=e2.blk _ _ hm
  have hnow:=hR.now
  have hv2:v2=v:=by
   have:σ'.h 0 0=some v:=e2.ext.h 0 0 v As.say_self
   have hn:σ'.h 0 0=some v2:=hnow
   rw[this] at hn
   exact(Option.some.inj hn).symm
  subst hv2
  have hrow:=hR.row
  have hrows:=hR.reps
  have hbig:=hR.big
  rw[hw,hxu] at hrow
  rw[hw,hxu] at hrows
  rw[hxu] at hbig
  exact⟨ys,hrow,hrows,hbig⟩
 ·have hsame:∀k,j9 v=some k→W'.heap[k]? = W.heap[k]? := fun k hk=>e2.frame k (hO.row.lt hk).2 (fun i b hi e=>by rw[(own0 e).1,hm] at hi;cases hi)
  have hr:r=upd (.l r::ds):=hxu
  rw[←hr]
  exact⟨xs,hO.row.kept hsame,hO.reps,hO.big⟩
end
section
variable {P:Program} {ρ:Env}
def a3a(t:TypeId)(ks:List CK)(ag:List Ag)(s:Nat)(obs:AL→List Ob)(args:List V)(mem:Mem)(nx:Nat):T i8:=match args with
 | .v (.one (.z (.own id ver)))::r=>match mem.get id with
   | some (.own t' ks' x v)=>if E.same ver v&&Nat.beq t' t&&CK.sameL ks' ks then(match B8 mem ag r with
     | some (al,[])=> .obs (obs (.x x al)) (.ret (.tup [],[(id,.own t ks (.fn s (.x x al)) ver)],nx))
     | _=> .stuck "update: data") else .stuck "update: kinds"
   | _=> .stuck "update: of"
 | _=> .stuck "update"
theorem U1{f:FuncId}{t:TypeId}{ks:List CK}{ag:List Ag}{s:Nat}{ok:List D→Prop}{upd:List D→Rows}(hg:F2 P f t ks ag ok upd)(hag:a0q ag=true){obs:AL→List Ob}(hobs:∀al,(∀o∈obs al,o.ok ρ)→ok (al.ev ρ))(hs:∀a,ρ.fd s a=upd a):i4 P ρ f (a3a t ks ag s obs):=by
 intro args mem nx q hq hle σ W vals hr hfr hd
 unfold a3a at hq
 split at hq
 ·rename_i id ver rest
  split at hq
  ·rename_i t' ks' x v hm
   split at hq
   ·rename_i hcond
    simp only[Bool.and_eq_true] at hcond
    obtain⟨⟨hv,ht⟩,hk⟩:=hcond
    obtain rfl:=E.same_eq _ _ hv
    obtain rfl:=i9 ht
    obtain rfl:=CK.sameL_eq _ _ hk
    split at hq
    ·rename_i al ha
     obtain⟨ho,hq⟩:=T.res_obs hq
     obtain rfl:=g9 hq
     obtain⟨u1,us,rfl,d1,d2⟩:=DL.cons_inv hd
     obtain⟨_,hd1⟩:=d1
     obtain⟨ov,oxs,hO⟩:=hr.blk _ _ hm
     have hvv:=hO.now
     rw[hd1] at hvv
     obtain rfl:=Option.some.inj hvv
     obtain⟨bs,hrep,_,hbs⟩:=W7 hr ag rest al [] ha us d2
     obtain rfl:bs=[]:=List.eq_nil_iff_forall_not_mem.2 fun b hb=>by
      obtain⟨i,hi,_⟩:=hbs b hb
      cases hi
     have hc:=hg ρ.w W u1 (x.ev ρ) oxs us (al.ev ρ) hr.base ⟨hO.row,hO.reps,hO.big⟩ hrep (hobs _ ho)
     have hw:CallsIn Fence.wide 0 P f (u1::us).toArray W _:=callsIn_wide.2 hc
     refine CallsIn.mono (F:=FR none) hw ?_
     rintro en W' ⟨rfl,hb,ys,hY⟩
     have hx:(X.fn s (.x x al)).ev ρ=upd (.l (x.ev ρ)::al.ev ρ):=by simp only[X.ev,AL.ev];exact hs _
     refine⟨.tuple #[],σ,rfl,⟨[],trivial,rfl⟩,⟨Ext.refl _,hb.os,hb.tape,hb.output,hb.size,fun k hk hne=>hb.block k hk (fun e=>hne id _ (by simp [Mem.get];rfl) (.inr ⟨_,_,hd1,e⟩)),fun i _ _=>rfl,fun i a h=> .inl h,fun h=>h,fun i b hi=> ?_,hb.keep⟩,fun i hi=> .inl hi⟩
     simp only[Mem.get] at hi
     split at hi
     ·rename_i e
      obtain rfl:id=i:=by simpa using e
      obtain rfl:=Option.some.inj hi
      exact⟨u1,ys,hd1,hO.last,by rw[hx];exact hY.row,fun i row hr=>hY.reps i row (by rw[hx] at hr;exact hr),by rw[hx];exact hY.big⟩
     ·cases hi
    ·exact hq.elim
   ·exact hq.elim
  ·exact hq.elim
 ·exact hq.elim
end
end Go.Proofs.YtbbjlleaofgddaaGreat
namespace Go.Proofs.YtbbjlleaofgddaaGreat
open Go.RowKit
def a4m(P:Program)(ct:Ct)(lt:Lt)(n:Nat)(f:FuncId)(args:List V)(mem:Mem)(nx:Nat):T i8:=
 T.bind (a2f nx) (match P.funcs[f]? with
 | none=> .stuck "no function"
 | some fn=>if fn.name == "runtime.NumGoroutine" then .stuck "NumGoroutine" else match fn.body with
   | none=> .stuck "no body"
   | some c=>(code P ct lt n (some (f,0)) none c { tm:=args++List.replicate (fn.ntmps-args.length) V.any,mem,nx,df:=[] }).bind fun p=>
     if p.1.isEnd&&a2b p.2.mem p.2.df then match F8 P { p.2 with mem:=v9 p.2.df++p.2.mem } fn.results.toList with
      | some l=> .ret (D4 l,J4 nx p.2.nx (D4 l) (v9 p.2.df++p.2.mem.take (p.2.mem.length-mem.length)),p.2.nx)
      | none=> .stuck "results"
     else .stuck "left")
section
variable {P:Program} {ct:Ct} {lt:Lt} {ρ:Env}
theorem b6R{n:Nat}(hcode:C9 P ρ ct lt n){f:FuncId}{args:List V}{mem:Mem}{nx:Nat}{q:i8}(hq:(a4m P ct lt n f args mem nx).res ρ q):nx≤q.2.2∧∀σ W vals,RelM ρ σ mem W→Fr nx q.2.2 σ→DL (V.den ρ σ) args vals→
 CallsIn (FR none) 0 P f vals.toArray W (A8 ρ σ W nx q):=by
 unfold a4m at hq
 obtain⟨q',h,hq⟩:=T.res_bind hq
 unfold a2f at hq
 split at hq
 ·rename_i hle
  obtain rfl:=g9 hq
  refine⟨hle,fun σ W vals hr ht hargs=> ?_⟩
  split at h
  ·exact h.elim
  ·rename_i fn hf
   split at h
   ·exact h.elim
   ·split at h
    ·exact h.elim
    ·rename_i c hb
     obtain⟨p,h1,h2⟩:=T.res_bind h
     split at h2
     ·rename_i hend
      simp only[Bool.and_eq_true] at hend
      obtain⟨hend,hok⟩:=hend
      split at h2
      ·rename_i l hl
       simp only[T.res] at h2
       subst h2
       have hlen:=hargs.length
       refine callsIn_of_wp_marks (F:=FR none) hf hb trivial ?_
       have hbeg:Beg ρ { tm:=args++List.replicate (fn.ntmps-args.length) V.any,mem,nx,df:=[] } σ { tmps:=vals.toArray++Array.replicate (fn.ntmps-vals.toArray.size) undef,defers:=[] } W:=by
        refine⟨hr,?_,rfl⟩
        simp only[Array.toList_append,Array.toList_replicate,List.size_toArray]
        rw[hlen]
        exact hargs.append (DL.replicate _ trivial)
       have hc:=hcode _ none c _ p h1 σ _ W hbeg ht (fun id e=>by simp at e)
       refine hc _ (fun a' W' σ' hfin=> ?_)
       have key:LeavesInM (FR none) 0 P fn a'.tmps (A8 ρ σ W nx (D4 l,J4 nx p.2.nx (D4 l) (v9 p.2.df++p.2.mem.take (p.2.mem.length-mem.length)),p.2.nx)) a'.defers .returning W':=by
        have hb2:=hfin.beg hr
        refine X1 (ρ:=ρ) (σ:=σ') p.2.df a'.defers p.2.mem W' hfin.df hb2.rel hok (fun W2 s hr2=> ?_)
        obtain⟨u,h3,h4⟩:=a2M (a:=a') (st:= { p.2 with mem:=v9 p.2.df++p.2.mem }) hr2 hfin.tm hl
        refine⟨u,h3,u,σ',rfl,h4,?_,hfin.new⟩
        obtain⟨ws,e,s0⟩:=hfin.step
        refine V9 ht ?_
        have e':p.2.mem.take (p.2.mem.length-mem.length)=ws:=by
         have e:p.2.mem=ws++mem:=e
         rw[e,a3k]
        rw[e']
        exact Step.trans (fun i k hi=>hr.lt i k hi) hr.inj s0 s
       cases hp:p.1 with
       | normal=>exact key
       | ret=>exact key
       | exit id=>rw[hp] at hend;simp [Ex.isEnd] at hend
       | goto l=>rw[hp] at hend;simp [Ex.isEnd] at hend
      ·exact h2.elim
     ·exact h2.elim
 ·exact hq.elim
end
theorem b4j{P:Program}{ρ:Env}{ct:Ct}{lt:Lt}(hmix:P.follows .mixedOrders=true)(hct:∀ρ',Agree 0 ρ ρ'→CtOk P ρ' ct)(hce:O1 P ct){n:Nat}{f:FuncId}{args:List V}{mem:Mem}{nx c:Nat}{tr:TT i8}(he:T.norm 0 (a4m P ct lt n f args mem nx) TT.ret=tr)
 (hlow:tr.low c=true) {K:Env→i8→Prop} (hs:tr.sat ρ K (fun _ _=>False)) {σ:As} {vals:List Value} {W:World} (hr:∀ρ',Agree c ρ ρ'→RelM ρ' σ mem W) (hfr:∀k,nx≤k→¬σ.has k) (ha:∀ρ',Agree c ρ ρ'→DL (V.den ρ' σ) args vals):
 ∃ρ' q,Agree c ρ ρ'∧K ρ' q∧nx≤q.2.2∧CallsIn (FR none) 0 P f vals.toArray W (A8 ρ' σ W nx q):=by
 obtain⟨ρ',q,h1,h2,h3⟩:=T.res_of_flat he hlow hs
 obtain⟨b1,b2⟩:=b6R (a9l hmix hce n n (Nat.le_refl _) ρ' (fun ρ2 h=>hct ρ2 ((h1.less (Nat.zero_le _)).trans h))).code h2
 exact⟨ρ',q,h1,h3,b1,b2 σ W vals (hr ρ' h1) (fun i h _=>hfr i h) (ha ρ' h1)⟩
section
variable {P:Program} {ct:Ct} {lt:Lt}
theorem b3b(I:Interp)(hmix:P.follows .mixedOrders=true)(hct:∀ρ,ρ.has I→CtOk P ρ ct)(hce:ct.all (fun p=>G0 P p.1)=true){n:Nat}{f:FuncId}{t:TypeId}{ks:List CK}{ag:List Ag}(hag:a0q ag=true){tr:TT i8}
 (he:T.norm 0 (a4m P ct lt n f ((.v (.one (.z (.own 0 (.lit 0)))))::A6 1 0 ag) [(0,.own t ks (.var 0) (.lit 0))] 1) TT.ret=tr) (hlow:tr.low 1000=true) (hsh:1+H8 ag≤1000) {ok:List D→Prop} {upd:List D→Rows}
 (hs:∀w0 r vals ds,r.length≤281474976710656→(∀row∈r,∃us,CK.reps w0 ks us row)→K3 w0 w0 ag vals ds []→ok (.l r::ds)→tr.sat (g8 I w0 (.l r::ds)) (b8Q t ks upd (.l r::ds)) (fun _ _=>False)):F2 P f t ks ag ok upd:=by
 intro w0 W v r xs vals ds hbase hO hrep hok
 have own0:∀ {i k},(As.none.say 0 0 v).own i k→i=0∧j9 v=some k:=fun h=>by
  rcases I7 h with h | h
  ·exact absurd h (y7 _ _)
  ·exact h
 have hv:∃a m c,v= .slice a m c:=by
  rcases hO.row with h | ⟨_,_,b,h⟩
  ·rcases h with ⟨_,h2⟩
   rcases h2 with ⟨h2,_⟩ | ⟨g,cap,cur,h2,_⟩
   ·exact⟨_,_,_,h2⟩
   ·exact⟨_,_,_,h2⟩
  ·exact⟨_,_,_,h⟩
 have hx:Ext As.none (As.none.say 0 0 v):=⟨fun _ _ h=>h,fun i n u h=>by cases h⟩
 obtain⟨ρ',q,h1,⟨hq1,hq2⟩,_,h5⟩:=b4j (lt:=lt) hmix (fun ρ' ha=>hct ρ' ⟨ha.fi.symm,ha.fb.symm,ha.fd.symm⟩) (L6 hce) he hlow (hs w0 r vals ds hO.big (fun row hrow=>by
  obtain⟨i,hi,rfl⟩:=List.getElem_of_mem hrow
  exact⟨_,hO.reps i _ (List.getElem?_eq_getElem hi)⟩) (P4 hag hrep) hok) (σ:=As.none.say 0 0 v) (W:=W) (vals:=v::vals)
  (fun ρ' ha=>by
   have hw:ρ'.w=w0:=by rw[←ha.w];rfl
   have hd0:ρ'.d 0=r:=by rw[←ha.d 0 (by omega)];rfl
   refine⟨fun id b h=> ?_,fun i j a h g=>by rw[(own0 h).1,(own0 g).1],fun i a h=>(hO.row.lt (own0 h).2).2,fun i a h=>by rw[hw];exact(hO.row.lt (own0 h).2).1,by rw[hw];exact hbase⟩
   simp only[Mem.get] at h
   split at h
   ·rename_i e
    obtain rfl:0=id:=by simpa using e
    obtain rfl:=Option.some.inj h
    exact⟨v,xs,As.say_self,fun u hu=>by rw[As.say_other (fun e=>by have:u=0:=e.2;have:(0:Int)<u:=hu;omega)];rfl,by rw[hw];show OwnRow _ _ _ _ _ (ρ'.d 0).length _;rw[hd0];exact hO.row,fun i row hi=>by rw[hw];exact hO.reps i row (by rw[←hd0];exact hi),by show(ρ'.d 0).length≤_;rw[hd0];exact hO.big⟩
   ·cases h)
  (fun k hk hh=>by
   rcases v8 hh with h | h
   ·exact U9 _ h
   ·omega)
  (fun ρ' ha=>⟨⟨hv,As.say_self⟩,(a4A hag (C2 (bs0:=[]) ha ag 1 0 vals [.l r] ds [] [] rfl rfl (by omega) rfl rfl hrep).1).mono (V.den_ext hx)⟩)
 refine(callsIn_wide (n:=0)).1 ?_
 have h':CallsIn Fence.wide 0 P f (v::vals).toArray W (A8 ρ' (As.none.say 0 0 v) W 1 q):=h5
 have hw:ρ'.w=w0:=by rw[←h1.w];rfl
 refine CallsIn.mono h' ?_
 rintro en W' ⟨u,σ',rfl,e1,e2,e3⟩
 have hu:u= .tuple #[]:=by
  rw[hq1] at e1
  obtain⟨vs,h,rfl⟩:=e1
  obtain rfl:=DL.nil_inv h
  rfl
 have hb:ButRow W v W':=⟨e2.os,e2.tape,e2.output,e2.size,fun k hk hne=>e2.frame k hk (fun i b hi e=>hne (own0 e).2),e2.keep⟩
 refine⟨by rw[hu],hb,?_⟩
 rcases hq2 with ⟨x,hm,hxu⟩ | ⟨hm,hxu⟩
 ·obtain⟨v2,ys,hR⟩:=e2.blk _ _ hm
  have hnow:=hR.now
  have hv2:v2=v:=by
   have:σ'.h 0 0=some v:=e2.ext.h 0 0 v As.say_self
   have hn:σ'.h 0 0=some v2:=hnow
   rw[this] at hn
   exact(Option.some.inj hn).symm
  subst hv2
  have hrow:=hR.row
  have hrows:=hR.reps
  have hbig:=hR.big
  rw[hw,hxu] at hrow
  rw[hw,hxu] at hrows
  rw[hxu] at hbig
  exact⟨ys,hrow,hrows,hbig⟩
 ·have hsame:∀k,j9 v=some k→W'.heap[k]? = W.heap[k]? := fun k hk=>e2.frame k (hO.row.lt hk).2 (fun i b hi e=>by rw[(own0 e).1,hm] at hi;cases hi)
  have hr:r=upd (.l r::ds):=hxu
  rw[←hr]
  exact⟨xs,hO.row.kept hsame,hO.reps,hO.big⟩
end
end Go.Proofs.YtbbjlleaofgddaaGreat
