/- HH, merged: TVi, Vj, Vm, Vl, Vn. -/
import Derived.Test.YtldbejmgalhdaaaGreatHG
import Derived.Test.YtldbejmgalhdaaaGreatHE
import Derived.Test.YtldbejmgalhdaaaGreatMP
set_option linter.unusedSimpArgs false
set_option linter.unusedVariables false
namespace Go.Proofs.YtldbejmgalhdaaaGreat
open Go.RowKit
def b5r:TT j6:=
(.loop 0 1000 ⟨[(0,(.lit 0))],[],[]⟩
 (.ite (.cmp .lss (.var 1000) (.len (.var 0)))
 (.ob (.tru (.cmp .leq (.lit 0) (.var 1000)))
 (.ob (.tru (.cmp .lss (.var 1000) (.len (.var 0))))
 (.ite (.cmp .eql (.rd (.var 0) (.var 1000) 0) (.var 1))
 (.ret ((.v (.one (.z (.bool (.lit true))))),[],1))
 (.next 0 ⟨[(0,(.ar .add .i64 (.var 1000) (.lit 1)))],[],[]⟩))))
 (.ret ((.v (.one (.z (.bool (.lit false))))),[],1))))
set_option maxRecDepth 100000 in
theorem c5F:T.norm 0 (call Tryz.prog c1d (Lt.of []) 100 31 (i6 0 [.one (.sl [.int .i64]),it]) [] 0) TT.ret=b5r:=by kernel_rfl
theorem c2v:b5r.low 1000=true:=by kernel_rfl
def a4H:TT j6:=
(.ite (.not (.fn 150 (.x (.var 0) (.x (.var 1) .nil))))
 (.ret ((.tup [(.one (.z (.const (.slice none 0 0)))),(.one (.z (.int .i64 (.lit 1))))]),[],1))
 (.ob (.tru (.cmp .leq (.len (.var 0)) (.lit 1000000)))
 (.loop 0 3000 ⟨[(0,(.lit 0)),(2,(.lit 0)),(0,(.lit 0))],[],[(1,.nil)]⟩
 (.ite (.cmp .lss (.var 3002) (.len (.fn 0 (.x (.var 0) (.x (.var 1) .nil)))))
 (.ob (.tru (.cmp .leq (.lit 0) (.var 3002)))
 (.ob (.tru (.cmp .lss (.var 3002) (.len (.fn 0 (.x (.var 0) (.x (.var 1) .nil))))))
 (.ob (.tru (.cmp .leq (.len (.app (.var 3001) (.app (.row (.i (.rd (.fn 0 (.x (.var 0) (.x (.var 1) .nil))) (.var 3002) 0) .nil)) .nil))) (.lit 1000000)))
 (.next 0 ⟨[(0,(.plus (.var 3000) (.lit 1))),(2,(.ar .add .i64 (.var 3002) (.lit 1))),(0,(.plus (.var 3000) (.lit 1)))],[],[(1,(.app (.var 3001) (.app (.row (.i (.rd (.fn 0 (.x (.var 0) (.x (.var 1) .nil))) (.var 3002) 0) .nil)) .nil)))]⟩))))
 (.ret ((.tup [(.one (.z (.own 3 (.var 3000)))),(.one (.z (.int .i64 (.lit 0))))]),[(3,(.own 3 [(.int .i64)] (.var 3001) (.var 3000)))],6))))))
set_option maxRecDepth 100000 in
theorem b3z:T.norm 0 (call Tryz.prog c1d (Lt.of []) 150 15 (i6 0 [o0]) [] 0) TT.ret=a4H:=by kernel_rfl
theorem b1A:a4H.low 1000=true:=by kernel_rfl
def d9i:TT j6:=
(.ite (.cmp .leq (.len (.var 0)) (.lit 16))
 (.ret ((.v (.one (.z (.bool (.cmp .leq (.len (.var 1)) (.lit 12)))))),[],1))
 (.ret ((.v (.one (.z (.bool (.lit false))))),[],1)))
def b6J(r:Rows)(n:Int):Nat→Nat→Bool
 | 0,_=>false
 | f+1,i=>decide (lg r i 0=n)||b6J r n f (i+1)
def c1v(r:Rows)(n:Int):Bool:=b6J r n r.length 0
def a6Y(ds:List D):Bool:=c1v (d9 ds 0) (c9 ds 1)
theorem d6d:GivesIf Tryz.prog 31 [.one (.sl [.int .i64]),it] (fun ds=>(d9 ds 0).length≤281474976710656) (fun ds=> .bool (a6Y ds)):=by
 refine i7 v8 (by kernel_rfl) (fun ρ h=>b1Q (Sees.of h 160) (SeesD.of h 1)) (by kernel_rfl) c5F c2v (by decide) (fun W vals ds hr hok=> ?_)
 simp only[b5r,g8,Nat.reduceBEq,Nat.reduceLT,Nat.reduceSub]
 have hO:a6Y ds=c1v (d9 ds 0) (c9 ds 1):=rfl
 rw[hO]
 clear hO hr
 generalize e0:d9 ds 0=r at*
 generalize e1:c9 ds 1=n at*
 generalize hG:c1v r n=G
 refine TT.sat_loop (fun v=>∃i:Nat,v.i 0=i∧i≤r.length∧b6J r n (r.length-i) i=G) (fun v=>r.length-(v.i 0).toNat)
  ⟨0,by simp [j7,i8,E.ev],by omega,hG⟩ (fun v hv=> ?_)
 obtain⟨i,i0,i1,i2⟩:=hv
 simp only[g8,Nat.reduceBEq,Nat.reduceLT,Nat.reduceSub,i0,e0,e1]
 refine⟨fun hc=> ?_,fun hc=> ?_⟩
 ·have hi:i<r.length:=by omega
  obtain⟨f,hf⟩:∃f,r.length-i=f+1:=⟨r.length-i-1,by omega⟩
  have hf':r.length-(i+1)=f:=by omega
  rw[hf,b6J] at i2
  rw[f8 ((i:Int)+1) (by omega) (by omega)]
  refine⟨by omega,by omega,fun a=> ?_,fun a=>⟨⟨i+1,rfl,by omega,?_⟩,by omega⟩⟩
  ·rw[←i2,decide_eq_true (p:=lg r i 0=n) a];rfl
  ·rw[hf',←i2,decide_eq_false (p:=lg r i 0=n) a];rfl
 ·have h0:r.length-i=0:=by omega
  rw[h0,b6J] at i2
  rw[←i2]
theorem d6J:k8 Tryz.prog 31 [.one (.sl [.int .i64]),it] (fun ds=> .bool (a6Y ds)):=by
 intro W vals ds hr
 refine d6d W vals ds hr ?_
 obtain⟨v,vs',d,ds',rfl,rfl,⟨x,rfl,q⟩,_⟩:=hr
 obtain⟨r,a,n,c,rfl,rfl,hl,_,hn,_⟩:=q
 show r.length≤281474976710656
 omega
def o5(r:Rows):Prop:=r.Pairwise (fun a b=>cI a 0<cI b 0)
theorem I5{r:Rows}:V9 r=true↔o5 r:=by
 unfold o5
 rw[List.pairwise_iff_getElem]
 constructor
 ·intro h i j hi hj hij
  have:=a2u h hij hj
  rwa [j8 hi,j8 hj] at this
 ·intro h
  refine b5d (fun i hi=> ?_)
  rw[j8 (by omega),j8 hi]
  exact h i (i+1) (by omega) hi (by omega)
theorem Q6{r:Rows}(hr:o5 r){n:Int}:D3 r n=true↔∃x∈r,cI x 0=n:=by
 rw[d3t (I5.mpr hr)]
 constructor
 ·rintro⟨k,hk,h⟩
  exact⟨r[k],List.getElem_mem hk,by rw[←j8 hk];exact h⟩
 ·rintro⟨x,hx,h⟩
  obtain⟨k,hk,rfl⟩:=List.getElem_of_mem hx
  exact⟨k,hk,by rw[j8 hk];exact h⟩
theorem b0Y:∀ {a b:Rows},o5 a→o5 b→(∀x,x∈a↔x∈b)→a=b
 | [],[],_,_,_=>rfl
 | [],y::b,_,_,h=>absurd ((h y).2 (List.mem_cons_self ..)) (by simp)
 | x::a,[],_,_,h=>absurd ((h x).1 (List.mem_cons_self ..)) (by simp)
 | x::a,y::b,ha,hb,h=>by
   obtain⟨a1,a2⟩:=List.pairwise_cons.1 ha
   obtain⟨b1,b2⟩:=List.pairwise_cons.1 hb
   have hxy:x=y:=by
    rcases List.mem_cons.1 ((h x).1 (List.mem_cons_self ..)) with e | e
    ·exact e
    ·rcases List.mem_cons.1 ((h y).2 (List.mem_cons_self ..)) with e' | e'
     ·exact e'.symm
     ·have:=b1 x e;have:=a1 y e';omega
   subst hxy
   congr 1
   refine b0Y a2 b2 (fun z=> ?_)
   have hz:=h z
   rw[List.mem_cons,List.mem_cons] at hz
   constructor
   ·intro hza
    rcases hz.1 (.inr hza) with e | e
    ·subst e;have:=a1 z hza;omega
    ·exact e
   ·intro hzb
    rcases hz.2 (.inr hzb) with e | e
    ·subst e;have:=b1 z hzb;omega
    ·exact e
def Y5(r:Rows)(row:List D):Rows:=r.take (y6 r (cI row 0))++row::r.drop (y6 r (cI row 0))
theorem b6H{r:Rows}{row b:List D}:b∈Y5 r row↔b=row∨b∈r:=by
 unfold Y5
 generalize y6 r (cI row 0)=k
 have h:b∈r↔b∈r.take k∨b∈r.drop k:=by rw[←List.mem_append,List.take_append_drop]
 rw[h,List.mem_append,List.mem_cons]
 constructor
 ·rintro(h | h | h)
  ·exact .inr (.inl h)
  ·exact .inl h
  ·exact .inr (.inr h)
 ·rintro(h | h | h)
  ·exact .inr (.inl h)
  ·exact .inl h
  ·exact .inr (.inr h)
theorem c9q(r:Rows)(row:List D):(Y5 r row).length=r.length+1:=by
 unfold Y5
 have:=(D0 r (cI row 0)).1
 simp only[List.length_append,List.length_take,List.length_cons,List.length_drop]
 omega
theorem c7F{r:Rows}{row:List D}(h:o5 r)(hn:∀b∈r,cI b 0≠cI row 0):o5 (Y5 r row):=by
 unfold Y5
 obtain⟨h1,h2,h3⟩:=D0 r (cI row 0)
 generalize y6 r (cI row 0)=k at*
 have lo:∀b∈r.take k,cI b 0<cI row 0:=fun b hb=>by
  obtain⟨i,hi,rfl⟩:=List.getElem_of_mem hb
  rw[List.length_take] at hi
  rw[List.getElem_take,←j8 (by omega)]
  exact h2 i (by omega)
 have hi:∀b∈r.drop k,cI row 0<cI b 0:=fun b hb=>by
  obtain⟨i,hi,rfl⟩:=List.getElem_of_mem hb
  rw[List.length_drop] at hi
  have e:=h3 (by omega)
  rw[j8 (by omega)] at e
  have hne:=hn _ (List.getElem_mem (show k+i<r.length by omega))
  rw[List.getElem_drop]
  rcases Nat.eq_zero_or_pos i with q | q
  ·subst q;simp only[Nat.add_zero] at *;omega
  ·have:=List.pairwise_iff_getElem.mp h k (k+i) (by omega) (by omega) (by omega)
   omega
 unfold o5
 rw[List.pairwise_append,List.pairwise_cons]
 refine⟨h.sublist (List.take_sublist _ _),⟨hi,h.sublist (List.drop_sublist _ _)⟩,fun a ha b hb=> ?_⟩
 rcases List.mem_cons.1 hb with e | hb
 ·subst e;exact lo a ha
 ·have:=lo a ha;have:=hi b hb;omega
def M3(F l:Rows):Rows:=l.foldl Y5 F
theorem b3o(F l:Rows)(x:List D):M3 F (l++[x])=Y5 (M3 F l) x:=by unfold M3;rw[List.foldl_append];rfl
theorem a7P(l:Rows):∀F:Rows,(M3 F l).length=F.length+l.length:=by
 induction l with
 | nil=>intro F;rfl
 | cons x l ih=>intro F;show(M3 (Y5 F x) l).length=_;rw[ih,c9q,List.length_cons];omega
theorem b4V{b:List D}(l:Rows):∀F:Rows,b∈M3 F l↔b∈F∨b∈l:=by
 induction l with
 | nil=>intro F;simp [M3]
 | cons x l ih=>
   intro F
   show b∈M3 (Y5 F x) l↔_
   rw[ih,b6H,List.mem_cons]
   constructor
   ·rintro((h | h) | h)
    ·exact .inr (.inl h)
    ·exact .inl h
    ·exact .inr (.inr h)
   ·rintro(h | h | h)
    ·exact .inl (.inr h)
    ·exact .inl (.inl h)
    ·exact .inr h
theorem a8g(l:Rows):∀F:Rows,o5 F→o5 l→(∀a∈F,∀b∈l,cI a 0≠cI b 0)→o5 (M3 F l):=by
 induction l with
 | nil=>intro F h _ _;exact h
 | cons x l ih=>
   intro F hF hl hn
   obtain⟨l1,l2⟩:=List.pairwise_cons.1 hl
   refine ih (Y5 F x) (c7F hF (fun b hb=>hn b hb x (List.mem_cons_self ..))) l2 (fun a ha b hb=> ?_)
   rcases b6H.1 ha with e | ha
   ·subst e;have:=l1 b hb;omega
   ·exact hn a ha b (List.mem_cons_of_mem _ hb)
def cR(row:List D)(j:Nat):Rows:=(row[j]?.getD (.i 0)).rows
theorem I7{r:Rows}{i:Nat}(h:i<r.length)(j:Nat):lr r i j=cR r[i] j:=by
 unfold lr w8 cR
 rw[Int.toNat_natCast,List.getElem?_eq_getElem h]
 rfl
def a9L(x:List D):Bool:=z6 (cI x 0) (cI x 1) (cI x 2) (cI x 3) (cI x 4) (cR x 5) (cI x 6) (cI x 7) (cR x 8)
def P0(x:List D):Bool:=a6H (cI x 0) (cI x 1) (cI x 2) (cI x 3) (cI x 4) (cI x 5) (cI x 6)
theorem b6n{r:Rows}:∀(f i:Nat) (last:Int),i+f≤r.length→(E6 r f i last=true↔(∀k (hk:k<r.length),i≤k→k<i+f→a9L r[k]=true∧last<cI r[k] 0)∧∀k l (hk:k<r.length) (hl:l<r.length),i≤k→k<l→l<i+f→cI r[k] 0<cI r[l] 0)
 | 0,i,last,_=>⟨fun _=>⟨fun k _ h1 h2=>by omega,fun k l _ _ h1 h2 h3=>by omega⟩,fun _=>rfl⟩
 | f+1,i,last,hf=>by
   have hi:i<r.length:=by omega
   have e:Z8 r i=a9L r[i]:=by
    unfold Z8 a9L
    simp only[j8 hi,I7 hi]
   rw[E6,Bool.and_eq_true,Bool.and_eq_true,decide_eq_true_eq,b6n f (i+1) _ (by omega),e,j8 hi]
   constructor
   ·rintro⟨⟨h1,h2⟩,h3,h4⟩
    refine⟨fun k hk g1 g2=> ?_,fun k l hk hl g1 g2 g3=> ?_⟩
    ·by_cases q:k=i
     ·subst q;exact⟨h1,h2⟩
     ·obtain⟨a,b⟩:=h3 k hk (by omega) (by omega)
      exact⟨a,by omega⟩
    ·by_cases q:k=i
     ·subst q;exact(h3 l hl (by omega) (by omega)).2
     ·exact h4 k l hk hl (by omega) g2 (by omega)
   ·rintro⟨h1,h2⟩
    refine⟨h1 i hi (by omega) (by omega),fun k hk g1 g2=>⟨(h1 k hk (by omega) (by omega)).1,h2 i k hi hk (by omega) (by omega) (by omega)⟩,fun k l hk hl g1 g2 g3=>h2 k l hk hl (by omega) g2 (by omega)⟩
theorem P4{r:Rows}:G3 r=true↔(∀x∈r,a9L x=true∧0<cI x 0)∧o5 r∧r.length≤300:=by
 unfold G3 o5
 rw[Bool.and_eq_true,decide_eq_true_eq,b6n _ _ _ (by omega),List.pairwise_iff_getElem]
 constructor
 ·rintro⟨⟨h1,h2⟩,h3⟩
  refine⟨fun x hx=> ?_,fun i j hi hj hij=>h2 i j hi hj (by omega) hij (by omega),h3⟩
  obtain⟨k,hk,rfl⟩:=List.getElem_of_mem hx
  exact h1 k hk (by omega) (by omega)
 ·rintro⟨h1,h2,h3⟩
  exact⟨⟨fun k hk _ _=>h1 _ (List.getElem_mem hk),fun k l hk hl _ h _=>h2 k l hk hl h⟩,h3⟩
theorem b4F{F r:Rows}:∀(f i:Nat) (last:Int),i+f≤r.length→(a4w F r f i last=true↔(∀k (hk:k<r.length),i≤k→k<i+f→(D3 F (cI r[k] 0)=false∧P0 r[k]=true)∧last<cI r[k] 0)∧∀k l (hk:k<r.length) (hl:l<r.length),i≤k→k<l→l<i+f→cI r[k] 0<cI r[l] 0)
 | 0,i,last,_=>⟨fun _=>⟨fun k _ h1 h2=>by omega,fun k l _ _ h1 h2 h3=>by omega⟩,fun _=>rfl⟩
 | f+1,i,last,hf=>by
   have hi:i<r.length:=by omega
   have e:a3I r i=P0 r[i]:=by
    unfold a3I P0
    simp only[j8 hi]
   rw[a4w,Bool.and_eq_true,Bool.and_eq_true,Bool.and_eq_true,decide_eq_true_eq,Bool.not_eq_true',b4F f (i+1) _ (by omega),e,j8 hi]
   constructor
   ·rintro⟨⟨h0,h1,h2⟩,h3,h4⟩
    refine⟨fun k hk g1 g2=> ?_,fun k l hk hl g1 g2 g3=> ?_⟩
    ·by_cases q:k=i
     ·subst q;exact⟨⟨h0,h1⟩,h2⟩
     ·obtain⟨a,b⟩:=h3 k hk (by omega) (by omega)
      exact⟨a,by omega⟩
    ·by_cases q:k=i
     ·subst q;exact(h3 l hl (by omega) (by omega)).2
     ·exact h4 k l hk hl (by omega) g2 (by omega)
   ·rintro⟨h1,h2⟩
    obtain⟨⟨a,b⟩,c⟩:=h1 i hi (by omega) (by omega)
    refine⟨⟨a,b,c⟩,fun k hk g1 g2=>⟨(h1 k hk (by omega) (by omega)).1,h2 i k hi hk (by omega) (by omega) (by omega)⟩,fun k l hk hl g1 g2 g3=>h2 k l hk hl (by omega) g2 (by omega)⟩
theorem z7{s F:Rows}:q9 s F=true↔(G3 F=true∧s.length+F.length≤300)∧(∀x∈s,P0 x=true∧0<cI x 0)∧o5 s∧∀x∈s,∀f∈F,cI f 0≠cI x 0:=by
 unfold q9
 rw[Bool.and_eq_true,Bool.and_eq_true,decide_eq_true_eq,b4F _ _ _ (by omega)]
 have hp:o5 s↔∀k l (hk:k<s.length) (hl:l<s.length),k<l→cI s[k] 0<cI s[l] 0:=by unfold o5;rw[List.pairwise_iff_getElem]
 rw[hp]
 constructor
 ·rintro⟨h1,h2,h3,h4⟩
  have hF:=(P4.1 h1).2.1
  refine⟨⟨h1,by omega⟩,fun x hx=> ?_,fun k l hk hl h=>h4 k l hk hl (by omega) h (by omega),fun x hx f hf e=> ?_⟩
  ·obtain⟨k,hk,rfl⟩:=List.getElem_of_mem hx
   obtain⟨⟨a,b⟩,c⟩:=h3 k hk (by omega) (by omega)
   exact⟨b,c⟩
  ·obtain⟨k,hk,rfl⟩:=List.getElem_of_mem hx
   have:=(h3 k hk (by omega) (by omega)).1.1
   rw[(Q6 hF).2 ⟨f,hf,e⟩] at this
   cases this
 ·rintro⟨⟨h1,h2⟩,h3,h4,h5⟩
  have hF:=(P4.1 h1).2.1
  refine⟨h1,by omega,fun k hk _ _=> ?_,fun k l hk hl _ h _=>h4 k l hk hl h⟩
  have hm:=List.getElem_mem hk
  refine⟨⟨?_,(h3 _ hm).1⟩,(h3 _ hm).2⟩
  cases q:D3 F (cI s[k] 0) with
  | false=>rfl
  | true=>
    obtain⟨f,hf,e⟩:=(Q6 hF).1 q
    exact absurd e (h5 _ hm f hf)
theorem R8{x:List D}(h:P0 x=true):z6 (cI x 0) 1 (cI x 1) (cI x 2) (cI x 3) [] (cI x 4) 0 []=true∧(cI x 4≤cI x 5∧cI x 5≤100000)∧0≤cI x 6∧cI x 6≤10000000:=by
 unfold P0 a6H at h
 rw[Bool.and_eq_true,decide_eq_true_eq] at h
 exact h
theorem d1v{y x:List D}(hy:P0 y=true)(hx:P0 x=true):V3 y x=true↔a5N y x=true∧a0U (cI x 1) (cI x 2) (cI x 3) (cI y 1) (cI y 2) (cI y 3)=true:=by
 have e:V3 y x=(a5N y x&&((z6 (cI y 0) 1 (cI y 1) (cI y 2) (cI y 3) [] (cI y 4) 0 []&&z6 (cI x 0) 1 (cI x 1) (cI x 2) (cI x 3) [] (cI x 4) 0 [])&&M5 1 (cI y 1) (cI y 2) (cI y 3) [] 1 (cI x 1) (cI x 2) (cI x 3) [])):=rfl
 rw[e,(R8 hy).1,(R8 hx).1,Bool.and_eq_true]
 exact Iff.rfl
theorem d3l{y x:List D}:a5N y x=true↔cI x 6<cI y 6∨(cI y 6=cI x 6∧cI x 0<cI y 0):=by unfold a5N;rw[decide_eq_true_eq]
theorem c8y{s:Rows}{x:List D}:z5 s x=false↔∀y∈s,V3 y x=false:=by
 unfold z5
 rw[List.any_eq_false]
 exact⟨fun h y hy=>by simpa using h y hy,fun h y hy=>by simp [h y hy]⟩
theorem a3H{s:Rows}{x:List D}:x∈j5 s↔x∈s∧z5 s x=false:=by
 unfold j5
 rw[List.mem_filter,Bool.not_eq_true']
theorem d2L{s:Rows}(h:o5 s):o5 (j5 s):=h.sublist (List.filter_sublist)
def c7O(ds:List D):Rows:=if I6 ds=true then(b2d ds).map fun row=>[.i (cI row 0)] else []
def C7(ds:List D):Int:=if I6 ds=true then 0 else 1
def a9A:NL:= { e:=3,ks:=[.int .i64],s:=1,rows:=c7O }
theorem d3f{ρ:Env}{σ:As}{s:S0}{k:IntKind}{e:E}{u:Value}(h:V.den ρ σ (.tup [.one (.z s),.one (.z (.int k e))]) u):∃v,S0.den ρ σ s v∧u= .tuple #[v,.int k (e.ev ρ)]:=by
 obtain⟨vs,h1,rfl⟩:=h
 obtain⟨v1,vs1,rfl,p1,h2⟩:=DL.cons_inv h1
 obtain⟨v2,vs2,rfl,p2,h3⟩:=DL.cons_inv h2
 obtain rfl:=DL.nil_inv h3
 have p2:v2= .int k (e.ev ρ):=p2
 subst p2
 exact⟨v1,p1,rfl⟩
theorem G6{ρ:Env}{m:Mem}{s:S0}{k:IntKind}{e:E}{l:NL}{ds:List D}{w0:World}{x:X}{E:Int}(h1:K3 m l.e l.ks s=some x)(h2:x.ev ρ=l.rows ds)(h3:e.ev ρ=E):
 ∃s' x,K3 m l.e l.ks s'=some x∧x.ev ρ=l.rows ds∧∀(σ:As) u,ρ.w=w0→(V.tup [.one (.z s),.one (.z (.int k e))]).den ρ σ u→∃v,s'.den ρ σ v∧u= .tuple #[v,.int k E]:=
 ⟨s,x,h1,h2,fun σ u _ hu=>by
   obtain⟨v,g1,rfl⟩:=d3f hu
   exact⟨v,g1,by rw[h3]⟩⟩
theorem d1r(W:World)(ds l:List D):(f0 v8 W ds).fb 150 l=I6 l:=by simp only[f0,v8]
theorem d0W(W:World)(ds l:List D):(f0 v8 W ds).fd 0 l=b2d l:=by simp only[f0,v8]
theorem R0(a b:Rows):I6 [.l a,.l b]=q9 a b:=rfl
theorem B3(a b:Rows):b2d [.l a,.l b]=j5 a:=rfl
theorem b4H{α β:Type}{r:List α}{i:Nat}(h:i<r.length)(f:α→β):(r.take (i+1)).map f=(r.take i).map f++[f r[i]]:=by
 rw[List.take_succ_eq_append_getElem h,List.map_append];rfl
theorem a0e(s:Rows):(j5 s).length≤s.length:=List.length_filter_le _ _
theorem c4W:B9 Tryz.prog 15 [o0] [a9A] (fun _=>True) (fun _ ds vs u=>∃v,vs=[v]∧u= .tuple #[v,.int .i64 (C7 ds)]):=by
 refine H0 v8 (by kernel_rfl) (fun ρ h=>b1Q (Sees.of h 160) (SeesD.of h 1)) (by kernel_rfl) b3z b1A (by decide) (fun w0 vals ds hr _=> ?_)
 simp only[a4H,g8,Nat.reduceBEq,Nat.reduceLT,Nat.reduceSub,d1r,d0W,R0,B3]
 have hR:a9A.rows ds=if q9 (d9 ds 0) (d9 ds 1)=true then(j5 (d9 ds 0)).map fun row=>[.i (cI row 0)] else []:=rfl
 have hE:C7 ds=if q9 (d9 ds 0) (d9 ds 1)=true then 0 else 1:=rfl
 clear hr
 generalize e0:d9 ds 0=s at*
 generalize e1:d9 ds 1=F at*
 refine⟨fun hv=> ?_,fun hv=> ?_⟩
 ·rw[hv] at hR hE
  exact G6 (x:= .nil) (by kernel_rfl) (by rw[hR];simp [X.ev]) (by rw[hE];simp [E.ev])
 ·rw[if_pos hv] at hR hE
  have hl:=a0e s
  have hok:=(z7.1 hv).1.2
  refine⟨by omega,?_⟩
  refine TT.sat_loop (fun v=>∃i:Nat,v.i 2=i∧i≤(j5 s).length∧v.d 1=((j5 s).take i).map fun row=>[.i (cI row 0)]) (fun v=>(j5 s).length-(v.i 2).toNat)
   ⟨0,by simp [j7,i8,E.ev],by omega,by simp [D4,i8,X.ev]⟩ (fun v hv=> ?_)
  obtain⟨i,i0,i1,i2⟩:=hv
  simp only[g8,Nat.reduceBEq,Nat.reduceLT,Nat.reduceSub,i0,i2,e0,e1,d0W,B3]
  refine⟨fun hc=> ?_,fun hc=> ?_⟩
  ·have hi:i<(j5 s).length:=by omega
   rw[f8 ((i:Int)+1) (by omega) (by omega)]
   refine⟨by omega,by omega,?_,⟨i+1,rfl,by omega,?_⟩,by omega⟩
   ·rw[List.length_append,List.length_map,List.length_take]
    simp only[List.length_append,List.length_cons,List.length_nil]
    omega
   ·rw[b4H hi,j8 hi,List.append_nil]
  ·have hi:i=(j5 s).length:=by omega
   refine G6 (x:= .var 3001) (by kernel_rfl) ?_ (by rw[hE];simp [E.ev])
   rw[hR]
   simp only[X.ev,B6,Nat.reduceLT,if_false,Nat.reduceSub,i2,hi,List.take_length]
def p9:Interp where
 fi n l:=match n with | 160=>C7 l | n=>v8.fi n l
 fb n l:=match n with | 160=>a6Y l | n=>v8.fb n l
 fd n l:=match n with | 1=>c7O l | n=>v8.fd n l
theorem c9M{ρ:Env}(h:SeesD ρ p9 2):SeesD ρ v8 1:=fun n l hn=>by
 rw[h n l (by omega)]
 simp only[p9]
 split<;>first | omega | rfl
theorem c0w{ρ:Env}(h:Sees ρ p9 170):Sees ρ v8 160:=h.trans (by decide) fun n l hn=>by
 refine⟨?_,?_⟩
 ·
  simp only[p9]
  split<;>first | omega | rfl
 ·
  simp only[p9]
  split<;>first | omega | rfl
def d0I:=o7 [.one (.sl [.int .i64]),it] fun al=> .ret (bV (bF 160 a6Y al))
theorem c9e{ρ:Env}(h:Sees ρ p9 170):i9 Tryz.prog ρ 31 d0I:=
 k5 d6J (fun _=>rfl) (fun al=>by simp only[iV,bV,V.s0,V.val,V2.val,S.val,S0.val,k7 (s:=160) (f:=a6Y) (fun l=>by rw[(h 160 l (by decide)).2];simp only[p9])];try rfl)
def a6t:=a9c [o0] a9A (fun _=>[]) fun al nx=> .tup [.one (.z (.own nx (.lit 0))),.one (w6 160 C7 al)]
theorem b5W{ρ:Env}(h:Sees ρ p9 170)(hd:SeesD ρ p9 2):i9 Tryz.prog ρ 15 a6t:=by
 refine a8F c4W (by decide) (fun al _=>trivial) (fun a=> ?_) (fun al nx σ' v hv=> ?_)
 ·show ρ.fd 1 a=c7O a
  rw[hd 1 _ (by decide)];simp only[p9]
 ·refine⟨[v,.int .i64 (C7 (al.ev ρ))],⟨hv,?_,trivial⟩,rfl⟩
  show Value.int .i64 (C7 (al.ev ρ))= .int .i64 ((iF 160 C7 al).ev ρ)
  rw[o6 (s:=160) (f:=C7) (fun l=>by rw[(h 160 l (by decide)).1];simp only[p9])]
def b1e:Ct:=(15,a6t)::(31,d0I)::c1d
theorem a4c{ρ:Env}(h:Sees ρ p9 170)(hd:SeesD ρ p9 2):CtOk Tryz.prog ρ b1e:= .cons (b5W h hd)<| .cons (c9e h)<|b1Q (c0w h) (c9M hd)
end Go.Proofs.YtldbejmgalhdaaaGreat
