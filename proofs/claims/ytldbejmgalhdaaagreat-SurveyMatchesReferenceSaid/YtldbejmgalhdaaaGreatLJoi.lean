/- LJoi, merged: TVz, Vz, TYa, Ya, TYb, Yb. -/
import Derived.Test.YtldbejmgalhdaaaGreatLEqu
import Derived.Test.YtldbejmgalhdaaaGreatMZ
import Derived.Test.YtldbejmgalhdaaaGreatLRep
set_option linter.unusedSimpArgs false
set_option linter.unusedVariables false
namespace Go.Proofs.YtldbejmgalhdaaaGreat
open Go.RowKit
def c7v:List Ag:=[.d a4r,.d a4r,.f 59,.f 60]
def b1k:TT j6:=
(.ob (.tru (.cmp .leq (.len (.var 0)) (.lit 1000000)))
(.loop 0 2000 ⟨[(0,(.lit 0)),(1,(.lit 0)),(0,(.lit 0))],[],[(2,(.var 0))]⟩
 (.ite (.cmp .lss (.var 2001) (.len (.var 1)))
 (.ob (.tru (.cmp .leq (.lit 0) (.var 2001)))
 (.ob (.tru (.cmp .lss (.var 2001) (.len (.var 1))))
 (.ob (.tru (.fn 136 (.x (.var 2002) .nil)))
 (.ite (.not (.fn 135 (.x (.var 2002) (.i (.rd (.var 1) (.var 2001) 0) .nil))))
 (.ob (.tru (.cmp .leq (.lit 0) (.fn 135 (.x (.var 2002) (.i (.rd (.var 1) (.var 2001) 0) .nil)))))
 (.ob (.tru (.cmp .leq (.fn 135 (.x (.var 2002) (.i (.rd (.var 1) (.var 2001) 0) .nil))) (.len (.var 2002))))
 (.ob (.tru (.cmp .lss (.len (.var 2002)) (.lit 1000000)))
 (.next 0 ⟨[(0,(.plus (.var 2000) (.lit 1))),(1,(.ar .add .i64 (.var 2001) (.lit 1))),(0,(.plus (.var 2000) (.lit 1)))],[],[(2,(.app (.app (.sub (.var 2002) (.lit 0) (.fn 135 (.x (.var 2002) (.i (.rd (.var 1) (.var 2001) 0) .nil)))) (.app (.row (.i (.rd (.var 1) (.var 2001) 0) (.i (.rd (.var 1) (.var 2001) 1) (.i (.rd (.var 1) (.var 2001) 2) (.i (.rd (.var 1) (.var 2001) 3) (.i (.rd (.var 1) (.var 2001) 4) (.i (.rd (.var 1) (.var 2001) 5) (.i (.rd (.var 1) (.var 2001) 6) .nil)))))))) .nil)) (.sub (.var 2002) (.fn 135 (.x (.var 2002) (.i (.rd (.var 1) (.var 2001) 0) .nil))) (.len (.var 2002)))))]⟩))))
 (.ob (.tru (.cmp .leq (.lit 0) (.fn 135 (.x (.var 2002) (.i (.rd (.var 1) (.var 2001) 0) .nil)))))
 (.ob (.tru (.cmp .lss (.fn 135 (.x (.var 2002) (.i (.rd (.var 1) (.var 2001) 0) .nil))) (.len (.var 2002))))
 (.ite (.not (.and (.cmp .eql (.rd (.var 2002) (.fn 135 (.x (.var 2002) (.i (.rd (.var 1) (.var 2001) 0) .nil))) 0) (.rd (.var 1) (.var 2001) 0)) (.and (.and (.cmp .eql (.rd (.var 2002) (.fn 135 (.x (.var 2002) (.i (.rd (.var 1) (.var 2001) 0) .nil))) 1) (.rd (.var 1) (.var 2001) 1)) (.cmp .eql (.rd (.var 2002) (.fn 135 (.x (.var 2002) (.i (.rd (.var 1) (.var 2001) 0) .nil))) 2) (.rd (.var 1) (.var 2001) 2))) (.and (.cmp .eql (.rd (.var 2002) (.fn 135 (.x (.var 2002) (.i (.rd (.var 1) (.var 2001) 0) .nil))) 3) (.rd (.var 1) (.var 2001) 3)) (.and (.and (.cmp .eql (.rd (.var 2002) (.fn 135 (.x (.var 2002) (.i (.rd (.var 1) (.var 2001) 0) .nil))) 4) (.rd (.var 1) (.var 2001) 4)) (.cmp .eql (.rd (.var 2002) (.fn 135 (.x (.var 2002) (.i (.rd (.var 1) (.var 2001) 0) .nil))) 5) (.rd (.var 1) (.var 2001) 5))) (.cmp .eql (.rd (.var 2002) (.fn 135 (.x (.var 2002) (.i (.rd (.var 1) (.var 2001) 0) .nil))) 6) (.rd (.var 1) (.var 2001) 6)))))))
 (.ret ((.tup [(.one (.z (.const (.slice none 0 0)))),(.one (.z (.bool (.lit false))))]),[],6))
 (.next 0 ⟨[(0,(.var 2000)),(1,(.ar .add .i64 (.var 2001) (.lit 1))),(0,(.var 2000))],[],[(2,(.var 2002))]⟩))))))))
 (.ret ((.tup [(.one (.z (.own 0 (.var 2000)))),(.one (.z (.bool (.lit true))))]),[(0,(.own 53 G7 (.var 2002) (.var 2000))),(0,(.own 53 G7 (.var 0) (.lit 0)))],6)))))
set_option maxRecDepth 100000 in
theorem c1P:T.norm 0 (call Tryz.prog c2H (Lt.of []) 150 58 (Q3 0 0 c7v) [] 0) TT.ret=b1k:=by kernel_rfl
theorem b7M:b1k.low 1000=true:=by kernel_rfl
def a7W:TT j6:=
(.loop 0 2000 ⟨[(0,(.lit 0))],[],[]⟩
 (.ite (.cmp .lss (.var 2000) (.len (.var 0)))
 (.ob (.tru (.cmp .leq (.lit 0) (.var 2000)))
 (.ob (.tru (.cmp .lss (.var 2000) (.len (.var 0))))
 (.ob (.tru (.fn 136 (.x (.var 1) .nil)))
 (.ite (.fn 135 (.x (.var 1) (.i (.rd (.var 0) (.var 2000) 0) .nil)))
 (.ret ((.v (.one (.z (.bool (.cmp .geq (.var 2000) (.lit 0)))))),[],3))
 (.next 0 ⟨[(0,(.ar .add .i64 (.var 2000) (.lit 1)))],[],[]⟩)))))
 (.ret ((.v (.one (.z (.bool (.lit false))))),[],3))))
set_option maxRecDepth 100000 in
theorem b7T:T.norm 0 (call Tryz.prog c2H (Lt.of []) 150 62 (i6 0 [a4r,B7]) [] 0) TT.ret=a7W:=by kernel_rfl
theorem b6E:a7W.low 1000=true:=by kernel_rfl
def A9(r:Rows)(n:Int):List D:=(r[y6 r n]?).getD []
theorem a4B{r:Rows}(hr:o5 r){x:List D}(hx:x∈r):A9 r (cI x 0)=x:=by
 obtain⟨k,hk,rfl⟩:=List.getElem_of_mem hx
 have:k=y6 r (cI r[k] 0):=Y7 (by omega) (fun j hj=>by
  have:=a2u (I5.2 hr) hj hk
  rw[j8 hk] at this;exact this) (fun _=>by rw[j8 hk];omega)
 unfold A9
 rw[←this,List.getElem?_eq_getElem hk];rfl
theorem a7m{r:Rows}{n:Int}(h:D3 r n=true):y6 r n<r.length:=by
 unfold D3 at h
 rw[decide_eq_true_eq] at h
 exact h.1
theorem b9U{r:Rows}{n:Int}(h:D3 r n=true)(c:Nat):lg r (y6 r n:Nat) c=cI (A9 r n) c:=by
 have hl:=a7m h
 rw[j8 hl]
 unfold A9
 rw[List.getElem?_eq_getElem hl];rfl
theorem d2D{r:Rows}{n:Int}(h:D3 r n=true)(c:Nat):lr r (y6 r n:Nat) c=cR (A9 r n) c:=by
 have hl:=a7m h
 rw[I7 hl]
 unfold A9
 rw[List.getElem?_eq_getElem hl];rfl
def a3y(a b:Rows):Rows:=b.filter fun x=> !D3 a (cI x 0)
def okJ(p:List D→List D→Bool)(a b:Rows):Bool:=b.all fun x=> !D3 a (cI x 0)||p (A9 a (cI x 0)) x
def y9(a b:Rows):Rows:=M3 a (a3y a b)
theorem b5N{a b:Rows}(ha:o5 a){x:List D}:x∈a3y a b↔x∈b∧∀y∈a,cI y 0≠cI x 0:=by
 unfold a3y
 rw[List.mem_filter,Bool.not_eq_true',←Bool.not_eq_true,Q6 ha]
 constructor
 ·rintro⟨h1,h2⟩;exact⟨h1,fun y hy e=>h2 ⟨y,hy,e⟩⟩
 ·rintro⟨h1,h2⟩;exact⟨h1,fun⟨y,hy,e⟩=>h2 y hy e⟩
theorem a6L{a b:Rows}(ha:o5 a){x:List D}:x∈y9 a b↔x∈a∨(x∈b∧∀y∈a,cI y 0≠cI x 0):=by
 unfold y9
 rw[b4V,b5N ha]
theorem b9D{a b:Rows}(ha:o5 a)(hb:o5 b):o5 (y9 a b):=
 a8g _ a ha (hb.sublist List.filter_sublist) (fun y hy x hx=>((b5N ha).1 hx).2 y hy)
theorem c5l{a b:Rows}{j:Nat}(hj:j<b.length):a3y a (b.take (j+1))=a3y a (b.take j)++if D3 a (cI b[j] 0)=true then [] else [b[j]]:=by
 unfold a3y
 rw[List.take_succ_eq_append_getElem hj,List.filter_append]
 congr 1
 by_cases h:D3 a (cI b[j] 0)=true
 ·rw[if_pos h];simp [h]
 ·rw[if_neg h];simp [h]
theorem b2L{a b:Rows}(ha:o5 a)(hb:o5 b){j:Nat}(hj:j<b.length){out:Rows}(ho:out=y9 a (b.take j)):
 o5 out∧out.length≤a.length+b.length∧D3 out (cI b[j] 0)=D3 a (cI b[j] 0)∧(D3 a (cI b[j] 0)=true→A9 out (cI b[j] 0)=A9 a (cI b[j] 0)∧out=y9 a (b.take (j+1)))∧(D3 a (cI b[j] 0)=false→Y5 out b[j]=y9 a (b.take (j+1))):=by
 subst ho
 have hbt:o5 (b.take j):=hb.sublist (List.take_sublist _ _)
 have hro:=b9D ha hbt
 have hlt:∀x∈b.take j,cI x 0<cI b[j] 0:=fun x hx=>by
  obtain⟨k,hk,rfl⟩:=List.getElem_of_mem hx
  rw[List.length_take] at hk
  rw[List.getElem_take]
  exact List.pairwise_iff_getElem.mp hb k j (by omega) hj (by omega)
 have his:D3 (y9 a (b.take j)) (cI b[j] 0)=D3 a (cI b[j] 0):=by
  rw[Bool.eq_iff_iff,Q6 hro,Q6 ha]
  constructor
  ·rintro⟨x,hx,e⟩
   rcases(a6L ha).1 hx with h | ⟨h,_⟩
   ·exact⟨x,h,e⟩
   ·have:=hlt x h;omega
  ·rintro⟨x,hx,e⟩
   exact⟨x,(a6L ha).2 (.inl hx),e⟩
 have hnt:=c5l (a:=a) hj
 refine⟨hro,?_,his,fun h=>⟨?_,?_⟩,fun h=> ?_⟩
 ·unfold y9
  rw[a7P]
  have h1:(a3y a (b.take j)).length≤(b.take j).length:=List.length_filter_le _ _
  rw[List.length_take] at h1
  omega
 ·obtain⟨y,hy,e⟩:=(Q6 ha).1 h
  rw[←e,a4B ha hy,a4B hro ((a6L ha).2 (.inl hy))]
 ·unfold y9
  rw[hnt,if_pos h,List.append_nil]
 ·unfold y9
  rw[hnt,if_neg (by rw[h];decide),b3o]
theorem b3e{p:List D→List D→Bool}{a b:Rows}{j:Nat}(hj:j<b.length)(h:D3 a (cI b[j] 0)=true)(hp:p (A9 a (cI b[j] 0)) b[j]=false):okJ p a b=false:=by
 unfold okJ
 rw[List.all_eq_false]
 exact⟨b[j],List.getElem_mem hj,by rw[h,hp];decide⟩
theorem b5P{p:List D→List D→Bool}{a b:Rows}(h:∀(k:Nat) (hk:k<b.length),D3 a (cI b[k] 0)=true→p (A9 a (cI b[k] 0)) b[k]=true):okJ p a b=true:=by
 unfold okJ
 rw[List.all_eq_true]
 intro x hx
 obtain⟨k,hk,rfl⟩:=List.getElem_of_mem hx
 cases q:D3 a (cI b[k] 0) with
 | false=>rfl
 | true=>rw[h k hk q];rfl
def V7(y x:List D):Bool:=decide (cI y 0=cI x 0∧(cI y 1=cI x 1∧cI y 2=cI x 2)∧cI y 3=cI x 3∧(cI y 4=cI x 4∧cI y 5=cI x 5)∧cI y 6=cI x 6)
def jsO(ds:List D):Bool:=(V9 (d9 ds 0)&&V9 (d9 ds 1))&&decide ((d9 ds 0).length+(d9 ds 1).length≤1000)
def jsK(ds:List D):Bool:=okJ V7 (d9 ds 0) (d9 ds 1)
def jsR(ds:List D):Rows:=if jsK ds=true then y9 (d9 ds 0) (d9 ds 1) else []
def c7S:NL:= { e:=53,ks:=G7,s:=4,rows:=jsR }
theorem c7K{ρ:Env}{σ:As}{s:S0}{e:B}{u:Value}(h:V.den ρ σ (.tup [.one (.z s),.one (.z (.bool e))]) u):∃v,S0.den ρ σ s v∧u= .tuple #[v,.bool (e.ev ρ)]:=by
 obtain⟨vs,h1,rfl⟩:=h
 obtain⟨v1,vs1,rfl,p1,h2⟩:=DL.cons_inv h1
 obtain⟨v2,vs2,rfl,p2,h3⟩:=DL.cons_inv h2
 obtain rfl:=DL.nil_inv h3
 have p2:v2= .bool (e.ev ρ):=p2
 subst p2
 exact⟨v1,p1,rfl⟩
theorem b2z{ρ:Env}{m:Mem}{s:S0}{e:B}{l:NL}{ds:List D}{w0:World}{x:X}{E:Bool}(h1:K3 m l.e l.ks s=some x)(h2:x.ev ρ=l.rows ds)(h3:e.ev ρ=E):
 ∃s' x,K3 m l.e l.ks s'=some x∧x.ev ρ=l.rows ds∧∀(σ:As) u,ρ.w=w0→(V.tup [.one (.z s),.one (.z (.bool e))]).den ρ σ u→∃v,s'.den ρ σ v∧u= .tuple #[v,.bool E]:=
 ⟨s,x,h1,h2,fun σ u _ hu=>by
   obtain⟨v,g1,rfl⟩:=c7K hu
   exact⟨v,g1,by rw[h3]⟩⟩
theorem a5s{w:World}{v:Value}{r:Rows}(h:CK.rep w (.sl G7) v (.l r)):∀row∈r,V8 row:=by
 rw[y7] at h
 obtain⟨r',e,a,n,c,_,hs,_⟩:=h
 cases e
 intro row hrow
 obtain⟨i,hi,rfl⟩:=List.getElem_of_mem hrow
 obtain⟨b,hb⟩:=Option.isSome_iff_exists.1 (hs.there (by have:=hs.len;have:i<r.length:=hi;omega))
 obtain⟨vs,g1,_⟩:=hs.cell b hb i r[i] (List.getElem?_eq_getElem hi)
 exact b3b g1
theorem c0E(W:World)(ds l:List D):(f0 y3 W ds).fb 135 l=isL l:=by simp only[f0,y3,B1,t6,p9,v8,t7]
set_option maxHeartbeats 1000000 in
theorem d4q:b0E Tryz.prog 58 c7v [c7S] (fun ds=>jsO ds=true) (fun _ ds vs u=>∃v,vs=[v]∧u= .tuple #[v,.bool (jsK ds)]):=by
 refine b8D y3 (by kernel_rfl) (fun ρ h=>b1p (Sees.of h 200) (SeesD.of h 4)) (by kernel_rfl) rfl c1P b7M (by decide) (fun w0 vals ds hr hok=> ?_)
 have h7:∀row∈d9 ds 1,V8 row:=by
  obtain⟨v0,vs0,d0,ds0,rfl,rfl,⟨x0,rfl,g0⟩,v1,vs1,d1,ds1,rfl,rfl,⟨x1,rfl,g1⟩,_⟩:=hr
  have g1':=g1
  rw[y7] at g1'
  obtain⟨r,rfl,_⟩:=g1'
  exact a5s g1
 simp only[b1k,g8,Nat.reduceBEq,Nat.reduceLT,Nat.reduceSub]
 have hR:c7S.rows ds=if okJ V7 (d9 ds 0) (d9 ds 1)=true then y9 (d9 ds 0) (d9 ds 1) else []:=rfl
 have hK:jsK ds=okJ V7 (d9 ds 0) (d9 ds 1):=rfl
 rw[hK]
 simp only[jsO,Bool.and_eq_true,decide_eq_true_eq,I5] at hok
 obtain⟨⟨ha,hb⟩,hl⟩:=hok
 clear hr hK
 generalize e0:d9 ds 0=a at*
 generalize e1:d9 ds 1=b at*
 refine⟨by omega,?_⟩
 refine TT.sat_loop (fun v=>∃j:Nat,v.i 1=j∧j≤b.length∧v.d 2=y9 a (b.take j)∧∀(k:Nat) (hk:k<b.length),k<j→D3 a (cI b[k] 0)=true→V7 (A9 a (cI b[k] 0)) b[k]=true) (fun v=>b.length-(v.i 1).toNat)
  ⟨0,by simp [j7,i8,E.ev],by omega,by simp [D4,i8,X.ev,J8,e0,y9,a3y,M3],fun k hk h=>by omega⟩ (fun v hv=> ?_)
 obtain⟨j,j0,j1,j2,j3⟩:=hv
 simp only[g8,Nat.reduceBEq,Nat.reduceLT,Nat.reduceSub,j0,e0,e1,b9m,c0E,d1L,b2f,a0H,a8O]
 refine⟨fun hc=> ?_,fun hc=> ?_⟩
 ·have hj:j<b.length:=by omega
  obtain⟨s1,s2,s3,s4,s5⟩:=b2L ha hb hj j2
  have hw1:IntKind.i64.wrap ((j:Int)+1)=((j+1:Nat):Int):=by rw[f8 _ (by omega) (by omega)];rfl
  have hm:b.length-(((j+1:Nat):Int)).toNat<b.length-(j:Int).toNat:=by omega
  have hlo:=(D0 (v.d 2) (cI b[j] 0)).1
  have hins:=a8t (v.d 2) b[j]
  have h7j:=h7 _ (List.getElem_mem hj)
  simp only[hw1,j8 hj,s3]
  have NX:∀(h:D3 a (cI b[j] 0)=true→V7 (A9 a (cI b[j] 0)) b[j]=true),∀(k:Nat) (hk:k<b.length),k<j+1→D3 a (cI b[k] 0)=true→V7 (A9 a (cI b[k] 0)) b[k]=true:=fun h k hk hkj=>by
   by_cases e:k=j
   ·subst e;exact h
   ·exact j3 k hk (by omega)
  refine⟨by omega,by omega,I5.2 s1,fun hB=>⟨by omega,by omega,by omega,⟨j+1,rfl,by omega,?_,NX (fun h=>by rw[hB] at h;cases h)⟩,hm⟩,fun hB=> ?_⟩
  ·rw[←s5 hB,←hins]
   congr 2
   rw[List.append_nil,List.append_nil]
   congr 1
   exact h7j.symm
  ·have hBo:D3 (v.d 2) (cI b[j] 0)=true:=by rw[s3];exact hB
   have hlt:=a7m hBo
   obtain⟨s6,s7⟩:=s4 hB
   simp only[b9U hBo,s6]
   have hEq:V7 (A9 a (cI b[j] 0)) b[j]=decide (cI (A9 a (cI b[j] 0)) 0=cI b[j] 0∧(cI (A9 a (cI b[j] 0)) 1=cI b[j] 1∧cI (A9 a (cI b[j] 0)) 2=cI b[j] 2)∧cI (A9 a (cI b[j] 0)) 3=cI b[j] 3∧(cI (A9 a (cI b[j] 0)) 4=cI b[j] 4∧cI (A9 a (cI b[j] 0)) 5=cI b[j] 5)∧cI (A9 a (cI b[j] 0)) 6=cI b[j] 6):=rfl
   refine⟨by omega,by omega,fun hne=> ?_,fun he=>⟨⟨j+1,rfl,by omega,s7,NX (fun _=> ?_)⟩,hm⟩⟩
   ·have hf:okJ V7 a b=false:=b3e hj hB (by rw[hEq,decide_eq_false];simpa using hne)
    rw[hf] at hR
    exact b2z (x:= .nil) (by kernel_rfl) (by rw[hR];simp [X.ev]) (by rw[hf];simp [B.ev])
   ·rw[hEq,decide_eq_true];simpa using he
 ·have hj:j=b.length:=by omega
  have ht:okJ V7 a b=true:=b5P (fun k hk=>j3 k hk (by omega))
  rw[ht,if_pos rfl] at hR
  refine b2z (x:= .var 2002) (by kernel_rfl) ?_ (by rw[ht];simp [B.ev])
  rw[hR]
  simp only[X.ev,B6,Nat.reduceLT,if_false,Nat.reduceSub,j2,hj,List.take_length]
def a2x(s F:Rows):Bool:=s.any fun x=>D3 F (cI x 0)
def b6K(ds:List D):Bool:=a2x (d9 ds 0) (d9 ds 1)
theorem d2f:GivesIf Tryz.prog 62 [a4r,B7] (fun ds=>V9 (d9 ds 1)=true) (fun ds=> .bool (b6K ds)):=by
 refine i7 y3 (by kernel_rfl) (fun ρ h=>b1p (Sees.of h 200) (SeesD.of h 4)) (by kernel_rfl) b7T b6E (by decide) (fun W vals ds hr hok=> ?_)
 have hl:=a7g hr
 simp only[a7W,g8,Nat.reduceBEq,Nat.reduceLT,Nat.reduceSub]
 have hK:b6K ds=a2x (d9 ds 0) (d9 ds 1):=rfl
 rw[hK]
 clear hr hK
 generalize e0:d9 ds 0=a at*
 generalize e1:d9 ds 1=b at*
 refine TT.sat_loop (fun v=>∃i:Nat,v.i 0=i∧i≤a.length∧∀(k:Nat) (hk:k<a.length),k<i→D3 b (cI a[k] 0)=false) (fun v=>a.length-(v.i 0).toNat) ⟨0,by simp [j7,i8,E.ev],by omega,fun k hk h=>by omega⟩ (fun v hv=> ?_)
 obtain⟨i,i0,i1,i2⟩:=hv
 simp only[g8,Nat.reduceBEq,Nat.reduceLT,Nat.reduceSub,i0,e0,e1,b9m,c0E,a0H,a8O]
 refine⟨fun hc=> ?_,fun hc=> ?_⟩
 ·have hi:i<a.length:=by omega
  rw[f8 ((i:Int)+1) (by omega) (by omega),j8 hi]
  refine⟨by omega,by omega,hok,fun h=> ?_,fun h=>⟨⟨i+1,rfl,by omega,fun k hk hki=> ?_⟩,by omega⟩⟩
  ·have:a2x a b=true:=by
    unfold a2x
    rw[List.any_eq_true]
    exact⟨_,List.getElem_mem hi,h⟩
   rw[this]
   simp [u7]
  ·by_cases e:k=i
   ·subst e;exact h
   ·exact i2 k hk (by omega)
 ·have:a2x a b=false:=by
   unfold a2x
   rw[List.any_eq_false]
   intro x hx
   obtain⟨k,hk,rfl⟩:=List.getElem_of_mem hx
   rw[i2 k hk (by omega)];decide
  rw[this]
def u5:Interp where
 fi n l:=y3.fi n l
 fb n l:=match n with | 200=>jsK l | 201=>b6K l | n=>y3.fb n l
 fd n l:=match n with | 4=>jsR l | n=>y3.fd n l
theorem c7D{ρ:Env}(h:SeesD ρ u5 5):SeesD ρ y3 4:=fun n l hn=>by
 rw[h n l (by omega)]
 simp only[u5]
 split<;>first | omega | rfl
theorem a4d{ρ:Env}(h:Sees ρ u5 210):Sees ρ y3 200:=h.trans (by decide) fun n l hn=>by
 refine⟨?_,?_⟩
 ·
  rfl
 ·
  simp only[u5]
  split<;>first | omega | rfl
def c9Y(al:AL):List Ob:=match al with
 | .x a (.x b .nil)=>[.tru (.fn 136 (.x a .nil)),.tru (.fn 136 (.x b .nil)),.tru (.cmp .leq (.plus (.len a) (.len b)) (.lit 1000))]
 | _=>[.tru (.lit false)]
def c5P:=b5Y c7v c7S c9Y fun al nx=> .tup [.one (.z (.own nx (.lit 0))),.one (.z (.bool (.fn 200 al)))]
theorem b9z{ρ:Env}(h:Sees ρ u5 210)(a:X):(B.fn 136 (.x a .nil)).ev ρ=V9 (a.ev ρ):=by
 simp only[B.ev,AL.ev]
 rw[(h 136 _ (by decide)).2]
 simp only[u5,y3,B1,t6,p9,v8,t7]
 rfl
theorem c4l{ρ:Env}(h:Sees ρ u5 210)(hd:SeesD ρ u5 5):i9 Tryz.prog ρ 58 c5P:=by
 refine c5X d4q (by decide) (fun al ho=> ?_) (fun a=> ?_) (fun al nx σ' v hv=> ?_)
 ·unfold c9Y at ho
  split at ho
  ·rename_i a b
   have o1:=ho _ (List.mem_cons_self ..)
   have o2:=ho _ (List.mem_cons_of_mem _ (List.mem_cons_self ..))
   have o3:=ho _ (List.mem_cons_of_mem _ (List.mem_cons_of_mem _ (List.mem_cons_self ..)))
   simp only[Ob.ok,b9z h] at o1 o2
   simp only[Ob.ok,B.ev,E.ev,x7,p6] at o3
   have e:jsO ((AL.x a (.x b .nil)).ev ρ)=((V9 (a.ev ρ)&&V9 (b.ev ρ))&&decide ((a.ev ρ).length+(b.ev ρ).length≤1000)):=rfl
   rw[e,o1,o2,decide_eq_true (by omega)];rfl
  ·have:=ho _ (List.mem_singleton.2 rfl)
   simp [Ob.ok,B.ev] at this
 ·show ρ.fd 4 a=jsR a
  rw[hd 4 _ (by decide)];simp only[u5]
 ·refine⟨[v,.bool (jsK (al.ev ρ))],⟨hv,?_,trivial⟩,rfl⟩
  show Value.bool (jsK (al.ev ρ))= .bool ((B.fn 200 al).ev ρ)
  simp only[B.ev]
  rw[(h 200 _ (by decide)).2];simp only[u5]
def d0r(al:AL):T V:=match al with
 | .x a (.x b .nil)=> .ob (.tru (.fn 136 (.x b .nil))) (.ret (bV (.fn 201 (.x a (.x b .nil)))))
 | _=> .stuck "shared"
def b8S:=o7 [a4r,B7] d0r
theorem c3t{ρ:Env}(h:Sees ρ u5 210):i9 Tryz.prog ρ 62 b8S:=by
 refine A0 d2f (fun al v hv=> ?_)
 unfold d0r at hv
 split at hv
 ·rename_i a b
  obtain⟨ho,hv⟩:=hv
  obtain rfl:=g7 hv
  simp only[Ob.ok,b9z h] at ho
  refine⟨rfl,ho,?_⟩
  show Value.bool ((B.fn 201 (.x a (.x b .nil))).ev ρ)=_
  simp only[B.ev]
  rw[(h 201 _ (by decide)).2];simp only[u5]
 ·exact hv.elim
def b1U:Ct:=(58,c5P)::(62,b8S)::c2H
theorem b1t{ρ:Env}(h:Sees ρ u5 210)(hd:SeesD ρ u5 5):CtOk Tryz.prog ρ b1U:= .cons (c4l h hd)<| .cons (c3t h)<|b1p (a4d h) (c7D hd)
def b0p:TT j6:=
(.ite (.not (.fn 150 (.x (.var 0) (.x (.var 1) .nil))))
 (.ret ((.tup [(.agg [(.z (.const (.slice none 0 0))),(.z (.const (.slice none 0 0)))]),(.one (.z (.int .i64 (.lit 1))))]),[],3))
 (.ite (.not (.fn 150 (.x (.var 2) (.x (.var 3) .nil))))
 (.ret ((.tup [(.agg [(.z (.const (.slice none 0 0))),(.z (.const (.slice none 0 0)))]),(.one (.z (.int .i64 (.lit 1))))]),[],3))
 (.ob (.tru (.fn 136 (.x (.var 0) .nil)))
 (.ob (.tru (.fn 136 (.x (.var 2) .nil)))
 (.ob (.tru (.cmp .leq (.plus (.len (.var 0)) (.len (.var 2))) (.lit 1000)))
 (.ob (.tru (.cmp .leq (.len (.var 1)) (.lit 1000000)))
 (.loop 0 6000 ⟨[(0,(.lit 0)),(1,(.lit 0)),(0,(.lit 0))],[],[(2,(.var 1))]⟩
 (.ite (.cmp .lss (.var 6001) (.len (.var 3)))
 (.ob (.tru (.cmp .leq (.lit 0) (.var 6001)))
 (.ob (.tru (.cmp .lss (.var 6001) (.len (.var 3))))
 (.ob (.tru (.fn 136 (.x (.var 6002) .nil)))
 (.ite (.not (.fn 135 (.x (.var 6002) (.i (.rd (.var 3) (.var 6001) 0) .nil))))
 (.ob (.tru (.cmp .leq (.lit 0) (.fn 135 (.x (.var 6002) (.i (.rd (.var 3) (.var 6001) 0) .nil)))))
 (.ob (.tru (.cmp .leq (.fn 135 (.x (.var 6002) (.i (.rd (.var 3) (.var 6001) 0) .nil))) (.len (.var 6002))))
 (.ob (.tru (.cmp .lss (.len (.var 6002)) (.lit 1000000)))
 (.next 0 ⟨[(0,(.plus (.var 6000) (.lit 1))),(1,(.ar .add .i64 (.var 6001) (.lit 1))),(0,(.plus (.var 6000) (.lit 1)))],[],[(2,(.app (.app (.sub (.var 6002) (.lit 0) (.fn 135 (.x (.var 6002) (.i (.rd (.var 3) (.var 6001) 0) .nil)))) (.app (.row (.i (.rd (.var 3) (.var 6001) 0) (.i (.rd (.var 3) (.var 6001) 1) (.i (.rd (.var 3) (.var 6001) 2) (.i (.rd (.var 3) (.var 6001) 3) (.i (.rd (.var 3) (.var 6001) 4) (.x (.rd (.var 3) (.var 6001) 5) (.i (.rd (.var 3) (.var 6001) 6) (.i (.rd (.var 3) (.var 6001) 7) (.x (.rd (.var 3) (.var 6001) 8) .nil)))))))))) .nil)) (.sub (.var 6002) (.fn 135 (.x (.var 6002) (.i (.rd (.var 3) (.var 6001) 0) .nil))) (.len (.var 6002)))))]⟩))))
 (.ob (.tru (.cmp .leq (.lit 0) (.fn 135 (.x (.var 6002) (.i (.rd (.var 3) (.var 6001) 0) .nil)))))
 (.ob (.tru (.cmp .lss (.fn 135 (.x (.var 6002) (.i (.rd (.var 3) (.var 6001) 0) .nil))) (.len (.var 6002))))
 (.ite (.not (.fn 129 (.i (.rd (.var 6002) (.fn 135 (.x (.var 6002) (.i (.rd (.var 3) (.var 6001) 0) .nil))) 0) (.i (.rd (.var 6002) (.fn 135 (.x (.var 6002) (.i (.rd (.var 3) (.var 6001) 0) .nil))) 1) (.i (.rd (.var 6002) (.fn 135 (.x (.var 6002) (.i (.rd (.var 3) (.var 6001) 0) .nil))) 2) (.i (.rd (.var 6002) (.fn 135 (.x (.var 6002) (.i (.rd (.var 3) (.var 6001) 0) .nil))) 3) (.i (.rd (.var 6002) (.fn 135 (.x (.var 6002) (.i (.rd (.var 3) (.var 6001) 0) .nil))) 4) (.x (.rd (.var 6002) (.fn 135 (.x (.var 6002) (.i (.rd (.var 3) (.var 6001) 0) .nil))) 5) (.i (.rd (.var 6002) (.fn 135 (.x (.var 6002) (.i (.rd (.var 3) (.var 6001) 0) .nil))) 6) (.i (.rd (.var 6002) (.fn 135 (.x (.var 6002) (.i (.rd (.var 3) (.var 6001) 0) .nil))) 7) (.x (.rd (.var 6002) (.fn 135 (.x (.var 6002) (.i (.rd (.var 3) (.var 6001) 0) .nil))) 8) (.i (.rd (.var 3) (.var 6001) 0) (.i (.rd (.var 3) (.var 6001) 1) (.i (.rd (.var 3) (.var 6001) 2) (.i (.rd (.var 3) (.var 6001) 3) (.i (.rd (.var 3) (.var 6001) 4) (.x (.rd (.var 3) (.var 6001) 5) (.i (.rd (.var 3) (.var 6001) 6) (.i (.rd (.var 3) (.var 6001) 7) (.x (.rd (.var 3) (.var 6001) 8) .nil))))))))))))))))))))
 (.ite (.not (.fn 200 (.x (.var 0) (.x (.var 2) .nil))))
 (.ret ((.tup [(.agg [(.z (.const (.slice none 0 0))),(.z (.const (.slice none 0 0)))]),(.one (.z (.int .i64 (.lit 18))))]),[],9))
 (.ret ((.tup [(.agg [(.z (.const (.slice none 0 0))),(.z (.const (.slice none 0 0)))]),(.one (.z (.int .i64 (.lit 18))))]),[],9)))
 (.next 0 ⟨[(0,(.var 6000)),(1,(.ar .add .i64 (.var 6001) (.lit 1))),(0,(.var 6000))],[],[(2,(.var 6002))]⟩))))))))
 (.ite (.not (.fn 200 (.x (.var 0) (.x (.var 2) .nil))))
 (.ret ((.tup [(.agg [(.z (.const (.slice none 0 0))),(.z (.const (.slice none 0 0)))]),(.one (.z (.int .i64 (.lit 18))))]),[],9))
 (.ob (.tru (.fn 136 (.x (.var 3) .nil)))
 (.ite (.fn 201 (.x (.var 0) (.x (.var 3) .nil)))
 (.ret ((.tup [(.agg [(.z (.const (.slice none 0 0))),(.z (.const (.slice none 0 0)))]),(.one (.z (.int .i64 (.lit 18))))]),[],9))
 (.ob (.tru (.fn 136 (.x (.var 1) .nil)))
 (.ite (.fn 201 (.x (.var 2) (.x (.var 1) .nil)))
 (.ret ((.tup [(.agg [(.z (.const (.slice none 0 0))),(.z (.const (.slice none 0 0)))]),(.one (.z (.int .i64 (.lit 18))))]),[],9))
 (.ite (.cmp .gtr (.ar .add .i64 (.len (.fn 4 (.x (.var 0) (.x (.var 2) .nil)))) (.len (.var 6002))) (.lit 300))
 (.ret ((.tup [(.agg [(.z (.const (.slice none 0 0))),(.z (.const (.slice none 0 0)))]),(.one (.z (.int .i64 (.lit 2))))]),[],9))
 (.ret ((.tup [(.agg [(.z (.own 3 (.lit 0))),(.z (.own 4 (.var 6000)))]),(.one (.z (.int .i64 (.lit 0))))]),[(4,(.own 59 r6 (.var 6002) (.var 6000))),(3,(.own 53 G7 (.fn 4 (.x (.var 0) (.x (.var 2) .nil))) (.lit 0))),(4,(.own 59 r6 (.var 1) (.lit 0))),(3,(.own 53 G7 (.fn 4 (.x (.var 0) (.x (.var 2) .nil))) (.lit 0)))],9))))))))))))))))
set_option maxRecDepth 100000 in
theorem c2I:T.norm 0 (call Tryz.prog b1U (Lt.of []) 150 28 (i6 0 [o0,o0]) [] 0) TT.ret=b0p:=by kernel_rfl
theorem b7U:b0p.low 1000=true:=by kernel_rfl
theorem c4k{W:World}{vals:List Value}{ds:List D}{sh:List Sh}(h:A4 W (o0::o0::sh) vals ds):(∀row∈d9 ds 0,V8 row)∧(∀row∈d9 ds 1,a0D row)∧(∀row∈d9 ds 2,V8 row)∧∀row∈d9 ds 3,a0D row:=by
 refine⟨a0G h,a1p h,?_⟩
 obtain⟨v,vs',d,ds',rfl,rfl,⟨us,rfl,h0⟩,h⟩:=h
 have e1:d.length=2:=(u9 h0).2
 have e:∀k,d9 (d++ds') (k+2)=d9 ds' k:=fun k=>by
  unfold d9
  rw[List.getD_eq_getElem?_getD,List.getD_eq_getElem?_getD,List.getElem?_append_right (by omega),e1,Nat.add_sub_cancel]
 rw[e 0,e 1]
 exact⟨a0G h,a1p h⟩
def T8(s F t G:Rows):Bool:= !(okJ V7 s t&&(okJ L3 F G&&(!a2x s G&& !a2x t F)))
def J4(s F t G:Rows):Int:=if (q9 s F&&q9 t G)=true then(if T8 s F t G=true then 18 else if ((y9 s t).length:Int)+(y9 F G).length>300 then 2 else 0) else 1
def mgE(ds:List D):Int:=J4 (d9 ds 0) (d9 ds 1) (d9 ds 2) (d9 ds 3)
def mgS(ds:List D):Rows:=if mgE ds=0 then y9 (d9 ds 0) (d9 ds 2) else []
def mgF(ds:List D):Rows:=if mgE ds=0 then y9 (d9 ds 1) (d9 ds 3) else []
def b0k:NL:= { e:=53,ks:=G7,s:=5,rows:=mgS }
def b0K:NL:= { e:=59,ks:=r6,s:=6,rows:=mgF }
theorem c3I{ρ:Env}{q:j6}{l1 l2:NL}{ds:List D}{s1 s2:S0}{x1 x2:X}(h1:U2 q.2.1 l1.e l1.ks s1=some x1)(e1:x1.ev ρ=l1.rows ds)(h2:U2 q.2.1 l2.e l2.ks s2=some x2)(e2:x2.ev ρ=l2.rows ds)
 (hne:∀id v v',s1= .own id v→s2= .own id v'→False):LsAre ρ q [l1,l2] ds [s1,s2]:=by
 refine⟨rfl,fun k l s hk hs=> ?_,fun i j id v v' hi hj=> ?_⟩
 ·match k,hk,hs with
  | 0,hk,hs=>
    simp only[List.getElem?_cons_zero,Option.some.injEq] at hk hs
    subst hk hs
    exact⟨x1,h1,e1⟩
  | 1,hk,hs=>
    simp only[List.getElem?_cons_succ,List.getElem?_cons_zero,Option.some.injEq] at hk hs
    subst hk hs
    exact⟨x2,h2,e2⟩
  | k+2,hk,hs=>simp at hk
 ·match i,j,hi,hj with
  | 0,0,_,_=>rfl
  | 1,1,_,_=>rfl
  | 0,1,hi,hj=>
    simp only[List.getElem?_cons_succ,List.getElem?_cons_zero,Option.some.injEq] at hi hj
    exact(hne id v v' hi hj).elim
  | 1,0,hi,hj=>
    simp only[List.getElem?_cons_succ,List.getElem?_cons_zero,Option.some.injEq] at hi hj
    exact(hne id v' v hj hi).elim
  | i+2,_,hi,_=>simp at hi
  | 0,j+2,_,hj=>simp at hj
  | 1,j+2,_,hj=>simp at hj
def c1X(_w0:World)(ds:List D)(vs:List Value)(u:Value):Prop:=∃a b,vs=[a,b]∧u= .tuple #[.agg #[a,b],.int .i64 (mgE ds)]
theorem d6i{ρ:Env}{σ:As}{s1 s2:S0}{e:E}{u:Value}(h:V.den ρ σ (.tup [.agg [.z s1,.z s2],.one (.z (.int .i64 e))]) u):∃v1 v2,S0.den ρ σ s1 v1∧S0.den ρ σ s2 v2∧u= .tuple #[.agg #[v1,v2],.int .i64 (e.ev ρ)]:=by
 obtain⟨vs,h,rfl⟩:=h
 obtain⟨w1,vs,rfl,h1,h⟩:=DL.cons_inv h
 obtain⟨w4,vs,rfl,h4,h⟩:=DL.cons_inv h
 obtain rfl:=DL.nil_inv h
 obtain rfl:w4= .int .i64 (e.ev ρ):=h4
 obtain⟨us,h1,rfl⟩:=h1
 obtain⟨v1,us,rfl,g1,h1⟩:=DL.cons_inv h1
 obtain⟨v2,us,rfl,g2,h1⟩:=DL.cons_inv h1
 obtain rfl:=DL.nil_inv h1
 exact⟨v1,v2,g1,g2,rfl⟩
theorem c6s{ρ:Env}{w0:World}{ds:List D}{s1 s2:S0}{e:E}{m:Mem}{n:Nat}{x1 x2:X}(h1:U2 m 53 G7 s1=some x1)(e1:x1.ev ρ=mgS ds)(h2:U2 m 59 r6 s2=some x2)(e2:x2.ev ρ=mgF ds)
 (hne:∀id v v',s1= .own id v→s2= .own id v'→False) (he:e.ev ρ=mgE ds):
 ∃ss,LsAre ρ ((.tup [.agg [.z s1,.z s2],.one (.z (.int .i64 e))]),m,n) [b0k,b0K] ds ss∧∀(σ:As) u,ρ.w=w0→V.den ρ σ (.tup [.agg [.z s1,.z s2],.one (.z (.int .i64 e))]) u→∃vs,DL (S0.den ρ σ) ss vs∧c1X w0 ds vs u:=by
 refine⟨[s1,s2],c3I (l1:=b0k) (l2:=b0K) h1 e1 h2 e2 hne,fun σ u _ hu=> ?_⟩
 obtain⟨v1,v2,g1,g2,rfl⟩:=d6i hu
 rw[he]
 exact⟨[v1,v2],⟨g1,g2,trivial⟩,v1,v2,rfl,rfl⟩
theorem a1u{ρ:Env}{w0:World}{ds:List D}{e:E}{n:Nat}{E0:Int}(hE:mgE ds=E0)(h0:E0≠0)(he:e.ev ρ=E0):
 ∃ss,LsAre ρ ((.tup [.agg [.z (.const (.slice none 0 0)),.z (.const (.slice none 0 0))],.one (.z (.int .i64 e))]),[],n) [b0k,b0K] ds ss∧∀(σ:As) u,ρ.w=w0→V.den ρ σ (.tup [.agg [.z (.const (.slice none 0 0)),.z (.const (.slice none 0 0))],.one (.z (.int .i64 e))]) u→∃vs,DL (S0.den ρ σ) ss vs∧c1X w0 ds vs u:=
 c6s (x1:= .nil) (x2:= .nil) rfl (by unfold mgS;rw[hE,if_neg h0];rfl) rfl (by unfold mgF;rw[hE,if_neg h0];rfl) (fun id v v' h=>by cases h) (by rw[he,hE])
theorem d3u(a b:Rows):jsK [.l a,.l b]=okJ V7 a b:=rfl
theorem d2n(a b:Rows):b6K [.l a,.l b]=a2x a b:=rfl
theorem c0J(a b:Rows):jsR [.l a,.l b]=if okJ V7 a b=true then y9 a b else []:=rfl
theorem a6U{a b:Rows}:(y9 a b).length≤a.length+b.length:=by
 unfold y9
 rw[a7P]
 have h1:(a3y a b).length≤b.length:=List.length_filter_le _ _
 omega
theorem d2W(W:World)(ds l:List D):(f0 u5 W ds).fb 150 l=I6 l:=by simp only[f0,u5,y3,B1,t6,p9,v8]
theorem b0G(W:World)(ds l:List D):(f0 u5 W ds).fb 136 l=a5a l:=by simp only[f0,u5,y3,B1,t6,p9,v8,t7]
theorem d3n(W:World)(ds l:List D):(f0 u5 W ds).fi 135 l=a1H l:=by simp only[f0,u5,y3,B1,t6,p9,v8,t7]
theorem d2m(W:World)(ds l:List D):(f0 u5 W ds).fb 135 l=isL l:=by simp only[f0,u5,y3,B1,t6,p9,v8,t7]
theorem d1m(W:World)(ds l:List D):(f0 u5 W ds).fb 129 l=sameL l:=by simp only[f0,u5,y3,B1,t6,p9,v8,t7,I4,F4]
theorem d1U(W:World)(ds l:List D):(f0 u5 W ds).fb 200 l=jsK l:=by simp only[f0,u5]
theorem d2Q(W:World)(ds l:List D):(f0 u5 W ds).fb 201 l=b6K l:=by simp only[f0,u5]
theorem d0U(W:World)(ds l:List D):(f0 u5 W ds).fd 4 l=jsR l:=by simp only[f0,u5]
set_option maxHeartbeats 2000000 in
theorem d5C:B9 Tryz.prog 28 [o0,o0] [b0k,b0K] (fun _=>True) c1X:=by
 refine c3Z u5 (by kernel_rfl) (fun ρ h=>b1t (Sees.of h 210) (SeesD.of h 5)) (by kernel_rfl) c2I b7U (by decide) (fun w0 vals ds hr _=> ?_)
 obtain⟨_,_,_,h9⟩:=c4k hr
 simp only[b0p,g8,Nat.reduceBEq,Nat.reduceLT,Nat.reduceSub,d2W,R0]
 have hE:mgE ds=J4 (d9 ds 0) (d9 ds 1) (d9 ds 2) (d9 ds 3):=rfl
 have hS:mgS ds=if mgE ds=0 then y9 (d9 ds 0) (d9 ds 2) else []:=rfl
 have hF:mgF ds=if mgE ds=0 then y9 (d9 ds 1) (d9 ds 3) else []:=rfl
 clear hr
 generalize e0:d9 ds 0=s at*
 generalize e1:d9 ds 1=F at*
 generalize e2:d9 ds 2=t at*
 generalize e3:d9 ds 3=G at*
 unfold J4 at hE
 refine⟨fun h1=>a1u (E0:=1) (by rw[hE,h1];rfl) (by decide) (by simp [E.ev]),fun h1=>⟨fun h2=>a1u (E0:=1) (by rw[hE,h1,h2];rfl) (by decide) (by simp [E.ev]),fun h2=> ?_⟩⟩
 rw[h1,h2,Bool.true_and,if_pos rfl] at hE
 obtain⟨⟨f1,f2⟩,f3,f4,f5⟩:=z7.1 h1
 obtain⟨⟨g1,g2⟩,g3,g4,g5⟩:=z7.1 h2
 have hFr:=(P4.1 f1).2.1
 have hGr:=(P4.1 g1).2.1
 refine⟨?_,?_,by omega,by omega,?_⟩
 ·rw[b0G,a0H];exact I5.2 f4
 ·rw[b0G,a0H];exact I5.2 g4
 have LIE:T8 s F t G=true→mgE ds=18:=fun h=>by rw[hE,if_pos h]
 refine TT.sat_loop (fun v=>∃j:Nat,v.i 1=j∧j≤G.length∧v.d 2=y9 F (G.take j)∧∀(k:Nat) (hk:k<G.length),k<j→D3 F (cI G[k] 0)=true→L3 (A9 F (cI G[k] 0)) G[k]=true) (fun v=>G.length-(v.i 1).toNat)
  ⟨0,by simp [j7,i8,E.ev],by omega,by simp [D4,i8,X.ev,J8,e1,y9,a3y,M3],fun k hk h=>by omega⟩ (fun v hv=> ?_)
 obtain⟨j,j0,j1,j2,j3⟩:=hv
 simp only[g8,Nat.reduceBEq,Nat.reduceLT,Nat.reduceSub,j0,e0,e1,e2,e3,b0G,d2m,d3n,d1m,d1U,d2Q,d0U,b2f,a0H,a8O,b0D,d3u,d2n,c0J]
 refine⟨fun hc=> ?_,fun hc=> ?_⟩
 ·have hj:j<G.length:=by omega
  obtain⟨s1,s2,s3,s4,s5⟩:=b2L hFr hGr hj j2
  have hw1:IntKind.i64.wrap ((j:Int)+1)=((j+1:Nat):Int):=by rw[f8 _ (by omega) (by omega)];rfl
  have hm:G.length-(((j+1:Nat):Int)).toNat<G.length-(j:Int).toNat:=by omega
  have hlo:=(D0 (v.d 2) (cI G[j] 0)).1
  have hins:=a8t (v.d 2) G[j]
  have h9j:=h9 _ (List.getElem_mem hj)
  simp only[hw1,j8 hj,I7 hj,s3]
  have NX:∀(h:D3 F (cI G[j] 0)=true→L3 (A9 F (cI G[j] 0)) G[j]=true),∀(k:Nat) (hk:k<G.length),k<j+1→D3 F (cI G[k] 0)=true→L3 (A9 F (cI G[k] 0)) G[k]=true:=fun h k hk hkj=>by
   by_cases e:k=j
   ·subst e;exact h
   ·exact j3 k hk (by omega)
  refine⟨by omega,by omega,I5.2 s1,fun hB=>⟨by omega,by omega,by omega,⟨j+1,rfl,by omega,?_,NX (fun h=>by rw[hB] at h;cases h)⟩,hm⟩,fun hB=> ?_⟩
  ·rw[←s5 hB,←hins]
   congr 2
   rw[List.append_nil,List.append_nil]
   congr 1
   exact h9j.symm
  ·have hBo:D3 (v.d 2) (cI G[j] 0)=true:=by rw[s3];exact hB
   have hlt:=a7m hBo
   obtain⟨s6,s7⟩:=s4 hB
   simp only[b9U hBo,d2D hBo,s6]
   have hEq:L3 (A9 F (cI G[j] 0)) G[j]=a0m (cI (A9 F (cI G[j] 0)) 0) (cI (A9 F (cI G[j] 0)) 1) (cI (A9 F (cI G[j] 0)) 2) (cI (A9 F (cI G[j] 0)) 3) (cI (A9 F (cI G[j] 0)) 4) (cR (A9 F (cI G[j] 0)) 5) (cI (A9 F (cI G[j] 0)) 6) (cI (A9 F (cI G[j] 0)) 7) (cR (A9 F (cI G[j] 0)) 8) (cI G[j] 0) (cI G[j] 1) (cI G[j] 2) (cI G[j] 3) (cI G[j] 4) (cR G[j] 5) (cI G[j] 6) (cI G[j] 7) (cR G[j] 8):=rfl
   generalize a0m _ _ _ _ _ _ _ _ _ _ _ _ _ _ _ _ _ _=Q at*
   refine⟨by omega,by omega,fun hne=> ?_,fun he=>⟨⟨j+1,rfl,by omega,s7,NX (fun _=>by rw[hEq];exact he)⟩,hm⟩⟩
   have hf:okJ L3 F G=false:=b3e hj hB (by rw[hEq];exact hne)
   have hl:mgE ds=18:=LIE (by unfold T8;rw[hf];simp)
   exact⟨fun _=>a1u hl (by decide) (by simp [E.ev]),fun _=>a1u hl (by decide) (by simp [E.ev])⟩
 ·have hj:j=G.length:=by omega
  have ht:okJ L3 F G=true:=b5P (fun k hk=>j3 k hk (by omega))
  have j2':v.d 2=y9 F G:=by rw[j2,hj,List.take_length]
  have hl1:= @a6U s t
  have hl2:= @a6U F G
  simp only[j2']
  refine⟨fun hk=>a1u (LIE (by unfold T8;rw[hk];rfl)) (by decide) (by simp [E.ev]),fun hk=>⟨I5.2 hGr,fun h3=>a1u (LIE (by unfold T8;rw[h3];simp)) (by decide) (by simp [E.ev]),fun h3=>⟨I5.2 hFr,fun h4=>a1u (LIE (by unfold T8;rw[h4];simp)) (by decide) (by simp [E.ev]),fun h4=> ?_⟩⟩⟩
  have hL:T8 s F t G=false:=by unfold T8;rw[hk,ht,h3,h4];rfl
  rw[hL,if_neg (by decide)] at hE
  rw[hk,if_pos rfl,f8 (((y9 s t).length:Int)+((y9 F G).length:Nat)) (by omega) (by omega)]
  refine⟨fun hb=>a1u (E0:=2) (by rw[hE,if_pos hb]) (by decide) (by simp [E.ev]),fun hb=> ?_⟩
  rw[if_neg hb] at hE
  rw[hE,if_pos rfl] at hS hF
  refine c6s (x1:= .fn 4 (.x (.var 0) (.x (.var 2) .nil))) (x2:= .var 6002) (by kernel_rfl) ?_ (by kernel_rfl) ?_ (fun id v v' h1 h2=>by cases h1;cases h2) (by rw[hE];simp [E.ev])
  ·rw[hS]
   simp only[X.ev,AL.ev,B6,c5N,J8,Nat.reduceLT,if_true,e0,e2,d0U,c0J,hk]
  ·rw[hF]
   simp only[X.ev,B6,Nat.reduceLT,if_false,Nat.reduceSub,j2']
def a8i:TT j6:=
(.ite (.cmp .neq (.len (.var 0)) (.len (.var 2)))
 (.ret ((.v (.one (.z (.bool (.lit false))))),[],2))
 (.ob (.tru (.fn 190 (.x (.var 1) (.x (.var 3) .nil))))
 (.loop 0 3000 ⟨[(0,(.lit 0))],[],[]⟩
 (.ite (.cmp .lss (.var 3000) (.len (.var 0)))
 (.ob (.tru (.cmp .leq (.lit 0) (.var 3000)))
 (.ob (.tru (.cmp .lss (.var 3000) (.len (.var 0))))
 (.ob (.tru (.cmp .leq (.lit 0) (.var 3000)))
 (.ob (.tru (.cmp .lss (.var 3000) (.len (.var 2))))
 (.ite (.not (.and (.cmp .eql (.rd (.var 0) (.var 3000) 0) (.rd (.var 2) (.var 3000) 0)) (.and (.and (.cmp .eql (.rd (.var 0) (.var 3000) 1) (.rd (.var 2) (.var 3000) 1)) (.cmp .eql (.rd (.var 0) (.var 3000) 2) (.rd (.var 2) (.var 3000) 2))) (.and (.cmp .eql (.rd (.var 0) (.var 3000) 3) (.rd (.var 2) (.var 3000) 3)) (.and (.and (.cmp .eql (.rd (.var 0) (.var 3000) 4) (.rd (.var 2) (.var 3000) 4)) (.cmp .eql (.rd (.var 0) (.var 3000) 5) (.rd (.var 2) (.var 3000) 5))) (.cmp .eql (.rd (.var 0) (.var 3000) 6) (.rd (.var 2) (.var 3000) 6)))))))
 (.ret ((.v (.one (.z (.bool (.lit false))))),[],3))
 (.next 0 ⟨[(0,(.ar .add .i64 (.var 3000) (.lit 1)))],[],[]⟩))))))
 (.ret ((.v (.one (.z (.bool (.lit true))))),[],3))))))
set_option maxRecDepth 100000 in
theorem b8m:T.norm 0 (call Tryz.prog b1U (Lt.of []) 150 30 (i6 0 [o0,o0]) [] 0) TT.ret=a8i:=by kernel_rfl
theorem b6h:a8i.low 1000=true:=by kernel_rfl
def eq4(ds:List D):Bool:=x6 (d9 ds 0) (d9 ds 2)&&x6 (d9 ds 1) (d9 ds 3)
theorem Y8(s F t G:Rows):eq4 [.l s,.l F,.l t,.l G]=(x6 s t&&x6 F G):=rfl
theorem d1G(W:World)(ds l:List D):(f0 u5 W ds).fb 190 l=a4j l:=by simp only[f0,u5,y3]
theorem d2O:GivesIf Tryz.prog 30 [o0,o0] (fun ds=>eq4 ds=true) (fun _=> .bool true):=by
 refine i7 u5 (by kernel_rfl) (fun ρ h=>b1t (Sees.of h 210) (SeesD.of h 5)) (by kernel_rfl) b8m b6h (by decide) (fun W vals ds hr hok=> ?_)
 have hl:=(a3E hr).1
 unfold eq4 at hok
 rw[Bool.and_eq_true] at hok
 have e1:=Q0 _ _ hok.1
 have e2:=Q0 _ _ hok.2
 simp only[a8i,g8,Nat.reduceBEq,Nat.reduceLT,Nat.reduceSub,←e1,←e2,d1G,c8c,N2]
 clear hr hok
 generalize e0:d9 ds 0=r at*
 refine⟨fun h=>absurd rfl h,fun _=> ?_⟩
 refine TT.sat_loop (fun v=>∃i:Nat,v.i 0=i∧i≤r.length) (fun v=>r.length-(v.i 0).toNat) ⟨0,by simp [j7,i8,E.ev],by omega⟩ (fun v hv=> ?_)
 obtain⟨i,i0,i1⟩:=hv
 simp only[g8,Nat.reduceBEq,Nat.reduceLT,Nat.reduceSub,i0,e0,←e1]
 refine⟨fun hc=> ?_,fun _=>trivial⟩
 rw[f8 ((i:Int)+1) (by omega) (by omega)]
 refine⟨by omega,by omega,by omega,by omega,fun h=> ?_,fun _=>⟨⟨i+1,rfl,by omega⟩,by omega⟩⟩
 simp at h
def B0:Interp where
 fi n l:=match n with | 210=>mgE l | n=>u5.fi n l
 fb n l:=match n with | 210=>eq4 l | n=>u5.fb n l
 fd n l:=match n with | 5=>mgS l | 6=>mgF l | n=>u5.fd n l
theorem c9t{ρ:Env}(h:SeesD ρ B0 7):SeesD ρ u5 5:=fun n l hn=>by
 rw[h n l (by omega)]
 simp only[B0]
 split<;>first | omega | rfl
theorem a6W{ρ:Env}(h:Sees ρ B0 220):Sees ρ u5 210:=h.trans (by decide) fun n l hn=>by
 refine⟨?_,?_⟩
 ·
  simp only[B0]
  split<;>first | omega | rfl
 ·
  simp only[B0]
  split<;>first | omega | rfl
def b1J:=o7 [o0,o0] fun al=> .ob (.tru (.fn 210 al)) (.ret (bV (.lit true)))
theorem c2A{ρ:Env}(h:Sees ρ B0 220):i9 Tryz.prog ρ 30 b1J:=by
 refine A0 d2O (fun al v hv=> ?_)
 obtain⟨ho,hv⟩:=hv
 obtain rfl:=g7 hv
 refine⟨rfl,?_,rfl⟩
 have h1:(B.fn 210 al).ev ρ=true:=ho
 simp only[B.ev] at h1
 rw[(h 210 _ (by decide)).2] at h1
 simp only[B0] at h1
 exact h1
def d3G(q:j6):T j6:=match q.1 with
 | .tup [.agg _,.one (.z (.int _ (.lit 0)))]=> .ret q
 | _=> .stuck "not possible"
def d7a(e:E):V:= .tup [.agg [.z (.const (.slice none 0 0)),.z (.const (.slice none 0 0))],.one (.z (.int .i64 e))]
def d2k(P:Program)(args:List V)(mem:Mem)(nx:Nat):T j6:=match Y0 [o0,o0] args with
 | some al=>ctN [b0k,b0K] [] (.tup [.agg [.z (.own nx (.lit 0)),.z (.own (nx+1) (.lit 0))],.one (.z (.int .i64 (.fn 210 al)))]) al nx
 | none=>match U5 mem [o0,o0] args with
   | some al=> .ite (.cmp .eql (.fn 210 al) (.lit 0)) ((call P b1U (Lt.of []) 150 28 args mem nx).bind d3G) (.ret (d7a (.fn 210 al),[],nx))
   | none=> .stuck "Merge"
def d9w(P:Program):Ct:=(30,b1J)::(28,d2k P)::b1U
end Go.Proofs.YtldbejmgalhdaaaGreat
