/- HJ, merged: Vp, Vq. -/
import Derived.Test.YtldbejmgalhdaaaGreatHI
set_option linter.unusedSimpArgs false
set_option linter.unusedVariables false
namespace Go.Proofs.YtldbejmgalhdaaaGreat
open Go.RowKit
def mdS(s F:Rows):Rows:=M3 F ((j5 s).map H6)
def mdR(ds:List D):Rows:=if I6 ds=true then mdS (d9 ds 0) (d9 ds 1) else []
def a7j:NL:= { e:=59,ks:=r6,s:=2,rows:=mdR }
theorem b1b(W:World)(ds l:List D):(f0 p9 W ds).fb 150 l=I6 l:=by simp only[f0,p9,v8]
theorem d2Y(W:World)(ds l:List D):(f0 p9 W ds).fb 136 l=a5a l:=by simp only[f0,p9,v8,t7]
theorem d2g(W:World)(ds l:List D):(f0 p9 W ds).fi 135 l=a1H l:=by simp only[f0,p9,v8,t7]
theorem b2f(r:Rows)(n:Int):a1H [.l r,.i n]=(y6 r n:Nat):=rfl
theorem d3w(x:List D):cI (H6 x) 0=cI x 0:=rfl
theorem a3n{s:Rows}(h:o5 s):o5 ((j5 s).map H6):=by
 unfold o5
 rw[List.pairwise_map]
 exact d2L h
theorem a8t(r:Rows)(row:List D):m8 r 0 (y6 r (cI row 0):Nat)++([row]++[])++m8 r (y6 r (cI row 0):Nat) (r.length:Nat)=Y5 r row:=by
 have:=(D0 r (cI row 0)).1
 unfold Y5 m8
 simp only[Int.toNat_zero,List.drop_zero,Nat.sub_zero,Int.toNat_natCast,List.append_nil,List.append_assoc,List.cons_append,List.nil_append]
 congr 2
 exact List.take_of_length_le (by rw[List.length_drop];omega)
theorem c0r:B9 Tryz.prog 18 [o0] [a7j] (fun _=>True) (fun _ ds vs u=>∃v,vs=[v]∧u= .tuple #[v,.int .i64 (C7 ds)]):=by
 refine H0 p9 (by kernel_rfl) (fun ρ h=>a4c (Sees.of h 170) (SeesD.of h 2)) (by kernel_rfl) b8y b6k (by decide) (fun w0 vals ds hr _=> ?_)
 simp only[a7K,g8,Nat.reduceBEq,Nat.reduceLT,Nat.reduceSub,b1b,a4V,R0,B3]
 have hR:a7j.rows ds=if q9 (d9 ds 0) (d9 ds 1)=true then mdS (d9 ds 0) (d9 ds 1) else []:=rfl
 have hE:C7 ds=if q9 (d9 ds 0) (d9 ds 1)=true then 0 else 1:=rfl
 clear hr
 generalize e0:d9 ds 0=s at*
 generalize e1:d9 ds 1=F at*
 refine⟨fun hv=> ?_,fun hv=> ?_⟩
 ·rw[hv] at hR hE
  exact G6 (x:= .nil) (by kernel_rfl) (by rw[hR];simp [X.ev]) (by rw[hE];simp [E.ev])
 ·rw[if_pos hv] at hR hE
  have hl:=a0e s
  obtain⟨⟨f1,f2⟩,f3,f4,f5⟩:=z7.1 hv
  refine⟨by omega,by omega,?_⟩
  refine TT.sat_loop (fun v=>∃i:Nat,v.i 1=i∧i≤(j5 s).length∧v.d 2=M3 F (((j5 s).map H6).take i)) (fun v=>(j5 s).length-(v.i 1).toNat)
   ⟨0,by simp [j7,i8,E.ev],by omega,by simp [D4,i8,X.ev,J8,e1,M3]⟩ (fun v hv=> ?_)
  obtain⟨i,i0,i1,i2⟩:=hv
  simp only[g8,Nat.reduceBEq,Nat.reduceLT,Nat.reduceSub,i0,i2,e0,e1,a4V,B3,d2Y,d2g,b2f,a0H]
  refine⟨fun hc=> ?_,fun hc=> ?_⟩
  ·have hi:i<(j5 s).length:=by omega
   have him:i<((j5 s).map H6).length:=by rw[List.length_map];exact hi
   have hris:o5 (M3 F (((j5 s).map H6).take i)):=a8g _ F (P4.1 f1).2.1 ((a3n f4).sublist (List.take_sublist _ _)) (fun a ha b hb=>by
    obtain⟨x,hx,rfl⟩:=List.mem_map.1 (List.mem_of_mem_take hb)
    exact f5 x (a3H.1 hx).1 a ha)
   have hlen:(M3 F (((j5 s).map H6).take i)).length≤300:=by
    rw[a7P,List.length_take,List.length_map];omega
   have hnx:M3 F (((j5 s).map H6).take (i+1))=Y5 (M3 F (((j5 s).map H6).take i)) (H6 (j5 s)[i]):=by
    rw[List.take_succ_eq_append_getElem him,b3o,List.getElem_map]
   have hlo:=(D0 (M3 F (((j5 s).map H6).take i)) (cI (j5 s)[i] 0)).1
   have hins:=a8t (M3 F (((j5 s).map H6).take i)) (H6 (j5 s)[i])
   rw[d3w,←hnx] at hins
   rw[f8 ((i:Int)+1) (by omega) (by omega)]
   simp only[j8 hi]
   refine⟨by omega,by omega,I5.2 hris,by omega,by omega,by omega,⟨i+1,rfl,by omega,?_⟩,by omega⟩
   exact hins
  ·have hi:i=(j5 s).length:=by omega
   refine G6 (x:= .var 4002) (by kernel_rfl) ?_ (by rw[hE];simp [E.ev])
   rw[hR,mdS]
   simp only[X.ev,B6,Nat.reduceLT,if_false,Nat.reduceSub,i2,hi]
   rw[List.take_of_length_le (by rw[List.length_map];exact Nat.le_refl _)]
def b0d(row:List D)(px py:Int):Bool:=W7 (row++[.i px,.i py])
def V6(x:List D)(px py d:Int):Bool:=b0d (H6 x) px py&&(decide (d<cI x 4)||decide (cI x 5<d))
def a1E(f:List D)(px py d:Int):Bool:=b0d f px py&&decide (d<cI f 6)
def Z2(s F:Rows)(px py d:Int):Bool:=(j5 s).all (fun x=> !V6 x px py d)&&F.all (fun f=> !a1E f px py d)
def d4L(ds:List D):Bool:=I6 ds&&g9 (c9 ds 2) (c9 ds 3)
def a5d(ds:List D):Bool:=d4L ds&&(decide (0≤c9 ds 4∧c9 ds 4≤100000)&&Z2 (d9 ds 0) (d9 ds 1) (c9 ds 2) (c9 ds 3) (c9 ds 4))
def a4s(ds:List D):Int:=if d4L ds=true then 0 else 1
theorem d6y(W:World)(ds l:List D):(f0 p9 W ds).fb 3 l=s9 l:=by simp only[f0,p9,v8,t7,I4,F4,V0,Z7,M4,C0,G1,C6,z9,w9,KI,KH,KG,KF,KE,KD,KC,KB,KA,K9,K8,K7,K6,K5,K]
theorem c5k(W:World)(ds l:List D):(f0 p9 W ds).fb 78 l=W7 l:=by simp only[f0,p9,v8,t7,I4,F4,V0,Z7,M4,C0,G1,C6,z9,w9,KI,KH,KG]
theorem d2J(W:World)(ds l:List D):(f0 p9 W ds).fb 120 l=R3 l:=by simp only[f0,p9,v8,t7,I4,F4,V0,Z7,M4]
theorem a9b(x y:Int):s9 [.i x,.i y]=g9 x y:=rfl
def a0D(row:List D):Prop:=row=[.i (cI row 0),.i (cI row 1),.i (cI row 2),.i (cI row 3),.i (cI row 4),.l (cR row 5),.i (cI row 6),.i (cI row 7),.l (cR row 8)]
theorem a2R{w:World}{us:List Value}{row:List D}(h:CK.reps w r6 us row):a0D row:=by
 have hl:row.length=9:=(u9 h).2
 have hi:∀j,j<9→j≠5→j≠8→row[j]? = some (.i (cI row j)):=fun j hj h5 h8=>by
  obtain⟨v,d,_,h1,h2⟩:=x9 (j:=j) (k:= .int .i64) h (by
   rcases(show j=0∨j=1∨j=2∨j=3∨j=4∨j=6∨j=7 by omega) with e | e | e | e | e | e | e<;>subst e<;>rfl)
  unfold CK.rep at h2
  obtain⟨n,_,rfl⟩:=h2
  rw[h1]
  unfold cI
  rw[h1]
  rfl
 have hx:∀j,(j=5∨j=8)→row[j]? = some (.l (cR row j)):=fun j hj=>by
  have key:∃d:Rows,row[j]? = some (.l d):=by
   rcases hj with e | e<;>subst e
   ·obtain⟨v,d,_,h1,h2⟩:=x9 (j:=5) (k:= .sl ptK) h rfl
    rw[y7] at h2
    obtain⟨r,rfl,_⟩:=h2
    exact⟨r,h1⟩
   ·obtain⟨v,d,_,h1,h2⟩:=x9 (j:=8) (k:= .sl b1T) h rfl
    rw[y7] at h2
    obtain⟨r,rfl,_⟩:=h2
    exact⟨r,h1⟩
  obtain⟨d,hd⟩:=key
  rw[hd]
  unfold cR
  rw[hd]
  rfl
 unfold a0D
 refine List.ext_getElem? (fun j=> ?_)
 rcases Nat.lt_or_ge j 9 with q | q
 ·rcases(show j=0∨j=1∨j=2∨j=3∨j=4∨j=5∨j=6∨j=7∨j=8 by omega) with e | e | e | e | e | e | e | e | e<;>subst e
  ·exact hi 0 (by omega) (by omega) (by omega)
  ·exact hi 1 (by omega) (by omega) (by omega)
  ·exact hi 2 (by omega) (by omega) (by omega)
  ·exact hi 3 (by omega) (by omega) (by omega)
  ·exact hi 4 (by omega) (by omega) (by omega)
  ·exact hx 5 (.inl rfl)
  ·exact hi 6 (by omega) (by omega) (by omega)
  ·exact hi 7 (by omega) (by omega) (by omega)
  ·exact hx 8 (.inr rfl)
 ·rw[List.getElem?_eq_none (by omega),List.getElem?_eq_none (by simp;omega)]
theorem a1p{W:World}{vals:List Value}{ds:List D}{sh:List Sh}(h:A4 W (o0::sh) vals ds):∀row∈d9 ds 1,a0D row:=by
 obtain⟨v,vs',d,ds',rfl,rfl,⟨us,rfl,h⟩,_⟩:=h
 have e1:d.length=2:=(u9 h).2
 obtain⟨_,x0,_,p0,q0⟩:=x9 (j:=1) h rfl
 have a0:(d++ds')[1]? = some x0:=by rw[List.getElem?_append_left (by omega)];exact p0
 have gd:(d++ds').getD 1 (.i 0)=x0:=by rw[List.getD_eq_getElem?_getD,a0];rfl
 intro row hrow
 unfold d9 at hrow
 rw[gd,y7] at*
 obtain⟨r,rfl,a,n,c,_,hs,_⟩:=q0
 obtain⟨i,hi,rfl⟩:=List.getElem_of_mem hrow
 obtain⟨b,hb⟩:=Option.isSome_iff_exists.1 (hs.there (by have:=hs.len;have:i<r.length:=hi;omega))
 obtain⟨vs,g1,_⟩:=hs.cell b hb i r[i] (List.getElem?_eq_getElem hi)
 exact a2R g1
theorem c0B{row:List D}(h:a0D row)(px py:Int):W7 [.i (cI row 0),.i (cI row 1),.i (cI row 2),.i (cI row 3),.i (cI row 4),.l (cR row 5),.i (cI row 6),.i (cI row 7),.l (cR row 8),.i px,.i py]=b0d row px py:=by
 unfold b0d
 generalize e:W7 (row++[.i px,.i py])=b
 rw[h] at e
 exact e
set_option maxHeartbeats 1000000 in
theorem c7V:k8 Tryz.prog 23 [o0,pt,it] (fun ds=> .tuple #[.bool (a5d ds),.int .i64 (a4s ds)]):=by
 refine GivesIf.all (i7 p9 (by kernel_rfl) (fun ρ h=>a4c (Sees.of h 170) (SeesD.of h 2)) (by kernel_rfl) b5J b3F (by decide) (fun W vals ds hr _=> ?_))
 have h9:=a1p hr
 simp only[a5A,g8,Nat.reduceBEq,Nat.reduceLT,Nat.reduceSub,b1b,a4V,R0,B3,d6y,a9b]
 have hR:a5d ds=((q9 (d9 ds 0) (d9 ds 1)&&g9 (c9 ds 2) (c9 ds 3))&&(decide (0≤c9 ds 4∧c9 ds 4≤100000)&&Z2 (d9 ds 0) (d9 ds 1) (c9 ds 2) (c9 ds 3) (c9 ds 4))):=rfl
 have hE:a4s ds=if (q9 (d9 ds 0) (d9 ds 1)&&g9 (c9 ds 2) (c9 ds 3))=true then 0 else 1:=rfl
 rw[hR,hE]
 clear hr hR hE
 generalize e0:d9 ds 0=s at*
 generalize e1:d9 ds 1=F at*
 generalize e2:c9 ds 2=px at*
 generalize e3:c9 ds 3=py at*
 generalize e4:c9 ds 4=d at*
 refine⟨fun hv=> ?_,fun hv=>⟨fun hp=> ?_,fun hp=>⟨fun hd=> ?_,fun hd=>⟨fun hd2=> ?_,fun hd2=> ?_⟩⟩⟩⟩
 ·rw[hv];rfl
 ·rw[hv,hp];rfl
 ·rw[hv,hp,decide_eq_false (by omega)];rfl
 ·rw[hv,hp,decide_eq_false (by omega)];rfl
 ·rw[hv,hp,decide_eq_true (by omega)]
  have hl:=a0e s
  obtain⟨⟨f1,f2⟩,f3,f4,f5⟩:=z7.1 hv
  refine⟨by omega,?_⟩
  simp only[Bool.and_self,Bool.true_and,if_true]
  have NO:∀b,Z2 s F px py d=b→Value.tuple #[.bool b,.int .i64 0]= .tuple #[.bool (Z2 s F px py d),.int .i64 0]:=fun b h=>by rw[h]
  refine TT.sat_loop (fun v=>∃i:Nat,v.i 0=i∧i≤(j5 s).length∧∀(k:Nat) (hk:k<(j5 s).length),k<i→V6 (j5 s)[k] px py d=false) (fun v=>(j5 s).length-(v.i 0).toNat)
   ⟨0,by simp [j7,i8,E.ev],by omega,fun k hk h=>by omega⟩ (fun v hv=> ?_)
  obtain⟨i,i0,i1,i2⟩:=hv
  simp only[g8,Nat.reduceBEq,Nat.reduceLT,Nat.reduceSub,i0,e0,e1,e2,e3,e4,a4V,B3,c5k]
  refine⟨fun hc=> ?_,fun hc=> ?_⟩
  ·have hi:i<(j5 s).length:=by omega
   have hw1:IntKind.i64.wrap ((i:Int)+1)=((i+1:Nat):Int):=by rw[f8 _ (by omega) (by omega)];rfl
   have hm:(j5 s).length-(((i+1:Nat):Int)).toNat<(j5 s).length-(i:Int).toNat:=by omega
   simp only[j8 hi,hw1]
   have hoff:V6 (j5 s)[i] px py d=(W7 [.i (cI (j5 s)[i] 0),.i 1,.i (cI (j5 s)[i] 1),.i (cI (j5 s)[i] 2),.i (cI (j5 s)[i] 3),.l [],.i (cI (j5 s)[i] 4),.i 0,.l [],.i px,.i py]&&(decide (d<cI (j5 s)[i] 4)||decide (cI (j5 s)[i] 5<d))):=rfl
   generalize W7 _=H at*
   have NX:V6 (j5 s)[i] px py d=false→∀(k:Nat) (hk:k<(j5 s).length),k<i+1→V6 (j5 s)[k] px py d=false:=fun h k hk hki=>by
    by_cases e:k=i
    ·subst e;exact h
    ·exact i2 k hk (by omega)
   have YES:V6 (j5 s)[i] px py d=true→Z2 s F px py d=false:=fun h=>by
    unfold Z2
    have:((j5 s).all fun x=> !V6 x px py d)=false:=by
     rw[List.all_eq_false]
     exact⟨_,List.getElem_mem hi,by rw[h];decide⟩
    rw[this];rfl
   refine⟨by omega,by omega,fun h=>⟨fun g=>NO _ (YES ?_),fun g=>⟨fun g2=>NO _ (YES ?_),fun g2=>⟨⟨i+1,rfl,by omega,NX ?_⟩,hm⟩⟩⟩,fun h=>⟨⟨i+1,rfl,by omega,NX ?_⟩,hm⟩⟩
   ·rw[hoff,h,decide_eq_true g];rfl
   ·rw[hoff,h,decide_eq_true g2];simp
   ·rw[hoff,h,decide_eq_false g,decide_eq_false g2];rfl
   ·rw[hoff,h];rfl
  ·have hi:i=(j5 s).length:=by omega
   have hcur:((j5 s).all fun x=> !V6 x px py d)=true:=by
    rw[List.all_eq_true]
    intro x hx
    obtain⟨k,hk,rfl⟩:=List.getElem_of_mem hx
    rw[i2 k hk (by omega)];rfl
   have hA:Z2 s F px py d=F.all fun f=> !a1E f px py d:=by unfold Z2;rw[hcur];rfl
   refine TT.sat_loop (fun v=>∃j:Nat,v.i 0=j∧j≤F.length∧∀(k:Nat) (hk:k<F.length),k<j→a1E F[k] px py d=false) (fun v=>F.length-(v.i 0).toNat)
    ⟨0,by simp [j7,i8,E.ev],by omega,fun k hk h=>by omega⟩ (fun t ht=> ?_)
   obtain⟨j,j0,j1,j2⟩:=ht
   simp only[g8,Nat.reduceBEq,Nat.reduceLT,Nat.reduceSub,j0,e0,e1,e2,e3,e4,c5k]
   refine⟨fun hcj=> ?_,fun hcj=> ?_⟩
   ·have hj:j<F.length:=by omega
    have hw1:IntKind.i64.wrap ((j:Int)+1)=((j+1:Nat):Int):=by rw[f8 _ (by omega) (by omega)];rfl
    have hm:F.length-(((j+1:Nat):Int)).toNat<F.length-(j:Int).toNat:=by omega
    simp only[j8 hj,I7 hj,hw1,c0B (h9 _ (List.getElem_mem hj))]
    have hoff:a1E F[j] px py d=(b0d F[j] px py&&decide (d<cI F[j] 6)):=rfl
    have NX:a1E F[j] px py d=false→∀(k:Nat) (hk:k<F.length),k<j+1→a1E F[k] px py d=false:=fun h k hk hki=>by
     by_cases e:k=j
     ·subst e;exact h
     ·exact j2 k hk (by omega)
    refine⟨by omega,by omega,fun h=>⟨fun g=>NO _ ?_,fun g=>⟨⟨j+1,rfl,by omega,NX ?_⟩,hm⟩⟩,fun h=>⟨⟨j+1,rfl,by omega,NX ?_⟩,hm⟩⟩
    ·rw[hA,List.all_eq_false]
     exact⟨_,List.getElem_mem hj,by rw[hoff,h,decide_eq_true g];decide⟩
    ·rw[hoff,h,decide_eq_false g];rfl
    ·rw[hoff,h];rfl
   ·refine NO _ ?_
    rw[hA,List.all_eq_true]
    intro f hf
    obtain⟨k,hk,rfl⟩:=List.getElem_of_mem hf
    rw[j2 k hk (by omega)];rfl
def clB(x y:List D):Bool:=decide (min (cI x 5) (cI y 5)<max (cI x 4) (cI y 4))&&R3 (H6 x++H6 y)
def prR(x y:List D):List D:=[.i (cI x 0),.i (cI y 0)]
def R6:Rows→Rows
 | []=>[]
 | x::r=>(r.filter (clB x)).map (prR x)++R6 r
theorem c8q{r:Rows}{i:Nat}:(m8 r (i:Nat) (r.length:Nat)).length=r.length-i:=by
 simp only[m8,Int.toNat_natCast,List.length_take,List.length_drop];omega
def clR(ds:List D):Rows:=if I6 ds=true then R6 (j5 (d9 ds 0)) else []
def b7j:NL:= { e:=67,ks:=[.int .i64,.int .i64],s:=3,rows:=clR }
theorem b0x:∀r:Rows,(R6 r).length≤r.length*r.length
 | []=>Nat.le_refl _
 | x::r=>by
   rw[R6,List.length_append,List.length_map,List.length_cons]
   have h1:=b0x r
   have h2:=List.length_filter_le (clB x) r
   have:(r.length+1)*(r.length+1)=r.length*r.length+r.length+r.length+1:=by rw[Nat.add_mul,Nat.mul_add];omega
   omega
set_option maxHeartbeats 1000000 in
theorem d3p:B9 Tryz.prog 25 [o0] [b7j] (fun _=>True) (fun _ ds vs u=>∃v,vs=[v]∧u= .tuple #[v,.int .i64 (C7 ds)]):=by
 refine H0 p9 (by kernel_rfl) (fun ρ h=>a4c (Sees.of h 170) (SeesD.of h 2)) (by kernel_rfl) b7Q b5z (by decide) (fun w0 vals ds hr _=> ?_)
 simp only[a8q,g8,Nat.reduceBEq,Nat.reduceLT,Nat.reduceSub,b1b,a4V,R0,B3]
 have hR:b7j.rows ds=if q9 (d9 ds 0) (d9 ds 1)=true then R6 (j5 (d9 ds 0)) else []:=rfl
 have hE:C7 ds=if q9 (d9 ds 0) (d9 ds 1)=true then 0 else 1:=rfl
 clear hr
 generalize e0:d9 ds 0=s at*
 generalize e1:d9 ds 1=F at*
 refine⟨fun hv=> ?_,fun hv=> ?_⟩
 ·rw[hv] at hR hE
  exact G6 (x:= .nil) (by kernel_rfl) (by rw[hR];simp [X.ev]) (by rw[hE];simp [E.ev])
 ·rw[if_pos hv] at hR hE
  have hl:=a0e s
  obtain⟨⟨f1,f2⟩,f3,f4,f5⟩:=z7.1 hv
  refine⟨by omega,?_⟩
  generalize hC:j5 s=C at*
  have hq:=b0x C
  have hq2:C.length*C.length≤300*300:=Nat.mul_le_mul (by omega) (by omega)
  refine TT.sat_loop (fun v=>∃i:Nat,v.i 2=i∧i≤C.length∧v.d 1++R6 (C.drop i)=R6 C) (fun v=>C.length-(v.i 2).toNat)
   ⟨0,by simp [j7,i8,E.ev],by omega,by simp [D4,i8,X.ev]⟩ (fun v hv=> ?_)
  obtain⟨i,i0,i1,i2⟩:=hv
  simp only[g8,Nat.reduceBEq,Nat.reduceLT,Nat.reduceSub,i0,e0,e1,a4V,B3,hC]
  refine⟨fun hc=> ?_,fun hc=> ?_⟩
  ·have hi:i<C.length:=by omega
   have hw1:IntKind.i64.wrap ((i:Int)+1)=((i+1:Nat):Int):=by rw[f8 _ (by omega) (by omega)];rfl
   have hm:C.length-(((i+1:Nat):Int)).toNat<C.length-(i:Int).toNat:=by omega
   have hdr:C.drop i=C[i]::C.drop (i+1):=List.drop_eq_getElem_cons hi
   rw[hdr,R6] at i2
   simp only[hw1]
   refine⟨by omega,by omega,by omega,by omega,?_⟩
   refine TT.sat_loop (fun t=>∃j:Nat,t.i 0=j∧j≤C.length-(i+1)∧t.d 2++(((C.drop (i+1+j)).filter (clB C[i])).map (prR C[i])++R6 (C.drop (i+1)))=R6 C) (fun t=>C.length-(i+1)-(t.i 0).toNat)
    ⟨0,by simp [j7,i8,E.ev],by omega,by simpa [D4,i8,X.ev,B6] using i2⟩ (fun t ht=> ?_)
   obtain⟨j,j0,j1,j2⟩:=ht
   simp only[g8,Nat.reduceBEq,Nat.reduceLT,Nat.reduceSub,i0,j0,e0,e1,a4V,B3,hC,hw1,c8q,d2J]
   refine⟨fun hcj=> ?_,fun hcj=> ?_⟩
   ·have hj:i+1+j<C.length:=by omega
    have hw2:IntKind.i64.wrap ((j:Int)+1)=((j+1:Nat):Int):=by rw[f8 _ (by omega) (by omega)];rfl
    have hm2:C.length-(i+1)-(((j+1:Nat):Int)).toNat<C.length-(i+1)-(j:Int).toNat:=by omega
    have hij:((i+1:Nat):Int)+(j:Int)=((i+1+j:Nat):Int):=by omega
    have hdj:C.drop (i+1+j)=C[i+1+j]::C.drop (i+1+(j+1)):=List.drop_eq_getElem_cons hj
    have htot:=congrArg List.length j2
    simp only[List.length_append] at htot
    simp only[hij,hw2,j8 hi,j8 hj]
    rw[hdj] at j2
    have hcl:clB C[i] C[i+1+j]=(decide (min (cI C[i] 5) (cI C[i+1+j] 5)<max (cI C[i] 4) (cI C[i+1+j] 4))&&R3 [.i (cI C[i] 0),.i 1,.i (cI C[i] 1),.i (cI C[i] 2),.i (cI C[i] 3),.l [],.i (cI C[i] 4),.i 0,.l [],.i (cI C[i+1+j] 0),.i 1,.i (cI C[i+1+j] 1),.i (cI C[i+1+j] 2),.i (cI C[i+1+j] 3),.l [],.i (cI C[i+1+j] 4),.i 0,.l []]):=rfl
    generalize R3 _=H at*
    have NO:clB C[i] C[i+1+j]=false→t.d 2++(((C.drop (i+1+(j+1))).filter (clB C[i])).map (prR C[i])++R6 (C.drop (i+1)))=R6 C:=fun h=>by
     rw[List.filter_cons_of_neg (by simp [h])] at j2;exact j2
    refine⟨by omega,by omega,fun g=>⟨⟨j+1,rfl,by omega,NO ?_⟩,hm2⟩,fun g=>⟨fun h=>⟨?_,⟨j+1,rfl,by omega,?_⟩,hm2⟩,fun h=>⟨⟨j+1,rfl,by omega,NO ?_⟩,hm2⟩⟩⟩
    ·rw[hcl,decide_eq_false (by omega)];rfl
    ·have hc1:clB C[i] C[i+1+j]=true:=by rw[hcl,decide_eq_true (by omega),h];rfl
     rw[List.filter_cons_of_pos hc1] at j2
     have:=congrArg List.length j2
     simp only[List.length_append,List.length_map,List.length_cons,List.length_nil] at this ⊢
     omega
    ·have hc1:clB C[i] C[i+1+j]=true:=by rw[hcl,decide_eq_true (by omega),h];rfl
     rw[List.filter_cons_of_pos hc1,List.map_cons] at j2
     rw[←j2]
     simp only[List.append_assoc,List.cons_append,List.nil_append,List.append_nil]
     rfl
    ·rw[hcl,h];simp
   ·have hj:i+1+j=C.length:=by omega
    have hnil:C.drop (i+1+j)=[]:=List.drop_eq_nil_of_le (by omega)
    rw[hnil] at j2
    rw[if_neg (by decide)]
    exact⟨⟨i+1,rfl,by omega,by simpa using j2⟩,hm⟩
  ·have hi:i=C.length:=by omega
   refine G6 (x:= .var 3001) (by kernel_rfl) ?_ (by rw[hE];simp [E.ev])
   rw[hR,←i2,hi,List.drop_length]
   simp only[X.ev,B6,Nat.reduceLT,if_false,Nat.reduceSub,R6,List.append_nil]
def t6:Interp where
 fi n l:=match n with | 170=>a4s l | n=>p9.fi n l
 fb n l:=match n with | 170=>a5d l | n=>p9.fb n l
 fd n l:=match n with | 2=>mdR l | 3=>clR l | n=>p9.fd n l
theorem b5b{ρ:Env}(h:SeesD ρ t6 4):SeesD ρ p9 2:=fun n l hn=>by
 rw[h n l (by omega)]
 simp only[t6]
 split<;>first | omega | rfl
theorem b0Z{ρ:Env}(h:Sees ρ t6 180):Sees ρ p9 170:=h.trans (by decide) fun n l hn=>by
 refine⟨?_,?_⟩
 ·
  simp only[t6]
  split<;>first | omega | rfl
 ·
  simp only[t6]
  split<;>first | omega | rfl
def a8c:=o7 [o0,pt,it] fun al=> .ret (.tup [.one (G8 170 a5d al),.one (w6 170 a4s al)])
theorem a7p{ρ:Env}(h:Sees ρ t6 180):i9 Tryz.prog ρ 23 a8c:=
 k5 c7V (fun _=>rfl) (fun al=>by simp only[V.val,V2.val,S.val,S0.val,w6,G8,List.map_cons,List.map_nil,k7 (s:=170) (f:=a5d) (fun l=>by rw[(h 170 l (by decide)).2];simp only[t6]),o6 (s:=170) (f:=a4s) (fun l=>by rw[(h 170 l (by decide)).1];simp only[t6])];try rfl)
def Z5(args:List V)(_mem:Mem)(nx:Nat):T j6:=match Y0 [o0] args with
 | some al=>ctN [a7j] [] (.tup [.one (.z (.own nx (.lit 0))),.one (w6 160 C7 al)]) al nx
 | none=> .stuck "Model"
theorem c2b{ρ:Env}(h:Sees ρ t6 180)(hd:SeesD ρ t6 4):i9 Tryz.prog ρ 18 Z5:=by
 intro args mem nx q hq hle σ W vals hr hfr hdl
 unfold Z5 at hq
 split at hq
 ·rename_i al ha
  refine a9O c0r ha (fun _=>trivial) (fun l hl a=> ?_) hq (fun σ' vs u hv hl hres=> ?_) hr hfr hdl
  ·obtain rfl:=List.mem_singleton.1 hl
   show ρ.fd 2 a=mdR a
   rw[hd 2 _ (by decide)];simp only[t6]
  ·obtain⟨v,rfl,rfl⟩:=hres
   obtain⟨a1,a2,a3,a4,a5⟩:=hv 0 v rfl
   refine⟨[v,.int .i64 (C7 (al.ev ρ))],⟨⟨⟨a2,a3,a4,a5⟩,a1⟩,?_,trivial⟩,rfl⟩
   show Value.int .i64 (C7 (al.ev ρ))= .int .i64 ((iF 160 C7 al).ev ρ)
   rw[o6 (s:=160) (f:=C7) (fun l=>by rw[(h 160 l (by decide)).1];simp only[t6,p9])]
 ·exact hq.elim
def a7i:=a9c [o0] b7j (fun _=>[]) fun al nx=> .tup [.one (.z (.own nx (.lit 0))),.one (w6 160 C7 al)]
theorem a9W{ρ:Env}(h:Sees ρ t6 180)(hd:SeesD ρ t6 4):i9 Tryz.prog ρ 25 a7i:=by
 refine a8F d3p (by decide) (fun al _=>trivial) (fun a=> ?_) (fun al nx σ' v hv=> ?_)
 ·show ρ.fd 3 a=clR a
  rw[hd 3 _ (by decide)];simp only[t6]
 ·refine⟨[v,.int .i64 (C7 (al.ev ρ))],⟨hv,?_,trivial⟩,rfl⟩
  show Value.int .i64 (C7 (al.ev ρ))= .int .i64 ((iF 160 C7 al).ev ρ)
  rw[o6 (s:=160) (f:=C7) (fun l=>by rw[(h 160 l (by decide)).1];simp only[t6,p9])]
def c8S:Ct:=(18,Z5)::(23,a8c)::(25,a7i)::b1e
theorem b8U{ρ:Env}(h:Sees ρ t6 180)(hd:SeesD ρ t6 4):CtOk Tryz.prog ρ c8S:= .cons (c2b h hd)<| .cons (a7p h)<| .cons (a9W h hd)<|a4c (b0Z h) (b5b hd)
end Go.Proofs.YtldbejmgalhdaaaGreat
