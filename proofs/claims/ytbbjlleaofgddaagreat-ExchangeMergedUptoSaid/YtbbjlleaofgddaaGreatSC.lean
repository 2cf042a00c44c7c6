/- SC, merged: TS6, S7, TS7, S8, S9, TU0, U0, U1. -/
import Derived.Test.YtbbjlleaofgddaaGreatAD
import Derived.Test.YtbbjlleaofgddaaGreatSB
set_option linter.unusedSimpArgs false
set_option linter.unusedVariables false
namespace Go.Proofs.YtbbjlleaofgddaaGreat
open Go.RowKit
def a8G:TT i8:=
(.ite (.cmp .lss (.var 0) (.var 7))
 (.ite (.cmp .lss (.var 1) (.var 8))
 (.ret ((.v (.one (.z (.int .i64 (.lit (-1)))))),[],3))
 (.ite (.cmp .gtr (.var 1) (.var 8))
 (.ret ((.v (.one (.z (.int .i64 (.lit (-1)))))),[],3))
 (.ret ((.v (.one (.z (.int .i64 (.lit (-1)))))),[],3))))
 (.ite (.cmp .gtr (.var 0) (.var 7))
 (.ite (.cmp .lss (.var 1) (.var 8))
 (.ret ((.v (.one (.z (.int .i64 (.lit 1))))),[],3))
 (.ite (.cmp .gtr (.var 1) (.var 8))
 (.ret ((.v (.one (.z (.int .i64 (.lit 1))))),[],3))
 (.ret ((.v (.one (.z (.int .i64 (.lit 1))))),[],3))))
 (.ite (.cmp .lss (.var 1) (.var 8))
 (.ret ((.v (.one (.z (.int .i64 (.lit (-1)))))),[],3))
 (.ite (.cmp .gtr (.var 1) (.var 8))
 (.ret ((.v (.one (.z (.int .i64 (.lit 1))))),[],3))
 (.ret ((.v (.one (.z (.int .i64 (.lit 0))))),[],3))))))
set_option maxRecDepth 100000 in
theorem b4N:T.norm 0 (call Tryz.prog [] (Lt.of []) 100 65 (i5 0 [notS,notS]) [] 0) TT.ret=a8G:=by kernel_rfl
theorem b2A:a8G.low 1000=true:=by kernel_rfl
def V1(a b c d:Int):Int:=if a<c then -1 else if c<a then 1 else if b<d then -1 else if d<b then 1 else 0
def K0(ds:List D):Int:=V1 (a9 ds 0) (a9 ds 1) (a9 ds 7) (a9 ds 8)
theorem c4i:k8 Tryz.prog 65 [notS,notS] (fun ds=> .int .i64 (K0 ds)):=by
 refine GivesIf.all (i6 Q5 (by kernel_rfl) (fun ρ h=> .nil) (by kernel_rfl) b4N b2A (by decide) (fun W vals ds hr _=> ?_))
 have F:∀c,K0 ds=c→Value.int .i64 c=Value.int .i64 (K0 ds):=fun c h=>by rw[h]
 simp only[a8G,g7,Nat.reduceBEq,Nat.reduceLT,Nat.reduceSub]
 refine⟨fun h1=>⟨fun h2=>F _ ?_,fun h2=>⟨fun h3=>F _ ?_,fun h3=>F _ ?_⟩⟩,fun h1=>⟨fun h2=>⟨fun h3=>F _ ?_,fun h3=>⟨fun h4=>F _ ?_,fun h4=>F _ ?_⟩⟩,fun h2=>⟨fun h3=>F _ ?_,fun h3=>⟨fun h4=>F _ ?_,fun h4=>F _ ?_⟩⟩⟩⟩
 all_goals
  unfold K0 V1
  repeat' split
  all_goals omega
def m5(x y:List D):Bool:=decide (V1 (cI x 0) (cI x 1) (cI y 0) (cI y 1)<0)
theorem b3m:Srt.Ord m5:=⟨fun a b h=>by
 unfold m5 at*
 have h:=of_decide_eq_true h
 refine decide_eq_false ?_
 revert h
 unfold V1
 repeat' split
 all_goals omega,fun a b c h1 h2=>by
 unfold m5 at*
 have h1:=of_decide_eq_false h1
 have h2:=of_decide_eq_false h2
 refine decide_eq_false ?_
 revert h1 h2
 unfold V1
 repeat' split
 all_goals omega⟩
def Q7:Interp where
 fi n l:=match n with | 230=>K0 l | n=>Q5.fi n l
 fb n l:=Q5.fb n l
 fd _ _:=[]
theorem c4s{ρ:Env}(h:Sees ρ Q7 240):Sees ρ Q5 230:=h.trans (by decide) fun n l hn=>by
 refine⟨?_,?_⟩
 ·
  simp only[Q7]
  split<;>first | omega | rfl
 ·
  rfl
def b9f:=o9 [notS,notS] fun al=> .ret (iV .i64 (iF 230 K0 al))
theorem b7C{ρ:Env}(h:Sees ρ Q7 240):i4 Tryz.prog ρ 65 b9f:=
 j4 c4i (fun _=>rfl) (fun al=>by simp only[iV,bV,V.s0,V.val,V2.val,S.val,S0.val,O7 (s:=230) (f:=K0) (fun l=>by rw[(h 230 l (by decide)).1];simp only[Q7])];try rfl)
def b2k:Ct:=(65,b9f)::c1l
theorem a5a{ρ:Env}(h:Sees ρ Q7 240):CtOk Tryz.prog ρ b2k:= .cons (b7C h)<|c0J (c4s h)
def a9m:V:= .v (.one (.z (.own 0 (.lit 0))))
def a9v:Mem:=[(0,.own 29 f7 (.var 0) (.lit 0))]
def iN:Ag:= .d (.one (.int .i64))
def fN:Ag:= .f 65
def a4V:TT i8:=
(.loop 0 2000 ⟨[(0,(.lit 0))],[],[(1,(.var 0))]⟩
 (.ite (.cmp .lss (.var 2000) (.var 3))
 (.ob (.tru (.cmp .leq (.lit 0) (.ar .add .i64 (.var 2) (.var 2000))))
 (.ob (.tru (.cmp .lss (.ar .add .i64 (.var 2) (.var 2000)) (.len (.var 2001))))
 (.ob (.tru (.cmp .leq (.lit 0) (.ar .add .i64 (.var 1) (.var 2000))))
 (.ob (.tru (.cmp .lss (.ar .add .i64 (.var 1) (.var 2000)) (.len (.var 2001))))
 (.ob (.tru (.cmp .leq (.lit 0) (.ar .add .i64 (.var 1) (.var 2000))))
 (.ob (.tru (.cmp .lss (.ar .add .i64 (.var 1) (.var 2000)) (.len (.var 2001))))
 (.ob (.tru (.cmp .leq (.lit 0) (.ar .add .i64 (.var 2) (.var 2000))))
 (.ob (.tru (.cmp .lss (.ar .add .i64 (.var 2) (.var 2000)) (.len (.upd (.var 2001) (.ar .add .i64 (.var 1) (.var 2000)) 0 (.i (.rd (.var 2001) (.ar .add .i64 (.var 2) (.var 2000)) 0) (.i (.rd (.var 2001) (.ar .add .i64 (.var 2) (.var 2000)) 1) (.i (.rd (.var 2001) (.ar .add .i64 (.var 2) (.var 2000)) 2) (.i (.rd (.var 2001) (.ar .add .i64 (.var 2) (.var 2000)) 3) (.i (.rd (.var 2001) (.ar .add .i64 (.var 2) (.var 2000)) 4) (.i (.rd (.var 2001) (.ar .add .i64 (.var 2) (.var 2000)) 5) (.x (.rd (.var 2001) (.ar .add .i64 (.var 2) (.var 2000)) 6) .nil)))))))))))
 (.next 0 ⟨[(0,(.ar .add .i64 (.var 2000) (.lit 1)))],[],[(1,(.upd (.upd (.var 2001) (.ar .add .i64 (.var 1) (.var 2000)) 0 (.i (.rd (.var 2001) (.ar .add .i64 (.var 2) (.var 2000)) 0) (.i (.rd (.var 2001) (.ar .add .i64 (.var 2) (.var 2000)) 1) (.i (.rd (.var 2001) (.ar .add .i64 (.var 2) (.var 2000)) 2) (.i (.rd (.var 2001) (.ar .add .i64 (.var 2) (.var 2000)) 3) (.i (.rd (.var 2001) (.ar .add .i64 (.var 2) (.var 2000)) 4) (.i (.rd (.var 2001) (.ar .add .i64 (.var 2) (.var 2000)) 5) (.x (.rd (.var 2001) (.ar .add .i64 (.var 2) (.var 2000)) 6) .nil)))))))) (.ar .add .i64 (.var 2) (.var 2000)) 0 (.i (.rd (.var 2001) (.ar .add .i64 (.var 1) (.var 2000)) 0) (.i (.rd (.var 2001) (.ar .add .i64 (.var 1) (.var 2000)) 1) (.i (.rd (.var 2001) (.ar .add .i64 (.var 1) (.var 2000)) 2) (.i (.rd (.var 2001) (.ar .add .i64 (.var 1) (.var 2000)) 3) (.i (.rd (.var 2001) (.ar .add .i64 (.var 1) (.var 2000)) 4) (.i (.rd (.var 2001) (.ar .add .i64 (.var 1) (.var 2000)) 5) (.x (.rd (.var 2001) (.ar .add .i64 (.var 1) (.var 2000)) 6) .nil)))))))))]⟩)))))))))
 (.ret ((.tup []),[(0,(.own 29 f7 (.var 2001) (.lit 0)))],2))))
def b6l:List (Nat×St):=[
(1,⟨(List.append [(.v (.one (.z (.own 0 (.lit 0))))),(.v (.one (.z (.int .i64 (.var 1))))),(.v (.one (.z (.int .i64 (.var 2))))),(.v (.one (.z (.int .i64 (.var 3))))),(.v (.one (.z (.clo 65 []))))] (List.append (List.replicate 5 V.any) (List.append [(.v (.one (.z (.int .i64 (.var 2000)))))] (List.replicate 27 V.any)))),[(0,(.own 29 f7 (.var 2001) (.lit 0)))],2,[]⟩)]
def b5Q:List (FuncId×Nat×Nat×St):=[
]
set_option maxRecDepth 100000 in
theorem b2M:T.norm 0 (call Tryz.prog b2k ⟨Lt.un (Lt.of []),b6l,b5Q⟩ 100 143 (a9m::A6 1 0 [iN,iN,iN,fN]) a9v 1) TT.ret=a4V:=by kernel_rfl
theorem a9X:a4V.low 1000=true:=by kernel_rfl
def a5S:TT i8:=
(.loop 0 2000 ⟨[(0,(.ar .add .i64 (.var 1) (.lit 1)))],[],[(1,(.var 0))]⟩
 (.ite (.cmp .lss (.var 2000) (.var 2))
 (.loop 1 3000 ⟨[(0,(.var 2000))],[],[(1,(.var 2001))]⟩
 (.ite (.cmp .gtr (.var 3000) (.var 1))
 (.ob (.tru (.cmp .leq (.lit 0) (.var 3000)))
 (.ob (.tru (.cmp .lss (.var 3000) (.len (.var 3001))))
 (.ob (.tru (.cmp .leq (.lit 0) (.ar .sub .i64 (.var 3000) (.lit 1))))
 (.ob (.tru (.cmp .lss (.ar .sub .i64 (.var 3000) (.lit 1)) (.len (.var 3001))))
 (.ite (.cmp .lss (.fn 230 (.i (.rd (.var 3001) (.var 3000) 0) (.i (.rd (.var 3001) (.var 3000) 1) (.i (.rd (.var 3001) (.var 3000) 2) (.i (.rd (.var 3001) (.var 3000) 3) (.i (.rd (.var 3001) (.var 3000) 4) (.i (.rd (.var 3001) (.var 3000) 5) (.x (.rd (.var 3001) (.var 3000) 6) (.i (.rd (.var 3001) (.ar .sub .i64 (.var 3000) (.lit 1)) 0) (.i (.rd (.var 3001) (.ar .sub .i64 (.var 3000) (.lit 1)) 1) (.i (.rd (.var 3001) (.ar .sub .i64 (.var 3000) (.lit 1)) 2) (.i (.rd (.var 3001) (.ar .sub .i64 (.var 3000) (.lit 1)) 3) (.i (.rd (.var 3001) (.ar .sub .i64 (.var 3000) (.lit 1)) 4) (.i (.rd (.var 3001) (.ar .sub .i64 (.var 3000) (.lit 1)) 5) (.x (.rd (.var 3001) (.ar .sub .i64 (.var 3000) (.lit 1)) 6) .nil))))))))))))))) (.lit 0))
 (.ob (.tru (.cmp .leq (.lit 0) (.ar .sub .i64 (.var 3000) (.lit 1))))
 (.ob (.tru (.cmp .lss (.ar .sub .i64 (.var 3000) (.lit 1)) (.len (.var 3001))))
 (.ob (.tru (.cmp .leq (.lit 0) (.var 3000)))
 (.ob (.tru (.cmp .lss (.var 3000) (.len (.var 3001))))
 (.ob (.tru (.cmp .leq (.lit 0) (.var 3000)))
 (.ob (.tru (.cmp .lss (.var 3000) (.len (.var 3001))))
 (.ob (.tru (.cmp .leq (.lit 0) (.ar .sub .i64 (.var 3000) (.lit 1))))
 (.ob (.tru (.cmp .lss (.ar .sub .i64 (.var 3000) (.lit 1)) (.len (.upd (.var 3001) (.var 3000) 0 (.i (.rd (.var 3001) (.ar .sub .i64 (.var 3000) (.lit 1)) 0) (.i (.rd (.var 3001) (.ar .sub .i64 (.var 3000) (.lit 1)) 1) (.i (.rd (.var 3001) (.ar .sub .i64 (.var 3000) (.lit 1)) 2) (.i (.rd (.var 3001) (.ar .sub .i64 (.var 3000) (.lit 1)) 3) (.i (.rd (.var 3001) (.ar .sub .i64 (.var 3000) (.lit 1)) 4) (.i (.rd (.var 3001) (.ar .sub .i64 (.var 3000) (.lit 1)) 5) (.x (.rd (.var 3001) (.ar .sub .i64 (.var 3000) (.lit 1)) 6) .nil)))))))))))
 (.next 1 ⟨[(0,(.ar .sub .i64 (.var 3000) (.lit 1)))],[],[(1,(.upd (.upd (.var 3001) (.var 3000) 0 (.i (.rd (.var 3001) (.ar .sub .i64 (.var 3000) (.lit 1)) 0) (.i (.rd (.var 3001) (.ar .sub .i64 (.var 3000) (.lit 1)) 1) (.i (.rd (.var 3001) (.ar .sub .i64 (.var 3000) (.lit 1)) 2) (.i (.rd (.var 3001) (.ar .sub .i64 (.var 3000) (.lit 1)) 3) (.i (.rd (.var 3001) (.ar .sub .i64 (.var 3000) (.lit 1)) 4) (.i (.rd (.var 3001) (.ar .sub .i64 (.var 3000) (.lit 1)) 5) (.x (.rd (.var 3001) (.ar .sub .i64 (.var 3000) (.lit 1)) 6) .nil)))))))) (.ar .sub .i64 (.var 3000) (.lit 1)) 0 (.i (.rd (.var 3001) (.var 3000) 0) (.i (.rd (.var 3001) (.var 3000) 1) (.i (.rd (.var 3001) (.var 3000) 2) (.i (.rd (.var 3001) (.var 3000) 3) (.i (.rd (.var 3001) (.var 3000) 4) (.i (.rd (.var 3001) (.var 3000) 5) (.x (.rd (.var 3001) (.var 3000) 6) .nil)))))))))]⟩)))))))))
 (.next 0 ⟨[(0,(.ar .add .i64 (.var 2000) (.lit 1)))],[],[(1,(.var 3001))]⟩))))))
 (.next 0 ⟨[(0,(.ar .add .i64 (.var 2000) (.lit 1)))],[],[(1,(.var 3001))]⟩)))
 (.ret ((.tup []),[(0,(.own 29 f7 (.var 2001) (.lit 0)))],3))))
def b4e:List (Nat×St):=[
(1,⟨(List.append [(.v (.one (.z (.own 0 (.lit 0))))),(.v (.one (.z (.int .i64 (.var 1))))),(.v (.one (.z (.int .i64 (.var 2))))),(.v (.one (.z (.clo 65 []))))] (List.append (List.replicate 4 V.any) (List.append [(.v (.one (.z (.int .i64 (.var 2000))))),(.v (.one (.z .any))),(.v (.one (.z (.int .i64 (.var 1))))),(.v (.one (.z (.int .i64 (.ar .add .i64 (.var 1) (.lit 1))))))] (List.replicate 41 V.any)))),[(0,(.own 29 f7 (.var 2001) (.lit 0)))],2,[]⟩),
(2,⟨(List.append [(.v (.one (.z (.own 0 (.lit 0))))),(.v (.one (.z (.int .i64 (.var 1))))),(.v (.one (.z (.int .i64 (.var 2))))),(.v (.one (.z (.clo 65 []))))] (List.append (List.replicate 4 V.any) (List.append [(.v (.one (.z (.int .i64 (.var 2000))))),(.v (.one (.z (.int .i64 (.var 3000))))),(.v (.one (.z (.int .i64 (.var 1))))),(.v (.one (.z (.int .i64 (.ar .add .i64 (.var 1) (.lit 1)))))),(.v (.one (.z (.int .i64 (.var 2000))))),(.v (.one (.z (.int .i64 (.var 2))))),(.v (.one (.z (.bool (.cmp .lss (.var 2000) (.var 2)))))),(.v (.one (.z .any))),(.v (.one (.z .any))),(.v (.one (.z (.int .i64 (.var 2000)))))] (List.replicate 35 V.any)))),[(0,(.own 29 f7 (.var 3001) (.lit 0)))],3,[]⟩)]
def b4C:List (FuncId×Nat×Nat×St):=[
]
set_option maxRecDepth 100000 in
theorem b2s:T.norm 0 (call Tryz.prog b2k ⟨Lt.un (Lt.of []),b4e,b4C⟩ 100 119 (a9m::A6 1 0 [iN,iN,fN]) a9v 1) TT.ret=a5S:=by kernel_rfl
theorem a9D:a5S.low 1000=true:=by kernel_rfl
namespace Srt
theorem swp_mem{α:Type}{r:List α}{i j:Nat}{x:α}(h:x∈swp r i j):x∈r:=by
 unfold swp at h
 split at h
 ·rename_i a b ha hb
  have h1:=List.mem_or_eq_of_mem_set h
  rcases h1 with h1 | rfl
  ·rcases List.mem_or_eq_of_mem_set h1 with h2 | rfl
   ·exact h2
   ·exact List.mem_of_getElem? hb
  ·exact List.mem_of_getElem? ha
 ·exact h
theorem swT_mem{α:Type}{r:List α}{a b:Nat}{x:α}:∀ {n:Nat},x∈swT r a b n→x∈r
 | 0,h=>h
 | n+1,h=>swT_mem (n:=n) (swp_mem h)
theorem a9k{α:Type}{lt:α→α→Bool}{x:α}:∀ {f:Nat} {r:List α} {a:Nat},x∈bubN lt f r a→x∈r
 | 0,_,_,h=>h
 | f+1,r,a,h=>by
   rw[bubN] at h
   split at h
   ·exact swp_mem (a9k h)
   ·exact h
theorem insK_mem{α:Type}{lt:α→α→Bool}{x:α}{r:List α}{a:Nat}:∀ {n:Nat},x∈insK lt r a n→x∈r
 | 0,h=>h
 | n+1,h=>insK_mem (n:=n) (a9k h)
end Srt
theorem a5P{r:Rows}(hr:∀row∈r,m6 row){i:Nat}(hi:i<r.length):[D.i (lg r (i:Int) 0),.i (lg r (i:Int) 1),.i (lg r (i:Int) 2),.i (lg r (i:Int) 3),.i (lg r (i:Int) 4),.i (lg r (i:Int) 5),.l (lr r (i:Int) 6)]=r[i]:=by
 simp only[q7 hi,u6 hi]
 exact(hr _ (List.getElem_mem hi)).1.symm
theorem a5u{w:World}{r:Rows}(h:∀row∈r,∃us,CK.reps w f7 us row):∀row∈r,m6 row:=fun row hrow=>by
 obtain⟨us,h⟩:=h row hrow
 exact J9 (Y4 _ _ _ h)
theorem a8T{row:List D}(h:m6 row):row.length=7:=by rw[h.1];rfl
theorem a2j{r:Rows}(hr:∀row∈r,m6 row){i j:Int}{m n:Nat}(hi:i=m)(hj:j=n)(hm:m<r.length)(hn:n<r.length):
 z9 (z9 r i 0 [D.i (lg r j 0),.i (lg r j 1),.i (lg r j 2),.i (lg r j 3),.i (lg r j 4),.i (lg r j 5),.l (lr r j 6)]) j 0 [D.i (lg r i 0),.i (lg r i 1),.i (lg r i 2),.i (lg r i 3),.i (lg r i 4),.i (lg r i 5),.l (lr r i 6)]=Srt.swp r m n:=by
 subst hi;subst hj
 rw[a5P hr hm,a5P hr hn]
 exact Srt.swp_upd rfl rfl (List.getElem?_eq_getElem hm) (List.getElem?_eq_getElem hn) (by rw[a8T (hr _ (List.getElem_mem hm)),a8T (hr _ (List.getElem_mem hn))])
def a4c(ds:List D):Bool:=decide (0≤a9 ds 1∧0≤a9 ds 3∧a9 ds 1+a9 ds 3≤a9 ds 2∧a9 ds 2+a9 ds 3≤(f8 ds 0).length∧(f8 ds 0).length≤1000)
def a7Q(ds:List D):Rows:=Srt.swT (f8 ds 0) (a9 ds 1).toNat (a9 ds 2).toNat (a9 ds 3).toNat
theorem c3I:F2 Tryz.prog 143 29 f7 [iN,iN,iN,fN] (fun ds=>a4c ds=true) a7Q:=by
 refine Y3 Q7 (by kernel_rfl) (fun ρ h=>a5a (Sees.of h 240)) (by kernel_rfl) (by kernel_rfl) b2M a9X (by decide) (fun w0 r0 vals ds0 hbig hrow0 hr hok=> ?_)
 have hrow:=a5u hrow0
 have e0:f8 (.l r0::ds0) 0=r0:=rfl
 clear hr hrow0 hbig
 generalize D.l r0::ds0=ds at*
 have hok:=of_decide_eq_true hok
 rw[e0] at hok
 obtain⟨a,ha⟩:=Int.eq_ofNat_of_zero_le hok.1
 obtain⟨n,hn⟩:=Int.eq_ofNat_of_zero_le hok.2.1
 obtain⟨b,hb⟩:=Int.eq_ofNat_of_zero_le (a:=a9 ds 2) (by omega)
 simp only[a4V]
 refine TT.sat_loop (fun v=>∃k:Nat,v.i 0=k∧k≤n∧v.d 1=Srt.swT r0 a b k) (fun v=>n-(v.i 0).toNat)
  ⟨0,by simp [o6,j6,E.ev],by omega,by simp [Y8,j6,X.ev];exact e0⟩ (fun v hv=> ?_)
 obtain⟨k,k0,k1,k2⟩:=hv
 simp only[g7,Nat.reduceBEq,Nat.reduceLT,Nat.reduceSub,k0,k2,ha,hb,hn,e0]
 have hsl:=Srt.swT_len r0 a b k
 have hmem:∀row∈Srt.swT r0 a b k,m6 row:=fun row h=>hrow row (Srt.swT_mem h)
 rw[f9 ((a:Int)+k) (by omega) (by omega),f9 ((b:Int)+k) (by omega) (by omega),f9 ((k:Int)+1) (by omega) (by omega)]
 refine⟨fun hc=> ?_,fun hc=> ?_⟩
 ·have hl:∀l,(z9 (Srt.swT r0 a b k) ((a:Int)+k) 0 l).length=r0.length:=fun l=>by rw[Srt.updR_len,hsl]
  have hx:=a2j hmem (i:=(a:Int)+k) (j:=(b:Int)+k) (m:=a+k) (n:=b+k) (by omega) (by omega) (by omega) (by omega)
  rw[hl,hsl,hx]
  exact⟨by omega,by omega,by omega,by omega,by omega,by omega,by omega,by omega,⟨k+1,rfl,by omega,rfl⟩,by omega⟩
 ·refine⟨rfl,.inl ⟨_,rfl,?_⟩⟩
  simp only[X.ev,p7,g7,Nat.reduceBEq,Nat.reduceLT,Nat.reduceSub,k2]
  rw[show k=n by omega]
  unfold a7Q
  rw[e0,ha,hb,hn]
  rfl
def a4q(ds:List D):Bool:=decide (0≤a9 ds 1∧a9 ds 1≤a9 ds 2∧a9 ds 2≤(f8 ds 0).length∧(f8 ds 0).length≤1000)
def a4R(ds:List D):Rows:=Srt.insK m5 (f8 ds 0) (a9 ds 1).toNat ((a9 ds 2).toNat-(a9 ds 1).toNat-1)
theorem c1A(W:World)(ds l:List D):(g8 Q7 W ds).fi 230 l=K0 l:=by simp only[g8,Q7]
theorem a2p{r:Rows}{i j:Int}{m n:Nat}(hi:i=m)(hj:j=n)(hm:m<r.length)(hn:n<r.length):Srt.lts m5 r m n=decide (K0 [.i (lg r i 0),.i (lg r i 1),.i (lg r i 2),.i (lg r i 3),.i (lg r i 4),.i (lg r i 5),.l (lr r i 6),.i (lg r j 0),.i (lg r j 1),.i (lg r j 2),.i (lg r j 3),.i (lg r j 4),.i (lg r j 5),.l (lr r j 6)]<0):=by
 subst hi;subst hj
 rw[Srt.lts_of (List.getElem?_eq_getElem hm) (List.getElem?_eq_getElem hn)]
 simp only[q7 hm,q7 hn]
 rfl
theorem c5f:F2 Tryz.prog 119 29 f7 [iN,iN,fN] (fun ds=>a4q ds=true) a4R:=by
 refine Y3 Q7 (by kernel_rfl) (fun ρ h=>a5a (Sees.of h 240)) (by kernel_rfl) (by kernel_rfl) b2s a9D (by decide) (fun w0 r0 vals ds0 hbig hrow0 hr hok=> ?_)
 have hrow:=a5u hrow0
 have e0:f8 (.l r0::ds0) 0=r0:=rfl
 clear hr hrow0 hbig
 generalize D.l r0::ds0=ds at*
 have hok:=of_decide_eq_true hok
 rw[e0] at hok
 obtain⟨a,ha⟩:=Int.eq_ofNat_of_zero_le hok.1
 obtain⟨b,hb⟩:=Int.eq_ofNat_of_zero_le (a:=a9 ds 2) (by omega)
 simp only[a5S]
 refine TT.sat_loop (fun v=>∃k:Nat,v.i 0=(a:Int)+1+k∧(a+1+k≤b∨k=0)∧v.d 1=Srt.insK m5 r0 a k) (fun v=>b-(v.i 0).toNat)
  ⟨0,by simp only[g7,Nat.reduceBEq,Nat.reduceLT,Nat.reduceSub,ha];rw[f9 ((a:Int)+1) (by omega) (by omega)];omega,by omega,by simp [Y8,j6,X.ev];exact e0⟩ (fun v hv=> ?_)
 obtain⟨k,k0,k1,k2⟩:=hv
 have hsl:=Srt.insK_len (lt:=m5) r0 a k
 have hmem:∀row∈Srt.insK m5 r0 a k,m6 row:=fun row h=>hrow row (Srt.insK_mem h)
 simp only[g7,Nat.reduceBEq,Nat.reduceLT,Nat.reduceSub,k0,hb]
 refine⟨fun hc=> ?_,fun hc=> ?_⟩
 ·have hz:(a:Int)+1+(k:Int)=(a:Int)+((k+1:Nat):Int):=by omega
  refine TT.sat_loop (fun u=>∃f:Nat,u.i 0=(a:Int)+f∧f≤k+1∧(u.d 1).length=r0.length∧(∀row∈u.d 1,m6 row)∧Srt.bubN m5 f (u.d 1) a=Srt.insK m5 r0 a (k+1)) (fun u=>(u.i 0).toNat)
   ⟨k+1,by simp only[g7,Nat.reduceBEq,Nat.reduceLT,Nat.reduceSub,k0];exact hz,by omega,by simp [Y8,j6,X.ev,p7,k2,hsl],by simp only[Y8,j6,X.ev,p7,g7,Nat.reduceBEq,Nat.reduceLT,Nat.reduceSub,k2];exact hmem,by simp only[Y8,j6,X.ev,p7,g7,Nat.reduceBEq,Nat.reduceLT,Nat.reduceSub,k2];rfl⟩ (fun u hu=> ?_)
  obtain⟨f,f0,f1,f2,f3,f4⟩:=hu
  simp only[g7,Nat.reduceBEq,Nat.reduceLT,Nat.reduceSub,f0,ha,k0,c1A]
  refine⟨fun hf=> ?_,fun hf=> ?_⟩
  ·obtain⟨g,rfl⟩:∃g,f=g+1:=⟨f-1,by omega⟩
   rw[f9 ((a:Int)+((g+1:Nat):Int)-1) (by omega) (by omega),f9 ((a:Int)+1+(k:Int)+1) (by omega) (by omega)]
   have hl:∀l,(z9 (u.d 1) ((a:Int)+((g+1:Nat):Int)) 0 l).length=r0.length:=fun l=>by rw[Srt.updR_len,f2]
   have hx:=a2j f3 (i:=(a:Int)+((g+1:Nat):Int)) (j:=(a:Int)+((g+1:Nat):Int)-1) (m:=a+g+1) (n:=a+g) (by omega) (by omega) (by omega) (by omega)
   have hq:=a2p (r:=u.d 1) (i:=(a:Int)+((g+1:Nat):Int)) (j:=(a:Int)+((g+1:Nat):Int)-1) (m:=a+g+1) (n:=a+g) (by omega) (by omega) (by omega) (by omega)
   rw[hl,f2,hx]
   rw[Srt.bubN,hq] at f4
   refine⟨by omega,by omega,by omega,by omega,fun hc1=> ?_,fun hc1=> ?_⟩
   ·rw[if_pos (decide_eq_true hc1)] at f4
    exact⟨by omega,by omega,by omega,by omega,by omega,by omega,by omega,by omega,⟨g,by omega,by omega,by rw[Srt.swp_len,f2],fun row h=>f3 row (Srt.swp_mem h),f4⟩,by omega⟩
   ·rw[if_neg (by rw[decide_eq_false hc1];decide)] at f4
    exact⟨⟨k+1,by omega,by omega,f4⟩,by omega⟩
  ·rw[f9 ((a:Int)+1+(k:Int)+1) (by omega) (by omega)]
   obtain rfl:f=0:=by omega
   exact⟨⟨k+1,by omega,by omega,f4⟩,by omega⟩
 ·refine⟨rfl,.inl ⟨_,rfl,?_⟩⟩
  simp only[X.ev,p7,g7,Nat.reduceBEq,Nat.reduceLT,Nat.reduceSub,k2]
  unfold a4R
  rw[e0,ha,hb,show(b:Int).toNat-(a:Int).toNat-1=k by omega]
  rfl
def Q8:Interp where
 fi n l:=Q7.fi n l
 fb n l:=match n with | 240=>a4c l | 241=>a4q l | n=>Q7.fb n l
 fd n l:=match n with | 0=>a7Q l | 1=>a4R l | n=>Q7.fd n l
theorem c4F{ρ:Env}(h:Sees ρ Q8 250):Sees ρ Q7 240:=h.trans (by decide) fun n l hn=>by
 refine⟨?_,?_⟩
 ·
  rfl
 ·
  simp only[Q8]
  split<;>first | omega | rfl
theorem J1{ρ:Env}{n:Nat}{okB:List D→Bool}(hb:∀l,ρ.fb n l=okB l)(al:AL)(h:∀o∈[Ob.tru (.fn n al)],o.ok ρ):okB (al.ev ρ)=true:=by
 have h:=h _ (List.mem_singleton.2 rfl)
 simp only[Ob.ok,B.ev,hb] at h
 exact h
def b6h:=a3a 29 f7 [iN,iN,iN,fN] 0 (fun al=>[.tru (.fn 240 al)])
def b9s:=a3a 29 f7 [iN,iN,fN] 1 (fun al=>[.tru (.fn 241 al)])
theorem b5c{ρ:Env}(h:Sees ρ Q8 250)(hd:SeesD ρ Q8 2):i4 Tryz.prog ρ 143 b6h:=
 U1 c3I (by kernel_rfl) (J1 fun l=>(h 240 l (by decide)).2.trans rfl) (fun a=>(hd 0 a (by decide)).trans rfl)
theorem b8F{ρ:Env}(h:Sees ρ Q8 250)(hd:SeesD ρ Q8 2):i4 Tryz.prog ρ 119 b9s:=
 U1 c5f (by kernel_rfl) (J1 fun l=>(h 241 l (by decide)).2.trans rfl) (fun a=>(hd 1 a (by decide)).trans rfl)
def b7F:Ct:=(143,b6h)::(119,b9s)::b2k
theorem b0n{ρ:Env}(h:Sees ρ Q8 250)(hd:SeesD ρ Q8 2):CtOk Tryz.prog ρ b7F:= .cons (b5c h hd)<| .cons (b8F h hd)<|a5a (c4F h)
def a7C:TT i8:=
(.loop 0 2000 ⟨[(0,(.ar .sub .i64 (.var 2) (.var 1))),(2,(.ar .sub .i64 (.var 3) (.var 2)))],[],[(1,(.var 0))]⟩
 (.ite (.cmp .neq (.var 2000) (.var 2002))
 (.ite (.cmp .gtr (.var 2000) (.var 2002))
 (.ob (.tru (.fn 240 (.x (.var 2001) (.i (.ar .sub .i64 (.var 2) (.var 2000)) (.i (.var 2) (.i (.var 2002) .nil))))))
 (.next 0 ⟨[(0,(.ar .sub .i64 (.var 2000) (.var 2002))),(2,(.var 2002))],[],[(1,(.fn 0 (.x (.var 2001) (.i (.ar .sub .i64 (.var 2) (.var 2000)) (.i (.var 2) (.i (.var 2002) .nil))))))]⟩))
 (.ob (.tru (.fn 240 (.x (.var 2001) (.i (.ar .sub .i64 (.var 2) (.var 2000)) (.i (.ar .sub .i64 (.ar .add .i64 (.var 2) (.var 2002)) (.var 2000)) (.i (.var 2000) .nil))))))
 (.next 0 ⟨[(0,(.var 2000)),(2,(.ar .sub .i64 (.var 2002) (.var 2000)))],[],[(1,(.fn 0 (.x (.var 2001) (.i (.ar .sub .i64 (.var 2) (.var 2000)) (.i (.ar .sub .i64 (.ar .add .i64 (.var 2) (.var 2002)) (.var 2000)) (.i (.var 2000) .nil))))))]⟩)))
 (.ob (.tru (.fn 240 (.x (.var 2001) (.i (.ar .sub .i64 (.var 2) (.var 2000)) (.i (.var 2) (.i (.var 2000) .nil))))))
 (.ret ((.tup []),[(0,(.own 29 f7 (.fn 0 (.x (.var 2001) (.i (.ar .sub .i64 (.var 2) (.var 2000)) (.i (.var 2) (.i (.var 2000) .nil))))) (.lit 0))),(0,(.own 29 f7 (.var 2001) (.lit 0)))],2)))))
def b8C:List (Nat×St):=[
(1,⟨(List.append [(.v (.one (.z (.own 0 (.lit 0))))),(.v (.one (.z (.int .i64 (.var 1))))),(.v (.one (.z (.int .i64 (.var 2))))),(.v (.one (.z (.int .i64 (.var 3))))),(.v (.one (.z (.clo 65 []))))] (List.append (List.replicate 5 V.any) (List.append [(.v (.one (.z (.int .i64 (.var 2000))))),(.v (.one (.z (.int .i64 (.var 2002))))),(.v (.one (.z (.int .i64 (.var 2))))),(.v (.one (.z (.int .i64 (.var 1))))),(.v (.one (.z (.int .i64 (.ar .sub .i64 (.var 2) (.var 1)))))),(.v (.one (.z (.int .i64 (.var 3))))),(.v (.one (.z (.int .i64 (.var 2))))),(.v (.one (.z (.int .i64 (.ar .sub .i64 (.var 3) (.var 2))))))] (List.replicate 40 V.any)))),[(0,(.own 29 f7 (.var 2001) (.lit 0)))],2,[]⟩)]
def b6I:List (FuncId×Nat×Nat×St):=[
]
set_option maxRecDepth 100000 in
theorem b4T:T.norm 0 (call Tryz.prog b7F ⟨Lt.un (Lt.of []),b8C,b6I⟩ 100 133 (a9m::A6 1 0 [iN,iN,iN,fN]) a9v 1) TT.ret=a7C:=by kernel_rfl
theorem b3j:a7C.low 1000=true:=by kernel_rfl
def a4S(ds:List D):Bool:=decide (0≤a9 ds 1∧a9 ds 1<a9 ds 2∧a9 ds 2<a9 ds 3∧a9 ds 3≤(f8 ds 0).length∧(f8 ds 0).length≤1000)
def a3j(ds:List D):Rows:=Srt.rotS (f8 ds 0) (a9 ds 1).toNat (a9 ds 2).toNat (a9 ds 3).toNat
theorem c1g(W:World)(ds l:List D):(g8 Q8 W ds).fb 240 l=a4c l:=by simp only[g8,Q8]
theorem c1V{w:World}{ds:List D}(l:List D):(g8 Q8 w ds).fd 0 l=a7Q l:=by show Q8.fd 0 l=_;simp only[Q8]
theorem b5w(r:Rows)(a b n:Nat):a7Q [.l r,.i (a:Int),.i (b:Int),.i (n:Int)]=Srt.swT r a b n:=rfl
theorem a8l{r:Rows}{a b n:Nat}(h1:a+n≤b)(h2:b+n≤r.length)(h3:r.length≤1000):a4c [.l r,.i (a:Int),.i (b:Int),.i (n:Int)]=true:=by
 unfold a4c
 refine decide_eq_true ?_
 show 0≤(a:Int)∧0≤(n:Int)∧(a:Int)+n≤b∧(b:Int)+n≤(r.length:Nat)∧r.length≤1000
 omega
theorem c5x:F2 Tryz.prog 133 29 f7 [iN,iN,iN,fN] (fun ds=>a4S ds=true) a3j:=by
 refine Y3 Q8 (by kernel_rfl) (fun ρ h=>b0n (Sees.of h 250) (SeesD.of h 2)) (by kernel_rfl) (by kernel_rfl) b4T b3j (by decide) (fun w0 r0 vals ds0 hbig hrow0 hr hok=> ?_)
 have e0:f8 (.l r0::ds0) 0=r0:=rfl
 clear hr hrow0 hbig
 generalize D.l r0::ds0=ds at*
 have hok:=of_decide_eq_true hok
 rw[e0] at hok
 obtain⟨a,ha⟩:=Int.eq_ofNat_of_zero_le hok.1
 obtain⟨m,hm⟩:=Int.eq_ofNat_of_zero_le (a:=a9 ds 2) (by omega)
 obtain⟨b,hb⟩:=Int.eq_ofNat_of_zero_le (a:=a9 ds 3) (by omega)
 have hR:a3j ds=Srt.rotN (b-a) r0 m (m-a) (b-m):=by unfold a3j;rw[e0,ha,hm,hb];rfl
 simp only[a7C]
 refine TT.sat_loop (fun v=>∃f i j:Nat,v.i 0=i∧v.i 2=j∧0<i∧0<j∧i≤m∧m+j≤r0.length∧i+j≤f∧(v.d 1).length=r0.length∧Srt.rotN f (v.d 1) m i j=a3j ds) (fun v=>(v.i 0).toNat+(v.i 2).toNat)
  ⟨b-a,m-a,b-m,?_,?_,by omega,by omega,by omega,by omega,by omega,by simp only[g7,Nat.reduceBEq,Nat.reduceLT,Nat.reduceSub,e0],by simp only[g7,Nat.reduceBEq,Nat.reduceLT,Nat.reduceSub,e0];rw[hR]⟩ (fun v hv=> ?_)
 ·simp only[g7,Nat.reduceBEq,Nat.reduceLT,Nat.reduceSub,ha,hm]
  rw[f9 ((m:Int)-a) (by omega) (by omega)];omega
 ·simp only[g7,Nat.reduceBEq,Nat.reduceLT,Nat.reduceSub,hb,hm]
  rw[f9 ((b:Int)-m) (by omega) (by omega)];omega
 obtain⟨f,i,j,i0,j0,h1,h2,h3,h4,h5,h6,h7⟩:=hv
 obtain⟨g,rfl⟩:∃g,f=g+1:=⟨f-1,by omega⟩
 simp only[g7,Nat.reduceBEq,Nat.reduceLT,Nat.reduceSub,i0,j0,hm,c1g,c1V]
 rw[f9 ((m:Int)-i) (by omega) (by omega),f9 ((m:Int)+j) (by omega) (by omega),f9 ((m:Int)+j-i) (by omega) (by omega)]
 rw[show(m:Int)-i=((m-i:Nat):Int) by omega,show(m:Int)+j-i=((m+j-i:Nat):Int) by omega]
 simp only[b5w]
 rw[Srt.rotN] at h7
 refine⟨fun hne=>⟨fun hgt=> ?_,fun hle=> ?_⟩,fun heq=> ?_⟩
 ·rw[f9 ((i:Int)-j) (by omega) (by omega)]
  rw[if_neg (by omega),if_pos (by omega)] at h7
  exact⟨a8l (by omega) (by omega) (by omega),⟨g,i-j,j,by omega,rfl,by omega,by omega,by omega,by omega,by omega,by rw[Srt.swT_len,h6],h7⟩,by omega⟩
 ·rw[f9 ((j:Int)-i) (by omega) (by omega)]
  rw[if_neg (by omega),if_neg (by omega)] at h7
  exact⟨a8l (by omega) (by omega) (by omega),⟨g,i,j-i,rfl,by omega,by omega,by omega,by omega,by omega,by omega,by rw[Srt.swT_len,h6],h7⟩,by omega⟩
 ·rw[if_pos (by omega)] at h7
  refine⟨a8l (by omega) (by omega) (by omega),rfl,.inl ⟨_,rfl,?_⟩⟩
  simp only[X.ev,p7,g7,Nat.reduceBEq,Nat.reduceLT,Nat.reduceSub,i0,j0,hm,c1V]
  rw[f9 ((m:Int)-i) (by omega) (by omega),show(m:Int)-i=((m-i:Nat):Int) by omega,b5w]
  exact h7
def Q9:Interp where
 fi n l:=Q8.fi n l
 fb n l:=match n with | 250=>a4S l | n=>Q8.fb n l
 fd n l:=match n with | 2=>a3j l | n=>Q8.fd n l
theorem c2k{ρ:Env}(h:SeesD ρ Q9 3):SeesD ρ Q8 2:=fun n l hn=>by
 rw[h n l (by omega)]
 simp only[Q9]
 split<;>first | omega | rfl
theorem c4J{ρ:Env}(h:Sees ρ Q9 260):Sees ρ Q8 250:=h.trans (by decide) fun n l hn=>by
 refine⟨?_,?_⟩
 ·
  rfl
 ·
  simp only[Q9]
  split<;>first | omega | rfl
def b9D:=a3a 29 f7 [iN,iN,iN,fN] 2 (fun al=>[.tru (.fn 250 al)])
theorem b6G{ρ:Env}(h:Sees ρ Q9 260)(hd:SeesD ρ Q9 3):i4 Tryz.prog ρ 133 b9D:=
 U1 c5x (by kernel_rfl) (J1 fun l=>(h 250 l (by decide)).2.trans rfl) (fun a=>(hd 2 a (by decide)).trans rfl)
def b9b:Ct:=(133,b9D)::b7F
theorem a7G{ρ:Env}(h:Sees ρ Q9 260)(hd:SeesD ρ Q9 3):CtOk Tryz.prog ρ b9b:= .cons (b6G h hd)<|b0n (c4J h) (c2k hd)
def M0(ds:List D):Bool:=decide (0≤a9 ds 1∧a9 ds 1<a9 ds 2∧a9 ds 2<a9 ds 3∧a9 ds 3≤(f8 ds 0).length∧(f8 ds 0).length≤1000)
def S6(K:Nat)(ds:List D):Bool:=M0 ds&&decide (a9 ds 3-a9 ds 1<K)
def U7(ds:List D):Rows:=Srt.symN m5 ((a9 ds 3).toNat-(a9 ds 1).toNat) (f8 ds 0) (a9 ds 1).toNat (a9 ds 2).toNat (a9 ds 3).toNat
def a5C:List Ag:=[iN,iN,iN,fN]
def b9G:=a3a 29 f7 a5C 3 (fun al=>[.tru (.fn 260 al)])
def a6V:Ct:=(120,b9G)::b9b
end Go.Proofs.YtbbjlleaofgddaaGreat
