/- SE, merged: TU4, U5, Ys, TU6, U6, U7. -/
import Derived.Test.YtbbjlleaofgddaaGreatSD
import Derived.Test.YtbbjlleaofgddaaGreatMZ
set_option linter.unusedSimpArgs false
set_option linter.unusedVariables false
namespace Go.Proofs.YtbbjlleaofgddaaGreat
open Go.RowKit
def a5R:TT i8:=
(.loop 0 2000 ⟨[(0,(.lit 0)),(1,(.lit 20))],[],[(2,(.var 0))]⟩
 (.ite (.cmp .leq (.var 2001) (.len (.var 0)))
 (.ob (.tru (.fn 241 (.x (.var 2002) (.i (.var 2000) (.i (.var 2001) .nil)))))
 (.next 0 ⟨[(0,(.var 2001)),(1,(.ar .add .i64 (.var 2001) (.lit 20)))],[],[(2,(.fn 1 (.x (.var 2002) (.i (.var 2000) (.i (.var 2001) .nil)))))]⟩))
 (.ob (.tru (.fn 241 (.x (.var 2002) (.i (.var 2000) (.i (.len (.var 0)) .nil)))))
 (.loop 1 3000 ⟨[(0,(.lit 20)),(1,(.var 2000)),(2,(.var 2001))],[],[(3,(.fn 1 (.x (.var 2002) (.i (.var 2000) (.i (.len (.var 0)) .nil)))))]⟩
 (.ite (.cmp .lss (.var 3000) (.len (.var 0)))
 (.loop 2 4000 ⟨[(0,(.lit 0)),(1,(.ar .mul .i64 (.lit 2) (.var 3000)))],[],[(2,(.var 3003))]⟩
 (.ite (.cmp .leq (.var 4001) (.len (.var 0)))
 (.ob (.tru (.fn 260 (.x (.var 4002) (.i (.var 4000) (.i (.ar .add .i64 (.var 4000) (.var 3000)) (.i (.var 4001) .nil))))))
 (.next 2 ⟨[(0,(.var 4001)),(1,(.ar .add .i64 (.var 4001) (.ar .mul .i64 (.lit 2) (.var 3000))))],[],[(2,(.fn 3 (.x (.var 4002) (.i (.var 4000) (.i (.ar .add .i64 (.var 4000) (.var 3000)) (.i (.var 4001) .nil))))))]⟩))
 (.ite (.cmp .lss (.ar .add .i64 (.var 4000) (.var 3000)) (.len (.var 0)))
 (.ob (.tru (.fn 260 (.x (.var 4002) (.i (.var 4000) (.i (.ar .add .i64 (.var 4000) (.var 3000)) (.i (.len (.var 0)) .nil))))))
 (.next 1 ⟨[(0,(.ar .mul .i64 (.var 3000) (.lit 2))),(1,(.var 4000)),(2,(.var 4001))],[],[(3,(.fn 3 (.x (.var 4002) (.i (.var 4000) (.i (.ar .add .i64 (.var 4000) (.var 3000)) (.i (.len (.var 0)) .nil))))))]⟩))
 (.next 1 ⟨[(0,(.ar .mul .i64 (.var 3000) (.lit 2))),(1,(.var 4000)),(2,(.var 4001))],[],[(3,(.var 4002))]⟩))))
 (.ret ((.tup []),[(0,(.own 29 f7 (.var 3003) (.lit 0))),(0,(.own 29 f7 (.fn 1 (.x (.var 2002) (.i (.var 2000) (.i (.len (.var 0)) .nil)))) (.lit 0))),(0,(.own 29 f7 (.var 2002) (.lit 0)))],4)))))))
def b5i:List (Nat×St):=[
(1,⟨(List.append [(.v (.one (.z (.own 0 (.lit 0))))),(.v (.one (.z (.int .i64 (.len (.var 0)))))),(.v (.one (.z (.clo 65 [])))),(.v (.one (.z .any))),(.v (.one (.z .any))),(.v (.one (.z .any))),(.v (.one (.z (.int .i64 (.lit 20))))),(.v (.one (.z (.int .i64 (.var 2000))))),(.v (.one (.z (.int .i64 (.var 2001))))),(.v (.one (.z .any))),(.v (.one (.z (.int .i64 (.lit 20)))))] (List.replicate 52 V.any)),[(0,(.own 29 f7 (.var 2002) (.lit 0)))],2,[]⟩),
(2,⟨(List.append [(.v (.one (.z (.own 0 (.lit 0))))),(.v (.one (.z (.int .i64 (.len (.var 0)))))),(.v (.one (.z (.clo 65 [])))),(.v (.one (.z .any))),(.v (.one (.z .any))),(.v (.one (.z .any))),(.v (.one (.z (.int .i64 (.var 3000))))),(.v (.one (.z (.int .i64 (.var 3001))))),(.v (.one (.z (.int .i64 (.var 3002))))),(.v (.one (.z .any))),(.v (.one (.z (.int .i64 (.lit 20))))),(.v (.one (.z (.int .i64 (.var 2001))))),(.v (.one (.z (.int .i64 (.len (.var 0)))))),(.v (.one (.z (.bool (.cmp .leq (.var 2001) (.len (.var 0)))))))] (List.append (List.replicate 9 V.any) (List.append [(.v (.one (.z (.own 0 (.lit 0))))),(.v (.one (.z (.int .i64 (.var 2000))))),(.v (.one (.z (.int .i64 (.len (.var 0)))))),(.v (.one (.z (.clo 65 []))))] (List.replicate 36 V.any)))),[(0,(.own 29 f7 (.var 3003) (.lit 0)))],3,[]⟩),
(3,⟨(List.append [(.v (.one (.z (.own 0 (.lit 0))))),(.v (.one (.z (.int .i64 (.len (.var 0)))))),(.v (.one (.z (.clo 65 [])))),(.v (.one (.z .any))),(.v (.one (.z .any))),(.v (.one (.z .any))),(.v (.one (.z (.int .i64 (.var 3000))))),(.v (.one (.z (.int .i64 (.var 4000))))),(.v (.one (.z (.int .i64 (.var 4001))))),(.v (.one (.z .any))),(.v (.one (.z (.int .i64 (.lit 20))))),(.v (.one (.z (.int .i64 (.var 2001))))),(.v (.one (.z (.int .i64 (.len (.var 0)))))),(.v (.one (.z (.bool (.cmp .leq (.var 2001) (.len (.var 0)))))))] (List.append (List.replicate 9 V.any) (List.append [(.v (.one (.z (.own 0 (.lit 0))))),(.v (.one (.z (.int .i64 (.var 2000))))),(.v (.one (.z (.int .i64 (.len (.var 0)))))),(.v (.one (.z (.clo 65 [])))),(.v (.one (.z .any))),(.v (.one (.z (.int .i64 (.var 3000))))),(.v (.one (.z (.int .i64 (.len (.var 0)))))),(.v (.one (.z (.bool (.cmp .lss (.var 3000) (.len (.var 0))))))),(.v (.one (.z (.int .i64 (.var 3000))))),(.v (.one (.z (.int .i64 (.ar .mul .i64 (.lit 2) (.var 3000))))))] (List.replicate 30 V.any)))),[(0,(.own 29 f7 (.var 4002) (.lit 0)))],4,[]⟩)]
def b3N:List (FuncId×Nat×Nat×St):=[
]
set_option maxRecDepth 100000 in
theorem b2f:T.norm 0 (call Tryz.prog a6V ⟨Lt.un (Lt.of []),b5i,b3N⟩ 100 68 (a9m::A6 1 0 [fN]) a9v 1) TT.ret=a5R:=by kernel_rfl
theorem a9K:a5R.low 1000=true:=by kernel_rfl
def a4z(ds:List D):Bool:=decide ((f8 ds 0).length<40)
def a1a(ds:List D):Rows:=Srt.sortS m5 (f8 ds 0)
section
variable {w:World} {ds:List D} (l:List D)
theorem b4H:(g8 QA w ds).fb 260 l=M0 l:=rfl
theorem c1i:(g8 QA w ds).fb 241 l=a4q l:=by show Q8.fb 241 l=_;simp only[Q8]
theorem c4c:(g8 QA w ds).fd 3 l=U7 l:=rfl
theorem b8t:(g8 QA w ds).fd 1 l=a4R l:=by show Q8.fd 1 l=_;simp only[Q8]
end
theorem a4b(r:Rows)(a b:Nat):a4R [.l r,.i (a:Int),.i (b:Int)]=Srt.insK m5 r a (b-a-1):=rfl
theorem a9z{r:Rows}{a b:Nat}(h1:a≤b)(h3:b≤r.length)(h4:r.length≤1000):a4q [.l r,.i (a:Int),.i (b:Int)]=true:=by
 unfold a4q
 refine decide_eq_true ?_
 show 0≤(a:Int)∧(a:Int)≤b∧(b:Int)≤(r.length:Nat)∧r.length≤1000
 omega
theorem b0z{r:Rows}{a m b:Nat}(h1:a<m)(h2:m<b)(h3:b≤r.length)(h4:r.length≤1000):M0 [.l r,.i (a:Int),.i (m:Int),.i (b:Int)]=true:=by
 unfold M0
 refine decide_eq_true ?_
 show 0≤(a:Int)∧(a:Int)<m∧(m:Int)<b∧(b:Int)≤(r.length:Nat)∧r.length≤1000
 omega
def B9(r:Rows):Rows:=if r.length<20 then Srt.insK m5 r 0 (r.length-1) else Srt.insK m5 (Srt.insK m5 r 0 19) 20 (r.length-21)
theorem b2X(r:Rows):(B9 r).length=r.length:=by
 unfold B9
 split
 ·exact Srt.insK_len ..
 ·rw[Srt.insK_len,Srt.insK_len]
theorem c3L:F2 Tryz.prog 68 29 f7 [fN] (fun ds=>a4z ds=true) a1a:=by
 refine Y3 QA (by kernel_rfl) (fun ρ h=>a9p (Sees.of h 270) (SeesD.of h 4)) (by kernel_rfl) (by kernel_rfl) b2f a9K (by decide) (fun w0 r0 vals ds0 hbig hrow0 hr hok=> ?_)
 have e0:f8 (.l r0::ds0) 0=r0:=rfl
 clear hr hrow0 hbig
 generalize D.l r0::ds0=ds at*
 have hok:=of_decide_eq_true hok
 rw[e0] at hok
 have h1:=b2X r0
 have hR:a1a ds=if 20<r0.length then Srt.symN m5 r0.length (B9 r0) 0 20 r0.length else B9 r0:=by
  unfold a1a Srt.sortS B9
  rw[e0]
  repeat' split
  all_goals first | omega | rfl
 simp only[a5R]
 refine TT.sat_loop (fun v=>(v.i 0=((0:Nat):Int)∧v.i 1=((20:Nat):Int)∧v.d 2=r0)∨(v.i 0=((20:Nat):Int)∧v.i 1=((40:Nat):Int)∧v.d 2=Srt.insK m5 r0 0 19∧20≤r0.length)) (fun v=>60-(v.i 1).toNat)
  (.inl ⟨by simp only[g7,Nat.reduceBEq,Nat.reduceLT,Nat.reduceSub];rfl,by simp only[g7,Nat.reduceBEq,Nat.reduceLT,Nat.reduceSub];rfl,by simp only[g7,Nat.reduceBEq,Nat.reduceLT,Nat.reduceSub,e0]⟩) (fun v hv=> ?_)
 simp only[g7,Nat.reduceBEq,Nat.reduceLT,Nat.reduceSub,e0,c1i,b8t]
 have hc0:(20:Int)=((20:Nat):Int):=rfl
 rcases hv with ⟨i0,i1,d0⟩ | ⟨i0,i1,d0,h20⟩
 ·simp only[i0,i1,d0,a4b]
  refine⟨fun hc=>⟨a9z (by omega) (by omega) (by omega),.inr ⟨trivial,by rw[f9 _ (by omega) (by omega)];rfl,trivial,by omega⟩,by rw[f9 _ (by omega) (by omega)];omega⟩,fun hc=>⟨a9z (by omega) (by omega) (by omega),?_⟩⟩
  have hI:(X.fn 1 (.x (.var 2002) (.i (.var 2000) (.i (.len (.var 0)) .nil)))).ev ((g8 QA w0 ds).put 2000 v)=B9 r0:=by
   simp only[X.ev,p7,g7,Nat.reduceBEq,Nat.reduceLT,Nat.reduceSub,i0,d0,e0,b8t,a4b]
   unfold B9
   rw[if_pos (by omega)];rfl
  clear i0 i1 d0
  refine TT.sat_loop (fun u=>(u.i 0=((20:Nat):Int)∧u.d 3=B9 r0)∨(u.i 0=((40:Nat):Int)∧20<r0.length∧u.d 3=a1a ds)) (fun u=>50-(u.i 0).toNat)
   (.inl ⟨by simp only[g7,Nat.reduceBEq,Nat.reduceLT,Nat.reduceSub];rfl,by simp only[Y8,j6];exact hI⟩) (fun u hu=> ?_)
  clear hI
  rcases hu with ⟨i0,d0⟩ | ⟨i0,h20,d0⟩
  ·simp only[g7,Nat.reduceBEq,Nat.reduceLT,Nat.reduceSub,i0,e0,hc0]
   refine⟨fun hlt=> ?_,fun hge=>⟨rfl,.inl ⟨_,rfl,?_⟩⟩⟩
   ·rw[if_pos (by omega)] at hR
    refine TT.sat_loop (fun y=>y.i 0=((0:Nat):Int)∧y.i 1=((40:Nat):Int)∧y.d 2=B9 r0) (fun y=>0) ⟨by simp only[g7,Nat.reduceBEq,Nat.reduceLT,Nat.reduceSub];rfl,by simp only[g7,Nat.reduceBEq,Nat.reduceLT,Nat.reduceSub,i0];rw[f9 _ (by omega) (by omega)];rfl,by simp only[g7,Nat.reduceBEq,Nat.reduceLT,Nat.reduceSub,d0]⟩ (fun y hy=> ?_)
    obtain⟨y0,y1,y2⟩:=hy
    simp only[g7,Nat.reduceBEq,Nat.reduceLT,Nat.reduceSub,i0,y0,y1,y2,e0,b4H,c4c]
    rw[f9 (((0:Nat):Int)+((20:Nat):Int)) (by omega) (by omega),f9 (((20:Nat):Int)*2) (by omega) (by omega),show((0:Nat):Int)+((20:Nat):Int)=((20:Nat):Int) by omega]
    refine⟨fun hq=>by omega,fun hq=>⟨fun hm=>⟨b0z (by omega) (by omega) (by omega) (by omega),⟨.inr ⟨by omega,by omega,?_⟩,by omega⟩⟩,fun hm=>by omega⟩⟩
    rw[hR];rfl
   ·simp only[X.ev,p7,g7,Nat.reduceBEq,Nat.reduceLT,Nat.reduceSub,d0]
    rw[hR,if_neg (by omega)]
  ·simp only[g7,Nat.reduceBEq,Nat.reduceLT,Nat.reduceSub,i0,e0,hc0]
   refine⟨fun hlt=>by omega,fun hge=>⟨rfl,.inl ⟨_,rfl,?_⟩⟩⟩
   simp only[X.ev,p7,g7,Nat.reduceBEq,Nat.reduceLT,Nat.reduceSub,d0]
 ·simp only[i0,i1,d0,a4b]
  refine⟨fun hc=>by omega,fun hc=>⟨a9z (by omega) (by rw[Srt.insK_len];omega) (by rw[Srt.insK_len];omega),?_⟩⟩
  have hI:(X.fn 1 (.x (.var 2002) (.i (.var 2000) (.i (.len (.var 0)) .nil)))).ev ((g8 QA w0 ds).put 2000 v)=B9 r0:=by
   simp only[X.ev,p7,g7,Nat.reduceBEq,Nat.reduceLT,Nat.reduceSub,i0,d0,e0,b8t,a4b]
   unfold B9
   rw[if_neg (by omega),show r0.length-20-1=r0.length-21 by omega]
  clear i0 i1 d0
  refine TT.sat_loop (fun u=>(u.i 0=((20:Nat):Int)∧u.d 3=B9 r0)∨(u.i 0=((40:Nat):Int)∧20<r0.length∧u.d 3=a1a ds)) (fun u=>50-(u.i 0).toNat)
   (.inl ⟨by simp only[g7,Nat.reduceBEq,Nat.reduceLT,Nat.reduceSub];rfl,by simp only[Y8,j6];exact hI⟩) (fun u hu=> ?_)
  clear hI
  rcases hu with ⟨i0,d0⟩ | ⟨i0,h20,d0⟩
  ·simp only[g7,Nat.reduceBEq,Nat.reduceLT,Nat.reduceSub,i0,e0,hc0]
   refine⟨fun hlt=> ?_,fun hge=>⟨rfl,.inl ⟨_,rfl,?_⟩⟩⟩
   ·rw[if_pos (by omega)] at hR
    refine TT.sat_loop (fun y=>y.i 0=((0:Nat):Int)∧y.i 1=((40:Nat):Int)∧y.d 2=B9 r0) (fun y=>0) ⟨by simp only[g7,Nat.reduceBEq,Nat.reduceLT,Nat.reduceSub];rfl,by simp only[g7,Nat.reduceBEq,Nat.reduceLT,Nat.reduceSub,i0];rw[f9 _ (by omega) (by omega)];rfl,by simp only[g7,Nat.reduceBEq,Nat.reduceLT,Nat.reduceSub,d0]⟩ (fun y hy=> ?_)
    obtain⟨y0,y1,y2⟩:=hy
    simp only[g7,Nat.reduceBEq,Nat.reduceLT,Nat.reduceSub,i0,y0,y1,y2,e0,b4H,c4c]
    rw[f9 (((0:Nat):Int)+((20:Nat):Int)) (by omega) (by omega),f9 (((20:Nat):Int)*2) (by omega) (by omega),show((0:Nat):Int)+((20:Nat):Int)=((20:Nat):Int) by omega]
    refine⟨fun hq=>by omega,fun hq=>⟨fun hm=>⟨b0z (by omega) (by omega) (by omega) (by omega),⟨.inr ⟨by omega,by omega,?_⟩,by omega⟩⟩,fun hm=>by omega⟩⟩
    rw[hR];rfl
   ·simp only[X.ev,p7,g7,Nat.reduceBEq,Nat.reduceLT,Nat.reduceSub,d0]
    rw[hR,if_neg (by omega)]
  ·simp only[g7,Nat.reduceBEq,Nat.reduceLT,Nat.reduceSub,i0,e0,hc0]
   refine⟨fun hlt=>by omega,fun hge=>⟨rfl,.inl ⟨_,rfl,?_⟩⟩⟩
   simp only[X.ev,p7,g7,Nat.reduceBEq,Nat.reduceLT,Nat.reduceSub,d0]
def QB:Interp where
 fi n l:=QA.fi n l
 fb n l:=match n with | 270=>a4z l | n=>QA.fb n l
 fd n l:=match n with | 4=>a1a l | n=>QA.fd n l
theorem c3j{ρ:Env}(h:SeesD ρ QB 5):SeesD ρ QA 4:=fun n l hn=>by
 rw[h n l (by omega)]
 simp only[QB]
 split<;>first | omega | rfl
theorem c5B{ρ:Env}(h:Sees ρ QB 280):Sees ρ QA 270:=h.trans (by decide) fun n l hn=>by
 refine⟨?_,?_⟩
 ·
  rfl
 ·
  simp only[QB]
  split<;>first | omega | rfl
def b5n:=a3a 29 f7 [fN] 4 (fun al=>[.tru (.fn 270 al)])
theorem b5S{ρ:Env}(h:Sees ρ QB 280)(hd:SeesD ρ QB 5):i4 Tryz.prog ρ 68 b5n:=
 U1 c3L (by kernel_rfl) (J1 fun l=>(h 270 l (by decide)).2.trans rfl) (fun a=>(hd 4 a (by decide)).trans rfl)
def a7m:Ct:=(68,b5n)::a6V
theorem a3b{ρ:Env}(h:Sees ρ QB 280)(hd:SeesD ρ QB 5):CtOk Tryz.prog ρ a7m:= .cons (b5S h hd)<|a9p (c5B h) (c3j hd)
end Go.Proofs.YtbbjlleaofgddaaGreat
namespace Go.Proofs.YtbbjlleaofgddaaGreat
open Go.RowKit
section
variable {P:Program} {ct:Ct} {lt:Lt}
structure ButArr (w0 W:World) (b:Nat) (t:TypeId) (ks:List CK) (ds:List D) (W':World):Prop where
 os:W'.os=W.os
 tape:W'.tape=W.tape
 output:W'.output=W.output
 size:W.heap.size≤W'.heap.size
 block:∀k,k<W.heap.size→k≠b→W'.heap[k]? = W.heap[k]?
 arr:∃us,W'.heap[b]? = some (.cells us.toArray t (0,0))∧CK.reps w0 ks us ds
 keep:Keep W W'
def a3V(P:Program)(f:FuncId)(t:TypeId)(ks:List CK)(l:NL)(ok:List D→Prop)(res:List D→Value→Value→Prop):Prop:=
 ∀(w0 W:World) (b:Nat) (us:List Value) (ds:List D),Below w0.heap.size w0 W→w0.heap.size≤b→W.heap[b]? = some (.cells us.toArray t (0,0))→CK.reps w0 ks us ds→ok ds→
  Calls P f #[.slice (some ⟨b,0,none⟩) ks.length ks.length] W (fun en W'=>∃v u,en= .returned u∧res ds v u∧ButArr w0 W b t ks ds W'∧b2m w0 W W' ds l v)
theorem a6C(I:Interp)(hmix:P.follows .mixedOrders=true)(hct:∀ρ,ρ.has I→CtOk P ρ ct)(hce:ct.all (fun p=>G0 P p.1)=true){n:Nat}{f:FuncId}{t:TypeId}{ks:List CK}{tr:TT i8}
 (he:T.norm 0 (call P ct lt n f [.v (.one (.z (.sl 0 0 ks.length (some ks.length))))] [(0,.cells t (E4 0 ks))] 1) TT.ret=tr) (hlow:tr.low 1000=true) (hsh:ks.length≤1000) {l:NL} {ok:List D→Prop} {res:List D→Value→Value→Prop}
 (hs:∀w0 us ds,CK.reps w0 ks us ds→ok ds→tr.sat (g8 I w0 ds) (fun ρ q=>∃s x,(q.2.1.get 0=none∨∃cs al,q.2.1.get 0=some (.cells t cs)∧L3 B7 ks cs=some al∧al.ev ρ=ds)∧b3S q.2.1 l.e l.ks s=some x∧x.ev ρ=l.rows ds∧∀(σ:As) u,ρ.w=w0→q.1.den ρ σ u→∃v,s.den ρ σ v∧res ds v u) (fun _ _=>False)):a3V P f t ks l ok res:=by
 intro w0 W b us ds hbase hb0 hW hrep hok
 have own0:∀ {i a},(a2i [b]).own i a→i=0∧a=b:=fun {i a} h=>by
  have h:=b8y h
  cases i with
  | zero=>simp only[List.getElem?_cons_zero,Option.some.injEq] at h;exact⟨rfl,h.symm⟩
  | succ i=>simp at h
 have hag:K3 w0 W [.p t ks] [.pointer (some ⟨b,0,none⟩)] ds [b]:=⟨b,[],us,ds,[],[],rfl,rfl,by simp,hb0,hW,hrep,rfl,rfl,rfl⟩
 have hlt:=C5 hW
 obtain⟨ρ',q,h1,⟨s,x,h2',h2,h3,h4⟩,_,h5⟩:=Z2 (lt:=lt) hmix (fun ρ' ha=>hct ρ' ⟨ha.fi.symm,ha.fb.symm,ha.fd.symm⟩) (L6 hce) he hlow (hs w0 us ds hrep hok) (σ:=a2i [b]) (W:=W) (vals:=[.slice (some ⟨b,0,none⟩) ks.length ks.length])
  (fun ρ' ha=>⟨(C2 ha [.p t ks] 0 0 _ [] ds [] [b] rfl rfl (by simp only[H8];omega) rfl rfl hag).2,fun i j a hi hj=>by rw[(own0 hi).1,(own0 hj).1],fun i a h=>by rw[(own0 h).2];exact hlt,fun i a h=>by rw[(own0 h).2,←ha.w];exact hb0,by rw[←ha.w];exact hbase⟩)
  (fun k hk h=>by
   rcases h with ⟨a,h⟩ | ⟨m,v,h⟩
   ·have:[b][k]? = some a:=h
    have:=(List.getElem?_eq_some_iff.1 this).1
    simp at this
    omega
   ·cases h) (fun ρ' ha=>⟨⟨b,rfl,rfl⟩,trivial⟩)
 refine(callsIn_wide (n:=0)).1 ?_
 have h':CallsIn Fence.wide 0 P f #[.slice (some ⟨b,0,none⟩) ks.length ks.length] W (A8 ρ' (a2i [b]) W 1 q):=h5
 have hw:ρ'.w=w0:=by rw[←h1.w];rfl
 refine CallsIn.mono h' ?_
 rintro en W' ⟨u,σ',rfl,e1,e2,e3⟩
 obtain⟨v,hd,hres⟩:=h4 σ' u hw e1
 have hb:ButArr w0 W b t ks ds W':=by
  refine⟨e2.os,e2.tape,e2.output,e2.size,fun k hk hne=>e2.frame k hk (fun i c hi e=>hne (own0 e).2),?_,e2.keep⟩
  rcases h2' with h2' | ⟨cs,al,h2',h6,h7⟩
  ·exact⟨us,by rw[e2.frame b hlt (fun i c hi e=>by obtain⟨rfl,_⟩:=own0 e;rw[h2'] at hi;cases hi)];exact hW,hrep⟩
  ·obtain⟨b',h8,us',h9,h10⟩:=e2.blk _ _ h2'
   have:σ'.f 0=some b:=e2.ext.f 0 b rfl
   have h8:σ'.f 0=some b':=h8
   rw[this] at h8
   simp only[Option.some.injEq] at h8
   subst h8
   refine⟨us',h10,?_⟩
   have h11:=F7 (y4 (W:=ρ'.w) (Below.refl _ _)) _ _ _ h6 us' h9
   rw[h7,hw] at h11
   exact h11
 have whole:∀(id:Nat) (ver:E) (x':X) (ver':E) (e':TypeId) (ks':List CK) (a:Option Addr) (m c:Nat),q.2.1.get id=some (.own e' ks' x' ver')→l.e=e'→l.ks=ks'→ver=ver'→σ'.h id (ver.ev ρ')=some (.slice a m c)→
  ∃xs,OwnRow W' w0.heap.size l.e l.ks.length (.slice a m c) m xs∧RowsAt w0 l.ks xs (x'.ev ρ')∧m=(x'.ev ρ').length∧m≤281474976710656∧∀k,j9 (.slice a m c)=some k→W.heap.size≤k∧k<W'.heap.size:=by
  intro id ver x' ver' e' ks' a m c hm c1 c2 c3 e5
  subst c1 c2 c3
  obtain⟨v2,xs,hO⟩:=e2.blk _ _ hm
  have hvv:=hO.now
  rw[e5] at hvv
  simp only[Option.some.injEq] at hvv
  subst hvv
  have hrow:=hO.row
  have hrows:=hO.reps
  have hbig:=hO.big
  rw[hw] at hrow
  rw[hw] at hrows
  have hml:m=(x'.ev ρ').length:=by
   rcases hrow with ⟨_,h2⟩ | ⟨h2,_,b,h3⟩
   ·rcases h2 with ⟨h2,h3⟩ | ⟨g,cap,cur,h2,_⟩
    ·simp only[Value.slice.injEq] at h2;omega
    ·simp only[Value.slice.injEq] at h2
     exact h2.2.1
   ·simp only[Value.slice.injEq] at h3;omega
  refine⟨xs,by rw[hml] at hrow ⊢;exact hrow,⟨?_,hrows⟩,hml,by omega,fun k hk=> ?_⟩
  ·rcases hrow with h | ⟨h3,h4,_⟩
   ·exact h.1
   ·rw[h3,h4];simp
  ·rcases e2.new id k (.inr ⟨_,_,e5,hk⟩) with h | h
   ·obtain⟨rfl,_⟩:=own0 h
    rcases h2' with h2' | ⟨_,_,h2',_⟩<;>(rw[h2'] at hm;cases hm)
   ·exact h
 have key:b2m w0 W W' ds l v:=by
  unfold b3S at h2
  split at h2
  ·rename_i id ver k lo hi full
   split at h2
   ·rename_i e' ks' x' ver' hm
    split at h2
    ·rename_i hc
     simp only[Bool.and_eq_true,Bool.not_eq_true'] at hc
     obtain⟨⟨⟨⟨⟨c1,c2⟩,c3⟩,c4⟩,c5⟩,c6⟩:=hc
     have c1:=i9 c1
     have c2:=CK.sameL_eq _ _ c2
     have c3:=E.same_eq _ _ c3
     obtain rfl:=E.same_eq _ _ c5
     simp only[Option.some.injEq] at h2
     subst h2
     obtain⟨a,m,c,b,c',e5,l1,l2,l3,rfl,l4,l5,l6,l7⟩:=hd
     obtain⟨rfl,rfl⟩:=l7 (by simp [E.ev]) c6
     obtain⟨xs,w1,w2,w3,w4,w5⟩:=whole id ver x' ver' e' ks' b m c' hm c1 c2 c3 e5
     have hlo:(E.lit 0).ev ρ'=0:=rfl
     rw[hlo] at l2 ⊢
     have hz:(hi.ev ρ').toNat-(0:Int).toNat=(hi.ev ρ').toNat:=by simp
     rw[hz]
     have hle:(hi.ev ρ').toNat≤m:=by omega
     have hev:(X.sub x' (.lit 0) hi).ev ρ'=k5 (x'.ev ρ') 0 (hi.ev ρ'):=by simp only[X.ev,E.ev]
     have hlen:(l.rows ds).length=(hi.ev ρ').toNat:=by
      rw[←h3,hev];simp only[k5,List.length_take,List.length_drop,Int.toNat_zero];omega
     have hsub:=w2.sub (l:=0) (m:=hi.ev ρ') (by omega) (by simp)
     simp only[Int.toNat_zero,Nat.zero_mul,List.drop_zero,Nat.sub_zero] at hsub
     rw[←hev,h3] at hsub
     refine⟨xs.take ((hi.ev ρ').toNat*l.ks.length),by rw[hlen];exact w1.first hle,hsub,by omega,⟨b,c',by rw[hlen]⟩,fun k hk=>w5 k (by rw[←hk];exact b2P)⟩
    ·cases h2
   ·cases h2
  ·unfold a2A at h2
   split at h2
   ·rename_i id ver _
    split at h2
    ·rename_i e' ks' x' ver' hm
     split at h2
     ·rename_i hc
      simp only[Bool.and_eq_true] at hc
      obtain⟨⟨c1,c2⟩,c3⟩:=hc
      have c1:=i9 c1
      have c2:=CK.sameL_eq _ _ c2
      have c3:=E.same_eq _ _ c3
      simp only[Option.some.injEq] at h2
      subst h2
      obtain⟨⟨a,m,c,rfl⟩,e5⟩:=hd
      obtain⟨xs,w1,w2,w3,w4,w5⟩:=whole id ver x' ver' e' ks' a m c hm c1 c2 c3 e5
      have hlen:(l.rows ds).length=m:=by rw[←h3,w3]
      rw[h3] at w2
      exact⟨xs,by rw[hlen];exact w1,w2,by omega,⟨a,c,by rw[hlen]⟩,w5⟩
     ·cases h2
    ·cases h2
   ·simp only[Option.some.injEq] at h2
    subst h2
    obtain rfl:v= .slice none 0 0:=hd
    have h3:[]=l.rows ds:=by rw[←h3];simp [X.ev]
    refine⟨[],?_,?_,?_,⟨none,0,?_⟩,fun k hk=>by simp [j9] at hk⟩
    ·rw[←h3];exact .inl (World.ownsRow_nil _ _ _ _)
    ·rw[←h3];exact RowsAt.nil _ _
    ·rw[←h3];simp
    ·rw[←h3];rfl
   ·cases h2
 exact⟨v,u,rfl,hres,hb,key⟩
variable {ρ:Env}
def a7h(mem:Mem)(t:TypeId)(ks:List CK):List V→Option AL
 | [.v (.one (.z (.sl id off n (some c))))]=>if Nat.beq off 0&&Nat.beq n ks.length&&Nat.beq c ks.length then match mem.get id with
   | some (.cells t' cs)=>if Nat.beq t t' then L3 B7 ks cs else none
   | _=>none
   else none
 | _=>none
theorem b6e{σ:As}{mem:Mem}{W:World}(hr:RelM ρ σ mem W){t:TypeId}{ks:List CK}{args:List V}{a:AL}(h:a7h mem t ks args=some a){vals:List Value}(hd:DL (V.den ρ σ) args vals):
 ∃b us,vals=[.slice (some ⟨b,0,none⟩) ks.length ks.length]∧ρ.w.heap.size≤b∧W.heap[b]? = some (.cells us.toArray t (0,0))∧CK.reps ρ.w ks us (a.ev ρ)∧∀id off n c,args=[.v (.one (.z (.sl id off n c)))]→σ id=some b:=by
 unfold a7h at h
 split at h
 ·rename_i id off n c
  split at h
  ·rename_i hc
   simp only[Bool.and_eq_true] at hc
   obtain⟨⟨c1,c2⟩,c3⟩:=hc
   obtain rfl:=i9 c1
   obtain rfl:=i9 c2
   obtain rfl:=i9 c3
   split at h
   ·rename_i t' cs hm
    split at h
    ·rename_i ht
     obtain rfl:=i9 ht
     obtain⟨u,us,rfl,d1,d2⟩:=DL.cons_inv hd
     obtain rfl:=DL.nil_inv d2
     obtain⟨b,h1,rfl⟩:=d1
     obtain⟨b',h2,us,h3,h4⟩:=hr.blk _ _ hm
     rw[h1] at h2
     simp only[Option.some.injEq] at h2
     subst h2
     refine⟨b,us,rfl,hr.above _ _ (.inl h1),h4,F7 (y4 (W:=ρ.w) (Below.refl _ _)) _ _ _ h us h3,fun id' off n c e=> ?_⟩
     simp only[List.cons.injEq,V.v.injEq,V2.one.injEq,S.z.injEq,S0.sl.injEq,and_true] at e
     obtain⟨rfl,_⟩:=e
     exact h1
    ·cases h
   ·cases h
  ·cases h
 ·cases h
def N7:List CK→AL→List S
 | .sl K::ks,.x x r=> .z (.ext K x false)::N7 ks r
 | _,_=>[]
def b2t:List CK→Bool
 | []=>true
 | .sl _::ks=>b2t ks
 | _=>false
def a5r:AL→Bool
 | .nil=>true
 | .x _ r=>a5r r
 | _=>false
theorem a1n{σ:As}:∀ {ks:List CK} {al:AL} {us:List Value},b2t ks=true→a5r al=true→CK.reps ρ.w ks us (al.ev ρ)→DL (S.den ρ σ) (N7 ks al) us
 | [],al,us,_,hx,h=>by
   cases al with
   | nil=>obtain⟨rfl,_⟩:=h;exact trivial
   | x x r=>simp only[AL.ev] at h;exact absurd h.2 (by simp)
   | i e r=>cases hx
   | b e r=>cases hx
 | .sl K::ks,al,us,ha,hx,h=>by
   cases al with
   | nil=>simp only[AL.ev] at h;unfold CK.reps at h;obtain⟨_,_,_,_,_,h,_⟩:=h;cases h
   | x x r=>
     simp only[AL.ev] at h
     unfold CK.reps at h
     obtain⟨v,vs,d,ds,rfl,h1,h2,h3⟩:=h
     simp only[List.cons.injEq] at h1
     obtain⟨rfl,rfl⟩:=h1
     refine⟨?_,a1n (ks:=ks) ha hx h3⟩
     rw[x9] at h2
     obtain⟨r',h4,h5⟩:=h2
     simp only[D.l.injEq] at h4
     subst h4
     exact h5
   | i e r=>cases hx
   | b e r=>cases hx
 | .int _::ks,al,us,ha,_,h=>by cases ha
 | .bool::ks,al,us,ha,_,h=>by cases ha
def a5D(t:TypeId)(ks:List CK)(l:NL)(obs:AL→List Ob)(out:AL→Nat→V)(args:List V)(mem:Mem)(nx:Nat):T i8:=match args with
 | [.v (.one (.z (.sl id off n c)))]=>match a7h mem t ks args with
   | some al=>if a5r al then .obs (obs al) (.ret (out al nx,[(nx,.own l.e l.ks (.fn l.s al) (.lit 0)),(id,.cells t (N7 ks al))],nx+1)) else .stuck "array"
   | none=> .stuck "array"
 | _=> .stuck "array"
theorem b1l{f:FuncId}{t:TypeId}{ks:List CK}(hks:b2t ks=true){l:NL}{ok:List D→Prop}{res:List D→Value→Value}(hg:a3V P f t ks l ok (fun ds v u=>u=res ds v)){obs:AL→List Ob}
 (hobs:∀al,(∀o∈obs al,o.ok ρ)→ok (al.ev ρ)) (hs:∀a,ρ.fd l.s a=l.rows a) {out:AL→Nat→V}
 (hout:∀(al:AL) (nx:Nat) (σ':As) (v:Value),(S0.own nx (.lit 0)).den ρ σ' v→(out al nx).den ρ σ' (res (al.ev ρ) v)):i4 P ρ f (a5D t ks l obs out):=by
 intro args mem nx q hq hle σ W vals hr hfr hd
 unfold a5D at hq
 split at hq
 ·rename_i id off n c
  split at hq
  ·rename_i al ha
   split at hq
   ·rename_i hal
    obtain⟨ho,hq⟩:=T.res_obs hq
    obtain rfl:=g9 hq
    obtain⟨b,us,hvals,hb0,hW,hrep,hid⟩:=b6e hr ha hd
    subst hvals
    have hidb:σ id=some b:=hid _ _ _ _ rfl
    have hc:=hg ρ.w W b us (al.ev ρ) hr.base hb0 hW hrep (hobs al ho)
    have hw:CallsIn Fence.wide 0 P f #[.slice (some ⟨b,0,none⟩) ks.length ks.length] W _:=callsIn_wide.2 hc
    refine CallsIn.mono (F:=FR none) hw ?_
    rintro en W' ⟨v,u,rfl,rfl,hb,xs,h1,h2,h3,⟨a,c',rfl⟩,h5⟩
    have hnx:=hfr nx (Nat.le_refl _) (Nat.lt_succ_self _)
    have hnone:∀k,σ.h nx k= .none:=fun k=>by
     cases hk:σ.h nx k with
     | none=>rfl
     | some y=>exact absurd (.inr ⟨k,y,hk⟩) hnx
    have hne:nx≠id:=fun e=>hnx (.inl ⟨b,by rw[e];exact hidb⟩)
    have hx:(X.fn l.s al).ev ρ=l.rows (al.ev ρ):=by simp only[X.ev,hs]
    have hg0:∀i,Mem.get [(nx,Blk.own l.e l.ks (.fn l.s al) (.lit 0)),(id,.cells t (N7 ks al))] i=if i=nx then some (.own l.e l.ks (.fn l.s al) (.lit 0)) else if i=id then some (.cells t (N7 ks al)) else none:=fun i=>by
     simp only[Mem.get,beq_iff_eq]
     by_cases e1:i=nx
     ·subst e1;simp
     ·rw[if_neg (fun e=>e1 e.symm),if_neg e1]
      by_cases e2:i=id
      ·subst e2;simp
      ·rw[if_neg (fun e=>e2 e.symm),if_neg e2]
    have key:∀i q,(σ.say nx 0 (.slice a (l.rows (al.ev ρ)).length c')).own i q→σ.own i q∨(i=nx∧W.heap.size≤q∧q<W'.heap.size):=fun i q hi=>by
     rcases I7 hi with h | ⟨rfl,h⟩
     ·exact .inl h
     ·exact .inr ⟨rfl,h5 _ h⟩
    refine⟨_,σ.say nx 0 (.slice a (l.rows (al.ev ρ)).length c'),rfl,hout al nx _ _ ⟨⟨a,_,c',rfl⟩,As.say_self⟩,?_,fun i hi=>(v8 hi).imp (fun h=>h) (fun h=>⟨by omega,by show i<nx+1;omega⟩)⟩
    refine⟨⟨fun _ _ h=>h,fun i n u h=> ?_⟩,hb.os,hb.tape,hb.output,hb.size,fun k hk hn=>hb.block k hk (fun e=> ?_),fun i hi _=> ?_,fun i q hi=> ?_,fun hinj i j q hi hj=> ?_,fun i b' hi=> ?_,hb.keep⟩
    ·by_cases e:i=nx∧n=0
     ·rw[e.1,hnone] at h;cases h
     ·rw[As.say_other e];exact h
    ·exact hn id (.cells t (N7 ks al)) (by rw[hg0,if_neg (fun e=>hne e.symm),if_pos rfl]) (.inl (by rw[e];exact hidb))
    ·rw[hg0] at hi
     have hni:i≠nx:=fun e=>by rw[if_pos e] at hi;cases hi
     funext m
     exact As.say_other (fun e=>hni e.1)
    ·rcases key i q hi with h | h
     ·exact .inl h
     ·exact .inr h.2
    ·rcases key i q hi with g1 | ⟨g1,g2,_⟩<;>rcases key j q hj with g3 | ⟨g3,g4,_⟩
     ·exact hinj i j q g1 g3
     ·have:=hr.lt _ _ g1;omega
     ·have:=hr.lt _ _ g3;omega
     ·omega
    ·rw[hg0] at hi
     split at hi
     ·rename_i e1
      subst e1
      simp only[Option.some.injEq] at hi
      subst hi
      exact⟨_,xs,As.say_self,fun u hu=>by rw[As.say_other (fun e=>by have hu:(0:Int)<u:=hu;omega)];exact hnone u,by rw[hx];exact h1,by rw[hx];exact fun i row hi=>h2.2 i row hi,by rw[hx];exact h3⟩
     ·split at hi
      ·rename_i e1 e2
       subst e2
       simp only[Option.some.injEq] at hi
       subst hi
       obtain⟨us',g1,g2⟩:=hb.arr
       exact⟨b,hidb,us',a1n hks hal g2,g1⟩
      ·cases hi
   ·exact hq.elim
  ·exact hq.elim
 ·exact hq.elim
end
end Go.Proofs.YtbbjlleaofgddaaGreat
namespace Go.Proofs.YtbbjlleaofgddaaGreat
open Go.RowKit
def ks3:List CK:=[.sl f7,.sl f7,.sl f7]
def ks4:List CK:=[.sl f7,.sl f7,.sl f7,.sl f7]
def a8f:TT i8:=
(.ite (.cmp .lss (.ar .add .i64 (.lit 0) (.len (.var 0))) (.lit 0))
 (.stuck "operation")
 (.ite (.cmp .lss (.ar .add .i64 (.ar .add .i64 (.lit 0) (.len (.var 0))) (.len (.var 1))) (.lit 0))
 (.stuck "operation")
 (.ite (.cmp .lss (.ar .add .i64 (.ar .add .i64 (.ar .add .i64 (.lit 0) (.len (.var 0))) (.len (.var 1))) (.len (.var 2))) (.lit 0))
 (.stuck "operation")
 (.ob (.tru (.cmp .leq (.lit 0) (.ar .add .i64 (.ar .add .i64 (.ar .add .i64 (.lit 0) (.len (.var 0))) (.len (.var 1))) (.len (.var 2)))))
 (.ob (.tru (.cmp .leq (.ar .add .i64 (.ar .add .i64 (.ar .add .i64 (.lit 0) (.len (.var 0))) (.len (.var 1))) (.len (.var 2))) (.lit 1000000)))
 (.ob (.tru (.cmp .leq (.len (.var 0)) (.lit 1000000)))
 (.ob (.tru (.cmp .leq (.len (.app (.var 0) (.var 1))) (.lit 1000000)))
 (.ob (.tru (.cmp .leq (.len (.app (.app (.var 0) (.var 1)) (.var 2))) (.lit 1000000)))
 (.ite (.not (.fn 202 (.x (.app (.app (.var 0) (.var 1)) (.var 2)) .nil)))
 (.ret ((.tup [(.one (.z (.const (.slice none 0 0)))),(.one (.z (.int .i64 (.lit 1))))]),[],2))
 (.ob (.tru (.fn 270 (.x (.app (.app (.var 0) (.var 1)) (.var 2)) .nil)))
 (.ob (.tru (.lit true))
 (.ob (.tru (.lit true))
 (.ob (.tru (.cmp .leq (.lit 0) (.len (.fn 4 (.x (.app (.app (.var 0) (.var 1)) (.var 2)) .nil)))))
 (.loop 0 3000 ⟨[(0,(.lit 0)),(1,(.lit 0))],[],[(2,(.fn 4 (.x (.app (.app (.var 0) (.var 1)) (.var 2)) .nil)))]⟩
 (.ite (.cmp .lss (.var 3001) (.len (.fn 4 (.x (.app (.app (.var 0) (.var 1)) (.var 2)) .nil))))
 (.ob (.tru (.cmp .leq (.lit 0) (.var 3001)))
 (.ob (.tru (.cmp .lss (.var 3001) (.len (.var 3002))))
 (.ite (.cmp .eql (.len (.sub (.var 3002) (.lit 0) (.var 3000))) (.lit 0))
 (.ite (.cmp .leq (.plus (.var 3000) (.lit 1)) (.len (.var 3002)))
 (.next 0 ⟨[(0,(.plus (.var 3000) (.lit 1))),(1,(.ar .add .i64 (.var 3001) (.lit 1)))],[],[(2,(.app (.app (.sub (.var 3002) (.lit 0) (.var 3000)) (.app (.row (.i (.rd (.var 3002) (.var 3001) 0) (.i (.rd (.var 3002) (.var 3001) 1) (.i (.rd (.var 3002) (.var 3001) 2) (.i (.rd (.var 3002) (.var 3001) 3) (.i (.rd (.var 3002) (.var 3001) 4) (.i (.rd (.var 3002) (.var 3001) 5) (.x (.rd (.var 3002) (.var 3001) 6) .nil)))))))) .nil)) (.sub (.var 3002) (.plus (.var 3000) (.lit 1)) (.len (.var 3002)))))]⟩)
 (.ob (.tru (.cmp .leq (.len (.app (.sub (.var 3002) (.lit 0) (.var 3000)) (.app (.row (.i (.rd (.var 3002) (.var 3001) 0) (.i (.rd (.var 3002) (.var 3001) 1) (.i (.rd (.var 3002) (.var 3001) 2) (.i (.rd (.var 3002) (.var 3001) 3) (.i (.rd (.var 3002) (.var 3001) 4) (.i (.rd (.var 3002) (.var 3001) 5) (.x (.rd (.var 3002) (.var 3001) 6) .nil)))))))) .nil))) (.lit 1000000)))
 (.stuck "loop: slots")))
 (.ob (.tru (.cmp .leq (.lit 0) (.ar .sub .i64 (.len (.sub (.var 3002) (.lit 0) (.var 3000))) (.lit 1))))
 (.ob (.tru (.cmp .lss (.ar .sub .i64 (.len (.sub (.var 3002) (.lit 0) (.var 3000))) (.lit 1)) (.len (.sub (.var 3002) (.lit 0) (.var 3000)))))
 (.ite (.cmp .neq (.fn 230 (.i (.rd (.var 3002) (.ar .sub .i64 (.len (.sub (.var 3002) (.lit 0) (.var 3000))) (.lit 1)) 0) (.i (.rd (.var 3002) (.ar .sub .i64 (.len (.sub (.var 3002) (.lit 0) (.var 3000))) (.lit 1)) 1) (.i (.rd (.var 3002) (.ar .sub .i64 (.len (.sub (.var 3002) (.lit 0) (.var 3000))) (.lit 1)) 2) (.i (.rd (.var 3002) (.ar .sub .i64 (.len (.sub (.var 3002) (.lit 0) (.var 3000))) (.lit 1)) 3) (.i (.rd (.var 3002) (.ar .sub .i64 (.len (.sub (.var 3002) (.lit 0) (.var 3000))) (.lit 1)) 4) (.i (.rd (.var 3002) (.ar .sub .i64 (.len (.sub (.var 3002) (.lit 0) (.var 3000))) (.lit 1)) 5) (.x (.rd (.var 3002) (.ar .sub .i64 (.len (.sub (.var 3002) (.lit 0) (.var 3000))) (.lit 1)) 6) (.i (.rd (.var 3002) (.var 3001) 0) (.i (.rd (.var 3002) (.var 3001) 1) (.i (.rd (.var 3002) (.var 3001) 2) (.i (.rd (.var 3002) (.var 3001) 3) (.i (.rd (.var 3002) (.var 3001) 4) (.i (.rd (.var 3002) (.var 3001) 5) (.x (.rd (.var 3002) (.var 3001) 6) .nil))))))))))))))) (.lit 0))
 (.ite (.cmp .leq (.plus (.var 3000) (.lit 1)) (.len (.var 3002)))
 (.next 0 ⟨[(0,(.plus (.var 3000) (.lit 1))),(1,(.ar .add .i64 (.var 3001) (.lit 1)))],[],[(2,(.app (.app (.sub (.var 3002) (.lit 0) (.var 3000)) (.app (.row (.i (.rd (.var 3002) (.var 3001) 0) (.i (.rd (.var 3002) (.var 3001) 1) (.i (.rd (.var 3002) (.var 3001) 2) (.i (.rd (.var 3002) (.var 3001) 3) (.i (.rd (.var 3002) (.var 3001) 4) (.i (.rd (.var 3002) (.var 3001) 5) (.x (.rd (.var 3002) (.var 3001) 6) .nil)))))))) .nil)) (.sub (.var 3002) (.plus (.var 3000) (.lit 1)) (.len (.var 3002)))))]⟩)
 (.ob (.tru (.cmp .leq (.len (.app (.sub (.var 3002) (.lit 0) (.var 3000)) (.app (.row (.i (.rd (.var 3002) (.var 3001) 0) (.i (.rd (.var 3002) (.var 3001) 1) (.i (.rd (.var 3002) (.var 3001) 2) (.i (.rd (.var 3002) (.var 3001) 3) (.i (.rd (.var 3002) (.var 3001) 4) (.i (.rd (.var 3002) (.var 3001) 5) (.x (.rd (.var 3002) (.var 3001) 6) .nil)))))))) .nil))) (.lit 1000000)))
 (.stuck "loop: slots")))
 (.ob (.tru (.cmp .leq (.lit 0) (.ar .sub .i64 (.len (.sub (.var 3002) (.lit 0) (.var 3000))) (.lit 1))))
 (.ob (.tru (.cmp .lss (.ar .sub .i64 (.len (.sub (.var 3002) (.lit 0) (.var 3000))) (.lit 1)) (.len (.sub (.var 3002) (.lit 0) (.var 3000)))))
 (.ite (.not (.fn 190 (.i (.rd (.var 3002) (.ar .sub .i64 (.len (.sub (.var 3002) (.lit 0) (.var 3000))) (.lit 1)) 0) (.i (.rd (.var 3002) (.ar .sub .i64 (.len (.sub (.var 3002) (.lit 0) (.var 3000))) (.lit 1)) 1) (.i (.rd (.var 3002) (.ar .sub .i64 (.len (.sub (.var 3002) (.lit 0) (.var 3000))) (.lit 1)) 2) (.i (.rd (.var 3002) (.ar .sub .i64 (.len (.sub (.var 3002) (.lit 0) (.var 3000))) (.lit 1)) 3) (.i (.rd (.var 3002) (.ar .sub .i64 (.len (.sub (.var 3002) (.lit 0) (.var 3000))) (.lit 1)) 4) (.i (.rd (.var 3002) (.ar .sub .i64 (.len (.sub (.var 3002) (.lit 0) (.var 3000))) (.lit 1)) 5) (.x (.rd (.var 3002) (.ar .sub .i64 (.len (.sub (.var 3002) (.lit 0) (.var 3000))) (.lit 1)) 6) (.i (.rd (.var 3002) (.var 3001) 0) (.i (.rd (.var 3002) (.var 3001) 1) (.i (.rd (.var 3002) (.var 3001) 2) (.i (.rd (.var 3002) (.var 3001) 3) (.i (.rd (.var 3002) (.var 3001) 4) (.i (.rd (.var 3002) (.var 3001) 5) (.x (.rd (.var 3002) (.var 3001) 6) .nil))))))))))))))))
 (.ret ((.tup [(.one (.z (.const (.slice none 0 0)))),(.one (.z (.int .i64 (.lit 18))))]),[(0,(.cells 32 [(.z (.ext f7 (.var 0) false)),(.z (.ext f7 (.var 1) false)),(.z (.ext f7 (.var 2) false))]))],5))
 (.next 0 ⟨[(0,(.var 3000)),(1,(.ar .add .i64 (.var 3001) (.lit 1)))],[],[(2,(.var 3002))]⟩))))))))))
 (.ret ((.tup [(.one (.z (.ovw 1 (.lit 3) 7 (.lit 0) (.var 3000) false))),(.one (.z (.int .i64 (.lit 0))))]),[(1,(.own 29 f7 (.var 3002) (.lit 3))),(0,(.cells 32 [(.z (.ext f7 (.var 0) false)),(.z (.ext f7 (.var 1) false)),(.z (.ext f7 (.var 2) false))])),(1,(.own 29 f7 (.fn 4 (.x (.app (.app (.var 0) (.var 1)) (.var 2)) .nil)) (.lit 3))),(1,(.own 29 f7 (.app (.app (.var 0) (.var 1)) (.var 2)) (.lit 3))),(1,(.own 29 f7 (.app (.var 0) (.var 1)) (.lit 2))),(1,(.own 29 f7 (.var 0) (.lit 1))),(1,(.own 29 f7 .nil (.lit 0)))],5)))))))))))))))))
def b7y:List (Nat×St):=[
(2,⟨(List.append [(.v (.one (.z (.sl 0 0 3 (some 3))))),(.v (.one (.z .any))),(.v (.one (.z (.const (.slice none 0 0))))),(.v (.one (.z (.int .i64 (.lit 0))))),(.v (.one (.z (.own 1 (.lit 3))))),(.v (.one (.z (.clo 65 [])))),(.v (.one (.z (.ovw 1 (.lit 3) 7 (.lit 0) (.var 3000) false)))),(.v (.one (.z .any))),(.v (.one (.z .any))),(.v (.one (.z .any))),(.v (.one (.z (.sl 0 0 3 (some 3))))),(.v (.one (.z (.own 1 (.lit 3))))),(.v (.one (.z (.own 1 (.lit 3))))),(.v (.one (.z (.bool (.fn 202 (.x (.app (.app (.var 0) (.var 1)) (.var 2)) .nil)))))),(.v (.one (.z (.bool (.not (.fn 202 (.x (.app (.app (.var 0) (.var 1)) (.var 2)) .nil))))))),(.v (.one (.z (.own 1 (.lit 3))))),(.v (.one (.z (.clo 65 [])))),(.v (.one (.z .any))),(.v (.one (.z (.own 1 (.lit 3))))),(.v (.one (.z (.ovw 1 (.lit 3) 7 (.lit 0) (.lit 0) false)))),(.v (.one (.z (.own 1 (.lit 3))))),(.v (.one (.z (.int .i64 (.len (.fn 4 (.x (.app (.app (.var 0) (.var 1)) (.var 2)) .nil))))))),(.v (.one (.z (.int .i64 (.var 3001)))))] (List.replicate 34 V.any)),[(1,(.own 29 f7 (.var 3002) (.lit 3))),(0,(.cells 32 [(.z (.ext f7 (.var 0) false)),(.z (.ext f7 (.var 1) false)),(.z (.ext f7 (.var 2) false))]))],3,[]⟩)]
def b7H:List (FuncId×Nat×Nat×St):=[
]
set_option maxRecDepth 100000 in
theorem b3T:T.norm 0 (call Tryz.prog a7m ⟨Lt.un (Lt.of [(64,0),(64,1)]),b7y,b7H⟩ 100 32 [.v (.one (.z (.sl 0 0 3 (some 3))))] [(0,.cells 32 (E4 0 ks3))] 1) TT.ret=a8f:=by kernel_rfl
theorem b2w:a8f.low 1000=true:=by kernel_rfl
def a8w:TT i8:=
(.ite (.cmp .lss (.ar .add .i64 (.lit 0) (.len (.var 0))) (.lit 0))
 (.stuck "operation")
 (.ite (.cmp .lss (.ar .add .i64 (.ar .add .i64 (.lit 0) (.len (.var 0))) (.len (.var 1))) (.lit 0))
 (.stuck "operation")
 (.ite (.cmp .lss (.ar .add .i64 (.ar .add .i64 (.ar .add .i64 (.lit 0) (.len (.var 0))) (.len (.var 1))) (.len (.var 2))) (.lit 0))
 (.stuck "operation")
 (.ite (.cmp .lss (.ar .add .i64 (.ar .add .i64 (.ar .add .i64 (.ar .add .i64 (.lit 0) (.len (.var 0))) (.len (.var 1))) (.len (.var 2))) (.len (.var 3))) (.lit 0))
 (.stuck "operation")
 (.ob (.tru (.cmp .leq (.lit 0) (.ar .add .i64 (.ar .add .i64 (.ar .add .i64 (.ar .add .i64 (.lit 0) (.len (.var 0))) (.len (.var 1))) (.len (.var 2))) (.len (.var 3)))))
 (.ob (.tru (.cmp .leq (.ar .add .i64 (.ar .add .i64 (.ar .add .i64 (.ar .add .i64 (.lit 0) (.len (.var 0))) (.len (.var 1))) (.len (.var 2))) (.len (.var 3))) (.lit 1000000)))
 (.ob (.tru (.cmp .leq (.len (.var 0)) (.lit 1000000)))
 (.ob (.tru (.cmp .leq (.len (.app (.var 0) (.var 1))) (.lit 1000000)))
 (.ob (.tru (.cmp .leq (.len (.app (.app (.var 0) (.var 1)) (.var 2))) (.lit 1000000)))
 (.ob (.tru (.cmp .leq (.len (.app (.app (.app (.var 0) (.var 1)) (.var 2)) (.var 3))) (.lit 1000000)))
 (.ite (.not (.fn 202 (.x (.app (.app (.app (.var 0) (.var 1)) (.var 2)) (.var 3)) .nil)))
 (.ret ((.tup [(.one (.z (.const (.slice none 0 0)))),(.one (.z (.int .i64 (.lit 1))))]),[],2))
 (.ob (.tru (.fn 270 (.x (.app (.app (.app (.var 0) (.var 1)) (.var 2)) (.var 3)) .nil)))
 (.ob (.tru (.lit true))
 (.ob (.tru (.lit true))
 (.ob (.tru (.cmp .leq (.lit 0) (.len (.fn 4 (.x (.app (.app (.app (.var 0) (.var 1)) (.var 2)) (.var 3)) .nil)))))
 (.loop 0 3000 ⟨[(0,(.lit 0)),(1,(.lit 0))],[],[(2,(.fn 4 (.x (.app (.app (.app (.var 0) (.var 1)) (.var 2)) (.var 3)) .nil)))]⟩
 (.ite (.cmp .lss (.var 3001) (.len (.fn 4 (.x (.app (.app (.app (.var 0) (.var 1)) (.var 2)) (.var 3)) .nil))))
 (.ob (.tru (.cmp .leq (.lit 0) (.var 3001)))
 (.ob (.tru (.cmp .lss (.var 3001) (.len (.var 3002))))
 (.ite (.cmp .eql (.len (.sub (.var 3002) (.lit 0) (.var 3000))) (.lit 0))
 (.ite (.cmp .leq (.plus (.var 3000) (.lit 1)) (.len (.var 3002)))
 (.next 0 ⟨[(0,(.plus (.var 3000) (.lit 1))),(1,(.ar .add .i64 (.var 3001) (.lit 1)))],[],[(2,(.app (.app (.sub (.var 3002) (.lit 0) (.var 3000)) (.app (.row (.i (.rd (.var 3002) (.var 3001) 0) (.i (.rd (.var 3002) (.var 3001) 1) (.i (.rd (.var 3002) (.var 3001) 2) (.i (.rd (.var 3002) (.var 3001) 3) (.i (.rd (.var 3002) (.var 3001) 4) (.i (.rd (.var 3002) (.var 3001) 5) (.x (.rd (.var 3002) (.var 3001) 6) .nil)))))))) .nil)) (.sub (.var 3002) (.plus (.var 3000) (.lit 1)) (.len (.var 3002)))))]⟩)
 (.ob (.tru (.cmp .leq (.len (.app (.sub (.var 3002) (.lit 0) (.var 3000)) (.app (.row (.i (.rd (.var 3002) (.var 3001) 0) (.i (.rd (.var 3002) (.var 3001) 1) (.i (.rd (.var 3002) (.var 3001) 2) (.i (.rd (.var 3002) (.var 3001) 3) (.i (.rd (.var 3002) (.var 3001) 4) (.i (.rd (.var 3002) (.var 3001) 5) (.x (.rd (.var 3002) (.var 3001) 6) .nil)))))))) .nil))) (.lit 1000000)))
 (.stuck "loop: slots")))
 (.ob (.tru (.cmp .leq (.lit 0) (.ar .sub .i64 (.len (.sub (.var 3002) (.lit 0) (.var 3000))) (.lit 1))))
 (.ob (.tru (.cmp .lss (.ar .sub .i64 (.len (.sub (.var 3002) (.lit 0) (.var 3000))) (.lit 1)) (.len (.sub (.var 3002) (.lit 0) (.var 3000)))))
 (.ite (.cmp .neq (.fn 230 (.i (.rd (.var 3002) (.ar .sub .i64 (.len (.sub (.var 3002) (.lit 0) (.var 3000))) (.lit 1)) 0) (.i (.rd (.var 3002) (.ar .sub .i64 (.len (.sub (.var 3002) (.lit 0) (.var 3000))) (.lit 1)) 1) (.i (.rd (.var 3002) (.ar .sub .i64 (.len (.sub (.var 3002) (.lit 0) (.var 3000))) (.lit 1)) 2) (.i (.rd (.var 3002) (.ar .sub .i64 (.len (.sub (.var 3002) (.lit 0) (.var 3000))) (.lit 1)) 3) (.i (.rd (.var 3002) (.ar .sub .i64 (.len (.sub (.var 3002) (.lit 0) (.var 3000))) (.lit 1)) 4) (.i (.rd (.var 3002) (.ar .sub .i64 (.len (.sub (.var 3002) (.lit 0) (.var 3000))) (.lit 1)) 5) (.x (.rd (.var 3002) (.ar .sub .i64 (.len (.sub (.var 3002) (.lit 0) (.var 3000))) (.lit 1)) 6) (.i (.rd (.var 3002) (.var 3001) 0) (.i (.rd (.var 3002) (.var 3001) 1) (.i (.rd (.var 3002) (.var 3001) 2) (.i (.rd (.var 3002) (.var 3001) 3) (.i (.rd (.var 3002) (.var 3001) 4) (.i (.rd (.var 3002) (.var 3001) 5) (.x (.rd (.var 3002) (.var 3001) 6) .nil))))))))))))))) (.lit 0))
 (.ite (.cmp .leq (.plus (.var 3000) (.lit 1)) (.len (.var 3002)))
 (.next 0 ⟨[(0,(.plus (.var 3000) (.lit 1))),(1,(.ar .add .i64 (.var 3001) (.lit 1)))],[],[(2,(.app (.app (.sub (.var 3002) (.lit 0) (.var 3000)) (.app (.row (.i (.rd (.var 3002) (.var 3001) 0) (.i (.rd (.var 3002) (.var 3001) 1) (.i (.rd (.var 3002) (.var 3001) 2) (.i (.rd (.var 3002) (.var 3001) 3) (.i (.rd (.var 3002) (.var 3001) 4) (.i (.rd (.var 3002) (.var 3001) 5) (.x (.rd (.var 3002) (.var 3001) 6) .nil)))))))) .nil)) (.sub (.var 3002) (.plus (.var 3000) (.lit 1)) (.len (.var 3002)))))]⟩)
 (.ob (.tru (.cmp .leq (.len (.app (.sub (.var 3002) (.lit 0) (.var 3000)) (.app (.row (.i (.rd (.var 3002) (.var 3001) 0) (.i (.rd (.var 3002) (.var 3001) 1) (.i (.rd (.var 3002) (.var 3001) 2) (.i (.rd (.var 3002) (.var 3001) 3) (.i (.rd (.var 3002) (.var 3001) 4) (.i (.rd (.var 3002) (.var 3001) 5) (.x (.rd (.var 3002) (.var 3001) 6) .nil)))))))) .nil))) (.lit 1000000)))
 (.stuck "loop: slots")))
 (.ob (.tru (.cmp .leq (.lit 0) (.ar .sub .i64 (.len (.sub (.var 3002) (.lit 0) (.var 3000))) (.lit 1))))
 (.ob (.tru (.cmp .lss (.ar .sub .i64 (.len (.sub (.var 3002) (.lit 0) (.var 3000))) (.lit 1)) (.len (.sub (.var 3002) (.lit 0) (.var 3000)))))
 (.ite (.not (.fn 190 (.i (.rd (.var 3002) (.ar .sub .i64 (.len (.sub (.var 3002) (.lit 0) (.var 3000))) (.lit 1)) 0) (.i (.rd (.var 3002) (.ar .sub .i64 (.len (.sub (.var 3002) (.lit 0) (.var 3000))) (.lit 1)) 1) (.i (.rd (.var 3002) (.ar .sub .i64 (.len (.sub (.var 3002) (.lit 0) (.var 3000))) (.lit 1)) 2) (.i (.rd (.var 3002) (.ar .sub .i64 (.len (.sub (.var 3002) (.lit 0) (.var 3000))) (.lit 1)) 3) (.i (.rd (.var 3002) (.ar .sub .i64 (.len (.sub (.var 3002) (.lit 0) (.var 3000))) (.lit 1)) 4) (.i (.rd (.var 3002) (.ar .sub .i64 (.len (.sub (.var 3002) (.lit 0) (.var 3000))) (.lit 1)) 5) (.x (.rd (.var 3002) (.ar .sub .i64 (.len (.sub (.var 3002) (.lit 0) (.var 3000))) (.lit 1)) 6) (.i (.rd (.var 3002) (.var 3001) 0) (.i (.rd (.var 3002) (.var 3001) 1) (.i (.rd (.var 3002) (.var 3001) 2) (.i (.rd (.var 3002) (.var 3001) 3) (.i (.rd (.var 3002) (.var 3001) 4) (.i (.rd (.var 3002) (.var 3001) 5) (.x (.rd (.var 3002) (.var 3001) 6) .nil))))))))))))))))
 (.ret ((.tup [(.one (.z (.const (.slice none 0 0)))),(.one (.z (.int .i64 (.lit 18))))]),[(0,(.cells 32 [(.z (.ext f7 (.var 0) false)),(.z (.ext f7 (.var 1) false)),(.z (.ext f7 (.var 2) false)),(.z (.ext f7 (.var 3) false))]))],5))
 (.next 0 ⟨[(0,(.var 3000)),(1,(.ar .add .i64 (.var 3001) (.lit 1)))],[],[(2,(.var 3002))]⟩))))))))))
 (.ret ((.tup [(.one (.z (.ovw 1 (.lit 4) 7 (.lit 0) (.var 3000) false))),(.one (.z (.int .i64 (.lit 0))))]),[(1,(.own 29 f7 (.var 3002) (.lit 4))),(0,(.cells 32 [(.z (.ext f7 (.var 0) false)),(.z (.ext f7 (.var 1) false)),(.z (.ext f7 (.var 2) false)),(.z (.ext f7 (.var 3) false))])),(1,(.own 29 f7 (.fn 4 (.x (.app (.app (.app (.var 0) (.var 1)) (.var 2)) (.var 3)) .nil)) (.lit 4))),(1,(.own 29 f7 (.app (.app (.app (.var 0) (.var 1)) (.var 2)) (.var 3)) (.lit 4))),(1,(.own 29 f7 (.app (.app (.var 0) (.var 1)) (.var 2)) (.lit 3))),(1,(.own 29 f7 (.app (.var 0) (.var 1)) (.lit 2))),(1,(.own 29 f7 (.var 0) (.lit 1))),(1,(.own 29 f7 .nil (.lit 0)))],5)))))))))))))))))))
def b6J:List (Nat×St):=[
(2,⟨(List.append [(.v (.one (.z (.sl 0 0 4 (some 4))))),(.v (.one (.z .any))),(.v (.one (.z (.const (.slice none 0 0))))),(.v (.one (.z (.int .i64 (.lit 0))))),(.v (.one (.z (.own 1 (.lit 4))))),(.v (.one (.z (.clo 65 [])))),(.v (.one (.z (.ovw 1 (.lit 4) 7 (.lit 0) (.var 3000) false)))),(.v (.one (.z .any))),(.v (.one (.z .any))),(.v (.one (.z .any))),(.v (.one (.z (.sl 0 0 4 (some 4))))),(.v (.one (.z (.own 1 (.lit 4))))),(.v (.one (.z (.own 1 (.lit 4))))),(.v (.one (.z (.bool (.fn 202 (.x (.app (.app (.app (.var 0) (.var 1)) (.var 2)) (.var 3)) .nil)))))),(.v (.one (.z (.bool (.not (.fn 202 (.x (.app (.app (.app (.var 0) (.var 1)) (.var 2)) (.var 3)) .nil))))))),(.v (.one (.z (.own 1 (.lit 4))))),(.v (.one (.z (.clo 65 [])))),(.v (.one (.z .any))),(.v (.one (.z (.own 1 (.lit 4))))),(.v (.one (.z (.ovw 1 (.lit 4) 7 (.lit 0) (.lit 0) false)))),(.v (.one (.z (.own 1 (.lit 4))))),(.v (.one (.z (.int .i64 (.len (.fn 4 (.x (.app (.app (.app (.var 0) (.var 1)) (.var 2)) (.var 3)) .nil))))))),(.v (.one (.z (.int .i64 (.var 3001)))))] (List.replicate 34 V.any)),[(1,(.own 29 f7 (.var 3002) (.lit 4))),(0,(.cells 32 [(.z (.ext f7 (.var 0) false)),(.z (.ext f7 (.var 1) false)),(.z (.ext f7 (.var 2) false)),(.z (.ext f7 (.var 3) false))]))],3,[]⟩)]
def b8A:List (FuncId×Nat×Nat×St):=[
]
set_option maxRecDepth 100000 in
theorem b4D:T.norm 0 (call Tryz.prog a7m ⟨Lt.un (Lt.of [(64,0),(64,1)]),b6J,b8A⟩ 100 32 [.v (.one (.z (.sl 0 0 4 (some 4))))] [(0,.cells 32 (E4 0 ks4))] 1) TT.ret=a8w:=by kernel_rfl
theorem b1S:a8w.low 1000=true:=by kernel_rfl
def C7(x y:List D):Bool:=v4 (k7 x 0++k7 y 0)
def c3V(sx:X)(lie done:i8):TT i8:=
(.loop 0 3000 ⟨[(0,(.lit 0)),(1,(.lit 0))],[],[(2,sx)]⟩
 (.ite (.cmp .lss (.var 3001) (.len sx))
  (.ob (.tru (.cmp .leq (.lit 0) (.var 3001)))
  (.ob (.tru (.cmp .lss (.var 3001) (.len (.var 3002))))
  (.ite (.cmp .eql (.len (.sub (.var 3002) (.lit 0) (.var 3000))) (.lit 0))
   (.ite (.cmp .leq (.plus (.var 3000) (.lit 1)) (.len (.var 3002)))
    (.next 0 ⟨[(0,(.plus (.var 3000) (.lit 1))),(1,(.ar .add .i64 (.var 3001) (.lit 1)))],[],[(2,(.app (.app (.sub (.var 3002) (.lit 0) (.var 3000)) (.app (.row (.i (.rd (.var 3002) (.var 3001) 0) (.i (.rd (.var 3002) (.var 3001) 1) (.i (.rd (.var 3002) (.var 3001) 2) (.i (.rd (.var 3002) (.var 3001) 3) (.i (.rd (.var 3002) (.var 3001) 4) (.i (.rd (.var 3002) (.var 3001) 5) (.x (.rd (.var 3002) (.var 3001) 6) .nil)))))))) .nil)) (.sub (.var 3002) (.plus (.var 3000) (.lit 1)) (.len (.var 3002)))))]⟩)
    (.ob (.tru (.cmp .leq (.len (.app (.sub (.var 3002) (.lit 0) (.var 3000)) (.app (.row (.i (.rd (.var 3002) (.var 3001) 0) (.i (.rd (.var 3002) (.var 3001) 1) (.i (.rd (.var 3002) (.var 3001) 2) (.i (.rd (.var 3002) (.var 3001) 3) (.i (.rd (.var 3002) (.var 3001) 4) (.i (.rd (.var 3002) (.var 3001) 5) (.x (.rd (.var 3002) (.var 3001) 6) .nil)))))))) .nil))) (.lit 1000000)))
    (.stuck "loop: slots")))
   (.ob (.tru (.cmp .leq (.lit 0) (.ar .sub .i64 (.len (.sub (.var 3002) (.lit 0) (.var 3000))) (.lit 1))))
   (.ob (.tru (.cmp .lss (.ar .sub .i64 (.len (.sub (.var 3002) (.lit 0) (.var 3000))) (.lit 1)) (.len (.sub (.var 3002) (.lit 0) (.var 3000)))))
   (.ite (.cmp .neq (.fn 230 (.i (.rd (.var 3002) (.ar .sub .i64 (.len (.sub (.var 3002) (.lit 0) (.var 3000))) (.lit 1)) 0) (.i (.rd (.var 3002) (.ar .sub .i64 (.len (.sub (.var 3002) (.lit 0) (.var 3000))) (.lit 1)) 1) (.i (.rd (.var 3002) (.ar .sub .i64 (.len (.sub (.var 3002) (.lit 0) (.var 3000))) (.lit 1)) 2) (.i (.rd (.var 3002) (.ar .sub .i64 (.len (.sub (.var 3002) (.lit 0) (.var 3000))) (.lit 1)) 3) (.i (.rd (.var 3002) (.ar .sub .i64 (.len (.sub (.var 3002) (.lit 0) (.var 3000))) (.lit 1)) 4) (.i (.rd (.var 3002) (.ar .sub .i64 (.len (.sub (.var 3002) (.lit 0) (.var 3000))) (.lit 1)) 5) (.x (.rd (.var 3002) (.ar .sub .i64 (.len (.sub (.var 3002) (.lit 0) (.var 3000))) (.lit 1)) 6) (.i (.rd (.var 3002) (.var 3001) 0) (.i (.rd (.var 3002) (.var 3001) 1) (.i (.rd (.var 3002) (.var 3001) 2) (.i (.rd (.var 3002) (.var 3001) 3) (.i (.rd (.var 3002) (.var 3001) 4) (.i (.rd (.var 3002) (.var 3001) 5) (.x (.rd (.var 3002) (.var 3001) 6) .nil))))))))))))))) (.lit 0))
    (.ite (.cmp .leq (.plus (.var 3000) (.lit 1)) (.len (.var 3002)))
     (.next 0 ⟨[(0,(.plus (.var 3000) (.lit 1))),(1,(.ar .add .i64 (.var 3001) (.lit 1)))],[],[(2,(.app (.app (.sub (.var 3002) (.lit 0) (.var 3000)) (.app (.row (.i (.rd (.var 3002) (.var 3001) 0) (.i (.rd (.var 3002) (.var 3001) 1) (.i (.rd (.var 3002) (.var 3001) 2) (.i (.rd (.var 3002) (.var 3001) 3) (.i (.rd (.var 3002) (.var 3001) 4) (.i (.rd (.var 3002) (.var 3001) 5) (.x (.rd (.var 3002) (.var 3001) 6) .nil)))))))) .nil)) (.sub (.var 3002) (.plus (.var 3000) (.lit 1)) (.len (.var 3002)))))]⟩)
     (.ob (.tru (.cmp .leq (.len (.app (.sub (.var 3002) (.lit 0) (.var 3000)) (.app (.row (.i (.rd (.var 3002) (.var 3001) 0) (.i (.rd (.var 3002) (.var 3001) 1) (.i (.rd (.var 3002) (.var 3001) 2) (.i (.rd (.var 3002) (.var 3001) 3) (.i (.rd (.var 3002) (.var 3001) 4) (.i (.rd (.var 3002) (.var 3001) 5) (.x (.rd (.var 3002) (.var 3001) 6) .nil)))))))) .nil))) (.lit 1000000)))
     (.stuck "loop: slots")))
    (.ob (.tru (.cmp .leq (.lit 0) (.ar .sub .i64 (.len (.sub (.var 3002) (.lit 0) (.var 3000))) (.lit 1))))
    (.ob (.tru (.cmp .lss (.ar .sub .i64 (.len (.sub (.var 3002) (.lit 0) (.var 3000))) (.lit 1)) (.len (.sub (.var 3002) (.lit 0) (.var 3000)))))
    (.ite (.not (.fn 190 (.i (.rd (.var 3002) (.ar .sub .i64 (.len (.sub (.var 3002) (.lit 0) (.var 3000))) (.lit 1)) 0) (.i (.rd (.var 3002) (.ar .sub .i64 (.len (.sub (.var 3002) (.lit 0) (.var 3000))) (.lit 1)) 1) (.i (.rd (.var 3002) (.ar .sub .i64 (.len (.sub (.var 3002) (.lit 0) (.var 3000))) (.lit 1)) 2) (.i (.rd (.var 3002) (.ar .sub .i64 (.len (.sub (.var 3002) (.lit 0) (.var 3000))) (.lit 1)) 3) (.i (.rd (.var 3002) (.ar .sub .i64 (.len (.sub (.var 3002) (.lit 0) (.var 3000))) (.lit 1)) 4) (.i (.rd (.var 3002) (.ar .sub .i64 (.len (.sub (.var 3002) (.lit 0) (.var 3000))) (.lit 1)) 5) (.x (.rd (.var 3002) (.ar .sub .i64 (.len (.sub (.var 3002) (.lit 0) (.var 3000))) (.lit 1)) 6) (.i (.rd (.var 3002) (.var 3001) 0) (.i (.rd (.var 3002) (.var 3001) 1) (.i (.rd (.var 3002) (.var 3001) 2) (.i (.rd (.var 3002) (.var 3001) 3) (.i (.rd (.var 3002) (.var 3001) 4) (.i (.rd (.var 3002) (.var 3001) 5) (.x (.rd (.var 3002) (.var 3001) 6) .nil))))))))))))))))
     (.ret lie)
     (.next 0 ⟨[(0,(.var 3000)),(1,(.ar .add .i64 (.var 3001) (.lit 1)))],[],[(2,(.var 3002))]⟩))))))))))
  (.ret done)))
theorem c2j{x y:List D}:K0 (k7 x 0++k7 y 0)≠0↔(m5 x y||m5 y x)=true:=by
 have e:K0 (k7 x 0++k7 y 0)=V1 (cI x 0) (cI x 1) (cI y 0) (cI y 1):=rfl
 rw[e,Bool.or_eq_true]
 unfold m5
 rw[decide_eq_true_eq,decide_eq_true_eq]
 unfold V1
 repeat' split
 all_goals omega
theorem a7X(r:Rows)(k:Int):k5 r k ((r.length:Nat):Int)=r.drop k.toNat:=by
 unfold k5
 rw[Int.toNat_natCast,List.take_of_length_le (by rw[List.length_drop];omega)]
theorem a1w(c:Rows)(h:Nat):k5 c 0 (h:Int)=c.take h:=by
 unfold k5
 simp
theorem a8d{r:Rows}{i:Nat}(hi:i<r.length):[D.i (lg r (i:Int) 0),.i (lg r (i:Int) 1),.i (lg r (i:Int) 2),.i (lg r (i:Int) 3),.i (lg r (i:Int) 4),.i (lg r (i:Int) 5),.l (lr r (i:Int) 6)]=k7 r[i] 0:=by
 simp only[q7 hi,u6 hi]
 rfl
set_option maxHeartbeats 1000000 in
theorem a7P{ρ:Env}{sx:X}{r:Rows}{lie done:i8}{K:Env→i8→Prop}{J:Nat→LV→Prop}(h230:∀l,ρ.fi 230 l=K0 l)(h190:∀l,ρ.fb 190 l=v4 l)(hX0:sx.ev ρ=r)(hS:∀v,sx.ev (ρ.put 3000 v)=r)(hw:∀row∈r,m6 row)(hl:r.length≤1000)
 (hlie:Srt.mgD m5 C7 [] r=none→∀v,K (ρ.put 3000 v) lie) (hdone:∀out,Srt.mgD m5 C7 [] r=some out→∀v:LV,v.i 0=out.length→(v.d 2).take out.length=out→out.length≤(v.d 2).length→K (ρ.put 3000 v) done):(c3V sx lie done).sat ρ K J:=by
 unfold c3V
 refine TT.sat_loop (fun v=>∃h i:Nat,v.i 0=h∧v.i 1=i∧h≤i∧i≤r.length∧(v.d 2).length=r.length∧(v.d 2).drop i=r.drop i∧(∀row∈v.d 2,m6 row)∧Srt.mgD m5 C7 ((v.d 2).take h) (r.drop i)=Srt.mgD m5 C7 [] r) (fun v=>r.length-(v.i 1).toNat)
  ⟨0,0,by simp only[g7,Nat.reduceBEq,Nat.reduceLT,Nat.reduceSub];rfl,by simp only[g7,Nat.reduceBEq,Nat.reduceLT,Nat.reduceSub];rfl,by omega,by omega,by simp only[g7,Nat.reduceBEq,Nat.reduceLT,Nat.reduceSub,hX0],by simp only[g7,Nat.reduceBEq,Nat.reduceLT,Nat.reduceSub,hX0],by simp only[g7,Nat.reduceBEq,Nat.reduceLT,Nat.reduceSub,hX0];exact hw,by simp only[g7,Nat.reduceBEq,Nat.reduceLT,Nat.reduceSub,hX0];rfl⟩ (fun v hv=> ?_)
 obtain⟨h,i,h0,i0,h1,h2,h3,h4,h5,h6⟩:=hv
 have hb0:v.d 2=v.d 2:=rfl
 revert h3 h4 h5 h6
 generalize hc:v.d 2=c
 intro h3 h4 h5 h6
 simp only[g7,Nat.reduceBEq,Nat.reduceLT,Nat.reduceSub,h0,i0,hc,hS,h230,h190,a1w]
 rw[show((c.take h).length:Nat)=h by rw[List.length_take];omega]
 refine⟨fun hlt=> ?_,fun hge=> ?_⟩
 ·have hi:i<c.length:=by omega
  have hir:i<r.length:=by omega
  have hrow:=a5P h5 hi
  have hci:c[i]=r[i]:=by
   have:=congrArg (fun l=>l[0]?) h4
   simp only[List.getElem?_drop,Nat.add_zero,List.getElem?_eq_getElem hi,List.getElem?_eq_getElem hir] at this
   exact Option.some.inj this
  have hdr:r.drop i=r[i]::r.drop (i+1):=List.drop_eq_getElem_cons hir
  have hset:c.take h++([c[i]]++[])++k5 c ((h:Int)+1) ((c.length:Nat):Int)=c.set h c[i]:=by
   rw[show(h:Int)+1=((h+1:Nat):Int) by omega,a7X,Int.toNat_natCast,List.append_nil,List.set_eq_take_append_cons_drop,if_pos (by omega),List.append_assoc]
   rfl
  have hw1:IntKind.i64.wrap ((i:Int)+1)=((i+1:Nat):Int):=by rw[f9 _ (by omega) (by omega)];rfl
  have hsl:(c.set h c[i]).length=r.length:=by rw[List.length_set,h3]
  have hsd:(c.set h c[i]).drop (i+1)=r.drop (i+1):=by
   rw[List.drop_set_of_lt (by omega)]
   have:=congrArg (List.drop 1) h4
   rw[List.drop_drop,List.drop_drop] at this
   exact this
  have hsw:∀row∈c.set h c[i],m6 row:=fun row hrow=>by
   rcases List.mem_or_eq_of_mem_set hrow with q | q
   ·exact h5 row q
   ·rw[q];exact h5 _ (List.getElem_mem hi)
  have hst:(c.set h c[i]).take (h+1)=c.take h++[r[i]]:=by
   rw[List.take_succ_eq_append_getElem (by rw[List.length_set];omega),List.take_set_of_le (Nat.le_refl _),List.getElem_set_self,hci]
  have hput:Srt.mgD m5 C7 (c.take h++[r[i]]) (r.drop (i+1))=Srt.mgD m5 C7 [] r→(∃h_1 i_1:Nat,(h:Int)+1=h_1∧((i+1:Nat):Int)=i_1∧h_1≤i_1∧i_1≤r.length∧(c.set h c[i]).length=r.length∧(c.set h c[i]).drop i_1=r.drop i_1∧(∀row∈c.set h c[i],m6 row)∧Srt.mgD m5 C7 ((c.set h c[i]).take h_1) (r.drop i_1)=Srt.mgD m5 C7 [] r):=fun q=>
   ⟨h+1,i+1,by omega,rfl,by omega,by omega,hsl,hsd,hsw,by rw[hst];exact q⟩
  rw[hdr,Srt.mgD] at h6
  rw[hw1,hrow,hset]
  refine⟨by omega,by omega,fun hz=>⟨fun hle=>⟨hput ?_,by omega⟩,fun hle=>by omega⟩,fun hz=> ?_⟩
  ·obtain rfl:h=0:=by omega
   simpa using h6
  ·have hlast:(c.take h).getLast? = some c[h-1]:=by
    rw[List.getLast?_take,if_neg (by omega),List.getElem?_eq_getElem (by omega)];rfl
   rw[hlast] at h6
   have hwl:IntKind.i64.wrap ((h:Int)-1)=((h-1:Nat):Int):=by rw[f9 _ (by omega) (by omega)];omega
   have ha:=a8d (r:=c) (i:=h-1) (by omega)
   have hbi:c[i]=k7 c[i] 0:=(h5 _ (List.getElem_mem hi)).1
   have hcc:[D.i (lg c ((h-1:Nat):Int) 0),.i (lg c ((h-1:Nat):Int) 1),.i (lg c ((h-1:Nat):Int) 2),.i (lg c ((h-1:Nat):Int) 3),.i (lg c ((h-1:Nat):Int) 4),.i (lg c ((h-1:Nat):Int) 5),.l (lr c ((h-1:Nat):Int) 6)]++c[i]=k7 c[h-1] 0++k7 c[i] 0:=by rw[ha,←hbi]
   simp only[List.cons_append,List.nil_append] at hcc
   have hord:=c2j (x:=c[h-1]) (y:=c[i])
   have hns:v4 (k7 c[h-1] 0++k7 c[i] 0)=C7 c[h-1] c[i]:=rfl
   have hle:c[h-1]∈c:=List.getElem_mem (by omega)
   rw[hwl,hcc,hns]
   simp only[←hci] at h6 hput
   refine⟨by omega,by omega,fun hne=>⟨fun hle=>⟨hput ?_,by omega⟩,fun hle=>by omega⟩,fun heq=>⟨by omega,by omega,fun hnq=> ?_,fun hq=>⟨⟨h,i+1,rfl,rfl,by omega,by omega,h3,?_,h5,?_⟩,by omega⟩⟩⟩
   ·rw[if_pos (hord.1 hne)] at h6
    exact h6
   ·rw[if_neg (fun q=>heq (hord.2 q)),if_neg (by rw[hnq];decide)] at h6
    exact hlie h6.symm v
   ·have:=congrArg (List.drop 1) h4
    rw[List.drop_drop,List.drop_drop] at this
    exact this
   ·rw[if_neg (fun q=>heq (hord.2 q)),if_pos hq] at h6
    exact h6
 ·obtain rfl:i=r.length:=by omega
  rw[List.drop_length,Srt.mgD] at h6
  refine hdone _ h6.symm v (by rw[h0,List.length_take];omega) ?_ ?_
  ·rw[hc,List.length_take,Nat.min_eq_left (by omega)]
  ·rw[hc,List.length_take];omega
def T5(ds:List D):Rows:=(ds.map D.rows).flatten
def G5(l:Rows):Option Rows:=Srt.mgS m5 C7 l
def D5(ds:List D):Rows:=if u9 (T5 ds) then(G5 (T5 ds)).getD [] else []
def z8(ds:List D):Int:=if u9 (T5 ds) then(if (G5 (T5 ds)).isSome then 0 else 18) else 1
def P6(ds:List D):Bool:=decide ((T5 ds).length<40)
def X3:NL:=⟨29,f7,5,D5⟩
def L9(ds:List D)(v:Value):Value:= .tuple #[v,.int .i64 (z8 ds)]
theorem b5a(W:World)(ds l:List D):(g8 QB W ds).fb 202 l=O6 l:=by simp only[g8,QB,QA,Q9,Q8,Q7,Q5,Q4,Q3]
theorem b5Y(W:World)(ds l:List D):(g8 QB W ds).fb 190 l=v4 l:=by simp only[g8,QB,QA,Q9,Q8,Q7,Q5,Q4,Q3,Q2]
theorem b4V(W:World)(ds l:List D):(g8 QB W ds).fi 230 l=K0 l:=by simp only[g8,QB,QA,Q9,Q8,Q7]
theorem b3Y{w:World}{ds:List D}(l:List D):(g8 QB w ds).fb 270 l=a4z l:=rfl
theorem a4W{w:World}{ds:List D}(l:List D):(g8 QB w ds).fd 4 l=a1a l:=rfl
theorem c2g{w:World}{v:Value}{r:Rows}(h:CK.rep w (.sl f7) v (.l r)):∀row∈r,m6 row:=fun row hrow=>J9 ((R6 (a5O _ _ _ h)).elim fun s hs=>by
 have:=hs.1
 simp only[D.l.injEq] at this
 subst this
 exact hs.2.2 row hrow)
theorem E3{w:World}{ks:List CK}{us:List Value}{ds:List D}(h:CK.reps w (.sl f7::ks) us ds):∃r us' ds',ds= .l r::ds'∧(∀row∈r,m6 row)∧CK.reps w ks us' ds':=by
 unfold CK.reps at h
 obtain⟨v,us',d,ds',rfl,rfl,h1,h2⟩:=h
 have h1':=h1
 rw[x9] at h1
 obtain⟨r,rfl,_⟩:=h1
 exact⟨r,us',ds',rfl,c2g h1',h2⟩
theorem b6k{l:Rows}(h:∀row∈l,m6 row)(hl:l.length<40):∀row∈Srt.sortS m5 l,m6 row:=fun row hrow=>h row ((Srt.sortS_mem b3m hl row).1 hrow)
theorem I2{ρ:Env}{σ:As}{s:S0}{e:E}{u:Value}(h:V.den ρ σ (.tup [.one (.z s),.one (.z (.int .i64 e))]) u):∃v,s.den ρ σ v∧u= .tuple #[v,.int .i64 (e.ev ρ)]:=by
 obtain⟨vs,h,rfl⟩:=h
 obtain⟨w1,vs,rfl,h1,h⟩:=DL.cons_inv h
 obtain⟨w2,vs,rfl,h2,h⟩:=DL.cons_inv h
 obtain rfl:=DL.nil_inv h
 obtain rfl:w2= .int .i64 (e.ev ρ):=h2
 exact⟨w1,h1,rfl⟩
theorem b7V(a b c:Rows):T5 [.l a,.l b,.l c]=a++b++c:=by
 unfold T5
 simp [D.rows]
set_option maxHeartbeats 1000000 in
theorem c4n:a3V Tryz.prog 32 32 ks3 X3 (fun ds=>P6 ds=true) (fun ds v u=>u=L9 ds v):=by
 refine a6C QB (by kernel_rfl) (fun ρ h=>a3b (Sees.of h 280) (SeesD.of h 5)) (by kernel_rfl) b3T b2w (by decide) (fun w0 us ds hr hok=> ?_)
 unfold ks3 at hr
 obtain⟨a,us0,ds0,rfl,wa,hr⟩:=E3 hr
 obtain⟨b,us1,ds1,rfl,wb,hr⟩:=E3 hr
 obtain⟨c,us2,ds2,rfl,wc,hr⟩:=E3 hr
 obtain⟨-,rfl⟩:=hr
 unfold P6 at hok
 have hok:=of_decide_eq_true hok
 rw[b7V] at hok
 have hR:X3.rows [.l a,.l b,.l c]=D5 [.l a,.l b,.l c]:=rfl
 unfold D5 G5 Srt.mgS at hR
 have hE:z8 [.l a,.l b,.l c]=z8 [.l a,.l b,.l c]:=rfl
 conv at hE=>rhs;unfold z8 G5 Srt.mgS
 rw[b7V] at hR hE
 have hwf:∀row∈a++b++c,m6 row:=fun row hrow=>by
  simp only[List.mem_append] at hrow
  rcases hrow with (h | h) | h
  all_goals first | exact wa row h | exact wb row h | exact wc row h
 have hlen:(a++b++c).length=a.length+b.length+c.length:=by simp only[List.length_append]
 rw[hlen] at hok
 have r0:f8 [.l a,.l b,.l c] 0=a:=rfl
 have r1:f8 [.l a,.l b,.l c] 1=b:=rfl
 have r2:f8 [.l a,.l b,.l c] 2=c:=rfl
 have hAr:∀l:Rows,O6 [.l l]=u9 l:=fun _=>rfl
 have hSo:a4z [.l (a++b++c)]=true:=decide_eq_true (by show(a++b++c).length<40;omega)
 have hSr:a1a [.l (a++b++c)]=Srt.sortS m5 (a++b++c):=rfl
 simp only[a8f,g7,Nat.reduceBEq,Nat.reduceLT,Nat.reduceSub,r0,r1,r2,b5a,b3Y,a4W,hAr,hSr]
 have w0:IntKind.i64.wrap (0+((a.length:Nat):Int))=((a.length:Nat):Int):=by rw[f9 _ (by omega) (by omega)];omega
 have w1:IntKind.i64.wrap (((a.length:Nat):Int)+((b.length:Nat):Int))=((a.length+b.length:Nat):Int):=by rw[f9 _ (by omega) (by omega)];omega
 have w2:IntKind.i64.wrap (((a.length+b.length:Nat):Int)+((c.length:Nat):Int))=((a.length+b.length+c.length:Nat):Int):=by rw[f9 _ (by omega) (by omega)];omega
 simp only[w0,w1,w2]
 have l2:(a++b).length=a.length+b.length:=by simp only[List.length_append]
 have l3:(a++b++c).length=a.length+b.length+c.length:=by simp only[List.length_append]
 refine⟨fun _=>by omega,fun _=>⟨fun _=>by omega,fun _=>⟨fun _=>by omega,fun _=>⟨by omega,by omega,by omega,by rw[l2];omega,by rw[l3];omega,fun hN=> ?_,fun hY=>⟨hSo,by omega,?_⟩⟩⟩⟩⟩
 ·rw[if_neg (by rw[hN];decide)] at hR hE
  refine⟨.const (.slice none 0 0),.nil,.inl rfl,rfl,by rw[hR];rfl,fun σ u _ hu=> ?_⟩
  obtain⟨v,h1,h2⟩:=I2 hu
  exact⟨v,h1,by rw[h2];unfold L9;rw[hE];rfl⟩
 ·rw[if_pos hY] at hR hE
  have hsl:=Srt.sortS_len (lt:=m5) (a++b++c)
  refine a7P (r:=Srt.sortS m5 (a++b++c)) (fun l=>b4V _ _ l) (fun l=>b5Y _ _ l) (by simp only[X.ev,AL.ev,p7,g7,Nat.reduceBEq,Nat.reduceLT,Nat.reduceSub,r0,r1,r2,a4W,hSr]) (fun v=>by simp only[X.ev,AL.ev,p7,g7,Nat.reduceBEq,Nat.reduceLT,Nat.reduceSub,r0,r1,r2,a4W,hSr]) (b6k hwf (by omega)) (by omega) (fun hn v=> ?_) (fun out ho v v0 v1 v2=> ?_)
  ·rw[hn] at hR hE
   refine⟨.const (.slice none 0 0),.nil,.inr ⟨[.z (.ext f7 (.var 0) false),.z (.ext f7 (.var 1) false),.z (.ext f7 (.var 2) false)],(.x (.var 0) (.x (.var 1) (.x (.var 2) .nil))),rfl,rfl,by simp only[AL.ev,X.ev,p7,g7,Nat.reduceBEq,Nat.reduceLT,Nat.reduceSub,r0,r1,r2]⟩,rfl,by rw[hR];rfl,fun σ u _ hu=> ?_⟩
   obtain⟨v,h1,h2⟩:=I2 hu
   exact⟨v,h1,by rw[h2];unfold L9;rw[hE];rfl⟩
  ·rw[ho] at hR hE
   refine⟨.ovw 1 (.lit 3) 7 (.lit 0) (.var 3000) false,.sub (.var 3002) (.lit 0) (.var 3000),.inr ⟨[.z (.ext f7 (.var 0) false),.z (.ext f7 (.var 1) false),.z (.ext f7 (.var 2) false)],(.x (.var 0) (.x (.var 1) (.x (.var 2) .nil))),rfl,rfl,by simp only[AL.ev,X.ev,p7,g7,Nat.reduceBEq,Nat.reduceLT,Nat.reduceSub,r0,r1,r2]⟩,by kernel_rfl,?_,fun σ u _ hu=> ?_⟩
   ·rw[hR]
    simp only[X.ev,p7,g7,Nat.reduceBEq,Nat.reduceLT,Nat.reduceSub,v0,a1w]
    exact v1
   ·obtain⟨v,h1,h2⟩:=I2 hu
    exact⟨v,h1,by rw[h2];unfold L9;rw[hE];rfl⟩
theorem b8g(a b c d:Rows):T5 [.l a,.l b,.l c,.l d]=a++b++c++d:=by
 unfold T5
 simp [D.rows]
set_option maxHeartbeats 1000000 in
theorem c4r:a3V Tryz.prog 32 32 ks4 X3 (fun ds=>P6 ds=true) (fun ds v u=>u=L9 ds v):=by
 refine a6C QB (by kernel_rfl) (fun ρ h=>a3b (Sees.of h 280) (SeesD.of h 5)) (by kernel_rfl) b4D b1S (by decide) (fun w0 us ds hr hok=> ?_)
 unfold ks4 at hr
 obtain⟨a,us0,ds0,rfl,wa,hr⟩:=E3 hr
 obtain⟨b,us1,ds1,rfl,wb,hr⟩:=E3 hr
 obtain⟨c,us2,ds2,rfl,wc,hr⟩:=E3 hr
 obtain⟨d,us3,ds3,rfl,wd,hr⟩:=E3 hr
 obtain⟨-,rfl⟩:=hr
 unfold P6 at hok
 have hok:=of_decide_eq_true hok
 rw[b8g] at hok
 have hR:X3.rows [.l a,.l b,.l c,.l d]=D5 [.l a,.l b,.l c,.l d]:=rfl
 unfold D5 G5 Srt.mgS at hR
 have hE:z8 [.l a,.l b,.l c,.l d]=z8 [.l a,.l b,.l c,.l d]:=rfl
 conv at hE=>rhs;unfold z8 G5 Srt.mgS
 rw[b8g] at hR hE
 have hwf:∀row∈a++b++c++d,m6 row:=fun row hrow=>by
  simp only[List.mem_append] at hrow
  rcases hrow with ((h | h) | h) | h
  all_goals first | exact wa row h | exact wb row h | exact wc row h | exact wd row h
 have hlen:(a++b++c++d).length=a.length+b.length+c.length+d.length:=by simp only[List.length_append]
 rw[hlen] at hok
 have r0:f8 [.l a,.l b,.l c,.l d] 0=a:=rfl
 have r1:f8 [.l a,.l b,.l c,.l d] 1=b:=rfl
 have r2:f8 [.l a,.l b,.l c,.l d] 2=c:=rfl
 have r3:f8 [.l a,.l b,.l c,.l d] 3=d:=rfl
 have hAr:∀l:Rows,O6 [.l l]=u9 l:=fun _=>rfl
 have hSo:a4z [.l (a++b++c++d)]=true:=decide_eq_true (by show(a++b++c++d).length<40;omega)
 have hSr:a1a [.l (a++b++c++d)]=Srt.sortS m5 (a++b++c++d):=rfl
 simp only[a8w,g7,Nat.reduceBEq,Nat.reduceLT,Nat.reduceSub,r0,r1,r2,r3,b5a,b3Y,a4W,hAr,hSr]
 have w0:IntKind.i64.wrap (0+((a.length:Nat):Int))=((a.length:Nat):Int):=by rw[f9 _ (by omega) (by omega)];omega
 have w1:IntKind.i64.wrap (((a.length:Nat):Int)+((b.length:Nat):Int))=((a.length+b.length:Nat):Int):=by rw[f9 _ (by omega) (by omega)];omega
 have w2:IntKind.i64.wrap (((a.length+b.length:Nat):Int)+((c.length:Nat):Int))=((a.length+b.length+c.length:Nat):Int):=by rw[f9 _ (by omega) (by omega)];omega
 have w3:IntKind.i64.wrap (((a.length+b.length+c.length:Nat):Int)+((d.length:Nat):Int))=((a.length+b.length+c.length+d.length:Nat):Int):=by rw[f9 _ (by omega) (by omega)];omega
 simp only[w0,w1,w2,w3]
 have l2:(a++b).length=a.length+b.length:=by simp only[List.length_append]
 have l3:(a++b++c).length=a.length+b.length+c.length:=by simp only[List.length_append]
 have l4:(a++b++c++d).length=a.length+b.length+c.length+d.length:=by simp only[List.length_append]
 refine⟨fun _=>by omega,fun _=>⟨fun _=>by omega,fun _=>⟨fun _=>by omega,fun _=>⟨fun _=>by omega,fun _=>⟨by omega,by omega,by omega,by rw[l2];omega,by rw[l3];omega,by rw[l4];omega,fun hN=> ?_,fun hY=>⟨hSo,by omega,?_⟩⟩⟩⟩⟩⟩
 ·rw[if_neg (by rw[hN];decide)] at hR hE
  refine⟨.const (.slice none 0 0),.nil,.inl rfl,rfl,by rw[hR];rfl,fun σ u _ hu=> ?_⟩
  obtain⟨v,h1,h2⟩:=I2 hu
  exact⟨v,h1,by rw[h2];unfold L9;rw[hE];rfl⟩
 ·rw[if_pos hY] at hR hE
  have hsl:=Srt.sortS_len (lt:=m5) (a++b++c++d)
  refine a7P (r:=Srt.sortS m5 (a++b++c++d)) (fun l=>b4V _ _ l) (fun l=>b5Y _ _ l) (by simp only[X.ev,AL.ev,p7,g7,Nat.reduceBEq,Nat.reduceLT,Nat.reduceSub,r0,r1,r2,r3,a4W,hSr]) (fun v=>by simp only[X.ev,AL.ev,p7,g7,Nat.reduceBEq,Nat.reduceLT,Nat.reduceSub,r0,r1,r2,r3,a4W,hSr]) (b6k hwf (by omega)) (by omega) (fun hn v=> ?_) (fun out ho v v0 v1 v2=> ?_)
  ·rw[hn] at hR hE
   refine⟨.const (.slice none 0 0),.nil,.inr ⟨[.z (.ext f7 (.var 0) false),.z (.ext f7 (.var 1) false),.z (.ext f7 (.var 2) false),.z (.ext f7 (.var 3) false)],(.x (.var 0) (.x (.var 1) (.x (.var 2) (.x (.var 3) .nil)))),rfl,rfl,by simp only[AL.ev,X.ev,p7,g7,Nat.reduceBEq,Nat.reduceLT,Nat.reduceSub,r0,r1,r2,r3]⟩,rfl,by rw[hR];rfl,fun σ u _ hu=> ?_⟩
   obtain⟨v,h1,h2⟩:=I2 hu
   exact⟨v,h1,by rw[h2];unfold L9;rw[hE];rfl⟩
  ·rw[ho] at hR hE
   refine⟨.ovw 1 (.lit 4) 7 (.lit 0) (.var 3000) false,.sub (.var 3002) (.lit 0) (.var 3000),.inr ⟨[.z (.ext f7 (.var 0) false),.z (.ext f7 (.var 1) false),.z (.ext f7 (.var 2) false),.z (.ext f7 (.var 3) false)],(.x (.var 0) (.x (.var 1) (.x (.var 2) (.x (.var 3) .nil)))),rfl,rfl,by simp only[AL.ev,X.ev,p7,g7,Nat.reduceBEq,Nat.reduceLT,Nat.reduceSub,r0,r1,r2,r3]⟩,by kernel_rfl,?_,fun σ u _ hu=> ?_⟩
   ·rw[hR]
    simp only[X.ev,p7,g7,Nat.reduceBEq,Nat.reduceLT,Nat.reduceSub,v0,a1w]
    exact v1
   ·obtain⟨v,h1,h2⟩:=I2 hu
    exact⟨v,h1,by rw[h2];unfold L9;rw[hE];rfl⟩
def QC:Interp where
 fi n l:=match n with | 280=>z8 l | n=>QB.fi n l
 fb n l:=match n with | 280=>P6 l | n=>QB.fb n l
 fd n l:=match n with | 5=>D5 l | n=>QB.fd n l
theorem c4f{ρ:Env}(h:SeesD ρ QC 6):SeesD ρ QB 5:=fun n l hn=>by
 rw[h n l (by omega)]
 simp only[QC]
 split<;>first | omega | rfl
theorem c4Z{ρ:Env}(h:Sees ρ QC 290):Sees ρ QB 280:=h.trans (by decide) fun n l hn=>by
 refine⟨?_,?_⟩
 ·
  simp only[QC]
  split<;>first | omega | rfl
 ·
  simp only[QC]
  split<;>first | omega | rfl
def a3M(al:AL):List Ob:=[.tru (.fn 280 al)]
def a1V(al:AL)(nx:Nat):V:= .tup [.one (.z (.own nx (.lit 0))),.one (.z (.int .i64 (.fn 280 al)))]
def b7z(args:List V)(mem:Mem)(nx:Nat):T i8:=match a7h mem 32 ks3 args with
 | some _=>a5D 32 ks3 X3 a3M a1V args mem nx
 | none=>a5D 32 ks4 X3 a3M a1V args mem nx
theorem a4u{ρ:Env}(h:Sees ρ QC 290)(al:AL)(nx:Nat)(σ':As)(v:Value)(hd:(S0.own nx (.lit 0)).den ρ σ' v):(a1V al nx).den ρ σ' (L9 (al.ev ρ) v):=
 ⟨[v,.int .i64 (z8 (al.ev ρ))],⟨hd,by
   show Value.int .i64 (z8 (al.ev ρ))=Value.int .i64 ((E.fn 280 al).ev ρ)
   simp only[E.ev]
   rw[(h 280 _ (by decide)).1];rfl,trivial⟩,rfl⟩
theorem c0L{ρ:Env}(h:Sees ρ QC 290)(hd:SeesD ρ QC 6):i4 Tryz.prog ρ 32 b7z:=by
 have h3:i4 Tryz.prog ρ 32 (a5D 32 ks3 X3 a3M a1V):=b1l rfl c4n (J1 fun l=>(h 280 l (by decide)).2.trans rfl) (fun a=>(hd 5 a (by decide)).trans rfl) (a4u h)
 have h4:i4 Tryz.prog ρ 32 (a5D 32 ks4 X3 a3M a1V):=b1l rfl c4r (J1 fun l=>(h 280 l (by decide)).2.trans rfl) (fun a=>(hd 5 a (by decide)).trans rfl) (a4u h)
 intro args mem nx q hq hle
 unfold b7z at hq
 split at hq
 ·exact h3 args mem nx q hq hle
 ·exact h4 args mem nx q hq hle
def b3n:Ct:=(32,b7z)::a7m
theorem a8v{ρ:Env}(h:Sees ρ QC 290)(hd:SeesD ρ QC 6):CtOk Tryz.prog ρ b3n:= .cons (c0L h hd)<|a3b (c4Z h) (c4f hd)
end Go.Proofs.YtbbjlleaofgddaaGreat
