/- MY, merged: Yv, Yc, Yh, Yp. -/
import Derived.Test.YtbbjlleaofgddaaGreatMK
import Derived.OwnWalk
import Derived.Shelf.Spec.SlicesInsert
import Derived.Lib.AppendZerosOnto
import Derived.Lib.Overlaps
import Derived.Laws.Externs
set_option linter.unusedSimpArgs false
set_option linter.unusedVariables false
namespace Go.Proofs.YtbbjlleaofgddaaGreat
open Go.RowKit
def W00:World:= { heap:= #[],tape:=fun _ _=>0,drawn:=0,os:=default,output:= #[] }
section
variable (ρ:Env) (w:World)
mutual
theorem E.ev_w:∀e:E,e.ev { ρ with w:=w }=e.ev ρ
 | .lit _=>rfl
 | .var _=>rfl
 | .ar o k a b=>by rw[E.ev,E.ev,E.ev_w a,E.ev_w b]
 | .wr k a=>by rw[E.ev,E.ev,E.ev_w a]
 | .mx a b=>by rw[E.ev,E.ev,E.ev_w a,E.ev_w b]
 | .mn a b=>by rw[E.ev,E.ev,E.ev_w a,E.ev_w b]
 | .fn s l=>by rw[E.ev,E.ev,AL.ev_w l]
 | .len x=>by rw[E.ev,E.ev,X.ev_w x]
 | .rd x i j=>by rw[E.ev,E.ev,X.ev_w x,E.ev_w i]
 | .plus a b=>by rw[E.ev,E.ev,E.ev_w a,E.ev_w b]
theorem X.ev_w:∀x:X,x.ev { ρ with w:=w }=x.ev ρ
 | .var _=>rfl
 | .nil=>rfl
 | .rd x i j=>by rw[X.ev,X.ev,X.ev_w x,E.ev_w i]
 | .sub x lo hi=>by rw[X.ev,X.ev,X.ev_w x,E.ev_w lo,E.ev_w hi]
 | .app x y=>by rw[X.ev,X.ev,X.ev_w x,X.ev_w y]
 | .row l=>by rw[X.ev,X.ev,AL.ev_w l]
 | .upd x i j l=>by rw[X.ev,X.ev,X.ev_w x,E.ev_w i,AL.ev_w l]
 | .fn s l=>by rw[X.ev,X.ev,AL.ev_w l]
 | .rep n l=>by rw[X.ev,X.ev,E.ev_w n,AL.ev_w l]
theorem AL.ev_w:∀l:AL,l.ev { ρ with w:=w }=l.ev ρ
 | .nil=>rfl
 | .i e r=>by rw[AL.ev,AL.ev,E.ev_w e,AL.ev_w r]
 | .b e r=>by rw[AL.ev,AL.ev,B.ev_w e,AL.ev_w r]
 | .x e r=>by rw[AL.ev,AL.ev,X.ev_w e,AL.ev_w r]
theorem B.ev_w:∀b:B,b.ev { ρ with w:=w }=b.ev ρ
 | .lit _=>rfl
 | .var _=>rfl
 | .cmp o a b=>by rw[B.ev,B.ev,E.ev_w a,E.ev_w b]
 | .not a=>by rw[B.ev,B.ev,B.ev_w a]
 | .eqb a b=>by rw[B.ev,B.ev,B.ev_w a,B.ev_w b]
 | .and a b=>by rw[B.ev,B.ev,B.ev_w a,B.ev_w b]
 | .fn s l=>by rw[B.ev,B.ev,AL.ev_w l]
 | .rd x i j=>by rw[B.ev,B.ev,X.ev_w x,E.ev_w i]
end
end
def TT.evB(ρ:Env):TT i8→Bool
 | .ret (.v (.one (.z (.bool b))),_)=>b.ev ρ
 | .ite c t e=>if c.ev ρ then TT.evB ρ t else TT.evB ρ e
 | _=>false
def TT.tests:TT i8→Bool
 | .ret (.v (.one (.z (.bool _))),_)=>true
 | .ite _ t e=>TT.tests t&&TT.tests e
 | _=>false
theorem TT.evB_w(ρ:Env)(w:World):∀t:TT i8,t.evB { ρ with w:=w }=t.evB ρ:=by
 intro t
 induction t with
 | ret a=>unfold TT.evB;split<;>simp [B.ev_w] at*
 | ite c t e i1 i2=>rw[TT.evB,TT.evB,B.ev_w,i1,i2]
 | ob o t ih=>rfl
 | stuck s=>rfl
 | loop d N init body ih=>rfl
 | next d m=>rfl
theorem TT.sat_tests{ρ:Env}{K:Env→i8→Prop}{J:Nat→LV→Prop}:∀ {t:TT i8},t.tests=true→(∀q,q.1.plain=true→q.1.val ρ= .bool (t.evB ρ)→K ρ q)→t.sat ρ K J:=by
 intro t
 induction t with
 | ret a=>
   intro h hk
   obtain⟨v,m⟩:=a
   unfold TT.tests at h
   split at h
   ·rename_i b ws he
    injection he with he
    injection he with h1 h2
    subst h1
    exact hk _ rfl rfl
   ·rename_i he;injection he
   ·cases h
 | ite c t e i1 i2=>
   intro h hk
   rw[TT.tests,Bool.and_eq_true] at h
   refine⟨fun hc=>i1 h.1 (fun q p1 p2=>hk q p1 ?_),fun hc=>i2 h.2 (fun q p1 p2=>hk q p1 ?_)⟩
   ·rw[p2,TT.evB,hc];rfl
   ·rw[p2,TT.evB,hc];rfl
 | ob o t ih=>intro h;cases h
 | stuck s=>intro h;cases h
 | loop d N init body ih=>intro h;cases h
 | next d m=>intro h;cases h
section
variable {P:Program} {ct:Ct} {lt:Lt}
theorem a7s(I:Interp)(hmix:P.follows .mixedOrders=true)(hct:∀ρ,ρ.has I→CtOk P ρ ct)(hce:ct.all (fun p=>G0 P p.1)=true){n:Nat}{f:FuncId}{sh:List Sh}{tr:TT i8}(he:T.norm 0 (call P ct lt n f (i5 0 sh) [] 0) TT.ret=tr)
 (hlow:tr.low 1000=true) (hsh:Y6 sh≤1000) (ht:tr.tests=true):k8 P f sh (fun ds=> .bool (tr.evB (g8 I W00 ds))):=by
 refine GivesIf.all (i6 I hmix hct hce he hlow hsh (fun W vals ds _ _=>TT.sat_tests ht (fun q p1 p2=>⟨p1,?_⟩)))
 rw[p2]
 congr 1
 exact TT.evB_w (g8 I W00 ds) W tr
end
end Go.Proofs.YtbbjlleaofgddaaGreat
namespace Go.Proofs.YtbbjlleaofgddaaGreat
open Go.RowKit
section
variable {P:Program}
theorem S8{ops:Array Oper}{rest:List Oper}{o:Oper}{a:Act}{W:World}{Q:Exit→Act→World→Prop}(hgd:o.guard=none)(s x:Operand)(t:TypeId)
 (ho:o.op= .call { callee:= .builtin .append,args:= #[s,x],argTypes:= #[t,t] }) (base:Nat) (e:TypeId) (i:TypeInfo) (z:Value) (size bytes:Nat) (ht:P.underlying t=some (.slice e)) (hi:P.info? e=some i) (hz:i.zero=some z)
 (hsize:i.size=size) (hby:i.bytes=bytes) (hzs:z.cells.size=size) (v:Value) (n:Nat) (xs:List Value) (hs:a.eval s=v) (hown:OwnRow W base e size v n xs) (hv:∃a c,v= .slice a n c)
 (ad:Option Addr) (m c:Nat) (news:List Value) (hx:a.eval x= .slice ad m c) (hl:news.length=m*size) (ha:0<m→ad.isSome=true) (hnews:∀b,ad=some b→∀j u,news[j]? = some u→W.cell? (b.add j)=some u) (h1:∀u∈news,u.oneCell'=true)
 (h63:n+m≤maxLen) (hbytes:(n+m)*bytes≤140737488355328) (hbase:base≤W.heap.size)
 (h:∀v' W',AppRes W base e size v (n+m) (xs++news) v' W'→wpList P ops Q rest (a.put o.dst v') W'):wpList P ops Q (o::rest) a W:=by
 refine wpList_plain hgd fun K hK=> ?_
 obtain⟨v',W',hr,h2⟩:=N8 (P:=P) W (base:=base) (t:=t) (ty:=o.type) (z:=z) (size:=size) ht hi hz hsize hzs hown hv hl ha hnews h1 h63 (by rw[hby];exact hbytes) hbase
 unfold Oper.wp execOp
 simp only[ho,resolve,invoke,builtin,Sem.run_bind,Sem.run_pure,Result.andThen_ok,List.map_toArray,List.map_cons,List.map_nil,hs,hx]
 rw[hr]
 exact hK _ _ (h v' W' h2)
theorem b3h{t e:TypeId}(ht:P.underlying t=some (.slice e))(a:Option Addr)(n c:Nat)(W:World):Sem.run P (binOp .eql t (.slice a n c) (.slice none 0 0)) W= .ok (.bool a.isNone) W:=by
 have h0:binOp .eql t (.slice a n c) (.slice none 0 0)=(do pure (.bool (←Op.equal t (.slice a n c) (.slice none 0 0)))):=rfl
 have h1:∀d,Sem.run P (Op.equalIn (d+1) t (.slice a n c) (.slice none 0 0)) W= .ok a.isNone W:=fun d=>by
  rw[Op.equalIn]
  simp only[Sem.run_bind,run_underlying ht,Result.andThen_ok]
  cases a<;>rfl
 have h2:Sem.run P (Op.equal t (.slice a n c) (.slice none 0 0)) W= .ok a.isNone W:=h1 _
 rw[h0]
 simp only[Sem.run_bind,h2,Result.andThen_ok,Sem.run_pure]
theorem AppRes.fresh{W W':World}{o:Obj}{base:Nat}{e:TypeId}{size:Nat}{a:Option Addr}{n m:Nat}{xs:List Value}{v':Value}(h:AppRes (W.alloc o) base e size (.slice a 0 0) m xs v' W')(hm:m=n):AppRes W base e size (.slice none 0 0) n xs v' W':=by
 subst hm
 have hr:j9 (.slice a 0 0)=none:=by cases a<;>rfl
 refine⟨h.row,h.os,h.tape,h.output,?_,fun k hk _=> ?_,fun k hk=> ?_,?_,h.sl⟩
 ·have:=h.size
  simp only[World.size_alloc] at this
  omega
 ·rw[h.block k (by simp;omega) (by rw[hr];simp)]
  exact Below.heap_alloc _ _ _ hk
 ·rcases h.room k hk with q | q
  ·rw[hr] at q;cases q
  ·simp only[World.size_alloc] at q
   exact .inr ⟨by omega,q.2⟩
 ·exact Keep.trans (Keep.of_eq (fun k hk=>Below.heap_alloc _ _ _ hk)) h.keep
def b0I(P:Program)(f:FuncId)(e:TypeId)(size:Nat):Prop:=∀(W:World) (base:Nat) (a:Option Addr) (n c:Nat) (news:List Value),base≤W.heap.size→news.length=n*size→(0<n→a.isSome=true)→
 (∀b,a=some b→∀j u,news[j]? = some u→W.cell? (b.add j)=some u)→(∀u∈news,u.oneCell'=true)→n≤1000000→Calls P f #[.slice a n c] W (fun en W'=>∃v',en= .returned v'∧AppRes W base e size (.slice none 0 0) n news v' W')
def a7Y(e:TypeId)(ks:List CK)(args:List V)(mem:Mem)(nx:Nat):T i8:=match args with
 | [.v (.one (.z s))]=>match a5i mem ks s with
   | some x=> .obs [Y0 x] (.ret (.s0 (.own nx (.lit 0)),[(nx,.own e ks x (.lit 0))],nx+1))
   | none=> .stuck "Clone"
 | _=> .stuck "Clone"
theorem b4G{ρ:Env}{f:FuncId}{e:TypeId}{ks:List CK}(hc:b0I P f e ks.length):i4 P ρ f (a7Y e ks):=by
 intro args mem nx q hq hle σ W vals hr hfr hd
 unfold a7Y at hq
 split at hq
 ·rename_i s
  split at hq
  ·rename_i x hx
   obtain⟨ho,hq⟩:=T.res_obs hq
   obtain rfl:=g9 hq
   obtain⟨u1,us,rfl,d1,d2⟩:=DL.cons_inv hd
   obtain rfl:=DL.nil_inv d2
   have hlen:=T6 (ho _ (List.mem_singleton.2 rfl))
   obtain⟨a,n,c,xs,rfl,hsrc,hnb,_⟩:=Z4 hx d1 hr
   have hml:=hsrc.len
   have hcalls:=hc W ρ.w.heap.size a n c xs hr.base.size (by rw[hsrc.rows.1,←hml]) hsrc.there hsrc.cell hsrc.rows.all_one (by omega)
   have hw:CallsIn Fence.wide 0 P f #[.slice a n c] W _:=callsIn_wide.2 hcalls
   refine CallsIn.mono (F:=FR none) hw ?_
   rintro en W' ⟨v',rfl,happ⟩
   have hnx:=hfr nx (Nat.le_refl _) (Nat.lt_succ_self _)
   have hnone:∀k,σ.h nx k= .none:=fun k=>by
    cases hk:σ.h nx k with
    | none=>rfl
    | some y=>exact absurd (.inr ⟨k,y,hk⟩) hnx
   rw[hml] at happ
   have hstep:=B2 (ρ:=ρ) (σ:=σ) (W:=W) (id:=nx) (t:=e) (ks:=ks) (x:=x) (ver:= .lit 0) (v:= .slice .none 0 0) (v':=v') (W':=W') (xs:=xs) (fun i a hi=>hr.lt i a hi) (hnone _) (fun u _=>hnone u) hr.inj (fun k hk=>by cases hk) happ hsrc.rows.2 (by omega)
   obtain⟨a',c',hv'⟩:=happ.sl
   exact⟨_,_,rfl,⟨⟨a',_,c',hv'⟩,As.say_self⟩,hstep,fun i hi=>(v8 hi).imp id (fun h=>⟨by omega,by show i<nx+1;omega⟩)⟩
  ·exact hq.elim
 ·exact hq.elim
end
end Go.Proofs.YtbbjlleaofgddaaGreat
namespace Go.Proofs.YtbbjlleaofgddaaGreat
open Go.RowKit
section
variable {P:Program}
theorem q9(W:World){bt:TypeId}(g o:Nat)(cur:List Value)(hg:W.heap[g]? = some (.cells cur.toArray bt (0,0)))(zs:List Value)(h1:∀u∈zs,u.oneCell'=true)(hfit:o+zs.length≤cur.length):
 (storeCells ⟨g,o,none⟩ zs).run P W= .ok () (W.setCells g o zs)∧(W.setCells g o zs).heap[g]? = some (.cells (o0 cur o zs).toArray bt (0,0))∧
  (W.setCells g o zs).os=W.os∧(W.setCells g o zs).tape=W.tape∧(W.setCells g o zs).output=W.output∧(W.setCells g o zs).heap.size=W.heap.size∧∀q,q≠g→(W.setCells g o zs).heap[q]? = W.heap[q]? := by
 obtain⟨W',e1,e2,e3,e4,e5,e6,e7⟩:=z5 (P:=P) zs 0 W cur o (fun u hu=>a4C (h1 u hu)) hg (by omega)
 have e:=run_storeCells_cells (P:=P) g o zs 0 W (fun j hj=>by
  rw[t9 hg,List.getElem?_toArray,List.getElem?_eq_getElem (by omega)]
  rfl) (fun j hj=>by simp [World.frozen?,hg,Addr.off]) h1
 have hw:W'=W.setCells g o zs:=by
  have q:=e1.symm.trans e
  simp only[Result.ok.injEq,true_and] at q
  simpa using q
 subst hw
 exact⟨e1,e2,e3,e4,e5,e6,e7⟩
theorem H9(W:World){t t' ty e bt:TypeId}{i:TypeInfo}(hu:P.underlying t=some (.slice e))(hi:P.info? e=some i)(g o dn dc:Nat)(cur:List Value)(hg:W.heap[g]? = some (.cells cur.toArray bt (0,0)))
 (b:Addr) (m c k:Nat) (hk:Nat.min m dn=k) (zs:List Value) (hz:zs.length=k*i.size) (hcell:∀j v,zs[j]? = some v→W.cell? (b.add j)=some v) (h1:∀u∈zs,u.oneCell'=true) (hfit:o+zs.length≤cur.length):
 (Builtin.copy_ #[t,t'] ty #[.slice (some ⟨g,o,none⟩) dn dc,.slice (some b) m c]).run P W= .ok (.int .i64 k) (W.setCells g o zs):=by
 obtain⟨e1,_⟩:=q9 (P:=P) W g o cur hg zs h1 hfit
 have hfirst:(Builtin.firstCells i.size k (.slice (some b) m c)).run P W= .ok zs.toArray W:=run_firstCells_some (P:=P) W i.size k b m c _ hz hcell
 have hc:P.cellsOf e=i.size:=by simp [Program.cellsOf,hi]
 rw[←hc] at hfirst
 simp [Builtin.copy_,run_underlying hu,Builtin.lenOf,j7 hi,hk,hfirst,e1,goInt]
theorem AppRes.inplace{W W':World}{base:Nat}{e:TypeId}{size g n cap:Nat}{cur cur':List Value}{ys:List Value}(hbg:base≤g)(hg:W.heap[g]? = some (.cells cur.toArray e (0,0)))(hn:n<cap)(hcm:cap≤maxLen)(hcs:cur'.length=cap*size)
 (hg':W'.heap[g]? = some (.cells cur'.toArray e (0,0))) (hl:ys.length=(n+1)*size) (htk:cur'.take ((n+1)*size)=ys) (h1:W'.os=W.os) (h2:W'.tape=W.tape) (h3:W'.output=W.output) (h4:W.heap.size≤W'.heap.size)
 (h5:∀q,q≠g→q<W.heap.size→W'.heap[q]? = W.heap[q]?):AppRes W base e size (.slice (some ⟨g,0,none⟩) n cap) (n+1) ys (.slice (some ⟨g,0,none⟩) (n+1) cap) W':=by
 obtain⟨c',rfl⟩:∃c',cap=c'+1:=⟨cap-1,by omega⟩
 refine⟨.inl ⟨hl,.inr ⟨g,_,_,rfl,hbg,hg',hn,hcm,by simpa using hcs,by simpa using htk⟩⟩,h1,h2,h3,h4,fun k hk hr=>h5 k (fun e=>hr (by rw[e];rfl)) hk,fun k hk=> .inl hk,fun k L hL=> ?_,_,_,rfl⟩
 have hkg:k≠g:=fun e=>by subst e;rw[hg] at hL;cases hL
 exact⟨L,by rw[h5 k hkg (C5 hL)];exact hL,rfl,rfl,rfl,rfl⟩
theorem AppRes.newrow{W W':World}{base:Nat}{e:TypeId}{size g n cap:Nat}{v:Value}{cur':List Value}{ys:List Value}(hbg:base≤W.heap.size)(hge:W.heap.size≤g)(hgl:g<W'.heap.size)(hn:n+1≤cap)(hcm:cap≤maxLen)(hcs:cur'.length=cap*size)
 (hg':W'.heap[g]? = some (.cells cur'.toArray e (0,0))) (hl:ys.length=(n+1)*size) (htk:cur'.take ((n+1)*size)=ys) (h1:W'.os=W.os) (h2:W'.tape=W.tape) (h3:W'.output=W.output)
 (h5:∀q,q<W.heap.size→W'.heap[q]? = W.heap[q]?):AppRes W base e size v (n+1) ys (.slice (some ⟨g,0,none⟩) (n+1) cap) W':=by
 refine⟨.inl ⟨hl,.inr ⟨g,_,_,rfl,by omega,hg',hn,hcm,by simpa using hcs,by simpa using htk⟩⟩,h1,h2,h3,by omega,fun k hk _=>h5 k hk,fun k hk=> .inr ?_,fun k L hL=> ?_,_,_,rfl⟩
 ·obtain⟨c',rfl⟩:∃c',cap=c'+1:=⟨cap-1,by omega⟩
  simp only[j9,Option.some.injEq] at hk
  omega
 ·exact⟨L,by rw[h5 k (C5 hL)];exact hL,rfl,rfl,rfl,rfl⟩
theorem b0c{cur xs news:List Value}{p s m:Nat}(hx:cur.take m=xs)(hxl:xs.length=m)(hp:p≤m)(hnl:news.length=s)(hfit:m+s≤cur.length):
 (o0 (o0 cur (p+s) (xs.drop p)) p news).take (m+s)=xs.take p++news++xs.drop p∧(o0 (o0 cur (p+s) (xs.drop p)) p news).length=cur.length:=by
 have hd:(xs.drop p).length=m-p:=by rw[List.length_drop,hxl]
 have l1:(o0 cur (p+s) (xs.drop p)).length=cur.length:=t0 (by omega)
 have l2:(o0 (o0 cur (p+s) (xs.drop p)) p news).length=cur.length:=by rw[t0 (by omega),l1]
 refine⟨List.ext_getElem? fun j=> ?_,l2⟩
 have hxj:∀j,j<m→cur[j]? = xs[j]? := fun j hj=>by rw[←hx,List.getElem?_take_of_lt hj]
 rcases Nat.lt_or_ge j (m+s) with q | q
 ·rw[List.getElem?_take_of_lt q,t6 (by omega),t6 (by omega)]
  rcases Nat.lt_or_ge j p with q1 | q1
  ·rw[if_neg (by omega),if_neg (by omega),List.append_assoc,List.getElem?_append_left (by rw[List.length_take];omega),List.getElem?_take_of_lt q1,hxj j (by omega)]
  ·rcases Nat.lt_or_ge j (p+s) with q2 | q2
   ·rw[if_pos (by omega),List.append_assoc,List.getElem?_append_right (by rw[List.length_take];omega),List.getElem?_append_left (by rw[List.length_take];omega)]
    congr 1
    rw[List.length_take];omega
   ·rw[if_neg (by omega),if_pos (by omega),List.getElem?_append_right (by rw[List.length_append,List.length_take];omega)]
    congr 1
    rw[List.length_append,List.length_take];omega
 ·rw[List.getElem?_eq_none (by rw[List.length_take];omega),List.getElem?_eq_none (by rw[List.length_append,List.length_append,List.length_take,hd];omega)]
theorem a4i{rest xs news:List Value}{p s m:Nat}(hxl:xs.length=m)(hp:p≤m)(hnl:news.length=s)(hfit:m+s≤(xs.take p++rest).length):
 (o0 (o0 (xs.take p++rest) p news) (p+s) (xs.drop p)).take (m+s)=xs.take p++news++xs.drop p∧(o0 (o0 (xs.take p++rest) p news) (p+s) (xs.drop p)).length=(xs.take p++rest).length:=by
 have hd:(xs.drop p).length=m-p:=by rw[List.length_drop,hxl]
 have ht:(xs.take p).length=p:=by rw[List.length_take];omega
 have l1:(o0 (xs.take p++rest) p news).length=(xs.take p++rest).length:=t0 (by omega)
 have l2:(o0 (o0 (xs.take p++rest) p news) (p+s) (xs.drop p)).length=(xs.take p++rest).length:=by rw[t0 (by omega),l1]
 refine⟨List.ext_getElem? fun j=> ?_,l2⟩
 rcases Nat.lt_or_ge j (m+s) with q | q
 ·rw[List.getElem?_take_of_lt q,t6 (by omega),t6 (by omega)]
  rcases Nat.lt_or_ge j p with q1 | q1
  ·rw[if_neg (by omega),if_neg (by omega),List.append_assoc,List.getElem?_append_left (by omega),List.getElem?_append_left (by omega)]
  ·rcases Nat.lt_or_ge j (p+s) with q2 | q2
   ·rw[if_neg (by omega),if_pos (by omega),List.append_assoc,List.getElem?_append_right (by omega),List.getElem?_append_left (by omega),ht]
   ·rw[if_pos (by omega),List.getElem?_append_right (by rw[List.length_append];omega)]
    congr 1
    rw[List.length_append];omega
 ·rw[List.getElem?_eq_none (by rw[List.length_take];omega),List.getElem?_eq_none (by rw[List.length_append,List.length_append,hd];omega)]
theorem a6N{α:Type}(l:List α)(A B:Array α):(l++(A++B).toList).toArray=l.toArray++A++B:=by
 apply Array.ext'
 simp
def a8a(P:Program)(f:FuncId)(e:TypeId)(size:Nat):Prop:=∀(W:World) (base:Nat) (a:Option Addr) (n c i vb vo vc:Nat) (xs vs news:List Value) (tv:TypeId),
 base≤W.heap.size→OwnRow W base e size (.slice a n c) n xs→i≤n→W.heap[vb]? = some (.cells vs.toArray tv (0,0))→(vs.drop vo).take size=news→news.length=size→(∀k,j9 (.slice a n c)=some k→k≠vb)→
 (∀u∈news,u.oneCell'=true)→(∀u∈xs,u.oneCell'=true)→n<1000000→
 Calls P f #[.slice a n c,.int .i64 i,.slice (some ⟨vb,vo,none⟩) 1 vc] W (fun en W'=>∃v',en= .returned v'∧AppRes W base e size (.slice a n c) (n+1) (xs.take (i*size)++news++xs.drop (i*size)) v' W')
end
end Go.Proofs.YtbbjlleaofgddaaGreat
namespace Go.Proofs.YtbbjlleaofgddaaGreat
open Go.RowKit
end Go.Proofs.YtbbjlleaofgddaaGreat
