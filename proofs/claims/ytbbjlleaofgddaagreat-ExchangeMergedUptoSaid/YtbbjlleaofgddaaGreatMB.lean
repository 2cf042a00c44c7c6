/- MB, merged: Zt, Zh, Zv, Z1, Z2, Zi, Zj, Zy, Zk. -/
import Derived.Test.YtbbjlleaofgddaaGreatMA
import Derived.OrdersIn
import Derived.LoopNIn
import Derived.Conc.LoneCalls
import Derived.RangeFuncRecord
set_option linter.unusedSimpArgs false
set_option linter.unusedVariables false
namespace Go.Proofs.YtbbjlleaofgddaaGreat
open Go.RowKit
theorem AL.app_ev(ρ:Env):∀a q:AL,(AL.app a q).ev ρ=a.ev ρ++q.ev ρ
 | .nil,q=>by simp [AL.app,AL.ev]
 | .i e r,q=>by simp [AL.app,AL.ev,AL.app_ev ρ r q]
 | .b e r,q=>by simp [AL.app,AL.ev,AL.app_ev ρ r q]
 | .x e r,q=>by simp [AL.app,AL.ev,AL.app_ev ρ r q]
section
variable {ρ:Env} {σ:As} {mem:Mem} {W:World}
def Q6(ρ:Env)(σ:As)(W:World)(f:CK→S→Option AL):Prop:=∀(k:CK) (s:S) (a:AL),f k s=some a→∀v,s.den ρ σ v→∃d,a.ev ρ=[d]∧CK.rep W k v d
mutual
theorem CK.rep_below{w W:World}(hb:Below w.heap.size w W):∀(k:CK) (v:Value) (d:D),CK.rep w k v d→CK.rep W k v d
 | .int _,v,d,h=>by unfold CK.rep at h ⊢;exact h
 | .bool,v,d,h=>by unfold CK.rep at h ⊢;exact h
 | .sl ks,v,d,h=>by
   unfold CK.rep at h ⊢
   obtain⟨r,a,n,c,e1,e2,h1,h2,h3,h4,h5⟩:=h
   refine⟨r,a,n,c,e1,e2,h1,h2,h3,h4,fun b hb' i row hi=> ?_⟩
   obtain⟨vs,g1,g2⟩:=h5 b hb' i row hi
   exact⟨vs,CK.reps_below hb ks vs row g1,fun j u hj=>by
    have:=g2 j u hj
    rw[hb.cell (World.block_lt_of_cell? _ _ this)]
    exact this⟩
theorem CK.reps_below{w W:World}(hb:Below w.heap.size w W):∀(ks:List CK) (vs:List Value) (ds:List D),CK.reps w ks vs ds→CK.reps W ks vs ds
 | [],vs,ds,h=>by unfold CK.reps at h ⊢;exact h
 | k::ks,vs,ds,h=>by
   unfold CK.reps at h ⊢
   obtain⟨v,vs',d,ds',e1,e2,h1,h2⟩:=h
   exact⟨v,vs',d,ds',e1,e2,CK.rep_below hb k v d h1,CK.reps_below hb ks vs' ds' h2⟩
end
theorem Sl.below{w W:World}{ks:List CK}{v:Value}{r:Rows}{f:Bool}(hb:Below w.heap.size w W)(h:Sl w ks v r f):Sl W ks v r f:=by
 obtain⟨a,n,c,rfl,⟨h1,h2,h3,h4,h5⟩,h6⟩:=h
 refine⟨a,n,c,rfl,⟨h1,h2,h3,h4,fun b hb' i row hi=> ?_⟩,h6⟩
 obtain⟨vs,g1,g2⟩:=h5 b hb' i row hi
 exact⟨vs,CK.reps_below hb ks vs row g1,fun j u hj=>by
  have:=g2 j u hj
  rw[hb.cell (World.block_lt_of_cell? _ _ this)]
  exact this⟩
theorem Sl.weak{w:World}{ks:List CK}{v:Value}{r:Rows}{f:Bool}(h:Sl w ks v r f):Sl w ks v r false:=by
 obtain⟨a,n,c,h1,h2,_⟩:=h
 exact⟨a,n,c,h1,h2,by simp⟩
theorem b5b(w:World)(ks:List CK):Sl w ks (.slice none 0 0) [] false:=⟨none,0,0,rfl,⟨rfl,Nat.le_refl _,by omega,by omega,fun b h=>by simp at h⟩,by simp⟩
theorem y4(hb:Below ρ.w.heap.size ρ.w W):Q6 ρ σ W B7:=by
 intro k s a h v hd
 unfold B7 at h
 split at h
 ·rename_i k k' e
  split at h
  ·rename_i hk
   subst hk
   simp only[Option.some.injEq] at h
   subst h
   obtain rfl:v= .int k (e.ev ρ):=hd
   exact⟨.i (e.ev ρ),by simp [AL.ev],by unfold CK.rep;exact⟨_,rfl,rfl⟩⟩
  ·cases h
 ·rename_i e
  simp only[Option.some.injEq] at h
  subst h
  obtain rfl:v= .bool (e.ev ρ):=hd
  exact⟨.b (e.ev ρ),by simp [AL.ev],by unfold CK.rep;exact⟨_,rfl,rfl⟩⟩
 ·rename_i ks ks' x f
  split at h
  ·rename_i hk
   obtain rfl:=CK.sameL_eq _ _ hk
   simp only[Option.some.injEq] at h
   subst h
   have hd:Sl ρ.w ks v (x.ev ρ) f:=hd
   exact⟨.l (x.ev ρ),by simp [AL.ev],x9.2 ⟨_,rfl,(hd.below hb).weak⟩⟩
  ·cases h
 ·rename_i ks
  simp only[Option.some.injEq] at h
  subst h
  obtain rfl:v= .slice none 0 0:=hd
  exact⟨.l [],by simp [AL.ev,X.ev],x9.2 ⟨_,rfl,b5b W ks⟩⟩
 ·cases h
theorem F7{f:CK→S→Option AL}(hf:Q6 ρ σ W f):∀(ks:List CK) (ss:List S) (a:AL),L3 f ks ss=some a→∀vs,DL (S.den ρ σ) ss vs→CK.reps W ks vs (a.ev ρ)
 | [],[],a,h,vs,hd=>by
   simp only[L3,Option.some.injEq] at h
   subst h
   rw[DL.nil_inv hd]
   unfold CK.reps
   simp [AL.ev]
 | k::ks,s::ss,a,h,vs,hd=>by
   simp only[L3] at h
   split at h
   ·rename_i a1 a2 h1 h2
    simp only[Option.some.injEq] at h
    subst h
    obtain⟨v,vs',rfl,e1,e2⟩:=DL.cons_inv hd
    obtain⟨d,e3,e4⟩:=hf k s a1 h1 v e1
    unfold CK.reps
    exact⟨v,vs',d,a2.ev ρ,rfl,by rw[AL.app_ev,e3];rfl,e4,F7 hf ks ss a2 h2 vs' e2⟩
   ·cases h
 | [],_::_,a,h,_,_=>by simp [L3] at h
 | _::_,[],a,h,_,_=>by simp [L3] at h
theorem V0{f:CK→S→Option AL}(hf:Q6 ρ σ W f)(ks:List CK):∀(n:Nat) (ss:List S) (x:X),X0 f ks n ss=some x→∀vs,DL (S.den ρ σ) ss vs→n*ks.length≤ss.length→
 (x.ev ρ).length=n∧∀(i:Nat) (row:List D),(x.ev ρ)[i]? = some row→CK.reps W ks ((vs.drop (i*ks.length)).take ks.length) row
 | 0,ss,x,h,vs,_,_=>by
   simp only[X0,Option.some.injEq] at h
   subst h
   simp [X.ev]
 | n+1,ss,x,h,vs,hd,hl=>by
   simp only[X0] at h
   split at h
   ·rename_i a y h1 h2
    simp only[Option.some.injEq] at h
    subst h
    have e1:=F7 hf ks _ a h1 _ (hd.take ks.length)
    obtain⟨e2,e3⟩:=V0 hf ks n _ y h2 _ (hd.drop ks.length) (by rw[List.length_drop];rw[Nat.succ_mul] at hl;omega)
    simp only[X.ev]
    refine⟨by simp [e2],fun i row hi=> ?_⟩
    cases i with
    | zero=>
      simp only[List.cons_append,List.nil_append,List.getElem?_cons_zero,Option.some.injEq] at hi
      subst hi
      simpa using e1
    | succ i=>
      simp only[List.cons_append,List.nil_append,List.getElem?_cons_succ] at hi
      have:=e3 i row hi
      rw[List.drop_drop] at this
      rw[show(i+1)*ks.length=ks.length+i*ks.length by rw[Nat.succ_mul];omega]
      exact this
   ·cases h
theorem a2S{w:World}:∀ {ks:List CK} {vs:List Value} {ds:List D},vs.length=ks.length→ds.length=ks.length→(∀(j:Nat) (k:CK) (v:Value) (d:D),ks[j]? = some k→vs[j]? = some v→ds[j]? = some d→CK.rep w k v d)→CK.reps w ks vs ds
 | [],vs,ds,h1,h2,_=>by
   unfold CK.reps
   exact⟨List.eq_nil_of_length_eq_zero h1,List.eq_nil_of_length_eq_zero h2⟩
 | k::ks,vs,ds,h1,h2,h=>by
   cases vs with
   | nil=>simp at h1
   | cons v vs=>
     cases ds with
     | nil=>simp at h2
     | cons d ds=>
       unfold CK.reps
       exact⟨v,vs,d,ds,rfl,rfl,h 0 k v d rfl rfl rfl,a2S (by simpa using h1) (by simpa using h2) (fun j k' v' d' a b c=>h (j+1) k' v' d' (by simpa using a) (by simpa using b) (by simpa using c))⟩
def o0{α:Type}(xs:List α)(o:Nat)(l:List α):List α:=xs.take o++l++xs.drop (o+l.length)
theorem t0{α:Type}{xs:List α}{o:Nat}{l:List α}(h:o+l.length≤xs.length):(o0 xs o l).length=xs.length:=by
 unfold o0;simp;omega
theorem t6{α:Type}{xs:List α}{o:Nat}{l:List α}(h:o+l.length≤xs.length)(j:Nat):(o0 xs o l)[j]? = if o≤j∧j<o+l.length then l[j-o]? else xs[j]? := by
 unfold o0
 by_cases h1:j<o
 ·rw[if_neg (by omega),List.append_assoc,List.getElem?_append_left (by simp;omega),List.getElem?_take_of_lt h1]
 ·by_cases h2:j<o+l.length
  ·rw[if_pos (by omega),List.getElem?_append_left (by simp;omega),List.getElem?_append_right (by simp;omega)]
   congr 1;simp;omega
  ·rw[if_neg (by omega),List.getElem?_append_right (by simp;omega),List.getElem?_drop]
   congr 1;simp;omega
theorem b8k{w:World}{K:List CK}{us:List Value}{row:List D}{o:Nat}{vs:List Value}{ld:List D}(h:CK.reps w K us row)(hv:CK.reps w ((K.drop o).take vs.length) vs ld)(ho:o+vs.length≤K.length):CK.reps w K (o0 us o vs) (o0 row o ld):=by
 obtain⟨l1,l2⟩:=w9 h
 obtain⟨l3,l4⟩:=w9 hv
 have l5:ld.length=vs.length:=by rw[l4,←l3]
 refine a2S (by rw[t0 (by omega)];exact l1) (by rw[t0 (by omega)];exact l2) (fun j k v d g1 g2 g3=> ?_)
 rw[t6 (by omega)] at g2
 rw[t6 (by omega),l5] at g3
 split at g2
 ·rename_i hj
  rw[if_pos hj] at g3
  obtain⟨v',d',e1,e2,e3⟩:=F5 (j:=j-o) (k:=k) hv (by rw[List.getElem?_take_of_lt (by omega),List.getElem?_drop,show o+(j-o)=j by omega];exact g1)
  rw[e1] at g2;rw[e2] at g3
  simp only[Option.some.injEq] at g2 g3
  subst g2 g3
  exact e3
 ·rename_i hj
  rw[if_neg hj] at g3
  obtain⟨v',d',e1,e2,e3⟩:=F5 h g1
  rw[e1] at g2;rw[e2] at g3
  simp only[Option.some.injEq] at g2 g3
  subst g2 g3
  exact e3
theorem c0c{w:World}{k:CK}{v:Value}{d:D}(h:CK.rep w k v d):v.oneCell'=true:=by
 cases k with
 | int k=>unfold CK.rep at h;obtain⟨n,rfl,_⟩:=h;rfl
 | bool=>unfold CK.rep at h;obtain⟨n,rfl,_⟩:=h;rfl
 | sl ks=>unfold CK.rep at h;obtain⟨r,a,n,c,_,rfl,_⟩:=h;rfl
theorem a9q{w:World}:∀ {ks:List CK} {vs:List Value} {ds:List D},CK.reps w ks vs ds→∀v∈vs,v.oneCell'=true
 | [],vs,ds,h,v,hv=>by unfold CK.reps at h;obtain⟨rfl,_⟩:=h;simp at hv
 | k::ks,vs,ds,h,v,hv=>by
   unfold CK.reps at h
   obtain⟨u,vs',d,ds',rfl,rfl,h1,h2⟩:=h
   rcases List.mem_cons.1 hv with e | hv
   ·subst e;exact c0c h1
   ·exact a9q h2 v hv
end
def RowsAt(w:World)(ks:List CK)(xs:List Value)(r:Rows):Prop:=xs.length=r.length*ks.length∧∀(i:Nat) (row:List D),r[i]? = some row→CK.reps w ks ((xs.drop (i*ks.length)).take ks.length) row
theorem RowsAt.nil(w:World)(ks:List CK):RowsAt w ks [] []:=⟨by simp,fun i row h=>by simp at h⟩
theorem RowsAt.app{w:World}{ks:List CK}{xs ys:List Value}{r s:Rows}(h:RowsAt w ks xs r)(k:RowsAt w ks ys s):RowsAt w ks (xs++ys) (r++s):=by
 refine⟨by rw[List.length_append,List.length_append,h.1,k.1,Nat.add_mul],fun i row hi=> ?_⟩
 rcases Nat.lt_or_ge i r.length with q | q
 ·rw[List.getElem?_append_left q] at hi
  have h1:=h.2 i row hi
  have hle:i*ks.length+ks.length≤xs.length:=by rw[h.1,←Nat.succ_mul];exact Nat.mul_le_mul_right _ q
  rw[List.drop_append_of_le_length (by omega),List.take_append_of_le_length (by rw[List.length_drop];omega)]
  exact h1
 ·rw[List.getElem?_append_right q] at hi
  have h1:=k.2 _ row hi
  have e:(xs++ys).drop (i*ks.length)=ys.drop ((i-r.length)*ks.length):=by
   rw[List.drop_append,List.drop_eq_nil_of_le (by rw[h.1];exact Nat.mul_le_mul_right _ q),List.nil_append,h.1,←Nat.sub_mul]
  rw[e]
  exact h1
theorem RowsAt.sub{w:World}{ks:List CK}{xs:List Value}{r:Rows}(h:RowsAt w ks xs r){l m:Int}(hm:m.toNat≤r.length)(hl:l.toNat≤m.toNat):RowsAt w ks ((xs.drop (l.toNat*ks.length)).take ((m.toNat-l.toNat)*ks.length)) (k5 r l m):=by
 have hle:m.toNat*ks.length≤xs.length:=by rw[h.1];exact Nat.mul_le_mul_right _ hm
 have hsub:(m.toNat-l.toNat)*ks.length=m.toNat*ks.length-l.toNat*ks.length:=Nat.sub_mul ..
 have hl2:l.toNat*ks.length≤m.toNat*ks.length:=Nat.mul_le_mul_right _ hl
 have hlen:(k5 r l m).length=m.toNat-l.toNat:=by simp [k5];omega
 refine⟨?_,fun i row hi=> ?_⟩
 ·rw[hlen,List.length_take,List.length_drop,hsub];omega
 ·have hi':i<m.toNat-l.toNat:=by rw[←hlen];exact(List.getElem?_eq_some_iff.1 hi).1
  simp only[k5] at hi
  rw[List.getElem?_take_of_lt (by omega),List.getElem?_drop] at hi
  have h1:=h.2 _ row hi
  have e1:i*ks.length+ks.length≤(m.toNat-l.toNat)*ks.length:=by rw[←Nat.succ_mul];exact Nat.mul_le_mul_right _ hi'
  rw[List.drop_take,List.take_take,Nat.min_eq_left (by omega),List.drop_drop,←Nat.add_mul]
  exact h1
theorem RowsAt.all_one{w:World}{ks:List CK}{xs:List Value}{r:Rows}(h:RowsAt w ks xs r):∀u∈xs,u.oneCell'=true:=by
 intro u hu
 obtain⟨j,hj,rfl⟩:=List.getElem_of_mem hu
 have hk:0<ks.length:=by
  rcases Nat.eq_zero_or_pos ks.length with e | e
  ·have:=h.1;rw[e,Nat.mul_zero] at this;omega
  ·exact e
 have hi:j/ks.length<r.length:=by
  rw[Nat.div_lt_iff_lt_mul hk,←h.1];exact hj
 have h1:=h.2 _ _ (List.getElem?_eq_getElem hi)
 refine a9q h1 _ ?_
 have hm:=Nat.mod_lt j hk
 have hd:=Nat.div_add_mod j ks.length
 have e:((xs.drop (j/ks.length*ks.length)).take ks.length)[j % ks.length]? = some xs[j]:=by
  rw[List.getElem?_take_of_lt hm,List.getElem?_drop,show j/ks.length*ks.length+j % ks.length=j by rw[Nat.mul_comm];exact hd,List.getElem?_eq_getElem hj]
 exact List.mem_of_getElem? e
theorem a6F{w:World}{ks:List CK}{cell:Nat→Value→Prop}:∀ {r:Rows} {o:Nat},(∀(i:Nat) (row:List D),r[i]? = some row→∃vs,CK.reps w ks vs row∧∀(j:Nat) (v:Value),vs[j]? = some v→cell ((o+i)*ks.length+j) v)→∃xs,RowsAt w ks xs r∧∀(j:Nat) (v:Value),xs[j]? = some v→cell (o*ks.length+j) v
 | [],o,_=>⟨[],RowsAt.nil w ks,fun j v h=>by simp at h⟩
 | row::r,o,h=>by
   obtain⟨vs,h1,h2⟩:=h 0 row rfl
   obtain⟨xs,h3,h4⟩:=a6F (w:=w) (ks:=ks) (cell:=cell) (r:=r) (o:=o+1) (fun i row' hi=>by
    obtain⟨vs,g1,g2⟩:=h (i+1) row' (by simpa using hi)
    exact⟨vs,g1,fun j v hj=>by rw[show o+1+i=o+(i+1) by omega];exact g2 j v hj⟩)
   have hl:=(w9 h1).1
   refine⟨vs++xs,(RowsAt.app (r:=[row]) ⟨by simp [hl],fun i row' hi=> ?_⟩ h3),fun j v hj=> ?_⟩
   ·cases i with
    | zero=>
      simp only[List.getElem?_cons_zero,Option.some.injEq] at hi
      subst hi
      rw[Nat.zero_mul,List.drop_zero,List.take_of_length_le (by omega)]
      exact h1
    | succ i=>simp at hi
   ·rcases Nat.lt_or_ge j vs.length with q | q
    ·rw[List.getElem?_append_left q] at hj
     have:=h2 j v hj
     rwa [Nat.add_zero] at this
    ·rw[List.getElem?_append_right q] at hj
     have:=h4 _ v hj
     rwa [hl,Nat.add_mul,Nat.one_mul,show o*ks.length+ks.length+(j-ks.length)=o*ks.length+j by omega] at this
end Go.Proofs.YtbbjlleaofgddaaGreat
namespace Go.Proofs.YtbbjlleaofgddaaGreat
open Go.RowKit
section
variable {P:Program} {ρ:Env} {σ:As}
theorem t9{W:World}{x:Nat}{c:Array Value}{t:TypeId}{z:Nat×Nat}(h:W.heap[x]? = some (.cells c t z))(o:Nat):W.cell? ⟨x,o,none⟩=c[o]? := by
 simp [World.cell?,h]
theorem a1k{W:World}{a:Addr}{v:Value}(h:W.cell? a=some v):(load a).run P W= .ok v W:=by
 simp [load,Sem.run,h]
theorem S9(W:World)(a:Addr):∀(l:List Value) (i:Nat) (acc:Array Value),(∀j v,l[j]? = some v→W.cell? (a.add (i+j))=some v)→
 (loadCellsFrom a i l.length acc).run P W= .ok (acc++l.toArray) W
 | [],i,acc,_=>by simp [loadCellsFrom]
 | v::l,i,acc,h=>by
   have h0:=h 0 v rfl
   simp only[Nat.add_zero] at h0
   have ih:=S9 W a l (i+1) (acc.push v) (fun j u hj=>by rw[show i+1+j=i+(j+1) by omega];exact h (j+1) u (by simpa using hj))
   simp only[List.length_cons,loadCellsFrom,Sem.run_bind,a1k h0,Result.andThen_ok,ih]
   simp
theorem X9{t:TypeId}{d:TypeDesc}{i:TypeInfo}(hu:P.underlying t=some d)(hi:P.info? t=some i)(ha:v6 P t=true){W:World}{a:Addr}{l:List Value}(hl:l.length=P.cellsOf t)
 (h:∀j v,l[j]? = some v→W.cell? (a.add j)=some v):(loadVar t a).run P W= .ok (.agg l.toArray) W:=by
 have e:=S9 (P:=P) W a l 0 #[] (fun j v hj=>by rw[Nat.zero_add];exact h j v hj)
 rw[hl] at e
 simp [loadVar,X6 hu,ha,j7 hi,loadCells,e]
theorem Z1{t:TypeId}{d:TypeDesc}(hu:P.underlying t=some d)(ha:v6 P t=false){W:World}{a:Addr}{v:Value}(h:W.cell? a=some v):(loadVar t a).run P W= .ok v W:=by
 simp only[loadVar,Sem.run_bind,X6 hu,ha,Result.andThen_ok,Bool.false_eq_true,if_false]
 exact a1k h
theorem a4f{t:TypeId}{cs:List S}{off:Nat}{x:V2}(h:E0 P t cs off=some x){W:World}{b:Nat}{vs ex:List Value}{bt:TypeId}{z:Nat×Nat}(hd:DL (S.den ρ σ) cs vs)
 (hb:W.heap[b]? = some (.cells (vs++ex).toArray bt z)):∃u,(loadVar t ⟨b,off,none⟩).run P W= .ok u W∧x.den ρ σ u:=by
 unfold E0 at h
 split at h
 ·simp at h
 ·rename_i d hu
  obtain⟨i,hi⟩:=F3 hu
  have hlen:=hd.length
  by_cases ha:v6 P t=true
  ·rw[if_pos ha] at h
   split at h
   ·rename_i hle
    simp only[Option.some.injEq] at h
    subst h
    have hd':=(hd.drop off).take (P.cellsOf t)
    refine⟨_,X9 (l:=(vs.drop off).take (P.cellsOf t)) hu hi ha (by simp;omega) (fun j v hj=> ?_),_,hd',rfl⟩
    rw[m9,t9 hb]
    have hj':j<P.cellsOf t:=by
     rcases Nat.lt_or_ge j (P.cellsOf t) with q | q
     ·exact q
     ·rw[List.getElem?_eq_none (by simp;omega)] at hj;simp at hj
    rw[List.getElem?_take_of_lt hj',List.getElem?_drop] at hj
    simp only[List.getElem?_toArray]
    rw[List.getElem?_append_left (by omega)]
    exact hj
   ·simp at h
  ·rw[if_neg ha] at h
   simp only[Option.map_eq_some_iff] at h
   obtain⟨a,h1,rfl⟩:=h
   obtain⟨v,h2,h3⟩:=hd.get h1
   refine⟨v,Z1 hu (by simpa using ha) ?_,h3⟩
   rw[t9 hb]
   simp only[List.getElem?_toArray]
   have:off<vs.length:=(List.getElem?_eq_some_iff.1 h2).1
   rw[List.getElem?_append_left this]
   exact h2
theorem b6D{k:CK}{x:X}{i:E}{off:Nat}{v:Value}{d:D}(h:CK.rep ρ.w k v d)(hd:o5 (x.ev ρ) (i.ev ρ) off=d):(c2f x i off k).den ρ σ v:=by
 cases k with
 | int k=>
   unfold CK.rep at h
   obtain⟨n,rfl,rfl⟩:=h
   show Value.int k n= .int k _
   simp only[E.ev,hd,D.int]
 | bool=>
   unfold CK.rep at h
   obtain⟨b,rfl,rfl⟩:=h
   show Value.bool b= .bool _
   simp only[B.ev,hd,D.bool]
 | sl ks=>
   rw[x9] at h
   obtain⟨r,rfl,h⟩:=h
   show Sl ρ.w ks v _ false
   simp only[X.ev,hd,D.rows]
   exact h
theorem b0B{k:CK}{x:X}{i:E}{off:Nat}{v:Value}{d:D}(h:CK.rep ρ.w k v d)(hd:o5 (x.ev ρ) (i.ev ρ) off=d):(rdS x i off k).den ρ σ v:=by
 unfold rdS
 split
 ·rename_i k e hc
  have he:=X.cell_ev ρ hc
  rw[hd] at he
  unfold CK.rep at h
  obtain⟨n,rfl,rfl⟩:=h
  show Value.int k n= .int k _
  simp only[AC.ev,D.i.injEq] at he
  rw[he]
 ·rename_i b hc
  have he:=X.cell_ev ρ hc
  rw[hd] at he
  unfold CK.rep at h
  obtain⟨n,rfl,rfl⟩:=h
  show Value.bool n= .bool _
  simp only[AC.ev,D.b.injEq] at he
  rw[he]
 ·rename_i ks y hc
  have he:=X.cell_ev ρ hc
  rw[hd] at he
  rw[x9] at h
  obtain⟨r,rfl,h⟩:=h
  show Sl ρ.w ks v _ false
  simp only[AC.ev,D.l.injEq] at he
  rw[←he]
  exact h
 ·exact b6D h hd
theorem b0y{x:X}{i:E}{row:List D}(hrow:(x.ev ρ)[(i.ev ρ).toNat]? = some row):∀(ks:List CK) (vs:List Value) (off:Nat),(∀(j:Nat) (k:CK),ks[j]? = some k→∃v d,vs[j]? = some v∧row[off+j]? = some d∧CK.rep ρ.w k v d)→vs.length=ks.length→
 DL (S.den ρ σ) (rdL x i off ks) vs
 | [],vs,off,_,hl=>by
   have:vs=[]:=List.eq_nil_of_length_eq_zero hl
   subst this
   trivial
 | k::ks,vs,off,h,hl=>by
   obtain⟨v,d,h1,h2,h3⟩:=h 0 k rfl
   cases vs with
   | nil=>simp at h1
   | cons u us=>
     simp only[List.getElem?_cons_zero,Option.some.injEq] at h1
     subst h1
     refine⟨b0B h3 ?_,b0y hrow ks us (off+1) (fun j k' hj=> ?_) (by simpa using hl)⟩
     ·simp only[Nat.add_zero] at h2
      simp [o5,hrow,h2]
     ·obtain⟨v,d,q1,q2,q3⟩:=h (j+1) k' (by simpa using hj)
      exact⟨v,d,by simpa using q1,by rw[show off+1+j=off+(j+1) by omega];exact q2,q3⟩
theorem OwnRel.cells{id:Nat}{t:TypeId}{ks:List CK}{x:X}{ver:E}{W:World}{a:Addr}{n c:Nat}{xs:List Value}(h:OwnRel ρ σ id t ks x ver W (.slice (some a) n c) xs)(h0:0<n):
 n=(x.ev ρ).length∧∃g,a=⟨g,0,none⟩∧∃cur,W.heap[g]? = some (.cells cur t (0,0))∧n≤c∧cur.size=c*ks.length∧cur.toList.take (n*ks.length)=xs:=by
 rcases h.row with ⟨h1,h2⟩ | ⟨_,_,b,h2⟩
 ·rcases h2 with ⟨h2,h3⟩ | ⟨g,cap,cur,h2,hb,hg,r1,r2,r3,r4⟩
  ·simp only[Value.slice.injEq] at h2;omega
  ·simp only[Value.slice.injEq] at h2
   obtain⟨h2,rfl,rfl⟩:=h2
   simp only[Option.some.injEq] at h2
   exact⟨rfl,g,h2,cur,hg,r1,r3,r4⟩
 ·simp only[Value.slice.injEq] at h2;omega
theorem OwnRel.cell_get{id:Nat}{t:TypeId}{ks:List CK}{x:X}{ver:E}{W:World}{v:Value}{n:Nat}{xs:List Value}{g:Nat}{cur:Array Value}(_:OwnRel ρ σ id t ks x ver W v xs)(_:n=(x.ev ρ).length)(hg:W.heap[g]? = some (.cells cur t (0,0)))
 (hk:cur.toList.take (n*ks.length)=xs) {j:Nat} {u:Value} (hj:xs[j]? = some u):W.cell? ((⟨g,0,none⟩:Addr).add j)=some u:=by
 rw[m9,t9 hg,Nat.zero_add,←Array.getElem?_toList]
 rw[←hk] at hj
 rw[List.getElem?_take] at hj
 split at hj
 ·exact hj
 ·cases hj
theorem OwnRel.rows{id:Nat}{t:TypeId}{ks:List CK}{x:X}{ver:E}{W:World}{v:Value}{xs:List Value}(h:OwnRel ρ σ id t ks x ver W v xs):RowsAt ρ.w ks xs (x.ev ρ):=by
 refine⟨?_,h.reps⟩
 rcases h.row with ⟨h1,_⟩ | ⟨h1,h2,_⟩
 ·exact h1
 ·rw[h1,h2,Nat.zero_mul];rfl
theorem b0D{t:TypeId}{ks K:List CK}{inf:TypeInfo}(hk:M9 P t=some ks)(hi:P.info? t=some inf){x:X}{i:E}{off:Nat}(hc1:(K.drop off).take ks.length=ks)(hc2:v6 P t=true∨Nat.beq inf.size 1=true)
 {W:World} {q:Addr} {row:List D} {us:List Value} (hrow:(x.ev ρ)[(i.ev ρ).toNat]? = some row) (e1:CK.reps ρ.w K us row) (e2:∀(j:Nat) (v:Value),us[j]? = some v→W.cell? (q.add ((i.ev ρ).toNat*K.length+j))=some v):
 ∃u,(Instr.loadAt t (.pointer (some (q.add ((i.ev ρ).toNat*K.length+off))))).run P W= .ok u W∧(V.v (if v6 P t then .agg (rdL x i off ks) else .one ((rdL x i off ks).headD (.z .any)))).den ρ σ u:=by
 have hks:∃ks',A4 P 20 t=some ks'∧ks=ks'∧ks.length=P.cellsOf t:=by
  unfold M9 at hk
  split at hk
  ·rename_i ks' hk'
   split at hk
   ·rename_i hl
    simp only[Option.some.injEq] at hk
    subst hk
    exact⟨_,hk',rfl,i9 hl⟩
   ·simp at hk
  ·simp at hk
 obtain⟨_,hkk,rfl,hkl⟩:=hks
 have hu:∃d,P.underlying t=some d:=by
  cases hu:P.underlying t with
  | some d=>exact⟨d,rfl⟩
  | none=>simp [A4,hu] at hkk
 obtain⟨d,hu⟩:=hu
 have elen:=w9 e1
 have hkget:∀(j:Nat) (k:CK),ks[j]? = some k→K[off+j]? = some k:=by
  intro j k hj
  have hj':j<ks.length:=(List.getElem?_eq_some_iff.1 hj).1
  rw[←hc1,List.getElem?_take_of_lt hj',List.getElem?_drop] at hj
  exact hj
 have hcells:∀(j:Nat) (k:CK),ks[j]? = some k→∃v d,((us.drop off).take ks.length)[j]? = some v∧row[off+j]? = some d∧CK.rep ρ.w k v d:=by
  intro j k hj
  have hj':j<ks.length:=(List.getElem?_eq_some_iff.1 hj).1
  obtain⟨v,d,g1,g2,g3⟩:=F5 e1 (hkget j k hj)
  exact⟨v,d,by rw[List.getElem?_take_of_lt hj',List.getElem?_drop];exact g1,g2,g3⟩
 have hul:((us.drop off).take ks.length).length=ks.length:=by
  simp only[List.length_take,List.length_drop,elen.1]
  have:ks.length≤K.length-off:=by
   have h3:((K.drop off).take ks.length).length=ks.length:=by rw[hc1]
   simp only[List.length_take,List.length_drop] at h3
   omega
  omega
 have hd:=b0y (σ:=σ) hrow ks _ off hcells hul
 have hcell:∀j u,((us.drop off).take ks.length)[j]? = some u→W.cell? ((q.add ((i.ev ρ).toNat*K.length+off)).add j)=some u:=by
  intro j u hj
  have hj':j<ks.length:=by
   have:=(List.getElem?_eq_some_iff.1 hj).1
   rw[hul] at this
   exact this
  rw[List.getElem?_take_of_lt hj',List.getElem?_drop] at hj
  have:=e2 _ _ hj
  rw[J5,Nat.add_assoc]
  exact this
 have hsz:P.cellsOf t=inf.size:=by simp [Program.cellsOf,hi]
 by_cases ha:v6 P t=true
 ·rw[if_pos ha]
  exact⟨.agg ((us.drop off).take ks.length).toArray,by simp [Instr.loadAt,Instr.sureAddr,X9 hu hi ha (by omega) hcell],_,hd,rfl⟩
 ·have hone:inf.size=1:=by
   rcases hc2 with hc2 | hc2
   ·exact absurd hc2 ha
   ·exact i9 hc2
  rw[if_neg ha]
  generalize hw:(us.drop off).take ks.length=ws at hd hcell hul
  match ws,ks,hul,hd,hcell with
  | [u],k::ks',_,hd,hcell=>
    have h0:=hcell 0 u rfl
    rw[show ∀a:Addr,a.add 0=a from fun _=>rfl] at h0
    exact⟨u,by simp [Instr.loadAt,Instr.sureAddr,Z1 hu (by simpa using ha) h0],hd.1⟩
  | [],[],_,_,_=>simp at hkl;omega
  | u::w::r,ks,e1,_,_=>simp at e1;omega
theorem a2T{mem:Mem}{t:TypeId}{p:V}{obs:List Ob}{v:V}(h:a7k P mem t p=some (obs,v)){a:Value}(ha:p.den ρ σ a){W:World}(hr:RelM ρ σ mem W):
 ∃u,(Instr.loadAt t a).run P W= .ok u W∧v.den ρ σ u:=by
 unfold a7k at h
 split at h
 ·rename_i id off
  obtain⟨b,h1,rfl⟩:=ha
  have key:∀(cs:List S) (bt:TypeId) (vs ex:List Value) (z:Nat×Nat),DL (S.den ρ σ) cs vs→W.heap[b]? = some (.cells (vs++ex).toArray bt z)→
   (match P.info? t with | some _=>(E0 P t cs off).map fun x=>(([]:List Ob),V.v x) | none=>none)=some (obs,v)→∃u,(Instr.loadAt t (.pointer (some ⟨b,off,none⟩))).run P W= .ok u W∧v.den ρ σ u:=by
   intro cs bt vs ex z hd hb h
   split at h
   ·simp only[Option.map_eq_some_iff,Prod.mk.injEq] at h
    obtain⟨x,hx,rfl,rfl⟩:=h
    obtain⟨u,h2,h3⟩:=a4f hx hd hb
    exact⟨u,by simp [Instr.loadAt,Instr.sureAddr,h2],h3⟩
   ·simp at h
  split at h
  ·rename_i t' cs hm
   obtain⟨b',h2,vs,h3,h4⟩:=hr.blk _ _ hm
   rw[h1] at h2
   simp only[Option.some.injEq] at h2
   subst h2
   exact key cs _ vs [] _ h3 (by simpa using h4) h
  ·rename_i t' cs hm
   obtain⟨b',h2,vs,ex,h3,h4⟩:=hr.blk _ _ hm
   rw[h1] at h2
   simp only[Option.some.injEq] at h2
   subst h2
   exact key cs _ vs ex _ h3 h4 h
  ·simp at h
 ·rename_i K x i off
  obtain⟨q,n,c,hs,h1,h2,rfl⟩:=ha
  split at h
  ·rename_i ks inf hk hi
   split at h
   ·rename_i hc
    simp only[Bool.and_eq_true,Bool.or_eq_true] at hc
    obtain⟨hc1,hc2⟩:=hc
    have hc1:=CK.sameL_eq _ _ hc1
    simp only[k9,Option.some.injEq,Prod.mk.injEq] at h
    obtain⟨rfl,rfl⟩:=h
    have hlt:(i.ev ρ).toNat<(x.ev ρ).length:=by have:=hs.len;omega
    obtain⟨row,hrow⟩:∃row,(x.ev ρ)[(i.ev ρ).toNat]? = some row:=⟨_,List.getElem?_eq_getElem hlt⟩
    obtain⟨us,e1,e2⟩:=hs.cell q rfl _ _ hrow
    exact b0D hk hi hc1 hc2 hrow e1 (fun j v hj=>by
     have:=e2 _ _ hj
     rw[hr.base.cell (World.block_lt_of_cell? _ _ this)]
     exact this)
   ·simp at h
  ·simp at h
 ·rename_i id ver k i off
  obtain⟨q,n,c,hs,h1,h2,rfl⟩:=ha
  split at h
  ·rename_i t' K x v' hm
   split at h
   ·rename_i hv
    simp only[Bool.and_eq_true] at hv
    obtain⟨hv1,hv2⟩:=hv
    obtain rfl:=E.same_eq _ _ hv1
    obtain rfl:=i9 hv2
    obtain⟨v,xs,hO⟩:=hr.blk _ _ hm
    have hvv:=hO.now
    rw[hs] at hvv
    simp only[Option.some.injEq] at hvv
    subst hvv
    obtain⟨hn,g,rfl,cur,hg,hcap,hsz,htk⟩:=hO.cells (by omega)
    split at h
    ·rename_i ks inf hk hi
     split at h
     ·rename_i hc
      simp only[Bool.and_eq_true,Bool.or_eq_true] at hc
      obtain⟨hc1,hc2⟩:=hc
      have hc1:=CK.sameL_eq _ _ hc1
      simp only[k9,Option.some.injEq,Prod.mk.injEq] at h
      obtain⟨rfl,rfl⟩:=h
      have hlt:(i.ev ρ).toNat<(x.ev ρ).length:=by omega
      obtain⟨row,hrow⟩:∃row,(x.ev ρ)[(i.ev ρ).toNat]? = some row:=⟨_,List.getElem?_eq_getElem hlt⟩
      refine b0D hk hi hc1 hc2 hrow (hO.reps _ _ hrow) (fun j u hj=> ?_)
      have hj':j<K.length:=by
       rcases Nat.lt_or_ge j K.length with e | e
       ·exact e
       ·rw[List.getElem?_eq_none (by simp;omega)] at hj;cases hj
      rw[List.getElem?_take_of_lt hj',List.getElem?_drop] at hj
      have:=hO.cell_get hn hg htk hj
      exact this
     ·simp at h
    ·simp at h
   ·simp at h
  ·simp at h
 ·rename_i id ver off
  obtain⟨b,h1,rfl⟩:=ha
  split at h
  ·rename_i t' cs v' hm
   split at h
   ·rename_i hv
    obtain rfl:=E.same_eq _ _ hv
    obtain⟨b',h2,_,vs,h3,h4⟩:=hr.blk _ _ hm
    rw[h1] at h2
    simp only[Option.some.injEq,C6,Value.slice.injEq,Addr.mk.injEq] at h2
    obtain⟨⟨rfl,_⟩,_⟩:=h2
    split at h
    ·simp only[Option.map_eq_some_iff,Prod.mk.injEq] at h
     obtain⟨x,hx,rfl,rfl⟩:=h
     obtain⟨u,h5,h6⟩:=a4f (ex:=[]) hx h3 (by simpa using h4)
     exact⟨u,by simp [Instr.loadAt,Instr.sureAddr,h5],h6⟩
    ·simp at h
   ·simp at h
  ·simp at h
 ·simp at h
theorem z5{b:Nat}{bt:TypeId}:∀(l:List Value) (i:Nat) (W:World) (vs:List Value) (off:Nat),(∀v∈l,G9 v=true)→W.heap[b]? = some (.cells vs.toArray bt (0,0))→off+i+l.length≤vs.length→
 ∃W',(storeCells ⟨b,off,none⟩ l i).run P W= .ok () W'∧W'.heap[b]? = some (.cells (vs.take (off+i)++l++vs.drop (off+i+l.length)).toArray bt (0,0))∧
  W'.os=W.os∧W'.tape=W.tape∧W'.output=W.output∧W'.heap.size=W.heap.size∧∀k,k≠b→W'.heap[k]? = W.heap[k]?
 | [],i,W,vs,off,_,hb,_=>⟨W,by simp [storeCells],by simpa using hb,rfl,rfl,rfl,rfl,fun _ _=>rfl⟩
 | v::l,i,W,vs,off,hs,hb,hle=>by
   simp only[List.length_cons] at hle
   have hlt:off+i<vs.length:=by omega
   have hc:W.cell? ⟨b,off+i,none⟩=some vs[off+i]:=by rw[t9 hb];simp [hlt]
   have hf:W.frozen? ⟨b,off+i,none⟩=false:=by simp [World.frozen?,hb]
   have hv:=hs v (List.mem_cons_self ..)
   have hst:(store ⟨b,off+i,none⟩ v).run P W= .ok () (W.setCell ⟨b,off+i,none⟩ v):=by
    cases v<;>simp [G9] at hv<;>simp [store,Sem.run,hc,hf]
   have hb1:(W.setCell ⟨b,off+i,none⟩ v).heap[b]? = some (.cells (vs.set (off+i) v).toArray bt (0,0)):=by
    simp [World.setCell,Array.getElem?_modify,hb]
   obtain⟨W',h1,h2,h3,h4,h5,h6,h7⟩:=z5 l (i+1) (W.setCell ⟨b,off+i,none⟩ v) (vs.set (off+i) v) off (fun u hu=>hs u (List.mem_cons_of_mem _ hu)) hb1 (by simp;omega)
   refine⟨W',by simp [storeCells,m9,hst,h1],?_,h3,h4,h5,by rw[h6];simp [World.setCell],fun k hk=>by rw[h7 k hk];exact Below.heap_setCell _ _ _ _ hk⟩
   rw[h2]
   have e1:(vs.set (off+i) v).take (off+(i+1))=vs.take (off+i)++[v]:=by
    rw[show off+(i+1)=(off+i)+1 by omega,List.take_succ_eq_append_getElem (by simp;omega),List.take_set_of_le (Nat.le_refl _)]
    simp
   have e2:(vs.set (off+i) v).drop (off+(i+1)+l.length)=vs.drop (off+i+(l.length+1)):=by
    rw[List.drop_set_of_lt (by omega)]
    congr 1;omega
   rw[e1,e2]
   simp
theorem a2e{x:V2}{v:Value}(h:x.solid=true)(hd:x.den ρ σ v):∀u∈v.cells.toList,G9 u=true:=by
 cases x with
 | one s=>
   have hs:=a4Z h hd
   rw[a2g hs]
   intro u hu
   rw[List.mem_singleton.1 (show u∈[v] from hu)]
   exact hs
 | agg cs=>
   obtain⟨vs,h1,rfl⟩:=hd
   intro u hu
   simp only[Value.cells] at hu
   obtain⟨i,hi,rfl⟩:=List.getElem_of_mem hu
   have hlen:=h1.length
   have hi':i<cs.length:=by have hi2:i<vs.length:=hi;omega
   obtain⟨w,q1,q2⟩:=h1.get (List.getElem?_eq_getElem hi')
   have hi2:i<vs.length:=hi
   rw[List.getElem?_eq_getElem hi2] at q1
   simp only[Option.some.injEq] at q1
   show G9 (vs[i]'hi2)=true
   rw[q1]
   exact a4Z (List.all_eq_true.1 h _ (List.getElem_mem hi')) q2
def Fr(nx n:Nat)(σ:As):Prop:=∀i,nx≤i→i<n→¬σ.has i
def New(nx n:Nat)(σ σ':As):Prop:=∀i,σ'.has i→σ.has i∨(nx≤i∧i<n)
theorem a8j{mem:Mem}{nx:Nat}{t:TypeId}{p q:V}{r:i8}(h:(a1o P mem nx t p q).res ρ r){a b:Value}(ha:p.den ρ σ a)(hb:q.den ρ σ b){W:World}(hr:RelM ρ σ mem W):
 ∃W',(Instr.storeAt t a b).run P W= .ok () W'∧r.1=V.any∧Step ρ σ W r.2.1 σ W'∧r.2.2=nx:=by
 unfold a1o at h
 split at h
 ·rename_i id off x
  split at h
  ·rename_i t' cs hm
   split at h
   ·rename_i hc
    simp only[Bool.and_eq_true,beq_iff_eq,decide_eq_true_eq] at hc
    obtain⟨⟨⟨c1,c2⟩,c3⟩,c4⟩:=hc
    obtain⟨i,hi⟩:=Option.isSome_iff_exists.1 c4
    simp only[T.res] at h
    subst h
    obtain⟨y,h1,rfl⟩:=ha
    obtain⟨y',h2,vs,h3,h4⟩:=hr.blk _ _ hm
    rw[h1] at h2
    simp only[Option.some.injEq] at h2
    subst h2
    have hv:=J2 c1 hb
    have hlen:=hv.length
    have hlen2:=h3.length
    have hsz:b.cells.size=b.cells.toList.length:=by simp
    obtain⟨W',e1,e2,e3,e4,e5,e6,e7⟩:=z5 (P:=P) b.cells.toList 0 W vs off (a2e c1 hb) h4 (by omega)
    refine⟨W',?_,rfl,?_,rfl⟩
    ·have hne:¬(b.cells.size≠P.cellsOf t):=by omega
     simp [Instr.storeAt,Instr.sureAddr,storeVar,j7 hi,hne,e1]
    ·refine⟨Ext.refl _,e3,e4,e5,by omega,fun k hk hne=>e7 k (fun e=> ?_),fun _ _ _=>rfl,fun i a hi=> .inl hi,fun e=>e,fun i b' hi=> ?_,fun k L hk=> ?_⟩
     ·subst e
      exact hne id (.cells t' (I5 cs off x.cells)) (by simp [Mem.get]) (.inl h1)
     ·simp only[Mem.get] at hi
      split at hi
      ·rename_i hii
       simp only[beq_iff_eq] at hii
       subst hii
       simp only[Option.some.injEq] at hi
       subst hi
       refine⟨y,h1,_,V4 (off:=off) h3 hv,?_⟩
       simpa using e2
      ·simp at hi
     ·have hky:k≠y:=fun e=>by subst e;rw[h4] at hk;cases hk
      exact⟨L,by rw[e7 k hky];exact hk,rfl,rfl,rfl,rfl⟩
   ·exact h.elim
  ·exact h.elim
 ·rename_i id ver k i off x
  obtain⟨q,n,c,hs,h1,h2,rfl⟩:=ha
  split at h
  ·rename_i t' K y v' hm
   split at h
   ·rename_i hc
    simp only[Bool.and_eq_true,beq_iff_eq] at hc
    obtain⟨⟨⟨⟨⟨hv1,hv2⟩,c1⟩,c2⟩,c4⟩,c5⟩:=hc
    have c5:=Nat.le_of_ble_eq_true c5
    obtain rfl:=E.same_eq _ _ hv1
    obtain rfl:=i9 hv2
    obtain⟨inf,hi⟩:=Option.isSome_iff_exists.1 c4
    split at h
    ·rename_i l hl
     simp only[T.res] at h
     subst h
     obtain⟨v,xs,hO⟩:=hr.blk _ _ hm
     have hvv:=hO.now
     rw[hs] at hvv
     simp only[Option.some.injEq] at hvv
     subst hvv
     obtain⟨hn,g,rfl,cur,hg,hcap,hsz,htk⟩:=hO.cells (by omega)
     have hlt:(i.ev ρ).toNat<(y.ev ρ).length:=by omega
     obtain⟨row,hrow⟩:∃row,(y.ev ρ)[(i.ev ρ).toNat]? = some row:=⟨_,List.getElem?_eq_getElem hlt⟩
     have hv:=J2 c1 hb
     have hlen:=hv.length
     have hnew:=F7 (y4 (W:=ρ.w) (Below.refl _ _)) _ _ l hl _ hv
     have hnl:=w9 hnew
     have hreps:=hO.reps _ _ hrow
     have hrl:=w9 hreps
     have hoK:off+b.cells.toList.length≤K.length:=by omega
     have hmul:(i.ev ρ).toNat*K.length+K.length≤n*K.length:=by rw[←Nat.succ_mul];exact Nat.mul_le_mul_right _ (by omega)
     have hcn:n*K.length≤c*K.length:=Nat.mul_le_mul_right _ hcap
     have hcs:cur.toList.length=c*K.length:=by rw[←hsz];simp
     have hsz2:b.cells.size=b.cells.toList.length:=by simp
     have hg':W.heap[g]? = some (.cells cur.toList.toArray t' (0,0)):=by rw[Array.toArray_toList];exact hg
     obtain⟨W',e1,e2,e3,e4,e5,e6,e7⟩:=z5 (P:=P) b.cells.toList 0 W cur.toList ((i.ev ρ).toNat*K.length+off) (a2e c1 hb) hg' (by omega)
     refine⟨W',?_,rfl,?_,rfl⟩
     ·have hne:¬(b.cells.size≠P.cellsOf t):=by omega
      simp [Instr.storeAt,Instr.sureAddr,storeVar,j7 hi,hne,m9,e1]
     ·have hroom:j9 (.slice (some ⟨g,0,none⟩) n c)=some g:=by
       cases c with
       | zero=>omega
       | succ c=>rfl
      have hxl:xs.length=n*K.length:=by rw[←htk,List.length_take];omega
      have htake:(o0 cur.toList ((i.ev ρ).toNat*K.length+off) b.cells.toList).take (n*K.length)=o0 xs ((i.ev ρ).toNat*K.length+off) b.cells.toList:=by
       refine List.ext_getElem? (fun j=> ?_)
       rw[t6 (by omega)]
       rcases Nat.lt_or_ge j (n*K.length) with e | e
       ·rw[List.getElem?_take_of_lt e,t6 (by omega)]
        split
        ·rfl
        ·rw[←htk,List.getElem?_take_of_lt e]
       ·rw[List.getElem?_eq_none (by rw[List.length_take];omega),if_neg (by omega),List.getElem?_eq_none (by omega)]
      refine⟨Ext.refl _,e3,e4,e5,by omega,fun k hk hne=>e7 k (fun e=> ?_),fun _ _ _=>rfl,fun i a hi=> .inl hi,fun e=>e,fun i' b' hi'=> ?_,fun k L hk=> ?_⟩
      ·subst e
       exact hne id (.own t' K (y.upd i off l) ver) (by simp [Mem.get]) (.inr ⟨_,_,hs,hroom⟩)
      ·simp only[Mem.get] at hi'
       split at hi'
       ·rename_i hii
        simp only[beq_iff_eq] at hii
        subst hii
        simp only[Option.some.injEq] at hi'
        subst hi'
        have hul:(z9 (y.ev ρ) (i.ev ρ) off (l.ev ρ)).length=(y.ev ρ).length:=by simp [z9]
        have hrow0:xs.length=(z9 (y.ev ρ) (i.ev ρ) off (l.ev ρ)).length*K.length:=by rw[hul,←hn];exact hxl
        refine⟨_,o0 xs ((i.ev ρ).toNat*K.length+off) b.cells.toList,hs,hO.last,.inl ⟨?_,.inr ⟨g,c,(o0 cur.toList ((i.ev ρ).toNat*K.length+off) b.cells.toList).toArray,?_,hr.above _ _ (.inr ⟨_,_,hs,hroom⟩),?_,?_,?_,?_,?_⟩⟩,?_,?_⟩
        ·simp only[X.ev]
         rw[t0 (by omega)]
         exact hrow0
        ·simp only[X.ev]
         rw[hul,←hn]
        ·rw[e2]
         simp only[Nat.add_zero]
         rfl
        ·simp only[X.ev];rw[hul,←hn];exact hcap
        ·rcases hO.row with ⟨_,r2⟩ | ⟨r1,_,_⟩
         ·rcases r2 with ⟨r2,_⟩ | ⟨g2,cap2,cur2,r2,_,_,_,r3,_⟩
          ·simp at r2
          ·simp only[Value.slice.injEq] at r2
           omega
         ·omega
        ·simp only[List.size_toArray]
         rw[t0 (by omega),hcs]
        ·simp only[X.ev]
         rw[hul,←hn]
         exact htake
        ·intro j row' hj
         simp only[X.ev] at hj
         have hjl:j<(y.ev ρ).length:=by rw[←hul];exact(List.getElem?_eq_some_iff.1 hj).1
         have hjm:j*K.length+K.length≤n*K.length:=by rw[←Nat.succ_mul];exact Nat.mul_le_mul_right _ (by omega)
         by_cases hji:j=(i.ev ρ).toNat
         ·subst hji
          simp only[z9,List.getElem?_modify,if_true,hrow] at hj
          have hset:=b8k hreps (by rw[←hlen];exact hnew) hoK
          have e9:((o0 xs ((i.ev ρ).toNat*K.length+off) b.cells.toList).drop ((i.ev ρ).toNat*K.length)).take K.length=o0 ((xs.drop ((i.ev ρ).toNat*K.length)).take K.length) off b.cells.toList:=by
           refine List.ext_getElem? (fun j=> ?_)
           have hl2:((xs.drop ((i.ev ρ).toNat*K.length)).take K.length).length=K.length:=hrl.1
           rw[t6 (by omega)]
           rcases Nat.lt_or_ge j K.length with e | e
           ·rw[List.getElem?_take_of_lt e,List.getElem?_drop,t6 (by omega),List.getElem?_take_of_lt e,List.getElem?_drop]
            by_cases q1:off≤j∧j<off+b.cells.toList.length
            ·rw[if_pos (by omega),if_pos q1];congr 1;omega
            ·rw[if_neg (by omega),if_neg q1]
           ·rw[List.getElem?_eq_none (by rw[List.length_take];omega),if_neg (by omega),List.getElem?_eq_none (by omega)]
          have hj2:o0 row off (l.ev ρ)=row':=by simpa [o0] using hj
          rw[e9,←hj2]
          exact hset
         ·simp only[z9,List.getElem?_modify,if_neg (Ne.symm hji)] at hj
          have hj:(y.ev ρ)[j]? = some row':=by simpa using hj
          have hold:=hO.reps j row' hj
          have e9:((o0 xs ((i.ev ρ).toNat*K.length+off) b.cells.toList).drop (j*K.length)).take K.length=(xs.drop (j*K.length)).take K.length:=by
           refine List.ext_getElem? (fun p=> ?_)
           rcases Nat.lt_or_ge p K.length with e | e
           ·rw[List.getElem?_take_of_lt e,List.getElem?_drop,t6 (by omega),List.getElem?_take_of_lt e,List.getElem?_drop]
            rw[if_neg (fun q1=> ?_)]
            rcases Nat.lt_or_ge j (i.ev ρ).toNat with c1 | c1
            ·have:j*K.length+K.length≤(i.ev ρ).toNat*K.length:=by rw[←Nat.succ_mul];exact Nat.mul_le_mul_right _ c1
             omega
            ·have:(i.ev ρ).toNat*K.length+K.length≤j*K.length:=by rw[←Nat.succ_mul];exact Nat.mul_le_mul_right _ (by omega)
             omega
           ·rw[List.getElem?_eq_none (by rw[List.length_take];omega),List.getElem?_eq_none (by rw[List.length_take];omega)]
          rw[e9]
          exact hold
        ·simp only[X.ev];rw[hul];exact hO.big
       ·simp at hi'
      ·have hky:k≠g:=fun e=>by subst e;rw[hg] at hk;cases hk
       exact⟨L,by rw[e7 k hky];exact hk,rfl,rfl,rfl,rfl⟩
    ·exact h.elim
   ·exact h.elim
  ·exact h.elim
 ·rename_i id ver off x
  split at h
  ·rename_i t' cs v' hm
   split at h
   ·rename_i hc
    simp only[Bool.and_eq_true,beq_iff_eq,decide_eq_true_eq] at hc
    obtain⟨⟨⟨⟨c0,c1⟩,c2⟩,c3⟩,c4⟩:=hc
    obtain rfl:=E.same_eq _ _ c0
    obtain⟨i,hi⟩:=Option.isSome_iff_exists.1 c4
    simp only[T.res] at h
    subst h
    obtain⟨y,h1,rfl⟩:=ha
    obtain⟨y',h2,hlast,vs,h3,h4⟩:=hr.blk _ _ hm
    rw[h1] at h2
    simp only[Option.some.injEq,C6,Value.slice.injEq,Addr.mk.injEq] at h2
    obtain⟨⟨rfl,_⟩,_⟩:=h2
    have hv:=J2 c1 hb
    have hlen:=hv.length
    have hlen2:=h3.length
    have hsz:b.cells.size=b.cells.toList.length:=by simp
    obtain⟨W',e1,e2,e3,e4,e5,e6,e7⟩:=z5 (P:=P) b.cells.toList 0 W vs off (a2e c1 hb) h4 (by omega)
    refine⟨W',?_,rfl,?_,rfl⟩
    ·have hne:¬(b.cells.size≠P.cellsOf t):=by omega
     simp [Instr.storeAt,Instr.sureAddr,storeVar,j7 hi,hne,e1]
    ·refine⟨Ext.refl _,e3,e4,e5,by omega,fun k hk hne=>e7 k (fun e=> ?_),fun _ _ _=>rfl,fun i a hi=> .inl hi,fun e=>e,fun i b' hi=> ?_,fun k L hk=> ?_⟩
     ·subst e
      exact hne id (.vbox t' (I5 cs off x.cells) ver) (by simp [Mem.get]) (.inr ⟨_,_,h1,rfl⟩)
     ·simp only[Mem.get] at hi
      split at hi
      ·rename_i hii
       simp only[beq_iff_eq] at hii
       subst hii
       simp only[Option.some.injEq] at hi
       subst hi
       refine⟨y,h1,hlast,_,V4 (off:=off) h3 hv,?_⟩
       simpa using e2
      ·simp at hi
     ·have hky:k≠y:=fun e=>by subst e;rw[h4] at hk;cases hk
      exact⟨L,by rw[e7 k hky];exact hk,rfl,rfl,rfl,rfl⟩
   ·exact h.elim
  ·exact h.elim
 ·exact h.elim
def As.put(σ:As)(nx a:Nat):As:= { σ with f:=fun i=>if i=nx then some a else σ i }
theorem As.put_self{nx a:Nat}:σ.put nx a nx=some a:=by show(if nx=nx then some a else σ nx)=some a;rw[if_pos rfl]
theorem As.put_other{nx a i:Nat}(h:i≠nx):σ.put nx a i=σ i:=by show(if i=nx then some a else σ i)=σ i;rw[if_neg h]
theorem a0k{nx a:Nat}(hn:¬σ.has nx):Ext σ (σ.put nx a):=⟨fun i b hi=>by
 have hne:i≠nx:=fun e=>by subst e;exact hn (.inl ⟨_,hi⟩)
 rw[As.put_other hne];exact hi,fun _ _ _ h=>h⟩
theorem a5M{nx a i k:Nat}(h:(σ.put nx a).own i k):σ.own i k∨(i=nx∧k=a):=by
 rcases h with h | h
 ·by_cases e:i=nx
  ·subst e
   rw[As.put_self] at h
   simp only[Option.some.injEq] at h
   exact .inr ⟨rfl,h.symm⟩
  ·rw[As.put_other e] at h
   exact .inl (.inl h)
 ·exact .inl (.inr h)
theorem c1c{nx a i:Nat}(h:(σ.put nx a).has i):σ.has i∨i=nx:=by
 rcases h with ⟨b,h⟩ | h
 ·by_cases e:i=nx
  ·exact .inr e
  ·rw[As.put_other e] at h
   exact .inl (.inl ⟨_,h⟩)
 ·exact .inl (.inr h)
theorem I6{nx:Nat}(hn:¬σ.has nx){W:World}(hlt:∀i a,σ.own i a→a<W.heap.size){b:Blk}{o:Obj}(hb:BlkRel ρ (σ.put nx W.heap.size) nx (W.alloc o) b):
 Step ρ σ W [(nx,b)] (σ.put nx W.heap.size) (W.alloc o)∧New nx (nx+1) σ (σ.put nx W.heap.size):=by
 refine⟨⟨a0k hn,rfl,rfl,rfl,by simp,fun k hk _=>Below.heap_alloc _ _ _ hk,fun _ _ _=>rfl,fun i a hi=> ?_,fun hinj i j a hi hj=> ?_,fun i b' hi=> ?_,Keep.of_eq (fun k hk=>Below.heap_alloc _ _ _ hk)⟩,fun i hi=> ?_⟩
 ·rcases a5M hi with h | ⟨_,h⟩
  ·exact .inl h
  ·exact .inr ⟨by omega,by simp;omega⟩
 ·rcases a5M hi with h1 | ⟨h1,h2⟩<;>rcases a5M hj with h3 | ⟨h3,h4⟩
  ·exact hinj i j a h1 h3
  ·have:=hlt _ _ h1;omega
  ·have:=hlt _ _ h3;omega
  ·omega
 ·simp only[Mem.get] at hi
  split at hi
  ·rename_i hii
   simp only[beq_iff_eq] at hii
   subst hii
   simp only[Option.some.injEq] at hi
   subst hi
   exact hb
  ·simp at hi
 ·rcases c1c hi with h | h
  ·exact .inl h
  ·exact .inr ⟨by omega,by omega⟩
theorem F4(W:World)(o:Obj):(W.alloc o).heap[W.heap.size]? = some o:=by show(W.heap.push o)[W.heap.size]? = some o;simp
end
end Go.Proofs.YtbbjlleaofgddaaGreat
namespace Go.Proofs.YtbbjlleaofgddaaGreat
open Go.RowKit
theorem X5{P:Program}(W:World){t ty e:TypeId}{i:TypeInfo}(ht:P.underlying t=some (.slice e))(hi:P.info? e=some i)(b:Option Addr)(n cap c:Nat)(hn:n≤cap):
 (Builtin.append_ #[t,t] ty #[.slice b n cap,.slice none 0 c]).run P W= .ok (.slice b n cap) W:=by
 cases b<;>simp [Builtin.append_,run_underlying ht,sizeOf,typeInfo,hi,Builtin.lenOf,hn,run_firstCells_none,storeCells]
theorem W8{P:Program}(W:World){t ty e:TypeId}{i:TypeInfo}(ht:P.underlying t=some (.slice e))(hi:P.info? e=some i)(b:Option Addr)(n cap c:Nat)(a:Addr)(hn:n≤cap):
 (Builtin.append_ #[t,t] ty #[.slice b n cap,.slice (some a) 0 c]).run P W= .ok (.slice b n cap) W:=by
 have hf:=run_firstCells_some (P:=P) W i.size 0 a 0 c [] (by simp) (fun j v h=>by simp at h)
 cases b<;>simp [Builtin.append_,run_underlying ht,sizeOf,typeInfo,hi,Builtin.lenOf,hn,hf,storeCells]
structure AppRes (W:World) (base:Nat) (e:TypeId) (size:Nat) (v:Value) (n:Nat) (xs:List Value) (v':Value) (W':World):Prop where
 row:OwnRow W' base e size v' n xs
 os:W'.os=W.os
 tape:W'.tape=W.tape
 output:W'.output=W.output
 size:W.heap.size≤W'.heap.size
 block:∀k,k<W.heap.size→j9 v≠some k→W'.heap[k]? = W.heap[k]?
 room:∀k,j9 v'=some k→j9 v=some k∨(W.heap.size≤k∧k<W'.heap.size)
 keep:Keep W W'
 sl:∃a c,v'= .slice a n c
theorem AppRes.same{W:World}{base:Nat}{e:TypeId}{size:Nat}{v:Value}{n:Nat}{xs:List Value}(h:OwnRow W base e size v n xs)(hs:∃a c,v= .slice a n c):AppRes W base e size v n xs v W:=
 ⟨h,rfl,rfl,rfl,Nat.le_refl _,fun _ _ _=>rfl,fun k hk=> .inl hk,Keep.refl _,hs⟩
theorem AppRes.grown{W:World}{base:Nat}{e:TypeId}{size:Nat}{v:Value}{n:Nat}{xs:List Value}{z:Array Value}{cap:Nat}(hb:base≤W.heap.size)(hl:xs.length=n*size)(hge:n≤cap)(hcm:cap≤maxLen)(hz:z.size=size):
 AppRes W base e size v n xs (.slice (some ⟨W.heap.size,0,none⟩) n cap) (W.drew.alloc (.cells (xs.toArray++Builtin.zeroCells z (cap-n)) e)):=by
 have hh:(W.drew.alloc (.cells (xs.toArray++Builtin.zeroCells z (cap-n)) e)).heap[W.heap.size]? = some (.cells (xs.toArray++Builtin.zeroCells z (cap-n)) e):=heap_alloc_new W.drew _
 refine⟨.inl ⟨hl,.inr ⟨W.heap.size,cap,_,rfl,hb,hh,hge,hcm,?_,?_⟩⟩,rfl,rfl,rfl,by simp,fun k hk _=>Below.heap_alloc W.drew _ k hk,fun k hk=> ?_,Keep.of_eq (fun k hk=>Below.heap_alloc W.drew _ k hk),_,_,rfl⟩
 ·simp only[Array.size_append,List.size_toArray,size_zeroCells,hz,hl,←Nat.add_mul]
  congr 1
  omega
 ·simp only[Array.toList_append,←hl]
  exact List.take_left
 ·refine .inr ?_
  unfold j9 at hk
  split at hk
  ·rename_i a n' c' e1
   simp only[Value.slice.injEq,Option.some.injEq] at e1 hk
   rw[←hk,←e1.1]
   simp
  ·cases hk
theorem N8{P:Program}(W:World){base:Nat}{t ty e:TypeId}{i:TypeInfo}{z:Value}{size:Nat}(ht:P.underlying t=some (.slice e))(hi:P.info? e=some i)(hz:i.zero=some z)(hsize:i.size=size)(hzs:z.cells.size=size)
 {v:Value} {n:Nat} {xs:List Value} (hown:OwnRow W base e size v n xs) (hv:∃a c,v= .slice a n c) {a:Option Addr} {m c:Nat} {news:List Value} (hl:news.length=m*size) (ha:0<m→a.isSome=true)
 (hnews:∀b,a=some b→∀j u,news[j]? = some u→W.cell? (b.add j)=some u) (h1:∀u∈news,u.oneCell'=true) (h63:n+m≤maxLen) (hbytes:(n+m)*i.bytes≤140737488355328) (hbase:base≤W.heap.size):
 ∃v' W',(Builtin.append_ #[t,t] ty #[v,.slice a m c]).run P W= .ok v' W'∧AppRes W base e size v (n+m) (xs++news) v' W':=by
 subst hsize
 have hsmall:n+m≤9223372036854775807:=by simp only[maxLen] at h63;omega
 by_cases hm:m=0
 ·subst hm
  obtain rfl:news=[]:=List.eq_nil_of_length_eq_zero (by simpa using hl)
  have hle:∃b cap,v= .slice b n cap∧n≤cap:=by
   rcases hown with ⟨_,h2⟩ | ⟨h2,_,b,h3⟩
   ·rcases h2 with ⟨rfl,rfl⟩ | ⟨g,cap,cur,rfl,_,_,r1,_⟩
    ·exact⟨none,0,rfl,Nat.le_refl _⟩
    ·exact⟨_,_,rfl,r1⟩
   ·subst h2;exact⟨b,0,h3,Nat.le_refl _⟩
  obtain⟨b,cap,rfl,hle⟩:=hle
  simp only[Nat.add_zero,List.append_nil]
  cases a with
  | none=>exact⟨_,W,X5 W ht hi b n cap c hle,AppRes.same hown hv⟩
  | some a=>exact⟨_,W,W8 W ht hi b n cap c a hle,AppRes.same hown hv⟩
 obtain⟨ad,rfl⟩:=Option.isSome_iff_exists.1 (ha (by omega))
 have hnews':=hnews ad rfl
 have hlen:xs.length=n*i.size:=by
  rcases hown with ⟨h1,_⟩ | ⟨h1,h2,_⟩
  ·exact h1
  ·rw[h1,h2,Nat.zero_mul];rfl
 have hlen2:(xs++news).length=(n+m)*i.size:=by rw[List.length_append,hlen,hl,Nat.add_mul]
 have hgrow:∀old,old<n+m→AppRes W base e i.size v (n+m) (xs++news) (.slice (some ⟨W.heap.size,0,none⟩) (n+m) (grownCap W (n+m) old e)) (W.drew.alloc (.cells ((xs++news).toArray++Builtin.zeroCells z.cells (grownCap W (n+m) old e-(n+m))) e)):=
  fun old _=>AppRes.grown hbase hlen2 (grownCap_ge W (n+m) old e) (grownCap_le_maxLen W (n+m) old e h63) hzs
 rcases hown with ⟨_,h2⟩ | ⟨h2,h3,b,h4⟩
 ·rcases h2 with ⟨rfl,rfl⟩ | ⟨g,cap,cur,rfl,hbg,hg,hnc,hcm,hcs,htake⟩
  ·obtain rfl:xs=[]:=List.eq_nil_of_length_eq_zero (by simpa using hlen)
   have hr:=run_append_nil (P:=P) W t ty e i z ht hi hz ad m c news hl hnews' (by omega) (by omega) (by have hb:=hbytes;simp only[Nat.zero_add] at hb;omega)
   have hgr:=hgrow 0 (by omega)
   simp only[Nat.zero_add,List.nil_append] at hgr ⊢
   exact⟨_,_,hr,hgr⟩
  ·by_cases hroom:n+m≤cap
   ·have hfit:n*i.size+news.length≤cur.size:=by rw[hl,hcs,←Nat.add_mul];exact Nat.mul_le_mul_right _ hroom
    have hr:=run_append_room (P:=P) W t ty e i ht hi g n cap cur hg ad m c news hl hnews' h1 hroom hfit
    obtain⟨cap',rfl⟩:∃c',cap=c'+1:=⟨cap-1,by omega⟩
    refine⟨_,_,hr,⟨.inl ⟨hlen2,.inr ⟨g,_,_,rfl,hbg,setRow_heap W g cur _ e _ hg,hroom,hcm,?_,?_⟩⟩,rfl,rfl,rfl,by simp,fun k _ hk=>setRow_other W g k _ (fun e=>hk (by rw[e];rfl)),fun k hk=> .inl hk,fun k L hL=> ?_,_,_,rfl⟩⟩
    ·simp only[List.size_toArray,List.length_append,List.length_take,List.length_drop,Array.length_toList]
     omega
    ·rw[htake,←hlen2]
     exact List.take_left
    ·have hkg:k≠g:=fun e=>by subst e;rw[hg] at hL;cases hL
     exact⟨L,by rw[setRow_other W g k _ hkg];exact hL,rfl,rfl,rfl,rfl⟩
   ·have holds:∀j u,xs[j]? = some u→W.cell? ((⟨g,0,none⟩:Addr).add j)=some u:=by
     intro j u hu
     rw[m9,t9 hg,Nat.zero_add,←Array.getElem?_toList]
     rw[←htake,List.getElem?_take] at hu
     split at hu
     ·exact hu
     ·cases hu
    have hr:=run_append_grow (P:=P) W t ty e i z ht hi hz ⟨g,0,none⟩ n cap xs hlen holds ad m c news hl hnews' (by omega) (by omega) (growslice_fits (by omega) hbytes)
    have hgr:=hgrow cap (by omega)
    simp only[List.append_toArray] at hr
    exact⟨_,_,hr,hgr⟩
 ·subst h2 h3 h4
  cases b with
  | none=>
    have hr:=run_append_nil (P:=P) W t ty e i z ht hi hz ad m c news hl hnews' (by omega) (by omega) (by have hb:=hbytes;simp only[Nat.zero_add] at hb;omega)
    have hgr:=hgrow 0 (by omega)
    simp only[Nat.zero_add,List.nil_append] at hgr ⊢
    exact⟨_,_,hr,hgr⟩
  | some b=>
    have hr:=run_append_grow (P:=P) W t ty e i z ht hi hz b 0 0 [] (by simp) (fun j u h=>by simp at h) ad m c news hl hnews' (by omega) (by omega) (growslice_fits (by omega) hbytes)
    have hgr:=hgrow 0 (by omega)
    simp only[List.append_toArray,Nat.zero_add,List.nil_append] at hr hgr ⊢
    exact⟨_,_,hr,hgr⟩
section
variable {P:Program} {ρ:Env} {σ:As} {mem:Mem} {W:World}
theorem X.appS_ev(ρ:Env)(x y:X):(X.appS x y).ev ρ=x.ev ρ++y.ev ρ:=by
 unfold X.appS
 split<;>simp [X.ev]
structure SlNow (ρ:Env) (W:World) (ks:List CK) (y:X) (a:Option Addr) (n:Nat) (xs:List Value):Prop where
 len:n=(y.ev ρ).length
 there:0<n→a.isSome=true
 rows:RowsAt ρ.w ks xs (y.ev ρ)
 cell:∀b,a=some b→∀j v,xs[j]? = some v→W.cell? (b.add j)=some v
theorem B1{s:S0}{q:Cur}(h:C0 mem s=some q){u:Value}(hd:s.den ρ σ u)(hr:RelM ρ σ mem W):
 ∃a n c a0 n0 c0 xs,u= .slice a n c∧SlNow ρ W q.ks q.x a n xs∧n≤c∧n≤281474976710656∧σ.h q.id (q.ver.ev ρ)=some (.slice a0 n0 c0)∧0≤q.lo.ev ρ∧(q.lo.ev ρ).toNat+n≤n0∧
  (0<n→∃b,a0=some b∧a=some (b.add ((q.lo.ev ρ).toNat*q.ks.length)))∧(a9c s=false→q.lo.ev ρ=0→a=a0∧c=c0)∧∃y,mem.get q.id=some (.own q.t q.ks y q.ver):=by
 unfold C0 at h
 split at h
 ·rename_i id ver
  split at h
  ·rename_i t ks x v hm
   split at h
   ·rename_i hv
    simp only[Option.some.injEq] at h
    subst h
    obtain rfl:=E.same_eq _ _ hv
    obtain⟨⟨a,n,c,rfl⟩,hd⟩:=hd
    obtain⟨v,xs,hO⟩:=hr.blk _ _ hm
    have hvv:=hO.now
    rw[hd] at hvv
    simp only[Option.some.injEq] at hvv
    subst hvv
    have hlen:n=(x.ev ρ).length∧n≤c:=by
     rcases hO.row with ⟨_,h2⟩ | ⟨h2,_,b,h3⟩
     ·rcases h2 with ⟨h2,h3⟩ | ⟨g,cap,cur,h2,_,_,r1,_⟩
      ·simp only[Value.slice.injEq] at h2;omega
      ·simp only[Value.slice.injEq] at h2
       obtain⟨_,rfl,rfl⟩:=h2
       exact⟨rfl,r1⟩
     ·simp only[Value.slice.injEq] at h3;omega
    have hsome:0<n→∃b,a=some b:=by
     intro h0
     cases a with
     | none=>
       rcases hO.row with ⟨_,h2⟩ | ⟨h2,_,b,h3⟩
       ·rcases h2 with ⟨h2,h3⟩ | ⟨g,cap,cur,h2,_⟩
        ·omega
        ·simp at h2
       ·omega
     | some b=>exact⟨b,rfl⟩
    refine⟨a,n,c,a,n,c,xs,rfl,⟨hlen.1,fun h0=> ?_,hO.rows,fun b hb j u hj=> ?_⟩,hlen.2,by have:=hO.big;omega,hd,by simp [E.ev],by simp [E.ev],fun h0=> ?_,fun _ _=>⟨rfl,rfl⟩,_,hm⟩
    ·obtain⟨b,rfl⟩:=hsome h0;rfl
    ·subst hb
     have h0:0<n:=by
      rcases Nat.eq_zero_or_pos n with e | e
      ·have:=hO.rows.1
       rw[←hlen.1,e,Nat.zero_mul] at this
       rw[List.eq_nil_of_length_eq_zero this] at hj
       simp at hj
      ·exact e
     obtain⟨hn,g,rfl,cur,hg,_,_,htk⟩:=hO.cells h0
     exact hO.cell_get hn hg htk hj
    ·obtain⟨b,rfl⟩:=hsome h0
     refine⟨b,rfl,?_⟩
     simp [E.ev,Addr.add]
   ·simp at h
  ·simp at h
 ·rename_i id ver k lo hi f
  split at h
  ·rename_i t ks x v hm
   split at h
   ·rename_i hv
    simp only[Bool.and_eq_true] at hv
    obtain⟨hv,hk⟩:=hv
    simp only[Option.some.injEq] at h
    subst h
    obtain rfl:=E.same_eq _ _ hv
    obtain rfl:=i9 hk
    obtain⟨a0,n0,c0,b,c',hd,l1,l2,l3,rfl,l4,l5,l6,l7⟩:=hd
    obtain⟨v,xs,hO⟩:=hr.blk _ _ hm
    have hvv:=hO.now
    rw[hd] at hvv
    simp only[Option.some.injEq] at hvv
    subst hvv
    have hlen:n0=(x.ev ρ).length:=by
     rcases hO.row with ⟨_,h2⟩ | ⟨h2,_,b,h3⟩
     ·rcases h2 with ⟨h2,h3⟩ | ⟨g,cap,cur,h2,_,_,r1,_⟩
      ·simp only[Value.slice.injEq] at h2;omega
      ·simp only[Value.slice.injEq] at h2
       obtain⟨_,rfl,rfl⟩:=h2
       rfl
     ·simp only[Value.slice.injEq] at h3;omega
    have hsub:=hO.rows.sub (l:=lo.ev ρ) (m:=hi.ev ρ) (by omega) (by omega)
    have hsl:(k5 (x.ev ρ) (lo.ev ρ) (hi.ev ρ)).length=(hi.ev ρ).toNat-(lo.ev ρ).toNat:=by simp [k5];omega
    refine⟨b,_,c',a0,n0,c0,_,rfl,⟨by simp only[X.ev];rw[hsl],fun h0=> ?_,hsub,fun q hq j u hj=> ?_⟩,l4,by have:=hO.big;omega,hd,l1,by show(lo.ev ρ).toNat+_≤n0;omega,fun h0=> ?_,fun hf hz=>l7 hz hf,_,hm⟩
    ·obtain⟨q,_,rfl⟩:=l5 (by omega);rfl
    ·have h0:lo.ev ρ<hi.ev ρ:=by
      rcases Int.lt_or_le (lo.ev ρ) (hi.ev ρ) with e | e
      ·exact e
      ·have e0:(hi.ev ρ).toNat-(lo.ev ρ).toNat=0:=by omega
       rw[e0,Nat.zero_mul] at hj
       simp at hj
     obtain⟨q',rfl,hb⟩:=l5 h0
     rw[hq] at hb
     simp only[Option.some.injEq] at hb
     subst hb
     obtain⟨hn,g,rfl,cur,hg,_,_,htk⟩:=hO.cells (by omega)
     rw[J5]
     refine hO.cell_get hn hg htk ?_
     have hj':j<((hi.ev ρ).toNat-(lo.ev ρ).toNat)*ks.length:=by
      rcases Nat.lt_or_ge j (((hi.ev ρ).toNat-(lo.ev ρ).toNat)*ks.length) with e | e
      ·exact e
      ·rw[List.getElem?_eq_none (by rw[List.length_take];omega)] at hj;cases hj
     rw[List.getElem?_take_of_lt hj',List.getElem?_drop] at hj
     exact hj
    ·exact l5 (by omega)
   ·simp at h
  ·simp at h
 ·simp at h
theorem Z4{ks:List CK}{s:S0}{y:X}(h:a5i mem ks s=some y){u:Value}(hd:s.den ρ σ u)(hr:RelM ρ σ mem W):
 ∃a n c xs,u= .slice a n c∧SlNow ρ W ks y a n xs∧n≤281474976710656∧n≤c:=by
 unfold a5i at h
 split at h
 ·rename_i ks' x f
  split at h
  ·rename_i hk
   obtain rfl:=CK.sameL_eq _ _ hk
   simp only[Option.some.injEq] at h
   subst h
   obtain⟨a,n,c,rfl,hs,_⟩:=hd
   obtain⟨xs,h1,h2⟩:=a6F (w:=ρ.w) (ks:=ks) (cell:=fun j v=>∀b,a=some b→W.cell? (b.add j)=some v) (r:=x.ev ρ) (o:=0) (fun i row hi=>by
    have hlt:=(List.getElem?_eq_some_iff.1 hi).1
    obtain⟨b,rfl⟩:=Option.isSome_iff_exists.1 (hs.there (by have:=hs.len;omega))
    obtain⟨vs,g1,g2⟩:=hs.cell b rfl i row hi
    refine⟨vs,g1,fun j v hj b' hb'=> ?_⟩
    simp only[Option.some.injEq] at hb'
    subst hb'
    have:=g2 j v hj
    rw[Nat.zero_add,hr.base.cell (World.block_lt_of_cell? _ _ this)]
    exact this)
   exact⟨a,n,c,xs,rfl,⟨hs.len.symm,hs.there,h1,fun b hb j v hj=>by have:=h2 j v hj b hb;rwa [Nat.zero_mul,Nat.zero_add] at this⟩,hs.big,hs.cap⟩
  ·cases h
 ·simp only[Option.some.injEq] at h
  subst h
  obtain rfl:u= .slice none 0 0:=hd
  exact⟨none,0,0,[],rfl,⟨by simp [X.ev],by omega,by simp only[X.ev];exact RowsAt.nil _ _,fun b hb=>by cases hb⟩,by omega,by omega⟩
 ·rename_i id off len c
  split at h
  ·rename_i t cs hm
   split at h
   ·rename_i hc
    simp only[Bool.and_eq_true,decide_eq_true_eq] at hc
    obtain⟨⟨c1,c2⟩,c3⟩:=hc
    obtain⟨b,h1,rfl⟩:=hd
    obtain⟨b',h2,vs,h3,h4⟩:=hr.blk _ _ hm
    rw[h1] at h2
    simp only[Option.some.injEq] at h2
    subst h2
    have hl:=h3.length
    obtain⟨e1,e2⟩:=V0 (y4 (W:=ρ.w) (Below.refl _ _)) ks len _ y h _ (h3.drop off) (by rw[List.length_drop];omega)
    refine⟨some ⟨b,off,none⟩,len,c,(vs.drop off).take (len*ks.length),rfl,⟨e1.symm,fun _=>rfl,⟨?_,fun i row hi=> ?_⟩,fun q hq j v hj=> ?_⟩,by omega,c1⟩
    ·rw[e1,List.length_take,List.length_drop];omega
    ·have hlt:i<len:=by rw[←e1];exact(List.getElem?_eq_some_iff.1 hi).1
     have:=e2 i row hi
     have hle:i*ks.length+ks.length≤len*ks.length:=by rw[←Nat.succ_mul];exact Nat.mul_le_mul_right _ hlt
     rw[List.drop_take,List.take_take,Nat.min_eq_left (by omega)]
     exact this
    ·simp only[Option.some.injEq] at hq
     subst hq
     rw[m9,t9 h4]
     have hj':j<len*ks.length:=by
      rcases Nat.lt_or_ge j (len*ks.length) with e | e
      ·exact e
      ·rw[List.getElem?_eq_none (by rw[List.length_take];omega)] at hj;cases hj
     rw[List.getElem?_take_of_lt hj',List.getElem?_drop] at hj
     simp only[List.getElem?_toArray]
     exact hj
   ·cases h
  ·cases h
 ·split at h
  ·rename_i q hq
   split at h
   ·rename_i hk
    obtain rfl:=CK.sameL_eq _ _ hk
    simp only[Option.some.injEq] at h
    subst h
    obtain⟨a,n,c,a0,n0,c0,xs,h1,h2,h3,h4,_⟩:=B1 hq hd hr
    exact⟨a,n,c,xs,h1,h2,h4,h3⟩
   ·cases h
  ·cases h
def As.say(σ:As)(id:Nat)(n:Int)(v:Value):As:= { σ with h:=fun i m=>if i=id∧m=n then some v else σ.h i m }
theorem As.say_self{id:Nat}{n:Int}{v:Value}:(σ.say id n v).h id n=some v:=by show(if id=id∧n=n then some v else _)=_;rw[if_pos ⟨rfl,rfl⟩]
theorem As.say_other{id i:Nat}{n m:Int}{v:Value}(h:¬(i=id∧m=n)):(σ.say id n v).h i m=σ.h i m:=by show(if i=id∧m=n then some v else _)=_;rw[if_neg h]
theorem I7{id:Nat}{n:Int}{v:Value}{i k:Nat}(h:(σ.say id n v).own i k):σ.own i k∨(i=id∧j9 v=some k):=by
 rcases h with h | ⟨m,u,h1,h2⟩
 ·exact .inl (.inl h)
 ·by_cases e:i=id∧m=n
  ·obtain⟨rfl,rfl⟩:=e
   rw[As.say_self] at h1
   simp only[Option.some.injEq] at h1
   subst h1
   exact .inr ⟨rfl,h2⟩
  ·rw[As.say_other e] at h1
   exact .inl (.inr ⟨m,u,h1,h2⟩)
theorem v8{id:Nat}{n:Int}{v:Value}{i:Nat}(h:(σ.say id n v).has i):σ.has i∨i=id:=by
 rcases h with h | ⟨m,u,h1⟩
 ·exact .inl (.inl h)
 ·by_cases e:i=id∧m=n
  ·exact .inr e.1
  ·rw[As.say_other e] at h1
   exact .inl (.inr ⟨m,u,h1⟩)
theorem B2{id:Nat}{t:TypeId}{ks:List CK}{x:X}{ver:E}{v v':Value}{W':World}{xs:List Value}(hlt:∀i a,σ.own i a→a<W.heap.size)(hnew:σ.h id (ver.ev ρ)=none)(hlast:∀u,ver.ev ρ<u→σ.h id u=none)
 (hinj:∀i j a,σ.own i a→σ.own j a→i=j) (hold:∀k,j9 v=some k→σ.own id k) (ha:AppRes W ρ.w.heap.size t ks.length v (x.ev ρ).length xs v' W') (hreps:∀(i:Nat) (row:List D),(x.ev ρ)[i]? = some row→CK.reps ρ.w ks ((xs.drop (i*ks.length)).take ks.length) row) (hbig:(x.ev ρ).length≤281474976710656):
 Step ρ σ W [(id,.own t ks x ver)] (σ.say id (ver.ev ρ) v') W':=by
 refine⟨⟨fun _ _ h=>h,fun i n u h=> ?_⟩,ha.os,ha.tape,ha.output,ha.size,fun k hk hne=>ha.block k hk (fun e=>hne id _ (by simp [Mem.get];rfl) (hold k e)),fun i hi _=> ?_,fun i a hi=> ?_,fun _ i j a hi hj=> ?_,fun i b hi=> ?_,ha.keep⟩
 ·by_cases e:i=id∧n=ver.ev ρ
  ·rw[e.1,e.2,hnew] at h;cases h
  ·rw[As.say_other e];exact h
 ·have hne:i≠id:=fun e=>by subst e;simp [Mem.get] at hi
  funext m
  exact As.say_other (fun e=>hne e.1)
 ·rcases I7 hi with h | ⟨rfl,h⟩
  ·exact .inl h
  ·rcases ha.room _ h with h | h
   ·exact .inl (hold _ h)
   ·exact .inr h
 ·have key:∀i,(σ.say id (ver.ev ρ) v').own i a→σ.own i a∨(i=id∧W.heap.size≤a):=by
   intro i hi
   rcases I7 hi with h | ⟨rfl,h⟩
   ·exact .inl h
   ·rcases ha.room _ h with h | h
    ·exact .inl (hold _ h)
    ·exact .inr ⟨rfl,h.1⟩
  rcases key i hi with h1 | ⟨h1,h2⟩<;>rcases key j hj with h3 | ⟨h3,h4⟩
  ·exact hinj i j a h1 h3
  ·have:=hlt _ _ h1;omega
  ·have:=hlt _ _ h3;omega
  ·omega
 ·simp only[Mem.get] at hi
  split at hi
  ·rename_i hii
   simp only[beq_iff_eq] at hii
   subst hii
   simp only[Option.some.injEq] at hi
   subst hi
   exact⟨v',xs,As.say_self,fun u hu=>by rw[As.say_other (by omega)];exact hlast u hu,ha.row,hreps,hbig⟩
  ·simp at hi
theorem OwnRow.first{W:World}{base:Nat}{e:TypeId}{size:Nat}{a:Option Addr}{n c m:Nat}{xs:List Value}(h:OwnRow W base e size (.slice a n c) n xs)(hm:m≤n):OwnRow W base e size (.slice a m c) m (xs.take (m*size)):=by
 have hle:m*size≤n*size:=Nat.mul_le_mul_right _ hm
 rcases h with ⟨h1,h2⟩ | ⟨h1,h2,b,h3⟩
 ·rcases h2 with ⟨h2,h3⟩ | ⟨g,cap,cur,h2,hb,hg,r1,r2,r3,r4⟩
  ·simp only[Value.slice.injEq] at h2
   obtain⟨rfl,rfl,rfl⟩:=h2
   obtain rfl:m=0:=by omega
   exact .inl ⟨by simp,.inl ⟨rfl,rfl⟩⟩
  ·simp only[Value.slice.injEq] at h2
   obtain⟨rfl,_,rfl⟩:=h2
   refine .inl ⟨by rw[List.length_take];omega,.inr ⟨g,c,cur,rfl,hb,hg,by omega,r2,r3,?_⟩⟩
   rw[←r4,List.take_take,Nat.min_eq_left hle]
 ·simp only[Value.slice.injEq] at h3
  obtain⟨rfl,rfl,rfl⟩:=h3
  obtain rfl:m=0:=by omega
  subst h2
  exact .inr ⟨rfl,by simp,a,rfl⟩
theorem b0g{s:S0}(h:a8r s=true){v:Value}(hd:s.den ρ σ v):∃a,v= .slice a 0 0:=by
 unfold a8r at h
 split at h
 ·exact⟨none,hd⟩
 ·rename_i ks x a b f
  simp only[Bool.and_eq_true,decide_eq_true_eq] at h
  obtain⟨rfl,h⟩:=h
  obtain⟨q,n,c,rfl,hs,hf⟩:=hd
  have hl:=hs.len
  have h0:(X.ev ρ (.sub x (.lit a) (.lit b))).length=0:=by simp only[X.ev,E.ev,k5];simp;omega
  obtain rfl:=hf rfl
  obtain rfl:c=0:=by omega
  exact⟨q,rfl⟩
 ·obtain⟨q,n,c,rfl,hs,hf⟩:=hd
  have hl:=hs.len
  obtain rfl:=hf h
  obtain rfl:c=0:=by rw[←hl];simp [X.ev]
  exact⟨q,rfl⟩
 ·obtain⟨q,_,rfl⟩:=hd
  exact⟨_,rfl⟩
 ·cases h
theorem b3F{s:S0}(h:b1w s=true){a:Option Addr}{n c:Nat}(hd:s.den ρ σ (.slice a n c)):c=n:=by
 unfold b1w at h
 split at h
 ·subst h
  obtain⟨q,m,d,e,hs,hf⟩:=hd
  simp only[Value.slice.injEq] at e
  obtain⟨_,rfl,rfl⟩:=e
  exact hf rfl
 ·have h:=i9 h
  subst h
  obtain⟨q,_,e⟩:=hd
  simp only[Value.slice.injEq] at e
  omega
 ·subst h
  obtain⟨_,_,_,_,_,_,_,_,_,e,_,_,hf,_⟩:=hd
  simp only[Value.slice.injEq] at e
  have:=hf rfl
  omega
 ·cases h
theorem T6{x:X}(h:(Y0 x).ok ρ):(x.ev ρ).length≤1000000:=by
 simp only[Y0,Ob.ok,B.cmpS_ev] at h
 have h:=of_decide_eq_true h
 simp only[E.ev,E.lenS_ev] at h
 omega
theorem X.over_ev(ρ:Env)(y z:X)(lo:E):(X.over y lo z).ev ρ=k5 (y.ev ρ) 0 (lo.ev ρ)++z.ev ρ++k5 (y.ev ρ) (lo.ev ρ+((z.ev ρ).length:Nat)) ((y.ev ρ).length:Nat):=by
 simp only[X.over,X.ev,E.ev,E.plusS_ev,E.lenS_ev]
theorem RowsAt.over{w:World}{ks:List CK}{xs zs:List Value}{r z:Rows}(h:RowsAt w ks xs r)(hz:RowsAt w ks zs z){lo:Int}(h0:0≤lo)(hle:lo.toNat+z.length≤r.length):
 RowsAt w ks (o0 xs (lo.toNat*ks.length) zs) (k5 r 0 lo++z++k5 r (lo+(z.length:Nat)) (r.length:Nat)):=by
 have h1:=h.sub (l:=0) (m:=lo) (by omega) (by simp)
 have h2:=h.sub (l:=lo+(z.length:Nat)) (m:=(r.length:Nat)) (by simp) (by omega)
 have e:=(h1.app hz).app h2
 have hl:=h.1
 have hzl:=hz.1
 have q1:(lo+(z.length:Nat)).toNat=lo.toNat+z.length:=by omega
 have q2:((r.length:Nat):Int).toNat=r.length:=by simp
 have q3:lo.toNat*ks.length+zs.length=(lo.toNat+z.length)*ks.length:=by rw[hzl,Nat.add_mul]
 have e0:o0 xs (lo.toNat*ks.length) zs=(xs.drop ((0:Int).toNat*ks.length)).take ((lo.toNat-(0:Int).toNat)*ks.length)++zs++(xs.drop ((lo+(z.length:Nat)).toNat*ks.length)).take ((((r.length:Nat):Int).toNat-(lo+(z.length:Nat)).toNat)*ks.length):=by
  unfold o0
  rw[q3,q1,q2]
  congr 1
  ·simp
  ·rw[List.take_of_length_le]
   rw[List.length_drop,hl,Nat.sub_mul]
   omega
 rw[e0]
 exact e
theorem a6r{w:World}{ks:List CK}{z:Array Value}{row:List D}(h:CK.reps w ks z.toList row)(n:Nat):RowsAt w ks ((Array.range (n*z.size)).map (fun i=>z[i % z.size]!)).toList (List.replicate n row):=by
 have hk:=(w9 h).1
 have hk:z.size=ks.length:=by simpa using hk
 refine⟨by simp [hk],fun i r hi=> ?_⟩
 rw[List.getElem?_replicate] at hi
 split at hi
 ·rename_i hn
  simp only[Option.some.injEq] at hi
  subst hi
  have e:((((Array.range (n*z.size)).map (fun i=>z[i % z.size]!)).toList.drop (i*ks.length)).take ks.length)=z.toList:=by
   have hm:i*ks.length+ks.length≤n*ks.length:=by rw[←Nat.succ_mul];exact Nat.mul_le_mul_right _ hn
   refine List.ext_getElem? (fun j=> ?_)
   rcases Nat.lt_or_ge j ks.length with q | q
   ·rw[List.getElem?_take_of_lt q,List.getElem?_drop,Array.getElem?_toList,Array.getElem?_map,Array.getElem?_range,if_pos (by rw[hk];omega),Option.map_some,Array.getElem?_toList]
    have hj:(i*ks.length+j) % z.size=j:=by rw[hk,Nat.add_comm,Nat.add_mul_mod_self_right];exact Nat.mod_eq_of_lt q
    rw[hj,Array.getElem?_eq_getElem (by omega)]
    simp [getElem!_def,Array.getElem?_eq_getElem (show j<z.size by omega)]
   ·rw[List.getElem?_eq_none (by rw[List.length_take];omega),Array.getElem?_toList,Array.getElem?_eq_none (by omega)]
  rw[e]
  exact h
 ·cases hi
include σ in
theorem a4J{e:TypeId}{ks:List CK}{a:AL}(h:a6T P e ks=some a):∃i z,P.info? e=some i∧i.zero=some z∧CK.reps ρ.w ks z.cells.toList (a.ev ρ):=by
 unfold a6T at h
 split at h
 ·rename_i i hi
  rw[Option.bind_eq_some_iff] at h
  obtain⟨z,hz,h⟩:=h
  split at h
  ·rename_i hs
   exact⟨i,z,hi,hz,F7 (σ:=σ) (y4 (W:=ρ.w) (Below.refl _ _)) ks _ a h _ (J2 hs (a4T z))⟩
  ·cases h
 ·cases h
theorem a4C{v:Value}(h:v.oneCell'=true):G9 v=true:=by
 cases v<;>first | rfl | (exact absurd h (by decide)) | (simp [Value.oneCell'] at h)
theorem a1W{id:Nat}{t:TypeId}{K:List CK}{y x':X}{ver:E}(hm:mem.get id=some (.own t K y ver))(hr:RelM ρ σ mem W)(hx:x'.ev ρ=y.ev ρ):Step ρ σ W [(id,.own t K x' ver)] σ W:=by
 obtain⟨v,xs,hO⟩:=hr.blk _ _ hm
 refine⟨Ext.refl _,rfl,rfl,rfl,Nat.le_refl _,fun _ _ _=>rfl,fun _ _ _=>rfl,fun i a hi=> .inl hi,fun e=>e,fun i b hi=> ?_,Keep.refl _⟩
 simp only[Mem.get] at hi
 split at hi
 ·rename_i hii
  simp only[beq_iff_eq] at hii
  subst hii
  simp only[Option.some.injEq] at hi
  subst hi
  exact⟨v,xs,hO.now,hO.last,by rw[hx];exact hO.row,by rw[hx];exact hO.reps,by rw[hx];exact hO.big⟩
 ·simp at hi
theorem a1p{id:Nat}{t:TypeId}{K:List CK}{y x':X}{ver:E}{a:Option Addr}{n c:Nat}(hm:mem.get id=some (.own t K y ver))(hr:RelM ρ σ mem W)(hs:σ.h id (ver.ev ρ)=some (.slice a n c)){lo:Int}{zs:List Value}{z:Rows}(hz:RowsAt ρ.w K zs z)
 (hl0:0≤lo) (hle:lo.toNat+z.length≤n) (hpos:0<z.length) (hx:x'.ev ρ=k5 (y.ev ρ) 0 lo++z++k5 (y.ev ρ) (lo+(z.length:Nat)) ((y.ev ρ).length:Nat)):
 ∃g,a=some ⟨g,0,none⟩∧∃W',(storeCells ⟨g,lo.toNat*K.length,none⟩ zs).run P W= .ok () W'∧Step ρ σ W [(id,.own t K x' ver)] σ W':=by
 obtain⟨v,xs,hO⟩:=hr.blk _ _ hm
 have hvv:=hO.now
 rw[hs] at hvv
 simp only[Option.some.injEq] at hvv
 subst hvv
 obtain⟨q,rfl⟩:∃q,a=some q:=by
  cases a with
  | some q=>exact⟨q,rfl⟩
  | none=>
    rcases hO.row with ⟨_,h2⟩ | ⟨h2,_,b,h3⟩
    ·rcases h2 with ⟨h2,_⟩ | ⟨g,cap,cur,h2,_⟩
     ·simp only[Value.slice.injEq] at h2;omega
     ·simp at h2
    ·simp only[Value.slice.injEq] at h3;omega
 obtain⟨hn,g,rfl,cur,hg,hcap,hsz,htk⟩:=hO.cells (by omega)
 have hzl:=hz.1
 have hoK:lo.toNat*K.length+zs.length≤n*K.length:=by rw[hzl,←Nat.add_mul];exact Nat.mul_le_mul_right _ hle
 have hcn:n*K.length≤c*K.length:=Nat.mul_le_mul_right _ hcap
 have hcs:cur.toList.length=c*K.length:=by rw[←hsz];simp
 have hg':W.heap[g]? = some (.cells cur.toList.toArray t (0,0)):=by rw[Array.toArray_toList];exact hg
 obtain⟨W',e1,e2,e3,e4,e5,e6,e7⟩:=z5 (P:=P) zs 0 W cur.toList (lo.toNat*K.length) (fun u hu=>a4C (hz.all_one u hu)) hg' (by omega)
 refine⟨g,rfl,W',e1,?_⟩
 have hroom:j9 (.slice (some ⟨g,0,none⟩) n c)=some g:=by
  cases c with
  | zero=>omega
  | succ c=>rfl
 have hxl:xs.length=n*K.length:=by rw[←htk,List.length_take];omega
 have htake:(o0 cur.toList (lo.toNat*K.length) zs).take (n*K.length)=o0 xs (lo.toNat*K.length) zs:=by
  refine List.ext_getElem? (fun j=> ?_)
  rw[t6 (by omega)]
  rcases Nat.lt_or_ge j (n*K.length) with e | e
  ·rw[List.getElem?_take_of_lt e,t6 (by omega)]
   split
   ·rfl
   ·rw[←htk,List.getElem?_take_of_lt e]
  ·rw[List.getElem?_eq_none (by rw[List.length_take];omega),if_neg (by omega),List.getElem?_eq_none (by omega)]
 have hover:=hO.rows.over hz hl0 (by omega)
 rw[←hx] at hover
 have hul:(x'.ev ρ).length=n:=by
  have:=hover.1
  rw[hx]
  simp only[k5,List.length_append,List.length_take,List.length_drop,Int.toNat_zero]
  omega
 refine⟨Ext.refl _,e3,e4,e5,by omega,fun k hk hne=>e7 k (fun e=> ?_),fun _ _ _=>rfl,fun i a hi=> .inl hi,fun e=>e,fun i' b' hi'=> ?_,fun k L hk=> ?_⟩
 ·subst e
  exact hne id (.own t K x' ver) (by simp [Mem.get]) (.inr ⟨_,_,hs,hroom⟩)
 ·simp only[Mem.get] at hi'
  split at hi'
  ·rename_i hii
   simp only[beq_iff_eq] at hii
   subst hii
   simp only[Option.some.injEq] at hi'
   subst hi'
   refine⟨_,o0 xs (lo.toNat*K.length) zs,hs,hO.last,.inl ⟨?_,.inr ⟨g,c,(o0 cur.toList (lo.toNat*K.length) zs).toArray,?_,hr.above _ _ (.inr ⟨_,_,hs,hroom⟩),?_,?_,?_,?_,?_⟩⟩,hover.2,?_⟩
   ·rw[t0 (by omega),hul];exact hxl
   ·rw[hul]
   ·rw[e2]
    simp only[Nat.add_zero]
    rfl
   ·rw[hul];exact hcap
   ·rcases hO.row with ⟨_,r2⟩ | ⟨r1,_,_⟩
    ·rcases r2 with ⟨r2,_⟩ | ⟨g2,cap2,cur2,r2,_,_,_,r3,_⟩
     ·simp at r2
     ·simp only[Value.slice.injEq] at r2
      omega
    ·omega
   ·simp only[List.size_toArray]
    rw[t0 (by omega),hcs]
   ·simp only[]
    rw[hul]
    exact htake
   ·rw[hul,hn];exact hO.big
  ·simp at hi'
 ·have hky:k≠g:=fun e=>by subst e;rw[hg] at hk;cases hk
  exact⟨L,by rw[e7 k hky];exact hk,rfl,rfl,rfl,rfl⟩
theorem a7T{r:Rows}{lo:Int}:k5 r 0 lo++k5 r lo (r.length:Nat)=r:=by
 simp only[k5,Int.toNat_zero,List.drop_zero,Nat.sub_zero,Int.toNat_natCast]
 rw[List.take_of_length_le (l:=List.drop _ _) (by rw[List.length_drop];exact Nat.le_refl _),List.take_append_drop]
theorem b1K{mem:Mem}{e:TypeId}{ks:List CK}{s:S0}{p:Nat×E}(h:a3t mem e ks s=some p):∃x,mem.get p.1=some (.own e ks x p.2):=by
 unfold a3t at h
 split at h
 ·split at h
  ·split at h
   ·rename_i hm
    split at h
    ·rename_i hc
     simp only[Bool.and_eq_true] at hc
     obtain⟨⟨⟨⟨c1,c2⟩,c3⟩,_⟩,_⟩:=hc
     simp only[Option.some.injEq] at h
     subst h
     obtain rfl:=i9 c1
     obtain rfl:=CK.sameL_eq _ _ c2
     obtain rfl:=E.same_eq _ _ c3
     exact⟨_,hm⟩
    ·cases h
   ·cases h
  ·cases h
 ·cases h
theorem a6Q{nx:Nat}{t ty e:TypeId}{s x:S0}{r:V×Mem×Nat}(hu:P.underlying t=some (.slice e))(h:(a0h P mem nx e s x).res ρ r){v u:Value}(ds:s.den ρ σ v)(dx:x.den ρ σ u)(hr:RelM ρ σ mem W)(ht:Fr nx r.2.2 σ):
 ∃v' W' σ',(Builtin.append_ #[t,t] ty #[v,u]).run P W= .ok v' W'∧r.1.den ρ σ' v'∧Step ρ σ W r.2.1 σ' W'∧New nx r.2.2 σ σ':=by
 have hbase:ρ.w.heap.size≤W.heap.size:=hr.base.size
 unfold a0h at h
 split at h
 ·rename_i i ks hi hks
  split at h
  ·rename_i z hz
   split at h
   ·rename_i hc
    simp only[Bool.and_eq_true] at hc
    obtain⟨⟨⟨hzs,hsz⟩,hpos⟩,hby⟩:=hc
    have hzs:=i9 hzs
    have hsz:=i9 hsz
    have hby:=Nat.le_of_ble_eq_true hby
    have hpos:=o7 hpos
    split at h
    ·rename_i y hy
     obtain⟨a',m,c',news,rfl,hsrc,hmb,_⟩:=Z4 hy dx hr
     have hbytes:∀n,n≤1000000→n*i.bytes≤140737488355328:=fun n hn=>Nat.le_trans (Nat.mul_le_mul_right _ hn) hby
     have hmax:∀n,n≤1000000→n≤maxLen:=fun n hn=>by simp only[maxLen];omega
     have old:∀(id:Nat) (ver:E) (x0:X) (y0:X) (a:Option Addr) (n c:Nat) (xs:List Value),mem.get id=some (.own e ks y0 ver)→v= .slice a n c→OwnRow W ρ.w.heap.size e ks.length v (x0.ev ρ).length xs→n=(x0.ev ρ).length→RowsAt ρ.w ks xs (x0.ev ρ)→(∀k,j9 v=some k→σ.own id k)→
      (T.obs [Y0 (.appS x0 y)] (.ret (.s0 (.own id (.plusS ver (.lit 1))),[(id,.own e ks (.appS x0 y) (.plusS ver (.lit 1)))],nx))).res ρ r→∃v' W' σ',(Builtin.append_ #[t,t] ty #[v,.slice a' m c']).run P W= .ok v' W'∧r.1.den ρ σ' v'∧Step ρ σ W r.2.1 σ' W'∧New nx r.2.2 σ σ':=by
      intro id ver x0 y0 a n c xs hm hv hrow hn hrows hown h
      obtain⟨ho,h⟩:=T.res_obs h
      obtain rfl:=g9 h
      have hlen:=T6 (ho _ (List.mem_singleton.2 rfl))
      rw[X.appS_ev,List.length_append] at hlen
      obtain⟨ov,oxs,hO⟩:=hr.blk _ _ hm
      have hml:=hsrc.len
      obtain⟨v',W',hrun,happ⟩:=N8 (P:=P) W (ty:=ty) hu hi hz hsz hzs (hn▸hrow) ⟨a,c,hv⟩ (a:=a') (m:=m) (c:=c') (news:=news) (by rw[hsrc.rows.1,←hml]) hsrc.there hsrc.cell hsrc.rows.all_one (hmax _ (by omega)) (hbytes _ (by omega)) hbase
      have hver:(E.plusS ver (.lit 1)).ev ρ=ver.ev ρ+1:=by rw[E.plusS_ev];rfl
      obtain⟨b,c2,hb⟩:=happ.sl
      have hall:=RowsAt.app hrows hsrc.rows
      have hstep:=B2 (σ:=σ) (id:=id) (ks:=ks) (x:= .appS x0 y) (ver:= .plusS ver (.lit 1)) (v:=v) (xs:=xs++news) (fun i a hi=>hr.lt i a hi) (by rw[hver];exact hO.last _ (by omega)) (fun u hu=>hO.last u (by rw[hver] at hu;omega)) hr.inj hown
       (by rw[X.appS_ev,List.length_append,←hn,←hml];exact happ) (by rw[X.appS_ev];exact hall.2) (by rw[X.appS_ev,List.length_append];omega)
      refine⟨v',W',_,hrun,⟨⟨b,_,c2,hb⟩,As.say_self⟩,hstep,fun i hi=> ?_⟩
      rcases v8 hi with h | h
      ·exact .inl h
      ·exact .inl (.inr ⟨_,_,by rw[h];exact hO.now⟩)
     have new:∀(x0:X) (v':Value) (W':World) (xs:List Value),(Builtin.append_ #[t,t] ty #[v,.slice a' m c']).run P W= .ok v' W'→AppRes W ρ.w.heap.size e ks.length (.slice none 0 0) (x0.ev ρ).length xs v' W'→RowsAt ρ.w ks xs (x0.ev ρ)→(x0.ev ρ).length≤1000000→
      r=(.s0 (.own nx (.lit 0)),[(nx,.own e ks x0 (.lit 0))],nx+1)→∃v' W' σ',(Builtin.append_ #[t,t] ty #[v,.slice a' m c']).run P W= .ok v' W'∧r.1.den ρ σ' v'∧Step ρ σ W r.2.1 σ' W'∧New nx r.2.2 σ σ':=by
      intro x0 v' W' xs hrun happ hrows hbig hrr
      subst hrr
      have hnx:=ht nx (Nat.le_refl _) (Nat.lt_succ_self _)
      have hnone:∀k,σ.h nx k=none:=fun k=>by
       cases hk:σ.h nx k with
       | none=>rfl
       | some y=>exact absurd (.inr ⟨k,y,hk⟩) hnx
      obtain⟨b,c2,hb⟩:=happ.sl
      have hstep:=B2 (σ:=σ) (id:=nx) (ks:=ks) (x:=x0) (ver:= .lit 0) (v:= .slice none 0 0) (xs:=xs) (fun i a hi=>hr.lt i a hi) (hnone _) (fun u _=>hnone u) hr.inj (fun k hk=>by cases hk) happ hrows.2 (by omega)
      refine⟨v',W',_,hrun,⟨⟨b,_,c2,hb⟩,As.say_self⟩,hstep,fun i hi=> ?_⟩
      rcases v8 hi with h | h
      ·exact .inl h
      ·exact .inr ⟨by omega,by show i<nx+1;omega⟩
     have again:∀(id:Nat) (ver:E) (y0 x0:X) (v':Value) (W':World) (xs:List Value),mem.get id=some (.own e ks y0 ver)→(Builtin.append_ #[t,t] ty #[v,.slice a' m c']).run P W= .ok v' W'→AppRes W ρ.w.heap.size e ks.length (.slice none 0 0) (x0.ev ρ).length xs v' W'→RowsAt ρ.w ks xs (x0.ev ρ)→(x0.ev ρ).length≤1000000→
      r=(.s0 (.own id (.plusS ver (.lit 1))),[(id,.own e ks x0 (.plusS ver (.lit 1)))],nx)→∃v' W' σ',(Builtin.append_ #[t,t] ty #[v,.slice a' m c']).run P W= .ok v' W'∧r.1.den ρ σ' v'∧Step ρ σ W r.2.1 σ' W'∧New nx r.2.2 σ σ':=by
      intro id ver y0 x0 v' W' xs hm hrun happ hrows hbig hrr
      subst hrr
      obtain⟨ov,oxs,hO⟩:=hr.blk _ _ hm
      have hver:(E.plusS ver (.lit 1)).ev ρ=ver.ev ρ+1:=by rw[E.plusS_ev];rfl
      obtain⟨b,c2,hb⟩:=happ.sl
      have hstep:=B2 (ρ:=ρ) (σ:=σ) (id:=id) (ks:=ks) (x:=x0) (ver:= .plusS ver (.lit 1)) (v:= .slice none 0 0) (xs:=xs) (fun i a hi=>hr.lt i a hi) (by rw[hver];exact hO.last _ (by omega)) (fun u hu=>hO.last u (by rw[hver] at hu;omega)) hr.inj (fun k hk=>by cases hk) happ hrows.2 (by omega)
      refine⟨v',W',_,hrun,⟨⟨b,_,c2,hb⟩,As.say_self⟩,hstep,fun i hi=> ?_⟩
      rcases v8 hi with h | h
      ·exact .inl h
      ·exact .inl (.inr ⟨_,_,by rw[h];exact hO.now⟩)
     split at h
     ·rename_i id ver
      split at h
      ·rename_i q hq
       split at h
       ·rename_i hk
        simp only[Bool.and_eq_true] at hk
        obtain⟨hk1,hk2⟩:=hk
        have hk1:=i9 hk1
        have hk2:=CK.sameL_eq _ _ hk2
        unfold C0 at hq
        simp only at hq
        split at hq
        ·rename_i t' ks' x' v2 hm
         split at hq
         ·rename_i hv
          simp only[Option.some.injEq] at hq
          subst hq
          simp only at hk1 hk2 h
          subst hk1 hk2
          obtain rfl:=E.same_eq _ _ hv
          obtain⟨⟨a,n,c,rfl⟩,hd⟩:=ds
          obtain⟨ov,oxs,hO⟩:=hr.blk _ _ hm
          have hvv:=hO.now
          rw[hd] at hvv
          simp only[Option.some.injEq] at hvv
          subst hvv
          have hn:n=(x'.ev ρ).length:=by
           rcases hO.row with ⟨_,h2⟩ | ⟨h2,_,b,h3⟩
           ·rcases h2 with ⟨h2,h3⟩ | ⟨g,cap,cur,h2,_⟩
            ·simp only[Value.slice.injEq] at h2;omega
            ·simp only[Value.slice.injEq] at h2
             exact h2.2.1
           ·simp only[Value.slice.injEq] at h3;omega
          exact old id ver x' x' a n c oxs hm rfl hO.row hn hO.rows (fun k hk=> .inr ⟨_,_,hd,hk⟩) h
         ·simp at hq
        ·simp at hq
       ·exact h.elim
      ·exact h.elim
     ·rename_i id ver k lo hie
      split at h
      ·rename_i q hq
       split at h
       ·rename_i hk
        simp only[Bool.and_eq_true] at hk
        obtain⟨⟨hk1,hk2⟩,hk3⟩:=hk
        have hk1:=i9 hk1
        have hk2:=CK.sameL_eq _ _ hk2
        obtain rfl:=E.same_eq _ _ hk3
        unfold C0 at hq
        simp only at hq
        split at hq
        ·rename_i t' ks' x' v2 hm
         split at hq
         ·rename_i hv
          simp only[Bool.and_eq_true] at hv
          obtain⟨hv,hkk⟩:=hv
          simp only[Option.some.injEq] at hq
          subst hq
          simp only at hk1 hk2 h
          subst hk1 hk2
          obtain rfl:=E.same_eq _ _ hv
          obtain rfl:=i9 hkk
          obtain⟨a0,n0,c0,b,c2,hd,l1,l2,l3,rfl,l4,l5,l6,l7⟩:=ds
          obtain⟨rfl,rfl⟩:=l7 rfl rfl
          obtain⟨ov,oxs,hO⟩:=hr.blk _ _ hm
          have hvv:=hO.now
          rw[hd] at hvv
          simp only[Option.some.injEq] at hvv
          subst hvv
          have hn:n0=(x'.ev ρ).length:=by
           rcases hO.row with ⟨_,h2⟩ | ⟨h2,_,b,h3⟩
           ·rcases h2 with ⟨h2,h3⟩ | ⟨g,cap,cur,h2,_⟩
            ·simp only[Value.slice.injEq] at h2;omega
            ·simp only[Value.slice.injEq] at h2
             exact h2.2.1
           ·simp only[Value.slice.injEq] at h3;omega
          have e0:E.ev ρ (.lit 0)=0:=by simp [E.ev]
          rw[e0] at l2 l4 l5 ⊢
          simp only[Int.toNat_zero,Nat.sub_zero] at l4 ⊢
          rw[hm] at h
          simp only at h
          rcases T.res_iteS h with ⟨hb,h⟩ | ⟨_,h⟩
          ·obtain rfl:=g9 h
           rw[B.cmpS_ev] at hb
           have hb:=of_decide_eq_true hb
           simp only[E.plusS_ev,E.lenS_ev] at hb
           have hml:=hsrc.len
           have hover:=X.over_ev ρ x' y hie
           have hrowf:n0≤c2∧(0<n0→∃q,b=some q):=by
            rcases hO.row with ⟨_,h2⟩ | ⟨h2,_,b',h3⟩
            ·rcases h2 with ⟨h2,h3⟩ | ⟨g,cap,cur,h2,_,_,r1,_⟩
             ·simp only[Value.slice.injEq] at h2;exact⟨by omega,by omega⟩
             ·simp only[Value.slice.injEq] at h2
              obtain⟨rfl,rfl,rfl⟩:=h2
              exact⟨r1,fun _=>⟨_,rfl⟩⟩
            ·simp only[Value.slice.injEq] at h3;exact⟨by omega,by omega⟩
           have hden:∀(u:Value),u= .slice b ((hie.ev ρ).toNat+m) c2→(V.s0 (.ovw id ver ks.length (.lit 0) (.plusS hie (.lenS y)) false)).den ρ σ u:=fun u hu=>by
            have e1:(E.plusS hie (.lenS y)).ev ρ=hie.ev ρ+(m:Int):=by rw[E.plusS_ev,E.lenS_ev,hml]
            refine⟨b,n0,c2,b,c2,hd,by rw[e0];omega,by rw[e0,e1];omega,by rw[e1];omega,?_,?_,?_,(fun h=>by cases h),fun _ _=>⟨rfl,rfl⟩⟩
            ·rw[hu,e0,e1]
             congr 1
             omega
            ·rw[e0,e1];omega
            ·intro hpos0
             rw[e0,e1] at hpos0
             obtain⟨q,rfl⟩:=hrowf.2 (by omega)
             exact⟨q,rfl,by rw[e0];simp [Addr.add]⟩
           have hf:(Builtin.firstCells i.size m (.slice a' m c')).run P W= .ok news.toArray W:=by
            cases a' with
            | none=>
              have hk0:m=0:=by
               rcases Nat.eq_zero_or_pos m with q | q
               ·exact q
               ·have:=hsrc.there q;cases this
              subst hk0
              have hnil:news=[]:=List.eq_nil_of_length_eq_zero (by rw[hsrc.rows.1,←hml,Nat.zero_mul])
              rw[hnil,run_firstCells_none]
            | some q=>exact run_firstCells_some (P:=P) W i.size m q m c' news (by rw[hsz,hsrc.rows.1,←hml]) (hsrc.cell q rfl)
           have hroom:(hie.ev ρ).toNat+m≤c2:=by omega
           rcases Nat.eq_zero_or_pos m with h0 | h0
           ·subst h0
            have hnil:news=[]:=List.eq_nil_of_length_eq_zero (by rw[hsrc.rows.1,←hml,Nat.zero_mul])
            rw[hnil] at hf
            refine⟨.slice b ((hie.ev ρ).toNat+0) c2,W,σ,?_,hden _ rfl,a1W hm hr ?_,fun i hi=> .inl hi⟩
            ·cases b<;>simp [Builtin.append_,run_underlying hu,sizeOf,typeInfo,hi,Builtin.lenOf,l4,hf,storeCells]
            ·have hy0:y.ev ρ=[]:=List.eq_nil_of_length_eq_zero hml.symm
             rw[hover,hy0,List.append_nil,List.length_nil,show hie.ev ρ+((0:Nat):Int)=hie.ev ρ by omega,a7T]
           ·obtain⟨g,hg,W',r1,r2⟩:=a1p (P:=P) (x':= .over x' hie y) hm hr hd hsrc.rows l2 (by omega) (by omega) hover
            subst hg
            refine⟨.slice (some ⟨g,0,none⟩) ((hie.ev ρ).toNat+m) c2,W',σ,?_,hden _ rfl,r2,fun i hi=> .inl hi⟩
            rw[←hsz] at r1
            simp [Builtin.append_,run_underlying hu,sizeOf,typeInfo,hi,Builtin.lenOf,hroom,hf,Addr.add_lit,r1]
          have hsub:=hO.rows.sub (l:=0) (m:=hie.ev ρ) (by omega) (by omega)
          simp only[Int.toNat_zero,Nat.zero_mul,List.drop_zero,Nat.sub_zero] at hsub
          have hsl:(k5 (x'.ev ρ) 0 (hie.ev ρ)).length=(hie.ev ρ).toNat:=by simp [k5];omega
          have hx:X.ev ρ (.sub x' (.lit 0) hie)=k5 (x'.ev ρ) 0 (hie.ev ρ):=by simp only[X.ev,e0]
          have hrow:=hO.row
          rw[←hn] at hrow
          have hfirst:=hrow.first (m:=(hie.ev ρ).toNat) (by omega)
          exact old id ver (.sub x' (.lit 0) hie) x' b _ c2 _ hm rfl (by rw[hx,hsl];exact hfirst) (by rw[hx,hsl,e0];simp) (by rw[hx];exact hsub) (fun k hk=> .inr ⟨_,_,hd,by unfold j9 at hk ⊢;cases b<;>cases c2<;>first | exact hk | cases hk⟩) h
         ·simp at hq
        ·simp at hq
       ·exact h.elim
      ·exact h.elim
     ·split at h
      ·rename_i hno
       obtain⟨a,rfl⟩:=b0g hno ds
       obtain⟨ho,h⟩:=T.res_obs h
       have hrr:=g9 h
       have hlen:=T6 (ho _ (List.mem_singleton.2 rfl))
       have hml:=hsrc.len
       obtain⟨v',W',hrun,happ⟩:=N8 (P:=P) W (ty:=ty) (base:=ρ.w.heap.size) hu hi hz hsz hzs (v:= .slice a 0 0) (n:=0) (xs:=[]) (.inr ⟨rfl,rfl,a,rfl⟩) ⟨a,0,rfl⟩ (a:=a') (m:=m) (c:=c') (news:=news) (by rw[hsrc.rows.1,←hml]) hsrc.there hsrc.cell hsrc.rows.all_one (hmax _ (by omega)) (hbytes _ (by omega)) hbase
       refine new y v' W' news hrun ?_ hsrc.rows hlen hrr
       rw[Nat.zero_add,List.nil_append,hml] at happ
       refine⟨happ.row,happ.os,happ.tape,happ.output,happ.size,fun k hk _=>happ.block k hk (by cases a<;>simp [j9]),fun k hk=> ?_,happ.keep,happ.sl⟩
       rcases happ.room k hk with q | q
       ·cases a<;>simp [j9] at q
       ·exact .inr q
      ·split at h
       ·rename_i hfull
        split at h
        ·rename_i x0 hx0
         obtain⟨a,n,c,xs,rfl,hdst,hnb,_⟩:=Z4 hx0 ds hr
         obtain rfl:=b3F hfull ds
         have hml:=hsrc.len
         have hnl:=hdst.len
         rcases T.res_iteS h with ⟨hb,h⟩ | ⟨hb,h⟩
         ·rw[B.cmpS_ev] at hb
          have hb:=of_decide_eq_true hb
          rw[E.lenS_ev] at hb
          simp only[E.ev] at hb
          obtain⟨ho,h⟩:=T.res_obs h
          have hlen:=T6 (ho _ (List.mem_singleton.2 rfl))
          rw[X.appS_ev,List.length_append] at hlen
          have hall:=RowsAt.app hdst.rows hsrc.rows
          obtain⟨ad,rfl⟩:=Option.isSome_iff_exists.1 (hsrc.there (by omega))
          have hl:news.length=m*i.size:=by rw[hsrc.rows.1,←hml,hsz]
          have hres:AppRes W ρ.w.heap.size e ks.length (.slice none 0 0) (c+m) (xs++news) (.slice (some ⟨W.heap.size,0,none⟩) (c+m) (grownCap W (c+m) c e)) (W.drew.alloc (.cells ((xs++news).toArray++Builtin.zeroCells z.cells (grownCap W (c+m) c e-(c+m))) e)):=
           AppRes.grown hbase (by rw[hall.1,List.length_append,←hnl,←hml]) (grownCap_ge W (c+m) c e) (grownCap_le_maxLen W (c+m) c e (hmax _ (by omega))) hzs
          have hrun:(Builtin.append_ #[t,t] ty #[.slice a c c,.slice (some ad) m c']).run P W= .ok (.slice (some ⟨W.heap.size,0,none⟩) (c+m) (grownCap W (c+m) c e)) (W.drew.alloc (.cells ((xs++news).toArray++Builtin.zeroCells z.cells (grownCap W (c+m) c e-(c+m))) e)):=by
           have hb':(c+m)*i.bytes≤140737488355328:=hbytes _ (by omega)
           cases a with
           | none=>
             obtain rfl:c=0:=by
              rcases Nat.eq_zero_or_pos c with q | q
              ·exact q
              ·have:=hdst.there q;simp at this
             obtain rfl:xs=[]:=List.eq_nil_of_length_eq_zero (by rw[hdst.rows.1,←hnl];simp)
             have hr1:=run_append_nil (P:=P) W t ty e i z hu hi hz ad m c' news hl (hsrc.cell ad rfl) (by omega) (by omega) (by simp only[Nat.zero_add] at hb';omega)
             simp only[Nat.zero_add,List.nil_append]
             exact hr1
           | some b=>
             have hr1:=run_append_grow (P:=P) W t ty e i z hu hi hz b c c xs (by rw[hdst.rows.1,←hnl,hsz]) (hdst.cell b rfl) ad m c' news hl (hsrc.cell ad rfl) (by omega) (by omega) (growslice_fits (by omega) hb')
             simp only[List.append_toArray] at hr1
             exact hr1
          split at h
          ·rename_i p hp
           obtain⟨y0,hm0⟩:=b1K hp
           refine again p.1 p.2 y0 (.appS x0 y) _ _ (xs++news) hm0 hrun ?_ (by rw[X.appS_ev];exact hall) (by rw[X.appS_ev,List.length_append];exact hlen) (g9 h)
           rw[X.appS_ev,List.length_append,←hnl,←hml]
           exact hres
          ·refine new (.appS x0 y) _ _ (xs++news) hrun ?_ (by rw[X.appS_ev];exact hall) (by rw[X.appS_ev,List.length_append];exact hlen) (g9 h)
           rw[X.appS_ev,List.length_append,←hnl,←hml]
           exact hres
         ·rw[B.cmpS_ev] at hb
          have hb:=of_decide_eq_false hb
          rw[E.lenS_ev] at hb
          simp only[E.ev] at hb
          obtain rfl:=g9 h
          obtain rfl:m=0:=by omega
          refine⟨.slice a c c,W,σ,?_,ds,Step.refl _ _ _,fun i hi=> .inl hi⟩
          cases a' with
          | none=>exact X5 W hu hi a c c c' (Nat.le_refl _)
          | some ad=>exact W8 W hu hi a c c c' ad (Nat.le_refl _)
        ·exact h.elim
       ·exact h.elim
    ·exact h.elim
   ·exact h.elim
  ·exact h.elim
 ·exact h.elim
theorem a9t{nx:Nat}{t ty:TypeId}{s:S0}{tr:T (V×Mem×Nat)}{r:V×Mem×Nat}(h:a3K P mem nx t s=some tr)(hres:tr.res ρ r){v:Value}(hd:s.den ρ σ v)(hr:RelM ρ σ mem W):
 ∃v' W',(Builtin.clear_ #[t] ty #[v]).run P W= .ok v' W'∧r.1.den ρ σ v'∧Step ρ σ W r.2.1 σ W'∧r.2.2=nx:=by
 unfold a3K at h
 split at h
 ·rename_i e hu
  split at h
  ·simp only[Option.some.injEq] at h
   subst h
   obtain rfl:=g9 hres
   obtain rfl:v= .slice none 0 0:=hd
   exact⟨.tuple #[],W,by simp [Builtin.clear_,run_underlying hu],trivial,Step.refl _ _ _,rfl⟩
  ·split at h
   ·rename_i q hq
    split at h
    ·rename_i hc
     simp only[Bool.and_eq_true] at hc
     have hqe:=i9 hc.1
     split at h
     ·rename_i t' ks' y v0 a hm ha
      simp only[Option.some.injEq] at h
      subst h
      obtain rfl:=g9 hres
      obtain⟨ad,n,c,a0,n0,c0,xs,rfl,hnow,hnc,_,hhist,hlo,hlon,hadr,_,y',hm'⟩:=B1 hq hd hr
      rw[hm] at hm'
      simp only[Option.some.injEq,Blk.own.injEq] at hm'
      obtain⟨rfl,rfl,rfl,rfl⟩:=hm'
      have hm2:=hm
      obtain⟨i,z,hi,hz,hza⟩:=a4J (ρ:=ρ) (σ:=σ) ha
      have hzl:z.cells.size=q.ks.length:=by have:=(w9 hza).1;simpa using this
      have hzr:=a6r hza n
      have hev:(X.rep (.lenS q.x) a).ev ρ=List.replicate n (a.ev ρ):=by simp only[X.ev,E.lenS_ev,←hnow.len,Int.toNat_natCast]
      have hover:=X.over_ev ρ y (.rep (.lenS q.x) a) q.lo
      rw[hev] at hover
      rcases Nat.eq_zero_or_pos n with h0 | h0
      ·subst h0
       refine⟨.tuple #[],W,by cases ad<;>simp [Builtin.clear_,run_underlying hu],trivial,a1W hm2 hr ?_,rfl⟩
       rw[hover]
       obtain⟨_,xs0,hO⟩:=hr.blk _ _ hm2
       have hvv:=hO.now
       rw[hhist] at hvv
       simp only[Option.some.injEq] at hvv
       have hlen:n0=(y.ev ρ).length:=by
        rw[←hvv] at hO
        rcases hO.row with ⟨_,h2⟩ | ⟨h2,_,b,h3⟩
        ·rcases h2 with ⟨h2,h3⟩ | ⟨g,cap,cur,h2,_,_,r1,_⟩
         ·simp only[Value.slice.injEq] at h2;omega
         ·simp only[Value.slice.injEq] at h2;omega
        ·simp only[Value.slice.injEq] at h3;omega
       simp only[List.replicate_zero,List.append_nil,List.length_nil,k5,Int.toNat_zero,List.drop_zero]
       rw[show(q.lo.ev ρ+((0:Nat):Int)).toNat=(q.lo.ev ρ).toNat by omega,Int.toNat_natCast,Nat.sub_zero,List.take_of_length_le (l:=List.drop _ _) (by rw[List.length_drop];exact Nat.le_refl _),List.take_append_drop]
      ·obtain⟨b,rfl,rfl⟩:=hadr h0
       obtain⟨g,hg,W',e1,e2⟩:=a1p (P:=P) (x':= .over y q.lo (.rep (.lenS q.x) a)) hm2 hr hhist hzr hlo (by simp only[List.length_replicate];omega) (by simp only[List.length_replicate];omega) hover
       simp only[Option.some.injEq] at hg
       subst hg
       refine⟨.tuple #[],W',?_,trivial,e2,rfl⟩
       obtain⟨n',rfl⟩:∃n',n=n'+1:=⟨n-1,by omega⟩
       have hzc:((Array.range ((n'+1)*z.cells.size)).map (fun i=>z.cells[i % z.cells.size]!))=Builtin.zeroCells z.cells (n'+1):=rfl
       rw[hzc] at e1
       obtain⟨zc,hgz⟩:∃zc,Builtin.zeroCells z.cells (n'+1)=zc:=⟨_,rfl⟩
       rw[hgz] at e1
       simp [Builtin.clear_,run_underlying hu,zeroValue,typeInfo,hi,hz,m9,hgz,e1]
     ·cases h
    ·cases h
   ·cases h
 ·cases h
theorem b0b{nx:Nat}{t t' ty:TypeId}{s x:S0}{tr:T (V×Mem×Nat)}{r:V×Mem×Nat}(h:a7b P mem nx t s x=some tr)(hres:tr.res ρ r){v u:Value}(hd:s.den ρ σ v)(hx:x.den ρ σ u)(hr:RelM ρ σ mem W):
 ∃v' W',(Builtin.copy_ #[t,t'] ty #[v,u]).run P W= .ok v' W'∧r.1.den ρ σ v'∧Step ρ σ W r.2.1 σ W'∧r.2.2=nx:=by
 unfold a7b at h
 split at h
 ·rename_i e hu
  split at h
  ·rename_i q hq
   split at h
   ·rename_i hc
    simp only[Bool.and_eq_true] at hc
    obtain⟨⟨hqe,hks⟩,hie⟩:=hc
    have hqe:=i9 hqe
    have hks:=i9 hks
    obtain⟨i,hi⟩:=Option.isSome_iff_exists.1 hie
    split at h
    ·rename_i t1 ks1 y v0 z hm hz
     simp only[Option.some.injEq] at h
     subst h
     obtain rfl:=g9 hres
     obtain⟨ad,n,c,a0,n0,c0,xs,rfl,hnow,hnc,hn48,hhist,hlo,hlon,hadr,_,y',hm'⟩:=B1 hq hd hr
     rw[hm] at hm'
     simp only[Option.some.injEq,Blk.own.injEq] at hm'
     obtain⟨rfl,rfl,rfl,rfl⟩:=hm'
     obtain⟨sa,m,cs,zs,rfl,hsn,hm48,hmc⟩:=Z4 hz hx hr
     obtain⟨k,hk⟩:∃k,Nat.min m n=k:=⟨_,rfl⟩
     have hmn:k≤n∧k≤m:=by rw[←hk];exact⟨Nat.min_le_right _ _,Nat.min_le_left _ _⟩
     have hlen:(E.mnS (.lenS q.x) (.lenS z)).ev ρ=(k:Int):=by
      rw[E.mnS_ev,E.lenS_ev,E.lenS_ev,←hnow.len,←hsn.len,←hk]
      show min (n:Int) (m:Int)=((min m n:Nat):Int)
      omega
     have hsub:=hsn.rows.sub (l:=0) (m:=(k:Int)) (by rw[←hsn.len];omega) (by simp)
     have hev:(X.sub z (.lit 0) (.mnS (.lenS q.x) (.lenS z))).ev ρ=k5 (z.ev ρ) 0 (k:Int):=by simp only[X.ev,E.ev,hlen]
     have hsl:(k5 (z.ev ρ) 0 (k:Int)).length=k:=by simp only[k5,Int.toNat_zero,List.drop_zero,Nat.sub_zero,Int.toNat_natCast,List.length_take];have:=hsn.len;omega
     have hover:=X.over_ev ρ y (.sub z (.lit 0) (.mnS (.lenS q.x) (.lenS z))) q.lo
     rw[hev] at hover
     have hfirst:(Builtin.firstCells (P.cellsOf e) k (.slice sa m cs)).run P W= .ok ((zs.drop ((0:Int).toNat*q.ks.length)).take (((k:Int).toNat-(0:Int).toNat)*q.ks.length)).toArray W:=by
      cases sa with
      | none=>
        have hk0:k=0:=by
         rcases Nat.eq_zero_or_pos m with e0 | e0
         ·omega
         ·have:=hsn.there e0;cases this
        subst hk0
        rw[run_firstCells_none]
        simp
      | some b=>
        refine run_firstCells_some (P:=P) W (P.cellsOf e) k b m cs _ ?_ (fun j u hj=>hsn.cell b rfl j u ?_)
        ·rw[hsub.1,hsl,hks]
        ·simp only[Int.toNat_zero,Nat.zero_mul,List.drop_zero] at hj
         rw[List.getElem?_take] at hj
         split at hj
         ·exact hj
         ·cases hj
     have hval:V.den ρ σ (iV .i64 (.mnS (.lenS q.x) (.lenS z))) (.int .i64 k):=p9 hlen
     rcases Nat.eq_zero_or_pos k with h0 | h0
     ·subst h0
      refine⟨.int .i64 0,W,?_,hval,a1W hm hr ?_,rfl⟩
      ·have he:((zs.drop ((0:Int).toNat*q.ks.length)).take ((((0:Nat):Int).toNat-(0:Int).toNat)*q.ks.length))=[]:=by simp
       rw[he] at hfirst
       cases ad<;>simp [Builtin.copy_,run_underlying hu,Builtin.lenOf,j7 hi,hk,hfirst,storeCells,goInt]
      ·rw[hover]
       have e0:k5 (z.ev ρ) 0 ((0:Nat):Int)=[]:=by simp [k5]
       rw[e0,List.append_nil,List.length_nil,show q.lo.ev ρ+((0:Nat):Int)=q.lo.ev ρ by omega,a7T]
     ·obtain⟨b,rfl,rfl⟩:=hadr (by omega)
      obtain⟨g,hg,W',e1,e2⟩:=a1p (P:=P) (x':= .over y q.lo (.sub z (.lit 0) (.mnS (.lenS q.x) (.lenS z)))) hm hr hhist hsub hlo (by rw[hsl];omega) (by rw[hsl];exact h0) hover
      simp only[Option.some.injEq] at hg
      subst hg
      refine⟨.int .i64 k,W',?_,hval,e2,rfl⟩
      simp only[Int.toNat_natCast,Int.toNat_zero,Nat.zero_mul,List.drop_zero,Nat.sub_zero] at e1
      simp [Builtin.copy_,run_underlying hu,Builtin.lenOf,j7 hi,hk,hfirst,m9,e1,goInt]
    ·cases h
   ·cases h
  ·cases h
 ·cases h
theorem b0l{nx:Nat}{t:TypeId}{l c:V}{tr:T (V×Mem×Nat)}{r:V×Mem×Nat}(h:a6X P nx t l c=some tr)(hres:tr.res ρ r){v u:Value}(hl:l.den ρ σ v)(hc:c.den ρ σ u)(hr:RelM ρ σ mem W)(ht:Fr nx r.2.2 σ):
 ∃v' W' σ',(Instr.makeSlice t v u).run P W= .ok v' W'∧r.1.den ρ σ' v'∧Step ρ σ W r.2.1 σ' W'∧New nx r.2.2 σ σ':=by
 unfold a6X at h
 split at h
 ·rename_i e k1 l k2 c hu
  split at h
  ·rename_i hlc
   obtain rfl:=E.same_eq _ _ hlc
   split at h
   ·rename_i i ks hi hks
    split at h
    ·rename_i a ha
     split at h
     ·rename_i hcc
      simp only[Bool.and_eq_true] at hcc
      obtain⟨⟨hsz,hpos⟩,hby⟩:=hcc
      have hsz:=i9 hsz
      have hby:=Nat.le_of_ble_eq_true hby
      simp only[Option.some.injEq] at h
      subst h
      obtain⟨ho,hres⟩:=T.res_obs hres
      obtain rfl:=g9 hres
      have o1:=ho _ (List.mem_cons_self ..)
      have o2:=ho _ (List.mem_cons_of_mem _ (List.mem_cons_self ..))
      replace o1:(0:Int)≤l.ev ρ:=of_decide_eq_true (by have:=o1;simp only[Ob.ok,B.cmpS_ev] at this;exact this)
      replace o2:l.ev ρ≤1000000:=of_decide_eq_true (by have:=o2;simp only[Ob.ok,B.cmpS_ev] at this;exact this)
      obtain rfl:v= .int k1 (l.ev ρ):=hl
      obtain rfl:u= .int k2 (l.ev ρ):=hc
      obtain⟨i',z,hi',hz,hza⟩:=a4J (ρ:=ρ) (σ:=σ) ha
      rw[hi] at hi'
      simp only[Option.some.injEq] at hi'
      subst hi'
      obtain⟨n,hn⟩:=Int.eq_ofNat_of_zero_le o1
      have hbytes:(i.bytes:Int)*(n:Int)≤281474976710656:=by
       have h1:i.bytes*n≤i.bytes*1000000:=Nat.mul_le_mul_left _ (by omega)
       have h2:((i.bytes*n:Nat):Int)≤281474976710656:=by omega
       simpa using h2
      rw[hn]
      have hrun:=run_make (P:=P) W t e i z hu hi hz k1 k2 (n:Int) (n:Int) (by omega) (Int.le_refl _) hbytes (by omega)
      have hzl:z.cells.size=ks.length:=by have:=(w9 hza).1;simpa using this
      have hzr:=a6r hza n
      have hmc:(madeCells z.cells ((n:Int).toNat*i.size))=((Array.range (n*z.cells.size)).map (fun i=>z.cells[i % z.cells.size]!)):=by
       rw[Int.toNat_natCast,hsz,←hzl];rfl
      have hev:(X.rep l a).ev ρ=List.replicate n (a.ev ρ):=by simp only[X.ev,hn,Int.toNat_natCast]
      have hnx:=ht nx (Nat.le_refl _) (Nat.lt_succ_self _)
      have hnone:∀k,σ.h nx k= .none:=fun k=>by
       cases hk:σ.h nx k with
       | none=>rfl
       | some y=>exact absurd (.inr ⟨k,y,hk⟩) hnx
      have hlx:((Array.range (n*z.cells.size)).map (fun i=>z.cells[i % z.cells.size]!)).toList.length=n*ks.length:=by simp [hzl]
      have happ:AppRes W ρ.w.heap.size e ks.length (.slice none 0 0) n ((Array.range (n*z.cells.size)).map (fun i=>z.cells[i % z.cells.size]!)).toList (.slice (some ⟨W.heap.size,0,none⟩) n n) (W.alloc (.cells (madeCells z.cells ((n:Int).toNat*i.size)) e)):=by
       refine⟨.inl ⟨hlx,.inr ⟨W.heap.size,n,_,rfl,hr.base.size,heap_alloc_new W _,Nat.le_refl _,by simp only[maxLen];omega,?_,?_⟩⟩,rfl,rfl,rfl,by simp,fun k hk _=>Below.heap_alloc W _ k hk,fun k hk=> .inr ?_,Keep.of_eq (fun k hk=>Below.heap_alloc W _ k hk),_,_,rfl⟩
       ·rw[hmc];simp [hzl]
       ·rw[hmc,List.take_of_length_le (by rw[hlx];exact Nat.le_refl _)]
       ·unfold j9 at hk
        split at hk
        ·rename_i a n' c' e1
         simp only[Value.slice.injEq,Option.some.injEq] at e1 hk
         rw[←hk,←e1.1]
         simp
        ·cases hk
      have hlen:((X.rep l a).ev ρ).length=n:=by rw[hev,List.length_replicate]
      have hrows:RowsAt ρ.w ks ((Array.range (n*z.cells.size)).map (fun i=>z.cells[i % z.cells.size]!)).toList ((X.rep l a).ev ρ):=by rw[hev];exact hzr
      have hstep:=B2 (ρ:=ρ) (σ:=σ) (W:=W) (id:=nx) (t:=e) (ks:=ks) (x:= .rep l a) (ver:= .lit 0) (v:= .slice .none 0 0) (v':= .slice (some ⟨W.heap.size,0,none⟩) n n) (W':=W.alloc (.cells (madeCells z.cells ((n:Int).toNat*i.size)) e)) (fun i a hi=>hr.lt i a hi) (hnone _) (fun u _=>hnone u) hr.inj (fun k hk=>by cases hk) (by rw[hlen];exact happ) hrows.2 (by omega)
      exact⟨_,_,_,hrun,⟨⟨_,_,_,by rw[Int.toNat_natCast]⟩,by rw[Int.toNat_natCast];exact As.say_self⟩,hstep,fun i hi=>(v8 hi).imp id (fun h=>⟨by omega,by show i<nx+1;omega⟩)⟩
     ·cases h
    ·cases h
   ·cases h
  ·cases h
 ·cases h
theorem a5J{nx:Nat}{t:TypeId}{s:S0}{lo hi mx:Option V}{tr:T (V×Mem×Nat)}{r:V×Mem×Nat}(h:a0G P mem nx t s lo hi mx=some tr)(hres:tr.res ρ r){a:Value}(ha:s.den ρ σ a){l' h' m':Option Value}
 (hl:ODen ρ σ lo l') (hh:ODen ρ σ hi h') (hm:ODen ρ σ mx m') (hr:RelM ρ σ mem W):∃u,(Instr.sliceAt t a l' h' m').run P W= .ok u W∧r.1.den ρ σ u∧r.2=([],nx):=by
 unfold a0G at h
 split at h
 ·cases h
 ·rename_i q hq
  split at h
  ·rename_i e hu
   split at h
   ·rename_i l hh0 e1 e2
    split at h
    ·rename_i c4
     simp only[Bool.and_eq_true,Bool.or_eq_true] at c4
     obtain⟨⟨⟨c4,c5⟩,c6⟩,c8⟩:=c4
     have c5:=i9 c5
     have c7:(mx.isNone||hi.isSome)=true:=by rcases c6 with h | h<;>simp [h]
     obtain⟨i,hi'⟩:=Option.isSome_iff_exists.1 c4
     simp only[Option.some.injEq] at h
     subst h
     obtain⟨ho,hres⟩:=T.res_obs hres
     obtain rfl:=g9 hres
     obtain⟨b,n,c,a0,n0,c0,xs,rfl,hnow,hnc,_,hhist,hlo,hlon,hadr,hfst,_⟩:=B1 hq ha hr
     have hsl:=hnow.len
     have o1:=ho _ (List.mem_cons_self ..)
     have o2:=ho _ (List.mem_cons_of_mem _ (List.mem_cons_self ..))
     have o3:=ho _ (List.mem_cons_of_mem _ (List.mem_cons_of_mem _ (List.mem_cons_self ..)))
     replace o1:(0:Int)≤l.ev ρ:=of_decide_eq_true (by have:=o1;simp only[Ob.ok,B.cmpS_ev] at this;exact this)
     replace o2:l.ev ρ≤hh0.ev ρ:=of_decide_eq_true (by have:=o2;simp only[Ob.ok,B.cmpS_ev] at this;exact this)
     replace o3:hh0.ev ρ≤((q.x.ev ρ).length:Nat):=of_decide_eq_true (by have:=o3;simp only[Ob.ok,B.cmpS_ev,E.lenS_ev] at this;exact this)
     rw[←hsl] at o3
     have k1:(l'=none∧(l.ev ρ).toNat=0)∨∃k:IntKind,l'=some (.int k ((l.ev ρ).toNat:Int)):=by
      rcases L8 e1 hl with ⟨q1,q2⟩ | ⟨k,q⟩
      ·left;refine⟨q1,?_⟩;rw[q2];rfl
      ·right;exact⟨k,by rw[q];congr 2;omega⟩
     have k2:(h'=none∧(hh0.ev ρ).toNat=n)∨∃k:IntKind,h'=some (.int k ((hh0.ev ρ).toNat:Int)):=by
      rcases L8 e2 hh with ⟨q1,q2⟩ | ⟨k,q⟩
      ·left;refine⟨q1,?_⟩;rw[q2];simp only[E.lenS_ev];omega
      ·right;exact⟨k,by rw[q];congr 2;omega⟩
     have k3:∃cc,((m'=none∧cc=c)∨∃k:IntKind,m'=some (.int k (cc:Int)))∧(hh0.ev ρ).toNat≤cc∧cc≤c∧(mx.isSome=true→cc=(hh0.ev ρ).toNat)∧(mx.isSome=false→cc=c):=by
      cases mx with
      | none=>
        cases m' with
        | none=>exact⟨c,.inl ⟨rfl,rfl⟩,by omega,Nat.le_refl _,by simp,by simp⟩
        | some m=>exact hm.elim
      | some mv=>
        cases m' with
        | none=>exact hm.elim
        | some m=>
          refine⟨(hh0.ev ρ).toNat,.inr ?_,Nat.le_refl _,by omega,by simp,by simp⟩
          simp only[Option.isNone_some,Bool.false_eq_true,false_or] at c6
          replace c6:=c6.2
          unfold a6Z at c6
          split at c6
          ·rename_i k q heq
           simp only[Option.some.injEq] at heq
           subst heq
           obtain rfl:m= .int k (q.ev ρ):=hm
           rw[E.same_eq _ _ c6]
           exact⟨k,by congr 2;omega⟩
          ·simp at c6
     obtain⟨cc,q1,q2,q3,q4,q5⟩:=k3
     have hb:=T1 (P:=P) k1 k2 q1 (hh.bounds hm c7) (by omega) q2 q3 W
     refine⟨.slice (if cc=(l.ev ρ).toNat then b else b.map (·.add ((l.ev ρ).toNat*P.cellsOf e))) ((hh0.ev ρ).toNat-(l.ev ρ).toNat) (cc-(l.ev ρ).toNat),?_,?_,rfl⟩
     ·simp [Instr.sliceAt,Instr.slice,run_underlying hu,hb,j7 hi']
     ·have p1:(E.plusS q.lo l).ev ρ=q.lo.ev ρ+l.ev ρ:=E.plusS_ev ..
      have p2:(E.plusS q.lo hh0).ev ρ=q.lo.ev ρ+hh0.ev ρ:=E.plusS_ev ..
      refine⟨a0,n0,c0,(if cc=(l.ev ρ).toNat then b else b.map (·.add ((l.ev ρ).toNat*P.cellsOf e))),cc-(l.ev ρ).toNat,hhist,by rw[p1];omega,by rw[p1,p2];omega,by rw[p2];omega,?_,?_,fun h0=> ?_,fun hf=> ?_,fun hz hf=> ?_⟩
      ·congr 1
       rw[p1,p2];omega
      ·rw[p1,p2];omega
      ·rw[p1,p2] at h0
       obtain⟨b0,rfl,rfl⟩:=hadr (by omega)
       refine⟨b0,rfl,?_⟩
       rw[if_neg (by omega),p1,←c5]
       simp only[Option.map_some,Option.some.injEq]
       rw[J5,←Nat.add_mul]
       congr 2;omega
      ·rw[q4 hf,p1,p2];omega
      ·rw[p1] at hz
       have hl0:l.ev ρ=0:=by omega
       have hq0:q.lo.ev ρ=0:=by omega
       rw[hf] at c8
       simp only[Bool.false_eq_true,false_or,Bool.not_eq_true'] at c8
       obtain⟨rfl,rfl⟩:=hfst c8 hq0
       rw[q5 hf,hl0]
       refine⟨?_,by simp⟩
       cases b<;>simp [Addr.add]
    ·cases h
   ·cases h
  ·cases h
theorem a0d{n:E}{f:Nat→T (V×Mem×Nat)}{r:V×Mem×Nat}:∀(k j:Nat),(a0p n f k j).res ρ r→∃i:Nat,n.ev ρ=(i:Int)∧j≤i∧i<j+k∧(f i).res ρ r
 | 0,j,h=>h.elim
 | k+1,j,h=>by
   rcases T.res_iteS h with ⟨h1,h⟩ | ⟨_,h⟩
   ·rw[B.cmpS_ev] at h1
    simp only[s7,E.ev,beq_iff_eq] at h1
    exact⟨j,h1,by omega,by omega,h⟩
   ·obtain⟨i,e1,e2,e3,e4⟩:=a0d k (j+1) h
    exact⟨i,e1,by omega,by omega,e4⟩
theorem a9N{nx:Nat}{o:Oper}{g:Operand→V}{ev:Operand→Value}{tr:T (V×Mem×Nat)}{r:V×Mem×Nat}(h:a4B P mem nx g o.op=some tr)(hres:tr.res ρ r)
 (hg:∀x∈o.op.operands,(g x).den ρ σ (ev x)) (hr:RelM ρ σ mem W) (ht:Fr nx r.2.2 σ):
 (∀c,o.op≠ .defer c)∧∃u W' σ',(execOp ev o).run P W= .ok (.value u) W'∧r.1.den ρ σ' u∧Step ρ σ W r.2.1 σ' W'∧New nx r.2.2 σ σ':=by
 obtain⟨dst,op,ty,pos,after,guard⟩:=o
 simp only at h hg
 unfold a4B at h
 split at h
 ·rename_i t x i
  refine⟨by simp,?_⟩
  have hx:=hg x (by simp [Op.operands])
  have hi:=hg i (by simp [Op.operands])
  split at h
  ·rename_i m e cs k n hu hgx hgi
   split at h
   ·rename_i hc
    simp only[Bool.and_eq_true] at hc
    obtain⟨inf,hinf⟩:=Option.isSome_iff_exists.1 hc.2
    simp only[Option.some.injEq] at h
    subst h
    obtain⟨j,e1,_,e3,hres⟩:=a0d _ _ hres
    rw[hgx] at hx
    rw[hgi] at hi
    have hie:ev i= .int k (j:Int):=by rw[←e1];exact hi
    split at hres
    ·rename_i y hy
     obtain rfl:=g9 hres
     obtain⟨vs,h1,hxe⟩:=hx
     obtain⟨u,h2,h3⟩:=C3 hy h1 W
     refine⟨u,W,σ,A7 ?_,h3,Step.refl _ _ _,fun i hi=> .inl hi⟩
     rw[hxe,hie]
     simp [Instr.index,asIntOf,run_underlying hu,Nat.not_le.mpr (show j<m by omega),show j<m by omega,j7 hinf,h2]
    ·exact hres.elim
   ·cases h
  ·cases h
 ·rename_i t x i
  refine⟨by simp,?_⟩
  have hx:=hg x (by simp [Op.operands])
  have hi:=hg i (by simp [Op.operands])
  split at h
  ·rename_i m e id off k n hu hgx hgi
   split at h
   ·rename_i hc
    simp only[Bool.and_eq_true] at hc
    obtain⟨inf,hinf⟩:=Option.isSome_iff_exists.1 hc.2
    simp only[Option.some.injEq] at h
    subst h
    obtain⟨j,e1,_,e3,hres⟩:=a0d _ _ hres
    obtain rfl:=g9 hres
    rw[hgx] at hx
    rw[hgi] at hi
    have hie:ev i= .int k (j:Int):=by rw[←e1];exact hi
    obtain⟨b,h1,hxe⟩:=hx
    refine⟨.pointer (some ⟨b,off+j*P.cellsOf e,none⟩),W,σ,A7 ?_,⟨b,h1,rfl⟩,Step.refl _ _ _,fun i hi=> .inl hi⟩
    rw[hxe,hie]
    simp [Instr.indexAt,asIntOf,run_underlying hu,Instr.sureAddr,Nat.not_le.mpr (show j<m by omega),show j<m by omega,j7 hinf,m9]
   ·cases h
  ·rename_i e s k n hu hgx hgi
   split at h
   ·rename_i q hq
    split at h
    ·rename_i hc
     simp only[Bool.and_eq_true] at hc
     obtain⟨hc1,hc2⟩:=hc
     have hc2:=i9 hc2
     obtain⟨inf,hinf⟩:=Option.isSome_iff_exists.1 hc1
     simp only[Option.some.injEq] at h
     subst h
     obtain⟨ho,hres⟩:=T.res_obs hres
     obtain rfl:=g9 hres
     rw[hgx] at hx
     rw[hgi] at hi
     obtain⟨a,m,c,a0,n0,c0,xs,hxe,hnow,hnc,_,hhist,hlo,hlon,hadr,_⟩:=B1 hq hx hr
     have hie:ev i= .int k (n.ev ρ):=hi
     have o1:(0:Int)≤n.ev ρ:=of_decide_eq_true (by have:=ho _ (List.mem_cons_self ..);simp only[Ob.ok,B.cmpS_ev] at this;exact this)
     have o2:n.ev ρ<((q.x.ev ρ).length:Nat):=of_decide_eq_true (by have:=ho _ (List.mem_cons_of_mem _ (List.mem_cons_self ..));simp only[Ob.ok,B.cmpS_ev,E.lenS_ev] at this;exact this)
     rw[←hnow.len] at o2
     obtain⟨b,rfl,rfl⟩:=hadr (by omega)
     have p1:(E.plusS q.lo n).ev ρ=q.lo.ev ρ+n.ev ρ:=E.plusS_ev ..
     refine⟨.pointer (some ((b.add ((q.lo.ev ρ).toNat*q.ks.length)).add ((n.ev ρ).toNat*P.cellsOf e))),W,σ,A7 ?_,⟨b,n0,c0,hhist,by rw[p1];omega,by rw[p1];omega,?_⟩,Step.refl _ _ _,fun i hi=> .inl hi⟩
     ·rw[hxe,hie]
      simp [Instr.indexAt,asIntOf,run_underlying hu,o1,o2,j7 hinf]
     ·rw[p1,←hc2,J5,Nat.add_zero,←Nat.add_mul]
      congr 4;omega
    ·cases h
   ·cases h
  ·cases h
 ·rename_i t x lo hi mx
  refine⟨by simp,?_⟩
  have hx:=hg x (by simp [Op.operands])
  split at h
  ·rename_i s hgx
   rw[hgx] at hx
   have ob:∀(q:Option Operand),(∀y,q=some y→(g y).den ρ σ (ev y))→ODen ρ σ (q.map g) (q.map ev):=by
    intro q hq
    cases q with
    | none=>trivial
    | some y=>exact hq y rfl
   obtain⟨u,h1,h2,h3⟩:=a5J h hres hx (ob lo (fun y hy=>hg y (by simp [Op.operands,hy]))) (ob hi (fun y hy=>hg y (by simp [Op.operands,hy]))) (ob mx (fun y hy=>hg y (by simp [Op.operands,hy]))) hr
   refine⟨u,W,σ,A7 h1,h2,by rw[h3];exact Step.refl _ _ _,fun i hi=> .inl hi⟩
  ·cases h
 ·rename_i args ats
  refine⟨by simp,?_⟩
  split at h
  ·rename_i s t hal hat
   split at h
   ·rename_i e q hu hq
    simp only[Option.some.injEq] at h
    subst h
    obtain rfl:=g9 hres
    obtain⟨x,rfl⟩:∃x,args= #[x]:=by
     have hl:args.toList.length=1:=by
      have:=congrArg List.length hal
      simpa using this
     match args,hl with
     | ⟨[x]⟩,_=>exact⟨x,rfl⟩
    have hx:=hg x (by simp [Op.operands,Call.operands])
    simp only[List.map_cons,List.map_nil,List.cons.injEq,and_true] at hal
    rw[hal] at hx
    obtain⟨a,m,c,a0,n0,c0,xs,hxe,hnow,_⟩:=B1 hq hx hr
    refine⟨.int .i64 m,W,σ,?_,p9 (by rw[E.lenS_ev,hnow.len]),Step.refl _ _ _,fun i hi=> .inl hi⟩
    simp [execOp,resolve,invoke,builtin,Builtin.len_,hat,run_underlying hu,hxe,goInt]
   ·cases h
  ·cases h
 ·rename_i args ats
  refine⟨by simp,?_⟩
  split at h
  ·rename_i s x t t' hal hat
   split at h
   ·rename_i htt
    obtain rfl:=i9 htt
    split at h
    ·rename_i e hu
     simp only[Option.some.injEq] at h
     subst h
     obtain⟨p,q,rfl⟩:∃p q,args= #[p,q]:=by
      have hl:args.toList.length=2:=by
       have:=congrArg List.length hal
       simpa using this
      match args,hl with
      | ⟨[p,q]⟩,_=>exact⟨p,q,rfl⟩
     obtain rfl:ats= #[t,t]:=by rw[←Array.toArray_toList (xs:=ats),hat]
     have hp:=hg p (by simp [Op.operands,Call.operands])
     have hq:=hg q (by simp [Op.operands,Call.operands])
     simp only[List.map_cons,List.map_nil,List.cons.injEq,and_true] at hal
     rw[hal.1] at hp
     rw[hal.2] at hq
     obtain⟨v',W',σ',h1,h2,h3,h4⟩:=a6Q (ty:=ty) hu hres hp hq hr ht
     refine⟨v',W',σ',?_,h2,h3,h4⟩
     simp [execOp,resolve,invoke,builtin,h1]
    ·cases h
   ·cases h
  ·cases h
 ·rename_i args ats
  refine⟨by simp,?_⟩
  split at h
  ·rename_i s t hal hat
   obtain⟨x,rfl⟩:∃x,args= #[x]:=by
    have hl:args.toList.length=1:=by
     have:=congrArg List.length hal
     simpa using this
    match args,hl with
    | ⟨[x]⟩,_=>exact⟨x,rfl⟩
   obtain rfl:ats= #[t]:=by rw[←Array.toArray_toList (xs:=ats),hat]
   have hx:=hg x (by simp [Op.operands,Call.operands])
   simp only[List.map_cons,List.map_nil,List.cons.injEq,and_true] at hal
   rw[hal] at hx
   obtain⟨v',W',h1,h2,h3,h4⟩:=a9t (ty:=ty) h hres hx hr
   refine⟨v',W',σ,?_,h2,h3,fun i hi=> .inl hi⟩
   simp [execOp,resolve,invoke,builtin,h1]
  ·cases h
 ·rename_i args ats
  refine⟨by simp,?_⟩
  split at h
  ·rename_i s x t t' hal hat
   obtain⟨p,q,rfl⟩:∃p q,args= #[p,q]:=by
    have hl:args.toList.length=2:=by
     have:=congrArg List.length hal
     simpa using this
    match args,hl with
    | ⟨[p,q]⟩,_=>exact⟨p,q,rfl⟩
   obtain rfl:ats= #[t,t']:=by rw[←Array.toArray_toList (xs:=ats),hat]
   have hp:=hg p (by simp [Op.operands,Call.operands])
   have hq:=hg q (by simp [Op.operands,Call.operands])
   simp only[List.map_cons,List.map_nil,List.cons.injEq,and_true] at hal
   rw[hal.1] at hp
   rw[hal.2] at hq
   obtain⟨v',W',h1,h2,h3,h4⟩:=b0b (t':=t') (ty:=ty) h hres hp hq hr
   refine⟨v',W',σ,?_,h2,h3,fun i hi=> .inl hi⟩
   simp [execOp,resolve,invoke,builtin,h1]
  ·cases h
 ·rename_i t l c
  refine⟨by simp,?_⟩
  obtain⟨v',W',σ',h1,h2,h3,h4⟩:=b0l h hres (hg l (by simp [Op.operands])) (hg c (by simp [Op.operands])) hr ht
  exact⟨v',W',σ',by simp [execOp,h1],h2,h3,h4⟩
 ·cases h
end
end Go.Proofs.YtbbjlleaofgddaaGreat
namespace Go.Proofs.YtbbjlleaofgddaaGreat
open Go.RowKit Go.Conc
def FR(r:Option Nat):Fence:= { fn:=fun _=>True,depth:=none,alive:=false,round:=r }
theorem p6(P:Program)(ro:Option Nat)(m:Machine):m.fenced P (FR ro):=fun _ _=>⟨fun h=>(by simp [FR] at h),.inl trivial,fun _ _=>trivial,fun d h=>(by simp [FR] at h)⟩
def RegIn(ro:Option Nat)(P:Program)(ops:Array Oper)(Q:Exit→Act→World→Prop)(l:List Nat)(a:Act)(w:World):Prop:=
 ∀(b:Frame) (k:List Item) (cs:List Frame),b.roundOf=ro→∃e a' w',Q e a' w'∧ArrivesIn (Machine.fenced P (FR ro)) P (lone (b.atR a (.inRegion ops l::k)) cs w) b k cs e a' w'
section
variable {P:Program} {ro:Option Nat} {ops:Array Oper} {Q:Exit→Act→World→Prop} {i:Nat} {rest:List Nat} {a:Act} {w:World} {o:Oper}
theorem RegIn.region{id:Nat}(h:RegIn ro P ops Q (List.range ops.size) a w):(Code.region id ops false).wpIn (FR ro) 0 P Q a w:=
 fun b k cs hro _ _=>let ⟨e,a',w',q,r⟩:=h b k cs hro;⟨e,a',w',q,.of_steps (.one (p6 _ _ _) stepR_region) r⟩
theorem RegIn.nil(h:Q .normal a w):RegIn ro P ops Q [] a w:=fun _ _ _ _=>⟨.normal,a,w,h,.one (p6 _ _ _) stepR_region_end⟩
theorem RegIn.head{a₁:Act}{w₁:World}(h:RegIn ro P ops Q rest a₁ w₁)(hs:∀(b:Frame) (k:List Item) (cs:List Frame),b.roundOf=ro→StepsIn (Machine.fenced P (FR ro)) P (lone (b.atR a (.inRegion ops (i::rest)::k)) cs w) (lone (b.atR a₁ (.inRegion ops rest::k)) cs w₁)):
 RegIn ro P ops Q (i::rest) a w:=
 fun b k cs hro=>let ⟨e,a',w',q,r⟩:=h b k cs hro;⟨e,a',w',q,.of_steps (hs b k cs hro) r⟩
theorem RegIn.pass(ho:ops[i]? = some o)(hw:Region.wanted o (yielded ops a.tmps)=false)(h:RegIn ro P ops Q rest (a.put o.dst undef) w):RegIn ro P ops Q (i::rest) a w:=
 h.head fun b k cs _=>by
  have hs:=stepR_op_skip (P:=P) (b:=b) (a:=a) (k:=k) (cs:=cs) (w:=w) (ops:=ops) (i:=i) (rest:=rest) (by simp [ho,hw])
  simp only[ho,Option.bind_some] at hs
  exact .one (p6 _ _ _) hs
theorem P3(ho:ops[i]? = some o)(b:Frame)(a:Act)(k:List Item)(v:Value):(b.atR a (.inRegion ops (i::rest)::k)).finish v=b.atR (a.put o.dst v) (.inRegion ops rest::k):=by
 rw[Frame.finish_atR,ho];rfl
theorem RegIn.one(ho:ops[i]? = some o)(hw:Region.wanted o (yielded ops a.tmps)=true)(h:o.wpIn (FR ro) 0 P a w (RegIn ro P ops Q rest) Q):RegIn ro P ops Q (i::rest) a w:=by
 intro b k cs hro
 have h:=h.2
 have hF:(FR ro).round=ro:=rfl
 have hg:=stepGR_op (P:=P) (b:=b) (k:=k) (cs:=cs) (w:=w) (rest:=rest) ho hw
 have fin:=P3 (rest:=rest) ho b
 have go:∀ {a₁:Act} {w₁:World},RegIn ro P ops Q rest a₁ w₁→StepsIn (Machine.fenced P (FR ro)) P (lone (b.atR a (.inRegion ops (i::rest)::k)) cs w) (lone (b.atR a₁ (.inRegion ops rest::k)) cs w₁)→
  ∃e a' w',Q e a' w'∧ArrivesIn (Machine.fenced P (FR ro)) P (lone (b.atR a (.inRegion ops (i::rest)::k)) cs w) b k cs e a' w':=
  fun hk hs=>let ⟨e,a',w',q,r⟩:=hk b k cs hro;⟨e,a',w',q,.of_steps hs r⟩
 have room:∀m,(FR ro).room m:=fun m d hd=>by simp [FR] at hd
 rw[hro] at hg
 rw[hF] at h
 generalize hrun:(o.semAt ro a.eval).run P w=r at h
 cases r with
 | halt x w'=>
   cases x with
   | panic v=>exact⟨_,a,w',h,.inRegion ops (i::rest)::k,.one (p6 _ _ _) (step_lone_go (by rw[hg,←Frame.raise_atR];simp [stepG.apply,hrun]))⟩
   | _=>exact h.elim
 | ok x w'=>
   cases x with
   | value v=>exact go h (.one (p6 _ _ _) (step_lone_go (by rw[hg,←fin];simp [stepG.apply,hrun])))
   | skip=>exact go h (.one (p6 _ _ _) (step_lone_go (by rw[hg,←fin];simp [stepG.apply,hrun])))
   | defer d=>
     refine go h (.one (p6 _ _ _) (step_lone_go ?_))
     have e:=P3 (rest:=rest) ho b { a with defers:=d::a.defers } k undef
     rw[hg,←e]
     simp [stepG.apply,hrun,Frame.atR]
   | enter f args=>
     obtain⟨e,w2,fr,hR,hs,hfn,hl⟩:=h.2.2 (b.atR a (.inRegion ops (i::rest)::k)::cs) (room _)
     have he:step P (lone (b.atR a (.inRegion ops (i::rest)::k)) cs w)= .next (lone (Frame.enter P f args .normal) (b.atR a (.inRegion ops (i::rest)::k)::cs) w'):=
      step_lone_go (by rw[hg];simp [stepG.apply,hrun,Frame.atR])
     cases e with
     | returned v=>exact go hR (.head (p6 _ _ _) he (StepsIn.trans hs (.one (p6 _ _ _) (by rw[←fin];exact step_leave_returned hl))))
     | panicked c=>exact⟨_,a,w2,hR,_,.head (p6 _ _ _) he (StepsIn.trans hs (.one (p6 _ _ _) (by rw[←Frame.raise_atR];exact step_leave_panicked hl)))⟩
     | outgrown=>obtain⟨a0,w0,q⟩:=hR;exact⟨.outgrown,a0,w0,q,.inr (Outgrown.of_steps (.one he) hs)⟩
   | row row args=>
     obtain⟨v,w2,hR,hs⟩:=h.2 (b.atR a (.inRegion ops (i::rest)::k)) cs (room _)
     have he:step P (lone (b.atR a (.inRegion ops (i::rest)::k)) cs w)= .next (lone (Frame.ofRow P row args .normal) (b.atR a (.inRegion ops (i::rest)::k)::cs) w'):=
      step_lone_go (by rw[hg];simp [stepG.apply,hrun,Frame.atR])
     exact go hR (.head (p6 _ _ _) he (by rw[←fin];exact hs))
   | round l f tmps asg body=>
     obtain⟨e,w2,hR,hs⟩:=h.2.2 (b.atR a (.inRegion ops (i::rest)::k)) cs (room _)
     have he:step P (lone (b.atR a (.inRegion ops (i::rest)::k)) cs w)= .next (lone (Frame.round l f tmps asg body .normal) (b.atR a (.inRegion ops (i::rest)::k)::cs) w'):=
      step_lone_go (by rw[hg];simp [stepG.apply,hrun,Frame.atR])
     cases e with
     | returned v=>exact go hR (.head (p6 _ _ _) he (by rw[←fin];exact hs))
     | panicked c=>exact⟨_,a,w2,hR,_,.head (p6 _ _ _) he (by rw[←Frame.raise_atR];exact hs)⟩
     | outgrown=>obtain⟨a0,w0,q⟩:=hR;exact⟨.outgrown,a0,w0,q,.inr (Outgrown.of_steps (.one he) hs)⟩
   | _=>exact h.elim
theorem a6H{b:Frame}{k:List Item}{cs:List Frame}{cases:Array CommCase}{bl:Bool}{shape:CommShape}{w':World}(ho:ops[i]? = some o)(hw:Region.wanted o (yielded ops a.tmps)=true)
 (hd:∀c,o.op≠ .defer c) (hrun:(execOp a.eval o).run P w= .ok (.comm cases bl shape) w'):
 ∃es,stepG P true (G (b.atR a (.inRegion ops (i::rest)::k)) cs) w= .comm (G (b.atR a (.inRegion ops (i::rest)::k)) cs) cases bl shape w' es:=by
 unfold G
 rw[stepGR_op ho hw,Oper.semAt_eq _ _ _ hd]
 simp [stepG.apply,hrun,GStep.after]
theorem RegIn.send{c x:Operand}{r cap s q:Nat}{buf:Array Value}(ho:ops[i]? = some o)(hw:Region.wanted o (yielded ops a.tmps)=true)(hop:o.op= .send c x)(hc:a.eval c= .chan (some r))
 (hh:w.heap[r]? = some (.chan cap buf false s q false)) (hroom:buf.size<cap) (h:RegIn ro P ops Q rest (a.put o.dst undef) (w.setChan r cap (buf.push (a.eval x)) false (s+1) q false)):RegIn ro P ops Q (i::rest) a w:=
 h.head fun b k cs _=>by
  have hrun:(execOp a.eval o).run P w= .ok (.comm #[scase r (a.eval x) (.tuple #[])] true .send) w:=by
   obtain⟨dst,op,ty,pos,after,guard⟩:=o
   simp only at hop
   subst hop
   simp [execOp,hc,scase]
  obtain⟨es,hes⟩:=a6H (b:=b) (k:=k) (cs:=cs) (rest:=rest) ho hw (by rw[hop];simp) hrun
  have e:=step_lone_send_room hes hh hroom
  rw[P3 ho] at e
  exact .one (p6 _ _ _) e
theorem RegIn.recv{c:Operand}{t e:TypeId}{X8:ChanDir}{r cap s q:Nat}{buf:Array Value}{inf:TypeInfo}{z:Value}(ho:ops[i]? = some o)(hw:Region.wanted o (yielded ops a.tmps)=true)(hop:o.op= .recv t c false)(hc:a.eval c= .chan (some r))
 (hu:P.underlying t=some (.chan X8 e)) (hi:P.info? e=some inf) (hz:inf.zero=some z)
 (hh:w.heap[r]? = some (.chan cap buf false s q false)) (hsome:0<buf.size) (h:RegIn ro P ops Q rest (a.put o.dst (buf.getD 0 undef)) (w.setChan r cap (buf.extract 1 buf.size) false s (q+1) false)):RegIn ro P ops Q (i::rest) a w:=
 h.head fun b k cs _=>by
  have hrun:(execOp a.eval o).run P w= .ok (.comm #[rcase r z] true (.recv false)) w:=by
   obtain⟨dst,op,ty,pos,after,guard⟩:=o
   simp only at hop
   subst hop
   simp [execOp,hc,rcase,run_underlying hu,zeroValue,typeInfo,hi,hz]
  obtain⟨es,hes⟩:=a6H (b:=b) (k:=k) (cs:=cs) (rest:=rest) ho hw (by rw[hop];simp) hrun
  have e:=step_lone_recv_buf false hes hh hsome
  rw[P3 ho] at e
  exact .one (p6 _ _ _) e
end
end Go.Proofs.YtbbjlleaofgddaaGreat
namespace Go.Proofs.YtbbjlleaofgddaaGreat
open Go.RowKit
section
variable {P:Program} {ρ:Env} {σ:As} {mem:Mem} {W:World}
theorem R3(W:World){c k:Nat}(h:k≠c)(cap:Nat)(buf:Array Value)(cl:Bool)(s r:Nat)(tm:Bool):(W.setChan c cap buf cl s r tm).heap[k]? = W.heap[k]? := by
 simp only[World.setChan];rw[Array.getElem?_setIfInBounds_ne (Ne.symm h)]
theorem a6G{id c:Nat}{k:IntKind}{x:X}{cp:E}{ns:List Int}{s r:Nat}(hl:σ id=some c)(hlt:c<W.heap.size)(hno:∀L,W.heap[c]? ≠ some (.loop L))(hx:x.ev ρ=ns.map (fun n=>[D.i n]))(h0:0≤cp.ev ρ):
 Step ρ σ W [(id,.chn k x cp)] σ (W.setChan c (cp.ev ρ).toNat (ns.map (Value.int k)).toArray false s r false):=by
 refine⟨Ext.refl _,rfl,rfl,rfl,by simp [World.setChan],fun j _ hne=> ?_,fun _ _ _=>rfl,fun i a hi=> .inl hi,fun e=>e,fun i b' hi=> ?_,fun j L e=> ?_⟩
 ·refine R3 W (fun e=> ?_) _ _ _ _ _ _
  subst e
  exact hne id (.chn k x cp) (by simp [Mem.get]) (.inl hl)
 ·simp only[Mem.get] at hi
  split at hi
  ·rename_i hii
   simp only[beq_iff_eq] at hii
   subst hii
   simp only[Option.some.injEq] at hi
   subst hi
   exact⟨c,hl,ns,s,r,hx,h0,Go.Conc.heap_setChan W c _ _ _ _ _ _ hlt⟩
  ·simp at hi
 ·by_cases h:j=c
  ·subst h;exact absurd e (hno L)
  ·exact⟨L,by rw[R3 W h];exact e,rfl,rfl,rfl,rfl⟩
theorem a3B{id:Nat}{k:IntKind}{x:X}{cp:E}{v:Value}(hm:mem.get id=some (.chn k x cp))(hr:RelM ρ σ mem W)(hd:(V.s0 (.chn id)).den ρ σ v):
 ∃(c:Nat) (ns:List Int) (s r:Nat),σ id=some c∧v= .chan (some c)∧x.ev ρ=ns.map (fun n=>[D.i n])∧0≤cp.ev ρ∧W.heap[c]? = some (.chan (cp.ev ρ).toNat (ns.map (Value.int k)).toArray false s r false):=by
 obtain⟨c,h1,h2⟩:=hd
 obtain⟨c',e1,ns,s,r,e2,e3,e4⟩:=hr.blk _ _ hm
 rw[h1] at e1
 simp only[Option.some.injEq] at e1
 subst e1
 exact⟨c,ns,s,r,h1,h2,e2,e3,e4⟩
theorem a9b{nx:Nat}{o:Oper}{g:Operand→V}{ev:Operand→Value}{tr:T (V×Mem×Nat)}{r:V×Mem×Nat}(h:a1B P mem nx g o.op=some tr)(hres:tr.res ρ r)
 (hg:∀x∈o.op.operands,(g x).den ρ σ (ev x)) (hr:RelM ρ σ mem W) (ht:Fr nx r.2.2 σ):
 (∀c,o.op≠ .defer c)∧∃u W' σ',(execOp ev o).run P W= .ok (.value u) W'∧r.1.den ρ σ' u∧Step ρ σ W r.2.1 σ' W'∧New nx r.2.2 σ σ':=by
 obtain⟨dst,op,ty,pos,after,guard⟩:=o
 simp only at h hg
 unfold a1B at h
 split at h
 ·rename_i t n
  refine⟨by simp,?_⟩
  have hn:=hg n (by simp [Op.operands])
  split at h
  ·rename_i X8 e k0 m hu hgn
   split at h
   ·rename_i k i hue hi
    split at h
    ·rename_i hb
     have hb:=Nat.le_of_ble_eq_true hb
     simp only[Option.some.injEq] at h
     subst h
     obtain⟨ho,hres⟩:=T.res_obs hres
     obtain rfl:=g9 hres
     rw[hgn] at hn
     have hne:ev n= .int k0 (m.ev ρ):=hn
     have o1:(0:Int)≤m.ev ρ:=of_decide_eq_true (by have:=ho _ (List.mem_cons_self ..);simp only[Ob.ok,B.cmpS_ev] at this;exact this)
     have o2:m.ev ρ≤1000000:=of_decide_eq_true (by have:=ho _ (List.mem_cons_of_mem _ (List.mem_cons_self ..));simp only[Ob.ok,B.cmpS_ev] at this;exact this)
     have e0:((m.ev ρ).toNat:Int)=m.ev ρ:=Int.toNat_of_nonneg o1
     have hmul:(i.bytes:Int)*(m.ev ρ).toNat≤281474976710544:=by
      have h1:i.bytes*(m.ev ρ).toNat≤i.bytes*1000000:=Nat.mul_le_mul_left _ (by omega)
      have h2:((i.bytes*(m.ev ρ).toNat:Nat):Int)=(i.bytes:Int)*((m.ev ρ).toNat:Nat):=by simp
      omega
     have hrun:=Go.Conc.run_makeChan (P:=P) (w:=W) hu hi k0 (m.ev ρ).toNat (by omega) hmul
     rw[e0] at hrun
     obtain⟨s1,s2⟩:=I6 (ρ:=ρ) (nx:=nx) (ht nx (Nat.le_refl _) (Nat.lt_succ_self _)) (fun i a hi=>hr.lt i a hi) (b:= .chn k .nil m) (o:= .chan (m.ev ρ).toNat #[] false 0 0 false)
      ⟨W.heap.size,As.put_self,[],0,0,by simp [X.ev],o1,by rw[F4];simp⟩
     refine⟨.chan (some W.heap.size),_,_,a4E (by rw[hne];exact hrun),⟨W.heap.size,As.put_self,rfl⟩,s1,s2⟩
    ·cases h
   ·cases h
  ·cases h
 ·rename_i args ats
  refine⟨by simp,?_⟩
  split at h
  ·rename_i id t hal hat
   split at h
   ·rename_i X8 e k x cp hu hm
    simp only[Option.some.injEq] at h
    subst h
    obtain rfl:=g9 hres
    obtain⟨y,rfl⟩:∃y,args= #[y]:=by
     have hl:args.toList.length=1:=by
      have:=congrArg List.length hal
      simpa using this
     match args,hl with
     | ⟨[y]⟩,_=>exact⟨y,rfl⟩
    have hx:=hg y (by simp [Op.operands,Call.operands])
    simp only[List.map_cons,List.map_nil,List.cons.injEq,and_true] at hal
    rw[hal] at hx
    obtain⟨c,ns,s,r,_,hxe,e1,_,e2⟩:=a3B hm hr hx
    refine⟨.int .i64 ns.length,W,σ,?_,p9 (by rw[E.lenS_ev,e1];simp),Step.refl _ _ _,fun i hi=> .inl hi⟩
    simp [execOp,resolve,invoke,builtin,Builtin.len_,hat,run_underlying hu,hxe,goInt,run_getObj_chan _ _ e2]
   ·cases h
  ·cases h
 ·cases h
theorem a7q{nx:Nat}{g:Operand→V}{op:Op}{tr:T (V×Mem×Nat)}{q:V×Mem×Nat}(h:a4s P mem nx g op=some tr)(hr:tr.res ρ q):nx≤q.2.2:=by
 unfold a4s at h
 repeat' split at h
 all_goals first
  | cases h;done
  | (simp only[Option.some.injEq] at h
     subst h
     first
      | exact hr.elim
      | (repeat' split at hr
         all_goals first
          | exact hr.elim
          | (obtain⟨_,hr⟩:=T.res_obs hr;obtain rfl:=g9 hr;exact Nat.le_refl _)))
theorem b4U{nx:Nat}{g:Operand→V}{op:Op}{tr:T (V×Mem×Nat)}{q:V×Mem×Nat}(h:a1B P mem nx g op=some tr)(hr:tr.res ρ q):nx≤q.2.2:=by
 unfold a1B at h
 repeat' split at h
 all_goals first
  | cases h;done
  | (simp only[Option.some.injEq] at h
     subst h
     first
      | (obtain⟨_,hr⟩:=T.res_obs hr;obtain rfl:=g9 hr;exact Nat.le_succ _)
      | (obtain rfl:=g9 hr;exact Nat.le_refl _))
theorem b6Y{nx:Nat}{ops:Array Oper}{Q:Exit→Act→World→Prop}{ro:Option Nat}{i:Nat}{rest:List Nat}{a:Act}{o:Oper}{g:Operand→V}{tr:T (V×Mem×Nat)}{q:V×Mem×Nat}(h:a4s P mem nx g o.op=some tr)(hres:tr.res ρ q)
 (hg:∀x∈o.op.operands,(g x).den ρ σ (a.eval x)) (hr:RelM ρ σ mem W) (ho:ops[i]? = some o) (hw:Region.wanted o (yielded ops a.tmps)=true)
 (hK:∀u W' σ',q.1.den ρ σ' u→Step ρ σ W q.2.1 σ' W'→(∀i,σ'.has i→σ.has i∨(nx≤i∧i<q.2.2))→RegIn ro P ops Q rest (a.put o.dst u) W'):RegIn ro P ops Q (i::rest) a W:=by
 unfold a4s at h
 split at h
 ·rename_i c x hop
  simp only[Option.some.injEq] at h
  subst h
  have hc:=hg c (by rw[hop];simp [Op.operands])
  have hx:=hg x (by rw[hop];simp [Op.operands])
  split at hres
  ·rename_i id k e hgc hgx
   split at hres
   ·rename_i k' y cp hm
    split at hres
    ·rename_i hk
     subst hk
     obtain⟨hob,hres⟩:=T.res_obs hres
     obtain rfl:=g9 hres
     rw[hgc] at hc
     rw[hgx] at hx
     have hxe:a.eval x= .int k (e.ev ρ):=hx
     obtain⟨ch,ns,s,r,h1,h2,e1,e2,e3⟩:=a3B hm hr hc
     have o1:((y.ev ρ).length:Int)<cp.ev ρ:=of_decide_eq_true (by have:=hob _ (List.mem_cons_self ..);simp only[Ob.ok,B.cmpS_ev,E.lenS_ev] at this;exact this)
     rw[e1] at o1
     refine RegIn.send ho hw hop h2 e3 (by simp at o1 ⊢;omega) ?_
     have hb:((ns.map (Value.int k)).toArray.push (a.eval x))=((ns++[e.ev ρ]).map (Value.int k)).toArray:=by rw[hxe];simp
     rw[hb]
     exact hK undef _ σ ⟨[],trivial,rfl⟩ (a6G h1 (hr.lt _ _ (.inl h1)) (fun L hL=>by rw[e3] at hL;cases hL) (by rw[X.appS_ev,e1];simp [X.ev,AL.ev,E.ev]) e2) (fun i hi=> .inl hi)
    ·exact hres.elim
   ·exact hres.elim
  ·exact hres.elim
 ·rename_i t c hop
  simp only[Option.some.injEq] at h
  subst h
  have hc:=hg c (by rw[hop];simp [Op.operands])
  split at hres
  ·rename_i X8 e id hu hgc
   split at hres
   ·rename_i z k y cp hz hm
    obtain⟨hob,hres⟩:=T.res_obs hres
    obtain rfl:=g9 hres
    rw[hgc] at hc
    obtain⟨ch,ns,s,r,h1,h2,e1,e2,e3⟩:=a3B hm hr hc
    have o1:(0:Int)<((y.ev ρ).length:Int):=of_decide_eq_true (by have:=hob _ (List.mem_cons_self ..);simp only[Ob.ok,B.cmpS_ev,E.lenS_ev] at this;exact this)
    rw[e1] at o1
    obtain⟨inf,hi,hz⟩:∃inf,P.info? e=some inf∧inf.zero=some z:=by
     cases hi:P.info? e with
     | none=>rw[hi] at hz;cases hz
     | some inf=>rw[hi] at hz;exact⟨inf,rfl,hz⟩
    cases ns with
    | nil=>simp at o1
    | cons n ns=>
      refine RegIn.recv ho hw hop h2 hu hi hz e3 (by simp) ?_
      have hb:((List.map (Value.int k) (n::ns)).toArray.extract 1 (List.map (Value.int k) (n::ns)).toArray.size)=(ns.map (Value.int k)).toArray:=by simp [List.take_of_length_le]
      have hv:(List.map (Value.int k) (n::ns)).toArray.getD 0 undef= .int k n:=by simp
      rw[hb,hv]
      have e0:E.ev ρ (.lit 0)=0:=by simp [E.ev]
      refine hK (.int k n) _ σ ?_ (a6G h1 (hr.lt _ _ (.inl h1)) (fun L hL=>by rw[e3] at hL;cases hL) ?_ e2) (fun i hi=> .inl hi)
      ·refine b0B (d:= .i n) (by unfold CK.rep;exact⟨n,rfl,rfl⟩) ?_
       rw[e0,e1]
       simp [o5]
      ·simp only[X.ev,E.lenS_ev,E.ev,e1,k5]
       simp [List.take_of_length_le]
   ·exact hres.elim
  ·exact hres.elim
 ·cases h
theorem c1a{a b:Nat}(h:Nat.blt a b=true):a<b:=by simpa [Nat.blt_eq] using h
theorem b0i{nx:Nat}(hnx:¬σ.has nx)(hr:RelM ρ σ mem W){e:TypeId}{ks:List CK}{n:Nat}{x:X}{ws:List Value}(h0:0<n)(hn:n≤1000000)(hlen:ws.length=n*ks.length)
 (hx:(x.ev ρ).length=n∧∀(i:Nat) (row:List D),(x.ev ρ)[i]? = some row→CK.reps ρ.w ks ((ws.drop (i*ks.length)).take ks.length) row):
 Step ρ σ W [(nx,.own e ks x (.lit 0))] (σ.say nx ((E.lit 0).ev ρ) (.slice (some ⟨W.heap.size,0,none⟩) n n)) (W.alloc (.cells ws.toArray e))∧New nx (nx+1) σ (σ.say nx ((E.lit 0).ev ρ) (.slice (some ⟨W.heap.size,0,none⟩) n n)):=by
 have hnone:∀k,σ.h nx k= .none:=fun k=>by
  cases hk:σ.h nx k with
  | none=>rfl
  | some y=>exact absurd (.inr ⟨k,y,hk⟩) hnx
 have happ:AppRes W ρ.w.heap.size e ks.length (.slice none 0 0) n ws (.slice (some ⟨W.heap.size,0,none⟩) n n) (W.alloc (.cells ws.toArray e)):=by
  refine⟨.inl ⟨hlen,.inr ⟨W.heap.size,n,_,rfl,hr.base.size,heap_alloc_new W _,Nat.le_refl _,by simp only[maxLen];omega,?_,?_⟩⟩,rfl,rfl,rfl,by simp,fun k hk _=>Below.heap_alloc W _ k hk,fun k hk=> .inr ?_,Keep.of_eq (fun k hk=>Below.heap_alloc W _ k hk),_,_,rfl⟩
  ·simp [hlen]
  ·simp [←hlen]
  ·unfold j9 at hk
   split at hk
   ·rename_i a n' c' e1
    simp only[Value.slice.injEq,Option.some.injEq] at e1 hk
    rw[←hk,←e1.1]
    simp
   ·cases hk
 have hstep:=B2 (ρ:=ρ) (σ:=σ) (W:=W) (id:=nx) (t:=e) (ks:=ks) (x:=x) (ver:= .lit 0) (v:= .slice .none 0 0) (v':= .slice (some ⟨W.heap.size,0,none⟩) n n) (W':=W.alloc (.cells ws.toArray e)) (fun i a hi=>hr.lt i a hi) (hnone _) (fun u _=>hnone u) hr.inj (fun k hk=>by cases hk) (by rw[hx.1];exact happ) hx.2 (by omega)
 exact⟨hstep,fun i hi=>(v8 hi).imp id (fun h=>⟨by omega,by omega⟩)⟩
theorem a8h{id:Nat}{n:Int}{t:TypeId}{cs:List S}{ver:E}{z:Array Value}(hr:RelM ρ σ mem W)(hn:ver.ev ρ=n)(hnew:σ.h id n=none)(hlast:∀u,n<u→σ.h id u=none)(hin:∀v,σ.h id n=some v→False)
 (hz:DL (S.den ρ (σ.say id n (C6 W.heap.size))) cs z.toList):Step ρ σ W [(id,.vbox t cs ver)] (σ.say id n (C6 W.heap.size)) (W.alloc (.cells z t)):=by
 have hroom:∀k,j9 (C6 W.heap.size)=some k→k=W.heap.size:=fun k h=>by
  have h:some W.heap.size=some k:=h
  simp only[Option.some.injEq] at h
  exact h.symm
 refine⟨⟨fun _ _ h=>h,fun i m v h=> ?_⟩,rfl,rfl,rfl,by simp,fun k hk _=>Below.heap_alloc W _ k hk,fun i hi _=> ?_,fun i a hi=> ?_,fun e i j a hi hj=> ?_,fun i b hi=> ?_,Keep.of_eq (fun k hk=>Below.heap_alloc W _ k hk)⟩
 ·by_cases q:i=id∧m=n
  ·obtain⟨rfl,rfl⟩:=q;exact(hin v h).elim
  ·rw[As.say_other q];exact h
 ·have hne:i≠id:=fun q=>by subst q;simp [Mem.get] at hi
  funext m
  exact As.say_other (fun q=>hne q.1)
 ·rcases I7 hi with h | ⟨_,h⟩
  ·exact .inl h
  ·rw[hroom a h];exact .inr ⟨Nat.le_refl _,by simp⟩
 ·rcases I7 hi with h | ⟨h0,h⟩<;>rcases I7 hj with h' | ⟨h0',h'⟩
  ·exact e i j a h h'
  ·have:=hr.lt i a h;have:=hroom a h';omega
  ·have:=hr.lt j a h';have:=hroom a h;omega
  ·omega
 ·simp only[Mem.get] at hi
  split at hi
  ·rename_i hii
   simp only[beq_iff_eq] at hii
   subst hii
   simp only[Option.some.injEq] at hi
   subst hi
   exact⟨W.heap.size,by rw[hn];exact As.say_self,fun u hu=>by rw[hn] at hu;rw[As.say_other (by omega)];exact hlast u hu,z.toList,hz,by rw[F4]⟩
  ·simp at hi
theorem a5L{nx:Nat}{t:TypeId}{i:TypeInfo}{zv:Value}{cur:V}{r:i8}(h:(a1f mem nx t (E6 zv).cells cur).res ρ r)(hr:RelM ρ σ mem W)(ht:Fr nx r.2.2 σ):
 ∃σ',r.1.den ρ σ' (.pointer (some ⟨W.heap.size,0,none⟩))∧Step ρ σ W r.2.1 σ' (W.alloc (.cells zv.cells t))∧New nx r.2.2 σ σ':=by
 unfold a1f at h
 split at h
 ·rename_i id _ _
  split at h
  ·rename_i t' cs0 v hm
   split at h
   ·rename_i htt
    obtain rfl:=i9 htt
    obtain rfl:=g9 h
    obtain⟨a,h1,h2,_⟩:=hr.blk _ _ hm
    have e1:(E.plusS v (.lit 1)).ev ρ=v.ev ρ+1:=by rw[E.plusS_ev];simp [E.ev]
    have hnone:=h2 (v.ev ρ+1) (by omega)
    have hs:=a8h (ρ:=ρ) (σ:=σ) (W:=W) (id:=id) (n:=v.ev ρ+1) (t:=t) (cs:=(E6 zv).cells) (ver:= .plusS v (.lit 1)) (z:=zv.cells) hr e1 hnone (fun u hu=>h2 u (by omega)) (fun w hw=>by rw[hnone] at hw;cases hw) (J8 zv)
    refine⟨_,⟨W.heap.size,by rw[e1];exact As.say_self,rfl⟩,hs,fun i hi=> ?_⟩
    rcases v8 hi with q | q
    ·exact .inl q
    ·subst q;exact .inl (.inr ⟨_,_,h1⟩)
   ·exact h.elim
  ·exact h.elim
 ·obtain rfl:=g9 h
  have hnx:=ht nx (Nat.le_refl _) (Nat.lt_succ_self _)
  have hnone:∀k,σ.h nx k=none:=fun k=>by
   cases hk:σ.h nx k with
   | none=>rfl
   | some y=>exact absurd (.inr ⟨k,y,hk⟩) hnx
  have e0:(E.lit 0).ev ρ=0:=by simp [E.ev]
  have hs:=a8h (ρ:=ρ) (σ:=σ) (W:=W) (id:=nx) (n:=0) (t:=t) (cs:=(E6 zv).cells) (ver:= .lit 0) (z:=zv.cells) hr e0 (hnone 0) (fun u _=>hnone u) (fun w hw=>by rw[hnone] at hw;cases hw) (J8 zv)
  refine⟨_,⟨W.heap.size,by rw[e0];exact As.say_self,rfl⟩,hs,fun i hi=>(v8 hi).imp id (fun q=>⟨by omega,by show i<nx+1;omega⟩)⟩
end
end Go.Proofs.YtbbjlleaofgddaaGreat
namespace Go.Proofs.YtbbjlleaofgddaaGreat
open Go.RowKit
def a1b(r:Nat):Deferred:= { target:= .collected r,args:= #[] }
def Dfr(σ:As):List Nat→List Deferred→Prop
 | [],ds=>ds=[]
 | d::l,ds=>if j5≤d then ∃(rs:List Nat) (ds':List Deferred),rs.Nodup∧(∀r∈rs,σ.h (d-j5) ((r:Int)+1)=some (C6 r))∧ds=rs.map a1b++ds'∧Dfr σ l ds'
   else ∃r ds',σ d=some r∧ds=a1b r::ds'∧Dfr σ l ds'
theorem Dfr.of_one{σ:As}{d:Nat}{l:List Nat}{ds:List Deferred}(hd:¬j5≤d):Dfr σ (d::l) ds↔∃r ds',σ d=some r∧ds=a1b r::ds'∧Dfr σ l ds':=by
 rw[Dfr,if_neg hd]
theorem Dfr.of_many{σ:As}{d:Nat}{l:List Nat}{ds:List Deferred}(hd:j5≤d):Dfr σ (d::l) ds↔∃(rs:List Nat) (ds':List Deferred),rs.Nodup∧(∀r∈rs,σ.h (d-j5) ((r:Int)+1)=some (C6 r))∧ds=rs.map a1b++ds'∧Dfr σ l ds':=by
 rw[Dfr,if_pos hd]
theorem Dfr.ext{σ σ':As}(h:Ext σ σ'):∀ {l:List Nat} {ds:List Deferred},Dfr σ l ds→Dfr σ' l ds
 | [],_,e=>e
 | d::_,_,q=>by
   by_cases hd:j5≤d
   ·rw[Dfr.of_many hd] at q ⊢
    obtain⟨rs,ds',h1,h2,h3,h4⟩:=q
    exact⟨rs,ds',h1,fun r hr=>h.h _ _ _ (h2 r hr),h3,Dfr.ext h h4⟩
   ·rw[Dfr.of_one hd] at q ⊢
    obtain⟨r,ds',h1,h2,h3⟩:=q
    exact⟨r,ds',h.f _ _ h1,h2,Dfr.ext h h3⟩
structure Beg (ρ:Env) (st:St) (σ:As) (a:Act) (W:World):Prop where
 rel:RelM ρ σ st.mem W
 tm:DL (V.den ρ σ) st.tm a.tmps.toList
 df:Dfr σ st.df a.defers
structure Fin (ρ:Env) (σ:As) (W:World) (mem:Mem) (nx:Nat) (st':St) (σ':As) (a':Act) (W':World):Prop where
 step:∃ws,st'.mem=ws++mem∧Step ρ σ W ws σ' W'
 new:New nx st'.nx σ σ'
 le:nx≤st'.nx
 tm:DL (V.den ρ σ') st'.tm a'.tmps.toList
 df:Dfr σ' st'.df a'.defers
section
variable {P:Program} {ρ:Env} {σ σ' σ'':As}
theorem New.refl(nx n:Nat)(σ:As):New nx n σ σ:=fun _ h=> .inl h
theorem New.trans{a b c:Nat}(h:New a b σ σ')(hab:a≤b)(hbc:b≤c)(k:New b c σ' σ''):New a c σ σ'':=by
 intro i hi
 rcases k i hi with h1 | ⟨h1,h2⟩
 ·rcases h i h1 with h3 | ⟨h3,h4⟩
  ·exact .inl h3
  ·exact .inr ⟨h3,by omega⟩
 ·exact .inr ⟨by omega,h2⟩
theorem Fr.after{a b c:Nat}(h:Fr a c σ)(hab:a≤b)(k:New a b σ σ'):Fr b c σ':=by
 intro i h1 h2 hi
 rcases k i hi with h3 | ⟨_,h4⟩
 ·exact h i (by omega) h2 h3
 ·omega
theorem Fr.less{a b c:Nat}(h:Fr a c σ)(hbc:b≤c):Fr a b σ:=fun i h1 h2=>h i h1 (by omega)
theorem Fin.beg{W W':World}{mem:Mem}{nx:Nat}{st':St}{a':Act}(hr:RelM ρ σ mem W)(h:Fin ρ σ W mem nx st' σ' a' W'):Beg ρ st' σ' a' W':=by
 obtain⟨ws,e,s⟩:=h.step
 exact⟨by rw[e];exact hr.step s,h.tm,h.df⟩
theorem Fin.trans{W W1 W2:World}{mem:Mem}{nx:Nat}{s1 s2:St}{a1 a2:Act}(hr:RelM ρ σ mem W)(h:Fin ρ σ W mem nx s1 σ' a1 W1)(k:Fin ρ σ' W1 s1.mem s1.nx s2 σ'' a2 W2):Fin ρ σ W mem nx s2 σ'' a2 W2:=by
 obtain⟨ws,e,s⟩:=h.step
 obtain⟨ws',e',s'⟩:=k.step
 exact⟨⟨ws'++ws,by rw[e',e,List.append_assoc],Step.trans (fun i k hi=>hr.lt i k hi) hr.inj s s'⟩,h.new.trans h.le k.le k.new,Nat.le_trans h.le k.le,k.tm,k.df⟩
theorem Fin.refl{W:World}{st:St}{a:Act}(h:Beg ρ st σ a W):Fin ρ σ W st.mem st.nx st σ a W:=
 ⟨⟨[],rfl,Step.refl _ _ _⟩,New.refl _ _ _,Nat.le_refl _,h.tm,h.df⟩
theorem Fin.ext{W W':World}{mem:Mem}{nx:Nat}{st':St}{a':Act}(h:Fin ρ σ W mem nx st' σ' a' W'):Ext σ σ':=by
 obtain⟨ws,_,s⟩:=h.step
 exact s.ext
theorem a4n{r:Option Nat}(hr:∀id,r=some id→∃l,σ id=some l)(h:Ext σ σ'):FR (r.bind σ')=FR (r.bind σ):=by
 cases r with
 | none=>rfl
 | some id=>
   obtain⟨l,hl⟩:=hr id rfl
   simp only[Option.bind_some,hl,h.f _ _ hl]
theorem a4v{r:Option Nat}(hr:∀id,r=some id→∃l,σ id=some l)(h:Ext σ σ'):∀id,r=some id→∃l,σ' id=some l:=
 fun id e=>let ⟨l,hl⟩:=hr id e;⟨l,h.f _ _ hl⟩
theorem E2{tm:List V}{a:Act}(h:DL (V.den ρ σ) tm a.tmps.toList)(x:Operand):(G2 tm x).den ρ σ (a.eval x):=by
 cases x with
 | tmp t=>
   simp only[G2,Act.eval]
   rcases Nat.lt_or_ge t tm.length with q | q
   ·obtain⟨v,h1,h2⟩:=h.get (List.getElem?_eq_getElem q)
    rw[List.getD_eq_getElem?_getD,List.getElem?_eq_getElem q]
    have:a.tmps.getD t undef=v:=by
     rw[Array.getD_eq_getD_getElem?,←Array.getElem?_toList,h1];rfl
    rw[this]
    exact h2
   ·rw[List.getD_eq_getElem?_getD,List.getElem?_eq_none q]
    trivial
 | const v=>exact a4T v
 | global g=>trivial
 | func f=>exact⟨[],trivial,rfl⟩
theorem R0{tm:List V}{a:Act}{v:V}{u:Value}(h:DL (V.den ρ σ) tm a.tmps.toList)(hv:v.den ρ σ u)(d:Option Tmp):DL (V.den ρ σ) (B5 tm d v) (a.put d u).tmps.toList:=by
 cases d with
 | none=>exact h
 | some d=>
   simp only[B5,Act.put,Array.toList_setIfInBounds]
   exact h.set d hv
theorem L4(a:Act)(d:Option Tmp)(u:Value):(a.put d u).defers=a.defers:=by cases d<;>rfl
theorem a6k:(V.tup []).den ρ σ undef:=⟨[],trivial,rfl⟩
theorem a0y{ops:Array Oper}{tm:List V}{o:Oper}{c:Bool}{a:Act}(h:Z7 ops tm o=some c)(ht:DL (V.den ρ σ) tm a.tmps.toList):Region.wanted o (yielded ops a.tmps)=c:=by
 unfold Z7 at h
 unfold Region.wanted
 split at h
 ·rename_i hg
  simp only[Option.some.injEq] at h
  rw[hg,←h]
 ·rename_i j want hg
  rw[hg]
  split at h
  ·rename_i d hd
   split at h
   ·rename_i b hb
    simp only[Option.some.injEq] at h
    obtain⟨v,h1,h2⟩:=ht.get hb
    obtain rfl:v= .bool b:=h2
    have:yielded ops a.tmps j=some b:=by
     unfold yielded
     rw[hd]
     simp only[Option.bind_some]
     rw[←Array.getElem?_toList,h1]
    show(yielded ops a.tmps j == some want)=c
    rw[this,←h]
    cases b<;>cases want<;>rfl
   ·rename_i hb
    simp only[Option.some.injEq] at h
    obtain⟨v,h1,vs,h2,rfl⟩:=ht.get hb
    have:yielded ops a.tmps j=none:=by
     unfold yielded
     rw[hd]
     simp only[Option.bind_some]
     rw[←Array.getElem?_toList,h1]
    show(yielded ops a.tmps j == some want)=c
    rw[this,←h]
    rfl
   ·simp at h
  ·simp at h
theorem O9{g:Bool}{t:T i8}{q:i8}(h:(t.bind (a4p g)).res ρ q):∃q0,t.res ρ q0∧q.2=q0.2∧∀(σ:As) (u:Value),q0.1.den ρ σ u→q.1.den ρ σ u:=by
 obtain⟨q0,h1,h2⟩:=T.res_bind h
 refine⟨q0,h1,?_⟩
 unfold a4p at h2
 split at h2
 ·rename_i b ws nx
  rcases T.res_iteS h2 with ⟨hb,e⟩ | ⟨hb,e⟩
  ·simp only[T.res] at e
   subst e
   refine⟨rfl,fun σ u hu=> ?_⟩
   obtain rfl:u= .bool (b.ev ρ):=hu
   exact C1 hb.symm
  ·simp only[T.res] at e
   subst e
   refine⟨rfl,fun σ u hu=> ?_⟩
   obtain rfl:u= .bool (b.ev ρ):=hu
   exact C1 hb.symm
 ·simp only[T.res] at h2
  subst h2
  exact⟨rfl,fun _ _ h=>h⟩
theorem a1E{nx:Nat}{r:PR}{q:i8}(h:(b2O nx r).res ρ q):∃obs v,r=some (obs,v)∧(∀o∈obs,o.ok ρ)∧q=(v,[],nx):=by
 cases r with
 | none=>exact h.elim
 | some p=>
   obtain⟨obs,v⟩:=p
   obtain⟨h1,h2⟩:=T.res_obs h
   exact⟨obs,v,rfl,h1,h2⟩
section
variable (P:Program) (ρ:Env) (ct:Ct) (lt:Lt)
def C9(n:Nat):Prop:=∀h r c st p,(code P ct lt n h r c st).res ρ p→∀σ a W,Beg ρ st σ a W→Fr st.nx p.2.nx σ→(∀id,r=some id→∃l,σ id=some l)→
 ∀Q:Exit→Act→World→Prop,(∀a' W' σ',Fin ρ σ W st.mem st.nx p.2 σ' a' W'→Q p.1.toExit a' W')→c.wpIn (FR (r.bind σ)) 0 P Q a W
def a3L(n:Nat):Prop:=∀h r b st p,(code P ct lt n h r (.loop b) st).res ρ p→∃k,∀σ a W,Beg ρ st σ a W→Fr st.nx p.2.nx σ→(∀id,r=some id→∃l,σ id=some l)→
 ∀Q:Exit→Act→World→Prop,(∀a' W' σ',Fin ρ σ W st.mem st.nx p.2 σ' a' W'→Q p.1.toExit a' W')→Code.roundsIn (FR (r.bind σ)) 0 P b Q k a W
def a0Q(n:Nat):Prop:=∀r lid st p,(E7 P ct lt n r lid st).res ρ p→∀σ a W l,Beg ρ st σ a W→Fr st.nx p.2.nx σ→(∀id,r=some id→∃l,σ id=some l)→σ lid=some l→
 ∀Q:Exit→Act→World→Prop,(∀a' W' σ',Fin ρ σ W st.mem st.nx p.2 σ' a' W'→Q p.1.toExit a' W')→
 ∃jump W4,(Instr.endLoop l).run P W= .ok jump W4∧(match jump with | none=>Q .normal a W4 | some c=>c.wpIn (FR (r.bind σ)) 0 P Q a W4)
def a1g(n:Nat):Prop:=∀r ops i st s',(G8 P ct lt n r ops i st).res ρ s'→∀σ a W,Beg ρ st σ a W→Fr st.nx s'.nx σ→
 ∀(ro:Option Nat) (Q:Exit→Act→World→Prop),(∀a' W' σ',Fin ρ σ W st.mem st.nx s' σ' a' W'→Q .normal a' W')→RegIn ro P ops Q (List.range' i (ops.size-i)) a W
def a3X(n:Nat):Prop:=∀r ops st s',(A3 P ct lt n r ops 0 st []).res ρ s'→∀σ a W,Beg ρ st σ a W→Fr st.nx s'.nx σ→
 ∀(ro:Option Nat) (Q:Exit→Act→World→Prop),(∀a' W' σ',Fin ρ σ W st.mem st.nx s' σ' a' W'→Q .normal a' W')→wpAnyIn (FR ro) 0 P .any ops Q ops.size (Array.replicate ops.size false) a W
def a0i(n:Nat):Prop:=∀o g mem nx q,(oper P ct lt n o g mem nx).res ρ q→∀σ a W,RelM ρ σ mem W→Fr nx q.2.2 σ→(∀x∈o.op.operands,(g x).den ρ σ (a.eval x))→
 ∀(ro:Option Nat) (K:Act→World→Prop) (Q:Exit→Act→World→Prop),(∀u W' σ',q.1.den ρ σ' u→Step ρ σ W q.2.1 σ' W'→New nx q.2.2 σ σ'→K (a.put o.dst u) W')→o.wpIn (FR ro) 0 P a W K Q
def A8(σ:As)(W:World)(nx:Nat)(q:i8)(e:Ending)(W':World):Prop:=∃u σ',e= .returned u∧q.1.den ρ σ' u∧Step ρ σ W q.2.1 σ' W'∧New nx q.2.2 σ σ'
def a5A(n:Nat):Prop:=∀lid args mem nx q,(round P ct lt n lid args mem nx).res ρ q→∀σ W vals l,RelM ρ σ mem W→Fr nx q.2.2 σ→DL (V.den ρ σ) args vals→σ lid=some l→∀ro:Option Nat,
 ∃rec:Loop,W.heap[l]? = some (.loop rec)∧vals.length=rec.params.size∧
  RoundIn (FR ro) 0 P l rec.fn ((rec.params.zip vals.toArray).foldl (fun tmps (p:Tmp×Value)=>tmps.setIfInBounds p.1 p.2) rec.tmps) rec.assign rec.body W (A8 ρ σ W nx q)
def i4(f:FuncId)(c:List V→Mem→Nat→T i8):Prop:=∀args mem nx q,(c args mem nx).res ρ q→nx≤q.2.2→∀σ W vals,RelM ρ σ mem W→Fr nx q.2.2 σ→DL (V.den ρ σ) args vals→
 CallsIn (FR none) 0 P f vals.toArray W (A8 ρ σ W nx q)
def CtOk:Prop:=∀f c,ct.find f=some c→i4 P ρ f c
def a4y(n:Nat):Prop:=∀f args mem nx q,(call P ct lt n f args mem nx).res ρ q→∀σ W vals,RelM ρ σ mem W→Fr nx q.2.2 σ→DL (V.den ρ σ) args vals→
 CallsIn (FR none) 0 P f vals.toArray W (A8 ρ σ W nx q)
end
theorem u5{o:Oper}{a:Act}{W W':World}{K:Act→World→Prop}{Q:Exit→Act→World→Prop}{ro:Option Nat}{u:Value}(hd:∀c,o.op≠ .defer c)(h:(execOp a.eval o).run P W= .ok (.value u) W')(hk:K (a.put o.dst u) W'):
 o.wpIn (FR ro) 0 P a W K Q:=by
 refine⟨fun _ _=>trivial,?_⟩
 rw[Oper.semAt_eq _ _ _ hd]
 show o.uponIn _ _ _ _ _ _ ((execOp a.eval o).run P W)
 rw[h]
 exact hk
theorem a7o{o:Oper}{a:Act}{W W':World}{K:Act→World→Prop}{Q:Exit→Act→World→Prop}{ro:Option Nat}(hd:∀c,o.op≠ .defer c)(h:(execOp a.eval o).run P W= .ok .skip W')(hk:K (a.put o.dst undef) W'):
 o.wpIn (FR ro) 0 P a W K Q:=by
 refine⟨fun _ _=>trivial,?_⟩
 rw[Oper.semAt_eq _ _ _ hd]
 show o.uponIn _ _ _ _ _ _ ((execOp a.eval o).run P W)
 rw[h]
 exact hk
theorem P0{o:Oper}{a:Act}{W W':World}{K:Act→World→Prop}{Q:Exit→Act→World→Prop}{ro:Option Nat}{f:FuncId}{args:Array Value}(hd:∀c,o.op≠ .defer c)(h:(execOp a.eval o).run P W= .ok (.enter f args) W'){nx:Nat}{q:i8}
 (hc:CallsIn (FR none) 0 P f args W' (A8 ρ σ W nx q)) (hk:∀u W' σ',q.1.den ρ σ' u→Step ρ σ W q.2.1 σ' W'→New nx q.2.2 σ σ'→K (a.put o.dst u) W'):
 o.wpIn (FR ro) 0 P a W K Q:=by
 refine⟨fun _ _=>trivial,?_⟩
 rw[Oper.semAt_eq _ _ _ hd]
 show o.uponIn _ _ _ _ _ _ ((execOp a.eval o).run P W)
 rw[h]
 refine⟨fun h=>by simp [FR] at h,?_⟩
 have hc':CallsIn (FR ro) (0-1) P f args W' (A8 ρ σ W nx q):=hc
 refine hc'.mono ?_
 rintro e w ⟨u,σ',rfl,h1,h2,h3⟩
 exact hk u w σ' h1 h2 h3
theorem a8X{o:Oper}{a:Act}{W W':World}{K:Act→World→Prop}{Q:Exit→Act→World→Prop}{ro:Option Nat}{l:Nat}{f:FuncId}{tmps:Array Value}{asg body:Code}(hd:∀c,o.op≠ .defer c)
 (h:(execOp a.eval o).run P W= .ok (.round l f tmps asg body) W') {nx:Nat} {q:i8}
 (hc:RoundIn (FR ro) 0 P l f tmps asg body W' (A8 ρ σ W nx q)) (hk:∀u W' σ',q.1.den ρ σ' u→Step ρ σ W q.2.1 σ' W'→New nx q.2.2 σ σ'→K (a.put o.dst u) W'):
 o.wpIn (FR ro) 0 P a W K Q:=by
 refine⟨fun _ _=>trivial,?_⟩
 rw[Oper.semAt_eq _ _ _ hd]
 show o.uponIn _ _ _ _ _ _ ((execOp a.eval o).run P W)
 rw[h]
 refine⟨fun h=>by simp [FR] at h,?_⟩
 refine RoundIn.mono (n:=0-1) hc ?_
 rintro e w ⟨u,σ',rfl,h1,h2,h3⟩
 exact hk u w σ' h1 h2 h3
end
end Go.Proofs.YtbbjlleaofgddaaGreat
namespace Go.Proofs.YtbbjlleaofgddaaGreat
open Go.RowKit
section
variable {P:Program} {ct:Ct} {lt:Lt} {ρ:Env} {σ:As}
theorem a2d{f:FuncId}{fn:Func}(hf:P.funcs[f]? = some fn) (hn:(fn.name == "runtime.NumGoroutine")=false) {c:Code} (hb:fn.body=some c) (args:Array Value) (W:World):
 (callFunc f args).run P W= .ok (.enter f args) W:=by
 have hn':¬fn.name= "runtime.NumGoroutine" := by simpa using hn
 simp [callFunc,hf,hn',hb]
def Z5(P:Program)(f:FuncId):Prop:=∀args W,(callFunc f args).run P W= .ok (.enter f args) W
def O1(P:Program)(ct:Ct):Prop:=∀f c,ct.find f=some c→Z5 P f
theorem F9(hce:O1 P ct):∀ {n:Nat} {f:FuncId} {args:List V} {mem:Mem} {nx:Nat} {q:i8},(call P ct lt n f args mem nx).res ρ q→Z5 P f
 | 0,_,_,_,_,_,h=>by simp [call,T.res] at h
 | n+1,f,args,mem,nx,q,h=>by
   simp only[call] at h
   split at h
   ·rename_i c hc
    exact hce f c hc
   ·split at h
    ·exact h.elim
    ·rename_i fn hf
     split at h
     ·exact h.elim
     ·rename_i hn
      split at h
      ·exact h.elim
      ·rename_i c hb
       intro args W
       exact a2d hf (by simpa using hn) hb args W
theorem b0L{f:FuncId}{cap:List (Nat×Nat)}{u:Value}(h:(V.s0 (.clo f cap)).den ρ σ u):∃vs,DL (capDen σ) cap vs∧u= .func (.func f) #[] vs.toArray:=h
theorem a5B{cap:List (Nat×Nat)}:∀ {vs:List Value},DL (capDen σ) cap vs→DL (V.den ρ σ) (cap.map fun p=> .s0 (.ptr p.1 p.2)) vs:=by
 induction cap with
 | nil=>intro vs h;rw[DL.nil_inv h];trivial
 | cons p cap ih=>
   intro vs h
   obtain⟨v,vs',rfl,h1,h2⟩:=DL.cons_inv h
   exact⟨h1,ih h2⟩
theorem a1j{t:TypeId}{name:String}{f:FuncId}(h:M5 P t name=some f)(n:Nat)(v:Value)(W:World):(method (n+1) t v name).run P W= .ok (f,v) W:=by
 unfold M5 at h
 split at h
 ·rename_i i d hi hu
  split at h
  ·rename_i m hm
   split at h
   ·rename_i hp
    simp only[Array.isEmpty_iff] at hp
    have hti:(typeInfo t).run P W= .ok i W:=by simp [typeInfo,hi]
    split at h
    ·rename_i f' pr hf
     split at h
     ·rename_i hpr
      simp only[Option.some.injEq] at h
      subst h
      have e1:(receiverAt t (.val v) pr (some ((name.splitOn ".").getLastD name))).run P W= .ok v W:=by
       subst hpr
       cases d<;>simp [receiverAt,run_underlying hu,Place.get,a1L]
      simp [method,hti,hm,hp,follow,hf]
      simp at e1
      rw[e1]
      rfl
     ·simp at h
    ·simp at h
   ·simp at h
  ·simp at h
 ·simp at h
theorem b0a{t:TypeId}(h:b2Z P t=true)(v:Value)(W:World):(receiverVia t v #[] false).run P W= .ok v W:=by
 unfold b2Z at h
 split at h
 ·rename_i d hd
  have:(receiverAt t (.val v) false none).run P W= .ok v W:=by
   cases d<;>simp [receiverAt,run_underlying hd,Place.get,a1L] at h ⊢
  simp [receiverVia,follow]
  exact this
 ·simp at h
theorem a3A{α:Type}{x y:α}(h:(T.ret x).res ρ y):y=x:=by simp only[T.res] at h;exact h
theorem b9Y(hce:O1 P ct)(n:Nat)(hcall:a4y P ρ ct lt n)(hround:a5A P ρ ct lt n):a0i P ρ ct lt (n+1):=by
 intro o g mem nx q h σ a W hr ht hg ro K Q hK
 have hpure:∀obs v,a1R P g o.op=some (obs,v)→(∀o∈obs,o.ok ρ)→q=(v,[],nx)→(∀c,o.op≠ .defer c)→o.wpIn (FR ro) 0 P a W K Q:=by
  intro obs v h1 h2 h3 hd
  subst h3
  obtain⟨u,h4,h5⟩:=a7S (σ:=σ) (ev:=a.eval) h1 h2 hg W
  exact u5 hd h4 (hK u W σ h5 (Step.refl _ _ _) (New.refl _ _ _))
 simp only[oper] at h
 split at h
 ·
  rename_i t ho
  split at h
  ·rename_i z hz
   unfold zeroCells at hz
   split at hz
   ·rename_i i hi
    simp only[Option.map_eq_some_iff] at hz
    obtain⟨zv,hzv,rfl⟩:=hz
    have hrun:(execOp a.eval o).run P W= .ok (.value (.pointer (some ⟨W.heap.size,0,none⟩))) (W.alloc (.cells zv.cells t)):=by
     obtain⟨dst,op,ty,pos,after,guard⟩:=o
     simp only at ho
     subst ho
     refine(a4E ?_)
     simp [Instr.alloc,zeroValue,typeInfo,hi,hzv,newVar,newRow,run_newObj_alloc]
    split at h
    ·obtain⟨σ',k1,k2,k3⟩:=a5L (i:=i) h hr ht
     exact u5 (by rw[ho];simp) hrun (hK _ _ _ k1 k2 k3)
    obtain rfl:=a3A h
    obtain⟨s1,s2⟩:=I6 (ρ:=ρ) (nx:=nx) (ht nx (Nat.le_refl _) (Nat.lt_succ_self _)) (fun i a hi=>hr.lt i a hi) (b:= .cells t (E6 zv).cells) (o:= .cells zv.cells t) ⟨W.heap.size,As.put_self,zv.cells.toList,J8 zv,by rw[F4]⟩
    exact u5 (by rw[ho];simp) hrun (hK _ _ _ ⟨W.heap.size,As.put_self,rfl⟩ s1 s2)
   ·simp at hz
  ·exact h.elim
 ·
  rename_i t x ho
  split at h
  ·rename_i v hv
   split at h
   ·rename_i hs
    simp only[T.res] at h
    subst h
    have hx:=hg x (by rw[ho];simp [Op.operands])
    rw[hv] at hx
    have hrun:(execOp a.eval o).run P W= .ok (.value (.pointer (some ⟨W.heap.size,0,none⟩))) (W.alloc (.cells (a.eval x).cells t)):=by
     obtain⟨dst,op,ty,pos,after,guard⟩:=o
     simp only at ho
     subst ho
     refine(a4E ?_)
     simp [Instr.box,newVar,newRow,run_newObj_alloc]
    have hext:=a0k (a:=W.heap.size) (ht nx (Nat.le_refl _) (Nat.lt_succ_self _))
    obtain⟨s1,s2⟩:=I6 (ρ:=ρ) (nx:=nx) (ht nx (Nat.le_refl _) (Nat.lt_succ_self _)) (fun i a hi=>hr.lt i a hi) (b:= .cells t v.cells) (o:= .cells (a.eval x).cells t) ⟨W.heap.size,As.put_self,(a.eval x).cells.toList,(J2 hs hx).mono (S.den_ext hext),by rw[F4]⟩
    exact u5 (by rw[ho];simp) hrun (hK _ _ _ ⟨W.heap.size,As.put_self,rfl⟩ s1 s2)
   ·exact h.elim
  ·exact h.elim
 ·
  rename_i t x ho
  obtain⟨obs,v,h1,h2,rfl⟩:=a1E h
  obtain⟨u,h3,h4⟩:=a2T h1 (hg x (by rw[ho];simp [Op.operands])) hr
  have hrun:(execOp a.eval o).run P W= .ok (.value u) W:=by
   obtain⟨dst,op,ty,pos,after,guard⟩:=o
   simp only at ho
   subst ho
   exact A7 h3
  exact u5 (by rw[ho];simp) hrun (hK u W σ h4 (Step.refl _ _ _) (New.refl _ _ _))
 ·
  rename_i t x y ho
  obtain⟨W',h1,h2,h3,h4⟩:=a8j h (hg x (by rw[ho];simp [Op.operands])) (hg y (by rw[ho];simp [Op.operands])) hr
  have hrun:(execOp a.eval o).run P W= .ok .skip W':=by
   obtain⟨dst,op,ty,pos,after,guard⟩:=o
   simp only at ho
   subst ho
   simp [execOp,h1]
  exact a7o (by rw[ho];simp) hrun (hK undef W' σ (by rw[h2];trivial) h3 (New.refl _ _ _))
 ·
  rename_i c x y ho
  split at h
  ·rename_i b hb
   have hc:=hg c (by rw[ho];simp [Op.operands])
   rw[hb] at hc
   have hc':a.eval c= .bool (b.ev ρ):=hc
   have hrun:(execOp a.eval o).run P W= .ok (.value (if b.ev ρ then a.eval x else a.eval y)) W:=by
    obtain⟨dst,op,ty,pos,after,guard⟩:=o
    simp only at ho
    subst ho
    simp [execOp,hc',asBool]
   rcases T.res_iteS h with ⟨hb,e⟩ | ⟨hb,e⟩
   ·simp only[T.res] at e
    subst e
    exact u5 (by rw[ho];simp) hrun (hK _ W σ (by rw[hb];exact hg x (by rw[ho];simp [Op.operands])) (Step.refl _ _ _) (New.refl _ _ _))
   ·simp only[T.res] at e
    subst e
    exact u5 (by rw[ho];simp) hrun (hK _ W σ (by rw[hb];exact hg y (by rw[ho];simp [Op.operands])) (Step.refl _ _ _) (New.refl _ _ _))
  ·exact h.elim
 ·
  rename_i t len parts ho
  have hp:∀(k:Nat) (p:Nat×V) (q:Nat×Value),(parts.toList.map fun(i,x)=>(i,g x))[k]? = some p→(parts.toList.map fun(i,x)=>(i,a.eval x))[k]? = some q→p.1=q.1∧p.2.den ρ σ q.2:=fun k p q h1 h2=>by
   simp only[List.getElem?_map,Option.map_eq_some_iff] at h1 h2
   obtain⟨x,hx,rfl⟩:=h1
   obtain⟨y,hy,rfl⟩:=h2
   rw[hx] at hy
   simp only[Option.some.injEq] at hy
   subst hy
   refine⟨rfl,hg _ ?_⟩
   have:=List.mem_of_getElem? hx
   rw[ho]
   simp only[Op.operands,List.mem_toArray]
   exact List.mem_map.2 ⟨x,this,rfl⟩
  have hsound:∀q0,(a5E P nx t len (parts.toList.map fun(i,x)=>(i,g x))).res ρ q0→∃e cs ws,q0=(V.s0 (.sl nx 0 len (some len)),[(nx,.cells e cs)],nx+1)∧DL (S.den ρ σ) cs ws∧
   (execOp a.eval o).run P W= .ok (.value (.slice (some ⟨W.heap.size,0,none⟩) len len)) (W.alloc (.cells ws.toArray e)):=by
   intro q0 h
   unfold a5E at h
   split at h
   ·rename_i e hu
    split at h
    ·rename_i ie hie
     split at h
     ·rename_i z ps hz hps
      split at h
      ·exact h.elim
      ·rename_i hsm
       simp only[Bool.or_eq_true,decide_eq_true_eq,not_or,Bool.not_eq_true] at hsm
       obtain⟨hsmall,hne⟩:=hsm
       split at h
       ·rename_i cs hf
        obtain rfl:=a3A h
        have hp:PD ρ σ ps (parts.toList.map fun p=>(p.1,a.eval p.2)):=a1X hps (by simp) hp
        have hz0:DL (S.den ρ σ) (a5d (E6 z).cells (len*ie.size)) ((List.range (len*ie.size)).map fun i=>z.cells[i % z.cells.size]!):=by
         have hc:=J8 (ρ:=ρ) (σ:=σ) z
         have hlen:=hc.length
         have hpos:0<(E6 z).cells.length:=by
          cases hcc:(E6 z).cells with
          | nil=>rw[hcc] at hne;simp at hne
          | cons x l=>simp
         unfold a5d
         have key:∀l:List Nat,DL (S.den ρ σ) (l.map fun i=>(E6 z).cells.getD (i % (E6 z).cells.length) (.z .any)) (l.map fun i=>z.cells[i % z.cells.size]!):=by
          intro l
          induction l with
          | nil=>trivial
          | cons i l ih=>
            refine⟨?_,ih⟩
            have hi:=Nat.mod_lt i hpos
            obtain⟨v,h1,h2⟩:=hc.get (List.getElem?_eq_getElem hi)
            have hsz:z.cells.size=(E6 z).cells.length:=by rw[hlen];simp
            simp only
            rw[List.getD_eq_getElem?_getD,List.getElem?_eq_getElem hi,hsz,getElem!_def,←Array.getElem?_toList,h1]
            exact h2
         exact key _
        obtain⟨ws,h1,h2⟩:=P7 _ ps _ _ _ cs hf hp hz0
        have hrun:(execOp a.eval o).run P W= .ok (.value (.slice (some ⟨W.heap.size,0,none⟩) len len)) (W.alloc (.cells ws.toArray e)):=by
         obtain⟨dst,op,ty,pos,after,guard⟩:=o
         simp only at ho
         subst ho
         refine a4E ?_
         have h1':Instr.fill (fun i=>some (i*ie.size,ie.size)) ((Array.range (len*ie.size)).map fun i=>z.cells[i % z.cells.size]!) (parts.map fun(p:Nat×Operand)=>(p.1,a.eval p.2)).toList=some ws.toArray:=by
          rw[←h1]
          congr 1
          ·rw[←Array.toArray_toList (xs:=Array.map _ _)];simp
          ·simp
         by_cases h0:len*ie.size=0
         ·have hz':(if len*ie.size=0 then(#[]:Array Value) else z.cells)= #[]:=by simp [h0]
          have e0:((Array.range (len*ie.size)).map fun i=>z.cells[i % z.cells.size]!)=((Array.range (len*ie.size)).map fun i=>(#[]:Array Value)[i % (#[]:Array Value).size]!):=by rw[h0];simp
          rw[e0] at h1'
          unfold Instr.buildSlice
          simp only[Sem.run_bind,run_underlying hu,Result.andThen_ok,sizeOf,typeInfo,run_program,hie,Sem.run_pure,if_neg hsmall,if_pos h0,h1',newRow,run_newObj_alloc]
         ·simp [Instr.buildSlice,run_underlying hu,sizeOf,typeInfo,zeroValue,hie,hz,hsmall,h0,newRow] at h1' ⊢
          simp [h1',run_newObj_alloc]
        exact⟨e,cs,ws,rfl,h2,hrun⟩
       ·exact h.elim
     ·exact h.elim
    ·exact h.elim
   ·exact h.elim
  split at h
  ·obtain⟨q0,h1,h2⟩:=T.res_bind h
   obtain⟨e,cs,ws,rfl,k1,hrun⟩:=hsound q0 h1
   simp only at h2
   split at h2
   ·rename_i ks hks
    split at h2
    ·rename_i hc
     simp only[Bool.and_eq_true] at hc
     obtain⟨⟨⟨c1,c2⟩,c3⟩,c4⟩:=hc
     split at h2
     ·rename_i x hx
      obtain rfl:=a3A h2
      obtain⟨s1,s2⟩:=b0i (ρ:=ρ) (nx:=nx) (ht nx (Nat.le_refl _) (Nat.lt_succ_self _)) hr (e:=e) (ks:=ks) (ws:=ws) (c1a c1) (Nat.le_of_ble_eq_true c2) (by rw[←k1.length];exact i9 c4) (V0 (y4 (W:=ρ.w) (Below.refl _ _)) ks len cs x hx ws k1 (by rw[i9 c4];exact Nat.le_refl _))
      exact u5 (by rw[ho];simp) hrun (hK _ _ _ ⟨⟨_,_,_,rfl⟩,As.say_self⟩ s1 s2)
     ·exact h2.elim
    ·exact h2.elim
   ·exact h2.elim
  ·obtain⟨e,cs,ws,rfl,h2,hrun⟩:=hsound q h
   have hext:=a0k (a:=W.heap.size) (ht nx (Nat.le_refl _) (Nat.lt_succ_self _))
   obtain⟨s1,s2⟩:=I6 (ρ:=ρ) (nx:=nx) (ht nx (Nat.le_refl _) (Nat.lt_succ_self _)) (fun i a hi=>hr.lt i a hi) (b:= .cells e cs) (o:= .cells ws.toArray e) ⟨W.heap.size,As.put_self,ws,h2.mono (S.den_ext hext),by rw[F4]⟩
   exact u5 (by rw[ho];simp) hrun (hK _ _ _ ⟨W.heap.size,As.put_self,rfl⟩ s1 s2)
 ·
  rename_i fv args ats ho
  have hfv:=hg fv (by rw[ho];simp [Op.operands,Call.operands])
  have hargs:DL (V.den ρ σ) (args.toList.map g) (args.toList.map a.eval):=R4 _ (fun x hx=>hg x (by rw[ho];simp only[Op.operands,Call.operands];simp;exact .inr (by simpa using hx)))
  split at h
  ·rename_i f cap hf
   rw[hf] at hfv
   obtain⟨vs,hvs,hfe⟩:=b0L hfv
   have hcc:=hcall f _ mem nx q h σ W _ hr ht (hargs.append (a5B hvs))
   have hrun:(execOp a.eval o).run P W= .ok (.enter f (args.toList.map a.eval++vs).toArray) W:=by
    obtain⟨dst,op,ty,pos,after,guard⟩:=o
    simp only at ho
    subst ho
    have:=F9 hce h ((args.toList.map a.eval++vs).toArray) W
    simp only[execOp,resolve,hfe,Deferred.ofValue,Sem.run_bind,Sem.run_pure,Result.andThen_ok,invoke]
    rw[←this]
    congr 2
    simp [J6]
   exact P0 (by rw[ho];simp) hrun hcc hK
  ·rename_i lid hf
   rw[hf] at hfv
   obtain⟨l,hl,hfe⟩:=hfv
   obtain⟨rec,h1,h2,h3⟩:=hround lid _ mem nx q h σ W _ l hr ht hargs hl ro
   have hrun:(execOp a.eval o).run P W= .ok (.round l rec.fn ((rec.params.zip (args.toList.map a.eval).toArray).foldl (fun tmps (p:Tmp×Value)=>tmps.setIfInBounds p.1 p.2) rec.tmps) rec.assign rec.body) W:=by
    obtain⟨dst,op,ty,pos,after,guard⟩:=o
    simp only at ho
    subst ho
    have:=run_yield (P:=P) (args:=(args.toList.map a.eval).toArray) h1 (by simpa using h2)
    simp only[execOp,resolve,hfe,Deferred.ofValue,Sem.run_bind,Sem.run_pure,Result.andThen_ok,invoke]
    rw[←this]
    congr 2
    simp [J6]
   exact a8X (by rw[ho];simp) hrun h3 hK
  ·rename_i nm t agg cs hf
   rw[hf] at hfv
   obtain⟨iv,hiv,hfe⟩:=a0R.1 hfv
   split at h
   ·rename_i f v hm hu
    obtain⟨u,hxe,hu2⟩:=T7 hu hiv
    have hcc:=hcall f _ mem nx q h σ W (u::args.toList.map a.eval) hr ht ⟨hu2,hargs⟩
    have hrun:(execOp a.eval o).run P W= .ok (.enter f (u::args.toList.map a.eval).toArray) W:=by
     obtain⟨dst,op,ty,pos,after,guard⟩:=o
     simp only at ho
     subst ho
     have:=F9 hce h (u::args.toList.map a.eval).toArray W
     have hmm:=a1j hm (P.types.size+Made.depth-1) u W
     rw[show P.types.size+Made.depth-1+1=P.types.size+Made.depth by simp [Made.depth]] at hmm
     have e2:List.take args.size (List.map a.eval args.toList)=List.map a.eval args.toList:=List.take_of_length_le (by simp)
     rw[←this]
     simp [execOp,resolve,hfe,hxe,Deferred.ofValue,invoke,callMethod,run_program,hmm,e2,J6]
    exact P0 (by rw[ho];simp) hrun hcc hK
   ·exact h.elim
  ·rename_i t f agg cs hf
   rw[hf] at hfv
   obtain⟨u,hiv,hfe⟩:=b0N.1 hfv
   split at h
   ·rename_i hv
    split at h
    case h_2=>exact h.elim
    rename_i x hux
    obtain⟨u',hxe,hu⟩:=T7 hux hiv
    cases hxe
    have hcc:=hcall f _ mem nx q h σ W (u::args.toList.map a.eval) hr ht ⟨hu,hargs⟩
    have hrun:(execOp a.eval o).run P W= .ok (.enter f (u::args.toList.map a.eval).toArray) W:=by
     obtain⟨dst,op,ty,pos,after,guard⟩:=o
     simp only at ho
     subst ho
     have:=F9 hce h (u::args.toList.map a.eval).toArray W
     have e2:List.take args.size (List.map a.eval args.toList)=List.map a.eval args.toList:=List.take_of_length_le (by simp)
     cases t with
     | some t=>
       have hmm:=b0a hv u W
       simp only[a5s] at hfe
       rw[←this]
       simp [execOp,resolve,hfe,Deferred.ofValue,invoke,hmm,e2,J6]
     | none=>
       simp only[a5s] at hfe
       rw[←this]
       simp [execOp,resolve,hfe,Deferred.ofValue,invoke,e2,J6]
    exact P0 (by rw[ho];simp) hrun hcc hK
   ·exact h.elim
  ·exact h.elim
 ·
  rename_i x name args ats ho
  have hx:=hg x (by rw[ho];simp [Op.operands,Call.operands])
  have hargs:DL (V.den ρ σ) (args.toList.map g) (args.toList.map a.eval):=R4 _ (fun y hy=>hg y (by rw[ho];simp only[Op.operands,Call.operands];simp;exact .inr (by simpa using hy)))
  split at h
  ·rename_i t agg cs hf
   rw[hf] at hx
   split at h
   ·rename_i f v hm hu
    obtain⟨u,hxe,hu2⟩:=T7 hu hx
    have hcc:=hcall f _ mem nx q h σ W (u::args.toList.map a.eval) hr ht ⟨hu2,hargs⟩
    have hrun:(execOp a.eval o).run P W= .ok (.enter f (u::args.toList.map a.eval).toArray) W:=by
     obtain⟨dst,op,ty,pos,after,guard⟩:=o
     simp only at ho
     subst ho
     have:=F9 hce h (u::args.toList.map a.eval).toArray W
     have hmm:=a1j hm (P.types.size+Made.depth-1) u W
     rw[show P.types.size+Made.depth-1+1=P.types.size+Made.depth by simp [Made.depth]] at hmm
     have e2:List.take args.size (List.map a.eval args.toList)=List.map a.eval args.toList:=List.take_of_length_le (by simp)
     rw[←this]
     simp [execOp,resolve,hxe,invoke,callMethod,run_program,hmm,e2,J6]
    exact P0 (by rw[ho];simp) hrun hcc hK
   ·exact h.elim
  ·exact h.elim
 ·
  split at h
  ·rename_i tr htr
   obtain⟨hd,u,W',σ',h1,h2,h3,h4⟩:=a9N (ev:=a.eval) htr h hg hr ht
   exact u5 hd h1 (hK u W' σ' h2 h3 h4)
  split at h
  ·rename_i tr htr
   obtain⟨hd,u,W',σ',h1,h2,h3,h4⟩:=a9b (ev:=a.eval) htr h hg hr ht
   exact u5 hd h1 (hK u W' σ' h2 h3 h4)
  split at h
  case h_2=>exact h.elim
  rename_i r hr1
  obtain⟨obs,v,h1,h2,h3⟩:=a1E h
  rw[←hr1] at h1
  refine hpure obs v h1 h2 h3 ?_
  intro c e
  rw[e] at h1
  simp [a1R] at h1
end
end Go.Proofs.YtbbjlleaofgddaaGreat
namespace Go.Proofs.YtbbjlleaofgddaaGreat
open Go.RowKit
section
variable (P:Program) (ct:Ct) (lt:Lt) (ρ:Env)
structure MonoAt (n:Nat):Prop where
 code:∀h r c st p,(code P ct lt n h r c st).res ρ p→st.nx≤p.2.nx
 rend:∀r lid st p,(E7 P ct lt n r lid st).res ρ p→st.nx≤p.2.nx
 ops:∀r ops i st s',(G8 P ct lt n r ops i st).res ρ s'→st.nx≤s'.nx
 draw:∀r ops i st log s',(A3 P ct lt n r ops i st log).res ρ s'→st.nx≤s'.nx
 oper:∀o g mem nx q,(oper P ct lt n o g mem nx).res ρ q→nx≤q.2.2
 round:∀lid args mem nx q,(round P ct lt n lid args mem nx).res ρ q→nx≤q.2.2
 call:∀f args mem nx q,(call P ct lt n f args mem nx).res ρ q→nx≤q.2.2
end
section
variable {P:Program} {ct:Ct} {lt:Lt} {ρ:Env}
theorem b0p{nx:Nat}{r:PR}{q:i8}(h:(b2O nx r).res ρ q):nx≤q.2.2:=by
 obtain⟨_,_,_,_,rfl⟩:=a1E h
 exact Nat.le_refl _
theorem b4y{mem:Mem}{nx:Nat}{t:TypeId}{p q:V}{r:i8}(h:(a1o P mem nx t p q).res ρ r):nx≤r.2.2:=by
 unfold a1o at h
 repeat' split at h
 all_goals first
  | exact h.elim
  | (obtain rfl:=g9 h;exact Nat.le_refl _)
theorem b0R{nx:Nat}{t:TypeId}{len:Nat}{parts:List (Nat×V)}{q:i8}(h:(a5E P nx t len parts).res ρ q):nx≤q.2.2:=by
 unfold a5E at h
 repeat' split at h
 all_goals first | exact h.elim | (obtain rfl:=g9 h;exact Nat.le_succ _)
theorem c3g{b:B}{t e:T (V×Mem×Nat)}{nx:Nat}{q:V×Mem×Nat}(h:(T.iteS b t e).res ρ q)(h1:t.res ρ q→nx≤q.2.2)(h2:e.res ρ q→nx≤q.2.2):nx≤q.2.2:=by
 rcases T.res_iteS h with ⟨_,h⟩ | ⟨_,h⟩
 ·exact h1 h
 ·exact h2 h
theorem b1Y{mem:Mem}{nx:Nat}{e:TypeId}{s x:S0}{q:V×Mem×Nat}(h:(a0h P mem nx e s x).res ρ q):nx≤q.2.2:=by
 unfold a0h at h
 repeat' split at h
 all_goals first
  | exact h.elim
  | (obtain⟨_,h⟩:=T.res_obs h;obtain rfl:=g9 h;first | exact Nat.le_refl _ | exact Nat.le_succ _)
  | (refine c3g h (fun h=> ?_) (fun h=> ?_)<;>first
   | (obtain rfl:=g9 h;exact Nat.le_refl _)
   | (obtain⟨_,h⟩:=T.res_obs h;obtain rfl:=g9 h;first | exact Nat.le_refl _ | exact Nat.le_succ _)
   | (obtain⟨_,h⟩:=T.res_obs h;split at h<;>(obtain rfl:=g9 h;first | exact Nat.le_refl _ | exact Nat.le_succ _)))
theorem a4K{n:E}{f:Nat→T (V×Mem×Nat)}{nx:Nat}(hf:∀j q,(f j).res ρ q→nx≤q.2.2):∀(k j:Nat) (q:V×Mem×Nat),(a0p n f k j).res ρ q→nx≤q.2.2
 | 0,j,q,h=>h.elim
 | k+1,j,q,h=>by
   rcases T.res_iteS h with ⟨_,h⟩ | ⟨_,h⟩
   ·exact hf j q h
   ·exact a4K hf k (j+1) q h
theorem b7A{mem:Mem}{nx:Nat}{g:Operand→V}{op:Op}{tr:T (V×Mem×Nat)}{q:V×Mem×Nat}(h:a4B P mem nx g op=some tr)(hr:tr.res ρ q):nx≤q.2.2:=by
 unfold a4B a0G a3K a7b a6X at h
 repeat' split at h
 all_goals first
  | cases h;done
  | (simp only[Option.some.injEq] at h
     subst h
     first
      | exact b1Y hr
      | (refine a4K (fun j q h=> ?_) _ _ _ hr
         first
          | (obtain rfl:=g9 h;exact Nat.le_refl _)
          | (split at h
             ·obtain rfl:=g9 h;exact Nat.le_refl _
             ·exact h.elim))
      | (obtain⟨_,hr⟩:=T.res_obs hr;obtain rfl:=g9 hr;first | exact Nat.le_refl _ | exact Nat.le_succ _)
      | (obtain rfl:=g9 hr;exact Nat.le_refl _))
theorem a6m{hint:Option St}{run:St→T (Ex×St)}{st:St}{p:Ex×St}(h:(a6Y hint run st).res ρ p):∃N m v q,N=1000*(st.nx+1)∧v7 N (u7 hint run st) (Y2 (u7 hint run st) st)=some m∧((u7 hint run st).df=(Y2 (u7 hint run st) st).df∧∀d∈(u7 hint run st).df,M4 d<(u7 hint run st).nx)∧m.fits ρ v∧Rounds N (u7 hint run st) (fun ρ' p=>(run (u7 hint run st)).res ρ' p) ρ v q∧p=(q.1,{ q.2 with mem:=q.2.mem++st.mem,nx:=H5 (run (u7 hint run st)) }):=by
 unfold a6Y at h
 split at h
 ·rename_i m hm
  split at h
  ·rename_i hc
   simp only[Bool.and_eq_true,List.all_eq_true] at hc
   obtain⟨v,q,h1,h2,h3⟩:=h
   exact⟨_,m,v,q,rfl,hm,⟨J7 hc.1,fun d hd=>o7 (hc.2 d hd)⟩,h1,h2,g9 h3⟩
  ·exact h.elim
 ·exact h.elim
theorem Rounds.last_res{N:Nat}{pat:St}{R:Env→Ex×St→Prop}{v:LV}{p:Ex×St}(h:Rounds N pat R ρ v p):R ρ p:=by
 induction h with
 | last _ h _=>exact h
 | next _ _ _ _ _ ih=>exact ih
theorem Rounds.last_ne{N:Nat}{pat:St}{R:Env→Ex×St→Prop}{v:LV}{p:Ex×St}(h:Rounds N pat R ρ v p):p.1≠ .normal:=by
 induction h with
 | last _ _ h=>exact h
 | next _ _ _ _ _ ih=>exact ih
theorem b7n{α:Type}{t:T α}:∀ {ρ:Env} {x:α},t.res ρ x→x∈t.ends:=by
 induction t with
 | ret a=>intro ρ x h;rw[g9 h];simp [T.ends]
 | ite b t e i1 i2=>
   intro ρ x h
   simp only[T.res] at h
   simp only[T.ends,List.mem_append]
   split at h
   ·exact .inl (i1 h)
   ·exact .inr (i2 h)
 | ob o t ih=>intro ρ x h;exact ih h.2
 | stuck s=>intro ρ x h;exact h.elim
 | loop N pat init body k ih1 ih2=>
   intro ρ x h
   obtain⟨v,p,_,h1,h2⟩:=h
   have hp:p∈body.ends∧p.1≠ .normal:=⟨ih1 h1.last_res,h1.last_ne⟩
   simp only[T.ends,List.mem_flatMap]
   refine⟨p,hp.1,?_⟩
   split
   ·rename_i e;exact absurd e hp.2
   ·exact ih2 p h2
theorem b5y(l:List (Ex×St)):∀(n:Nat),n≤l.foldl (fun n p=>max n p.2.nx) n∧∀p∈l,p.2.nx≤l.foldl (fun n p=>max n p.2.nx) n:=by
 induction l with
 | nil=>intro n;simp
 | cons q l ih=>
   intro n
   obtain⟨h1,h2⟩:=ih (max n q.2.nx)
   refine⟨Nat.le_trans (Nat.le_max_left ..) h1,fun p hp=> ?_⟩
   rcases List.mem_cons.1 hp with e | hp
   ·subst e;exact Nat.le_trans (Nat.le_max_right ..) h1
   ·exact h2 p hp
theorem U2{t:T (Ex×St)}{ρ:Env}{p:Ex×St}(h:t.res ρ p):p.2.nx≤H5 t:=(b5y t.ends 0).2 p (b7n h)
theorem a3I{N nx:Nat}{m:Asg}{x y:V}:∀ {a b:List V},B6 N nx m (a++[x]) (b++[y])=true→a8W N nx m x y=true
 | [],[],h=>by simp only[List.nil_append,B6,Bool.and_eq_true] at h;exact h.1
 | [],[_],h=>by simp [B6] at h
 | [],_::_::_,h=>by simp [B6] at h
 | [_],[],h=>by simp [B6] at h
 | _::_::_,[],h=>by simp [B6] at h
 | _::a,_::b,h=>by
   simp only[List.cons_append,B6,Bool.and_eq_true] at h
   exact a3I h.2
theorem b3e{N:Nat}{pat st:St}{m:Asg}(h:v7 N pat st=some m):B6 N pat.nx m pat.tm st.tm=true:=by
 unfold v7 at h
 simp only at h
 split at h
 ·rename_i hc
  simp only[Option.some.injEq] at h
  subst h
  simp only[Bool.and_eq_true] at hc
  exact hc.1.1.1
 ·cases h
theorem b4W{N:Nat}{m:Asg}{v':LV}{tm tm':List V}{pat s:St}(h:v7 N { pat with tm:=tm++[V.v (.one (.z (.bool (.var N))))] } { s with tm:=tm'++[V.v (.one (.z (.bool (.lit true))))] }=some m)(hf:m.fits ρ v'):v'.b 0=true:=by
 have h1:=a3I (b3e h)
 have h2:okB N m (.var N) (.lit true)=true:=by simpa [a8W,b2d,b8e,okS,a5m] using h1
 unfold okB at h2
 simp only[Nat.ble_eq_true_of_le (Nat.le_refl N),if_true,Nat.sub_self] at h2
 split at h2
 ·rename_i e' he
  rw[hf.b _ _ he,B.same_eq _ _ h2]
  simp [B.ev]
 ·cases h2
theorem a6s{df:List Nat}{q p:Ex×St}(h:(b1O df q).res ρ p):(q.1= .normal∧q.2.df=df∧p=(.normal,{ q.2 with tm:=q.2.tm++[V.v (.one (.z (.bool (.lit true))))] }))∨(q.1≠ .normal∧q.1.isJoin=false∧p=q):=by
 unfold b1O at h
 split at h
 ·rename_i e
  split at h
  ·rename_i hdf;exact .inl ⟨e,J7 hdf,g9 h⟩
  ·exact h.elim
 ·rename_i id e
  split at h
  ·exact h.elim
  ·rename_i hne
   exact .inr ⟨by rw[e];simp,by rw[e];exact Bool.eq_false_iff.2 hne,g9 h⟩
 ·rename_i h1 h2
  refine .inr ⟨h1,?_,g9 h⟩
  cases hq:q.1 with
  | exit id=>exact absurd hq (h2 id)
  | _=>rfl
set_option maxRecDepth 4000 in
theorem a6n{hint:Option St}{st:St}{t:T (Ex×St)}{p:Ex×St}(h:(Z0 hint st t).res ρ p):a7d (1000*(st.nx+1)) st=true∧
 ((t.res ρ p∧p.1≠ .normal)∨(∃v0 q0 m v',t.res (ρ.put (1000*(st.nx+1)) v0) q0∧(q0.1= .normal∧q0.2.df=st.df)∧
   v7 (1000*(st.nx+1)) { s6 hint (1000*(st.nx+1)) st t with tm:=(s6 hint (1000*(st.nx+1)) st t).tm++[V.v (.one (.z (.bool (.var (1000*(st.nx+1))))))] } { q0.2 with tm:=q0.2.tm++[V.v (.one (.z (.bool (.lit true))))] }=some m∧
   m.fits (ρ.put (1000*(st.nx+1)) v0) v'∧ρ.put (1000*(st.nx+1)) v'=ρ∧p=(.normal,{ s6 hint (1000*(st.nx+1)) st t with mem:=(s6 hint (1000*(st.nx+1)) st t).mem++st.mem,nx:=H5 t }))):=by
 unfold Z0 at h
 split at h
 ·rename_i hl
  refine⟨hl,?_⟩
  obtain⟨v0,q,hfit,hr,hk⟩:=h
  have hv0:v0.b 0=false:=hfit.b 0 (.lit false) rfl
  have hb:∀v:LV,(ρ.put (1000*(st.nx+1)) v).b (1000*(st.nx+1))=v.b 0:=fun v=>by simp [Env.put]
  have hret:∀ {q:Ex×St},q.1.isJoin=false→(if q.1.isJoin=true then T.ret (Ex.normal,q.2) else T.ret q).res ρ p→p=q:=fun e h=>by
   rw[e] at h;exact g9 h
  cases hr with
  | last hv hR hne=>
    have e:=hb v0
    rw[hv,hv0] at e
    simp only[T.res,B.ev,e,Bool.false_eq_true,if_false] at hR
    obtain⟨q0,h1,h2⟩:=T.res_bind hR
    rcases a6s h2 with ⟨_,_,h3⟩ | ⟨h3,h4,h5⟩
    ·rw[h3] at hne;exact absurd rfl hne
    ·subst h5
     obtain rfl:=hret h4 hk
     exact .inl ⟨h1,h3⟩
  | next hR hno hm hfit' hr2=>
    simp only[T.res,B.ev,hb,hv0,Bool.false_eq_true,if_false] at hR
    obtain⟨q0,h1,h2⟩:=T.res_bind hR
    rcases a6s h2 with ⟨h3,hdf,h4⟩ | ⟨h3,_,h5⟩
    ·subst h4
     have hv':=b4W hm hfit'
     refine .inr ⟨v0,q0,_,_,h1,⟨h3,hdf⟩,hm,hfit',?_⟩
     cases hr2 with
     | last hv hR hne=>
       have e:ρ.b (1000*(st.nx+1))=true:=by rw[←hv,hb,hv']
       simp only[T.res,B.ev,e,if_true] at hR
       subst hR
       refine⟨hv,?_⟩
       have:(Ex.exit W6).isJoin=true:=Nat.beq_refl W6
       simp only[this,if_true] at hk
       exact g9 hk
     | next hR hno=>
       simp only[T.res,B.ev,hb,hv',if_true] at hR
       rw[hR] at hno
       cases hno
    ·subst h5;exact absurd hno h3
 ·exact h.elim
theorem a0H{hint:Option St}{st:St}{t:T (Ex×St)}{p:Ex×St}(ht:∀ρ q,t.res ρ q→st.nx+1≤q.2.nx)(h:(Z0 hint st t).res ρ p):st.nx≤p.2.nx:=by
 obtain⟨_,h | ⟨v0,q0,m,v',h1,h2,h3,h4,_,rfl⟩⟩:=a6n h
 ·have:=ht _ _ h.1;omega
 ·have e1:=ht _ _ h1
  have e2:=U2 h1
  show st.nx≤H5 t
  omega
theorem a0L(n:Nat):∀ρ:Env,MonoAt P ct lt ρ n:=by
 induction n with
 | zero=>
   intro ρ
   exact⟨fun _ _ _ _ _ h=>by simp [code,T.res] at h,fun _ _ _ _ h=>by simp [E7,T.res] at h,fun _ _ _ _ _ h=>by simp [G8,T.res] at h,fun _ _ _ _ _ _ h=>by simp [A3,T.res] at h,
    fun _ _ _ _ _ h=>by simp [oper,T.res] at h,fun _ _ _ _ _ h=>by simp [round,T.res] at h,fun _ _ _ _ _ h=>by simp [call,T.res] at h⟩
 | succ n ihn=>
   intro ρ
   have ih:=ihn ρ
   refine⟨?_,?_,?_,?_,?_,?_,?_⟩
   ·intro w r c st p h
    cases c with
    | skip=>simp only[code] at h;obtain rfl:=g9 h;exact Nat.le_refl _
    | label l=>simp only[code] at h;obtain rfl:=g9 h;exact Nat.le_refl _
    | exit l=>simp only[code] at h;obtain rfl:=g9 h;exact Nat.le_refl _
    | goto l=>simp only[code] at h;obtain rfl:=g9 h;exact Nat.le_refl _
    | ret=>simp only[code] at h;obtain rfl:=g9 h;exact Nat.le_refl _
    | seq x y=>
      simp only[code] at h
      obtain⟨p1,h1,h2⟩:=T.res_bind h
      have e1:=ih.code _ _ _ _ _ h1
      split at h2
      ·exact Nat.le_trans e1 (ih.code _ _ _ _ _ h2)
      ·obtain rfl:=g9 h2;exact e1
    | cond x y z=>
      simp only[code] at h
      split at h
      ·split at h
       ·refine a0H (fun ρ' q hq=> ?_) h
        rcases T.res_iteS hq with ⟨_,h1⟩ | ⟨_,h1⟩<;>exact(ihn ρ').code _ _ _ _ _ h1
       ·rcases T.res_iteS h with ⟨_,h1⟩ | ⟨_,h1⟩<;>exact ih.code _ _ _ _ _ h1
      ·exact h.elim
    | block id b=>
      simp only[code] at h
      split at h
      ·refine a0H (fun ρ' q hq=> ?_) h
       obtain⟨p1,h1,h2⟩:=T.res_bind hq
       have e1:=(ihn ρ').code _ _ _ _ _ h1
       repeat' split at h2
       all_goals (obtain rfl:=g9 h2;exact e1)
      obtain⟨p1,h1,h2⟩:=T.res_bind h
      have e1:=ih.code _ _ _ _ _ h1
      repeat' split at h2
      all_goals (obtain rfl:=g9 h2;exact e1)
    | loop b=>
      simp only[code] at h
      split at h
      ·obtain⟨p1,h1,h2⟩:=T.res_bind h
       have e1:=ih.code _ _ _ _ _ h1
       split at h2
       ·exact Nat.le_trans e1 (ih.code _ _ _ _ _ h2)
       ·obtain rfl:=g9 h2;exact e1
      ·obtain⟨N,m,v,q,_,_,_,_,h1,rfl⟩:=a6m h
       have e1:=ih.code _ _ _ _ _ h1.last_res
       have e2:st.nx+1≤(u7 (lt.hint st) (code P ct lt n (w.skip 1) r b) st).nx:=Nat.le_max_left _ _
       have e3:=U2 h1.last_res
       show st.nx≤H5 _
       omega
    | region id ops draw=>
      cases draw with
      | false=>
        simp only[code] at h
        split at h
        ·refine a0H (fun ρ' q hq=> ?_) h
         obtain⟨p1,h1,h2⟩:=T.res_bind hq
         obtain rfl:=g9 h2
         exact(ihn ρ').ops _ _ _ _ _ h1
        ·obtain⟨p1,h1,h2⟩:=T.res_bind h
         obtain rfl:=g9 h2
         exact ih.ops _ _ _ _ _ h1
      | true=>
        simp only[code] at h
        split at h
        ·refine a0H (fun ρ' q hq=> ?_) h
         obtain⟨p1,h1,h2⟩:=T.res_bind hq
         obtain rfl:=g9 h2
         exact(ihn ρ').draw _ _ _ _ _ _ h1
        ·obtain⟨p1,h1,h2⟩:=T.res_bind h
         obtain rfl:=g9 h2
         exact ih.draw _ _ _ _ _ _ h1
    | rangeFunc g ps asg body=>
      simp only[code] at h
      split at h
      ·split at h
       ·split at h
        ·exact h.elim
        obtain⟨q,h1,h2⟩:=T.res_bind h
        have e1:=ih.call _ _ _ _ _ h1
        have e2:=ih.rend _ _ _ _ h2
        simp only at e2
        omega
       ·split at h
        ·obtain⟨q,h1,h2⟩:=T.res_bind h
         have e1:=ih.call _ _ _ _ _ h1
         have e2:=ih.rend _ _ _ _ h2
         simp only at e2
         omega
        ·exact h.elim
      ·exact h.elim
    | scope b=>
      simp only[code] at h
      obtain⟨p1,h1,h2⟩:=T.res_bind h
      have e1:=ih.code _ _ _ _ _ h1
      split at h2
      ·exact h2.elim
      ·obtain rfl:=g9 h2;exact e1
    | refuse w=>simp [code,T.res] at h
   ·intro r lid st p h
    simp only[E7] at h
    split at h
    ·split at h
     ·exact h.elim
     ·split at h
      ·obtain rfl:=g9 h;exact Nat.le_refl _
      ·have e:=ih.code _ _ _ _ _ h;exact e
    ·exact h.elim
   ·intro r ops i st s' h
    simp only[G8] at h
    split at h
    ·obtain rfl:=g9 h;exact Nat.le_refl _
    ·split at h
     ·exact h.elim
     ·have e:=ih.ops _ _ _ _ _ h;exact e
     ·obtain⟨q,h1,h2⟩:=T.res_bind h
      split at h1
      ·rename_i tr htr
       exact Nat.le_trans (a7q htr h1) (ih.ops _ _ _ _ _ h2)
      obtain⟨q0,h3,h4,_⟩:=O9 h1
      have e1:=ih.oper _ _ _ _ _ h3
      have e2:=ih.ops _ _ _ _ _ h2
      rw[←h4] at e1
      exact Nat.le_trans e1 e2
   ·intro r ops i st log s' h
    simp only[A3] at h
    split at h
    ·split at h
     ·obtain rfl:=g9 h;exact Nat.le_refl _
     ·exact h.elim
    ·split at h
     ·exact h.elim
     ·have e:=ih.draw _ _ _ _ _ _ h;exact e
     ·obtain⟨q,h1,h2⟩:=T.res_bind h
      obtain⟨q0,h3,h4,_⟩:=O9 h1
      have e1:=ih.oper _ _ _ _ _ h3
      have e2:=ih.draw _ _ _ _ _ _ h2
      rw[←h4] at e1
      exact Nat.le_trans e1 e2
   ·intro o g mem nx q h
    simp only[oper] at h
    split at h
    ·split at h
     ·split at h
      ·unfold a1f at h
       repeat' split at h
       all_goals first
        | exact h.elim
        | (obtain rfl:=g9 h;first | exact Nat.le_refl _ | exact Nat.le_succ _)
      ·obtain rfl:=g9 h;exact Nat.le_succ _
     ·exact h.elim
    ·split at h
     ·split at h
      ·obtain rfl:=g9 h;exact Nat.le_succ _
      ·exact h.elim
     ·exact h.elim
    ·exact b0p h
    ·exact b4y h
    ·split at h
     ·rcases T.res_iteS h with ⟨_,h1⟩ | ⟨_,h1⟩<;>(obtain rfl:=g9 h1;exact Nat.le_refl _)
     ·exact h.elim
    ·split at h
     ·obtain⟨q0,h1,h2⟩:=T.res_bind h
      have e1:=b0R h1
      split at h2
      ·repeat' split at h2
       all_goals first | exact h2.elim | (obtain rfl:=g9 h2;exact e1)
      ·exact h2.elim
     ·exact b0R h
    ·split at h
     ·exact ih.call _ _ _ _ _ h
     ·exact ih.round _ _ _ _ _ h
     ·split at h
      ·exact ih.call _ _ _ _ _ h
      ·exact h.elim
     ·split at h
      ·split at h
       ·exact ih.call _ _ _ _ _ h
       ·exact h.elim
      ·exact h.elim
     ·exact h.elim
    ·split at h
     ·split at h
      ·exact ih.call _ _ _ _ _ h
      ·exact h.elim
     ·exact h.elim
    ·split at h
     ·rename_i tr htr
      exact b7A htr h
     ·split at h
      ·rename_i tr htr
       exact b4U htr h
      split at h
      ·exact b0p h
      ·exact h.elim
   ·intro lid args mem nx q h
    simp only[round] at h
    split at h
    ·split at h
     ·obtain⟨p,h1,h2⟩:=T.res_bind h
      have e1:=ih.code _ _ _ _ _ h1
      split at h2
      ·obtain⟨q2,h3,h4⟩:=T.res_bind h2
       have e2:=ih.code _ _ _ _ _ h3
       split at h4
       ·obtain rfl:=g9 h4
        exact Nat.le_trans e1 e2
       ·exact h4.elim
      ·exact h2.elim
     ·exact h.elim
    ·exact h.elim
   ·intro f args mem nx q h
    simp only[call] at h
    split at h
    ·obtain⟨v,_,h2⟩:=T.res_bind h
     unfold a2f at h2
     split at h2
     ·rename_i hle
      obtain rfl:=g9 h2
      exact hle
     ·exact h2.elim
    ·split at h
     ·exact h.elim
     ·split at h
      ·exact h.elim
      ·split at h
       ·exact h.elim
       ·obtain⟨p,h1,h2⟩:=T.res_bind h
        have e1:=ih.code _ _ _ _ _ h1
        split at h2
        ·split at h2
         ·obtain rfl:=g9 h2;exact e1
         ·exact h2.elim
        ·exact h2.elim
theorem mono(n:Nat):MonoAt P ct lt ρ n:=a0L n ρ
end
end Go.Proofs.YtbbjlleaofgddaaGreat
namespace Go.Proofs.YtbbjlleaofgddaaGreat
open Go.RowKit
section
variable {P:Program} {ct:Ct} {lt:Lt} {ρ:Env} {σ:As}
theorem BlkRel.of{W:World}{id l:Nat}{b:Blk}{o:Obj}(hl:σ id=some l)(hb:BDen ρ σ b (some o))(hW:W.heap[l]? = some o):BlkRel ρ σ id W b:=by
 cases b with
 | own t ks x ver=>exact hb.elim
 | dfm=>exact hb.elim
 | vbox t cs v=>exact hb.elim
 | gone=>trivial
 | cells t cs=>exact⟨l,hl,by rw[hW];exact hb⟩
 | row t cs=>exact⟨l,hl,by rw[hW];exact hb⟩
 | loop st pe tm ps asg body df=>exact⟨l,hl,by rw[hW];exact hb⟩
 | dfd s=>exact⟨l,hl,by rw[hW];exact hb⟩
 | chn k x c=>exact⟨l,hl,by rw[hW];exact hb⟩
theorem a0C{W:World}{id l:Nat}{b:Blk}{o:Obj}(hl:σ id=some l)(hlt:l<W.heap.size)(hb:BDen ρ σ b (some o))(hk:∀L,W.heap[l]? = some (.loop L)→∃L',o= .loop L'∧L'.params=L.params∧L'.assign=L.assign∧L'.body=L.body∧L'.defers=L.defers):Step ρ σ W [(id,b)] σ (W.putObj l o):=by
 refine⟨Ext.refl _,rfl,rfl,rfl,by simp,fun k hk hne=> ?_,fun _ _ _=>rfl,fun i a hi=> .inl hi,fun e=>e,fun i b' hi=> ?_,fun k L e=> ?_⟩
 ·refine World.putObj_heap_other (fun e=> ?_)
  subst e
  exact hne id b (by simp [Mem.get]) (.inl hl)
 ·simp only[Mem.get] at hi
  split at hi
  ·rename_i hii
   simp only[beq_iff_eq] at hii
   subst hii
   simp only[Option.some.injEq] at hi
   subst hi
   exact BlkRel.of hl hb (World.putObj_heap_same hlt)
  ·simp at hi
 ·by_cases h:k=l
  ·subst h
   obtain⟨L',rfl,q⟩:=hk L e
   exact⟨L',World.putObj_heap_same hlt,q⟩
  ·exact⟨L,by rw[World.putObj_heap_other h];exact e,rfl,rfl,rfl,rfl⟩
theorem T2(f:Nat→Bool):∀(ws:Mem) (i:Nat) (b:Blk),Mem.get (ws.filter fun p=>f p.1) i=some b→ws.get i=some b
 | [],i,b,h=>by simp [Mem.get] at h
 | (j,c)::ws,i,b,h=>by
   simp only[List.filter_cons] at h
   split at h
   ·simp only[Mem.get] at h ⊢
    split at h
    ·rename_i e;simp only[e,if_true];exact h
    ·rename_i e
     have ih:=T2 f ws i b h
     simp only[e];exact ih
   ·rename_i hlt
    have ih:=T2 f ws i b h
    simp only[Mem.get]
    split
    ·rename_i e
     exfalso
     simp only[beq_iff_eq] at e
     subst e
     have key:∀(l:Mem),Mem.get (l.filter fun p=>f p.1) j=some b→f j=true:=by
      intro l
      induction l with
      | nil=>intro h;simp [Mem.get] at h
      | cons p l ihl=>
        obtain⟨k,d⟩:=p
        simp only[List.filter_cons]
        split
        ·rename_i hk
         simp only[Mem.get]
         split
         ·rename_i e;simp only[beq_iff_eq] at e;subst e;intro _;exact hk
         ·exact ihl
        ·exact ihl
     exact hlt (key ws h)
    ·exact ih
theorem a2O{f:Nat→Bool}:∀ {ws:Mem} {i:Nat} {b:Blk},ws.get i=some b→f i=true→Mem.get (ws.filter fun p=>f p.1) i=some b
 | [],i,b,h,_=>by simp [Mem.get] at h
 | (j,c)::ws,i,b,h,hi=>by
   simp only[Mem.get] at h
   split at h
   ·rename_i e
    simp only[beq_iff_eq] at e
    subst e
    simp only[List.filter_cons,hi,if_true,Mem.get,beq_self_eq_true]
    exact h
   ·rename_i e
    have ih:=a2O h hi
    simp only[List.filter_cons]
    split
    ·simp only[Mem.get,e];exact ih
    ·exact ih
theorem V9{W W':World}{ws:Mem}{σ':As}{nx nx':Nat}{v:V}(hn:Fr nx nx' σ)(h:Step ρ σ W ws σ' W'):Step ρ σ W (J4 nx nx' v ws) σ' W':=by
 have key:∀f:Nat→Bool,(∀i,i<nx∨nx'≤i→f i=true)→Step ρ σ W (ws.filter fun p=>f p.1) σ' W':=by
  intro f hf
  have hin:∀i b,ws.get i=some b→σ.has i→Mem.get (ws.filter fun p=>f p.1) i=some b:=fun i b hi he=>by
   refine a2O (f:=f) hi (hf i ?_)
   rcases Nat.lt_or_ge i nx with q | q
   ·exact .inl q
   ·rcases Nat.lt_or_ge i nx' with q' | q'
    ·exact absurd he (hn i q q')
    ·exact .inr q'
  refine⟨h.ext,h.os,h.tape,h.output,h.size,fun k hk hne=>h.frame k hk (fun i b hi he=> ?_),fun i hi hh=> ?_,h.new,h.inj,fun i b hi=>h.blk i b (T2 f ws i b hi),h.keep⟩
  ·exact hne i b (hin i b hi (As.own_has he)) he
  ·refine h.hist i ?_ hh
   cases hw:ws.get i with
   | none=>rfl
   | some b=>rw[hin i b hw (.inr hh)] at hi;cases hi
 unfold J4
 simp only
 split
 ·exact key (fun i=>decide (i<nx)||decide (nx'≤i)) (fun i hi=>by simpa using hi)
 ·exact key (fun i=>(decide (i<nx)||decide (nx'≤i))||(Mem.reach ws 12 (v.ids++(ws.filter fun p=>decide (p.1<nx)||decide (nx'≤p.1)).flatMap fun p=>p.2.ids)).contains i) (fun i hi=>by
   rw[Bool.or_eq_true];exact .inl (by simpa using hi))
theorem a3k(ws m:Mem):(ws++m).take ((ws++m).length-m.length)=ws:=by
 rw[List.length_append,Nat.add_sub_cancel,List.take_append_of_le_length (Nat.le_refl _),List.take_length]
def a9u(tmps:Array Value):ResultVar→Sem Value
 | .tmp t=>pure (tmps.getD t undef)
 | .cell a t=>do loadVar t (←asAddr (tmps.getD a undef))
theorem b3c(fn:Func)(tmps:Array Value):results fn tmps=(do let vs ←fn.results.mapM (a9u tmps);pure (if h:vs.size=1 then vs[0] else .tuple vs)):=rfl
theorem S2{st:St}{a:Act}{W:World}(hr:RelM ρ σ st.mem W)(ht:DL (V.den ρ σ) st.tm a.tmps.toList):∀(l:List ResultVar) (r:List V2),F8 P st l=some r→
 ∃vs:List Value,DL (V2.den ρ σ) r vs∧(l.mapM (a9u a.tmps)).run P W= .ok vs W
 | [],r,h=>by
   simp only[F8,Option.some.injEq] at h
   subst h
   exact⟨[],trivial,by simp⟩
 | .tmp t::l,r,h=>by
   simp only[F8] at h
   split at h
   ·rename_i x r' hx hr'
    simp only[Option.some.injEq] at h
    subst h
    obtain⟨vs,h1,h2⟩:=S2 hr ht l r' hr'
    have hd:=E2 ht (.tmp t)
    simp only[G2] at hd
    rw[hx] at hd
    have e0:(a9u a.tmps (.tmp t)).run P W= .ok (a.eval (.tmp t)) W:=rfl
    exact⟨_::vs,⟨hd,h1⟩,by simp only[List.mapM_cons,Sem.run_bind,e0,h2,Result.andThen_ok,Sem.run_pure]⟩
   ·simp at h
 | .cell b t::l,r,h=>by
   simp only[F8] at h
   split at h
   ·rename_i x r' hx hr'
    simp only[Option.some.injEq] at h
    subst h
    obtain⟨vs,h1,h2⟩:=S2 hr ht l r' hr'
    have hd:=E2 ht (.tmp b)
    simp only[G2] at hd
    obtain⟨u,h3,h4⟩:=a2T hx hd hr
    have e0:(a9u a.tmps (.cell b t)).run P W= .ok u W:=by
     show(do loadVar t (←asAddr (a.eval (.tmp b))):Sem Value).run P W= .ok u W
     simp only[Instr.loadAt,Sem.run_bind] at h3 ⊢
     cases hp:a.eval (.tmp b) with
     | pointer q=>
       cases q with
       | some q=>rw[hp] at h3;exact h3
       | none=>rw[hp] at h3;simp [Instr.sureAddr,stuck,Sem.run,Result.andThen] at h3
     | _=>rw[hp] at h3;simp [Instr.sureAddr,stuck,Sem.run,Result.andThen] at h3
    exact⟨u::vs,⟨h4,h1⟩,by simp only[List.mapM_cons,Sem.run_bind,e0,h2,Result.andThen_ok,Sem.run_pure]⟩
   ·simp at h
theorem a2M{fn:Func}{st:St}{a:Act}{W:World}(hr:RelM ρ σ st.mem W)(ht:DL (V.den ρ σ) st.tm a.tmps.toList){r:List V2}(h:F8 P st fn.results.toList=some r):
 ∃u,(results fn a.tmps).run P W= .ok u W∧(D4 r).den ρ σ u:=by
 obtain⟨vs,h1,h2⟩:=S2 hr ht _ r h
 have e:(fn.results.mapM (a9u a.tmps)).run P W= .ok vs.toArray W:=by
  rw[Array.mapM_eq_mapM_toList]
  simp [h2]
 have e':(results fn a.tmps).run P W= .ok (if h:vs.toArray.size=1 then vs.toArray[0] else .tuple vs.toArray) W:=by
  rw[b3c]
  simp only[Sem.run_bind,e,Result.andThen_ok,Sem.run_pure]
 refine⟨_,e',?_⟩
 have hlen:=h1.length
 unfold D4
 split
 ·rename_i x
  obtain⟨v,vs',rfl,h3,h4⟩:=DL.cons_inv h1
  rw[DL.nil_inv h4]
  exact h3
 ·rename_i l hne
  have:¬(vs.toArray.size=1):=by
   simp only[List.size_toArray]
   intro hv
   rw[hv] at hlen
   match r,hlen with
   | [x],_=>exact hne x rfl
  rw[dif_neg this]
  exact⟨vs,h1,rfl⟩
theorem b6f{id l:Nat}{o:Obj}{W:World}(hl:σ.own id l)(hk:∀L,W.heap[l]? ≠ some (.loop L)):Step ρ σ W [(id,.gone)] σ (W.putObj l o):=by
 refine⟨Ext.refl _,rfl,rfl,rfl,by simp,fun k hk hne=> ?_,fun _ _ _=>rfl,fun i a hi=> .inl hi,fun e=>e,fun i b' hi=> ?_,fun k L e=> ?_⟩
 ·refine World.putObj_heap_other (fun e=> ?_)
  subst e
  exact hne id .gone (by simp [Mem.get]) hl
 ·simp only[Mem.get] at hi
  split at hi
  ·simp only[Option.some.injEq] at hi
   subst hi
   trivial
  ·simp at hi
 ·by_cases h:k=l
  ·subst h;exact absurd e (hk L)
  ·exact⟨L,by rw[World.putObj_heap_other h];exact e,rfl,rfl,rfl,rfl⟩
theorem a6t{mem:Mem}{d i:Nat}{b:Blk}(h1:∀x,j5≤x→mem.get (x-j5)=some .dfm→x≠d→x-j5≠i)(h2:∀x,¬j5≤x→mem.get x=some (.dfd false)→x≠d→x≠i):
 ∀l:List Nat,l.contains d=false→a2b mem l=true→a2b ([(i,b)]++mem) l=true:=by
 intro l
 induction l with
 | nil=>intro _ _;rfl
 | cons x l ih=>
   intro hc hk
   simp only[List.contains_cons,Bool.or_eq_false_iff] at hc
   have hxd:x≠d:=fun e=>by subst e;simp at hc
   simp only[a2b,Bool.and_eq_true,Bool.not_eq_true'] at hk ⊢
   refine⟨⟨?_,hk.1.2⟩,ih hc.2 hk.2⟩
   have hk1:=hk.1.1
   have get:∀j,j≠i→Mem.get ([(i,b)]++mem) j=mem.get j:=fun j hj=>by
    show Mem.get ((i,b)::mem) j=_
    have:(i == j)=false:=by simpa using Ne.symm hj
    simp only[Mem.get,this];rfl
   by_cases hx:Nat.ble j5 x=true
   ·rw[if_pos hx] at hk1 ⊢
    have hm:mem.get (x-j5)=some .dfm:=by
     unfold a0z at hk1
     split at hk1
     ·assumption
     ·cases hk1
    rw[get _ (h1 x (Nat.le_of_ble_eq_true hx) hm hxd)]
    exact hk1
   ·rw[if_neg hx] at hk1 ⊢
    have hm:mem.get x=some (.dfd false):=by
     split at hk1
     ·assumption
     ·cases hk1
    rw[get _ (h2 x (fun q=>hx (Nat.ble_eq_true_of_le q)) hm hxd)]
    exact hk1
theorem a2P{fn:Func}{R:Ending→World→Prop}{a:Act}{d:Nat}:∀(rs:List Nat) (ds:List Deferred) (W:World),rs.Nodup→(∀r∈rs,σ.own d r∧r<W.heap.size∧W.heap[r]? = some (.deferred (some [])))→
 (∀W',Step ρ σ W [(d,.gone)] σ W'→LeavesInM (FR none) 0 P fn a.tmps R ds .returning W')→LeavesInM (FR none) 0 P fn a.tmps R (rs.map a1b++ds) .returning W
 | [],ds,W,_,_,h=>h W ⟨Ext.refl _,rfl,rfl,rfl,Nat.le_refl _,fun _ _ _=>rfl,fun _ _ _=>rfl,fun _ _ h=> .inl h,fun h=>h,fun i b hi=>by
     simp only[Mem.get] at hi
     split at hi
     ·simp only[Option.some.injEq] at hi;subst hi;trivial
     ·simp at hi,Keep.refl _⟩
 | r::rs,ds,W,hn,hr,h=>by
   obtain⟨h1,h2,h3⟩:=hr r (List.mem_cons_self ..)
   obtain⟨n1,n2⟩:=List.nodup_cons.1 hn
   have hrun:=run_takeDeferred (P:=P) h3
   have hs:Step ρ σ W [(d,.gone)] σ (W.putObj r (.deferred none)):=b6f h1 (fun L e=>by rw[h3] at e;cases e)
   refine⟨by simp,.inl ⟨r,_,rfl,hrun,a2P (d:=d) rs ds _ n2 (fun x hx=> ?_) (fun W' s=>h W' ?_)⟩⟩
   ·obtain⟨g1,g2,g3⟩:=hr x (List.mem_cons_of_mem _ hx)
    exact⟨g1,by simpa using g2,by rw[World.putObj_heap_other (fun e=>n1 (by rw[←e];exact hx))];exact g3⟩
   ·exact⟨Ext.refl _,s.os.trans hs.os,s.tape.trans hs.tape,s.output.trans hs.output,Nat.le_trans hs.size s.size,fun k hk hne=>by
     have e1:=hs.frame k hk hne
     have e2:=s.frame k (Nat.lt_of_lt_of_le hk hs.size) hne
     rw[e2,e1],fun _ _ _=>rfl,fun i a hi=> .inl hi,fun e=>e,s.blk,hs.keep.trans s.keep⟩
theorem X1{fn:Func}{R:Ending→World→Prop}{a:Act}:∀(df:List Nat) (ds:List Deferred) (mem:Mem) (W:World),Dfr σ df ds→RelM ρ σ mem W→a2b mem df=true→
 (∀W',Step ρ σ W (v9 df) σ W'→RelM ρ σ (v9 df++mem) W'→∃v,(results fn a.tmps).run P W'= .ok v W'∧R (.returned v) W')→
 LeavesInM (FR none) 0 P fn a.tmps R ds .returning W
 | [],ds,mem,W,hd,hr,_,h=>by
   have hd:ds=[]:=hd
   subst hd
   exact h W (Step.refl _ _ _) hr
 | d::df,ds,mem,W,hd,hr,hok,h=>by
   simp only[a2b,Bool.and_eq_true,Bool.not_eq_true'] at hok
   obtain⟨⟨o1,o2⟩,o3⟩:=hok
   by_cases hbig:j5≤d
   ·have hbb:Nat.ble j5 d=true:=Nat.ble_eq_true_of_le hbig
    rw[Dfr.of_many hbig] at hd
    obtain⟨rs,ds',h1,h2,rfl,h3⟩:=hd
    rw[if_pos hbb] at o1
    have hm:mem.get (d-j5)=some .dfm:=by
     unfold a0z at o1
     split at o1
     ·assumption
     ·cases o1
    obtain⟨b1,b2⟩:=hr.blk _ _ hm
    refine a2P (ρ:=ρ) (σ:=σ) (d:=d-j5) rs ds' W h1 (fun r hrs=> ?_) (fun W1 hs=> ?_)
    ·have hv:=h2 r hrs
     have hown:σ.own (d-j5) r:= .inr ⟨_,_,hv,rfl⟩
     obtain⟨r',e1,_,e3⟩:=b2 _ _ (by omega) hv
     have:r'=r:=by omega
     subst this
     exact⟨hown,hr.lt _ _ hown,e3⟩
    ·have hr':=hr.step hs
     refine X1 df ds' _ _ h3 hr' (a6t (d:=d) (fun x hx _ hne=>by omega) (fun x _ hx hne e=> ?_) df o2 o3) (fun W' s hr2=> ?_)
     ·rw[e,hm] at hx;cases hx
     ·refine h W' ?_ ?_
      ·simp only[v9,if_pos hbb]
       exact Step.trans (fun i k hi=>hr.lt i k hi) hr.inj hs s
      ·simp only[v9,if_pos hbb]
       rw[List.append_assoc]
       exact hr2
   ·have hbb:¬Nat.ble j5 d=true:=fun q=>hbig (Nat.le_of_ble_eq_true q)
    rw[Dfr.of_one hbig] at hd
    obtain⟨r,ds',h1,rfl,h3⟩:=hd
    rw[if_neg hbb] at o1
    have hm:mem.get d=some (.dfd false):=by
     split at o1
     ·assumption
     ·simp at o1
    obtain⟨r',h4,h5⟩:=hr.blk _ _ hm
    rw[h1] at h4
    simp only[Option.some.injEq] at h4
    subst h4
    have h5:W.heap[r]? = some (.deferred (some [])):=h5
    have hrun:=run_takeDeferred (P:=P) h5
    have hlt:=hr.lt _ _ (.inl h1)
    have hs:Step ρ σ W [(d,.dfd true)] σ (W.putObj r (.deferred none)):=a0C h1 hlt rfl (fun L e=>by rw[h5] at e;cases e)
    have hr':=hr.step hs
    refine⟨by simp,.inl ⟨r,_,rfl,hrun,X1 df ds' _ _ h3 hr' (a6t (d:=d) (fun x _ hx hne e=> ?_) (fun x _ _ hne=>hne) df o2 o3) (fun W' s hr2=> ?_)⟩⟩
    ·rw[e,hm] at hx;cases hx
    ·refine h W' ?_ ?_
     ·simp only[v9,if_neg hbb]
      exact Step.trans (fun i k hi=>hr.lt i k hi) hr.inj hs s
     ·simp only[v9,if_neg hbb]
      rw[List.append_assoc]
      exact hr2
theorem c0l(hct:CtOk P ρ ct)(n:Nat)(hcode:C9 P ρ ct lt n):a4y P ρ ct lt (n+1):=by
 intro f args mem nx q h σ W vals hr ht hargs
 simp only[call] at h
 split at h
 ·rename_i c hc
  obtain⟨v,h1,h2⟩:=T.res_bind h
  unfold a2f at h2
  split at h2
  ·rename_i hle
   obtain rfl:=g9 h2
   exact hct f c hc args mem nx q h1 hle σ W vals hr ht hargs
  ·exact h2.elim
 ·split at h
  ·exact h.elim
  ·rename_i fn hf
   split at h
   ·exact h.elim
   ·split at h
    ·exact h.elim
    ·rename_i c hb
     obtain⟨p,h1,h2⟩:=T.res_bind h
     split at h2
     ·rename_i hend
      simp only[Bool.and_eq_true] at hend
      obtain⟨hend,hok⟩:=hend
      split at h2
      ·rename_i l hl
       simp only[T.res] at h2
       subst h2
       have hlen:=hargs.length
       refine callsIn_of_wp_marks (F:=FR none) hf hb trivial ?_
       have hbeg:Beg ρ { tm:=args++List.replicate (fn.ntmps-args.length) V.any,mem,nx,df:=[] } σ { tmps:=vals.toArray++Array.replicate (fn.ntmps-vals.toArray.size) undef,defers:=[] } W:=by
        refine⟨hr,?_,rfl⟩
        simp only[Array.toList_append,Array.toList_replicate,List.size_toArray]
        rw[hlen]
        exact hargs.append (DL.replicate _ trivial)
       have hc:=hcode _ none c _ p h1 σ _ W hbeg ht (fun id e=>by simp at e)
       refine hc _ (fun a' W' σ' hfin=> ?_)
       have key:LeavesInM (FR none) 0 P fn a'.tmps (A8 ρ σ W nx (D4 l,J4 nx p.2.nx (D4 l) (v9 p.2.df++p.2.mem.take (p.2.mem.length-mem.length)),p.2.nx)) a'.defers .returning W':=by
        have hb2:=hfin.beg hr
        refine X1 (ρ:=ρ) (σ:=σ') p.2.df a'.defers p.2.mem W' hfin.df hb2.rel hok (fun W2 s hr2=> ?_)
        obtain⟨u,h3,h4⟩:=a2M (a:=a') (st:= { p.2 with mem:=v9 p.2.df++p.2.mem }) hr2 hfin.tm hl
        refine⟨u,h3,u,σ',rfl,h4,?_,hfin.new⟩
        obtain⟨ws,e,s0⟩:=hfin.step
        refine V9 ht ?_
        have e':p.2.mem.take (p.2.mem.length-mem.length)=ws:=by
         have e:p.2.mem=ws++mem:=e
         rw[e,a3k]
        rw[e']
        exact Step.trans (fun i k hi=>hr.lt i k hi) hr.inj s0 s
       cases hp:p.1 with
       | normal=>exact key
       | ret=>exact key
       | exit id=>rw[hp] at hend;simp [Ex.isEnd] at hend
       | goto l=>rw[hp] at hend;simp [Ex.isEnd] at hend
      ·exact h2.elim
     ·exact h2.elim
theorem a9W(n:Nat)(hcode:C9 P ρ ct lt n):a0Q P ρ ct lt (n+1):=by
 intro r lid st p h σ a W l hbeg ht hrr hl Q hQ
 simp only[E7] at h
 split at h
 ·rename_i s pe tm ps asg body d hm
  obtain⟨l',h1,fn,tv,dd,h2,h3,h4⟩:=hbeg.rel.blk _ _ hm
  rw[hl] at h1
  simp only[Option.some.injEq] at h1
  subst h1
  have hlt:=hbeg.rel.lt _ _ (.inl hl)
  have main:s≠ .busy→(match pe with
   | none=>T.ret (Ex.normal,{ st with mem:=(lid,.loop .exhausted pe tm ps asg body d)::st.mem })
   | some c=>code P ct lt n none r c { st with mem:=(lid,.loop .exhausted pe tm ps asg body d)::st.mem }).res ρ p→
   ∃jump W4,(Instr.endLoop l).run P W= .ok jump W4∧(match jump with | none=>Q .normal a W4 | some c=>c.wpIn (FR (r.bind σ)) 0 P Q a W4):=by
   intro hs h
   have hend:=run_endLoop (P:=P) h4 hs
   have hst:Step ρ σ W [(lid,.loop .exhausted pe tm ps asg body d)] σ _:=a0C hl hlt ⟨fn,tv,dd,h2,h3,rfl⟩ (fun L e=>by rw[h4] at e;simp only[Option.some.injEq,Obj.loop.injEq] at e;subst e;exact⟨_,rfl,rfl,rfl,rfl,rfl⟩)
   refine⟨_,_,hend,?_⟩
   have hfin0:Fin ρ σ W st.mem st.nx { st with mem:=(lid,.loop .exhausted pe tm ps asg body d)::st.mem } σ a _:=⟨⟨_,rfl,hst⟩,New.refl _ _ _,Nat.le_refl _,hbeg.tm,hbeg.df⟩
   cases pe with
   | none=>
     simp only[T.res] at h
     subst h
     exact hQ _ _ _ hfin0
   | some c=>
     simp only at h ⊢
     have hb2:=hfin0.beg hbeg.rel
     exact hcode _ r c _ p h σ a _ hb2 ht hrr Q (fun a' W' σ' hf=>hQ _ _ _ (Fin.trans hbeg.rel hfin0 hf))
  split at h
  ·exact h.elim
  ·rename_i hs
   exact main (fun e=>hs e) h
 ·exact h.elim
end
end Go.Proofs.YtbbjlleaofgddaaGreat
