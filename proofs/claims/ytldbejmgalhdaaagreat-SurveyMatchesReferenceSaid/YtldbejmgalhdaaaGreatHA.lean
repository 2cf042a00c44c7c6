/- HA, merged: Ye, Yi, Yj0, Yj. -/
import Derived.Test.YtldbejmgalhdaaaGreatMY
import Derived.Test.YtldbejmgalhdaaaGreatMC
set_option linter.unusedSimpArgs false
set_option linter.unusedVariables false
namespace Go.Proofs.YtldbejmgalhdaaaGreat
open Go.RowKit
def G7:List CK:=[.int .i64,.int .i64,.int .i64,.int .i64,.int .i64,.int .i64,.int .i64]
theorem a3W:(Tryz.prog.info? 53).map (fun i=>(i.zero,i.size,i.bytes))=some (some (.agg #[.int .i64 0,.int .i64 0,.int .i64 0,.int .i64 0,.int .i64 0,.int .i64 0,.int .i64 0]),7,56):=by kernel_rfl
set_option maxRecDepth 100000 in
theorem c6V:b1r Tryz.prog 77 53 7:=by
 intro w base a n c news hbase hl ha hnews h1 hn
 obtain⟨i0,hi,hz0,hz1,hz2⟩:=info_parts a3W
 have heq:=fun W=>a9s (P:=Tryz.prog) Tryz.underlying22 a n c W
 cases a with
 | none=>
   obtain rfl:n=0:=by
    rcases Nat.eq_zero_or_pos n with e | e
    ·exact e
    ·have:=ha e;cases this
   obtain rfl:news=[]:=List.eq_nil_of_length_eq_zero (by simpa using hl)
   clear hl ha hnews h1
   go_enter Tryz.func77,Tryz.ntmps77
   go_wp2
   go_ret
   exact⟨_,rfl,AppRes.same (.inl (World.ownsRow_nil _ _ _ _)) ⟨_,_,rfl⟩⟩
 | some b=>
   go_enter Tryz.func77,Tryz.ntmps77
   go_wp2_with (at_builtin;refine M7 rfl _ _ 22 rfl base 53 i0 (.agg #[.int .i64 0,.int .i64 0,.int .i64 0,.int .i64 0,.int .i64 0,.int .i64 0,.int .i64 0]) 7 56 Tryz.underlying22 hi hz0 hz1 hz2 rfl _ 0 [] rfl ?c1 ?c2 (some b) n c news rfl hl ha ?c3 h1 ?c4 ?c5 ?c6 ?_)
   case c1=>exact .inr ⟨rfl,rfl,_,rfl⟩
   case c2=>exact⟨_,_,rfl⟩
   case c3=>
    intro b1 hb1 j u hj
    have q:=hnews b1 hb1 j u hj
    rw[World.cell?_alloc_lt _ _ _ (World.block_lt_of_cell? _ _ q)]
    exact q
   case c4=>simp only[maxLen];omega
   case c5=>omega
   case c6=>simp only[World.size_alloc];omega
   intro v' W' happ
   go_wp2
   go_ret
   exact⟨_,rfl,happ.fresh (by omega)⟩
def a2P:=a9m 53 G7
theorem a2s{ρ:Env}:i9 Tryz.prog ρ 77 a2P:=b2r c6V
theorem a5n:(Tryz.prog.info? 59).map (fun i=>(i.zero,i.size,i.bytes))=some (some (.agg #[.int .i64 0,.int .i64 0,.int .i64 0,.int .i64 0,.int .i64 0,.slice none 0 0,.int .i64 0,.int .i64 0,.slice none 0 0]),9,104):=by kernel_rfl
set_option maxRecDepth 100000 in
theorem c9O:b1r Tryz.prog 48 59 9:=by
 intro w base a n c news hbase hl ha hnews h1 hn
 obtain⟨i0,hi,hz0,hz1,hz2⟩:=info_parts a5n
 have heq:=fun W=>a9s (P:=Tryz.prog) Tryz.underlying23 a n c W
 cases a with
 | none=>
   obtain rfl:n=0:=by
    rcases Nat.eq_zero_or_pos n with e | e
    ·exact e
    ·have:=ha e;cases this
   obtain rfl:news=[]:=List.eq_nil_of_length_eq_zero (by simpa using hl)
   clear hl ha hnews h1
   go_enter Tryz.func48,Tryz.ntmps48
   go_wp2
   go_ret
   exact⟨_,rfl,AppRes.same (.inl (World.ownsRow_nil _ _ _ _)) ⟨_,_,rfl⟩⟩
 | some b=>
   go_enter Tryz.func48,Tryz.ntmps48
   go_wp2_with (at_builtin;refine M7 rfl _ _ 23 rfl base 59 i0 (.agg #[.int .i64 0,.int .i64 0,.int .i64 0,.int .i64 0,.int .i64 0,.slice none 0 0,.int .i64 0,.int .i64 0,.slice none 0 0]) 9 104 Tryz.underlying23 hi hz0 hz1 hz2 rfl _ 0 [] rfl ?c1 ?c2 (some b) n c news rfl hl ha ?c3 h1 ?c4 ?c5 ?c6 ?_)
   case c1=>exact .inr ⟨rfl,rfl,_,rfl⟩
   case c2=>exact⟨_,_,rfl⟩
   case c3=>
    intro b1 hb1 j u hj
    have q:=hnews b1 hb1 j u hj
    rw[World.cell?_alloc_lt _ _ _ (World.block_lt_of_cell? _ _ q)]
    exact q
   case c4=>simp only[maxLen];omega
   case c5=>omega
   case c6=>simp only[World.size_alloc];omega
   intro v' W' happ
   go_wp2
   go_ret
   exact⟨_,rfl,happ.fresh (by omega)⟩
set_option maxHeartbeats 1000000 in
set_option maxRecDepth 100000 in
theorem c2w:a7J Tryz.prog 90 53 7:=by
 intro w base a n c i vb vo vc xs vs news tv hbase hown hin hvb hvn hnl hap h1n h1x hn
 obtain⟨i0,hi,hz0,hz1,hz2⟩:=info_parts a3W
 have hxl:xs.length=n*7:=by
  rcases hown with ⟨h1,_⟩ | ⟨h1,h2,_⟩
  ·exact h1
  ·rw[h1,h2];rfl
 have hcv:∀b,some (⟨vb,vo,none⟩:Addr)=some b→∀j u,news[j]? = some u→w.cell? (b.add j)=some u:=by
  intro b hb j u hj
  simp only[Option.some.injEq] at hb
  subst hb
  rw[m7,v6 hvb,List.getElem?_toArray]
  rw[←hvn,List.getElem?_take] at hj
  split at hj
  ·rwa [List.getElem?_drop] at hj
  ·cases hj
 rcases Nat.lt_or_ge i n with hlt | hge
 ·obtain⟨g,cur,rfl,hbg,hg,hnc,hcm,hcs,htk⟩:∃g cur,a=some ⟨g,0,none⟩∧base≤g∧w.heap[g]? = some (.cells (cur:List Value).toArray 53 (0,0))∧n≤c∧c≤maxLen∧cur.length=c*7∧cur.take (n*7)=xs:=by
   rcases hown with ⟨_,⟨_,h2⟩ | ⟨g,cap,cur,h1,h2,h3,h4,h5,h6,h7⟩⟩ | ⟨h1,_⟩
   ·omega
   ·simp only[Value.slice.injEq] at h1
    obtain⟨rfl,_,rfl⟩:=h1
    exact⟨g,cur.toList,rfl,h2,by rw[Array.toArray_toList];exact h3,h4,h5,by simpa using h6,h7⟩
   ·omega
  have hm1:¬((1:Int)=0):=by omega
  have hin1:¬((i:Int)=(n:Int)):=by omega
  have hvg:vb≠g:=fun e=>by
   obtain⟨c',rfl⟩:∃c',c=c'+1:=⟨c-1,by omega⟩
   exact hap g rfl e.symm
  have hdl:(xs.drop (i*7)).length=(n-i)*7:=by rw[List.length_drop,hxl];omega
  have hcm0:=hcm
  simp only[maxLen] at hcm
  rcases Nat.lt_or_ge n c with hroom | hroom
  ·have hov:∀lb cb,(callFunc 115 #[.slice (some ⟨vb,vo,none⟩) 1 vc,.slice (some ⟨g,(i+1)*7,none⟩) lb cb]).run Tryz.prog w= .ok (.value (.bool false)) w:=fun lb cb=>by
    rw[run_callFunc_extern (P:=Tryz.prog) Tryz.func115 (by kernel_rfl) (by kernel_rfl) (by kernel_rfl) (e:=Extern.SlicesOverlaps.overlaps #[22,22] #[4]) (by kernel_rfl),
     Lib.run_overlaps_apart w 22 4 53 Tryz.underlying22 7 (fun w=>by rw[l9 hi,show Tryz.prog.cellsOf 53=7 by simp [Program.cellsOf,hi,hz1]]) ⟨vb,vo,none⟩ ⟨g,(i+1)*7,none⟩ 1 vc lb cb hvg tv 53 vs.length (c*7) (by simp [World.shape?,hvb]) (by simp [World.shape?,hg,hcs]) (by omega) (by simp [World.frozen?,hvb]) (by simp [World.frozen?,hvb])]
    rfl
   have hcp1:∀ty dc sc,(Builtin.copy_ #[22,22] ty #[.slice (some ⟨g,(i+1)*7,none⟩) (n-i) dc,.slice (some ⟨g,i*7,none⟩) (n+1-i) sc]).run Tryz.prog w.drew= .ok (.int .i64 ((n-i:Nat):Int)) (w.drew.setCells g ((i+1)*7) (xs.drop (i*7))):=fun ty dc sc=>
    E3 (P:=Tryz.prog) w.drew Tryz.underlying22 hi g _ _ dc cur hg ⟨g,i*7,none⟩ _ sc (n-i) (by simp only[Nat.min_def];split<;>omega) _ (by rw[hz1];exact hdl) (fun j u hj=>by
     rw[m7,v6 (W:=w.drew) hg,List.getElem?_toArray]
     rw[List.getElem?_drop,←htk,List.getElem?_take] at hj
     split at hj
     ·exact hj
     ·cases hj) (fun u hu=>h1x u (List.mem_of_mem_drop hu)) (by rw[hdl];omega)
   obtain⟨_,f1,f2,f3,f4,f5,f6⟩:=C5 (P:=Tryz.prog) w.drew g ((i+1)*7) cur hg (xs.drop (i*7)) (fun u hu=>h1x u (List.mem_of_mem_drop hu)) (by rw[hdl];omega)
   obtain⟨W1,hW1⟩:∃W1,W1=w.drew.setCells g ((i+1)*7) (xs.drop (i*7)):=⟨_,rfl⟩
   rw[←hW1] at f1 f2 f3 f4 f5 f6 hcp1
   have hl1:(w7 cur ((i+1)*7) (xs.drop (i*7))).length=c*7:=by rw[D7 (by rw[hdl];omega),hcs]
   have hcp2:∀(W:World),W.heap=W1.heap→∀ty dc,(Builtin.copy_ #[22,22] ty #[.slice (some ⟨g,i*7,none⟩) (n+1-i) dc,.slice (some ⟨vb,vo,none⟩) 1 vc]).run Tryz.prog W= .ok (.int .i64 ((1:Nat):Int)) (W.setCells g (i*7) news):=fun W hW ty dc=>
    E3 (P:=Tryz.prog) W Tryz.underlying22 hi g _ _ dc _ (by rw[hW];exact f1) ⟨vb,vo,none⟩ _ vc 1 (by simp only[Nat.min_def];split<;>omega) _ (by rw[hz1];exact hnl) (fun j u hj=>by
     have:=hcv _ rfl j u hj
     rw[m7,v6 hvb] at this
     rw[m7,v6 (W:=W) (by rw[hW,f6 vb hvg];exact hvb)]
     exact this) h1n (by rw[hl1,hnl];omega)
   go_enter Tryz.func90,Tryz.ntmps90
   have hw1:IntKind.i64.wrap ((i:Int)+(1:Int))=(i:Int)+(1:Int):=by rw[IntKind.wrap_i64];omega
   have hb1:(0:Int)≤(i:Int)+(1:Int):=by omega
   have htn:((i:Int)+(1:Int)).toNat=i+1:=by omega
   have hb2:¬(c=i+1):=by omega
   have hb3:(i:Int)≤(n:Int)+(1:Int):=by omega
   have hb4:¬(c=i):=by omega
   have mixed:Tryz.prog.follows Departure.mixedOrders=true:=by kernel_rfl
   go_wp2_with (simp only[hov])
   go_region_law_o (refine step_copy_runI rfl _ _ 22 22 rfl _ _ (by simp [Act.eval,Act.put]) (by simp [Act.eval,Act.put]) (hcp1 _ _ _) ?_)
   go_wp2_with (at_builtin;refine wpList_copy_runI _ rfl _ _ 22 22 rfl _ _ rfl rfl (hcp2 _ rfl _ _) ?_)
   go_ret
   have e7:(i+1)*7=i*7+7:=by omega
   have e8:(n+1)*7=n*7+7:=by omega
   have hin7:i*7≤n*7:=by omega
   rw[←hW1]
   obtain⟨_,g1,g2,g3,g4,g5,g6⟩:=C5 (P:=Tryz.prog) W1 g (i*7) _ f1 news h1n (by rw[hl1,hnl];omega)
   obtain⟨q1,q2⟩:=a7u (cur:=cur) (xs:=xs) (news:=news) (p:=i*7) (s:=7) (m:=n*7) htk hxl hin7 hnl (by rw[hcs];omega)
   rw[e7] at g1
   refine⟨_,rfl,AppRes.inplace hbg hg hroom hcm0 (by rw[q2,hcs]) g1 (by simp only[List.length_append,List.length_take,List.length_drop,hxl,hnl];omega) (by rw[e8];exact q1) (g2.trans f2) (g3.trans f3) (g4.trans f4) (by rw[g5,f5];exact Nat.le_refl _) (fun q hq _=> ?_)⟩
   rw[g6 q hq,f6 q hq]
   rfl
  ·obtain rfl:n=c:=by omega
   have hgw:g<w.heap.size:=L7 hg
   have hvw:vb<w.heap.size:=L7 hvb
   have hz3:(n:Int)<(n:Int)+(1:Int):=by omega
   have hkk:(n:Int)+(1:Int)-(i:Int)=((n+1-i:Nat):Int):=by omega
   have hik:i+(n+1-i)=n+1:=by omega
   have htl:(xs.take (i*7)).length=i*7:=by rw[List.length_take];omega
   have hold:(Builtin.firstCells i0.size i (.slice (some ⟨g,0,none⟩) i n)).run Tryz.prog w.drew= .ok (xs.take (i*7)).toArray w.drew:=by
    rw[hz1]
    refine run_firstCells_some w.drew 7 i ⟨g,0,none⟩ i n (xs.take (i*7)) htl (fun j v hj=> ?_)
    rw[m7,v6 (W:=w.drew) hg,List.getElem?_toArray,Nat.zero_add]
    rw[List.getElem?_take] at hj
    split at hj
    ·rw[←htk,List.getElem?_take] at hj
     split at hj
     ·exact hj
     ·cases hj
    ·cases hj
   obtain⟨G,hG⟩:∃G,G=grownCap w (n+1) n 53:=⟨_,rfl⟩
   have hGn:n+1≤G:=by rw[hG];exact grownCap_ge w _ _ _
   have hGm:G≤maxLen:=by rw[hG];exact grownCap_le_maxLen w (n+1) n _ (by simp only[maxLen];omega)
   have hG63:G≤9223372036854775807:=by simp only[maxLen] at hGm;omega
   obtain⟨rest,hrest⟩:∃rest,rest=(Builtin.zeroCells (Value.agg #[.int .i64 0,.int .i64 0,.int .i64 0,.int .i64 0,.int .i64 0,.int .i64 0,.int .i64 0]).cells (n+1-i)++Builtin.zeroCells (Value.agg #[.int .i64 0,.int .i64 0,.int .i64 0,.int .i64 0,.int .i64 0,.int .i64 0,.int .i64 0]).cells (G-(n+1))).toList:=⟨_,rfl⟩
   have hrl:(xs.take (i*7)++rest).length=G*7:=by
    rw[List.length_append,htl,hrest,Array.length_toList,Array.size_append,size_zeroCells,size_zeroCells]
    show i*7+((n+1-i)*7+(G-(n+1))*7)=G*7
    omega
   have hrz:∀ty,(Builtin.append_ #[22,3] ty #[.slice (some ⟨g,0,none⟩) i n,.int .i64 ((n:Int)+(1:Int)-(i:Int))]).run Tryz.prog w= .ok (.slice (some ⟨w.heap.size,0,none⟩) (n+1) G) (w.drew.alloc (.cells (xs.take (i*7)++rest).toArray 53)):=fun ty=>by
    have h:=Lib.run_append_grow_zeros (P:=Tryz.prog) w 22 3 ty 53 i0 _ .i64 .i64 Tryz.underlying22 Tryz.underlying3 hi hz0 (some ⟨g,0,none⟩) i n (xs.take (i*7)) hold (n+1-i) (by omega) (by omega) (by omega) (by omega) (by rw[hz2];omega) (by rw[hz2,hik];exact growslice_fits (by omega) (by omega))
    rw[hik,←hG] at h
    rw[hkk,h,hrest,a5m]
   obtain⟨W1,hW1⟩:∃W1,W1=w.drew.alloc (.cells (xs.take (i*7)++rest).toArray 53):=⟨_,rfl⟩
   have a1:W1.heap[w.heap.size]? = some (.cells (xs.take (i*7)++rest).toArray 53 (0,0)):=by rw[hW1];exact heap_alloc_new w.drew _
   have a2:∀q,q<w.heap.size→W1.heap[q]? = w.heap[q]? := fun q hq=>by rw[hW1];exact Below.heap_alloc w.drew _ q hq
   have hcpA:∀(W:World),W.heap=W1.heap→∀ty dc,(Builtin.copy_ #[22,22] ty #[.slice (some ⟨w.heap.size,i*7,none⟩) (n+1-i) dc,.slice (some ⟨vb,vo,none⟩) 1 vc]).run Tryz.prog W= .ok (.int .i64 ((1:Nat):Int)) (W.setCells w.heap.size (i*7) news):=fun W hW ty dc=>
    E3 (P:=Tryz.prog) W Tryz.underlying22 hi w.heap.size _ _ dc _ (by rw[hW];exact a1) ⟨vb,vo,none⟩ _ vc 1 (by simp only[Nat.min_def];split<;>omega) _ (by rw[hz1];exact hnl) (fun j u hj=>by
     have:=hcv _ rfl j u hj
     rw[m7,v6 hvb] at this
     rw[m7,v6 (W:=W) (by rw[hW,a2 vb hvw];exact hvb)]
     exact this) h1n (by rw[hrl,hnl];omega)
   obtain⟨_,f1,f2,f3,f4,f5,f6⟩:=C5 (P:=Tryz.prog) W1 w.heap.size (i*7) _ a1 news h1n (by rw[hrl,hnl];omega)
   have hl1:(w7 (xs.take (i*7)++rest) (i*7) news).length=G*7:=by rw[D7 (by rw[hrl,hnl];omega),hrl]
   have hcpB:∀(W:World),W.heap=(W1.setCells w.heap.size (i*7) news).heap→∀ty dc sc,(Builtin.copy_ #[22,22] ty #[.slice (some ⟨w.heap.size,(i+1)*7,none⟩) (n-i) dc,.slice (some ⟨g,i*7,none⟩) (n-i) sc]).run Tryz.prog W= .ok (.int .i64 ((n-i:Nat):Int)) (W.setCells w.heap.size ((i+1)*7) (xs.drop (i*7))):=fun W hW ty dc sc=>
    E3 (P:=Tryz.prog) W Tryz.underlying22 hi w.heap.size _ _ dc _ (by rw[hW];exact f1) ⟨g,i*7,none⟩ _ sc (n-i) (by simp only[Nat.min_def];split<;>omega) _ (by rw[hz1];exact hdl) (fun j u hj=>by
     rw[m7,v6 (W:=W) (by rw[hW,f6 g (by omega),a2 g hgw];exact hg),List.getElem?_toArray]
     rw[List.getElem?_drop,←htk,List.getElem?_take] at hj
     split at hj
     ·exact hj
     ·cases hj) (fun u hu=>h1x u (List.mem_of_mem_drop hu)) (by rw[hl1,hdl];omega)
   clear hkk hik hold hG hrest htl
   have hw1:IntKind.i64.wrap ((i:Int)+(1:Int))=(i:Int)+(1:Int):=by rw[IntKind.wrap_i64];omega
   have hb1:(0:Int)≤(i:Int)+(1:Int):=by omega
   have htn:((i:Int)+(1:Int)).toNat=i+1:=by omega
   have hb2:¬(G=i+1):=by omega
   have hb3:(i:Int)≤(n:Int):=by omega
   have hb4:¬(G=i):=by omega
   have hb5:¬(n=i):=by omega
   have mixed:Tryz.prog.follows Departure.mixedOrders=true:=by kernel_rfl
   go_enter Tryz.func90,Tryz.ntmps90
   go_wp2_with (first
    | (at_builtin;refine Lib.wpList_append_run _ rfl _ _ _ _ rfl _ _ rfl rfl _ _ (hrz _) ?_)
    | (at_builtin;refine wpList_copy_runI _ rfl _ _ 22 22 rfl _ _ rfl rfl (hcpA _ (by rw[hW1];rfl) _ _) ?_))
   have hE:(((w.alloc (Obj.cells (xs.take (i*7)++rest).toArray 53)).drew.setCells w.heap.size (i*7) news).drew).heap=(W1.setCells w.heap.size (i*7) news).heap:=by rw[hW1];rfl
   go_region_law_o (refine step_copy_runI rfl _ _ 22 22 rfl (.slice (some ⟨w.heap.size,(i+1)*7,none⟩) (n-i) (G-(i+1))) (.slice (some ⟨g,i*7,none⟩) (n-i) (n-i)) (by simp [Act.eval,Act.put]) (by simp [Act.eval,Act.put]) (hcpB _ hE 3 (G-(i+1)) (n-i)) ?_)
   go_wp2
   go_ret
   have hWm:((w.alloc (Obj.cells (xs.take (i*7)++rest).toArray 53)).drew.setCells w.heap.size (i*7) news).drew=(W1.setCells w.heap.size (i*7) news).drew:=by rw[hW1];rfl
   rw[hWm]
   obtain⟨_,g1,g2,g3,g4,g5,g6⟩:=C5 (P:=Tryz.prog) (W1.setCells w.heap.size (i*7) news).drew w.heap.size ((i+1)*7) _ f1 (xs.drop (i*7)) (fun u hu=>h1x u (List.mem_of_mem_drop hu)) (by rw[hl1,hdl];omega)
   have e7:(i+1)*7=i*7+7:=by omega
   have e8:(n+1)*7=n*7+7:=by omega
   have hin7:i*7≤n*7:=by omega
   obtain⟨q1,q2⟩:=a3h (rest:=rest) (xs:=xs) (news:=news) (p:=i*7) (s:=7) (m:=n*7) hxl hin7 hnl (by rw[hrl];omega)
   have hsz:W1.heap.size=w.heap.size+1:=by rw[hW1];simp
   rw[e7] at g1 g2 g3 g4 g5 g6 ⊢
   refine⟨_,rfl,AppRes.newrow (cap:=G) hbase (Nat.le_refl _) ?_ hGn hGm (by rw[q2,hrl]) g1 (by simp only[List.length_append,List.length_take,List.length_drop,hxl,hnl];omega) (by rw[e8];exact q1) (g2.trans (f2.trans (by rw[hW1];rfl))) (g3.trans (f3.trans (by rw[hW1];rfl))) (g4.trans (f4.trans (by rw[hW1];rfl))) (fun q hq=> ?_)⟩
   ·rw[g5]
    show w.heap.size<(W1.setCells w.heap.size (i*7) news).heap.size
    rw[f5,hsz]
    exact Nat.lt_succ_self _
   ·rw[g6 q (by omega)]
    show(W1.setCells w.heap.size (i*7) news).heap[q]? = _
    rw[f6 q (by omega),a2 q hq]
 ·obtain rfl:i=n:=by omega
  have e1:xs.take (i*7)=xs:=List.take_of_length_le (by omega)
  have e2:xs.drop (i*7)=[]:=List.drop_eq_nil_of_le (by omega)
  rw[e1,e2,List.append_nil]
  have hm1:¬((1:Int)=0):=by omega
  go_enter Tryz.func90,Tryz.ntmps90
  go_wp2_with (at_builtin;refine M7 rfl _ _ 22 rfl base 53 i0 (.agg #[.int .i64 0,.int .i64 0,.int .i64 0,.int .i64 0,.int .i64 0,.int .i64 0,.int .i64 0]) 7 56 Tryz.underlying22 hi hz0 ‹_› hz2 rfl _ i xs rfl hown ⟨_,_,rfl⟩ (some ⟨vb,vo,none⟩) 1 vc news rfl (by omega) (fun _=>rfl) hcv h1n (by simp only[maxLen];omega) (by omega) hbase ?_)
  all_goals (intro v' W' happ;go_wp2;go_ret;first | exact⟨_,rfl,happ⟩ | exact⟨_,rfl,by rw[show c=i by assumption];exact happ⟩)
set_option maxHeartbeats 1000000 in
set_option maxRecDepth 100000 in
theorem c5C:a7J Tryz.prog 49 59 9:=by
 intro w base a n c i vb vo vc xs vs news tv hbase hown hin hvb hvn hnl hap h1n h1x hn
 obtain⟨i0,hi,hz0,hz1,hz2⟩:=info_parts a5n
 have hxl:xs.length=n*9:=by
  rcases hown with ⟨h1,_⟩ | ⟨h1,h2,_⟩
  ·exact h1
  ·rw[h1,h2];rfl
 have hcv:∀b,some (⟨vb,vo,none⟩:Addr)=some b→∀j u,news[j]? = some u→w.cell? (b.add j)=some u:=by
  intro b hb j u hj
  simp only[Option.some.injEq] at hb
  subst hb
  rw[m7,v6 hvb,List.getElem?_toArray]
  rw[←hvn,List.getElem?_take] at hj
  split at hj
  ·rwa [List.getElem?_drop] at hj
  ·cases hj
 rcases Nat.lt_or_ge i n with hlt | hge
 ·obtain⟨g,cur,rfl,hbg,hg,hnc,hcm,hcs,htk⟩:∃g cur,a=some ⟨g,0,none⟩∧base≤g∧w.heap[g]? = some (.cells (cur:List Value).toArray 59 (0,0))∧n≤c∧c≤maxLen∧cur.length=c*9∧cur.take (n*9)=xs:=by
   rcases hown with ⟨_,⟨_,h2⟩ | ⟨g,cap,cur,h1,h2,h3,h4,h5,h6,h7⟩⟩ | ⟨h1,_⟩
   ·omega
   ·simp only[Value.slice.injEq] at h1
    obtain⟨rfl,_,rfl⟩:=h1
    exact⟨g,cur.toList,rfl,h2,by rw[Array.toArray_toList];exact h3,h4,h5,by simpa using h6,h7⟩
   ·omega
  have hm1:¬((1:Int)=0):=by omega
  have hin1:¬((i:Int)=(n:Int)):=by omega
  have hvg:vb≠g:=fun e=>by
   obtain⟨c',rfl⟩:∃c',c=c'+1:=⟨c-1,by omega⟩
   exact hap g rfl e.symm
  have hdl:(xs.drop (i*9)).length=(n-i)*9:=by rw[List.length_drop,hxl];omega
  have hcm0:=hcm
  simp only[maxLen] at hcm
  rcases Nat.lt_or_ge n c with hroom | hroom
  ·have hov:∀lb cb,(callFunc 79 #[.slice (some ⟨vb,vo,none⟩) 1 vc,.slice (some ⟨g,(i+1)*9,none⟩) lb cb]).run Tryz.prog w= .ok (.value (.bool false)) w:=fun lb cb=>by
    rw[run_callFunc_extern (P:=Tryz.prog) Tryz.func79 (by kernel_rfl) (by kernel_rfl) (by kernel_rfl) (e:=Extern.SlicesOverlaps.overlaps #[23,23] #[4]) (by kernel_rfl),
     Lib.run_overlaps_apart w 23 4 59 Tryz.underlying23 9 (fun w=>by rw[l9 hi,show Tryz.prog.cellsOf 59=9 by simp [Program.cellsOf,hi,hz1]]) ⟨vb,vo,none⟩ ⟨g,(i+1)*9,none⟩ 1 vc lb cb hvg tv 59 vs.length (c*9) (by simp [World.shape?,hvb]) (by simp [World.shape?,hg,hcs]) (by omega) (by simp [World.frozen?,hvb]) (by simp [World.frozen?,hvb])]
    rfl
   have hcp1:∀ty dc sc,(Builtin.copy_ #[23,23] ty #[.slice (some ⟨g,(i+1)*9,none⟩) (n-i) dc,.slice (some ⟨g,i*9,none⟩) (n+1-i) sc]).run Tryz.prog w.drew= .ok (.int .i64 ((n-i:Nat):Int)) (w.drew.setCells g ((i+1)*9) (xs.drop (i*9))):=fun ty dc sc=>
    E3 (P:=Tryz.prog) w.drew Tryz.underlying23 hi g _ _ dc cur hg ⟨g,i*9,none⟩ _ sc (n-i) (by simp only[Nat.min_def];split<;>omega) _ (by rw[hz1];exact hdl) (fun j u hj=>by
     rw[m7,v6 (W:=w.drew) hg,List.getElem?_toArray]
     rw[List.getElem?_drop,←htk,List.getElem?_take] at hj
     split at hj
     ·exact hj
     ·cases hj) (fun u hu=>h1x u (List.mem_of_mem_drop hu)) (by rw[hdl];omega)
   obtain⟨_,f1,f2,f3,f4,f5,f6⟩:=C5 (P:=Tryz.prog) w.drew g ((i+1)*9) cur hg (xs.drop (i*9)) (fun u hu=>h1x u (List.mem_of_mem_drop hu)) (by rw[hdl];omega)
   obtain⟨W1,hW1⟩:∃W1,W1=w.drew.setCells g ((i+1)*9) (xs.drop (i*9)):=⟨_,rfl⟩
   rw[←hW1] at f1 f2 f3 f4 f5 f6 hcp1
   have hl1:(w7 cur ((i+1)*9) (xs.drop (i*9))).length=c*9:=by rw[D7 (by rw[hdl];omega),hcs]
   have hcp2:∀(W:World),W.heap=W1.heap→∀ty dc,(Builtin.copy_ #[23,23] ty #[.slice (some ⟨g,i*9,none⟩) (n+1-i) dc,.slice (some ⟨vb,vo,none⟩) 1 vc]).run Tryz.prog W= .ok (.int .i64 ((1:Nat):Int)) (W.setCells g (i*9) news):=fun W hW ty dc=>
    E3 (P:=Tryz.prog) W Tryz.underlying23 hi g _ _ dc _ (by rw[hW];exact f1) ⟨vb,vo,none⟩ _ vc 1 (by simp only[Nat.min_def];split<;>omega) _ (by rw[hz1];exact hnl) (fun j u hj=>by
     have:=hcv _ rfl j u hj
     rw[m7,v6 hvb] at this
     rw[m7,v6 (W:=W) (by rw[hW,f6 vb hvg];exact hvb)]
     exact this) h1n (by rw[hl1,hnl];omega)
   go_enter Tryz.func49,Tryz.ntmps49
   have hw1:IntKind.i64.wrap ((i:Int)+(1:Int))=(i:Int)+(1:Int):=by rw[IntKind.wrap_i64];omega
   have hb1:(0:Int)≤(i:Int)+(1:Int):=by omega
   have htn:((i:Int)+(1:Int)).toNat=i+1:=by omega
   have hb2:¬(c=i+1):=by omega
   have hb3:(i:Int)≤(n:Int)+(1:Int):=by omega
   have hb4:¬(c=i):=by omega
   have mixed:Tryz.prog.follows Departure.mixedOrders=true:=by kernel_rfl
   go_wp2_with (simp only[hov])
   go_region_law_o (refine step_copy_runI rfl _ _ 23 23 rfl _ _ (by simp [Act.eval,Act.put]) (by simp [Act.eval,Act.put]) (hcp1 _ _ _) ?_)
   go_wp2_with (at_builtin;refine wpList_copy_runI _ rfl _ _ 23 23 rfl _ _ rfl rfl (hcp2 _ rfl _ _) ?_)
   go_ret
   have e7:(i+1)*9=i*9+9:=by omega
   have e8:(n+1)*9=n*9+9:=by omega
   have hin7:i*9≤n*9:=by omega
   rw[←hW1]
   obtain⟨_,g1,g2,g3,g4,g5,g6⟩:=C5 (P:=Tryz.prog) W1 g (i*9) _ f1 news h1n (by rw[hl1,hnl];omega)
   obtain⟨q1,q2⟩:=a7u (cur:=cur) (xs:=xs) (news:=news) (p:=i*9) (s:=9) (m:=n*9) htk hxl hin7 hnl (by rw[hcs];omega)
   rw[e7] at g1
   refine⟨_,rfl,AppRes.inplace hbg hg hroom hcm0 (by rw[q2,hcs]) g1 (by simp only[List.length_append,List.length_take,List.length_drop,hxl,hnl];omega) (by rw[e8];exact q1) (g2.trans f2) (g3.trans f3) (g4.trans f4) (by rw[g5,f5];exact Nat.le_refl _) (fun q hq _=> ?_)⟩
   rw[g6 q hq,f6 q hq]
   rfl
  ·obtain rfl:n=c:=by omega
   have hgw:g<w.heap.size:=L7 hg
   have hvw:vb<w.heap.size:=L7 hvb
   have hz3:(n:Int)<(n:Int)+(1:Int):=by omega
   have hkk:(n:Int)+(1:Int)-(i:Int)=((n+1-i:Nat):Int):=by omega
   have hik:i+(n+1-i)=n+1:=by omega
   have htl:(xs.take (i*9)).length=i*9:=by rw[List.length_take];omega
   have hold:(Builtin.firstCells i0.size i (.slice (some ⟨g,0,none⟩) i n)).run Tryz.prog w.drew= .ok (xs.take (i*9)).toArray w.drew:=by
    rw[hz1]
    refine run_firstCells_some w.drew 9 i ⟨g,0,none⟩ i n (xs.take (i*9)) htl (fun j v hj=> ?_)
    rw[m7,v6 (W:=w.drew) hg,List.getElem?_toArray,Nat.zero_add]
    rw[List.getElem?_take] at hj
    split at hj
    ·rw[←htk,List.getElem?_take] at hj
     split at hj
     ·exact hj
     ·cases hj
    ·cases hj
   obtain⟨G,hG⟩:∃G,G=grownCap w (n+1) n 59:=⟨_,rfl⟩
   have hGn:n+1≤G:=by rw[hG];exact grownCap_ge w _ _ _
   have hGm:G≤maxLen:=by rw[hG];exact grownCap_le_maxLen w (n+1) n _ (by simp only[maxLen];omega)
   have hG63:G≤9223372036854775807:=by simp only[maxLen] at hGm;omega
   obtain⟨rest,hrest⟩:∃rest,rest=(Builtin.zeroCells (Value.agg #[.int .i64 0,.int .i64 0,.int .i64 0,.int .i64 0,.int .i64 0,.slice none 0 0,.int .i64 0,.int .i64 0,.slice none 0 0]).cells (n+1-i)++Builtin.zeroCells (Value.agg #[.int .i64 0,.int .i64 0,.int .i64 0,.int .i64 0,.int .i64 0,.slice none 0 0,.int .i64 0,.int .i64 0,.slice none 0 0]).cells (G-(n+1))).toList:=⟨_,rfl⟩
   have hrl:(xs.take (i*9)++rest).length=G*9:=by
    rw[List.length_append,htl,hrest,Array.length_toList,Array.size_append,size_zeroCells,size_zeroCells]
    show i*9+((n+1-i)*9+(G-(n+1))*9)=G*9
    omega
   have hrz:∀ty,(Builtin.append_ #[23,3] ty #[.slice (some ⟨g,0,none⟩) i n,.int .i64 ((n:Int)+(1:Int)-(i:Int))]).run Tryz.prog w= .ok (.slice (some ⟨w.heap.size,0,none⟩) (n+1) G) (w.drew.alloc (.cells (xs.take (i*9)++rest).toArray 59)):=fun ty=>by
    have h:=Lib.run_append_grow_zeros (P:=Tryz.prog) w 23 3 ty 59 i0 _ .i64 .i64 Tryz.underlying23 Tryz.underlying3 hi hz0 (some ⟨g,0,none⟩) i n (xs.take (i*9)) hold (n+1-i) (by omega) (by omega) (by omega) (by omega) (by rw[hz2];omega) (by rw[hz2,hik];exact growslice_fits (by omega) (by omega))
    rw[hik,←hG] at h
    rw[hkk,h,hrest,a5m]
   obtain⟨W1,hW1⟩:∃W1,W1=w.drew.alloc (.cells (xs.take (i*9)++rest).toArray 59):=⟨_,rfl⟩
   have a1:W1.heap[w.heap.size]? = some (.cells (xs.take (i*9)++rest).toArray 59 (0,0)):=by rw[hW1];exact heap_alloc_new w.drew _
   have a2:∀q,q<w.heap.size→W1.heap[q]? = w.heap[q]? := fun q hq=>by rw[hW1];exact Below.heap_alloc w.drew _ q hq
   have hcpA:∀(W:World),W.heap=W1.heap→∀ty dc,(Builtin.copy_ #[23,23] ty #[.slice (some ⟨w.heap.size,i*9,none⟩) (n+1-i) dc,.slice (some ⟨vb,vo,none⟩) 1 vc]).run Tryz.prog W= .ok (.int .i64 ((1:Nat):Int)) (W.setCells w.heap.size (i*9) news):=fun W hW ty dc=>
    E3 (P:=Tryz.prog) W Tryz.underlying23 hi w.heap.size _ _ dc _ (by rw[hW];exact a1) ⟨vb,vo,none⟩ _ vc 1 (by simp only[Nat.min_def];split<;>omega) _ (by rw[hz1];exact hnl) (fun j u hj=>by
     have:=hcv _ rfl j u hj
     rw[m7,v6 hvb] at this
     rw[m7,v6 (W:=W) (by rw[hW,a2 vb hvw];exact hvb)]
     exact this) h1n (by rw[hrl,hnl];omega)
   obtain⟨_,f1,f2,f3,f4,f5,f6⟩:=C5 (P:=Tryz.prog) W1 w.heap.size (i*9) _ a1 news h1n (by rw[hrl,hnl];omega)
   have hl1:(w7 (xs.take (i*9)++rest) (i*9) news).length=G*9:=by rw[D7 (by rw[hrl,hnl];omega),hrl]
   have hcpB:∀(W:World),W.heap=(W1.setCells w.heap.size (i*9) news).heap→∀ty dc sc,(Builtin.copy_ #[23,23] ty #[.slice (some ⟨w.heap.size,(i+1)*9,none⟩) (n-i) dc,.slice (some ⟨g,i*9,none⟩) (n-i) sc]).run Tryz.prog W= .ok (.int .i64 ((n-i:Nat):Int)) (W.setCells w.heap.size ((i+1)*9) (xs.drop (i*9))):=fun W hW ty dc sc=>
    E3 (P:=Tryz.prog) W Tryz.underlying23 hi w.heap.size _ _ dc _ (by rw[hW];exact f1) ⟨g,i*9,none⟩ _ sc (n-i) (by simp only[Nat.min_def];split<;>omega) _ (by rw[hz1];exact hdl) (fun j u hj=>by
     rw[m7,v6 (W:=W) (by rw[hW,f6 g (by omega),a2 g hgw];exact hg),List.getElem?_toArray]
     rw[List.getElem?_drop,←htk,List.getElem?_take] at hj
     split at hj
     ·exact hj
     ·cases hj) (fun u hu=>h1x u (List.mem_of_mem_drop hu)) (by rw[hl1,hdl];omega)
   clear hkk hik hold hG hrest htl
   have hw1:IntKind.i64.wrap ((i:Int)+(1:Int))=(i:Int)+(1:Int):=by rw[IntKind.wrap_i64];omega
   have hb1:(0:Int)≤(i:Int)+(1:Int):=by omega
   have htn:((i:Int)+(1:Int)).toNat=i+1:=by omega
   have hb2:¬(G=i+1):=by omega
   have hb3:(i:Int)≤(n:Int):=by omega
   have hb4:¬(G=i):=by omega
   have hb5:¬(n=i):=by omega
   have mixed:Tryz.prog.follows Departure.mixedOrders=true:=by kernel_rfl
   go_enter Tryz.func49,Tryz.ntmps49
   go_wp2_with (first
    | (at_builtin;refine Lib.wpList_append_run _ rfl _ _ _ _ rfl _ _ rfl rfl _ _ (hrz _) ?_)
    | (at_builtin;refine wpList_copy_runI _ rfl _ _ 23 23 rfl _ _ rfl rfl (hcpA _ (by rw[hW1];rfl) _ _) ?_))
   have hE:(((w.alloc (Obj.cells (xs.take (i*9)++rest).toArray 59)).drew.setCells w.heap.size (i*9) news).drew).heap=(W1.setCells w.heap.size (i*9) news).heap:=by rw[hW1];rfl
   go_region_law_o (refine step_copy_runI rfl _ _ 23 23 rfl (.slice (some ⟨w.heap.size,(i+1)*9,none⟩) (n-i) (G-(i+1))) (.slice (some ⟨g,i*9,none⟩) (n-i) (n-i)) (by simp [Act.eval,Act.put]) (by simp [Act.eval,Act.put]) (hcpB _ hE 3 (G-(i+1)) (n-i)) ?_)
   go_wp2
   go_ret
   have hWm:((w.alloc (Obj.cells (xs.take (i*9)++rest).toArray 59)).drew.setCells w.heap.size (i*9) news).drew=(W1.setCells w.heap.size (i*9) news).drew:=by rw[hW1];rfl
   rw[hWm]
   obtain⟨_,g1,g2,g3,g4,g5,g6⟩:=C5 (P:=Tryz.prog) (W1.setCells w.heap.size (i*9) news).drew w.heap.size ((i+1)*9) _ f1 (xs.drop (i*9)) (fun u hu=>h1x u (List.mem_of_mem_drop hu)) (by rw[hl1,hdl];omega)
   have e7:(i+1)*9=i*9+9:=by omega
   have e8:(n+1)*9=n*9+9:=by omega
   have hin7:i*9≤n*9:=by omega
   obtain⟨q1,q2⟩:=a3h (rest:=rest) (xs:=xs) (news:=news) (p:=i*9) (s:=9) (m:=n*9) hxl hin7 hnl (by rw[hrl];omega)
   have hsz:W1.heap.size=w.heap.size+1:=by rw[hW1];simp
   rw[e7] at g1 g2 g3 g4 g5 g6 ⊢
   refine⟨_,rfl,AppRes.newrow (cap:=G) hbase (Nat.le_refl _) ?_ hGn hGm (by rw[q2,hrl]) g1 (by simp only[List.length_append,List.length_take,List.length_drop,hxl,hnl];omega) (by rw[e8];exact q1) (g2.trans (f2.trans (by rw[hW1];rfl))) (g3.trans (f3.trans (by rw[hW1];rfl))) (g4.trans (f4.trans (by rw[hW1];rfl))) (fun q hq=> ?_)⟩
   ·rw[g5]
    show w.heap.size<(W1.setCells w.heap.size (i*9) news).heap.size
    rw[f5,hsz]
    exact Nat.lt_succ_self _
   ·rw[g6 q (by omega)]
    show(W1.setCells w.heap.size (i*9) news).heap[q]? = _
    rw[f6 q (by omega),a2 q hq]
 ·obtain rfl:i=n:=by omega
  have e1:xs.take (i*9)=xs:=List.take_of_length_le (by omega)
  have e2:xs.drop (i*9)=[]:=List.drop_eq_nil_of_le (by omega)
  rw[e1,e2,List.append_nil]
  have hm1:¬((1:Int)=0):=by omega
  go_enter Tryz.func49,Tryz.ntmps49
  go_wp2_with (at_builtin;refine M7 rfl _ _ 23 rfl base 59 i0 (.agg #[.int .i64 0,.int .i64 0,.int .i64 0,.int .i64 0,.int .i64 0,.slice none 0 0,.int .i64 0,.int .i64 0,.slice none 0 0]) 9 104 Tryz.underlying23 hi hz0 ‹_› hz2 rfl _ i xs rfl hown ⟨_,_,rfl⟩ (some ⟨vb,vo,none⟩) 1 vc news rfl (by omega) (fun _=>rfl) hcv h1n (by simp only[maxLen];omega) (by omega) hbase ?_)
  all_goals (intro v' W' happ;go_wp2;go_ret;first | exact⟨_,rfl,happ⟩ | exact⟨_,rfl,by rw[show c=i by assumption];exact happ⟩)
def X.ins(x:X)(i:E)(y:X):X:= .appS (.appS (.sub x (.lit 0) i) y) (.sub x i (.lenS x))
theorem X.ins_ev(ρ:Env)(x:X)(i:E)(y:X):(X.ins x i y).ev ρ=m8 (x.ev ρ) 0 (i.ev ρ)++y.ev ρ++m8 (x.ev ρ) (i.ev ρ) ((x.ev ρ).length:Nat):=by
 simp only[X.ins,X.appS_ev,X.ev,E.ev,E.lenS_ev]
def a7c(e:TypeId)(ks:List CK)(args:List V)(mem:Mem)(nx:Nat):T j6:=match args with
 | [.v (.one (.z (.own id ver))),.v (.one (.z (.int .i64 i))),.v (.one (.z (.sl vid off 1 (some c))))]=>match mem.get id with
   | some (.own t ks' x v)=>match mem.get vid with
     | some (.cells _ cs)=>if E.same ver v&&Nat.beq t e&&CK.sameL ks ks'&& !Nat.beq id vid&&decide (1≤c)&&decide (off+ks.length≤cs.length) then match a2K X1 ks 1 (cs.drop off) with
       | some y=> .obs [.tru (.cmpS .leq (.lit 0) i),.tru (.cmpS .leq i (.lenS x)),.tru (.cmpS .lss (.lenS x) (.lit 1000000))] (.ret (.s0 (.own id (.plusS ver (.lit 1))),[(id,.own e ks (X.ins x i y) (.plusS ver (.lit 1)))],nx))
       | none=> .stuck "Insert: row" else .stuck "Insert: kinds"
     | _=> .stuck "Insert: what"
   | _=> .stuck "Insert: into"
 | _=> .stuck "Insert"
theorem a9o{P:Program}{ρ:Env}{f:FuncId}{e:TypeId}{ks:List CK}(hc:a7J P f e ks.length):i9 P ρ f (a7c e ks):=by
 intro args mem nx q hq hle σ W vals hr hfr hd
 unfold a7c at hq
 split at hq
 ·rename_i id ver i vid off c
  split at hq
  ·rename_i t ks' x v hm
   split at hq
   ·rename_i tv cs hmv
    split at hq
    ·rename_i hcond
     simp only[Bool.and_eq_true,decide_eq_true_eq,Bool.not_eq_true'] at hcond
     obtain⟨⟨⟨⟨⟨hv,ht⟩,hk⟩,hid⟩,hc1⟩,hoff⟩:=hcond
     obtain rfl:=E.same_eq _ _ hv
     obtain rfl:=j9 ht
     obtain rfl:=CK.sameL_eq _ _ hk
     have hid:id≠vid:=fun e=>by subst e;simp at hid
     split at hq
     ·rename_i y hy
      obtain⟨ho,hq⟩:=T.res_obs hq
      obtain rfl:=g7 hq
      obtain⟨u1,us,rfl,d1,d2⟩:=DL.cons_inv hd
      obtain⟨u2,us2,rfl,d3,d4⟩:=DL.cons_inv d2
      obtain⟨u3,us3,rfl,d5,d6⟩:=DL.cons_inv d4
      obtain rfl:=DL.nil_inv d6
      have o1:=ho _ (List.mem_cons_self ..)
      have o2:=ho _ (List.mem_cons_of_mem _ (List.mem_cons_self ..))
      have o3:=ho _ (List.mem_cons_of_mem _ (List.mem_cons_of_mem _ (List.mem_cons_self ..)))
      simp only[Ob.ok,B.cmpS_ev] at o1 o2 o3
      have o1:=of_decide_eq_true o1
      have o2:=of_decide_eq_true o2
      have o3:=of_decide_eq_true o3
      simp only[E.ev,E.lenS_ev] at o1 o2 o3
      obtain⟨⟨a,n,c0,rfl⟩,hd1⟩:=d1
      obtain rfl:u2= .int .i64 (i.ev ρ):=d3
      obtain⟨b,hb,rfl⟩:=d5
      obtain⟨b',hb',vs,h3,h4⟩:=hr.blk _ _ hmv
      rw[hb] at hb'
      simp only[Option.some.injEq] at hb'
      subst hb'
      obtain⟨ov,xs,hO⟩:=hr.blk _ _ hm
      have hvv:=hO.now
      rw[hd1] at hvv
      simp only[Option.some.injEq] at hvv
      subst hvv
      have hn:n=(x.ev ρ).length:=by
       rcases hO.row with ⟨_,h2⟩ | ⟨h2,_,b,h3⟩
       ·rcases h2 with ⟨h2,h3⟩ | ⟨g,cap,cur,h2,_⟩
        ·simp only[Value.slice.injEq] at h2;omega
        ·simp only[Value.slice.injEq] at h2
         exact h2.2.1
       ·simp only[Value.slice.injEq] at h3;omega
      have hl:=h3.length
      obtain⟨e1,e2⟩:=a2l (O8 (W:=ρ.w) (Below.refl _ _)) ks 1 _ y hy _ (h3.drop off) (by rw[List.length_drop];omega)
      obtain⟨k,hki⟩:=Int.eq_ofNat_of_zero_le o1
      have hrows:=hO.rows
      have hnews:RowsAt ρ.w ks ((vs.drop off).take ks.length) (y.ev ρ):=by
       refine⟨by rw[e1,List.length_take,List.length_drop];omega,fun j row hj=> ?_⟩
       have hlt:j<1:=by rw[←e1];exact(List.getElem?_eq_some_iff.1 hj).1
       obtain rfl:j=0:=by omega
       have:=e2 0 row hj
       rw[Nat.zero_mul,List.drop_zero] at this ⊢
       rw[List.take_take,Nat.min_self]
       exact this
      have hcalls:=hc W ρ.w.heap.size a n c0 k b off c xs vs ((vs.drop off).take ks.length) tv hr.base.size (hn▸hO.row) (by omega) h4 rfl (by rw[List.length_take,List.length_drop];omega)
       (fun k' hk' e=>hid (hr.inj id vid k' (.inr ⟨_,_,hd1,hk'⟩) (.inl (by rw[hb,e])))) hnews.all_one hrows.all_one (by omega)
      have hw:CallsIn Fence.wide 0 P f #[.slice a n c0,.int .i64 k,.slice (some ⟨b,off,none⟩) 1 c] W _:=callsIn_wide.2 hcalls
      rw[hki]
      refine CallsIn.mono (F:=FR none) hw ?_
      rintro en W' ⟨v',rfl,happ⟩
      have hver:(E.plusS ver (.lit 1)).ev ρ=ver.ev ρ+1:=by rw[E.plusS_ev];rfl
      obtain⟨b2,c2,hb2⟩:=happ.sl
      have hev:=X.ins_ev ρ x i y
      have s1:=hrows.sub (l:=0) (m:=i.ev ρ) (by omega) (by omega)
      have s2:=hrows.sub (l:=i.ev ρ) (m:=((x.ev ρ).length:Nat)) (by omega) (by omega)
      have hall:=(s1.app hnews).app s2
      have hxl:=hrows.1
      have e0:(xs.drop ((0:Int).toNat*ks.length)).take (((i.ev ρ).toNat-(0:Int).toNat)*ks.length)++(vs.drop off).take ks.length++(xs.drop ((i.ev ρ).toNat*ks.length)).take ((((x.ev ρ).length:Int).toNat-(i.ev ρ).toNat)*ks.length)=xs.take (k*ks.length)++(vs.drop off).take ks.length++xs.drop (k*ks.length):=by
       rw[hki]
       simp only[Int.toNat_zero,Nat.zero_mul,List.drop_zero,Nat.sub_zero,Int.ofNat_eq_natCast,Int.toNat_natCast]
       congr 1
       rw[List.take_of_length_le]
       rw[List.length_drop,hxl,Nat.sub_mul]
       omega
      rw[e0,←hev] at hall
      have hlen:((X.ins x i y).ev ρ).length=n+1:=by
       rw[hev]
       simp only[m8,List.length_append,List.length_take,List.length_drop,Int.toNat_zero,e1,Int.toNat_natCast]
       omega
      have hstep:=G4 (ρ:=ρ) (σ:=σ) (W:=W) (id:=id) (t:=t) (ks:=ks) (x:=X.ins x i y) (ver:= .plusS ver (.lit 1)) (v:= .slice a n c0) (v':=v') (W':=W') (xs:=xs.take (k*ks.length)++(vs.drop off).take ks.length++xs.drop (k*ks.length)) (fun i a hi=>hr.lt i a hi) (by rw[hver];exact hO.last _ (by omega)) (fun u hu=>hO.last u (by rw[hver] at hu;omega)) hr.inj
       (fun k' hk'=> .inr ⟨_,_,hd1,hk'⟩) (by rw[hlen];exact happ) hall.2 (by rw[hlen];omega)
      refine⟨_,_,rfl,⟨⟨b2,_,c2,hb2⟩,As.say_self⟩,hstep,fun j hj=> ?_⟩
      rcases F7 hj with h | h
      ·exact .inl h
      ·exact .inl (.inr ⟨_,_,by rw[h];exact hO.now⟩)
     ·exact hq.elim
    ·exact hq.elim
   ·exact hq.elim
  ·exact hq.elim
 ·exact hq.elim
def ftK:List CK:=[.int .i64,.int .i64,.int .i64,.int .i64,.int .i64,.sl [.int .i64,.int .i64],.int .i64,.int .i64,.sl [.int .i64,.int .i64,.int .i64,.int .i64,.int .i64,.int .i64]]
def a6Q:=a7c 53 G7
theorem a4U{ρ:Env}:i9 Tryz.prog ρ 90 a6Q:=a9o c2w
def b0i:=a7c 59 ftK
theorem a6o{ρ:Env}:i9 Tryz.prog ρ 49 b0i:=a9o c5C
def a5b:=a9m 59 ftK
theorem a3k{ρ:Env}:i9 Tryz.prog ρ 48 a5b:=b2r c9O
def a2G:Ct:=(90,a6Q)::(49,b0i)::(48,a5b)::(77,a2P)::[]
theorem Q7{ρ:Env}:CtOk Tryz.prog ρ a2G:= .cons a4U (.cons a6o (.cons a3k (.cons a2s .nil)))
end Go.Proofs.YtldbejmgalhdaaaGreat
