/- AB, merged: Ae, Ag, Ah, Ai. -/
import Derived.Test.YtbbjlleaofgddaaGreatMY
import Derived.Test.YtbbjlleaofgddaaGreatAA
import Derived.Test.YtbbjlleaofgddaaGreatMZ
import Derived.Test.YtbbjlleaofgddaaGreatMK
import Derived.Test.YtbbjlleaofgddaaGreatMC
import Derived.OwnWalk
import Derived.Maps.AppendAt
set_option linter.unusedSimpArgs false
set_option linter.unusedVariables false
namespace Go.Proofs.YtbbjlleaofgddaaGreat
open Go.RowKit
theorem N0:(Tryz.prog.info? 31).map (fun i=>(i.zero,i.size,i.bytes))=some (some (.agg #[.int .i64 0,.int .i64 0,.int .i64 0,.bool false,.int .i64 0,.int .i64 0,.int .i64 0,.int .i64 0,.int .i64 0,.int .i64 0,.slice none 0 0]),11,104):=by kernel_rfl
set_option maxRecDepth 100000 in
theorem b6m:b0I Tryz.prog 42 31 11:=by
 intro w base a n c news hbase hl ha hnews h1 hn
 obtain⟨i0,hi,hz0,hz1,hz2⟩:=info_parts N0
 have heq:=fun W=>b3h (P:=Tryz.prog) Tryz.underlying22 a n c W
 cases a with
 | none=>
   obtain rfl:n=0:=by
    rcases Nat.eq_zero_or_pos n with e | e
    ·exact e
    ·have:=ha e;cases this
   obtain rfl:news=[]:=List.eq_nil_of_length_eq_zero (by simpa using hl)
   clear hl ha hnews h1
   go_enter Tryz.func42,Tryz.ntmps42
   go_wp2
   go_ret
   exact⟨_,rfl,AppRes.same (.inl (World.ownsRow_nil _ _ _ _)) ⟨_,_,rfl⟩⟩
 | some b=>
   go_enter Tryz.func42,Tryz.ntmps42
   go_wp2_with (at_builtin;refine S8 rfl _ _ 22 rfl base 31 i0 (.agg #[.int .i64 0,.int .i64 0,.int .i64 0,.bool false,.int .i64 0,.int .i64 0,.int .i64 0,.int .i64 0,.int .i64 0,.int .i64 0,.slice none 0 0]) 11 104 Tryz.underlying22 hi hz0 hz1 hz2 rfl _ 0 [] rfl ?c1 ?c2 (some b) n c news rfl hl ha ?c3 h1 ?c4 ?c5 ?c6 ?_)
   case c1=>exact .inr ⟨rfl,rfl,_,rfl⟩
   case c2=>exact⟨_,_,rfl⟩
   case c3=>
    intro b1 hb1 j u hj
    have q:=hnews b1 hb1 j u hj
    rw[World.cell?_alloc_lt _ _ _ (World.block_lt_of_cell? _ _ q)]
    exact q
   case c4=>simp only[maxLen];omega
   case c5=>omega
   case c6=>simp only[World.size_alloc];omega
   intro v' W' happ
   go_wp2
   go_ret
   exact⟨_,rfl,happ.fresh (by omega)⟩
set_option maxHeartbeats 1000000 in
set_option maxRecDepth 100000 in
theorem b2B:a8a Tryz.prog 52 31 11:=by
 intro w base a n c i vb vo vc xs vs news tv hbase hown hin hvb hvn hnl hap h1n h1x hn
 obtain⟨i0,hi,hz0,hz1,hz2⟩:=info_parts N0
 have hxl:xs.length=n*11:=by
  rcases hown with ⟨h1,_⟩ | ⟨h1,h2,_⟩
  ·exact h1
  ·rw[h1,h2];rfl
 have hcv:∀b,some (⟨vb,vo,none⟩:Addr)=some b→∀j u,news[j]? = some u→w.cell? (b.add j)=some u:=by
  intro b hb j u hj
  simp only[Option.some.injEq] at hb
  subst hb
  rw[m9,t9 hvb,List.getElem?_toArray]
  rw[←hvn,List.getElem?_take] at hj
  split at hj
  ·rwa [List.getElem?_drop] at hj
  ·cases hj
 rcases Nat.lt_or_ge i n with hlt | hge
 ·obtain⟨g,cur,rfl,hbg,hg,hnc,hcm,hcs,htk⟩:∃g cur,a=some ⟨g,0,none⟩∧base≤g∧w.heap[g]? = some (.cells (cur:List Value).toArray 31 (0,0))∧n≤c∧c≤maxLen∧cur.length=c*11∧cur.take (n*11)=xs:=by
   rcases hown with ⟨_,⟨_,h2⟩ | ⟨g,cap,cur,h1,h2,h3,h4,h5,h6,h7⟩⟩ | ⟨h1,_⟩
   ·omega
   ·simp only[Value.slice.injEq] at h1
    obtain⟨rfl,_,rfl⟩:=h1
    exact⟨g,cur.toList,rfl,h2,by rw[Array.toArray_toList];exact h3,h4,h5,by simpa using h6,h7⟩
   ·omega
  have hm1:¬((1:Int)=0):=by omega
  have hin1:¬((i:Int)=(n:Int)):=by omega
  have hvg:vb≠g:=fun e=>by
   obtain⟨c',rfl⟩:∃c',c=c'+1:=⟨c-1,by omega⟩
   exact hap g rfl e.symm
  have hdl:(xs.drop (i*11)).length=(n-i)*11:=by rw[List.length_drop,hxl];omega
  have hcm0:=hcm
  simp only[maxLen] at hcm
  rcases Nat.lt_or_ge n c with hroom | hroom
  ·have hov:∀lb cb,(callFunc 87 #[.slice (some ⟨vb,vo,none⟩) 1 vc,.slice (some ⟨g,(i+1)*11,none⟩) lb cb]).run Tryz.prog w= .ok (.value (.bool false)) w:=fun lb cb=>by
    rw[run_callFunc_extern (P:=Tryz.prog) Tryz.func87 (by kernel_rfl) (by kernel_rfl) (by kernel_rfl) (e:=Extern.SlicesOverlaps.overlaps #[22,22] #[4]) (by kernel_rfl),
     Lib.run_overlaps_apart w 22 4 31 Tryz.underlying22 11 (fun w=>by rw[j7 hi,show Tryz.prog.cellsOf 31=11 by simp [Program.cellsOf,hi,hz1]]) ⟨vb,vo,none⟩ ⟨g,(i+1)*11,none⟩ 1 vc lb cb hvg tv 31 vs.length (c*11) (by simp [World.shape?,hvb]) (by simp [World.shape?,hg,hcs]) (by omega) (by simp [World.frozen?,hvb]) (by simp [World.frozen?,hvb])]
    rfl
   have hcp1:∀ty dc sc,(Builtin.copy_ #[22,22] ty #[.slice (some ⟨g,(i+1)*11,none⟩) (n-i) dc,.slice (some ⟨g,i*11,none⟩) (n+1-i) sc]).run Tryz.prog w.drew= .ok (.int .i64 ((n-i:Nat):Int)) (w.drew.setCells g ((i+1)*11) (xs.drop (i*11))):=fun ty dc sc=>
    H9 (P:=Tryz.prog) w.drew Tryz.underlying22 hi g _ _ dc cur hg ⟨g,i*11,none⟩ _ sc (n-i) (by simp only[Nat.min_def];split<;>omega) _ (by rw[hz1];exact hdl) (fun j u hj=>by
     rw[m9,t9 (W:=w.drew) hg,List.getElem?_toArray]
     rw[List.getElem?_drop,←htk,List.getElem?_take] at hj
     split at hj
     ·exact hj
     ·cases hj) (fun u hu=>h1x u (List.mem_of_mem_drop hu)) (by rw[hdl];omega)
   obtain⟨_,f1,f2,f3,f4,f5,f6⟩:=q9 (P:=Tryz.prog) w.drew g ((i+1)*11) cur hg (xs.drop (i*11)) (fun u hu=>h1x u (List.mem_of_mem_drop hu)) (by rw[hdl];omega)
   obtain⟨W1,hW1⟩:∃W1,W1=w.drew.setCells g ((i+1)*11) (xs.drop (i*11)):=⟨_,rfl⟩
   rw[←hW1] at f1 f2 f3 f4 f5 f6 hcp1
   have hl1:(o0 cur ((i+1)*11) (xs.drop (i*11))).length=c*11:=by rw[t0 (by rw[hdl];omega),hcs]
   have hcp2:∀(W:World),W.heap=W1.heap→∀ty dc,(Builtin.copy_ #[22,22] ty #[.slice (some ⟨g,i*11,none⟩) (n+1-i) dc,.slice (some ⟨vb,vo,none⟩) 1 vc]).run Tryz.prog W= .ok (.int .i64 ((1:Nat):Int)) (W.setCells g (i*11) news):=fun W hW ty dc=>
    H9 (P:=Tryz.prog) W Tryz.underlying22 hi g _ _ dc _ (by rw[hW];exact f1) ⟨vb,vo,none⟩ _ vc 1 (by simp only[Nat.min_def];split<;>omega) _ (by rw[hz1];exact hnl) (fun j u hj=>by
     have:=hcv _ rfl j u hj
     rw[m9,t9 hvb] at this
     rw[m9,t9 (W:=W) (by rw[hW,f6 vb hvg];exact hvb)]
     exact this) h1n (by rw[hl1,hnl];omega)
   go_enter Tryz.func52,Tryz.ntmps52
   have hw1:IntKind.i64.wrap ((i:Int)+(1:Int))=(i:Int)+(1:Int):=by rw[IntKind.wrap_i64];omega
   have hb1:(0:Int)≤(i:Int)+(1:Int):=by omega
   have htn:((i:Int)+(1:Int)).toNat=i+1:=by omega
   have hb2:¬(c=i+1):=by omega
   have hb3:(i:Int)≤(n:Int)+(1:Int):=by omega
   have hb4:¬(c=i):=by omega
   have mixed:Tryz.prog.follows Departure.mixedOrders=true:=by kernel_rfl
   go_wp2_with (simp only[hov])
   go_region_law_o (refine step_copy_runI rfl _ _ 22 22 rfl _ _ (by simp [Act.eval,Act.put]) (by simp [Act.eval,Act.put]) (hcp1 _ _ _) ?_)
   go_wp2_with (at_builtin;refine wpList_copy_runI _ rfl _ _ 22 22 rfl _ _ rfl rfl (hcp2 _ rfl _ _) ?_)
   go_ret
   have e7:(i+1)*11=i*11+11:=by omega
   have e8:(n+1)*11=n*11+11:=by omega
   have hin7:i*11≤n*11:=by omega
   rw[←hW1]
   obtain⟨_,g1,g2,g3,g4,g5,g6⟩:=q9 (P:=Tryz.prog) W1 g (i*11) _ f1 news h1n (by rw[hl1,hnl];omega)
   obtain⟨q1,q2⟩:=b0c (cur:=cur) (xs:=xs) (news:=news) (p:=i*11) (s:=11) (m:=n*11) htk hxl hin7 hnl (by rw[hcs];omega)
   rw[e7] at g1
   refine⟨_,rfl,AppRes.inplace hbg hg hroom hcm0 (by rw[q2,hcs]) g1 (by simp only[List.length_append,List.length_take,List.length_drop,hxl,hnl];omega) (by rw[e8];exact q1) (g2.trans f2) (g3.trans f3) (g4.trans f4) (by rw[g5,f5];exact Nat.le_refl _) (fun q hq _=> ?_)⟩
   rw[g6 q hq,f6 q hq]
   rfl
  ·obtain rfl:n=c:=by omega
   have hgw:g<w.heap.size:=C5 hg
   have hvw:vb<w.heap.size:=C5 hvb
   have hz3:(n:Int)<(n:Int)+(1:Int):=by omega
   have hkk:(n:Int)+(1:Int)-(i:Int)=((n+1-i:Nat):Int):=by omega
   have hik:i+(n+1-i)=n+1:=by omega
   have htl:(xs.take (i*11)).length=i*11:=by rw[List.length_take];omega
   have hold:(Builtin.firstCells i0.size i (.slice (some ⟨g,0,none⟩) i n)).run Tryz.prog w.drew= .ok (xs.take (i*11)).toArray w.drew:=by
    rw[hz1]
    refine run_firstCells_some w.drew 11 i ⟨g,0,none⟩ i n (xs.take (i*11)) htl (fun j v hj=> ?_)
    rw[m9,t9 (W:=w.drew) hg,List.getElem?_toArray,Nat.zero_add]
    rw[List.getElem?_take] at hj
    split at hj
    ·rw[←htk,List.getElem?_take] at hj
     split at hj
     ·exact hj
     ·cases hj
    ·cases hj
   obtain⟨G,hG⟩:∃G,G=grownCap w (n+1) n 31:=⟨_,rfl⟩
   have hGn:n+1≤G:=by rw[hG];exact grownCap_ge w _ _ _
   have hGm:G≤maxLen:=by rw[hG];exact grownCap_le_maxLen w (n+1) n _ (by simp only[maxLen];omega)
   have hG63:G≤9223372036854775807:=by simp only[maxLen] at hGm;omega
   obtain⟨rest,hrest⟩:∃rest,rest=(Builtin.zeroCells (Value.agg #[.int .i64 0,.int .i64 0,.int .i64 0,.bool false,.int .i64 0,.int .i64 0,.int .i64 0,.int .i64 0,.int .i64 0,.int .i64 0,.slice none 0 0]).cells (n+1-i)++Builtin.zeroCells (Value.agg #[.int .i64 0,.int .i64 0,.int .i64 0,.bool false,.int .i64 0,.int .i64 0,.int .i64 0,.int .i64 0,.int .i64 0,.int .i64 0,.slice none 0 0]).cells (G-(n+1))).toList:=⟨_,rfl⟩
   have hrl:(xs.take (i*11)++rest).length=G*11:=by
    rw[List.length_append,htl,hrest,Array.length_toList,Array.size_append,size_zeroCells,size_zeroCells]
    show i*11+((n+1-i)*11+(G-(n+1))*11)=G*11
    omega
   have hrz:∀ty,(Builtin.append_ #[22,3] ty #[.slice (some ⟨g,0,none⟩) i n,.int .i64 ((n:Int)+(1:Int)-(i:Int))]).run Tryz.prog w= .ok (.slice (some ⟨w.heap.size,0,none⟩) (n+1) G) (w.drew.alloc (.cells (xs.take (i*11)++rest).toArray 31)):=fun ty=>by
    have h:=Lib.run_append_grow_zeros (P:=Tryz.prog) w 22 3 ty 31 i0 _ .i64 .i64 Tryz.underlying22 Tryz.underlying3 hi hz0 (some ⟨g,0,none⟩) i n (xs.take (i*11)) hold (n+1-i) (by omega) (by omega) (by omega) (by omega) (by rw[hz2];omega) (by rw[hz2,hik];exact growslice_fits (by omega) (by omega))
    rw[hik,←hG] at h
    rw[hkk,h,hrest,a6N]
   obtain⟨W1,hW1⟩:∃W1,W1=w.drew.alloc (.cells (xs.take (i*11)++rest).toArray 31):=⟨_,rfl⟩
   have a1:W1.heap[w.heap.size]? = some (.cells (xs.take (i*11)++rest).toArray 31 (0,0)):=by rw[hW1];exact heap_alloc_new w.drew _
   have a2:∀q,q<w.heap.size→W1.heap[q]? = w.heap[q]? := fun q hq=>by rw[hW1];exact Below.heap_alloc w.drew _ q hq
   have hcpA:∀(W:World),W.heap=W1.heap→∀ty dc,(Builtin.copy_ #[22,22] ty #[.slice (some ⟨w.heap.size,i*11,none⟩) (n+1-i) dc,.slice (some ⟨vb,vo,none⟩) 1 vc]).run Tryz.prog W= .ok (.int .i64 ((1:Nat):Int)) (W.setCells w.heap.size (i*11) news):=fun W hW ty dc=>
    H9 (P:=Tryz.prog) W Tryz.underlying22 hi w.heap.size _ _ dc _ (by rw[hW];exact a1) ⟨vb,vo,none⟩ _ vc 1 (by simp only[Nat.min_def];split<;>omega) _ (by rw[hz1];exact hnl) (fun j u hj=>by
     have:=hcv _ rfl j u hj
     rw[m9,t9 hvb] at this
     rw[m9,t9 (W:=W) (by rw[hW,a2 vb hvw];exact hvb)]
     exact this) h1n (by rw[hrl,hnl];omega)
   obtain⟨_,f1,f2,f3,f4,f5,f6⟩:=q9 (P:=Tryz.prog) W1 w.heap.size (i*11) _ a1 news h1n (by rw[hrl,hnl];omega)
   have hl1:(o0 (xs.take (i*11)++rest) (i*11) news).length=G*11:=by rw[t0 (by rw[hrl,hnl];omega),hrl]
   have hcpB:∀(W:World),W.heap=(W1.setCells w.heap.size (i*11) news).heap→∀ty dc sc,(Builtin.copy_ #[22,22] ty #[.slice (some ⟨w.heap.size,(i+1)*11,none⟩) (n-i) dc,.slice (some ⟨g,i*11,none⟩) (n-i) sc]).run Tryz.prog W= .ok (.int .i64 ((n-i:Nat):Int)) (W.setCells w.heap.size ((i+1)*11) (xs.drop (i*11))):=fun W hW ty dc sc=>
    H9 (P:=Tryz.prog) W Tryz.underlying22 hi w.heap.size _ _ dc _ (by rw[hW];exact f1) ⟨g,i*11,none⟩ _ sc (n-i) (by simp only[Nat.min_def];split<;>omega) _ (by rw[hz1];exact hdl) (fun j u hj=>by
     rw[m9,t9 (W:=W) (by rw[hW,f6 g (by omega),a2 g hgw];exact hg),List.getElem?_toArray]
     rw[List.getElem?_drop,←htk,List.getElem?_take] at hj
     split at hj
     ·exact hj
     ·cases hj) (fun u hu=>h1x u (List.mem_of_mem_drop hu)) (by rw[hl1,hdl];omega)
   clear hkk hik hold hG hrest htl
   have hw1:IntKind.i64.wrap ((i:Int)+(1:Int))=(i:Int)+(1:Int):=by rw[IntKind.wrap_i64];omega
   have hb1:(0:Int)≤(i:Int)+(1:Int):=by omega
   have htn:((i:Int)+(1:Int)).toNat=i+1:=by omega
   have hb2:¬(G=i+1):=by omega
   have hb3:(i:Int)≤(n:Int):=by omega
   have hb4:¬(G=i):=by omega
   have hb5:¬(n=i):=by omega
   have mixed:Tryz.prog.follows Departure.mixedOrders=true:=by kernel_rfl
   go_enter Tryz.func52,Tryz.ntmps52
   go_wp2_with (first
    | (at_builtin;refine Lib.wpList_append_run _ rfl _ _ _ _ rfl _ _ rfl rfl _ _ (hrz _) ?_)
    | (at_builtin;refine wpList_copy_runI _ rfl _ _ 22 22 rfl _ _ rfl rfl (hcpA _ (by rw[hW1];rfl) _ _) ?_))
   have hE:(((w.alloc (Obj.cells (xs.take (i*11)++rest).toArray 31)).drew.setCells w.heap.size (i*11) news).drew).heap=(W1.setCells w.heap.size (i*11) news).heap:=by rw[hW1];rfl
   go_region_law_o (refine step_copy_runI rfl _ _ 22 22 rfl (.slice (some ⟨w.heap.size,(i+1)*11,none⟩) (n-i) (G-(i+1))) (.slice (some ⟨g,i*11,none⟩) (n-i) (n-i)) (by simp [Act.eval,Act.put]) (by simp [Act.eval,Act.put]) (hcpB _ hE 3 (G-(i+1)) (n-i)) ?_)
   go_wp2
   go_ret
   have hWm:((w.alloc (Obj.cells (xs.take (i*11)++rest).toArray 31)).drew.setCells w.heap.size (i*11) news).drew=(W1.setCells w.heap.size (i*11) news).drew:=by rw[hW1];rfl
   rw[hWm]
   obtain⟨_,g1,g2,g3,g4,g5,g6⟩:=q9 (P:=Tryz.prog) (W1.setCells w.heap.size (i*11) news).drew w.heap.size ((i+1)*11) _ f1 (xs.drop (i*11)) (fun u hu=>h1x u (List.mem_of_mem_drop hu)) (by rw[hl1,hdl];omega)
   have e7:(i+1)*11=i*11+11:=by omega
   have e8:(n+1)*11=n*11+11:=by omega
   have hin7:i*11≤n*11:=by omega
   obtain⟨q1,q2⟩:=a4i (rest:=rest) (xs:=xs) (news:=news) (p:=i*11) (s:=11) (m:=n*11) hxl hin7 hnl (by rw[hrl];omega)
   have hsz:W1.heap.size=w.heap.size+1:=by rw[hW1];simp
   rw[e7] at g1 g2 g3 g4 g5 g6 ⊢
   refine⟨_,rfl,AppRes.newrow (cap:=G) hbase (Nat.le_refl _) ?_ hGn hGm (by rw[q2,hrl]) g1 (by simp only[List.length_append,List.length_take,List.length_drop,hxl,hnl];omega) (by rw[e8];exact q1) (g2.trans (f2.trans (by rw[hW1];rfl))) (g3.trans (f3.trans (by rw[hW1];rfl))) (g4.trans (f4.trans (by rw[hW1];rfl))) (fun q hq=> ?_)⟩
   ·rw[g5]
    show w.heap.size<(W1.setCells w.heap.size (i*11) news).heap.size
    rw[f5,hsz]
    exact Nat.lt_succ_self _
   ·rw[g6 q (by omega)]
    show(W1.setCells w.heap.size (i*11) news).heap[q]? = _
    rw[f6 q (by omega),a2 q hq]
 ·obtain rfl:i=n:=by omega
  have e1:xs.take (i*11)=xs:=List.take_of_length_le (by omega)
  have e2:xs.drop (i*11)=[]:=List.drop_eq_nil_of_le (by omega)
  rw[e1,e2,List.append_nil]
  have hm1:¬((1:Int)=0):=by omega
  go_enter Tryz.func52,Tryz.ntmps52
  go_wp2_with (at_builtin;refine S8 rfl _ _ 22 rfl base 31 i0 (.agg #[.int .i64 0,.int .i64 0,.int .i64 0,.bool false,.int .i64 0,.int .i64 0,.int .i64 0,.int .i64 0,.int .i64 0,.int .i64 0,.slice none 0 0]) 11 104 Tryz.underlying22 hi hz0 ‹_› hz2 rfl _ i xs rfl hown ⟨_,_,rfl⟩ (some ⟨vb,vo,none⟩) 1 vc news rfl (by omega) (fun _=>rfl) hcv h1n (by simp only[maxLen];omega) (by omega) hbase ?_)
  all_goals (intro v' W' happ;go_wp2;go_ret;first | exact⟨_,rfl,happ⟩ | exact⟨_,rfl,by rw[show c=i by assumption];exact happ⟩)
set_option maxHeartbeats 1000000 in
set_option maxRecDepth 100000 in
theorem b2F:a9n Tryz.prog 118 31 11:=by
 intro w base a n c i xs hbase hown hlt h1x hn
 obtain⟨i0,hi,hz0,hz1,hz2⟩:=info_parts N0
 have hxl:xs.length=n*11:=by
  rcases hown with ⟨h1,_⟩ | ⟨h1,h2,_⟩
  ·exact h1
  ·omega
 obtain⟨g,cur,rfl,hbg,hg,hnc,hcm,hcs,htk⟩:∃g cur,a=some ⟨g,0,none⟩∧base≤g∧w.heap[g]? = some (.cells (cur:List Value).toArray 31 (0,0))∧n≤c∧c≤maxLen∧cur.length=c*11∧cur.take (n*11)=xs:=by
  rcases hown with ⟨_,⟨_,h2⟩ | ⟨g,cap,cur,h1,h2,h3,h4,h5,h6,h7⟩⟩ | ⟨h1,_⟩
  ·omega
  ·simp only[Value.slice.injEq] at h1
   obtain⟨rfl,_,rfl⟩:=h1
   exact⟨g,cur.toList,rfl,h2,by rw[Array.toArray_toList];exact h3,h4,h5,by simpa using h6,h7⟩
  ·omega
 have hcm0:=hcm
 simp only[maxLen] at hcm
 obtain⟨zs,hze⟩:∃zs,zs=(Value.agg #[.int .i64 0,.int .i64 0,.int .i64 0,.bool false,.int .i64 0,.int .i64 0,.int .i64 0,.int .i64 0,.int .i64 0,.int .i64 0,.slice none 0 0]).cells.toList:=⟨_,rfl⟩
 have hzs:zs.length=11:=by rw[hze];rfl
 have hzo:∀u∈zs,u.oneCell'=true:=by rw[hze];decide
 have hdl:(xs.drop ((i+1)*11)).length=(n-(i+1))*11:=by rw[List.length_drop,hxl];omega
 have hin7:(i+1)*11≤n*11:=by omega
 have e7:(i+1)*11=i*11+11:=by omega
 have e8:(n-1)*11=n*11-11:=by omega
 have hnn:n-(n-1)=1:=by omega
 have hap:∀ty dc,(Builtin.append_ #[22,22] ty #[.slice (some ⟨g,0,none⟩) i c,.slice (some ⟨g,(i+1)*11,none⟩) (n-(i+1)) dc]).run Tryz.prog w.drew= .ok (.slice (some ⟨g,0,none⟩) (n-1) c) (w.drew.setCells g (i*11) (xs.drop ((i+1)*11))):=fun ty dc=>by
  have q:=a4g (P:=Tryz.prog) w.drew (ty:=ty) Tryz.underlying22 hi g i c cur hg ⟨g,(i+1)*11,none⟩ (n-(i+1)) dc (xs.drop ((i+1)*11)) (by rw[hz1];exact hdl) (fun j u hj=>by
   rw[m9,t9 (W:=w.drew) hg,List.getElem?_toArray]
   rw[List.getElem?_drop,←htk,List.getElem?_take] at hj
   split at hj
   ·exact hj
   ·cases hj) (fun u hu=>h1x u (List.mem_of_mem_drop hu)) (by omega) (by rw[hz1,hdl,hcs];omega)
  rw[hz1,show i+(n-(i+1))=n-1 by omega] at q
  exact q
 obtain⟨_,f1,f2,f3,f4,f5,f6⟩:=q9 (P:=Tryz.prog) w.drew g (i*11) cur hg (xs.drop ((i+1)*11)) (fun u hu=>h1x u (List.mem_of_mem_drop hu)) (by rw[hdl,hcs];omega)
 have hl1:(o0 cur (i*11) (xs.drop ((i+1)*11))).length=c*11:=by rw[t0 (by rw[hdl,hcs];omega),hcs]
 have hcl:∀(W:World),W.heap=(w.drew.setCells g (i*11) (xs.drop ((i+1)*11))).heap→∀ty dc,(Builtin.clear_ #[22] ty #[.slice (some ⟨g,(n-1)*11,none⟩) 1 dc]).run Tryz.prog W= .ok (.tuple #[]) (W.setCells g ((n-1)*11) zs):=fun W hW ty dc=>by
  rw[hze]
  exact a6M (P:=Tryz.prog) W Tryz.underlying22 hi hz0 g _ _ (by rw[hW];exact f1) (by rw[hze] at hzo;exact hzo) (by rw[hl1];show(n-1)*11+11≤c*11;omega) dc
 have hcl0:=hcl _ rfl
 clear e7 e8 hze
 go_enter Tryz.func118,Tryz.ntmps118
 have hw1:IntKind.i64.wrap ((i:Int)+(1:Int))=(i:Int)+(1:Int):=by rw[IntKind.wrap_i64];omega
 have hb1:(0:Int)≤(i:Int)+(1:Int):=by omega
 have htn:((i:Int)+(1:Int)).toNat=i+1:=by omega
 have hb3:(i:Int)≤(i:Int)+(1:Int):=by omega
 have hb5:(i:Int)+(1:Int)≤(n:Int):=by omega
 have hb6:¬((i:Int)=(i:Int)+(1:Int)):=by omega
 have hb8:(i:Int)≤(c:Int):=by omega
 have hb9:(n:Int)≤(c:Int):=by omega
 have hb10:¬(c=0):=by omega
 have hb11:(i:Int)≤(n:Int):=by omega
 have hb12:(0:Int)≤(i:Int):=by omega
 have mixed:Tryz.prog.follows Departure.mixedOrders=true:=by kernel_rfl
 go_wp2
 rcases Nat.lt_or_ge (i+1) c with hcc | hcc
 ·have hb7:¬(c=i+1):=by omega
  go_region_law_o (refine U6 rfl _ _ 22 22 rfl (.slice (some ⟨g,0,none⟩) i c) (.slice (some ⟨g,(i+1)*11,none⟩) (n-(i+1)) (c-(i+1))) (by simp [Act.eval,Act.put]) (by simp [Act.eval,Act.put]) (hap _ _) ?_)
  go_wp2_with (simp only[hcl0])
  go_ret
  have e7:(i+1)*11=i*11+11:=by omega
  have e8:(n-1)*11=n*11-11:=by omega
  obtain⟨_,g1,g2,g3,g4,g5,g6⟩:=q9 (P:=Tryz.prog) (w.drew.setCells g (i*11) (xs.drop ((i+1)*11))) g ((n-1)*11) _ f1 zs hzo (by rw[hl1,hzs];omega)
  obtain⟨q1,q2⟩:=a2L (cur:=cur) (xs:=xs) (zs:=zs) (p:=i*11) (s:=11) (m:=n*11) htk hxl (by omega) hzs (by rw[hcs];omega)
  rw[←e7,←e8] at q1
  rw[←e7,←e8] at q2
  refine⟨_,rfl,AppRes.shrunk hbg hg (by omega) (by omega) hcm0 (by rw[q2,hcs]) g1 (by simp only[List.length_append,List.length_take,List.length_drop,hxl];omega) q1 (g2.trans f2) (g3.trans f3) (g4.trans f4) (Nat.le_of_eq (g5.trans f5).symm) (fun q hq _=>(g6 q hq).trans (f6 q hq))⟩
 ·obtain rfl:n=i+1:=by omega
  obtain rfl:c=i+1:=by omega
  have hap0:=fun ad ty dc=>a2H (P:=Tryz.prog) w.drew (ty:=ty) Tryz.underlying22 hi g i (i+1) (by omega) ad dc
  go_region_law_o (refine U6 rfl _ _ 22 22 rfl (.slice (some ⟨g,0,none⟩) i (i+1)) (.slice (some ⟨g,0,none⟩) 0 0) (by simp [Act.eval,Act.put]) (by simp [Act.eval,Act.put]) (hap0 _ _ _) ?_)
  have hD:xs.drop ((i+1)*11)=[]:=List.drop_eq_nil_of_le (by omega)
  have hW0:w.drew.setCells g (i*11) (xs.drop ((i+1)*11))=w.drew:=by rw[hD];rfl
  have hcl1:=hcl0
  rw[hW0,Nat.add_sub_cancel] at hcl1
  go_wp2_with (simp only[hcl1])
  go_ret
  have e7:(i+1)*11=i*11+11:=by omega
  have e8:(i+1-1)*11=(i+1)*11-11:=by omega
  obtain⟨_,g1,g2,g3,g4,g5,g6⟩:=q9 (P:=Tryz.prog) (w.drew.setCells g (i*11) (xs.drop ((i+1)*11))) g ((i+1-1)*11) _ f1 zs hzo (by rw[hl1,hzs];omega)
  obtain⟨q1,q2⟩:=a2L (cur:=cur) (xs:=xs) (zs:=zs) (p:=i*11) (s:=11) (m:=(i+1)*11) htk hxl (by omega) hzs (by rw[hcs];omega)
  rw[←e8,←e7] at q1
  rw[←e8,←e7] at q2
  have hE:w.drew.setCells g (i*11) zs=(w.drew.setCells g (i*11) (xs.drop ((i+1)*11))).setCells g ((i+1-1)*11) zs:=by rw[hW0,Nat.add_sub_cancel]
  rw[hE]
  refine⟨_,rfl,AppRes.shrunk hbg hg (by omega) (by omega) hcm0 (by rw[q2,hcs]) g1 (by simp only[List.length_append,List.length_take,List.length_drop,hxl];omega) q1 (g2.trans f2) (g3.trans f3) (g4.trans f4) (Nat.le_of_eq (g5.trans f5).symm) (fun q hq _=>(g6 q hq).trans (f6 q hq))⟩
theorem b1M:(Tryz.prog.info? 29).map (fun i=>(i.zero,i.size,i.bytes))=some (some (.agg #[.int .i64 0,.int .i64 0,.int .i64 0,.int .i64 0,.int .i64 0,.int .i64 0,.slice none 0 0]),7,72):=by kernel_rfl
set_option maxRecDepth 100000 in
theorem b4w(n:Nat)(hn:n≤1000000)(w:World):Calls Tryz.prog 106 #[.slice none 0 0,.int .i64 n] w (fun e w'=>∃a c,e= .returned (.slice a 0 c)∧Below w.heap.size w w'∧w'.ownsRow w.heap.size 29 7 (.slice a 0 c) 0 []):=by
 obtain⟨i0,hi,hz0,hz1,hz2⟩:=info_parts b1M
 go_enter Tryz.func106,Tryz.ntmps106
 have hb:(Tryz.t29).bytes=72:=by kernel_rfl
 have hge:=grownCap_ge w n 0 29
 have hle:=grownCap_le_maxLen w n 0 29 (by simp only[maxLen];omega)
 go_wp2
 ·exfalso
  have hc:=nextslicecap_zero (show 0<n by omega)
  simp only[hc] at*
  omega
 ·go_ret
  refine⟨some ⟨w.heap.size,0,none⟩,grownCap w n 0 29,rfl,by(repeat' (first | (with_reducible exact Below.refl _ _) | (with_reducible assumption) | (with_reducible refine Below.alloc ?_ ?_ _) | (with_reducible refine Below.setCell ?_ ?_ _) | (with_reducible refine Below.drew ?_) | (with_reducible refine Below.trans ?_ (Below.mono (by assumption) ?_)) | omega | (dsimp only;omega) | ((repeat (first | rw[World.size_alloc] | rw[World.size_setCell] | rw[World.size_drew]));(try dsimp only);omega))),rfl,.inr ⟨w.heap.size,grownCap w n 0 29,_,rfl,Nat.le_refl _,heap_alloc_new w _,Nat.zero_le _,hle,?_,by simp⟩⟩
  have e:∀z:Array Value,z.size=7→(Builtin.zeroCells z n++Builtin.zeroCells z (grownCap w n 0 29-n)).size=grownCap w n 0 29*7:=fun z hz=>by
   simp only[Array.size_append,size_zeroCells,hz]
   omega
  exact e _ rfl
 ·go_ret
  exact⟨none,0,rfl,Below.refl _ _,rfl,.inl ⟨rfl,rfl⟩⟩
def a8K(e:TypeId)(ks:List CK)(args:List V)(_mem:Mem)(nx:Nat):T i8:=match args with
 | [.v (.one (.z (.const (.slice none 0 0)))),.v (.one (.z (.int .i64 n)))]=>T.obs [.tru (.cmpS .leq (.lit 0) n),.tru (.cmpS .leq n (.lit 1000000))] (.ret (.s0 (.own nx (.lit 0)),[(nx,.own e ks .nil (.lit 0))],nx+1))
 | _=> .stuck "Grow"
def b1m(P:Program)(f:FuncId)(e:TypeId)(size:Nat):Prop:=∀n:Nat,n≤1000000→∀w:World,Calls P f #[.slice none 0 0,.int .i64 n] w (fun en w'=>∃a c,en= .returned (.slice a 0 c)∧Below w.heap.size w w'∧w'.ownsRow w.heap.size e size (.slice a 0 c) 0 [])
theorem b4v{P:Program}{ρ:Env}{f:FuncId}{e:TypeId}{ks:List CK}(hg:b1m P f e ks.length):i4 P ρ f (a8K e ks):=by
 intro args mem nx q hq hle σ W vals hr hfr hd
 unfold a8K at hq
 split at hq
 ·rename_i n
  obtain⟨ho,hq⟩:=T.res_obs hq
  obtain rfl:=g9 hq
  obtain⟨u1,us,rfl,d1,d2⟩:=DL.cons_inv hd
  obtain⟨u2,us2,rfl,d3,d4⟩:=DL.cons_inv d2
  obtain rfl:=DL.nil_inv d4
  have o1:=ho _ (List.mem_cons_self ..)
  have o2:=ho _ (List.mem_cons_of_mem _ (List.mem_cons_self ..))
  simp only[Ob.ok,B.cmpS_ev] at o1 o2
  have o1:=of_decide_eq_true o1
  have o2:=of_decide_eq_true o2
  simp only[E.ev] at o1 o2
  obtain rfl:u1= .slice none 0 0:=d1
  obtain rfl:u2= .int .i64 (n.ev ρ):=d3
  obtain⟨k,hk⟩:=Int.eq_ofNat_of_zero_le o1
  rw[hk] at o2 ⊢
  have hc:=hg k (by omega) W
  have hw:CallsIn Fence.wide 0 P f #[.slice none 0 0,.int .i64 k] W _:=callsIn_wide.2 hc
  refine CallsIn.mono (F:=FR none) hw ?_
  rintro en W' ⟨a,c,rfl,hb,hrow0⟩
  have hrow:OwnRow W' W.heap.size e ks.length (.slice a 0 c) 0 []:= .inl hrow0
  have hnx:=hfr nx (Nat.le_refl _) (Nat.lt_succ_self _)
  have hnone:∀k,σ.h nx k= .none:=fun k=>by
   cases hk:σ.h nx k with
   | none=>rfl
   | some y=>exact absurd (.inr ⟨k,y,hk⟩) hnx
  have hx:X.ev ρ .nil=[]:=rfl
  have hstep:=B2 (ρ:=ρ) (σ:=σ) (W:=W) (id:=nx) (t:=e) (ks:=ks) (x:= .nil) (ver:= .lit 0) (v:= .slice .none 0 0) (v':= .slice a 0 c) (W':=W') (xs:=[]) (fun i a hi=>hr.lt i a hi) (hnone _) (fun u _=>hnone u) hr.inj (fun k hk=>by cases hk)
   (by
    rw[hx]
    exact⟨hrow.base hr.base.size,hb.os,hb.tape,hb.output,hb.size,fun k hk _=>hb.block k hk,fun k hk=> .inr (b3s hrow hk),Keep.of_eq (fun k hk=>hb.block k hk),a,c,rfl⟩)
   (by rw[hx];exact fun i row hi=>by simp at hi) (by rw[hx];simp)
  exact⟨_,_,rfl,⟨⟨a,_,c,rfl⟩,As.say_self⟩,hstep,fun i hi=>(v8 hi).imp id (fun h=>⟨by omega,by show i<nx+1;omega⟩)⟩
 ·exact hq.elim
theorem b7K:b1m Tryz.prog 106 29 7:=b4w
def a5j:=a5Y 31 s8
def a2c:=a7Y 31 s8
def a5y:=a6d 31 s8
def a3E:=a8K 29 f7
theorem a3W{ρ:Env}:i4 Tryz.prog ρ 52 a5j:=b2Q b2B
theorem a1G{ρ:Env}:i4 Tryz.prog ρ 42 a2c:=b4G b6m
theorem a4h{ρ:Env}:i4 Tryz.prog ρ 118 a5y:=b2T b2F
theorem a2V{ρ:Env}:i4 Tryz.prog ρ 106 a3E:=b4v b7K
def c1Q:Ct:=(106,a3E)::(118,a5y)::(52,a5j)::(42,a2c)::
 (38,a8O)::(49,b2I)::(47,b2v)::(41,b2x)::(58,b2b)::(35,a9g)::(50,a3f)::(39,b8p)::[]
theorem c0A{ρ:Env}(h:Sees ρ Q4 220):CtOk Tryz.prog ρ c1Q:= .cons a2V<| .cons a4h<| .cons a3W<| .cons a1G<| .cons (a6i h)<| .cons (a7M h)<| .cons (a9x (a0A h))<| .cons (a9o (a0A h))<| .cons (a7L (a0A h))<| .cons (a6B (a6U (a0A h)))<| .cons (a2U (a6U (a0A h)))<| .cons (b1k (b9N (b9Q (a6U (a0A h))))) .nil
end Go.Proofs.YtbbjlleaofgddaaGreat
