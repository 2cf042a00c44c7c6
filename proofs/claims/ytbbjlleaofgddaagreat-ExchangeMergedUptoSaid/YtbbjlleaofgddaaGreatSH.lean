/- SH, merged: Yx. -/
import Derived.Test.YtbbjlleaofgddaaGreatMK
import Derived.JoinedCond
set_option linter.unusedSimpArgs false
set_option linter.unusedVariables false
namespace Go.Proofs.YtbbjlleaofgddaaGreat
open Go.ChangeShapes Go.WideShapes Go.ChangeAt Go.RowKit
section
variable {H:Type} {enc:TypeId×Value→H}
theorem a2I{a:Assume}{C:Checked}{os:Os}{f:FuncId}{fn:Func}{s:OpenSpec}{k:(H:Type)→List (DataW H)→Bool}(hk:s.cond=some k){F:Stop.Interp}{conds:List PathCond}{apart fresh handsOn again:Bool}
 (own:ownKnob C.prog.godebug=none) (started:os.Started) (noInit:C.prog.inits.idxOf? f=none) (hfn:C.prog.funcs[f]? = some fn)
 (witness:∃(w:World) (tape:Tape) (i:Input),w.os=os∧(w.forCall tape i).Shaped C.prog∧i.vars=[]∧Input.okWide C.prog (w.forCall tape i) .any w.heap.size f i∧
  s.pre6 enc C.prog fn conds apart (w.forCall tape i).memory i.args∧a.holds C.prog (lone (Frame.enter C.prog f i.args .normal) [] (w.forCall tape i)))
 (contract:∀(W:World) (base:Nat) (args:Array Value) (ds gs:List (DataW H)) (before:List MemPlace),
  (∀(j:Nat) t v,fn.params[j]? = some t→args[j]? = some v→Value.okWide C.prog W .any base t v)→
  DataW.Whole enc C.prog fn.params.toList s.vars apart W args.toList ds gs before→
  conds.all (PathCond.test C.prog ⟨fn.params.toList,ds,s.bare.plain.varTypes C.prog,gs⟩)=true→k H (ds++gs)=true→
  (DataW.weightsEach C.prog (fn.params.toList++s.bare.plain.varTypes C.prog) (ds++gs)).all (· ≤ reachBytes)=true→
  a.holds C.prog (lone (Frame.enter C.prog f args .normal) [] W)→
  Calls C.prog f args W fun e W'=>∃v,e= .returned v∧(s.at F).post enc C.prog fn apart fresh handsOn again W args v W'):
 ReturnsInHanded a C os f .any (s.pre6 enc C.prog fn conds apart) ((s.at F).post enc C.prog fn apart fresh handsOn again):=by
 refine returnsInHanded_of_calls own started noInit witness ?_
 intro w tape i _ _ _ hok hpre hholds
 obtain⟨_,_,_,fn',hfn',_,_,_,_,hval⟩:=hok
 have e:fn'=fn:=Option.some.inj (hfn'.symm.trans hfn)
 subst e
 obtain⟨ds,gs,before,hw,hc,hkk⟩:=(OpenSpec.pre_some hk conds apart _ _).1 hpre.1
 have hz:=hpre.2
 have hw':=DataW.Whole.of_heap (w':=w.forCall tape i) (by rfl) hw
 refine(contract (w.forCall tape i) w.heap.size i.args ds gs before hval hw' hc hkk (hz.weights hw) hholds).mono fun e W' ⟨v,he,hp⟩=> ?_
 subst he
 exact ChangeSpec.post_blind hp
theorem a2Z:∀(l:List (DataW H)) (n:Nat),(∀d∈l,n≤Rows.uptoBulk d)→l.length*n≤Rows.uptoBulkAll l
 | [],n,_=>by simp [Rows.uptoBulkAll]
 | d::l,n,h=>by
   have h1:=h d (List.mem_cons_self ..)
   have h2:=a2Z l n (fun x hx=>h x (List.mem_cons_of_mem _ hx))
   rw[Rows.uptoBulkAll,List.length_cons,Nat.add_mul]
   omega
theorem b8l(d:DataW H):1≤Rows.uptoBulk d:=by
 cases d with
 | lit x=>cases x<;>simp [Rows.uptoBulk]
 | _=>simp [Rows.uptoBulk]
def b9n(P:Program)(e:TypeId):Bool:=match P.underlying e with | some (.struct fs)=>Nat.blt 0 fs.size | _=>false
theorem b4K{P:Program}{W:World}{sp:Nat→Bool}{held:Bool}{t e:TypeId}(hu:P.underlying t=some (.slice e))(he0:b9n P e=true){v:Value}{d:DataW H}{p:List MemPlace}(h:DataW.Trod enc P W 0 sp held t v d p){ks:List CK}{rows:Rows}(hr:CK.rep W (.sl ks) v (.l rows)):
 rows.length*2≤Rows.uptoBulk d:=by
 obtain⟨fs,he,hfs⟩:∃fs,P.underlying e=some (.struct fs)∧0<fs.size:=by
  unfold b9n at he0
  split at he0
  ·rename_i fs h;rw[Nat.blt_eq] at he0;exact⟨fs,h,he0⟩
  ·cases he0
 obtain⟨fuel,hf⟩:=h
 obtain⟨r,e0,a,n,c,rfl,hs,_⟩:=x9.1 hr
 simp only[D.l.injEq] at e0
 subst e0
 have hf:DataW.trod enc P W 0 sp held fuel t [.slice a n c]=some (d,p):=hf
 have hl:=hs.len
 rcases DataW.trod_slice hu hf with ⟨q,_⟩ | ⟨a',len,cap,elems,rest,m,hm,q,hx,_,_,_,hlen,hel,_,_⟩
 ·simp only[List.cons.injEq,Value.slice.injEq,and_true] at q
  omega
 ·simp only[List.cons.injEq,Value.slice.injEq,and_true] at q
  obtain⟨rfl,rfl,rfl⟩:=q
  simp only[Prod.mk.injEq] at hx
  obtain⟨rfl,_⟩:=hx
  have hb:=a2Z (elems.map (·.1)) 2 (fun d hd=>by
   obtain⟨x,hx,rfl⟩:=List.mem_map.1 hd
   obtain⟨i,hi,rfl⟩:=List.getElem_of_mem hx
   have h2:=hel i (by omega)
   rw[List.getElem?_eq_getElem hi] at h2
   simp only[Option.bind_eq_some_iff] at h2
   obtain⟨vs,h3,h4⟩:=h2
   obtain⟨xs,m',_,h5,_,h6,_⟩:=DataW.trod_struct he h4
   rw[h5]
   have h7:=a2Z (xs.map (·.1)) 1 (fun d _=>b8l d)
   rw[List.length_map,Nat.mul_one] at h7
   simp only[Rows.uptoBulk]
   omega)
  rw[List.length_map] at hb
  simp only[Rows.uptoBulk]
  omega
end
end Go.Proofs.YtbbjlleaofgddaaGreat
