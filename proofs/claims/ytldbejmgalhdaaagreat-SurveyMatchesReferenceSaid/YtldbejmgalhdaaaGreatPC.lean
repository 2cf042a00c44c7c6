/- PC, merged: TP6, Yd9, P6, P7, Yr. -/
import Derived.Test.YtldbejmgalhdaaaGreatPB
import Derived.Test.YtldbejmgalhdaaaGreatLJoi
import Derived.Test.YtldbejmgalhdaaaGreatMD
set_option linter.unusedSimpArgs false
set_option linter.unusedVariables false
namespace Go.Proofs.YtldbejmgalhdaaaGreat
open Go.RowKit
def b1O:TT j6:=
(.ite (.cmp .neq (.fn 160 (.x (.var 0) (.x (.var 1) .nil))) (.lit 0))
 (.ret ((.tup [(.one (.z (.int .i64 (.lit 0)))),(.one (.z (.int .i64 (.fn 160 (.x (.var 0) (.x (.var 1) .nil))))))]),[],3))
 (.ret ((.tup [(.one (.z (.int .i64 (.fn 132 (.x (.fn 2 (.x (.var 0) (.x (.var 1) .nil))) (.i (.var 2) (.i (.var 3) .nil))))))),(.one (.z (.int .i64 (.fn 133 (.x (.fn 2 (.x (.var 0) (.x (.var 1) .nil))) (.i (.var 2) (.i (.var 3) .nil)))))))]),[],3)))
set_option maxRecDepth 100000 in
theorem c1O:T.norm 0 (call Tryz.prog b6g (Lt.of []) 150 22 (i6 0 [o0,pt]) [] 0) TT.ret=b1O:=by kernel_rfl
theorem b8C:b1O.low 1000=true:=by kernel_rfl
def b1q:TT j6:=
(.loop 0 3000 ⟨[(0,(.lit 0))],[],[]⟩
 (.ite (.cmp .lss (.var 3000) (.len (.var 0)))
 (.loop 1 4000 ⟨[(0,(.lit 0))],[],[]⟩
 (.ite (.cmp .lss (.var 4000) (.len (.var 2)))
 (.ob (.tru (.cmp .leq (.lit 0) (.var 3000)))
 (.ob (.tru (.cmp .lss (.var 3000) (.len (.var 0))))
 (.ob (.tru (.cmp .leq (.lit 0) (.var 4000)))
 (.ob (.tru (.cmp .lss (.var 4000) (.len (.var 2))))
 (.ite (.cmp .eql (.rd (.var 0) (.var 3000) 0) (.rd (.var 2) (.var 4000) 0))
 (.ob (.tru (.cmp .leq (.lit 0) (.var 3000)))
 (.ob (.tru (.cmp .lss (.var 3000) (.len (.var 0))))
 (.ob (.tru (.cmp .leq (.lit 0) (.var 4000)))
 (.ob (.tru (.cmp .lss (.var 4000) (.len (.var 2))))
 (.ite (.not (.and (.cmp .eql (.rd (.var 0) (.var 3000) 0) (.rd (.var 2) (.var 4000) 0)) (.and (.and (.cmp .eql (.rd (.var 0) (.var 3000) 1) (.rd (.var 2) (.var 4000) 1)) (.cmp .eql (.rd (.var 0) (.var 3000) 2) (.rd (.var 2) (.var 4000) 2))) (.and (.cmp .eql (.rd (.var 0) (.var 3000) 3) (.rd (.var 2) (.var 4000) 3)) (.and (.and (.cmp .eql (.rd (.var 0) (.var 3000) 4) (.rd (.var 2) (.var 4000) 4)) (.cmp .eql (.rd (.var 0) (.var 3000) 5) (.rd (.var 2) (.var 4000) 5))) (.cmp .eql (.rd (.var 0) (.var 3000) 6) (.rd (.var 2) (.var 4000) 6)))))))
 (.ret ((.v (.one (.z (.bool (.lit true))))),[],5))
 (.next 1 ⟨[(0,(.ar .add .i64 (.var 4000) (.lit 1)))],[],[]⟩))))))
 (.next 1 ⟨[(0,(.ar .add .i64 (.var 4000) (.lit 1)))],[],[]⟩))))))
 (.loop 2 5000 ⟨[(0,(.lit 0))],[],[]⟩
 (.ite (.cmp .lss (.var 5000) (.len (.var 3)))
 (.ob (.tru (.cmp .leq (.lit 0) (.var 3000)))
 (.ob (.tru (.cmp .lss (.var 3000) (.len (.var 0))))
 (.ob (.tru (.cmp .leq (.lit 0) (.var 5000)))
 (.ob (.tru (.cmp .lss (.var 5000) (.len (.var 3))))
 (.ite (.cmp .eql (.rd (.var 0) (.var 3000) 0) (.rd (.var 3) (.var 5000) 0))
 (.ret ((.v (.one (.z (.bool (.lit true))))),[],5))
 (.next 2 ⟨[(0,(.ar .add .i64 (.var 5000) (.lit 1)))],[],[]⟩))))))
 (.next 0 ⟨[(0,(.ar .add .i64 (.var 3000) (.lit 1)))],[],[]⟩)))))
 (.loop 1 6000 ⟨[(0,(.lit 0))],[],[]⟩
 (.ite (.cmp .lss (.var 6000) (.len (.var 1)))
 (.loop 2 7000 ⟨[(0,(.lit 0))],[],[]⟩
 (.ite (.cmp .lss (.var 7000) (.len (.var 2)))
 (.ob (.tru (.cmp .leq (.lit 0) (.var 6000)))
 (.ob (.tru (.cmp .lss (.var 6000) (.len (.var 1))))
 (.ob (.tru (.cmp .leq (.lit 0) (.var 7000)))
 (.ob (.tru (.cmp .lss (.var 7000) (.len (.var 2))))
 (.ite (.cmp .eql (.rd (.var 1) (.var 6000) 0) (.rd (.var 2) (.var 7000) 0))
 (.ret ((.v (.one (.z (.bool (.lit true))))),[],8))
 (.next 2 ⟨[(0,(.ar .add .i64 (.var 7000) (.lit 1)))],[],[]⟩))))))
 (.loop 3 8000 ⟨[(0,(.lit 0))],[],[]⟩
 (.ite (.cmp .lss (.var 8000) (.len (.var 3)))
 (.ob (.tru (.cmp .leq (.lit 0) (.var 6000)))
 (.ob (.tru (.cmp .lss (.var 6000) (.len (.var 1))))
 (.ob (.tru (.cmp .leq (.lit 0) (.var 8000)))
 (.ob (.tru (.cmp .lss (.var 8000) (.len (.var 3))))
 (.ite (.cmp .eql (.rd (.var 1) (.var 6000) 0) (.rd (.var 3) (.var 8000) 0))
 (.ob (.tru (.cmp .leq (.lit 0) (.var 6000)))
 (.ob (.tru (.cmp .lss (.var 6000) (.len (.var 1))))
 (.ob (.tru (.cmp .leq (.lit 0) (.var 8000)))
 (.ob (.tru (.cmp .lss (.var 8000) (.len (.var 3))))
 (.ite (.not (.fn 129 (.i (.rd (.var 1) (.var 6000) 0) (.i (.rd (.var 1) (.var 6000) 1) (.i (.rd (.var 1) (.var 6000) 2) (.i (.rd (.var 1) (.var 6000) 3) (.i (.rd (.var 1) (.var 6000) 4) (.x (.rd (.var 1) (.var 6000) 5) (.i (.rd (.var 1) (.var 6000) 6) (.i (.rd (.var 1) (.var 6000) 7) (.x (.rd (.var 1) (.var 6000) 8) (.i (.rd (.var 3) (.var 8000) 0) (.i (.rd (.var 3) (.var 8000) 1) (.i (.rd (.var 3) (.var 8000) 2) (.i (.rd (.var 3) (.var 8000) 3) (.i (.rd (.var 3) (.var 8000) 4) (.x (.rd (.var 3) (.var 8000) 5) (.i (.rd (.var 3) (.var 8000) 6) (.i (.rd (.var 3) (.var 8000) 7) (.x (.rd (.var 3) (.var 8000) 8) .nil))))))))))))))))))))
 (.ret ((.v (.one (.z (.bool (.lit true))))),[],8))
 (.next 3 ⟨[(0,(.ar .add .i64 (.var 8000) (.lit 1)))],[],[]⟩))))))
 (.next 3 ⟨[(0,(.ar .add .i64 (.var 8000) (.lit 1)))],[],[]⟩))))))
 (.next 1 ⟨[(0,(.ar .add .i64 (.var 6000) (.lit 1)))],[],[]⟩)))))
 (.ret ((.v (.one (.z (.bool (.lit false))))),[],8))))))
set_option maxRecDepth 100000 in
theorem c0R:T.norm 0 (call Tryz.prog b6g (Lt.of []) 150 63 (i6 0 [o0,o0]) [] 0) TT.ret=b1q:=by kernel_rfl
theorem b8u:b1q.low 1000=true:=by kernel_rfl
def b0T:TT j6:=
(.loop 0 2000 ⟨[(0,(.lit 0)),(2,(.lit 0)),(0,(.lit 0))],[],[(1,.nil)]⟩
 (.ite (.cmp .lss (.var 2002) (.len (.var 0)))
 (.ob (.tru (.cmp .leq (.lit 0) (.var 2002)))
 (.ob (.tru (.cmp .lss (.var 2002) (.len (.var 0))))
 (.ite (.cmp .lss (.rd (.var 0) (.var 2002) 0) (.var 1))
 (.ob (.tru (.cmp .leq (.lit 0) (.var 2002)))
 (.ob (.tru (.cmp .lss (.var 2002) (.len (.var 0))))
 (.ob (.tru (.cmp .leq (.len (.app (.var 2001) (.app (.row (.i (.rd (.var 0) (.var 2002) 0) (.i (.rd (.var 0) (.var 2002) 1) (.i (.rd (.var 0) (.var 2002) 2) (.i (.rd (.var 0) (.var 2002) 3) (.i (.rd (.var 0) (.var 2002) 4) (.i (.rd (.var 0) (.var 2002) 5) (.i (.rd (.var 0) (.var 2002) 6) .nil)))))))) .nil))) (.lit 1000000)))
 (.next 0 ⟨[(0,(.plus (.var 2000) (.lit 1))),(2,(.ar .add .i64 (.var 2002) (.lit 1))),(0,(.plus (.var 2000) (.lit 1)))],[],[(1,(.app (.var 2001) (.app (.row (.i (.rd (.var 0) (.var 2002) 0) (.i (.rd (.var 0) (.var 2002) 1) (.i (.rd (.var 0) (.var 2002) 2) (.i (.rd (.var 0) (.var 2002) 3) (.i (.rd (.var 0) (.var 2002) 4) (.i (.rd (.var 0) (.var 2002) 5) (.i (.rd (.var 0) (.var 2002) 6) .nil)))))))) .nil)))]⟩))))
 (.ob (.tru (.cmp .leq (.len (.app (.var 2001) (.app (.row (.i (.var 1) (.i (.var 2) (.i (.var 3) (.i (.var 4) (.i (.var 5) (.i (.var 6) (.i (.var 7) .nil)))))))) .nil))) (.lit 1000000)))
 (.loop 1 6000 ⟨[(0,(.plus (.var 2000) (.lit 1))),(1,(.var 2002)),(0,(.plus (.var 2000) (.lit 1)))],[],[(2,(.app (.var 2001) (.app (.row (.i (.var 1) (.i (.var 2) (.i (.var 3) (.i (.var 4) (.i (.var 5) (.i (.var 6) (.i (.var 7) .nil)))))))) .nil)))]⟩
 (.ite (.cmp .lss (.var 6001) (.len (.var 0)))
 (.ob (.tru (.cmp .leq (.lit 0) (.var 6001)))
 (.ob (.tru (.cmp .lss (.var 6001) (.len (.var 0))))
 (.ite (.cmp .neq (.rd (.var 0) (.var 6001) 0) (.var 1))
 (.ob (.tru (.cmp .leq (.lit 0) (.var 6001)))
 (.ob (.tru (.cmp .lss (.var 6001) (.len (.var 0))))
 (.ob (.tru (.cmp .leq (.len (.app (.var 6002) (.app (.row (.i (.rd (.var 0) (.var 6001) 0) (.i (.rd (.var 0) (.var 6001) 1) (.i (.rd (.var 0) (.var 6001) 2) (.i (.rd (.var 0) (.var 6001) 3) (.i (.rd (.var 0) (.var 6001) 4) (.i (.rd (.var 0) (.var 6001) 5) (.i (.rd (.var 0) (.var 6001) 6) .nil)))))))) .nil))) (.lit 1000000)))
 (.next 1 ⟨[(0,(.plus (.var 6000) (.lit 1))),(1,(.ar .add .i64 (.var 6001) (.lit 1))),(0,(.plus (.var 6000) (.lit 1)))],[],[(2,(.app (.var 6002) (.app (.row (.i (.rd (.var 0) (.var 6001) 0) (.i (.rd (.var 0) (.var 6001) 1) (.i (.rd (.var 0) (.var 6001) 2) (.i (.rd (.var 0) (.var 6001) 3) (.i (.rd (.var 0) (.var 6001) 4) (.i (.rd (.var 0) (.var 6001) 5) (.i (.rd (.var 0) (.var 6001) 6) .nil)))))))) .nil)))]⟩))))
 (.next 1 ⟨[(0,(.var 6000)),(1,(.ar .add .i64 (.var 6001) (.lit 1))),(0,(.var 6000))],[],[(2,(.var 6002))]⟩))))
 (.ret ((.v (.one (.z (.own 2 (.var 6000))))),[(2,(.own 53 G7 (.var 6002) (.var 6000))),(2,(.own 53 G7 (.app (.var 2001) (.app (.row (.i (.var 1) (.i (.var 2) (.i (.var 3) (.i (.var 4) (.i (.var 5) (.i (.var 6) (.i (.var 7) .nil)))))))) .nil)) (.plus (.var 2000) (.lit 1)))),(2,(.own 53 G7 (.var 2001) (.var 2000)))],7))))))))
 (.ob (.tru (.cmp .leq (.len (.app (.var 2001) (.app (.row (.i (.var 1) (.i (.var 2) (.i (.var 3) (.i (.var 4) (.i (.var 5) (.i (.var 6) (.i (.var 7) .nil)))))))) .nil))) (.lit 1000000)))
 (.loop 1 6000 ⟨[(0,(.plus (.var 2000) (.lit 1))),(1,(.var 2002)),(0,(.plus (.var 2000) (.lit 1)))],[],[(2,(.app (.var 2001) (.app (.row (.i (.var 1) (.i (.var 2) (.i (.var 3) (.i (.var 4) (.i (.var 5) (.i (.var 6) (.i (.var 7) .nil)))))))) .nil)))]⟩
 (.ite (.cmp .lss (.var 6001) (.len (.var 0)))
 (.ob (.tru (.cmp .leq (.lit 0) (.var 6001)))
 (.ob (.tru (.cmp .lss (.var 6001) (.len (.var 0))))
 (.ite (.cmp .neq (.rd (.var 0) (.var 6001) 0) (.var 1))
 (.ob (.tru (.cmp .leq (.lit 0) (.var 6001)))
 (.ob (.tru (.cmp .lss (.var 6001) (.len (.var 0))))
 (.ob (.tru (.cmp .leq (.len (.app (.var 6002) (.app (.row (.i (.rd (.var 0) (.var 6001) 0) (.i (.rd (.var 0) (.var 6001) 1) (.i (.rd (.var 0) (.var 6001) 2) (.i (.rd (.var 0) (.var 6001) 3) (.i (.rd (.var 0) (.var 6001) 4) (.i (.rd (.var 0) (.var 6001) 5) (.i (.rd (.var 0) (.var 6001) 6) .nil)))))))) .nil))) (.lit 1000000)))
 (.next 1 ⟨[(0,(.plus (.var 6000) (.lit 1))),(1,(.ar .add .i64 (.var 6001) (.lit 1))),(0,(.plus (.var 6000) (.lit 1)))],[],[(2,(.app (.var 6002) (.app (.row (.i (.rd (.var 0) (.var 6001) 0) (.i (.rd (.var 0) (.var 6001) 1) (.i (.rd (.var 0) (.var 6001) 2) (.i (.rd (.var 0) (.var 6001) 3) (.i (.rd (.var 0) (.var 6001) 4) (.i (.rd (.var 0) (.var 6001) 5) (.i (.rd (.var 0) (.var 6001) 6) .nil)))))))) .nil)))]⟩))))
 (.next 1 ⟨[(0,(.var 6000)),(1,(.ar .add .i64 (.var 6001) (.lit 1))),(0,(.var 6000))],[],[(2,(.var 6002))]⟩))))
 (.ret ((.v (.one (.z (.own 2 (.var 6000))))),[(2,(.own 53 G7 (.var 6002) (.var 6000))),(2,(.own 53 G7 (.app (.var 2001) (.app (.row (.i (.var 1) (.i (.var 2) (.i (.var 3) (.i (.var 4) (.i (.var 5) (.i (.var 6) (.i (.var 7) .nil)))))))) .nil)) (.plus (.var 2000) (.lit 1)))),(2,(.own 53 G7 (.var 2001) (.var 2000)))],7)))))))
set_option maxRecDepth 100000 in
theorem c1p:T.norm 0 (call Tryz.prog b6g (Lt.of []) 150 64 (i6 0 [a4r,snd]) [] 0) TT.ret=b0T:=by kernel_rfl
theorem b7F:b0T.low 1000=true:=by kernel_rfl
def d1c(c:Nat)(row:List D):Prop:=row.length=c∧∀d∈row,∃n,d= .i n
def wf9(c:Nat)(r:Rows):Prop:=∀(i:Nat) row,r[i]? = some row→d1c c row
def b6S:CK→Bool | .int _=>true | _=>false
theorem a9Z{w:World}:∀ {ks:List CK} {vs:List Value} {ds:List D},ks.all b6S=true→CK.reps w ks vs ds→d1c ks.length ds
 | [],vs,ds,_,h=>by
   unfold CK.reps at h
   obtain⟨rfl,rfl⟩:=h
   exact⟨rfl,fun d hd=>by cases hd⟩
 | k::ks,vs,ds,hk,h=>by
   unfold CK.reps at h
   obtain⟨v,vs',d,ds',rfl,rfl,h1,h2⟩:=h
   simp only[List.all_cons,Bool.and_eq_true] at hk
   obtain⟨g1,g2⟩:=a9Z hk.2 h2
   refine⟨by simp [g1],fun e he=> ?_⟩
   rcases List.mem_cons.mp he with q | q
   ·subst q
    cases k with
    | int k=>
      unfold CK.rep at h1
      obtain⟨n,_,rfl⟩:=h1
      exact⟨n,rfl⟩
    | bool=>exact absurd hk.1 (by decide)
    | sl ks=>exact absurd hk.1 (by simp [b6S])
   ·exact g2 e q
theorem c0h{w:World}{ks:List CK}{v:Value}{d:D}(hk:ks.all b6S=true)(h:CK.rep w (.sl ks) v d):wf9 ks.length d.rows:=by
 rw[y7] at h
 obtain⟨r,rfl,a,n,c,_,hs,_⟩:=h
 intro i row hi
 have hi':r[i]? = some row:=hi
 have hlt:i<r.length:=by
  rcases Nat.lt_or_ge i r.length with q | q
  ·exact q
  ·rw[List.getElem?_eq_none q] at hi';cases hi'
 have:=hs.there (by have:=hs.len;omega)
 cases a with
 | none=>cases this
 | some b=>
   obtain⟨vs,h1,_⟩:=hs.cell b rfl i row hi'
   exact a9Z hk h1
theorem b5u{c:Nat}{r s:Rows}(hr:wf9 c r)(hs:wf9 c s)(h:X4 c r s=true):r=s:=by
 obtain⟨hl,he⟩:=b1h.mp h
 refine List.ext_getElem? (fun i=> ?_)
 rcases Nat.lt_or_ge i r.length with q | q
 ·have er:r[i]? = some r[i]:=List.getElem?_eq_getElem q
  have es:s[i]? = some (s[i]'(by omega)):=List.getElem?_eq_getElem (by omega)
  obtain⟨l1,n1⟩:=hr i _ er
  obtain⟨l2,n2⟩:=hs i _ es
  rw[er,es]
  congr 1
  refine List.ext_getElem (by omega) (fun j h1 h2=> ?_)
  have g:=he i q j (by omega)
  unfold lg w8 at g
  rw[Int.toNat_natCast,er,es] at g
  simp only[Option.getD_some] at g
  rw[List.getElem?_eq_getElem h1,List.getElem?_eq_getElem h2] at g
  simp only[Option.getD_some] at g
  obtain⟨u,eu⟩:=n1 _ (List.getElem_mem h1)
  obtain⟨v,ev⟩:=n2 _ (List.getElem_mem h2)
  rw[eu,ev] at g ⊢
  have g':u=v:=g
  rw[g']
 ·rw[List.getElem?_eq_none q,List.getElem?_eq_none (by omega)]
def b7w(row:List D):Prop:=a0D row∧wf9 2 (cR row 5)∧wf9 6 (cR row 8)
theorem c6m{w:World}{us:List Value}{row:List D}(h:CK.reps w r6 us row):b7w row:=by
 refine⟨a2R h,?_,?_⟩
 ·obtain⟨v,d,_,h1,h2⟩:=x9 (j:=5) (k:= .sl ptK) h rfl
  have:=c0h (by decide) h2
  unfold cR
  rw[h1];exact this
 ·obtain⟨v,d,_,h1,h2⟩:=x9 (j:=8) (k:= .sl b1T) h rfl
  have:=c0h (by decide) h2
  unfold cR
  rw[h1];exact this
theorem b7k{W:World}{vals:List Value}{ds:List D}{sh:List Sh}(h:A4 W (o0::sh) vals ds):∀row∈d9 ds 1,b7w row:=by
 obtain⟨v,vs',d,ds',rfl,rfl,⟨us,rfl,h⟩,_⟩:=h
 have e1:d.length=2:=(u9 h).2
 obtain⟨_,x0,_,p0,q0⟩:=x9 (j:=1) h rfl
 have a0:(d++ds')[1]? = some x0:=by rw[List.getElem?_append_left (by omega)];exact p0
 have gd:(d++ds').getD 1 (.i 0)=x0:=by rw[List.getD_eq_getElem?_getD,a0];rfl
 intro row hrow
 unfold d9 at hrow
 rw[gd,y7] at*
 obtain⟨r,rfl,a,n,c,_,hs,_⟩:=q0
 obtain⟨i,hi,rfl⟩:=List.getElem_of_mem hrow
 obtain⟨b,hb⟩:=Option.isSome_iff_exists.1 (hs.there (by have:=hs.len;have:i<r.length:=hi;omega))
 obtain⟨vs,g1,_⟩:=hs.cell b hb i r[i] (List.getElem?_eq_getElem hi)
 exact c6m g1
theorem b2K{W:World}{vals:List Value}{ds:List D}{sh:List Sh}(h:A4 W (o0::sh) vals ds):∃vs' ds',A4 W sh vs' ds'∧∀k,d9 ds (k+2)=d9 ds' k:=by
 obtain⟨v,vs',d,ds',rfl,rfl,⟨us,rfl,h0⟩,h⟩:=h
 have e1:d.length=2:=(u9 h0).2
 refine⟨vs',ds',h,fun k=> ?_⟩
 unfold d9
 rw[List.getD_eq_getElem?_getD,List.getD_eq_getElem?_getD,List.getElem?_append_right (by omega),e1,Nat.add_sub_cancel]
theorem b9C{y x:List D}(hy:V8 y)(hx:V8 x):V7 y x=true↔y=x:=by
 unfold V7
 rw[decide_eq_true_eq]
 constructor
 ·rintro⟨a,⟨b,c⟩,d,⟨e,f⟩,g⟩
  rw[hy,hx,a,b,c,d,e,f,g]
 ·rintro rfl;simp
theorem b5H{y x:List D}(hy:b7w y)(hx:b7w x):L3 y x=true↔y=x:=by
 constructor
 ·intro h
  unfold L3 a0m at h
  simp only[Bool.and_eq_true,decide_eq_true_eq] at h
  obtain⟨⟨⟨a,b,c,d⟩,e,f,g⟩,h1,h2⟩:=h
  have e5:=b5u hy.2.1 hx.2.1 h1
  have e8:=b5u hy.2.2 hx.2.2 h2
  rw[hy.1,hx.1,a,b,c,d,e,f,g,e5,e8]
 ·rintro rfl;exact a9J y
def CompL(a b:Rows):Prop:=∀x∈a,∀y∈b,cI x 0=cI y 0→x=y
def DisL(a b:Rows):Prop:=∀x∈a,∀y∈b,cI x 0≠cI y 0
theorem b9I{p:List D→List D→Bool}{a b:Rows}(ha:o5 a)(hp:∀x∈a,∀y∈b,(p x y=true↔x=y)):okJ p a b=true↔CompL a b:=by
 unfold okJ
 rw[List.all_eq_true]
 constructor
 ·intro h x hx y hy e
  have hb:D3 a (cI y 0)=true:=(Q6 ha).2 ⟨x,hx,e⟩
  have:=h y hy
  rw[hb,←e,a4B ha hx] at this
  exact(hp x hx y hy).1 this
 ·intro h y hy
  cases q:D3 a (cI y 0) with
  | false=>rfl
  | true=>
    obtain⟨x,hx,e⟩:=(Q6 ha).1 q
    rw[←e,a4B ha hx,(hp x hx y hy).2 (h x hx y hy e)];rfl
theorem c0v{s G:Rows}(hG:o5 G):a2x s G=false↔DisL s G:=by
 unfold a2x
 rw[List.any_eq_false]
 constructor
 ·intro h x hx y hy e
  exact h x hx ((Q6 hG).2 ⟨y,hy,e.symm⟩)
 ·intro h x hx hb
  obtain⟨y,hy,e⟩:=(Q6 hG).1 hb
  exact h x hx y hy e.symm
structure Sv (s F:Rows):Prop where
 s7:∀x∈s,V8 x
 f9:∀x∈F,b7w x
structure NoLie (s F t G:Rows):Prop where
 cs:CompL s t
 cf:CompL F G
 ds:DisL s G
 dt:DisL t F
theorem a6I{s F:Rows}(h:q9 s F=true):o5 s∧o5 F:=⟨(z7.1 h).2.2.1,(P4.1 (z7.1 h).1.1).2.1⟩
theorem b9V{s F t G:Rows}(h1:Sv s F)(h2:Sv t G)(v1:q9 s F=true)(v2:q9 t G=true):T8 s F t G=false↔NoLie s F t G:=by
 obtain⟨a1,a2⟩:=a6I v1
 obtain⟨b1,b2⟩:=a6I v2
 have e1:=b9I (p:=V7) (b:=t) a1 (fun x hx y hy=>b9C (h1.s7 x hx) (h2.s7 y hy))
 have e2:=b9I (p:=L3) (b:=G) a2 (fun x hx y hy=>b5H (h1.f9 x hx) (h2.f9 y hy))
 have e3:=c0v (s:=s) b2
 have e4:=c0v (s:=t) a2
 unfold T8
 rw[Bool.not_eq_false',Bool.and_eq_true,Bool.and_eq_true,Bool.and_eq_true,Bool.not_eq_true',Bool.not_eq_true',e1,e2,e3,e4]
 exact⟨fun⟨a,b,c,d⟩=>⟨a,b,c,d⟩,fun h=>⟨h.cs,h.cf,h.ds,h.dt⟩⟩
theorem CompL.symm{a b:Rows}(h:CompL a b):CompL b a:=fun x hx y hy e=>(h y hy x hx e.symm).symm
theorem DisL.symm{a b:Rows}(h:DisL a b):DisL b a:=fun x hx y hy e=>h y hy x hx e.symm
theorem NoLie.symm{s F t G:Rows}(h:NoLie s F t G):NoLie t G s F:=⟨h.cs.symm,h.cf.symm,h.dt,h.ds⟩
theorem d4J{a b:Rows}(ha:o5 a)(h:CompL a b){x:List D}:x∈y9 a b↔x∈a∨x∈b:=by
 rw[a6L ha]
 constructor
 ·rintro(q | q)
  ·exact .inl q
  ·exact .inr q.1
 ·rintro(q | q)
  ·exact .inl q
  ·by_cases e:∃y∈a,cI y 0=cI x 0
   ·obtain⟨y,hy,e⟩:=e
    rw[←h y hy x q e]
    exact .inl hy
   ·exact .inr ⟨q,fun y hy e'=>e ⟨y,hy,e'⟩⟩
theorem d2r(W:World)(ds l:List D):(f0 m9 W ds).fb 129 l=sameL l:=by simp only[f0,m9,B0,u5,y3,B1,t6,p9,v8,t7,I4,F4]
theorem d1I(W:World)(ds l:List D):(f0 m9 W ds).fi 132 l=C9 l:=by simp only[f0,m9,B0,u5,y3,B1,t6,p9,v8,t7,I4]
theorem d1C(W:World)(ds l:List D):(f0 m9 W ds).fi 133 l=C8 l:=by simp only[f0,m9,B0,u5,y3,B1,t6,p9,v8,t7,I4]
theorem d1q(W:World)(ds l:List D):(f0 m9 W ds).fi 160 l=C7 l:=by simp only[f0,m9,B0,u5,y3,B1,t6,p9]
theorem d6q(W:World)(ds l:List D):(f0 m9 W ds).fd 2 l=mdR l:=by simp only[f0,m9,B0,u5,y3,B1,t6]
theorem d5r:k8 Tryz.prog 22 [o0,pt] (fun ds=> .tuple #[.int .i64 (a5u ds),.int .i64 (a6w ds)]):=by
 refine GivesIf.all (i7 m9 (by kernel_rfl) (fun ρ h=>a7f (Sees.of h 230) (SeesD.of h 7)) (by kernel_rfl) c1O b8C (by decide) (fun W vals ds hr _=> ?_))
 have hR:a5u ds=if q9 (d9 ds 0) (d9 ds 1)=true then C9 [.l (mdS (d9 ds 0) (d9 ds 1)),.i (c9 ds 2),.i (c9 ds 3)] else 0:=rfl
 have hE:a6w ds=if q9 (d9 ds 0) (d9 ds 1)=true then C8 [.l (mdS (d9 ds 0) (d9 ds 1)),.i (c9 ds 2),.i (c9 ds 3)] else 1:=rfl
 simp only[b1O,g8,Nat.reduceBEq,Nat.reduceLT,Nat.reduceSub,d1q,d6q,c0G,c0n,d1I,d1C]
 rw[hR,hE]
 cases q:q9 (d9 ds 0) (d9 ds 1)
 ·exact⟨fun _=>rfl,fun h=>absurd (show(1:Int)≠0 by decide) h⟩
 ·exact⟨fun h=>absurd rfl h,fun _=>rfl⟩
def b0U(ds:List D):Bool:=T8 (d9 ds 0) (d9 ds 1) (d9 ds 2) (d9 ds 3)
def a7F(ds:List D):Bool:=q9 (d9 ds 0) (d9 ds 1)&&q9 (d9 ds 2) (d9 ds 3)
theorem c6n{W:World}{vals:List Value}{ds:List D}{sh:List Sh}(h:A4 W (o0::o0::sh) vals ds):Sv (d9 ds 0) (d9 ds 1)∧Sv (d9 ds 2) (d9 ds 3):=by
 obtain⟨vs',ds',h2,e⟩:=b2K h
 exact⟨⟨a0G h,b7k h⟩,by rw[e 0,e 1];exact⟨a0G h2,b7k h2⟩⟩
theorem d2i{W:World}{vals:List Value}{ds:List D}{sh:List Sh}(h:A4 W (o0::o0::sh) vals ds):((d9 ds 0).length≤281474976710656∧(d9 ds 1).length≤281474976710656)∧(d9 ds 2).length≤281474976710656∧(d9 ds 3).length≤281474976710656:=by
 obtain⟨vs',ds',h2,e⟩:=b2K h
 exact⟨a3E h,by rw[e 0,e 1];exact a3E h2⟩
set_option maxHeartbeats 2000000 in
theorem d4D:GivesIf Tryz.prog 63 [o0,o0] (fun ds=>a7F ds=true) (fun ds=> .bool (b0U ds)):=by
 refine i7 m9 (by kernel_rfl) (fun ρ h=>a7f (Sees.of h 230) (SeesD.of h 7)) (by kernel_rfl) c0R b8u (by decide) (fun W vals ds hr hok=> ?_)
 obtain⟨S1,S2⟩:=c6n hr
 obtain⟨⟨n0,n1⟩,n2,n3⟩:=d2i hr
 unfold a7F at hok
 obtain⟨v1,v2⟩:=Bool.and_eq_true_iff.1 hok
 have hl:=b9V S1 S2 v1 v2
 have hL:b0U ds=T8 (d9 ds 0) (d9 ds 1) (d9 ds 2) (d9 ds 3):=rfl
 rw[hL]
 clear hr hok hL
 simp only[b1q,g8,Nat.reduceBEq,Nat.reduceLT,Nat.reduceSub]
 generalize e0:d9 ds 0=s at*
 generalize e1:d9 ds 1=F at*
 generalize e2:d9 ds 2=t at*
 generalize e3:d9 ds 3=G at*
 have BAD:¬NoLie s F t G→Value.bool true=Value.bool (T8 s F t G):=fun h=>by
  cases q:T8 s F t G
  ·exact absurd (hl.1 q) h
  ·rfl
 have nx:∀ {i n:Nat},i<n→n≤281474976710656→IntKind.i64.wrap ((i:Int)+1)=((i+1:Nat):Int)∧n-(((i+1:Nat):Int)).toNat<n-(i:Int).toNat:=fun {i n} h h'=>⟨by rw[f8 _ (by omega) (by omega)];rfl,by omega⟩
 refine TT.sat_loop (fun v=>∃i:Nat,v.i 0=i∧i≤s.length∧∀k (hk:k<s.length),k<i→(∀y∈t,cI s[k] 0=cI y 0→s[k]=y)∧∀g∈G,cI s[k] 0≠cI g 0) (fun v=>s.length-(v.i 0).toNat)
  ⟨0,by simp [j7,i8,E.ev],by omega,fun k hk h=>by omega⟩ (fun v hv=> ?_)
 obtain⟨i,i0,i1,i2⟩:=hv
 simp only[g8,Nat.reduceBEq,Nat.reduceLT,Nat.reduceSub,i0,e0,e1,e2,e3]
 refine⟨fun hc=> ?_,fun hc=> ?_⟩
 ·have hi:i<s.length:=by omega
  obtain⟨wi,mi⟩:=nx hi n0
  refine TT.sat_loop (fun u=>∃j:Nat,u.i 0=j∧j≤t.length∧∀k (hk:k<t.length),k<j→cI s[i] 0=cI t[k] 0→s[i]=t[k]) (fun u=>t.length-(u.i 0).toNat)
   ⟨0,by simp [j7,i8,E.ev],by omega,fun k hk h=>by omega⟩ (fun u hu=> ?_)
  obtain⟨j,j0,j1,j2⟩:=hu
  simp only[g8,Nat.reduceBEq,Nat.reduceLT,Nat.reduceSub,i0,j0,e0,e1,e2,e3,wi,show((0:Nat)=1)=False from by simp,show((0:Nat)=2)=False from by simp,show((1:Nat)=2)=False from by simp,show((1:Nat)=3)=False from by simp,if_false]
  refine⟨fun hj=> ?_,fun hj=> ?_⟩
  ·have hjt:j<t.length:=by omega
   obtain⟨wj,mj⟩:=nx hjt n2
   simp only[j8 hi,j8 hjt,wj]
   have E7:=b9C (S1.s7 _ (List.getElem_mem hi)) (S2.s7 _ (List.getElem_mem hjt))
   unfold V7 at E7
   rw[decide_eq_true_eq] at E7
   have OK:(cI s[i] 0=cI t[j] 0→s[i]=t[j])→(∃q:Nat,((j+1:Nat):Int)=q∧q≤t.length∧∀k (hk:k<t.length),k<q→cI s[i] 0=cI t[k] 0→s[i]=t[k])∧t.length-(((j+1:Nat):Int)).toNat<t.length-(j:Int).toNat:=fun h=>⟨⟨j+1,rfl,by omega,fun k hk hkj=>by
    by_cases e:k=j
    ·subst e;exact h
    ·exact j2 k hk (by omega)⟩,mj⟩
   refine⟨by omega,by omega,by omega,by omega,fun a=>⟨by omega,by omega,by omega,by omega,fun b=>BAD fun h=>b (E7.2 (h.cs _ (List.getElem_mem hi) _ (List.getElem_mem hjt) a)),fun b=>OK fun _=>E7.1 b⟩,fun a=>OK fun q=>absurd q a⟩
  ·have hjt:j=t.length:=by omega
   refine TT.sat_loop (fun w=>∃m:Nat,w.i 0=m∧m≤G.length∧∀k (hk:k<G.length),k<m→cI s[i] 0≠cI G[k] 0) (fun w=>G.length-(w.i 0).toNat)
    ⟨0,by simp [j7,i8,E.ev],by omega,fun k hk h=>by omega⟩ (fun w hw=> ?_)
   obtain⟨m,m0,m1,m2⟩:=hw
   simp only[g8,Nat.reduceBEq,Nat.reduceLT,Nat.reduceSub,i0,j0,m0,e0,e1,e2,e3,wi,show((0:Nat)=1)=False from by simp,show((0:Nat)=2)=False from by simp,show((1:Nat)=2)=False from by simp,show((1:Nat)=3)=False from by simp,if_false]
   refine⟨fun hm=> ?_,fun hm=> ?_⟩
   ·have hmG:m<G.length:=by omega
    obtain⟨wm,mm⟩:=nx hmG n3
    simp only[j8 hi,j8 hmG,wm]
    refine⟨by omega,by omega,by omega,by omega,fun a=>BAD fun h=>h.ds _ (List.getElem_mem hi) _ (List.getElem_mem hmG) a,fun a=>⟨⟨m+1,rfl,by omega,fun k hk hkm=> ?_⟩,mm⟩⟩
    by_cases e:k=m
    ·subst e;exact a
    ·exact m2 k hk (by omega)
   ·have hmG:m=G.length:=by omega
    refine⟨⟨i+1,rfl,by omega,fun k hk hki=> ?_⟩,mi⟩
    by_cases e:k=i
    ·subst e
     refine⟨fun y hy q=> ?_,fun g hg q=> ?_⟩
     ·obtain⟨n,hn,rfl⟩:=List.getElem_of_mem hy
      exact j2 n hn (by omega) q
     ·obtain⟨n,hn,rfl⟩:=List.getElem_of_mem hg
      exact m2 n hn (by omega) q
    ·exact i2 k hk (by omega)
 ·have hi:i=s.length:=by omega
  refine TT.sat_loop (fun v=>∃p:Nat,v.i 0=p∧p≤F.length∧∀k (hk:k<F.length),k<p→(∀y∈t,cI F[k] 0≠cI y 0)∧∀g∈G,cI F[k] 0=cI g 0→F[k]=g) (fun v=>F.length-(v.i 0).toNat)
   ⟨0,by simp [j7,i8,E.ev],by omega,fun k hk h=>by omega⟩ (fun v' hv=> ?_)
  obtain⟨p,p0,p1,p2⟩:=hv
  simp only[g8,Nat.reduceBEq,Nat.reduceLT,Nat.reduceSub,i0,p0,e0,e1,e2,e3,show((0:Nat)=1)=False from by simp,show((0:Nat)=2)=False from by simp,show((1:Nat)=2)=False from by simp,show((1:Nat)=3)=False from by simp,if_false]
  refine⟨fun hp=> ?_,fun hp=> ?_⟩
  ·have hpF:p<F.length:=by omega
   obtain⟨wp,mp⟩:=nx hpF n1
   refine TT.sat_loop (fun u=>∃j:Nat,u.i 0=j∧j≤t.length∧∀k (hk:k<t.length),k<j→cI F[p] 0≠cI t[k] 0) (fun u=>t.length-(u.i 0).toNat)
    ⟨0,by simp [j7,i8,E.ev],by omega,fun k hk h=>by omega⟩ (fun u hu=> ?_)
   obtain⟨j,j0,j1,j2⟩:=hu
   simp only[g8,Nat.reduceBEq,Nat.reduceLT,Nat.reduceSub,i0,p0,j0,e0,e1,e2,e3,wp,show((0:Nat)=1)=False from by simp,show((0:Nat)=2)=False from by simp,show((1:Nat)=2)=False from by simp,show((1:Nat)=3)=False from by simp,if_false]
   refine⟨fun hj=> ?_,fun hj=> ?_⟩
   ·have hjt:j<t.length:=by omega
    obtain⟨wj,mj⟩:=nx hjt n2
    simp only[j8 hpF,j8 hjt,wj]
    refine⟨by omega,by omega,by omega,by omega,fun a=>BAD fun h=>h.dt _ (List.getElem_mem hjt) _ (List.getElem_mem hpF) a.symm,fun a=>⟨⟨j+1,rfl,by omega,fun k hk hkm=> ?_⟩,mj⟩⟩
    by_cases e:k=j
    ·subst e;exact a
    ·exact j2 k hk (by omega)
   ·have hjt:j=t.length:=by omega
    refine TT.sat_loop (fun w=>∃m:Nat,w.i 0=m∧m≤G.length∧∀k (hk:k<G.length),k<m→cI F[p] 0=cI G[k] 0→F[p]=G[k]) (fun w=>G.length-(w.i 0).toNat)
     ⟨0,by simp [j7,i8,E.ev],by omega,fun k hk h=>by omega⟩ (fun w hw=> ?_)
    obtain⟨m,m0,m1,m2⟩:=hw
    simp only[g8,Nat.reduceBEq,Nat.reduceLT,Nat.reduceSub,i0,p0,j0,m0,e0,e1,e2,e3,d2r,b0D,wp,show((0:Nat)=1)=False from by simp,show((0:Nat)=2)=False from by simp,show((1:Nat)=2)=False from by simp,show((1:Nat)=3)=False from by simp,if_false]
    refine⟨fun hm=> ?_,fun hm=> ?_⟩
    ·have hmG:m<G.length:=by omega
     obtain⟨wm,mm⟩:=nx hmG n3
     simp only[j8 hpF,j8 hmG,I7 hpF,I7 hmG,wm]
     have E9:=b5H (S1.f9 _ (List.getElem_mem hpF)) (S2.f9 _ (List.getElem_mem hmG))
     unfold L3 at E9
     have OK:(cI F[p] 0=cI G[m] 0→F[p]=G[m])→(∃q:Nat,((m+1:Nat):Int)=q∧q≤G.length∧∀k (hk:k<G.length),k<q→cI F[p] 0=cI G[k] 0→F[p]=G[k])∧G.length-(((m+1:Nat):Int)).toNat<G.length-(m:Int).toNat:=fun h=>⟨⟨m+1,rfl,by omega,fun k hk hkj=>by
      by_cases e:k=m
      ·subst e;exact h
      ·exact m2 k hk (by omega)⟩,mm⟩
     refine⟨by omega,by omega,by omega,by omega,fun a=>⟨by omega,by omega,by omega,by omega,fun b=>BAD fun h=> ?_,fun b=>OK fun _=>E9.1 b⟩,fun a=>OK fun q=>absurd q a⟩
     have:=E9.2 (h.cf _ (List.getElem_mem hpF) _ (List.getElem_mem hmG) a)
     rw[b] at this
     cases this
    ·have hmG:m=G.length:=by omega
     refine⟨⟨p+1,rfl,by omega,fun k hk hki=> ?_⟩,mp⟩
     by_cases e:k=p
     ·subst e
      refine⟨fun y hy q=> ?_,fun g hg q=> ?_⟩
      ·obtain⟨n,hn,rfl⟩:=List.getElem_of_mem hy
       exact j2 n hn (by omega) q
      ·obtain⟨n,hn,rfl⟩:=List.getElem_of_mem hg
       exact m2 n hn (by omega) q
     ·exact p2 k hk (by omega)
  ·have hpF:p=F.length:=by omega
   have hN:NoLie s F t G:=by
    refine⟨fun x hx y hy q=> ?_,fun x hx y hy q=> ?_,fun x hx y hy q=> ?_,fun x hx y hy q=> ?_⟩
    ·obtain⟨k,hk,rfl⟩:=List.getElem_of_mem hx
     exact(i2 k hk (by omega)).1 y hy q
    ·obtain⟨k,hk,rfl⟩:=List.getElem_of_mem hx
     exact(p2 k hk (by omega)).2 y hy q
    ·obtain⟨k,hk,rfl⟩:=List.getElem_of_mem hx
     exact(i2 k hk (by omega)).2 y hy q
    ·obtain⟨k,hk,rfl⟩:=List.getElem_of_mem hy
     exact(p2 k hk (by omega)).1 x hx q.symm
   rw[hl.2 hN]
def M1(r:Rows)(x:List D):Rows:=r.take (y6 r (cI x 0))++x::(r.drop (y6 r (cI x 0))).filter fun y=> !decide (cI y 0=cI x 0)
def c2S(ds:List D):Rows:=M1 (d9 ds 0) (a4f (c9 ds 1) (c9 ds 2) (c9 ds 3) (c9 ds 4) (c9 ds 5) (c9 ds 6) (c9 ds 7))
def a6M:NL:= { e:=53,ks:=G7,s:=7,rows:=c2S }
theorem P3(r:Rows)(x:List D):(M1 r x).length≤r.length+1:=by
 unfold M1
 have:=List.length_filter_le (fun y=> !decide (cI y 0=cI x 0)) (r.drop (y6 r (cI x 0)))
 have h2:=(D0 r (cI x 0)).1
 rw[List.length_drop] at this
 rw[List.length_append,List.length_take,List.length_cons]
 omega
theorem c7r{r:Rows}(hr:o5 r){x y:List D}:y∈M1 r x↔y=x∨(y∈r∧cI y 0≠cI x 0):=by
 obtain⟨h1,h2,h3⟩:=D0 r (cI x 0)
 have hs:∀z,z∈r.take (y6 r (cI x 0))→cI z 0<cI x 0:=fun z hz=>by
  obtain⟨k,hk,rfl⟩:=List.getElem_of_mem hz
  rw[List.length_take] at hk
  have:=h2 k (by omega)
  rw[j8 (by omega)] at this
  rw[List.getElem_take]
  exact this
 unfold M1
 rw[List.mem_append,List.mem_cons,List.mem_filter]
 constructor
 ·rintro(h | h | h)
  ·exact .inr ⟨List.mem_of_mem_take h,by have:=hs y h;omega⟩
  ·exact .inl h
  ·exact .inr ⟨List.mem_of_mem_drop h.1,by simpa using h.2⟩
 ·rintro(h | ⟨h,g⟩)
  ·exact .inr (.inl h)
  ·rw[←List.take_append_drop (y6 r (cI x 0)) r,List.mem_append] at h
   rcases h with h | h
   ·exact .inl h
   ·exact .inr (.inr ⟨h,by simpa using g⟩)
theorem c9P{r:Rows}(hr:o5 r)(x:List D):o5 (M1 r x):=by
 obtain⟨h1,h2,h3⟩:=D0 r (cI x 0)
 have hd:∀z,z∈r.drop (y6 r (cI x 0))→cI x 0≤cI z 0:=fun z hz=>by
  by_cases hl:y6 r (cI x 0)<r.length
  ·have h4:=h3 hl
   rw[j8 hl] at h4
   have:=(a4X hr hl).2 z hz
   omega
  ·rw[List.drop_of_length_le (by omega)] at hz
   exact(List.not_mem_nil hz).elim
 have hs:∀z,z∈r.take (y6 r (cI x 0))→cI z 0<cI x 0:=fun z hz=>by
  obtain⟨k,hk,rfl⟩:=List.getElem_of_mem hz
  rw[List.length_take] at hk
  have:=h2 k (by omega)
  rw[j8 (by omega)] at this
  rw[List.getElem_take]
  exact this
 have hf:∀z,z∈(r.drop (y6 r (cI x 0))).filter (fun y=> !decide (cI y 0=cI x 0))→cI x 0<cI z 0:=fun z hz=>by
  obtain⟨g1,g2⟩:=List.mem_filter.1 hz
  have:=hd z g1
  have g2:cI z 0≠cI x 0:=by simpa using g2
  omega
 unfold M1 o5
 rw[List.pairwise_append,List.pairwise_cons]
 refine⟨hr.sublist (List.take_sublist _ _),⟨hf,(hr.sublist (List.drop_sublist _ _)).sublist List.filter_sublist⟩,fun a ha b hb=> ?_⟩
 rcases List.mem_cons.1 hb with rfl | hb
 ·exact hs a ha
 ·exact Int.lt_trans (hs a ha) (hf b hb)
def a5W:TT j6:=
(.loop 1 6000 ⟨[(0,(.plus (.var 2000) (.lit 1))),(1,(.var 2002)),(0,(.plus (.var 2000) (.lit 1)))],[],[(2,(.app (.var 2001) (.app (.row (.i (.var 1) (.i (.var 2) (.i (.var 3) (.i (.var 4) (.i (.var 5) (.i (.var 6) (.i (.var 7) .nil)))))))) .nil)))]⟩
 (.ite (.cmp .lss (.var 6001) (.len (.var 0)))
 (.ob (.tru (.cmp .leq (.lit 0) (.var 6001)))
 (.ob (.tru (.cmp .lss (.var 6001) (.len (.var 0))))
 (.ite (.cmp .neq (.rd (.var 0) (.var 6001) 0) (.var 1))
 (.ob (.tru (.cmp .leq (.lit 0) (.var 6001)))
 (.ob (.tru (.cmp .lss (.var 6001) (.len (.var 0))))
 (.ob (.tru (.cmp .leq (.len (.app (.var 6002) (.app (.row (.i (.rd (.var 0) (.var 6001) 0) (.i (.rd (.var 0) (.var 6001) 1) (.i (.rd (.var 0) (.var 6001) 2) (.i (.rd (.var 0) (.var 6001) 3) (.i (.rd (.var 0) (.var 6001) 4) (.i (.rd (.var 0) (.var 6001) 5) (.i (.rd (.var 0) (.var 6001) 6) .nil)))))))) .nil))) (.lit 1000000)))
 (.next 1 ⟨[(0,(.plus (.var 6000) (.lit 1))),(1,(.ar .add .i64 (.var 6001) (.lit 1))),(0,(.plus (.var 6000) (.lit 1)))],[],[(2,(.app (.var 6002) (.app (.row (.i (.rd (.var 0) (.var 6001) 0) (.i (.rd (.var 0) (.var 6001) 1) (.i (.rd (.var 0) (.var 6001) 2) (.i (.rd (.var 0) (.var 6001) 3) (.i (.rd (.var 0) (.var 6001) 4) (.i (.rd (.var 0) (.var 6001) 5) (.i (.rd (.var 0) (.var 6001) 6) .nil)))))))) .nil)))]⟩))))
 (.next 1 ⟨[(0,(.var 6000)),(1,(.ar .add .i64 (.var 6001) (.lit 1))),(0,(.var 6000))],[],[(2,(.var 6002))]⟩))))
 (.ret ((.v (.one (.z (.own 2 (.var 6000))))),[(2,(.own 53 G7 (.var 6002) (.var 6000))),(2,(.own 53 G7 (.app (.var 2001) (.app (.row (.i (.var 1) (.i (.var 2) (.i (.var 3) (.i (.var 4) (.i (.var 5) (.i (.var 6) (.i (.var 7) .nil)))))))) .nil)) (.plus (.var 2000) (.lit 1)))),(2,(.own 53 G7 (.var 2001) (.var 2000)))],7))))
theorem c9a{w0:World}{ds:List D}{r:Rows}{x:List D}(e0:d9 ds 0=r)(ex:[D.i (c9 ds 1),.i (c9 ds 2),.i (c9 ds 3),.i (c9 ds 4),.i (c9 ds 5),.i (c9 ds 6),.i (c9 ds 7)]=x)(hl:r.length≤1000)(ws:∀(k:Nat) (hk:k<r.length),V8 r[k]){v:LV}{k:Nat}(k0:v.i 2=k)(hk:k=y6 r (c9 ds 1))(hd:v.d 1=r.take k)
 {J:Nat→LV→Prop}:a5W.sat ((f0 m9 w0 ds).put 2000 v) (fun ρ q=>∃a z,K3 q.2.1 a6M.e a6M.ks a=some z∧z.ev ρ=a6M.rows ds∧∀(σ:As) u,ρ.w=w0→q.1.den ρ σ u→∃b,a.den ρ σ b∧u=b) J:=by
 have hR:a6M.rows ds=M1 r x:=by rw[←e0,←ex];rfl
 have hx0:c9 ds 1=cI x 0:=by rw[←ex];rfl
 have hkl:=(D0 r (cI x 0)).1
 have hP:M1 r x=r.take k++x::(r.drop k).filter fun y=> !decide (cI y 0=cI x 0):=by rw[hk,hx0];rfl
 have hpl:=P3 r x
 unfold a5W
 refine TT.sat_loop (fun u=>∃j:Nat,u.i 1=j∧k≤j∧j≤r.length∧u.d 2++(r.drop j).filter (fun y=> !decide (cI y 0=cI x 0))=M1 r x) (fun u=>r.length-(u.i 1).toNat)
  ⟨k,by simp [j7,i8,E.ev,a0W,k0],by omega,by rw[hk,hx0];exact hkl,?_⟩ (fun u hu=> ?_)
 ·rw[hP]
  simp only[D4,i8,X.ev,B6,g8,Nat.reduceBEq,Nat.reduceLT,Nat.reduceSub,hd,ex]
  simp
 obtain⟨j,j0,j1,j2,j3⟩:=hu
 simp only[g8,Nat.reduceBEq,Nat.reduceLT,Nat.reduceSub,j0,e0]
 have hlen:=congrArg List.length j3
 rw[List.length_append] at hlen
 refine⟨fun hj=> ?_,fun hj=> ?_⟩
 ·have hjr:j<r.length:=by omega
  have hw:IntKind.i64.wrap ((j:Int)+1)=((j+1:Nat):Int):=by rw[f8 _ (by omega) (by omega)];rfl
  have hm:r.length-(((j+1:Nat):Int)).toNat<r.length-(j:Int).toNat:=by omega
  have hdj:r.drop j=r[j]::r.drop (j+1):=List.drop_eq_getElem_cons hjr
  have h7:[D.i (cI r[j] 0),.i (cI r[j] 1),.i (cI r[j] 2),.i (cI r[j] 3),.i (cI r[j] 4),.i (cI r[j] 5),.i (cI r[j] 6)]=r[j]:=(ws j hjr).symm
  simp only[j8 hjr,hw,h7,hx0]
  rw[hdj] at j3
  refine⟨by omega,by omega,fun q=> ?_,fun q=>⟨⟨j+1,rfl,by omega,by omega,?_⟩,hm⟩⟩
  ·rw[List.filter_cons_of_pos (by simpa using q)] at j3
   have hl3:=congrArg List.length j3
   rw[List.length_append,List.length_cons] at hl3
   refine⟨by omega,by omega,?_,⟨j+1,rfl,by omega,by omega,?_⟩,hm⟩
   ·rw[List.length_append,List.append_nil,List.length_singleton];omega
   ·rw[←j3,List.append_nil,List.append_assoc];rfl
  ·rw[List.filter_cons_of_neg (by simpa using q)] at j3
   exact j3
 ·have hjr:j=r.length:=by omega
  rw[hjr,List.drop_length,List.filter_nil,List.append_nil] at j3
  refine b2x (x:= .var 6002) (by kernel_rfl) ?_
  rw[hR]
  simp only[X.ev,B6,g8,Nat.reduceBEq,Nat.reduceLT,Nat.reduceSub,j3]
set_option maxHeartbeats 1000000 in
theorem d6c:B9 Tryz.prog 64 [a4r,snd] [a6M] (fun ds=>(d9 ds 0).length≤1000) (fun _ _ vs u=>∃v,vs=[v]∧u=v):=by
 refine H0 m9 (by kernel_rfl) (fun ρ h=>a7f (Sees.of h 230) (SeesD.of h 7)) (by kernel_rfl) c1p b7F (by decide) (fun w0 vals ds hr hok=> ?_)
 have hrow:∀row∈d9 ds 0,V8 row:=by
  obtain⟨v,vs',d,ds',rfl,rfl,⟨d,rfl,h⟩,_⟩:=hr
  have h':=h
  rw[y7] at h'
  obtain⟨r,rfl,_⟩:=h'
  exact a5s h
 clear hr
 simp only[b0T]
 generalize e0:d9 ds 0=r at*
 have hok:r.length≤1000:=hok
 have ws:∀(k:Nat) (hk:k<r.length),V8 r[k]:=fun k hk=>hrow _ (List.getElem_mem hk)
 refine TT.sat_loop (fun v=>∃k:Nat,v.i 2=k∧k≤r.length∧v.d 1=r.take k∧∀m:Nat,m<k→lg r m 0<c9 ds 1) (fun v=>r.length-(v.i 2).toNat)
  ⟨0,by simp [j7,i8,E.ev],by omega,by simp [D4,i8,X.ev],fun m h=>by omega⟩ (fun v hv=> ?_)
 obtain⟨k,k0,k1,k2,k3⟩:=hv
 have REST:(k<r.length→¬lg r k 0<c9 ds 1)→_:=fun h=>c9a (w0:=w0) (J:=fun d' v'=>if d'=0 then(∃k:Nat,v'.i 2=k∧k≤r.length∧v'.d 1=r.take k∧∀m:Nat,m<k→lg r m 0<c9 ds 1)∧r.length-(v'.i 2).toNat<r.length-(v.i 2).toNat else False) e0 rfl hok ws k0 (Y7 k1 k3 h) k2
 unfold a5W at REST
 simp only[g8,Nat.reduceBEq,Nat.reduceLT,Nat.reduceSub,k0,k2,e0] at REST ⊢
 refine⟨fun hc=> ?_,fun hc=> ?_⟩
 ·have hk:k<r.length:=by omega
  have hw:IntKind.i64.wrap ((k:Int)+1)=((k+1:Nat):Int):=by rw[f8 _ (by omega) (by omega)];rfl
  have hm:r.length-(((k+1:Nat):Int)).toNat<r.length-(k:Int).toNat:=by omega
  have h7:[D.i (cI r[k] 0),.i (cI r[k] 1),.i (cI r[k] 2),.i (cI r[k] 3),.i (cI r[k] 4),.i (cI r[k] 5),.i (cI r[k] 6)]=r[k]:=(ws k hk).symm
  have hlk:=j8 hk 0
  refine⟨by omega,by omega,fun q=>⟨by omega,by omega,?_,⟨k+1,by rw[hw],by omega,?_,fun m hmk=> ?_⟩,by rw[hw];exact hm⟩,fun q=>⟨?_,REST fun _=>q⟩⟩
  ·rw[List.length_append,List.append_nil,List.length_singleton,List.length_take];omega
  ·simp only[j8 hk,h7]
   rw[List.append_nil,List.take_succ_eq_append_getElem hk]
  ·by_cases e:m=k
   ·subst e;exact q
   ·exact k3 m (by omega)
  ·rw[List.length_append,List.append_nil,List.length_singleton,List.length_take];omega
 ·refine⟨?_,REST fun h=>by omega⟩
  rw[List.length_append,List.append_nil,List.length_singleton,List.length_take];omega
def b7b(sh:List Sh)(l:NL)(obs:AL→List Ob)(args:List V)(mem:Mem)(nx:Nat):T j6:=match args with
 | .v (.one (.z (.own id ver)))::r=>match mem.get id with
   | some (.own t ks x v)=>if E.same ver v&&Nat.beq t l.e&&CK.sameL ks l.ks then(match U5 mem sh (.v (.one (.z (.own id ver)))::r) with
     | some al=> .obs (obs al) (.ret (.s0 (.own id (.plusS ver (.lit 1))),[(id,.own l.e l.ks (dF l.s l.rows al) (.plusS ver (.lit 1)))],nx))
     | none=> .stuck "next list") else .stuck "next list: kinds"
   | _=> .stuck "next list: from"
 | _=>a9r sh l obs args mem nx
theorem c4V{P:Program}{ρ:Env}{f:FuncId}{sh:List Sh}{l:NL}{ok:List D→Prop}(hg:B9 P f sh [l] ok (fun _ _ vs u=>∃v,vs=[v]∧u=v))(hf:l.ks.all CK.flat=true){obs:AL→List Ob}
 (hobs:∀al,(∀o∈obs al,o.ok ρ)→ok (al.ev ρ)) (hs:∀a,ρ.fd l.s a=l.rows a):i9 P ρ f (b7b sh l obs):=by
 intro args mem nx q hq hle σ W vals hr hfr hd
 unfold b7b at hq
 split at hq
 ·rename_i id ver rest
  split at hq
  ·rename_i t ks x v hm
   split at hq
   ·rename_i hcond
    simp only[Bool.and_eq_true] at hcond
    obtain⟨⟨hv,ht⟩,hk⟩:=hcond
    obtain rfl:=E.same_eq _ _ hv
    split at hq
    ·rename_i al ha
     obtain⟨ho,hq⟩:=T.res_obs hq
     obtain rfl:=g7 hq
     have hc:=hg W W vals (al.ev ρ) (Below.refl _ _) (a0P hr sh _ al ha vals hd) (hobs al ho)
     obtain⟨u1,us,hu,d1,_⟩:=DL.cons_inv hd
     obtain⟨_,hd1⟩:=d1
     obtain⟨ov,oxs,hO⟩:=hr.blk _ _ hm
     have hw:CallsIn Fence.wide 0 P f vals.toArray W _:=callsIn_wide.2 hc
     refine CallsIn.mono (F:=FR none) hw ?_
     rintro en W' ⟨vs,u,rfl,⟨v,rfl,rfl⟩,hb,hn⟩
     obtain⟨xs,h1,h2,h3,⟨a,c,rfl⟩,h5⟩:=hn.each 0 l _ rfl rfl
     have hx:=b4b (ρ:=ρ) (s:=l.s) (f:=l.rows) hs al
     have hver:(E.plusS ver (.lit 1)).ev ρ=ver.ev ρ+1:=by rw[E.plusS_ev];rfl
     have hstep:=G4 (ρ:=ρ) (σ:=σ) (W:=W) (id:=id) (t:=l.e) (ks:=l.ks) (x:=dF l.s l.rows al) (ver:= .plusS ver (.lit 1)) (v:= .slice .none 0 0) (W':=W') (xs:=xs) (fun i a hi=>hr.lt i a hi) (by rw[hver];exact hO.last _ (by omega)) (fun u hu=>hO.last u (by rw[hver] at hu;omega)) hr.inj (fun k hk=>by cases hk)
      (by
       rw[hx]
       exact⟨h1.base hr.base.size,hb.os,hb.tape,hb.output,hb.size,fun k hk _=>hb.block k hk,fun k hk=> .inr (h5 k hk),Keep.of_eq (fun k hk=>hb.block k hk),a,c,rfl⟩)
      (by rw[hx];exact fun i row hi=>a1l hf (h2.2 i row hi)) (by rw[hx];exact h3)
     refine⟨_,_,rfl,⟨⟨a,_,c,rfl⟩,As.say_self⟩,hstep,fun j hj=> ?_⟩
     rcases F7 hj with h | h
     ·exact .inl h
     ·subst h;exact .inl (.inr ⟨_,_,hd1⟩)
    ·exact hq.elim
   ·exact hq.elim
  ·exact hq.elim
 ·exact a7H hg hf hobs hs _ mem nx q hq hle σ W vals hr hfr hd
def L0:Interp where
 fi n l:=m9.fi n l
 fb n l:=match n with | 230=>b0U l | 231=>a7F l | n=>m9.fb n l
 fd n l:=match n with | 7=>c2S l | n=>m9.fd n l
theorem b4d{ρ:Env}(h:SeesD ρ L0 8):SeesD ρ m9 7:=fun n l hn=>by
 rw[h n l (by omega)]
 simp only[L0]
 split<;>first | omega | rfl
theorem b2a{ρ:Env}(h:Sees ρ L0 240):Sees ρ m9 230:=h.trans (by decide) fun n l hn=>by
 refine⟨?_,?_⟩
 ·
  rfl
 ·
  simp only[L0]
  split<;>first | omega | rfl
def b5D:=o7 [o0,o0] fun al=> .ob (.tru (bF 231 a7F al)) (.ret (bV (bF 230 b0U al)))
theorem b3j{ρ:Env}(h:Sees ρ L0 240):i9 Tryz.prog ρ 63 b5D:=by
 refine A0 d4D (fun al v hv=> ?_)
 obtain⟨ho,hv⟩:=hv
 obtain rfl:=g7 hv
 refine⟨rfl,?_,?_⟩
 ·have h1:(bF 231 a7F al).ev ρ=true:=ho
  rw[k7 (s:=231) (f:=a7F) (fun l=>by rw[(h 231 l (by decide)).2];simp only[L0])] at h1
  exact h1
 ·simp only[iV,bV,V.s0,V.val,V2.val,S.val,S0.val,k7 (s:=230) (f:=b0U) (fun l=>by rw[(h 230 l (by decide)).2];simp only[L0])];try rfl
def c6o(al:AL):List Ob:=match al with
 | .x r _=>[.tru (.cmpS .leq (.lenS r) (.lit 1000))]
 | _=>[.tru (.lit false)]
def b7c:=b7b [a4r,snd] a6M c6o
theorem b2w{ρ:Env}(hd:SeesD ρ L0 8):i9 Tryz.prog ρ 64 b7c:=by
 refine c4V d6c (by decide) (fun al ho=> ?_) (fun a=>(hd 7 a (by decide)).trans rfl)
 unfold c6o at ho
 split at ho
 ·have h1:=ho _ (List.mem_singleton.2 rfl)
  simp only[Ob.ok,B.cmpS_ev] at h1
  have h1:=of_decide_eq_true h1
  simp only[E.ev,E.lenS_ev] at h1
  show(X.ev ρ _).length≤1000
  omega
 ·have:=ho _ (List.mem_singleton.2 rfl)
  simp [Ob.ok,B.ev] at this
def c8z:Ct:=(63,b5D)::(64,b7c)::(22,a2d)::b6g
theorem d1z{ρ:Env}(h:Sees ρ L0 240):Sees ρ B1 190:=a2a (a4d (a6W (a3T (b2a h))))
theorem b2O{ρ:Env}(h:Sees ρ B1 190):i9 Tryz.prog ρ 22 a2d:=by
 refine k5 d5r (fun _=>rfl) (fun al=> ?_)
 simp only[V.val,V2.val,S.val,S0.val,w6,List.map_cons,List.map_nil,o6 (s:=180) (f:=a5u) (fun l=>(h 180 l (by decide)).1.trans rfl),o6 (s:=181) (f:=a6w) (fun l=>(h 181 l (by decide)).1.trans rfl)]
theorem c0y{ρ:Env}(h:Sees ρ L0 240)(hd:SeesD ρ L0 8):CtOk Tryz.prog ρ c8z:= .cons (b3j h)<| .cons (b2w hd)<| .cons (b2O (d1z h))<|a7f (b2a h) (b4d hd)
section
variable {P:Program} {ct:Ct} {lt:Lt}
def b4c(l:NL)(ds:List D)(w0:World)(ρ:Env)(q:j6):Prop:=∃s x,U2 q.2.1 l.e l.ks s=some x∧x.ev ρ=l.rows ds∧(∀ver,s≠ .own 0 ver)∧∀(σ:As) u,ρ.w=w0→q.1.den ρ σ u→S0.den ρ σ s u
theorem c5a(I:Interp)(hmix:P.follows .mixedOrders=true)(hct:∀ρ,ρ.has I→CtOk P ρ ct)(hce:ct.all (fun p=>N8 P p.1)=true){n:Nat}{f:FuncId}{sh:List Sh}{tr:TT j6}(he:T.norm 0 (call P ct lt n f (i6 0 sh) [] 1) TT.ret=tr)
 (hlow:tr.low 1000=true) (hsh:a0Z sh≤1000) {l0:NL} {ok:List D→Prop}
 (hs:∀w0 vals ds,A4 w0 sh vals ds→ok ds→tr.sat (f0 I w0 ds) (b4c l0 ds w0) (fun _ _=>False)):B9 P f sh [l0] ok (fun _ _ vs u=>∃v,vs=[v]∧u=v):=by
 intro w0 W vals ds hbase hrep hok
 obtain⟨ρ',q,h1,⟨s0,x0,hx1,hx2,_,h4'⟩,_,h5⟩:=O5 (lt:=lt) hmix (fun ρ' ha=>hct ρ' ⟨ha.fi.symm,ha.fb.symm,ha.fd.symm⟩) (L4 hce) he hlow (hs w0 vals ds hrep hok) (σ:=As.none) (W:=W) (vals:=vals)
  (fun ρ' ha=>⟨fun id b h=>by simp [Mem.get] at h,fun i j a h=>absurd h (m5 _ _),fun i a h=>absurd h (m5 _ _),fun i a h=>absurd h (m5 _ _),by rw[←ha.w];exact hbase⟩) (fun k _=>T4 k) (fun ρ' ha=>M2 ha sh 0 vals [] ds rfl rfl (by omega) hrep)
 have h2:=c6D (q:=q) hx1 hx2
 have h4:∀(σ:As) u,ρ'.w=w0→q.1.den ρ' σ u→∃vs,DL (S0.den ρ' σ) [s0] vs∧∃v,vs=[v]∧u=v:=fun σ u h e=>⟨[u],⟨h4' σ u h e,trivial⟩,u,rfl,rfl⟩
 refine(callsIn_wide (n:=0)).1 ?_
 have h':CallsIn Fence.wide 0 P f vals.toArray W (J1 ρ' As.none W 1 q):=h5
 have hw:ρ'.w=w0:=by rw[←h1.w];rfl
 refine CallsIn.mono h' ?_
 rintro en W' ⟨u,σ',rfl,e1,e2,e3⟩
 obtain⟨vs,hd,hres⟩:=h4 σ' u hw e1
 have hb:Below W.heap.size W W':=⟨e2.os,e2.tape,e2.output,e2.size,fun k hk=>e2.frame k hk (fun i b _ e=>m5 _ _ e)⟩
 have hinj:=e2.inj (fun i j a h=>absurd h (m5 _ _))
 have hl:vs.length=[l0].length:=by rw[←h2.len];exact(DL.length hd).symm
 have key:∀(k:Nat) (l:NL) (v:Value),[l0][k]? = some l→vs[k]? = some v→b2g w0 W W' ds l v∧∀a,k9 v=some a→∃id ver,[s0][k]? = some (S0.own id ver)∧σ'.own id a:=fun k l v hk hv=>by
  have hks:k<[s0].length:=by rw[h2.len];exact(List.getElem?_eq_some_iff.1 hk).1
  have hsk:=List.getElem?_eq_getElem hks
  obtain⟨v',hv',hden⟩:=DL.get hd hsk
  obtain rfl:v'=v:=by rw[hv'] at hv;exact Option.some.inj hv
  obtain⟨x,hx1,hx2⟩:=h2.each k l _ hk hsk
  have hsk':∀id ver,[s0][k]=S0.own id ver→[s0][k]? = some (S0.own id ver):=fun id ver e=>by rw[hsk,e]
  generalize [s0][k]=s at hx1 hden hsk'
  unfold U2 at hx1
  split at hx1
  ·rename_i id ver
   split at hx1
   ·rename_i e' ks' x' ver' hm
    split at hx1
    ·rename_i hc
     simp only[Bool.and_eq_true] at hc
     obtain⟨⟨c1,c2⟩,c3⟩:=hc
     have c1:=j9 c1
     have c2:=CK.sameL_eq _ _ c2
     have c3:=E.same_eq _ _ c3
     simp only[Option.some.injEq] at hx1
     subst hx1
     obtain⟨v2,xs,hO⟩:=e2.blk _ _ hm
     obtain⟨⟨a,m,c,rfl⟩,e5⟩:=hden
     have hvv:=hO.now
     rw[←c3,e5] at hvv
     simp only[Option.some.injEq] at hvv
     subst hvv
     have hrow:=hO.row
     have hrows:=hO.reps
     have hbig:=hO.big
     rw[hw,←c1,←c2] at hrow
     rw[hw,←c2] at hrows
     rw[hx2] at hrow hrows hbig
     have hm:m=(l.rows ds).length:=by
      rcases hrow with ⟨_,h2⟩ | ⟨h2,_,b,h3⟩
      ·rcases h2 with ⟨h2,h3⟩ | ⟨g,cap,cur,h2,_⟩
       ·simp only[Value.slice.injEq] at h2;omega
       ·simp only[Value.slice.injEq] at h2
        exact h2.2.1
      ·simp only[Value.slice.injEq] at h3;omega
     have hown:∀k,k9 (.slice a m c)=some k→σ'.own id k:=fun k hk=> .inr ⟨_,_,e5,hk⟩
     refine⟨⟨xs,hrow,⟨?_,hrows⟩,hbig,⟨a,c,by rw[hm]⟩,fun k hk=> ?_⟩,fun k hk=>⟨id,ver,hsk' _ _ rfl,hown k hk⟩⟩
     ·rcases hrow with h | ⟨h3,h4,_⟩
      ·exact h.1
      ·rw[h3,h4];simp
     ·rcases e2.new id k (hown k hk) with h | h
      ·exact absurd h (m5 _ _)
      ·exact h
    ·cases hx1
   ·cases hx1
  ·simp only[Option.some.injEq] at hx1
   subst hx1
   obtain rfl:v'= .slice none 0 0:=hden
   have h3:[]=l.rows ds:=by rw[←hx2];simp [X.ev]
   refine⟨⟨[],?_,?_,?_,⟨none,0,?_⟩,fun k hk=>by simp [k9] at hk⟩,fun k hk=>by simp [k9] at hk⟩
   ·rw[←h3];exact .inl (World.ownsRow_nil _ _ _ _)
   ·rw[←h3];exact RowsAt.nil _ _
   ·rw[←h3];simp
   ·rw[←h3];rfl
  ·cases hx1
 refine⟨vs,u,rfl,hres,hb,hl,fun k l v hk hv=>(key k l v hk hv).1,fun i j vi vj a hi hj ha hb'=> ?_⟩
 have hi':i<[l0].length:=by rw[←hl];exact(List.getElem?_eq_some_iff.1 hi).1
 have hj':j<[l0].length:=by rw[←hl];exact(List.getElem?_eq_some_iff.1 hj).1
 obtain⟨id,ver,p1,p2⟩:=(key i _ vi (List.getElem?_eq_getElem hi') hi).2 a ha
 obtain⟨id',ver',p3,p4⟩:=(key j _ vj (List.getElem?_eq_getElem hj') hj).2 a hb'
 obtain rfl:=hinj _ _ _ p2 p4
 exact h2.apart _ _ _ _ _ p1 p3
structure OwnL (w0 W:World) (t:TypeId) (ks:List CK) (v:Value) (r:Rows) (xs:List Value):Prop where
 row:OwnRow W w0.heap.size t ks.length v r.length xs
 reps:∀(i:Nat) (row:List D),r[i]? = some row→CK.reps w0 ks ((xs.drop (i*ks.length)).take ks.length) row
 big:r.length≤281474976710656
structure ButRow (W:World) (v:Value) (W':World):Prop where
 os:W'.os=W.os
 tape:W'.tape=W.tape
 output:W'.output=W.output
 size:W.heap.size≤W'.heap.size
 block:∀k,k<W.heap.size→k9 v≠some k→W'.heap[k]? = W.heap[k]?
 keep:Keep W W'
def b4P(P:Program)(f:FuncId)(t:TypeId)(ks:List CK)(sh:List Sh)(l:NL)(ok:List D→Prop):Prop:=
 ∀(w0 W:World) (v:Value) (r:Rows) (xs:List Value) (vals:List Value) (ds:List D),Below w0.heap.size w0 W→OwnL w0 W t ks v r xs→A4 w0 sh vals ds→ok (.l r::ds)→
  Calls P f (v::vals).toArray W (fun en W'=>∃u,en= .returned u∧ButRow W v W'∧b2g w0 W W' (.l r::ds) l u)
theorem c4g(I:Interp)(hmix:P.follows .mixedOrders=true)(hct:∀ρ,ρ.has I→CtOk P ρ ct)(hce:ct.all (fun p=>N8 P p.1)=true){n:Nat}{f:FuncId}{t:TypeId}{ks:List CK}{sh:List Sh}{tr:TT j6}
 (he:T.norm 0 (call P ct lt n f ((.v (.one (.z (.own 0 (.lit 0)))))::i6 1 sh) [(0,.own t ks (.var 0) (.lit 0))] 1) TT.ret=tr) (hlow:tr.low 1000=true) (hsh:1+a0Z sh≤1000) {l:NL} {ok:List D→Prop}
 (hs:∀w0 r vals ds,r.length≤281474976710656→(∀row∈r,∃us,CK.reps w0 ks us row)→A4 w0 sh vals ds→ok (.l r::ds)→tr.sat (f0 I w0 (.l r::ds)) (b4c l (.l r::ds) w0) (fun _ _=>False)):b4P P f t ks sh l ok:=by
 intro w0 W v r xs vals ds hbase hO hrep hok
 have own0:∀ {i k},(As.none.say 0 0 v).own i k→i=0∧k9 v=some k:=fun h=>by
  rcases a1Z h with h | h
  ·exact absurd h (m5 _ _)
  ·exact h
 have hv:∃a m c,v= .slice a m c:=by
  rcases hO.row with h | ⟨_,_,b,h⟩
  ·rcases h with ⟨_,h2⟩
   rcases h2 with ⟨h2,_⟩ | ⟨g,cap,cur,h2,_⟩
   ·exact⟨_,_,_,h2⟩
   ·exact⟨_,_,_,h2⟩
  ·exact⟨_,_,_,h⟩
 obtain⟨ρ',q,h1,⟨s,x,hx1,hx2,h0,h4⟩,_,h5⟩:=O5 (lt:=lt) hmix (fun ρ' ha=>hct ρ' ⟨ha.fi.symm,ha.fb.symm,ha.fd.symm⟩) (L4 hce) he hlow (hs w0 r vals ds hO.big (fun row hrow=>by
  obtain⟨i,hi,rfl⟩:=List.getElem_of_mem hrow
  exact⟨_,hO.reps i _ (List.getElem?_eq_getElem hi)⟩) hrep hok) (σ:=As.none.say 0 0 v) (W:=W) (vals:=v::vals)
  (fun ρ' ha=>by
   have hw:ρ'.w=w0:=by rw[←ha.w];rfl
   have hd0:ρ'.d 0=r:=by rw[←ha.d 0 (by omega)];rfl
   refine⟨fun id b h=> ?_,fun i j a h g=>by rw[(own0 h).1,(own0 g).1],fun i a h=>(hO.row.lt (own0 h).2).2,fun i a h=>by rw[hw];exact(hO.row.lt (own0 h).2).1,by rw[hw];exact hbase⟩
   simp only[Mem.get] at h
   split at h
   ·rename_i e
    obtain rfl:0=id:=by simpa using e
    obtain rfl:=Option.some.inj h
    exact⟨v,xs,As.say_self,fun u hu=>by rw[As.say_other (fun e=>by have:u=0:=e.2;have:(0:Int)<u:=hu;omega)];rfl,by rw[hw];show OwnRow _ _ _ _ _ (ρ'.d 0).length _;rw[hd0];exact hO.row,fun i row hi=>by rw[hw];exact hO.reps i row (by rw[←hd0];exact hi),by show(ρ'.d 0).length≤_;rw[hd0];exact hO.big⟩
   ·cases h)
  (fun k hk hh=>by
   rcases F7 hh with h | h
   ·exact T4 _ h
   ·omega)
  (fun ρ' ha=>⟨⟨hv,As.say_self⟩,M2 ha sh 1 vals [.l r] ds rfl rfl (by omega) hrep⟩)
 refine(callsIn_wide (n:=0)).1 ?_
 have h':CallsIn Fence.wide 0 P f (v::vals).toArray W (J1 ρ' (As.none.say 0 0 v) W 1 q):=h5
 have hw:ρ'.w=w0:=by rw[←h1.w];rfl
 refine CallsIn.mono h' ?_
 rintro en W' ⟨u,σ',rfl,e1,e2,e3⟩
 have hden:=h4 σ' u hw e1
 have hb:ButRow W v W':=⟨e2.os,e2.tape,e2.output,e2.size,fun k hk hne=>e2.frame k hk (fun i b hi e=>hne (own0 e).2),e2.keep⟩
 refine⟨u,rfl,hb,?_⟩
 unfold U2 at hx1
 split at hx1
 ·rename_i id ver
  split at hx1
  ·rename_i e' ks' x' ver' hm
   split at hx1
   ·rename_i hc
    simp only[Bool.and_eq_true] at hc
    obtain⟨⟨c1,c2⟩,c3⟩:=hc
    have c1:=j9 c1
    have c2:=CK.sameL_eq _ _ c2
    have c3:=E.same_eq _ _ c3
    simp only[Option.some.injEq] at hx1
    subst hx1
    obtain⟨v2,ys,hR⟩:=e2.blk _ _ hm
    obtain⟨⟨a,m,c,rfl⟩,e5⟩:=hden
    have hvv:=hR.now
    rw[←c3,e5] at hvv
    simp only[Option.some.injEq] at hvv
    subst hvv
    have hrow:=hR.row
    have hrows:=hR.reps
    have hbig:=hR.big
    rw[hw,←c1,←c2] at hrow
    rw[hw,←c2] at hrows
    rw[hx2] at hrow hrows hbig
    have hm':m=(l.rows (.l r::ds)).length:=by
     rcases hrow with ⟨_,h2⟩ | ⟨h2,_,b,h3⟩
     ·rcases h2 with ⟨h2,h3⟩ | ⟨g,cap,cur,h2,_⟩
      ·simp only[Value.slice.injEq] at h2;omega
      ·simp only[Value.slice.injEq] at h2
       exact h2.2.1
     ·simp only[Value.slice.injEq] at h3;omega
    refine⟨ys,hrow,⟨?_,hrows⟩,hbig,⟨a,c,by rw[hm']⟩,fun k hk=> ?_⟩
    ·rcases hrow with h | ⟨h3,h4,_⟩
     ·exact h.1
     ·rw[h3,h4];simp
    ·rcases e2.new id k (.inr ⟨_,_,e5,hk⟩) with h | h
     ·have hi:=(own0 h).1
      subst hi
      exact absurd rfl (h0 ver)
     ·exact h
   ·cases hx1
  ·cases hx1
 ·simp only[Option.some.injEq] at hx1
  subst hx1
  obtain rfl:u= .slice none 0 0:=hden
  have h3:[]=l.rows (.l r::ds):=by rw[←hx2];simp [X.ev]
  refine⟨[],?_,?_,?_,⟨none,0,?_⟩,fun k hk=>by simp [k9] at hk⟩
  ·rw[←h3];exact .inl (World.ownsRow_nil _ _ _ _)
  ·rw[←h3];exact RowsAt.nil _ _
  ·rw[←h3];simp
  ·rw[←h3];rfl
 ·cases hx1
end
section
variable {P:Program} {ρ:Env}
def c0T(t:TypeId)(ks:List CK)(sh0:Sh)(sh:List Sh)(l:NL)(obs:AL→List Ob)(args:List V)(mem:Mem)(nx:Nat):T j6:=match args with
 | .v (.one (.z (.own id ver)))::r=>match mem.get id with
   | some (.own t' ks' x v)=>if E.same ver v&&Nat.beq t' t&&CK.sameL ks' ks then(match Y0 sh r with
     | some al=> .obs (obs (.x x al)) (.ret (.s0 (.own id (.plusS ver (.lit 1))),[(id,.own l.e l.ks (.fn l.s (.x x al)) (.plusS ver (.lit 1)))],nx))
     | none=> .stuck "add: data") else .stuck "add: kinds"
   | _=> .stuck "add: from"
 | _=>match Y0 (sh0::sh) args with
   | some al=>ctN [l] (obs al) (.s0 (.own nx (.lit 0))) al nx
   | none=> .stuck "add"
theorem c8P{f:FuncId}{t:TypeId}{ks:List CK}{sh0:Sh}{sh:List Sh}{l:NL}{ok:List D→Prop}(hN:B9 P f (sh0::sh) [l] ok (fun _ _ vs u=>∃v,vs=[v]∧u=v))(hR:b4P P f t ks sh l ok){obs:AL→List Ob}
 (hobs:∀al,(∀o∈obs al,o.ok ρ)→ok (al.ev ρ)) (hs:∀a,ρ.fd l.s a=l.rows a):i9 P ρ f (c0T t ks sh0 sh l obs):=by
 intro args mem nx q hq hle σ W vals hr hfr hd
 unfold c0T at hq
 split at hq
 ·rename_i id ver rest
  split at hq
  ·rename_i t' ks' x v hm
   split at hq
   ·rename_i hcond
    simp only[Bool.and_eq_true] at hcond
    obtain⟨⟨hv,ht⟩,hk⟩:=hcond
    obtain rfl:=E.same_eq _ _ hv
    obtain rfl:=j9 ht
    obtain rfl:=CK.sameL_eq _ _ hk
    split at hq
    ·rename_i al ha
     obtain⟨ho,hq⟩:=T.res_obs hq
     obtain rfl:=g7 hq
     obtain⟨u1,us,rfl,d1,d2⟩:=DL.cons_inv hd
     obtain⟨_,hd1⟩:=d1
     obtain⟨ov,oxs,hO⟩:=hr.blk _ _ hm
     have hvv:=hO.now
     rw[hd1] at hvv
     obtain rfl:=Option.some.inj hvv
     have hc:=hR ρ.w W u1 (x.ev ρ) oxs us (al.ev ρ) hr.base ⟨hO.row,hO.reps,hO.big⟩ (a8w sh _ al ha us d2) (hobs _ ho)
     have hw:CallsIn Fence.wide 0 P f (u1::us).toArray W _:=callsIn_wide.2 hc
     refine CallsIn.mono (F:=FR none) hw ?_
     rintro en W' ⟨u,rfl,hb,xs,h1,h2,h3,⟨a,c,rfl⟩,h5⟩
     have hx:(X.fn l.s (.x x al)).ev ρ=l.rows (.l (x.ev ρ)::al.ev ρ):=by simp only[X.ev,AL.ev];exact hs _
     have hver:(E.plusS ver (.lit 1)).ev ρ=ver.ev ρ+1:=by rw[E.plusS_ev];rfl
     have hstep:=G4 (ρ:=ρ) (σ:=σ) (W:=W) (id:=id) (t:=l.e) (ks:=l.ks) (x:= .fn l.s (.x x al)) (ver:= .plusS ver (.lit 1)) (v:=u1) (W':=W') (xs:=xs) (fun i a hi=>hr.lt i a hi) (by rw[hver];exact hO.last _ (by omega)) (fun u hu=>hO.last u (by rw[hver] at hu;omega)) hr.inj (fun k hk=> .inr ⟨_,_,hd1,hk⟩)
      (by
       rw[hx]
       exact⟨h1,hb.os,hb.tape,hb.output,hb.size,hb.block,fun k hk=> .inr (h5 k hk),hb.keep,a,c,rfl⟩)
      (by rw[hx];exact h2.2) (by rw[hx];exact h3)
     refine⟨_,_,rfl,⟨⟨a,_,c,rfl⟩,As.say_self⟩,hstep,fun j hj=> ?_⟩
     rcases F7 hj with h | h
     ·exact .inl h
     ·subst h;exact .inl (.inr ⟨_,_,hd1⟩)
    ·exact hq.elim
   ·exact hq.elim
  ·exact hq.elim
 ·split at hq
  ·rename_i al ha
   refine a9O hN ha (hobs al) (fun l' hl a=> ?_) hq (fun σ' vs u hv hl hres=> ?_) hr hfr hd
   ·obtain rfl:=List.mem_singleton.1 hl
    exact hs a
   ·obtain⟨v,rfl,rfl⟩:=hres
    obtain⟨a1,a2,a3,a4,a5⟩:=hv 0 u rfl
    exact⟨⟨a2,a3,a4,a5⟩,a1⟩
  ·exact hq.elim
end
end Go.Proofs.YtldbejmgalhdaaaGreat
