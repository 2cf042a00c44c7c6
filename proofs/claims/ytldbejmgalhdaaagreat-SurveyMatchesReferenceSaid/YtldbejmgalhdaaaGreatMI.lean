/- MI, merged: TDa, Da, Db0, TDb, Db. -/
import Derived.Test.YtldbejmgalhdaaaGreatMG
set_option linter.unusedSimpArgs false
set_option linter.unusedVariables false
namespace Go.Proofs.YtldbejmgalhdaaaGreat
open Go.RowKit
def c8A(r:Rows):Nat→Nat→Int→Int→Int
 | 0,_,x,_=>x
 | f+1,i,x,y=>if a1t (lg r i 0) (lg r i 1) x y<0 then c8A r f (i+1) (lg r i 0) (lg r i 1) else c8A r f (i+1) x y
def c8E(r:Rows):Nat→Nat→Int→Int→Int
 | 0,_,x,_=>x
 | f+1,i,x,y=>if 0<a1t (lg r i 0) (lg r i 1) x y then c8E r f (i+1) (lg r i 0) (lg r i 1) else c8E r f (i+1) x y
def c7G(r:Rows):Nat→Nat→Int→Int
 | 0,_,y=>y
 | f+1,i,y=>if lg r i 1<y then c7G r f (i+1) (lg r i 1) else c7G r f (i+1) y
def c7T(r:Rows):Nat→Nat→Int→Int
 | 0,_,y=>y
 | f+1,i,y=>if y<lg r i 1 then c7T r f (i+1) (lg r i 1) else c7T r f (i+1) y
def pbA(ds:List D):Int:=if n7 (d9 ds 0) then c8A (d9 ds 0) ((d9 ds 0).length-1) 1 (lg (d9 ds 0) 0 0) (lg (d9 ds 0) 0 1) else 0
def pbB(ds:List D):Int:=if n7 (d9 ds 0) then c8E (d9 ds 0) ((d9 ds 0).length-1) 1 (lg (d9 ds 0) 0 0) (lg (d9 ds 0) 0 1) else 0
def pbC(ds:List D):Int:=if n7 (d9 ds 0) then c7G (d9 ds 0) ((d9 ds 0).length-1) 1 (lg (d9 ds 0) 0 1) else 0
def pbD(ds:List D):Int:=if n7 (d9 ds 0) then c7T (d9 ds 0) ((d9 ds 0).length-1) 1 (lg (d9 ds 0) 0 1) else 0
def pbE(ds:List D):Int:=if n7 (d9 ds 0) then 0 else 1
def KH:Interp where
 fi n l:=match n with | 80=>pbA l | 81=>pbB l | 82=>pbC l | 83=>pbD l | 84=>pbE l | n=>KG.fi n l
 fb n l:=KG.fb n l
 fd _ _:=[]
theorem c1M{ρ:Env}(h:Sees ρ KH 85):Sees ρ KG 80:=h.trans (by decide) fun n l hn=>by
 refine⟨?_,?_⟩
 ·
  simp only[KH]
  split<;>first | omega | rfl
 ·
  rfl
def d4p:Ct:=ctF
theorem d2C{ρ:Env}(h:Sees ρ KH 85):CtOk Tryz.prog ρ d4p:=(c4M (d7F (c1M h)))
def c2V(kind x rad p:Int)(s:Int):Int:=if kind=4 then x else if kind=3∨kind=6 then p else x+s*rad
def fbA(ds:List D):Int:=if G2 ds then c2V (c9 ds 1) (c9 ds 2) (c9 ds 4) (pbA [.l (d9 ds 5)]) (-1) else 0
def fbB(ds:List D):Int:=if G2 ds then c2V (c9 ds 1) (c9 ds 2) (c9 ds 4) (pbB [.l (d9 ds 5)]) 1 else 0
def fbC(ds:List D):Int:=if G2 ds then c2V (c9 ds 1) (c9 ds 3) (c9 ds 4) (pbC [.l (d9 ds 5)]) (-1) else 0
def fbD(ds:List D):Int:=if G2 ds then c2V (c9 ds 1) (c9 ds 3) (c9 ds 4) (pbD [.l (d9 ds 5)]) 1 else 0
def fbE(ds:List D):Int:=if G2 ds then 0 else 1
def KI:Interp where
 fi n l:=match n with | 85=>fbA l | 86=>fbB l | 87=>fbC l | 88=>fbD l | 89=>fbE l | n=>KH.fi n l
 fb n l:=KH.fb n l
 fd _ _:=[]
theorem c2a{ρ:Env}(h:Sees ρ KI 90):Sees ρ KH 85:=h.trans (by decide) fun n l hn=>by
 refine⟨?_,?_⟩
 ·
  simp only[KI]
  split<;>first | omega | rfl
 ·
  rfl
end Go.Proofs.YtldbejmgalhdaaaGreat
