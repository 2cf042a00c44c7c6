/- LMod, merged: TVs, Vs. -/
import Derived.Test.YtldbejmgalhdaaaGreatHJ
import Derived.Test.YtldbejmgalhdaaaGreatLCla
set_option linter.unusedSimpArgs false
set_option linter.unusedVariables false
namespace Go.Proofs.YtldbejmgalhdaaaGreat
open Go.RowKit
theorem c0n(s F:Rows):mdR [.l s,.l F]=if q9 s F=true then mdS s F else []:=rfl
def L3(a b:List D):Bool:=a0m (cI a 0) (cI a 1) (cI a 2) (cI a 3) (cI a 4) (cR a 5) (cI a 6) (cI a 7) (cR a 8) (cI b 0) (cI b 1) (cI b 2) (cI b 3) (cI b 4) (cR b 5) (cI b 6) (cI b 7) (cR b 8)
theorem b0D(a1 a2 a3 a4 a5:Int)(a6:Rows)(a7 a8:Int)(a9:Rows)(b1 b2 b3 b4 b5:Int)(b6:Rows)(b7 b8:Int)(b9:Rows):sameL [.i a1,.i a2,.i a3,.i a4,.i a5,.l a6,.i a7,.i a8,.l a9,.i b1,.i b2,.i b3,.i b4,.i b5,.l b6,.i b7,.i b8,.l b9]=a0m a1 a2 a3 a4 a5 a6 a7 a8 a9 b1 b2 b3 b4 b5 b6 b7 b8 b9:=rfl
theorem a9J(a:List D):L3 a a=true:=by
 unfold L3 a0m
 rw[b1h.2 ⟨rfl,fun _ _ _ _=>rfl⟩,b1h.2 ⟨rfl,fun _ _ _ _=>rfl⟩,decide_eq_true (by simp)]
 rfl
theorem d2S{s F:Rows}{g:List D}:g∈mdS s F↔g∈F∨∃x∈j5 s,H6 x=g:=by
 unfold mdS
 rw[b4V,List.mem_map]
theorem d2e{s F:Rows}(hv:q9 s F=true):o5 (mdS s F):=by
 obtain⟨⟨f1,f2⟩,f3,f4,f5⟩:=z7.1 hv
 refine a8g _ F (P4.1 f1).2.1 (a3n f4) (fun a ha b hb=> ?_)
 obtain⟨x,hx,rfl⟩:=List.mem_map.1 hb
 exact f5 x (a3H.1 hx).1 a ha
theorem d7Q(W:World)(ds l:List D):(f0 t6 W ds).fd 2 l=mdR l:=by simp only[f0,t6]
end Go.Proofs.YtldbejmgalhdaaaGreat
