/- HF, merged: Vi, Vh. -/
import Derived.Test.YtldbejmgalhdaaaGreatMD
import Derived.Test.YtldbejmgalhdaaaGreatHA
import Derived.Test.YtldbejmgalhdaaaGreatHE
import Derived.Test.YtldbejmgalhdaaaGreatHB
import Derived.Test.YtldbejmgalhdaaaGreatHC
import Derived.Test.YtldbejmgalhdaaaGreatHD
set_option linter.unusedSimpArgs false
set_option linter.unusedVariables false
namespace Go.Proofs.YtldbejmgalhdaaaGreat
open Go.RowKit
def b2d(ds:List D):Rows:=j5 (d9 ds 0)
def v8:Interp where
 fi n l:=t7.fi n l
 fb n l:=match n with | 150=>I6 l | n=>t7.fb n l
 fd n l:=match n with | 0=>b2d l | n=>t7.fd n l
theorem b1i{ρ:Env}(h:Sees ρ v8 160):Sees ρ t7 150:=h.trans (by decide) fun n l hn=>by
 refine⟨?_,?_⟩
 ·
  rfl
 ·
  simp only[v8]
  split<;>first | omega | rfl
def c1n:=o7 [o0] fun al=> .ret (bV (bF 150 I6 al))
theorem b4x{ρ:Env}(h:Sees ρ v8 160):i9 Tryz.prog ρ 13 c1n:=
 k5 d6H (fun _=>rfl) (fun al=>by simp only[iV,bV,V.s0,V.val,V2.val,S.val,S0.val,k7 (s:=150) (f:=I6) (fun l=>by rw[(h 150 l (by decide)).2];simp only[v8])];try rfl)
def c4T(al:AL):List Ob:=match al with
 | .x s _=>[a1Q s]
 | _=>[.tru (.lit false)]
def c1h:=a9r [o0] a0Y c4T
theorem b4r{ρ:Env}(h:SeesD ρ v8 1):i9 Tryz.prog ρ 46 c1h:=by
 refine a7H d6m (by decide) (fun al ho=> ?_) (fun a=> ?_)
 ·unfold c4T at ho
  split at ho
  ·exact a0x (ho _ (List.mem_singleton.2 rfl))
  ·have:=ho _ (List.mem_singleton.2 rfl)
   simp [Ob.ok,B.ev] at this
 ·show ρ.fd 0 a=j5 (d9 a 0)
  rw[h 0 _ (by decide)];simp only[v8];rfl
theorem X3(I:Interp){P:Program}{ct:Ct}{lt:Lt}(hmix:P.follows .mixedOrders=true)(hct:∀ρ,CtOk P ρ ct)(hce:ct.all (fun p=>N8 P p.1)=true){n:Nat}{f:FuncId}{args:List V}{tr:TT j6}(he:T.norm 0 (call P ct lt n f args [] 0) TT.ret=tr)
 (hlow:tr.low 1000=true) {vals:List Value} (ha:∀ρ:Env,DL (V.den ρ As.none) args vals) {g:Value} (hs:∀ρ:Env,tr.sat ρ (fun ρ q=>q.1.plain=true∧q.1.val ρ=g) (fun _ _=>False)) (W:World):
 Calls P f vals.toArray W (fun e W'=>e= .returned g∧Below W.heap.size W W'):=by
 obtain⟨ρ',q,h1,⟨h2,h3⟩,_,h5⟩:=O5 (lt:=lt) hmix (fun ρ' _=>hct ρ') (L4 hce) he hlow (hs (f0 I W [])) (σ:=As.none) (W:=W) (vals:=vals)
  (fun ρ' ha=>⟨fun id b h=>by simp [Mem.get] at h,fun i j a h=>absurd h (m5 _ _),fun i a h=>absurd h (m5 _ _),fun i a h=>absurd h (m5 _ _),by rw[←ha.w];exact Below.refl _ _⟩) (fun k _=>T4 k) (fun ρ' _=>ha ρ')
 refine(callsIn_wide (n:=0)).1 ?_
 have h':CallsIn Fence.wide 0 P f vals.toArray W (J1 ρ' As.none W 0 q):=h5
 refine CallsIn.mono h' ?_
 rintro e W' ⟨u,σ',rfl,e1,e2,e3⟩
 refine⟨by rw[V.den_val h2 e1,h3],?_⟩
 exact⟨e2.os,e2.tape,e2.output,e2.size,fun k hk=>e2.frame k hk (fun i b _ e=>m5 _ _ e)⟩
def i3:List Sh:=[.one (.int .i64),.one (.int .i64),.one (.int .i64)]
theorem c0k{W:World}{vals:List Value}{a b c:Int}(h:A4 W i3 vals [.i a,.i b,.i c]):vals=[.int .i64 a,.int .i64 b,.int .i64 c]:=by
 obtain⟨v1,w1,d1,e1,rfl,h1,⟨x1,rfl,n1,rfl,rfl⟩,v2,w2,d2,e2,rfl,h2,⟨x2,rfl,n2,rfl,rfl⟩,v3,w3,d3,e3,rfl,h3,⟨x3,rfl,n3,rfl,rfl⟩,rfl,rfl⟩:=h
 subst h3
 subst h2
 simp only[List.cons_append,List.nil_append,List.cons.injEq,D.i.injEq,and_true] at h1
 obtain⟨rfl,rfl,rfl⟩:=h1
 rfl
def leB(a b c:Int):Bool:=decide (a=1∧b=2∧c=10)||decide (a=0∧b=(-5)∧c=25)||decide (a=12∧b=1∧c=40)||decide (a=30∧b=0∧c=100000)
def alB(a b c:Int):Bool:=decide (a=0∧b=(-5)∧c=25)||decide (a=0∧b=(-5)∧c=29)||decide (a=0∧b=(-5)∧c=24)||decide (a=9∧b=0∧c=25)||decide (a=9∧b=0∧c=40)||decide (a=30∧b=0∧c=0)
def alT(a b c:Int):Bool:=decide (a=0∧b=(-5)∧c=25)||decide (a=30∧b=0∧c=0)
def d8O(ds:List D):Prop:=∃a b c,ds=[.i a,.i b,.i c]∧leB a b c=true
def d8w(ds:List D):Prop:=∃a b c,ds=[.i a,.i b,.i c]∧alB a b c=true
def alG(ds:List D):Bool:=match ds with | [.i a,.i b,.i c]=>alT a b c | _=>false
theorem d3E:GivesIf Tryz.prog 39 i3 d8O (fun _=> .bool true):=by
 rintro W vals ds hr ⟨a,b,c,rfl,hk⟩
 obtain rfl:=c0k hr
 simp only[leB,Bool.or_eq_true,decide_eq_true_eq] at hk
 rcases hk with ((⟨rfl,rfl,rfl⟩ | ⟨rfl,rfl,rfl⟩) | ⟨rfl,rfl,rfl⟩) | ⟨rfl,rfl,rfl⟩
 ·exact X3 (vals:=[.int .i64 1,.int .i64 2,.int .i64 10]) ⟨fun _ _=>0,fun _ _=>false,fun _ _=>[]⟩ (by kernel_rfl) (fun ρ=>Q7) (by kernel_rfl) c7z c6h (fun ρ=>⟨rfl,rfl,rfl,trivial⟩) (fun ρ=>by simp only[c1j,g8,Nat.reduceBEq,Nat.reduceLT,Nat.reduceSub]) W
 ·exact X3 (vals:=[.int .i64 0,.int .i64 (-5),.int .i64 25]) ⟨fun _ _=>0,fun _ _=>false,fun _ _=>[]⟩ (by kernel_rfl) (fun ρ=>Q7) (by kernel_rfl) c7s c4s (fun ρ=>⟨rfl,rfl,rfl,trivial⟩) (fun ρ=>by simp only[c2i,g8,Nat.reduceBEq,Nat.reduceLT,Nat.reduceSub]) W
 ·exact X3 (vals:=[.int .i64 12,.int .i64 1,.int .i64 40]) ⟨fun _ _=>0,fun _ _=>false,fun _ _=>[]⟩ (by kernel_rfl) (fun ρ=>Q7) (by kernel_rfl) c9j c7f (fun ρ=>⟨rfl,rfl,rfl,trivial⟩) (fun ρ=>by simp only[c3e,g8,Nat.reduceBEq,Nat.reduceLT,Nat.reduceSub]) W
 ·exact X3 (vals:=[.int .i64 30,.int .i64 0,.int .i64 100000]) ⟨fun _ _=>0,fun _ _=>false,fun _ _=>[]⟩ (by kernel_rfl) (fun ρ=>Q7) (by kernel_rfl) c9T c7c (fun ρ=>⟨rfl,rfl,rfl,trivial⟩) (fun ρ=>by simp only[c1g,g8,Nat.reduceBEq,Nat.reduceLT,Nat.reduceSub]) W
theorem c9h:GivesIf Tryz.prog 40 i3 d8w (fun ds=> .bool (alG ds)):=by
 rintro W vals ds hr ⟨a,b,c,rfl,hk⟩
 obtain rfl:=c0k hr
 simp only[alB,Bool.or_eq_true,decide_eq_true_eq] at hk
 rcases hk with ((((⟨rfl,rfl,rfl⟩ | ⟨rfl,rfl,rfl⟩) | ⟨rfl,rfl,rfl⟩) | ⟨rfl,rfl,rfl⟩) | ⟨rfl,rfl,rfl⟩) | ⟨rfl,rfl,rfl⟩
 ·exact X3 (vals:=[.int .i64 0,.int .i64 (-5),.int .i64 25]) ⟨fun _ _=>0,fun _ _=>false,fun _ _=>[]⟩ (by kernel_rfl) (fun ρ=>Q7) (by kernel_rfl) c8C c5M (fun ρ=>⟨rfl,rfl,rfl,trivial⟩) (fun ρ=>by simp only[c1D,g8,Nat.reduceBEq,Nat.reduceLT,Nat.reduceSub];simp [alG,alT]) W
 ·exact X3 (vals:=[.int .i64 0,.int .i64 (-5),.int .i64 29]) ⟨fun _ _=>0,fun _ _=>false,fun _ _=>[]⟩ (by kernel_rfl) (fun ρ=>Q7) (by kernel_rfl) c7J c5c (fun ρ=>⟨rfl,rfl,rfl,trivial⟩) (fun ρ=>by simp only[c2h,g8,Nat.reduceBEq,Nat.reduceLT,Nat.reduceSub];simp [alG,alT]) W
 ·exact X3 (vals:=[.int .i64 0,.int .i64 (-5),.int .i64 24]) ⟨fun _ _=>0,fun _ _=>false,fun _ _=>[]⟩ (by kernel_rfl) (fun ρ=>Q7) (by kernel_rfl) c8i c4y (fun ρ=>⟨rfl,rfl,rfl,trivial⟩) (fun ρ=>by simp only[c2f,g8,Nat.reduceBEq,Nat.reduceLT,Nat.reduceSub];simp [alG,alT]) W
 ·exact X3 (vals:=[.int .i64 9,.int .i64 0,.int .i64 25]) ⟨fun _ _=>0,fun _ _=>false,fun _ _=>[]⟩ (by kernel_rfl) (fun ρ=>Q7) (by kernel_rfl) c7Z c4F (fun ρ=>⟨rfl,rfl,rfl,trivial⟩) (fun ρ=>by simp only[c2L,g8,Nat.reduceBEq,Nat.reduceLT,Nat.reduceSub];simp [alG,alT]) W
 ·exact X3 (vals:=[.int .i64 9,.int .i64 0,.int .i64 40]) ⟨fun _ _=>0,fun _ _=>false,fun _ _=>[]⟩ (by kernel_rfl) (fun ρ=>Q7) (by kernel_rfl) c8a c7n (fun ρ=>⟨rfl,rfl,rfl,trivial⟩) (fun ρ=>by simp only[c2m,g8,Nat.reduceBEq,Nat.reduceLT,Nat.reduceSub];simp [alG,alT]) W
 ·exact X3 (vals:=[.int .i64 30,.int .i64 0,.int .i64 0]) ⟨fun _ _=>0,fun _ _=>false,fun _ _=>[]⟩ (by kernel_rfl) (fun ρ=>Q7) (by kernel_rfl) c9H c5f (fun ρ=>⟨rfl,rfl,rfl,trivial⟩) (fun ρ=>by simp only[c2p,g8,Nat.reduceBEq,Nat.reduceLT,Nat.reduceSub];simp [alG,alT]) W
def c2B(ok:Int→Int→Int→Bool)(g:Int→Int→Int→Bool)(al:AL):T V:=match al with
 | .i (.lit a) (.i (.lit b) (.i (.lit c) .nil))=>if ok a b c then .ret (bV (.lit (g a b c))) else .stuck "spelt out"
 | _=> .stuck "spelt out"
def c4j:=o7 i3 (c2B leB fun _ _ _=>true)
theorem c7j{ρ:Env}:i9 Tryz.prog ρ 39 c4j:=by
 refine A0 d3E (fun al v hv=> ?_)
 unfold c2B at hv
 split at hv
 ·split at hv
  ·rename_i a b c hk
   obtain rfl:=g7 hv
   exact⟨rfl,⟨a,b,c,rfl,hk⟩,rfl⟩
  ·exact hv.elim
 ·exact hv.elim
def b6W:=o7 i3 (c2B alB alT)
theorem b7H{ρ:Env}:i9 Tryz.prog ρ 40 b6W:=by
 refine A0 c9h (fun al v hv=> ?_)
 unfold c2B at hv
 split at hv
 ·split at hv
  ·rename_i a b c hk
   obtain rfl:=g7 hv
   exact⟨rfl,⟨a,b,c,rfl,hk⟩,rfl⟩
  ·exact hv.elim
 ·exact hv.elim
def d5P:Ct:=(39,c4j)::(40,b6W)::(13,c1n)::(46,c1h)::(90,a6Q)::(49,b0i)::(48,a5b)::(77,a2P)::b3T
theorem d1M{ρ:Env}(h:Sees ρ v8 160)(hd:SeesD ρ v8 1):CtOk Tryz.prog ρ d5P:= .cons c7j<| .cons b7H<| .cons (b4x h)<| .cons (b4r hd)<| .cons a4U<| .cons a6o<| .cons a3k<| .cons a2s (a7M (b0t (b1i h)))
end Go.Proofs.YtldbejmgalhdaaaGreat
