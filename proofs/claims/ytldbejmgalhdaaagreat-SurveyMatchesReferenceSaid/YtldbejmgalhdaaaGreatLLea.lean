/- LLea, merged: TVq, Vu. -/
import Derived.Test.YtldbejmgalhdaaaGreatHJ
import Derived.Test.YtldbejmgalhdaaaGreatLMod
set_option linter.unusedSimpArgs false
set_option linter.unusedVariables false
namespace Go.Proofs.YtldbejmgalhdaaaGreat
open Go.RowKit
def a7U:TT j6:=
(.ite (.cmp .neq (.fn 160 (.x (.var 0) (.x (.var 1) .nil))) (.lit 0))
 (.ret ((.tup [(.one (.z (.int .i64 (.lit 0)))),(.one (.z (.int .i64 (.fn 160 (.x (.var 0) (.x (.var 1) .nil))))))]),[],3))
 (.ret ((.tup [(.one (.z (.int .i64 (.fn 132 (.x (.fn 2 (.x (.var 0) (.x (.var 1) .nil))) (.i (.var 2) (.i (.var 3) .nil))))))),(.one (.z (.int .i64 (.fn 133 (.x (.fn 2 (.x (.var 0) (.x (.var 1) .nil))) (.i (.var 2) (.i (.var 3) .nil)))))))]),[],3)))
set_option maxRecDepth 100000 in
theorem b8d:T.norm 0 (call Tryz.prog c8S (Lt.of []) 150 21 (i6 0 [o0,pt]) [] 0) TT.ret=a7U:=by kernel_rfl
theorem b5M:a7U.low 1000=true:=by kernel_rfl
def a5u(ds:List D):Int:=if I6 ds=true then C9 [.l (mdS (d9 ds 0) (d9 ds 1)),.i (c9 ds 2),.i (c9 ds 3)] else 0
def a6w(ds:List D):Int:=if I6 ds=true then C8 [.l (mdS (d9 ds 0) (d9 ds 1)),.i (c9 ds 2),.i (c9 ds 3)] else 1
theorem d2G(W:World)(ds l:List D):(f0 t6 W ds).fi 132 l=C9 l:=by simp only[f0,t6,p9,v8,t7,I4]
theorem d2b(W:World)(ds l:List D):(f0 t6 W ds).fi 133 l=C8 l:=by simp only[f0,t6,p9,v8,t7,I4]
theorem d1Q:k8 Tryz.prog 21 [o0,pt] (fun ds=> .tuple #[.int .i64 (a5u ds),.int .i64 (a6w ds)]):=by
 refine GivesIf.all (i7 t6 (by kernel_rfl) (fun ρ h=>b8U (Sees.of h 180) (SeesD.of h 4)) (by kernel_rfl) b8d b5M (by decide) (fun W vals ds hr _=> ?_))
 have hR:a5u ds=if q9 (d9 ds 0) (d9 ds 1)=true then C9 [.l (mdS (d9 ds 0) (d9 ds 1)),.i (c9 ds 2),.i (c9 ds 3)] else 0:=rfl
 have hE:a6w ds=if q9 (d9 ds 0) (d9 ds 1)=true then C8 [.l (mdS (d9 ds 0) (d9 ds 1)),.i (c9 ds 2),.i (c9 ds 3)] else 1:=rfl
 simp only[a7U,g8,Nat.reduceBEq,Nat.reduceLT,Nat.reduceSub,d1D,d7Q,c0G,c0n,d2G,d2b]
 rw[hR,hE]
 cases q:q9 (d9 ds 0) (d9 ds 1)
 ·exact⟨fun _=>rfl,fun h=>absurd (show(1:Int)≠0 by decide) h⟩
 ·exact⟨fun h=>absurd rfl h,fun _=>rfl⟩
def B1:Interp where
 fi n l:=match n with | 180=>a5u l | 181=>a6w l | n=>t6.fi n l
 fb n l:=t6.fb n l
 fd n l:=t6.fd n l
theorem b4m{ρ:Env}(h:SeesD ρ B1 4):SeesD ρ t6 4:=fun n l hn=>by
 rw[h n l (by omega)]
 rfl
theorem a6R{ρ:Env}(h:Sees ρ B1 190):Sees ρ t6 180:=h.trans (by decide) fun n l hn=>by
 refine⟨?_,?_⟩
 ·
  simp only[B1]
  split<;>first | omega | rfl
 ·
  rfl
def a2d:=o7 [o0,pt] fun al=> .ret (.tup [.one (w6 180 a5u al),.one (w6 181 a6w al)])
theorem a8L{ρ:Env}(h:Sees ρ B1 190):i9 Tryz.prog ρ 21 a2d:=
 k5 d1Q (fun _=>rfl) (fun al=>by simp only[V.val,V2.val,S.val,S0.val,w6,G8,List.map_cons,List.map_nil,o6 (s:=180) (f:=a5u) (fun l=>by rw[(h 180 l (by decide)).1];simp only[B1]),o6 (s:=181) (f:=a6w) (fun l=>by rw[(h 181 l (by decide)).1];simp only[B1])];try rfl)
def b5c:Ct:=(21,a2d)::c8S
theorem a6J{ρ:Env}(h:Sees ρ B1 190)(hd:SeesD ρ B1 4):CtOk Tryz.prog ρ b5c:= .cons (a8L h)<|b8U (a6R h) (b4m hd)
end Go.Proofs.YtldbejmgalhdaaaGreat
