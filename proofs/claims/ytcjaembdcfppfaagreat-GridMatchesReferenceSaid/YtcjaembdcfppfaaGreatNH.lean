/- NH, merged: TH4, H4. -/
import Derived.Test.YtcjaembdcfppfaaGreatNP
set_option linter.unusedSimpArgs false
set_option linter.unusedVariables false
namespace Go.Proofs.YtcjaembdcfppfaaGreat
open Go.RowKit
set_option maxRecDepth 100000
def a7B:TT j4:=
(.ob (.tru (.lit true))
(.ob (.tru (.lit true))
(.ob (.tru (.lit true))
(.ob (.tru (.lit true))
(.ob (.tru (.lit true))
(.ob (.tru (.lit true))
(.ob (.tru (.lit true))
(.ob (.tru (.lit true))
(.ob (.tru (.lit true))
(.ob (.tru (.lit true))
(.ob (.tru (.lit true))
(.ob (.tru (.lit true))
(.ob (.tru (.lit true))
(.ob (.tru (.lit true))
(.ob (.tru (.lit true))
(.ob (.tru (.lit true))
(.ob (.tru (.lit true))
(.ob (.tru (.lit true))
(.ob (.tru (.lit true))
(.ob (.tru (.lit true))
(.ob (.tru (.lit true))
(.ob (.tru (.lit true))
(.ob (.tru (.lit true))
(.ob (.tru (.lit true))
(.ob (.tru (.lit true))
(.ob (.tru (.lit true))
(.ob (.tru (.lit true))
(.ob (.tru (.lit true))
(.ob (.tru (.lit true))
(.ob (.tru (.lit true))
(.ob (.tru (.lit true))
(.ob (.tru (.lit true))
(.ob (.tru (.lit true))
(.ob (.tru (.lit true))
(.ob (.tru (.lit true))
(.ob (.tru (.lit true))
(.ob (.tru (.lit true))
(.ob (.tru (.lit true))
(.ob (.tru (.lit true))
(.ob (.tru (.lit true))
(.ob (.tru (.lit true))
(.ob (.tru (.lit true))
(.ob (.tru (.lit true))
(.ob (.tru (.lit true))
(.ob (.tru (.lit true))
(.ob (.tru (.lit true))
(.ob (.tru (.lit true))
(.ob (.tru (.lit true))
(.ob (.tru (.lit true))
(.ob (.tru (.lit true))
(.ob (.tru (.lit true))
(.ob (.tru (.lit true))
(.ob (.tru (.lit true))
(.ob (.tru (.lit true))
(.ob (.tru (.lit true))
(.ob (.tru (.lit true))
(.ob (.tru (.lit true))
(.ob (.tru (.lit true))
(.ob (.tru (.lit true))
(.ob (.tru (.lit true))
(.ob (.tru (.lit true))
(.ob (.tru (.lit true))
(.ob (.tru (.lit true))
(.ret ((.v (.one (.z (.bool (.lit true))))),[],144)))))))))))))))))))))))))))))))))))))))))))))))))))))))))))))))))
set_option maxRecDepth 100000 in
theorem b4Y:T.norm 0 (call Tryz.prog c5F (Lt.of []) 200 6 [] [] 0) TT.ret=a7B:=by kernel_rfl
theorem b3p:a7B.low 1000=true:=by kernel_rfl
end Go.Proofs.YtcjaembdcfppfaaGreat
namespace Go.Proofs.YtcjaembdcfppfaaGreat
open Go.RowKit
set_option maxRecDepth 100000 in
theorem c8Z:m8 Tryz.prog 6 [] (fun _=> .bool true):=by
 refine GivesIf.all (i7 B4 (by kernel_rfl) (fun ρ h=>b7l (Sees.of h 170) (SeesD.of h 5)) (by kernel_rfl) b4Y b3p (by decide) (fun W vals ds hr _=> ?_))
 simp only[a7B,g9,Nat.reduceBEq,Nat.reduceLT,Nat.reduceSub]
def b7d:=u7 [] fun _=> .ret (bV (.lit true))
theorem b9O{ρ:Env}:i9 Tryz.prog ρ 6 b7d:=
 j7 c8Z (fun _=>rfl) (fun _=>rfl)
def d0s:Ct:=(6,b7d)::c5F
theorem c9r{ρ:Env}(h:Sees ρ B4 170)(hd:SeesD ρ B4 5):CtOk Tryz.prog ρ d0s:= .cons b9O (b7l h hd)
end Go.Proofs.YtcjaembdcfppfaaGreat
