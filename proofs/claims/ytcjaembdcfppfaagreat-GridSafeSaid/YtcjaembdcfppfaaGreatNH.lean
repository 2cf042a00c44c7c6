/- NH, merged: TH4, H4. -/
import Derived.Test.YtcjaembdcfppfaaGreatNP
set_option linter.unusedSimpArgs false
set_option linter.unusedVariables false
/- Chapter 11: the tree of the laws' head. -/
namespace Go.Proofs.YtcjaembdcfppfaaGreat
open Go.RowKit
set_option maxRecDepth 100000
-- term trHead11: call Tryz.prog ctGc (Lt.of []) 200 6 [] [] 0
def trHead11 : TT OpR :=
(.ob (.tru (.lit true))
(.ob (.tru (.lit true))
(.ob (.tru (.lit true))
(.ob (.tru (.lit true))
(.ob (.tru (.lit true))
(.ob (.tru (.lit true))
(.ob (.tru (.lit true))
(.ob (.tru (.lit true))
(.ob (.tru (.lit true))
(.ob (.tru (.lit true))
(.ob (.tru (.lit true))
(.ob (.tru (.lit true))
(.ob (.tru (.lit true))
(.ob (.tru (.lit true))
(.ob (.tru (.lit true))
(.ob (.tru (.lit true))
(.ob (.tru (.lit true))
(.ob (.tru (.lit true))
(.ob (.tru (.lit true))
(.ob (.tru (.lit true))
(.ob (.tru (.lit true))
(.ob (.tru (.lit true))
(.ob (.tru (.lit true))
(.ob (.tru (.lit true))
(.ob (.tru (.lit true))
(.ob (.tru (.lit true))
(.ob (.tru (.lit true))
(.ob (.tru (.lit true))
(.ob (.tru (.lit true))
(.ob (.tru (.lit true))
(.ob (.tru (.lit true))
(.ob (.tru (.lit true))
(.ob (.tru (.lit true))
(.ob (.tru (.lit true))
(.ob (.tru (.lit true))
(.ob (.tru (.lit true))
(.ob (.tru (.lit true))
(.ob (.tru (.lit true))
(.ob (.tru (.lit true))
(.ob (.tru (.lit true))
(.ob (.tru (.lit true))
(.ob (.tru (.lit true))
(.ob (.tru (.lit true))
(.ob (.tru (.lit true))
(.ob (.tru (.lit true))
(.ob (.tru (.lit true))
(.ob (.tru (.lit true))
(.ob (.tru (.lit true))
(.ob (.tru (.lit true))
(.ob (.tru (.lit true))
(.ob (.tru (.lit true))
(.ob (.tru (.lit true))
(.ob (.tru (.lit true))
(.ob (.tru (.lit true))
(.ob (.tru (.lit true))
(.ob (.tru (.lit true))
(.ob (.tru (.lit true))
(.ob (.tru (.lit true))
(.ob (.tru (.lit true))
(.ob (.tru (.lit true))
(.ob (.tru (.lit true))
(.ob (.tru (.lit true))
(.ob (.tru (.lit true))
(.ret ((.v (.one (.z (.bool (.lit true))))), [], 144)))))))))))))))))))))))))))))))))))))))))))))))))))))))))))))))))
-- end trHead11
set_option maxRecDepth 100000 in
theorem trHead11_is : T.norm 0 (call Tryz.prog ctGc (Lt.of []) 200 6 [] [] 0) TT.ret = trHead11 := by kernel_rfl
theorem trHead11_low : trHead11.low 1000 = true := by kernel_rfl
end Go.Proofs.YtcjaembdcfppfaaGreat
/- Chapter 11: the laws' head is true. -/
namespace Go.Proofs.YtcjaembdcfppfaaGreat
open Go.RowKit
set_option maxRecDepth 100000 in
theorem gHead11 : Gives Tryz.prog 6 [] (fun _ => .bool true) := by
  refine GivesIf.all (fn_gives KGc (by kernel_rfl) (fun ρ h => ctGc_ok (Sees.of h 170) (SeesD.of h 5)) (by kernel_rfl) trHead11_is trHead11_low (by decide) (fun W vals ds hr _ => ?_))
  simp only [trHead11, TT.sat_ret, TT.sat_ite, TT.sat_ob, TT.sat_next, TT.sat_stuck, put_i, put_b, put_d, put_fi, put_fb, put_fd, Ob.ok, B.ev, E.ev, X.ev, AL.ev, cmp_t, cmp_f, arEv, V.plain, V2.plain, S.plain, S0.plain, V.val, V2.val, S.val, S0.val, bV, iV, List.all_cons, List.all_nil, Bool.and_true, Bool.and_self, envOf_i, envOf_b, envOf_d, List.map_cons, List.map_nil, true_and, Bool.not_eq_true', Bool.not_eq_false', Bool.not_not, Bool.and_eq_true, and_f, cell_lg, cell_lb, cell_lr, cmpP, val_i, val_b, val_d, aget, Nat.reduceBEq, beq_self_eq_true, Bool.false_eq_true, if_true, if_false, Nat.reduceLT, Nat.reduceSub, Nat.sub_self, Nat.lt_irrefl]
def cHead11 := ctD [] fun _ => .ret (bV (.lit true))
theorem cHead11_ok {ρ : Env} : CtOne Tryz.prog ρ 6 cHead11 :=
  ctD_ok gHead11 (fun _ => rfl) (fun _ => rfl)
def ctGd : Ct := (6, cHead11) :: ctGc
theorem ctGd_ok {ρ : Env} (h : Sees ρ KGc 170) (hd : SeesD ρ KGc 5) : CtOk Tryz.prog ρ ctGd := .cons cHead11_ok (ctGc_ok h hd)
end Go.Proofs.YtcjaembdcfppfaaGreat
