/- NH, merged: TEh, Eh. -/
import Derived.Test.YtglepdhapakmbaaMV
set_option linter.unusedSimpArgs false
set_option linter.unusedVariables false
/- Chapter 07: the tree of the laws' head. -/
namespace Go.Proofs.Ytglepdhapakmbaa
open Go.RowKit
-- term trHead07: call Try.prog ctE6 (Lt.of []) 100 10 [] [] 0
def trHead07 : TT OpR :=
(.ret ((.v (.one (.z (.bool (.lit true))))), [], 42))
-- end trHead07
set_option maxRecDepth 100000 in
theorem trHead07_is : T.norm 0 (call Try.prog ctE6 (Lt.of []) 100 10 [] [] 0) TT.ret = trHead07 := by kernel_rfl
theorem trHead07_low : trHead07.low 1000 = true := by kernel_rfl
end Go.Proofs.Ytglepdhapakmbaa
/- Chapter 07: the laws' head is true. -/
namespace Go.Proofs.Ytglepdhapakmbaa
open Go.RowKit
theorem gHead07 : Gives Try.prog 10 [] (fun _ => .bool true) := by
  refine GivesIf.all (fn_gives K76 (by kernel_rfl) (fun ρ h => ctE6_ok (Sees.of h 122)) (by kernel_rfl) trHead07_is trHead07_low (by decide) (fun W vals ds hr _ => ?_))
  simp only [trHead07, TT.sat_ret, TT.sat_ite, TT.sat_ob, TT.sat_next, TT.sat_stuck, put_i, put_b, put_d, put_fi, put_fb, put_fd, Ob.ok, B.ev, E.ev, X.ev, AL.ev, cmp_t, cmp_f, arEv, V.plain, V2.plain, S.plain, S0.plain, V.val, V2.val, S.val, S0.val, bV, iV, List.all_cons, List.all_nil, Bool.and_true, Bool.and_self, envOf_i, envOf_b, envOf_d, List.map_cons, List.map_nil, true_and, Bool.not_eq_true', Bool.not_eq_false', Bool.not_not, Bool.and_eq_true, and_f, cell_lg, cell_lb, cell_lr, cmpP, val_i, val_b, val_d, aget, Nat.reduceBEq, beq_self_eq_true, Bool.false_eq_true, if_true, if_false, Nat.reduceLT, Nat.reduceSub, Nat.sub_self, Nat.lt_irrefl]
def cHead07 := ctD [] fun _ => .ret (bV (.lit true))
theorem cHead07_ok {ρ : Env} : CtOne Try.prog ρ 10 cHead07 :=
  ctD_ok gHead07 (fun _ => rfl) (fun _ => rfl)
def ctE7 : Ct := (10, cHead07) :: ctE6
theorem ctE7_ok {ρ : Env} (h : Sees ρ K76 122) : CtOk Try.prog ρ ctE7 := .cons cHead07_ok (ctE6_ok h)
end Go.Proofs.Ytglepdhapakmbaa
