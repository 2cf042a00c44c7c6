/- HG, merged: TVh, Vd. -/
import Derived.Test.YtldbejmgalhdaaaGreatHF
set_option linter.unusedSimpArgs false
set_option linter.unusedVariables false
/- Chapter 09: the tree of the laws' head. -/
namespace Go.Proofs.YtldbejmgalhdaaaGreat
open Go.RowKit
-- term trHead09: call Tryz.prog ctVj (Lt.of []) 300 11 (symArgs 0 []) [] 0
def trHead09 : TT OpR :=
(.ob (.tru (.lit true))
(.ob (.tru (.lit true))
(.ob (.tru (.lit true))
(.ob (.tru (.lit true))
(.ob (.tru (.lit true))
(.ob (.tru (.lit true))
(.ob (.tru (.lit true))
(.ob (.tru (.lit true))
(.ob (.tru (.lit true))
(.ob (.tru (.lit true))
(.ob (.tru (.lit true))
(.ob (.tru (.lit true))
(.ob (.tru (.lit true))
(.ob (.tru (.lit true))
(.ob (.tru (.lit true))
(.ob (.tru (.lit true))
(.ob (.tru (.lit true))
(.ob (.tru (.lit true))
(.ob (.tru (.lit true))
(.ob (.tru (.lit true))
(.ob (.tru (.lit true))
(.ob (.tru (.lit true))
(.ob (.tru (.lit true))
(.ob (.tru (.lit true))
(.ob (.tru (.lit true))
(.ob (.tru (.lit true))
(.ob (.tru (.lit true))
(.ob (.tru (.lit true))
(.ob (.tru (.lit true))
(.ob (.tru (.lit true))
(.ob (.tru (.lit true))
(.ob (.tru (.lit true))
(.ob (.tru (.lit true))
(.ob (.tru (.lit true))
(.ob (.tru (.lit true))
(.ob (.tru (.lit true))
(.ob (.tru (.lit true))
(.ob (.tru (.lit true))
(.ob (.tru (.lit true))
(.ob (.tru (.lit true))
(.ob (.tru (.lit true))
(.ob (.tru (.lit true))
(.ob (.tru (.lit true))
(.ob (.tru (.lit true))
(.ob (.tru (.lit true))
(.ob (.tru (.lit true))
(.ob (.tru (.lit true))
(.ob (.tru (.lit true))
(.ob (.tru (.lit true))
(.ob (.tru (.lit true))
(.ob (.tru (.lit true))
(.ob (.tru (.lit true))
(.ob (.tru (.lit true))
(.ob (.tru (.lit true))
(.ob (.tru (.lit true))
(.ob (.tru (.lit true))
(.ob (.tru (.lit true))
(.ob (.tru (.lit true))
(.ob (.tru (.lit true))
(.ob (.tru (.lit true))
(.ob (.tru (.lit true))
(.ob (.tru (.lit true))
(.ob (.tru (.lit true))
(.ob (.tru (.lit true))
(.ob (.tru (.lit true))
(.ob (.tru (.lit true))
(.ob (.tru (.lit true))
(.ob (.tru (.lit true))
(.ob (.tru (.lit true))
(.ob (.tru (.lit true))
(.ob (.tru (.lit true))
(.ob (.tru (.lit true))
(.ob (.tru (.lit true))
(.ob (.tru (.lit true))
(.ob (.tru (.lit true))
(.ret ((.v (.one (.z (.bool (.lit true))))), [], 115)))))))))))))))))))))))))))))))))))))))))))))))))))))))))))))))))))))))))))))
-- end trHead09
set_option maxRecDepth 100000 in
theorem trHead09_is : T.norm 0 (call Tryz.prog ctVj (Lt.of []) 300 11 (symArgs 0 []) [] 0) TT.ret = trHead09 := by kernel_rfl
theorem trHead09_low : trHead09.low 1000 = true := by kernel_rfl
end Go.Proofs.YtldbejmgalhdaaaGreat
/- Chapter 09: the laws' head is true. -/
namespace Go.Proofs.YtldbejmgalhdaaaGreat
open Go.RowKit
theorem gHead09 : Gives Tryz.prog 11 [] (fun _ => .bool true) := by
  refine GivesIf.all (fn_gives KVb (by kernel_rfl) (fun ρ h => ctVj_ok (Sees.of h 160) (SeesD.of h 1)) (by kernel_rfl) trHead09_is trHead09_low (by decide) (fun W vals ds _ _ => ?_))
  simp only [trHead09, TT.sat_ret, TT.sat_ite, TT.sat_ob, TT.sat_next, TT.sat_stuck, put_i, put_b, put_d, put_fi, put_fb, put_fd, Ob.ok, B.ev, E.ev, X.ev, AL.ev, cmp_t, cmp_f, arEv, V.plain, V2.plain, S.plain, S0.plain, V.val, V2.val, S.val, S0.val, bV, iV, List.all_cons, List.all_nil, Bool.and_true, Bool.and_self, envOf_i, envOf_b, envOf_d, List.map_cons, List.map_nil, true_and, Bool.not_eq_true', Bool.not_eq_false', Bool.not_not, Bool.and_eq_true, and_f, cell_lg, cell_lb, cell_lr, cmpP, val_i, val_b, val_d, aget, Nat.reduceBEq, beq_self_eq_true, Bool.false_eq_true, if_true, if_false, Nat.reduceLT, Nat.reduceSub, Nat.sub_self, Nat.lt_irrefl]
def cHead09 := ctD [] fun _ => .ret (bV (.lit true))
theorem cHead09_ok {ρ : Env} : CtOne Tryz.prog ρ 11 cHead09 := ctD_ok gHead09 (fun _ => rfl) (fun _ => rfl)
def ctV2 : Ct := (11, cHead09) :: (13, cSVal) :: (46, cSCur) :: (90, cInsSnd) :: (49, cInsFt) :: (48, cCloneFt) :: ctV1
theorem ctV2_ok {ρ : Env} (h : Sees ρ KVb 160) (hd : SeesD ρ KVb 1) : CtOk Tryz.prog ρ ctV2 := .cons cHead09_ok <| .cons (cSVal_ok h) <| .cons (cSCur_ok hd) <| .cons cInsSnd_ok <| .cons cInsFt_ok <| .cons cCloneFt_ok (ctV1_ok (KVb_KVa h))
end Go.Proofs.YtldbejmgalhdaaaGreat
