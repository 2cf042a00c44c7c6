/- LTouches, merged: TEh, Eh, TEi, Ei. -/
import Derived.Test.YtglepdhapakmbaaMV
set_option linter.unusedSimpArgs false
set_option linter.unusedVariables false
/- Chapter 07: the tree of the laws' head. -/
namespace Go.Proofs.Ytglepdhapakmbaa
open Go.RowKit
-- term trHead07: call Try.prog ctE6 (Lt.of []) 100 10 [] [] 0
def trHead07 : TT OpR :=
(.ret ((.v (.one (.z (.bool (.lit true))))), [], 42))
-- end trHead07
set_option maxRecDepth 100000 in
theorem trHead07_is : T.norm 0 (call Try.prog ctE6 (Lt.of []) 100 10 [] [] 0) TT.ret = trHead07 := by kernel_rfl
theorem trHead07_low : trHead07.low 1000 = true := by kernel_rfl
end Go.Proofs.Ytglepdhapakmbaa
/- Chapter 07: the laws' head is true. -/
namespace Go.Proofs.Ytglepdhapakmbaa
open Go.RowKit
theorem gHead07 : Gives Try.prog 10 [] (fun _ => .bool true) := by
  refine GivesIf.all (fn_gives K76 (by kernel_rfl) (fun ρ h => ctE6_ok (Sees.of h 122)) (by kernel_rfl) trHead07_is trHead07_low (by decide) (fun W vals ds hr _ => ?_))
  simp only [trHead07, TT.sat_ret, TT.sat_ite, TT.sat_ob, TT.sat_next, TT.sat_stuck, put_i, put_b, put_d, put_fi, put_fb, put_fd, Ob.ok, B.ev, E.ev, X.ev, AL.ev, cmp_t, cmp_f, arEv, V.plain, V2.plain, S.plain, S0.plain, V.val, V2.val, S.val, S0.val, bV, iV, List.all_cons, List.all_nil, Bool.and_true, Bool.and_self, envOf_i, envOf_b, envOf_d, List.map_cons, List.map_nil, true_and, Bool.not_eq_true', Bool.not_eq_false', Bool.not_not, Bool.and_eq_true, and_f, cell_lg, cell_lb, cell_lr, cmpP, val_i, val_b, val_d, aget, Nat.reduceBEq, beq_self_eq_true, Bool.false_eq_true, if_true, if_false, Nat.reduceLT, Nat.reduceSub, Nat.sub_self, Nat.lt_irrefl]
def cHead07 := ctD [] fun _ => .ret (bV (.lit true))
theorem cHead07_ok {ρ : Env} : CtOne Try.prog ρ 10 cHead07 :=
  ctD_ok gHead07 (fun _ => rfl) (fun _ => rfl)
def ctE7 : Ct := (10, cHead07) :: ctE6
theorem ctE7_ok {ρ : Env} (h : Sees ρ K76 122) : CtOk Try.prog ρ ctE7 := .cons cHead07_ok (ctE6_ok h)
end Go.Proofs.Ytglepdhapakmbaa
/- Chapter 07: trees of the laws FeatureTouches, FeatureCovers, FeatureHolds. -/
namespace Go.Proofs.Ytglepdhapakmbaa
open Go.RowKit
-- term trTouches: call Try.prog ctE7 (Lt.of []) 100 7 (symArgs 0 [feat, feat, pt]) [] 0
def trTouches : TT OpR :=
(.ite (.cmp .neq (.fn 119 (.i (.var 0) (.i (.var 1) (.i (.var 2) (.i (.var 3) (.i (.var 4) (.x (.var 5) (.i (.var 6) (.i (.var 7) (.x (.var 8) (.i (.var 9) (.i (.var 10) (.i (.var 11) (.i (.var 12) (.i (.var 13) (.x (.var 14) (.i (.var 15) (.i (.var 16) (.x (.var 17) .nil))))))))))))))))))) (.lit 0))
  (.ite (.cmp .eql (.fn 119 (.i (.var 9) (.i (.var 10) (.i (.var 11) (.i (.var 12) (.i (.var 13) (.x (.var 14) (.i (.var 15) (.i (.var 16) (.x (.var 17) (.i (.var 0) (.i (.var 1) (.i (.var 2) (.i (.var 3) (.i (.var 4) (.x (.var 5) (.i (.var 6) (.i (.var 7) (.x (.var 8) .nil))))))))))))))))))) (.fn 119 (.i (.var 0) (.i (.var 1) (.i (.var 2) (.i (.var 3) (.i (.var 4) (.x (.var 5) (.i (.var 6) (.i (.var 7) (.x (.var 8) (.i (.var 9) (.i (.var 10) (.i (.var 11) (.i (.var 12) (.i (.var 13) (.x (.var 14) (.i (.var 15) (.i (.var 16) (.x (.var 17) .nil))))))))))))))))))))
    (.ret ((.v (.one (.z (.bool (.not (.fn 120 (.i (.var 0) (.i (.var 1) (.i (.var 2) (.i (.var 3) (.i (.var 4) (.x (.var 5) (.i (.var 6) (.i (.var 7) (.x (.var 8) (.i (.var 9) (.i (.var 10) (.i (.var 11) (.i (.var 12) (.i (.var 13) (.x (.var 14) (.i (.var 15) (.i (.var 16) (.x (.var 17) .nil)))))))))))))))))))))))), [], 3))
    (.ret ((.v (.one (.z (.bool (.lit false))))), [], 3)))
  (.ite (.cmp .eql (.fn 119 (.i (.var 9) (.i (.var 10) (.i (.var 11) (.i (.var 12) (.i (.var 13) (.x (.var 14) (.i (.var 15) (.i (.var 16) (.x (.var 17) (.i (.var 0) (.i (.var 1) (.i (.var 2) (.i (.var 3) (.i (.var 4) (.x (.var 5) (.i (.var 6) (.i (.var 7) (.x (.var 8) .nil))))))))))))))))))) (.lit 0))
    (.ite (.eqb (.fn 120 (.i (.var 0) (.i (.var 1) (.i (.var 2) (.i (.var 3) (.i (.var 4) (.x (.var 5) (.i (.var 6) (.i (.var 7) (.x (.var 8) (.i (.var 9) (.i (.var 10) (.i (.var 11) (.i (.var 12) (.i (.var 13) (.x (.var 14) (.i (.var 15) (.i (.var 16) (.x (.var 17) .nil))))))))))))))))))) (.fn 120 (.i (.var 9) (.i (.var 10) (.i (.var 11) (.i (.var 12) (.i (.var 13) (.x (.var 14) (.i (.var 15) (.i (.var 16) (.x (.var 17) (.i (.var 0) (.i (.var 1) (.i (.var 2) (.i (.var 3) (.i (.var 4) (.x (.var 5) (.i (.var 6) (.i (.var 7) (.x (.var 8) .nil))))))))))))))))))))
      (.ite (.cmp .neq (.fn 78 (.i (.var 0) (.i (.var 1) (.i (.var 2) (.i (.var 3) (.i (.var 4) (.x (.var 5) (.i (.var 6) (.i (.var 7) (.x (.var 8) (.i (.var 18) (.i (.var 19) .nil)))))))))))) (.lit 0))
        (.ite (.cmp .eql (.fn 119 (.i (.var 0) (.i (.var 1) (.i (.var 2) (.i (.var 3) (.i (.var 4) (.x (.var 5) (.i (.var 6) (.i (.var 7) (.x (.var 8) (.i (.var 9) (.i (.var 10) (.i (.var 11) (.i (.var 12) (.i (.var 13) (.x (.var 14) (.i (.var 15) (.i (.var 16) (.x (.var 17) .nil))))))))))))))))))) (.lit 0))
          (.ret ((.v (.one (.z (.bool (.cmp .eql (.fn 78 (.i (.var 0) (.i (.var 1) (.i (.var 2) (.i (.var 3) (.i (.var 4) (.x (.var 5) (.i (.var 6) (.i (.var 7) (.x (.var 8) (.i (.var 18) (.i (.var 19) .nil)))))))))))) (.fn 78 (.i (.var 9) (.i (.var 10) (.i (.var 11) (.i (.var 12) (.i (.var 13) (.x (.var 14) (.i (.var 15) (.i (.var 16) (.x (.var 17) (.i (.var 18) (.i (.var 19) .nil))))))))))))))))), [], 3))
          (.ret ((.v (.one (.z (.bool (.lit false))))), [], 3)))
        (.ite (.cmp .neq (.fn 78 (.i (.var 9) (.i (.var 10) (.i (.var 11) (.i (.var 12) (.i (.var 13) (.x (.var 14) (.i (.var 15) (.i (.var 16) (.x (.var 17) (.i (.var 18) (.i (.var 19) .nil)))))))))))) (.lit 0))
          (.ite (.cmp .eql (.fn 119 (.i (.var 0) (.i (.var 1) (.i (.var 2) (.i (.var 3) (.i (.var 4) (.x (.var 5) (.i (.var 6) (.i (.var 7) (.x (.var 8) (.i (.var 9) (.i (.var 10) (.i (.var 11) (.i (.var 12) (.i (.var 13) (.x (.var 14) (.i (.var 15) (.i (.var 16) (.x (.var 17) .nil))))))))))))))))))) (.lit 0))
            (.ret ((.v (.one (.z (.bool (.cmp .eql (.fn 78 (.i (.var 0) (.i (.var 1) (.i (.var 2) (.i (.var 3) (.i (.var 4) (.x (.var 5) (.i (.var 6) (.i (.var 7) (.x (.var 8) (.i (.var 18) (.i (.var 19) .nil)))))))))))) (.fn 78 (.i (.var 9) (.i (.var 10) (.i (.var 11) (.i (.var 12) (.i (.var 13) (.x (.var 14) (.i (.var 15) (.i (.var 16) (.x (.var 17) (.i (.var 18) (.i (.var 19) .nil))))))))))))))))), [], 3))
            (.ret ((.v (.one (.z (.bool (.lit false))))), [], 3)))
          (.ite (.cmp .eql (.fn 119 (.i (.var 0) (.i (.var 1) (.i (.var 2) (.i (.var 3) (.i (.var 4) (.x (.var 5) (.i (.var 6) (.i (.var 7) (.x (.var 8) (.i (.var 9) (.i (.var 10) (.i (.var 11) (.i (.var 12) (.i (.var 13) (.x (.var 14) (.i (.var 15) (.i (.var 16) (.x (.var 17) .nil))))))))))))))))))) (.lit 0))
            (.ite (.not (.fn 78 (.i (.var 0) (.i (.var 1) (.i (.var 2) (.i (.var 3) (.i (.var 4) (.x (.var 5) (.i (.var 6) (.i (.var 7) (.x (.var 8) (.i (.var 18) (.i (.var 19) .nil)))))))))))))
              (.ite (.not (.fn 119 (.i (.var 0) (.i (.var 1) (.i (.var 2) (.i (.var 3) (.i (.var 4) (.x (.var 5) (.i (.var 6) (.i (.var 7) (.x (.var 8) (.i (.var 9) (.i (.var 10) (.i (.var 11) (.i (.var 12) (.i (.var 13) (.x (.var 14) (.i (.var 15) (.i (.var 16) (.x (.var 17) .nil))))))))))))))))))))
                (.ret ((.v (.one (.z (.bool (.lit true))))), [], 3))
                (.ite (.not (.fn 78 (.i (.var 9) (.i (.var 10) (.i (.var 11) (.i (.var 12) (.i (.var 13) (.x (.var 14) (.i (.var 15) (.i (.var 16) (.x (.var 17) (.i (.var 18) (.i (.var 19) .nil)))))))))))))
                  (.ret ((.v (.one (.z (.bool (.lit true))))), [], 3))
                  (.ret ((.v (.one (.z (.bool (.fn 120 (.i (.var 0) (.i (.var 1) (.i (.var 2) (.i (.var 3) (.i (.var 4) (.x (.var 5) (.i (.var 6) (.i (.var 7) (.x (.var 8) (.i (.var 9) (.i (.var 10) (.i (.var 11) (.i (.var 12) (.i (.var 13) (.x (.var 14) (.i (.var 15) (.i (.var 16) (.x (.var 17) .nil))))))))))))))))))))))), [], 3))))
              (.ite (.not (.fn 78 (.i (.var 9) (.i (.var 10) (.i (.var 11) (.i (.var 12) (.i (.var 13) (.x (.var 14) (.i (.var 15) (.i (.var 16) (.x (.var 17) (.i (.var 18) (.i (.var 19) .nil)))))))))))))
                (.ite (.not (.fn 119 (.i (.var 0) (.i (.var 1) (.i (.var 2) (.i (.var 3) (.i (.var 4) (.x (.var 5) (.i (.var 6) (.i (.var 7) (.x (.var 8) (.i (.var 9) (.i (.var 10) (.i (.var 11) (.i (.var 12) (.i (.var 13) (.x (.var 14) (.i (.var 15) (.i (.var 16) (.x (.var 17) .nil))))))))))))))))))))
                  (.ret ((.v (.one (.z (.bool (.lit true))))), [], 3))
                  (.ite (.not (.fn 78 (.i (.var 9) (.i (.var 10) (.i (.var 11) (.i (.var 12) (.i (.var 13) (.x (.var 14) (.i (.var 15) (.i (.var 16) (.x (.var 17) (.i (.var 18) (.i (.var 19) .nil)))))))))))))
                    (.ret ((.v (.one (.z (.bool (.lit true))))), [], 3))
                    (.ret ((.v (.one (.z (.bool (.fn 120 (.i (.var 0) (.i (.var 1) (.i (.var 2) (.i (.var 3) (.i (.var 4) (.x (.var 5) (.i (.var 6) (.i (.var 7) (.x (.var 8) (.i (.var 9) (.i (.var 10) (.i (.var 11) (.i (.var 12) (.i (.var 13) (.x (.var 14) (.i (.var 15) (.i (.var 16) (.x (.var 17) .nil))))))))))))))))))))))), [], 3))))
                (.ite (.fn 120 (.i (.var 0) (.i (.var 1) (.i (.var 2) (.i (.var 3) (.i (.var 4) (.x (.var 5) (.i (.var 6) (.i (.var 7) (.x (.var 8) (.i (.var 9) (.i (.var 10) (.i (.var 11) (.i (.var 12) (.i (.var 13) (.x (.var 14) (.i (.var 15) (.i (.var 16) (.x (.var 17) .nil)))))))))))))))))))
                  (.ite (.not (.fn 119 (.i (.var 0) (.i (.var 1) (.i (.var 2) (.i (.var 3) (.i (.var 4) (.x (.var 5) (.i (.var 6) (.i (.var 7) (.x (.var 8) (.i (.var 9) (.i (.var 10) (.i (.var 11) (.i (.var 12) (.i (.var 13) (.x (.var 14) (.i (.var 15) (.i (.var 16) (.x (.var 17) .nil))))))))))))))))))))
                    (.ret ((.v (.one (.z (.bool (.lit true))))), [], 3))
                    (.ite (.not (.fn 78 (.i (.var 9) (.i (.var 10) (.i (.var 11) (.i (.var 12) (.i (.var 13) (.x (.var 14) (.i (.var 15) (.i (.var 16) (.x (.var 17) (.i (.var 18) (.i (.var 19) .nil)))))))))))))
                      (.ret ((.v (.one (.z (.bool (.lit true))))), [], 3))
                      (.ret ((.v (.one (.z (.bool (.fn 120 (.i (.var 0) (.i (.var 1) (.i (.var 2) (.i (.var 3) (.i (.var 4) (.x (.var 5) (.i (.var 6) (.i (.var 7) (.x (.var 8) (.i (.var 9) (.i (.var 10) (.i (.var 11) (.i (.var 12) (.i (.var 13) (.x (.var 14) (.i (.var 15) (.i (.var 16) (.x (.var 17) .nil))))))))))))))))))))))), [], 3))))
                  (.ret ((.v (.one (.z (.bool (.lit false))))), [], 3)))))
            (.ret ((.v (.one (.z (.bool (.lit false))))), [], 3)))))
      (.ite (.cmp .neq (.fn 78 (.i (.var 0) (.i (.var 1) (.i (.var 2) (.i (.var 3) (.i (.var 4) (.x (.var 5) (.i (.var 6) (.i (.var 7) (.x (.var 8) (.i (.var 18) (.i (.var 19) .nil)))))))))))) (.lit 0))
        (.ret ((.v (.one (.z (.bool (.lit false))))), [], 3))
        (.ite (.cmp .neq (.fn 78 (.i (.var 9) (.i (.var 10) (.i (.var 11) (.i (.var 12) (.i (.var 13) (.x (.var 14) (.i (.var 15) (.i (.var 16) (.x (.var 17) (.i (.var 18) (.i (.var 19) .nil)))))))))))) (.lit 0))
          (.ret ((.v (.one (.z (.bool (.lit false))))), [], 3))
          (.ret ((.v (.one (.z (.bool (.lit false))))), [], 3)))))
    (.ite (.cmp .neq (.fn 78 (.i (.var 0) (.i (.var 1) (.i (.var 2) (.i (.var 3) (.i (.var 4) (.x (.var 5) (.i (.var 6) (.i (.var 7) (.x (.var 8) (.i (.var 18) (.i (.var 19) .nil)))))))))))) (.lit 0))
      (.ret ((.v (.one (.z (.bool (.lit false))))), [], 3))
      (.ite (.cmp .neq (.fn 78 (.i (.var 9) (.i (.var 10) (.i (.var 11) (.i (.var 12) (.i (.var 13) (.x (.var 14) (.i (.var 15) (.i (.var 16) (.x (.var 17) (.i (.var 18) (.i (.var 19) .nil)))))))))))) (.lit 0))
        (.ret ((.v (.one (.z (.bool (.lit false))))), [], 3))
        (.ret ((.v (.one (.z (.bool (.lit false))))), [], 3))))))
-- end trTouches
set_option maxRecDepth 100000 in
theorem trTouches_is : T.norm 0 (call Try.prog ctE7 (Lt.of []) 100 7 (symArgs 0 [feat, feat, pt]) [] 0) TT.ret = trTouches := by kernel_rfl
theorem trTouches_low : trTouches.low 1000 = true := by kernel_rfl
-- term trCovers7: call Try.prog ctE7 (Lt.of []) 100 3 (symArgs 0 [feat, feat, pt]) [] 0
def trCovers7 : TT OpR :=
(.ite (.cmp .eql (.fn 78 (.i (.var 0) (.i (.var 1) (.i (.var 2) (.i (.var 3) (.i (.var 4) (.x (.var 5) (.i (.var 6) (.i (.var 7) (.x (.var 8) (.i (.var 18) (.i (.var 19) .nil)))))))))))) (.lit 0))
  (.ite (.fn 78 (.i (.var 0) (.i (.var 1) (.i (.var 2) (.i (.var 3) (.i (.var 4) (.x (.var 5) (.i (.var 6) (.i (.var 7) (.x (.var 8) (.i (.var 18) (.i (.var 19) .nil))))))))))))
    (.ite (.cmp .eql (.fn 89 (.i (.var 0) (.i (.var 1) (.i (.var 2) (.i (.var 3) (.i (.var 4) (.x (.var 5) (.i (.var 6) (.i (.var 7) (.x (.var 8) .nil)))))))))) (.lit 0))
      (.ite (.cmp .leq (.fn 85 (.i (.var 0) (.i (.var 1) (.i (.var 2) (.i (.var 3) (.i (.var 4) (.x (.var 5) (.i (.var 6) (.i (.var 7) (.x (.var 8) .nil)))))))))) (.var 18))
        (.ite (.cmp .leq (.var 18) (.fn 86 (.i (.var 0) (.i (.var 1) (.i (.var 2) (.i (.var 3) (.i (.var 4) (.x (.var 5) (.i (.var 6) (.i (.var 7) (.x (.var 8) .nil)))))))))))
          (.ite (.cmp .leq (.fn 87 (.i (.var 0) (.i (.var 1) (.i (.var 2) (.i (.var 3) (.i (.var 4) (.x (.var 5) (.i (.var 6) (.i (.var 7) (.x (.var 8) .nil)))))))))) (.var 19))
            (.ite (.cmp .neq (.fn 78 (.i (.var 0) (.i (.var 1) (.i (.var 2) (.i (.var 3) (.i (.var 4) (.x (.var 5) (.i (.var 6) (.i (.var 7) (.x (.var 8) (.i (.var 18) (.i (.var 19) .nil)))))))))))) (.lit 0))
              (.ite (.cmp .leq (.var 19) (.fn 88 (.i (.var 0) (.i (.var 1) (.i (.var 2) (.i (.var 3) (.i (.var 4) (.x (.var 5) (.i (.var 6) (.i (.var 7) (.x (.var 8) .nil)))))))))))
                (.ret ((.v (.one (.z (.bool (.eqb (.cmp .eql (.fn 119 (.i (.var 0) (.i (.var 1) (.i (.var 2) (.i (.var 3) (.i (.var 4) (.x (.var 5) (.i (.var 6) (.i (.var 7) (.x (.var 8) (.i (.var 9) (.i (.var 10) (.i (.var 11) (.i (.var 12) (.i (.var 13) (.x (.var 14) (.i (.var 15) (.i (.var 16) (.x (.var 17) .nil))))))))))))))))))) (.lit 0)) (.cmp .eql (.fn 119 (.i (.var 9) (.i (.var 10) (.i (.var 11) (.i (.var 12) (.i (.var 13) (.x (.var 14) (.i (.var 15) (.i (.var 16) (.x (.var 17) (.i (.var 0) (.i (.var 1) (.i (.var 2) (.i (.var 3) (.i (.var 4) (.x (.var 5) (.i (.var 6) (.i (.var 7) (.x (.var 8) .nil))))))))))))))))))) (.lit 0))))))), [], 4))
                (.ret ((.v (.one (.z (.bool (.lit false))))), [], 4)))
              (.ite (.cmp .neq (.fn 78 (.i (.var 9) (.i (.var 10) (.i (.var 11) (.i (.var 12) (.i (.var 13) (.x (.var 14) (.i (.var 15) (.i (.var 16) (.x (.var 17) (.i (.var 18) (.i (.var 19) .nil)))))))))))) (.lit 0))
                (.ite (.cmp .leq (.var 19) (.fn 88 (.i (.var 0) (.i (.var 1) (.i (.var 2) (.i (.var 3) (.i (.var 4) (.x (.var 5) (.i (.var 6) (.i (.var 7) (.x (.var 8) .nil)))))))))))
                  (.ret ((.v (.one (.z (.bool (.eqb (.cmp .eql (.fn 119 (.i (.var 0) (.i (.var 1) (.i (.var 2) (.i (.var 3) (.i (.var 4) (.x (.var 5) (.i (.var 6) (.i (.var 7) (.x (.var 8) (.i (.var 9) (.i (.var 10) (.i (.var 11) (.i (.var 12) (.i (.var 13) (.x (.var 14) (.i (.var 15) (.i (.var 16) (.x (.var 17) .nil))))))))))))))))))) (.lit 0)) (.cmp .eql (.fn 119 (.i (.var 9) (.i (.var 10) (.i (.var 11) (.i (.var 12) (.i (.var 13) (.x (.var 14) (.i (.var 15) (.i (.var 16) (.x (.var 17) (.i (.var 0) (.i (.var 1) (.i (.var 2) (.i (.var 3) (.i (.var 4) (.x (.var 5) (.i (.var 6) (.i (.var 7) (.x (.var 8) .nil))))))))))))))))))) (.lit 0))))))), [], 4))
                  (.ret ((.v (.one (.z (.bool (.lit false))))), [], 4)))
                (.ite (.cmp .leq (.var 19) (.fn 88 (.i (.var 0) (.i (.var 1) (.i (.var 2) (.i (.var 3) (.i (.var 4) (.x (.var 5) (.i (.var 6) (.i (.var 7) (.x (.var 8) .nil)))))))))))
                  (.ite (.cmp .eql (.fn 119 (.i (.var 0) (.i (.var 1) (.i (.var 2) (.i (.var 3) (.i (.var 4) (.x (.var 5) (.i (.var 6) (.i (.var 7) (.x (.var 8) (.i (.var 9) (.i (.var 10) (.i (.var 11) (.i (.var 12) (.i (.var 13) (.x (.var 14) (.i (.var 15) (.i (.var 16) (.x (.var 17) .nil))))))))))))))))))) (.lit 0))
                    (.ite (.cmp .eql (.fn 119 (.i (.var 9) (.i (.var 10) (.i (.var 11) (.i (.var 12) (.i (.var 13) (.x (.var 14) (.i (.var 15) (.i (.var 16) (.x (.var 17) (.i (.var 0) (.i (.var 1) (.i (.var 2) (.i (.var 3) (.i (.var 4) (.x (.var 5) (.i (.var 6) (.i (.var 7) (.x (.var 8) .nil))))))))))))))))))) (.lit 0))
                      (.ite (.not (.fn 119 (.i (.var 0) (.i (.var 1) (.i (.var 2) (.i (.var 3) (.i (.var 4) (.x (.var 5) (.i (.var 6) (.i (.var 7) (.x (.var 8) (.i (.var 9) (.i (.var 10) (.i (.var 11) (.i (.var 12) (.i (.var 13) (.x (.var 14) (.i (.var 15) (.i (.var 16) (.x (.var 17) .nil))))))))))))))))))))
                        (.ite (.not (.fn 119 (.i (.var 0) (.i (.var 1) (.i (.var 2) (.i (.var 3) (.i (.var 4) (.x (.var 5) (.i (.var 6) (.i (.var 7) (.x (.var 8) (.i (.var 9) (.i (.var 10) (.i (.var 11) (.i (.var 12) (.i (.var 13) (.x (.var 14) (.i (.var 15) (.i (.var 16) (.x (.var 17) .nil))))))))))))))))))))
                          (.ret ((.v (.one (.z (.bool (.lit true))))), [], 4))
                          (.ite (.not (.fn 119 (.i (.var 9) (.i (.var 10) (.i (.var 11) (.i (.var 12) (.i (.var 13) (.x (.var 14) (.i (.var 15) (.i (.var 16) (.x (.var 17) (.i (.var 0) (.i (.var 1) (.i (.var 2) (.i (.var 3) (.i (.var 4) (.x (.var 5) (.i (.var 6) (.i (.var 7) (.x (.var 8) .nil))))))))))))))))))))
                            (.ret ((.v (.one (.z (.bool (.lit true))))), [], 4))
                            (.ret ((.v (.one (.z (.bool (.eqb (.fn 78 (.i (.var 0) (.i (.var 1) (.i (.var 2) (.i (.var 3) (.i (.var 4) (.x (.var 5) (.i (.var 6) (.i (.var 7) (.x (.var 8) (.i (.var 18) (.i (.var 19) .nil)))))))))))) (.fn 78 (.i (.var 9) (.i (.var 10) (.i (.var 11) (.i (.var 12) (.i (.var 13) (.x (.var 14) (.i (.var 15) (.i (.var 16) (.x (.var 17) (.i (.var 18) (.i (.var 19) .nil))))))))))))))))), [], 4))))
                        (.ite (.not (.fn 78 (.i (.var 9) (.i (.var 10) (.i (.var 11) (.i (.var 12) (.i (.var 13) (.x (.var 14) (.i (.var 15) (.i (.var 16) (.x (.var 17) (.i (.var 18) (.i (.var 19) .nil)))))))))))))
                          (.ite (.not (.fn 119 (.i (.var 0) (.i (.var 1) (.i (.var 2) (.i (.var 3) (.i (.var 4) (.x (.var 5) (.i (.var 6) (.i (.var 7) (.x (.var 8) (.i (.var 9) (.i (.var 10) (.i (.var 11) (.i (.var 12) (.i (.var 13) (.x (.var 14) (.i (.var 15) (.i (.var 16) (.x (.var 17) .nil))))))))))))))))))))
                            (.ret ((.v (.one (.z (.bool (.lit true))))), [], 4))
                            (.ite (.not (.fn 119 (.i (.var 9) (.i (.var 10) (.i (.var 11) (.i (.var 12) (.i (.var 13) (.x (.var 14) (.i (.var 15) (.i (.var 16) (.x (.var 17) (.i (.var 0) (.i (.var 1) (.i (.var 2) (.i (.var 3) (.i (.var 4) (.x (.var 5) (.i (.var 6) (.i (.var 7) (.x (.var 8) .nil))))))))))))))))))))
                              (.ret ((.v (.one (.z (.bool (.lit true))))), [], 4))
                              (.ret ((.v (.one (.z (.bool (.eqb (.fn 78 (.i (.var 0) (.i (.var 1) (.i (.var 2) (.i (.var 3) (.i (.var 4) (.x (.var 5) (.i (.var 6) (.i (.var 7) (.x (.var 8) (.i (.var 18) (.i (.var 19) .nil)))))))))))) (.fn 78 (.i (.var 9) (.i (.var 10) (.i (.var 11) (.i (.var 12) (.i (.var 13) (.x (.var 14) (.i (.var 15) (.i (.var 16) (.x (.var 17) (.i (.var 18) (.i (.var 19) .nil))))))))))))))))), [], 4))))
                          (.ite (.fn 78 (.i (.var 0) (.i (.var 1) (.i (.var 2) (.i (.var 3) (.i (.var 4) (.x (.var 5) (.i (.var 6) (.i (.var 7) (.x (.var 8) (.i (.var 18) (.i (.var 19) .nil))))))))))))
                            (.ite (.not (.fn 119 (.i (.var 0) (.i (.var 1) (.i (.var 2) (.i (.var 3) (.i (.var 4) (.x (.var 5) (.i (.var 6) (.i (.var 7) (.x (.var 8) (.i (.var 9) (.i (.var 10) (.i (.var 11) (.i (.var 12) (.i (.var 13) (.x (.var 14) (.i (.var 15) (.i (.var 16) (.x (.var 17) .nil))))))))))))))))))))
                              (.ret ((.v (.one (.z (.bool (.lit true))))), [], 4))
                              (.ite (.not (.fn 119 (.i (.var 9) (.i (.var 10) (.i (.var 11) (.i (.var 12) (.i (.var 13) (.x (.var 14) (.i (.var 15) (.i (.var 16) (.x (.var 17) (.i (.var 0) (.i (.var 1) (.i (.var 2) (.i (.var 3) (.i (.var 4) (.x (.var 5) (.i (.var 6) (.i (.var 7) (.x (.var 8) .nil))))))))))))))))))))
                                (.ret ((.v (.one (.z (.bool (.lit true))))), [], 4))
                                (.ret ((.v (.one (.z (.bool (.eqb (.fn 78 (.i (.var 0) (.i (.var 1) (.i (.var 2) (.i (.var 3) (.i (.var 4) (.x (.var 5) (.i (.var 6) (.i (.var 7) (.x (.var 8) (.i (.var 18) (.i (.var 19) .nil)))))))))))) (.fn 78 (.i (.var 9) (.i (.var 10) (.i (.var 11) (.i (.var 12) (.i (.var 13) (.x (.var 14) (.i (.var 15) (.i (.var 16) (.x (.var 17) (.i (.var 18) (.i (.var 19) .nil))))))))))))))))), [], 4))))
                            (.ret ((.v (.one (.z (.bool (.lit false))))), [], 4)))))
                      (.ret ((.v (.one (.z (.bool (.lit false))))), [], 4)))
                    (.ret ((.v (.one (.z (.bool (.lit false))))), [], 4)))
                  (.ret ((.v (.one (.z (.bool (.lit false))))), [], 4)))))
            (.ite (.cmp .neq (.fn 78 (.i (.var 0) (.i (.var 1) (.i (.var 2) (.i (.var 3) (.i (.var 4) (.x (.var 5) (.i (.var 6) (.i (.var 7) (.x (.var 8) (.i (.var 18) (.i (.var 19) .nil)))))))))))) (.lit 0))
              (.ret ((.v (.one (.z (.bool (.lit false))))), [], 4))
              (.ite (.cmp .neq (.fn 78 (.i (.var 9) (.i (.var 10) (.i (.var 11) (.i (.var 12) (.i (.var 13) (.x (.var 14) (.i (.var 15) (.i (.var 16) (.x (.var 17) (.i (.var 18) (.i (.var 19) .nil)))))))))))) (.lit 0))
                (.ret ((.v (.one (.z (.bool (.lit false))))), [], 4))
                (.ret ((.v (.one (.z (.bool (.lit false))))), [], 4)))))
          (.ite (.cmp .neq (.fn 78 (.i (.var 0) (.i (.var 1) (.i (.var 2) (.i (.var 3) (.i (.var 4) (.x (.var 5) (.i (.var 6) (.i (.var 7) (.x (.var 8) (.i (.var 18) (.i (.var 19) .nil)))))))))))) (.lit 0))
            (.ret ((.v (.one (.z (.bool (.lit false))))), [], 4))
            (.ite (.cmp .neq (.fn 78 (.i (.var 9) (.i (.var 10) (.i (.var 11) (.i (.var 12) (.i (.var 13) (.x (.var 14) (.i (.var 15) (.i (.var 16) (.x (.var 17) (.i (.var 18) (.i (.var 19) .nil)))))))))))) (.lit 0))
              (.ret ((.v (.one (.z (.bool (.lit false))))), [], 4))
              (.ret ((.v (.one (.z (.bool (.lit false))))), [], 4)))))
        (.ite (.cmp .neq (.fn 78 (.i (.var 0) (.i (.var 1) (.i (.var 2) (.i (.var 3) (.i (.var 4) (.x (.var 5) (.i (.var 6) (.i (.var 7) (.x (.var 8) (.i (.var 18) (.i (.var 19) .nil)))))))))))) (.lit 0))
          (.ret ((.v (.one (.z (.bool (.lit false))))), [], 4))
          (.ite (.cmp .neq (.fn 78 (.i (.var 9) (.i (.var 10) (.i (.var 11) (.i (.var 12) (.i (.var 13) (.x (.var 14) (.i (.var 15) (.i (.var 16) (.x (.var 17) (.i (.var 18) (.i (.var 19) .nil)))))))))))) (.lit 0))
            (.ret ((.v (.one (.z (.bool (.lit false))))), [], 4))
            (.ret ((.v (.one (.z (.bool (.lit false))))), [], 4)))))
      (.ite (.cmp .neq (.fn 78 (.i (.var 0) (.i (.var 1) (.i (.var 2) (.i (.var 3) (.i (.var 4) (.x (.var 5) (.i (.var 6) (.i (.var 7) (.x (.var 8) (.i (.var 18) (.i (.var 19) .nil)))))))))))) (.lit 0))
        (.ret ((.v (.one (.z (.bool (.lit false))))), [], 4))
        (.ite (.cmp .neq (.fn 78 (.i (.var 9) (.i (.var 10) (.i (.var 11) (.i (.var 12) (.i (.var 13) (.x (.var 14) (.i (.var 15) (.i (.var 16) (.x (.var 17) (.i (.var 18) (.i (.var 19) .nil)))))))))))) (.lit 0))
          (.ret ((.v (.one (.z (.bool (.lit false))))), [], 4))
          (.ret ((.v (.one (.z (.bool (.lit false))))), [], 4)))))
    (.ite (.cmp .neq (.fn 78 (.i (.var 0) (.i (.var 1) (.i (.var 2) (.i (.var 3) (.i (.var 4) (.x (.var 5) (.i (.var 6) (.i (.var 7) (.x (.var 8) (.i (.var 18) (.i (.var 19) .nil)))))))))))) (.lit 0))
      (.ret ((.v (.one (.z (.bool (.eqb (.cmp .eql (.fn 119 (.i (.var 0) (.i (.var 1) (.i (.var 2) (.i (.var 3) (.i (.var 4) (.x (.var 5) (.i (.var 6) (.i (.var 7) (.x (.var 8) (.i (.var 9) (.i (.var 10) (.i (.var 11) (.i (.var 12) (.i (.var 13) (.x (.var 14) (.i (.var 15) (.i (.var 16) (.x (.var 17) .nil))))))))))))))))))) (.lit 0)) (.cmp .eql (.fn 119 (.i (.var 9) (.i (.var 10) (.i (.var 11) (.i (.var 12) (.i (.var 13) (.x (.var 14) (.i (.var 15) (.i (.var 16) (.x (.var 17) (.i (.var 0) (.i (.var 1) (.i (.var 2) (.i (.var 3) (.i (.var 4) (.x (.var 5) (.i (.var 6) (.i (.var 7) (.x (.var 8) .nil))))))))))))))))))) (.lit 0))))))), [], 4))
      (.ite (.cmp .neq (.fn 78 (.i (.var 9) (.i (.var 10) (.i (.var 11) (.i (.var 12) (.i (.var 13) (.x (.var 14) (.i (.var 15) (.i (.var 16) (.x (.var 17) (.i (.var 18) (.i (.var 19) .nil)))))))))))) (.lit 0))
        (.ret ((.v (.one (.z (.bool (.eqb (.cmp .eql (.fn 119 (.i (.var 0) (.i (.var 1) (.i (.var 2) (.i (.var 3) (.i (.var 4) (.x (.var 5) (.i (.var 6) (.i (.var 7) (.x (.var 8) (.i (.var 9) (.i (.var 10) (.i (.var 11) (.i (.var 12) (.i (.var 13) (.x (.var 14) (.i (.var 15) (.i (.var 16) (.x (.var 17) .nil))))))))))))))))))) (.lit 0)) (.cmp .eql (.fn 119 (.i (.var 9) (.i (.var 10) (.i (.var 11) (.i (.var 12) (.i (.var 13) (.x (.var 14) (.i (.var 15) (.i (.var 16) (.x (.var 17) (.i (.var 0) (.i (.var 1) (.i (.var 2) (.i (.var 3) (.i (.var 4) (.x (.var 5) (.i (.var 6) (.i (.var 7) (.x (.var 8) .nil))))))))))))))))))) (.lit 0))))))), [], 4))
        (.ite (.cmp .eql (.fn 119 (.i (.var 0) (.i (.var 1) (.i (.var 2) (.i (.var 3) (.i (.var 4) (.x (.var 5) (.i (.var 6) (.i (.var 7) (.x (.var 8) (.i (.var 9) (.i (.var 10) (.i (.var 11) (.i (.var 12) (.i (.var 13) (.x (.var 14) (.i (.var 15) (.i (.var 16) (.x (.var 17) .nil))))))))))))))))))) (.lit 0))
          (.ite (.cmp .eql (.fn 119 (.i (.var 9) (.i (.var 10) (.i (.var 11) (.i (.var 12) (.i (.var 13) (.x (.var 14) (.i (.var 15) (.i (.var 16) (.x (.var 17) (.i (.var 0) (.i (.var 1) (.i (.var 2) (.i (.var 3) (.i (.var 4) (.x (.var 5) (.i (.var 6) (.i (.var 7) (.x (.var 8) .nil))))))))))))))))))) (.lit 0))
            (.ite (.not (.fn 119 (.i (.var 0) (.i (.var 1) (.i (.var 2) (.i (.var 3) (.i (.var 4) (.x (.var 5) (.i (.var 6) (.i (.var 7) (.x (.var 8) (.i (.var 9) (.i (.var 10) (.i (.var 11) (.i (.var 12) (.i (.var 13) (.x (.var 14) (.i (.var 15) (.i (.var 16) (.x (.var 17) .nil))))))))))))))))))))
              (.ite (.not (.fn 119 (.i (.var 0) (.i (.var 1) (.i (.var 2) (.i (.var 3) (.i (.var 4) (.x (.var 5) (.i (.var 6) (.i (.var 7) (.x (.var 8) (.i (.var 9) (.i (.var 10) (.i (.var 11) (.i (.var 12) (.i (.var 13) (.x (.var 14) (.i (.var 15) (.i (.var 16) (.x (.var 17) .nil))))))))))))))))))))
                (.ret ((.v (.one (.z (.bool (.lit true))))), [], 4))
                (.ite (.not (.fn 119 (.i (.var 9) (.i (.var 10) (.i (.var 11) (.i (.var 12) (.i (.var 13) (.x (.var 14) (.i (.var 15) (.i (.var 16) (.x (.var 17) (.i (.var 0) (.i (.var 1) (.i (.var 2) (.i (.var 3) (.i (.var 4) (.x (.var 5) (.i (.var 6) (.i (.var 7) (.x (.var 8) .nil))))))))))))))))))))
                  (.ret ((.v (.one (.z (.bool (.lit true))))), [], 4))
                  (.ret ((.v (.one (.z (.bool (.eqb (.fn 78 (.i (.var 0) (.i (.var 1) (.i (.var 2) (.i (.var 3) (.i (.var 4) (.x (.var 5) (.i (.var 6) (.i (.var 7) (.x (.var 8) (.i (.var 18) (.i (.var 19) .nil)))))))))))) (.fn 78 (.i (.var 9) (.i (.var 10) (.i (.var 11) (.i (.var 12) (.i (.var 13) (.x (.var 14) (.i (.var 15) (.i (.var 16) (.x (.var 17) (.i (.var 18) (.i (.var 19) .nil))))))))))))))))), [], 4))))
              (.ite (.not (.fn 78 (.i (.var 9) (.i (.var 10) (.i (.var 11) (.i (.var 12) (.i (.var 13) (.x (.var 14) (.i (.var 15) (.i (.var 16) (.x (.var 17) (.i (.var 18) (.i (.var 19) .nil)))))))))))))
                (.ite (.not (.fn 119 (.i (.var 0) (.i (.var 1) (.i (.var 2) (.i (.var 3) (.i (.var 4) (.x (.var 5) (.i (.var 6) (.i (.var 7) (.x (.var 8) (.i (.var 9) (.i (.var 10) (.i (.var 11) (.i (.var 12) (.i (.var 13) (.x (.var 14) (.i (.var 15) (.i (.var 16) (.x (.var 17) .nil))))))))))))))))))))
                  (.ret ((.v (.one (.z (.bool (.lit true))))), [], 4))
                  (.ite (.not (.fn 119 (.i (.var 9) (.i (.var 10) (.i (.var 11) (.i (.var 12) (.i (.var 13) (.x (.var 14) (.i (.var 15) (.i (.var 16) (.x (.var 17) (.i (.var 0) (.i (.var 1) (.i (.var 2) (.i (.var 3) (.i (.var 4) (.x (.var 5) (.i (.var 6) (.i (.var 7) (.x (.var 8) .nil))))))))))))))))))))
                    (.ret ((.v (.one (.z (.bool (.lit true))))), [], 4))
                    (.ret ((.v (.one (.z (.bool (.eqb (.fn 78 (.i (.var 0) (.i (.var 1) (.i (.var 2) (.i (.var 3) (.i (.var 4) (.x (.var 5) (.i (.var 6) (.i (.var 7) (.x (.var 8) (.i (.var 18) (.i (.var 19) .nil)))))))))))) (.fn 78 (.i (.var 9) (.i (.var 10) (.i (.var 11) (.i (.var 12) (.i (.var 13) (.x (.var 14) (.i (.var 15) (.i (.var 16) (.x (.var 17) (.i (.var 18) (.i (.var 19) .nil))))))))))))))))), [], 4))))
                (.ite (.fn 78 (.i (.var 0) (.i (.var 1) (.i (.var 2) (.i (.var 3) (.i (.var 4) (.x (.var 5) (.i (.var 6) (.i (.var 7) (.x (.var 8) (.i (.var 18) (.i (.var 19) .nil))))))))))))
                  (.ite (.not (.fn 119 (.i (.var 0) (.i (.var 1) (.i (.var 2) (.i (.var 3) (.i (.var 4) (.x (.var 5) (.i (.var 6) (.i (.var 7) (.x (.var 8) (.i (.var 9) (.i (.var 10) (.i (.var 11) (.i (.var 12) (.i (.var 13) (.x (.var 14) (.i (.var 15) (.i (.var 16) (.x (.var 17) .nil))))))))))))))))))))
                    (.ret ((.v (.one (.z (.bool (.lit true))))), [], 4))
                    (.ite (.not (.fn 119 (.i (.var 9) (.i (.var 10) (.i (.var 11) (.i (.var 12) (.i (.var 13) (.x (.var 14) (.i (.var 15) (.i (.var 16) (.x (.var 17) (.i (.var 0) (.i (.var 1) (.i (.var 2) (.i (.var 3) (.i (.var 4) (.x (.var 5) (.i (.var 6) (.i (.var 7) (.x (.var 8) .nil))))))))))))))))))))
                      (.ret ((.v (.one (.z (.bool (.lit true))))), [], 4))
                      (.ret ((.v (.one (.z (.bool (.eqb (.fn 78 (.i (.var 0) (.i (.var 1) (.i (.var 2) (.i (.var 3) (.i (.var 4) (.x (.var 5) (.i (.var 6) (.i (.var 7) (.x (.var 8) (.i (.var 18) (.i (.var 19) .nil)))))))))))) (.fn 78 (.i (.var 9) (.i (.var 10) (.i (.var 11) (.i (.var 12) (.i (.var 13) (.x (.var 14) (.i (.var 15) (.i (.var 16) (.x (.var 17) (.i (.var 18) (.i (.var 19) .nil))))))))))))))))), [], 4))))
                  (.ret ((.v (.one (.z (.bool (.lit false))))), [], 4)))))
            (.ret ((.v (.one (.z (.bool (.lit false))))), [], 4)))
          (.ret ((.v (.one (.z (.bool (.lit false))))), [], 4))))))
  (.ite (.cmp .neq (.fn 78 (.i (.var 0) (.i (.var 1) (.i (.var 2) (.i (.var 3) (.i (.var 4) (.x (.var 5) (.i (.var 6) (.i (.var 7) (.x (.var 8) (.i (.var 18) (.i (.var 19) .nil)))))))))))) (.lit 0))
    (.ret ((.v (.one (.z (.bool (.eqb (.cmp .eql (.fn 119 (.i (.var 0) (.i (.var 1) (.i (.var 2) (.i (.var 3) (.i (.var 4) (.x (.var 5) (.i (.var 6) (.i (.var 7) (.x (.var 8) (.i (.var 9) (.i (.var 10) (.i (.var 11) (.i (.var 12) (.i (.var 13) (.x (.var 14) (.i (.var 15) (.i (.var 16) (.x (.var 17) .nil))))))))))))))))))) (.lit 0)) (.cmp .eql (.fn 119 (.i (.var 9) (.i (.var 10) (.i (.var 11) (.i (.var 12) (.i (.var 13) (.x (.var 14) (.i (.var 15) (.i (.var 16) (.x (.var 17) (.i (.var 0) (.i (.var 1) (.i (.var 2) (.i (.var 3) (.i (.var 4) (.x (.var 5) (.i (.var 6) (.i (.var 7) (.x (.var 8) .nil))))))))))))))))))) (.lit 0))))))), [], 4))
    (.ite (.cmp .neq (.fn 78 (.i (.var 9) (.i (.var 10) (.i (.var 11) (.i (.var 12) (.i (.var 13) (.x (.var 14) (.i (.var 15) (.i (.var 16) (.x (.var 17) (.i (.var 18) (.i (.var 19) .nil)))))))))))) (.lit 0))
      (.ret ((.v (.one (.z (.bool (.eqb (.cmp .eql (.fn 119 (.i (.var 0) (.i (.var 1) (.i (.var 2) (.i (.var 3) (.i (.var 4) (.x (.var 5) (.i (.var 6) (.i (.var 7) (.x (.var 8) (.i (.var 9) (.i (.var 10) (.i (.var 11) (.i (.var 12) (.i (.var 13) (.x (.var 14) (.i (.var 15) (.i (.var 16) (.x (.var 17) .nil))))))))))))))))))) (.lit 0)) (.cmp .eql (.fn 119 (.i (.var 9) (.i (.var 10) (.i (.var 11) (.i (.var 12) (.i (.var 13) (.x (.var 14) (.i (.var 15) (.i (.var 16) (.x (.var 17) (.i (.var 0) (.i (.var 1) (.i (.var 2) (.i (.var 3) (.i (.var 4) (.x (.var 5) (.i (.var 6) (.i (.var 7) (.x (.var 8) .nil))))))))))))))))))) (.lit 0))))))), [], 4))
      (.ite (.cmp .eql (.fn 119 (.i (.var 0) (.i (.var 1) (.i (.var 2) (.i (.var 3) (.i (.var 4) (.x (.var 5) (.i (.var 6) (.i (.var 7) (.x (.var 8) (.i (.var 9) (.i (.var 10) (.i (.var 11) (.i (.var 12) (.i (.var 13) (.x (.var 14) (.i (.var 15) (.i (.var 16) (.x (.var 17) .nil))))))))))))))))))) (.lit 0))
        (.ite (.cmp .eql (.fn 119 (.i (.var 9) (.i (.var 10) (.i (.var 11) (.i (.var 12) (.i (.var 13) (.x (.var 14) (.i (.var 15) (.i (.var 16) (.x (.var 17) (.i (.var 0) (.i (.var 1) (.i (.var 2) (.i (.var 3) (.i (.var 4) (.x (.var 5) (.i (.var 6) (.i (.var 7) (.x (.var 8) .nil))))))))))))))))))) (.lit 0))
          (.ite (.not (.fn 119 (.i (.var 0) (.i (.var 1) (.i (.var 2) (.i (.var 3) (.i (.var 4) (.x (.var 5) (.i (.var 6) (.i (.var 7) (.x (.var 8) (.i (.var 9) (.i (.var 10) (.i (.var 11) (.i (.var 12) (.i (.var 13) (.x (.var 14) (.i (.var 15) (.i (.var 16) (.x (.var 17) .nil))))))))))))))))))))
            (.ite (.not (.fn 119 (.i (.var 0) (.i (.var 1) (.i (.var 2) (.i (.var 3) (.i (.var 4) (.x (.var 5) (.i (.var 6) (.i (.var 7) (.x (.var 8) (.i (.var 9) (.i (.var 10) (.i (.var 11) (.i (.var 12) (.i (.var 13) (.x (.var 14) (.i (.var 15) (.i (.var 16) (.x (.var 17) .nil))))))))))))))))))))
              (.ret ((.v (.one (.z (.bool (.lit true))))), [], 4))
              (.ite (.not (.fn 119 (.i (.var 9) (.i (.var 10) (.i (.var 11) (.i (.var 12) (.i (.var 13) (.x (.var 14) (.i (.var 15) (.i (.var 16) (.x (.var 17) (.i (.var 0) (.i (.var 1) (.i (.var 2) (.i (.var 3) (.i (.var 4) (.x (.var 5) (.i (.var 6) (.i (.var 7) (.x (.var 8) .nil))))))))))))))))))))
                (.ret ((.v (.one (.z (.bool (.lit true))))), [], 4))
                (.ret ((.v (.one (.z (.bool (.eqb (.fn 78 (.i (.var 0) (.i (.var 1) (.i (.var 2) (.i (.var 3) (.i (.var 4) (.x (.var 5) (.i (.var 6) (.i (.var 7) (.x (.var 8) (.i (.var 18) (.i (.var 19) .nil)))))))))))) (.fn 78 (.i (.var 9) (.i (.var 10) (.i (.var 11) (.i (.var 12) (.i (.var 13) (.x (.var 14) (.i (.var 15) (.i (.var 16) (.x (.var 17) (.i (.var 18) (.i (.var 19) .nil))))))))))))))))), [], 4))))
            (.ite (.not (.fn 78 (.i (.var 9) (.i (.var 10) (.i (.var 11) (.i (.var 12) (.i (.var 13) (.x (.var 14) (.i (.var 15) (.i (.var 16) (.x (.var 17) (.i (.var 18) (.i (.var 19) .nil)))))))))))))
              (.ite (.not (.fn 119 (.i (.var 0) (.i (.var 1) (.i (.var 2) (.i (.var 3) (.i (.var 4) (.x (.var 5) (.i (.var 6) (.i (.var 7) (.x (.var 8) (.i (.var 9) (.i (.var 10) (.i (.var 11) (.i (.var 12) (.i (.var 13) (.x (.var 14) (.i (.var 15) (.i (.var 16) (.x (.var 17) .nil))))))))))))))))))))
                (.ret ((.v (.one (.z (.bool (.lit true))))), [], 4))
                (.ite (.not (.fn 119 (.i (.var 9) (.i (.var 10) (.i (.var 11) (.i (.var 12) (.i (.var 13) (.x (.var 14) (.i (.var 15) (.i (.var 16) (.x (.var 17) (.i (.var 0) (.i (.var 1) (.i (.var 2) (.i (.var 3) (.i (.var 4) (.x (.var 5) (.i (.var 6) (.i (.var 7) (.x (.var 8) .nil))))))))))))))))))))
                  (.ret ((.v (.one (.z (.bool (.lit true))))), [], 4))
                  (.ret ((.v (.one (.z (.bool (.eqb (.fn 78 (.i (.var 0) (.i (.var 1) (.i (.var 2) (.i (.var 3) (.i (.var 4) (.x (.var 5) (.i (.var 6) (.i (.var 7) (.x (.var 8) (.i (.var 18) (.i (.var 19) .nil)))))))))))) (.fn 78 (.i (.var 9) (.i (.var 10) (.i (.var 11) (.i (.var 12) (.i (.var 13) (.x (.var 14) (.i (.var 15) (.i (.var 16) (.x (.var 17) (.i (.var 18) (.i (.var 19) .nil))))))))))))))))), [], 4))))
              (.ite (.fn 78 (.i (.var 0) (.i (.var 1) (.i (.var 2) (.i (.var 3) (.i (.var 4) (.x (.var 5) (.i (.var 6) (.i (.var 7) (.x (.var 8) (.i (.var 18) (.i (.var 19) .nil))))))))))))
                (.ite (.not (.fn 119 (.i (.var 0) (.i (.var 1) (.i (.var 2) (.i (.var 3) (.i (.var 4) (.x (.var 5) (.i (.var 6) (.i (.var 7) (.x (.var 8) (.i (.var 9) (.i (.var 10) (.i (.var 11) (.i (.var 12) (.i (.var 13) (.x (.var 14) (.i (.var 15) (.i (.var 16) (.x (.var 17) .nil))))))))))))))))))))
                  (.ret ((.v (.one (.z (.bool (.lit true))))), [], 4))
                  (.ite (.not (.fn 119 (.i (.var 9) (.i (.var 10) (.i (.var 11) (.i (.var 12) (.i (.var 13) (.x (.var 14) (.i (.var 15) (.i (.var 16) (.x (.var 17) (.i (.var 0) (.i (.var 1) (.i (.var 2) (.i (.var 3) (.i (.var 4) (.x (.var 5) (.i (.var 6) (.i (.var 7) (.x (.var 8) .nil))))))))))))))))))))
                    (.ret ((.v (.one (.z (.bool (.lit true))))), [], 4))
                    (.ret ((.v (.one (.z (.bool (.eqb (.fn 78 (.i (.var 0) (.i (.var 1) (.i (.var 2) (.i (.var 3) (.i (.var 4) (.x (.var 5) (.i (.var 6) (.i (.var 7) (.x (.var 8) (.i (.var 18) (.i (.var 19) .nil)))))))))))) (.fn 78 (.i (.var 9) (.i (.var 10) (.i (.var 11) (.i (.var 12) (.i (.var 13) (.x (.var 14) (.i (.var 15) (.i (.var 16) (.x (.var 17) (.i (.var 18) (.i (.var 19) .nil))))))))))))))))), [], 4))))
                (.ret ((.v (.one (.z (.bool (.lit false))))), [], 4)))))
          (.ret ((.v (.one (.z (.bool (.lit false))))), [], 4)))
        (.ret ((.v (.one (.z (.bool (.lit false))))), [], 4))))))
-- end trCovers7
set_option maxRecDepth 100000 in
theorem trCovers7_is : T.norm 0 (call Try.prog ctE7 (Lt.of []) 100 3 (symArgs 0 [feat, feat, pt]) [] 0) TT.ret = trCovers7 := by kernel_rfl
theorem trCovers7_low : trCovers7.low 1000 = true := by kernel_rfl
-- term trHolds7: call Try.prog ctE7 (Lt.of []) 100 4 (symArgs 0 [feat, feat, feat]) [] 0
def trHolds7 : TT OpR :=
(.ite (.eqb (.cmp .eql (.fn 119 (.i (.var 0) (.i (.var 1) (.i (.var 2) (.i (.var 3) (.i (.var 4) (.x (.var 5) (.i (.var 6) (.i (.var 7) (.x (.var 8) (.i (.var 0) (.i (.var 1) (.i (.var 2) (.i (.var 3) (.i (.var 4) (.x (.var 5) (.i (.var 6) (.i (.var 7) (.x (.var 8) .nil))))))))))))))))))) (.lit 0)) (.fn 76 (.i (.var 0) (.i (.var 1) (.i (.var 2) (.i (.var 3) (.i (.var 4) (.x (.var 5) (.i (.var 6) (.i (.var 7) (.x (.var 8) .nil)))))))))))
  (.ite (.cmp .neq (.fn 119 (.i (.var 0) (.i (.var 1) (.i (.var 2) (.i (.var 3) (.i (.var 4) (.x (.var 5) (.i (.var 6) (.i (.var 7) (.x (.var 8) (.i (.var 9) (.i (.var 10) (.i (.var 11) (.i (.var 12) (.i (.var 13) (.x (.var 14) (.i (.var 15) (.i (.var 16) (.x (.var 17) .nil))))))))))))))))))) (.lit 0))
    (.ret ((.v (.one (.z (.bool (.eqb (.fn 119 (.i (.var 0) (.i (.var 1) (.i (.var 2) (.i (.var 3) (.i (.var 4) (.x (.var 5) (.i (.var 6) (.i (.var 7) (.x (.var 8) (.i (.var 0) (.i (.var 1) (.i (.var 2) (.i (.var 3) (.i (.var 4) (.x (.var 5) (.i (.var 6) (.i (.var 7) (.x (.var 8) .nil))))))))))))))))))) (.cmp .eql (.fn 119 (.i (.var 0) (.i (.var 1) (.i (.var 2) (.i (.var 3) (.i (.var 4) (.x (.var 5) (.i (.var 6) (.i (.var 7) (.x (.var 8) (.i (.var 0) (.i (.var 1) (.i (.var 2) (.i (.var 3) (.i (.var 4) (.x (.var 5) (.i (.var 6) (.i (.var 7) (.x (.var 8) .nil))))))))))))))))))) (.lit 0))))))), [], 3))
    (.ite (.cmp .neq (.fn 119 (.i (.var 9) (.i (.var 10) (.i (.var 11) (.i (.var 12) (.i (.var 13) (.x (.var 14) (.i (.var 15) (.i (.var 16) (.x (.var 17) (.i (.var 18) (.i (.var 19) (.i (.var 20) (.i (.var 21) (.i (.var 22) (.x (.var 23) (.i (.var 24) (.i (.var 25) (.x (.var 26) .nil))))))))))))))))))) (.lit 0))
      (.ret ((.v (.one (.z (.bool (.eqb (.fn 119 (.i (.var 0) (.i (.var 1) (.i (.var 2) (.i (.var 3) (.i (.var 4) (.x (.var 5) (.i (.var 6) (.i (.var 7) (.x (.var 8) (.i (.var 0) (.i (.var 1) (.i (.var 2) (.i (.var 3) (.i (.var 4) (.x (.var 5) (.i (.var 6) (.i (.var 7) (.x (.var 8) .nil))))))))))))))))))) (.cmp .eql (.fn 119 (.i (.var 0) (.i (.var 1) (.i (.var 2) (.i (.var 3) (.i (.var 4) (.x (.var 5) (.i (.var 6) (.i (.var 7) (.x (.var 8) (.i (.var 0) (.i (.var 1) (.i (.var 2) (.i (.var 3) (.i (.var 4) (.x (.var 5) (.i (.var 6) (.i (.var 7) (.x (.var 8) .nil))))))))))))))))))) (.lit 0))))))), [], 3))
      (.ite (.eqb (.fn 119 (.i (.var 0) (.i (.var 1) (.i (.var 2) (.i (.var 3) (.i (.var 4) (.x (.var 5) (.i (.var 6) (.i (.var 7) (.x (.var 8) (.i (.var 0) (.i (.var 1) (.i (.var 2) (.i (.var 3) (.i (.var 4) (.x (.var 5) (.i (.var 6) (.i (.var 7) (.x (.var 8) .nil))))))))))))))))))) (.cmp .eql (.fn 119 (.i (.var 0) (.i (.var 1) (.i (.var 2) (.i (.var 3) (.i (.var 4) (.x (.var 5) (.i (.var 6) (.i (.var 7) (.x (.var 8) (.i (.var 0) (.i (.var 1) (.i (.var 2) (.i (.var 3) (.i (.var 4) (.x (.var 5) (.i (.var 6) (.i (.var 7) (.x (.var 8) .nil))))))))))))))))))) (.lit 0)))
        (.ite (.cmp .eql (.fn 119 (.i (.var 0) (.i (.var 1) (.i (.var 2) (.i (.var 3) (.i (.var 4) (.x (.var 5) (.i (.var 6) (.i (.var 7) (.x (.var 8) (.i (.var 18) (.i (.var 19) (.i (.var 20) (.i (.var 21) (.i (.var 22) (.x (.var 23) (.i (.var 24) (.i (.var 25) (.x (.var 26) .nil))))))))))))))))))) (.lit 0))
          (.ite (.not (.fn 119 (.i (.var 0) (.i (.var 1) (.i (.var 2) (.i (.var 3) (.i (.var 4) (.x (.var 5) (.i (.var 6) (.i (.var 7) (.x (.var 8) (.i (.var 9) (.i (.var 10) (.i (.var 11) (.i (.var 12) (.i (.var 13) (.x (.var 14) (.i (.var 15) (.i (.var 16) (.x (.var 17) .nil))))))))))))))))))))
            (.ret ((.v (.one (.z (.bool (.lit true))))), [], 3))
            (.ite (.not (.fn 119 (.i (.var 9) (.i (.var 10) (.i (.var 11) (.i (.var 12) (.i (.var 13) (.x (.var 14) (.i (.var 15) (.i (.var 16) (.x (.var 17) (.i (.var 18) (.i (.var 19) (.i (.var 20) (.i (.var 21) (.i (.var 22) (.x (.var 23) (.i (.var 24) (.i (.var 25) (.x (.var 26) .nil))))))))))))))))))))
              (.ret ((.v (.one (.z (.bool (.lit true))))), [], 3))
              (.ret ((.v (.one (.z (.bool (.fn 119 (.i (.var 0) (.i (.var 1) (.i (.var 2) (.i (.var 3) (.i (.var 4) (.x (.var 5) (.i (.var 6) (.i (.var 7) (.x (.var 8) (.i (.var 18) (.i (.var 19) (.i (.var 20) (.i (.var 21) (.i (.var 22) (.x (.var 23) (.i (.var 24) (.i (.var 25) (.x (.var 26) .nil))))))))))))))))))))))), [], 3))))
          (.ret ((.v (.one (.z (.bool (.lit false))))), [], 3)))
        (.ret ((.v (.one (.z (.bool (.lit false))))), [], 3)))))
  (.ite (.cmp .neq (.fn 119 (.i (.var 0) (.i (.var 1) (.i (.var 2) (.i (.var 3) (.i (.var 4) (.x (.var 5) (.i (.var 6) (.i (.var 7) (.x (.var 8) (.i (.var 9) (.i (.var 10) (.i (.var 11) (.i (.var 12) (.i (.var 13) (.x (.var 14) (.i (.var 15) (.i (.var 16) (.x (.var 17) .nil))))))))))))))))))) (.lit 0))
    (.ret ((.v (.one (.z (.bool (.lit false))))), [], 3))
    (.ite (.cmp .neq (.fn 119 (.i (.var 9) (.i (.var 10) (.i (.var 11) (.i (.var 12) (.i (.var 13) (.x (.var 14) (.i (.var 15) (.i (.var 16) (.x (.var 17) (.i (.var 18) (.i (.var 19) (.i (.var 20) (.i (.var 21) (.i (.var 22) (.x (.var 23) (.i (.var 24) (.i (.var 25) (.x (.var 26) .nil))))))))))))))))))) (.lit 0))
      (.ret ((.v (.one (.z (.bool (.lit false))))), [], 3))
      (.ret ((.v (.one (.z (.bool (.lit false))))), [], 3)))))
-- end trHolds7
set_option maxRecDepth 100000 in
theorem trHolds7_is : T.norm 0 (call Try.prog ctE7 (Lt.of []) 100 4 (symArgs 0 [feat, feat, feat]) [] 0) TT.ret = trHolds7 := by kernel_rfl
theorem trHolds7_low : trHolds7.low 1000 = true := by kernel_rfl
end Go.Proofs.Ytglepdhapakmbaa
/- Chapter 07: the law FeatureTouches. -/
namespace Go.Proofs.Ytglepdhapakmbaa
open Go.RowKit
theorem sq_le7 {a b : Int} (hb : 0 ≤ b) (h : a * a ≤ b * b) : a ≤ b := by
  rcases Int.lt_or_le b a with h' | h'
  · have h1 := Int.mul_le_mul_of_nonneg_left (show b ≤ a by omega) hb
    have h2 := Int.mul_lt_mul_of_pos_right h' (show 0 < a by omega)
    omega
  · exact h'
theorem triangle7 {ux uy vx vy a b : Int} (ha : 0 ≤ a) (hb : 0 ≤ b) (hu : ux * ux + uy * uy ≤ a * a) (hv : vx * vx + vy * vy ≤ b * b) : (ux + vx) * (ux + vx) + (uy + vy) * (uy + vy) ≤ (a + b) * (a + b) := by
  have h0 := Int.mul_le_mul hu hv (Int.add_nonneg (sq_nn vx) (sq_nn vy)) (sq_nn a)
  have h1 := sq_nn (ux * vy - uy * vx)
  have h2 : ux * vx + uy * vy ≤ a * b := sq_le7 (Int.mul_nonneg ha hb) (by grind)
  grind
theorem near_point7 {px py ax ay d : Int} : nearB px py ax ay ax ay d = decide (dist2 ax ay px py ≤ d * d) := by
  unfold nearB
  rw [if_pos (show dotI ax ay ax ay px py ≤ 0 by unfold dotI; rw [Int.sub_self, Int.sub_self]; simp)]
section
variable {i1 k1 x1 y1 r1 d1 s1 i2 k2 x2 y2 r2 d2 s2 i3 k3 x3 y3 r3 d3 s3 px py : Int} {a1 t1 a2 t2 a3 t3 : Rows}

theorem sq_le_sq {a b : Int} (h0 : 0 ≤ a) (h : a ≤ b) : a * a ≤ b * b := Int.mul_le_mul h h h0 (by omega)

/-- A feature's place or area. -/
theorem cov_disc (h : featB i1 k1 x1 y1 r1 a1 d1 s1 t1 = true) (h3 : k1 ≠ 3) (h6 : k1 ≠ 6) (h4 : k1 ≠ 4) (hp : placeB px py = true) : covX k1 x1 y1 r1 a1 px py = decide (dist2 x1 y1 px py ≤ r1 * r1) := by
  obtain ⟨q1, q2⟩ := feat_disc h h3 h6
  rw [covX, if_neg h4, if_neg (by omega), (nearR_eq hp q1 q1 (by omega)).1, (nearR_eq hp q1 q1 (by omega)).2, near_point7, decide_eq_true (show (0 : Int) = 0 from rfl), Bool.true_and]
theorem cov_area (h : featB i1 k1 x1 y1 r1 a1 d1 s1 t1 = true) (hk : k1 = 3 ∨ k1 = 6) (hp : placeB px py = true) : covX k1 x1 y1 r1 a1 px py = decide (0 ≤ placeN a1 px py a1.length 0 false) := by
  have q := feat_area h hk
  rw [covX, if_neg (by omega), if_pos hk, (pinR_eq q hp).1, (pinR_eq q hp).2, decide_eq_decide]
  exact ⟨fun h => h.2, fun h => ⟨rfl, h⟩⟩
theorem cov_light (hk : k1 = 4) : covX k1 x1 y1 r1 a1 px py = false := by rw [covX, if_pos hk]
theorem dist2_comm (a b c d : Int) : dist2 a b c d = dist2 c d a b := by unfold dist2; grind
theorem touch_comm (h1 : featB i1 k1 x1 y1 r1 a1 d1 s1 t1 = true) (h2 : featB i2 k2 x2 y2 r2 a2 d2 s2 t2 = true) : touchX k1 x1 y1 r1 a1 k2 x2 y2 r2 a2 = touchX k2 x2 y2 r2 a2 k1 x1 y1 r1 a1 := by
  unfold touchX
  by_cases h4 : k1 = 4 ∨ k2 = 4
  · rw [if_pos h4, if_pos (by omega)]
  rw [if_neg h4, if_neg (show ¬ (k2 = 4 ∨ k1 = 4) by omega)]
  by_cases e1 : k1 = 3 ∨ k1 = 6
  · by_cases e2 : k2 = 3 ∨ k2 = 6
    · rw [if_pos e1, if_pos e2, if_pos e2, if_pos e1, touX_comm (feat_area h2 e2) (feat_area h1 e1)]
    · rw [if_pos e1, if_neg e2, if_neg e2, if_pos e1]
  · by_cases e2 : k2 = 3 ∨ k2 = 6
    · rw [if_neg e1, if_pos e2, if_pos e2, if_neg e1]
    · rw [if_neg e1, if_neg e2, if_neg e2, if_neg e1, near_point7, near_point7, dist2_comm, Int.add_comm]
theorem touch_both (h1 : featB i1 k1 x1 y1 r1 a1 d1 s1 t1 = true) (h2 : featB i2 k2 x2 y2 r2 a2 d2 s2 t2 = true) (hp : placeB px py = true) (c1 : covX k1 x1 y1 r1 a1 px py = true) (c2 : covX k2 x2 y2 r2 a2 px py = true) : touchX k1 x1 y1 r1 a1 k2 x2 y2 r2 a2 = true := by
  have n1 : k1 ≠ 4 := fun h => by rw [cov_light h] at c1; exact absurd c1 (by decide)
  have n2 : k2 ≠ 4 := fun h => by rw [cov_light h] at c2; exact absurd c2 (by decide)
  unfold touchX
  rw [if_neg (by omega)]
  by_cases e1 : k1 = 3 ∨ k1 = 6
  · rw [cov_area h1 e1 hp, decide_eq_true_eq] at c1
    rw [if_pos e1]
    by_cases e2 : k2 = 3 ∨ k2 = 6
    · rw [cov_area h2 e2 hp, decide_eq_true_eq] at c2
      rw [if_pos e2]
      exact tou_both (feat_area h1 e1) (feat_area h2 e2) hp c1 c2
    · rw [cov_disc h2 (by omega) (by omega) n2 hp, decide_eq_true_eq] at c2
      rw [if_neg e2, decide_eq_true_eq]
      obtain ⟨q1, q2⟩ := feat_disc h2 (by omega) (by omega)
      exact dis_touch (feat_area h1 e1) q1 hp (by omega) c2 c1
  · rw [cov_disc h1 (by omega) (by omega) n1 hp, decide_eq_true_eq] at c1
    obtain ⟨p1, p2⟩ := feat_disc h1 (by omega) (by omega)
    rw [if_neg e1]
    by_cases e2 : k2 = 3 ∨ k2 = 6
    · rw [cov_area h2 e2 hp, decide_eq_true_eq] at c2
      rw [if_pos e2, decide_eq_true_eq]
      exact dis_touch (feat_area h2 e2) p1 hp (by omega) c1 c2
    · rw [cov_disc h2 (by omega) (by omega) n2 hp, decide_eq_true_eq] at c2
      obtain ⟨q1, q2⟩ := feat_disc h2 (by omega) (by omega)
      rw [if_neg e2, near_point7, decide_eq_true_eq]
      unfold dist2 at c1 c2 ⊢
      have ht := triangle7 (ux := px - x1) (uy := py - y1) (vx := x2 - px) (vy := y2 - py) (a := r1) (b := r2) (by omega) (by omega) c1 (by grind)
      rw [Int.add_comm r1 r2] at ht
      rw [show px - x1 + (x2 - px) = x2 - x1 by omega, show py - y1 + (y2 - py) = y2 - y1 by omega] at ht
      exact ht
theorem hoN_iff {p q : Rows} : ∀ (f i : Nat), hoN p q f i = true ↔ ∀ k, i ≤ k → k < i + f → phB p (lg q k 0) (lg q k 1) (lg q (nxt q.length k) 0) (lg q (nxt q.length k) 1) = true
  | 0, i => ⟨fun _ k h1 h2 => (by omega), fun _ => rfl⟩
  | f + 1, i => by
    rw [hoN, Bool.and_eq_true, hoN_iff f (i + 1)]
    constructor
    · rintro ⟨h1, h2⟩ k hk hk'
      by_cases e : k = i
      · subst e; exact h1
      · exact h2 k (by omega) (by omega)
    · exact fun h => ⟨h i (by omega) (by omega), fun k h1 h2 => h k (by omega) (by omega)⟩
theorem allD_iff {a : Rows} {x y r : Int} : ∀ (f i : Nat), allD a x y r f i = true ↔ ∀ k, i ≤ k → k < i + f → dist2 x y (cx a k) (cy a k) ≤ r * r
  | 0, i => ⟨fun _ k h1 h2 => (by omega), fun _ => rfl⟩
  | f + 1, i => by
    rw [allD, Bool.and_eq_true, allD_iff f (i + 1), near_point7, decide_eq_true_eq]
    constructor
    · rintro ⟨h1, h2⟩ k hk hk'
      by_cases e : k = i
      · subst e; exact h1
      · exact h2 k (by omega) (by omega)
    · exact fun h => ⟨h i (by omega) (by omega), fun k h1 h2 => h k (by omega) (by omega)⟩
theorem hold_touch (h1 : featB i1 k1 x1 y1 r1 a1 d1 s1 t1 = true) (h2 : featB i2 k2 x2 y2 r2 a2 d2 s2 t2 = true) (n2 : k2 ≠ 4) (hh : holdX k1 x1 y1 r1 a1 k2 x2 y2 r2 a2 = true) : touchX k1 x1 y1 r1 a1 k2 x2 y2 r2 a2 = true := by
  unfold holdX at hh
  unfold touchX
  by_cases n1 : k1 = 4
  · rw [if_pos n1, decide_eq_true_eq] at hh; exact absurd hh n2
  rw [if_neg n1] at hh
  rw [if_neg (by omega)]
  by_cases e1 : k1 = 3 ∨ k1 = 6
  · rw [if_pos e1, if_neg n2] at hh
    rw [if_pos e1]
    by_cases e2 : k2 = 3 ∨ k2 = 6
    · rw [if_pos e2] at hh ⊢
      have hl := polyB_len (feat_area h2 e2)
      have := (hoN_iff _ _).mp hh 0 (by omega) (by omega)
      simp only [phB, Bool.and_eq_true, decide_eq_true_eq] at this
      exact tou_corner (feat_area h1 e1) (feat_area h2 e2) this.1
    · rw [if_neg e2, decide_eq_true_eq] at hh ⊢
      omega
  · rw [if_neg e1, if_neg n2] at hh
    rw [if_neg e1]
    obtain ⟨p1, p2⟩ := feat_disc h1 (by omega) (by omega)
    by_cases e2 : k2 = 3 ∨ k2 = 6
    · rw [if_pos e2] at hh
      rw [if_pos e2, decide_eq_true_eq]
      have hl := polyB_len (feat_area h2 e2)
      exact dis_corner (feat_area h2 e2) p1 (by omega) ((allD_iff _ _).mp hh 0 (by omega) (by omega))
    · rw [if_neg e2] at hh ⊢
      obtain ⟨q1, q2⟩ := feat_disc h2 (by omega) (by omega)
      rw [liesB, decide_eq_true_eq] at hh
      rw [near_point7, decide_eq_true_eq, dist2_comm]
      have := sq_le_sq (show 0 ≤ r1 - r2 by omega) (show r1 - r2 ≤ r2 + r1 by omega)
      omega
end

theorem feE_18 (i1 k1 x1 y1 r1 : Int) (a1 : Rows) (d1 s1 : Int) (t1 : Rows) (i2 k2 x2 y2 r2 : Int) (a2 : Rows) (d2 s2 : Int) (t2 : Rows) : feE [.i i1, .i k1, .i x1, .i y1, .i r1, .l a1, .i d1, .i s1, .l t1, .i i2, .i k2, .i x2, .i y2, .i r2, .l a2, .i d2, .i s2, .l t2] = if featB i1 k1 x1 y1 r1 a1 d1 s1 t1 && featB i2 k2 x2 y2 r2 a2 d2 s2 t2 then 0 else 1 := rfl
theorem feHoR_18 (i1 k1 x1 y1 r1 : Int) (a1 : Rows) (d1 s1 : Int) (t1 : Rows) (i2 k2 x2 y2 r2 : Int) (a2 : Rows) (d2 s2 : Int) (t2 : Rows) : feHoR [.i i1, .i k1, .i x1, .i y1, .i r1, .l a1, .i d1, .i s1, .l t1, .i i2, .i k2, .i x2, .i y2, .i r2, .l a2, .i d2, .i s2, .l t2] = ((featB i1 k1 x1 y1 r1 a1 d1 s1 t1 && featB i2 k2 x2 y2 r2 a2 d2 s2 t2) && holdX k1 x1 y1 r1 a1 k2 x2 y2 r2 a2) := rfl
theorem feToR_18 (i1 k1 x1 y1 r1 : Int) (a1 : Rows) (d1 s1 : Int) (t1 : Rows) (i2 k2 x2 y2 r2 : Int) (a2 : Rows) (d2 s2 : Int) (t2 : Rows) : feToR [.i i1, .i k1, .i x1, .i y1, .i r1, .l a1, .i d1, .i s1, .l t1, .i i2, .i k2, .i x2, .i y2, .i r2, .l a2, .i d2, .i s2, .l t2] = ((featB i1 k1 x1 y1 r1 a1 d1 s1 t1 && featB i2 k2 x2 y2 r2 a2 d2 s2 t2) && touchX k1 x1 y1 r1 a1 k2 x2 y2 r2 a2) := rfl
theorem covE_11 (i1 k1 x1 y1 r1 : Int) (a1 : Rows) (d1 s1 : Int) (t1 : Rows) (px py : Int) : covE [.i i1, .i k1, .i x1, .i y1, .i r1, .l a1, .i d1, .i s1, .l t1, .i px, .i py] = if featB i1 k1 x1 y1 r1 a1 d1 s1 t1 && placeB px py then 0 else 1 := rfl
theorem covR_11 (i1 k1 x1 y1 r1 : Int) (a1 : Rows) (d1 s1 : Int) (t1 : Rows) (px py : Int) : covR [.i i1, .i k1, .i x1, .i y1, .i r1, .l a1, .i d1, .i s1, .l t1, .i px, .i py] = ((featB i1 k1 x1 y1 r1 a1 d1 s1 t1 && placeB px py) && covX k1 x1 y1 r1 a1 px py) := rfl
theorem K76b76 (W : World) (ds l : List D) : (envOf K76 W ds).fb 76 l = featL l := by simp only [envOf, K76, K75, K74, K73, K72, K71, KI, KH, KG, KF, KE, KD, KC, KB, KA, K9, K8, K7, K6, K5, K]
theorem K76b119 (W : World) (ds l : List D) : (envOf K76 W ds).fb 119 l = feHoR l := by simp only [envOf, K76, K75, K74, K73, K72, K71, KI, KH, KG, KF, KE, KD, KC, KB, KA, K9, K8, K7, K6, K5, K]
theorem K76i119 (W : World) (ds l : List D) : (envOf K76 W ds).fi 119 l = feE l := by simp only [envOf, K76, K75, K74, K73, K72, K71, KI, KH, KG, KF, KE, KD, KC, KB, KA, K9, K8, K7, K6, K5, K]
theorem K76b120 (W : World) (ds l : List D) : (envOf K76 W ds).fb 120 l = feToR l := by simp only [envOf, K76, K75, K74, K73, K72, K71, KI, KH, KG, KF, KE, KD, KC, KB, KA, K9, K8, K7, K6, K5, K]
theorem K76b78 (W : World) (ds l : List D) : (envOf K76 W ds).fb 78 l = covR l := by simp only [envOf, K76, K75, K74, K73, K72, K71, KI, KH, KG, KF, KE, KD, KC, KB, KA, K9, K8, K7, K6, K5, K]
theorem K76i78 (W : World) (ds l : List D) : (envOf K76 W ds).fi 78 l = covE l := by simp only [envOf, K76, K75, K74, K73, K72, K71, KI, KH, KG, KF, KE, KD, KC, KB, KA, K9, K8, K7, K6, K5, K]
theorem K76i85 (W : World) (ds l : List D) : (envOf K76 W ds).fi 85 l = fbA l := by simp only [envOf, K76, K75, K74, K73, K72, K71, KI, KH, KG, KF, KE, KD, KC, KB, KA, K9, K8, K7, K6, K5, K]
theorem K76i86 (W : World) (ds l : List D) : (envOf K76 W ds).fi 86 l = fbB l := by simp only [envOf, K76, K75, K74, K73, K72, K71, KI, KH, KG, KF, KE, KD, KC, KB, KA, K9, K8, K7, K6, K5, K]
theorem K76i87 (W : World) (ds l : List D) : (envOf K76 W ds).fi 87 l = fbC l := by simp only [envOf, K76, K75, K74, K73, K72, K71, KI, KH, KG, KF, KE, KD, KC, KB, KA, K9, K8, K7, K6, K5, K]
theorem K76i88 (W : World) (ds l : List D) : (envOf K76 W ds).fi 88 l = fbD l := by simp only [envOf, K76, K75, K74, K73, K72, K71, KI, KH, KG, KF, KE, KD, KC, KB, KA, K9, K8, K7, K6, K5, K]
theorem K76i89 (W : World) (ds l : List D) : (envOf K76 W ds).fi 89 l = fbE l := by simp only [envOf, K76, K75, K74, K73, K72, K71, KI, KH, KG, KF, KE, KD, KC, KB, KA, K9, K8, K7, K6, K5, K]
theorem e01 (b : Bool) : ((if b = true then (0 : Int) else 1) = 0) = (b = true) := by cases b <;> simp
theorem e01n (b : Bool) : (¬ (if b = true then (0 : Int) else 1) = 0) = (b = false) := by cases b <;> simp
set_option maxHeartbeats 4000000 in
theorem gTouchesLaw : Gives Try.prog 7 [feat, feat, pt] (fun _ => .bool true) := by
  refine GivesIf.all (fn_gives K76 (by kernel_rfl) (fun ρ h => ctE7_ok (Sees.of h 122)) (by kernel_rfl) trTouches_is trTouches_low (by decide) (fun W vals ds hr _ => ?_))
  simp only [trTouches, TT.sat_ret, TT.sat_ite, TT.sat_ob, TT.sat_next, TT.sat_stuck, put_i, put_b, put_d, put_fi, put_fb, put_fd, Ob.ok, B.ev, E.ev, X.ev, AL.ev, cmp_t, cmp_f, arEv, V.plain, V2.plain, S.plain, S0.plain, V.val, V2.val, S.val, S0.val, bV, iV, List.all_cons, List.all_nil, Bool.and_true, Bool.and_self, envOf_i, envOf_b, envOf_d, List.map_cons, List.map_nil, true_and, Bool.not_eq_true', Bool.not_eq_false', Bool.not_not, Bool.and_eq_true, and_f, cell_lg, cell_lb, cell_lr, cmpP, val_i, val_b, val_d, aget, Nat.reduceBEq, beq_self_eq_true, Bool.false_eq_true, if_true, if_false, Nat.reduceLT, Nat.reduceSub, Nat.sub_self, Nat.lt_irrefl, K76b119, K76i119, K76b120, K76b78, K76i78, feE_18, feHoR_18, feToR_18, covE_11, covR_11]
  have T1 := touch_comm (i1 := iAt ds 0) (k1 := iAt ds 1) (x1 := iAt ds 2) (y1 := iAt ds 3) (r1 := iAt ds 4) (a1 := rAt ds 5) (d1 := iAt ds 6) (s1 := iAt ds 7) (t1 := rAt ds 8) (i2 := iAt ds 9) (k2 := iAt ds 10) (x2 := iAt ds 11) (y2 := iAt ds 12) (r2 := iAt ds 13) (a2 := rAt ds 14) (d2 := iAt ds 15) (s2 := iAt ds 16) (t2 := rAt ds 17)
  have T2 := touch_both (i1 := iAt ds 0) (k1 := iAt ds 1) (x1 := iAt ds 2) (y1 := iAt ds 3) (r1 := iAt ds 4) (a1 := rAt ds 5) (d1 := iAt ds 6) (s1 := iAt ds 7) (t1 := rAt ds 8) (i2 := iAt ds 9) (k2 := iAt ds 10) (x2 := iAt ds 11) (y2 := iAt ds 12) (r2 := iAt ds 13) (a2 := rAt ds 14) (d2 := iAt ds 15) (s2 := iAt ds 16) (t2 := rAt ds 17) (px := iAt ds 18) (py := iAt ds 19)
  have T3 := hold_touch (i1 := iAt ds 0) (k1 := iAt ds 1) (x1 := iAt ds 2) (y1 := iAt ds 3) (r1 := iAt ds 4) (a1 := rAt ds 5) (d1 := iAt ds 6) (s1 := iAt ds 7) (t1 := rAt ds 8) (i2 := iAt ds 9) (k2 := iAt ds 10) (x2 := iAt ds 11) (y2 := iAt ds 12) (r2 := iAt ds 13) (a2 := rAt ds 14) (d2 := iAt ds 15) (s2 := iAt ds 16) (t2 := rAt ds 17)
  have T4 : covX (iAt ds 10) (iAt ds 11) (iAt ds 12) (iAt ds 13) (rAt ds 14) (iAt ds 18) (iAt ds 19) = true → iAt ds 10 ≠ 4 := fun c h => by rw [cov_light h] at c; exact absurd c (by decide)
  generalize touchX (iAt ds 1) (iAt ds 2) (iAt ds 3) (iAt ds 4) (rAt ds 5) (iAt ds 10) (iAt ds 11) (iAt ds 12) (iAt ds 13) (rAt ds 14) = tt at *
  generalize touchX (iAt ds 10) (iAt ds 11) (iAt ds 12) (iAt ds 13) (rAt ds 14) (iAt ds 1) (iAt ds 2) (iAt ds 3) (iAt ds 4) (rAt ds 5) = tu at *
  generalize holdX (iAt ds 1) (iAt ds 2) (iAt ds 3) (iAt ds 4) (rAt ds 5) (iAt ds 10) (iAt ds 11) (iAt ds 12) (iAt ds 13) (rAt ds 14) = hh at *
  generalize covX (iAt ds 1) (iAt ds 2) (iAt ds 3) (iAt ds 4) (rAt ds 5) (iAt ds 18) (iAt ds 19) = c1 at *
  generalize covX (iAt ds 10) (iAt ds 11) (iAt ds 12) (iAt ds 13) (rAt ds 14) (iAt ds 18) (iAt ds 19) = c2 at *
  generalize featB (iAt ds 0) (iAt ds 1) (iAt ds 2) (iAt ds 3) (iAt ds 4) (rAt ds 5) (iAt ds 6) (iAt ds 7) (rAt ds 8) = f1 at *
  generalize featB (iAt ds 9) (iAt ds 10) (iAt ds 11) (iAt ds 12) (iAt ds 13) (rAt ds 14) (iAt ds 15) (iAt ds 16) (rAt ds 17) = f2 at *
  generalize placeB (iAt ds 18) (iAt ds 19) = pp at *
  generalize iAt ds 10 = k2 at *
  have T5 : f1 = true → f2 = true → c2 = true → hh = true → tt = true := fun a b c d => T3 a b (T4 c) d
  clear T3 T4 hr
  cases f1 <;> cases f2 <;> cases pp <;> cases c1 <;> cases c2 <;> cases hh <;> cases tt <;> cases tu <;> simp_all [cmpEv]
end Go.Proofs.Ytglepdhapakmbaa
