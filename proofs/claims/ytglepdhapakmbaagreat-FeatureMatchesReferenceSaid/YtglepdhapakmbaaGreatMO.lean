/- MO, merged: TWc, Wf. -/
import Derived.Test.YtglepdhapakmbaaGreatMW
set_option linter.unusedSimpArgs false
set_option linter.unusedVariables false
/- Chapter 07: trees of the reference's within, Safer. -/
namespace Go.Proofs.YtglepdhapakmbaaGreat
open Go.RowKit
-- term trR3Wi: call Tryz.prog ctW2 (Lt.of []) 100 89 (symArgs 0 [pts, pt, pt]) [] 0
def trR3Wi : TT OpR :=
(.ob (.tru (.fn 3 (.i (.var 1) (.i (.var 2) .nil))))
(.ob (.tru (.fn 69 (.x (.var 0) .nil)))
(.ite (.cmp .lss (.fn 98 (.i (.var 1) (.i (.var 2) (.x (.var 0) .nil)))) (.lit 0))
 (.ret ((.v (.one (.z (.bool (.lit false))))), [], 10))
 (.ob (.tru (.fn 3 (.i (.var 3) (.i (.var 4) .nil))))
 (.ob (.tru (.fn 69 (.x (.var 0) .nil)))
 (.ite (.cmp .lss (.fn 98 (.i (.var 3) (.i (.var 4) (.x (.var 0) .nil)))) (.lit 0))
 (.ret ((.v (.one (.z (.bool (.lit false))))), [], 10))
 (.ob (.tru (.fn 114 (.x (.var 0) (.i (.var 1) (.i (.var 2) (.i (.ar .sub .i64 (.var 3) (.var 1)) (.i (.ar .sub .i64 (.var 4) (.var 2)) .nil)))))))
 (.ite (.not (.fn 113 (.x (.var 0) (.i (.var 1) (.i (.var 2) (.i (.ar .sub .i64 (.var 3) (.var 1)) (.i (.ar .sub .i64 (.var 4) (.var 2)) .nil)))))))
 (.ret ((.v (.one (.z (.bool (.lit false))))), [], 10))
 (.ob (.tru (.fn 114 (.x (.var 0) (.i (.var 3) (.i (.var 4) (.i (.ar .sub .i64 (.var 1) (.var 3)) (.i (.ar .sub .i64 (.var 2) (.var 4)) .nil)))))))
 (.ite (.not (.fn 113 (.x (.var 0) (.i (.var 3) (.i (.var 4) (.i (.ar .sub .i64 (.var 1) (.var 3)) (.i (.ar .sub .i64 (.var 2) (.var 4)) .nil)))))))
 (.ret ((.v (.one (.z (.bool (.lit false))))), [], 10))
 (.loop 0 11000 ⟨[(0, (.lit 0))], [], []⟩
 (.ite (.cmp .lss (.var 11000) (.len (.var 0)))
 (.ob (.tru (.cmp .leq (.lit 0) (.var 11000)))
 (.ob (.tru (.cmp .lss (.var 11000) (.len (.var 0))))
 (.ob (.tru (.cmp .neq (.len (.var 0)) (.lit 0)))
 (.ob (.tru (.cmp .leq (.lit 0) (.ar .rem .i64 (.ar .add .i64 (.var 11000) (.lit 1)) (.len (.var 0)))))
 (.ob (.tru (.cmp .lss (.ar .rem .i64 (.ar .add .i64 (.var 11000) (.lit 1)) (.len (.var 0))) (.len (.var 0))))
 (.ob (.tru (.fn 1 (.i (.var 1) (.i (.var 2) (.i (.var 3) (.i (.var 4) (.i (.rd (.var 0) (.var 11000) 0) (.i (.rd (.var 0) (.var 11000) 1) .nil))))))))
 (.ob (.tru (.fn 1 (.i (.var 1) (.i (.var 2) (.i (.var 3) (.i (.var 4) (.i (.rd (.var 0) (.ar .rem .i64 (.ar .add .i64 (.var 11000) (.lit 1)) (.len (.var 0))) 0) (.i (.rd (.var 0) (.ar .rem .i64 (.ar .add .i64 (.var 11000) (.lit 1)) (.len (.var 0))) 1) .nil))))))))
 (.ite (.cmp .lss (.ar .mul .i64 (.fn 0 (.i (.var 1) (.i (.var 2) (.i (.var 3) (.i (.var 4) (.i (.rd (.var 0) (.var 11000) 0) (.i (.rd (.var 0) (.var 11000) 1) .nil))))))) (.fn 0 (.i (.var 1) (.i (.var 2) (.i (.var 3) (.i (.var 4) (.i (.rd (.var 0) (.ar .rem .i64 (.ar .add .i64 (.var 11000) (.lit 1)) (.len (.var 0))) 0) (.i (.rd (.var 0) (.ar .rem .i64 (.ar .add .i64 (.var 11000) (.lit 1)) (.len (.var 0))) 1) .nil)))))))) (.lit 0))
 (.ob (.tru (.fn 1 (.i (.rd (.var 0) (.var 11000) 0) (.i (.rd (.var 0) (.var 11000) 1) (.i (.rd (.var 0) (.ar .rem .i64 (.ar .add .i64 (.var 11000) (.lit 1)) (.len (.var 0))) 0) (.i (.rd (.var 0) (.ar .rem .i64 (.ar .add .i64 (.var 11000) (.lit 1)) (.len (.var 0))) 1) (.i (.var 1) (.i (.var 2) .nil))))))))
 (.ob (.tru (.fn 1 (.i (.rd (.var 0) (.var 11000) 0) (.i (.rd (.var 0) (.var 11000) 1) (.i (.rd (.var 0) (.ar .rem .i64 (.ar .add .i64 (.var 11000) (.lit 1)) (.len (.var 0))) 0) (.i (.rd (.var 0) (.ar .rem .i64 (.ar .add .i64 (.var 11000) (.lit 1)) (.len (.var 0))) 1) (.i (.var 3) (.i (.var 4) .nil))))))))
 (.ite (.cmp .lss (.ar .mul .i64 (.fn 0 (.i (.rd (.var 0) (.var 11000) 0) (.i (.rd (.var 0) (.var 11000) 1) (.i (.rd (.var 0) (.ar .rem .i64 (.ar .add .i64 (.var 11000) (.lit 1)) (.len (.var 0))) 0) (.i (.rd (.var 0) (.ar .rem .i64 (.ar .add .i64 (.var 11000) (.lit 1)) (.len (.var 0))) 1) (.i (.var 1) (.i (.var 2) .nil))))))) (.fn 0 (.i (.rd (.var 0) (.var 11000) 0) (.i (.rd (.var 0) (.var 11000) 1) (.i (.rd (.var 0) (.ar .rem .i64 (.ar .add .i64 (.var 11000) (.lit 1)) (.len (.var 0))) 0) (.i (.rd (.var 0) (.ar .rem .i64 (.ar .add .i64 (.var 11000) (.lit 1)) (.len (.var 0))) 1) (.i (.var 3) (.i (.var 4) .nil)))))))) (.lit 0))
 (.ret ((.v (.one (.z (.bool (.lit false))))), [], 16))
 (.ob (.tru (.cmp .leq (.lit 0) (.var 11000)))
 (.ob (.tru (.cmp .lss (.var 11000) (.len (.var 0))))
 (.ob (.tru (.fn 1 (.i (.rd (.var 0) (.var 11000) 0) (.i (.rd (.var 0) (.var 11000) 1) (.i (.var 1) (.i (.var 2) (.i (.var 3) (.i (.var 4) .nil))))))))
 (.ite (.fn 4 (.i (.rd (.var 0) (.var 11000) 0) (.i (.rd (.var 0) (.var 11000) 1) (.i (.var 1) (.i (.var 2) (.i (.var 3) (.i (.var 4) .nil)))))))
 (.ob (.tru (.cmp .leq (.lit 0) (.var 11000)))
 (.ob (.tru (.cmp .lss (.var 11000) (.len (.var 0))))
 (.ite (.not (.and (.cmp .eql (.rd (.var 0) (.var 11000) 0) (.var 1)) (.cmp .eql (.rd (.var 0) (.var 11000) 1) (.var 2))))
 (.ob (.tru (.cmp .leq (.lit 0) (.var 11000)))
 (.ob (.tru (.cmp .lss (.var 11000) (.len (.var 0))))
 (.ite (.not (.and (.cmp .eql (.rd (.var 0) (.var 11000) 0) (.var 3)) (.cmp .eql (.rd (.var 0) (.var 11000) 1) (.var 4))))
 (.ob (.tru (.fn 104 (.x (.var 0) (.i (.var 11000) (.i (.ar .sub .i64 (.var 3) (.var 1)) (.i (.ar .sub .i64 (.var 4) (.var 2)) .nil))))))
 (.ite (.not (.fn 102 (.x (.var 0) (.i (.var 11000) (.i (.ar .sub .i64 (.var 3) (.var 1)) (.i (.ar .sub .i64 (.var 4) (.var 2)) .nil))))))
 (.ret ((.v (.one (.z (.bool (.lit false))))), [], 16))
 (.ob (.tru (.fn 104 (.x (.var 0) (.i (.var 11000) (.i (.ar .sub .i64 (.var 1) (.var 3)) (.i (.ar .sub .i64 (.var 2) (.var 4)) .nil))))))
 (.ite (.not (.fn 102 (.x (.var 0) (.i (.var 11000) (.i (.ar .sub .i64 (.var 1) (.var 3)) (.i (.ar .sub .i64 (.var 2) (.var 4)) .nil))))))
 (.ret ((.v (.one (.z (.bool (.lit false))))), [], 16))
 (.next 0 ⟨[(0, (.ar .add .i64 (.var 11000) (.lit 1)))], [], []⟩)))))
 (.next 0 ⟨[(0, (.ar .add .i64 (.var 11000) (.lit 1)))], [], []⟩))))
 (.next 0 ⟨[(0, (.ar .add .i64 (.var 11000) (.lit 1)))], [], []⟩))))
 (.next 0 ⟨[(0, (.ar .add .i64 (.var 11000) (.lit 1)))], [], []⟩))))))))
 (.ob (.tru (.cmp .leq (.lit 0) (.var 11000)))
 (.ob (.tru (.cmp .lss (.var 11000) (.len (.var 0))))
 (.ob (.tru (.fn 1 (.i (.rd (.var 0) (.var 11000) 0) (.i (.rd (.var 0) (.var 11000) 1) (.i (.var 1) (.i (.var 2) (.i (.var 3) (.i (.var 4) .nil))))))))
 (.ite (.fn 4 (.i (.rd (.var 0) (.var 11000) 0) (.i (.rd (.var 0) (.var 11000) 1) (.i (.var 1) (.i (.var 2) (.i (.var 3) (.i (.var 4) .nil)))))))
 (.ob (.tru (.cmp .leq (.lit 0) (.var 11000)))
 (.ob (.tru (.cmp .lss (.var 11000) (.len (.var 0))))
 (.ite (.not (.and (.cmp .eql (.rd (.var 0) (.var 11000) 0) (.var 1)) (.cmp .eql (.rd (.var 0) (.var 11000) 1) (.var 2))))
 (.ob (.tru (.cmp .leq (.lit 0) (.var 11000)))
 (.ob (.tru (.cmp .lss (.var 11000) (.len (.var 0))))
 (.ite (.not (.and (.cmp .eql (.rd (.var 0) (.var 11000) 0) (.var 3)) (.cmp .eql (.rd (.var 0) (.var 11000) 1) (.var 4))))
 (.ob (.tru (.fn 104 (.x (.var 0) (.i (.var 11000) (.i (.ar .sub .i64 (.var 3) (.var 1)) (.i (.ar .sub .i64 (.var 4) (.var 2)) .nil))))))
 (.ite (.not (.fn 102 (.x (.var 0) (.i (.var 11000) (.i (.ar .sub .i64 (.var 3) (.var 1)) (.i (.ar .sub .i64 (.var 4) (.var 2)) .nil))))))
 (.ret ((.v (.one (.z (.bool (.lit false))))), [], 16))
 (.ob (.tru (.fn 104 (.x (.var 0) (.i (.var 11000) (.i (.ar .sub .i64 (.var 1) (.var 3)) (.i (.ar .sub .i64 (.var 2) (.var 4)) .nil))))))
 (.ite (.not (.fn 102 (.x (.var 0) (.i (.var 11000) (.i (.ar .sub .i64 (.var 1) (.var 3)) (.i (.ar .sub .i64 (.var 2) (.var 4)) .nil))))))
 (.ret ((.v (.one (.z (.bool (.lit false))))), [], 16))
 (.next 0 ⟨[(0, (.ar .add .i64 (.var 11000) (.lit 1)))], [], []⟩)))))
 (.next 0 ⟨[(0, (.ar .add .i64 (.var 11000) (.lit 1)))], [], []⟩))))
 (.next 0 ⟨[(0, (.ar .add .i64 (.var 11000) (.lit 1)))], [], []⟩))))
 (.next 0 ⟨[(0, (.ar .add .i64 (.var 11000) (.lit 1)))], [], []⟩)))))))))))))
 (.ret ((.v (.one (.z (.bool (.lit true))))), [], 16))))))))))))))
-- end trR3Wi
def trR3Wi_h : List (Nat × St) := [
(10, ⟨(List.append [(.v (.one (.z (.ext [(.int .i64), (.int .i64)] (.var 0) false)))), (.v (.agg [(.z (.int .i64 (.var 1))), (.z (.int .i64 (.var 2)))])), (.v (.agg [(.z (.int .i64 (.var 3))), (.z (.int .i64 (.var 4)))])), (.v (.one (.z .any))), (.v (.one (.z (.ptr 0 0)))), (.v (.one (.z (.ptr 1 0)))), (.v (.one (.z (.bool (.lit false))))), (.v (.one (.z (.ptr 5 0)))), (.v (.one (.z (.ptr 9 0)))), (.v (.one (.z (.int .i64 (.var 11000))))), (.v (.agg [(.z (.int .i64 (.var 3))), (.z (.int .i64 (.var 4)))])), (.v (.agg [(.z (.int .i64 (.var 1))), (.z (.int .i64 (.var 2)))])), (.v (.agg [(.z (.int .i64 (.ar .sub .i64 (.var 3) (.var 1)))), (.z (.int .i64 (.ar .sub .i64 (.var 4) (.var 2))))])), (.v (.agg [(.z (.int .i64 (.var 1))), (.z (.int .i64 (.var 2)))])), (.v (.agg [(.z (.int .i64 (.var 3))), (.z (.int .i64 (.var 4)))])), (.v (.agg [(.z (.int .i64 (.ar .sub .i64 (.var 1) (.var 3)))), (.z (.int .i64 (.ar .sub .i64 (.var 2) (.var 4))))])), (.v (.agg [(.z (.int .i64 (.var 1))), (.z (.int .i64 (.var 2)))])), (.v (.one (.z (.ext [(.int .i64), (.int .i64)] (.var 0) false)))), (.v (.one (.z (.int .i64 (.fn 98 (.i (.var 1) (.i (.var 2) (.x (.var 0) .nil)))))))), (.v (.one (.z (.bool (.cmp .lss (.fn 98 (.i (.var 1) (.i (.var 2) (.x (.var 0) .nil)))) (.lit 0)))))), (.v (.one (.z (.bool (.lit false))))), (.v (.agg [(.z (.int .i64 (.var 3))), (.z (.int .i64 (.var 4)))])), (.v (.one (.z (.ext [(.int .i64), (.int .i64)] (.var 0) false)))), (.v (.one (.z (.int .i64 (.fn 98 (.i (.var 3) (.i (.var 4) (.x (.var 0) .nil)))))))), (.v (.one (.z (.bool (.cmp .lss (.fn 98 (.i (.var 3) (.i (.var 4) (.x (.var 0) .nil)))) (.lit 0)))))), (.v (.one (.z (.bool (.cmp .lss (.fn 98 (.i (.var 3) (.i (.var 4) (.x (.var 0) .nil)))) (.lit 0)))))), (.v (.one (.z (.bool (.lit false))))), (.v (.one (.z (.ext [(.int .i64), (.int .i64)] (.var 0) false)))), (.v (.agg [(.z (.int .i64 (.var 1))), (.z (.int .i64 (.var 2)))])), (.v (.agg [(.z (.int .i64 (.ar .sub .i64 (.var 3) (.var 1)))), (.z (.int .i64 (.ar .sub .i64 (.var 4) (.var 2))))])), (.v (.one (.z (.bool (.fn 113 (.x (.var 0) (.i (.var 1) (.i (.var 2) (.i (.ar .sub .i64 (.var 3) (.var 1)) (.i (.ar .sub .i64 (.var 4) (.var 2)) .nil)))))))))), (.v (.one (.z (.bool (.not (.fn 113 (.x (.var 0) (.i (.var 1) (.i (.var 2) (.i (.ar .sub .i64 (.var 3) (.var 1)) (.i (.ar .sub .i64 (.var 4) (.var 2)) .nil))))))))))), (.v (.one (.z (.bool (.not (.fn 113 (.x (.var 0) (.i (.var 1) (.i (.var 2) (.i (.ar .sub .i64 (.var 3) (.var 1)) (.i (.ar .sub .i64 (.var 4) (.var 2)) .nil))))))))))), (.v (.one (.z (.bool (.lit false))))), (.v (.one (.z (.ext [(.int .i64), (.int .i64)] (.var 0) false)))), (.v (.agg [(.z (.int .i64 (.var 3))), (.z (.int .i64 (.var 4)))])), (.v (.agg [(.z (.int .i64 (.ar .sub .i64 (.var 1) (.var 3)))), (.z (.int .i64 (.ar .sub .i64 (.var 2) (.var 4))))])), (.v (.one (.z (.bool (.fn 113 (.x (.var 0) (.i (.var 3) (.i (.var 4) (.i (.ar .sub .i64 (.var 1) (.var 3)) (.i (.ar .sub .i64 (.var 2) (.var 4)) .nil)))))))))), (.v (.one (.z (.bool (.not (.fn 113 (.x (.var 0) (.i (.var 3) (.i (.var 4) (.i (.ar .sub .i64 (.var 1) (.var 3)) (.i (.ar .sub .i64 (.var 2) (.var 4)) .nil))))))))))), (.v (.one (.z (.bool (.not (.fn 113 (.x (.var 0) (.i (.var 3) (.i (.var 4) (.i (.ar .sub .i64 (.var 1) (.var 3)) (.i (.ar .sub .i64 (.var 2) (.var 4)) .nil)))))))))))] (List.replicate 53 V.any)), [(9, (.cells 23 [(.z (.int .i64 (.ar .sub .i64 (.var 1) (.var 3)))), (.z (.int .i64 (.ar .sub .i64 (.var 2) (.var 4))))])), (5, (.cells 23 [(.z (.int .i64 (.ar .sub .i64 (.var 3) (.var 1)))), (.z (.int .i64 (.ar .sub .i64 (.var 4) (.var 2))))])), (1, (.cells 23 [(.z (.int .i64 (.var 3))), (.z (.int .i64 (.var 4)))])), (0, (.cells 23 [(.z (.int .i64 (.var 1))), (.z (.int .i64 (.var 2)))]))], 11, []⟩)]
def trR3Wi_j : List (FuncId × Nat × Nat × St) := [
]
set_option maxRecDepth 100000 in
theorem trR3Wi_is : T.norm 0 (call Tryz.prog ctW2 ⟨Lt.un (Lt.of []), trR3Wi_h, trR3Wi_j⟩ 100 89 (symArgs 0 [pts, pt, pt]) [] 0) TT.ret = trR3Wi := by kernel_rfl
theorem trR3Wi_low : trR3Wi.low 1000 = true := by kernel_rfl
end Go.Proofs.YtglepdhapakmbaaGreat
/- Chapter 07: the reference's within, Inside. -/
namespace Go.Proofs.YtglepdhapakmbaaGreat
open Go.RowKit
theorem KWbb1 (W : World) (ds l : List D) : (envOf KWb W ds).fb 1 l = six6 l := by simp only [envOf, KWb, KWa, KX, KW, KV, KU, KT, KR, KG, KF, KE, KD, KC, KB, KA, K9, K8, K7, K6, K5, K]
theorem KWbb3 (W : World) (ds l : List D) : (envOf KWb W ds).fb 3 l = placeL l := by simp only [envOf, KWb, KWa, KX, KW, KV, KU, KT, KR, KG, KF, KE, KD, KC, KB, KA, K9, K8, K7, K6, K5, K]
theorem KWbb4 (W : World) (ds l : List D) : (envOf KWb W ds).fb 4 l = onL l := by simp only [envOf, KWb, KWa, KX, KW, KV, KU, KT, KR, KG, KF, KE, KD, KC, KB, KA, K9, K8, K7, K6, K5, K]
theorem KWbb69 (W : World) (ds l : List D) : (envOf KWb W ds).fb 69 l = polyL l := by simp only [envOf, KWb, KWa, KX, KW, KV, KU, KT, KR, KG, KF, KE, KD, KC, KB]
theorem KWbi0 (W : World) (ds l : List D) : (envOf KWb W ds).fi 0 l = turnL l := by simp only [envOf, KWb, KWa, KX, KW, KV, KU, KT, KR, KG, KF, KE, KD, KC, KB, KA, K9, K8, K7, K6, K5, K]
theorem KWbi98 (W : World) (ds l : List D) : (envOf KWb W ds).fi 98 l = plcL l := by simp only [envOf, KWb, KWa, KX, KW, KV]
theorem KWbb102 (W : World) (ds l : List D) : (envOf KWb W ds).fb 102 l = opdL l := by simp only [envOf, KWb, KWa]
theorem KWbb104 (W : World) (ds l : List D) : (envOf KWb W ds).fb 104 l = opdO l := by simp only [envOf, KWb, KWa]
theorem KWbb113 (W : World) (ds l : List D) : (envOf KWb W ds).fb 113 l = ledL l := by simp only [envOf, KWb]
theorem KWbb114 (W : World) (ds l : List D) : (envOf KWb W ds).fb 114 l = ledO l := by simp only [envOf, KWb]
theorem led_five (r : Rows) (a b c d : Int) : ledL [.l r, .i a, .i b, .i c, .i d] = leDir r a b c d r.length 0 := rfl
theorem ledO_five (r : Rows) (a b c d : Int) : ledO [.l r, .i a, .i b, .i c, .i d] = (polyB r && (placeB a b && smallD c d)) := rfl
def wiO (ds : List D) : Bool := polyB (rAt ds 0) && (placeB (iAt ds 1) (iAt ds 2) && placeB (iAt ds 3) (iAt ds 4))
theorem turnI_3 (a b c d e f : Int) : turnI a b c d e f = -1 ∨ turnI a b c d e f = 0 ∨ turnI a b c d e f = 1 := by
  unfold turnI sgn
  split
  · exact .inl rfl
  · split
    · exact .inr (.inr rfl)
    · exact .inr (.inl rfl)
theorem wrap_turnI (a b c d e f a' b' c' d' e' f' : Int) : IntKind.i64.wrap (turnI a b c d e f * turnI a' b' c' d' e' f') = turnI a b c d e f * turnI a' b' c' d' e' f' := by
  rcases turnI_3 a b c d e f with h | h | h <;> rcases turnI_3 a' b' c' d' e' f' with h' | h' | h' <;> rw [h, h'] <;> rfl
set_option maxHeartbeats 2000000 in
theorem gR3Wi : GivesIf Tryz.prog 89 [pts, pt, pt] (fun ds => wiO ds = true) (fun ds => .bool (phL ds)) := by
  refine fn_gives KWb (by kernel_rfl) (fun ρ h => ctW2_ok (Sees.of h 122)) (by kernel_rfl) trR3Wi_is trR3Wi_low (by decide) (fun W vals ds hr hok => ?_)
  rw [wiO, Bool.and_eq_true, Bool.and_eq_true] at hok
  obtain ⟨hp, hA, hB⟩ := hok
  have hl := polyB_len hp
  simp only [trR3Wi, TT.sat_ret, TT.sat_ite, TT.sat_ob, TT.sat_next, TT.sat_stuck, put_i, put_b, put_d, put_fi, put_fb, put_fd, Ob.ok, B.ev, E.ev, X.ev, AL.ev, cmp_t, cmp_f, arEv, V.plain, V2.plain, S.plain, S0.plain, V.val, V2.val, S.val, S0.val, bV, iV, List.all_cons, List.all_nil, Bool.and_true, Bool.and_self, envOf_i, envOf_b, envOf_d, List.map_cons, List.map_nil, true_and, Bool.not_eq_true', Bool.not_eq_false', Bool.not_not, Bool.and_eq_true, and_f, cell_lg, cell_lb, cell_lr, cmpP, val_i, val_b, val_d, aget, Nat.reduceBEq, beq_self_eq_true, Bool.false_eq_true, if_true, if_false, Nat.reduceLT, Nat.reduceSub, Nat.sub_self, Nat.lt_irrefl, KWbb3, KWbb69, KWbi98, KWbb113, KWbb114, plc_three, place_two, poly_one, led_five, ledO_five]
  have hP : phL ds = phB (rAt ds 0) (iAt ds 1) (iAt ds 2) (iAt ds 3) (iAt ds 4) := rfl
  rw [hP]
  clear hP hr
  generalize e0 : rAt ds 0 = r at *
  generalize e1 : iAt ds 1 = x at *
  generalize e2 : iAt ds 2 = y at *
  generalize e3 : iAt ds 3 = s at *
  generalize e4 : iAt ds 4 = t at *
  have pl : ∀ k : Nat, k < r.length → placeB (lg r k 0) (lg r k 1) = true := fun k hk => polyB_pl hp hk
  have hA' := placeB_iff.mp hA
  have hB' := placeB_iff.mp hB
  simp only [w_sub hB'.1 hA'.1, w_sub hB'.2 hA'.2, w_sub hA'.1 hB'.1, w_sub hA'.2 hB'.2, hp, hA, hB]
  have sm1 : smallD (s - x) (t - y) = true := by rw [smallD, decide_eq_true_eq]; omega
  have sm2 : smallD (x - s) (y - t) = true := by rw [smallD, decide_eq_true_eq]; omega
  simp only [sm1, sm2, Bool.and_self]
  have L1 := leN_V hp hA hB r.length 0 (by omega)
  have L2 := leN_V hp hB hA r.length 0 (by omega)
  refine ⟨by simp, by simp, fun h => ?_, fun h1 => ⟨by simp, by simp, fun h => ?_, fun h2 => ⟨by simp, fun h => ?_, fun h3 => ⟨by simp, fun h => ?_, fun h4 => ?_⟩⟩⟩⟩
  · rw [phB, decide_eq_false (p := 0 ≤ placeN r x y r.length 0 false) (by omega)]; rfl
  · rw [phB, decide_eq_false (p := 0 ≤ placeN r s t r.length 0 false) (by omega), Bool.false_and, Bool.and_false]
  · rw [phB, L1, h]; simp
  · rw [phB, L2, h]; simp
  have hG : phN r x y s t r.length 0 = phB r x y s t := by
    rw [phB, decide_eq_true (p := 0 ≤ placeN r x y r.length 0 false) (by omega), decide_eq_true (p := 0 ≤ placeN r s t r.length 0 false) (by omega), L1, L2, h3, h4]; rfl
  clear L1 L2 h1 h2 h3 h4
  generalize hg : phB r x y s t = G at *
  refine TT.sat_loop (fun v => ∃ i : Nat, v.i 0 = i ∧ i ≤ r.length ∧ phN r x y s t (r.length - i) i = G) (fun v => r.length - (v.i 0).toNat)
    ⟨0, by simp [val_i, aget, E.ev], by omega, hG⟩ (fun v hv => ?_)
  obtain ⟨i, i0, i1, i2⟩ := hv
  simp only [TT.sat_ret, TT.sat_ite, TT.sat_ob, TT.sat_next, TT.sat_stuck, put_i, put_b, put_d, put_fi, put_fb, put_fd, Ob.ok, B.ev, E.ev, X.ev, AL.ev, cmp_t, cmp_f, arEv, V.plain, V2.plain, S.plain, S0.plain, V.val, V2.val, S.val, S0.val, bV, iV, List.all_cons, List.all_nil, Bool.and_true, Bool.and_self, envOf_i, envOf_b, envOf_d, List.map_cons, List.map_nil, true_and, Bool.not_eq_true', Bool.not_eq_false', Bool.not_not, Bool.and_eq_true, and_f, cell_lg, cell_lb, cell_lr, cmpP, val_i, val_b, val_d, aget, Nat.reduceBEq, beq_self_eq_true, Bool.false_eq_true, if_true, if_false, Nat.reduceLT, Nat.reduceSub, Nat.sub_self, Nat.lt_irrefl, i0, e0, e1, e2, e3, e4, KWbb1, KWbb4, KWbi0, KWbb102, KWbb104, opd_four, opdO_four, six_six, on_six, turn_six]
  refine ⟨fun hc => ?_, fun hc => ?_⟩
  · have hi : i < r.length := by omega
    have hn := nxt_lt hi
    obtain ⟨f, hf⟩ : ∃ f, r.length - i = f + 1 := ⟨r.length - i - 1, by omega⟩
    rw [hf, phN, phI_wi hp hA hB hi] at i2
    have hf' : r.length - (i + 1) = f := by omega
    have hdi : decide (0 ≤ (i : Int) ∧ (i : Int) < r.length) = true := decide_eq_true (by omega)
    simp only [rem_next1 hi (show r.length ≤ 281474976710656 by omega), hA, hB, pl i hi, pl _ hn, w_sub hB'.1 hA'.1, w_sub hB'.2 hA'.2, w_sub hA'.1 hB'.1, w_sub hA'.2 hB'.2, hp, sm1, sm2, hdi, wrap_turnI, Bool.and_self]
    rw [wrap_in ((i : Int) + 1) (by omega) (by omega)]
    have N : wiDir r x y s t i = true → (∃ j : Nat, (i : Int) + 1 = j ∧ j ≤ r.length ∧ phN r x y s t (r.length - j) j = G) ∧ r.length - ((i : Int) + 1).toNat < r.length - (i : Int).toNat :=
      fun h => ⟨⟨i + 1, rfl, by omega, by rw [hf', ← i2, h]; rfl⟩, by omega⟩
    have B : wiDir r x y s t i = false → Value.bool false = Value.bool G := fun h => by rw [← i2, h]; rfl
    clear i2 hG pl
    unfold wiDir at N B
    generalize turnI x y s t (lg r i 0) (lg r i 1) * turnI x y s t (lg r (nxt r.length i) 0) (lg r (nxt r.length i) 1) = c1 at *
    generalize turnI (lg r i 0) (lg r i 1) (lg r (nxt r.length i) 0) (lg r (nxt r.length i) 1) x y * turnI (lg r i 0) (lg r i 1) (lg r (nxt r.length i) 0) (lg r (nxt r.length i) 1) s t = c2 at *
    generalize onB (lg r i 0) (lg r i 1) x y s t = o at *
    generalize opDir r i (s - x) (t - y) = o1 at *
    generalize opDir r i (x - s) (y - t) = o2 at *
    repeat' (first | (intro h; skip) | (refine And.intro ?_ ?_))
    all_goals first
      | omega
      | trivial
      | (exact (N (by simp [*])).1)
      | (exact (N (by simp [*])).2)
      | (exact B (by simp [*]))
  · have : r.length - i = 0 := by omega
    rw [this, phN] at i2
    rw [← i2]
def KWc : Interp where
  fi n l := match n with | 124 => pbA l | 125 => pbB l | 126 => pbC l | 127 => pbD l | 128 => pbE l | n => KWb.fi n l
  fb n l := match n with | 122 => phL l | 123 => wiO l | n => KWb.fb n l
  fd _ _ := []
theorem KWc_KWb {ρ : Env} (h : Sees ρ KWc 132) : Sees ρ KWb 122 := h.trans (by decide) fun n l hn => by
  refine ⟨?_, ?_⟩
  ·
    simp only [KWc]
    split <;> first | omega | rfl
  ·
    simp only [KWc]
    split <;> first | omega | rfl
def cR3Wi := ctD [pts, pt, pt] fun al => .ob (.tru (bF 123 wiO al)) (.ret (bV (bF 122 phL al)))
theorem cR3Wi_ok {ρ : Env} (h : Sees ρ KWc 132) : CtOne Tryz.prog ρ 89 cR3Wi := by
  refine ctD_if gR3Wi (fun al v hv => ?_)
  obtain ⟨ho, hv⟩ := hv
  obtain rfl := res_ret hv
  refine ⟨rfl, ?_, ?_⟩
  · have h1 : (bF 123 wiO al).ev ρ = true := ho
    rw [bF_ev (s := 123) (f := wiO) (fun l => by rw [(h 123 l (by decide)).2]; simp only [KWc])] at h1
    exact h1
  · simp only [iV, bV, V.s0, V.val, V2.val, S.val, S0.val, bF_ev (s := 122) (f := phL) (fun l => by rw [(h 122 l (by decide)).2]; simp only [KWc])]; try rfl
def cR3B := ctD [pts] fun al => .ret (.tup [.agg [sIF 124 pbA al, sIF 125 pbB al, sIF 126 pbC al, sIF 127 pbD al], .one (sIF 128 pbE al)])
theorem cR3B_ok {ρ : Env} (h : Sees ρ KWc 132) : CtOne Tryz.prog ρ 44 cR3B :=
  ctD_ok gR3B (fun _ => rfl) (fun al => by simp only [V.val, V2.val, S.val, S0.val, sIF, sBF, List.map_cons, List.map_nil, iF_ev (s := 124) (f := pbA) (fun l => by rw [(h 124 l (by decide)).1]; simp only [KWc]), iF_ev (s := 125) (f := pbB) (fun l => by rw [(h 125 l (by decide)).1]; simp only [KWc]), iF_ev (s := 126) (f := pbC) (fun l => by rw [(h 126 l (by decide)).1]; simp only [KWc]), iF_ev (s := 127) (f := pbD) (fun l => by rw [(h 127 l (by decide)).1]; simp only [KWc]), iF_ev (s := 128) (f := pbE) (fun l => by rw [(h 128 l (by decide)).1]; simp only [KWc])]; try rfl)
def ctW3 : Ct := (89, cR3Wi) :: (44, cR3B) :: ctW2
theorem ctW3_ok {ρ : Env} (h : Sees ρ KWc 132) : CtOk Tryz.prog ρ ctW3 := .cons (cR3Wi_ok h) <| .cons (cR3B_ok h) (ctW2_ok (KWc_KWb h))
end Go.Proofs.YtglepdhapakmbaaGreat
