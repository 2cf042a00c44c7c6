/- MI, merged: TDa, Da, Db0, TDb, Db. -/
import Derived.Test.YtglepdhapakmbaaMG
set_option linter.unusedSimpArgs false
set_option linter.unusedVariables false
/- Chapter 38: the tree of poly.Box. -/
namespace Go.Proofs.Ytglepdhapakmbaa
open Go.RowKit
-- term trPoBox: call Try.prog ctF (Lt.of []) 100 91 (symArgs 0 [pts]) [] 0
def trPoBox : TT OpR :=
(.ite (.not (.fn 69 (.x (.var 0) .nil)))
  (.ret ((.tup [(.agg [(.z (.int .i64 (.lit 0))), (.z (.int .i64 (.lit 0))), (.z (.int .i64 (.lit 0))), (.z (.int .i64 (.lit 0)))]), (.one (.z (.int .i64 (.lit 1))))]), [], 1))
  (.ite (.cmp .lss (.len (.var 0)) (.lit 1))
    (.stuck "operation")
    (.ob (.tru (.lit true))
    (.ob (.tru (.cmp .lss (.lit 0) (.len (.var 0))))
    (.loop 0 4000 ⟨[(0, (.lit 1)), (1, (.rd (.var 0) (.lit 0) 0)), (2, (.rd (.var 0) (.lit 0) 1))], [], []⟩
      (.ite (.cmp .lss (.var 4000) (.len (.var 0)))
        (.ob (.tru (.cmp .leq (.lit 0) (.var 4000)))
        (.ob (.tru (.cmp .lss (.var 4000) (.len (.var 0))))
        (.ite (.cmp .lss (.fn 68 (.i (.rd (.var 0) (.var 4000) 0) (.i (.rd (.var 0) (.var 4000) 1) (.i (.var 4001) (.i (.var 4002) .nil))))) (.lit 0))
          (.ob (.tru (.cmp .leq (.lit 0) (.var 4000)))
          (.ob (.tru (.cmp .lss (.var 4000) (.len (.var 0))))
          (.next 0 ⟨[(0, (.ar .add .i64 (.var 4000) (.lit 1))), (1, (.rd (.var 0) (.var 4000) 0)), (2, (.rd (.var 0) (.var 4000) 1))], [], []⟩)))
          (.next 0 ⟨[(0, (.ar .add .i64 (.var 4000) (.lit 1))), (1, (.var 4001)), (2, (.var 4002))], [], []⟩))))
        (.ite (.cmp .lss (.len (.var 0)) (.lit 1))
          (.stuck "operation")
          (.ob (.tru (.lit true))
          (.ob (.tru (.cmp .lss (.lit 0) (.len (.var 0))))
          (.loop 1 7000 ⟨[(0, (.lit 1)), (1, (.rd (.var 0) (.lit 0) 0)), (2, (.rd (.var 0) (.lit 0) 1))], [], []⟩
            (.ite (.cmp .lss (.var 7000) (.len (.var 0)))
              (.ob (.tru (.cmp .leq (.lit 0) (.var 7000)))
              (.ob (.tru (.cmp .lss (.var 7000) (.len (.var 0))))
              (.ite (.cmp .gtr (.fn 68 (.i (.rd (.var 0) (.var 7000) 0) (.i (.rd (.var 0) (.var 7000) 1) (.i (.var 7001) (.i (.var 7002) .nil))))) (.lit 0))
                (.ob (.tru (.cmp .leq (.lit 0) (.var 7000)))
                (.ob (.tru (.cmp .lss (.var 7000) (.len (.var 0))))
                (.next 1 ⟨[(0, (.ar .add .i64 (.var 7000) (.lit 1))), (1, (.rd (.var 0) (.var 7000) 0)), (2, (.rd (.var 0) (.var 7000) 1))], [], []⟩)))
                (.next 1 ⟨[(0, (.ar .add .i64 (.var 7000) (.lit 1))), (1, (.var 7001)), (2, (.var 7002))], [], []⟩))))
              (.ite (.cmp .lss (.len (.var 0)) (.lit 1))
                (.stuck "operation")
                (.ob (.tru (.lit true))
                (.ob (.tru (.cmp .lss (.lit 0) (.len (.var 0))))
                (.loop 2 12000 ⟨[(0, (.lit 1)), (1, (.rd (.var 0) (.lit 0) 0)), (2, (.rd (.var 0) (.lit 0) 1))], [], []⟩
                  (.ite (.cmp .lss (.var 12000) (.len (.var 0)))
                    (.ob (.tru (.cmp .leq (.lit 0) (.var 12000)))
                    (.ob (.tru (.cmp .lss (.var 12000) (.len (.var 0))))
                    (.ite (.cmp .lss (.rd (.var 0) (.var 12000) 1) (.var 12002))
                      (.ob (.tru (.cmp .leq (.lit 0) (.var 12000)))
                      (.ob (.tru (.cmp .lss (.var 12000) (.len (.var 0))))
                      (.next 2 ⟨[(0, (.ar .add .i64 (.var 12000) (.lit 1))), (1, (.rd (.var 0) (.var 12000) 0)), (2, (.rd (.var 0) (.var 12000) 1))], [], []⟩)))
                      (.ite (.cmp .gtr (.rd (.var 0) (.var 12000) 1) (.var 12002))
                        (.next 2 ⟨[(0, (.ar .add .i64 (.var 12000) (.lit 1))), (1, (.var 12001)), (2, (.var 12002))], [], []⟩)
                        (.next 2 ⟨[(0, (.ar .add .i64 (.var 12000) (.lit 1))), (1, (.var 12001)), (2, (.var 12002))], [], []⟩)))))
                    (.ite (.cmp .lss (.len (.var 0)) (.lit 1))
                      (.stuck "operation")
                      (.ob (.tru (.lit true))
                      (.ob (.tru (.cmp .lss (.lit 0) (.len (.var 0))))
                      (.loop 3 17000 ⟨[(0, (.lit 1)), (1, (.rd (.var 0) (.lit 0) 0)), (2, (.rd (.var 0) (.lit 0) 1))], [], []⟩
                        (.ite (.cmp .lss (.var 17000) (.len (.var 0)))
                          (.ob (.tru (.cmp .leq (.lit 0) (.var 17000)))
                          (.ob (.tru (.cmp .lss (.var 17000) (.len (.var 0))))
                          (.ite (.cmp .lss (.rd (.var 0) (.var 17000) 1) (.var 17002))
                            (.next 3 ⟨[(0, (.ar .add .i64 (.var 17000) (.lit 1))), (1, (.var 17001)), (2, (.var 17002))], [], []⟩)
                            (.ite (.cmp .gtr (.rd (.var 0) (.var 17000) 1) (.var 17002))
                              (.ob (.tru (.cmp .leq (.lit 0) (.var 17000)))
                              (.ob (.tru (.cmp .lss (.var 17000) (.len (.var 0))))
                              (.next 3 ⟨[(0, (.ar .add .i64 (.var 17000) (.lit 1))), (1, (.rd (.var 0) (.var 17000) 0)), (2, (.rd (.var 0) (.var 17000) 1))], [], []⟩)))
                              (.next 3 ⟨[(0, (.ar .add .i64 (.var 17000) (.lit 1))), (1, (.var 17001)), (2, (.var 17002))], [], []⟩)))))
                          (.ret ((.tup [(.agg [(.z (.int .i64 (.var 4001))), (.z (.int .i64 (.var 7001))), (.z (.int .i64 (.var 12002))), (.z (.int .i64 (.var 17002)))]), (.one (.z (.int .i64 (.lit 0))))]), [], 21)))))))))))))))))))))))
-- end trPoBox
set_option maxRecDepth 100000 in
theorem trPoBox_is : T.norm 0 (call Try.prog ctF (Lt.of []) 100 91 (symArgs 0 [pts]) [] 0) TT.ret = trPoBox := by kernel_rfl
theorem trPoBox_low : trPoBox.low 1000 = true := by kernel_rfl
end Go.Proofs.Ytglepdhapakmbaa
/- Chapter 38: poly.Box. -/
namespace Go.Proofs.Ytglepdhapakmbaa
open Go.RowKit
def minO (r : Rows) : Nat → Nat → Int → Int → Int
  | 0, _, x, _ => x
  | f + 1, i, x, y => if orderI (lg r i 0) (lg r i 1) x y < 0 then minO r f (i + 1) (lg r i 0) (lg r i 1) else minO r f (i + 1) x y
def maxO (r : Rows) : Nat → Nat → Int → Int → Int
  | 0, _, x, _ => x
  | f + 1, i, x, y => if 0 < orderI (lg r i 0) (lg r i 1) x y then maxO r f (i + 1) (lg r i 0) (lg r i 1) else maxO r f (i + 1) x y
def minY (r : Rows) : Nat → Nat → Int → Int
  | 0, _, y => y
  | f + 1, i, y => if lg r i 1 < y then minY r f (i + 1) (lg r i 1) else minY r f (i + 1) y
def maxY (r : Rows) : Nat → Nat → Int → Int
  | 0, _, y => y
  | f + 1, i, y => if y < lg r i 1 then maxY r f (i + 1) (lg r i 1) else maxY r f (i + 1) y
def pbA (ds : List D) : Int := if polyB (rAt ds 0) then minO (rAt ds 0) ((rAt ds 0).length - 1) 1 (lg (rAt ds 0) 0 0) (lg (rAt ds 0) 0 1) else 0
def pbB (ds : List D) : Int := if polyB (rAt ds 0) then maxO (rAt ds 0) ((rAt ds 0).length - 1) 1 (lg (rAt ds 0) 0 0) (lg (rAt ds 0) 0 1) else 0
def pbC (ds : List D) : Int := if polyB (rAt ds 0) then minY (rAt ds 0) ((rAt ds 0).length - 1) 1 (lg (rAt ds 0) 0 1) else 0
def pbD (ds : List D) : Int := if polyB (rAt ds 0) then maxY (rAt ds 0) ((rAt ds 0).length - 1) 1 (lg (rAt ds 0) 0 1) else 0
def pbE (ds : List D) : Int := if polyB (rAt ds 0) then 0 else 1
theorem KFb69 (W : World) (ds l : List D) : (envOf KF W ds).fb 69 l = polyL l := by simp only [envOf, KF, KE, KD, KC, KB, KA, K9, K8, K7, K6, K5, K]
theorem KFi68 (W : World) (ds l : List D) : (envOf KF W ds).fi 68 l = orderL l := by simp only [envOf, KF, KE, KD, KC, KB, KA, K9, K8, K7, K6, K5, K]
theorem gPoBox : Gives Try.prog 91 [pts] (fun ds => .tuple #[.agg #[.int .i64 (pbA ds), .int .i64 (pbB ds), .int .i64 (pbC ds), .int .i64 (pbD ds)], .int .i64 (pbE ds)]) := by
  refine GivesIf.all (fn_gives KF (by kernel_rfl) (fun ρ h => ctF_ok (Sees.of h 77)) (by kernel_rfl) trPoBox_is trPoBox_low (by decide) (fun W vals ds hr _ => ?_))
  simp only [trPoBox, TT.sat_ret, TT.sat_ite, TT.sat_ob, TT.sat_next, TT.sat_stuck, put_i, put_b, put_d, put_fi, put_fb, put_fd, Ob.ok, B.ev, E.ev, X.ev, AL.ev, cmp_t, cmp_f, arEv, V.plain, V2.plain, S.plain, S0.plain, V.val, V2.val, S.val, S0.val, bV, iV, List.all_cons, List.all_nil, Bool.and_true, Bool.and_self, envOf_i, envOf_b, envOf_d, List.map_cons, List.map_nil, true_and, Bool.not_eq_true', Bool.not_eq_false', Bool.not_not, Bool.and_eq_true, and_f, cell_lg, cell_lb, cell_lr, cmpP, val_i, val_b, val_d, aget, Nat.reduceBEq, beq_self_eq_true, Bool.false_eq_true, if_true, if_false, Nat.reduceLT, Nat.reduceSub, Nat.sub_self, Nat.lt_irrefl, KFb69, KFi68, order_four, poly_one]
  refine ⟨fun h => by simp [pbA, pbB, pbC, pbD, pbE, h], fun h => ?_⟩
  have hl := polyB_len h
  refine ⟨fun q => by omega, fun _ => ⟨by omega, ?_⟩⟩
  simp only [pbA, pbB, pbC, pbD, pbE, h, if_true]
  generalize hA : minO (rAt ds 0) ((rAt ds 0).length - 1) 1 (lg (rAt ds 0) 0 0) (lg (rAt ds 0) 0 1) = zA
  generalize hB : maxO (rAt ds 0) ((rAt ds 0).length - 1) 1 (lg (rAt ds 0) 0 0) (lg (rAt ds 0) 0 1) = zB
  generalize hC : minY (rAt ds 0) ((rAt ds 0).length - 1) 1 (lg (rAt ds 0) 0 1) = zC
  generalize hE : maxY (rAt ds 0) ((rAt ds 0).length - 1) 1 (lg (rAt ds 0) 0 1) = zD
  have st : ∀ i : Nat, i < (rAt ds 0).length → ∃ f, (rAt ds 0).length - i = f + 1 ∧ (rAt ds 0).length - (i + 1) = f := fun i hi => ⟨(rAt ds 0).length - i - 1, by omega, by omega⟩
  refine TT.sat_loop (fun v => ∃ i : Nat, v.i 0 = i ∧ 1 ≤ i ∧ i ≤ (rAt ds 0).length ∧ minO (rAt ds 0) ((rAt ds 0).length - i) i (v.i 1) (v.i 2) = zA) (fun v => (rAt ds 0).length - (v.i 0).toNat)
    ⟨1, by simp [val_i, aget, E.ev], by omega, by omega, by simpa [val_i, aget, E.ev, X.ev, arEv, envOf_d, cell_lg] using hA⟩ (fun v hv => ?_)
  obtain ⟨i, i0, i1, i2, i3⟩ := hv
  simp only [TT.sat_ret, TT.sat_ite, TT.sat_ob, TT.sat_next, TT.sat_stuck, put_i, put_b, put_d, put_fi, put_fb, put_fd, Ob.ok, B.ev, E.ev, X.ev, AL.ev, cmp_t, cmp_f, arEv, V.plain, V2.plain, S.plain, S0.plain, V.val, V2.val, S.val, S0.val, bV, iV, List.all_cons, List.all_nil, Bool.and_true, Bool.and_self, envOf_i, envOf_b, envOf_d, List.map_cons, List.map_nil, true_and, Bool.not_eq_true', Bool.not_eq_false', Bool.not_not, Bool.and_eq_true, and_f, cell_lg, cell_lb, cell_lr, cmpP, val_i, val_b, val_d, aget, Nat.reduceBEq, beq_self_eq_true, Bool.false_eq_true, if_true, if_false, Nat.reduceLT, Nat.reduceSub, Nat.sub_self, Nat.lt_irrefl, i0, KFi68, order_four]
  refine ⟨fun hc => ?_, fun hc => ?_⟩
  · obtain ⟨f, hf, hf'⟩ := st i (by omega)
    rw [hf, minO] at i3
    refine ⟨by omega, by omega, fun q => ⟨by omega, by omega, ?_⟩, fun q => ?_⟩
    · rw [if_pos q] at i3
      exact ⟨⟨i + 1, by rw [wrap_in _ (by omega) (by omega)]; rfl, by omega, by omega, by rw [hf']; exact i3⟩, by rw [wrap_in _ (by omega) (by omega)]; omega⟩
    · rw [if_neg q] at i3
      exact ⟨⟨i + 1, by rw [wrap_in _ (by omega) (by omega)]; rfl, by omega, by omega, by rw [hf']; exact i3⟩, by rw [wrap_in _ (by omega) (by omega)]; omega⟩
  have e1 : v.i 1 = zA := by rw [show (rAt ds 0).length - i = 0 by omega, minO] at i3; exact i3
  refine ⟨fun q => by omega, fun _ => ⟨by omega, ?_⟩⟩
  refine TT.sat_loop (fun v => ∃ i : Nat, v.i 0 = i ∧ 1 ≤ i ∧ i ≤ (rAt ds 0).length ∧ maxO (rAt ds 0) ((rAt ds 0).length - i) i (v.i 1) (v.i 2) = zB) (fun v => (rAt ds 0).length - (v.i 0).toNat)
    ⟨1, by simp [val_i, aget, E.ev], by omega, by omega, by simpa [val_i, aget, E.ev, X.ev, arEv, envOf_d, cell_lg, put_d] using hB⟩ (fun u hu => ?_)
  obtain ⟨j, j0, j1, j2, j3⟩ := hu
  simp only [TT.sat_ret, TT.sat_ite, TT.sat_ob, TT.sat_next, TT.sat_stuck, put_i, put_b, put_d, put_fi, put_fb, put_fd, Ob.ok, B.ev, E.ev, X.ev, AL.ev, cmp_t, cmp_f, arEv, V.plain, V2.plain, S.plain, S0.plain, V.val, V2.val, S.val, S0.val, bV, iV, List.all_cons, List.all_nil, Bool.and_true, Bool.and_self, envOf_i, envOf_b, envOf_d, List.map_cons, List.map_nil, true_and, Bool.not_eq_true', Bool.not_eq_false', Bool.not_not, Bool.and_eq_true, and_f, cell_lg, cell_lb, cell_lr, cmpP, val_i, val_b, val_d, aget, Nat.reduceBEq, beq_self_eq_true, Bool.false_eq_true, if_true, if_false, Nat.reduceLT, Nat.reduceSub, Nat.sub_self, Nat.lt_irrefl, i0, j0, e1, KFi68, order_four]
  refine ⟨fun hc => ?_, fun hc => ?_⟩
  · obtain ⟨f, hf, hf'⟩ := st j (by omega)
    rw [hf, maxO] at j3
    refine ⟨by omega, by omega, fun q => ⟨by omega, by omega, ?_⟩, fun q => ?_⟩
    · rw [if_pos q] at j3
      exact ⟨⟨j + 1, by rw [wrap_in _ (by omega) (by omega)]; rfl, by omega, by omega, by rw [hf']; exact j3⟩, by rw [wrap_in _ (by omega) (by omega)]; omega⟩
    · rw [if_neg q] at j3
      exact ⟨⟨j + 1, by rw [wrap_in _ (by omega) (by omega)]; rfl, by omega, by omega, by rw [hf']; exact j3⟩, by rw [wrap_in _ (by omega) (by omega)]; omega⟩
  have e2 : u.i 1 = zB := by rw [show (rAt ds 0).length - j = 0 by omega, maxO] at j3; exact j3
  refine ⟨fun q => by omega, fun _ => ⟨by omega, ?_⟩⟩
  refine TT.sat_loop (fun v => ∃ i : Nat, v.i 0 = i ∧ 1 ≤ i ∧ i ≤ (rAt ds 0).length ∧ minY (rAt ds 0) ((rAt ds 0).length - i) i (v.i 2) = zC) (fun v => (rAt ds 0).length - (v.i 0).toNat)
    ⟨1, by simp [val_i, aget, E.ev], by omega, by omega, by simpa [val_i, aget, E.ev, X.ev, arEv, envOf_d, cell_lg, put_d] using hC⟩ (fun s hs => ?_)
  obtain ⟨k, k0, k1, k2, k3⟩ := hs
  simp only [TT.sat_ret, TT.sat_ite, TT.sat_ob, TT.sat_next, TT.sat_stuck, put_i, put_b, put_d, put_fi, put_fb, put_fd, Ob.ok, B.ev, E.ev, X.ev, AL.ev, cmp_t, cmp_f, arEv, V.plain, V2.plain, S.plain, S0.plain, V.val, V2.val, S.val, S0.val, bV, iV, List.all_cons, List.all_nil, Bool.and_true, Bool.and_self, envOf_i, envOf_b, envOf_d, List.map_cons, List.map_nil, true_and, Bool.not_eq_true', Bool.not_eq_false', Bool.not_not, Bool.and_eq_true, and_f, cell_lg, cell_lb, cell_lr, cmpP, val_i, val_b, val_d, aget, Nat.reduceBEq, beq_self_eq_true, Bool.false_eq_true, if_true, if_false, Nat.reduceLT, Nat.reduceSub, Nat.sub_self, Nat.lt_irrefl, i0, j0, k0, e1, e2, KFi68, order_four]
  refine ⟨fun hc => ?_, fun hc => ?_⟩
  · obtain ⟨f, hf, hf'⟩ := st k (by omega)
    rw [hf, minY] at k3
    refine ⟨by omega, by omega, fun q => ⟨by omega, by omega, ?_⟩, fun q => ⟨fun _ => ?_, fun _ => ?_⟩⟩
    · rw [if_pos q] at k3
      exact ⟨⟨k + 1, by rw [wrap_in _ (by omega) (by omega)]; rfl, by omega, by omega, by rw [hf']; exact k3⟩, by rw [wrap_in _ (by omega) (by omega)]; omega⟩
    all_goals
      rw [if_neg q] at k3
      exact ⟨⟨k + 1, by rw [wrap_in _ (by omega) (by omega)]; rfl, by omega, by omega, by rw [hf']; exact k3⟩, by rw [wrap_in _ (by omega) (by omega)]; omega⟩
  have e3 : s.i 2 = zC := by rw [show (rAt ds 0).length - k = 0 by omega, minY] at k3; exact k3
  refine ⟨fun q => by omega, fun _ => ⟨by omega, ?_⟩⟩
  refine TT.sat_loop (fun v => ∃ i : Nat, v.i 0 = i ∧ 1 ≤ i ∧ i ≤ (rAt ds 0).length ∧ maxY (rAt ds 0) ((rAt ds 0).length - i) i (v.i 2) = zD) (fun v => (rAt ds 0).length - (v.i 0).toNat)
    ⟨1, by simp [val_i, aget, E.ev], by omega, by omega, by simpa [val_i, aget, E.ev, X.ev, arEv, envOf_d, cell_lg, put_d] using hE⟩ (fun t ht => ?_)
  obtain ⟨m, m0, m1, m2, m3⟩ := ht
  simp only [TT.sat_ret, TT.sat_ite, TT.sat_ob, TT.sat_next, TT.sat_stuck, put_i, put_b, put_d, put_fi, put_fb, put_fd, Ob.ok, B.ev, E.ev, X.ev, AL.ev, cmp_t, cmp_f, arEv, V.plain, V2.plain, S.plain, S0.plain, V.val, V2.val, S.val, S0.val, bV, iV, List.all_cons, List.all_nil, Bool.and_true, Bool.and_self, envOf_i, envOf_b, envOf_d, List.map_cons, List.map_nil, true_and, Bool.not_eq_true', Bool.not_eq_false', Bool.not_not, Bool.and_eq_true, and_f, cell_lg, cell_lb, cell_lr, cmpP, val_i, val_b, val_d, aget, Nat.reduceBEq, beq_self_eq_true, Bool.false_eq_true, if_true, if_false, Nat.reduceLT, Nat.reduceSub, Nat.sub_self, Nat.lt_irrefl, i0, j0, k0, m0, e1, e2, e3, KFi68, order_four]
  refine ⟨fun hc => ?_, fun hc => ?_⟩
  · obtain ⟨f, hf, hf'⟩ := st m (by omega)
    rw [hf, maxY] at m3
    refine ⟨by omega, by omega, fun q => ?_, fun q => ⟨fun q' => ⟨by omega, by omega, ?_⟩, fun q' => ?_⟩⟩
    · rw [if_neg (by omega)] at m3
      exact ⟨⟨m + 1, by rw [wrap_in _ (by omega) (by omega)]; rfl, by omega, by omega, by rw [hf']; exact m3⟩, by rw [wrap_in _ (by omega) (by omega)]; omega⟩
    · rw [if_pos (by omega)] at m3
      exact ⟨⟨m + 1, by rw [wrap_in _ (by omega) (by omega)]; rfl, by omega, by omega, by rw [hf']; exact m3⟩, by rw [wrap_in _ (by omega) (by omega)]; omega⟩
    · rw [if_neg (by omega)] at m3
      exact ⟨⟨m + 1, by rw [wrap_in _ (by omega) (by omega)]; rfl, by omega, by omega, by rw [hf']; exact m3⟩, by rw [wrap_in _ (by omega) (by omega)]; omega⟩
  have e4 : t.i 2 = zD := by rw [show (rAt ds 0).length - m = 0 by omega, maxY] at m3; exact m3
  rw [e4]
end Go.Proofs.Ytglepdhapakmbaa
/- Chapter 38: contract of poly.Box. -/
namespace Go.Proofs.Ytglepdhapakmbaa
open Go.RowKit
/-- All symbols so far. -/
def KH : Interp where
  fi n l := match n with | 80 => pbA l | 81 => pbB l | 82 => pbC l | 83 => pbD l | 84 => pbE l | n => KG.fi n l
  fb n l := KG.fb n l
  fd _ _ := []
theorem KH_KG {ρ : Env} (h : Sees ρ KH 85) : Sees ρ KG 80 := h.trans (by decide) fun n l hn => by
  refine ⟨?_, ?_⟩
  ·
    simp only [KH]
    split <;> first | omega | rfl
  ·
    rfl
def cPoBox := ctD [pts] fun al => .ret (.tup [.agg [sIF 80 pbA al, sIF 81 pbB al, sIF 82 pbC al, sIF 83 pbD al], .one (sIF 84 pbE al)])
theorem cPoBox_ok {ρ : Env} (h : Sees ρ KH 85) : CtOne Try.prog ρ 91 cPoBox :=
  ctD_ok gPoBox (fun _ => rfl) (fun al => by simp only [V.val, V2.val, S.val, S0.val, sIF, sBF, List.map_cons, List.map_nil, iF_ev (s := 80) (f := pbA) (fun l => by rw [(h 80 l (by decide)).1]; simp only [KH, KG, KF, KE, KD, KC, KB, KA, K9, K8, K7, K6, K5, K]), iF_ev (s := 81) (f := pbB) (fun l => by rw [(h 81 l (by decide)).1]; simp only [KH, KG, KF, KE, KD, KC, KB, KA, K9, K8, K7, K6, K5, K]), iF_ev (s := 82) (f := pbC) (fun l => by rw [(h 82 l (by decide)).1]; simp only [KH, KG, KF, KE, KD, KC, KB, KA, K9, K8, K7, K6, K5, K]), iF_ev (s := 83) (f := pbD) (fun l => by rw [(h 83 l (by decide)).1]; simp only [KH, KG, KF, KE, KD, KC, KB, KA, K9, K8, K7, K6, K5, K]), iF_ev (s := 84) (f := pbE) (fun l => by rw [(h 84 l (by decide)).1]; simp only [KH, KG, KF, KE, KD, KC, KB, KA, K9, K8, K7, K6, K5, K])]; try rfl)
def ctPb : Ct := (91, cPoBox) :: ctF
theorem ctPb_ok {ρ : Env} (h : Sees ρ KH 85) : CtOk Try.prog ρ ctPb := .cons (cPoBox_ok h) (ctF_ok (KG_KF (KH_KG h)))
end Go.Proofs.Ytglepdhapakmbaa
/- Chapter 38: the tree of feature.Box. -/
namespace Go.Proofs.Ytglepdhapakmbaa
open Go.RowKit
-- term trFeBox: call Try.prog ctPb (Lt.of []) 100 12 (symArgs 0 [feat]) [] 0
def trFeBox : TT OpR :=
(.ite (.not (.fn 76 (.i (.var 0) (.i (.var 1) (.i (.var 2) (.i (.var 3) (.i (.var 4) (.x (.var 5) (.i (.var 6) (.i (.var 7) (.x (.var 8) .nil)))))))))))
  (.ret ((.tup [(.agg [(.z (.int .i64 (.lit 0))), (.z (.int .i64 (.lit 0))), (.z (.int .i64 (.lit 0))), (.z (.int .i64 (.lit 0)))]), (.one (.z (.int .i64 (.lit 1))))]), [], 2))
  (.ite (.cmp .eql (.var 1) (.lit 4))
    (.ret ((.tup [(.agg [(.z (.int .i64 (.ar .sub .i64 (.var 2) (.lit 0)))), (.z (.int .i64 (.ar .add .i64 (.var 2) (.lit 0)))), (.z (.int .i64 (.ar .sub .i64 (.var 3) (.lit 0)))), (.z (.int .i64 (.ar .add .i64 (.var 3) (.lit 0))))]), (.one (.z (.int .i64 (.lit 0))))]), [], 7))
    (.ite (.cmp .eql (.var 1) (.lit 3))
      (.ite (.cmp .eql (.var 1) (.lit 3))
        (.ret ((.tup [(.agg [(.z (.int .i64 (.fn 80 (.x (.var 5) .nil)))), (.z (.int .i64 (.fn 81 (.x (.var 5) .nil)))), (.z (.int .i64 (.fn 82 (.x (.var 5) .nil)))), (.z (.int .i64 (.fn 83 (.x (.var 5) .nil))))]), (.one (.z (.int .i64 (.lit 0))))]), [], 5))
        (.ret ((.tup [(.agg [(.z (.int .i64 (.ar .sub .i64 (.var 2) (.var 4)))), (.z (.int .i64 (.ar .add .i64 (.var 2) (.var 4)))), (.z (.int .i64 (.ar .sub .i64 (.var 3) (.var 4)))), (.z (.int .i64 (.ar .add .i64 (.var 3) (.var 4))))]), (.one (.z (.int .i64 (.lit 0))))]), [], 5)))
      (.ite (.cmp .eql (.var 1) (.lit 6))
        (.ret ((.tup [(.agg [(.z (.int .i64 (.fn 80 (.x (.var 5) .nil)))), (.z (.int .i64 (.fn 81 (.x (.var 5) .nil)))), (.z (.int .i64 (.fn 82 (.x (.var 5) .nil)))), (.z (.int .i64 (.fn 83 (.x (.var 5) .nil))))]), (.one (.z (.int .i64 (.lit 0))))]), [], 5))
        (.ret ((.tup [(.agg [(.z (.int .i64 (.ar .sub .i64 (.var 2) (.var 4)))), (.z (.int .i64 (.ar .add .i64 (.var 2) (.var 4)))), (.z (.int .i64 (.ar .sub .i64 (.var 3) (.var 4)))), (.z (.int .i64 (.ar .add .i64 (.var 3) (.var 4))))]), (.one (.z (.int .i64 (.lit 0))))]), [], 5))))))
-- end trFeBox
set_option maxRecDepth 100000 in
theorem trFeBox_is : T.norm 0 (call Try.prog ctPb (Lt.of []) 100 12 (symArgs 0 [feat]) [] 0) TT.ret = trFeBox := by kernel_rfl
theorem trFeBox_low : trFeBox.low 1000 = true := by kernel_rfl
end Go.Proofs.Ytglepdhapakmbaa
/- Chapter 38: feature.Box. -/
namespace Go.Proofs.Ytglepdhapakmbaa
open Go.RowKit
def fbox (kind x rad p : Int) (s : Int) : Int := if kind = 4 then x else if kind = 3 ∨ kind = 6 then p else x + s * rad
def fbA (ds : List D) : Int := if featL ds then fbox (iAt ds 1) (iAt ds 2) (iAt ds 4) (pbA [.l (rAt ds 5)]) (-1) else 0
def fbB (ds : List D) : Int := if featL ds then fbox (iAt ds 1) (iAt ds 2) (iAt ds 4) (pbB [.l (rAt ds 5)]) 1 else 0
def fbC (ds : List D) : Int := if featL ds then fbox (iAt ds 1) (iAt ds 3) (iAt ds 4) (pbC [.l (rAt ds 5)]) (-1) else 0
def fbD (ds : List D) : Int := if featL ds then fbox (iAt ds 1) (iAt ds 3) (iAt ds 4) (pbD [.l (rAt ds 5)]) 1 else 0
def fbE (ds : List D) : Int := if featL ds then 0 else 1
theorem KHb76 (W : World) (ds l : List D) : (envOf KH W ds).fb 76 l = featL l := by simp only [envOf, KH, KG, KF, KE, KD, KC, KB, KA, K9, K8, K7, K6, K5, K]
theorem KHi80 (W : World) (ds l : List D) : (envOf KH W ds).fi 80 l = pbA l := by simp only [envOf, KH, KG, KF, KE, KD, KC, KB, KA, K9, K8, K7, K6, K5, K]
theorem KHi81 (W : World) (ds l : List D) : (envOf KH W ds).fi 81 l = pbB l := by simp only [envOf, KH, KG, KF, KE, KD, KC, KB, KA, K9, K8, K7, K6, K5, K]
theorem KHi82 (W : World) (ds l : List D) : (envOf KH W ds).fi 82 l = pbC l := by simp only [envOf, KH, KG, KF, KE, KD, KC, KB, KA, K9, K8, K7, K6, K5, K]
theorem KHi83 (W : World) (ds l : List D) : (envOf KH W ds).fi 83 l = pbD l := by simp only [envOf, KH, KG, KF, KE, KD, KC, KB, KA, K9, K8, K7, K6, K5, K]
theorem featL_eq (ds : List D) : featB (iAt ds 0) (iAt ds 1) (iAt ds 2) (iAt ds 3) (iAt ds 4) (rAt ds 5) (iAt ds 6) (iAt ds 7) (rAt ds 8) = featL ds := rfl
theorem gFeBox : Gives Try.prog 12 [feat] (fun ds => .tuple #[.agg #[.int .i64 (fbA ds), .int .i64 (fbB ds), .int .i64 (fbC ds), .int .i64 (fbD ds)], .int .i64 (fbE ds)]) := by
  refine GivesIf.all (fn_gives KH (by kernel_rfl) (fun ρ h => ctPb_ok (Sees.of h 85)) (by kernel_rfl) trFeBox_is trFeBox_low (by decide) (fun W vals ds hr _ => ?_))
  simp only [trFeBox, TT.sat_ret, TT.sat_ite, TT.sat_ob, TT.sat_next, TT.sat_stuck, put_i, put_b, put_d, put_fi, put_fb, put_fd, Ob.ok, B.ev, E.ev, X.ev, AL.ev, cmp_t, cmp_f, arEv, V.plain, V2.plain, S.plain, S0.plain, V.val, V2.val, S.val, S0.val, bV, iV, List.all_cons, List.all_nil, Bool.and_true, Bool.and_self, envOf_i, envOf_b, envOf_d, List.map_cons, List.map_nil, true_and, Bool.not_eq_true', Bool.not_eq_false', Bool.not_not, Bool.and_eq_true, and_f, cell_lg, cell_lb, cell_lr, cmpP, val_i, val_b, val_d, aget, Nat.reduceBEq, beq_self_eq_true, Bool.false_eq_true, if_true, if_false, Nat.reduceLT, Nat.reduceSub, Nat.sub_self, Nat.lt_irrefl, KHb76, KHi80, KHi81, KHi82, KHi83, feat_nine, featL_eq]
  simp only [fbA, fbB, fbC, fbD, fbE]
  refine ⟨fun h => by simp [h], fun h => ?_⟩
  have hf := featB_iff.mp h
  simp only [h, if_true, fbox]
  obtain ⟨_, _, _, hr, hk⟩ := hf
  refine ⟨fun k4 => ?_, fun n4 => ⟨fun k3 => ⟨fun _ => by simp [k3], fun n => absurd k3 n⟩, fun n3 => ⟨fun k6 => by simp [k6], fun n6 => ?_⟩⟩⟩
  · have hp : placeB (iAt ds 2) (iAt ds 3) = true := by
      rcases hk with q | q | q
      · exact q.2.1
      · omega
      · exact q.2.1
    rw [placeB_iff] at hp
    rw [wrap_in (iAt ds 2 - 0) (by omega) (by omega), wrap_in (iAt ds 2 + 0) (by omega) (by omega), wrap_in (iAt ds 3 - 0) (by omega) (by omega), wrap_in (iAt ds 3 + 0) (by omega) (by omega)]
    simp [k4]
  · have hp : placeB (iAt ds 2) (iAt ds 3) = true := by
      rcases hk with q | q | q
      · exact q.2.1
      · omega
      · exact q.2.1
    rw [placeB_iff] at hp
    rw [wrap_in (iAt ds 2 - iAt ds 4) (by omega) (by omega), wrap_in (iAt ds 2 + iAt ds 4) (by omega) (by omega), wrap_in (iAt ds 3 - iAt ds 4) (by omega) (by omega), wrap_in (iAt ds 3 + iAt ds 4) (by omega) (by omega)]
    simp only [if_neg n4, if_neg (show ¬ (iAt ds 1 = 3 ∨ iAt ds 1 = 6) by omega)]
    rw [show iAt ds 2 + -1 * iAt ds 4 = iAt ds 2 - iAt ds 4 by omega, show iAt ds 2 + 1 * iAt ds 4 = iAt ds 2 + iAt ds 4 by omega, show iAt ds 3 + -1 * iAt ds 4 = iAt ds 3 - iAt ds 4 by omega, show iAt ds 3 + 1 * iAt ds 4 = iAt ds 3 + iAt ds 4 by omega]
/-- All symbols so far. -/
def KI : Interp where
  fi n l := match n with | 85 => fbA l | 86 => fbB l | 87 => fbC l | 88 => fbD l | 89 => fbE l | n => KH.fi n l
  fb n l := KH.fb n l
  fd _ _ := []
theorem KI_KH {ρ : Env} (h : Sees ρ KI 90) : Sees ρ KH 85 := h.trans (by decide) fun n l hn => by
  refine ⟨?_, ?_⟩
  ·
    simp only [KI]
    split <;> first | omega | rfl
  ·
    rfl
def cFeBox := ctD [feat] fun al => .ret (.tup [.agg [sIF 85 fbA al, sIF 86 fbB al, sIF 87 fbC al, sIF 88 fbD al], .one (sIF 89 fbE al)])
theorem cFeBox_ok {ρ : Env} (h : Sees ρ KI 90) : CtOne Try.prog ρ 12 cFeBox :=
  ctD_ok gFeBox (fun _ => rfl) (fun al => by simp only [V.val, V2.val, S.val, S0.val, sIF, sBF, List.map_cons, List.map_nil, iF_ev (s := 85) (f := fbA) (fun l => by rw [(h 85 l (by decide)).1]; simp only [KI, KH, KG, KF, KE, KD, KC, KB, KA, K9, K8, K7, K6, K5, K]), iF_ev (s := 86) (f := fbB) (fun l => by rw [(h 86 l (by decide)).1]; simp only [KI, KH, KG, KF, KE, KD, KC, KB, KA, K9, K8, K7, K6, K5, K]), iF_ev (s := 87) (f := fbC) (fun l => by rw [(h 87 l (by decide)).1]; simp only [KI, KH, KG, KF, KE, KD, KC, KB, KA, K9, K8, K7, K6, K5, K]), iF_ev (s := 88) (f := fbD) (fun l => by rw [(h 88 l (by decide)).1]; simp only [KI, KH, KG, KF, KE, KD, KC, KB, KA, K9, K8, K7, K6, K5, K]), iF_ev (s := 89) (f := fbE) (fun l => by rw [(h 89 l (by decide)).1]; simp only [KI, KH, KG, KF, KE, KD, KC, KB, KA, K9, K8, K7, K6, K5, K])]; try rfl)
end Go.Proofs.Ytglepdhapakmbaa
