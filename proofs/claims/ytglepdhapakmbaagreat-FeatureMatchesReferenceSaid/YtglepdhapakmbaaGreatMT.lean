/- MT, merged: TDa, Da, Db0, TDb, Db, TEa, Ea, TEb, Eb, TEc, Ec, TEd, Ed, TEe, Ee, Fa, Pg. -/
import Derived.Test.YtglepdhapakmbaaGreatMF
import Derived.Test.YtglepdhapakmbaaGreatMI
set_option linter.unusedSimpArgs false
set_option linter.unusedVariables false
/- Chapter 38: the tree of poly.Box. -/
namespace Go.Proofs.YtglepdhapakmbaaGreat
open Go.RowKit
-- term trPoBox: call Tryz.prog ctF (Lt.of []) 100 141 (symArgs 0 [pts]) [] 0
def trPoBox : TT OpR :=
(.ite (.not (.fn 69 (.x (.var 0) .nil)))
 (.ret ((.tup [(.agg [(.z (.int .i64 (.lit 0))), (.z (.int .i64 (.lit 0))), (.z (.int .i64 (.lit 0))), (.z (.int .i64 (.lit 0)))]), (.one (.z (.int .i64 (.lit 1))))]), [], 1))
 (.ite (.cmp .lss (.len (.var 0)) (.lit 1))
 (.stuck "operation")
 (.ob (.tru (.lit true))
 (.ob (.tru (.cmp .lss (.lit 0) (.len (.var 0))))
 (.loop 0 4000 ⟨[(0, (.lit 1)), (1, (.rd (.var 0) (.lit 0) 0)), (2, (.rd (.var 0) (.lit 0) 1))], [], []⟩
 (.ite (.cmp .lss (.var 4000) (.len (.var 0)))
 (.ob (.tru (.cmp .leq (.lit 0) (.var 4000)))
 (.ob (.tru (.cmp .lss (.var 4000) (.len (.var 0))))
 (.ite (.cmp .lss (.fn 68 (.i (.rd (.var 0) (.var 4000) 0) (.i (.rd (.var 0) (.var 4000) 1) (.i (.var 4001) (.i (.var 4002) .nil))))) (.lit 0))
 (.ob (.tru (.cmp .leq (.lit 0) (.var 4000)))
 (.ob (.tru (.cmp .lss (.var 4000) (.len (.var 0))))
 (.next 0 ⟨[(0, (.ar .add .i64 (.var 4000) (.lit 1))), (1, (.rd (.var 0) (.var 4000) 0)), (2, (.rd (.var 0) (.var 4000) 1))], [], []⟩)))
 (.next 0 ⟨[(0, (.ar .add .i64 (.var 4000) (.lit 1))), (1, (.var 4001)), (2, (.var 4002))], [], []⟩))))
 (.ite (.cmp .lss (.len (.var 0)) (.lit 1))
 (.stuck "operation")
 (.ob (.tru (.lit true))
 (.ob (.tru (.cmp .lss (.lit 0) (.len (.var 0))))
 (.loop 1 7000 ⟨[(0, (.lit 1)), (1, (.rd (.var 0) (.lit 0) 0)), (2, (.rd (.var 0) (.lit 0) 1))], [], []⟩
 (.ite (.cmp .lss (.var 7000) (.len (.var 0)))
 (.ob (.tru (.cmp .leq (.lit 0) (.var 7000)))
 (.ob (.tru (.cmp .lss (.var 7000) (.len (.var 0))))
 (.ite (.cmp .gtr (.fn 68 (.i (.rd (.var 0) (.var 7000) 0) (.i (.rd (.var 0) (.var 7000) 1) (.i (.var 7001) (.i (.var 7002) .nil))))) (.lit 0))
 (.ob (.tru (.cmp .leq (.lit 0) (.var 7000)))
 (.ob (.tru (.cmp .lss (.var 7000) (.len (.var 0))))
 (.next 1 ⟨[(0, (.ar .add .i64 (.var 7000) (.lit 1))), (1, (.rd (.var 0) (.var 7000) 0)), (2, (.rd (.var 0) (.var 7000) 1))], [], []⟩)))
 (.next 1 ⟨[(0, (.ar .add .i64 (.var 7000) (.lit 1))), (1, (.var 7001)), (2, (.var 7002))], [], []⟩))))
 (.ite (.cmp .lss (.len (.var 0)) (.lit 1))
 (.stuck "operation")
 (.ob (.tru (.lit true))
 (.ob (.tru (.cmp .lss (.lit 0) (.len (.var 0))))
 (.loop 2 12000 ⟨[(0, (.lit 1)), (1, (.rd (.var 0) (.lit 0) 0)), (2, (.rd (.var 0) (.lit 0) 1))], [], []⟩
 (.ite (.cmp .lss (.var 12000) (.len (.var 0)))
 (.ob (.tru (.cmp .leq (.lit 0) (.var 12000)))
 (.ob (.tru (.cmp .lss (.var 12000) (.len (.var 0))))
 (.ite (.cmp .lss (.rd (.var 0) (.var 12000) 1) (.var 12002))
 (.ob (.tru (.cmp .leq (.lit 0) (.var 12000)))
 (.ob (.tru (.cmp .lss (.var 12000) (.len (.var 0))))
 (.next 2 ⟨[(0, (.ar .add .i64 (.var 12000) (.lit 1))), (1, (.rd (.var 0) (.var 12000) 0)), (2, (.rd (.var 0) (.var 12000) 1))], [], []⟩)))
 (.ite (.cmp .gtr (.rd (.var 0) (.var 12000) 1) (.var 12002))
 (.next 2 ⟨[(0, (.ar .add .i64 (.var 12000) (.lit 1))), (1, (.var 12001)), (2, (.var 12002))], [], []⟩)
 (.next 2 ⟨[(0, (.ar .add .i64 (.var 12000) (.lit 1))), (1, (.var 12001)), (2, (.var 12002))], [], []⟩)))))
 (.ite (.cmp .lss (.len (.var 0)) (.lit 1))
 (.stuck "operation")
 (.ob (.tru (.lit true))
 (.ob (.tru (.cmp .lss (.lit 0) (.len (.var 0))))
 (.loop 3 17000 ⟨[(0, (.lit 1)), (1, (.rd (.var 0) (.lit 0) 0)), (2, (.rd (.var 0) (.lit 0) 1))], [], []⟩
 (.ite (.cmp .lss (.var 17000) (.len (.var 0)))
 (.ob (.tru (.cmp .leq (.lit 0) (.var 17000)))
 (.ob (.tru (.cmp .lss (.var 17000) (.len (.var 0))))
 (.ite (.cmp .lss (.rd (.var 0) (.var 17000) 1) (.var 17002))
 (.next 3 ⟨[(0, (.ar .add .i64 (.var 17000) (.lit 1))), (1, (.var 17001)), (2, (.var 17002))], [], []⟩)
 (.ite (.cmp .gtr (.rd (.var 0) (.var 17000) 1) (.var 17002))
 (.ob (.tru (.cmp .leq (.lit 0) (.var 17000)))
 (.ob (.tru (.cmp .lss (.var 17000) (.len (.var 0))))
 (.next 3 ⟨[(0, (.ar .add .i64 (.var 17000) (.lit 1))), (1, (.rd (.var 0) (.var 17000) 0)), (2, (.rd (.var 0) (.var 17000) 1))], [], []⟩)))
 (.next 3 ⟨[(0, (.ar .add .i64 (.var 17000) (.lit 1))), (1, (.var 17001)), (2, (.var 17002))], [], []⟩)))))
 (.ret ((.tup [(.agg [(.z (.int .i64 (.var 4001))), (.z (.int .i64 (.var 7001))), (.z (.int .i64 (.var 12002))), (.z (.int .i64 (.var 17002)))]), (.one (.z (.int .i64 (.lit 0))))]), [], 21)))))))))))))))))))))))
-- end trPoBox
set_option maxRecDepth 100000 in
theorem trPoBox_is : T.norm 0 (call Tryz.prog ctF (Lt.of []) 100 141 (symArgs 0 [pts]) [] 0) TT.ret = trPoBox := by kernel_rfl
theorem trPoBox_low : trPoBox.low 1000 = true := by kernel_rfl
end Go.Proofs.YtglepdhapakmbaaGreat
/- Chapter 38: poly.Box. -/
namespace Go.Proofs.YtglepdhapakmbaaGreat
open Go.RowKit
def minO (r : Rows) : Nat → Nat → Int → Int → Int
  | 0, _, x, _ => x
  | f + 1, i, x, y => if orderI (lg r i 0) (lg r i 1) x y < 0 then minO r f (i + 1) (lg r i 0) (lg r i 1) else minO r f (i + 1) x y
def maxO (r : Rows) : Nat → Nat → Int → Int → Int
  | 0, _, x, _ => x
  | f + 1, i, x, y => if 0 < orderI (lg r i 0) (lg r i 1) x y then maxO r f (i + 1) (lg r i 0) (lg r i 1) else maxO r f (i + 1) x y
def minY (r : Rows) : Nat → Nat → Int → Int
  | 0, _, y => y
  | f + 1, i, y => if lg r i 1 < y then minY r f (i + 1) (lg r i 1) else minY r f (i + 1) y
def maxY (r : Rows) : Nat → Nat → Int → Int
  | 0, _, y => y
  | f + 1, i, y => if y < lg r i 1 then maxY r f (i + 1) (lg r i 1) else maxY r f (i + 1) y
def pbA (ds : List D) : Int := if polyB (rAt ds 0) then minO (rAt ds 0) ((rAt ds 0).length - 1) 1 (lg (rAt ds 0) 0 0) (lg (rAt ds 0) 0 1) else 0
def pbB (ds : List D) : Int := if polyB (rAt ds 0) then maxO (rAt ds 0) ((rAt ds 0).length - 1) 1 (lg (rAt ds 0) 0 0) (lg (rAt ds 0) 0 1) else 0
def pbC (ds : List D) : Int := if polyB (rAt ds 0) then minY (rAt ds 0) ((rAt ds 0).length - 1) 1 (lg (rAt ds 0) 0 1) else 0
def pbD (ds : List D) : Int := if polyB (rAt ds 0) then maxY (rAt ds 0) ((rAt ds 0).length - 1) 1 (lg (rAt ds 0) 0 1) else 0
def pbE (ds : List D) : Int := if polyB (rAt ds 0) then 0 else 1
theorem KFb69 (W : World) (ds l : List D) : (envOf KF W ds).fb 69 l = polyL l := by simp only [envOf, KF, KE, KD, KC, KB, KA, K9, K8, K7, K6, K5, K]
theorem KFi68 (W : World) (ds l : List D) : (envOf KF W ds).fi 68 l = orderL l := by simp only [envOf, KF, KE, KD, KC, KB, KA, K9, K8, K7, K6, K5, K]
theorem gPoBox : Gives Tryz.prog 141 [pts] (fun ds => .tuple #[.agg #[.int .i64 (pbA ds), .int .i64 (pbB ds), .int .i64 (pbC ds), .int .i64 (pbD ds)], .int .i64 (pbE ds)]) := by
  refine GivesIf.all (fn_gives KF (by kernel_rfl) (fun ρ h => ctF_ok (Sees.of h 77)) (by kernel_rfl) trPoBox_is trPoBox_low (by decide) (fun W vals ds hr _ => ?_))
  simp only [trPoBox, TT.sat_ret, TT.sat_ite, TT.sat_ob, TT.sat_next, TT.sat_stuck, put_i, put_b, put_d, put_fi, put_fb, put_fd, Ob.ok, B.ev, E.ev, X.ev, AL.ev, cmp_t, cmp_f, arEv, V.plain, V2.plain, S.plain, S0.plain, V.val, V2.val, S.val, S0.val, bV, iV, List.all_cons, List.all_nil, Bool.and_true, Bool.and_self, envOf_i, envOf_b, envOf_d, List.map_cons, List.map_nil, true_and, Bool.not_eq_true', Bool.not_eq_false', Bool.not_not, Bool.and_eq_true, and_f, cell_lg, cell_lb, cell_lr, cmpP, val_i, val_b, val_d, aget, Nat.reduceBEq, beq_self_eq_true, Bool.false_eq_true, if_true, if_false, Nat.reduceLT, Nat.reduceSub, Nat.sub_self, Nat.lt_irrefl, KFb69, KFi68, order_four, poly_one]
  refine ⟨fun h => by simp [pbA, pbB, pbC, pbD, pbE, h], fun h => ?_⟩
  have hl := polyB_len h
  refine ⟨fun q => by omega, fun _ => ⟨by omega, ?_⟩⟩
  simp only [pbA, pbB, pbC, pbD, pbE, h, if_true]
  generalize hA : minO (rAt ds 0) ((rAt ds 0).length - 1) 1 (lg (rAt ds 0) 0 0) (lg (rAt ds 0) 0 1) = zA
  generalize hB : maxO (rAt ds 0) ((rAt ds 0).length - 1) 1 (lg (rAt ds 0) 0 0) (lg (rAt ds 0) 0 1) = zB
  generalize hC : minY (rAt ds 0) ((rAt ds 0).length - 1) 1 (lg (rAt ds 0) 0 1) = zC
  generalize hE : maxY (rAt ds 0) ((rAt ds 0).length - 1) 1 (lg (rAt ds 0) 0 1) = zD
  have st : ∀ i : Nat, i < (rAt ds 0).length → ∃ f, (rAt ds 0).length - i = f + 1 ∧ (rAt ds 0).length - (i + 1) = f := fun i hi => ⟨(rAt ds 0).length - i - 1, by omega, by omega⟩
  refine TT.sat_loop (fun v => ∃ i : Nat, v.i 0 = i ∧ 1 ≤ i ∧ i ≤ (rAt ds 0).length ∧ minO (rAt ds 0) ((rAt ds 0).length - i) i (v.i 1) (v.i 2) = zA) (fun v => (rAt ds 0).length - (v.i 0).toNat)
    ⟨1, by simp [val_i, aget, E.ev], by omega, by omega, by simpa [val_i, aget, E.ev, X.ev, arEv, envOf_d, cell_lg] using hA⟩ (fun v hv => ?_)
  obtain ⟨i, i0, i1, i2, i3⟩ := hv
  simp only [TT.sat_ret, TT.sat_ite, TT.sat_ob, TT.sat_next, TT.sat_stuck, put_i, put_b, put_d, put_fi, put_fb, put_fd, Ob.ok, B.ev, E.ev, X.ev, AL.ev, cmp_t, cmp_f, arEv, V.plain, V2.plain, S.plain, S0.plain, V.val, V2.val, S.val, S0.val, bV, iV, List.all_cons, List.all_nil, Bool.and_true, Bool.and_self, envOf_i, envOf_b, envOf_d, List.map_cons, List.map_nil, true_and, Bool.not_eq_true', Bool.not_eq_false', Bool.not_not, Bool.and_eq_true, and_f, cell_lg, cell_lb, cell_lr, cmpP, val_i, val_b, val_d, aget, Nat.reduceBEq, beq_self_eq_true, Bool.false_eq_true, if_true, if_false, Nat.reduceLT, Nat.reduceSub, Nat.sub_self, Nat.lt_irrefl, i0, KFi68, order_four]
  refine ⟨fun hc => ?_, fun hc => ?_⟩
  · obtain ⟨f, hf, hf'⟩ := st i (by omega)
    rw [hf, minO] at i3
    refine ⟨by omega, by omega, fun q => ⟨by omega, by omega, ?_⟩, fun q => ?_⟩
    · rw [if_pos q] at i3
      exact ⟨⟨i + 1, by rw [wrap_in _ (by omega) (by omega)]; rfl, by omega, by omega, by rw [hf']; exact i3⟩, by rw [wrap_in _ (by omega) (by omega)]; omega⟩
    · rw [if_neg q] at i3
      exact ⟨⟨i + 1, by rw [wrap_in _ (by omega) (by omega)]; rfl, by omega, by omega, by rw [hf']; exact i3⟩, by rw [wrap_in _ (by omega) (by omega)]; omega⟩
  have e1 : v.i 1 = zA := by rw [show (rAt ds 0).length - i = 0 by omega, minO] at i3; exact i3
  refine ⟨fun q => by omega, fun _ => ⟨by omega, ?_⟩⟩
  refine TT.sat_loop (fun v => ∃ i : Nat, v.i 0 = i ∧ 1 ≤ i ∧ i ≤ (rAt ds 0).length ∧ maxO (rAt ds 0) ((rAt ds 0).length - i) i (v.i 1) (v.i 2) = zB) (fun v => (rAt ds 0).length - (v.i 0).toNat)
    ⟨1, by simp [val_i, aget, E.ev], by omega, by omega, by simpa [val_i, aget, E.ev, X.ev, arEv, envOf_d, cell_lg, put_d] using hB⟩ (fun u hu => ?_)
  obtain ⟨j, j0, j1, j2, j3⟩ := hu
  simp only [TT.sat_ret, TT.sat_ite, TT.sat_ob, TT.sat_next, TT.sat_stuck, put_i, put_b, put_d, put_fi, put_fb, put_fd, Ob.ok, B.ev, E.ev, X.ev, AL.ev, cmp_t, cmp_f, arEv, V.plain, V2.plain, S.plain, S0.plain, V.val, V2.val, S.val, S0.val, bV, iV, List.all_cons, List.all_nil, Bool.and_true, Bool.and_self, envOf_i, envOf_b, envOf_d, List.map_cons, List.map_nil, true_and, Bool.not_eq_true', Bool.not_eq_false', Bool.not_not, Bool.and_eq_true, and_f, cell_lg, cell_lb, cell_lr, cmpP, val_i, val_b, val_d, aget, Nat.reduceBEq, beq_self_eq_true, Bool.false_eq_true, if_true, if_false, Nat.reduceLT, Nat.reduceSub, Nat.sub_self, Nat.lt_irrefl, i0, j0, e1, KFi68, order_four]
  refine ⟨fun hc => ?_, fun hc => ?_⟩
  · obtain ⟨f, hf, hf'⟩ := st j (by omega)
    rw [hf, maxO] at j3
    refine ⟨by omega, by omega, fun q => ⟨by omega, by omega, ?_⟩, fun q => ?_⟩
    · rw [if_pos q] at j3
      exact ⟨⟨j + 1, by rw [wrap_in _ (by omega) (by omega)]; rfl, by omega, by omega, by rw [hf']; exact j3⟩, by rw [wrap_in _ (by omega) (by omega)]; omega⟩
    · rw [if_neg q] at j3
      exact ⟨⟨j + 1, by rw [wrap_in _ (by omega) (by omega)]; rfl, by omega, by omega, by rw [hf']; exact j3⟩, by rw [wrap_in _ (by omega) (by omega)]; omega⟩
  have e2 : u.i 1 = zB := by rw [show (rAt ds 0).length - j = 0 by omega, maxO] at j3; exact j3
  refine ⟨fun q => by omega, fun _ => ⟨by omega, ?_⟩⟩
  refine TT.sat_loop (fun v => ∃ i : Nat, v.i 0 = i ∧ 1 ≤ i ∧ i ≤ (rAt ds 0).length ∧ minY (rAt ds 0) ((rAt ds 0).length - i) i (v.i 2) = zC) (fun v => (rAt ds 0).length - (v.i 0).toNat)
    ⟨1, by simp [val_i, aget, E.ev], by omega, by omega, by simpa [val_i, aget, E.ev, X.ev, arEv, envOf_d, cell_lg, put_d] using hC⟩ (fun s hs => ?_)
  obtain ⟨k, k0, k1, k2, k3⟩ := hs
  simp only [TT.sat_ret, TT.sat_ite, TT.sat_ob, TT.sat_next, TT.sat_stuck, put_i, put_b, put_d, put_fi, put_fb, put_fd, Ob.ok, B.ev, E.ev, X.ev, AL.ev, cmp_t, cmp_f, arEv, V.plain, V2.plain, S.plain, S0.plain, V.val, V2.val, S.val, S0.val, bV, iV, List.all_cons, List.all_nil, Bool.and_true, Bool.and_self, envOf_i, envOf_b, envOf_d, List.map_cons, List.map_nil, true_and, Bool.not_eq_true', Bool.not_eq_false', Bool.not_not, Bool.and_eq_true, and_f, cell_lg, cell_lb, cell_lr, cmpP, val_i, val_b, val_d, aget, Nat.reduceBEq, beq_self_eq_true, Bool.false_eq_true, if_true, if_false, Nat.reduceLT, Nat.reduceSub, Nat.sub_self, Nat.lt_irrefl, i0, j0, k0, e1, e2, KFi68, order_four]
  refine ⟨fun hc => ?_, fun hc => ?_⟩
  · obtain ⟨f, hf, hf'⟩ := st k (by omega)
    rw [hf, minY] at k3
    refine ⟨by omega, by omega, fun q => ⟨by omega, by omega, ?_⟩, fun q => ⟨fun _ => ?_, fun _ => ?_⟩⟩
    · rw [if_pos q] at k3
      exact ⟨⟨k + 1, by rw [wrap_in _ (by omega) (by omega)]; rfl, by omega, by omega, by rw [hf']; exact k3⟩, by rw [wrap_in _ (by omega) (by omega)]; omega⟩
    all_goals
      rw [if_neg q] at k3
      exact ⟨⟨k + 1, by rw [wrap_in _ (by omega) (by omega)]; rfl, by omega, by omega, by rw [hf']; exact k3⟩, by rw [wrap_in _ (by omega) (by omega)]; omega⟩
  have e3 : s.i 2 = zC := by rw [show (rAt ds 0).length - k = 0 by omega, minY] at k3; exact k3
  refine ⟨fun q => by omega, fun _ => ⟨by omega, ?_⟩⟩
  refine TT.sat_loop (fun v => ∃ i : Nat, v.i 0 = i ∧ 1 ≤ i ∧ i ≤ (rAt ds 0).length ∧ maxY (rAt ds 0) ((rAt ds 0).length - i) i (v.i 2) = zD) (fun v => (rAt ds 0).length - (v.i 0).toNat)
    ⟨1, by simp [val_i, aget, E.ev], by omega, by omega, by simpa [val_i, aget, E.ev, X.ev, arEv, envOf_d, cell_lg, put_d] using hE⟩ (fun t ht => ?_)
  obtain ⟨m, m0, m1, m2, m3⟩ := ht
  simp only [TT.sat_ret, TT.sat_ite, TT.sat_ob, TT.sat_next, TT.sat_stuck, put_i, put_b, put_d, put_fi, put_fb, put_fd, Ob.ok, B.ev, E.ev, X.ev, AL.ev, cmp_t, cmp_f, arEv, V.plain, V2.plain, S.plain, S0.plain, V.val, V2.val, S.val, S0.val, bV, iV, List.all_cons, List.all_nil, Bool.and_true, Bool.and_self, envOf_i, envOf_b, envOf_d, List.map_cons, List.map_nil, true_and, Bool.not_eq_true', Bool.not_eq_false', Bool.not_not, Bool.and_eq_true, and_f, cell_lg, cell_lb, cell_lr, cmpP, val_i, val_b, val_d, aget, Nat.reduceBEq, beq_self_eq_true, Bool.false_eq_true, if_true, if_false, Nat.reduceLT, Nat.reduceSub, Nat.sub_self, Nat.lt_irrefl, i0, j0, k0, m0, e1, e2, e3, KFi68, order_four]
  refine ⟨fun hc => ?_, fun hc => ?_⟩
  · obtain ⟨f, hf, hf'⟩ := st m (by omega)
    rw [hf, maxY] at m3
    refine ⟨by omega, by omega, fun q => ?_, fun q => ⟨fun q' => ⟨by omega, by omega, ?_⟩, fun q' => ?_⟩⟩
    · rw [if_neg (by omega)] at m3
      exact ⟨⟨m + 1, by rw [wrap_in _ (by omega) (by omega)]; rfl, by omega, by omega, by rw [hf']; exact m3⟩, by rw [wrap_in _ (by omega) (by omega)]; omega⟩
    · rw [if_pos (by omega)] at m3
      exact ⟨⟨m + 1, by rw [wrap_in _ (by omega) (by omega)]; rfl, by omega, by omega, by rw [hf']; exact m3⟩, by rw [wrap_in _ (by omega) (by omega)]; omega⟩
    · rw [if_neg (by omega)] at m3
      exact ⟨⟨m + 1, by rw [wrap_in _ (by omega) (by omega)]; rfl, by omega, by omega, by rw [hf']; exact m3⟩, by rw [wrap_in _ (by omega) (by omega)]; omega⟩
  have e4 : t.i 2 = zD := by rw [show (rAt ds 0).length - m = 0 by omega, maxY] at m3; exact m3
  rw [e4]
end Go.Proofs.YtglepdhapakmbaaGreat
/- Chapter 38: contract of poly.Box. -/
namespace Go.Proofs.YtglepdhapakmbaaGreat
open Go.RowKit
def KH : Interp where
  fi n l := match n with | 80 => pbA l | 81 => pbB l | 82 => pbC l | 83 => pbD l | 84 => pbE l | n => KG.fi n l
  fb n l := KG.fb n l
  fd _ _ := []
theorem KH_KG {ρ : Env} (h : Sees ρ KH 85) : Sees ρ KG 80 := h.trans (by decide) fun n l hn => by
  refine ⟨?_, ?_⟩
  ·
    simp only [KH]
    split <;> first | omega | rfl
  ·
    rfl
def cPoBox := ctD [pts] fun al => .ret (.tup [.agg [sIF 80 pbA al, sIF 81 pbB al, sIF 82 pbC al, sIF 83 pbD al], .one (sIF 84 pbE al)])
theorem cPoBox_ok {ρ : Env} (h : Sees ρ KH 85) : CtOne Tryz.prog ρ 141 cPoBox :=
  ctD_ok gPoBox (fun _ => rfl) (fun al => by simp only [V.val, V2.val, S.val, S0.val, sIF, sBF, List.map_cons, List.map_nil, iF_ev (s := 80) (f := pbA) (fun l => by rw [(h 80 l (by decide)).1]; simp only [KH, KG, KF, KE, KD, KC, KB, KA, K9, K8, K7, K6, K5, K]), iF_ev (s := 81) (f := pbB) (fun l => by rw [(h 81 l (by decide)).1]; simp only [KH, KG, KF, KE, KD, KC, KB, KA, K9, K8, K7, K6, K5, K]), iF_ev (s := 82) (f := pbC) (fun l => by rw [(h 82 l (by decide)).1]; simp only [KH, KG, KF, KE, KD, KC, KB, KA, K9, K8, K7, K6, K5, K]), iF_ev (s := 83) (f := pbD) (fun l => by rw [(h 83 l (by decide)).1]; simp only [KH, KG, KF, KE, KD, KC, KB, KA, K9, K8, K7, K6, K5, K]), iF_ev (s := 84) (f := pbE) (fun l => by rw [(h 84 l (by decide)).1]; simp only [KH, KG, KF, KE, KD, KC, KB, KA, K9, K8, K7, K6, K5, K])]; try rfl)
def ctPb : Ct := (141, cPoBox) :: ctF
theorem ctPb_ok {ρ : Env} (h : Sees ρ KH 85) : CtOk Tryz.prog ρ ctPb := .cons (cPoBox_ok h) (ctF_ok (KG_KF (KH_KG h)))
end Go.Proofs.YtglepdhapakmbaaGreat
/- Chapter 38: the tree of feature.Box. -/
namespace Go.Proofs.YtglepdhapakmbaaGreat
open Go.RowKit
-- term trFeBox: call Tryz.prog ctPb (Lt.of []) 100 21 (symArgs 0 [feat]) [] 0
def trFeBox : TT OpR :=
(.ite (.not (.fn 76 (.i (.var 0) (.i (.var 1) (.i (.var 2) (.i (.var 3) (.i (.var 4) (.x (.var 5) (.i (.var 6) (.i (.var 7) (.x (.var 8) .nil)))))))))))
 (.ret ((.tup [(.agg [(.z (.int .i64 (.lit 0))), (.z (.int .i64 (.lit 0))), (.z (.int .i64 (.lit 0))), (.z (.int .i64 (.lit 0)))]), (.one (.z (.int .i64 (.lit 1))))]), [], 2))
 (.ite (.cmp .eql (.var 1) (.lit 4))
 (.ret ((.tup [(.agg [(.z (.int .i64 (.ar .sub .i64 (.var 2) (.lit 0)))), (.z (.int .i64 (.ar .add .i64 (.var 2) (.lit 0)))), (.z (.int .i64 (.ar .sub .i64 (.var 3) (.lit 0)))), (.z (.int .i64 (.ar .add .i64 (.var 3) (.lit 0))))]), (.one (.z (.int .i64 (.lit 0))))]), [], 7))
 (.ite (.cmp .eql (.var 1) (.lit 3))
 (.ite (.cmp .eql (.var 1) (.lit 3))
 (.ret ((.tup [(.agg [(.z (.int .i64 (.fn 80 (.x (.var 5) .nil)))), (.z (.int .i64 (.fn 81 (.x (.var 5) .nil)))), (.z (.int .i64 (.fn 82 (.x (.var 5) .nil)))), (.z (.int .i64 (.fn 83 (.x (.var 5) .nil))))]), (.one (.z (.int .i64 (.lit 0))))]), [], 5))
 (.ret ((.tup [(.agg [(.z (.int .i64 (.ar .sub .i64 (.var 2) (.var 4)))), (.z (.int .i64 (.ar .add .i64 (.var 2) (.var 4)))), (.z (.int .i64 (.ar .sub .i64 (.var 3) (.var 4)))), (.z (.int .i64 (.ar .add .i64 (.var 3) (.var 4))))]), (.one (.z (.int .i64 (.lit 0))))]), [], 5)))
 (.ite (.cmp .eql (.var 1) (.lit 6))
 (.ret ((.tup [(.agg [(.z (.int .i64 (.fn 80 (.x (.var 5) .nil)))), (.z (.int .i64 (.fn 81 (.x (.var 5) .nil)))), (.z (.int .i64 (.fn 82 (.x (.var 5) .nil)))), (.z (.int .i64 (.fn 83 (.x (.var 5) .nil))))]), (.one (.z (.int .i64 (.lit 0))))]), [], 5))
 (.ret ((.tup [(.agg [(.z (.int .i64 (.ar .sub .i64 (.var 2) (.var 4)))), (.z (.int .i64 (.ar .add .i64 (.var 2) (.var 4)))), (.z (.int .i64 (.ar .sub .i64 (.var 3) (.var 4)))), (.z (.int .i64 (.ar .add .i64 (.var 3) (.var 4))))]), (.one (.z (.int .i64 (.lit 0))))]), [], 5))))))
-- end trFeBox
set_option maxRecDepth 100000 in
theorem trFeBox_is : T.norm 0 (call Tryz.prog ctPb (Lt.of []) 100 21 (symArgs 0 [feat]) [] 0) TT.ret = trFeBox := by kernel_rfl
theorem trFeBox_low : trFeBox.low 1000 = true := by kernel_rfl
end Go.Proofs.YtglepdhapakmbaaGreat
/- Chapter 38: feature.Box. -/
namespace Go.Proofs.YtglepdhapakmbaaGreat
open Go.RowKit
def fbox (kind x rad p : Int) (s : Int) : Int := if kind = 4 then x else if kind = 3 ∨ kind = 6 then p else x + s * rad
def fbA (ds : List D) : Int := if featL ds then fbox (iAt ds 1) (iAt ds 2) (iAt ds 4) (pbA [.l (rAt ds 5)]) (-1) else 0
def fbB (ds : List D) : Int := if featL ds then fbox (iAt ds 1) (iAt ds 2) (iAt ds 4) (pbB [.l (rAt ds 5)]) 1 else 0
def fbC (ds : List D) : Int := if featL ds then fbox (iAt ds 1) (iAt ds 3) (iAt ds 4) (pbC [.l (rAt ds 5)]) (-1) else 0
def fbD (ds : List D) : Int := if featL ds then fbox (iAt ds 1) (iAt ds 3) (iAt ds 4) (pbD [.l (rAt ds 5)]) 1 else 0
def fbE (ds : List D) : Int := if featL ds then 0 else 1
theorem KHb76 (W : World) (ds l : List D) : (envOf KH W ds).fb 76 l = featL l := by simp only [envOf, KH, KG, KF, KE, KD, KC, KB, KA, K9, K8, K7, K6, K5, K]
theorem KHi80 (W : World) (ds l : List D) : (envOf KH W ds).fi 80 l = pbA l := by simp only [envOf, KH, KG, KF, KE, KD, KC, KB, KA, K9, K8, K7, K6, K5, K]
theorem KHi81 (W : World) (ds l : List D) : (envOf KH W ds).fi 81 l = pbB l := by simp only [envOf, KH, KG, KF, KE, KD, KC, KB, KA, K9, K8, K7, K6, K5, K]
theorem KHi82 (W : World) (ds l : List D) : (envOf KH W ds).fi 82 l = pbC l := by simp only [envOf, KH, KG, KF, KE, KD, KC, KB, KA, K9, K8, K7, K6, K5, K]
theorem KHi83 (W : World) (ds l : List D) : (envOf KH W ds).fi 83 l = pbD l := by simp only [envOf, KH, KG, KF, KE, KD, KC, KB, KA, K9, K8, K7, K6, K5, K]
theorem featL_eq (ds : List D) : featB (iAt ds 0) (iAt ds 1) (iAt ds 2) (iAt ds 3) (iAt ds 4) (rAt ds 5) (iAt ds 6) (iAt ds 7) (rAt ds 8) = featL ds := rfl
theorem gFeBox : Gives Tryz.prog 21 [feat] (fun ds => .tuple #[.agg #[.int .i64 (fbA ds), .int .i64 (fbB ds), .int .i64 (fbC ds), .int .i64 (fbD ds)], .int .i64 (fbE ds)]) := by
  refine GivesIf.all (fn_gives KH (by kernel_rfl) (fun ρ h => ctPb_ok (Sees.of h 85)) (by kernel_rfl) trFeBox_is trFeBox_low (by decide) (fun W vals ds hr _ => ?_))
  simp only [trFeBox, TT.sat_ret, TT.sat_ite, TT.sat_ob, TT.sat_next, TT.sat_stuck, put_i, put_b, put_d, put_fi, put_fb, put_fd, Ob.ok, B.ev, E.ev, X.ev, AL.ev, cmp_t, cmp_f, arEv, V.plain, V2.plain, S.plain, S0.plain, V.val, V2.val, S.val, S0.val, bV, iV, List.all_cons, List.all_nil, Bool.and_true, Bool.and_self, envOf_i, envOf_b, envOf_d, List.map_cons, List.map_nil, true_and, Bool.not_eq_true', Bool.not_eq_false', Bool.not_not, Bool.and_eq_true, and_f, cell_lg, cell_lb, cell_lr, cmpP, val_i, val_b, val_d, aget, Nat.reduceBEq, beq_self_eq_true, Bool.false_eq_true, if_true, if_false, Nat.reduceLT, Nat.reduceSub, Nat.sub_self, Nat.lt_irrefl, KHb76, KHi80, KHi81, KHi82, KHi83, feat_nine, featL_eq]
  simp only [fbA, fbB, fbC, fbD, fbE]
  refine ⟨fun h => by simp [h], fun h => ?_⟩
  have hf := featB_iff.mp h
  simp only [h, if_true, fbox]
  obtain ⟨_, _, _, hr, hk⟩ := hf
  refine ⟨fun k4 => ?_, fun n4 => ⟨fun k3 => ⟨fun _ => by simp [k3], fun n => absurd k3 n⟩, fun n3 => ⟨fun k6 => by simp [k6], fun n6 => ?_⟩⟩⟩
  · have hp : placeB (iAt ds 2) (iAt ds 3) = true := by
      rcases hk with q | q | q
      · exact q.2.1
      · omega
      · exact q.2.1
    rw [placeB_iff] at hp
    rw [wrap_in (iAt ds 2 - 0) (by omega) (by omega), wrap_in (iAt ds 2 + 0) (by omega) (by omega), wrap_in (iAt ds 3 - 0) (by omega) (by omega), wrap_in (iAt ds 3 + 0) (by omega) (by omega)]
    simp [k4]
  · have hp : placeB (iAt ds 2) (iAt ds 3) = true := by
      rcases hk with q | q | q
      · exact q.2.1
      · omega
      · exact q.2.1
    rw [placeB_iff] at hp
    rw [wrap_in (iAt ds 2 - iAt ds 4) (by omega) (by omega), wrap_in (iAt ds 2 + iAt ds 4) (by omega) (by omega), wrap_in (iAt ds 3 - iAt ds 4) (by omega) (by omega), wrap_in (iAt ds 3 + iAt ds 4) (by omega) (by omega)]
    simp only [if_neg n4, if_neg (show ¬ (iAt ds 1 = 3 ∨ iAt ds 1 = 6) by omega)]
    rw [show iAt ds 2 + -1 * iAt ds 4 = iAt ds 2 - iAt ds 4 by omega, show iAt ds 2 + 1 * iAt ds 4 = iAt ds 2 + iAt ds 4 by omega, show iAt ds 3 + -1 * iAt ds 4 = iAt ds 3 - iAt ds 4 by omega, show iAt ds 3 + 1 * iAt ds 4 = iAt ds 3 + iAt ds 4 by omega]
def KI : Interp where
  fi n l := match n with | 85 => fbA l | 86 => fbB l | 87 => fbC l | 88 => fbD l | 89 => fbE l | n => KH.fi n l
  fb n l := KH.fb n l
  fd _ _ := []
theorem KI_KH {ρ : Env} (h : Sees ρ KI 90) : Sees ρ KH 85 := h.trans (by decide) fun n l hn => by
  refine ⟨?_, ?_⟩
  ·
    simp only [KI]
    split <;> first | omega | rfl
  ·
    rfl
def cFeBox := ctD [feat] fun al => .ret (.tup [.agg [sIF 85 fbA al, sIF 86 fbB al, sIF 87 fbC al, sIF 88 fbD al], .one (sIF 89 fbE al)])
theorem cFeBox_ok {ρ : Env} (h : Sees ρ KI 90) : CtOne Tryz.prog ρ 21 cFeBox :=
  ctD_ok gFeBox (fun _ => rfl) (fun al => by simp only [V.val, V2.val, S.val, S0.val, sIF, sBF, List.map_cons, List.map_nil, iF_ev (s := 85) (f := fbA) (fun l => by rw [(h 85 l (by decide)).1]; simp only [KI, KH, KG, KF, KE, KD, KC, KB, KA, K9, K8, K7, K6, K5, K]), iF_ev (s := 86) (f := fbB) (fun l => by rw [(h 86 l (by decide)).1]; simp only [KI, KH, KG, KF, KE, KD, KC, KB, KA, K9, K8, K7, K6, K5, K]), iF_ev (s := 87) (f := fbC) (fun l => by rw [(h 87 l (by decide)).1]; simp only [KI, KH, KG, KF, KE, KD, KC, KB, KA, K9, K8, K7, K6, K5, K]), iF_ev (s := 88) (f := fbD) (fun l => by rw [(h 88 l (by decide)).1]; simp only [KI, KH, KG, KF, KE, KD, KC, KB, KA, K9, K8, K7, K6, K5, K]), iF_ev (s := 89) (f := fbE) (fun l => by rw [(h 89 l (by decide)).1]; simp only [KI, KH, KG, KF, KE, KD, KC, KB, KA, K9, K8, K7, K6, K5, K])]; try rfl)
end Go.Proofs.YtglepdhapakmbaaGreat
/- Chapter 07: trees of plane.Apart, plane.Lies. -/
namespace Go.Proofs.YtglepdhapakmbaaGreat
open Go.RowKit
-- term trApart: call Tryz.prog ct1 lt1 100 151 (symArgs 0 [pt, pt, pt, it]) [] 0
def trApart : TT OpR :=
(.ite (.not (.fn 3 (.i (.var 0) (.i (.var 1) .nil))))
 (.ret ((.tup [(.one (.z (.bool (.lit false)))), (.one (.z (.int .i64 (.lit 1))))]), [], 5))
 (.ite (.not (.fn 3 (.i (.var 2) (.i (.var 3) .nil))))
 (.ret ((.tup [(.one (.z (.bool (.lit false)))), (.one (.z (.int .i64 (.lit 1))))]), [], 6))
 (.ite (.not (.fn 3 (.i (.var 4) (.i (.var 5) .nil))))
 (.ret ((.tup [(.one (.z (.bool (.lit false)))), (.one (.z (.int .i64 (.lit 1))))]), [], 7))
 (.ite (.cmp .geq (.var 6) (.lit 0))
 (.ite (.not (.cmp .leq (.var 6) (.lit 3000000)))
 (.ret ((.tup [(.one (.z (.bool (.lit false)))), (.one (.z (.int .i64 (.lit 1))))]), [], 7))
 (.ite (.cmp .leq (.ar .add .i64 (.ar .mul .i64 (.ar .sub .i64 (.var 4) (.var 2)) (.ar .sub .i64 (.var 0) (.var 2))) (.ar .mul .i64 (.ar .sub .i64 (.var 5) (.var 3)) (.ar .sub .i64 (.var 1) (.var 3)))) (.lit 0))
 (.ob (.tru (.cmp .leq (.lit 0) (.ar .mul .i64 (.var 6) (.var 6))))
 (.ob (.tru (.cmp .lss (.ar .mul .i64 (.var 6) (.var 6)) (.lit 9223372036854775808)))
 (.ob (.tru (.lit true))
 (.ob (.tru (.lit true))
 (.ob (.tru (.cmp .leq (.lit 0) (.ar .add .i64 (.ar .mul .i64 (.ar .sub .i64 (.var 0) (.var 2)) (.ar .sub .i64 (.var 0) (.var 2))) (.ar .mul .i64 (.ar .sub .i64 (.var 1) (.var 3)) (.ar .sub .i64 (.var 1) (.var 3))))))
 (.ob (.tru (.cmp .lss (.ar .add .i64 (.ar .mul .i64 (.ar .sub .i64 (.var 0) (.var 2)) (.ar .sub .i64 (.var 0) (.var 2))) (.ar .mul .i64 (.ar .sub .i64 (.var 1) (.var 3)) (.ar .sub .i64 (.var 1) (.var 3)))) (.lit 9223372036854775808)))
 (.ob (.tru (.lit true))
 (.ob (.tru (.lit true))
 (.ret ((.tup [(.one (.z (.bool (.fn 0 (.i (.ar .mul .i64 (.var 6) (.var 6)) (.i (.lit 1) (.i (.ar .add .i64 (.ar .mul .i64 (.ar .sub .i64 (.var 0) (.var 2)) (.ar .sub .i64 (.var 0) (.var 2))) (.ar .mul .i64 (.ar .sub .i64 (.var 1) (.var 3)) (.ar .sub .i64 (.var 1) (.var 3)))) (.i (.lit 1) .nil)))))))), (.one (.z (.int .i64 (.lit 0))))]), [], 24))))))))))
 (.ite (.cmp .geq (.ar .add .i64 (.ar .mul .i64 (.ar .sub .i64 (.var 4) (.var 2)) (.ar .sub .i64 (.var 0) (.var 2))) (.ar .mul .i64 (.ar .sub .i64 (.var 5) (.var 3)) (.ar .sub .i64 (.var 1) (.var 3)))) (.ar .add .i64 (.ar .mul .i64 (.ar .sub .i64 (.var 4) (.var 2)) (.ar .sub .i64 (.var 4) (.var 2))) (.ar .mul .i64 (.ar .sub .i64 (.var 5) (.var 3)) (.ar .sub .i64 (.var 5) (.var 3)))))
 (.ob (.tru (.cmp .leq (.lit 0) (.ar .mul .i64 (.var 6) (.var 6))))
 (.ob (.tru (.cmp .lss (.ar .mul .i64 (.var 6) (.var 6)) (.lit 9223372036854775808)))
 (.ob (.tru (.lit true))
 (.ob (.tru (.lit true))
 (.ob (.tru (.cmp .leq (.lit 0) (.ar .add .i64 (.ar .mul .i64 (.ar .sub .i64 (.var 0) (.var 4)) (.ar .sub .i64 (.var 0) (.var 4))) (.ar .mul .i64 (.ar .sub .i64 (.var 1) (.var 5)) (.ar .sub .i64 (.var 1) (.var 5))))))
 (.ob (.tru (.cmp .lss (.ar .add .i64 (.ar .mul .i64 (.ar .sub .i64 (.var 0) (.var 4)) (.ar .sub .i64 (.var 0) (.var 4))) (.ar .mul .i64 (.ar .sub .i64 (.var 1) (.var 5)) (.ar .sub .i64 (.var 1) (.var 5)))) (.lit 9223372036854775808)))
 (.ob (.tru (.lit true))
 (.ob (.tru (.lit true))
 (.ret ((.tup [(.one (.z (.bool (.fn 0 (.i (.ar .mul .i64 (.var 6) (.var 6)) (.i (.lit 1) (.i (.ar .add .i64 (.ar .mul .i64 (.ar .sub .i64 (.var 0) (.var 4)) (.ar .sub .i64 (.var 0) (.var 4))) (.ar .mul .i64 (.ar .sub .i64 (.var 1) (.var 5)) (.ar .sub .i64 (.var 1) (.var 5)))) (.i (.lit 1) .nil)))))))), (.one (.z (.int .i64 (.lit 0))))]), [], 28))))))))))
 (.ob (.tru (.cmp .leq (.lit 0) (.ar .mul .i64 (.var 6) (.var 6))))
 (.ob (.tru (.cmp .lss (.ar .mul .i64 (.var 6) (.var 6)) (.lit 9223372036854775808)))
 (.ob (.tru (.cmp .leq (.lit 0) (.ar .add .i64 (.ar .mul .i64 (.ar .sub .i64 (.var 4) (.var 2)) (.ar .sub .i64 (.var 4) (.var 2))) (.ar .mul .i64 (.ar .sub .i64 (.var 5) (.var 3)) (.ar .sub .i64 (.var 5) (.var 3))))))
 (.ob (.tru (.cmp .lss (.ar .add .i64 (.ar .mul .i64 (.ar .sub .i64 (.var 4) (.var 2)) (.ar .sub .i64 (.var 4) (.var 2))) (.ar .mul .i64 (.ar .sub .i64 (.var 5) (.var 3)) (.ar .sub .i64 (.var 5) (.var 3)))) (.lit 9223372036854775808)))
 (.ob (.tru (.cmp .leq (.lit 0) (.mx (.ar .sub .i64 (.ar .mul .i64 (.ar .sub .i64 (.var 4) (.var 2)) (.ar .sub .i64 (.var 1) (.var 3))) (.ar .mul .i64 (.ar .sub .i64 (.var 5) (.var 3)) (.ar .sub .i64 (.var 0) (.var 2)))) (.ar .sub .i64 (.lit 0) (.ar .sub .i64 (.ar .mul .i64 (.ar .sub .i64 (.var 4) (.var 2)) (.ar .sub .i64 (.var 1) (.var 3))) (.ar .mul .i64 (.ar .sub .i64 (.var 5) (.var 3)) (.ar .sub .i64 (.var 0) (.var 2))))))))
 (.ob (.tru (.cmp .lss (.mx (.ar .sub .i64 (.ar .mul .i64 (.ar .sub .i64 (.var 4) (.var 2)) (.ar .sub .i64 (.var 1) (.var 3))) (.ar .mul .i64 (.ar .sub .i64 (.var 5) (.var 3)) (.ar .sub .i64 (.var 0) (.var 2)))) (.ar .sub .i64 (.lit 0) (.ar .sub .i64 (.ar .mul .i64 (.ar .sub .i64 (.var 4) (.var 2)) (.ar .sub .i64 (.var 1) (.var 3))) (.ar .mul .i64 (.ar .sub .i64 (.var 5) (.var 3)) (.ar .sub .i64 (.var 0) (.var 2)))))) (.lit 9223372036854775808)))
 (.ob (.tru (.cmp .leq (.lit 0) (.mx (.ar .sub .i64 (.ar .mul .i64 (.ar .sub .i64 (.var 4) (.var 2)) (.ar .sub .i64 (.var 1) (.var 3))) (.ar .mul .i64 (.ar .sub .i64 (.var 5) (.var 3)) (.ar .sub .i64 (.var 0) (.var 2)))) (.ar .sub .i64 (.lit 0) (.ar .sub .i64 (.ar .mul .i64 (.ar .sub .i64 (.var 4) (.var 2)) (.ar .sub .i64 (.var 1) (.var 3))) (.ar .mul .i64 (.ar .sub .i64 (.var 5) (.var 3)) (.ar .sub .i64 (.var 0) (.var 2))))))))
 (.ob (.tru (.cmp .lss (.mx (.ar .sub .i64 (.ar .mul .i64 (.ar .sub .i64 (.var 4) (.var 2)) (.ar .sub .i64 (.var 1) (.var 3))) (.ar .mul .i64 (.ar .sub .i64 (.var 5) (.var 3)) (.ar .sub .i64 (.var 0) (.var 2)))) (.ar .sub .i64 (.lit 0) (.ar .sub .i64 (.ar .mul .i64 (.ar .sub .i64 (.var 4) (.var 2)) (.ar .sub .i64 (.var 1) (.var 3))) (.ar .mul .i64 (.ar .sub .i64 (.var 5) (.var 3)) (.ar .sub .i64 (.var 0) (.var 2)))))) (.lit 9223372036854775808)))
 (.ret ((.tup [(.one (.z (.bool (.fn 0 (.i (.ar .mul .i64 (.var 6) (.var 6)) (.i (.ar .add .i64 (.ar .mul .i64 (.ar .sub .i64 (.var 4) (.var 2)) (.ar .sub .i64 (.var 4) (.var 2))) (.ar .mul .i64 (.ar .sub .i64 (.var 5) (.var 3)) (.ar .sub .i64 (.var 5) (.var 3)))) (.i (.mx (.ar .sub .i64 (.ar .mul .i64 (.ar .sub .i64 (.var 4) (.var 2)) (.ar .sub .i64 (.var 1) (.var 3))) (.ar .mul .i64 (.ar .sub .i64 (.var 5) (.var 3)) (.ar .sub .i64 (.var 0) (.var 2)))) (.ar .sub .i64 (.lit 0) (.ar .sub .i64 (.ar .mul .i64 (.ar .sub .i64 (.var 4) (.var 2)) (.ar .sub .i64 (.var 1) (.var 3))) (.ar .mul .i64 (.ar .sub .i64 (.var 5) (.var 3)) (.ar .sub .i64 (.var 0) (.var 2)))))) (.i (.mx (.ar .sub .i64 (.ar .mul .i64 (.ar .sub .i64 (.var 4) (.var 2)) (.ar .sub .i64 (.var 1) (.var 3))) (.ar .mul .i64 (.ar .sub .i64 (.var 5) (.var 3)) (.ar .sub .i64 (.var 0) (.var 2)))) (.ar .sub .i64 (.lit 0) (.ar .sub .i64 (.ar .mul .i64 (.ar .sub .i64 (.var 4) (.var 2)) (.ar .sub .i64 (.var 1) (.var 3))) (.ar .mul .i64 (.ar .sub .i64 (.var 5) (.var 3)) (.ar .sub .i64 (.var 0) (.var 2)))))) .nil)))))))), (.one (.z (.int .i64 (.lit 0))))]), [], 24)))))))))))))
 (.ret ((.tup [(.one (.z (.bool (.lit false)))), (.one (.z (.int .i64 (.lit 1))))]), [], 7))))))
-- end trApart
set_option maxRecDepth 100000 in
theorem trApart_is : T.norm 0 (call Tryz.prog ct1 lt1 100 151 (symArgs 0 [pt, pt, pt, it]) [] 0) TT.ret = trApart := by kernel_rfl
theorem trApart_low : trApart.low 1000 = true := by kernel_rfl
-- term trLies: call Tryz.prog ct1 lt1 100 167 (symArgs 0 [pt, it, pt, it]) [] 0
def trLies : TT OpR :=
(.ite (.not (.fn 3 (.i (.var 0) (.i (.var 1) .nil))))
 (.ret ((.tup [(.one (.z (.bool (.lit false)))), (.one (.z (.int .i64 (.lit 1))))]), [], 4))
 (.ite (.not (.fn 3 (.i (.var 3) (.i (.var 4) .nil))))
 (.ret ((.tup [(.one (.z (.bool (.lit false)))), (.one (.z (.int .i64 (.lit 1))))]), [], 5))
 (.ite (.cmp .geq (.var 2) (.lit 0))
 (.ite (.not (.cmp .leq (.var 2) (.lit 3000000)))
 (.ret ((.tup [(.one (.z (.bool (.lit false)))), (.one (.z (.int .i64 (.lit 1))))]), [], 5))
 (.ite (.cmp .geq (.var 5) (.lit 0))
 (.ite (.not (.cmp .leq (.var 5) (.lit 3000000)))
 (.ret ((.tup [(.one (.z (.bool (.lit false)))), (.one (.z (.int .i64 (.lit 1))))]), [], 5))
 (.ite (.cmp .leq (.var 2) (.var 5))
 (.ret ((.tup [(.one (.z (.bool (.cmp .leq (.ar .add .i64 (.ar .mul .i64 (.ar .sub .i64 (.var 3) (.var 0)) (.ar .sub .i64 (.var 3) (.var 0))) (.ar .mul .i64 (.ar .sub .i64 (.var 4) (.var 1)) (.ar .sub .i64 (.var 4) (.var 1)))) (.ar .mul .i64 (.ar .sub .i64 (.var 5) (.var 2)) (.ar .sub .i64 (.var 5) (.var 2))))))), (.one (.z (.int .i64 (.lit 0))))]), [], 11))
 (.ret ((.tup [(.one (.z (.bool (.lit false)))), (.one (.z (.int .i64 (.lit 0))))]), [], 9))))
 (.ret ((.tup [(.one (.z (.bool (.lit false)))), (.one (.z (.int .i64 (.lit 1))))]), [], 5))))
 (.ret ((.tup [(.one (.z (.bool (.lit false)))), (.one (.z (.int .i64 (.lit 1))))]), [], 5)))))
-- end trLies
set_option maxRecDepth 100000 in
theorem trLies_is : T.norm 0 (call Tryz.prog ct1 lt1 100 167 (symArgs 0 [pt, it, pt, it]) [] 0) TT.ret = trLies := by kernel_rfl
theorem trLies_low : trLies.low 1000 = true := by kernel_rfl
end Go.Proofs.YtglepdhapakmbaaGreat
/- Chapter 07: plane.Apart, plane.Lies. -/
namespace Go.Proofs.YtglepdhapakmbaaGreat
open Go.RowKit
def apartB (px py ax ay bx by' d : Int) : Bool :=
  if dotI ax ay bx by' px py ≤ 0 then decide (d * d ≤ dist2 ax ay px py)
  else if dist2 ax ay bx by' ≤ dotI ax ay bx by' px py then decide (d * d ≤ dist2 bx by' px py)
  else decide (d * d * dist2 ax ay bx by' ≤ crossI ax ay bx by' px py * crossI ax ay bx by' px py)
def apaO (ds : List D) : Bool := six6 ds && distB (iAt ds 6)
def apaR (ds : List D) : Bool := apaO ds && apartB (iAt ds 0) (iAt ds 1) (iAt ds 2) (iAt ds 3) (iAt ds 4) (iAt ds 5) (iAt ds 6)
def apaE (ds : List D) : Int := if apaO ds then 0 else 1
theorem I1fb0 (W : World) (ds : List D) (a b c d : Int) : (envOf I1 W ds).fb 0 [.i a, .i b, .i c, .i d] = decide (a * b ≤ c * d) := rfl
set_option maxHeartbeats 1000000 in
theorem gApart : Gives Tryz.prog 151 [pt, pt, pt, it] (fun ds => .tuple #[.bool (apaR ds), .int .i64 (apaE ds)]) := by
  refine GivesIf.all (fn_gives I1 (by kernel_rfl) (fun ρ h => ct1_ok h) (by kernel_rfl) trApart_is trApart_low (by decide) (fun W vals ds _ _ => ?_))
  simp only [trApart, TT.sat_ret, TT.sat_ite, TT.sat_ob, TT.sat_next, TT.sat_stuck, put_i, put_b, put_d, put_fi, put_fb, put_fd, Ob.ok, B.ev, E.ev, X.ev, AL.ev, cmp_t, cmp_f, arEv, V.plain, V2.plain, S.plain, S0.plain, V.val, V2.val, S.val, S0.val, bV, iV, List.all_cons, List.all_nil, Bool.and_true, Bool.and_self, envOf_i, envOf_b, envOf_d, List.map_cons, List.map_nil, true_and, Bool.not_eq_true', Bool.not_eq_false', Bool.not_not, Bool.and_eq_true, and_f, cell_lg, cell_lb, cell_lr, cmpP, val_i, val_b, val_d, aget, Nat.reduceBEq, beq_self_eq_true, Bool.false_eq_true, if_true, if_false, Nat.reduceLT, Nat.reduceSub, Nat.sub_self, Nat.lt_irrefl, I1fb3, placeL_two]
  have F : apaO ds = false → Value.tuple #[.bool false, .int .i64 1] = Value.tuple #[.bool (apaR ds), .int .i64 (apaE ds)] := fun h => by simp [apaR, apaE, h]
  refine ⟨fun h => F ?_, fun p0 => ⟨fun h => F ?_, fun p1 => ⟨fun h => F ?_, fun p2 => ⟨fun p3 => ⟨fun h => F ?_, fun p4 => ?_⟩, fun h => F ?_⟩⟩⟩⟩
  · simp only [apaO, six6, h, Bool.false_and]
  · simp only [apaO, six6, h, Bool.false_and, Bool.and_false]
  · simp only [apaO, six6, h, Bool.false_and, Bool.and_false]
  · simp only [apaO, distB, Bool.and_eq_false_imp, decide_eq_false_iff_not]; omega
  · have hO : apaO ds = true := by simp only [apaO, six6, p0, p1, p2, distB, Bool.and_true, Bool.true_and, decide_eq_true_eq]; omega
    have T : ∀ b, apartB (iAt ds 0) (iAt ds 1) (iAt ds 2) (iAt ds 3) (iAt ds 4) (iAt ds 5) (iAt ds 6) = b → Value.tuple #[.bool b, .int .i64 0] = Value.tuple #[.bool (apaR ds), .int .i64 (apaE ds)] := fun b h => by rw [apaR, apaE, hO, h]; rfl
    have h6 : 0 ≤ iAt ds 6 ∧ iAt ds 6 ≤ 3000000 := by omega
    rw [placeB_iff] at p0 p1 p2
    obtain ⟨h0, h1⟩ := p0
    obtain ⟨h2, h3⟩ := p1
    obtain ⟨h4, h5⟩ := p2
    have c0 := w_sq h6
    have d1 := w_mul h0 h2 h0 h2
    have d2 := w_mul h1 h3 h1 h3
    have d3 := w_mul h0 h4 h0 h4
    have d4 := w_mul h1 h5 h1 h5
    have d5 := w_mul h4 h2 h4 h2
    have d6 := w_mul h5 h3 h5 h3
    have d7 := w_mul h4 h2 h1 h3
    have d8 := w_mul h5 h3 h0 h2
    have n1 := sq_nn (iAt ds 0 - iAt ds 2)
    have n2 := sq_nn (iAt ds 1 - iAt ds 3)
    have n3 := sq_nn (iAt ds 0 - iAt ds 4)
    have n4 := sq_nn (iAt ds 1 - iAt ds 5)
    have n5 := sq_nn (iAt ds 4 - iAt ds 2)
    have n6 := sq_nn (iAt ds 5 - iAt ds 3)
    simp only [w_sub h4 h2, w_sub h0 h2, w_sub h5 h3, w_sub h1 h3, w_sub h0 h4, w_sub h1 h5, w_mul1 h4 h2 h0 h2, w_mul1 h5 h3 h1 h3, d1.1, d2.1, d3.1, d4.1, d5.1, d6.1, d7.1, d8.1, w_add h4 h2 h0 h2 h5 h3 h1 h3,
      w_add h0 h2 h0 h2 h1 h3 h1 h3, w_add h0 h4 h0 h4 h1 h5 h1 h5, w_add h4 h2 h4 h2 h5 h3 h5 h3, (w_crs h4 h2 h1 h3 h5 h3 h0 h2).1, (w_crs h4 h2 h1 h3 h5 h3 h0 h2).2, c0.1, mx_sq, I1fb0, Int.mul_one]
    refine ⟨fun h => ⟨?_, ?_, ?_, ?_, T _ ?_⟩, fun h => ⟨fun h' => ⟨?_, ?_, ?_, ?_, T _ ?_⟩, fun h' => ⟨?_, ?_, ?_, ?_, ?_, ?_, ?_, ?_, T _ ?_⟩⟩⟩
    case refine_5 => unfold apartB dotI dist2; rw [if_pos h]
    case refine_10 => unfold apartB dotI dist2; rw [if_neg h, if_pos h']
    case refine_19 => unfold apartB dotI dist2 crossI; rw [if_neg h, if_neg h']
    all_goals (clear T F hO; omega)
  · simp only [apaO, distB, Bool.and_eq_false_imp, decide_eq_false_iff_not]; omega
def liesB (px py r qx qy s : Int) : Bool := decide (r ≤ s ∧ dist2 px py qx qy ≤ (s - r) * (s - r))
def lieO (ds : List D) : Bool := placeB (iAt ds 0) (iAt ds 1) && placeB (iAt ds 3) (iAt ds 4) && distB (iAt ds 2) && distB (iAt ds 5)
def lieR (ds : List D) : Bool := lieO ds && liesB (iAt ds 0) (iAt ds 1) (iAt ds 2) (iAt ds 3) (iAt ds 4) (iAt ds 5)
def lieE (ds : List D) : Int := if lieO ds then 0 else 1
set_option maxHeartbeats 1000000 in
theorem gLies : Gives Tryz.prog 167 [pt, it, pt, it] (fun ds => .tuple #[.bool (lieR ds), .int .i64 (lieE ds)]) := by
  refine GivesIf.all (fn_gives I1 (by kernel_rfl) (fun ρ h => ct1_ok h) (by kernel_rfl) trLies_is trLies_low (by decide) (fun W vals ds _ _ => ?_))
  simp only [trLies, TT.sat_ret, TT.sat_ite, TT.sat_ob, TT.sat_next, TT.sat_stuck, put_i, put_b, put_d, put_fi, put_fb, put_fd, Ob.ok, B.ev, E.ev, X.ev, AL.ev, cmp_t, cmp_f, arEv, V.plain, V2.plain, S.plain, S0.plain, V.val, V2.val, S.val, S0.val, bV, iV, List.all_cons, List.all_nil, Bool.and_true, Bool.and_self, envOf_i, envOf_b, envOf_d, List.map_cons, List.map_nil, true_and, Bool.not_eq_true', Bool.not_eq_false', Bool.not_not, Bool.and_eq_true, and_f, cell_lg, cell_lb, cell_lr, cmpP, val_i, val_b, val_d, aget, Nat.reduceBEq, beq_self_eq_true, Bool.false_eq_true, if_true, if_false, Nat.reduceLT, Nat.reduceSub, Nat.sub_self, Nat.lt_irrefl, I1fb3, placeL_two]
  have F : lieO ds = false → Value.tuple #[.bool false, .int .i64 1] = Value.tuple #[.bool (lieR ds), .int .i64 (lieE ds)] := fun h => by simp [lieR, lieE, h]
  have N : placeB (iAt ds 0) (iAt ds 1) = true → placeB (iAt ds 3) (iAt ds 4) = true → ¬ ((0 ≤ iAt ds 2 ∧ iAt ds 2 ≤ 3000000) ∧ 0 ≤ iAt ds 5 ∧ iAt ds 5 ≤ 3000000) → lieO ds = false := fun a b h => by
    simp only [lieO, a, b, distB, Bool.true_and, Bool.and_eq_false_imp, decide_eq_true_eq, decide_eq_false_iff_not]; omega
  have P : placeB (iAt ds 0) (iAt ds 1) = true → placeB (iAt ds 3) (iAt ds 4) = true → ((0 ≤ iAt ds 2 ∧ iAt ds 2 ≤ 3000000) ∧ 0 ≤ iAt ds 5 ∧ iAt ds 5 ≤ 3000000) → lieO ds = true := fun a b h => by
    simp only [lieO, a, b, distB, Bool.true_and, Bool.and_eq_true, decide_eq_true_eq]; exact h
  refine ⟨fun h => F ?_, fun p0 => ⟨fun h => F ?_, fun p1 => ⟨fun r0 => ⟨fun h => F (N p0 p1 (by omega)), fun r1 => ⟨fun s0 => ⟨fun h => F (N p0 p1 (by omega)), fun s1 => ⟨fun h => ?_, fun h => ?_⟩⟩, fun h => F (N p0 p1 (by omega))⟩⟩, fun h => F (N p0 p1 (by omega))⟩⟩⟩
  · simp only [lieO, h, Bool.false_and]
  · simp only [lieO, h, Bool.false_and, Bool.and_false]
  · have hO := P p0 p1 (by omega)
    rw [lieR, lieE, hO, Bool.true_and, if_pos rfl]
    rw [placeB_iff] at p0 p1
    obtain ⟨h0, h1⟩ := p0
    obtain ⟨h2, h3⟩ := p1
    have d1 := w_mul h2 h0 h2 h0
    have d2 := w_mul h3 h1 h3 h1
    have d3 := w_sq (d := iAt ds 5 - iAt ds 2) (by omega)
    simp only [w_sub h2 h0, w_sub h3 h1, d1.1, d2.1, w_add h2 h0 h2 h0 h3 h1 h3 h1]
    rw [wrap_in (iAt ds 5 - iAt ds 2) (by omega) (by omega), d3.1]
    congr 4
    unfold liesB dist2
    rw [Bool.eq_iff_iff, cmp_t, decide_eq_true_eq]
    exact ⟨fun q => ⟨h, q⟩, fun q => q.2⟩
  · rw [lieR, lieE, P p0 p1 (by omega), Bool.true_and, if_pos rfl]
    unfold liesB
    rw [decide_eq_false (fun q => h q.1)]
def K71 : Interp where
  fi n l := match n with | 110 => apaE l | 111 => lieE l | n => KI.fi n l
  fb n l := match n with | 110 => apaR l | 111 => lieR l | n => KI.fb n l
  fd _ _ := []
theorem K71_KI {ρ : Env} (h : Sees ρ K71 112) : Sees ρ KI 90 := h.trans (by decide) fun n l hn => by
  refine ⟨?_, ?_⟩
  ·
    simp only [K71]
    split <;> first | omega | rfl
  ·
    simp only [K71]
    split <;> first | omega | rfl
def cApart := ctD [pt, pt, pt, it] fun al => .ret (.tup [.one (sBF 110 apaR al), .one (sIF 110 apaE al)])
theorem cApart_ok {ρ : Env} (h : Sees ρ K71 112) : CtOne Tryz.prog ρ 151 cApart :=
  ctD_ok gApart (fun _ => rfl) (fun al => by simp only [V.val, V2.val, S.val, S0.val, sIF, sBF, List.map_cons, List.map_nil, bF_ev (s := 110) (f := apaR) (fun l => by rw [(h 110 l (by decide)).2]; simp only [K71, KI, KH, KG, KF, KE, KD, KC, KB, KA, K9, K8, K7, K6, K5, K]), iF_ev (s := 110) (f := apaE) (fun l => by rw [(h 110 l (by decide)).1]; simp only [K71, KI, KH, KG, KF, KE, KD, KC, KB, KA, K9, K8, K7, K6, K5, K])]; try rfl)
def cLies := ctD [pt, it, pt, it] fun al => .ret (.tup [.one (sBF 111 lieR al), .one (sIF 111 lieE al)])
theorem cLies_ok {ρ : Env} (h : Sees ρ K71 112) : CtOne Tryz.prog ρ 167 cLies :=
  ctD_ok gLies (fun _ => rfl) (fun al => by simp only [V.val, V2.val, S.val, S0.val, sIF, sBF, List.map_cons, List.map_nil, bF_ev (s := 111) (f := lieR) (fun l => by rw [(h 111 l (by decide)).2]; simp only [K71, KI, KH, KG, KF, KE, KD, KC, KB, KA, K9, K8, K7, K6, K5, K]), iF_ev (s := 111) (f := lieE) (fun l => by rw [(h 111 l (by decide)).1]; simp only [K71, KI, KH, KG, KF, KE, KD, KC, KB, KA, K9, K8, K7, K6, K5, K])]; try rfl)
def ctE1 : Ct := (151, cApart) :: (167, cLies) :: (21, cFeBox) :: (11, cCovers) :: ctPb
theorem KH_KG' {ρ : Env} (h : Sees ρ KI 90) : Sees ρ KG 80 := KH_KG (KI_KH h)
theorem ctE1_ok {ρ : Env} (h : Sees ρ K71 112) : CtOk Tryz.prog ρ ctE1 := .cons (cApart_ok h) <| .cons (cLies_ok h) <| .cons (cFeBox_ok (K71_KI h)) <| .cons (cCovers_ok (KH_KG' (K71_KI h))) (ctPb_ok (KI_KH (K71_KI h)))
end Go.Proofs.YtglepdhapakmbaaGreat
/- Chapter 07: trees of package poly. -/
namespace Go.Proofs.YtglepdhapakmbaaGreat
open Go.RowKit
-- term trPoTouch: call Tryz.prog ctE1 (Lt.of []) 100 145 (symArgs 0 [pts, pts]) [] 0
def trPoTouch : TT OpR :=
(.ite (.not (.fn 69 (.x (.var 0) .nil)))
 (.ret ((.tup [(.one (.z (.bool (.lit false)))), (.one (.z (.int .i64 (.lit 1))))]), [], 3))
 (.ite (.not (.fn 69 (.x (.var 1) .nil)))
 (.ret ((.tup [(.one (.z (.bool (.lit false)))), (.one (.z (.int .i64 (.lit 1))))]), [], 3))
 (.loop 0 7000 ⟨[(0, (.lit 0))], [], []⟩
 (.ite (.cmp .lss (.var 7000) (.len (.var 0)))
 (.ob (.tru (.cmp .leq (.lit 0) (.var 7000)))
 (.ob (.tru (.cmp .lss (.var 7000) (.len (.var 0))))
 (.ob (.tru (.cmp .neq (.len (.var 0)) (.lit 0)))
 (.ob (.tru (.cmp .leq (.lit 0) (.ar .rem .i64 (.ar .add .i64 (.ar .add .i64 (.var 7000) (.lit 1)) (.len (.var 0))) (.len (.var 0)))))
 (.ob (.tru (.cmp .lss (.ar .rem .i64 (.ar .add .i64 (.ar .add .i64 (.var 7000) (.lit 1)) (.len (.var 0))) (.len (.var 0))) (.len (.var 0))))
 (.loop 1 13000 ⟨[(0, (.lit 0))], [], []⟩
 (.ite (.cmp .lss (.var 13000) (.len (.var 1)))
 (.ob (.tru (.cmp .leq (.lit 0) (.var 13000)))
 (.ob (.tru (.cmp .lss (.var 13000) (.len (.var 1))))
 (.ob (.tru (.cmp .neq (.len (.var 1)) (.lit 0)))
 (.ob (.tru (.cmp .leq (.lit 0) (.ar .rem .i64 (.ar .add .i64 (.ar .add .i64 (.var 13000) (.lit 1)) (.len (.var 1))) (.len (.var 1)))))
 (.ob (.tru (.cmp .lss (.ar .rem .i64 (.ar .add .i64 (.ar .add .i64 (.var 13000) (.lit 1)) (.len (.var 1))) (.len (.var 1))) (.len (.var 1))))
 (.ite (.fn 62 (.i (.rd (.var 0) (.var 7000) 0) (.i (.rd (.var 0) (.var 7000) 1) (.i (.rd (.var 0) (.ar .rem .i64 (.ar .add .i64 (.ar .add .i64 (.var 7000) (.lit 1)) (.len (.var 0))) (.len (.var 0))) 0) (.i (.rd (.var 0) (.ar .rem .i64 (.ar .add .i64 (.ar .add .i64 (.var 7000) (.lit 1)) (.len (.var 0))) (.len (.var 0))) 1) (.i (.rd (.var 1) (.var 13000) 0) (.i (.rd (.var 1) (.var 13000) 1) (.i (.rd (.var 1) (.ar .rem .i64 (.ar .add .i64 (.ar .add .i64 (.var 13000) (.lit 1)) (.len (.var 1))) (.len (.var 1))) 0) (.i (.rd (.var 1) (.ar .rem .i64 (.ar .add .i64 (.ar .add .i64 (.var 13000) (.lit 1)) (.len (.var 1))) (.len (.var 1))) 1) .nil)))))))))
 (.ret ((.tup [(.one (.z (.bool (.lit true)))), (.one (.z (.int .i64 (.lit 0))))]), [], 16))
 (.next 1 ⟨[(0, (.ar .add .i64 (.var 13000) (.lit 1)))], [], []⟩)))))))
 (.next 0 ⟨[(0, (.ar .add .i64 (.var 7000) (.lit 1)))], [], []⟩))))))))
 (.ob (.tru (.lit true))
 (.ob (.tru (.cmp .lss (.lit 0) (.len (.var 1))))
 (.ite (.cmp .eql (.fn 67 (.x (.var 0) (.i (.rd (.var 1) (.lit 0) 0) (.i (.rd (.var 1) (.lit 0) 1) .nil)))) (.lit 1))
 (.ret ((.tup [(.one (.z (.bool (.lit true)))), (.one (.z (.int .i64 (.lit 0))))]), [], 16))
 (.ob (.tru (.lit true))
 (.ob (.tru (.cmp .lss (.lit 0) (.len (.var 0))))
 (.ret ((.tup [(.one (.z (.bool (.cmp .eql (.fn 67 (.x (.var 1) (.i (.rd (.var 0) (.lit 0) 0) (.i (.rd (.var 0) (.lit 0) 1) .nil)))) (.lit 1))))), (.one (.z (.int .i64 (.lit 0))))]), [], 16)))))))))))
-- end trPoTouch
set_option maxRecDepth 100000 in
theorem trPoTouch_is : T.norm 0 (call Tryz.prog ctE1 (Lt.of []) 100 145 (symArgs 0 [pts, pts]) [] 0) TT.ret = trPoTouch := by kernel_rfl
theorem trPoTouch_low : trPoTouch.low 1000 = true := by kernel_rfl
-- term trPoDisc: call Tryz.prog ctE1 (Lt.of []) 100 143 (symArgs 0 [pts, pt, it]) [] 0
def trPoDisc : TT OpR :=
(.ite (.not (.fn 69 (.x (.var 0) .nil)))
 (.ret ((.tup [(.one (.z (.int .i64 (.lit 0)))), (.one (.z (.int .i64 (.lit 1))))]), [], 2))
 (.ite (.not (.fn 3 (.i (.var 1) (.i (.var 2) .nil))))
 (.ret ((.tup [(.one (.z (.int .i64 (.lit 0)))), (.one (.z (.int .i64 (.lit 1))))]), [], 2))
 (.ite (.cmp .lss (.var 3) (.lit 0))
 (.ret ((.tup [(.one (.z (.int .i64 (.lit 0)))), (.one (.z (.int .i64 (.lit 1))))]), [], 2))
 (.ite (.cmp .gtr (.var 3) (.lit 3000000))
 (.ret ((.tup [(.one (.z (.int .i64 (.lit 0)))), (.one (.z (.int .i64 (.lit 1))))]), [], 2))
 (.loop 0 8000 ⟨[(0, (.lit 0))], [(1, (.lit true)), (2, (.lit false))], []⟩
 (.ite (.cmp .lss (.var 8000) (.len (.var 0)))
 (.ob (.tru (.cmp .leq (.lit 0) (.var 8000)))
 (.ob (.tru (.cmp .lss (.var 8000) (.len (.var 0))))
 (.ob (.tru (.cmp .neq (.len (.var 0)) (.lit 0)))
 (.ob (.tru (.cmp .leq (.lit 0) (.ar .rem .i64 (.ar .add .i64 (.ar .add .i64 (.var 8000) (.lit 1)) (.len (.var 0))) (.len (.var 0)))))
 (.ob (.tru (.cmp .lss (.ar .rem .i64 (.ar .add .i64 (.ar .add .i64 (.var 8000) (.lit 1)) (.len (.var 0))) (.len (.var 0))) (.len (.var 0))))
 (.ite (.var 8002)
 (.ite (.var 8001)
 (.next 0 ⟨[(0, (.ar .add .i64 (.var 8000) (.lit 1)))], [(1, (.fn 110 (.i (.var 1) (.i (.var 2) (.i (.rd (.var 0) (.var 8000) 0) (.i (.rd (.var 0) (.var 8000) 1) (.i (.rd (.var 0) (.ar .rem .i64 (.ar .add .i64 (.ar .add .i64 (.var 8000) (.lit 1)) (.len (.var 0))) (.len (.var 0))) 0) (.i (.rd (.var 0) (.ar .rem .i64 (.ar .add .i64 (.ar .add .i64 (.var 8000) (.lit 1)) (.len (.var 0))) (.len (.var 0))) 1) (.i (.var 3) .nil))))))))), (2, (.lit true))], []⟩)
 (.next 0 ⟨[(0, (.ar .add .i64 (.var 8000) (.lit 1)))], [(1, (.lit false)), (2, (.lit true))], []⟩))
 (.ite (.var 8001)
 (.next 0 ⟨[(0, (.ar .add .i64 (.var 8000) (.lit 1)))], [(1, (.fn 110 (.i (.var 1) (.i (.var 2) (.i (.rd (.var 0) (.var 8000) 0) (.i (.rd (.var 0) (.var 8000) 1) (.i (.rd (.var 0) (.ar .rem .i64 (.ar .add .i64 (.ar .add .i64 (.var 8000) (.lit 1)) (.len (.var 0))) (.len (.var 0))) 0) (.i (.rd (.var 0) (.ar .rem .i64 (.ar .add .i64 (.ar .add .i64 (.var 8000) (.lit 1)) (.len (.var 0))) (.len (.var 0))) 1) (.i (.var 3) .nil))))))))), (2, (.fn 7 (.i (.var 1) (.i (.var 2) (.i (.rd (.var 0) (.var 8000) 0) (.i (.rd (.var 0) (.var 8000) 1) (.i (.rd (.var 0) (.ar .rem .i64 (.ar .add .i64 (.ar .add .i64 (.var 8000) (.lit 1)) (.len (.var 0))) (.len (.var 0))) 0) (.i (.rd (.var 0) (.ar .rem .i64 (.ar .add .i64 (.ar .add .i64 (.var 8000) (.lit 1)) (.len (.var 0))) (.len (.var 0))) 1) (.i (.var 3) .nil)))))))))], []⟩)
 (.next 0 ⟨[(0, (.ar .add .i64 (.var 8000) (.lit 1)))], [(1, (.lit false)), (2, (.fn 7 (.i (.var 1) (.i (.var 2) (.i (.rd (.var 0) (.var 8000) 0) (.i (.rd (.var 0) (.var 8000) 1) (.i (.rd (.var 0) (.ar .rem .i64 (.ar .add .i64 (.ar .add .i64 (.var 8000) (.lit 1)) (.len (.var 0))) (.len (.var 0))) 0) (.i (.rd (.var 0) (.ar .rem .i64 (.ar .add .i64 (.ar .add .i64 (.var 8000) (.lit 1)) (.len (.var 0))) (.len (.var 0))) 1) (.i (.var 3) .nil)))))))))], []⟩))))))))
 (.ite (.cmp .geq (.fn 67 (.x (.var 0) (.i (.var 1) (.i (.var 2) .nil)))) (.lit 0))
 (.ite (.var 8001)
 (.ret ((.tup [(.one (.z (.int .i64 (.lit 1)))), (.one (.z (.int .i64 (.lit 0))))]), [], 11))
 (.ite (.cmp .lss (.fn 67 (.x (.var 0) (.i (.var 1) (.i (.var 2) .nil)))) (.lit 0))
 (.ite (.not (.var 8002))
 (.ret ((.tup [(.one (.z (.int .i64 (.lit (-1))))), (.one (.z (.int .i64 (.lit 0))))]), [], 11))
 (.ret ((.tup [(.one (.z (.int .i64 (.lit 0)))), (.one (.z (.int .i64 (.lit 0))))]), [], 11)))
 (.ret ((.tup [(.one (.z (.int .i64 (.lit 0)))), (.one (.z (.int .i64 (.lit 0))))]), [], 11))))
 (.ite (.cmp .lss (.fn 67 (.x (.var 0) (.i (.var 1) (.i (.var 2) .nil)))) (.lit 0))
 (.ite (.not (.var 8002))
 (.ret ((.tup [(.one (.z (.int .i64 (.lit (-1))))), (.one (.z (.int .i64 (.lit 0))))]), [], 11))
 (.ret ((.tup [(.one (.z (.int .i64 (.lit 0)))), (.one (.z (.int .i64 (.lit 0))))]), [], 11)))
 (.ret ((.tup [(.one (.z (.int .i64 (.lit 0)))), (.one (.z (.int .i64 (.lit 0))))]), [], 11))))))))))
-- end trPoDisc
set_option maxRecDepth 100000 in
theorem trPoDisc_is : T.norm 0 (call Tryz.prog ctE1 (Lt.of []) 100 143 (symArgs 0 [pts, pt, it]) [] 0) TT.ret = trPoDisc := by kernel_rfl
theorem trPoDisc_low : trPoDisc.low 1000 = true := by kernel_rfl
-- term trOpens: call Tryz.prog ctE1 (Lt.of []) 100 159 (symArgs 0 [pts, it, pt]) [] 0
def trOpens : TT OpR :=
(.ob (.tru (.cmp .leq (.lit 0) (.var 1)))
(.ob (.tru (.cmp .lss (.var 1) (.len (.var 0))))
(.ob (.tru (.cmp .neq (.len (.var 0)) (.lit 0)))
(.ob (.tru (.cmp .leq (.lit 0) (.ar .rem .i64 (.ar .add .i64 (.ar .add .i64 (.var 1) (.lit 1)) (.len (.var 0))) (.len (.var 0)))))
(.ob (.tru (.cmp .lss (.ar .rem .i64 (.ar .add .i64 (.ar .add .i64 (.var 1) (.lit 1)) (.len (.var 0))) (.len (.var 0))) (.len (.var 0))))
(.ob (.tru (.cmp .neq (.len (.var 0)) (.lit 0)))
(.ob (.tru (.cmp .leq (.lit 0) (.ar .rem .i64 (.ar .add .i64 (.ar .sub .i64 (.var 1) (.lit 1)) (.len (.var 0))) (.len (.var 0)))))
(.ob (.tru (.cmp .lss (.ar .rem .i64 (.ar .add .i64 (.ar .sub .i64 (.var 1) (.lit 1)) (.len (.var 0))) (.len (.var 0))) (.len (.var 0))))
(.ite (.cmp .gtr (.fn 15 (.i (.rd (.var 0) (.ar .rem .i64 (.ar .add .i64 (.ar .sub .i64 (.var 1) (.lit 1)) (.len (.var 0))) (.len (.var 0))) 0) (.i (.rd (.var 0) (.ar .rem .i64 (.ar .add .i64 (.ar .sub .i64 (.var 1) (.lit 1)) (.len (.var 0))) (.len (.var 0))) 1) (.i (.rd (.var 0) (.var 1) 0) (.i (.rd (.var 0) (.var 1) 1) (.i (.rd (.var 0) (.ar .rem .i64 (.ar .add .i64 (.ar .add .i64 (.var 1) (.lit 1)) (.len (.var 0))) (.len (.var 0))) 0) (.i (.rd (.var 0) (.ar .rem .i64 (.ar .add .i64 (.ar .add .i64 (.var 1) (.lit 1)) (.len (.var 0))) (.len (.var 0))) 1) .nil))))))) (.lit 0))
 (.ite (.cmp .geq (.fn 15 (.i (.rd (.var 0) (.var 1) 0) (.i (.rd (.var 0) (.var 1) 1) (.i (.rd (.var 0) (.ar .rem .i64 (.ar .add .i64 (.ar .add .i64 (.var 1) (.lit 1)) (.len (.var 0))) (.len (.var 0))) 0) (.i (.rd (.var 0) (.ar .rem .i64 (.ar .add .i64 (.ar .add .i64 (.var 1) (.lit 1)) (.len (.var 0))) (.len (.var 0))) 1) (.i (.var 2) (.i (.var 3) .nil))))))) (.lit 0))
 (.ret ((.v (.one (.z (.bool (.cmp .geq (.fn 15 (.i (.rd (.var 0) (.var 1) 0) (.i (.rd (.var 0) (.var 1) 1) (.i (.var 2) (.i (.var 3) (.i (.rd (.var 0) (.ar .rem .i64 (.ar .add .i64 (.ar .sub .i64 (.var 1) (.lit 1)) (.len (.var 0))) (.len (.var 0))) 0) (.i (.rd (.var 0) (.ar .rem .i64 (.ar .add .i64 (.ar .sub .i64 (.var 1) (.lit 1)) (.len (.var 0))) (.len (.var 0))) 1) .nil))))))) (.lit 0)))))), [], 15))
 (.ret ((.v (.one (.z (.bool (.lit false))))), [], 12)))
 (.ite (.cmp .leq (.fn 15 (.i (.rd (.var 0) (.var 1) 0) (.i (.rd (.var 0) (.var 1) 1) (.i (.rd (.var 0) (.ar .rem .i64 (.ar .add .i64 (.ar .sub .i64 (.var 1) (.lit 1)) (.len (.var 0))) (.len (.var 0))) 0) (.i (.rd (.var 0) (.ar .rem .i64 (.ar .add .i64 (.ar .sub .i64 (.var 1) (.lit 1)) (.len (.var 0))) (.len (.var 0))) 1) (.i (.var 2) (.i (.var 3) .nil))))))) (.lit 0))
 (.ret ((.v (.one (.z (.bool (.lit true))))), [], 12))
 (.ret ((.v (.one (.z (.bool (.cmp .leq (.fn 15 (.i (.rd (.var 0) (.var 1) 0) (.i (.rd (.var 0) (.var 1) 1) (.i (.var 2) (.i (.var 3) (.i (.rd (.var 0) (.ar .rem .i64 (.ar .add .i64 (.ar .add .i64 (.var 1) (.lit 1)) (.len (.var 0))) (.len (.var 0))) 0) (.i (.rd (.var 0) (.ar .rem .i64 (.ar .add .i64 (.ar .add .i64 (.var 1) (.lit 1)) (.len (.var 0))) (.len (.var 0))) 1) .nil))))))) (.lit 0)))))), [], 15))))))))))))
-- end trOpens
set_option maxRecDepth 100000 in
theorem trOpens_is : T.norm 0 (call Tryz.prog ctE1 (Lt.of []) 100 159 (symArgs 0 [pts, it, pt]) [] 0) TT.ret = trOpens := by kernel_rfl
theorem trOpens_low : trOpens.low 1000 = true := by kernel_rfl
end Go.Proofs.YtglepdhapakmbaaGreat
/- Chapter 07: poly.Touch, poly.Disc, poly's opens. -/
namespace Go.Proofs.YtglepdhapakmbaaGreat
open Go.RowKit
def meetPQ (p q : Rows) (i k : Nat) : Bool := meetR [.i (lg p i 0), .i (lg p i 1), .i (lg p (nxt p.length i) 0), .i (lg p (nxt p.length i) 1), .i (lg q k 0), .i (lg q k 1), .i (lg q (nxt q.length k) 0), .i (lg q (nxt q.length k) 1)]
def tmRow (p q : Rows) (i : Nat) : Nat → Nat → Bool
  | 0, _ => false
  | f + 1, k => meetPQ p q i k || tmRow p q i f (k + 1)
def tmN (p q : Rows) : Nat → Nat → Bool
  | 0, _ => false
  | f + 1, i => tmRow p q i q.length 0 || tmN p q f (i + 1)
def touX (p q : Rows) : Bool := tmN p q p.length 0 || (decide (placeN p (lg q 0 0) (lg q 0 1) p.length 0 false = 1) || decide (placeN q (lg p 0 0) (lg p 0 1) q.length 0 false = 1))
def touO (ds : List D) : Bool := polyB (rAt ds 0) && polyB (rAt ds 1)
def touR (ds : List D) : Bool := touO ds && touX (rAt ds 0) (rAt ds 1)
def touE (ds : List D) : Int := if touO ds then 0 else 1
theorem K71b3 (W : World) (ds l : List D) : (envOf K71 W ds).fb 3 l = placeL l := by simp only [envOf, K71, KI, KH, KG, KF, KE, KD, KC, KB, KA, K9, K8, K7, K6, K5, K]
theorem K71b69 (W : World) (ds l : List D) : (envOf K71 W ds).fb 69 l = polyL l := by simp only [envOf, K71, KI, KH, KG, KF, KE, KD, KC, KB, KA, K9, K8, K7, K6, K5, K]
theorem K71i67 (W : World) (ds l : List D) : (envOf K71 W ds).fi 67 l = placeI l := by simp only [envOf, K71, KI, KH, KG, KF, KE, KD, KC, KB, KA, K9, K8, K7, K6, K5, K]
theorem K71b62 (W : World) (ds l : List D) : (envOf K71 W ds).fb 62 l = meetR l := by simp only [envOf, K71, KI, KH, KG, KF, KE, KD, KC, KB, KA, K9, K8, K7, K6, K5, K]
theorem K71b7 (W : World) (ds l : List D) : (envOf K71 W ds).fb 7 l = nearR l := by simp only [envOf, K71, KI, KH, KG, KF, KE, KD, KC, KB, KA, K9, K8, K7, K6, K5, K]
theorem K71b110 (W : World) (ds l : List D) : (envOf K71 W ds).fb 110 l = apaR l := by simp only [envOf, K71, KI, KH, KG, KF, KE, KD, KC, KB, KA, K9, K8, K7, K6, K5, K]
theorem K71i15 (W : World) (ds l : List D) : (envOf K71 W ds).fi 15 l = turnR l := by simp only [envOf, K71, KI, KH, KG, KF, KE, KD, KC, KB, KA, K9, K8, K7, K6, K5, K]
theorem gPoTouch : Gives Tryz.prog 145 [pts, pts] (fun ds => .tuple #[.bool (touR ds), .int .i64 (touE ds)]) := by
  refine GivesIf.all (fn_gives K71 (by kernel_rfl) (fun ρ h => ctE1_ok (Sees.of h 112)) (by kernel_rfl) trPoTouch_is trPoTouch_low (by decide) (fun W vals ds hr _ => ?_))
  simp only [trPoTouch, TT.sat_ret, TT.sat_ite, TT.sat_ob, TT.sat_next, TT.sat_stuck, put_i, put_b, put_d, put_fi, put_fb, put_fd, Ob.ok, B.ev, E.ev, X.ev, AL.ev, cmp_t, cmp_f, arEv, V.plain, V2.plain, S.plain, S0.plain, V.val, V2.val, S.val, S0.val, bV, iV, List.all_cons, List.all_nil, Bool.and_true, Bool.and_self, envOf_i, envOf_b, envOf_d, List.map_cons, List.map_nil, true_and, Bool.not_eq_true', Bool.not_eq_false', Bool.not_not, Bool.and_eq_true, and_f, cell_lg, cell_lb, cell_lr, cmpP, val_i, val_b, val_d, aget, Nat.reduceBEq, beq_self_eq_true, Bool.false_eq_true, if_true, if_false, Nat.reduceLT, Nat.reduceSub, Nat.sub_self, Nat.lt_irrefl, K71b69, poly_one]
  have F : touO ds = false → Value.tuple #[.bool false, .int .i64 1] = Value.tuple #[.bool (touR ds), .int .i64 (touE ds)] := fun h => by simp [touR, touE, h]
  refine ⟨fun h => F ?_, fun h1 => ⟨fun h => F ?_, fun h2 => ?_⟩⟩
  · simp only [touO, h, Bool.false_and]
  · simp only [touO, h, Bool.and_false]
  have T : ∀ b, touX (rAt ds 0) (rAt ds 1) = b → Value.tuple #[.bool b, .int .i64 0] = Value.tuple #[.bool (touR ds), .int .i64 (touE ds)] := fun b h => by simp [touR, touE, touO, h1, h2, h]
  clear F hr
  have l1 := polyB_len h1
  have l2 := polyB_len h2
  generalize hp : rAt ds 0 = p at *
  generalize hq : rAt ds 1 = q at *
  refine TT.sat_loop (fun v => ∃ i : Nat, v.i 0 = i ∧ i ≤ p.length ∧ (tmN p q (p.length - i) i || (decide (placeN p (lg q 0 0) (lg q 0 1) p.length 0 false = 1) || decide (placeN q (lg p 0 0) (lg p 0 1) q.length 0 false = 1))) = touX p q) (fun v => p.length - (v.i 0).toNat)
    ⟨0, by simp [val_i, aget, E.ev], by omega, rfl⟩ (fun v hv => ?_)
  obtain ⟨i, i0, i1, i2⟩ := hv
  simp only [TT.sat_ret, TT.sat_ite, TT.sat_ob, TT.sat_next, TT.sat_stuck, put_i, put_b, put_d, put_fi, put_fb, put_fd, Ob.ok, B.ev, E.ev, X.ev, AL.ev, cmp_t, cmp_f, arEv, V.plain, V2.plain, S.plain, S0.plain, V.val, V2.val, S.val, S0.val, bV, iV, List.all_cons, List.all_nil, Bool.and_true, Bool.and_self, envOf_i, envOf_b, envOf_d, List.map_cons, List.map_nil, true_and, Bool.not_eq_true', Bool.not_eq_false', Bool.not_not, Bool.and_eq_true, and_f, cell_lg, cell_lb, cell_lr, cmpP, val_i, val_b, val_d, aget, Nat.reduceBEq, beq_self_eq_true, Bool.false_eq_true, if_true, if_false, Nat.reduceLT, Nat.reduceSub, Nat.sub_self, Nat.lt_irrefl, i0, hp, hq, K71i67, placeI_three]
  refine ⟨fun hc => ?_, fun hc => ?_⟩
  · have hi : i < p.length := by omega
    have hn := nxt_lt hi
    obtain ⟨f, hf⟩ : ∃ f, p.length - i = f + 1 := ⟨p.length - i - 1, by omega⟩
    rw [hf, tmN] at i2
    have hf' : p.length - (i + 1) = f := by omega
    rw [rem_next hi (by omega)]
    refine ⟨by omega, by omega, by omega, by omega, by omega, ?_⟩
    refine TT.sat_loop (fun u => ∃ k : Nat, u.i 0 = k ∧ k ≤ q.length ∧ ((tmRow p q i (q.length - k) k || tmN p q f (i + 1)) || (decide (placeN p (lg q 0 0) (lg q 0 1) p.length 0 false = 1) || decide (placeN q (lg p 0 0) (lg p 0 1) q.length 0 false = 1))) = touX p q) (fun u => q.length - (u.i 0).toNat)
      ⟨0, by simp [val_i, aget, E.ev], by omega, i2⟩ (fun u hu => ?_)
    obtain ⟨k, k0, k1, k2⟩ := hu
    simp only [TT.sat_ret, TT.sat_ite, TT.sat_ob, TT.sat_next, TT.sat_stuck, put_i, put_b, put_d, put_fi, put_fb, put_fd, Ob.ok, B.ev, E.ev, X.ev, AL.ev, cmp_t, cmp_f, arEv, V.plain, V2.plain, S.plain, S0.plain, V.val, V2.val, S.val, S0.val, bV, iV, List.all_cons, List.all_nil, Bool.and_true, Bool.and_self, envOf_i, envOf_b, envOf_d, List.map_cons, List.map_nil, true_and, Bool.not_eq_true', Bool.not_eq_false', Bool.not_not, Bool.and_eq_true, and_f, cell_lg, cell_lb, cell_lr, cmpP, val_i, val_b, val_d, aget, Nat.reduceBEq, beq_self_eq_true, Bool.false_eq_true, if_true, if_false, Nat.reduceLT, Nat.reduceSub, Nat.sub_self, Nat.lt_irrefl, i0, k0, hp, hq, K71b62]
    refine ⟨fun hk => ?_, fun hk => ?_⟩
    · have hkn : k < q.length := by omega
      have hn' := nxt_lt hkn
      obtain ⟨g, hg⟩ : ∃ g, q.length - k = g + 1 := ⟨q.length - k - 1, by omega⟩
      rw [hg, tmRow] at k2
      have hg' : q.length - (k + 1) = g := by omega
      rw [rem_next hkn (by omega), rem_next hi (by omega), wrap_in ((k : Int) + 1) (by omega) (by omega)]
      refine ⟨by omega, by omega, by omega, by omega, by omega, fun h => T _ ?_, fun h => ⟨⟨k + 1, rfl, by omega, ?_⟩, by omega⟩⟩
      · rw [← k2, show meetPQ p q i k = true from h]; rfl
      · rw [hg', ← k2, show meetPQ p q i k = false from h]; rfl
    · have : q.length - k = 0 := by omega
      rw [this, tmRow, Bool.false_or] at k2
      rw [wrap_in ((i : Int) + 1) (by omega) (by omega)]
      exact ⟨⟨i + 1, rfl, by omega, by rw [hf']; exact k2⟩, by omega⟩
  · have : p.length - i = 0 := by omega
    rw [this, tmN, Bool.false_or] at i2
    refine ⟨by omega, fun a => T _ ?_, fun a => ⟨by omega, T _ ?_⟩⟩
    · rw [← i2, decide_eq_true a]; rfl
    · rw [← i2, decide_eq_false a, Bool.false_or]; simp only [cmpEv]
      rfl
def nearI (r : Rows) (x y d : Int) (i : Nat) : Bool := nearR [.i x, .i y, .i (lg r i 0), .i (lg r i 1), .i (lg r (nxt r.length i) 0), .i (lg r (nxt r.length i) 1), .i d]
def apartI (r : Rows) (x y d : Int) (i : Nat) : Bool := apaR [.i x, .i y, .i (lg r i 0), .i (lg r i 1), .i (lg r (nxt r.length i) 0), .i (lg r (nxt r.length i) 1), .i d]
def neaN (r : Rows) (x y d : Int) : Nat → Nat → Bool
  | 0, _ => false
  | f + 1, i => nearI r x y d i || neaN r x y d f (i + 1)
def apaN (r : Rows) (x y d : Int) : Nat → Nat → Bool
  | 0, _ => true
  | f + 1, i => apartI r x y d i && apaN r x y d f (i + 1)
def disX (r : Rows) (x y d : Int) : Int :=
  if 0 ≤ placeN r x y r.length 0 false then (if apaN r x y d r.length 0 then 1 else 0) else if neaN r x y d r.length 0 then 0 else -1
def disO (ds : List D) : Bool := polyB (rAt ds 0) && placeB (iAt ds 1) (iAt ds 2) && distB (iAt ds 3)
def disR (ds : List D) : Int := if disO ds then disX (rAt ds 0) (iAt ds 1) (iAt ds 2) (iAt ds 3) else 0
def disE (ds : List D) : Int := if disO ds then 0 else 1
set_option maxHeartbeats 1000000 in
theorem gPoDisc : Gives Tryz.prog 143 [pts, pt, it] (fun ds => .tuple #[.int .i64 (disR ds), .int .i64 (disE ds)]) := by
  refine GivesIf.all (fn_gives K71 (by kernel_rfl) (fun ρ h => ctE1_ok (Sees.of h 112)) (by kernel_rfl) trPoDisc_is trPoDisc_low (by decide) (fun W vals ds hr _ => ?_))
  simp only [trPoDisc, TT.sat_ret, TT.sat_ite, TT.sat_ob, TT.sat_next, TT.sat_stuck, put_i, put_b, put_d, put_fi, put_fb, put_fd, Ob.ok, B.ev, E.ev, X.ev, AL.ev, cmp_t, cmp_f, arEv, V.plain, V2.plain, S.plain, S0.plain, V.val, V2.val, S.val, S0.val, bV, iV, List.all_cons, List.all_nil, Bool.and_true, Bool.and_self, envOf_i, envOf_b, envOf_d, List.map_cons, List.map_nil, true_and, Bool.not_eq_true', Bool.not_eq_false', Bool.not_not, Bool.and_eq_true, and_f, cell_lg, cell_lb, cell_lr, cmpP, val_i, val_b, val_d, aget, Nat.reduceBEq, beq_self_eq_true, Bool.false_eq_true, if_true, if_false, Nat.reduceLT, Nat.reduceSub, Nat.sub_self, Nat.lt_irrefl, K71b69, poly_one, K71b3, place_two]
  have F : disO ds = false → Value.tuple #[.int .i64 0, .int .i64 1] = Value.tuple #[.int .i64 (disR ds), .int .i64 (disE ds)] := fun h => by simp [disR, disE, h]
  refine ⟨fun h => F ?_, fun h1 => ⟨fun h => F ?_, fun h2 => ⟨fun h => F ?_, fun h3 => ⟨fun h => F ?_, fun h4 => ?_⟩⟩⟩⟩
  · simp only [disO, h, Bool.false_and]
  · simp only [disO, h, Bool.false_and, Bool.and_false]
  · simp only [disO, distB, Bool.and_eq_false_imp, decide_eq_false_iff_not]; omega
  · simp only [disO, distB, Bool.and_eq_false_imp, decide_eq_false_iff_not]; omega
  have hO : disO ds = true := by simp only [disO, h1, h2, distB, Bool.true_and, decide_eq_true_eq]; omega
  have T : ∀ n, disX (rAt ds 0) (iAt ds 1) (iAt ds 2) (iAt ds 3) = n → Value.tuple #[.int .i64 n, .int .i64 0] = Value.tuple #[.int .i64 (disR ds), .int .i64 (disE ds)] := fun b h => by simp [disR, disE, hO, h]
  clear F hr hO
  have l1 := polyB_len h1
  generalize e0 : rAt ds 0 = r at *
  generalize e1 : iAt ds 1 = x at *
  generalize e2 : iAt ds 2 = y at *
  generalize e3 : iAt ds 3 = d at *
  refine TT.sat_loop (fun v => ∃ i : Nat, v.i 0 = i ∧ i ≤ r.length ∧ (v.b 2 || neaN r x y d (r.length - i) i) = neaN r x y d r.length 0 ∧ (v.b 1 && apaN r x y d (r.length - i) i) = apaN r x y d r.length 0) (fun v => r.length - (v.i 0).toNat)
    ⟨0, by simp [val_i, aget, E.ev], by omega, by simp [val_b, aget, B.ev], by simp [val_b, aget, B.ev]⟩ (fun v hv => ?_)
  obtain ⟨i, i0, i1, i2, i3⟩ := hv
  simp only [TT.sat_ret, TT.sat_ite, TT.sat_ob, TT.sat_next, TT.sat_stuck, put_i, put_b, put_d, put_fi, put_fb, put_fd, Ob.ok, B.ev, E.ev, X.ev, AL.ev, cmp_t, cmp_f, arEv, V.plain, V2.plain, S.plain, S0.plain, V.val, V2.val, S.val, S0.val, bV, iV, List.all_cons, List.all_nil, Bool.and_true, Bool.and_self, envOf_i, envOf_b, envOf_d, List.map_cons, List.map_nil, true_and, Bool.not_eq_true', Bool.not_eq_false', Bool.not_not, Bool.and_eq_true, and_f, cell_lg, cell_lb, cell_lr, cmpP, val_i, val_b, val_d, aget, Nat.reduceBEq, beq_self_eq_true, Bool.false_eq_true, if_true, if_false, Nat.reduceLT, Nat.reduceSub, Nat.sub_self, Nat.lt_irrefl, i0, e0, e1, e2, e3, K71i67, placeI_three, K71b7, K71b110]
  refine ⟨fun hc => ?_, fun hc => ?_⟩
  · have hi : i < r.length := by omega
    have hn := nxt_lt hi
    obtain ⟨f, hf⟩ : ∃ f, r.length - i = f + 1 := ⟨r.length - i - 1, by omega⟩
    rw [hf, neaN] at i2
    rw [hf, apaN] at i3
    have hf' : r.length - (i + 1) = f := by omega
    rw [rem_next hi (by omega), wrap_in ((i : Int) + 1) (by omega) (by omega)]
    have N : ∀ b c : Bool, (b || neaN r x y d f (i + 1)) = neaN r x y d r.length 0 → (c && apaN r x y d f (i + 1)) = apaN r x y d r.length 0 → (∃ j : Nat, (i : Int) + 1 = j ∧ j ≤ r.length ∧ (b || neaN r x y d (r.length - j) j) = neaN r x y d r.length 0 ∧ (c && apaN r x y d (r.length - j) j) = apaN r x y d r.length 0) ∧ r.length - ((i : Int) + 1).toNat < r.length - (i : Int).toNat :=
      fun b c hb hc => ⟨⟨i + 1, rfl, by omega, by rw [hf']; exact hb, by rw [hf']; exact hc⟩, by omega⟩
    refine ⟨by omega, by omega, by omega, by omega, by omega, fun a => ⟨fun b => N _ _ ?_ ?_, fun b => N _ _ ?_ ?_⟩, fun a => ⟨fun b => N _ _ ?_ ?_, fun b => N _ _ ?_ ?_⟩⟩
    all_goals (first | (rw [← i2, a]; clear N T i2 i3; simp [nearI]; done) | (rw [← i3, b]; clear N T i2 i3; simp [apartI]; done))
  · have : r.length - i = 0 := by omega
    rw [this, neaN, Bool.or_false] at i2
    rw [this, apaN, Bool.and_true] at i3
    rw [i2, i3]
    refine ⟨fun a => ⟨fun b => T _ ?_, fun b => ⟨fun c => absurd a (by omega), fun c => T _ ?_⟩⟩, fun a => ⟨fun c => ⟨fun e => T _ ?_, fun e => T _ ?_⟩, fun c => absurd c (by omega)⟩⟩
    · rw [disX, if_pos a, b]; rfl
    · rw [disX, if_pos a, b]; rfl
    · rw [disX, if_neg a, e]; rfl
    · rw [disX, if_neg a, e]; rfl
def opB (r : Rows) (i : Nat) (x y : Int) : Bool :=
  if 0 < turnR [.i (lg r (prv r.length i) 0), .i (lg r (prv r.length i) 1), .i (lg r i 0), .i (lg r i 1), .i (lg r (nxt r.length i) 0), .i (lg r (nxt r.length i) 1)] then
    decide (0 ≤ turnR [.i (lg r i 0), .i (lg r i 1), .i (lg r (nxt r.length i) 0), .i (lg r (nxt r.length i) 1), .i x, .i y]) && decide (0 ≤ turnR [.i (lg r i 0), .i (lg r i 1), .i x, .i y, .i (lg r (prv r.length i) 0), .i (lg r (prv r.length i) 1)])
  else decide (turnR [.i (lg r i 0), .i (lg r i 1), .i (lg r (prv r.length i) 0), .i (lg r (prv r.length i) 1), .i x, .i y] ≤ 0) || decide (turnR [.i (lg r i 0), .i (lg r i 1), .i x, .i y, .i (lg r (nxt r.length i) 0), .i (lg r (nxt r.length i) 1)] ≤ 0)
def opL (ds : List D) : Bool := opB (rAt ds 0) (iAt ds 1).toNat (iAt ds 2) (iAt ds 3)
theorem gOpens : GivesIf Tryz.prog 159 [pts, it, pt] (fun ds => 0 ≤ iAt ds 1 ∧ iAt ds 1 < (rAt ds 0).length) (fun ds => .bool (opL ds)) := by
  refine fn_gives K71 (by kernel_rfl) (fun ρ h => ctE1_ok (Sees.of h 112)) (by kernel_rfl) trOpens_is trOpens_low (by decide) (fun W vals ds hr hok => ?_)
  have hlen := pts_len hr
  simp only [trOpens, TT.sat_ret, TT.sat_ite, TT.sat_ob, TT.sat_next, TT.sat_stuck, put_i, put_b, put_d, put_fi, put_fb, put_fd, Ob.ok, B.ev, E.ev, X.ev, AL.ev, cmp_t, cmp_f, arEv, V.plain, V2.plain, S.plain, S0.plain, V.val, V2.val, S.val, S0.val, bV, iV, List.all_cons, List.all_nil, Bool.and_true, Bool.and_self, envOf_i, envOf_b, envOf_d, List.map_cons, List.map_nil, true_and, Bool.not_eq_true', Bool.not_eq_false', Bool.not_not, Bool.and_eq_true, and_f, cell_lg, cell_lb, cell_lr, cmpP, val_i, val_b, val_d, aget, Nat.reduceBEq, beq_self_eq_true, Bool.false_eq_true, if_true, if_false, Nat.reduceLT, Nat.reduceSub, Nat.sub_self, Nat.lt_irrefl, K71i15]
  unfold opL
  obtain ⟨h0, h1⟩ := hok
  obtain ⟨i, hi⟩ := Int.eq_ofNat_of_zero_le h0
  rw [hi] at h1 ⊢
  generalize rAt ds 0 = r at *
  have hi' : i < r.length := by omega
  have hn := nxt_lt hi'
  have hp := prv_lt hi'
  rw [rem_next hi' hlen, rem_prev hi' hlen, Int.toNat_natCast]
  refine ⟨by omega, by omega, by omega, by omega, by omega, by omega, by omega, by omega, fun a => ⟨fun b => ?_, fun b => ?_⟩, fun a => ⟨fun b => ?_, fun b => ?_⟩⟩
  · rw [opB, if_pos a, decide_eq_true b]; rfl
  · rw [opB, if_pos a, decide_eq_false b]; rfl
  · rw [opB, if_neg a, decide_eq_true b]; rfl
  · rw [opB, if_neg a, decide_eq_false b]; rfl
def K72 : Interp where
  fi n l := match n with | 112 => touE l | 113 => disR l | 114 => disE l | n => K71.fi n l
  fb n l := match n with | 112 => touR l | 115 => opL l | n => K71.fb n l
  fd _ _ := []
theorem K72_K71 {ρ : Env} (h : Sees ρ K72 116) : Sees ρ K71 112 := h.trans (by decide) fun n l hn => by
  refine ⟨?_, ?_⟩
  ·
    simp only [K72]
    split <;> first | omega | rfl
  ·
    simp only [K72]
    split <;> first | omega | rfl
def cPoTouch := ctD [pts, pts] fun al => .ret (.tup [.one (sBF 112 touR al), .one (sIF 112 touE al)])
theorem cPoTouch_ok {ρ : Env} (h : Sees ρ K72 116) : CtOne Tryz.prog ρ 145 cPoTouch :=
  ctD_ok gPoTouch (fun _ => rfl) (fun al => by simp only [V.val, V2.val, S.val, S0.val, sIF, sBF, List.map_cons, List.map_nil, bF_ev (s := 112) (f := touR) (fun l => by rw [(h 112 l (by decide)).2]; simp only [K72, K71, KI, KH, KG, KF, KE, KD, KC, KB, KA, K9, K8, K7, K6, K5, K]), iF_ev (s := 112) (f := touE) (fun l => by rw [(h 112 l (by decide)).1]; simp only [K72, K71, KI, KH, KG, KF, KE, KD, KC, KB, KA, K9, K8, K7, K6, K5, K])]; try rfl)
def cPoDisc := ctD [pts, pt, it] fun al => .ret (.tup [.one (sIF 113 disR al), .one (sIF 114 disE al)])
theorem cPoDisc_ok {ρ : Env} (h : Sees ρ K72 116) : CtOne Tryz.prog ρ 143 cPoDisc :=
  ctD_ok gPoDisc (fun _ => rfl) (fun al => by simp only [V.val, V2.val, S.val, S0.val, sIF, sBF, List.map_cons, List.map_nil, iF_ev (s := 113) (f := disR) (fun l => by rw [(h 113 l (by decide)).1]; simp only [K72, K71, KI, KH, KG, KF, KE, KD, KC, KB, KA, K9, K8, K7, K6, K5, K]), iF_ev (s := 114) (f := disE) (fun l => by rw [(h 114 l (by decide)).1]; simp only [K72, K71, KI, KH, KG, KF, KE, KD, KC, KB, KA, K9, K8, K7, K6, K5, K])]; try rfl)
def oOpens (al : AL) : T V := match al with
  | .x r (.i k (.i x (.i y .nil))) => T.obs [.tru (.cmpS .leq (.lit 0) k), .tru (.cmpS .lss k (.len r))] (.ret (bV (bF 115 opL al)))
  | _ => .stuck "opens"
def cOpens := ctD [pts, it, pt] oOpens
theorem cOpens_ok {ρ : Env} (h : Sees ρ K72 116) : CtOne Tryz.prog ρ 159 cOpens := by
  refine ctD_if gOpens (fun al v hv => ?_)
  unfold oOpens at hv
  split at hv
  · rename_i r k x y
    obtain ⟨ho, hv⟩ := T.res_obs hv
    obtain rfl := res_ret hv
    have o1 := ho _ (List.mem_cons_self ..)
    have o2 := ho _ (List.mem_cons_of_mem _ (List.mem_cons_self ..))
    simp only [Ob.ok, B.cmpS_ev, cmp_t, cmpP, E.ev] at o1 o2
    refine ⟨rfl, ⟨?_, ?_⟩, ?_⟩
    · simpa [iAt, AL.ev, D.int] using o1
    · simpa [iAt, rAt, AL.ev, D.int, D.rows] using o2
    · simp only [bV, V.s0, V.val, V2.val, S.val, S0.val, bF_ev (s := 115) (f := opL) (fun l => by rw [(h 115 l (by decide)).2]; simp only [K72])]
  · exact hv.elim
def ctE2 : Ct := (145, cPoTouch) :: (143, cPoDisc) :: (159, cOpens) :: ctE1
theorem ctE2_ok {ρ : Env} (h : Sees ρ K72 116) : CtOk Tryz.prog ρ ctE2 := .cons (cPoTouch_ok h) <| .cons (cPoDisc_ok h) <| .cons (cOpens_ok h) (ctE1_ok (K72_K71 h))
end Go.Proofs.YtglepdhapakmbaaGreat
/- Chapter 07: the tree of poly's leads. -/
namespace Go.Proofs.YtglepdhapakmbaaGreat
open Go.RowKit
-- term trLeads: call Tryz.prog ctE2 (Lt.of []) 100 158 (symArgs 0 [pts, pt, pt]) [] 0
def trLeads : TT OpR :=
(.loop 0 5000 ⟨[(0, (.lit 0))], [], []⟩
 (.ite (.cmp .lss (.var 5000) (.len (.var 0)))
 (.ob (.tru (.cmp .leq (.lit 0) (.var 5000)))
 (.ob (.tru (.cmp .lss (.var 5000) (.len (.var 0))))
 (.ite (.and (.cmp .eql (.var 1) (.rd (.var 0) (.var 5000) 0)) (.cmp .eql (.var 2) (.rd (.var 0) (.var 5000) 1)))
 (.ite (.cmp .geq (.var 5000) (.lit 0))
 (.ob (.tru (.cmp .leq (.lit 0) (.var 5000)))
 (.ob (.tru (.cmp .lss (.var 5000) (.len (.var 0))))
 (.ret ((.v (.one (.z (.bool (.fn 115 (.x (.var 0) (.i (.var 5000) (.i (.var 3) (.i (.var 4) .nil))))))))), [], 5))))
 (.loop 1 9000 ⟨[(0, (.lit 0))], [], []⟩
 (.ite (.cmp .lss (.var 9000) (.len (.var 0)))
 (.ob (.tru (.cmp .leq (.lit 0) (.var 9000)))
 (.ob (.tru (.cmp .lss (.var 9000) (.len (.var 0))))
 (.ob (.tru (.cmp .neq (.len (.var 0)) (.lit 0)))
 (.ob (.tru (.cmp .leq (.lit 0) (.ar .rem .i64 (.ar .add .i64 (.ar .add .i64 (.var 9000) (.lit 1)) (.len (.var 0))) (.len (.var 0)))))
 (.ob (.tru (.cmp .lss (.ar .rem .i64 (.ar .add .i64 (.ar .add .i64 (.var 9000) (.lit 1)) (.len (.var 0))) (.len (.var 0))) (.len (.var 0))))
 (.ite (.fn 61 (.i (.var 1) (.i (.var 2) (.i (.rd (.var 0) (.var 9000) 0) (.i (.rd (.var 0) (.var 9000) 1) (.i (.rd (.var 0) (.ar .rem .i64 (.ar .add .i64 (.ar .add .i64 (.var 9000) (.lit 1)) (.len (.var 0))) (.len (.var 0))) 0) (.i (.rd (.var 0) (.ar .rem .i64 (.ar .add .i64 (.ar .add .i64 (.var 9000) (.lit 1)) (.len (.var 0))) (.len (.var 0))) 1) .nil)))))))
 (.ret ((.v (.one (.z (.bool (.cmp .geq (.fn 15 (.i (.rd (.var 0) (.var 9000) 0) (.i (.rd (.var 0) (.var 9000) 1) (.i (.rd (.var 0) (.ar .rem .i64 (.ar .add .i64 (.ar .add .i64 (.var 9000) (.lit 1)) (.len (.var 0))) (.len (.var 0))) 0) (.i (.rd (.var 0) (.ar .rem .i64 (.ar .add .i64 (.ar .add .i64 (.var 9000) (.lit 1)) (.len (.var 0))) (.len (.var 0))) 1) (.i (.var 3) (.i (.var 4) .nil))))))) (.lit 0)))))), [], 18))
 (.next 1 ⟨[(0, (.ar .add .i64 (.var 9000) (.lit 1)))], [], []⟩)))))))
 (.ret ((.v (.one (.z (.bool (.lit true))))), [], 18)))))
 (.next 0 ⟨[(0, (.ar .add .i64 (.var 5000) (.lit 1)))], [], []⟩))))
 (.loop 1 9000 ⟨[(0, (.lit 0))], [], []⟩
 (.ite (.cmp .lss (.var 9000) (.len (.var 0)))
 (.ob (.tru (.cmp .leq (.lit 0) (.var 9000)))
 (.ob (.tru (.cmp .lss (.var 9000) (.len (.var 0))))
 (.ob (.tru (.cmp .neq (.len (.var 0)) (.lit 0)))
 (.ob (.tru (.cmp .leq (.lit 0) (.ar .rem .i64 (.ar .add .i64 (.ar .add .i64 (.var 9000) (.lit 1)) (.len (.var 0))) (.len (.var 0)))))
 (.ob (.tru (.cmp .lss (.ar .rem .i64 (.ar .add .i64 (.ar .add .i64 (.var 9000) (.lit 1)) (.len (.var 0))) (.len (.var 0))) (.len (.var 0))))
 (.ite (.fn 61 (.i (.var 1) (.i (.var 2) (.i (.rd (.var 0) (.var 9000) 0) (.i (.rd (.var 0) (.var 9000) 1) (.i (.rd (.var 0) (.ar .rem .i64 (.ar .add .i64 (.ar .add .i64 (.var 9000) (.lit 1)) (.len (.var 0))) (.len (.var 0))) 0) (.i (.rd (.var 0) (.ar .rem .i64 (.ar .add .i64 (.ar .add .i64 (.var 9000) (.lit 1)) (.len (.var 0))) (.len (.var 0))) 1) .nil)))))))
 (.ret ((.v (.one (.z (.bool (.cmp .geq (.fn 15 (.i (.rd (.var 0) (.var 9000) 0) (.i (.rd (.var 0) (.var 9000) 1) (.i (.rd (.var 0) (.ar .rem .i64 (.ar .add .i64 (.ar .add .i64 (.var 9000) (.lit 1)) (.len (.var 0))) (.len (.var 0))) 0) (.i (.rd (.var 0) (.ar .rem .i64 (.ar .add .i64 (.ar .add .i64 (.var 9000) (.lit 1)) (.len (.var 0))) (.len (.var 0))) 1) (.i (.var 3) (.i (.var 4) .nil))))))) (.lit 0)))))), [], 18))
 (.next 1 ⟨[(0, (.ar .add .i64 (.var 9000) (.lit 1)))], [], []⟩)))))))
 (.ret ((.v (.one (.z (.bool (.lit true))))), [], 18))))))
-- end trLeads
set_option maxRecDepth 100000 in
theorem trLeads_is : T.norm 0 (call Tryz.prog ctE2 (Lt.of []) 100 158 (symArgs 0 [pts, pt, pt]) [] 0) TT.ret = trLeads := by kernel_rfl
theorem trLeads_low : trLeads.low 1000 = true := by kernel_rfl
end Go.Proofs.YtglepdhapakmbaaGreat
/- Chapter 07: poly's leads. -/
namespace Go.Proofs.YtglepdhapakmbaaGreat
open Go.RowKit
def leE (r : Rows) (x y tx ty : Int) : Nat → Nat → Bool
  | 0, _ => true
  | f + 1, i => if onE r x y i then decide (0 ≤ turnR [.i (lg r i 0), .i (lg r i 1), .i (lg r (nxt r.length i) 0), .i (lg r (nxt r.length i) 1), .i tx, .i ty]) else leE r x y tx ty f (i + 1)
def leN (r : Rows) (x y tx ty : Int) : Nat → Nat → Bool
  | 0, _ => leE r x y tx ty r.length 0
  | f + 1, i => if x = lg r i 0 ∧ y = lg r i 1 then opB r i tx ty else leN r x y tx ty f (i + 1)
def leL (ds : List D) : Bool := leN (rAt ds 0) (iAt ds 1) (iAt ds 2) (iAt ds 3) (iAt ds 4) (rAt ds 0).length 0
theorem K72b61 (W : World) (ds l : List D) : (envOf K72 W ds).fb 61 l = onR l := by simp only [envOf, K72, K71, KI, KH, KG, KF, KE, KD, KC, KB, KA, K9, K8, K7, K6, K5, K]
theorem K72b115 (W : World) (ds l : List D) : (envOf K72 W ds).fb 115 l = opL l := by simp only [envOf, K72, K71, KI, KH, KG, KF, KE, KD, KC, KB, KA, K9, K8, K7, K6, K5, K]
theorem K72i15 (W : World) (ds l : List D) : (envOf K72 W ds).fi 15 l = turnR l := by simp only [envOf, K72, K71, KI, KH, KG, KF, KE, KD, KC, KB, KA, K9, K8, K7, K6, K5, K]
theorem op_four (r : Rows) (i : Nat) (x y : Int) : opL [.l r, .i i, .i x, .i y] = opB r i x y := rfl
set_option maxHeartbeats 1000000 in
theorem gLeads : Gives Tryz.prog 158 [pts, pt, pt] (fun ds => .bool (leL ds)) := by
  refine GivesIf.all (fn_gives K72 (by kernel_rfl) (fun ρ h => ctE2_ok (Sees.of h 116)) (by kernel_rfl) trLeads_is trLeads_low (by decide) (fun W vals ds hr _ => ?_))
  have hlen := pts_len hr
  simp only [trLeads]
  have hP : leL ds = leN (rAt ds 0) (iAt ds 1) (iAt ds 2) (iAt ds 3) (iAt ds 4) (rAt ds 0).length 0 := rfl
  rw [hP]
  clear hP hr
  generalize e0 : rAt ds 0 = r at *
  generalize e1 : iAt ds 1 = x at *
  generalize e2 : iAt ds 2 = y at *
  generalize e3 : iAt ds 3 = s at *
  generalize e4 : iAt ds 4 = t at *
  generalize hG : leN r x y s t r.length 0 = G
  refine TT.sat_loop (fun v => ∃ i : Nat, v.i 0 = i ∧ i ≤ r.length ∧ leN r x y s t (r.length - i) i = G) (fun v => r.length - (v.i 0).toNat)
    ⟨0, by simp [val_i, aget, E.ev], by omega, hG⟩ (fun v hv => ?_)
  obtain ⟨i, i0, i1, i2⟩ := hv
  simp only [TT.sat_ret, TT.sat_ite, TT.sat_ob, TT.sat_next, TT.sat_stuck, put_i, put_b, put_d, put_fi, put_fb, put_fd, Ob.ok, B.ev, E.ev, X.ev, AL.ev, cmp_t, cmp_f, arEv, V.plain, V2.plain, S.plain, S0.plain, V.val, V2.val, S.val, S0.val, bV, iV, List.all_cons, List.all_nil, Bool.and_true, Bool.and_self, envOf_i, envOf_b, envOf_d, List.map_cons, List.map_nil, true_and, Bool.not_eq_true', Bool.not_eq_false', Bool.not_not, Bool.and_eq_true, and_f, cell_lg, cell_lb, cell_lr, cmpP, val_i, val_b, val_d, aget, Nat.reduceBEq, beq_self_eq_true, Bool.false_eq_true, if_true, if_false, Nat.reduceLT, Nat.reduceSub, Nat.sub_self, Nat.lt_irrefl, i0, e0, e1, e2, e3, e4, K72b115, op_four]
  refine ⟨fun hc => ?_, fun hc => ?_⟩
  · have hi : i < r.length := by omega
    obtain ⟨f, hf⟩ : ∃ f, r.length - i = f + 1 := ⟨r.length - i - 1, by omega⟩
    rw [hf, leN] at i2
    have hf' : r.length - (i + 1) = f := by omega
    rw [wrap_in ((i : Int) + 1) (by omega) (by omega)]
    refine ⟨by omega, by omega, fun a => ⟨fun _ => ⟨by omega, by omega, ?_⟩, fun h => absurd h (by omega)⟩, fun a => ⟨⟨i + 1, rfl, by omega, ?_⟩, by omega⟩⟩
    · rw [if_pos a] at i2; rw [← i2]
    · rw [if_neg a] at i2; rw [hf']; exact i2
  · have : r.length - i = 0 := by omega
    rw [this, leN] at i2
    refine TT.sat_loop (fun u => ∃ k : Nat, u.i 0 = k ∧ k ≤ r.length ∧ leE r x y s t (r.length - k) k = G) (fun u => r.length - (u.i 0).toNat)
      ⟨0, by simp [val_i, aget, E.ev], by omega, i2⟩ (fun u hu => ?_)
    obtain ⟨k, k0, k1, k2⟩ := hu
    simp only [TT.sat_ret, TT.sat_ite, TT.sat_ob, TT.sat_next, TT.sat_stuck, put_i, put_b, put_d, put_fi, put_fb, put_fd, Ob.ok, B.ev, E.ev, X.ev, AL.ev, cmp_t, cmp_f, arEv, V.plain, V2.plain, S.plain, S0.plain, V.val, V2.val, S.val, S0.val, bV, iV, List.all_cons, List.all_nil, Bool.and_true, Bool.and_self, envOf_i, envOf_b, envOf_d, List.map_cons, List.map_nil, true_and, Bool.not_eq_true', Bool.not_eq_false', Bool.not_not, Bool.and_eq_true, and_f, cell_lg, cell_lb, cell_lr, cmpP, val_i, val_b, val_d, aget, Nat.reduceBEq, beq_self_eq_true, Bool.false_eq_true, if_true, if_false, Nat.reduceLT, Nat.reduceSub, Nat.sub_self, Nat.lt_irrefl, k0, e0, e1, e2, e3, e4, K72b61, K72i15]
    refine ⟨fun hk => ?_, fun hk => ?_⟩
    · have hkn : k < r.length := by omega
      have hn' := nxt_lt hkn
      obtain ⟨g, hg⟩ : ∃ g, r.length - k = g + 1 := ⟨r.length - k - 1, by omega⟩
      rw [hg, leE] at k2
      have hg' : r.length - (k + 1) = g := by omega
      rw [rem_next hkn hlen, wrap_in ((k : Int) + 1) (by omega) (by omega)]
      refine ⟨by omega, by omega, by omega, by omega, by omega, fun a => ?_, fun a => ⟨⟨k + 1, rfl, by omega, ?_⟩, by omega⟩⟩
      · rw [if_pos (show onE r x y k = true from a)] at k2
        rw [← k2]
        rfl
      · rw [if_neg (by rw [onE, a]; decide)] at k2
        rw [hg']; exact k2
    · have : r.length - k = 0 := by omega
      rw [this, leE] at k2
      rw [← k2]
def K73 : Interp where
  fi n l := K72.fi n l
  fb n l := match n with | 116 => leL l | n => K72.fb n l
  fd _ _ := []
theorem K73_K72 {ρ : Env} (h : Sees ρ K73 117) : Sees ρ K72 116 := h.trans (by decide) fun n l hn => by
  refine ⟨?_, ?_⟩
  ·
    rfl
  ·
    simp only [K73]
    split <;> first | omega | rfl
def cLeads := ctD [pts, pt, pt] fun al => .ret (bV (bF 116 leL al))
theorem cLeads_ok {ρ : Env} (h : Sees ρ K73 117) : CtOne Tryz.prog ρ 158 cLeads :=
  ctD_ok gLeads (fun _ => rfl) (fun al => by simp only [iV, bV, V.s0, V.val, V2.val, S.val, S0.val, bF_ev (s := 116) (f := leL) (fun l => by rw [(h 116 l (by decide)).2]; simp only [K73, K72, K71, KI, KH, KG, KF, KE, KD, KC, KB, KA, K9, K8, K7, K6, K5, K])]; try rfl)
def ctE3 : Ct := (158, cLeads) :: ctE2
theorem ctE3_ok {ρ : Env} (h : Sees ρ K73 117) : CtOk Tryz.prog ρ ctE3 := .cons (cLeads_ok h) (ctE2_ok (K73_K72 h))
end Go.Proofs.YtglepdhapakmbaaGreat
/- Chapter 07: the tree of poly's has. -/
namespace Go.Proofs.YtglepdhapakmbaaGreat
open Go.RowKit
-- term trHasS: call Tryz.prog ctE3 (Lt.of []) 100 152 (symArgs 0 [pts, pt, pt]) [] 0
def trHasS : TT OpR :=
(.ite (.cmp .lss (.fn 67 (.x (.var 0) (.i (.var 1) (.i (.var 2) .nil)))) (.lit 0))
 (.ret ((.v (.one (.z (.bool (.lit false))))), [], 4))
 (.ite (.cmp .lss (.fn 67 (.x (.var 0) (.i (.var 3) (.i (.var 4) .nil)))) (.lit 0))
 (.ret ((.v (.one (.z (.bool (.lit false))))), [], 4))
 (.ite (.not (.fn 116 (.x (.var 0) (.i (.var 1) (.i (.var 2) (.i (.var 3) (.i (.var 4) .nil)))))))
 (.ret ((.v (.one (.z (.bool (.lit false))))), [], 4))
 (.ite (.not (.fn 116 (.x (.var 0) (.i (.var 3) (.i (.var 4) (.i (.var 1) (.i (.var 2) .nil)))))))
 (.ret ((.v (.one (.z (.bool (.lit false))))), [], 4))
 (.loop 0 8000 ⟨[(0, (.lit 0))], [], []⟩
 (.ite (.cmp .lss (.var 8000) (.len (.var 0)))
 (.ob (.tru (.cmp .leq (.lit 0) (.var 8000)))
 (.ob (.tru (.cmp .lss (.var 8000) (.len (.var 0))))
 (.ob (.tru (.cmp .neq (.len (.var 0)) (.lit 0)))
 (.ob (.tru (.cmp .leq (.lit 0) (.ar .rem .i64 (.ar .add .i64 (.ar .add .i64 (.var 8000) (.lit 1)) (.len (.var 0))) (.len (.var 0)))))
 (.ob (.tru (.cmp .lss (.ar .rem .i64 (.ar .add .i64 (.ar .add .i64 (.var 8000) (.lit 1)) (.len (.var 0))) (.len (.var 0))) (.len (.var 0))))
 (.ite (.cmp .lss (.ar .mul .i64 (.fn 15 (.i (.var 1) (.i (.var 2) (.i (.var 3) (.i (.var 4) (.i (.rd (.var 0) (.var 8000) 0) (.i (.rd (.var 0) (.var 8000) 1) .nil))))))) (.fn 15 (.i (.var 1) (.i (.var 2) (.i (.var 3) (.i (.var 4) (.i (.rd (.var 0) (.ar .rem .i64 (.ar .add .i64 (.ar .add .i64 (.var 8000) (.lit 1)) (.len (.var 0))) (.len (.var 0))) 0) (.i (.rd (.var 0) (.ar .rem .i64 (.ar .add .i64 (.ar .add .i64 (.var 8000) (.lit 1)) (.len (.var 0))) (.len (.var 0))) 1) .nil)))))))) (.lit 0))
 (.ite (.cmp .lss (.ar .mul .i64 (.fn 15 (.i (.rd (.var 0) (.var 8000) 0) (.i (.rd (.var 0) (.var 8000) 1) (.i (.rd (.var 0) (.ar .rem .i64 (.ar .add .i64 (.ar .add .i64 (.var 8000) (.lit 1)) (.len (.var 0))) (.len (.var 0))) 0) (.i (.rd (.var 0) (.ar .rem .i64 (.ar .add .i64 (.ar .add .i64 (.var 8000) (.lit 1)) (.len (.var 0))) (.len (.var 0))) 1) (.i (.var 1) (.i (.var 2) .nil))))))) (.fn 15 (.i (.rd (.var 0) (.var 8000) 0) (.i (.rd (.var 0) (.var 8000) 1) (.i (.rd (.var 0) (.ar .rem .i64 (.ar .add .i64 (.ar .add .i64 (.var 8000) (.lit 1)) (.len (.var 0))) (.len (.var 0))) 0) (.i (.rd (.var 0) (.ar .rem .i64 (.ar .add .i64 (.ar .add .i64 (.var 8000) (.lit 1)) (.len (.var 0))) (.len (.var 0))) 1) (.i (.var 3) (.i (.var 4) .nil)))))))) (.lit 0))
 (.ret ((.v (.one (.z (.bool (.lit false))))), [], 28))
 (.ite (.not (.and (.cmp .eql (.rd (.var 0) (.var 8000) 0) (.var 1)) (.cmp .eql (.rd (.var 0) (.var 8000) 1) (.var 2))))
 (.ite (.not (.and (.cmp .eql (.rd (.var 0) (.var 8000) 0) (.var 3)) (.cmp .eql (.rd (.var 0) (.var 8000) 1) (.var 4))))
 (.ite (.fn 61 (.i (.rd (.var 0) (.var 8000) 0) (.i (.rd (.var 0) (.var 8000) 1) (.i (.var 1) (.i (.var 2) (.i (.var 3) (.i (.var 4) .nil)))))))
 (.ob (.tru (.cmp .leq (.lit 0) (.var 8000)))
 (.ob (.tru (.cmp .lss (.var 8000) (.len (.var 0))))
 (.ite (.fn 115 (.x (.var 0) (.i (.var 8000) (.i (.var 1) (.i (.var 2) .nil)))))
 (.ob (.tru (.cmp .leq (.lit 0) (.var 8000)))
 (.ob (.tru (.cmp .lss (.var 8000) (.len (.var 0))))
 (.ite (.not (.fn 115 (.x (.var 0) (.i (.var 8000) (.i (.var 3) (.i (.var 4) .nil))))))
 (.ret ((.v (.one (.z (.bool (.lit false))))), [], 28))
 (.next 0 ⟨[(0, (.ar .add .i64 (.var 8000) (.lit 1)))], [], []⟩))))
 (.ret ((.v (.one (.z (.bool (.lit false))))), [], 28)))))
 (.next 0 ⟨[(0, (.ar .add .i64 (.var 8000) (.lit 1)))], [], []⟩))
 (.next 0 ⟨[(0, (.ar .add .i64 (.var 8000) (.lit 1)))], [], []⟩))
 (.next 0 ⟨[(0, (.ar .add .i64 (.var 8000) (.lit 1)))], [], []⟩)))
 (.ite (.not (.and (.cmp .eql (.rd (.var 0) (.var 8000) 0) (.var 1)) (.cmp .eql (.rd (.var 0) (.var 8000) 1) (.var 2))))
 (.ite (.not (.and (.cmp .eql (.rd (.var 0) (.var 8000) 0) (.var 3)) (.cmp .eql (.rd (.var 0) (.var 8000) 1) (.var 4))))
 (.ite (.fn 61 (.i (.rd (.var 0) (.var 8000) 0) (.i (.rd (.var 0) (.var 8000) 1) (.i (.var 1) (.i (.var 2) (.i (.var 3) (.i (.var 4) .nil)))))))
 (.ob (.tru (.cmp .leq (.lit 0) (.var 8000)))
 (.ob (.tru (.cmp .lss (.var 8000) (.len (.var 0))))
 (.ite (.fn 115 (.x (.var 0) (.i (.var 8000) (.i (.var 1) (.i (.var 2) .nil)))))
 (.ob (.tru (.cmp .leq (.lit 0) (.var 8000)))
 (.ob (.tru (.cmp .lss (.var 8000) (.len (.var 0))))
 (.ite (.not (.fn 115 (.x (.var 0) (.i (.var 8000) (.i (.var 3) (.i (.var 4) .nil))))))
 (.ret ((.v (.one (.z (.bool (.lit false))))), [], 28))
 (.next 0 ⟨[(0, (.ar .add .i64 (.var 8000) (.lit 1)))], [], []⟩))))
 (.ret ((.v (.one (.z (.bool (.lit false))))), [], 28)))))
 (.next 0 ⟨[(0, (.ar .add .i64 (.var 8000) (.lit 1)))], [], []⟩))
 (.next 0 ⟨[(0, (.ar .add .i64 (.var 8000) (.lit 1)))], [], []⟩))
 (.next 0 ⟨[(0, (.ar .add .i64 (.var 8000) (.lit 1)))], [], []⟩))))))))
 (.ret ((.v (.one (.z (.bool (.lit true))))), [], 28))))))))
-- end trHasS
set_option maxRecDepth 100000 in
theorem trHasS_is : T.norm 0 (call Tryz.prog ctE3 (Lt.of []) 100 152 (symArgs 0 [pts, pt, pt]) [] 0) TT.ret = trHasS := by kernel_rfl
theorem trHasS_low : trHasS.low 1000 = true := by kernel_rfl
end Go.Proofs.YtglepdhapakmbaaGreat
/- Chapter 07: poly's has. -/
namespace Go.Proofs.YtglepdhapakmbaaGreat
open Go.RowKit
def tur (a b c d e f : Int) : Int := turnR [.i a, .i b, .i c, .i d, .i e, .i f]
def phC (r : Rows) (ax ay bx by' : Int) (i : Nat) : Bool :=
  decide (tur ax ay bx by' (lg r i 0) (lg r i 1) * tur ax ay bx by' (lg r (nxt r.length i) 0) (lg r (nxt r.length i) 1) < 0 ∧
    tur (lg r i 0) (lg r i 1) (lg r (nxt r.length i) 0) (lg r (nxt r.length i) 1) ax ay * tur (lg r i 0) (lg r i 1) (lg r (nxt r.length i) 0) (lg r (nxt r.length i) 1) bx by' < 0)
def phI (r : Rows) (ax ay bx by' : Int) (i : Nat) : Bool :=
  !phC r ax ay bx by' i && (decide ((lg r i 0 = ax ∧ lg r i 1 = ay) ∨ (lg r i 0 = bx ∧ lg r i 1 = by')) || (!onR [.i (lg r i 0), .i (lg r i 1), .i ax, .i ay, .i bx, .i by'] || (opB r i ax ay && opB r i bx by')))
def phN (r : Rows) (ax ay bx by' : Int) : Nat → Nat → Bool
  | 0, _ => true
  | f + 1, i => phI r ax ay bx by' i && phN r ax ay bx by' f (i + 1)
def phB (r : Rows) (ax ay bx by' : Int) : Bool :=
  decide (0 ≤ placeN r ax ay r.length 0 false) && (decide (0 ≤ placeN r bx by' r.length 0 false) && (leN r ax ay bx by' r.length 0 && (leN r bx by' ax ay r.length 0 && phN r ax ay bx by' r.length 0)))
def phL (ds : List D) : Bool := phB (rAt ds 0) (iAt ds 1) (iAt ds 2) (iAt ds 3) (iAt ds 4)
theorem turnR_3 (l : List D) : turnR l = -1 ∨ turnR l = 0 ∨ turnR l = 1 := by
  unfold turnR turnL turnI sgn
  split
  · split
    · exact .inl rfl
    · split
      · exact .inr (.inr rfl)
      · exact .inr (.inl rfl)
  · exact .inr (.inl rfl)
theorem wrap_turn (a b : List D) : IntKind.i64.wrap (turnR a * turnR b) = turnR a * turnR b := by
  rcases turnR_3 a with h | h | h <;> rcases turnR_3 b with h' | h' | h' <;> rw [h, h'] <;> rfl
theorem K73b61 (W : World) (ds l : List D) : (envOf K73 W ds).fb 61 l = onR l := by simp only [envOf, K73, K72, K71, KI, KH, KG, KF, KE, KD, KC, KB, KA, K9, K8, K7, K6, K5, K]
theorem K73b115 (W : World) (ds l : List D) : (envOf K73 W ds).fb 115 l = opL l := by simp only [envOf, K73, K72, K71, KI, KH, KG, KF, KE, KD, KC, KB, KA, K9, K8, K7, K6, K5, K]
theorem K73i15 (W : World) (ds l : List D) : (envOf K73 W ds).fi 15 l = turnR l := by simp only [envOf, K73, K72, K71, KI, KH, KG, KF, KE, KD, KC, KB, KA, K9, K8, K7, K6, K5, K]
theorem K73b116 (W : World) (ds l : List D) : (envOf K73 W ds).fb 116 l = leL l := by simp only [envOf, K73, K72, K71, KI, KH, KG, KF, KE, KD, KC, KB, KA, K9, K8, K7, K6, K5, K]
theorem K73i67 (W : World) (ds l : List D) : (envOf K73 W ds).fi 67 l = placeI l := by simp only [envOf, K73, K72, K71, KI, KH, KG, KF, KE, KD, KC, KB, KA, K9, K8, K7, K6, K5, K]
theorem le_five (r : Rows) (a b c d : Int) : leL [.l r, .i a, .i b, .i c, .i d] = leN r a b c d r.length 0 := rfl
set_option maxHeartbeats 2000000 in
theorem gHasS : Gives Tryz.prog 152 [pts, pt, pt] (fun ds => .bool (phL ds)) := by
  refine GivesIf.all (fn_gives K73 (by kernel_rfl) (fun ρ h => ctE3_ok (Sees.of h 117)) (by kernel_rfl) trHasS_is trHasS_low (by decide) (fun W vals ds hr _ => ?_))
  have hlen := pts_len hr
  simp only [trHasS, TT.sat_ret, TT.sat_ite, TT.sat_ob, TT.sat_next, TT.sat_stuck, put_i, put_b, put_d, put_fi, put_fb, put_fd, Ob.ok, B.ev, E.ev, X.ev, AL.ev, cmp_t, cmp_f, arEv, V.plain, V2.plain, S.plain, S0.plain, V.val, V2.val, S.val, S0.val, bV, iV, List.all_cons, List.all_nil, Bool.and_true, Bool.and_self, envOf_i, envOf_b, envOf_d, List.map_cons, List.map_nil, true_and, Bool.not_eq_true', Bool.not_eq_false', Bool.not_not, Bool.and_eq_true, and_f, cell_lg, cell_lb, cell_lr, cmpP, val_i, val_b, val_d, aget, Nat.reduceBEq, beq_self_eq_true, Bool.false_eq_true, if_true, if_false, Nat.reduceLT, Nat.reduceSub, Nat.sub_self, Nat.lt_irrefl, K73i67, K73b116, placeI_three, le_five]
  have hP : phL ds = phB (rAt ds 0) (iAt ds 1) (iAt ds 2) (iAt ds 3) (iAt ds 4) := rfl
  rw [hP]
  clear hP hr
  generalize e0 : rAt ds 0 = r at *
  generalize e1 : iAt ds 1 = x at *
  generalize e2 : iAt ds 2 = y at *
  generalize e3 : iAt ds 3 = s at *
  generalize e4 : iAt ds 4 = t at *
  refine ⟨fun h => ?_, fun h1 => ⟨fun h => ?_, fun h2 => ⟨fun h => ?_, fun h3 => ⟨fun h => ?_, fun h4 => ?_⟩⟩⟩⟩
  · rw [phB, decide_eq_false (p := 0 ≤ placeN r x y r.length 0 false) (by omega)]; rfl
  · rw [phB, decide_eq_false (p := 0 ≤ placeN r s t r.length 0 false) (by omega), Bool.false_and, Bool.and_false]
  · rw [phB, h]; simp
  · rw [phB, h]; simp
  have hG : phN r x y s t r.length 0 = phB r x y s t := by
    rw [phB, decide_eq_true (p := 0 ≤ placeN r x y r.length 0 false) (by omega), decide_eq_true (p := 0 ≤ placeN r s t r.length 0 false) (by omega), h3, h4]; rfl
  generalize hg : phB r x y s t = G at *
  refine TT.sat_loop (fun v => ∃ i : Nat, v.i 0 = i ∧ i ≤ r.length ∧ phN r x y s t (r.length - i) i = G) (fun v => r.length - (v.i 0).toNat)
    ⟨0, by simp [val_i, aget, E.ev], by omega, hG⟩ (fun v hv => ?_)
  obtain ⟨i, i0, i1, i2⟩ := hv
  simp only [TT.sat_ret, TT.sat_ite, TT.sat_ob, TT.sat_next, TT.sat_stuck, put_i, put_b, put_d, put_fi, put_fb, put_fd, Ob.ok, B.ev, E.ev, X.ev, AL.ev, cmp_t, cmp_f, arEv, V.plain, V2.plain, S.plain, S0.plain, V.val, V2.val, S.val, S0.val, bV, iV, List.all_cons, List.all_nil, Bool.and_true, Bool.and_self, envOf_i, envOf_b, envOf_d, List.map_cons, List.map_nil, true_and, Bool.not_eq_true', Bool.not_eq_false', Bool.not_not, Bool.and_eq_true, and_f, cell_lg, cell_lb, cell_lr, cmpP, val_i, val_b, val_d, aget, Nat.reduceBEq, beq_self_eq_true, Bool.false_eq_true, if_true, if_false, Nat.reduceLT, Nat.reduceSub, Nat.sub_self, Nat.lt_irrefl, i0, e0, e1, e2, e3, e4, K73b115, op_four, K73i15, K73b61]
  refine ⟨fun hc => ?_, fun hc => ?_⟩
  · have hi : i < r.length := by omega
    have hn := nxt_lt hi
    obtain ⟨f, hf⟩ : ∃ f, r.length - i = f + 1 := ⟨r.length - i - 1, by omega⟩
    rw [hf, phN] at i2
    have hf' : r.length - (i + 1) = f := by omega
    rw [wrap_in ((i : Int) + 1) (by omega) (by omega)]
    have hw : (IntKind.i64.wrap ((i : Int) + 1 + (r.length : Int))).tmod (r.length : Int) = (nxt r.length i : Int) := by
      have := rem_next hi hlen
      rwa [wrap_in ((i : Int) + 1) (by omega) (by omega)] at this
    rw [hw, wrap_turn, wrap_turn]
    have N : phI r x y s t i = true → (∃ j : Nat, (i : Int) + 1 = j ∧ j ≤ r.length ∧ phN r x y s t (r.length - j) j = G) ∧ r.length - ((i : Int) + 1).toNat < r.length - (i : Int).toNat :=
      fun h => ⟨⟨i + 1, rfl, by omega, by rw [hf', ← i2, h]; rfl⟩, by omega⟩
    have B : phI r x y s t i = false → Value.bool false = Value.bool G := fun h => by rw [← i2, h]; rfl
    have C : ∀ {b : Bool}, phC r x y s t i = b → phI r x y s t i = (!b && (decide ((lg r i 0 = x ∧ lg r i 1 = y) ∨ (lg r i 0 = s ∧ lg r i 1 = t)) || (!onR [.i (lg r i 0), .i (lg r i 1), .i x, .i y, .i s, .i t] || (opB r i x y && opB r i s t)))) := fun h => by rw [phI, h]
    have C1 : tur x y s t (lg r i 0) (lg r i 1) * tur x y s t (lg r (nxt r.length i) 0) (lg r (nxt r.length i) 1) < 0 → tur (lg r i 0) (lg r i 1) (lg r (nxt r.length i) 0) (lg r (nxt r.length i) 1) x y * tur (lg r i 0) (lg r i 1) (lg r (nxt r.length i) 0) (lg r (nxt r.length i) 1) s t < 0 → phC r x y s t i = true :=
      fun a b => decide_eq_true ⟨a, b⟩
    have C2 : ¬ (tur x y s t (lg r i 0) (lg r i 1) * tur x y s t (lg r (nxt r.length i) 0) (lg r (nxt r.length i) 1) < 0 ∧ tur (lg r i 0) (lg r i 1) (lg r (nxt r.length i) 0) (lg r (nxt r.length i) 1) x y * tur (lg r i 0) (lg r i 1) (lg r (nxt r.length i) 0) (lg r (nxt r.length i) 1) s t < 0) → phC r x y s t i = false :=
      fun a => decide_eq_false a
    refine ⟨by omega, by omega, by omega, by omega, by omega, fun a => ⟨fun b => ?_, fun b => ?_⟩, fun a => ?_⟩
    · exact B (by rw [C (C1 a b)]; rfl)
    · have c := C (C2 (fun q => b q.2))
      clear C C1 C2
      generalize onR [.i (lg r i 0), .i (lg r i 1), .i x, .i y, .i s, .i t] = o at *
      generalize opB r i x y = o1 at *
      generalize opB r i s t = o2 at *
      refine ⟨fun d => ⟨fun e => ⟨fun k => ⟨by omega, by omega, fun k1 => ⟨by omega, by omega, fun k2 => B ?_, fun k2 => N ?_⟩, fun k1 => B ?_⟩, fun k => N ?_⟩, fun e => N ?_⟩, fun d => N ?_⟩
      all_goals (rw [c]; clear B N c i2; simp [*])
    · have c := C (C2 (fun q => a q.1))
      clear C C1 C2
      generalize onR [.i (lg r i 0), .i (lg r i 1), .i x, .i y, .i s, .i t] = o at *
      generalize opB r i x y = o1 at *
      generalize opB r i s t = o2 at *
      refine ⟨fun d => ⟨fun e => ⟨fun k => ⟨by omega, by omega, fun k1 => ⟨by omega, by omega, fun k2 => B ?_, fun k2 => N ?_⟩, fun k1 => B ?_⟩, fun k => N ?_⟩, fun e => N ?_⟩, fun d => N ?_⟩
      all_goals (rw [c]; clear B N c i2; simp [*])
  · have : r.length - i = 0 := by omega
    rw [this, phN] at i2
    rw [← i2]
def K74 : Interp where
  fi n l := K73.fi n l
  fb n l := match n with | 117 => phL l | n => K73.fb n l
  fd _ _ := []
theorem K74_K73 {ρ : Env} (h : Sees ρ K74 118) : Sees ρ K73 117 := h.trans (by decide) fun n l hn => by
  refine ⟨?_, ?_⟩
  ·
    rfl
  ·
    simp only [K74]
    split <;> first | omega | rfl
def cHasS := ctD [pts, pt, pt] fun al => .ret (bV (bF 117 phL al))
theorem cHasS_ok {ρ : Env} (h : Sees ρ K74 118) : CtOne Tryz.prog ρ 152 cHasS :=
  ctD_ok gHasS (fun _ => rfl) (fun al => by simp only [iV, bV, V.s0, V.val, V2.val, S.val, S0.val, bF_ev (s := 117) (f := phL) (fun l => by rw [(h 117 l (by decide)).2]; simp only [K74, K73, K72, K71, KI, KH, KG, KF, KE, KD, KC, KB, KA, K9, K8, K7, K6, K5, K])]; try rfl)
def ctE4 : Ct := (152, cHasS) :: ctE3
theorem ctE4_ok {ρ : Env} (h : Sees ρ K74 118) : CtOk Tryz.prog ρ ctE4 := .cons (cHasS_ok h) (ctE3_ok (K74_K73 h))
end Go.Proofs.YtglepdhapakmbaaGreat
/- Chapter 07: the tree of poly.Holds. -/
namespace Go.Proofs.YtglepdhapakmbaaGreat
open Go.RowKit
-- term trPoHolds: call Tryz.prog ctE4 (Lt.of []) 100 144 (symArgs 0 [pts, pts]) [] 0
def trPoHolds : TT OpR :=
(.ite (.not (.fn 69 (.x (.var 0) .nil)))
 (.ret ((.tup [(.one (.z (.bool (.lit false)))), (.one (.z (.int .i64 (.lit 1))))]), [], 2))
 (.ite (.not (.fn 69 (.x (.var 1) .nil)))
 (.ret ((.tup [(.one (.z (.bool (.lit false)))), (.one (.z (.int .i64 (.lit 1))))]), [], 2))
 (.loop 0 7000 ⟨[(0, (.lit 0))], [], []⟩
 (.ite (.cmp .lss (.var 7000) (.len (.var 1)))
 (.ob (.tru (.cmp .leq (.lit 0) (.var 7000)))
 (.ob (.tru (.cmp .lss (.var 7000) (.len (.var 1))))
 (.ob (.tru (.cmp .neq (.len (.var 1)) (.lit 0)))
 (.ob (.tru (.cmp .leq (.lit 0) (.ar .rem .i64 (.ar .add .i64 (.ar .add .i64 (.var 7000) (.lit 1)) (.len (.var 1))) (.len (.var 1)))))
 (.ob (.tru (.cmp .lss (.ar .rem .i64 (.ar .add .i64 (.ar .add .i64 (.var 7000) (.lit 1)) (.len (.var 1))) (.len (.var 1))) (.len (.var 1))))
 (.ite (.not (.fn 117 (.x (.var 0) (.i (.rd (.var 1) (.var 7000) 0) (.i (.rd (.var 1) (.var 7000) 1) (.i (.rd (.var 1) (.ar .rem .i64 (.ar .add .i64 (.ar .add .i64 (.var 7000) (.lit 1)) (.len (.var 1))) (.len (.var 1))) 0) (.i (.rd (.var 1) (.ar .rem .i64 (.ar .add .i64 (.ar .add .i64 (.var 7000) (.lit 1)) (.len (.var 1))) (.len (.var 1))) 1) .nil)))))))
 (.ret ((.tup [(.one (.z (.bool (.lit false)))), (.one (.z (.int .i64 (.lit 0))))]), [], 10))
 (.next 0 ⟨[(0, (.ar .add .i64 (.var 7000) (.lit 1)))], [], []⟩)))))))
 (.ret ((.tup [(.one (.z (.bool (.lit true)))), (.one (.z (.int .i64 (.lit 0))))]), [], 10))))))
-- end trPoHolds
def trPoHolds_h : List (Nat × St) := [
(6, ⟨([(.v (.one (.z (.yl 5)))), (.v (.one (.z (.ptr 3 0)))), (.v (.one (.z .any))), (.v (.one (.z .any))), (.v (.one (.z .any))), (.v (.one (.z (.ext [(.int .i64), (.int .i64)] (.var 1) false)))), (.v (.one (.z (.int .i64 (.len (.var 1)))))), (.v (.one (.z (.int .i64 (.var 7000)))))] ++ List.replicate 15 V.any), [(5, (.loop .ready none ([(.v (.one (.z (.ext [(.int .i64), (.int .i64)] (.var 0) false)))), (.v (.one (.z (.ext [(.int .i64), (.int .i64)] (.var 1) false)))), (.v (.one (.z .any))), (.v (.one (.z .any))), (.v (.one (.z (.ptr 0 0)))), (.v (.one (.z (.ptr 1 0)))), (.v (.one (.z (.ptr 2 0)))), (.v (.one (.z .any))), (.v (.one (.z .any))), (.v (.one (.z (.ext [(.int .i64), (.int .i64)] (.var 0) false)))), (.v (.one (.z (.bool (.fn 69 (.x (.var 0) .nil)))))), (.v (.one (.z (.bool (.not (.fn 69 (.x (.var 0) .nil))))))), (.v (.one (.z (.bool (.lit false))))), (.v (.one (.z (.ext [(.int .i64), (.int .i64)] (.var 1) false)))), (.v (.one (.z (.bool (.fn 69 (.x (.var 1) .nil)))))), (.v (.one (.z (.bool (.not (.fn 69 (.x (.var 1) .nil))))))), (.v (.one (.z (.bool (.not (.fn 69 (.x (.var 1) .nil))))))), (.v (.one (.z (.ext [(.int .i64), (.int .i64)] (.var 0) false)))), (.v (.one (.via none 102 false [(.ext [(.int .i64), (.int .i64)] (.var 0) false)]))), (.v (.one (.z (.ext [(.int .i64), (.int .i64)] (.var 1) false)))), (.v (.one (.z (.clo 54 [(3, 0)]))))] ++ List.replicate 9 V.any) [] .skip .skip 4)), (4, (.dfd false)), (3, (.cells 74 [(.z (.ext [(.int .i64), (.int .i64)] (.var 1) false))])), (2, (.cells 137 [(.via none 102 false [(.ext [(.int .i64), (.int .i64)] (.var 0) false)])])), (1, (.cells 29 [(.z (.int .i64 (.lit 0)))])), (0, (.cells 4 [(.z (.bool (.lit false)))]))], 7, []⟩)]
def trPoHolds_j : List (FuncId × Nat × Nat × St) := [
]
set_option maxRecDepth 100000 in
theorem trPoHolds_is : T.norm 0 (call Tryz.prog ctE4 ⟨Lt.un (Lt.of []), trPoHolds_h, trPoHolds_j⟩ 100 144 (symArgs 0 [pts, pts]) [] 0) TT.ret = trPoHolds := by kernel_rfl
theorem trPoHolds_low : trPoHolds.low 1000 = true := by kernel_rfl
end Go.Proofs.YtglepdhapakmbaaGreat
/- Chapter 07: poly.Holds. -/
namespace Go.Proofs.YtglepdhapakmbaaGreat
open Go.RowKit
def hoN (p q : Rows) : Nat → Nat → Bool
  | 0, _ => true
  | f + 1, i => phB p (lg q i 0) (lg q i 1) (lg q (nxt q.length i) 0) (lg q (nxt q.length i) 1) && hoN p q f (i + 1)
def hoX (p q : Rows) : Bool := hoN p q q.length 0
def hoR (ds : List D) : Bool := touO ds && hoX (rAt ds 0) (rAt ds 1)
theorem K74b69 (W : World) (ds l : List D) : (envOf K74 W ds).fb 69 l = polyL l := by simp only [envOf, K74, K73, K72, K71, KI, KH, KG, KF, KE, KD, KC, KB, KA, K9, K8, K7, K6, K5, K]
theorem K74b117 (W : World) (ds l : List D) : (envOf K74 W ds).fb 117 l = phL l := by simp only [envOf, K74, K73, K72, K71, KI, KH, KG, KF, KE, KD, KC, KB, KA, K9, K8, K7, K6, K5, K]
theorem ph_five (r : Rows) (a b c d : Int) : phL [.l r, .i a, .i b, .i c, .i d] = phB r a b c d := rfl
theorem gPoHolds : Gives Tryz.prog 144 [pts, pts] (fun ds => .tuple #[.bool (hoR ds), .int .i64 (touE ds)]) := by
  refine GivesIf.all (fn_gives K74 (by kernel_rfl) (fun ρ h => ctE4_ok (Sees.of h 118)) (by kernel_rfl) trPoHolds_is trPoHolds_low (by decide) (fun W vals ds hr _ => ?_))
  simp only [trPoHolds, TT.sat_ret, TT.sat_ite, TT.sat_ob, TT.sat_next, TT.sat_stuck, put_i, put_b, put_d, put_fi, put_fb, put_fd, Ob.ok, B.ev, E.ev, X.ev, AL.ev, cmp_t, cmp_f, arEv, V.plain, V2.plain, S.plain, S0.plain, V.val, V2.val, S.val, S0.val, bV, iV, List.all_cons, List.all_nil, Bool.and_true, Bool.and_self, envOf_i, envOf_b, envOf_d, List.map_cons, List.map_nil, true_and, Bool.not_eq_true', Bool.not_eq_false', Bool.not_not, Bool.and_eq_true, and_f, cell_lg, cell_lb, cell_lr, cmpP, val_i, val_b, val_d, aget, Nat.reduceBEq, beq_self_eq_true, Bool.false_eq_true, if_true, if_false, Nat.reduceLT, Nat.reduceSub, Nat.sub_self, Nat.lt_irrefl, K74b69, poly_one]
  have F : touO ds = false → Value.tuple #[.bool false, .int .i64 1] = Value.tuple #[.bool (hoR ds), .int .i64 (touE ds)] := fun h => by simp [hoR, touE, h]
  refine ⟨fun h => F ?_, fun h1 => ⟨fun h => F ?_, fun h2 => ?_⟩⟩
  · simp only [touO, h, Bool.false_and]
  · simp only [touO, h, Bool.and_false]
  have T : ∀ b, hoX (rAt ds 0) (rAt ds 1) = b → Value.tuple #[.bool b, .int .i64 0] = Value.tuple #[.bool (hoR ds), .int .i64 (touE ds)] := fun b h => by simp [hoR, touE, touO, h1, h2, h]
  clear F hr
  have l1 := polyB_len h1
  have l2 := polyB_len h2
  generalize hp : rAt ds 0 = p at *
  generalize hq : rAt ds 1 = q at *
  refine TT.sat_loop (fun v => ∃ i : Nat, v.i 0 = i ∧ i ≤ q.length ∧ hoN p q (q.length - i) i = hoX p q) (fun v => q.length - (v.i 0).toNat)
    ⟨0, by simp [val_i, aget, E.ev], by omega, rfl⟩ (fun v hv => ?_)
  obtain ⟨i, i0, i1, i2⟩ := hv
  simp only [TT.sat_ret, TT.sat_ite, TT.sat_ob, TT.sat_next, TT.sat_stuck, put_i, put_b, put_d, put_fi, put_fb, put_fd, Ob.ok, B.ev, E.ev, X.ev, AL.ev, cmp_t, cmp_f, arEv, V.plain, V2.plain, S.plain, S0.plain, V.val, V2.val, S.val, S0.val, bV, iV, List.all_cons, List.all_nil, Bool.and_true, Bool.and_self, envOf_i, envOf_b, envOf_d, List.map_cons, List.map_nil, true_and, Bool.not_eq_true', Bool.not_eq_false', Bool.not_not, Bool.and_eq_true, and_f, cell_lg, cell_lb, cell_lr, cmpP, val_i, val_b, val_d, aget, Nat.reduceBEq, beq_self_eq_true, Bool.false_eq_true, if_true, if_false, Nat.reduceLT, Nat.reduceSub, Nat.sub_self, Nat.lt_irrefl, i0, hp, hq, K74b117, ph_five]
  refine ⟨fun hc => ?_, fun hc => ?_⟩
  · have hi : i < q.length := by omega
    have hn := nxt_lt hi
    obtain ⟨f, hf⟩ : ∃ f, q.length - i = f + 1 := ⟨q.length - i - 1, by omega⟩
    rw [hf, hoN] at i2
    have hf' : q.length - (i + 1) = f := by omega
    rw [rem_next hi (by omega), wrap_in ((i : Int) + 1) (by omega) (by omega)]
    refine ⟨by omega, by omega, by omega, by omega, by omega, fun h => T _ ?_, fun h => ⟨⟨i + 1, rfl, by omega, ?_⟩, by omega⟩⟩
    · rw [← i2, h]; rfl
    · rw [hf', ← i2, h]; rfl
  · have : q.length - i = 0 := by omega
    rw [this, hoN] at i2
    exact T _ i2.symm
def K75 : Interp where
  fi n l := K74.fi n l
  fb n l := match n with | 118 => hoR l | n => K74.fb n l
  fd _ _ := []
theorem K75_K74 {ρ : Env} (h : Sees ρ K75 119) : Sees ρ K74 118 := h.trans (by decide) fun n l hn => by
  refine ⟨?_, ?_⟩
  ·
    rfl
  ·
    simp only [K75]
    split <;> first | omega | rfl
def cPoHolds := ctD [pts, pts] fun al => .ret (.tup [.one (sBF 118 hoR al), .one (sIF 112 touE al)])
theorem cPoHolds_ok {ρ : Env} (h : Sees ρ K75 119) : CtOne Tryz.prog ρ 144 cPoHolds :=
  ctD_ok gPoHolds (fun _ => rfl) (fun al => by simp only [V.val, V2.val, S.val, S0.val, sIF, sBF, List.map_cons, List.map_nil, bF_ev (s := 118) (f := hoR) (fun l => by rw [(h 118 l (by decide)).2]; simp only [K75, K74, K73, K72, K71, KI, KH, KG, KF, KE, KD, KC, KB, KA, K9, K8, K7, K6, K5, K]), iF_ev (s := 112) (f := touE) (fun l => by rw [(h 112 l (by decide)).1]; simp only [K75, K74, K73, K72, K71, KI, KH, KG, KF, KE, KD, KC, KB, KA, K9, K8, K7, K6, K5, K])]; try rfl)
def ctE5 : Ct := (144, cPoHolds) :: ctE4
theorem ctE5_ok {ρ : Env} (h : Sees ρ K75 119) : CtOk Tryz.prog ρ ctE5 := .cons (cPoHolds_ok h) (ctE4_ok (K75_K74 h))
end Go.Proofs.YtglepdhapakmbaaGreat
/- Chapter 07: common points of polygons and discs, no program. -/
namespace Go.Proofs.YtglepdhapakmbaaGreat
open Go.RowKit
def mEdge (p q : Rows) (i k : Nat) : Bool := meetB (cx p i) (cy p i) (cx p (nxt p.length i)) (cy p (nxt p.length i)) (cx q k) (cy q k) (cx q (nxt q.length k)) (cy q (nxt q.length k))
theorem meetPQ_eq {p q : Rows} (hp : polyB p = true) (hq : polyB q = true) {i k : Nat} (hi : i < p.length) (hk : k < q.length) : meetPQ p q i k = mEdge p q i k := by
  have h1 := polyB_pl hp hi
  have h2 := polyB_pl hp (nxt_lt hi)
  have h3 := polyB_pl hq hk
  have h4 := polyB_pl hq (nxt_lt hk)
  unfold cx cy at h1 h2 h3 h4
  unfold meetPQ meetR
  rw [eight_eight, h1, h2, h3, h4, meet_eight]
  rfl
theorem tmRow_iff {p q : Rows} {i : Nat} : ∀ (f k : Nat), tmRow p q i f k = true ↔ ∃ j, k ≤ j ∧ j < k + f ∧ meetPQ p q i j = true
  | 0, k => ⟨fun h => (by cases h), fun ⟨j, h1, h2, _⟩ => by omega⟩
  | f + 1, k => by
    rw [tmRow, Bool.or_eq_true, tmRow_iff f (k + 1)]
    constructor
    · rintro (h | ⟨j, h1, h2, h3⟩)
      · exact ⟨k, by omega, by omega, h⟩
      · exact ⟨j, by omega, by omega, h3⟩
    · rintro ⟨j, h1, h2, h3⟩
      by_cases e : j = k
      · subst e; exact .inl h3
      · exact .inr ⟨j, by omega, by omega, h3⟩
theorem tmN_iff {p q : Rows} : ∀ (f i : Nat), tmN p q f i = true ↔ ∃ j, i ≤ j ∧ j < i + f ∧ ∃ k, k < q.length ∧ meetPQ p q j k = true
  | 0, i => ⟨fun h => (by cases h), fun ⟨j, h1, h2, _⟩ => by omega⟩
  | f + 1, i => by
    rw [tmN, Bool.or_eq_true, tmN_iff f (i + 1), tmRow_iff]
    constructor
    · rintro (⟨k, _, h2, h3⟩ | ⟨j, h1, h2, h3⟩)
      · exact ⟨i, by omega, by omega, k, by omega, h3⟩
      · exact ⟨j, by omega, by omega, h3⟩
    · rintro ⟨j, h1, h2, k, h3, h4⟩
      by_cases e : j = i
      · subst e; exact .inl ⟨k, by omega, by omega, h4⟩
      · exact .inr ⟨j, by omega, by omega, k, h3, h4⟩
theorem touX_iff {p q : Rows} (hp : polyB p = true) (hq : polyB q = true) :
    touX p q = true ↔ (∃ i k, i < p.length ∧ k < q.length ∧ mEdge p q i k = true) ∨ placeN p (cx q 0) (cy q 0) p.length 0 false = 1 ∨ placeN q (cx p 0) (cy p 0) q.length 0 false = 1 := by
  unfold touX
  rw [Bool.or_eq_true, Bool.or_eq_true, decide_eq_true_eq, decide_eq_true_eq, tmN_iff]
  refine or_congr ⟨fun ⟨i, _, h2, k, h3, h4⟩ => ⟨i, k, by omega, h3, ?_⟩, fun ⟨i, k, h1, h2, h3⟩ => ⟨i, by omega, by omega, k, h2, ?_⟩⟩ Iff.rfl
  · rw [← meetPQ_eq hp hq (by omega) h3]; exact h4
  · rw [meetPQ_eq hp hq h1 h2]; exact h3
theorem mEdge_comm {p q : Rows} {i k : Nat} : mEdge q p k i = mEdge p q i k := meet_comm
theorem touX_comm {p q : Rows} (hp : polyB p = true) (hq : polyB q = true) : touX q p = touX p q := by
  rw [Bool.eq_iff_iff, touX_iff hp hq, touX_iff hq hp]
  constructor
  · rintro (⟨i, k, h1, h2, h3⟩ | h | h)
    · exact .inl ⟨k, i, h2, h1, by rw [mEdge_comm] at h3; exact h3⟩
    · exact .inr (.inr h)
    · exact .inr (.inl h)
  · rintro (⟨i, k, h1, h2, h3⟩ | h | h)
    · exact .inl ⟨k, i, h2, h1, by rw [mEdge_comm]; exact h3⟩
    · exact .inr (.inr h)
    · exact .inr (.inl h)
theorem corners_same {p q : Rows} (hp : polyB p = true) (hq : polyB q = true) (H : ∀ i k, i < p.length → k < q.length → mEdge p q i k = false) : ∀ i, i < p.length → placeN q (cx p i) (cy p i) q.length 0 false = placeN q (cx p 0) (cy p 0) q.length 0 false
  | 0, _ => rfl
  | i + 1, hi => by
    rw [← corners_same hp hq H i (by omega)]
    have hn : nxt p.length i = i + 1 := by unfold nxt; rw [if_neg (by omega)]
    refine (place_const hq (polyB_pl hp (by omega)) (polyB_pl hp hi) (fun k hk => ?_)).symm
    have := H i k (by omega) hk
    unfold mEdge at this
    rwa [hn] at this
theorem on_common {x y a b c d e f g h : Int} (h1 : onB x y a b c d = true) (h2 : onB x y e f g h = true) : meetB a b c d e f g h = true := by
  obtain ⟨k, hk, s1⟩ := onB_iff.mp h1
  obtain ⟨m, hm, s2⟩ := onB_iff.mp h2
  have t1 := seg_scale s1 (show 0 ≤ m by omega)
  have t2 := seg_scale s2 (show 0 ≤ k by omega)
  refine meet_of_common ⟨k * m, k * x * m, k * y * m, Int.mul_pos hk hm, t1, ?_⟩
  have e1 : m * k = k * m := Int.mul_comm _ _
  have e2 : m * x * k = k * x * m := by grind
  have e3 : m * y * k = k * y * m := by grind
  rw [← e1, ← e2, ← e3]
  exact t2
theorem off_place {r : Rows} (hr : polyB r = true) {x y : Int} (hq : placeB x y = true) (h : 0 ≤ placeN r x y r.length 0 false) (hon : ∀ k, k < r.length → onB x y (cx r k) (cy r k) (cx r (nxt r.length k)) (cy r (nxt r.length k)) = false) : placeN r x y r.length 0 false = 1 := by
  rw [place_wind hr hq hon] at h ⊢
  split at h
  · omega
  · rename_i hw; rw [if_neg hw]
theorem tou_on {p q : Rows} (hp : polyB p = true) (hq : polyB q = true) {x y : Int} (hxy : placeB x y = true) {i : Nat} (hi : i < p.length)
    (hon : onB x y (cx p i) (cy p i) (cx p (nxt p.length i)) (cy p (nxt p.length i)) = true) (h : 0 ≤ placeN q x y q.length 0 false) : touX p q = true := by
  rw [touX_iff hp hq]
  by_cases H : ∃ i k, i < p.length ∧ k < q.length ∧ mEdge p q i k = true
  · exact .inl H
  have H' : ∀ i k, i < p.length → k < q.length → mEdge p q i k = false := fun i k h1 h2 => by
    cases hm : mEdge p q i k with
    | false => rfl
    | true => exact absurd ⟨i, k, h1, h2, hm⟩ H
  have hoff : ∀ k, k < q.length → onB x y (cx q k) (cy q k) (cx q (nxt q.length k)) (cy q (nxt q.length k)) = false := fun k hk => by
    cases ho : onB x y (cx q k) (cy q k) (cx q (nxt q.length k)) (cy q (nxt q.length k)) with
    | false => rfl
    | true =>
      have := on_common hon ho
      have h2 := H' i k hi hk
      unfold mEdge at h2
      rw [this] at h2
      exact absurd h2 (by decide)
  have h1 := off_place hq hxy h hoff
  refine .inr (.inr ?_)
  rw [← corners_same hp hq H' i hi, ← h1]
  refine place_const hq (polyB_pl hp hi) hxy (fun k hk => ?_)
  cases hm : meetB (cx p i) (cy p i) x y (cx q k) (cy q k) (cx q (nxt q.length k)) (cy q (nxt q.length k)) with
  | false => rfl
  | true =>
    obtain ⟨n, u, v, hn, g1, g2⟩ := common_of_meet hm
    obtain ⟨k', hk', hs⟩ := onB_iff.mp hon
    have t1 := seg_part (by omega) hk' hs g1
    have t2 := seg_scale g2 (show 0 ≤ k' by omega)
    have := meet_of_common ⟨n * k', u * k', v * k', Int.mul_pos hn hk', t1, t2⟩
    have h2 := H' i k hi hk
    unfold mEdge at h2
    rw [this] at h2
    exact absurd h2 (by decide)
theorem tou_corner {p q : Rows} (hp : polyB p = true) (hq : polyB q = true) (h : 0 ≤ placeN p (cx q 0) (cy q 0) p.length 0 false) : touX p q = true := by
  have lq := polyB_len hq
  rw [touX_comm hq hp]
  refine tou_on hq hp (polyB_pl hq (by omega)) (i := 0) (by omega) ?_ h
  exact onB_iff.mpr ⟨1, by decide, by simpa using seg_start (cx q 0) (cy q 0) (cx q (nxt q.length 0)) (cy q (nxt q.length 0)) (k := 1) (by decide)⟩
/-! ### Discs and polygons -/
theorem nearI_eq {r : Rows} (hr : polyB r = true) {x y d : Int} (hq : placeB x y = true) (hd : 0 ≤ d ∧ d ≤ 3000000) {i : Nat} (hi : i < r.length) : nearI r x y d i = nearB x y (cx r i) (cy r i) (cx r (nxt r.length i)) (cy r (nxt r.length i)) d :=
  (nearR_eq hq (polyB_pl hr hi) (polyB_pl hr (nxt_lt hi)) hd).1
end Go.Proofs.YtglepdhapakmbaaGreat
/- Plane geometry: boxes about what is near; a polygon's box. -/
namespace Go.Proofs.YtglepdhapakmbaaGreat
open Go.RowKit
/-! ### A polygon's box -/
theorem order_le {a b x y : Int} (h : orderI a b x y < 0) : a ≤ x := by unfold orderI at h; (repeat' split at h) <;> omega
theorem order_ge {a b x y : Int} (h : ¬ orderI a b x y < 0) : x ≤ a := by unfold orderI at h; (repeat' split at h) <;> omega
theorem order_ge' {a b x y : Int} (h : 0 < orderI a b x y) : x ≤ a := by unfold orderI at h; (repeat' split at h) <;> omega
theorem order_le' {a b x y : Int} (h : ¬ 0 < orderI a b x y) : a ≤ x := by unfold orderI at h; (repeat' split at h) <;> omega
theorem minO_spec (r : Rows) : ∀ (f i : Nat) (x y : Int), minO r f i x y ≤ x ∧ (∀ k, i ≤ k → k < i + f → minO r f i x y ≤ cx r k) ∧ (minO r f i x y = x ∨ ∃ k, i ≤ k ∧ k < i + f ∧ minO r f i x y = cx r k)
  | 0, i, x, y => ⟨Int.le_refl _, fun k h1 h2 => by omega, .inl rfl⟩
  | f + 1, i, x, y => by
    rw [minO]
    split
    · rename_i h
      obtain ⟨h1, h2, h3⟩ := minO_spec r f (i + 1) (lg r i 0) (lg r i 1)
      have := order_le h
      refine ⟨by omega, fun k g1 g2 => ?_, ?_⟩
      · by_cases e : k = i
        · subst e; exact h1
        · exact h2 k (by omega) (by omega)
      · rcases h3 with h3 | ⟨k, g1, g2, g3⟩
        · exact .inr ⟨i, by omega, by omega, h3⟩
        · exact .inr ⟨k, by omega, by omega, g3⟩
    · rename_i h
      obtain ⟨h1, h2, h3⟩ := minO_spec r f (i + 1) x y
      have := order_ge h
      refine ⟨h1, fun k g1 g2 => ?_, ?_⟩
      · by_cases e : k = i
        · subst e; exact Int.le_trans h1 this
        · exact h2 k (by omega) (by omega)
      · rcases h3 with h3 | ⟨k, g1, g2, g3⟩
        · exact .inl h3
        · exact .inr ⟨k, by omega, by omega, g3⟩
theorem maxO_spec (r : Rows) : ∀ (f i : Nat) (x y : Int), x ≤ maxO r f i x y ∧ (∀ k, i ≤ k → k < i + f → cx r k ≤ maxO r f i x y) ∧ (maxO r f i x y = x ∨ ∃ k, i ≤ k ∧ k < i + f ∧ maxO r f i x y = cx r k)
  | 0, i, x, y => ⟨Int.le_refl _, fun k h1 h2 => by omega, .inl rfl⟩
  | f + 1, i, x, y => by
    rw [maxO]
    split
    · rename_i h
      obtain ⟨h1, h2, h3⟩ := maxO_spec r f (i + 1) (lg r i 0) (lg r i 1)
      have := order_ge' h
      refine ⟨by omega, fun k g1 g2 => ?_, ?_⟩
      · by_cases e : k = i
        · subst e; exact h1
        · exact h2 k (by omega) (by omega)
      · rcases h3 with h3 | ⟨k, g1, g2, g3⟩
        · exact .inr ⟨i, by omega, by omega, h3⟩
        · exact .inr ⟨k, by omega, by omega, g3⟩
    · rename_i h
      obtain ⟨h1, h2, h3⟩ := maxO_spec r f (i + 1) x y
      have := order_le' h
      refine ⟨h1, fun k g1 g2 => ?_, ?_⟩
      · by_cases e : k = i
        · subst e; exact Int.le_trans this h1
        · exact h2 k (by omega) (by omega)
      · rcases h3 with h3 | ⟨k, g1, g2, g3⟩
        · exact .inl h3
        · exact .inr ⟨k, by omega, by omega, g3⟩
theorem minY_spec (r : Rows) : ∀ (f i : Nat) (y : Int), minY r f i y ≤ y ∧ (∀ k, i ≤ k → k < i + f → minY r f i y ≤ cy r k) ∧ (minY r f i y = y ∨ ∃ k, i ≤ k ∧ k < i + f ∧ minY r f i y = cy r k)
  | 0, i, y => ⟨Int.le_refl _, fun k h1 h2 => by omega, .inl rfl⟩
  | f + 1, i, y => by
    rw [minY]
    split
    · rename_i h
      obtain ⟨h1, h2, h3⟩ := minY_spec r f (i + 1) (lg r i 1)
      refine ⟨by omega, fun k g1 g2 => ?_, ?_⟩
      · by_cases e : k = i
        · subst e; exact h1
        · exact h2 k (by omega) (by omega)
      · rcases h3 with h3 | ⟨k, g1, g2, g3⟩
        · exact .inr ⟨i, by omega, by omega, h3⟩
        · exact .inr ⟨k, by omega, by omega, g3⟩
    · rename_i h
      obtain ⟨h1, h2, h3⟩ := minY_spec r f (i + 1) y
      refine ⟨h1, fun k g1 g2 => ?_, ?_⟩
      · by_cases e : k = i
        · subst e; exact Int.le_trans h1 (show y ≤ lg r k 1 by omega)
        · exact h2 k (by omega) (by omega)
      · rcases h3 with h3 | ⟨k, g1, g2, g3⟩
        · exact .inl h3
        · exact .inr ⟨k, by omega, by omega, g3⟩
theorem maxY_spec (r : Rows) : ∀ (f i : Nat) (y : Int), y ≤ maxY r f i y ∧ (∀ k, i ≤ k → k < i + f → cy r k ≤ maxY r f i y) ∧ (maxY r f i y = y ∨ ∃ k, i ≤ k ∧ k < i + f ∧ maxY r f i y = cy r k)
  | 0, i, y => ⟨Int.le_refl _, fun k h1 h2 => by omega, .inl rfl⟩
  | f + 1, i, y => by
    rw [maxY]
    split
    · rename_i h
      obtain ⟨h1, h2, h3⟩ := maxY_spec r f (i + 1) (lg r i 1)
      refine ⟨by omega, fun k g1 g2 => ?_, ?_⟩
      · by_cases e : k = i
        · subst e; exact h1
        · exact h2 k (by omega) (by omega)
      · rcases h3 with h3 | ⟨k, g1, g2, g3⟩
        · exact .inr ⟨i, by omega, by omega, h3⟩
        · exact .inr ⟨k, by omega, by omega, g3⟩
    · rename_i h
      obtain ⟨h1, h2, h3⟩ := maxY_spec r f (i + 1) y
      refine ⟨h1, fun k g1 g2 => ?_, ?_⟩
      · by_cases e : k = i
        · subst e; exact Int.le_trans (show lg r k 1 ≤ y by omega) h1
        · exact h2 k (by omega) (by omega)
      · rcases h3 with h3 | ⟨k, g1, g2, g3⟩
        · exact .inl h3
        · exact .inr ⟨k, by omega, by omega, g3⟩
theorem pb_spec {r : Rows} (hr : polyB r = true) : (∀ k, k < r.length → (pbA [.l r] ≤ cx r k ∧ cx r k ≤ pbB [.l r]) ∧ pbC [.l r] ≤ cy r k ∧ cy r k ≤ pbD [.l r]) ∧ boxB (pbA [.l r]) (pbB [.l r]) (pbC [.l r]) (pbD [.l r]) = true := by
  have hl := polyB_len hr
  have eA : pbA [.l r] = minO r (r.length - 1) 1 (cx r 0) (cy r 0) := by unfold pbA; rw [show rAt [.l r] 0 = r from rfl, hr]; rfl
  have eB : pbB [.l r] = maxO r (r.length - 1) 1 (cx r 0) (cy r 0) := by unfold pbB; rw [show rAt [.l r] 0 = r from rfl, hr]; rfl
  have eC : pbC [.l r] = minY r (r.length - 1) 1 (cy r 0) := by unfold pbC; rw [show rAt [.l r] 0 = r from rfl, hr]; rfl
  have eD : pbD [.l r] = maxY r (r.length - 1) 1 (cy r 0) := by unfold pbD; rw [show rAt [.l r] 0 = r from rfl, hr]; rfl
  obtain ⟨a1, a2, a3⟩ := minO_spec r (r.length - 1) 1 (cx r 0) (cy r 0)
  obtain ⟨b1, b2, b3⟩ := maxO_spec r (r.length - 1) 1 (cx r 0) (cy r 0)
  obtain ⟨c1, c2, c3⟩ := minY_spec r (r.length - 1) 1 (cy r 0)
  obtain ⟨d1, d2, d3⟩ := maxY_spec r (r.length - 1) 1 (cy r 0)
  rw [eA, eB, eC, eD]
  have hp := fun k hk => placeB_iff.mp (polyB_pl hr (k := k) hk)
  have hp0 := hp 0 (by omega)
  refine ⟨fun k hk => ?_, ?_⟩
  · by_cases e : k = 0
    · subst e; exact ⟨⟨a1, b1⟩, c1, d1⟩
    · exact ⟨⟨a2 k (by omega) (by omega), b2 k (by omega) (by omega)⟩, c2 k (by omega) (by omega), d2 k (by omega) (by omega)⟩
  · rw [boxB_t]
    have A : -1000000 ≤ minO r (r.length - 1) 1 (cx r 0) (cy r 0) := by
      rcases a3 with h | ⟨k, _, hk, h⟩
      · omega
      · have := hp k (by omega); omega
    have zB : maxO r (r.length - 1) 1 (cx r 0) (cy r 0) ≤ 1000000 := by
      rcases b3 with h | ⟨k, _, hk, h⟩
      · omega
      · have := hp k (by omega); omega
    have C : -1000000 ≤ minY r (r.length - 1) 1 (cy r 0) := by
      rcases c3 with h | ⟨k, _, hk, h⟩
      · omega
      · have := hp k (by omega); omega
    have zD : maxY r (r.length - 1) 1 (cy r 0) ≤ 1000000 := by
      rcases d3 with h | ⟨k, _, hk, h⟩
      · omega
      · have := hp k (by omega); omega
    omega
end Go.Proofs.YtglepdhapakmbaaGreat
