/- MQ, merged: TWd, Wg. -/
import Derived.Test.YtglepdhapakmbaaGreatMO
import Derived.Test.YtglepdhapakmbaaGreatMV
set_option linter.unusedSimpArgs false
set_option linter.unusedVariables false
/- Chapter 07: trees of the reference's Holds of polygons; List, Same. -/
namespace Go.Proofs.YtglepdhapakmbaaGreat
open Go.RowKit
-- term trR3Ho: call Tryz.prog ctW3 (Lt.of []) 100 65 (symArgs 0 [pts, pts]) [] 0
def trR3Ho : TT OpR :=
(.ite (.not (.fn 69 (.x (.var 0) .nil)))
 (.ret ((.tup [(.one (.z (.bool (.lit false)))), (.one (.z (.int .i64 (.lit 1))))]), [], 0))
 (.ite (.not (.fn 69 (.x (.var 1) .nil)))
 (.ret ((.tup [(.one (.z (.bool (.lit false)))), (.one (.z (.int .i64 (.lit 1))))]), [], 0))
 (.loop 0 1000 ⟨[(0, (.lit 0))], [], []⟩
 (.ite (.cmp .lss (.var 1000) (.len (.var 1)))
 (.ob (.tru (.cmp .leq (.lit 0) (.var 1000)))
 (.ob (.tru (.cmp .lss (.var 1000) (.len (.var 1))))
 (.ob (.tru (.cmp .neq (.len (.var 1)) (.lit 0)))
 (.ob (.tru (.cmp .leq (.lit 0) (.ar .rem .i64 (.ar .add .i64 (.var 1000) (.lit 1)) (.len (.var 1)))))
 (.ob (.tru (.cmp .lss (.ar .rem .i64 (.ar .add .i64 (.var 1000) (.lit 1)) (.len (.var 1))) (.len (.var 1))))
 (.ob (.tru (.fn 123 (.x (.var 0) (.i (.rd (.var 1) (.var 1000) 0) (.i (.rd (.var 1) (.var 1000) 1) (.i (.rd (.var 1) (.ar .rem .i64 (.ar .add .i64 (.var 1000) (.lit 1)) (.len (.var 1))) 0) (.i (.rd (.var 1) (.ar .rem .i64 (.ar .add .i64 (.var 1000) (.lit 1)) (.len (.var 1))) 1) .nil)))))))
 (.ite (.not (.fn 122 (.x (.var 0) (.i (.rd (.var 1) (.var 1000) 0) (.i (.rd (.var 1) (.var 1000) 1) (.i (.rd (.var 1) (.ar .rem .i64 (.ar .add .i64 (.var 1000) (.lit 1)) (.len (.var 1))) 0) (.i (.rd (.var 1) (.ar .rem .i64 (.ar .add .i64 (.var 1000) (.lit 1)) (.len (.var 1))) 1) .nil)))))))
 (.ret ((.tup [(.one (.z (.bool (.lit false)))), (.one (.z (.int .i64 (.lit 0))))]), [], 2))
 (.next 0 ⟨[(0, (.ar .add .i64 (.var 1000) (.lit 1)))], [], []⟩))))))))
 (.ret ((.tup [(.one (.z (.bool (.lit true)))), (.one (.z (.int .i64 (.lit 0))))]), [], 2))))))
-- end trR3Ho
def trR3Ho_h : List (Nat × St) := [
(0, ⟨(List.append [(.v (.one (.z (.ext [(.int .i64), (.int .i64)] (.var 0) false)))), (.v (.one (.z (.ext [(.int .i64), (.int .i64)] (.var 1) false)))), (.v (.one (.z .any))), (.v (.one (.z .any))), (.v (.one (.z (.bool (.lit false))))), (.v (.one (.z (.int .i64 (.lit 0))))), (.v (.one (.z (.bool (.fn 69 (.x (.var 0) .nil)))))), (.v (.one (.z (.bool (.fn 69 (.x (.var 1) .nil)))))), (.v (.one (.z (.int .i64 (.var 1000))))), (.v (.one (.z (.ext [(.int .i64), (.int .i64)] (.var 0) false)))), (.v (.one (.z (.bool (.fn 69 (.x (.var 0) .nil)))))), (.v (.one (.z (.ext [(.int .i64), (.int .i64)] (.var 1) false)))), (.v (.one (.z (.bool (.fn 69 (.x (.var 1) .nil)))))), (.v (.one (.z (.bool (.fn 69 (.x (.var 0) .nil)))))), (.v (.one (.z (.bool (.not (.fn 69 (.x (.var 0) .nil))))))), (.v (.one (.z (.bool (.lit false))))), (.v (.one (.z (.bool (.fn 69 (.x (.var 1) .nil)))))), (.v (.one (.z (.bool (.not (.fn 69 (.x (.var 1) .nil))))))), (.v (.one (.z (.bool (.not (.fn 69 (.x (.var 1) .nil)))))))] (List.replicate 16 V.any)), [], 1, []⟩)]
def trR3Ho_j : List (FuncId × Nat × Nat × St) := [
]
set_option maxRecDepth 100000 in
theorem trR3Ho_is : T.norm 0 (call Tryz.prog ctW3 ⟨Lt.un (Lt.of []), trR3Ho_h, trR3Ho_j⟩ 100 65 (symArgs 0 [pts, pts]) [] 0) TT.ret = trR3Ho := by kernel_rfl
theorem trR3Ho_low : trR3Ho.low 1000 = true := by kernel_rfl
-- term trR7Li: call Tryz.prog ctW3 (Lt.of []) 100 8 (symArgs 0 [feats]) [] 0
def trR7Li : TT OpR :=
(.ite (.cmp .gtr (.len (.var 0)) (.lit 300))
 (.ret ((.v (.one (.z (.bool (.lit false))))), [], 0))
 (.loop 0 1000 ⟨[(0, (.lit 0))], [], []⟩
 (.ite (.cmp .lss (.var 1000) (.len (.var 0)))
 (.ob (.tru (.cmp .leq (.lit 0) (.var 1000)))
 (.ob (.tru (.cmp .lss (.var 1000) (.len (.var 0))))
 (.ite (.not (.fn 76 (.i (.rd (.var 0) (.var 1000) 0) (.i (.rd (.var 0) (.var 1000) 1) (.i (.rd (.var 0) (.var 1000) 2) (.i (.rd (.var 0) (.var 1000) 3) (.i (.rd (.var 0) (.var 1000) 4) (.x (.rd (.var 0) (.var 1000) 5) (.i (.rd (.var 0) (.var 1000) 6) (.i (.rd (.var 0) (.var 1000) 7) (.x (.rd (.var 0) (.var 1000) 8) .nil)))))))))))
 (.ret ((.v (.one (.z (.bool (.lit false))))), [], 1))
 (.ite (.cmp .gtr (.var 1000) (.lit 0))
 (.ob (.tru (.cmp .leq (.lit 0) (.var 1000)))
 (.ob (.tru (.cmp .lss (.var 1000) (.len (.var 0))))
 (.ob (.tru (.cmp .leq (.lit 0) (.ar .sub .i64 (.var 1000) (.lit 1))))
 (.ob (.tru (.cmp .lss (.ar .sub .i64 (.var 1000) (.lit 1)) (.len (.var 0))))
 (.ite (.cmp .leq (.rd (.var 0) (.var 1000) 0) (.rd (.var 0) (.ar .sub .i64 (.var 1000) (.lit 1)) 0))
 (.ret ((.v (.one (.z (.bool (.lit false))))), [], 1))
 (.next 0 ⟨[(0, (.ar .add .i64 (.var 1000) (.lit 1)))], [], []⟩))))))
 (.next 0 ⟨[(0, (.ar .add .i64 (.var 1000) (.lit 1)))], [], []⟩)))))
 (.ret ((.v (.one (.z (.bool (.lit true))))), [], 1)))))
-- end trR7Li
def trR7Li_h : List (Nat × St) := [
(0, ⟨(List.append [(.v (.one (.z (.ext [(.int .i64), (.int .i64), (.int .i64), (.int .i64), (.int .i64), (.sl [(.int .i64), (.int .i64)]), (.int .i64), (.int .i64), (.sl [(.int .i64), (.int .i64), (.int .i64), (.int .i64), (.int .i64), (.int .i64)])] (.var 0) false)))), (.v (.one (.z .any))), (.v (.one (.z (.bool (.lit false))))), (.v (.one (.z (.int .i64 (.var 1000))))), (.v (.one (.z (.ext [(.int .i64), (.int .i64), (.int .i64), (.int .i64), (.int .i64), (.sl [(.int .i64), (.int .i64)]), (.int .i64), (.int .i64), (.sl [(.int .i64), (.int .i64), (.int .i64), (.int .i64), (.int .i64), (.int .i64)])] (.var 0) false)))), (.v (.one (.z (.int .i64 (.len (.var 0)))))), (.v (.one (.z (.bool (.cmp .gtr (.len (.var 0)) (.lit 300))))))] (List.replicate 30 V.any)), [], 1, []⟩)]
def trR7Li_j : List (FuncId × Nat × Nat × St) := [
]
set_option maxRecDepth 100000 in
theorem trR7Li_is : T.norm 0 (call Tryz.prog ctW3 ⟨Lt.un (Lt.of []), trR7Li_h, trR7Li_j⟩ 100 8 (symArgs 0 [feats]) [] 0) TT.ret = trR7Li := by kernel_rfl
theorem trR7Li_low : trR7Li.low 1000 = true := by kernel_rfl
-- term trR7Sm: call Tryz.prog ctW3 (Lt.of []) 100 10 (symArgs 0 [feat, feat]) [] 0
def trR7Sm : TT OpR :=
(.ite (.cmp .neq (.var 0) (.var 9))
 (.ret ((.v (.one (.z (.bool (.lit false))))), [], 2))
 (.ite (.cmp .neq (.var 1) (.var 10))
 (.ret ((.v (.one (.z (.bool (.lit false))))), [], 2))
 (.ite (.not (.and (.cmp .eql (.var 2) (.var 11)) (.cmp .eql (.var 3) (.var 12))))
 (.ret ((.v (.one (.z (.bool (.lit false))))), [], 2))
 (.ite (.cmp .neq (.var 4) (.var 13))
 (.ret ((.v (.one (.z (.bool (.lit false))))), [], 2))
 (.ite (.cmp .neq (.var 6) (.var 15))
 (.ret ((.v (.one (.z (.bool (.lit false))))), [], 2))
 (.ite (.cmp .neq (.var 7) (.var 16))
 (.ret ((.v (.one (.z (.bool (.lit false))))), [], 2))
 (.ite (.cmp .neq (.len (.var 5)) (.len (.var 14)))
 (.ret ((.v (.one (.z (.bool (.lit false))))), [], 2))
 (.loop 0 3000 ⟨[(0, (.lit 0))], [], []⟩
 (.ite (.cmp .lss (.var 3000) (.len (.var 5)))
 (.ob (.tru (.cmp .leq (.lit 0) (.var 3000)))
 (.ob (.tru (.cmp .lss (.var 3000) (.len (.var 5))))
 (.ob (.tru (.cmp .leq (.lit 0) (.var 3000)))
 (.ob (.tru (.cmp .lss (.var 3000) (.len (.var 14))))
 (.ite (.not (.and (.cmp .eql (.rd (.var 5) (.var 3000) 0) (.rd (.var 14) (.var 3000) 0)) (.cmp .eql (.rd (.var 5) (.var 3000) 1) (.rd (.var 14) (.var 3000) 1))))
 (.ret ((.v (.one (.z (.bool (.lit false))))), [], 3))
 (.next 0 ⟨[(0, (.ar .add .i64 (.var 3000) (.lit 1)))], [], []⟩))))))
 (.ite (.cmp .neq (.len (.var 8)) (.len (.var 17)))
 (.ret ((.v (.one (.z (.bool (.lit false))))), [], 3))
 (.loop 1 4000 ⟨[(0, (.lit 0))], [], []⟩
 (.ite (.cmp .lss (.var 4000) (.len (.var 8)))
 (.ob (.tru (.cmp .leq (.lit 0) (.var 4000)))
 (.ob (.tru (.cmp .lss (.var 4000) (.len (.var 8))))
 (.ob (.tru (.cmp .leq (.lit 0) (.var 4000)))
 (.ob (.tru (.cmp .lss (.var 4000) (.len (.var 17))))
 (.ite (.not (.and (.and (.cmp .eql (.rd (.var 8) (.var 4000) 0) (.rd (.var 17) (.var 4000) 0)) (.cmp .eql (.rd (.var 8) (.var 4000) 1) (.rd (.var 17) (.var 4000) 1))) (.and (.and (.cmp .eql (.rd (.var 8) (.var 4000) 2) (.rd (.var 17) (.var 4000) 2)) (.cmp .eql (.rd (.var 8) (.var 4000) 3) (.rd (.var 17) (.var 4000) 3))) (.and (.cmp .eql (.rd (.var 8) (.var 4000) 4) (.rd (.var 17) (.var 4000) 4)) (.cmp .eql (.rd (.var 8) (.var 4000) 5) (.rd (.var 17) (.var 4000) 5))))))
 (.ret ((.v (.one (.z (.bool (.lit false))))), [], 4))
 (.next 1 ⟨[(0, (.ar .add .i64 (.var 4000) (.lit 1)))], [], []⟩))))))
 (.ret ((.v (.one (.z (.bool (.lit true))))), [], 4))))))))))))))
-- end trR7Sm
def trR7Sm_h : List (Nat × St) := [
(2, ⟨(List.append [(.v (.one (.z (.ext [(.int .i64), (.int .i64)] (.var 5) false)))), (.v (.one (.z (.ext [(.int .i64), (.int .i64)] (.var 14) false)))), (.v (.one (.z .any))), (.v (.one (.z .any))), (.v (.one (.z (.bool (.lit false))))), (.v (.one (.z (.int .i64 (.var 3000))))), (.v (.one (.z (.ext [(.int .i64), (.int .i64)] (.var 5) false)))), (.v (.one (.z (.int .i64 (.len (.var 5)))))), (.v (.one (.z (.ext [(.int .i64), (.int .i64)] (.var 14) false)))), (.v (.one (.z (.int .i64 (.len (.var 14)))))), (.v (.one (.z (.bool (.cmp .neq (.len (.var 5)) (.len (.var 14)))))))] (List.replicate 15 V.any)), [(1, (.cells 27 [(.z (.int .i64 (.var 9))), (.z (.int .i64 (.var 10))), (.z (.int .i64 (.var 11))), (.z (.int .i64 (.var 12))), (.z (.int .i64 (.var 13))), (.z (.ext [(.int .i64), (.int .i64)] (.var 14) false)), (.z (.int .i64 (.var 15))), (.z (.int .i64 (.var 16))), (.z (.ext [(.int .i64), (.int .i64), (.int .i64), (.int .i64), (.int .i64), (.int .i64)] (.var 17) false))])), (0, (.cells 27 [(.z (.int .i64 (.var 0))), (.z (.int .i64 (.var 1))), (.z (.int .i64 (.var 2))), (.z (.int .i64 (.var 3))), (.z (.int .i64 (.var 4))), (.z (.ext [(.int .i64), (.int .i64)] (.var 5) false)), (.z (.int .i64 (.var 6))), (.z (.int .i64 (.var 7))), (.z (.ext [(.int .i64), (.int .i64), (.int .i64), (.int .i64), (.int .i64), (.int .i64)] (.var 8) false))]))], 3, []⟩),
(3, ⟨(List.append [(.v (.one (.z (.ext [(.int .i64), (.int .i64), (.int .i64), (.int .i64), (.int .i64), (.int .i64)] (.var 8) false)))), (.v (.one (.z (.ext [(.int .i64), (.int .i64), (.int .i64), (.int .i64), (.int .i64), (.int .i64)] (.var 17) false)))), (.v (.one (.z .any))), (.v (.one (.z .any))), (.v (.one (.z (.bool (.lit false))))), (.v (.one (.z (.int .i64 (.var 4000))))), (.v (.one (.z (.ext [(.int .i64), (.int .i64), (.int .i64), (.int .i64), (.int .i64), (.int .i64)] (.var 8) false)))), (.v (.one (.z (.int .i64 (.len (.var 8)))))), (.v (.one (.z (.ext [(.int .i64), (.int .i64), (.int .i64), (.int .i64), (.int .i64), (.int .i64)] (.var 17) false)))), (.v (.one (.z (.int .i64 (.len (.var 17)))))), (.v (.one (.z (.bool (.cmp .neq (.len (.var 8)) (.len (.var 17)))))))] (List.replicate 15 V.any)), [(1, (.cells 27 [(.z (.int .i64 (.var 9))), (.z (.int .i64 (.var 10))), (.z (.int .i64 (.var 11))), (.z (.int .i64 (.var 12))), (.z (.int .i64 (.var 13))), (.z (.ext [(.int .i64), (.int .i64)] (.var 14) false)), (.z (.int .i64 (.var 15))), (.z (.int .i64 (.var 16))), (.z (.ext [(.int .i64), (.int .i64), (.int .i64), (.int .i64), (.int .i64), (.int .i64)] (.var 17) false))])), (0, (.cells 27 [(.z (.int .i64 (.var 0))), (.z (.int .i64 (.var 1))), (.z (.int .i64 (.var 2))), (.z (.int .i64 (.var 3))), (.z (.int .i64 (.var 4))), (.z (.ext [(.int .i64), (.int .i64)] (.var 5) false)), (.z (.int .i64 (.var 6))), (.z (.int .i64 (.var 7))), (.z (.ext [(.int .i64), (.int .i64), (.int .i64), (.int .i64), (.int .i64), (.int .i64)] (.var 8) false))]))], 4, []⟩)]
def trR7Sm_j : List (FuncId × Nat × Nat × St) := [
]
set_option maxRecDepth 100000 in
theorem trR7Sm_is : T.norm 0 (call Tryz.prog ctW3 ⟨Lt.un (Lt.of []), trR7Sm_h, trR7Sm_j⟩ 100 10 (symArgs 0 [feat, feat]) [] 0) TT.ret = trR7Sm := by kernel_rfl
theorem trR7Sm_low : trR7Sm.low 1000 = true := by kernel_rfl
end Go.Proofs.YtglepdhapakmbaaGreat
/- Chapter 07: the reference's Holds of polygons; List, Same. -/
namespace Go.Proofs.YtglepdhapakmbaaGreat
open Go.RowKit
theorem KWcb69 (W : World) (ds l : List D) : (envOf KWc W ds).fb 69 l = polyL l := by simp only [envOf, KWc, KWb, KWa, KX, KW, KV, KU, KT, KR, KG, KF, KE, KD, KC, KB]
theorem KWcb76 (W : World) (ds l : List D) : (envOf KWc W ds).fb 76 l = featL l := by simp only [envOf, KWc, KWb, KWa, KX, KW, KV, KU, KT, KR, KG, KF]
theorem KWcb122 (W : World) (ds l : List D) : (envOf KWc W ds).fb 122 l = phL l := by simp only [envOf, KWc]
theorem KWcb123 (W : World) (ds l : List D) : (envOf KWc W ds).fb 123 l = wiO l := by simp only [envOf, KWc]
theorem wiO_five (r : Rows) (a b c d : Int) : wiO [.l r, .i a, .i b, .i c, .i d] = (polyB r && (placeB a b && placeB c d)) := rfl
theorem gR3Ho : Gives Tryz.prog 65 [pts, pts] (fun ds => .tuple #[.bool (hoR ds), .int .i64 (touE ds)]) := by
  refine GivesIf.all (fn_gives KWc (by kernel_rfl) (fun ρ h => ctW3_ok (Sees.of h 132)) (by kernel_rfl) trR3Ho_is trR3Ho_low (by decide) (fun W vals ds hr _ => ?_))
  simp only [trR3Ho, TT.sat_ret, TT.sat_ite, TT.sat_ob, TT.sat_next, TT.sat_stuck, put_i, put_b, put_d, put_fi, put_fb, put_fd, Ob.ok, B.ev, E.ev, X.ev, AL.ev, cmp_t, cmp_f, arEv, V.plain, V2.plain, S.plain, S0.plain, V.val, V2.val, S.val, S0.val, bV, iV, List.all_cons, List.all_nil, Bool.and_true, Bool.and_self, envOf_i, envOf_b, envOf_d, List.map_cons, List.map_nil, true_and, Bool.not_eq_true', Bool.not_eq_false', Bool.not_not, Bool.and_eq_true, and_f, cell_lg, cell_lb, cell_lr, cmpP, val_i, val_b, val_d, aget, Nat.reduceBEq, beq_self_eq_true, Bool.false_eq_true, if_true, if_false, Nat.reduceLT, Nat.reduceSub, Nat.sub_self, Nat.lt_irrefl, KWcb69, poly_one]
  have F : touO ds = false → Value.tuple #[.bool false, .int .i64 1] = Value.tuple #[.bool (hoR ds), .int .i64 (touE ds)] := fun h => by simp [hoR, touE, h]
  refine ⟨fun h => F ?_, fun h1 => ⟨fun h => F ?_, fun h2 => ?_⟩⟩
  · simp only [touO, h, Bool.false_and]
  · simp only [touO, h, Bool.and_false]
  have T : ∀ b, hoX (rAt ds 0) (rAt ds 1) = b → Value.tuple #[.bool b, .int .i64 0] = Value.tuple #[.bool (hoR ds), .int .i64 (touE ds)] := fun b h => by simp [hoR, touE, touO, h1, h2, h]
  clear F hr
  have l1 := polyB_len h1
  have l2 := polyB_len h2
  generalize hp : rAt ds 0 = p at *
  generalize hq : rAt ds 1 = q at *
  have ql : ∀ k : Nat, k < q.length → placeB (lg q k 0) (lg q k 1) = true := fun k hk => polyB_pl h2 hk
  refine TT.sat_loop (fun v => ∃ i : Nat, v.i 0 = i ∧ i ≤ q.length ∧ hoN p q (q.length - i) i = hoX p q) (fun v => q.length - (v.i 0).toNat)
    ⟨0, by simp [val_i, aget, E.ev], by omega, rfl⟩ (fun v hv => ?_)
  obtain ⟨i, i0, i1, i2⟩ := hv
  simp only [TT.sat_ret, TT.sat_ite, TT.sat_ob, TT.sat_next, TT.sat_stuck, put_i, put_b, put_d, put_fi, put_fb, put_fd, Ob.ok, B.ev, E.ev, X.ev, AL.ev, cmp_t, cmp_f, arEv, V.plain, V2.plain, S.plain, S0.plain, V.val, V2.val, S.val, S0.val, bV, iV, List.all_cons, List.all_nil, Bool.and_true, Bool.and_self, envOf_i, envOf_b, envOf_d, List.map_cons, List.map_nil, true_and, Bool.not_eq_true', Bool.not_eq_false', Bool.not_not, Bool.and_eq_true, and_f, cell_lg, cell_lb, cell_lr, cmpP, val_i, val_b, val_d, aget, Nat.reduceBEq, beq_self_eq_true, Bool.false_eq_true, if_true, if_false, Nat.reduceLT, Nat.reduceSub, Nat.sub_self, Nat.lt_irrefl, i0, hp, hq, KWcb122, KWcb123, ph_five, wiO_five]
  refine ⟨fun hc => ?_, fun hc => ?_⟩
  · have hi : i < q.length := by omega
    have hn := nxt_lt hi
    obtain ⟨f, hf⟩ : ∃ f, q.length - i = f + 1 := ⟨q.length - i - 1, by omega⟩
    rw [hf, hoN] at i2
    have hf' : q.length - (i + 1) = f := by omega
    rw [rem_next1 hi (by omega), wrap_in ((i : Int) + 1) (by omega) (by omega)]
    refine ⟨by omega, by omega, by omega, by omega, by omega, by simp [h1, ql i hi, ql _ hn], fun h => T _ ?_, fun h => ⟨⟨i + 1, rfl, by omega, ?_⟩, by omega⟩⟩
    · rw [← i2, h]; rfl
    · rw [hf', ← i2, h]; rfl
  · have : q.length - i = 0 := by omega
    rw [this, hoN] at i2
    exact T _ i2.symm
theorem featRow_id {r : Rows} {i : Nat} (h : featRow r i = true) : 1 ≤ lg r i 0 := (featB_iff.mp h).1.1
set_option maxHeartbeats 1000000 in
theorem gR7Li : Gives Tryz.prog 8 [feats] (fun ds => .bool (listL ds)) := by
  refine GivesIf.all (fn_gives KWc (by kernel_rfl) (fun ρ h => ctW3_ok (Sees.of h 132)) (by kernel_rfl) trR7Li_is trR7Li_low (by decide) (fun W vals ds hr _ => ?_))
  have hlen := feats_len hr
  simp only [trR7Li, TT.sat_ret, TT.sat_ite, TT.sat_ob, TT.sat_next, TT.sat_stuck, put_i, put_b, put_d, put_fi, put_fb, put_fd, Ob.ok, B.ev, E.ev, X.ev, AL.ev, cmp_t, cmp_f, arEv, V.plain, V2.plain, S.plain, S0.plain, V.val, V2.val, S.val, S0.val, bV, iV, List.all_cons, List.all_nil, Bool.and_true, Bool.and_self, envOf_i, envOf_b, envOf_d, List.map_cons, List.map_nil, true_and, Bool.not_eq_true', Bool.not_eq_false', Bool.not_not, Bool.and_eq_true, and_f, cell_lg, cell_lb, cell_lr, cmpP, val_i, val_b, val_d, aget, Nat.reduceBEq, beq_self_eq_true, Bool.false_eq_true, if_true, if_false, Nat.reduceLT, Nat.reduceSub, Nat.sub_self, Nat.lt_irrefl]
  have hO : listL ds = listB (rAt ds 0) := rfl
  rw [hO]
  clear hO hr
  generalize e0 : rAt ds 0 = r at *
  refine ⟨fun h => by rw [listB, decide_eq_false (p := r.length ≤ 300) (by omega), Bool.and_false], fun h300 => ?_⟩
  have hL : listB r = lisN r r.length 0 0 := by rw [listB, decide_eq_true (p := r.length ≤ 300) (by omega), Bool.and_true]
  rw [hL]
  refine TT.sat_loop (fun v => ∃ i : Nat, v.i 0 = i ∧ i ≤ r.length ∧ (if i = 0 then lisN r r.length 0 0 else lisN r (r.length - i) i (lg r (i - 1 : Nat) 0)) = lisN r r.length 0 0) (fun v => r.length - (v.i 0).toNat)
    ⟨0, by simp [val_i, aget, E.ev], by omega, rfl⟩ (fun v hv => ?_)
  obtain ⟨i, i0, i1, i2⟩ := hv
  simp only [TT.sat_ret, TT.sat_ite, TT.sat_ob, TT.sat_next, TT.sat_stuck, put_i, put_b, put_d, put_fi, put_fb, put_fd, Ob.ok, B.ev, E.ev, X.ev, AL.ev, cmp_t, cmp_f, arEv, V.plain, V2.plain, S.plain, S0.plain, V.val, V2.val, S.val, S0.val, bV, iV, List.all_cons, List.all_nil, Bool.and_true, Bool.and_self, envOf_i, envOf_b, envOf_d, List.map_cons, List.map_nil, true_and, Bool.not_eq_true', Bool.not_eq_false', Bool.not_not, Bool.and_eq_true, and_f, cell_lg, cell_lb, cell_lr, cmpP, val_i, val_b, val_d, aget, Nat.reduceBEq, beq_self_eq_true, Bool.false_eq_true, if_true, if_false, Nat.reduceLT, Nat.reduceSub, Nat.sub_self, Nat.lt_irrefl, i0, e0, KWcb76, feat_nine, featRow_eq]
  refine ⟨fun hc => ?_, fun hc => ?_⟩
  · have hi : i < r.length := by omega
    obtain ⟨f, hf⟩ : ∃ f, r.length - i = f + 1 := ⟨r.length - i - 1, by omega⟩
    have hf' : r.length - (i + 1) = f := by omega
    have N : lisN r f (i + 1) (lg r i 0) = lisN r r.length 0 0 → (∃ j : Nat, IntKind.i64.wrap ((i : Int) + 1) = j ∧ j ≤ r.length ∧ (if j = 0 then lisN r r.length 0 0 else lisN r (r.length - j) j (lg r (j - 1 : Nat) 0)) = lisN r r.length 0 0) ∧ r.length - (IntKind.i64.wrap ((i : Int) + 1)).toNat < r.length - (i : Int).toNat := fun h => by
      rw [wrap_in ((i : Int) + 1) (by omega) (by omega)]
      exact ⟨⟨i + 1, rfl, by omega, by rw [if_neg (by omega), hf', Nat.add_sub_cancel]; exact h⟩, by omega⟩
    by_cases z : i = 0
    · subst z
      have hf0 : r.length = f + 1 := by omega
      have e : lisN r r.length 0 0 = ((featRow r 0 && decide (0 < lg r (0 : Nat) 0)) && lisN r f 1 (lg r (0 : Nat) 0)) := by rw [hf0, lisN]
      refine ⟨by omega, by omega, fun h => ?_, fun h => ⟨fun g => by omega, fun _ => N ?_⟩⟩
      · rw [e, h]; rfl
      · rw [e, h, decide_eq_true (by have := featRow_id h; omega)]; rfl
    · rw [if_neg z, hf, lisN] at i2
      have ew : IntKind.i64.wrap ((i : Int) - 1) = ((i - 1 : Nat) : Int) := by rw [wrap_in ((i : Int) - 1) (by omega) (by omega)]; omega
      rw [ew]
      refine ⟨by omega, by omega, fun h => ?_, fun h => ⟨fun _ => ⟨by omega, by omega, by omega, by omega, fun g => ?_, fun g => N ?_⟩, fun g => by omega⟩⟩
      · rw [← i2, h]; rfl
      · rw [← i2, h, decide_eq_false (by omega)]; rfl
      · rw [← i2, h, decide_eq_true (p := lg r (i - 1 : Nat) 0 < lg r i 0) (by omega)]; rfl
  · have hi : i = r.length := by omega
    subst hi
    rw [Nat.sub_self] at i2
    split at i2
    · rename_i z
      rw [← i2, z]; rfl
    · rw [← i2]; rfl
set_option maxHeartbeats 1000000 in
theorem gR7Sm : Gives Tryz.prog 10 [feat, feat] (fun ds => .bool (sameL ds)) := by
  refine GivesIf.all (fn_gives KWc (by kernel_rfl) (fun ρ h => ctW3_ok (Sees.of h 132)) (by kernel_rfl) trR7Sm_is trR7Sm_low (by decide) (fun W vals ds hr _ => ?_))
  obtain ⟨⟨n5, n8⟩, n14, n17⟩ := rows_len W vals ds _ hr
  simp only [trR7Sm, TT.sat_ret, TT.sat_ite, TT.sat_ob, TT.sat_next, TT.sat_stuck, put_i, put_b, put_d, put_fi, put_fb, put_fd, Ob.ok, B.ev, E.ev, X.ev, AL.ev, cmp_t, cmp_f, arEv, V.plain, V2.plain, S.plain, S0.plain, V.val, V2.val, S.val, S0.val, bV, iV, List.all_cons, List.all_nil, Bool.and_true, Bool.and_self, envOf_i, envOf_b, envOf_d, List.map_cons, List.map_nil, true_and, Bool.not_eq_true', Bool.not_eq_false', Bool.not_not, Bool.and_eq_true, and_f, cell_lg, cell_lb, cell_lr, cmpP, val_i, val_b, val_d, aget, Nat.reduceBEq, beq_self_eq_true, Bool.false_eq_true, if_true, if_false, Nat.reduceLT, Nat.reduceSub, Nat.sub_self, Nat.lt_irrefl]
  have F : ∀ b, sameL ds = b → Value.bool b = Value.bool (sameL ds) := fun b h => by rw [h]
  have N : ¬ ((iAt ds 0 = iAt ds 9 ∧ iAt ds 1 = iAt ds 10 ∧ iAt ds 2 = iAt ds 11 ∧ iAt ds 3 = iAt ds 12) ∧ iAt ds 4 = iAt ds 13 ∧ iAt ds 6 = iAt ds 15 ∧ iAt ds 7 = iAt ds 16) → Value.bool false = Value.bool (sameL ds) := fun h => F _ (by rw [sameL, sameB, decide_eq_false h, Bool.false_and])
  refine ⟨fun h => N (by omega), fun h0 => ⟨fun h => N (by omega), fun h1 => ⟨fun h => N (by omega), fun h2 => ⟨fun h => N (by omega), fun h3 => ⟨fun h => N (by omega), fun h4 => ⟨fun h => N (by omega), fun h5 => ?_⟩⟩⟩⟩⟩⟩
  have hS : sameL ds = (eqX 2 (rAt ds 5) (rAt ds 14) && eqX 6 (rAt ds 8) (rAt ds 17)) := by
    rw [sameL, sameB, decide_eq_true (by omega), Bool.true_and]
  rw [hS]
  clear N F hS hr
  generalize e5 : rAt ds 5 = a at *
  generalize e14 : rAt ds 14 = b at *
  generalize e8 : rAt ds 8 = s at *
  generalize e17 : rAt ds 17 = t at *
  refine ⟨fun h => ?_, fun h => ?_⟩
  · rw [eqX, decide_eq_false (by omega)]; rfl
  have hab : a.length = b.length := by omega
  have hX : eqX 2 a b = eqN 2 a b a.length 0 := by rw [eqX, decide_eq_true hab]; rfl
  rw [hX]
  refine TT.sat_loop (fun v => ∃ i : Nat, v.i 0 = i ∧ i ≤ a.length ∧ eqN 2 a b (a.length - i) i = eqN 2 a b a.length 0) (fun v => a.length - (v.i 0).toNat)
    ⟨0, by simp [val_i, aget, E.ev], by omega, rfl⟩ (fun v hv => ?_)
  obtain ⟨i, i0, i1, i2⟩ := hv
  simp only [TT.sat_ret, TT.sat_ite, TT.sat_ob, TT.sat_next, TT.sat_stuck, put_i, put_b, put_d, put_fi, put_fb, put_fd, Ob.ok, B.ev, E.ev, X.ev, AL.ev, cmp_t, cmp_f, arEv, V.plain, V2.plain, S.plain, S0.plain, V.val, V2.val, S.val, S0.val, bV, iV, List.all_cons, List.all_nil, Bool.and_true, Bool.and_self, envOf_i, envOf_b, envOf_d, List.map_cons, List.map_nil, true_and, Bool.not_eq_true', Bool.not_eq_false', Bool.not_not, Bool.and_eq_true, and_f, cell_lg, cell_lb, cell_lr, cmpP, val_i, val_b, val_d, aget, Nat.reduceBEq, beq_self_eq_true, Bool.false_eq_true, if_true, if_false, Nat.reduceLT, Nat.reduceSub, Nat.sub_self, Nat.lt_irrefl, i0, e5, e14, e8, e17]
  refine ⟨fun hc => ?_, fun hc => ?_⟩
  · have hi : i < a.length := by omega
    obtain ⟨f, hf⟩ : ∃ f, a.length - i = f + 1 := ⟨a.length - i - 1, by omega⟩
    have hf' : a.length - (i + 1) = f := by omega
    rw [hf, eqN] at i2
    rw [wrap_in ((i : Int) + 1) (by omega) (by omega)]
    refine ⟨by omega, by omega, by omega, by omega, fun q => ?_, fun q => ⟨⟨i + 1, rfl, by omega, ?_⟩, by omega⟩⟩
    · rw [← i2, show eqC a b i 2 = false by rw [← Bool.not_eq_true, eqC_iff]; exact fun g => q ⟨g 0 (by omega), g 1 (by omega)⟩]; rfl
    · rw [hf', ← i2, show eqC a b i 2 = true by
        simp only [eqC, decide_eq_true_eq, Bool.and_eq_true, Bool.true_and]
        exact q]; rfl
  · have h0 : a.length - i = 0 := by omega
    rw [h0, eqN] at i2
    rw [← i2, Bool.true_and]
    refine ⟨fun h => ?_, fun h => ?_⟩
    · rw [eqX, decide_eq_false (by omega)]; rfl
    have hst : s.length = t.length := by omega
    have hX : eqX 6 s t = eqN 6 s t s.length 0 := by rw [eqX, decide_eq_true hst]; rfl
    rw [hX]
    refine TT.sat_loop (fun v => ∃ i : Nat, v.i 0 = i ∧ i ≤ s.length ∧ eqN 6 s t (s.length - i) i = eqN 6 s t s.length 0) (fun v => s.length - (v.i 0).toNat)
      ⟨0, by simp [val_i, aget, E.ev], by omega, rfl⟩ (fun u hu => ?_)
    obtain ⟨j, j0, j1, j2⟩ := hu
    simp only [TT.sat_ret, TT.sat_ite, TT.sat_ob, TT.sat_next, TT.sat_stuck, put_i, put_b, put_d, put_fi, put_fb, put_fd, Ob.ok, B.ev, E.ev, X.ev, AL.ev, cmp_t, cmp_f, arEv, V.plain, V2.plain, S.plain, S0.plain, V.val, V2.val, S.val, S0.val, bV, iV, List.all_cons, List.all_nil, Bool.and_true, Bool.and_self, envOf_i, envOf_b, envOf_d, List.map_cons, List.map_nil, true_and, Bool.not_eq_true', Bool.not_eq_false', Bool.not_not, Bool.and_eq_true, and_f, cell_lg, cell_lb, cell_lr, cmpP, val_i, val_b, val_d, aget, Nat.reduceBEq, beq_self_eq_true, Bool.false_eq_true, if_true, if_false, Nat.reduceLT, Nat.reduceSub, Nat.sub_self, Nat.lt_irrefl, j0, e5, e14, e8, e17]
    refine ⟨fun hc => ?_, fun hc => ?_⟩
    · have hj : j < s.length := by omega
      obtain ⟨f, hf⟩ : ∃ f, s.length - j = f + 1 := ⟨s.length - j - 1, by omega⟩
      have hf' : s.length - (j + 1) = f := by omega
      rw [hf, eqN] at j2
      rw [wrap_in ((j : Int) + 1) (by omega) (by omega)]
      refine ⟨by omega, by omega, by omega, by omega, fun q => ?_, fun q => ⟨⟨j + 1, rfl, by omega, ?_⟩, by omega⟩⟩
      · rw [← j2, show eqC s t j 6 = false by rw [← Bool.not_eq_true, eqC_iff]; exact fun g => q ⟨⟨g 0 (by omega), g 1 (by omega)⟩, ⟨g 2 (by omega), g 3 (by omega)⟩, g 4 (by omega), g 5 (by omega)⟩]; rfl
      · rw [hf', ← j2, show eqC s t j 6 = true by
          simp only [eqC, decide_eq_true_eq, Bool.and_eq_true, Bool.true_and]
          omega]; rfl
    · have h0 : s.length - j = 0 := by omega
      rw [h0, eqN] at j2
      rw [← j2]
def KWd : Interp where
  fi n l := KWc.fi n l
  fb n l := match n with | 132 => hoR l | 133 => listL l | 134 => sameL l | n => KWc.fb n l
  fd _ _ := []
theorem KWd_KWc {ρ : Env} (h : Sees ρ KWd 140) : Sees ρ KWc 132 := h.trans (by decide) fun n l hn => by
  refine ⟨?_, ?_⟩
  ·
    rfl
  ·
    simp only [KWd]
    split <;> first | omega | rfl
def cR3Ho := ctD [pts, pts] fun al => .ret (.tup [.one (sBF 132 hoR al), .one (sIF 112 touE al)])
theorem cR3Ho_ok {ρ : Env} (h : Sees ρ KWd 140) : CtOne Tryz.prog ρ 65 cR3Ho :=
  ctD_ok gR3Ho (fun _ => rfl) (fun al => by simp only [V.val, V2.val, S.val, S0.val, sIF, sBF, List.map_cons, List.map_nil, bF_ev (s := 132) (f := hoR) (fun l => by rw [(h 132 l (by decide)).2]; simp only [KWd]), iF_ev (s := 112) (f := touE) (fun l => by rw [(h 112 l (by decide)).1]; simp only [KWd, KWc, KWb])]; try rfl)
def cR7Li := ctD [feats] fun al => .ret (bV (bF 133 listL al))
theorem cR7Li_ok {ρ : Env} (h : Sees ρ KWd 140) : CtOne Tryz.prog ρ 8 cR7Li :=
  ctD_ok gR7Li (fun _ => rfl) (fun al => by simp only [iV, bV, V.s0, V.val, V2.val, S.val, S0.val, bF_ev (s := 133) (f := listL) (fun l => by rw [(h 133 l (by decide)).2]; simp only [KWd])]; try rfl)
def cR7Sm := ctD [feat, feat] fun al => .ret (bV (bF 134 sameL al))
theorem cR7Sm_ok {ρ : Env} (h : Sees ρ KWd 140) : CtOne Tryz.prog ρ 10 cR7Sm :=
  ctD_ok gR7Sm (fun _ => rfl) (fun al => by simp only [iV, bV, V.s0, V.val, V2.val, S.val, S0.val, bF_ev (s := 134) (f := sameL) (fun l => by rw [(h 134 l (by decide)).2]; simp only [KWd])]; try rfl)
def ctW4 : Ct := (65, cR3Ho) :: (8, cR7Li) :: (10, cR7Sm) :: ctW3
theorem ctW4_ok {ρ : Env} (h : Sees ρ KWd 140) : CtOk Tryz.prog ρ ctW4 := .cons (cR3Ho_ok h) <| .cons (cR7Li_ok h) <| .cons (cR7Sm_ok h) (ctW3_ok (KWd_KWc h))
end Go.Proofs.YtglepdhapakmbaaGreat
