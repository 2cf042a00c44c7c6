/- LOthers, merged: TNw, Nw, TNu, Nn, Nu, Ob, TOa, Oa. -/
import Derived.Test.YtkjjkckcjgkhmaaGreatLBo
import Derived.Test.YtkjjkckcjgkhmaaGreatLA
import Derived.Test.YtkjjkckcjgkhmaaGreatMP
set_option linter.unusedSimpArgs false
set_option linter.unusedVariables false
/- Chapter 40: trees of the reference's functions that compare sheets. -/
namespace Go.Proofs.YtkjjkckcjgkhmaaGreat
open Go.RowKit
def cEq1 := ctD [ints, ints] fun al => .ret (bV (.fn 270 al))
def cEq2 := ctD [pts, pts] fun al => .ret (bV (.fn 271 al))
def cEq6 := ctD [secs, secs] fun al => .ret (bV (.fn 272 al))
def cR7Same := ctD [feat, feat] fun al => .ret (bV (.fn 273 al))
def cSameList := ctD [feats, feats] fun al => .ret (bV (.fn 274 al))
def ctW0 : Ct := []
def ctW1 : Ct := [(174, cEq2), (175, cEq6)]
def ctW2 : Ct := [(120, cR7Same)]
def ctW3 : Ct := [(65, cSameList), (64, cEq1)]
def trEq1 : TT OpR :=
(.ite (.cmp .neq (.len (.var 0)) (.len (.var 1)))
 (.ret ((.v (.one (.z (.bool (.lit false))))), [], 0))
 (.loop 0 1000 ⟨[(0, (.lit 0))], [], []⟩
 (.ite (.cmp .lss (.var 1000) (.len (.var 0)))
 (.ob (.tru (.cmp .leq (.lit 0) (.var 1000)))
 (.ob (.tru (.cmp .lss (.var 1000) (.len (.var 0))))
 (.ob (.tru (.cmp .leq (.lit 0) (.var 1000)))
 (.ob (.tru (.cmp .lss (.var 1000) (.len (.var 1))))
 (.ite (.cmp .neq (.rd (.var 0) (.var 1000) 0) (.rd (.var 1) (.var 1000) 0))
 (.ret ((.v (.one (.z (.bool (.lit false))))), [], 1))
 (.next 0 ⟨[(0, (.ar .add .i64 (.var 1000) (.lit 1)))], [], []⟩))))))
 (.ret ((.v (.one (.z (.bool (.lit true))))), [], 1)))))
set_option maxRecDepth 100000 in
theorem trEq1_is : T.norm 0 (call Tryz.prog ctW0 (Lt.of []) 100 64 (symArgs 0 [ints, ints]) [] 0) TT.ret = trEq1 := by kernel_rfl
theorem trEq1_low : trEq1.low 1000 = true := by kernel_rfl
def trEq2 : TT OpR :=
(.ite (.cmp .neq (.len (.var 0)) (.len (.var 1)))
 (.ret ((.v (.one (.z (.bool (.lit false))))), [], 0))
 (.loop 0 1000 ⟨[(0, (.lit 0))], [], []⟩
 (.ite (.cmp .lss (.var 1000) (.len (.var 0)))
 (.ob (.tru (.cmp .leq (.lit 0) (.var 1000)))
 (.ob (.tru (.cmp .lss (.var 1000) (.len (.var 0))))
 (.ob (.tru (.cmp .leq (.lit 0) (.var 1000)))
 (.ob (.tru (.cmp .lss (.var 1000) (.len (.var 1))))
 (.ite (.not (.and (.cmp .eql (.rd (.var 0) (.var 1000) 0) (.rd (.var 1) (.var 1000) 0)) (.cmp .eql (.rd (.var 0) (.var 1000) 1) (.rd (.var 1) (.var 1000) 1))))
 (.ret ((.v (.one (.z (.bool (.lit false))))), [], 1))
 (.next 0 ⟨[(0, (.ar .add .i64 (.var 1000) (.lit 1)))], [], []⟩))))))
 (.ret ((.v (.one (.z (.bool (.lit true))))), [], 1)))))
set_option maxRecDepth 100000 in
theorem trEq2_is : T.norm 0 (call Tryz.prog ctW0 (Lt.of []) 100 174 (symArgs 0 [pts, pts]) [] 0) TT.ret = trEq2 := by kernel_rfl
theorem trEq2_low : trEq2.low 1000 = true := by kernel_rfl
def trEq6 : TT OpR :=
(.ite (.cmp .neq (.len (.var 0)) (.len (.var 1)))
 (.ret ((.v (.one (.z (.bool (.lit false))))), [], 0))
 (.loop 0 1000 ⟨[(0, (.lit 0))], [], []⟩
 (.ite (.cmp .lss (.var 1000) (.len (.var 0)))
 (.ob (.tru (.cmp .leq (.lit 0) (.var 1000)))
 (.ob (.tru (.cmp .lss (.var 1000) (.len (.var 0))))
 (.ob (.tru (.cmp .leq (.lit 0) (.var 1000)))
 (.ob (.tru (.cmp .lss (.var 1000) (.len (.var 1))))
 (.ite (.not (.and (.and (.cmp .eql (.rd (.var 0) (.var 1000) 0) (.rd (.var 1) (.var 1000) 0)) (.cmp .eql (.rd (.var 0) (.var 1000) 1) (.rd (.var 1) (.var 1000) 1))) (.and (.and (.cmp .eql (.rd (.var 0) (.var 1000) 2) (.rd (.var 1) (.var 1000) 2)) (.cmp .eql (.rd (.var 0) (.var 1000) 3) (.rd (.var 1) (.var 1000) 3))) (.and (.cmp .eql (.rd (.var 0) (.var 1000) 4) (.rd (.var 1) (.var 1000) 4)) (.cmp .eql (.rd (.var 0) (.var 1000) 5) (.rd (.var 1) (.var 1000) 5))))))
 (.ret ((.v (.one (.z (.bool (.lit false))))), [], 1))
 (.next 0 ⟨[(0, (.ar .add .i64 (.var 1000) (.lit 1)))], [], []⟩))))))
 (.ret ((.v (.one (.z (.bool (.lit true))))), [], 1)))))
set_option maxRecDepth 100000 in
theorem trEq6_is : T.norm 0 (call Tryz.prog ctW0 (Lt.of []) 100 175 (symArgs 0 [secs, secs]) [] 0) TT.ret = trEq6 := by kernel_rfl
theorem trEq6_low : trEq6.low 1000 = true := by kernel_rfl
def trR7Same : TT OpR :=
(.ite (.cmp .neq (.var 0) (.var 9))
 (.ret ((.v (.one (.z (.bool (.lit false))))), [], 2))
 (.ite (.cmp .neq (.var 1) (.var 10))
 (.ret ((.v (.one (.z (.bool (.lit false))))), [], 2))
 (.ite (.not (.and (.cmp .eql (.var 2) (.var 11)) (.cmp .eql (.var 3) (.var 12))))
 (.ret ((.v (.one (.z (.bool (.lit false))))), [], 2))
 (.ite (.cmp .neq (.var 4) (.var 13))
 (.ret ((.v (.one (.z (.bool (.lit false))))), [], 2))
 (.ite (.cmp .neq (.var 6) (.var 15))
 (.ret ((.v (.one (.z (.bool (.lit false))))), [], 2))
 (.ite (.cmp .neq (.var 7) (.var 16))
 (.ret ((.v (.one (.z (.bool (.lit false))))), [], 2))
 (.ite (.fn 271 (.x (.var 5) (.x (.var 14) .nil)))
 (.ret ((.v (.one (.z (.bool (.fn 272 (.x (.var 8) (.x (.var 17) .nil))))))), [], 2))
 (.ret ((.v (.one (.z (.bool (.lit false))))), [], 2)))))))))
set_option maxRecDepth 100000 in
theorem trR7Same_is : T.norm 0 (call Tryz.prog ctW1 (Lt.of []) 100 120 (symArgs 0 [feat, feat]) [] 0) TT.ret = trR7Same := by kernel_rfl
theorem trR7Same_low : trR7Same.low 1000 = true := by kernel_rfl
def trSameList : TT OpR :=
(.ite (.cmp .neq (.len (.var 0)) (.len (.var 1)))
 (.ret ((.v (.one (.z (.bool (.lit false))))), [], 0))
 (.loop 0 1000 ⟨[(0, (.lit 0))], [], []⟩
 (.ite (.cmp .lss (.var 1000) (.len (.var 0)))
 (.ob (.tru (.cmp .leq (.lit 0) (.var 1000)))
 (.ob (.tru (.cmp .lss (.var 1000) (.len (.var 0))))
 (.ob (.tru (.cmp .leq (.lit 0) (.var 1000)))
 (.ob (.tru (.cmp .lss (.var 1000) (.len (.var 1))))
 (.ite (.not (.fn 273 (.i (.rd (.var 0) (.var 1000) 0) (.i (.rd (.var 0) (.var 1000) 1) (.i (.rd (.var 0) (.var 1000) 2) (.i (.rd (.var 0) (.var 1000) 3) (.i (.rd (.var 0) (.var 1000) 4) (.x (.rd (.var 0) (.var 1000) 5) (.i (.rd (.var 0) (.var 1000) 6) (.i (.rd (.var 0) (.var 1000) 7) (.x (.rd (.var 0) (.var 1000) 8) (.i (.rd (.var 1) (.var 1000) 0) (.i (.rd (.var 1) (.var 1000) 1) (.i (.rd (.var 1) (.var 1000) 2) (.i (.rd (.var 1) (.var 1000) 3) (.i (.rd (.var 1) (.var 1000) 4) (.x (.rd (.var 1) (.var 1000) 5) (.i (.rd (.var 1) (.var 1000) 6) (.i (.rd (.var 1) (.var 1000) 7) (.x (.rd (.var 1) (.var 1000) 8) .nil))))))))))))))))))))
 (.ret ((.v (.one (.z (.bool (.lit false))))), [], 1))
 (.next 0 ⟨[(0, (.ar .add .i64 (.var 1000) (.lit 1)))], [], []⟩))))))
 (.ret ((.v (.one (.z (.bool (.lit true))))), [], 1)))))
set_option maxRecDepth 100000 in
theorem trSameList_is : T.norm 0 (call Tryz.prog ctW2 (Lt.of []) 100 65 (symArgs 0 [feats, feats]) [] 0) TT.ret = trSameList := by kernel_rfl
theorem trSameList_low : trSameList.low 1000 = true := by kernel_rfl
def trR14Same : TT OpR :=
(.ite (.fn 270 (.x (.var 11) (.x (.var 24) .nil)))
 (.ite (.fn 274 (.x (.var 12) (.x (.var 25) .nil)))
 (.ite (.cmp .eql (.var 0) (.var 13))
 (.ite (.cmp .eql (.var 1) (.var 14))
 (.ite (.cmp .eql (.var 2) (.var 15))
 (.ite (.and (.cmp .eql (.var 3) (.var 16)) (.and (.cmp .eql (.var 4) (.var 17)) (.and (.cmp .eql (.var 5) (.var 18)) (.and (.cmp .eql (.var 6) (.var 19)) (.and (.cmp .eql (.var 7) (.var 20)) (.and (.cmp .eql (.var 8) (.var 21)) (.cmp .eql (.var 9) (.var 22))))))))
 (.ret ((.v (.one (.z (.bool (.cmp .eql (.var 10) (.var 23)))))), [], 2))
 (.ret ((.v (.one (.z (.bool (.lit false))))), [], 2)))
 (.ret ((.v (.one (.z (.bool (.lit false))))), [], 2)))
 (.ret ((.v (.one (.z (.bool (.lit false))))), [], 2)))
 (.ret ((.v (.one (.z (.bool (.lit false))))), [], 2)))
 (.ret ((.v (.one (.z (.bool (.lit false))))), [], 2)))
 (.ret ((.v (.one (.z (.bool (.lit false))))), [], 2)))
set_option maxRecDepth 100000 in
theorem trR14Same_is : T.norm 0 (call Tryz.prog ctW3 (Lt.of []) 100 22 (symArgs 0 [shee, shee]) [] 0) TT.ret = trR14Same := by kernel_rfl
theorem trR14Same_low : trR14Same.low 1000 = true := by kernel_rfl
end Go.Proofs.YtkjjkckcjgkhmaaGreat
/- Chapter 40: the reference's functions that compare sheets. -/
namespace Go.Proofs.YtkjjkckcjgkhmaaGreat
open Go.RowKit
theorem two_len {W : World} {vals : List Value} {ds : List D} {k1 k2 : List CK} {sh : List Sh} (h : repSh W (.one (.sl k1) :: .one (.sl k2) :: sh) vals ds) : (rAt ds 0).length ≤ 281474976710656 ∧ (rAt ds 1).length ≤ 281474976710656 := by
  obtain ⟨v, vs', d, ds', rfl, rfl, ⟨d, rfl, h1⟩, v2, vs2, d2, ds2, rfl, rfl, ⟨d2, rfl, h2⟩, _⟩ := h
  exact ⟨list_rep h1, list_rep h2⟩
def eq1L (ds : List D) : Bool := eqX 1 (rAt ds 0) (rAt ds 1)
theorem gEq1 : Gives Tryz.prog 64 [ints, ints] (fun ds => .bool (eq1L ds)) := by
  refine GivesIf.all (fn_gives I0 (by kernel_rfl) (fun ρ _ => CtOk.nil) (by kernel_rfl) trEq1_is trEq1_low (by decide) (fun W vals ds hr _ => ?_))
  obtain ⟨n1, n2⟩ := two_len hr
  simp only [trEq1, TT.sat_ret, TT.sat_ite, TT.sat_ob, TT.sat_next, TT.sat_stuck, put_i, put_b, put_d, put_fi, put_fb, put_fd, Ob.ok, B.ev, E.ev, X.ev, AL.ev, cmp_t, cmp_f, arEv, V.plain, V2.plain, S.plain, S0.plain, V.val, V2.val, S.val, S0.val, bV, iV, List.all_cons, List.all_nil, Bool.and_true, Bool.and_self, envOf_i, envOf_b, envOf_d, List.map_cons, List.map_nil, true_and, Bool.not_eq_true', Bool.not_eq_false', Bool.not_not, Bool.and_eq_true, and_f, cell_lg, cell_lb, cell_lr, cmpP, val_i, val_b, val_d, aget, Nat.reduceBEq, beq_self_eq_true, Bool.false_eq_true, if_true, if_false, Nat.reduceLT, Nat.reduceSub, Nat.sub_self, Nat.lt_irrefl]
  unfold eq1L
  clear hr
  generalize e1 : rAt ds 0 = a at *
  generalize e2 : rAt ds 1 = b at *
  refine ⟨fun h => by rw [eqX, decide_eq_false (by omega)]; rfl, fun h => ?_⟩
  have hab : a.length = b.length := by omega
  have hX : eqX 1 a b = eqN 1 a b a.length 0 := by rw [eqX, decide_eq_true hab]; rfl
  rw [hX]
  refine TT.sat_loop (fun v => ∃ i : Nat, v.i 0 = i ∧ i ≤ a.length ∧ eqN 1 a b (a.length - i) i = eqN 1 a b a.length 0) (fun v => a.length - (v.i 0).toNat)
    ⟨0, by simp [val_i, aget, E.ev], by omega, rfl⟩ (fun v hv => ?_)
  obtain ⟨i, i0, i1, i2⟩ := hv
  simp only [TT.sat_ret, TT.sat_ite, TT.sat_ob, TT.sat_next, TT.sat_stuck, put_i, put_b, put_d, put_fi, put_fb, put_fd, Ob.ok, B.ev, E.ev, X.ev, AL.ev, cmp_t, cmp_f, arEv, V.plain, V2.plain, S.plain, S0.plain, V.val, V2.val, S.val, S0.val, bV, iV, List.all_cons, List.all_nil, Bool.and_true, Bool.and_self, envOf_i, envOf_b, envOf_d, List.map_cons, List.map_nil, true_and, Bool.not_eq_true', Bool.not_eq_false', Bool.not_not, Bool.and_eq_true, and_f, cell_lg, cell_lb, cell_lr, cmpP, val_i, val_b, val_d, aget, Nat.reduceBEq, beq_self_eq_true, Bool.false_eq_true, if_true, if_false, Nat.reduceLT, Nat.reduceSub, Nat.sub_self, Nat.lt_irrefl, i0, e1, e2]
  refine ⟨fun hc => ?_, fun hc => ?_⟩
  · obtain ⟨f, hf⟩ : ∃ f, a.length - i = f + 1 := ⟨a.length - i - 1, by omega⟩
    have hf' : a.length - (i + 1) = f := by omega
    rw [hf, eqN] at i2
    rw [wrap_in ((i : Int) + 1) (by omega) (by omega)]
    refine ⟨by omega, by omega, by omega, by omega, fun q => ?_, fun q => ⟨⟨i + 1, rfl, by omega, ?_⟩, by omega⟩⟩
    · rw [← i2, show eqC a b i 1 = false by rw [← Bool.not_eq_true, eqC_iff]; exact fun g => q (g 0 (by omega))]; rfl
    · rw [hf', ← i2, show eqC a b i 1 = true by
        simp only [eqC, Bool.true_and, decide_eq_true_eq]; exact Decidable.not_not.mp q]; rfl
  · have h0 : a.length - i = 0 := by omega
    rw [h0, eqN] at i2
    rw [← i2]
def eq2L (ds : List D) : Bool := eqX 2 (rAt ds 0) (rAt ds 1)
theorem gEq2 : Gives Tryz.prog 174 [pts, pts] (fun ds => .bool (eq2L ds)) := by
  refine GivesIf.all (fn_gives I0 (by kernel_rfl) (fun ρ _ => CtOk.nil) (by kernel_rfl) trEq2_is trEq2_low (by decide) (fun W vals ds hr _ => ?_))
  obtain ⟨n1, n2⟩ := two_len hr
  simp only [trEq2, TT.sat_ret, TT.sat_ite, TT.sat_ob, TT.sat_next, TT.sat_stuck, put_i, put_b, put_d, put_fi, put_fb, put_fd, Ob.ok, B.ev, E.ev, X.ev, AL.ev, cmp_t, cmp_f, arEv, V.plain, V2.plain, S.plain, S0.plain, V.val, V2.val, S.val, S0.val, bV, iV, List.all_cons, List.all_nil, Bool.and_true, Bool.and_self, envOf_i, envOf_b, envOf_d, List.map_cons, List.map_nil, true_and, Bool.not_eq_true', Bool.not_eq_false', Bool.not_not, Bool.and_eq_true, and_f, cell_lg, cell_lb, cell_lr, cmpP, val_i, val_b, val_d, aget, Nat.reduceBEq, beq_self_eq_true, Bool.false_eq_true, if_true, if_false, Nat.reduceLT, Nat.reduceSub, Nat.sub_self, Nat.lt_irrefl]
  unfold eq2L
  clear hr
  generalize e1 : rAt ds 0 = a at *
  generalize e2 : rAt ds 1 = b at *
  refine ⟨fun h => by rw [eqX, decide_eq_false (by omega)]; rfl, fun h => ?_⟩
  have hab : a.length = b.length := by omega
  have hX : eqX 2 a b = eqN 2 a b a.length 0 := by rw [eqX, decide_eq_true hab]; rfl
  rw [hX]
  refine TT.sat_loop (fun v => ∃ i : Nat, v.i 0 = i ∧ i ≤ a.length ∧ eqN 2 a b (a.length - i) i = eqN 2 a b a.length 0) (fun v => a.length - (v.i 0).toNat)
    ⟨0, by simp [val_i, aget, E.ev], by omega, rfl⟩ (fun v hv => ?_)
  obtain ⟨i, i0, i1, i2⟩ := hv
  simp only [TT.sat_ret, TT.sat_ite, TT.sat_ob, TT.sat_next, TT.sat_stuck, put_i, put_b, put_d, put_fi, put_fb, put_fd, Ob.ok, B.ev, E.ev, X.ev, AL.ev, cmp_t, cmp_f, arEv, V.plain, V2.plain, S.plain, S0.plain, V.val, V2.val, S.val, S0.val, bV, iV, List.all_cons, List.all_nil, Bool.and_true, Bool.and_self, envOf_i, envOf_b, envOf_d, List.map_cons, List.map_nil, true_and, Bool.not_eq_true', Bool.not_eq_false', Bool.not_not, Bool.and_eq_true, and_f, cell_lg, cell_lb, cell_lr, cmpP, val_i, val_b, val_d, aget, Nat.reduceBEq, beq_self_eq_true, Bool.false_eq_true, if_true, if_false, Nat.reduceLT, Nat.reduceSub, Nat.sub_self, Nat.lt_irrefl, i0, e1, e2]
  refine ⟨fun hc => ?_, fun hc => ?_⟩
  · obtain ⟨f, hf⟩ : ∃ f, a.length - i = f + 1 := ⟨a.length - i - 1, by omega⟩
    have hf' : a.length - (i + 1) = f := by omega
    rw [hf, eqN] at i2
    rw [wrap_in ((i : Int) + 1) (by omega) (by omega)]
    refine ⟨by omega, by omega, by omega, by omega, fun q => ?_, fun q => ⟨⟨i + 1, rfl, by omega, ?_⟩, by omega⟩⟩
    · rw [← i2, show eqC a b i 2 = false by rw [← Bool.not_eq_true, eqC_iff]; exact fun g => q ⟨g 0 (by omega), g 1 (by omega)⟩]; rfl
    · rw [hf', ← i2, show eqC a b i 2 = true by
        simp only [eqC, decide_eq_true_eq, Bool.and_eq_true, Bool.true_and]; exact q]; rfl
  · have h0 : a.length - i = 0 := by omega
    rw [h0, eqN] at i2
    rw [← i2]
def eq6L (ds : List D) : Bool := eqX 6 (rAt ds 0) (rAt ds 1)
theorem gEq6 : Gives Tryz.prog 175 [secs, secs] (fun ds => .bool (eq6L ds)) := by
  refine GivesIf.all (fn_gives I0 (by kernel_rfl) (fun ρ _ => CtOk.nil) (by kernel_rfl) trEq6_is trEq6_low (by decide) (fun W vals ds hr _ => ?_))
  obtain ⟨n1, n2⟩ := two_len hr
  simp only [trEq6, TT.sat_ret, TT.sat_ite, TT.sat_ob, TT.sat_next, TT.sat_stuck, put_i, put_b, put_d, put_fi, put_fb, put_fd, Ob.ok, B.ev, E.ev, X.ev, AL.ev, cmp_t, cmp_f, arEv, V.plain, V2.plain, S.plain, S0.plain, V.val, V2.val, S.val, S0.val, bV, iV, List.all_cons, List.all_nil, Bool.and_true, Bool.and_self, envOf_i, envOf_b, envOf_d, List.map_cons, List.map_nil, true_and, Bool.not_eq_true', Bool.not_eq_false', Bool.not_not, Bool.and_eq_true, and_f, cell_lg, cell_lb, cell_lr, cmpP, val_i, val_b, val_d, aget, Nat.reduceBEq, beq_self_eq_true, Bool.false_eq_true, if_true, if_false, Nat.reduceLT, Nat.reduceSub, Nat.sub_self, Nat.lt_irrefl]
  unfold eq6L
  clear hr
  generalize e1 : rAt ds 0 = a at *
  generalize e2 : rAt ds 1 = b at *
  refine ⟨fun h => by rw [eqX, decide_eq_false (by omega)]; rfl, fun h => ?_⟩
  have hab : a.length = b.length := by omega
  have hX : eqX 6 a b = eqN 6 a b a.length 0 := by rw [eqX, decide_eq_true hab]; rfl
  rw [hX]
  refine TT.sat_loop (fun v => ∃ i : Nat, v.i 0 = i ∧ i ≤ a.length ∧ eqN 6 a b (a.length - i) i = eqN 6 a b a.length 0) (fun v => a.length - (v.i 0).toNat)
    ⟨0, by simp [val_i, aget, E.ev], by omega, rfl⟩ (fun v hv => ?_)
  obtain ⟨i, i0, i1, i2⟩ := hv
  simp only [TT.sat_ret, TT.sat_ite, TT.sat_ob, TT.sat_next, TT.sat_stuck, put_i, put_b, put_d, put_fi, put_fb, put_fd, Ob.ok, B.ev, E.ev, X.ev, AL.ev, cmp_t, cmp_f, arEv, V.plain, V2.plain, S.plain, S0.plain, V.val, V2.val, S.val, S0.val, bV, iV, List.all_cons, List.all_nil, Bool.and_true, Bool.and_self, envOf_i, envOf_b, envOf_d, List.map_cons, List.map_nil, true_and, Bool.not_eq_true', Bool.not_eq_false', Bool.not_not, Bool.and_eq_true, and_f, cell_lg, cell_lb, cell_lr, cmpP, val_i, val_b, val_d, aget, Nat.reduceBEq, beq_self_eq_true, Bool.false_eq_true, if_true, if_false, Nat.reduceLT, Nat.reduceSub, Nat.sub_self, Nat.lt_irrefl, i0, e1, e2]
  refine ⟨fun hc => ?_, fun hc => ?_⟩
  · obtain ⟨f, hf⟩ : ∃ f, a.length - i = f + 1 := ⟨a.length - i - 1, by omega⟩
    have hf' : a.length - (i + 1) = f := by omega
    rw [hf, eqN] at i2
    rw [wrap_in ((i : Int) + 1) (by omega) (by omega)]
    refine ⟨by omega, by omega, by omega, by omega, fun q => ?_, fun q => ⟨⟨i + 1, rfl, by omega, ?_⟩, by omega⟩⟩
    · rw [← i2, show eqC a b i 6 = false by rw [← Bool.not_eq_true, eqC_iff]; exact fun g => q ⟨⟨g 0 (by omega), g 1 (by omega)⟩, ⟨g 2 (by omega), g 3 (by omega)⟩, g 4 (by omega), g 5 (by omega)⟩]; rfl
    · rw [hf', ← i2, show eqC a b i 6 = true by
        simp only [eqC, decide_eq_true_eq, Bool.and_eq_true, Bool.true_and]; omega]; rfl
  · have h0 : a.length - i = 0 := by omega
    rw [h0, eqN] at i2
    rw [← i2]
def N13 : Interp where
  fi n l := N11.fi n l
  fb n l := match n with | 270 => eq1L l | 271 => eq2L l | 272 => eq6L l | n => N11.fb n l
  fd n l := N11.fd n l
theorem N13_N11d {ρ : Env} (h : SeesD ρ N13 8) : SeesD ρ N11 8 := fun n l hn => by
  rw [h n l (by omega)]
  rfl
theorem N13_N11 {ρ : Env} (h : Sees ρ N13 280) : Sees ρ N11 260 := h.trans (by decide) fun n l hn => by
  refine ⟨?_, ?_⟩
  ·
    rfl
  ·
    simp only [N13]
    split <;> first | omega | rfl
theorem cEq1_ok {ρ : Env} (h : ∀ l, ρ.fb 270 l = eq1L l) : CtOne Tryz.prog ρ 64 cEq1 := ctD_ok gEq1 (fun _ => rfl) (fun al => by simp only [bV, V.s0, V.val, V2.val, S.val, S0.val, B.ev, h])
theorem cEq2_ok {ρ : Env} (h : ∀ l, ρ.fb 271 l = eq2L l) : CtOne Tryz.prog ρ 174 cEq2 := ctD_ok gEq2 (fun _ => rfl) (fun al => by simp only [bV, V.s0, V.val, V2.val, S.val, S0.val, B.ev, h])
theorem cEq6_ok {ρ : Env} (h : ∀ l, ρ.fb 272 l = eq6L l) : CtOne Tryz.prog ρ 175 cEq6 := ctD_ok gEq6 (fun _ => rfl) (fun al => by simp only [bV, V.s0, V.val, V2.val, S.val, S0.val, B.ev, h])
theorem N13b270 (W : World) (ds l : List D) : (envOf N13 W ds).fb 270 l = eq1L l := by simp only [envOf, N13, N11, N10, N9c, N9b, N9, N8, N7, N6, N5, N4, N3, N2, N1, KG, KF, KE, KD, KC, KB, KA, K9, K8, K7, K6, K5, K]
theorem N13b271 (W : World) (ds l : List D) : (envOf N13 W ds).fb 271 l = eq2L l := by simp only [envOf, N13, N11, N10, N9c, N9b, N9, N8, N7, N6, N5, N4, N3, N2, N1, KG, KF, KE, KD, KC, KB, KA, K9, K8, K7, K6, K5, K]
theorem N13b272 (W : World) (ds l : List D) : (envOf N13 W ds).fb 272 l = eq6L l := by simp only [envOf, N13, N11, N10, N9c, N9b, N9, N8, N7, N6, N5, N4, N3, N2, N1, KG, KF, KE, KD, KC, KB, KA, K9, K8, K7, K6, K5, K]
theorem eq2_2 (a b : Rows) : eq2L [.l a, .l b] = eqX 2 a b := rfl
theorem eq6_2 (a b : Rows) : eq6L [.l a, .l b] = eqX 6 a b := rfl
theorem eq1_2 (a b : Rows) : eq1L [.l a, .l b] = eqX 1 a b := rfl
theorem seesB {ρ : Env} {I : Interp} (h : ρ.has I) {n : Nat} {f : List D → Bool} (hf : ∀ l, I.fb n l = f l) : ∀ l, ρ.fb n l = f l := fun l => by rw [h.2.1]; exact hf l
theorem gR7Same : Gives Tryz.prog 120 [feat, feat] (fun ds => .bool (sameL ds)) := by
  refine GivesIf.all (fn_gives N13 (by kernel_rfl) (fun ρ h => .cons (cEq2_ok (seesB h (fun l => by simp only [N13]))) <| .cons (cEq6_ok (seesB h (fun l => by simp only [N13]))) .nil) (by kernel_rfl) trR7Same_is trR7Same_low (by decide) (fun W vals ds hr _ => ?_))
  simp only [trR7Same, TT.sat_ret, TT.sat_ite, TT.sat_ob, TT.sat_next, TT.sat_stuck, put_i, put_b, put_d, put_fi, put_fb, put_fd, Ob.ok, B.ev, E.ev, X.ev, AL.ev, cmp_t, cmp_f, arEv, V.plain, V2.plain, S.plain, S0.plain, V.val, V2.val, S.val, S0.val, bV, iV, List.all_cons, List.all_nil, Bool.and_true, Bool.and_self, envOf_i, envOf_b, envOf_d, List.map_cons, List.map_nil, true_and, Bool.not_eq_true', Bool.not_eq_false', Bool.not_not, Bool.and_eq_true, and_f, cell_lg, cell_lb, cell_lr, cmpP, val_i, val_b, val_d, aget, Nat.reduceBEq, beq_self_eq_true, Bool.false_eq_true, if_true, if_false, Nat.reduceLT, Nat.reduceSub, Nat.sub_self, Nat.lt_irrefl, N13b271, N13b272, eq2_2, eq6_2]
  have N : ¬ ((iAt ds 0 = iAt ds 9 ∧ iAt ds 1 = iAt ds 10 ∧ iAt ds 2 = iAt ds 11 ∧ iAt ds 3 = iAt ds 12) ∧ iAt ds 4 = iAt ds 13 ∧ iAt ds 6 = iAt ds 15 ∧ iAt ds 7 = iAt ds 16) → Value.bool false = Value.bool (sameL ds) := fun h => by rw [sameL, sameB, decide_eq_false h, Bool.false_and]
  refine ⟨fun h => N (by omega), fun h0 => ⟨fun h => N (by omega), fun h1 => ⟨fun h => N (by omega), fun h2 => ⟨fun h => N (by omega), fun h3 => ⟨fun h => N (by omega), fun h4 => ⟨fun h => N (by omega), fun h5 => ?_⟩⟩⟩⟩⟩⟩
  have hS : sameL ds = (eqX 2 (rAt ds 5) (rAt ds 14) && eqX 6 (rAt ds 8) (rAt ds 17)) := by
    rw [sameL, sameB, decide_eq_true (by omega), Bool.true_and]
  rw [hS]
  exact ⟨fun h => by rw [h, Bool.true_and], fun h => by rw [h, Bool.false_and]⟩
/-! Lists of features, sheets -/
def sfRow (r s : Rows) (i : Nat) : Bool := sameB (lg r i 0) (lg r i 1) (lg r i 2) (lg r i 3) (lg r i 4) (lr r i 5) (lg r i 6) (lg r i 7) (lr r i 8) (lg s i 0) (lg s i 1) (lg s i 2) (lg s i 3) (lg s i 4) (lr s i 5) (lg s i 6) (lg s i 7) (lr s i 8)
def sfN (r s : Rows) : Nat → Nat → Bool
  | 0, _ => true
  | f + 1, i => sfRow r s i && sfN r s f (i + 1)
def sfX (r s : Rows) : Bool := decide (r.length = s.length) && sfN r s r.length 0
def sfL (ds : List D) : Bool := sfX (rAt ds 0) (rAt ds 1)
theorem cR7Same_ok {ρ : Env} (h : ∀ l, ρ.fb 273 l = sameL l) : CtOne Tryz.prog ρ 120 cR7Same := ctD_ok gR7Same (fun _ => rfl) (fun al => by simp only [bV, V.s0, V.val, V2.val, S.val, S0.val, B.ev, h])
def N14 : Interp where
  fi n l := N13.fi n l
  fb n l := match n with | 280 => sfL l | n => N13.fb n l
  fd n l := N13.fd n l
theorem N14_N13d {ρ : Env} (h : SeesD ρ N14 8) : SeesD ρ N13 8 := fun n l hn => by
  rw [h n l (by omega)]
  rfl
theorem N14_N13 {ρ : Env} (h : Sees ρ N14 281) : Sees ρ N13 280 := h.trans (by decide) fun n l hn => by
  refine ⟨?_, ?_⟩
  ·
    rfl
  ·
    simp only [N14]
    split <;> first | omega | rfl
def N14i : Interp := { N14 with fb := fun n l => match n with | 273 => sameL l | n => N14.fb n l }
theorem gSameList : Gives Tryz.prog 65 [feats, feats] (fun ds => .bool (sfL ds)) := by
  refine GivesIf.all (fn_gives N14i (by kernel_rfl) (fun ρ h => .cons (cR7Same_ok (seesB h (fun l => rfl))) .nil) (by kernel_rfl) trSameList_is trSameList_low (by decide) (fun W vals ds hr _ => ?_))
  obtain ⟨n1, n2⟩ := two_len hr
  have e273 : ∀ l, (envOf N14i W ds).fb 273 l = sameL l := fun _ => rfl
  simp only [trSameList, TT.sat_ret, TT.sat_ite, TT.sat_ob, TT.sat_next, TT.sat_stuck, put_i, put_b, put_d, put_fi, put_fb, put_fd, Ob.ok, B.ev, E.ev, X.ev, AL.ev, cmp_t, cmp_f, arEv, V.plain, V2.plain, S.plain, S0.plain, V.val, V2.val, S.val, S0.val, bV, iV, List.all_cons, List.all_nil, Bool.and_true, Bool.and_self, envOf_i, envOf_b, envOf_d, List.map_cons, List.map_nil, true_and, Bool.not_eq_true', Bool.not_eq_false', Bool.not_not, Bool.and_eq_true, and_f, cell_lg, cell_lb, cell_lr, cmpP, val_i, val_b, val_d, aget, Nat.reduceBEq, beq_self_eq_true, Bool.false_eq_true, if_true, if_false, Nat.reduceLT, Nat.reduceSub, Nat.sub_self, Nat.lt_irrefl]
  unfold sfL
  clear hr
  generalize e1 : rAt ds 0 = a at *
  generalize e2 : rAt ds 1 = b at *
  refine ⟨fun h => by rw [sfX, decide_eq_false (by omega)]; rfl, fun h => ?_⟩
  have hab : a.length = b.length := by omega
  have hX : sfX a b = sfN a b a.length 0 := by rw [sfX, decide_eq_true hab]; rfl
  rw [hX]
  refine TT.sat_loop (fun v => ∃ i : Nat, v.i 0 = i ∧ i ≤ a.length ∧ sfN a b (a.length - i) i = sfN a b a.length 0) (fun v => a.length - (v.i 0).toNat)
    ⟨0, by simp [val_i, aget, E.ev], by omega, rfl⟩ (fun v hv => ?_)
  obtain ⟨i, i0, i1, i2⟩ := hv
  have eR : sameL [.i (lg a i 0), .i (lg a i 1), .i (lg a i 2), .i (lg a i 3), .i (lg a i 4), .l (lr a i 5), .i (lg a i 6), .i (lg a i 7), .l (lr a i 8), .i (lg b i 0), .i (lg b i 1), .i (lg b i 2), .i (lg b i 3), .i (lg b i 4), .l (lr b i 5), .i (lg b i 6), .i (lg b i 7), .l (lr b i 8)] = sfRow a b i := rfl
  simp only [TT.sat_ret, TT.sat_ite, TT.sat_ob, TT.sat_next, TT.sat_stuck, put_i, put_b, put_d, put_fi, put_fb, put_fd, Ob.ok, B.ev, E.ev, X.ev, AL.ev, cmp_t, cmp_f, arEv, V.plain, V2.plain, S.plain, S0.plain, V.val, V2.val, S.val, S0.val, bV, iV, List.all_cons, List.all_nil, Bool.and_true, Bool.and_self, envOf_i, envOf_b, envOf_d, List.map_cons, List.map_nil, true_and, Bool.not_eq_true', Bool.not_eq_false', Bool.not_not, Bool.and_eq_true, and_f, cell_lg, cell_lb, cell_lr, cmpP, val_i, val_b, val_d, aget, Nat.reduceBEq, beq_self_eq_true, Bool.false_eq_true, if_true, if_false, Nat.reduceLT, Nat.reduceSub, Nat.sub_self, Nat.lt_irrefl, i0, e1, e2, e273, eR]
  refine ⟨fun hc => ?_, fun hc => ?_⟩
  · obtain ⟨f, hf⟩ : ∃ f, a.length - i = f + 1 := ⟨a.length - i - 1, by omega⟩
    have hf' : a.length - (i + 1) = f := by omega
    rw [hf, sfN] at i2
    rw [wrap_in ((i : Int) + 1) (by omega) (by omega)]
    refine ⟨by omega, by omega, by omega, by omega, fun q => ?_, fun q => ⟨⟨i + 1, rfl, by omega, ?_⟩, by omega⟩⟩
    · rw [← i2, q]; rfl
    · rw [hf', ← i2, q]; rfl
  · have h0 : a.length - i = 0 := by omega
    rw [h0, sfN] at i2
    rw [← i2]
def shQ (ds : List D) : Bool := decide ((iAt ds 0 = iAt ds 13 ∧ iAt ds 1 = iAt ds 14 ∧ iAt ds 2 = iAt ds 15) ∧ (iAt ds 3 = iAt ds 16 ∧ iAt ds 4 = iAt ds 17 ∧ iAt ds 5 = iAt ds 18 ∧ iAt ds 6 = iAt ds 19 ∧ iAt ds 7 = iAt ds 20 ∧ iAt ds 8 = iAt ds 21 ∧ iAt ds 9 = iAt ds 22) ∧ iAt ds 10 = iAt ds 23)
def shSame (ds : List D) : Bool := eqX 1 (rAt ds 11) (rAt ds 24) && (sfX (rAt ds 12) (rAt ds 25) && shQ ds)
theorem cSameList_ok {ρ : Env} (h : ∀ l, ρ.fb 274 l = sfL l) : CtOne Tryz.prog ρ 65 cSameList := ctD_ok gSameList (fun _ => rfl) (fun al => by simp only [bV, V.s0, V.val, V2.val, S.val, S0.val, B.ev, h])
def N14j : Interp := { N14 with fb := fun n l => match n with | 270 => eq1L l | 274 => sfL l | n => N14.fb n l }
theorem gR14Same : Gives Tryz.prog 22 [shee, shee] (fun ds => .bool (shSame ds)) := by
  refine GivesIf.all (fn_gives N14j (by kernel_rfl) (fun ρ h => .cons (cSameList_ok (seesB h (fun l => rfl))) <| .cons (cEq1_ok (seesB h (fun l => rfl))) .nil) (by kernel_rfl) trR14Same_is trR14Same_low (by decide) (fun W vals ds hr _ => ?_))
  have e270 : ∀ l, (envOf N14j W ds).fb 270 l = eq1L l := fun _ => rfl
  have e274 : ∀ l, (envOf N14j W ds).fb 274 l = sfL l := fun _ => rfl
  have e1 : eq1L [.l (rAt ds 11), .l (rAt ds 24)] = eqX 1 (rAt ds 11) (rAt ds 24) := rfl
  have e2 : sfL [.l (rAt ds 12), .l (rAt ds 25)] = sfX (rAt ds 12) (rAt ds 25) := rfl
  simp only [trR14Same, TT.sat_ret, TT.sat_ite, TT.sat_ob, TT.sat_next, TT.sat_stuck, put_i, put_b, put_d, put_fi, put_fb, put_fd, Ob.ok, B.ev, E.ev, X.ev, AL.ev, cmp_t, cmp_f, arEv, V.plain, V2.plain, S.plain, S0.plain, V.val, V2.val, S.val, S0.val, bV, iV, List.all_cons, List.all_nil, Bool.and_true, Bool.and_self, envOf_i, envOf_b, envOf_d, List.map_cons, List.map_nil, true_and, Bool.not_eq_true', Bool.not_eq_false', Bool.not_not, Bool.and_eq_true, and_f, cell_lg, cell_lb, cell_lr, cmpP, val_i, val_b, val_d, aget, Nat.reduceBEq, beq_self_eq_true, Bool.false_eq_true, if_true, if_false, Nat.reduceLT, Nat.reduceSub, Nat.sub_self, Nat.lt_irrefl, e270, e274, e1, e2]
  have hS : shSame ds = (eqX 1 (rAt ds 11) (rAt ds 24) && (sfX (rAt ds 12) (rAt ds 25) && shQ ds)) := rfl
  rw [hS]
  refine ⟨fun h1 => ⟨fun h2 => ?_, fun h2 => by rw [h1, h2]; rfl⟩, fun h1 => by rw [h1]; rfl⟩
  rw [h1, h2]
  have N : ¬ ((iAt ds 0 = iAt ds 13 ∧ iAt ds 1 = iAt ds 14 ∧ iAt ds 2 = iAt ds 15) ∧ (iAt ds 3 = iAt ds 16 ∧ iAt ds 4 = iAt ds 17 ∧ iAt ds 5 = iAt ds 18 ∧ iAt ds 6 = iAt ds 19 ∧ iAt ds 7 = iAt ds 20 ∧ iAt ds 8 = iAt ds 21 ∧ iAt ds 9 = iAt ds 22) ∧ iAt ds 10 = iAt ds 23) → Value.bool false = Value.bool (true && (true && shQ ds)) := fun h => by unfold shQ; rw [decide_eq_false h]; rfl
  refine ⟨fun q0 => ⟨fun q1 => ⟨fun q2 => ⟨fun q3 => ?_, fun q => N (by omega)⟩, fun q => N (by omega)⟩, fun q => N (by omega)⟩, fun q => N (by omega)⟩
  refine congrArg Value.bool ?_
  unfold shQ
  rw [Bool.true_and, Bool.true_and, Bool.eq_iff_iff]
  simp only [cmp_t, cmpP, decide_eq_true_eq]
  omega
end Go.Proofs.YtkjjkckcjgkhmaaGreat
/- Chapter 40: the tree of the law CheckCertified. -/
namespace Go.Proofs.YtkjjkckcjgkhmaaGreat
open Go.RowKit
def trLawCert : TT OpR :=
(.ite (.cmp .gtr (.len (.var 0)) (.lit 4))
 (.ret ((.v (.one (.z (.bool (.lit true))))), [], 2))
 (.ite (.cmp .gtr (.len (.var 4)) (.lit 6))
 (.ret ((.v (.one (.z (.bool (.lit true))))), [], 2))
 (.loop 0 3000 ⟨[(0, (.lit 0))], [], []⟩
 (.ite (.cmp .lss (.var 3000) (.len (.var 0)))
 (.ob (.tru (.cmp .leq (.lit 0) (.var 3000)))
 (.ob (.tru (.cmp .lss (.var 3000) (.len (.var 0))))
 (.ite (.cmp .gtr (.len (.rd (.var 0) (.var 3000) 12)) (.lit 12))
 (.ret ((.v (.one (.z (.bool (.lit true))))), [], 3))
 (.next 0 ⟨[(0, (.ar .add .i64 (.var 3000) (.lit 1)))], [], []⟩))))
 (.ite (.cmp .neq (.fn 242 (.x (.var 0) (.i (.var 1) (.i (.var 2) (.i (.var 3) (.x (.var 4) (.i (.var 5) (.i (.var 6) (.x (.var 7) (.i (.var 8) (.i (.var 9) (.x (.var 10) .nil)))))))))))) (.lit 0))
 (.ite (.cmp .eql (.len (.fn 4 (.x (.var 0) (.i (.var 1) (.i (.var 2) (.i (.var 3) (.x (.var 4) (.i (.var 5) (.i (.var 6) (.x (.var 7) (.i (.var 8) (.i (.var 9) (.x (.var 10) .nil))))))))))))) (.lit 0))
 (.ite (.cmp .eql (.len (.fn 5 (.x (.var 0) (.i (.var 1) (.i (.var 2) (.i (.var 3) (.x (.var 4) (.i (.var 5) (.i (.var 6) (.x (.var 7) (.i (.var 8) (.i (.var 9) (.x (.var 10) .nil))))))))))))) (.lit 0))
 (.ite (.cmp .eql (.fn 242 (.x (.var 0) (.i (.var 1) (.i (.var 2) (.i (.var 3) (.x (.var 4) (.i (.var 5) (.i (.var 6) (.x (.var 7) (.i (.var 8) (.i (.var 9) (.x (.var 10) .nil)))))))))))) (.lit 20))
 (.ret ((.v (.one (.z (.bool (.cmp .geq (.fn 240 (.x (.var 0) (.i (.var 1) (.i (.var 2) (.i (.var 3) (.x (.var 4) (.i (.var 5) (.i (.var 6) (.x (.var 7) (.i (.var 8) (.i (.var 9) (.x (.var 10) .nil)))))))))))) (.lit 0)))))), [], 6))
 (.ite (.cmp .eql (.fn 241 (.x (.var 0) (.i (.var 1) (.i (.var 2) (.i (.var 3) (.x (.var 4) (.i (.var 5) (.i (.var 6) (.x (.var 7) (.i (.var 8) (.i (.var 9) (.x (.var 10) .nil)))))))))))) (.lit 0))
 (.ret ((.v (.one (.z (.bool (.cmp .geq (.fn 240 (.x (.var 0) (.i (.var 1) (.i (.var 2) (.i (.var 3) (.x (.var 4) (.i (.var 5) (.i (.var 6) (.x (.var 7) (.i (.var 8) (.i (.var 9) (.x (.var 10) .nil)))))))))))) (.lit 0)))))), [], 6))
 (.ret ((.v (.one (.z (.bool (.lit false))))), [], 6))))
 (.ret ((.v (.one (.z (.bool (.lit false))))), [], 6)))
 (.ret ((.v (.one (.z (.bool (.lit false))))), [], 6)))
 (.ite (.cmp .eql (.fn 240 (.x (.var 0) (.i (.var 1) (.i (.var 2) (.i (.var 3) (.x (.var 4) (.i (.var 5) (.i (.var 6) (.x (.var 7) (.i (.var 8) (.i (.var 9) (.x (.var 10) .nil)))))))))))) (.lit (-1)))
 (.ite (.cmp .eql (.fn 241 (.x (.var 0) (.i (.var 1) (.i (.var 2) (.i (.var 3) (.x (.var 4) (.i (.var 5) (.i (.var 6) (.x (.var 7) (.i (.var 8) (.i (.var 9) (.x (.var 10) .nil)))))))))))) (.lit 0))
 (.ite (.cmp .eql (.fn 244 (.x (.var 0) (.i (.var 1) (.i (.var 2) (.i (.var 3) (.x (.var 4) (.i (.var 5) (.i (.var 6) (.x (.var 7) (.i (.var 8) (.i (.var 9) (.x (.var 10) (.x (.fn 4 (.x (.var 0) (.i (.var 1) (.i (.var 2) (.i (.var 3) (.x (.var 4) (.i (.var 5) (.i (.var 6) (.x (.var 7) (.i (.var 8) (.i (.var 9) (.x (.var 10) .nil)))))))))))) (.x (.fn 5 (.x (.var 0) (.i (.var 1) (.i (.var 2) (.i (.var 3) (.x (.var 4) (.i (.var 5) (.i (.var 6) (.x (.var 7) (.i (.var 8) (.i (.var 9) (.x (.var 10) .nil)))))))))))) .nil)))))))))))))) (.lit 0))
 (.ite (.fn 243 (.x (.var 0) (.i (.var 1) (.i (.var 2) (.i (.var 3) (.x (.var 4) (.i (.var 5) (.i (.var 6) (.x (.var 7) (.i (.var 8) (.i (.var 9) (.x (.var 10) (.x (.fn 4 (.x (.var 0) (.i (.var 1) (.i (.var 2) (.i (.var 3) (.x (.var 4) (.i (.var 5) (.i (.var 6) (.x (.var 7) (.i (.var 8) (.i (.var 9) (.x (.var 10) .nil)))))))))))) (.x (.fn 5 (.x (.var 0) (.i (.var 1) (.i (.var 2) (.i (.var 3) (.x (.var 4) (.i (.var 5) (.i (.var 6) (.x (.var 7) (.i (.var 8) (.i (.var 9) (.x (.var 10) .nil)))))))))))) .nil))))))))))))))
 (.ite (.cmp .neq (.fn 211 (.x (.var 0) (.i (.var 1) (.i (.var 2) (.i (.var 3) (.x (.var 4) (.i (.var 11) (.i (.var 5) (.i (.var 6) (.x (.var 7) (.i (.var 8) (.i (.var 9) (.x (.var 10) (.x .nil .nil)))))))))))))) (.lit 0))
 (.ite (.cmp .eql (.len (.fn 4 (.x (.var 0) (.i (.var 1) (.i (.var 2) (.i (.var 3) (.x (.var 4) (.i (.var 5) (.i (.var 6) (.x (.var 7) (.i (.var 8) (.i (.var 9) (.x (.var 10) .nil))))))))))))) (.len (.var 4)))
 (.ite (.cmp .eql (.fn 211 (.x (.var 0) (.i (.var 1) (.i (.var 2) (.i (.var 3) (.x (.var 4) (.i (.var 11) (.i (.var 5) (.i (.var 6) (.x (.var 7) (.i (.var 8) (.i (.var 9) (.x (.var 10) (.x .nil .nil)))))))))))))) (.lit 0))
 (.ret ((.v (.one (.z (.bool (.lit true))))), [], 6))
 (.ite (.cmp .lss (.var 11) (.lit 0))
 (.ret ((.v (.one (.z (.bool (.lit true))))), [], 6))
 (.ret ((.v (.one (.z (.bool (.cmp .gtr (.var 11) (.len (.var 4))))))), [], 6))))
 (.ret ((.v (.one (.z (.bool (.lit false))))), [], 6)))
 (.ite (.cmp .lss (.fn 210 (.x (.var 0) (.i (.var 1) (.i (.var 2) (.i (.var 3) (.x (.var 4) (.i (.var 11) (.i (.var 5) (.i (.var 6) (.x (.var 7) (.i (.var 8) (.i (.var 9) (.x (.var 10) (.x .nil .nil)))))))))))))) (.lit 0))
 (.ite (.cmp .eql (.len (.fn 4 (.x (.var 0) (.i (.var 1) (.i (.var 2) (.i (.var 3) (.x (.var 4) (.i (.var 5) (.i (.var 6) (.x (.var 7) (.i (.var 8) (.i (.var 9) (.x (.var 10) .nil))))))))))))) (.len (.var 4)))
 (.ite (.cmp .eql (.fn 211 (.x (.var 0) (.i (.var 1) (.i (.var 2) (.i (.var 3) (.x (.var 4) (.i (.var 11) (.i (.var 5) (.i (.var 6) (.x (.var 7) (.i (.var 8) (.i (.var 9) (.x (.var 10) (.x .nil .nil)))))))))))))) (.lit 0))
 (.ret ((.v (.one (.z (.bool (.lit true))))), [], 6))
 (.ite (.cmp .lss (.var 11) (.lit 0))
 (.ret ((.v (.one (.z (.bool (.lit true))))), [], 6))
 (.ret ((.v (.one (.z (.bool (.cmp .gtr (.var 11) (.len (.var 4))))))), [], 6))))
 (.ret ((.v (.one (.z (.bool (.lit false))))), [], 6)))
 (.ite (.cmp .eql (.len (.fn 4 (.x (.var 0) (.i (.var 1) (.i (.var 2) (.i (.var 3) (.x (.var 4) (.i (.var 5) (.i (.var 6) (.x (.var 7) (.i (.var 8) (.i (.var 9) (.x (.var 10) .nil))))))))))))) (.len (.var 4)))
 (.ite (.cmp .geq (.fn 210 (.x (.var 0) (.i (.var 1) (.i (.var 2) (.i (.var 3) (.x (.var 4) (.i (.var 11) (.i (.var 5) (.i (.var 6) (.x (.var 7) (.i (.var 8) (.i (.var 9) (.x (.var 10) (.x .nil .nil)))))))))))))) (.var 11))
 (.ret ((.v (.one (.z (.bool (.cmp .neq (.fn 58 (.i (.var 1) (.i (.var 2) (.i (.var 3) (.x (.var 4) (.i (.fn 210 (.x (.var 0) (.i (.var 1) (.i (.var 2) (.i (.var 3) (.x (.var 4) (.i (.var 11) (.i (.var 5) (.i (.var 6) (.x (.var 7) (.i (.var 8) (.i (.var 9) (.x (.var 10) (.x .nil .nil)))))))))))))) .nil)))))) (.lit 0)))))), [], 7))
 (.ret ((.v (.one (.z (.bool (.lit false))))), [], 7)))
 (.ret ((.v (.one (.z (.bool (.lit false))))), [], 7)))))
 (.ite (.cmp .neq (.fn 211 (.x (.var 0) (.i (.var 1) (.i (.var 2) (.i (.var 3) (.x (.var 4) (.i (.var 11) (.i (.var 5) (.i (.var 6) (.x (.var 7) (.i (.var 8) (.i (.var 9) (.x (.var 10) (.x .nil .nil)))))))))))))) (.lit 0))
 (.ret ((.v (.one (.z (.bool (.lit false))))), [], 6))
 (.ite (.cmp .lss (.fn 210 (.x (.var 0) (.i (.var 1) (.i (.var 2) (.i (.var 3) (.x (.var 4) (.i (.var 11) (.i (.var 5) (.i (.var 6) (.x (.var 7) (.i (.var 8) (.i (.var 9) (.x (.var 10) (.x .nil .nil)))))))))))))) (.lit 0))
 (.ret ((.v (.one (.z (.bool (.lit false))))), [], 6))
 (.ret ((.v (.one (.z (.bool (.lit false))))), [], 7)))))
 (.ite (.cmp .neq (.fn 211 (.x (.var 0) (.i (.var 1) (.i (.var 2) (.i (.var 3) (.x (.var 4) (.i (.var 11) (.i (.var 5) (.i (.var 6) (.x (.var 7) (.i (.var 8) (.i (.var 9) (.x (.var 10) (.x .nil .nil)))))))))))))) (.lit 0))
 (.ret ((.v (.one (.z (.bool (.lit false))))), [], 6))
 (.ite (.cmp .lss (.fn 210 (.x (.var 0) (.i (.var 1) (.i (.var 2) (.i (.var 3) (.x (.var 4) (.i (.var 11) (.i (.var 5) (.i (.var 6) (.x (.var 7) (.i (.var 8) (.i (.var 9) (.x (.var 10) (.x .nil .nil)))))))))))))) (.lit 0))
 (.ret ((.v (.one (.z (.bool (.lit false))))), [], 6))
 (.ret ((.v (.one (.z (.bool (.lit false))))), [], 7)))))
 (.ite (.cmp .neq (.fn 211 (.x (.var 0) (.i (.var 1) (.i (.var 2) (.i (.var 3) (.x (.var 4) (.i (.var 11) (.i (.var 5) (.i (.var 6) (.x (.var 7) (.i (.var 8) (.i (.var 9) (.x (.var 10) (.x .nil .nil)))))))))))))) (.lit 0))
 (.ret ((.v (.one (.z (.bool (.lit false))))), [], 6))
 (.ite (.cmp .lss (.fn 210 (.x (.var 0) (.i (.var 1) (.i (.var 2) (.i (.var 3) (.x (.var 4) (.i (.var 11) (.i (.var 5) (.i (.var 6) (.x (.var 7) (.i (.var 8) (.i (.var 9) (.x (.var 10) (.x .nil .nil)))))))))))))) (.lit 0))
 (.ret ((.v (.one (.z (.bool (.lit false))))), [], 6))
 (.ret ((.v (.one (.z (.bool (.lit false))))), [], 7)))))
 (.ite (.cmp .neq (.fn 211 (.x (.var 0) (.i (.var 1) (.i (.var 2) (.i (.var 3) (.x (.var 4) (.i (.var 11) (.i (.var 5) (.i (.var 6) (.x (.var 7) (.i (.var 8) (.i (.var 9) (.x (.var 10) (.x .nil .nil)))))))))))))) (.lit 0))
 (.ret ((.v (.one (.z (.bool (.lit false))))), [], 6))
 (.ite (.cmp .lss (.fn 210 (.x (.var 0) (.i (.var 1) (.i (.var 2) (.i (.var 3) (.x (.var 4) (.i (.var 11) (.i (.var 5) (.i (.var 6) (.x (.var 7) (.i (.var 8) (.i (.var 9) (.x (.var 10) (.x .nil .nil)))))))))))))) (.lit 0))
 (.ret ((.v (.one (.z (.bool (.lit false))))), [], 6))
 (.ret ((.v (.one (.z (.bool (.lit false))))), [], 7))))))))))
set_option maxRecDepth 100000 in
theorem trLawCert_is : T.norm 0 (call Tryz.prog ctO4 (Lt.of []) 1000 3 (symArgs 0 [caseS, it]) [] 0) TT.ret = trLawCert := by kernel_rfl
theorem trLawCert_low : trLawCert.low 1000 = true := by kernel_rfl
end Go.Proofs.YtkjjkckcjgkhmaaGreat
/- Chapter 40: what Again answers (no program). -/
namespace Go.Proofs.YtkjjkckcjgkhmaaGreat
open Go.RowKit
theorem agN_spec {ds : List D} : ∀ f k, (agN ds f k = -1 ∧ ∀ n, k ≤ n → n < k + f → badB ds n = false) ∨ ∃ n : Nat, agN ds f k = n ∧ k ≤ n ∧ n < k + f ∧ badB ds n = true ∧ ∀ l, k ≤ l → l < n → badB ds l = false
  | 0, k => .inl ⟨rfl, fun n h1 h2 => by omega⟩
  | f + 1, k => by
    rw [agN]
    by_cases h : badB ds k = true
    · rw [if_pos h]
      exact .inr ⟨k, rfl, Nat.le_refl _, by omega, h, fun l h1 h2 => by omega⟩
    · rw [if_neg h]
      have h' := Bool.eq_false_iff.2 h
      rcases agN_spec (ds := ds) f (k + 1) with ⟨e, g⟩ | ⟨n, e, g1, g2, g3, g4⟩
      · refine .inl ⟨e, fun n h1 h2 => ?_⟩
        by_cases q : n = k
        · subst q; exact h'
        · exact g n (by omega) (by omega)
      · refine .inr ⟨n, e, by omega, by omega, g3, fun l h1 h2 => ?_⟩
        by_cases q : l = k
        · subst q; exact h'
        · exact g4 l (by omega) h2
def meK (ds : List D) (k j : Nat) : Int := meetE [.i (zoneA (zk ds k)), .i (zoneB (zk ds k)), .i (zoneC (zk ds k)), .i (zoneD (zk ds k)), .i (lg (rAt ds 12) j 0), .i (lg (rAt ds 12) j 1), .i (lg (rAt ds 12) j 2), .i (lg (rAt ds 12) j 3)]
theorem anyN_iff {ds : List D} {k : Nat} : ∀ f i, anyN ds k f i = true ↔ ∃ j, i ≤ j ∧ j < i + f ∧ meK ds k j = 0
  | 0, i => ⟨fun h => absurd h (by simp [anyN]), fun ⟨j, h1, h2, _⟩ => by omega⟩
  | f + 1, i => by
    rw [anyN, Bool.or_eq_true, decide_eq_true_eq, anyN_iff f (i + 1)]
    constructor
    · rintro (h | ⟨j, h1, h2, h3⟩)
      · exact ⟨i, by omega, by omega, h⟩
      · exact ⟨j, by omega, by omega, h3⟩
    · rintro ⟨j, h1, h2, h3⟩
      by_cases e : j = i
      · subst e; exact .inl h3
      · exact .inr ⟨j, by omega, by omega, h3⟩
theorem vbN_iff {ds : List D} : ∀ f i, vbN ds f i = true ↔ ∀ j, i ≤ j → j < i + f → arV ds j = true
  | 0, i => ⟨fun _ j h1 h2 => by omega, fun _ => rfl⟩
  | f + 1, i => by
    rw [vbN, Bool.and_eq_true, vbN_iff f (i + 1)]
    constructor
    · rintro ⟨h1, h2⟩ j g1 g2
      by_cases e : j = i
      · subst e; exact h1
      · exact h2 j (by omega) (by omega)
    · exact fun h => ⟨h i (Nat.le_refl _) (by omega), fun j g1 g2 => h j (by omega) (by omega)⟩
theorem zone_box {z : List D} (h : zoneE z = 0) : boxB (zoneA z) (zoneB z) (zoneC z) (zoneD z) = true := by
  unfold zoneE at h
  by_cases q : zoneO z = true
  · rw [if_pos q] at h
    have x : growX (zoneL z) = true := by
      unfold growE at h
      by_cases x : growX (zoneL z) = true
      · exact x
      · rw [if_neg x] at h
        split at h <;> exact absurd h (by decide)
    unfold zoneA zoneB zoneC zoneD growA growB growC growD
    rw [if_pos q, if_pos q, if_pos q, if_pos q, if_pos x, if_pos x, if_pos x, if_pos x]
    unfold growX at x
    exact (Bool.and_eq_true_iff.1 x).2
  · rw [if_neg q] at h; exact absurd h (by decide)
theorem meet_zero {a b c d e f g h : Int} (h1 : boxB a b c d = true) (h2 : boxB e f g h = true) : meetE [.i a, .i b, .i c, .i d, .i e, .i f, .i g, .i h] = 0 ↔ a ≤ f ∧ e ≤ b ∧ c ≤ h ∧ g ≤ d := by
  have e8 : box8 [.i a, .i b, .i c, .i d, .i e, .i f, .i g, .i h] = true := by
    show (boxB a b c d && boxB e f g h) = true
    rw [h1, h2]; rfl
  have eO : meetOn [.i a, .i b, .i c, .i d, .i e, .i f, .i g, .i h] = decide (max a e ≤ min b f ∧ max c g ≤ min d h) := rfl
  rw [boxB_t] at h1 h2
  unfold meetE meet8
  rw [e8, eO, Bool.true_and]
  by_cases q : max a e ≤ min b f ∧ max c g ≤ min d h
  · rw [decide_eq_true q, if_pos rfl]
    exact ⟨fun _ => by omega, fun _ => rfl⟩
  · rw [decide_eq_false q, if_neg (by decide), if_pos rfl]
    exact ⟨fun x => absurd x (by decide), fun x => absurd (by omega) q⟩
theorem again_facts {ds : List D} (h : againE ds = 0) : againO ds = true ∧ (0 ≤ iAt ds 5 ∧ iAt ds 5 ≤ (rAt ds 4).length ∧ (rAt ds 12).length ≤ 60) ∧ vbN ds (rAt ds 12).length 0 = true ∧ againI ds = agN ds ((rAt ds 4).length - (iAt ds 5).toNat) (iAt ds 5).toNat := by
  have hO : againO ds = true := by
    unfold againE at h
    by_cases q : againO ds = true
    · exact q
    · rw [if_neg q] at h; exact absurd h (by decide)
  have h2 := hO
  unfold againO at h2
  simp only [Bool.and_eq_true, decide_eq_true_eq] at h2
  exact ⟨hO, h2.2.2.2.2.2.1, h2.2.2.2.2.2.2, by unfold againI; rw [hO]; rfl⟩
theorem best_again {ds : List D} (h : againO ds = true) {n : Nat} (hn : n < (rAt ds 4).length) : bestE (agD ds n) = finE (agD ds n) (rAt ds 0).length := by
  unfold againO at h
  simp only [Bool.and_eq_true, decide_eq_true_eq] at h
  have hO : bestO (agD ds n) = true := by
    show (shsB (rAt ds 0) && (psgB (iAt ds 1) (iAt ds 2) (iAt ds 3) (rAt ds 4) && (decide (0 ≤ (n : Int) ∧ (n : Int) < (rAt ds 4).length) && (kevB (iAt ds 6) (iAt ds 7) (rAt ds 8) && tideB (iAt ds 9) (iAt ds 10) (rAt ds 11))))) = true
    rw [h.1, h.2.1, h.2.2.2.1, h.2.2.2.2.1, decide_eq_true (by omega)]; rfl
  unfold bestE
  rw [hO]; rfl
theorem bad_iff {ds : List D} (h : againO ds = true) {n : Nat} (hn : n < (rAt ds 4).length) : badB ds n = true ↔ bestE (agD ds n) ≠ 0 ∨ zoneE (zk ds n) ≠ 0 ∨ ∃ j : Nat, j < (rAt ds 12).length ∧ zoneA (zk ds n) ≤ lg (rAt ds 12) j 1 ∧ lg (rAt ds 12) j 0 ≤ zoneB (zk ds n) ∧ zoneC (zk ds n) ≤ lg (rAt ds 12) j 3 ∧ lg (rAt ds 12) j 2 ≤ zoneD (zk ds n) := by
  rw [best_again h hn]
  have hv : vbN ds (rAt ds 12).length 0 = true := by
    unfold againO at h
    simp only [Bool.and_eq_true] at h
    exact h.2.2.2.2.2.2
  rw [vbN_iff] at hv
  unfold badB
  rw [Bool.or_eq_true, Bool.or_eq_true, anyN_iff]
  simp only [Bool.not_eq_true', decide_eq_false_iff_not]
  have key : zoneE (zk ds n) = 0 → ∀ j : Nat, j < (rAt ds 12).length → (meK ds n j = 0 ↔ zoneA (zk ds n) ≤ lg (rAt ds 12) j 1 ∧ lg (rAt ds 12) j 0 ≤ zoneB (zk ds n) ∧ zoneC (zk ds n) ≤ lg (rAt ds 12) j 3 ∧ lg (rAt ds 12) j 2 ≤ zoneD (zk ds n)) := fun hz j hj => meet_zero (zone_box hz) (hv j (Nat.zero_le _) (by omega))
  by_cases hz : zoneE (zk ds n) = 0
  · constructor
    · rintro (q | q | ⟨j, q1, q2, q3⟩)
      · exact absurd hz q
      · exact .inl q
      · exact .inr (.inr ⟨j, by omega, (key hz j (by omega)).1 q3⟩)
    · rintro (q | q | ⟨j, q1, q2⟩)
      · exact .inr (.inl q)
      · exact absurd hz q
      · exact .inr (.inr ⟨j, Nat.zero_le _, by omega, (key hz j q1).2 q2⟩)
  · exact ⟨fun _ => .inr (.inl hz), fun _ => .inl hz⟩
def dA (ds : List D) (a : Rows) : List D := [.l (rAt ds 0), .i (iAt ds 1), .i (iAt ds 2), .i (iAt ds 3), .l (rAt ds 4), .i (iAt ds 11), .i (iAt ds 5), .i (iAt ds 6), .l (rAt ds 7), .i (iAt ds 8), .i (iAt ds 9), .l (rAt ds 10), .l a]
theorem bad_more {ds : List D} {a : Rows} {row : List D} {n : Nat} (h : badB (dA ds a) n = true) : badB (dA ds (a ++ [row])) n = true := by
  unfold badB at h ⊢
  rw [Bool.or_eq_true, Bool.or_eq_true, anyN_iff] at h ⊢
  refine h.imp id (fun h => h.imp id (fun ⟨j, h1, h2, h3⟩ => ⟨j, h1, ?_, ?_⟩))
  · have h2 : j < 0 + a.length := h2
    show j < 0 + (a ++ [row]).length
    rw [List.length_append]; omega
  · have h2 : j < 0 + a.length := h2
    have e : ∀ c, lg (a ++ [row]) j c = lg a j c := fun c => lg_app_low (by omega)
    have h3 : meetE [.i (zoneA (zk (dA ds a) n)), .i (zoneB (zk (dA ds a) n)), .i (zoneC (zk (dA ds a) n)), .i (zoneD (zk (dA ds a) n)), .i (lg a j 0), .i (lg a j 1), .i (lg a j 2), .i (lg a j 3)] = 0 := h3
    show meetE [.i (zoneA (zk (dA ds a) n)), .i (zoneB (zk (dA ds a) n)), .i (zoneC (zk (dA ds a) n)), .i (zoneD (zk (dA ds a) n)), .i (lg (a ++ [row]) j 0), .i (lg (a ++ [row]) j 1), .i (lg (a ++ [row]) j 2), .i (lg (a ++ [row]) j 3)] = 0
    rw [e, e, e, e]; exact h3
theorem again_more {ds : List D} {a : Rows} {row : List D} (h : againE (dA ds a) = 0) (h2 : againE (dA ds (a ++ [row])) = 0) :
    (againI (dA ds a) < 0 ∨ (0 ≤ againI (dA ds (a ++ [row])) ∧ againI (dA ds (a ++ [row])) ≤ againI (dA ds a))) ∧ (againI (dA ds (a ++ [row])) < 0 ∨ iAt ds 11 ≤ againI (dA ds (a ++ [row]))) := by
  obtain ⟨_, f2, _, f4⟩ := again_facts h
  obtain ⟨_, _, _, g4⟩ := again_facts h2
  have f2 : 0 ≤ iAt ds 11 ∧ iAt ds 11 ≤ (rAt ds 4).length ∧ a.length ≤ 60 := f2
  have f4 : againI (dA ds a) = agN (dA ds a) ((rAt ds 4).length - (iAt ds 11).toNat) (iAt ds 11).toNat := f4
  have g4 : againI (dA ds (a ++ [row])) = agN (dA ds (a ++ [row])) ((rAt ds 4).length - (iAt ds 11).toNat) (iAt ds 11).toNat := g4
  rw [f4, g4]
  rcases agN_spec (ds := dA ds (a ++ [row])) ((rAt ds 4).length - (iAt ds 11).toNat) (iAt ds 11).toNat with ⟨q, q1⟩ | ⟨n, q, q1, q2, q3, q4⟩
  · rcases agN_spec (ds := dA ds a) ((rAt ds 4).length - (iAt ds 11).toNat) (iAt ds 11).toNat with ⟨p, p1⟩ | ⟨m, p, p1, p2, p3, p4⟩
    · rw [p, q]; exact ⟨.inl (by decide), .inl (by decide)⟩
    · have := q1 m p1 p2
      rw [bad_more p3] at this; cases this
  · rw [q]
    refine ⟨?_, .inr (by omega)⟩
    rcases agN_spec (ds := dA ds a) ((rAt ds 4).length - (iAt ds 11).toNat) (iAt ds 11).toNat with ⟨p, p1⟩ | ⟨m, p, p1, p2, p3, p4⟩
    · rw [p]; exact .inl (by decide)
    · rw [p]
      refine .inr ⟨by omega, ?_⟩
      by_cases z : n ≤ m
      · omega
      · have := q4 m p1 (by omega)
        rw [bad_more p3] at this; cases this
end Go.Proofs.YtkjjkckcjgkhmaaGreat
/- Chapter 40: the law CheckCertified. -/
namespace Go.Proofs.YtkjjkckcjgkhmaaGreat
open Go.RowKit
theorem shsN_fw {r : Rows} : ∀ (f i : Nat) (last : Int), shsN r f i last = true → ∀ k : Nat, i ≤ k → k < i + f → sheetL (rowSh r k) = true ∧ last < lg r k 0 ∧ ∀ l : Nat, k < l → l < i + f → lg r k 0 < lg r l 0
  | 0, i, last, _, k, h1, h2 => by omega
  | f + 1, i, last, h, k, h1, h2 => by
    simp only [shsN, Bool.and_eq_true, decide_eq_true_eq] at h
    by_cases e : k = i
    · subst e
      exact ⟨h.1.1, h.1.2, fun l g1 g2 => (shsN_fw f (k + 1) _ h.2 l (by omega) (by omega)).2.1⟩
    · obtain ⟨g1, g2, g3⟩ := shsN_fw f (i + 1) _ h.2 k (by omega) (by omega)
      exact ⟨g1, by omega, fun l q1 q2 => g3 l q1 (by omega)⟩
theorem shs_spec {r : Rows} (h : shsB r = true) : r.length ≤ 20 ∧ (∀ k : Nat, k < r.length → sheetL (rowSh r k) = true) ∧ (∀ k l : Nat, k < l → l < r.length → lg r k 0 < lg r l 0) := by
  simp only [shsB, Bool.and_eq_true, decide_eq_true_eq] at h
  exact ⟨h.2, fun k hk => (shsN_fw _ 0 0 h.1 k (by omega) (by omega)).1, fun k l h1 h2 => (shsN_fw _ 0 0 h.1 k (by omega) (by omega)).2.2 l h1 (by omega)⟩
theorem fin_other {ds : List D} {i : Nat} (h : finE ds i ≠ 20) : finI ds i = 0 := by
  unfold finI finE at *
  split
  · rfl
  · rename_i q
    rw [if_neg q] at h
    unfold legR
    rw [if_neg (fun x => h x.1)]
theorem lg_snoc {a : Rows} {row : List D} {c : Nat} : lg (a ++ [row]) (a.length : Nat) c = (row[c]?.getD (.i 0)).int := by
  unfold lg cellAt
  rw [Int.toNat_natCast, List.getElem?_append_right (Nat.le_refl _), Nat.sub_self]
  rfl
theorem chN_at {ds : List D} : ∀ n k : Nat, k < n → lg (chN ds n) k 0 = fiJ (.i 0 :: fq ds k)
  | n + 1, k, h => by
    rw [chN]
    by_cases e : k = n
    · subst e
      have := lg_snoc (a := chN ds k) (row := [.i (fiJ (.i 0 :: fq ds k))]) (c := 0)
      rw [chN_len] at this
      rw [this]; rfl
    · rw [lg_app_low (by rw [chN_len]; omega)]
      exact chN_at n k (by omega)
theorem diN_at {ds : List D} : ∀ n k : Nat, k < n → lg (diN ds n) k 0 = digI (shF ds k)
  | n + 1, k, h => by
    rw [diN]
    by_cases e : k = n
    · subst e
      have := lg_snoc (a := diN ds k) (row := [.i (digI (shF ds k))]) (c := 0)
      rw [diN_len] at this
      rw [this]; rfl
    · rw [lg_app_low (by rw [diN_len]; omega)]
      exact diN_at n k (by omega)
theorem idxN_at {r : Rows} {c : Int} {j : Nat} (hj : lg r j 0 = c) : ∀ f i : Nat, i ≤ j → j < i + f → (∀ l : Nat, i ≤ l → l < j → lg r l 0 ≠ c) → idxN r c f i = j
  | 0, i, h1, h2, _ => by omega
  | f + 1, i, h1, h2, h3 => by
    rw [idxN]
    by_cases e : i = j
    · subst e; rw [if_pos hj]
    · rw [if_neg (h3 i (Nat.le_refl _) (by omega))]
      exact idxN_at hj f (i + 1) (by omega) (by omega) (fun l l1 l2 => h3 l (by omega) l2)
theorem mkO_parts {ds : List D} (h : mkO ds = true) : shsB (rAt ds 0) = true ∧ psgB (iAt ds 1) (iAt ds 2) (iAt ds 3) (rAt ds 4) = true ∧ 0 < (rAt ds 4).length ∧ kevB (iAt ds 5) (iAt ds 6) (rAt ds 7) = true ∧ tideB (iAt ds 8) (iAt ds 9) (rAt ds 10) = true := by
  unfold mkO at h
  simp only [Bool.and_eq_true, decide_eq_true_eq] at h
  exact h
theorem mk_not {ds : List D} (h : mkE ds ≠ 0) : mkC ds = [] ∧ mkDi ds = [] ∧ (mkE ds = 20 ∨ mkI ds = 0) ∧ 0 ≤ mkK ds := by
  refine ⟨by unfold mkC; rw [if_neg h], by unfold mkDi; rw [if_neg h], ?_, ?_⟩
  · by_cases hO : mkO ds = true
    · unfold mkE mkI at *
      rw [if_pos hO] at h ⊢
      rw [if_pos hO]
      by_cases c : mkS ds < (rAt ds 4).length
      · rw [if_pos c] at h ⊢
        rw [if_pos c]
        by_cases q : fiE (fq ds (mkS ds)) = 20
        · exact .inl q
        · exact .inr (fin_other q)
      · rw [if_neg c] at h; exact absurd rfl h
    · right; unfold mkI; rw [if_neg hO]
  · by_cases hO : mkO ds = true
    · unfold mkE mkK at *
      rw [if_pos hO] at h ⊢
      by_cases c : mkS ds < (rAt ds 4).length
      · rw [if_pos c]; omega
      · rw [if_neg c] at h; exact absurd rfl h
    · unfold mkK; rw [if_neg hO]; omega
theorem mk_yes {ds : List D} (h : mkE ds = 0) : mkO ds = true ∧ ∀ l, l < (rAt ds 4).length → fiE (fq ds l) = 0 := by
  have hO : mkO ds = true := by
    cases q : mkO ds with
    | true => rfl
    | false => rw [(mk_arg q).2.2.1] at h; exact absurd h (by decide)
  refine ⟨hO, ?_⟩
  obtain ⟨a, b, c, d⟩ := mkF_spec (ds := ds) (rAt ds 4).length 0
  intro l hl
  by_cases q : mkS ds < (rAt ds 4).length
  · unfold mkE at h
    rw [hO, if_pos rfl, if_pos q] at h
    exact absurd h (d (by unfold mkS at q; omega))
  · exact c l (Nat.zero_le _) (by unfold mkS at q; omega)
def vA (ds : List D) (ch di : Rows) : List D := [.l (rAt ds 0), .i (iAt ds 1), .i (iAt ds 2), .i (iAt ds 3), .l (rAt ds 4), .i (iAt ds 5), .i (iAt ds 6), .l (rAt ds 7), .i (iAt ds 8), .i (iAt ds 9), .l (rAt ds 10), .l ch, .l di]
theorem verN_of {ds : List D} : ∀ f k, (∀ l, k ≤ l → l < k + f → verK ds l = true) → verN ds f k = true
  | 0, _, _ => rfl
  | f + 1, k, h => by rw [verN, h k (Nat.le_refl _) (by omega), verN_of f (k + 1) (fun l l1 l2 => h l (by omega) (by omega))]; rfl
theorem mk_verified {ds : List D} (h : mkE ds = 0) : verR (vA ds (mkC ds) (mkDi ds)) = true ∧ verE (vA ds (mkC ds) (mkDi ds)) = 0 := by
  obtain ⟨hO, hf⟩ := mk_yes h
  obtain ⟨_, _, _, hC, hD⟩ := mk_all hO hf
  obtain ⟨o1, _⟩ := mkO_parts hO
  obtain ⟨_, s2, s3⟩ := shs_spec o1
  have hO2 : mkO (vA ds (mkC ds) (mkDi ds)) = true := hO
  refine ⟨?_, by unfold verE; rw [hO2]; rfl⟩
  unfold verR
  rw [hO2, hC, hD, decide_eq_true (show (rAt (vA ds (chN ds (rAt ds 4).length) (diN ds (rAt ds 4).length)) 11).length = (rAt (vA ds (chN ds (rAt ds 4).length) (diN ds (rAt ds 4).length)) 4).length ∧ (rAt (vA ds (chN ds (rAt ds 4).length) (diN ds (rAt ds 4).length)) 12).length = (rAt (vA ds (chN ds (rAt ds 4).length) (diN ds (rAt ds 4).length)) 4).length from ⟨chN_len _, diN_len _⟩)]
  refine (Bool.true_and _).trans ((Bool.true_and _).trans (verN_of _ _ (fun k _ hk => ?_)))
  have hk : k < (rAt ds 4).length := by have : k < 0 + (rAt ds 4).length := hk; omega
  obtain ⟨j, j1, j2, j3, j4⟩ := shF_row (hf k hk)
  have eC : lg (chN ds (rAt ds 4).length) k 0 = lg (rAt ds 0) j 0 := by
    rw [chN_at _ _ hk]
    have : shF ds k = rowSh (rAt ds 0) j := j4
    unfold shF rowSh at this
    injection this with this
    injection this
  have eI : verI (vA ds (chN ds (rAt ds 4).length) (diN ds (rAt ds 4).length)) k = j := by
    show idxN (rAt ds 0) (lg (chN ds (rAt ds 4).length) k 0) (rAt ds 0).length 0 = j
    refine idxN_at eC.symm _ _ (Nat.zero_le _) (by omega) (fun l _ hl => ?_)
    rw [eC]
    have := s3 l j hl j1
    omega
  unfold verK
  rw [eI]
  show (decide (j < (rAt ds 0).length) && (decide (digE (rowSh (rAt ds 0) j) = 0) && (decide (digI (rowSh (rAt ds 0) j) = lg (diN ds (rAt ds 4).length) k 0) && decide (legE (rowLeg (mkD ds k) j) = 0)))) = true
  rw [diN_at _ _ hk, j4, decide_eq_true j1, decide_eq_true (p := digE (rowSh (rAt ds 0) j) = 0) (by unfold digE; rw [s2 j j1]; rfl), decide_eq_true rfl, decide_eq_true j3]
  rfl
def aA (ds : List D) (k : Int) : List D := [.l (rAt ds 0), .i (iAt ds 1), .i (iAt ds 2), .i (iAt ds 3), .l (rAt ds 4), .i k, .i (iAt ds 5), .i (iAt ds 6), .l (rAt ds 7), .i (iAt ds 8), .i (iAt ds 9), .l (rAt ds 10), .l []]
theorem mk_again {ds : List D} (h : mkE ds = 0) (k : Int) : (againE (aA ds k) ≠ 0 → k < 0 ∨ (rAt ds 4).length < k) ∧ (againE (aA ds k) = 0 → againI (aA ds k) < 0 ∨ (k ≤ againI (aA ds k) ∧ zoneE [.i (iAt ds 1), .i (iAt ds 2), .i (iAt ds 3), .l (rAt ds 4), .i (againI (aA ds k))] ≠ 0)) := by
  obtain ⟨hO, hf⟩ := mk_yes h
  obtain ⟨o1, o2, o3, o4, o5⟩ := mkO_parts hO
  constructor
  · intro g
    rcases Int.lt_or_le k 0 with q | q
    · exact .inl q
    · rcases Int.lt_or_le ((rAt ds 4).length : Int) k with q2 | q2
      · exact .inr q2
      · exfalso
        apply g
        have : againO (aA ds k) = true := by
          show (shsB (rAt ds 0) && (psgB (iAt ds 1) (iAt ds 2) (iAt ds 3) (rAt ds 4) && (decide (0 < (rAt ds 4).length) && (kevB (iAt ds 5) (iAt ds 6) (rAt ds 7) && (tideB (iAt ds 8) (iAt ds 9) (rAt ds 10) && (decide (0 ≤ k ∧ k ≤ (rAt ds 4).length ∧ ([] : Rows).length ≤ 60) && true)))))) = true
          rw [o1, o2, o4, o5, decide_eq_true o3, decide_eq_true ⟨q, q2, by decide⟩]; rfl
        unfold againE; rw [this]; rfl
  · intro g
    obtain ⟨_, f2, _, f4⟩ := again_facts g
    have f2 : 0 ≤ k ∧ k ≤ (rAt ds 4).length ∧ ([] : Rows).length ≤ 60 := f2
    have f4 : againI (aA ds k) = agN (aA ds k) ((rAt ds 4).length - k.toNat) k.toNat := f4
    rcases agN_spec (ds := aA ds k) ((rAt ds 4).length - k.toNat) k.toNat with ⟨p, _⟩ | ⟨n, p, p1, p2, p3, _⟩
    · rw [f4, p]; exact .inl (by decide)
    · right
      rw [f4, p]
      refine ⟨by omega, ?_⟩
      have hz : badB (aA ds k) n = true := p3
      have hb : finE (agD (aA ds k) n) (rAt ds 0).length = 0 := hf n (by omega)
      unfold badB at hz
      have hb2 : finE (agD (aA ds k) n) (rAt (aA ds k) 0).length = 0 := hb
      have ha : anyN (aA ds k) n (rAt (aA ds k) 12).length 0 = false := rfl
      rw [hb2, ha] at hz
      simp only [decide_true, Bool.not_true, Bool.or_false, Bool.not_eq_true', decide_eq_false_iff_not] at hz
      exact hz
def mA (ds : List D) : List D := [.l (rAt ds 0), .i (iAt ds 1), .i (iAt ds 2), .i (iAt ds 3), .l (rAt ds 4), .i (iAt ds 5), .i (iAt ds 6), .l (rAt ds 7), .i (iAt ds 8), .i (iAt ds 9), .l (rAt ds 10)]
theorem N10i240 (W : World) (ds l : List D) : (envOf N10 W ds).fi 240 l = mkK l := by simp only [envOf, N10, N9c, N9b, N9, N8, N7, N6, N5, N4, N3, N2, N1, KG, KF, KE, KD, KC, KB, KA, K9, K8, K7, K6, K5, K]
theorem N10i241 (W : World) (ds l : List D) : (envOf N10 W ds).fi 241 l = mkI l := by simp only [envOf, N10, N9c, N9b, N9, N8, N7, N6, N5, N4, N3, N2, N1, KG, KF, KE, KD, KC, KB, KA, K9, K8, K7, K6, K5, K]
theorem N10i242 (W : World) (ds l : List D) : (envOf N10 W ds).fi 242 l = mkE l := by simp only [envOf, N10, N9c, N9b, N9, N8, N7, N6, N5, N4, N3, N2, N1, KG, KF, KE, KD, KC, KB, KA, K9, K8, K7, K6, K5, K]
theorem N10b243 (W : World) (ds l : List D) : (envOf N10 W ds).fb 243 l = verR l := by simp only [envOf, N10, N9c, N9b, N9, N8, N7, N6, N5, N4, N3, N2, N1, KG, KF, KE, KD, KC, KB, KA, K9, K8, K7, K6, K5, K]
theorem N10i244 (W : World) (ds l : List D) : (envOf N10 W ds).fi 244 l = verE l := by simp only [envOf, N10, N9c, N9b, N9, N8, N7, N6, N5, N4, N3, N2, N1, KG, KF, KE, KD, KC, KB, KA, K9, K8, K7, K6, K5, K]
theorem N10d4 (W : World) (ds l : List D) : (envOf N10 W ds).fd 4 l = mkC l := by simp only [envOf, N10, N9c, N9b, N9, N8, N7, N6, N5, N4, N3, N2, N1, KG, KF, KE, KD, KC, KB, KA, K9, K8, K7, K6, K5, K]
theorem N10d5 (W : World) (ds l : List D) : (envOf N10 W ds).fd 5 l = mkDi l := by simp only [envOf, N10, N9c, N9b, N9, N8, N7, N6, N5, N4, N3, N2, N1, KG, KF, KE, KD, KC, KB, KA, K9, K8, K7, K6, K5, K]
theorem N10i210 (W : World) (ds l : List D) : (envOf N10 W ds).fi 210 l = againI l := by simp only [envOf, N10, N9c, N9b, N9, N8, N7, N6, N5, N4, N3, N2, N1, KG, KF, KE, KD, KC, KB, KA, K9, K8, K7, K6, K5, K]
theorem N10i211 (W : World) (ds l : List D) : (envOf N10 W ds).fi 211 l = againE l := by simp only [envOf, N10, N9c, N9b, N9, N8, N7, N6, N5, N4, N3, N2, N1, KG, KF, KE, KD, KC, KB, KA, K9, K8, K7, K6, K5, K]
theorem N10i58 (W : World) (ds l : List D) : (envOf N10 W ds).fi 58 l = zoneE l := by simp only [envOf, N10, N9c, N9b, N9, N8, N7, N6, N5, N4, N3, N2, N1, KG, KF, KE, KD, KC, KB, KA, K9, K8, K7, K6, K5, K]
set_option maxHeartbeats 2000000 in
theorem gCertLaw : Gives Tryz.prog 3 [caseS, it] (fun _ => .bool true) := by
  refine GivesIf.all (fn_gives N10 (by kernel_rfl) (fun ρ h => ctO4_ok (Sees.of h 250) (SeesD.of h 6)) (by kernel_rfl) trLawCert_is trLawCert_low (by decide) (fun W vals ds hr _ => ?_))
  have eM : [D.l (rAt ds 0), .i (iAt ds 1), .i (iAt ds 2), .i (iAt ds 3), .l (rAt ds 4), .i (iAt ds 5), .i (iAt ds 6), .l (rAt ds 7), .i (iAt ds 8), .i (iAt ds 9), .l (rAt ds 10)] = mA ds := rfl
  have eV : ∀ ch di, [D.l (rAt ds 0), .i (iAt ds 1), .i (iAt ds 2), .i (iAt ds 3), .l (rAt ds 4), .i (iAt ds 5), .i (iAt ds 6), .l (rAt ds 7), .i (iAt ds 8), .i (iAt ds 9), .l (rAt ds 10), .l ch, .l di] = vA (mA ds) ch di := fun _ _ => rfl
  have eA : [D.l (rAt ds 0), .i (iAt ds 1), .i (iAt ds 2), .i (iAt ds 3), .l (rAt ds 4), .i (iAt ds 11), .i (iAt ds 5), .i (iAt ds 6), .l (rAt ds 7), .i (iAt ds 8), .i (iAt ds 9), .l (rAt ds 10), .l []] = aA (mA ds) (iAt ds 11) := rfl
  have e4 : rAt ds 4 = rAt (mA ds) 4 := rfl
  simp only [trLawCert, TT.sat_ret, TT.sat_ite, B.ev, E.ev, X.ev, cmp_t, cmp_f, V.plain, V2.plain, S.plain, S0.plain, V.val, V2.val, S.val, S0.val, envOf_d, true_and, cmpP]
  clear hr
  refine ⟨fun _ => trivial, fun h4 => ⟨fun _ => trivial, fun h6 => ?_⟩⟩
  refine TT.sat_loop (fun v => ∃ i : Nat, v.i 0 = i ∧ i ≤ (rAt ds 0).length) (fun v => (rAt ds 0).length - (v.i 0).toNat) ⟨0, by simp [val_i, aget, E.ev], by omega⟩ (fun v hv => ?_)
  obtain ⟨i, i0, i1⟩ := hv
  simp only [TT.sat_ret, TT.sat_ite, TT.sat_ob, TT.sat_next, put_i, put_d, put_fi, put_fb, put_fd, Ob.ok, B.ev, E.ev, X.ev, AL.ev, cmp_t, cmp_f, arEv, envOf_i, envOf_d, true_and, cell_lr, cmpP, val_i, aget, beq_self_eq_true, if_true, if_false, Nat.reduceLT, Nat.reduceSub, Nat.sub_self, Nat.lt_irrefl, X.ev, i0, N10i240, N10i241, N10i242, N10b243, N10i244, N10d4, N10d5, N10i210, N10i211, N10i58, eM, eV, eA]
  refine ⟨fun hc => ⟨by omega, hc, fun _ => trivial, fun _ => ?_⟩, fun hc => ⟨fun h => ?_, fun h => ?_⟩⟩
  · rw [wrap_in ((i : Int) + 1) (by omega) (by omega)]
    exact ⟨⟨i + 1, rfl, by omega⟩, by omega⟩
  · obtain ⟨a, b, c, d⟩ := mk_not h
    rw [a, b]
    refine ⟨fun _ => ⟨fun _ => ⟨fun _ => ?_, fun e => ⟨fun _ => ?_, fun f => ?_⟩⟩, fun q => absurd rfl q⟩, fun q => absurd rfl q⟩
    · simp only [cmpEv, ge_iff_le, d, decide_true]
    · simp only [cmpEv, ge_iff_le, d, decide_true]
    · exact (c.elim e f).elim
  · have h : mkE (mA ds) = 0 := Decidable.not_not.mp h
    obtain ⟨hO, hf⟩ := mk_yes h
    obtain ⟨a1, a2, a3, a4, a5⟩ := mk_all hO hf
    obtain ⟨v1, v2⟩ := mk_verified h
    obtain ⟨g1, g2⟩ := mk_again h (iAt ds 11)
    have el : (mkC (mA ds)).length = (rAt ds 4).length := by rw [a4, chN_len]; rfl
    generalize againE (aA (mA ds) (iAt ds 11)) = E at *
    generalize againI (aA (mA ds) (iAt ds 11)) = I at *
    rw [a1, a2, v1, v2, el]
    have g1 : ¬ E = 0 → iAt ds 11 < 0 ∨ (rAt ds 4).length < iAt ds 11 := g1
    have g2 : E = 0 → I < 0 ∨ (iAt ds 11 ≤ I ∧ zoneE [.i (iAt ds 1), .i (iAt ds 2), .i (iAt ds 3), .l (rAt ds 4), .i I] ≠ 0) := g2
    refine ⟨fun _ => ⟨fun _ => ⟨fun _ => ⟨fun _ => ⟨fun e => ⟨fun _ => ⟨fun q => absurd q e, fun _ => ⟨fun _ => trivial, fun q => ?_⟩⟩, fun q => absurd rfl q⟩, fun e => ⟨fun q => ⟨fun _ => ⟨fun _ => trivial, fun q2 => absurd (Decidable.not_not.mp e) q2⟩, fun q2 => absurd rfl q2⟩, fun q => ⟨fun _ => ⟨fun q3 => ?_, fun q3 => ?_⟩, fun q2 => absurd rfl q2⟩⟩⟩, fun q => by cases q⟩, fun q => absurd rfl q⟩, fun q => absurd rfl q⟩, fun q => absurd rfl q⟩
    · have := g1 e
      have : iAt ds 11 > (rAt ds 4).length := by omega
      simp only [cmpEv, this, decide_true]
    · rcases g2 (Decidable.not_not.mp e) with z | ⟨z1, z2⟩
      · exact absurd z q
      · simp only [cmpEv, bne_iff_ne.2 z2]
    · rcases g2 (Decidable.not_not.mp e) with z | ⟨z1, z2⟩
      · exact absurd z q
      · exact absurd z1 (by omega)
end Go.Proofs.YtkjjkckcjgkhmaaGreat
/- Chapter 40: equal sheets have equal data; sheets without one, with another one (no program). -/
namespace Go.Proofs.YtkjjkckcjgkhmaaGreat
open Go.RowKit
/-! Rows by their kinds -/
def intsR (c : Nat) (row : List D) : Prop := row.length = c ∧ ∀ d ∈ row, ∃ n, d = .i n
def wfI (c : Nat) (r : Rows) : Prop := ∀ (i : Nat) row, r[i]? = some row → intsR c row
def isInt : CK → Bool | .int _ => true | _ => false
theorem reps_cons {w : World} {k : CK} {ks : List CK} {vs : List Value} {ds : List D} (h : CK.reps w (k :: ks) vs ds) : ∃ v vs' d ds', vs = v :: vs' ∧ ds = d :: ds' ∧ CK.rep w k v d ∧ CK.reps w ks vs' ds' := by
  unfold CK.reps at h; exact h
theorem reps_nil {w : World} {vs : List Value} {ds : List D} (h : CK.reps w [] vs ds) : ds = [] := by
  unfold CK.reps at h; exact h.2
theorem rep_i {w : World} {k : IntKind} {v : Value} {d : D} (h : CK.rep w (.int k) v d) : ∃ n, d = .i n := by
  unfold CK.rep at h
  obtain ⟨n, _, rfl⟩ := h
  exact ⟨n, rfl⟩
theorem rep_l {w : World} {ks : List CK} {v : Value} {d : D} (h : CK.rep w (.sl ks) v d) : ∃ r, d = .l r := by
  rw [rep_sl] at h
  obtain ⟨r, rfl, _⟩ := h
  exact ⟨r, rfl⟩
theorem reps_ints {w : World} : ∀ {ks : List CK} {vs : List Value} {ds : List D}, ks.all isInt = true → CK.reps w ks vs ds → intsR ks.length ds
  | [], vs, ds, _, h => by
    obtain rfl := reps_nil h
    exact ⟨rfl, fun d hd => by cases hd⟩
  | k :: ks, vs, ds, hk, h => by
    obtain ⟨v, vs', d, ds', rfl, rfl, h1, h2⟩ := reps_cons h
    simp only [List.all_cons, Bool.and_eq_true] at hk
    obtain ⟨g1, g2⟩ := reps_ints hk.2 h2
    refine ⟨by simp [g1], fun e he => ?_⟩
    rcases List.mem_cons.mp he with q | q
    · subst q
      cases k with
      | int k => exact rep_i h1
      | bool => exact absurd hk.1 (by decide)
      | sl ks => exact absurd hk.1 (by simp [isInt])
    · exact g2 e q
theorem rep_each {w : World} {ks : List CK} {v : Value} {d : D} {Q : List D → Prop} (hQ : ∀ vs ds, CK.reps w ks vs ds → Q ds) (h : CK.rep w (.sl ks) v d) : ∀ (i : Nat) row, d.rows[i]? = some row → Q row := by
  rw [rep_sl] at h
  obtain ⟨r, rfl, a, n, c, _, hs, _⟩ := h
  intro i row hi
  have hi' : r[i]? = some row := hi
  have hlt : i < r.length := by
    rcases Nat.lt_or_ge i r.length with q | q
    · exact q
    · rw [List.getElem?_eq_none q] at hi'; cases hi'
  have := hs.there (by have := hs.len; omega)
  cases a with
  | none => cases this
  | some b =>
    obtain ⟨vs, h1, _⟩ := hs.cell b rfl i row hi'
    exact hQ vs row h1
theorem rep_wf {w : World} {ks : List CK} {v : Value} {d : D} (hk : ks.all isInt = true) (h : CK.rep w (.sl ks) v d) : wfI ks.length d.rows := rep_each (fun _ _ q => reps_ints hk q) h
theorem rows_eq {c : Nat} {r s : Rows} (hr : wfI c r) (hs : wfI c s) (h : eqX c r s = true) : r = s := by
  obtain ⟨hl, he⟩ := eqX_iff.mp h
  refine List.ext_getElem? (fun i => ?_)
  rcases Nat.lt_or_ge i r.length with q | q
  · have er : r[i]? = some r[i] := List.getElem?_eq_getElem q
    have es : s[i]? = some (s[i]'(by omega)) := List.getElem?_eq_getElem (by omega)
    obtain ⟨l1, n1⟩ := hr i _ er
    obtain ⟨l2, n2⟩ := hs i _ es
    rw [er, es]
    congr 1
    refine List.ext_getElem (by omega) (fun j h1 h2 => ?_)
    have g := he i q j (by omega)
    unfold lg cellAt at g
    rw [Int.toNat_natCast, er, es] at g
    simp only [Option.getD_some] at g
    rw [List.getElem?_eq_getElem h1, List.getElem?_eq_getElem h2] at g
    simp only [Option.getD_some] at g
    obtain ⟨u, eu⟩ := n1 _ (List.getElem_mem h1)
    obtain ⟨v, ev⟩ := n2 _ (List.getElem_mem h2)
    rw [eu, ev] at g ⊢
    have g' : u = v := g
    rw [g']
  · rw [List.getElem?_eq_none q, List.getElem?_eq_none (by omega)]
def featW (row : List D) : Prop := ∃ a b c e f x g h y, row = [.i a, .i b, .i c, .i e, .i f, .l x, .i g, .i h, .l y] ∧ wfI 2 x ∧ wfI 6 y
def wfF (r : Rows) : Prop := ∀ (i : Nat) row, r[i]? = some row → featW row
theorem reps_feat {w : World} {vs : List Value} {ds : List D} (h : CK.reps w featK vs ds) : featW ds := by
  unfold featK at h
  obtain ⟨_, _, d0, _, _, rfl, h0, h⟩ := reps_cons h
  obtain ⟨_, _, d1, _, _, rfl, h1, h⟩ := reps_cons h
  obtain ⟨_, _, d2, _, _, rfl, h2, h⟩ := reps_cons h
  obtain ⟨_, _, d3, _, _, rfl, h3, h⟩ := reps_cons h
  obtain ⟨_, _, d4, _, _, rfl, h4, h⟩ := reps_cons h
  obtain ⟨_, _, d5, _, _, rfl, h5, h⟩ := reps_cons h
  obtain ⟨_, _, d6, _, _, rfl, h6, h⟩ := reps_cons h
  obtain ⟨_, _, d7, _, _, rfl, h7, h⟩ := reps_cons h
  obtain ⟨_, _, d8, _, _, rfl, h8, h⟩ := reps_cons h
  obtain rfl := reps_nil h
  obtain ⟨n0, rfl⟩ := rep_i h0
  obtain ⟨n1, rfl⟩ := rep_i h1
  obtain ⟨n2, rfl⟩ := rep_i h2
  obtain ⟨n3, rfl⟩ := rep_i h3
  obtain ⟨n4, rfl⟩ := rep_i h4
  obtain ⟨n6, rfl⟩ := rep_i h6
  obtain ⟨n7, rfl⟩ := rep_i h7
  have w5 := rep_wf rfl h5
  have w8 := rep_wf rfl h8
  obtain ⟨r5, rfl⟩ := rep_l h5
  obtain ⟨r8, rfl⟩ := rep_l h8
  exact ⟨n0, n1, n2, n3, n4, r5, n6, n7, r8, rfl, w5, w8⟩
theorem rep_wfF {w : World} {v : Value} {d : D} (h : CK.rep w (.sl featK) v d) : wfF d.rows := rep_each (fun _ _ q => reps_feat q) h
theorem sfN_at {r s : Rows} : ∀ f i, sfN r s f i = true → ∀ k, i ≤ k → k < i + f → sfRow r s k = true
  | 0, i, _, k, h1, h2 => by omega
  | f + 1, i, h, k, h1, h2 => by
    rw [sfN, Bool.and_eq_true] at h
    by_cases e : k = i
    · subst e; exact h.1
    · exact sfN_at f (i + 1) h.2 k (by omega) (by omega)
theorem feats_eq {r s : Rows} (hr : wfF r) (hs : wfF s) (h : sfX r s = true) : r = s := by
  unfold sfX at h
  rw [Bool.and_eq_true, decide_eq_true_eq] at h
  obtain ⟨hl, he⟩ := h
  refine List.ext_getElem? (fun i => ?_)
  rcases Nat.lt_or_ge i r.length with q | q
  · have er : r[i]? = some r[i] := List.getElem?_eq_getElem q
    have es : s[i]? = some (s[i]'(by omega)) := List.getElem?_eq_getElem (by omega)
    have g := sfN_at _ _ he i (Nat.zero_le _) (by omega)
    obtain ⟨a, b, c, e, f, x, k, l, y, e1, w1, w2⟩ := hr i _ er
    obtain ⟨a', b', c', e', f', x', k', l', y', e2, w3, w4⟩ := hs i _ es
    rw [e1] at er
    rw [e2] at es
    have cr : ∀ j, cellAt r i j = ([D.i a, .i b, .i c, .i e, .i f, .l x, .i k, .i l, .l y][j]?).getD (.i 0) := fun j => by unfold cellAt; rw [Int.toNat_natCast, er]; rfl
    have cs : ∀ j, cellAt s i j = ([D.i a', .i b', .i c', .i e', .i f', .l x', .i k', .i l', .l y'][j]?).getD (.i 0) := fun j => by unfold cellAt; rw [Int.toNat_natCast, es]; rfl
    unfold sfRow lg lr at g
    rw [cr, cr, cr, cr, cr, cr, cr, cr, cr, cs, cs, cs, cs, cs, cs, cs, cs, cs] at g
    have g : sameB a b c e f x k l y a' b' c' e' f' x' k' l' y' = true := g
    unfold sameB at g
    simp only [Bool.and_eq_true, decide_eq_true_eq] at g
    obtain ⟨⟨⟨rfl, rfl, rfl, rfl⟩, rfl, rfl, rfl⟩, g7, g8⟩ := g
    rw [er, es, rows_eq w1 w3 g7, rows_eq w2 w4 g8]
  · rw [List.getElem?_eq_none q, List.getElem?_eq_none (by omega)]
theorem same_eq {a0 a1 a2 a3 a4 a5 a6 a7 a8 a9 a10 b0 b1 b2 b3 b4 b5 b6 b7 b8 b9 b10 : Int} {x y x' y' : Rows} (hx : wfI 1 x) (hy : wfF y) (hx' : wfI 1 x') (hy' : wfF y')
    (h : shSame [.i a0, .i a1, .i a2, .i a3, .i a4, .i a5, .i a6, .i a7, .i a8, .i a9, .i a10, .l x, .l y, .i b0, .i b1, .i b2, .i b3, .i b4, .i b5, .i b6, .i b7, .i b8, .i b9, .i b10, .l x', .l y'] = true) :
    [D.i a0, .i a1, .i a2, .i a3, .i a4, .i a5, .i a6, .i a7, .i a8, .i a9, .i a10, .l x, .l y] = [.i b0, .i b1, .i b2, .i b3, .i b4, .i b5, .i b6, .i b7, .i b8, .i b9, .i b10, .l x', .l y'] := by
  have h : (eqX 1 x x' && (sfX y y' && decide ((a0 = b0 ∧ a1 = b1 ∧ a2 = b2) ∧ (a3 = b3 ∧ a4 = b4 ∧ a5 = b5 ∧ a6 = b6 ∧ a7 = b7 ∧ a8 = b8 ∧ a9 = b9) ∧ a10 = b10))) = true := h
  simp only [Bool.and_eq_true, decide_eq_true_eq] at h
  obtain ⟨h1, h2, ⟨rfl, rfl, rfl⟩, ⟨rfl, rfl, rfl, rfl, rfl, rfl, rfl⟩, rfl⟩ := h
  rw [rows_eq hx hx' h1, feats_eq hy hy' h2]
def sheetW (row : List D) : Prop := ∃ a0 a1 a2 a3 a4 a5 a6 a7 a8 a9 a10 x y, row = [.i a0, .i a1, .i a2, .i a3, .i a4, .i a5, .i a6, .i a7, .i a8, .i a9, .i a10, .l x, .l y] ∧ wfI 1 x ∧ wfF y
theorem reps_sheet {w : World} {vs : List Value} {ds : List D} (h : CK.reps w sheetK vs ds) : sheetW ds := by
  unfold sheetK at h
  obtain ⟨_, _, d0, _, _, rfl, h0, h⟩ := reps_cons h
  obtain ⟨_, _, d1, _, _, rfl, h1, h⟩ := reps_cons h
  obtain ⟨_, _, d2, _, _, rfl, h2, h⟩ := reps_cons h
  obtain ⟨_, _, d3, _, _, rfl, h3, h⟩ := reps_cons h
  obtain ⟨_, _, d4, _, _, rfl, h4, h⟩ := reps_cons h
  obtain ⟨_, _, d5, _, _, rfl, h5, h⟩ := reps_cons h
  obtain ⟨_, _, d6, _, _, rfl, h6, h⟩ := reps_cons h
  obtain ⟨_, _, d7, _, _, rfl, h7, h⟩ := reps_cons h
  obtain ⟨_, _, d8, _, _, rfl, h8, h⟩ := reps_cons h
  obtain ⟨_, _, d9, _, _, rfl, h9, h⟩ := reps_cons h
  obtain ⟨_, _, d10, _, _, rfl, h10, h⟩ := reps_cons h
  obtain ⟨_, _, d11, _, _, rfl, h11, h⟩ := reps_cons h
  obtain ⟨_, _, d12, _, _, rfl, h12, h⟩ := reps_cons h
  obtain rfl := reps_nil h
  obtain ⟨n0, rfl⟩ := rep_i h0
  obtain ⟨n1, rfl⟩ := rep_i h1
  obtain ⟨n2, rfl⟩ := rep_i h2
  obtain ⟨n3, rfl⟩ := rep_i h3
  obtain ⟨n4, rfl⟩ := rep_i h4
  obtain ⟨n5, rfl⟩ := rep_i h5
  obtain ⟨n6, rfl⟩ := rep_i h6
  obtain ⟨n7, rfl⟩ := rep_i h7
  obtain ⟨n8, rfl⟩ := rep_i h8
  obtain ⟨n9, rfl⟩ := rep_i h9
  obtain ⟨n10, rfl⟩ := rep_i h10
  have w11 := rep_wf rfl h11
  have w12 := rep_wfF h12
  obtain ⟨r11, rfl⟩ := rep_l h11
  obtain ⟨r12, rfl⟩ := rep_l h12
  exact ⟨n0, n1, n2, n3, n4, n5, n6, n7, n8, n9, n10, r11, r12, rfl, w11, w12⟩
def wfS (r : Rows) : Prop := ∀ (i : Nat) row, r[i]? = some row → sheetW row
theorem rep_wfS {w : World} {v : Value} {d : D} (h : CK.rep w (.sl sheetK) v d) : wfS d.rows := rep_each (fun _ _ q => reps_sheet q) h
theorem rowSh_eq {r : Rows} (hr : wfS r) {i : Nat} {row : List D} (h : r[i]? = some row) : rowSh r i = row := by
  obtain ⟨a0, a1, a2, a3, a4, a5, a6, a7, a8, a9, a10, x, y, rfl, _, _⟩ := hr i row h
  have c : ∀ j, cellAt r i j = ([D.i a0, .i a1, .i a2, .i a3, .i a4, .i a5, .i a6, .i a7, .i a8, .i a9, .i a10, .l x, .l y][j]?).getD (.i 0) := fun j => by unfold cellAt; rw [Int.toNat_natCast, h]; rfl
  unfold rowSh lg lr
  rw [c, c, c, c, c, c, c, c, c, c, c, c, c]
  rfl
theorem wfS_get {r : Rows} (hr : wfS r) {i : Nat} (h : i < r.length) : r[i]? = some (rowSh r i) := by
  have e := List.getElem?_eq_getElem h
  rw [e, rowSh_eq hr e]
/-! Another sheet in the place of one -/
theorem upd_get {r : Rows} (hr : wfS r) {i : Nat} (hi : i < r.length) {o : List D} (ho : o.length = 13) (l : Nat) : (updR r i 0 o)[l]? = if l = i then some o else r[l]? := by
  unfold updR
  rw [Int.toNat_natCast, List.getElem?_modify]
  by_cases e : i = l
  · subst e
    rw [wfS_get hr hi, if_pos rfl]
    have : (rowSh r i).length = 13 := rfl
    show some (if i = i then List.take 0 (rowSh r i) ++ o ++ List.drop (0 + o.length) (rowSh r i) else rowSh r i) = some o
    rw [if_pos rfl, List.drop_eq_nil_of_le (by omega)]
    simp
  · rw [if_neg (fun q => e q.symm)]
    simp only [if_neg e]
    cases r[l]? <;> rfl
theorem upd_row {r : Rows} (hr : wfS r) {i : Nat} (hi : i < r.length) {o : List D} (ho : sheetW o) (l : Nat) (hl : l < r.length) : rowSh (updR r i 0 o) l = if l = i then o else rowSh r l := by
  have hlen : o.length = 13 := by obtain ⟨a0, a1, a2, a3, a4, a5, a6, a7, a8, a9, a10, x, y, rfl, _, _⟩ := ho; rfl
  have hw : wfS (updR r i 0 o) := fun j row hj => by
    rw [upd_get hr hi hlen] at hj
    by_cases e : j = i
    · rw [if_pos e] at hj; cases hj; exact ho
    · rw [if_neg e] at hj; exact hr j row hj
  have hg := upd_get hr hi hlen l
  by_cases e : l = i
  · rw [if_pos e] at hg ⊢
    exact rowSh_eq hw hg
  · rw [if_neg e, wfS_get hr hl] at hg
    rw [if_neg e]
    exact rowSh_eq hw hg
theorem row_lg {r s : Rows} {i j : Nat} (h : rowSh r i = rowSh s j) : lg r i 0 = lg s j 0 ∧ lg r i 1 = lg s j 1 := by
  unfold rowSh at h
  injection h with h0 h
  injection h with h1 h
  injection h0 with h0
  injection h1 with h1
  exact ⟨h0, h1⟩
theorem rowLeg_eq {a b : List D} {i j : Nat} (h : rowSh (rAt a 0) i = rowSh (rAt b 0) j) (ht : a.drop 1 = b.drop 1) : rowLeg a i = rowLeg b j := by
  have e : ∀ c : Nat, 1 ≤ c → a.getD c (.i 0) = b.getD c (.i 0) := fun c hc => by
    have := congrArg (fun l => l[c - 1]?) ht
    simp only [List.getElem?_drop] at this
    rw [show 1 + (c - 1) = c by omega] at this
    rw [List.getD_eq_getElem?_getD, List.getD_eq_getElem?_getD, this]
  have g : ∀ d : List D, ∀ n : Nat, rowLeg d n = rowSh (rAt d 0) n ++ [.i (iAt d 1), .i (iAt d 2), .i (iAt d 3), .l (rAt d 4), .i (iAt d 5), .i (iAt d 6), .i (iAt d 7), .l (rAt d 8), .i (iAt d 9), .i (iAt d 10), .l (rAt d 11)] := fun _ _ => rfl
  rw [g, g, h]
  unfold iAt rAt
  rw [e 1 (by decide), e 2 (by decide), e 3 (by decide), e 4 (by decide), e 5 (by decide), e 6 (by decide), e 7 (by decide), e 8 (by decide), e 9 (by decide), e 10 (by decide), e 11 (by decide)]
/-! What Verify says of other sheets -/
def vS (ds : List D) (S : Rows) (di : Rows) : List D := [.l S, .i (iAt ds 1), .i (iAt ds 2), .i (iAt ds 3), .l (rAt ds 4), .i (iAt ds 5), .i (iAt ds 6), .l (rAt ds 7), .i (iAt ds 8), .i (iAt ds 9), .l (rAt ds 10), .l (rAt ds 11), .l di]
theorem verN_iff {ds : List D} : ∀ f i, verN ds f i = true ↔ ∀ l, i ≤ l → l < i + f → verK ds l = true
  | 0, i => ⟨fun _ l h1 h2 => by omega, fun _ => rfl⟩
  | f + 1, i => by
    rw [verN, Bool.and_eq_true, verN_iff f (i + 1)]
    constructor
    · rintro ⟨h1, h2⟩ l g1 g2
      by_cases e : l = i
      · subst e; exact h1
      · exact h2 l (by omega) (by omega)
    · exact fun h => ⟨h i (Nat.le_refl _) (by omega), fun l g1 g2 => h l (by omega) (by omega)⟩
theorem verR_iff {ds : List D} : verR ds = true ↔ mkO ds = true ∧ ((rAt ds 11).length = (rAt ds 4).length ∧ (rAt ds 12).length = (rAt ds 4).length) ∧ ∀ l, l < (rAt ds 4).length → verK ds l = true := by
  unfold verR
  rw [Bool.and_eq_true, Bool.and_eq_true, decide_eq_true_eq, verN_iff]
  exact ⟨fun h => ⟨h.1, h.2.1, fun l hl => h.2.2 l (Nat.zero_le _) (by omega)⟩, fun h => ⟨h.1, h.2.1, fun l _ hl => h.2.2 l (by omega)⟩⟩
theorem verK_iff {ds : List D} {k : Nat} : verK ds k = true ↔ verI ds k < (rAt ds 0).length ∧ digE (rowSh (rAt ds 0) (verI ds k)) = 0 ∧ digI (rowSh (rAt ds 0) (verI ds k)) = lg (rAt ds 12) k 0 ∧ legE (rowLeg (mkD ds k) (verI ds k)) = 0 := by
  unfold verK
  simp only [Bool.and_eq_true, decide_eq_true_eq]
theorem verE_of {ds : List D} (h : mkO ds = true) : verE ds = 0 := by unfold verE; rw [h]; rfl
theorem mkO_S {ds : List D} {S S' di di' : Rows} (h : mkO (vS ds S di) = true) (hs : shsB S' = true) : mkO (vS ds S' di') = true := by
  have h : (shsB S && (psgB (iAt ds 1) (iAt ds 2) (iAt ds 3) (rAt ds 4) && (decide (0 < (rAt ds 4).length) && (kevB (iAt ds 5) (iAt ds 6) (rAt ds 7) && tideB (iAt ds 8) (iAt ds 9) (rAt ds 10))))) = true := h
  show (shsB S' && (psgB (iAt ds 1) (iAt ds 2) (iAt ds 3) (rAt ds 4) && (decide (0 < (rAt ds 4).length) && (kevB (iAt ds 5) (iAt ds 6) (rAt ds 7) && tideB (iAt ds 8) (iAt ds 9) (rAt ds 10))))) = true
  rw [Bool.and_eq_true] at h
  rw [hs, h.2]; rfl
theorem shsB_of {r : Rows} (h0 : r.length ≤ 20) (h1 : ∀ k : Nat, k < r.length → sheetL (rowSh r k) = true) (h2 : ∀ k : Nat, k + 1 < r.length → lg r k 0 < lg r (k + 1 : Nat) 0) : shsB r = true := by
  have bw : ∀ (f i : Nat) (last : Int), (∀ k : Nat, i ≤ k → k < i + f → sheetL (rowSh r k) = true) → (0 < f → last < lg r i 0) → (∀ k : Nat, i ≤ k → k + 1 < i + f → lg r k 0 < lg r (k + 1 : Nat) 0) → shsN r f i last = true := fun f => by
    induction f with
    | zero => intro i last _ _ _; rfl
    | succ f ih =>
      intro i last g1 g2 g3
      rw [shsN, g1 i (by omega) (by omega), decide_eq_true (g2 (by omega)), ih (i + 1) _ (fun k q1 q2 => g1 k (by omega) (by omega)) (fun hf => g3 i (by omega) (by omega)) (fun k q1 q2 => g3 k (by omega) (by omega))]
      rfl
  unfold shsB
  rw [decide_eq_true h0, bw _ 0 0 (fun k _ hk => h1 k (by omega)) (fun hf => ?_) (fun k _ hk => h2 k (by omega))]
  · rfl
  · have := h1 0 hf
    unfold sheetL at this
    simp only [Bool.and_eq_true, decide_eq_true_eq] at this
    have e : iAt (rowSh r 0) 0 = lg r 0 0 := rfl
    have e0 : lg r ((0 : Nat) : Int) 0 = lg r 0 0 := rfl
    omega
section
variable {ds : List D} {S di : Rows} {k i : Nat}
theorem ver_digest (h : verR (vS ds S di) = true) (hk : k < (rAt ds 4).length) (hd : ∀ row, di[k]? = some row → row.length = 1) {x : Int} : verE (vS ds S (updR di k 0 [.i x])) = 0 ∧ verR (vS ds S (updR di k 0 [.i x])) = decide (x = lg di k 0) := by
  obtain ⟨h1, ⟨h2, h3⟩, h4⟩ := verR_iff.1 h
  have h2 : (rAt ds 11).length = (rAt ds 4).length := h2
  have h3 : di.length = (rAt ds 4).length := h3
  have hO : mkO (vS ds S (updR di k 0 [.i x])) = true := h1
  have eg := List.getElem?_eq_getElem (show k < di.length by omega)
  have hrl : rl di k = 1 := by unfold rl; rw [eg]; exact hd _ eg
  have elg : ∀ l : Nat, lg (updR di k 0 [.i x]) l 0 = if l = k then x else lg di l 0 := fun l => by
    have := lg_upd (m := di) (i := k) (j := 0) (l := [.i x]) (by omega) (by rw [hrl]; simp) l 0
    rw [this]
    by_cases e : l = k
    · rw [if_pos ⟨e, by omega, by simp⟩, if_pos e]; rfl
    · rw [if_neg (fun q => e q.1), if_neg e]
  refine ⟨verE_of hO, ?_⟩
  rw [Bool.eq_iff_iff, decide_eq_true_eq, verR_iff]
  constructor
  · rintro ⟨_, _, g⟩
    have g1 := (verK_iff.1 (g k hk)).2.2.1
    have g2 := (verK_iff.1 (h4 k hk)).2.2.1
    have g1 : digI (rowSh S (verI (vS ds S di) k)) = lg (updR di k 0 [.i x]) k 0 := g1
    have g2 : digI (rowSh S (verI (vS ds S di) k)) = lg di k 0 := g2
    rw [elg k, if_pos rfl] at g1
    rw [← g1, g2]
  · intro hx
    refine ⟨hO, ⟨h2, by show (updR di k 0 [.i x]).length = (rAt ds 4).length; rw [updR_len]; exact h3⟩, fun l hl => ?_⟩
    obtain ⟨g1, g2, g3, g4⟩ := verK_iff.1 (h4 l hl)
    refine verK_iff.2 ⟨g1, g2, ?_, g4⟩
    show digI (rowSh S (verI (vS ds S di) l)) = lg (updR di k 0 [.i x]) l 0
    rw [elg l]
    by_cases e : l = k
    · subst e; rw [if_pos rfl, hx]; exact g3
    · rw [if_neg e]; exact g3
theorem cut_get (hi : i < S.length) (l : Nat) : (subR S 0 i ++ subR S ((i : Int) + 1) S.length)[l]? = if l < i then S[l]? else S[l + 1]? := by
  have e1 : (subR S 0 i).length = i := by unfold subR; simp; omega
  unfold subR at e1 ⊢
  by_cases h : l < i
  · rw [if_pos h, List.getElem?_append_left (by omega), List.getElem?_take_of_lt (by simp; omega)]
    simp
  · rw [if_neg h, List.getElem?_append_right (by omega), e1]
    by_cases h2 : l - i < (S.length : Int).toNat - ((i : Int) + 1).toNat
    · rw [List.getElem?_take_of_lt h2, List.getElem?_drop, show ((i : Int) + 1).toNat + (l - i) = l + 1 by omega]
    · rw [List.getElem?_eq_none (by simp; omega), List.getElem?_eq_none (by omega)]
theorem cut_cell (hi : i < S.length) (l c : Nat) : cellAt (subR S 0 i ++ subR S ((i : Int) + 1) S.length) (l : Nat) c = if l < i then cellAt S (l : Nat) c else cellAt S ((l + 1 : Nat) : Int) c := by
  unfold cellAt
  rw [Int.toNat_natCast, Int.toNat_natCast, cut_get hi]
  split <;> rfl
theorem cut_len (hi : i < S.length) : (subR S 0 i ++ subR S ((i : Int) + 1) S.length).length = S.length - 1 := by
  unfold subR; simp; omega
theorem ver_cut (h : verR (vS ds S di) = true) (hk : k < (rAt ds 4).length) (hi : i < S.length) (hc : lg S i 0 = lg (rAt ds 11) k 0) : verE (vS ds (subR S 0 i ++ subR S ((i : Int) + 1) S.length) di) = 0 ∧ verR (vS ds (subR S 0 i ++ subR S ((i : Int) + 1) S.length) di) = false := by
  obtain ⟨h1, ⟨h2, h3⟩, h4⟩ := verR_iff.1 h
  obtain ⟨s1, s2, s3⟩ := shs_spec (mkO_parts h1).1
  have s1 : S.length ≤ 20 := s1
  have s2 : ∀ k : Nat, k < S.length → sheetL (rowSh S k) = true := s2
  have s3 : ∀ k l : Nat, k < l → l < S.length → lg S k 0 < lg S l 0 := s3
  have elg : ∀ l : Nat, lg (subR S 0 i ++ subR S ((i : Int) + 1) S.length) l 0 = if l < i then lg S l 0 else lg S (l + 1 : Nat) 0 := fun l => by
    unfold lg; rw [cut_cell hi]; split <;> rfl
  have erow : ∀ l : Nat, rowSh (subR S 0 i ++ subR S ((i : Int) + 1) S.length) l = if l < i then rowSh S l else rowSh S (l + 1) := fun l => by
    by_cases e : l < i
    · rw [if_pos e]
      unfold rowSh lg lr
      simp only [cut_cell hi, if_pos e]
    · rw [if_neg e]
      unfold rowSh lg lr
      simp only [cut_cell hi, if_neg e]
  have hs : shsB (subR S 0 i ++ subR S ((i : Int) + 1) S.length) = true := by
    refine shsB_of (by rw [cut_len hi]; omega) (fun l hl => ?_) (fun l hl => ?_)
    · rw [cut_len hi] at hl
      rw [erow l]
      split
      · exact s2 l (by omega)
      · exact s2 (l + 1) (by omega)
    · rw [cut_len hi] at hl
      rw [elg l, elg (l + 1)]
      split
      · split
        · exact s3 l (l + 1) (by omega) (by omega)
        · exact s3 l (l + 1 + 1) (by omega) (by omega)
      · rw [if_neg (by omega)]
        exact s3 (l + 1) (l + 1 + 1) (by omega) (by omega)
  have hO := mkO_S (di' := di) h1 hs
  refine ⟨verE_of hO, ?_⟩
  rw [Bool.eq_false_iff]
  intro hv
  obtain ⟨_, _, g⟩ := verR_iff.1 hv
  have g1 := (verK_iff.1 (g k hk)).1
  have e : verI (vS ds (subR S 0 i ++ subR S ((i : Int) + 1) S.length) di) k = (subR S 0 i ++ subR S ((i : Int) + 1) S.length).length := by
    show idxN (subR S 0 i ++ subR S ((i : Int) + 1) S.length) (lg (rAt ds 11) k 0) (subR S 0 i ++ subR S ((i : Int) + 1) S.length).length 0 = _
    rw [idxN_no _ _ (fun l _ hl => ?_), Nat.zero_add]
    rw [cut_len hi] at hl
    rw [elg l, ← hc]
    split
    · have := s3 l i (by omega) hi; omega
    · have := s3 i (l + 1) (by omega) (by omega); omega
  rw [e] at g1
  exact absurd g1 (Nat.lt_irrefl _)
theorem ver_other (h : verR (vS ds S di) = true) (hk : k < (rAt ds 4).length) (hS : wfS S) (hi : i < S.length) (hc : lg S i 0 = lg (rAt ds 11) k 0) {o : List D} (ho : sheetW o) (ho0 : iAt o 0 = lg (rAt ds 11) k 0) (hv : digE o = 0) :
    verE (vS ds (updR S i 0 o) di) = 0 ∧ (verR (vS ds (updR S i 0 o) di) = true → digI o = lg di k 0) ∧ (o = rowSh S i → verR (vS ds (updR S i 0 o) di) = true) := by
  obtain ⟨h1, ⟨h2, h3⟩, h4⟩ := verR_iff.1 h
  obtain ⟨s1, s2, s3⟩ := shs_spec (mkO_parts h1).1
  have s1 : S.length ≤ 20 := s1
  have s2 : ∀ k : Nat, k < S.length → sheetL (rowSh S k) = true := s2
  have s3 : ∀ k l : Nat, k < l → l < S.length → lg S k 0 < lg S l 0 := s3
  have hvL : sheetL o = true := by
    unfold digE at hv
    by_cases q : sheetL o = true
    · exact q
    · rw [if_neg q] at hv; exact absurd hv (by decide)
  have er := fun l hl => upd_row hS hi ho l hl
  have elg : ∀ l : Nat, l < S.length → lg (updR S i 0 o) l 0 = lg S l 0 := fun l hl => by
    have q := er l hl
    by_cases e : l = i
    · rw [if_pos e] at q
      have : iAt (rowSh (updR S i 0 o) l) 0 = iAt o 0 := by rw [q]
      have e1 : iAt (rowSh (updR S i 0 o) l) 0 = lg (updR S i 0 o) l 0 := rfl
      rw [← e1, this, ho0, e, hc]
    · rw [if_neg e] at q
      exact (row_lg q).1
  have hs : shsB (updR S i 0 o) = true := by
    refine shsB_of (by rw [updR_len]; exact s1) (fun l hl => ?_) (fun l hl => ?_)
    · rw [updR_len] at hl
      rw [er l hl]
      split
      · exact hvL
      · exact s2 l hl
    · rw [updR_len] at hl
      rw [elg l (by omega), elg (l + 1) hl]
      exact s3 l (l + 1) (by omega) hl
  have hO := mkO_S (di' := di) h1 hs
  have idx : ∀ (c : Int) (f n : Nat), n + f = S.length → idxN (updR S i 0 o) c f n = idxN S c f n := fun c f => by
    induction f with
    | zero => intro n _; rfl
    | succ f ih =>
      intro n hn
      rw [idxN, idxN, elg n (by omega), ih (n + 1) (by omega)]
  have eI : ∀ l, verI (vS ds (updR S i 0 o) di) l = verI (vS ds S di) l := fun l => by
    show idxN (updR S i 0 o) (lg (rAt ds 11) l 0) (updR S i 0 o).length 0 = idxN S (lg (rAt ds 11) l 0) S.length 0
    rw [updR_len]
    exact idx _ _ _ (by omega)
  refine ⟨verE_of hO, fun hv2 => ?_, fun he => ?_⟩
  · obtain ⟨_, _, g⟩ := verR_iff.1 hv2
    have g3 := (verK_iff.1 (g k hk)).2.2.1
    rw [eI k] at g3
    have ei : verI (vS ds S di) k = i := by
      show idxN S (lg (rAt ds 11) k 0) S.length 0 = i
      exact idxN_at hc _ _ (Nat.zero_le _) (by omega) (fun l _ hl => by rw [← hc]; have := s3 l i hl hi; omega)
    rw [ei] at g3
    have g3 : digI (rowSh (updR S i 0 o) i) = lg di k 0 := g3
    rw [er i hi, if_pos rfl] at g3
    exact g3
  · have er2 : ∀ l, l < S.length → rowSh (updR S i 0 o) l = rowSh S l := fun l hl => by
      rw [er l hl]
      split
      · rename_i e; rw [he, e]
      · rfl
    refine verR_iff.2 ⟨hO, ⟨h2, h3⟩, fun l hl => ?_⟩
    obtain ⟨g1, g2, g3, g4⟩ := verK_iff.1 (h4 l hl)
    have g1 : verI (vS ds S di) l < S.length := g1
    refine verK_iff.2 ⟨?_, ?_, ?_, ?_⟩
    · rw [eI l]; show _ < (updR S i 0 o).length; rw [updR_len]; exact g1
    · rw [eI l]; show digE (rowSh (updR S i 0 o) _) = 0; rw [er2 _ g1]; exact g2
    · rw [eI l]; show digI (rowSh (updR S i 0 o) _) = _; rw [er2 _ g1]; exact g3
    · rw [eI l]
      rw [rowLeg_eq (a := mkD (vS ds (updR S i 0 o) di) l) (b := mkD (vS ds S di) l) (i := verI (vS ds S di) l) (j := verI (vS ds S di) l) (er2 _ g1) rfl]
      exact g4
end
/-! Bits -/
theorem xor_val (a b : Int) : arEv .xor .u64 a b = (BitVec.ofInt 64 a ^^^ BitVec.ofInt 64 b).toNat := by
  have h : (BitVec.ofInt 64 a ^^^ BitVec.ofInt 64 b).toNat < 18446744073709551616 := (BitVec.ofInt 64 a ^^^ BitVec.ofInt 64 b).isLt
  show IntKind.u64.wrap ((BitVec.ofInt 64 a ^^^ BitVec.ofInt 64 b).toNat : Nat) = _
  exact IntWalk.u64_in _ (by omega)
theorem ofInt_nat {a : Int} (h0 : 0 ≤ a) (h1 : a < 18446744073709551616) : ((BitVec.ofInt 64 a).toNat : Int) = a := by
  rw [BitVec.toNat_ofInt]
  omega
theorem xor_same {a b : Int} (a0 : 0 ≤ a) (a1 : a < 18446744073709551616) (b0 : 0 ≤ b) (b1 : b < 18446744073709551616) : arEv .xor .u64 a b = a ↔ b = 0 := by
  rw [xor_val]
  constructor
  · intro h
    have e : ((BitVec.ofInt 64 a ^^^ BitVec.ofInt 64 b).toNat : Int) = ((BitVec.ofInt 64 a).toNat : Int) := by rw [h, ofInt_nat a0 a1]
    have e : BitVec.ofInt 64 a ^^^ BitVec.ofInt 64 b = BitVec.ofInt 64 a := BitVec.eq_of_toNat_eq (by omega)
    have e2 : BitVec.ofInt 64 b = 0#64 := by
      have := congrArg (fun z => BitVec.ofInt 64 a ^^^ z) e
      simpa [← BitVec.xor_assoc] using this
    have e3 : ((BitVec.ofInt 64 b).toNat : Int) = 0 := by rw [e2]; rfl
    rw [ofInt_nat b0 b1] at e3
    exact e3
  · rintro rfl
    have : BitVec.ofInt 64 0 = 0#64 := rfl
    rw [this, BitVec.xor_zero, ofInt_nat a0 a1]
theorem digStep_in (h x : Int) : 0 ≤ digStep h x ∧ digStep h x < 18446744073709551616 := by
  unfold digStep
  rw [xor_val]
  have := (BitVec.ofInt 64 (digM h x) ^^^ BitVec.ofInt 64 (arEv .shr .u64 (digM h x) 32)).isLt
  omega
theorem digN_in (r : Rows) : ∀ i, 0 ≤ digN r i ∧ digN r i < 18446744073709551616
  | 0 => by
    show 0 ≤ IntKind.u64.wrap _ ∧ IntKind.u64.wrap _ < _
    rw [IntKind.wrap_u64]
    omega
  | i + 1 => digStep_in _ _
theorem digI_in (ds : List D) : 0 ≤ digI ds ∧ digI ds < 18446744073709551616 := by
  unfold digI
  split
  · exact digN_in _ _
  · decide
end Go.Proofs.YtkjjkckcjgkhmaaGreat
/- Chapter 40: the tree of the law CheckOthers. -/
namespace Go.Proofs.YtkjjkckcjgkhmaaGreat
open Go.RowKit
def u64 : Sh := .one (.int .u64)
def cR14Same := ctD [shee, shee] fun al => .ret (bV (.fn 290 al))
def ctOth : Ct := (22, cR14Same) :: ctO4
def trLawOthers : TT OpR :=
(.ite (.cmp .gtr (.len (.var 0)) (.lit 4))
 (.ret ((.v (.one (.z (.bool (.lit true))))), [], 4))
 (.ite (.cmp .gtr (.len (.var 4)) (.lit 6))
 (.ret ((.v (.one (.z (.bool (.lit true))))), [], 4))
 (.loop 0 5000 ⟨[(0, (.lit 0))], [], []⟩
 (.ite (.cmp .lss (.var 5000) (.len (.var 0)))
 (.ob (.tru (.cmp .leq (.lit 0) (.var 5000)))
 (.ob (.tru (.cmp .lss (.var 5000) (.len (.var 0))))
 (.ite (.cmp .gtr (.len (.rd (.var 0) (.var 5000) 12)) (.lit 12))
 (.ret ((.v (.one (.z (.bool (.lit true))))), [], 5))
 (.next 0 ⟨[(0, (.ar .add .i64 (.var 5000) (.lit 1)))], [], []⟩))))
 (.ite (.cmp .gtr (.len (.var 26)) (.lit 12))
 (.ret ((.v (.one (.z (.bool (.lit true))))), [], 5))
 (.ite (.cmp .neq (.fn 244 (.x (.var 0) (.i (.var 1) (.i (.var 2) (.i (.var 3) (.x (.var 4) (.i (.var 5) (.i (.var 6) (.x (.var 7) (.i (.var 8) (.i (.var 9) (.x (.var 10) (.x (.var 11) (.x (.var 12) .nil)))))))))))))) (.lit 0))
 (.ret ((.v (.one (.z (.bool (.lit true))))), [], 5))
 (.ite (.not (.fn 243 (.x (.var 0) (.i (.var 1) (.i (.var 2) (.i (.var 3) (.x (.var 4) (.i (.var 5) (.i (.var 6) (.x (.var 7) (.i (.var 8) (.i (.var 9) (.x (.var 10) (.x (.var 11) (.x (.var 12) .nil)))))))))))))))
 (.ret ((.v (.one (.z (.bool (.lit true))))), [], 5))
 (.ite (.cmp .lss (.var 13) (.lit 0))
 (.ret ((.v (.one (.z (.bool (.lit true))))), [], 5))
 (.ite (.cmp .geq (.var 13) (.len (.var 11)))
 (.ret ((.v (.one (.z (.bool (.lit true))))), [], 5))
 (.ite (.cmp .geq (.var 13) (.len (.var 12)))
 (.ret ((.v (.one (.z (.bool (.lit true))))), [], 5))
 (.ob (.tru (.cmp .leq (.lit 0) (.var 13)))
 (.ob (.tru (.cmp .lss (.var 13) (.len (.var 11))))
 (.loop 1 6000 ⟨[(0, (.lit 0))], [], []⟩
 (.ite (.cmp .lss (.var 6000) (.len (.var 0)))
 (.ob (.tru (.cmp .leq (.lit 0) (.var 6000)))
 (.ob (.tru (.cmp .lss (.var 6000) (.len (.var 0))))
 (.ite (.cmp .eql (.rd (.var 0) (.var 6000) 0) (.rd (.var 11) (.var 13) 0))
 (.ite (.cmp .lss (.var 6000) (.lit 0))
 (.ret ((.v (.one (.z (.bool (.lit false))))), [], 6))
 (.ob (.tru (.cmp .leq (.len (.var 11)) (.lit 1000000)))
 (.ob (.tru (.cmp .leq (.len (.var 12)) (.lit 1000000)))
 (.ob (.tru (.cmp .leq (.lit 0) (.var 13)))
 (.ob (.tru (.cmp .lss (.var 13) (.len (.var 12))))
 (.ob (.tru (.cmp .leq (.lit 0) (.var 13)))
 (.ob (.tru (.cmp .lss (.var 13) (.len (.var 12))))
 (.ite (.cmp .eql (.fn 244 (.x (.var 0) (.i (.var 1) (.i (.var 2) (.i (.var 3) (.x (.var 4) (.i (.var 5) (.i (.var 6) (.x (.var 7) (.i (.var 8) (.i (.var 9) (.x (.var 10) (.x (.var 11) (.x (.upd (.var 12) (.var 13) 0 (.i (.ar .xor .u64 (.rd (.var 12) (.var 13) 0) (.var 27)) .nil)) .nil)))))))))))))) (.lit 0))
 (.ob (.tru (.lit true))
 (.ob (.tru (.cmp .leq (.lit 0) (.var 6000)))
 (.ob (.tru (.cmp .leq (.var 6000) (.len (.var 0))))
 (.ob (.tru (.cmp .leq (.len (.sub (.var 0) (.lit 0) (.var 6000))) (.lit 1000000)))
 (.ob (.tru (.cmp .leq (.lit 0) (.ar .add .i64 (.var 6000) (.lit 1))))
 (.ob (.tru (.cmp .leq (.ar .add .i64 (.var 6000) (.lit 1)) (.len (.var 0))))
 (.ob (.tru (.lit true))
 (.ob (.tru (.cmp .leq (.len (.app (.sub (.var 0) (.lit 0) (.var 6000)) (.sub (.var 0) (.ar .add .i64 (.var 6000) (.lit 1)) (.len (.var 0))))) (.lit 1000000)))
 (.ite (.eqb (.fn 243 (.x (.var 0) (.i (.var 1) (.i (.var 2) (.i (.var 3) (.x (.var 4) (.i (.var 5) (.i (.var 6) (.x (.var 7) (.i (.var 8) (.i (.var 9) (.x (.var 10) (.x (.var 11) (.x (.upd (.var 12) (.var 13) 0 (.i (.ar .xor .u64 (.rd (.var 12) (.var 13) 0) (.var 27)) .nil)) .nil)))))))))))))) (.cmp .eql (.var 27) (.lit 0)))
 (.ite (.cmp .eql (.fn 244 (.x (.app (.sub (.var 0) (.lit 0) (.var 6000)) (.sub (.var 0) (.ar .add .i64 (.var 6000) (.lit 1)) (.len (.var 0)))) (.i (.var 1) (.i (.var 2) (.i (.var 3) (.x (.var 4) (.i (.var 5) (.i (.var 6) (.x (.var 7) (.i (.var 8) (.i (.var 9) (.x (.var 10) (.x (.var 11) (.x (.var 12) .nil)))))))))))))) (.lit 0))
 (.ob (.tru (.cmp .leq (.lit 0) (.var 13)))
 (.ob (.tru (.cmp .lss (.var 13) (.len (.var 11))))
 (.ite (.cmp .neq (.fn 234 (.i (.rd (.var 11) (.var 13) 0) (.i (.var 15) (.i (.var 16) (.i (.var 17) (.i (.var 18) (.i (.var 19) (.i (.var 20) (.i (.var 21) (.i (.var 22) (.i (.var 23) (.i (.var 24) (.x (.var 25) (.x (.var 26) .nil)))))))))))))) (.lit 0))
 (.ret ((.v (.one (.z (.bool (.not (.fn 243 (.x (.app (.sub (.var 0) (.lit 0) (.var 6000)) (.sub (.var 0) (.ar .add .i64 (.var 6000) (.lit 1)) (.len (.var 0)))) (.i (.var 1) (.i (.var 2) (.i (.var 3) (.x (.var 4) (.i (.var 5) (.i (.var 6) (.x (.var 7) (.i (.var 8) (.i (.var 9) (.x (.var 10) (.x (.var 11) (.x (.var 12) .nil))))))))))))))))))), [], 13))
 (.ob (.tru (.cmp .leq (.len (.var 0)) (.lit 1000000)))
 (.ob (.tru (.cmp .leq (.lit 0) (.var 6000)))
 (.ob (.tru (.cmp .lss (.var 6000) (.len (.var 0))))
 (.ite (.not (.fn 243 (.x (.app (.sub (.var 0) (.lit 0) (.var 6000)) (.sub (.var 0) (.ar .add .i64 (.var 6000) (.lit 1)) (.len (.var 0)))) (.i (.var 1) (.i (.var 2) (.i (.var 3) (.x (.var 4) (.i (.var 5) (.i (.var 6) (.x (.var 7) (.i (.var 8) (.i (.var 9) (.x (.var 10) (.x (.var 11) (.x (.var 12) .nil)))))))))))))))
 (.ite (.cmp .eql (.fn 244 (.x (.upd (.var 0) (.var 6000) 0 (.i (.rd (.var 11) (.var 13) 0) (.i (.var 15) (.i (.var 16) (.i (.var 17) (.i (.var 18) (.i (.var 19) (.i (.var 20) (.i (.var 21) (.i (.var 22) (.i (.var 23) (.i (.var 24) (.x (.var 25) (.x (.var 26) .nil)))))))))))))) (.i (.var 1) (.i (.var 2) (.i (.var 3) (.x (.var 4) (.i (.var 5) (.i (.var 6) (.x (.var 7) (.i (.var 8) (.i (.var 9) (.x (.var 10) (.x (.var 11) (.x (.var 12) .nil)))))))))))))) (.lit 0))
 (.ob (.tru (.cmp .leq (.lit 0) (.var 13)))
 (.ob (.tru (.cmp .lss (.var 13) (.len (.var 12))))
 (.ite (.cmp .eql (.fn 233 (.i (.rd (.var 11) (.var 13) 0) (.i (.var 15) (.i (.var 16) (.i (.var 17) (.i (.var 18) (.i (.var 19) (.i (.var 20) (.i (.var 21) (.i (.var 22) (.i (.var 23) (.i (.var 24) (.x (.var 25) (.x (.var 26) .nil)))))))))))))) (.rd (.var 12) (.var 13) 0))
 (.ob (.tru (.cmp .leq (.lit 0) (.var 6000)))
 (.ob (.tru (.cmp .lss (.var 6000) (.len (.var 0))))
 (.ite (.not (.fn 290 (.i (.rd (.var 11) (.var 13) 0) (.i (.var 15) (.i (.var 16) (.i (.var 17) (.i (.var 18) (.i (.var 19) (.i (.var 20) (.i (.var 21) (.i (.var 22) (.i (.var 23) (.i (.var 24) (.x (.var 25) (.x (.var 26) (.i (.rd (.var 0) (.var 6000) 0) (.i (.rd (.var 0) (.var 6000) 1) (.i (.rd (.var 0) (.var 6000) 2) (.i (.rd (.var 0) (.var 6000) 3) (.i (.rd (.var 0) (.var 6000) 4) (.i (.rd (.var 0) (.var 6000) 5) (.i (.rd (.var 0) (.var 6000) 6) (.i (.rd (.var 0) (.var 6000) 7) (.i (.rd (.var 0) (.var 6000) 8) (.i (.rd (.var 0) (.var 6000) 9) (.i (.rd (.var 0) (.var 6000) 10) (.x (.rd (.var 0) (.var 6000) 11) (.x (.rd (.var 0) (.var 6000) 12) .nil))))))))))))))))))))))))))))
 (.ret ((.v (.one (.z (.bool (.lit true))))), [], 15))
 (.ret ((.v (.one (.z (.bool (.fn 243 (.x (.upd (.var 0) (.var 6000) 0 (.i (.rd (.var 11) (.var 13) 0) (.i (.var 15) (.i (.var 16) (.i (.var 17) (.i (.var 18) (.i (.var 19) (.i (.var 20) (.i (.var 21) (.i (.var 22) (.i (.var 23) (.i (.var 24) (.x (.var 25) (.x (.var 26) .nil)))))))))))))) (.i (.var 1) (.i (.var 2) (.i (.var 3) (.x (.var 4) (.i (.var 5) (.i (.var 6) (.x (.var 7) (.i (.var 8) (.i (.var 9) (.x (.var 10) (.x (.var 11) (.x (.var 12) .nil)))))))))))))))))), [], 15)))))
 (.ite (.not (.fn 243 (.x (.upd (.var 0) (.var 6000) 0 (.i (.rd (.var 11) (.var 13) 0) (.i (.var 15) (.i (.var 16) (.i (.var 17) (.i (.var 18) (.i (.var 19) (.i (.var 20) (.i (.var 21) (.i (.var 22) (.i (.var 23) (.i (.var 24) (.x (.var 25) (.x (.var 26) .nil)))))))))))))) (.i (.var 1) (.i (.var 2) (.i (.var 3) (.x (.var 4) (.i (.var 5) (.i (.var 6) (.x (.var 7) (.i (.var 8) (.i (.var 9) (.x (.var 10) (.x (.var 11) (.x (.var 12) .nil)))))))))))))))
 (.ob (.tru (.cmp .leq (.lit 0) (.var 6000)))
 (.ob (.tru (.cmp .lss (.var 6000) (.len (.var 0))))
 (.ite (.not (.fn 290 (.i (.rd (.var 11) (.var 13) 0) (.i (.var 15) (.i (.var 16) (.i (.var 17) (.i (.var 18) (.i (.var 19) (.i (.var 20) (.i (.var 21) (.i (.var 22) (.i (.var 23) (.i (.var 24) (.x (.var 25) (.x (.var 26) (.i (.rd (.var 0) (.var 6000) 0) (.i (.rd (.var 0) (.var 6000) 1) (.i (.rd (.var 0) (.var 6000) 2) (.i (.rd (.var 0) (.var 6000) 3) (.i (.rd (.var 0) (.var 6000) 4) (.i (.rd (.var 0) (.var 6000) 5) (.i (.rd (.var 0) (.var 6000) 6) (.i (.rd (.var 0) (.var 6000) 7) (.i (.rd (.var 0) (.var 6000) 8) (.i (.rd (.var 0) (.var 6000) 9) (.i (.rd (.var 0) (.var 6000) 10) (.x (.rd (.var 0) (.var 6000) 11) (.x (.rd (.var 0) (.var 6000) 12) .nil))))))))))))))))))))))))))))
 (.ret ((.v (.one (.z (.bool (.lit true))))), [], 15))
 (.ret ((.v (.one (.z (.bool (.fn 243 (.x (.upd (.var 0) (.var 6000) 0 (.i (.rd (.var 11) (.var 13) 0) (.i (.var 15) (.i (.var 16) (.i (.var 17) (.i (.var 18) (.i (.var 19) (.i (.var 20) (.i (.var 21) (.i (.var 22) (.i (.var 23) (.i (.var 24) (.x (.var 25) (.x (.var 26) .nil)))))))))))))) (.i (.var 1) (.i (.var 2) (.i (.var 3) (.x (.var 4) (.i (.var 5) (.i (.var 6) (.x (.var 7) (.i (.var 8) (.i (.var 9) (.x (.var 10) (.x (.var 11) (.x (.var 12) .nil)))))))))))))))))), [], 15)))))
 (.ret ((.v (.one (.z (.bool (.lit false))))), [], 15))))))
 (.ret ((.v (.one (.z (.bool (.lit false))))), [], 15)))
 (.ret ((.v (.one (.z (.bool (.lit false))))), [], 15)))))))))
 (.ob (.tru (.cmp .leq (.lit 0) (.var 13)))
 (.ob (.tru (.cmp .lss (.var 13) (.len (.var 11))))
 (.ite (.cmp .neq (.fn 234 (.i (.rd (.var 11) (.var 13) 0) (.i (.var 15) (.i (.var 16) (.i (.var 17) (.i (.var 18) (.i (.var 19) (.i (.var 20) (.i (.var 21) (.i (.var 22) (.i (.var 23) (.i (.var 24) (.x (.var 25) (.x (.var 26) .nil)))))))))))))) (.lit 0))
 (.ret ((.v (.one (.z (.bool (.lit false))))), [], 13))
 (.ob (.tru (.cmp .leq (.len (.var 0)) (.lit 1000000)))
 (.ob (.tru (.cmp .leq (.lit 0) (.var 6000)))
 (.ob (.tru (.cmp .lss (.var 6000) (.len (.var 0))))
 (.ret ((.v (.one (.z (.bool (.lit false))))), [], 15)))))))))
 (.ob (.tru (.cmp .leq (.lit 0) (.var 13)))
 (.ob (.tru (.cmp .lss (.var 13) (.len (.var 11))))
 (.ite (.cmp .neq (.fn 234 (.i (.rd (.var 11) (.var 13) 0) (.i (.var 15) (.i (.var 16) (.i (.var 17) (.i (.var 18) (.i (.var 19) (.i (.var 20) (.i (.var 21) (.i (.var 22) (.i (.var 23) (.i (.var 24) (.x (.var 25) (.x (.var 26) .nil)))))))))))))) (.lit 0))
 (.ret ((.v (.one (.z (.bool (.lit false))))), [], 13))
 (.ob (.tru (.cmp .leq (.len (.var 0)) (.lit 1000000)))
 (.ob (.tru (.cmp .leq (.lit 0) (.var 6000)))
 (.ob (.tru (.cmp .lss (.var 6000) (.len (.var 0))))
 (.ret ((.v (.one (.z (.bool (.lit false))))), [], 15)))))))))))))))))
 (.ob (.tru (.lit true))
 (.ob (.tru (.cmp .leq (.lit 0) (.var 6000)))
 (.ob (.tru (.cmp .leq (.var 6000) (.len (.var 0))))
 (.ob (.tru (.cmp .leq (.len (.sub (.var 0) (.lit 0) (.var 6000))) (.lit 1000000)))
 (.ob (.tru (.cmp .leq (.lit 0) (.ar .add .i64 (.var 6000) (.lit 1))))
 (.ob (.tru (.cmp .leq (.ar .add .i64 (.var 6000) (.lit 1)) (.len (.var 0))))
 (.ob (.tru (.lit true))
 (.ob (.tru (.cmp .leq (.len (.app (.sub (.var 0) (.lit 0) (.var 6000)) (.sub (.var 0) (.ar .add .i64 (.var 6000) (.lit 1)) (.len (.var 0))))) (.lit 1000000)))
 (.ob (.tru (.cmp .leq (.lit 0) (.var 13)))
 (.ob (.tru (.cmp .lss (.var 13) (.len (.var 11))))
 (.ite (.cmp .neq (.fn 234 (.i (.rd (.var 11) (.var 13) 0) (.i (.var 15) (.i (.var 16) (.i (.var 17) (.i (.var 18) (.i (.var 19) (.i (.var 20) (.i (.var 21) (.i (.var 22) (.i (.var 23) (.i (.var 24) (.x (.var 25) (.x (.var 26) .nil)))))))))))))) (.lit 0))
 (.ret ((.v (.one (.z (.bool (.lit false))))), [], 13))
 (.ob (.tru (.cmp .leq (.len (.var 0)) (.lit 1000000)))
 (.ob (.tru (.cmp .leq (.lit 0) (.var 6000)))
 (.ob (.tru (.cmp .lss (.var 6000) (.len (.var 0))))
 (.ret ((.v (.one (.z (.bool (.lit false))))), [], 15))))))))))))))))))))))))
 (.next 1 ⟨[(0, (.ar .add .i64 (.var 6000) (.lit 1)))], [], []⟩))))
 (.ret ((.v (.one (.z (.bool (.lit false))))), [], 6))))))))))))))))
set_option maxRecDepth 100000 in
theorem trLawOthers_is : T.norm 0 (call Tryz.prog ctOth (Lt.of []) 100 6 (symArgs 0 [caseS, certS, it, shee, u64]) [] 0) TT.ret = trLawOthers := by kernel_rfl
theorem trLawOthers_low : trLawOthers.low 1000 = true := by kernel_rfl
end Go.Proofs.YtkjjkckcjgkhmaaGreat
/- Chapter 40: the law CheckOthers. -/
namespace Go.Proofs.YtkjjkckcjgkhmaaGreat
open Go.RowKit
def N15 : Interp where
  fi n l := N11.fi n l
  fb n l := match n with | 290 => shSame l | n => N11.fb n l
  fd n l := N11.fd n l
theorem N15_N11d {ρ : Env} (h : SeesD ρ N15 8) : SeesD ρ N11 8 := fun n l hn => by
  rw [h n l (by omega)]
  rfl
theorem N15_N11 {ρ : Env} (h : Sees ρ N15 300) : Sees ρ N11 260 := h.trans (by decide) fun n l hn => by
  refine ⟨?_, ?_⟩
  ·
    rfl
  ·
    simp only [N15]
    split <;> first | omega | rfl
theorem cR14Same_ok {ρ : Env} (h : Sees ρ N15 300) : CtOne Tryz.prog ρ 22 cR14Same := ctD_ok gR14Same (fun _ => rfl) (fun al => by simp only [bV, V.s0, V.val, V2.val, S.val, S0.val, B.ev, (h 290 _ (by decide)).2, N15])
theorem ctOth_ok {ρ : Env} (h : Sees ρ N15 300) (hd : SeesD ρ N10 6) : CtOk Tryz.prog ρ ctOth := .cons (cR14Same_ok h) (ctO4_ok (N11_N10 (N15_N11 h)) hd)
theorem oth_rep {W : World} {vals : List Value} {ds : List D} (h : repSh W [caseS, certS, it, shee, u64] vals ds) : wfS (rAt ds 0) ∧ wfI 1 (rAt ds 12) ∧ wfI 1 (rAt ds 25) ∧ wfF (rAt ds 26) := by
  obtain ⟨v, vs', d, ds', rfl, rfl, ⟨us, rfl, h0⟩, v1, vs1, d1, ds1, rfl, rfl, ⟨u1, rfl, h1⟩, v2, vs2, d2, ds2, rfl, rfl, ⟨x2, rfl, h2⟩, v3, vs3, d3, ds3, rfl, rfl, ⟨u3, rfl, h3⟩, _⟩ := h
  have l0 : d.length = 11 := (reps_len h0).2
  have l1 : d1.length = 2 := (reps_len h1).2
  have l3 : d3.length = 13 := (reps_len h3).2
  obtain ⟨_, c0, _, e0, q0⟩ := reps_get (j := 0) h0 rfl
  obtain ⟨_, c1, _, e1, q1⟩ := reps_get (j := 1) h1 rfl
  obtain ⟨_, c11, _, e11, q11⟩ := reps_get (j := 11) h3 rfl
  obtain ⟨_, c12, _, e12, q12⟩ := reps_get (j := 12) h3 rfl
  have gd : ∀ (l : List D) (i : Nat) (d : D), l[i]? = some d → l.getD i (.i 0) = d := fun l i d h => by rw [List.getD_eq_getElem?_getD, h]; rfl
  have a0 : (d ++ (d1 ++ ([x2] ++ (d3 ++ ds3))))[0]? = some c0 := by rw [List.getElem?_append_left (by omega)]; exact e0
  have a12 : (d ++ (d1 ++ ([x2] ++ (d3 ++ ds3))))[12]? = some c1 := by rw [List.getElem?_append_right (by omega), List.getElem?_append_left (by omega), l0]; exact e1
  have a25 : (d ++ (d1 ++ ([x2] ++ (d3 ++ ds3))))[25]? = some c11 := by rw [List.getElem?_append_right (by omega), List.getElem?_append_right (by omega), List.getElem?_append_right (by simp; omega), List.getElem?_append_left (by simp; omega), l0, l1]; exact e11
  have a26 : (d ++ (d1 ++ ([x2] ++ (d3 ++ ds3))))[26]? = some c12 := by rw [List.getElem?_append_right (by omega), List.getElem?_append_right (by omega), List.getElem?_append_right (by simp; omega), List.getElem?_append_left (by simp; omega), l0, l1]; exact e12
  unfold rAt
  rw [gd _ _ _ a0, gd _ _ _ a12, gd _ _ _ a25, gd _ _ _ a26]
  exact ⟨rep_wfS q0, rep_wf rfl q1, rep_wf rfl q11, rep_wfF q12⟩
theorem row_wf {r : Rows} (hr : wfS r) {i : Nat} (h : i < r.length) : wfI 1 (lr r i 11) ∧ wfF (lr r i 12) := by
  have e := List.getElem?_eq_getElem h
  obtain ⟨a0, a1, a2, a3, a4, a5, a6, a7, a8, a9, a10, x, y, e1, w1, w2⟩ := hr i _ e
  rw [e1] at e
  have c : ∀ j, cellAt r i j = ([D.i a0, .i a1, .i a2, .i a3, .i a4, .i a5, .i a6, .i a7, .i a8, .i a9, .i a10, .l x, .l y][j]?).getD (.i 0) := fun j => by unfold cellAt; rw [Int.toNat_natCast, e]; rfl
  unfold lr
  rw [c, c]
  exact ⟨w1, w2⟩
theorem N15b243 (W : World) (ds l : List D) : (envOf N15 W ds).fb 243 l = verR l := by simp only [envOf, N15, N11, N10, N9c, N9b, N9, N8, N7, N6, N5, N4, N3, N2, N1, KG, KF, KE, KD, KC, KB, KA, K9, K8, K7, K6, K5, K]
theorem N15i244 (W : World) (ds l : List D) : (envOf N15 W ds).fi 244 l = verE l := by simp only [envOf, N15, N11, N10, N9c, N9b, N9, N8, N7, N6, N5, N4, N3, N2, N1, KG, KF, KE, KD, KC, KB, KA, K9, K8, K7, K6, K5, K]
theorem N15i233 (W : World) (ds l : List D) : (envOf N15 W ds).fi 233 l = digI l := by simp only [envOf, N15, N11, N10, N9c, N9b, N9, N8, N7, N6, N5, N4, N3, N2, N1, KG, KF, KE, KD, KC, KB, KA, K9, K8, K7, K6, K5, K]
theorem N15i234 (W : World) (ds l : List D) : (envOf N15 W ds).fi 234 l = digE l := by simp only [envOf, N15, N11, N10, N9c, N9b, N9, N8, N7, N6, N5, N4, N3, N2, N1, KG, KF, KE, KD, KC, KB, KA, K9, K8, K7, K6, K5, K]
theorem N15b290 (W : World) (ds l : List D) : (envOf N15 W ds).fb 290 l = shSame l := by simp only [envOf, N15, N11, N10, N9c, N9b, N9, N8, N7, N6, N5, N4, N3, N2, N1, KG, KF, KE, KD, KC, KB, KA, K9, K8, K7, K6, K5, K]
set_option maxHeartbeats 4000000 in
theorem gOthersLaw : GivesIf Tryz.prog 6 [caseS, certS, it, shee, u64] (fun ds => 0 ≤ iAt ds 27 ∧ iAt ds 27 < 18446744073709551616) (fun _ => .bool true) := by
  refine fn_gives N15 (by kernel_rfl) (fun ρ h => ctOth_ok (Sees.of h 300) (N11_N10d (N15_N11d (SeesD.of h 8)))) (by kernel_rfl) trLawOthers_is trLawOthers_low (by decide) (fun W vals ds hr ⟨hu0, hu1⟩ => ?_)
  obtain ⟨wS, wD, wO1, wO2⟩ := oth_rep hr
  have eV : ∀ S di, [D.l S, .i (iAt ds 1), .i (iAt ds 2), .i (iAt ds 3), .l (rAt ds 4), .i (iAt ds 5), .i (iAt ds 6), .l (rAt ds 7), .i (iAt ds 8), .i (iAt ds 9), .l (rAt ds 10), .l (rAt ds 11), .l di] = vS ds S di := fun _ _ => rfl
  simp only [trLawOthers, TT.sat_ret, TT.sat_ite, TT.sat_ob, TT.sat_next, TT.sat_stuck, put_i, put_b, put_d, put_fi, put_fb, put_fd, Ob.ok, B.ev, E.ev, X.ev, AL.ev, cmp_t, cmp_f, arEv, V.plain, V2.plain, S.plain, S0.plain, V.val, V2.val, S.val, S0.val, bV, iV, List.all_cons, List.all_nil, Bool.and_true, Bool.and_self, envOf_i, envOf_b, envOf_d, List.map_cons, List.map_nil, true_and, Bool.not_eq_true', Bool.not_eq_false', Bool.not_not, Bool.and_eq_true, and_f, cell_lg, cell_lb, cell_lr, cmpP, val_i, val_b, val_d, aget, Nat.reduceBEq, beq_self_eq_true, Bool.false_eq_true, if_true, if_false, Nat.reduceLT, Nat.reduceSub, Nat.sub_self, Nat.lt_irrefl]
  clear hr
  refine ⟨fun _ => trivial, fun h4 => ⟨fun _ => trivial, fun h6 => ?_⟩⟩
  refine TT.sat_loop (fun v => ∃ i : Nat, v.i 0 = i ∧ i ≤ (rAt ds 0).length) (fun v => (rAt ds 0).length - (v.i 0).toNat) ⟨0, by simp [val_i, aget, E.ev], by omega⟩ (fun v hv => ?_)
  obtain ⟨i, i0, i1⟩ := hv
  simp only [TT.sat_ret, TT.sat_ite, TT.sat_ob, TT.sat_next, TT.sat_stuck, put_i, put_b, put_d, put_fi, put_fb, put_fd, Ob.ok, B.ev, E.ev, X.ev, AL.ev, cmp_t, cmp_f, arEv, V.plain, V2.plain, S.plain, S0.plain, V.val, V2.val, S.val, S0.val, bV, iV, List.all_cons, List.all_nil, Bool.and_true, Bool.and_self, envOf_i, envOf_b, envOf_d, List.map_cons, List.map_nil, true_and, Bool.not_eq_true', Bool.not_eq_false', Bool.not_not, Bool.and_eq_true, and_f, cell_lg, cell_lb, cell_lr, cmpP, val_i, val_b, val_d, aget, Nat.reduceBEq, beq_self_eq_true, Bool.false_eq_true, if_true, if_false, Nat.reduceLT, Nat.reduceSub, Nat.sub_self, Nat.lt_irrefl, i0, N15b243, N15i244, eV]
  refine ⟨fun hc => ⟨by omega, hc, fun _ => trivial, fun _ => ?_⟩, fun hc => ⟨fun _ => trivial, fun h12 => ⟨fun _ => trivial, fun hE => ⟨fun _ => trivial, fun hV => ⟨fun _ => trivial, fun k0 => ⟨fun _ => trivial, fun k1 => ⟨fun _ => trivial, fun k2 => ⟨by omega, by omega, ?_⟩⟩⟩⟩⟩⟩⟩⟩
  · rw [wrap_in ((i : Int) + 1) (by omega) (by omega)]
    exact ⟨⟨i + 1, rfl, by omega⟩, by omega⟩
  clear i0 i1 hc
  obtain ⟨k, hk⟩ := Int.eq_ofNat_of_zero_le (a := iAt ds 13) (by omega)
  obtain ⟨hO, ⟨l1, l2⟩, hK⟩ := verR_iff.1 hV
  have l1 : (rAt ds 11).length = (rAt ds 4).length := l1
  have l2 : (rAt ds 12).length = (rAt ds 4).length := l2
  have hk2 : k < (rAt ds 4).length := by omega
  obtain ⟨z1, _, z3, _⟩ := verK_iff.1 (hK k hk2)
  have z1 : verI (vS ds (rAt ds 0) (rAt ds 12)) k < (rAt ds 0).length := z1
  have z3 : digI (rowSh (rAt ds 0) (verI (vS ds (rAt ds 0) (rAt ds 12)) k)) = lg (rAt ds 12) k 0 := z3
  refine TT.sat_loop (fun u => ∃ n : Nat, u.i 0 = n ∧ n ≤ (rAt ds 0).length ∧ idxN (rAt ds 0) (lg (rAt ds 11) k 0) ((rAt ds 0).length - n) n = verI (vS ds (rAt ds 0) (rAt ds 12)) k) (fun u => (rAt ds 0).length - (u.i 0).toNat) ⟨0, by simp [val_i, aget, E.ev], by omega, rfl⟩ (fun u hu => ?_)
  obtain ⟨n, n0, n1, n2⟩ := hu
  simp only [TT.sat_ret, TT.sat_ite, TT.sat_ob, TT.sat_next, TT.sat_stuck, put_i, put_b, put_d, put_fi, put_fb, put_fd, Ob.ok, B.ev, E.ev, X.ev, AL.ev, cmp_t, cmp_f, arEv, V.plain, V2.plain, S.plain, S0.plain, V.val, V2.val, S.val, S0.val, bV, iV, List.all_cons, List.all_nil, Bool.and_true, Bool.and_self, envOf_i, envOf_b, envOf_d, List.map_cons, List.map_nil, true_and, Bool.not_eq_true', Bool.not_eq_false', Bool.not_not, Bool.and_eq_true, and_f, cell_lg, cell_lb, cell_lr, cmpP, val_i, val_b, val_d, aget, Nat.reduceBEq, beq_self_eq_true, Bool.false_eq_true, if_true, if_false, Nat.reduceLT, Nat.reduceSub, Nat.sub_self, Nat.lt_irrefl, X.ev, n0, hk, N15b243, N15i244, N15i233, N15i234, N15b290, eV]
  refine ⟨fun hc => ?_, fun hc => ?_⟩
  rotate_left
  · have h0 : (rAt ds 0).length - n = 0 := by omega
    rw [h0, idxN] at n2
    omega
  obtain ⟨f, hf⟩ : ∃ f, (rAt ds 0).length - n = f + 1 := ⟨(rAt ds 0).length - n - 1, by omega⟩
  have hf' : (rAt ds 0).length - (n + 1) = f := by omega
  rw [hf, idxN] at n2
  rw [wrap_in ((n : Int) + 1) (by omega) (by omega)]
  refine ⟨by omega, hc, fun g => ?_, fun g => ⟨⟨n + 1, rfl, by omega, by rw [hf', ← n2, if_neg g]⟩, by omega⟩⟩
  rw [if_pos g] at n2
  rw [← n2] at z3
  have hn : n < (rAt ds 0).length := by omega
  have d1 := ver_digest (x := arEv .xor .u64 (lg (rAt ds 12) k 0) (iAt ds 27)) hV hk2 (fun row hr => (wD k row hr).1)
  have din := digI_in (rowSh (rAt ds 0) n)
  rw [z3] at din
  have dx : decide (arEv .xor .u64 (lg (rAt ds 12) k 0) (iAt ds 27) = lg (rAt ds 12) k 0) = (iAt ds 27 == 0) := by
    rw [Bool.eq_iff_iff, decide_eq_true_eq, beq_iff_eq]
    exact xor_same din.1 din.2 hu0 hu1
  rw [dx] at d1
  have c1 := ver_cut hV hk2 hn g
  have o1 : digE [.i (lg (rAt ds 11) k 0), .i (iAt ds 15), .i (iAt ds 16), .i (iAt ds 17), .i (iAt ds 18), .i (iAt ds 19), .i (iAt ds 20), .i (iAt ds 21), .i (iAt ds 22), .i (iAt ds 23), .i (iAt ds 24), .l (rAt ds 25), .l (rAt ds 26)] = 0 → _ := fun q => ver_other hV hk2 wS hn g (o := [.i (lg (rAt ds 11) k 0), .i (iAt ds 15), .i (iAt ds 16), .i (iAt ds 17), .i (iAt ds 18), .i (iAt ds 19), .i (iAt ds 20), .i (iAt ds 21), .i (iAt ds 22), .i (iAt ds 23), .i (iAt ds 24), .l (rAt ds 25), .l (rAt ds 26)]) ⟨_, _, _, _, _, _, _, _, _, _, _, _, _, rfl, wO1, wO2⟩ rfl q
  simp only [arEv] at d1
  rw [d1.1, d1.2, c1.1, c1.2]
  have cl := cut_len hn
  have sl : (subR (rAt ds 0) 0 n).length ≤ (rAt ds 0).length := by unfold subR; simp; omega
  obtain ⟨w1, w2⟩ := row_wf wS hn
  have hs := same_eq (a0 := lg (rAt ds 11) k 0) (a1 := iAt ds 15) (a2 := iAt ds 16) (a3 := iAt ds 17) (a4 := iAt ds 18) (a5 := iAt ds 19) (a6 := iAt ds 20) (a7 := iAt ds 21) (a8 := iAt ds 22) (a9 := iAt ds 23) (a10 := iAt ds 24) (b0 := lg (rAt ds 0) n 0) (b1 := lg (rAt ds 0) n 1) (b2 := lg (rAt ds 0) n 2) (b3 := lg (rAt ds 0) n 3) (b4 := lg (rAt ds 0) n 4) (b5 := lg (rAt ds 0) n 5) (b6 := lg (rAt ds 0) n 6) (b7 := lg (rAt ds 0) n 7) (b8 := lg (rAt ds 0) n 8) (b9 := lg (rAt ds 0) n 9) (b10 := lg (rAt ds 0) n 10) wO1 wO2 w1 w2
  have kk : (0 : Int) ≤ k ∧ (k : Int) < (rAt ds 11).length ∧ (k : Int) < (rAt ds 12).length := by omega
  have nn : (0 : Int) ≤ n ∧ (n : Int) < (rAt ds 0).length := by omega
  refine ⟨fun q => absurd q (by omega), fun _ => ⟨by omega, by omega, kk.1, kk.2.2, kk.1, kk.2.2, fun _ => ⟨nn.1, by omega, by omega, by omega, by omega, by omega, fun _ => ⟨fun _ => ⟨kk.1, kk.2.1, fun _ => rfl, fun hd => ?_⟩, fun q => absurd rfl q⟩, fun q => ?_⟩, fun q => absurd rfl q⟩⟩
  rotate_left
  · exfalso
    simp [cmpEv] at q
  obtain ⟨p1, p2, p3⟩ := o1 (Decidable.not_not.mp hd)
  have p3' := fun q => p3 (hs q)
  rw [p1]
  refine ⟨by omega, nn.1, nn.2, fun _ => ⟨fun _ => ⟨kk.1, kk.2.2, fun q => ⟨nn.1, nn.2, fun _ => trivial, fun z => by rw [p3' z]⟩, fun q => ⟨fun _ => ⟨nn.1, nn.2, fun _ => trivial, fun z => by rw [p3' z]⟩, fun z => absurd (p2 z) q⟩⟩, fun q => absurd rfl q⟩, fun q => by cases q⟩
end Go.Proofs.YtkjjkckcjgkhmaaGreat
