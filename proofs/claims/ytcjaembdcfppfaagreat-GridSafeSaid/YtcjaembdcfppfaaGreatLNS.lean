/- LNS, merged: TJ8, J8, TJ9, J9, I8. -/
import Derived.Test.YtcjaembdcfppfaaGreatNM
import Derived.Test.YtcjaembdcfppfaaGreatNJ
set_option linter.unusedSimpArgs false
set_option linter.unusedVariables false
/- Chapter 11: the tree of the reference's Valid. -/
namespace Go.Proofs.YtcjaembdcfppfaaGreat
open Go.RowKit
def trRGValid : TT OpR :=
(.ite (.cmp .geq (.var 0) (.lit (-1000000)))
 (.ite (.cmp .leq (.var 0) (.lit 1000000))
 (.ite (.cmp .geq (.var 1) (.lit (-1000000)))
 (.ite (.not (.cmp .leq (.var 1) (.lit 1000000)))
 (.ret ((.v (.one (.z (.bool (.lit false))))), [], 3))
 (.ite (.cmp .lss (.var 2) (.lit 1))
 (.ret ((.v (.one (.z (.bool (.lit false))))), [], 3))
 (.ite (.cmp .gtr (.var 2) (.lit 100000))
 (.ret ((.v (.one (.z (.bool (.lit false))))), [], 3))
 (.ite (.cmp .lss (.var 3) (.lit 1))
 (.ret ((.v (.one (.z (.bool (.lit false))))), [], 3))
 (.ite (.cmp .gtr (.var 3) (.lit 64))
 (.ret ((.v (.one (.z (.bool (.lit false))))), [], 3))
 (.ite (.cmp .lss (.var 4) (.lit 1))
 (.ret ((.v (.one (.z (.bool (.lit false))))), [], 3))
 (.ite (.cmp .gtr (.var 4) (.lit 64))
 (.ret ((.v (.one (.z (.bool (.lit false))))), [], 3))
 (.ite (.cmp .leq (.ar .add .i64 (.var 0) (.ar .mul .i64 (.var 2) (.var 3))) (.lit 1000000))
 (.ite (.not (.cmp .leq (.ar .add .i64 (.var 1) (.ar .mul .i64 (.var 2) (.var 4))) (.lit 1000000)))
 (.ret ((.v (.one (.z (.bool (.lit false))))), [], 3))
 (.ite (.cmp .neq (.len (.var 5)) (.ar .mul .i64 (.var 3) (.var 4)))
 (.ret ((.v (.one (.z (.bool (.lit false))))), [], 3))
 (.loop 0 4000 ⟨[(0, (.lit 0))], [], []⟩
 (.ite (.cmp .lss (.var 4000) (.len (.var 5)))
 (.ob (.tru (.cmp .leq (.lit 0) (.var 4000)))
 (.ob (.tru (.cmp .lss (.var 4000) (.len (.var 5))))
 (.ite (.cmp .lss (.rd (.var 5) (.var 4000) 0) (.lit 0))
 (.ret ((.v (.one (.z (.bool (.lit false))))), [], 4))
 (.ob (.tru (.cmp .leq (.lit 0) (.var 4000)))
 (.ob (.tru (.cmp .lss (.var 4000) (.len (.var 5))))
 (.ite (.cmp .gtr (.rd (.var 5) (.var 4000) 0) (.lit 100000))
 (.ret ((.v (.one (.z (.bool (.lit false))))), [], 4))
 (.next 0 ⟨[(0, (.ar .add .i64 (.var 4000) (.lit 1)))], [], []⟩)))))))
 (.ret ((.v (.one (.z (.bool (.lit true))))), [], 4))))))
 (.ret ((.v (.one (.z (.bool (.lit false))))), [], 3))))))))))
 (.ret ((.v (.one (.z (.bool (.lit false))))), [], 3)))
 (.ret ((.v (.one (.z (.bool (.lit false))))), [], 3)))
 (.ret ((.v (.one (.z (.bool (.lit false))))), [], 3)))
def trRGValid_h : List (Nat × St) := [
(3, ⟨(List.append [(.v (.agg [(.z (.int .i64 (.var 0))), (.z (.int .i64 (.var 1))), (.z (.int .i64 (.var 2))), (.z (.int .i64 (.var 3))), (.z (.int .i64 (.var 4))), (.z (.ext [(.int .i64)] (.var 5) false))])), (.v (.one (.z (.ptr 0 0)))), (.v (.one (.z (.bool (.lit false))))), (.v (.one (.z (.bool (.cmp .leq (.ar .add .i64 (.var 1) (.ar .mul .i64 (.var 2) (.var 4))) (.lit 1000000)))))), (.v (.one (.z (.int .i64 (.var 4000))))), (.v (.one (.z (.ptr 0 0)))), (.v (.agg [(.z (.int .i64 (.var 0))), (.z (.int .i64 (.var 1)))])), (.v (.one (.z (.ptr 0 2)))), (.v (.one (.z (.int .i64 (.var 2))))), (.v (.one (.z (.ptr 0 3)))), (.v (.one (.z (.int .i64 (.var 3))))), (.v (.one (.z (.ptr 0 4)))), (.v (.one (.z (.int .i64 (.var 4))))), (.v (.one (.z (.bool (.cmp .leq (.ar .add .i64 (.var 1) (.ar .mul .i64 (.var 2) (.var 4))) (.lit 1000000)))))), (.v (.one (.z (.bool (.cmp .leq (.ar .add .i64 (.var 1) (.ar .mul .i64 (.var 2) (.var 4))) (.lit 1000000)))))), (.v (.one (.z (.bool (.not (.cmp .leq (.ar .add .i64 (.var 1) (.ar .mul .i64 (.var 2) (.var 4))) (.lit 1000000))))))), (.v (.one (.z (.bool (.lit false))))), (.v (.one (.z (.ptr 0 5)))), (.v (.one (.z (.ext [(.int .i64)] (.var 5) false)))), (.v (.one (.z (.int .i64 (.len (.var 5)))))), (.v (.one (.z (.ptr 0 3)))), (.v (.one (.z (.int .i64 (.var 3))))), (.v (.one (.z (.ptr 0 4)))), (.v (.one (.z (.int .i64 (.var 4))))), (.v (.one (.z (.int .i64 (.ar .mul .i64 (.var 3) (.var 4)))))), (.v (.one (.z (.bool (.cmp .neq (.len (.var 5)) (.ar .mul .i64 (.var 3) (.var 4))))))), (.v (.one (.z (.bool (.cmp .neq (.len (.var 5)) (.ar .mul .i64 (.var 3) (.var 4)))))))] (List.replicate 21 V.any)), [(0, (.cells 27 [(.z (.int .i64 (.var 0))), (.z (.int .i64 (.var 1))), (.z (.int .i64 (.var 2))), (.z (.int .i64 (.var 3))), (.z (.int .i64 (.var 4))), (.z (.ext [(.int .i64)] (.var 5) false))]))], 4, []⟩)]
def trRGValid_j : List (FuncId × Nat × Nat × St) := [
]
set_option maxRecDepth 100000 in
theorem trRGValid_is : T.norm 0 (call Tryz.prog ctGg ⟨Lt.un (Lt.of []), trRGValid_h, trRGValid_j⟩ 200 9 (symArgs 0 [gridS]) [] 0) TT.ret = trRGValid := by kernel_rfl
theorem trRGValid_low : trRGValid.low 1000 = true := by kernel_rfl
end Go.Proofs.YtcjaembdcfppfaaGreat
/- Chapter 11: the reference's Valid is the program's. -/
namespace Go.Proofs.YtcjaembdcfppfaaGreat
open Go.RowKit
theorem gRGValid : Gives Tryz.prog 9 [gridS] (fun ds => .bool (gvL ds)) := by
  refine GivesIf.all (fn_gives KGg (by kernel_rfl) (fun ρ h => ctGg_ok (Sees.of h 200) (SeesD.of h 7)) (by kernel_rfl) trRGValid_is trRGValid_low (by decide) (fun W vals ds hr _ => ?_))
  have hlen := (rAt_wf (rep_args hr) (j := 5) rfl).1
  have e : gvL ds = gvB (iAt ds 0) (iAt ds 1) (iAt ds 2) (iAt ds 3) (iAt ds 4) (rAt ds 5) := rfl
  simp only [trRGValid, TT.sat_ret, TT.sat_ite, TT.sat_ob, TT.sat_next, TT.sat_stuck, put_i, put_b, put_d, put_fi, put_fb, put_fd, Ob.ok, B.ev, E.ev, X.ev, AL.ev, cmp_t, cmp_f, arEv, V.plain, V2.plain, S.plain, S0.plain, V.val, V2.val, S.val, S0.val, bV, iV, List.all_cons, List.all_nil, Bool.and_true, Bool.and_self, envOf_i, envOf_b, envOf_d, List.map_cons, List.map_nil, true_and, Bool.not_eq_true', Bool.not_eq_false', Bool.not_not, Bool.and_eq_true, and_f, cell_lg, cell_lb, cell_lr, cmpP, val_i, val_b, val_d, aget, Nat.reduceBEq, beq_self_eq_true, Bool.false_eq_true, if_true, if_false, Nat.reduceLT, Nat.reduceSub, Nat.sub_self, Nat.lt_irrefl]
  rw [e]
  clear hr e
  generalize e0 : iAt ds 0 = x at *
  generalize e1 : iAt ds 1 = y at *
  generalize e2 : iAt ds 2 = s at *
  generalize e3 : iAt ds 3 = w at *
  generalize e4 : iAt ds 4 = h at *
  generalize e5 : rAt ds 5 = r at *
  have N : ¬ frP x y s w h → Value.bool false = Value.bool (gvB x y s w h r) := fun q => by unfold gvB; rw [decide_eq_false q, Bool.false_and]
  have NL : (r.length : Int) ≠ w * h → Value.bool false = Value.bool (gvB x y s w h r) := fun q => by unfold gvB; rw [decide_eq_false q, Bool.false_and, Bool.and_false]
  refine ⟨fun q1 => ⟨fun q2 => ⟨fun q3 => ⟨fun q => N (fun k => ?_), fun q4 => ⟨fun q => N (fun k => by unfold frP at k; omega), fun q5 => ⟨fun q => N (fun k => by unfold frP at k; omega), fun q6 => ⟨fun q => N (fun k => by unfold frP at k; omega), fun q7 => ⟨fun q => N (fun k => by unfold frP at k; omega), fun q8 => ⟨fun q => N (fun k => by unfold frP at k; omega), fun q9 => ⟨fun q => N (fun k => by unfold frP at k; omega), fun q10 => ?_⟩⟩⟩⟩⟩⟩⟩, fun q => N (fun k => ?_)⟩, fun q => N (fun k => ?_)⟩, fun q => N (fun k => ?_)⟩
  · unfold frP at k
    have p2 := prod_in (a := h) (b := s) (m := 64) (n := 100000) (by omega) (by omega) (by omega) (by omega)
    omega
  · have p1 := prod_in (a := w) (b := s) (m := 64) (n := 100000) (by omega) (by omega) (by omega) (by omega)
    have p2 := prod_in (a := h) (b := s) (m := 64) (n := 100000) (by omega) (by omega) (by omega) (by omega)
    have p3 := prod_in (a := w) (b := h) (m := 64) (n := 64) (by omega) (by omega) (by omega) (by omega)
    rw [Int.mul_comm s w, Int.mul_comm s h, wrap_in (w * s) (by omega) (by omega), wrap_in (h * s) (by omega) (by omega), wrap_in (x + w * s) (by omega) (by omega), wrap_in (y + h * s) (by omega) (by omega), wrap_in (w * h) (by omega) (by omega)]
    refine ⟨fun g1 => ⟨fun g => N (fun k => by unfold frP at k; omega), fun g2 => ⟨fun g => NL g, fun g3 => ?_⟩⟩, fun g => N (fun k => by unfold frP at k; omega)⟩
    have hf : frP x y s w h := by unfold frP; omega
    refine TT.sat_loop (fun v => ∃ i : Nat, v.i 0 = i ∧ i ≤ r.length ∧ ∀ k (hk : k < r.length), k < i → 0 ≤ cI r[k] 0 ∧ cI r[k] 0 ≤ 100000) (fun v => r.length - (v.i 0).toNat)
      ⟨0, by simp [val_i, aget, E.ev], by omega, fun k hk h => by omega⟩ (fun v hv => ?_)
    obtain ⟨i, i0, i1, i2⟩ := hv
    simp only [TT.sat_ret, TT.sat_ite, TT.sat_ob, TT.sat_next, TT.sat_stuck, put_i, put_b, put_d, put_fi, put_fb, put_fd, Ob.ok, B.ev, E.ev, X.ev, AL.ev, cmp_t, cmp_f, arEv, V.plain, V2.plain, S.plain, S0.plain, V.val, V2.val, S.val, S0.val, bV, iV, List.all_cons, List.all_nil, Bool.and_true, Bool.and_self, envOf_i, envOf_b, envOf_d, List.map_cons, List.map_nil, true_and, Bool.not_eq_true', Bool.not_eq_false', Bool.not_not, Bool.and_eq_true, and_f, cell_lg, cell_lb, cell_lr, cmpP, val_i, val_b, val_d, aget, Nat.reduceBEq, beq_self_eq_true, Bool.false_eq_true, if_true, if_false, Nat.reduceLT, Nat.reduceSub, Nat.sub_self, Nat.lt_irrefl, i0, e5]
    refine ⟨fun hc => ?_, fun hc => ?_⟩
    · have hi : i < r.length := by omega
      have NO : ¬ (0 ≤ cI r[i] 0 ∧ cI r[i] 0 ≤ 100000) → Value.bool false = Value.bool (gvB x y s w h r) := fun k => by
        unfold gvB
        have : (r.all fun q => decide (0 ≤ cI q 0 ∧ cI q 0 ≤ 100000)) = false := by
          rw [List.all_eq_false]
          exact ⟨_, List.getElem_mem hi, by simp only [decide_eq_true_eq]; exact k⟩
        rw [this, Bool.and_false, Bool.and_false]
      have ew : IntKind.i64.wrap ((i : Int) + 1) = ((i + 1 : Nat) : Int) := by rw [wrap_in _ (by omega) (by omega)]; omega
      rw [ew]
      simp only [lg_cI hi]
      refine ⟨by omega, by omega, fun q => NO (by omega), fun q => ⟨by omega, by omega, fun q' => NO (by omega), fun q' => ⟨⟨i + 1, rfl, by omega, fun k hk hki => ?_⟩, by rw [Int.toNat_natCast, Int.toNat_natCast]; omega⟩⟩⟩
      by_cases e : k = i
      · subst e; omega
      · exact i2 k hk (by omega)
    · have : gvB x y s w h r = true := by
        unfold gvB
        rw [decide_eq_true hf, decide_eq_true (by omega), Bool.true_and, Bool.true_and, List.all_eq_true]
        intro q hq
        obtain ⟨k, hk, rfl⟩ := List.getElem_of_mem hq
        exact decide_eq_true (i2 k hk (by omega))
      rw [this]
  · unfold frP at k
    have p2 := prod_in (a := h) (b := s) (m := 64) (n := 100000) (by omega) (by omega) (by omega) (by omega)
    omega
  · unfold frP at k
    have p1 := prod_in (a := w) (b := s) (m := 64) (n := 100000) (by omega) (by omega) (by omega) (by omega)
    omega
  · unfold frP at k
    have p1 := prod_in (a := w) (b := s) (m := 64) (n := 100000) (by omega) (by omega) (by omega) (by omega)
    omega
def cRGValid := ctD [gridS] fun al => .ret (bV (bF 150 gvL al))
theorem cRGValid_ok {ρ : Env} (h : Sees ρ KGg 200) : CtOne Tryz.prog ρ 9 cRGValid :=
  ctD_ok gRGValid (fun _ => rfl) (fun al => by simp only [iV, bV, V.s0, V.val, V2.val, S.val, S0.val, bF_ev (s := 150) (f := gvL) (fun l => by rw [(h 150 l (by decide)).2]; simp only [KGg, KGf, KGc, KGb])])
def ctGh : Ct := (9, cRGValid) :: ctGg
theorem ctGh_ok {ρ : Env} (h : Sees ρ KGg 200) (hd : SeesD ρ KGg 7) : CtOk Tryz.prog ρ ctGh := .cons (cRGValid_ok h) (ctGg_ok h hd)
end Go.Proofs.YtcjaembdcfppfaaGreat
/- Chapter 11: the trees of the laws GridNowhere, GridSafe. -/
namespace Go.Proofs.YtcjaembdcfppfaaGreat
open Go.RowKit
def trNowhere : TT OpR :=
(.ite (.cmp .leq (.len (.var 0)) (.lit 8))
 (.ite (.cmp .leq (.var 4) (.lit 12))
 (.ite (.not (.cmp .leq (.var 5) (.lit 12)))
 (.ret ((.v (.one (.z (.bool (.lit true))))), [], 3))
 (.ite (.fn 191 (.x (.var 0) (.i (.var 1) (.i (.var 2) (.i (.var 3) (.i (.var 4) (.i (.var 5) .nil)))))))
 (.ite (.cmp .neq (.fn 133 (.x (.var 0) (.i (.var 6) (.i (.var 7) .nil)))) (.lit 0))
 (.ret ((.v (.one (.z (.bool (.cmp .eql (.fn 133 (.x (.var 0) (.i (.var 6) (.i (.var 7) .nil)))) (.lit 1)))))), [], 5))
 (.ite (.not (.fn 150 (.i (.var 1) (.i (.var 2) (.i (.var 3) (.i (.var 4) (.i (.var 5) (.x (.fn 6 (.x (.var 0) (.i (.var 1) (.i (.var 2) (.i (.var 3) (.i (.var 4) (.i (.var 5) .nil))))))) .nil))))))))
 (.ret ((.v (.one (.z (.bool (.lit false))))), [], 5))
 (.loop 0 6000 ⟨[(0, (.lit 0))], [(1, (.lit true))], []⟩
 (.ite (.cmp .lss (.var 6000) (.len (.fn 6 (.x (.var 0) (.i (.var 1) (.i (.var 2) (.i (.var 3) (.i (.var 4) (.i (.var 5) .nil)))))))))
 (.ite (.var 6001)
 (.ob (.tru (.cmp .neq (.var 4) (.lit 0)))
 (.ob (.tru (.cmp .neq (.var 4) (.lit 0)))
 (.ite (.cmp .leq (.ar .add .i64 (.var 1) (.ar .mul .i64 (.ar .rem .i64 (.var 6000) (.var 4)) (.var 3))) (.var 6))
 (.ite (.cmp .leq (.var 6) (.ar .add .i64 (.ar .add .i64 (.var 1) (.ar .mul .i64 (.ar .rem .i64 (.var 6000) (.var 4)) (.var 3))) (.var 3)))
 (.ite (.cmp .leq (.ar .add .i64 (.var 2) (.ar .mul .i64 (.ar .quo .i64 (.var 6000) (.var 4)) (.var 3))) (.var 7))
 (.ite (.not (.cmp .leq (.var 7) (.ar .add .i64 (.ar .add .i64 (.var 2) (.ar .mul .i64 (.ar .quo .i64 (.var 6000) (.var 4)) (.var 3))) (.var 3))))
 (.next 0 ⟨[(0, (.ar .add .i64 (.var 6000) (.lit 1)))], [(1, (.lit true))], []⟩)
 (.ob (.tru (.cmp .leq (.lit 0) (.var 6000)))
 (.ob (.tru (.cmp .lss (.var 6000) (.len (.fn 6 (.x (.var 0) (.i (.var 1) (.i (.var 2) (.i (.var 3) (.i (.var 4) (.i (.var 5) .nil))))))))))
 (.next 0 ⟨[(0, (.ar .add .i64 (.var 6000) (.lit 1)))], [(1, (.cmp .leq (.rd (.fn 6 (.x (.var 0) (.i (.var 1) (.i (.var 2) (.i (.var 3) (.i (.var 4) (.i (.var 5) .nil))))))) (.var 6000) 0) (.fn 132 (.x (.var 0) (.i (.var 6) (.i (.var 7) .nil))))))], []⟩))))
 (.next 0 ⟨[(0, (.ar .add .i64 (.var 6000) (.lit 1)))], [(1, (.lit true))], []⟩))
 (.next 0 ⟨[(0, (.ar .add .i64 (.var 6000) (.lit 1)))], [(1, (.lit true))], []⟩))
 (.next 0 ⟨[(0, (.ar .add .i64 (.var 6000) (.lit 1)))], [(1, (.lit true))], []⟩))))
 (.next 0 ⟨[(0, (.ar .add .i64 (.var 6000) (.lit 1)))], [(1, (.lit false))], []⟩))
 (.ite (.var 6001)
 (.ite (.cmp .neq (.fn 193 (.i (.var 1) (.i (.var 2) (.i (.var 3) (.i (.var 4) (.i (.var 5) (.x (.fn 6 (.x (.var 0) (.i (.var 1) (.i (.var 2) (.i (.var 3) (.i (.var 4) (.i (.var 5) .nil))))))) (.i (.var 8) (.i (.var 9) (.i (.var 10) (.i (.var 11) .nil))))))))))) (.lit 0))
 (.ret ((.v (.one (.z (.bool (.lit true))))), [], 10))
 (.ite (.cmp .leq (.var 8) (.var 6))
 (.ite (.cmp .leq (.var 6) (.var 9))
 (.ite (.cmp .leq (.var 10) (.var 7))
 (.ite (.not (.cmp .leq (.var 7) (.var 11)))
 (.ret ((.v (.one (.z (.bool (.lit true))))), [], 12))
 (.ret ((.v (.one (.z (.bool (.cmp .leq (.fn 192 (.i (.var 1) (.i (.var 2) (.i (.var 3) (.i (.var 4) (.i (.var 5) (.x (.fn 6 (.x (.var 0) (.i (.var 1) (.i (.var 2) (.i (.var 3) (.i (.var 4) (.i (.var 5) .nil))))))) (.i (.var 8) (.i (.var 9) (.i (.var 10) (.i (.var 11) .nil))))))))))) (.fn 132 (.x (.var 0) (.i (.var 6) (.i (.var 7) .nil))))))))), [], 12)))
 (.ret ((.v (.one (.z (.bool (.lit true))))), [], 12)))
 (.ret ((.v (.one (.z (.bool (.lit true))))), [], 12)))
 (.ret ((.v (.one (.z (.bool (.lit true))))), [], 12))))
 (.ret ((.v (.one (.z (.bool (.lit false))))), [], 10)))))))
 (.ret ((.v (.one (.z (.bool (.lit true))))), [], 5))))
 (.ret ((.v (.one (.z (.bool (.lit true))))), [], 3)))
 (.ret ((.v (.one (.z (.bool (.lit true))))), [], 3)))
def trNowhere_h : List (Nat × St) := [
(5, ⟨(List.append [(.v (.one (.z (.ext [(.int .i64), (.int .i64), (.int .i64), (.int .i64), (.int .i64), (.sl [(.int .i64), (.int .i64)]), (.int .i64), (.int .i64), (.sl [(.int .i64), (.int .i64), (.int .i64), (.int .i64), (.int .i64), (.int .i64)])] (.var 0) false)))), (.v (.agg [(.z (.int .i64 (.var 1))), (.z (.int .i64 (.var 2)))])), (.v (.one (.z (.int .i64 (.var 3))))), (.v (.one (.z (.int .i64 (.var 4))))), (.v (.one (.z (.int .i64 (.var 5))))), (.v (.agg [(.z (.int .i64 (.var 6))), (.z (.int .i64 (.var 7)))])), (.v (.agg [(.z (.int .i64 (.var 8))), (.z (.int .i64 (.var 9))), (.z (.int .i64 (.var 10))), (.z (.int .i64 (.var 11)))])), (.v (.one (.z .any))), (.v (.one (.z (.ptr 0 0)))), (.v (.one (.z .any))), (.v (.one (.z .any))), (.v (.one (.z .any))), (.v (.one (.z (.ptr 1 0)))), (.v (.one (.z (.ptr 2 0)))), (.v (.one (.z (.bool (.lit false))))), (.v (.one (.z (.bool (.var 6001))))), (.v (.one (.z (.ptr 4 0)))), (.v (.one (.z (.int .i64 (.lit 0))))), (.v (.one (.z (.int .i64 (.fn 132 (.x (.var 0) (.i (.var 6) (.i (.var 7) .nil)))))))), (.v (.one (.z (.int .i64 (.fn 133 (.x (.var 0) (.i (.var 6) (.i (.var 7) .nil)))))))), (.v (.one (.z (.int .i64 (.var 6000))))), (.v (.one (.z .any))), (.v (.one (.z .any))), (.v (.one (.z (.bool (.lit true))))), (.v (.one (.z (.ext [(.int .i64), (.int .i64), (.int .i64), (.int .i64), (.int .i64), (.sl [(.int .i64), (.int .i64)]), (.int .i64), (.int .i64), (.sl [(.int .i64), (.int .i64), (.int .i64), (.int .i64), (.int .i64), (.int .i64)])] (.var 0) false)))), (.v (.one (.z (.int .i64 (.var 4))))), (.v (.one (.z (.int .i64 (.var 5))))), (.v (.one (.z (.bool (.cmp .leq (.var 5) (.lit 12)))))), (.v (.one (.z (.bool (.not (.cmp .leq (.var 5) (.lit 12))))))), (.v (.one (.z .any))), (.v (.one (.z .any))), (.v (.one (.z (.ext [(.int .i64), (.int .i64), (.int .i64), (.int .i64), (.int .i64), (.sl [(.int .i64), (.int .i64)]), (.int .i64), (.int .i64), (.sl [(.int .i64), (.int .i64), (.int .i64), (.int .i64), (.int .i64), (.int .i64)])] (.var 0) false)))), (.v (.agg [(.z (.int .i64 (.var 1))), (.z (.int .i64 (.var 2)))])), (.v (.one (.z (.int .i64 (.var 3))))), (.v (.one (.z (.int .i64 (.var 4))))), (.v (.one (.z (.int .i64 (.var 5))))), (.v (.one (.z .any))), (.v (.agg [(.z (.int .i64 (.var 1))), (.z (.int .i64 (.var 2))), (.z (.int .i64 (.var 3))), (.z (.int .i64 (.var 4))), (.z (.int .i64 (.var 5))), (.z (.own 3 (.lit 0)))])), (.v (.one (.z (.int .i64 (.lit 0))))), (.v (.one (.z (.int .i64 (.lit 0))))), (.v (.one (.z (.bool (.lit false)))))] (List.append (List.replicate 6 V.any) (List.append [(.v (.one (.z (.ext [(.int .i64), (.int .i64), (.int .i64), (.int .i64), (.int .i64), (.sl [(.int .i64), (.int .i64)]), (.int .i64), (.int .i64), (.sl [(.int .i64), (.int .i64), (.int .i64), (.int .i64), (.int .i64), (.int .i64)])] (.var 0) false)))), (.v (.agg [(.z (.int .i64 (.var 6))), (.z (.int .i64 (.var 7)))])), (.v (.one (.z .any))), (.v (.one (.z (.int .i64 (.fn 132 (.x (.var 0) (.i (.var 6) (.i (.var 7) .nil)))))))), (.v (.one (.z (.int .i64 (.fn 133 (.x (.var 0) (.i (.var 6) (.i (.var 7) .nil)))))))), (.v (.one (.z (.int .i64 (.fn 133 (.x (.var 0) (.i (.var 6) (.i (.var 7) .nil)))))))), (.v (.one (.z (.bool (.cmp .neq (.fn 133 (.x (.var 0) (.i (.var 6) (.i (.var 7) .nil)))) (.lit 0))))))] (List.append (List.replicate 5 V.any) (List.append [(.v (.agg [(.z (.int .i64 (.var 1))), (.z (.int .i64 (.var 2))), (.z (.int .i64 (.var 3))), (.z (.int .i64 (.var 4))), (.z (.int .i64 (.var 5))), (.z (.own 3 (.lit 0)))])), (.v (.one (.z (.bool (.fn 150 (.i (.var 1) (.i (.var 2) (.i (.var 3) (.i (.var 4) (.i (.var 5) (.x (.fn 6 (.x (.var 0) (.i (.var 1) (.i (.var 2) (.i (.var 3) (.i (.var 4) (.i (.var 5) .nil))))))) .nil))))))))))), (.v (.one (.z (.bool (.not (.fn 150 (.i (.var 1) (.i (.var 2) (.i (.var 3) (.i (.var 4) (.i (.var 5) (.x (.fn 6 (.x (.var 0) (.i (.var 1) (.i (.var 2) (.i (.var 3) (.i (.var 4) (.i (.var 5) .nil))))))) .nil)))))))))))), (.v (.one (.z (.bool (.lit false))))), (.v (.one (.z (.ptr 4 3)))), (.v (.one (.z (.int .i64 (.var 4))))), (.v (.one (.z (.int .i64 (.var 4))))), (.v (.one (.z (.bool (.lit false))))), (.v (.one (.z (.bool (.lit false))))), (.v (.one (.z (.bool (.lit false))))), (.v (.one (.z (.ptr 4 4)))), (.v (.one (.z (.int .i64 (.var 5))))), (.v (.one (.z (.int .i64 (.var 5))))), (.v (.one (.z (.bool (.lit false))))), (.v (.one (.z (.bool (.lit false)))))] (List.replicate 47 V.any)))))), [(4, (.cells 27 [(.z (.int .i64 (.var 1))), (.z (.int .i64 (.var 2))), (.z (.int .i64 (.var 3))), (.z (.int .i64 (.var 4))), (.z (.int .i64 (.var 5))), (.z (.own 3 (.lit 0)))])), (3, (.own 3 [(.int .i64)] (.fn 6 (.x (.var 0) (.i (.var 1) (.i (.var 2) (.i (.var 3) (.i (.var 4) (.i (.var 5) .nil))))))) (.lit 0))), (2, (.cells 31 [(.z (.int .i64 (.var 8))), (.z (.int .i64 (.var 9))), (.z (.int .i64 (.var 10))), (.z (.int .i64 (.var 11)))])), (1, (.cells 24 [(.z (.int .i64 (.var 6))), (.z (.int .i64 (.var 7)))])), (0, (.cells 24 [(.z (.int .i64 (.var 1))), (.z (.int .i64 (.var 2)))]))], 6, []⟩)]
def trNowhere_j : List (FuncId × Nat × Nat × St) := [
]
set_option maxRecDepth 100000 in
theorem trNowhere_is : T.norm 0 (call Tryz.prog ctGh ⟨Lt.un (Lt.of []), trNowhere_h, trNowhere_j⟩ 200 4 (symArgs 0 [feats, pt, it, it, it, pt, bx]) [] 0) TT.ret = trNowhere := by kernel_rfl
theorem trNowhere_low : trNowhere.low 1000 = true := by kernel_rfl
def trSafe : TT OpR :=
(.ite (.cmp .leq (.len (.var 0)) (.lit 8))
 (.ite (.cmp .leq (.var 4) (.lit 12))
 (.ite (.not (.cmp .leq (.var 5) (.lit 12)))
 (.ret ((.v (.one (.z (.bool (.lit true))))), [], 2))
 (.ite (.fn 191 (.x (.var 0) (.i (.var 1) (.i (.var 2) (.i (.var 3) (.i (.var 4) (.i (.var 5) .nil)))))))
 (.ite (.cmp .neq (.fn 161 (.i (.var 1) (.i (.var 2) (.i (.var 3) (.i (.var 4) (.i (.var 5) (.x (.fn 6 (.x (.var 0) (.i (.var 1) (.i (.var 2) (.i (.var 3) (.i (.var 4) (.i (.var 5) .nil))))))) (.i (.var 6) (.i (.var 7) (.i (.var 8) .nil)))))))))) (.lit 0))
 (.ret ((.v (.one (.z (.bool (.lit true))))), [], 5))
 (.ite (.not (.fn 150 (.i (.var 1) (.i (.var 2) (.i (.var 3) (.i (.var 4) (.i (.var 5) (.x (.fn 6 (.x (.var 0) (.i (.var 1) (.i (.var 2) (.i (.var 3) (.i (.var 4) (.i (.var 5) .nil))))))) .nil))))))))
 (.ret ((.v (.one (.z (.bool (.lit false))))), [], 5))
 (.loop 0 6000 ⟨[(1, (.lit 0))], [(0, (.lit false))], []⟩
 (.ite (.cmp .lss (.var 6001) (.len (.fn 3 (.i (.var 1) (.i (.var 2) (.i (.var 3) (.i (.var 4) (.i (.var 5) (.x (.fn 6 (.x (.var 0) (.i (.var 1) (.i (.var 2) (.i (.var 3) (.i (.var 4) (.i (.var 5) .nil))))))) (.i (.var 6) (.i (.var 7) (.i (.var 8) .nil))))))))))))
 (.ob (.tru (.cmp .leq (.lit 0) (.var 6001)))
 (.ob (.tru (.cmp .lss (.var 6001) (.len (.fn 3 (.i (.var 1) (.i (.var 2) (.i (.var 3) (.i (.var 4) (.i (.var 5) (.x (.fn 6 (.x (.var 0) (.i (.var 1) (.i (.var 2) (.i (.var 3) (.i (.var 4) (.i (.var 5) .nil))))))) (.i (.var 6) (.i (.var 7) (.i (.var 8) .nil)))))))))))))
 (.ite (.cmp .lss (.rd (.fn 3 (.i (.var 1) (.i (.var 2) (.i (.var 3) (.i (.var 4) (.i (.var 5) (.x (.fn 6 (.x (.var 0) (.i (.var 1) (.i (.var 2) (.i (.var 3) (.i (.var 4) (.i (.var 5) .nil))))))) (.i (.var 6) (.i (.var 7) (.i (.var 8) .nil)))))))))) (.var 6001) 0) (.lit 0))
 (.ret ((.v (.one (.z (.bool (.lit false))))), [], 10))
 (.ob (.tru (.cmp .leq (.lit 0) (.var 6001)))
 (.ob (.tru (.cmp .lss (.var 6001) (.len (.fn 3 (.i (.var 1) (.i (.var 2) (.i (.var 3) (.i (.var 4) (.i (.var 5) (.x (.fn 6 (.x (.var 0) (.i (.var 1) (.i (.var 2) (.i (.var 3) (.i (.var 4) (.i (.var 5) .nil))))))) (.i (.var 6) (.i (.var 7) (.i (.var 8) .nil)))))))))))))
 (.ite (.cmp .geq (.rd (.fn 3 (.i (.var 1) (.i (.var 2) (.i (.var 3) (.i (.var 4) (.i (.var 5) (.x (.fn 6 (.x (.var 0) (.i (.var 1) (.i (.var 2) (.i (.var 3) (.i (.var 4) (.i (.var 5) .nil))))))) (.i (.var 6) (.i (.var 7) (.i (.var 8) .nil)))))))))) (.var 6001) 0) (.len (.fn 6 (.x (.var 0) (.i (.var 1) (.i (.var 2) (.i (.var 3) (.i (.var 4) (.i (.var 5) .nil)))))))))
 (.ret ((.v (.one (.z (.bool (.lit false))))), [], 10))
 (.ite (.var 6000)
 (.next 0 ⟨[(1, (.ar .add .i64 (.var 6001) (.lit 1)))], [(0, (.lit true))], []⟩)
 (.ob (.tru (.cmp .leq (.lit 0) (.var 6001)))
 (.ob (.tru (.cmp .lss (.var 6001) (.len (.fn 3 (.i (.var 1) (.i (.var 2) (.i (.var 3) (.i (.var 4) (.i (.var 5) (.x (.fn 6 (.x (.var 0) (.i (.var 1) (.i (.var 2) (.i (.var 3) (.i (.var 4) (.i (.var 5) .nil))))))) (.i (.var 6) (.i (.var 7) (.i (.var 8) .nil)))))))))))))
 (.ob (.tru (.cmp .neq (.var 4) (.lit 0)))
 (.ob (.tru (.cmp .neq (.var 4) (.lit 0)))
 (.ite (.cmp .leq (.ar .add .i64 (.var 1) (.ar .mul .i64 (.ar .rem .i64 (.rd (.fn 3 (.i (.var 1) (.i (.var 2) (.i (.var 3) (.i (.var 4) (.i (.var 5) (.x (.fn 6 (.x (.var 0) (.i (.var 1) (.i (.var 2) (.i (.var 3) (.i (.var 4) (.i (.var 5) .nil))))))) (.i (.var 6) (.i (.var 7) (.i (.var 8) .nil)))))))))) (.var 6001) 0) (.var 4)) (.var 3))) (.var 9))
 (.ite (.cmp .leq (.var 9) (.ar .add .i64 (.ar .add .i64 (.var 1) (.ar .mul .i64 (.ar .rem .i64 (.rd (.fn 3 (.i (.var 1) (.i (.var 2) (.i (.var 3) (.i (.var 4) (.i (.var 5) (.x (.fn 6 (.x (.var 0) (.i (.var 1) (.i (.var 2) (.i (.var 3) (.i (.var 4) (.i (.var 5) .nil))))))) (.i (.var 6) (.i (.var 7) (.i (.var 8) .nil)))))))))) (.var 6001) 0) (.var 4)) (.var 3))) (.var 3)))
 (.ite (.cmp .leq (.ar .add .i64 (.var 2) (.ar .mul .i64 (.ar .quo .i64 (.rd (.fn 3 (.i (.var 1) (.i (.var 2) (.i (.var 3) (.i (.var 4) (.i (.var 5) (.x (.fn 6 (.x (.var 0) (.i (.var 1) (.i (.var 2) (.i (.var 3) (.i (.var 4) (.i (.var 5) .nil))))))) (.i (.var 6) (.i (.var 7) (.i (.var 8) .nil)))))))))) (.var 6001) 0) (.var 4)) (.var 3))) (.var 10))
 (.next 0 ⟨[(1, (.ar .add .i64 (.var 6001) (.lit 1)))], [(0, (.cmp .leq (.var 10) (.ar .add .i64 (.ar .add .i64 (.var 2) (.ar .mul .i64 (.ar .quo .i64 (.rd (.fn 3 (.i (.var 1) (.i (.var 2) (.i (.var 3) (.i (.var 4) (.i (.var 5) (.x (.fn 6 (.x (.var 0) (.i (.var 1) (.i (.var 2) (.i (.var 3) (.i (.var 4) (.i (.var 5) .nil))))))) (.i (.var 6) (.i (.var 7) (.i (.var 8) .nil)))))))))) (.var 6001) 0) (.var 4)) (.var 3))) (.var 3))))], []⟩)
 (.next 0 ⟨[(1, (.ar .add .i64 (.var 6001) (.lit 1)))], [(0, (.lit false))], []⟩))
 (.next 0 ⟨[(1, (.ar .add .i64 (.var 6001) (.lit 1)))], [(0, (.lit false))], []⟩))
 (.next 0 ⟨[(1, (.ar .add .i64 (.var 6001) (.lit 1)))], [(0, (.lit false))], []⟩)))))))))))))
 (.ite (.not (.var 6000))
 (.ret ((.v (.one (.z (.bool (.lit true))))), [], 10))
 (.ite (.cmp .eql (.fn 133 (.x (.var 0) (.i (.var 9) (.i (.var 10) .nil)))) (.lit 0))
 (.ret ((.v (.one (.z (.bool (.cmp .geq (.fn 132 (.x (.var 0) (.i (.var 9) (.i (.var 10) .nil)))) (.var 6)))))), [], 10))
 (.ret ((.v (.one (.z (.bool (.lit false))))), [], 10))))))))
 (.ret ((.v (.one (.z (.bool (.lit true))))), [], 5))))
 (.ret ((.v (.one (.z (.bool (.lit true))))), [], 2)))
 (.ret ((.v (.one (.z (.bool (.lit true))))), [], 2)))
def trSafe_h : List (Nat × St) := [
(5, ⟨(List.append [(.v (.one (.z (.ext [(.int .i64), (.int .i64), (.int .i64), (.int .i64), (.int .i64), (.sl [(.int .i64), (.int .i64)]), (.int .i64), (.int .i64), (.sl [(.int .i64), (.int .i64), (.int .i64), (.int .i64), (.int .i64), (.int .i64)])] (.var 0) false)))), (.v (.agg [(.z (.int .i64 (.var 1))), (.z (.int .i64 (.var 2)))])), (.v (.one (.z (.int .i64 (.var 3))))), (.v (.one (.z (.int .i64 (.var 4))))), (.v (.one (.z (.int .i64 (.var 5))))), (.v (.one (.z (.int .i64 (.var 6))))), (.v (.one (.z (.int .i64 (.var 7))))), (.v (.one (.z (.int .i64 (.var 8))))), (.v (.agg [(.z (.int .i64 (.var 9))), (.z (.int .i64 (.var 10)))])), (.v (.one (.z .any))), (.v (.one (.z (.ptr 0 0))))] (List.append (List.replicate 6 V.any) (List.append [(.v (.one (.z (.ptr 1 0)))), (.v (.one (.z (.bool (.lit false))))), (.v (.one (.z (.bool (.lit true))))), (.v (.one (.z (.ptr 3 0)))), (.v (.one (.z (.int .i64 (.lit 0))))), (.v (.one (.z (.own 4 (.lit 0))))), (.v (.one (.z (.int .i64 (.fn 161 (.i (.var 1) (.i (.var 2) (.i (.var 3) (.i (.var 4) (.i (.var 5) (.x (.fn 6 (.x (.var 0) (.i (.var 1) (.i (.var 2) (.i (.var 3) (.i (.var 4) (.i (.var 5) .nil))))))) (.i (.var 6) (.i (.var 7) (.i (.var 8) .nil)))))))))))))), (.v (.one (.z (.bool (.var 6000))))), (.v (.one (.z (.int .i64 (.var 6001))))), (.v (.one (.z .any))), (.v (.one (.z .any))), (.v (.one (.z (.bool (.lit true))))), (.v (.one (.z (.ext [(.int .i64), (.int .i64), (.int .i64), (.int .i64), (.int .i64), (.sl [(.int .i64), (.int .i64)]), (.int .i64), (.int .i64), (.sl [(.int .i64), (.int .i64), (.int .i64), (.int .i64), (.int .i64), (.int .i64)])] (.var 0) false)))), (.v (.one (.z (.int .i64 (.var 4))))), (.v (.one (.z (.int .i64 (.var 5))))), (.v (.one (.z (.bool (.cmp .leq (.var 5) (.lit 12)))))), (.v (.one (.z (.bool (.not (.cmp .leq (.var 5) (.lit 12))))))), (.v (.one (.z .any))), (.v (.one (.z .any))), (.v (.one (.z (.ext [(.int .i64), (.int .i64), (.int .i64), (.int .i64), (.int .i64), (.sl [(.int .i64), (.int .i64)]), (.int .i64), (.int .i64), (.sl [(.int .i64), (.int .i64), (.int .i64), (.int .i64), (.int .i64), (.int .i64)])] (.var 0) false)))), (.v (.agg [(.z (.int .i64 (.var 1))), (.z (.int .i64 (.var 2)))])), (.v (.one (.z (.int .i64 (.var 3))))), (.v (.one (.z (.int .i64 (.var 4))))), (.v (.one (.z (.int .i64 (.var 5))))), (.v (.one (.z .any))), (.v (.agg [(.z (.int .i64 (.var 1))), (.z (.int .i64 (.var 2))), (.z (.int .i64 (.var 3))), (.z (.int .i64 (.var 4))), (.z (.int .i64 (.var 5))), (.z (.own 2 (.lit 0)))])), (.v (.one (.z (.int .i64 (.lit 0))))), (.v (.one (.z .any))), (.v (.agg [(.z (.int .i64 (.var 1))), (.z (.int .i64 (.var 2))), (.z (.int .i64 (.var 3))), (.z (.int .i64 (.var 4))), (.z (.int .i64 (.var 5))), (.z (.own 2 (.lit 0)))])), (.v (.one (.z (.int .i64 (.var 6))))), (.v (.one (.z (.int .i64 (.var 7))))), (.v (.one (.z (.int .i64 (.var 8))))), (.v (.one (.z .any))), (.v (.one (.z (.own 4 (.lit 0))))), (.v (.one (.z (.int .i64 (.fn 161 (.i (.var 1) (.i (.var 2) (.i (.var 3) (.i (.var 4) (.i (.var 5) (.x (.fn 6 (.x (.var 0) (.i (.var 1) (.i (.var 2) (.i (.var 3) (.i (.var 4) (.i (.var 5) .nil))))))) (.i (.var 6) (.i (.var 7) (.i (.var 8) .nil)))))))))))))), (.v (.one (.z (.int .i64 (.lit 0))))), (.v (.one (.z (.bool (.lit false))))), (.v (.one (.z (.bool (.lit false))))), (.v (.one (.z (.int .i64 (.fn 161 (.i (.var 1) (.i (.var 2) (.i (.var 3) (.i (.var 4) (.i (.var 5) (.x (.fn 6 (.x (.var 0) (.i (.var 1) (.i (.var 2) (.i (.var 3) (.i (.var 4) (.i (.var 5) .nil))))))) (.i (.var 6) (.i (.var 7) (.i (.var 8) .nil)))))))))))))), (.v (.one (.z (.bool (.cmp .neq (.fn 161 (.i (.var 1) (.i (.var 2) (.i (.var 3) (.i (.var 4) (.i (.var 5) (.x (.fn 6 (.x (.var 0) (.i (.var 1) (.i (.var 2) (.i (.var 3) (.i (.var 4) (.i (.var 5) .nil))))))) (.i (.var 6) (.i (.var 7) (.i (.var 8) .nil)))))))))) (.lit 0)))))), (.v (.one (.z (.bool (.cmp .neq (.fn 161 (.i (.var 1) (.i (.var 2) (.i (.var 3) (.i (.var 4) (.i (.var 5) (.x (.fn 6 (.x (.var 0) (.i (.var 1) (.i (.var 2) (.i (.var 3) (.i (.var 4) (.i (.var 5) .nil))))))) (.i (.var 6) (.i (.var 7) (.i (.var 8) .nil)))))))))) (.lit 0)))))), (.v (.one (.z .any))), (.v (.agg [(.z (.int .i64 (.var 1))), (.z (.int .i64 (.var 2))), (.z (.int .i64 (.var 3))), (.z (.int .i64 (.var 4))), (.z (.int .i64 (.var 5))), (.z (.own 2 (.lit 0)))])), (.v (.one (.z (.bool (.fn 150 (.i (.var 1) (.i (.var 2) (.i (.var 3) (.i (.var 4) (.i (.var 5) (.x (.fn 6 (.x (.var 0) (.i (.var 1) (.i (.var 2) (.i (.var 3) (.i (.var 4) (.i (.var 5) .nil))))))) .nil))))))))))), (.v (.one (.z (.bool (.not (.fn 150 (.i (.var 1) (.i (.var 2) (.i (.var 3) (.i (.var 4) (.i (.var 5) (.x (.fn 6 (.x (.var 0) (.i (.var 1) (.i (.var 2) (.i (.var 3) (.i (.var 4) (.i (.var 5) .nil))))))) .nil))))))))))))] (List.replicate 52 V.any)))), [(4, (.own 3 [(.int .i64)] (.fn 3 (.i (.var 1) (.i (.var 2) (.i (.var 3) (.i (.var 4) (.i (.var 5) (.x (.fn 6 (.x (.var 0) (.i (.var 1) (.i (.var 2) (.i (.var 3) (.i (.var 4) (.i (.var 5) .nil))))))) (.i (.var 6) (.i (.var 7) (.i (.var 8) .nil)))))))))) (.lit 0))), (3, (.cells 27 [(.z (.int .i64 (.var 1))), (.z (.int .i64 (.var 2))), (.z (.int .i64 (.var 3))), (.z (.int .i64 (.var 4))), (.z (.int .i64 (.var 5))), (.z (.own 2 (.lit 0)))])), (2, (.own 3 [(.int .i64)] (.fn 6 (.x (.var 0) (.i (.var 1) (.i (.var 2) (.i (.var 3) (.i (.var 4) (.i (.var 5) .nil))))))) (.lit 0))), (1, (.cells 24 [(.z (.int .i64 (.var 9))), (.z (.int .i64 (.var 10)))])), (0, (.cells 24 [(.z (.int .i64 (.var 1))), (.z (.int .i64 (.var 2)))]))], 6, []⟩)]
def trSafe_j : List (FuncId × Nat × Nat × St) := [
]
set_option maxRecDepth 100000 in
theorem trSafe_is : T.norm 0 (call Tryz.prog ctGh ⟨Lt.un (Lt.of []), trSafe_h, trSafe_j⟩ 200 5 (symArgs 0 [feats, pt, it, it, it, it, it, it, pt]) [] 0) TT.ret = trSafe := by kernel_rfl
theorem trSafe_low : trSafe.low 1000 = true := by kernel_rfl
end Go.Proofs.YtcjaembdcfppfaaGreat
/- Chapter 11: the law GridNowhere. -/
namespace Go.Proofs.YtcjaembdcfppfaaGreat
open Go.RowKit
theorem nw_mkR (x y s w h : Int) (r : Rows) : mkR [.l r, .i x, .i y, .i s, .i w, .i h] = if mkO [.l r, .i x, .i y, .i s, .i w, .i h] = true then rowsI (mkL r x y s w.toNat (w.toNat * h.toNat)) else [] := rfl
theorem nw_mkO (x y s w h : Int) (r : Rows) : mkO [.l r, .i x, .i y, .i s, .i w, .i h] = (decide (frP x y s w h) && listB r) := rfl
theorem nw_lsE (x y s w h a b c d : Int) (r : Rows) : lsE [.i x, .i y, .i s, .i w, .i h, .l r, .i a, .i b, .i c, .i d] = if (gvB x y s w h r && boxB a b c d) = true then (if decide (x ≤ a ∧ b ≤ x + w * s ∧ y ≤ c ∧ d ≤ y + h * s) = true then 0 else 3) else 1 := rfl
theorem nw_lsR (x y s w h a b c d : Int) (r : Rows) : lsR [.i x, .i y, .i s, .i w, .i h, .l r, .i a, .i b, .i c, .i d] = if lsE [.i x, .i y, .i s, .i w, .i h, .l r, .i a, .i b, .i c, .i d] = 0 then lsN x y s w.toNat (cellsI r) a b c d (w.toNat * h.toNat) else 0 := rfl
theorem nw_shR (r : Rows) (x y : Int) : shownR [.l r, .i x, .i y] = if (listB r && placeB x y) = true then shoN r x y r.length 0 100000 else 0 := rfl
theorem nw_shE (r : Rows) (x y : Int) : shownE [.l r, .i x, .i y] = if (listB r && placeB x y) = true then 0 else 1 := rfl
theorem nw_leq {a b : Int} (h : a ≤ b) : Value.bool (cmpEv .leq a b) = Value.bool true := by simp [cmpEv, h]
theorem made_valid {x y s : Int} {W H : Nat} {r : Rows} (hf : frP x y s W H) (hl : listB r = true) : gvB x y s W H (rowsI (mkL r x y s W (W * H))) = true := by
  obtain ⟨_, hrow, _⟩ := mo_spec hl
  have hdep : ∀ f, f < r.length → 0 ≤ lg r f 6 ∧ lg r f 6 ≤ 100000 := fun f hf => (featB_iff.mp (hrow f hf)).2.2.1
  have G1 := mkL_len r x y s W (W * H)
  refine gv_rowsI hf (by rw [G1, Int.natCast_mul]) (fun c hc => ?_)
  rw [G1] at hc
  rw [at_mkL hc]
  obtain ⟨p1, _, p3⟩ := mkD_spec (r := r) (rectR (cX x s W c) (cY y s W c) s) r.length
  refine ⟨?_, p1⟩
  rcases p3 with p3 | ⟨f, f1, _, f3⟩
  · omega
  · rw [f3]; exact (hdep f f1).1
theorem cell_box {x y s : Int} {W H c : Nat} (hf : frP x y s W H) (hc : c < W * H) : boxB (cX x s W c) (cX x s W c + s) (cY y s W c) (cY y s W c + s) = true ∧ (0 ≤ ((c % W : Nat) : Int) * s ∧ ((c % W : Nat) : Int) * s + s ≤ (W : Int) * s) ∧ 0 ≤ ((c / W : Nat) : Int) * s ∧ ((c / W : Nat) : Int) * s + s ≤ (H : Int) * s := by
  unfold frP at hf
  have r1 : c % W < W := Nat.mod_lt _ (by omega)
  have r2 : c / W < H := by rw [Nat.div_lt_iff_lt_mul (by omega), Nat.mul_comm H W]; exact hc
  have h1 := step_in (s := s) (by omega) r1
  have h2 := step_in (s := s) (by omega) r2
  refine ⟨?_, h1, h2⟩
  unfold cX cY boxB
  exact decide_eq_true (by omega)
theorem cell_of {x y s px py : Int} {W H : Nat} (hs : 1 ≤ s) (hW : 0 < W) (hH : 0 < H) (h1 : x ≤ px) (h2 : px ≤ x + (W : Int) * s) (h3 : y ≤ py) (h4 : py ≤ y + (H : Int) * s) :
    ∃ c, c < W * H ∧ (cX x s W c ≤ px ∧ px ≤ cX x s W c + s) ∧ cY y s W c ≤ py ∧ py ≤ cY y s W c + s := by
  obtain ⟨a, a1, a2, a3⟩ := part_of (K := 1) (X := x) (s := s) (u := px) (by decide) (show 0 < s by omega) hW (by omega) (by omega)
  obtain ⟨b, b1, b2, b3⟩ := part_of (K := 1) (X := y) (s := s) (u := py) (by decide) (show 0 < s by omega) hH (by omega) (by omega)
  obtain ⟨e1, e2⟩ := rc_of (j := b) a1
  refine ⟨b * W + a, gcell_lt a1 b1, ?_, ?_⟩
  · unfold cX; rw [e1]; omega
  · unfold cY; rw [e2]; omega
theorem KGgb150 (W : World) (ds l : List D) : (envOf KGg W ds).fb 150 l = gvL l := by simp only [envOf, KGg, KGf, KGc, KGb]
theorem KGgb191 (W : World) (ds l : List D) : (envOf KGg W ds).fb 191 l = mkO l := by simp only [envOf, KGg]
theorem KGgi132 (W : World) (ds l : List D) : (envOf KGg W ds).fi 132 l = shownR l := by simp only [envOf, KGg, KGf, KGc, KGb, KGa, K80]
theorem KGgi133 (W : World) (ds l : List D) : (envOf KGg W ds).fi 133 l = shownE l := by simp only [envOf, KGg, KGf, KGc, KGb, KGa, K80]
theorem KGgi192 (W : World) (ds l : List D) : (envOf KGg W ds).fi 192 l = lsR l := by simp only [envOf, KGg]
theorem KGgi193 (W : World) (ds l : List D) : (envOf KGg W ds).fi 193 l = lsE l := by simp only [envOf, KGg]
theorem KGgd6 (W : World) (ds l : List D) : (envOf KGg W ds).fd 6 l = mkR l := by simp only [envOf, KGg]
set_option maxRecDepth 100000 in
set_option maxHeartbeats 8000000 in
theorem gNowhereLaw : Gives Tryz.prog 4 [feats, pt, it, it, it, pt, bx] (fun _ => .bool true) := by
  refine GivesIf.all (fn_gives KGg (by kernel_rfl) (fun ρ h => ctGh_ok (Sees.of h 200) (SeesD.of h 7)) (by kernel_rfl) trNowhere_is trNowhere_low (by decide) (fun W0 vals ds hr _ => ?_))
  clear hr
  simp only [trNowhere, TT.sat_ret, TT.sat_ite, TT.sat_ob, TT.sat_next, TT.sat_stuck, put_i, put_b, put_d, put_fi, put_fb, put_fd, Ob.ok, B.ev, E.ev, X.ev, AL.ev, cmp_t, cmp_f, arEv, V.plain, V2.plain, S.plain, S0.plain, V.val, V2.val, S.val, S0.val, bV, iV, List.all_cons, List.all_nil, Bool.and_true, Bool.and_self, envOf_i, envOf_b, envOf_d, List.map_cons, List.map_nil, true_and, Bool.not_eq_true', Bool.not_eq_false', Bool.not_not, Bool.and_eq_true, and_f, cell_lg, cell_lb, cell_lr, cmpP, val_i, val_b, val_d, aget, Nat.reduceBEq, beq_self_eq_true, Bool.false_eq_true, if_true, if_false, Nat.reduceLT, Nat.reduceSub, Nat.sub_self, Nat.lt_irrefl, KGgb150, KGgb191, KGgi132, KGgi133, KGgi192, KGgi193, KGgd6, gv_six, nw_shE]
  generalize e0 : rAt ds 0 = r at *
  generalize e1 : iAt ds 1 = x at *
  generalize e2 : iAt ds 2 = y at *
  generalize e3 : iAt ds 3 = s at *
  generalize e4 : iAt ds 4 = w at *
  generalize e5 : iAt ds 5 = h at *
  generalize e6 : iAt ds 6 = px at *
  generalize e7 : iAt ds 7 = py at *
  generalize e8 : iAt ds 8 = b1 at *
  generalize e9 : iAt ds 9 = b2 at *
  generalize e10 : iAt ds 10 = b3 at *
  generalize e11 : iAt ds 11 = b4 at *
  by_cases M1 : mkO [.l r, .i x, .i y, .i s, .i w, .i h] = true
  · have hf := M1
    rw [nw_mkO] at hf
    obtain ⟨hfr, hlb⟩ := Bool.and_eq_true_iff.1 hf
    have hfr := of_decide_eq_true hfr
    by_cases P : placeB px py = true
    · have hfr' := hfr
      unfold frP at hfr'
      obtain ⟨W, rfl⟩ := Int.eq_ofNat_of_zero_le (a := w) (by omega)
      obtain ⟨H, rfl⟩ := Int.eq_ofNat_of_zero_le (a := h) (by omega)
      have R1 := nw_mkR x y s W H r
      rw [if_pos M1] at R1
      simp only [Int.toNat_natCast] at R1
      have S1 := nw_shR r px py
      rw [if_pos (by rw [hlb, P]; rfl)] at S1
      have hgv := made_valid hfr hlb
      obtain ⟨_, hrow, _⟩ := mo_spec hlb
      have hWH : W * H ≤ 64 * 64 := Nat.mul_le_mul (by omega) (by omega)
      have cel : ∀ c, c < W * H → (cX x s W c ≤ px ∧ px ≤ cX x s W c + s) ∧ cY y s W c ≤ py ∧ py ≤ cY y s W c + s → Grid.at_ (mkL r x y s W (W * H)) c ≤ shoN r px py r.length 0 100000 := fun c hc hin => by
        rw [at_mkL hc]
        exact nowhere hrow (cell_box hfr hc).1 (by omega) hin
      have G1 := mkL_len r x y s W (W * H)
      generalize mkL r x y s W (W * H) = A at *
      generalize shoN r px py r.length 0 100000 = sh at *
      simp only [M1, hlb, P, Bool.and_self, if_true, R1, hgv, ne_eq, not_true_eq_false, not_false_eq_true, false_implies, true_implies, true_and, and_true, implies_true]
      refine fun _ _ _ => ⟨(fun q => by cases q), ?_⟩
      refine TT.sat_loop (fun v => ∃ c : Nat, v.i 0 = c ∧ c ≤ W * H ∧ v.b 1 = true) (fun v => W * H - (v.i 0).toNat)
        ⟨0, by simp [val_i, aget, E.ev], by omega, by simp [val_b, aget, B.ev]⟩ (fun v hv => ?_)
      obtain ⟨c, c0, c1, c2⟩ := hv
      simp only [TT.sat_ret, TT.sat_ite, TT.sat_ob, TT.sat_next, TT.sat_stuck, put_i, put_b, put_d, put_fi, put_fb, put_fd, Ob.ok, B.ev, E.ev, X.ev, AL.ev, cmp_t, cmp_f, arEv, V.plain, V2.plain, S.plain, S0.plain, V.val, V2.val, S.val, S0.val, bV, iV, List.all_cons, List.all_nil, Bool.and_true, Bool.and_self, envOf_i, envOf_b, envOf_d, List.map_cons, List.map_nil, true_and, Bool.not_eq_true', Bool.not_eq_false', Bool.not_not, Bool.and_eq_true, and_f, cell_lg, cell_lb, cell_lr, cmpP, val_i, val_b, val_d, aget, Nat.reduceBEq, beq_self_eq_true, Bool.false_eq_true, if_true, if_false, Nat.reduceLT, Nat.reduceSub, Nat.sub_self, Nat.lt_irrefl, c0, c2, e0, e1, e2, e3, e4, e5, e6, e7, e8, e9, e10, e11, KGgb150, KGgb191, KGgi132, KGgi133, KGgi192, KGgi193, KGgd6, gv_six, R1, S1, rowsI_len, G1]
      refine ⟨fun hc => ⟨fun _ => ?_, fun q => by cases q⟩, fun hc => ⟨fun _ => ?_, fun q => by cases q⟩⟩
      · have hcl : c < W * H := by omega
        have cb := (cell_box hfr hcl).2
        have hcel := cel c hcl
        unfold cX cY at hcel
        have ew : IntKind.i64.wrap ((c : Int) + 1) = ((c + 1 : Nat) : Int) := by rw [wrap_in _ (by omega) (by omega)]; omega
        have t1 : (c : Int).tmod (W : Int) = ((c % W : Nat) : Int) := rfl
        have t2 : IntKind.i64.wrap ((c : Int).tdiv (W : Int)) = ((c / W : Nat) : Int) := wrap_nat (Nat.le_trans (Nat.div_le_self _ _) (by omega))
        rw [t1, t2]
        generalize ((c % W : Nat) : Int) * s = p1 at *
        generalize ((c / W : Nat) : Int) * s = p2 at *
        rw [wrap_in p1 (by omega) (by omega), wrap_in p2 (by omega) (by omega), wrap_in (x + p1) (by omega) (by omega), wrap_in (y + p2) (by omega) (by omega), wrap_in (x + p1 + s) (by omega) (by omega), wrap_in (y + p2 + s) (by omega) (by omega), ew, lg_rowsI (by omega)]
        have fin : ∀ p : Prop, p → (∃ c_1 : Nat, ((c + 1 : Nat) : Int) = ↑c_1 ∧ c_1 ≤ W * H ∧ p) ∧ W * H - (((c + 1 : Nat) : Int)).toNat < W * H - ((c : Int)).toNat := fun p hp => ⟨⟨c + 1, rfl, by omega, hp⟩, by rw [Int.toNat_natCast, Int.toNat_natCast]; omega⟩
        exact ⟨by omega, by omega, fun a1 => ⟨fun a2 => ⟨fun a3 => ⟨fun _ => fin True trivial, fun a4 => ⟨by omega, by omega, fin _ (hcel ⟨⟨a1, a2⟩, a3, a4⟩)⟩⟩, fun _ => fin True trivial⟩, fun _ => fin True trivial⟩, fun _ => fin True trivial⟩
      · refine ⟨fun _ => trivial, fun q => ⟨fun a1 => ⟨fun a2 => ⟨fun a3 => ⟨fun _ => trivial, fun a4 => ?_⟩, fun _ => trivial⟩, fun _ => trivial⟩, fun _ => trivial⟩⟩
        refine nw_leq ?_
        have q := Classical.not_not.1 q
        have L := nw_lsR x y s W H b1 b2 b3 b4 (rowsI A)
        rw [if_pos q, cells_rows] at L
        simp only [Int.toNat_natCast] at L
        rw [nw_lsE] at q
        by_cases g : (gvB x y s (W : Int) (H : Int) (rowsI A) && boxB b1 b2 b3 b4) = true
        · rw [if_pos g] at q
          by_cases e : x ≤ b1 ∧ b2 ≤ x + (W : Int) * s ∧ y ≤ b3 ∧ b4 ≤ y + (H : Int) * s
          · obtain ⟨c, d1, d2, d3, d4⟩ := cell_of (x := x) (y := y) (s := s) (px := px) (py := py) (W := W) (H := H) (by omega) (by omega) (by omega) (by omega) (by omega) (by omega) (by omega)
            obtain ⟨_, l2, _⟩ := lsN_spec (x := x) (y := y) (s := s) (W := W) (D := A) (b1 := b1) (b2 := b2) (b3 := b3) (b4 := b4) (W * H)
            rw [L]
            refine Int.le_trans (l2 c d1 ?_) (cel c d1 ⟨d2, d3, d4⟩)
            unfold mtC
            exact decide_eq_true (by omega)
          · rw [if_neg (by rw [decide_eq_true_eq]; exact e)] at q
            omega
        · rw [if_neg g] at q
          omega
    · simp only [Bool.not_eq_true] at P
      simp [M1, hlb, P, cmpEv]
  · simp only [Bool.not_eq_true] at M1
    simp [M1]
end Go.Proofs.YtcjaembdcfppfaaGreat
/- Chapter 11: the law GridSafe. -/
namespace Go.Proofs.YtcjaembdcfppfaaGreat
open Go.RowKit
theorem sf_path (a b c d e f g h : Int) (r : Rows) : pathE [.i a, .i b, .i c, .i d, .i e, .l r, .i f, .i g, .i h] = if (gvB a b c d e r && decide (0 ≤ f ∧ f ≤ 100000 ∧ 0 ≤ g ∧ g < (r.length : Nat) ∧ 0 ≤ h ∧ h < (r.length : Nat))) = true then
    (if decide (Grid.at_ (cellsI r) g.toNat < f ∨ Grid.at_ (cellsI r) h.toNat < f ∨ Grid.at_ (Grid.stepsF d.toNat e.toNat (cellsI r) f h.toNat) g.toNat < 0) = true then 4 else 0) else 1 := rfl
theorem sf_way (a b c d e f g h : Int) (r : Rows) : pathR [.i a, .i b, .i c, .i d, .i e, .l r, .i f, .i g, .i h] = if pathE [.i a, .i b, .i c, .i d, .i e, .l r, .i f, .i g, .i h] = 0 then rowsI (natI (Grid.wayF d.toNat e.toNat (Grid.stepsF d.toNat e.toNat (cellsI r) f h.toNat) g.toNat)) else [] := rfl
theorem sf_ok {x y s need fr to : Int} {W H : Nat} {A : List Int} (hA : A.length = W * H) (hW : 0 < W) (q : pathE [.i x, .i y, .i s, .i W, .i H, .l (rowsI A), .i need, .i fr, .i to] = 0) :
    ∃ way : List Nat, pathR [.i x, .i y, .i s, .i W, .i H, .l (rowsI A), .i need, .i fr, .i to] = rowsI (natI way) ∧ way.length ≤ 5000 ∧ ∀ c ∈ way, c < W * H ∧ need ≤ Grid.at_ A c := by
  have hR := sf_way x y s W H need fr to (rowsI A)
  rw [if_pos q, cells_rows] at hR
  rw [sf_path, cells_rows, rowsI_len, hA] at q
  by_cases g : (gvB x y s (W : Int) (H : Int) (rowsI A) && decide (0 ≤ need ∧ need ≤ 100000 ∧ 0 ≤ fr ∧ fr < ((W * H : Nat) : Int) ∧ 0 ≤ to ∧ to < ((W * H : Nat) : Int))) = true
  · rw [if_pos g] at q
    have g1 := (Bool.and_eq_true_iff.1 g).1
    have g := of_decide_eq_true (Bool.and_eq_true_iff.1 g).2
    obtain ⟨f, rfl⟩ := Int.eq_ofNat_of_zero_le (a := fr) (by omega)
    obtain ⟨t, rfl⟩ := Int.eq_ofNat_of_zero_le (a := to) (by omega)
    simp only [Int.toNat_natCast] at q hR
    have hs := Grid.stepsF_is (D := A) (need := need) hW (show t < W * H by omega)
    have ok : need ≤ Grid.at_ A f ∧ need ≤ Grid.at_ A t ∧ 0 ≤ Grid.at_ (Grid.stepsF W H A need t) f := by
      refine Classical.byContradiction fun z => ?_
      rw [if_pos (by rw [decide_eq_true_eq]; omega)] at q
      omega
    have hway := Grid.way_is hs hW (show t < W * H by omega) ok.2.1 (show f < W * H by omega) ok.2.2
    refine ⟨_, hR, ?_, fun c hc => hway.all c hc⟩
    rw [Grid.way_len]
    have hd := dist_small hW (show t < W * H by omega) hs (show f < W * H by omega) ok.2.2
    have hf := (gv_facts g1).1
    unfold frP at hf
    have : W * H ≤ 64 * 64 := Nat.mul_le_mul (by omega) (by omega)
    omega
  · rw [if_neg g] at q
    omega
theorem KGgi161 (W : World) (ds l : List D) : (envOf KGg W ds).fi 161 l = pathE l := by simp only [envOf, KGg, KGf, KGc]
theorem KGgd3 (W : World) (ds l : List D) : (envOf KGg W ds).fd 3 l = pathR l := by simp only [envOf, KGg, KGf, KGc]
set_option maxRecDepth 100000 in
set_option maxHeartbeats 8000000 in
theorem gSafeLaw : Gives Tryz.prog 5 [feats, pt, it, it, it, it, it, it, pt] (fun _ => .bool true) := by
  refine GivesIf.all (fn_gives KGg (by kernel_rfl) (fun ρ h => ctGh_ok (Sees.of h 200) (SeesD.of h 7)) (by kernel_rfl) trSafe_is trSafe_low (by decide) (fun W0 vals ds hr _ => ?_))
  clear hr
  simp only [trSafe, TT.sat_ret, TT.sat_ite, TT.sat_ob, TT.sat_next, TT.sat_stuck, put_i, put_b, put_d, put_fi, put_fb, put_fd, Ob.ok, B.ev, E.ev, X.ev, AL.ev, cmp_t, cmp_f, arEv, V.plain, V2.plain, S.plain, S0.plain, V.val, V2.val, S.val, S0.val, bV, iV, List.all_cons, List.all_nil, Bool.and_true, Bool.and_self, envOf_i, envOf_b, envOf_d, List.map_cons, List.map_nil, true_and, Bool.not_eq_true', Bool.not_eq_false', Bool.not_not, Bool.and_eq_true, and_f, cell_lg, cell_lb, cell_lr, cmpP, val_i, val_b, val_d, aget, Nat.reduceBEq, beq_self_eq_true, Bool.false_eq_true, if_true, if_false, Nat.reduceLT, Nat.reduceSub, Nat.sub_self, Nat.lt_irrefl, KGgb150, KGgb191, KGgi132, KGgi133, KGgi161, KGgd3, KGgd6, gv_six, nw_shE]
  generalize e0 : rAt ds 0 = r at *
  generalize e1 : iAt ds 1 = x at *
  generalize e2 : iAt ds 2 = y at *
  generalize e3 : iAt ds 3 = s at *
  generalize e4 : iAt ds 4 = w at *
  generalize e5 : iAt ds 5 = h at *
  generalize e6 : iAt ds 6 = need at *
  generalize e7 : iAt ds 7 = fr at *
  generalize e8 : iAt ds 8 = to at *
  generalize e9 : iAt ds 9 = px at *
  generalize e10 : iAt ds 10 = py at *
  by_cases M1 : mkO [.l r, .i x, .i y, .i s, .i w, .i h] = true
  · have hf := M1
    rw [nw_mkO] at hf
    obtain ⟨hfr, hlb⟩ := Bool.and_eq_true_iff.1 hf
    have hfr := of_decide_eq_true hfr
    have hfr' := hfr
    unfold frP at hfr'
    obtain ⟨W, rfl⟩ := Int.eq_ofNat_of_zero_le (a := w) (by omega)
    obtain ⟨H, rfl⟩ := Int.eq_ofNat_of_zero_le (a := h) (by omega)
    have R1 := nw_mkR x y s W H r
    rw [if_pos M1] at R1
    simp only [Int.toNat_natCast] at R1
    have hgv := made_valid hfr hlb
    obtain ⟨_, hrow, _⟩ := mo_spec hlb
    have hWH : W * H ≤ 64 * 64 := Nat.mul_le_mul (by omega) (by omega)
    have cel : ∀ c, c < W * H → (cX x s W c ≤ px ∧ px ≤ cX x s W c + s) ∧ cY y s W c ≤ py ∧ py ≤ cY y s W c + s → Grid.at_ (mkL r x y s W (W * H)) c ≤ shoN r px py r.length 0 100000 := fun c hc hin => by
      rw [at_mkL hc]
      exact nowhere hrow (cell_box hfr hc).1 (by omega) hin
    have G1 := mkL_len r x y s W (W * H)
    have S1 := nw_shR r px py
    generalize mkL r x y s W (W * H) = A at *
    generalize shoN r px py r.length 0 100000 = sh at *
    by_cases Q : pathE [.i x, .i y, .i s, .i W, .i H, .l (rowsI A), .i need, .i fr, .i to] = 0
    · obtain ⟨way, hway, wl, wall⟩ := sf_ok G1 (by omega) Q
      simp only [M1, hlb, R1, hgv, Q, hway, ne_eq, not_true_eq_false, not_false_eq_true, false_implies, true_implies, true_and, and_true, implies_true]
      refine fun _ _ _ => ⟨(fun q => by cases q), ?_⟩
      refine TT.sat_loop (fun v => ∃ i : Nat, v.i 1 = i ∧ i ≤ way.length ∧ (v.b 0 = true → ∃ c, c < W * H ∧ need ≤ Grid.at_ A c ∧ (cX x s W c ≤ px ∧ px ≤ cX x s W c + s) ∧ cY y s W c ≤ py ∧ py ≤ cY y s W c + s)) (fun v => way.length - (v.i 1).toNat)
        ⟨0, by simp [val_i, aget, E.ev], by omega, by simp [val_b, aget, B.ev]⟩ (fun v hv => ?_)
      obtain ⟨i, i0, i1, i2⟩ := hv
      simp only [TT.sat_ret, TT.sat_ite, TT.sat_ob, TT.sat_next, TT.sat_stuck, put_i, put_b, put_d, put_fi, put_fb, put_fd, Ob.ok, B.ev, E.ev, X.ev, AL.ev, cmp_t, cmp_f, arEv, V.plain, V2.plain, S.plain, S0.plain, V.val, V2.val, S.val, S0.val, bV, iV, List.all_cons, List.all_nil, Bool.and_true, Bool.and_self, envOf_i, envOf_b, envOf_d, List.map_cons, List.map_nil, true_and, Bool.not_eq_true', Bool.not_eq_false', Bool.not_not, Bool.and_eq_true, and_f, cell_lg, cell_lb, cell_lr, cmpP, val_i, val_b, val_d, aget, Nat.reduceBEq, beq_self_eq_true, Bool.false_eq_true, if_true, if_false, Nat.reduceLT, Nat.reduceSub, Nat.sub_self, Nat.lt_irrefl, i0, e0, e1, e2, e3, e4, e5, e6, e7, e8, e9, e10, KGgb150, KGgb191, KGgi132, KGgi133, KGgi161, KGgd3, KGgd6, gv_six, nw_shE, R1, hway, rowsI_len, natI_len, G1]
      refine ⟨fun hc => ?_, fun hc => ?_⟩
      · have hi : i < way.length := by omega
        have ew : IntKind.i64.wrap ((i : Int) + 1) = ((i + 1 : Nat) : Int) := by rw [wrap_in _ (by omega) (by omega)]; omega
        have hcell := wall _ (List.getElem_mem hi)
        have el : lg (rowsI (natI way)) (i : Int) 0 = ((way[i] : Nat) : Int) := by
          rw [lg_rowsI (by rw [natI_len]; exact hi)]
          simp [Grid.at_, natI, hi]
        rw [ew, el]
        generalize way[i] = c at *
        obtain ⟨c1, c2⟩ := hcell
        have cb := (cell_box hfr c1).2
        have t1 : (c : Int).tmod (W : Int) = ((c % W : Nat) : Int) := rfl
        have t2 : IntKind.i64.wrap ((c : Int).tdiv (W : Int)) = ((c / W : Nat) : Int) := wrap_nat (Nat.le_trans (Nat.div_le_self _ _) (by omega))
        have q1 : cX x s W c = x + ((c % W : Nat) : Int) * s := rfl
        have q2 : cY y s W c = y + ((c / W : Nat) : Int) * s := rfl
        rw [t1, t2]
        generalize ((c % W : Nat) : Int) * s = p1 at *
        generalize ((c / W : Nat) : Int) * s = p2 at *
        rw [wrap_in p1 (by omega) (by omega), wrap_in p2 (by omega) (by omega), wrap_in (x + p1) (by omega) (by omega), wrap_in (y + p2) (by omega) (by omega), wrap_in (x + p1 + s) (by omega) (by omega), wrap_in (y + p2 + s) (by omega) (by omega)]
        have hm : way.length - (((i + 1 : Nat) : Int)).toNat < way.length - ((i : Int)).toNat := by rw [Int.toNat_natCast, Int.toNat_natCast]; omega
        refine ⟨by omega, by omega, fun q => by omega, fun _ => ⟨by omega, by omega, fun q => by omega, fun _ => ⟨fun on => ⟨⟨i + 1, rfl, by omega, fun _ => i2 on⟩, hm⟩, fun _ => ⟨by omega, by omega, by omega, by omega, fun a1 => ⟨fun a2 => ⟨fun a3 => ⟨⟨i + 1, rfl, by omega, fun a4 => ⟨c, c1, c2, ?_⟩⟩, hm⟩, fun _ => ⟨⟨i + 1, rfl, by omega, fun k => k.elim⟩, hm⟩⟩, fun _ => ⟨⟨i + 1, rfl, by omega, fun k => k.elim⟩, hm⟩⟩, fun _ => ⟨⟨i + 1, rfl, by omega, fun k => k.elim⟩, hm⟩⟩⟩⟩⟩
        rw [q1, q2]
        exact ⟨⟨a1, a2⟩, a3, a4⟩
      · refine ⟨fun _ => trivial, fun on => ?_⟩
        obtain ⟨c, c1, c2, c3⟩ := i2 on
        have hb := (cell_box hfr c1).1
        have P : placeB px py = true := by
          unfold boxB at hb
          have hb := of_decide_eq_true hb
          unfold placeB
          exact decide_eq_true (by omega)
        rw [if_pos (by rw [hlb, P]; rfl)] at S1
        rw [if_pos ⟨hlb, P⟩, S1]
        have := cel c c1 c3
        refine ⟨fun _ => ?_, fun q => absurd rfl q⟩
        have hge : need ≤ sh := by omega
        simp [cmpEv, hge]
    · simp only [M1, R1]
      simp [Q]
  · simp only [Bool.not_eq_true] at M1
    simp [M1]
end Go.Proofs.YtcjaembdcfppfaaGreat
