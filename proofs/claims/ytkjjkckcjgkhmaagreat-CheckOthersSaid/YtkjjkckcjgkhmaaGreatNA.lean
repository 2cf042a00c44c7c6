/- NA, merged: Lm0, TNa, Na, TNb, Nb. -/
import Derived.Test.YtkjjkckcjgkhmaaGreatMG
import Derived.Test.YtkjjkckcjgkhmaaGreatMD
import Derived.Test.YtkjjkckcjgkhmaaGreatMY
set_option linter.unusedSimpArgs false
set_option linter.unusedVariables false
/- Chapters 38, 40: symbols of the older contracts. -/
namespace Go.Proofs.YtkjjkckcjgkhmaaGreat
open Go.RowKit
theorem KG_K7 {ρ : Env} (h : Sees ρ KG 80) : Sees ρ K7 61 := h.trans (by decide) fun n l hn => by
  have e : n < 61 := hn
  refine ⟨?_, ?_⟩
  · simp only [KG, KF, KE, KD, KC, KB, KA, K9, K8]
    (repeat' split) <;> first | omega | rfl
  · simp only [KG, KF, KE, KD, KC, KB, KA, K9, K8]
    (repeat' split) <;> first | omega | rfl
theorem KG_K8 {ρ : Env} (h : Sees ρ KG 80) : Sees ρ K8 65 := h.trans (by decide) fun n l hn => by
  have e : n < 65 := hn
  refine ⟨?_, ?_⟩
  · simp only [KG, KF, KE, KD, KC, KB, KA, K9]
    (repeat' split) <;> first | omega | rfl
  · simp only [KG, KF, KE, KD, KC, KB, KA, K9]
    (repeat' split) <;> first | omega | rfl
end Go.Proofs.YtkjjkckcjgkhmaaGreat
/- Chapter 40: trees of what is small. -/
namespace Go.Proofs.YtkjjkckcjgkhmaaGreat
open Go.RowKit
def tid : Sh := .agg [.int .i64, .int .i64, .sl [.int .i64, .int .i64]]
def featK : List CK := [.int .i64, .int .i64, .int .i64, .int .i64, .int .i64, .sl ptK, .int .i64, .int .i64, .sl secK]
def feats : Sh := .one (.sl featK)
def shp : Sh := .agg [.int .i64, .int .i64, .sl [.int .i64]]
def dat : Sh := .agg [.int .i64, .int .i64, .int .i64, .int .i64, .int .i64, .int .i64, .int .i64]
-- term trTiH: call Tryz.prog ct6 (Lt.of []) 100 163 (symArgs 0 [sp]) [] 0
def trTiH : TT OpR :=
(.ite (.fn 30 (.i (.var 0) (.i (.var 1) .nil)))
 (.ite (.cmp .geq (.var 0) (.lit (-100000)))
 (.ret ((.v (.one (.z (.bool (.cmp .leq (.var 1) (.lit 100000)))))), [], 1))
 (.ret ((.v (.one (.z (.bool (.lit false))))), [], 1)))
 (.ret ((.v (.one (.z (.bool (.lit false))))), [], 1)))
-- end trTiH
set_option maxRecDepth 100000 in
theorem trTiH_is : T.norm 0 (call Tryz.prog ct6 (Lt.of []) 100 163 (symArgs 0 [sp]) [] 0) TT.ret = trTiH := by kernel_rfl
theorem trTiH_low : trTiH.low 1000 = true := by kernel_rfl
-- term trSpJoin: call Tryz.prog ct6 (Lt.of []) 100 110 (symArgs 0 [sp, sp]) [] 0
def trSpJoin : TT OpR :=
(.ite (.not (.fn 30 (.i (.var 0) (.i (.var 1) .nil))))
 (.ret ((.tup [(.agg [(.z (.int .i64 (.lit 0))), (.z (.int .i64 (.lit 0)))]), (.one (.z (.int .i64 (.lit 1))))]), [], 3))
 (.ite (.not (.fn 30 (.i (.var 2) (.i (.var 3) .nil))))
 (.ret ((.tup [(.agg [(.z (.int .i64 (.lit 0))), (.z (.int .i64 (.lit 0)))]), (.one (.z (.int .i64 (.lit 1))))]), [], 3))
 (.ret ((.tup [(.agg [(.z (.int .i64 (.mn (.var 0) (.var 2)))), (.z (.int .i64 (.mx (.var 1) (.var 3))))]), (.one (.z (.int .i64 (.lit 0))))]), [], 3))))
-- end trSpJoin
set_option maxRecDepth 100000 in
theorem trSpJoin_is : T.norm 0 (call Tryz.prog ct6 (Lt.of []) 100 110 (symArgs 0 [sp, sp]) [] 0) TT.ret = trSpJoin := by kernel_rfl
theorem trSpJoin_low : trSpJoin.low 1000 = true := by kernel_rfl
-- term trKeV: call Tryz.prog [] (Lt.of []) 100 19 (symArgs 0 [shp]) [] 0
def trKeV : TT OpR :=
(.ite (.cmp .lss (.var 0) (.lit 1))
 (.ret ((.v (.one (.z (.bool (.lit false))))), [], 1))
 (.ite (.cmp .gtr (.var 0) (.lit 1000))
 (.ret ((.v (.one (.z (.bool (.lit false))))), [], 1))
 (.ite (.cmp .lss (.var 1) (.lit 0))
 (.ret ((.v (.one (.z (.bool (.lit false))))), [], 1))
 (.ite (.cmp .gtr (.var 1) (.lit 1000))
 (.ret ((.v (.one (.z (.bool (.lit false))))), [], 1))
 (.ite (.cmp .eql (.len (.var 2)) (.lit 0))
 (.ret ((.v (.one (.z (.bool (.lit false))))), [], 1))
 (.ite (.cmp .gtr (.len (.var 2)) (.lit 20))
 (.ret ((.v (.one (.z (.bool (.lit false))))), [], 1))
 (.loop 0 2000 ⟨[(0, (.ar .sub .i64 (.len (.var 2)) (.lit 1)))], [], []⟩
 (.ite (.cmp .gtr (.var 2000) (.lit 0))
 (.ob (.tru (.cmp .leq (.lit 0) (.var 2000)))
 (.ob (.tru (.cmp .lss (.var 2000) (.len (.var 2))))
 (.ob (.tru (.cmp .leq (.lit 0) (.ar .sub .i64 (.var 2000) (.lit 1))))
 (.ob (.tru (.cmp .lss (.ar .sub .i64 (.var 2000) (.lit 1)) (.len (.var 2))))
 (.ite (.cmp .lss (.rd (.var 2) (.var 2000) 0) (.rd (.var 2) (.ar .sub .i64 (.var 2000) (.lit 1)) 0))
 (.ret ((.v (.one (.z (.bool (.lit false))))), [], 2))
 (.next 0 ⟨[(0, (.ar .sub .i64 (.var 2000) (.lit 1)))], [], []⟩))))))
 (.ob (.tru (.lit true))
 (.ob (.tru (.cmp .lss (.lit 0) (.len (.var 2))))
 (.ite (.cmp .geq (.rd (.var 2) (.lit 0) 0) (.lit 0))
 (.ob (.tru (.cmp .leq (.lit 0) (.ar .sub .i64 (.len (.var 2)) (.lit 1))))
 (.ob (.tru (.cmp .lss (.ar .sub .i64 (.len (.var 2)) (.lit 1)) (.len (.var 2))))
 (.ret ((.v (.one (.z (.bool (.cmp .leq (.rd (.var 2) (.ar .sub .i64 (.len (.var 2)) (.lit 1)) 0) (.lit 1000)))))), [], 2))))
 (.ret ((.v (.one (.z (.bool (.lit false))))), [], 2)))))))))))))
-- end trKeV
set_option maxRecDepth 100000 in
theorem trKeV_is : T.norm 0 (call Tryz.prog [] (Lt.of []) 100 19 (symArgs 0 [shp]) [] 0) TT.ret = trKeV := by kernel_rfl
theorem trKeV_low : trKeV.low 1000 = true := by kernel_rfl
-- term trDaV: call Tryz.prog [] (Lt.of [(76, 0)]) 100 76 (symArgs 0 [dat]) [] 0
def trDaV : TT OpR :=
(.ite (.cmp .lss (.var 0) (.lit (-2000000)))
 (.ret ((.v (.one (.z (.bool (.lit false))))), [], 1))
 (.ite (.cmp .gtr (.var 0) (.lit 2000000))
 (.ret ((.v (.one (.z (.bool (.lit false))))), [], 1))
 (.ite (.cmp .lss (.var 1) (.lit (-2000000)))
 (.ret ((.v (.one (.z (.bool (.lit false))))), [], 1))
 (.ite (.cmp .gtr (.var 1) (.lit 2000000))
 (.ret ((.v (.one (.z (.bool (.lit false))))), [], 1))
 (.ite (.cmp .lss (.var 3) (.lit (-2000000)))
 (.ret ((.v (.one (.z (.bool (.lit false))))), [], 1))
 (.ite (.cmp .gtr (.var 3) (.lit 2000000))
 (.ret ((.v (.one (.z (.bool (.lit false))))), [], 1))
 (.ite (.cmp .lss (.var 4) (.lit (-2000000)))
 (.ret ((.v (.one (.z (.bool (.lit false))))), [], 1))
 (.ite (.cmp .gtr (.var 4) (.lit 2000000))
 (.ret ((.v (.one (.z (.bool (.lit false))))), [], 1))
 (.ite (.cmp .geq (.ar .sub .i64 (.ar .mul .i64 (.var 0) (.var 4)) (.ar .mul .i64 (.var 1) (.var 3))) (.lit 250000000000))
 (.ite (.cmp .geq (.mn (.var 2) (.var 5)) (.lit (-100000)))
 (.ite (.cmp .leq (.mx (.var 2) (.var 5)) (.lit 100000))
 (.ite (.cmp .geq (.var 6) (.lit 0))
 (.ret ((.v (.one (.z (.bool (.cmp .leq (.var 6) (.lit 1000)))))), [], 2))
 (.ret ((.v (.one (.z (.bool (.lit false))))), [], 2)))
 (.ret ((.v (.one (.z (.bool (.lit false))))), [], 2)))
 (.ret ((.v (.one (.z (.bool (.lit false))))), [], 2)))
 (.ret ((.v (.one (.z (.bool (.lit false))))), [], 2)))))))))))
-- end trDaV
set_option maxRecDepth 100000 in
theorem trDaV_is : T.norm 0 (call Tryz.prog [] (Lt.of [(76, 0)]) 100 76 (symArgs 0 [dat]) [] 0) TT.ret = trDaV := by kernel_rfl
theorem trDaV_low : trDaV.low 1000 = true := by kernel_rfl
-- term trList: call Tryz.prog ctF (Lt.of []) 100 113 (symArgs 0 [feats]) [] 0
def trList : TT OpR :=
(.loop 0 1000 ⟨[(0, (.lit 0)), (1, (.lit 0))], [], []⟩
 (.ite (.cmp .lss (.var 1001) (.len (.var 0)))
 (.ob (.tru (.cmp .leq (.lit 0) (.var 1001)))
 (.ob (.tru (.cmp .lss (.var 1001) (.len (.var 0))))
 (.ite (.not (.fn 76 (.i (.rd (.var 0) (.var 1001) 0) (.i (.rd (.var 0) (.var 1001) 1) (.i (.rd (.var 0) (.var 1001) 2) (.i (.rd (.var 0) (.var 1001) 3) (.i (.rd (.var 0) (.var 1001) 4) (.x (.rd (.var 0) (.var 1001) 5) (.i (.rd (.var 0) (.var 1001) 6) (.i (.rd (.var 0) (.var 1001) 7) (.x (.rd (.var 0) (.var 1001) 8) .nil)))))))))))
 (.ret ((.v (.one (.z (.bool (.lit false))))), [], 2))
 (.ite (.cmp .leq (.rd (.var 0) (.var 1001) 0) (.var 1000))
 (.ret ((.v (.one (.z (.bool (.lit false))))), [], 2))
 (.next 0 ⟨[(0, (.rd (.var 0) (.var 1001) 0)), (1, (.ar .add .i64 (.var 1001) (.lit 1)))], [], []⟩)))))
 (.ret ((.v (.one (.z (.bool (.cmp .leq (.len (.var 0)) (.lit 300)))))), [], 2))))
-- end trList
set_option maxRecDepth 100000 in
theorem trList_is : T.norm 0 (call Tryz.prog ctF (Lt.of []) 100 113 (symArgs 0 [feats]) [] 0) TT.ret = trList := by kernel_rfl
theorem trList_low : trList.low 1000 = true := by kernel_rfl
-- term trFeSame: call Tryz.prog [] (Lt.of []) 100 250 (symArgs 0 [feat, feat]) [] 0
def trFeSame : TT OpR :=
(.ite (.cmp .eql (.var 0) (.var 9))
 (.ite (.cmp .eql (.var 1) (.var 10))
 (.ite (.and (.cmp .eql (.var 2) (.var 11)) (.cmp .eql (.var 3) (.var 12)))
 (.ite (.cmp .eql (.var 4) (.var 13))
 (.ite (.cmp .eql (.var 6) (.var 15))
 (.ite (.cmp .eql (.var 7) (.var 16))
 (.ite (.cmp .neq (.len (.var 5)) (.len (.var 14)))
 (.ret ((.v (.one (.z (.bool (.lit false))))), [], 2))
 (.loop 0 3000 ⟨[(0, (.lit 0))], [], []⟩
 (.ite (.cmp .lss (.var 3000) (.len (.var 5)))
 (.ob (.tru (.cmp .leq (.lit 0) (.var 3000)))
 (.ob (.tru (.cmp .lss (.var 3000) (.len (.var 5))))
 (.ob (.tru (.cmp .leq (.lit 0) (.var 3000)))
 (.ob (.tru (.cmp .lss (.var 3000) (.len (.var 14))))
 (.ite (.not (.and (.cmp .eql (.rd (.var 5) (.var 3000) 0) (.rd (.var 14) (.var 3000) 0)) (.cmp .eql (.rd (.var 5) (.var 3000) 1) (.rd (.var 14) (.var 3000) 1))))
 (.ret ((.v (.one (.z (.bool (.lit false))))), [], 3))
 (.next 0 ⟨[(0, (.ar .add .i64 (.var 3000) (.lit 1)))], [], []⟩))))))
 (.ite (.cmp .neq (.len (.var 8)) (.len (.var 17)))
 (.ret ((.v (.one (.z (.bool (.lit false))))), [], 3))
 (.loop 1 4000 ⟨[(0, (.lit 0))], [], []⟩
 (.ite (.cmp .lss (.var 4000) (.len (.var 8)))
 (.ob (.tru (.cmp .leq (.lit 0) (.var 4000)))
 (.ob (.tru (.cmp .lss (.var 4000) (.len (.var 8))))
 (.ob (.tru (.cmp .leq (.lit 0) (.var 4000)))
 (.ob (.tru (.cmp .lss (.var 4000) (.len (.var 17))))
 (.ite (.not (.and (.and (.cmp .eql (.rd (.var 8) (.var 4000) 0) (.rd (.var 17) (.var 4000) 0)) (.cmp .eql (.rd (.var 8) (.var 4000) 1) (.rd (.var 17) (.var 4000) 1))) (.and (.and (.cmp .eql (.rd (.var 8) (.var 4000) 2) (.rd (.var 17) (.var 4000) 2)) (.cmp .eql (.rd (.var 8) (.var 4000) 3) (.rd (.var 17) (.var 4000) 3))) (.and (.cmp .eql (.rd (.var 8) (.var 4000) 4) (.rd (.var 17) (.var 4000) 4)) (.cmp .eql (.rd (.var 8) (.var 4000) 5) (.rd (.var 17) (.var 4000) 5))))))
 (.ret ((.v (.one (.z (.bool (.lit false))))), [], 4))
 (.next 1 ⟨[(0, (.ar .add .i64 (.var 4000) (.lit 1)))], [], []⟩))))))
 (.ret ((.v (.one (.z (.bool (.lit true))))), [], 4))))))))
 (.ret ((.v (.one (.z (.bool (.lit false))))), [], 2)))
 (.ret ((.v (.one (.z (.bool (.lit false))))), [], 2)))
 (.ret ((.v (.one (.z (.bool (.lit false))))), [], 2)))
 (.ret ((.v (.one (.z (.bool (.lit false))))), [], 2)))
 (.ret ((.v (.one (.z (.bool (.lit false))))), [], 2)))
 (.ret ((.v (.one (.z (.bool (.lit false))))), [], 2)))
-- end trFeSame
set_option maxRecDepth 100000 in
theorem trFeSame_is : T.norm 0 (call Tryz.prog [] (Lt.of []) 100 250 (symArgs 0 [feat, feat]) [] 0) TT.ret = trFeSame := by kernel_rfl
theorem trFeSame_low : trFeSame.low 1000 = true := by kernel_rfl
end Go.Proofs.YtkjjkckcjgkhmaaGreat
/- Chapter 40: what is small: heights, spans, ships, datums, lists of features. -/
namespace Go.Proofs.YtkjjkckcjgkhmaaGreat
open Go.RowKit
def htB (lo hi : Int) : Bool := spanB lo hi && decide (-100000 ≤ lo ∧ hi ≤ 100000)
def htL (ds : List D) : Bool := htB (iAt ds 0) (iAt ds 1)
theorem ht_2 (a b : Int) : htL [.i a, .i b] = htB a b := rfl
theorem span_2 (x y : Int) : spanL [.i x, .i y] = spanB x y := rfl
theorem K7b30 (W : World) (ds l : List D) : (envOf K7 W ds).fb 30 l = spanL l := by simp only [envOf, K7, K6, K5, K]
theorem gTiH : Gives Tryz.prog 163 [sp] (fun ds => .bool (htL ds)) := by
  refine GivesIf.all (fn_gives K7 (by kernel_rfl) (fun ρ h => ct6_ok (K7_K6 (Sees.of h 61))) (by kernel_rfl) trTiH_is trTiH_low (by decide) (fun W vals ds _ _ => ?_))
  simp only [trTiH, TT.sat_ret, TT.sat_ite, B.ev, E.ev, AL.ev, cmp_t, cmp_f, V.plain, V2.plain, S.plain, S0.plain, V.val, V2.val, S.val, S0.val, envOf_i, true_and, cmpP, K7b30, span_2]
  have e : htL ds = (spanB (iAt ds 0) (iAt ds 1) && decide (-100000 ≤ iAt ds 0 ∧ iAt ds 1 ≤ 100000)) := rfl
  rw [e]
  refine ⟨fun h1 => ⟨fun h2 => ?_, fun h2 => ?_⟩, fun h1 => ?_⟩
  all_goals (refine congrArg Value.bool ?_; rw [Bool.eq_iff_iff]; simp only [cmp_t, cmpP, decide_eq_true_eq, Bool.false_eq_true, false_iff, Bool.and_eq_true, *, true_and, false_and, not_false_eq_true]; try omega)
def sp22 (ds : List D) : Bool := spanB (iAt ds 0) (iAt ds 1) && spanB (iAt ds 2) (iAt ds 3)
def sjA (ds : List D) : Int := if sp22 ds then min (iAt ds 0) (iAt ds 2) else 0
def sjB (ds : List D) : Int := if sp22 ds then max (iAt ds 1) (iAt ds 3) else 0
def sjE (ds : List D) : Int := if sp22 ds then 0 else 1
theorem gSpJ : Gives Tryz.prog 110 [sp, sp] (fun ds => .tuple #[.agg #[.int .i64 (sjA ds), .int .i64 (sjB ds)], .int .i64 (sjE ds)]) := by
  refine GivesIf.all (fn_gives K7 (by kernel_rfl) (fun ρ h => ct6_ok (K7_K6 (Sees.of h 61))) (by kernel_rfl) trSpJoin_is trSpJoin_low (by decide) (fun W vals ds _ _ => ?_))
  simp only [trSpJoin, TT.sat_ret, TT.sat_ite, B.ev, E.ev, AL.ev, V.plain, V2.plain, S.plain, S0.plain, V.val, V2.val, S.val, S0.val, List.all_cons, List.all_nil, Bool.and_self, envOf_i, List.map_cons, List.map_nil, true_and, Bool.not_eq_true', Bool.not_eq_false', K7b30, span_2]
  refine ⟨fun h => ?_, fun h => ⟨fun h2 => ?_, fun h2 => ?_⟩⟩
  all_goals simp [sjA, sjB, sjE, sp22, *]
/-! Ships -/
def sortN (r : Rows) : Nat → Bool
  | 0 => true
  | i + 1 => decide (lg r i 0 ≤ lg r (i + 1) 0) && sortN r i
def kevB (d m : Int) (r : Rows) : Bool := decide (1 ≤ d ∧ d ≤ 1000 ∧ 0 ≤ m ∧ m ≤ 1000 ∧ 1 ≤ r.length ∧ r.length ≤ 20) && (sortN r (r.length - 1) && decide (0 ≤ lg r 0 0 ∧ lg r ((r.length : Int) - 1) 0 ≤ 1000))
def kevL (ds : List D) : Bool := kevB (iAt ds 0) (iAt ds 1) (rAt ds 2)
theorem gKeV : Gives Tryz.prog 19 [shp] (fun ds => .bool (kevL ds)) := by
  refine GivesIf.all (fn_gives I0 (by kernel_rfl) (fun ρ _ => CtOk.nil) (by kernel_rfl) trKeV_is trKeV_low (by decide) (fun W vals ds hr _ => ?_))
  simp only [trKeV, TT.sat_ret, TT.sat_ite, B.ev, E.ev, X.ev, cmp_t, cmp_f, V.plain, V2.plain, S.plain, S0.plain, V.val, V2.val, S.val, S0.val, envOf_i, envOf_d, true_and, cmpP]
  have F : (1 ≤ iAt ds 0 ∧ iAt ds 0 ≤ 1000 ∧ 0 ≤ iAt ds 1 ∧ iAt ds 1 ≤ 1000 ∧ 1 ≤ (rAt ds 2).length ∧ (rAt ds 2).length ≤ 20 → False) → Value.bool false = Value.bool (kevL ds) := fun h => by unfold kevL kevB; rw [decide_eq_false h]; rfl
  refine ⟨fun _ => F (by omega), fun _ => ⟨fun _ => F (by omega), fun _ => ⟨fun _ => F (by omega), fun _ => ⟨fun _ => F (by omega), fun _ => ⟨fun _ => F (by omega), fun _ => ⟨fun _ => F (by omega), fun _ => ?_⟩⟩⟩⟩⟩⟩
  have e : kevL ds = (sortN (rAt ds 2) ((rAt ds 2).length - 1) && decide (0 ≤ lg (rAt ds 2) 0 0 ∧ lg (rAt ds 2) (((rAt ds 2).length : Int) - 1) 0 ≤ 1000)) := by unfold kevL kevB; rw [decide_eq_true (by omega), Bool.true_and]
  rw [e]
  clear F e hr
  generalize hr : rAt ds 2 = r at *
  have hw : IntKind.i64.wrap ((r.length : Int) - 1) = (r.length : Int) - 1 := wrap_in _ (by omega) (by omega)
  refine TT.sat_loop (fun v => ∃ i : Nat, v.i 0 = i ∧ i + 1 ≤ r.length ∧ sortN r i = sortN r (r.length - 1)) (fun v => (v.i 0).toNat) ⟨r.length - 1, ?_, by omega, rfl⟩ (fun v hv => ?_)
  · simp only [val_i, aget, E.ev, X.ev, arEv, envOf_d, val_i, aget, beq_self_eq_true, if_true, hr, hw]
    rw [Int.ofNat_sub (by omega)]; rfl
  obtain ⟨i, i0, i1, i2⟩ := hv
  simp only [TT.sat_ret, TT.sat_ite, TT.sat_ob, TT.sat_next, put_i, put_d, Ob.ok, B.ev, E.ev, X.ev, cmp_t, cmp_f, arEv, envOf_i, envOf_d, true_and, cell_lg, cmpP, val_i, aget, beq_self_eq_true, if_true, if_false, Nat.reduceLT, Nat.reduceSub, Nat.sub_self, Nat.lt_irrefl, i0, hr, hw]
  refine ⟨fun hc => ?_, fun hc => ?_⟩
  · have hi : IntKind.i64.wrap ((i : Int) - 1) = (i : Int) - 1 := wrap_in _ (by omega) (by omega)
    rw [hi]
    obtain ⟨k, rfl⟩ : ∃ k, i = k + 1 := ⟨i - 1, by omega⟩
    have ek : ((k + 1 : Nat) : Int) - 1 = k := by omega
    rw [ek]
    rw [sortN] at i2
    refine ⟨by omega, by omega, by omega, by omega, fun h => ?_, fun h => ⟨⟨k, rfl, by omega, ?_⟩, by omega⟩⟩
    · rw [← i2, decide_eq_false (by push_cast at h; omega)]; rfl
    · rw [← i2, decide_eq_true (by push_cast at h; omega), Bool.true_and]
  · obtain rfl : i = 0 := by omega
    rw [← i2]
    simp only [sortN, Bool.true_and]
    refine ⟨by omega, fun h => ⟨by omega, by omega, ?_⟩, fun h => ?_⟩
    · refine congrArg Value.bool ?_
      rw [Bool.eq_iff_iff]
      simp only [cmp_t, cmpP, decide_eq_true_eq]
      omega
    · rw [decide_eq_false (by omega)]
/-! Datums -/
def datB (a b c d e f s : Int) : Bool := decide ((-2000000 ≤ a ∧ a ≤ 2000000) ∧ (-2000000 ≤ b ∧ b ≤ 2000000) ∧ (-2000000 ≤ d ∧ d ≤ 2000000) ∧ (-2000000 ≤ e ∧ e ≤ 2000000)) && decide (250000000000 ≤ a * e - b * d ∧ (-100000 ≤ c ∧ c ≤ 100000) ∧ (-100000 ≤ f ∧ f ≤ 100000) ∧ 0 ≤ s ∧ s ≤ 1000)
def datL (ds : List D) : Bool := datB (iAt ds 0) (iAt ds 1) (iAt ds 2) (iAt ds 3) (iAt ds 4) (iAt ds 5) (iAt ds 6)
theorem mul_2m {a b : Int} (ha : -2000000 ≤ a ∧ a ≤ 2000000) (hb : -2000000 ≤ b ∧ b ≤ 2000000) : -4000000000000 ≤ a * b ∧ a * b ≤ 4000000000000 := by
  have p1 := Int.mul_nonneg (show 0 ≤ 2000000 - a by omega) (show 0 ≤ 2000000 - b by omega)
  have p2 := Int.mul_nonneg (show 0 ≤ 2000000 + a by omega) (show 0 ≤ 2000000 + b by omega)
  have p3 := Int.mul_nonneg (show 0 ≤ 2000000 - a by omega) (show 0 ≤ 2000000 + b by omega)
  have p4 := Int.mul_nonneg (show 0 ≤ 2000000 + a by omega) (show 0 ≤ 2000000 - b by omega)
  constructor <;> grind
theorem gDaV : Gives Tryz.prog 76 [dat] (fun ds => .bool (datL ds)) := by
  refine GivesIf.all (fn_gives I0 (by kernel_rfl) (fun ρ _ => CtOk.nil) (by kernel_rfl) trDaV_is trDaV_low (by decide) (fun W vals ds hr _ => ?_))
  simp only [trDaV, TT.sat_ret, TT.sat_ite, B.ev, E.ev, cmp_t, cmp_f, arEv, V.plain, V2.plain, S.plain, S0.plain, V.val, V2.val, S.val, S0.val, envOf_i, true_and, cmpP]
  have F : (((-2000000 ≤ iAt ds 0 ∧ iAt ds 0 ≤ 2000000) ∧ (-2000000 ≤ iAt ds 1 ∧ iAt ds 1 ≤ 2000000) ∧ (-2000000 ≤ iAt ds 3 ∧ iAt ds 3 ≤ 2000000) ∧ (-2000000 ≤ iAt ds 4 ∧ iAt ds 4 ≤ 2000000)) → False) → Value.bool false = Value.bool (datL ds) := fun h => by unfold datL datB; rw [decide_eq_false h]; rfl
  refine ⟨fun _ => F (by omega), fun _ => ⟨fun _ => F (by omega), fun _ => ⟨fun _ => F (by omega), fun _ => ⟨fun _ => F (by omega), fun _ => ⟨fun _ => F (by omega), fun _ => ⟨fun _ => F (by omega), fun _ => ⟨fun _ => F (by omega), fun _ => ⟨fun _ => F (by omega), fun _ => ?_⟩⟩⟩⟩⟩⟩⟩⟩
  have b1 := mul_2m (a := iAt ds 0) (b := iAt ds 4) (by omega) (by omega)
  have b2 := mul_2m (a := iAt ds 1) (b := iAt ds 3) (by omega) (by omega)
  have e : datL ds = decide (250000000000 ≤ iAt ds 0 * iAt ds 4 - iAt ds 1 * iAt ds 3 ∧ (-100000 ≤ iAt ds 2 ∧ iAt ds 2 ≤ 100000) ∧ (-100000 ≤ iAt ds 5 ∧ iAt ds 5 ≤ 100000) ∧ 0 ≤ iAt ds 6 ∧ iAt ds 6 ≤ 1000) := by unfold datL datB; rw [decide_eq_true (by omega), Bool.true_and]
  rw [e, wrap_in (iAt ds 0 * iAt ds 4) (by omega) (by omega), wrap_in (iAt ds 1 * iAt ds 3) (by omega) (by omega), wrap_in _ (by omega) (by omega)]
  generalize iAt ds 0 * iAt ds 4 = p at *
  generalize iAt ds 1 * iAt ds 3 = q at *
  refine ⟨fun _ => ⟨fun _ => ⟨fun _ => ⟨fun _ => ?_, fun _ => ?_⟩, fun _ => ?_⟩, fun _ => ?_⟩, fun _ => ?_⟩
  all_goals
    refine congrArg Value.bool ?_
    rw [Bool.eq_iff_iff]
    simp only [cmp_t, cmpP, decide_eq_true_eq, Bool.false_eq_true, false_iff]
    omega
/-! Lists of features -/
def featRow (r : Rows) (i : Nat) : Bool := featB (lg r i 0) (lg r i 1) (lg r i 2) (lg r i 3) (lg r i 4) (lr r i 5) (lg r i 6) (lg r i 7) (lr r i 8)
def lisN (r : Rows) : Nat → Nat → Int → Bool
  | 0, _, _ => true
  | f + 1, i, last => (featRow r i && decide (last < lg r i 0)) && lisN r f (i + 1) (lg r i 0)
def listB (r : Rows) : Bool := lisN r r.length 0 0 && decide (r.length ≤ 300)
def listL (ds : List D) : Bool := listB (rAt ds 0)
theorem feats_len {W : World} {vals : List Value} {ds : List D} {sh : List Sh} (h : repSh W (feats :: sh) vals ds) : (rAt ds 0).length ≤ 281474976710656 := by
  obtain ⟨v, vs', d, ds', rfl, rfl, ⟨d, rfl, h⟩, _⟩ := h
  rw [rep_sl] at h
  obtain ⟨r, rfl, a, n, c, _, hs, _⟩ := h
  have e1 := hs.len
  have e2 := hs.big
  show r.length ≤ _
  omega
theorem featRow_eq (r : Rows) (i : Nat) : featB (lg r i 0) (lg r i 1) (lg r i 2) (lg r i 3) (lg r i 4) (lr r i 5) (lg r i 6) (lg r i 7) (lr r i 8) = featRow r i := rfl
theorem gList : Gives Tryz.prog 113 [feats] (fun ds => .bool (listL ds)) := by
  refine GivesIf.all (fn_gives KF (by kernel_rfl) (fun ρ h => ctF_ok (Sees.of h 77)) (by kernel_rfl) trList_is trList_low (by decide) (fun W vals ds hr _ => ?_))
  have hlen := feats_len hr
  simp only [trList]
  have hO : listL ds = listB (rAt ds 0) := rfl
  rw [hO]
  clear hr
  generalize e0 : rAt ds 0 = r at *
  refine TT.sat_loop (fun v => ∃ i : Nat, v.i 1 = i ∧ i ≤ r.length ∧ (lisN r (r.length - i) i (v.i 0) && decide (r.length ≤ 300)) = listB r) (fun v => r.length - (v.i 1).toNat)
    ⟨0, by simp [val_i, aget, E.ev], by omega, rfl⟩ (fun v hv => ?_)
  obtain ⟨i, i0, i1, i2⟩ := hv
  simp only [TT.sat_ret, TT.sat_ite, TT.sat_ob, TT.sat_next, put_i, put_d, put_fb, Ob.ok, B.ev, E.ev, X.ev, AL.ev, cmp_t, cmp_f, arEv, V.plain, V2.plain, S.plain, S0.plain, V.val, V2.val, S.val, S0.val, envOf_i, envOf_d, true_and, Bool.not_eq_true', Bool.not_eq_false', cell_lg, cell_lr, cmpP, val_i, aget, Nat.reduceBEq, beq_self_eq_true, Bool.false_eq_true, if_true, if_false, Nat.reduceLT, Nat.reduceSub, Nat.sub_self, Nat.lt_irrefl, i0, e0, KFb76, feat_nine, featRow_eq]
  refine ⟨fun hc => ?_, fun hc => ?_⟩
  · have hi : i < r.length := by omega
    obtain ⟨f, hf⟩ : ∃ f, r.length - i = f + 1 := ⟨r.length - i - 1, by omega⟩
    have hf' : r.length - (i + 1) = f := by omega
    rw [hf, lisN] at i2
    rw [wrap_in ((i : Int) + 1) (by omega) (by omega)]
    refine ⟨by omega, by omega, fun h => ?_, fun h => ⟨fun g => ?_, fun g => ⟨⟨i + 1, rfl, by omega, ?_⟩, by omega⟩⟩⟩
    · rw [← i2, h]; rfl
    · rw [← i2, h, decide_eq_false (by omega)]; rfl
    · rw [hf', ← i2, h, decide_eq_true (p := v.i 0 < lg r i 0) (by omega)]; rfl
  · have h0 : r.length - i = 0 := by omega
    rw [h0, lisN, Bool.true_and] at i2
    rw [← i2]
    refine congrArg Value.bool ?_
    rw [Bool.eq_iff_iff]
    simp only [cmp_t, cmpP, decide_eq_true_eq]
    omega
/-! The same feature -/
def eqC (r s : Rows) (i : Nat) : Nat → Bool
  | 0 => true
  | c + 1 => eqC r s i c && decide (lg r i c = lg s i c)
def eqN (c : Nat) (r s : Rows) : Nat → Nat → Bool
  | 0, _ => true
  | f + 1, i => eqC r s i c && eqN c r s f (i + 1)
def eqX (c : Nat) (r s : Rows) : Bool := decide (r.length = s.length) && eqN c r s r.length 0
def sameB (i1 k1 x1 y1 r1 : Int) (a1 : Rows) (d1 s1 : Int) (t1 : Rows) (i2 k2 x2 y2 r2 : Int) (a2 : Rows) (d2 s2 : Int) (t2 : Rows) : Bool :=
  decide ((i1 = i2 ∧ k1 = k2 ∧ x1 = x2 ∧ y1 = y2) ∧ r1 = r2 ∧ d1 = d2 ∧ s1 = s2) && (eqX 2 a1 a2 && eqX 6 t1 t2)
def sameL (ds : List D) : Bool := sameB (iAt ds 0) (iAt ds 1) (iAt ds 2) (iAt ds 3) (iAt ds 4) (rAt ds 5) (iAt ds 6) (iAt ds 7) (rAt ds 8) (iAt ds 9) (iAt ds 10) (iAt ds 11) (iAt ds 12) (iAt ds 13) (rAt ds 14) (iAt ds 15) (iAt ds 16) (rAt ds 17)
theorem eqN_iff {c : Nat} {r s : Rows} : ∀ (f i : Nat), eqN c r s f i = true ↔ ∀ k, i ≤ k → k < i + f → eqC r s k c = true
  | 0, i => ⟨fun _ k h1 h2 => (by omega), fun _ => rfl⟩
  | f + 1, i => by
    rw [eqN, Bool.and_eq_true, eqN_iff f (i + 1)]
    constructor
    · rintro ⟨h1, h2⟩ k hk hk'
      by_cases e : k = i
      · subst e; exact h1
      · exact h2 k (by omega) (by omega)
    · exact fun h => ⟨h i (by omega) (by omega), fun k h1 h2 => h k (by omega) (by omega)⟩
theorem eqC_iff {r s : Rows} {i : Nat} : ∀ c, eqC r s i c = true ↔ ∀ j, j < c → lg r i j = lg s i j
  | 0 => ⟨fun _ j h => (by omega), fun _ => rfl⟩
  | c + 1 => by
    rw [eqC, Bool.and_eq_true, eqC_iff c, decide_eq_true_eq]
    constructor
    · rintro ⟨h1, h2⟩ j hj
      by_cases e : j = c
      · subst e; exact h2
      · exact h1 j (by omega)
    · exact fun h => ⟨fun j hj => h j (by omega), h c (by omega)⟩
theorem eqX_iff {c : Nat} {r s : Rows} : eqX c r s = true ↔ r.length = s.length ∧ ∀ k, k < r.length → ∀ j, j < c → lg r k j = lg s k j := by
  rw [eqX, Bool.and_eq_true, decide_eq_true_eq, eqN_iff]
  simp only [eqC_iff]
  exact ⟨fun h => ⟨h.1, fun k hk => h.2 k (by omega) (by omega)⟩, fun h => ⟨h.1, fun k _ hk => h.2 k (by omega)⟩⟩
theorem reps_len7 {w : World} : ∀ {ks : List CK} {vs : List Value} {ds : List D}, CK.reps w ks vs ds → ds.length = ks.length
  | [], vs, ds, h => by
    unfold CK.reps at h
    obtain ⟨rfl, rfl⟩ := h
    rfl
  | k :: ks, vs, ds, h => by
    unfold CK.reps at h
    obtain ⟨v, vs', d, ds', rfl, rfl, h1, h2⟩ := h
    simp [reps_len7 h2]
theorem list_rep {w : World} {ks : List CK} {v : Value} {d : D} (h : CK.rep w (.sl ks) v d) : d.rows.length ≤ 281474976710656 := by
  rw [rep_sl] at h
  obtain ⟨r, rfl, a, n, c, _, hs, _⟩ := h
  have e1 := hs.len
  have e2 := hs.big
  show r.length ≤ _
  omega
theorem rows_len (W : World) (vals : List Value) (ds : List D) (sh : List Sh) (hr : repSh W (feat :: feat :: sh) vals ds) : ((rAt ds 5).length ≤ 281474976710656 ∧ (rAt ds 8).length ≤ 281474976710656) ∧ (rAt ds 14).length ≤ 281474976710656 ∧ (rAt ds 17).length ≤ 281474976710656 := by
  obtain ⟨v1, vs1, d1, ds1, rfl, rfl, ⟨u1, _, h1⟩, v2, vs2, d2, ds2, rfl, rfl, ⟨u2, _, h2⟩, _⟩ := hr
  have e1 : d1.length = 9 := reps_len7 h1
  have e2 : d2.length = 9 := reps_len7 h2
  obtain ⟨_, x5, _, p5, q5⟩ := reps_get (j := 5) h1 rfl
  obtain ⟨_, x8, _, p8, q8⟩ := reps_get (j := 8) h1 rfl
  obtain ⟨_, y5, _, r5, t5⟩ := reps_get (j := 5) h2 rfl
  obtain ⟨_, y8, _, r8, t8⟩ := reps_get (j := 8) h2 rfl
  have a5 : (d1 ++ (d2 ++ ds2))[5]? = some x5 := by rw [List.getElem?_append_left (by omega)]; exact p5
  have a8 : (d1 ++ (d2 ++ ds2))[8]? = some x8 := by rw [List.getElem?_append_left (by omega)]; exact p8
  have a14 : (d1 ++ (d2 ++ ds2))[14]? = some y5 := by rw [List.getElem?_append_right (by omega), e1, List.getElem?_append_left (by omega)]; exact r5
  have a17 : (d1 ++ (d2 ++ ds2))[17]? = some y8 := by rw [List.getElem?_append_right (by omega), e1, List.getElem?_append_left (by omega)]; exact r8
  have gd : ∀ (l : List D) (i : Nat) (d : D), l[i]? = some d → l.getD i (.i 0) = d := fun l i d h => by rw [List.getD_eq_getElem?_getD, h]; rfl
  unfold rAt
  rw [gd _ _ _ a5, gd _ _ _ a8, gd _ _ _ a14, gd _ _ _ a17]
  exact ⟨⟨list_rep q5, list_rep q8⟩, list_rep t5, list_rep t8⟩
set_option maxHeartbeats 1000000 in
theorem gFeSame : Gives Tryz.prog 250 [feat, feat] (fun ds => .bool (sameL ds)) := by
  refine GivesIf.all (fn_gives I0 (by kernel_rfl) (fun ρ _ => CtOk.nil) (by kernel_rfl) trFeSame_is trFeSame_low (by decide) (fun W vals ds hr _ => ?_))
  obtain ⟨⟨n5, n8⟩, n14, n17⟩ := rows_len W vals ds _ hr
  simp only [trFeSame, TT.sat_ret, TT.sat_ite, B.ev, E.ev, X.ev, cmp_t, cmp_f, V.plain, V2.plain, S.plain, S0.plain, V.val, V2.val, S.val, S0.val, envOf_i, envOf_d, true_and, Bool.and_eq_true, and_f, cmpP]
  have F : ∀ b, sameL ds = b → Value.bool b = Value.bool (sameL ds) := fun b h => by rw [h]
  have N : ¬ ((iAt ds 0 = iAt ds 9 ∧ iAt ds 1 = iAt ds 10 ∧ iAt ds 2 = iAt ds 11 ∧ iAt ds 3 = iAt ds 12) ∧ iAt ds 4 = iAt ds 13 ∧ iAt ds 6 = iAt ds 15 ∧ iAt ds 7 = iAt ds 16) → Value.bool false = Value.bool (sameL ds) := fun h => F _ (by rw [sameL, sameB, decide_eq_false h, Bool.false_and])
  refine ⟨fun h0 => ⟨fun h1 => ⟨fun h2 => ⟨fun h3 => ⟨fun h4 => ⟨fun h5 => ?_, fun h => N (by omega)⟩, fun h => N (by omega)⟩, fun h => N (by omega)⟩, fun h => N (by omega)⟩, fun h => N (by omega)⟩, fun h => N (by omega)⟩
  have hS : sameL ds = (eqX 2 (rAt ds 5) (rAt ds 14) && eqX 6 (rAt ds 8) (rAt ds 17)) := by
    rw [sameL, sameB, decide_eq_true (by omega), Bool.true_and]
  rw [hS]
  clear N F hS hr
  generalize e5 : rAt ds 5 = a at *
  generalize e14 : rAt ds 14 = b at *
  generalize e8 : rAt ds 8 = s at *
  generalize e17 : rAt ds 17 = t at *
  refine ⟨fun h => ?_, fun h => ?_⟩
  · rw [eqX, decide_eq_false (by omega)]; rfl
  have hab : a.length = b.length := by omega
  have hX : eqX 2 a b = eqN 2 a b a.length 0 := by rw [eqX, decide_eq_true hab]; rfl
  rw [hX]
  refine TT.sat_loop (fun v => ∃ i : Nat, v.i 0 = i ∧ i ≤ a.length ∧ eqN 2 a b (a.length - i) i = eqN 2 a b a.length 0) (fun v => a.length - (v.i 0).toNat)
    ⟨0, by simp [val_i, aget, E.ev], by omega, rfl⟩ (fun v hv => ?_)
  obtain ⟨i, i0, i1, i2⟩ := hv
  simp only [TT.sat_ret, TT.sat_ite, TT.sat_ob, TT.sat_next, put_i, put_d, Ob.ok, B.ev, E.ev, X.ev, cmp_t, cmp_f, arEv, envOf_i, envOf_d, true_and, Bool.not_eq_true', Bool.not_eq_false', Bool.and_eq_true, and_f, cell_lg, cmpP, val_i, aget, beq_self_eq_true, if_true, if_false, Nat.reduceLT, Nat.reduceSub, Nat.sub_self, Nat.lt_irrefl, i0, e5, e14, e8, e17]
  refine ⟨fun hc => ?_, fun hc => ?_⟩
  · have hi : i < a.length := by omega
    obtain ⟨f, hf⟩ : ∃ f, a.length - i = f + 1 := ⟨a.length - i - 1, by omega⟩
    have hf' : a.length - (i + 1) = f := by omega
    rw [hf, eqN] at i2
    rw [wrap_in ((i : Int) + 1) (by omega) (by omega)]
    refine ⟨by omega, by omega, by omega, by omega, fun q => ?_, fun q => ⟨⟨i + 1, rfl, by omega, ?_⟩, by omega⟩⟩
    · rw [← i2, show eqC a b i 2 = false by rw [← Bool.not_eq_true, eqC_iff]; exact fun g => q ⟨g 0 (by omega), g 1 (by omega)⟩]; rfl
    · rw [hf', ← i2, show eqC a b i 2 = true by
        simp only [eqC, decide_eq_true_eq, Bool.and_eq_true, Bool.true_and]
        exact q]; rfl
  · have h0 : a.length - i = 0 := by omega
    rw [h0, eqN] at i2
    rw [← i2, Bool.true_and]
    refine ⟨fun h => ?_, fun h => ?_⟩
    · rw [eqX, decide_eq_false (by omega)]; rfl
    have hst : s.length = t.length := by omega
    have hX : eqX 6 s t = eqN 6 s t s.length 0 := by rw [eqX, decide_eq_true hst]; rfl
    rw [hX]
    refine TT.sat_loop (fun v => ∃ i : Nat, v.i 0 = i ∧ i ≤ s.length ∧ eqN 6 s t (s.length - i) i = eqN 6 s t s.length 0) (fun v => s.length - (v.i 0).toNat)
      ⟨0, by simp [val_i, aget, E.ev], by omega, rfl⟩ (fun u hu => ?_)
    obtain ⟨j, j0, j1, j2⟩ := hu
    simp only [TT.sat_ret, TT.sat_ite, TT.sat_ob, TT.sat_next, put_i, put_d, Ob.ok, B.ev, E.ev, X.ev, cmp_t, cmp_f, arEv, envOf_i, envOf_d, true_and, Bool.not_eq_true', Bool.not_eq_false', Bool.and_eq_true, and_f, cell_lg, cmpP, val_i, aget, beq_self_eq_true, if_true, if_false, Nat.reduceLT, Nat.reduceSub, Nat.sub_self, Nat.lt_irrefl, j0, e5, e14, e8, e17]
    refine ⟨fun hc => ?_, fun hc => ?_⟩
    · have hj : j < s.length := by omega
      obtain ⟨f, hf⟩ : ∃ f, s.length - j = f + 1 := ⟨s.length - j - 1, by omega⟩
      have hf' : s.length - (j + 1) = f := by omega
      rw [hf, eqN] at j2
      rw [wrap_in ((j : Int) + 1) (by omega) (by omega)]
      refine ⟨by omega, by omega, by omega, by omega, fun q => ?_, fun q => ⟨⟨j + 1, rfl, by omega, ?_⟩, by omega⟩⟩
      · rw [← j2, show eqC s t j 6 = false by rw [← Bool.not_eq_true, eqC_iff]; exact fun g => q ⟨⟨g 0 (by omega), g 1 (by omega)⟩, ⟨g 2 (by omega), g 3 (by omega)⟩, g 4 (by omega), g 5 (by omega)⟩]; rfl
      · rw [hf', ← j2, show eqC s t j 6 = true by
          simp only [eqC, decide_eq_true_eq, Bool.and_eq_true, Bool.true_and]
          omega]; rfl
    · have h0 : s.length - j = 0 := by omega
      rw [h0, eqN] at j2
      rw [← j2]
def N1 : Interp where
  fi n l := match n with | 141 => sjA l | 142 => sjB l | 143 => sjE l | n => KG.fi n l
  fb n l := match n with | 140 => htL l | 144 => kevL l | 145 => datL l | 146 => listL l | 147 => sameL l | n => KG.fb n l
  fd _ _ := []
theorem N1_KG {ρ : Env} (h : Sees ρ N1 150) : Sees ρ KG 80 := h.trans (by decide) fun n l hn => by
  refine ⟨?_, ?_⟩
  ·
    simp only [N1]
    split <;> first | omega | rfl
  ·
    simp only [N1]
    split <;> first | omega | rfl
def cTiH := ctD [sp] fun al => .ret (bV (bF 140 htL al))
theorem cTiH_ok {ρ : Env} (h : Sees ρ N1 150) : CtOne Tryz.prog ρ 163 cTiH :=
  ctD_ok gTiH (fun _ => rfl) (fun al => by simp only [iV, bV, V.s0, V.val, V2.val, S.val, S0.val, bF_ev (s := 140) (f := htL) (fun l => by rw [(h 140 l (by decide)).2]; simp only [N1, KG, KF, KE, KD, KC, KB, KA, K9, K8, K7, K6, K5, K])]; try rfl)
def cSpJ := ctD [sp, sp] fun al => .ret (.tup [.agg [sIF 141 sjA al, sIF 142 sjB al], .one (sIF 143 sjE al)])
theorem cSpJ_ok {ρ : Env} (h : Sees ρ N1 150) : CtOne Tryz.prog ρ 110 cSpJ :=
  ctD_ok gSpJ (fun _ => rfl) (fun al => by simp only [V.val, V2.val, S.val, S0.val, sIF, sBF, List.map_cons, List.map_nil, iF_ev (s := 141) (f := sjA) (fun l => by rw [(h 141 l (by decide)).1]; simp only [N1, KG, KF, KE, KD, KC, KB, KA, K9, K8, K7, K6, K5, K]), iF_ev (s := 142) (f := sjB) (fun l => by rw [(h 142 l (by decide)).1]; simp only [N1, KG, KF, KE, KD, KC, KB, KA, K9, K8, K7, K6, K5, K]), iF_ev (s := 143) (f := sjE) (fun l => by rw [(h 143 l (by decide)).1]; simp only [N1, KG, KF, KE, KD, KC, KB, KA, K9, K8, K7, K6, K5, K])]; try rfl)
def cKeV := ctD [shp] fun al => .ret (bV (bF 144 kevL al))
theorem cKeV_ok {ρ : Env} (h : Sees ρ N1 150) : CtOne Tryz.prog ρ 19 cKeV :=
  ctD_ok gKeV (fun _ => rfl) (fun al => by simp only [iV, bV, V.s0, V.val, V2.val, S.val, S0.val, bF_ev (s := 144) (f := kevL) (fun l => by rw [(h 144 l (by decide)).2]; simp only [N1, KG, KF, KE, KD, KC, KB, KA, K9, K8, K7, K6, K5, K])]; try rfl)
def cDaV := ctD [dat] fun al => .ret (bV (bF 145 datL al))
theorem cDaV_ok {ρ : Env} (h : Sees ρ N1 150) : CtOne Tryz.prog ρ 76 cDaV :=
  ctD_ok gDaV (fun _ => rfl) (fun al => by simp only [iV, bV, V.s0, V.val, V2.val, S.val, S0.val, bF_ev (s := 145) (f := datL) (fun l => by rw [(h 145 l (by decide)).2]; simp only [N1, KG, KF, KE, KD, KC, KB, KA, K9, K8, K7, K6, K5, K])]; try rfl)
def cFeList := ctD [feats] fun al => .ret (bV (bF 146 listL al))
theorem cFeList_ok {ρ : Env} (h : Sees ρ N1 150) : CtOne Tryz.prog ρ 113 cFeList :=
  ctD_ok gList (fun _ => rfl) (fun al => by simp only [iV, bV, V.s0, V.val, V2.val, S.val, S0.val, bF_ev (s := 146) (f := listL) (fun l => by rw [(h 146 l (by decide)).2]; simp only [N1, KG, KF, KE, KD, KC, KB, KA, K9, K8, K7, K6, K5, K])]; try rfl)
def cFeSame := ctD [feat, feat] fun al => .ret (bV (bF 147 sameL al))
theorem cFeSame_ok {ρ : Env} (h : Sees ρ N1 150) : CtOne Tryz.prog ρ 250 cFeSame :=
  ctD_ok gFeSame (fun _ => rfl) (fun al => by simp only [iV, bV, V.s0, V.val, V2.val, S.val, S0.val, bF_ev (s := 147) (f := sameL) (fun l => by rw [(h 147 l (by decide)).2]; simp only [N1, KG, KF, KE, KD, KC, KB, KA, K9, K8, K7, K6, K5, K])]; try rfl)
def ctN1 : Ct := (163, cTiH) :: (110, cSpJ) :: (19, cKeV) :: (76, cDaV) :: (113, cFeList) :: (250, cFeSame) :: (80, cFeatV) :: (117, cNearP) :: (31, cCovers) :: ct7
theorem ctN1_ok {ρ : Env} (h : Sees ρ N1 150) : CtOk Tryz.prog ρ ctN1 :=
  have g := N1_KG h
  .cons (cTiH_ok h) <| .cons (cSpJ_ok h) <| .cons (cKeV_ok h) <| .cons (cDaV_ok h) <| .cons (cFeList_ok h) <| .cons (cFeSame_ok h) <| .cons (cFeatV_ok (KG_KF g)) <| .cons (cNearP_ok g) <| .cons (cCovers_ok g) (ct7_ok (KG_K7 g))
end Go.Proofs.YtkjjkckcjgkhmaaGreat
/- Chapter 40: trees of tables, sheets, operations. -/
namespace Go.Proofs.YtkjjkckcjgkhmaaGreat
open Go.RowKit
def sheetK : List CK := [.int .i64, .int .i64, .int .i64, .int .i64, .int .i64, .int .i64, .int .i64, .int .i64, .int .i64, .int .i64, .int .i64, .sl [.int .i64], .sl featK]
def shee : Sh := .agg sheetK
def opK : List CK := [.int .i64, .int .i64, .int .i64, .int .i64, .int .i64, .int .i64, .int .i64, .sl ptK, .int .i64, .int .i64, .sl secK, .int .i64, .int .i64, .int .i64, .int .i64, .int .i64]
def opS : Sh := .agg opK
-- term trTiV: call Tryz.prog ctN1 (Lt.of []) 100 103 (symArgs 0 [tid]) [] 0
def trTiV : TT OpR :=
(.ite (.cmp .geq (.var 0) (.lit 0))
 (.ite (.not (.cmp .leq (.var 0) (.lit 10000000)))
 (.ret ((.v (.one (.z (.bool (.lit false))))), [], 1))
 (.ite (.cmp .lss (.var 1) (.lit 1))
 (.ret ((.v (.one (.z (.bool (.lit false))))), [], 1))
 (.ite (.cmp .gtr (.var 1) (.lit 1000))
 (.ret ((.v (.one (.z (.bool (.lit false))))), [], 1))
 (.ite (.cmp .eql (.len (.var 2)) (.lit 0))
 (.ret ((.v (.one (.z (.bool (.lit false))))), [], 1))
 (.ite (.cmp .gtr (.len (.var 2)) (.lit 200))
 (.ret ((.v (.one (.z (.bool (.lit false))))), [], 1))
 (.ite (.cmp .geq (.ar .add .i64 (.var 0) (.ar .mul .i64 (.ar .sub .i64 (.len (.var 2)) (.lit 1)) (.var 1))) (.lit 0))
 (.ite (.not (.cmp .leq (.ar .add .i64 (.var 0) (.ar .mul .i64 (.ar .sub .i64 (.len (.var 2)) (.lit 1)) (.var 1))) (.lit 10000000)))
 (.ret ((.v (.one (.z (.bool (.lit false))))), [], 2))
 (.loop 0 3000 ⟨[(0, (.lit 0))], [], []⟩
 (.ite (.cmp .lss (.var 3000) (.len (.var 2)))
 (.ob (.tru (.cmp .leq (.lit 0) (.var 3000)))
 (.ob (.tru (.cmp .lss (.var 3000) (.len (.var 2))))
 (.ite (.not (.fn 140 (.i (.rd (.var 2) (.var 3000) 0) (.i (.rd (.var 2) (.var 3000) 1) .nil))))
 (.ret ((.v (.one (.z (.bool (.lit false))))), [], 4))
 (.next 0 ⟨[(0, (.ar .add .i64 (.var 3000) (.lit 1)))], [], []⟩))))
 (.ret ((.v (.one (.z (.bool (.lit true))))), [], 4)))))
 (.ret ((.v (.one (.z (.bool (.lit false))))), [], 2))))))))
 (.ret ((.v (.one (.z (.bool (.lit false))))), [], 1)))
-- end trTiV
set_option maxRecDepth 100000 in
theorem trTiV_is : T.norm 0 (call Tryz.prog ctN1 (Lt.of []) 100 103 (symArgs 0 [tid]) [] 0) TT.ret = trTiV := by kernel_rfl
theorem trTiV_low : trTiV.low 1000 = true := by kernel_rfl
-- term trShV: call Tryz.prog ctN1 (Lt.of []) 100 56 (symArgs 0 [shee]) [] 0
def trShV : TT OpR :=
(.loop 0 2000 ⟨[(0, (.lit 0)), (1, (.lit 0))], [], []⟩
 (.ite (.cmp .lss (.var 2001) (.len (.var 11)))
 (.ob (.tru (.cmp .leq (.lit 0) (.var 2001)))
 (.ob (.tru (.cmp .lss (.var 2001) (.len (.var 11))))
 (.ite (.cmp .leq (.rd (.var 11) (.var 2001) 0) (.var 2000))
 (.ret ((.v (.one (.z (.bool (.lit false))))), [], 2))
 (.ite (.cmp .gtr (.rd (.var 11) (.var 2001) 0) (.lit 10000))
 (.ret ((.v (.one (.z (.bool (.lit false))))), [], 2))
 (.next 0 ⟨[(0, (.rd (.var 11) (.var 2001) 0)), (1, (.ar .add .i64 (.var 2001) (.lit 1)))], [], []⟩)))))
 (.ite (.cmp .leq (.len (.var 11)) (.lit 200))
 (.ite (.cmp .geq (.var 0) (.lit 1))
 (.ite (.cmp .leq (.var 0) (.lit 1000))
 (.ite (.cmp .geq (.var 1) (.lit 1))
 (.ite (.cmp .leq (.var 1) (.lit 1000))
 (.ite (.cmp .geq (.var 2) (.lit 1))
 (.ite (.cmp .leq (.var 2) (.lit 1000))
 (.ite (.cmp .geq (.var 10) (.lit 1))
 (.ite (.cmp .leq (.var 10) (.lit 100000))
 (.ite (.fn 145 (.i (.var 3) (.i (.var 4) (.i (.var 5) (.i (.var 6) (.i (.var 7) (.i (.var 8) (.i (.var 9) .nil))))))))
 (.ret ((.v (.one (.z (.bool (.fn 146 (.x (.var 12) .nil)))))), [], 2))
 (.ret ((.v (.one (.z (.bool (.lit false))))), [], 2)))
 (.ret ((.v (.one (.z (.bool (.lit false))))), [], 2)))
 (.ret ((.v (.one (.z (.bool (.lit false))))), [], 2)))
 (.ret ((.v (.one (.z (.bool (.lit false))))), [], 2)))
 (.ret ((.v (.one (.z (.bool (.lit false))))), [], 2)))
 (.ret ((.v (.one (.z (.bool (.lit false))))), [], 2)))
 (.ret ((.v (.one (.z (.bool (.lit false))))), [], 2)))
 (.ret ((.v (.one (.z (.bool (.lit false))))), [], 2)))
 (.ret ((.v (.one (.z (.bool (.lit false))))), [], 2)))
 (.ret ((.v (.one (.z (.bool (.lit false))))), [], 2)))))
-- end trShV
set_option maxRecDepth 100000 in
theorem trShV_is : T.norm 0 (call Tryz.prog ctN1 (Lt.of []) 100 56 (symArgs 0 [shee]) [] 0) TT.ret = trShV := by kernel_rfl
theorem trShV_low : trShV.low 1000 = true := by kernel_rfl
-- term trNOp: call Tryz.prog ctN1 (Lt.of []) 100 192 (symArgs 0 [opS]) [] 0
def trNOp : TT OpR :=
(.ite (.cmp .lss (.var 1) (.lit 1))
 (.ret ((.v (.one (.z (.bool (.lit false))))), [], 1))
 (.ite (.cmp .gtr (.var 1) (.lit 100000))
 (.ret ((.v (.one (.z (.bool (.lit false))))), [], 1))
 (.ite (.cmp .eql (.var 0) (.lit 1))
 (.ite (.and (.cmp .eql (.var 11) (.lit 0)) (.cmp .eql (.var 12) (.lit 0)))
 (.ite (.cmp .eql (.var 13) (.lit 0))
 (.ite (.cmp .eql (.var 14) (.lit 0))
 (.ite (.cmp .eql (.var 15) (.lit 0))
 (.ite (.cmp .eql (.var 0) (.lit 1))
 (.ite (.cmp .eql (.var 2) (.var 1))
 (.ret ((.v (.one (.z (.bool (.fn 76 (.i (.var 2) (.i (.var 3) (.i (.var 4) (.i (.var 5) (.i (.var 6) (.x (.var 7) (.i (.var 8) (.i (.var 9) (.x (.var 10) .nil)))))))))))))), [], 5))
 (.ret ((.v (.one (.z (.bool (.lit false))))), [], 5)))
 (.ite (.cmp .eql (.var 0) (.lit 2))
 (.ret ((.v (.one (.z (.bool (.lit true))))), [], 5))
 (.ite (.cmp .eql (.var 0) (.lit 3))
 (.ite (.cmp .geq (.var 13) (.lit 0))
 (.ite (.cmp .leq (.var 13) (.lit 100000))
 (.ite (.fn 3 (.i (.var 11) (.i (.var 12) .nil)))
 (.ite (.fn 3 (.i (.ar .sub .i64 (.var 11) (.var 13)) (.i (.ar .sub .i64 (.var 12) (.var 13)) .nil)))
 (.ret ((.v (.one (.z (.bool (.fn 3 (.i (.ar .add .i64 (.var 11) (.var 13)) (.i (.ar .add .i64 (.var 12) (.var 13)) .nil))))))), [], 6))
 (.ret ((.v (.one (.z (.bool (.lit false))))), [], 6)))
 (.ret ((.v (.one (.z (.bool (.lit false))))), [], 5)))
 (.ret ((.v (.one (.z (.bool (.lit false))))), [], 5)))
 (.ret ((.v (.one (.z (.bool (.lit false))))), [], 5)))
 (.ite (.cmp .eql (.var 0) (.lit 4))
 (.ite (.cmp .geq (.var 14) (.lit 0))
 (.ret ((.v (.one (.z (.bool (.cmp .leq (.var 14) (.lit 100000)))))), [], 5))
 (.ret ((.v (.one (.z (.bool (.lit false))))), [], 5)))
 (.ite (.cmp .eql (.var 0) (.lit 5))
 (.ite (.cmp .geq (.var 15) (.lit 0))
 (.ret ((.v (.one (.z (.bool (.cmp .leq (.var 15) (.lit 999)))))), [], 5))
 (.ret ((.v (.one (.z (.bool (.lit false))))), [], 5)))
 (.ret ((.v (.one (.z (.bool (.lit false))))), [], 5)))))))
 (.ret ((.v (.one (.z (.bool (.lit false))))), [], 5)))
 (.ret ((.v (.one (.z (.bool (.lit false))))), [], 5)))
 (.ret ((.v (.one (.z (.bool (.lit false))))), [], 5)))
 (.ret ((.v (.one (.z (.bool (.lit false))))), [], 5)))
 (.ite (.cmp .eql (.var 0) (.lit 3))
 (.ite (.cmp .eql (.var 14) (.lit 0))
 (.ite (.cmp .eql (.var 15) (.lit 0))
 (.ite (.not (.fn 147 (.i (.var 2) (.i (.var 3) (.i (.var 4) (.i (.var 5) (.i (.var 6) (.x (.var 7) (.i (.var 8) (.i (.var 9) (.x (.var 10) (.i (.lit 0) (.i (.lit 0) (.i (.lit 0) (.i (.lit 0) (.i (.lit 0) (.x .nil (.i (.lit 0) (.i (.lit 0) (.x .nil .nil))))))))))))))))))))
 (.ret ((.v (.one (.z (.bool (.lit false))))), [], 5))
 (.ite (.cmp .eql (.var 0) (.lit 1))
 (.ite (.cmp .eql (.var 2) (.var 1))
 (.ret ((.v (.one (.z (.bool (.fn 76 (.i (.var 2) (.i (.var 3) (.i (.var 4) (.i (.var 5) (.i (.var 6) (.x (.var 7) (.i (.var 8) (.i (.var 9) (.x (.var 10) .nil)))))))))))))), [], 5))
 (.ret ((.v (.one (.z (.bool (.lit false))))), [], 5)))
 (.ite (.cmp .eql (.var 0) (.lit 2))
 (.ret ((.v (.one (.z (.bool (.lit true))))), [], 5))
 (.ite (.cmp .eql (.var 0) (.lit 3))
 (.ite (.cmp .geq (.var 13) (.lit 0))
 (.ite (.cmp .leq (.var 13) (.lit 100000))
 (.ite (.fn 3 (.i (.var 11) (.i (.var 12) .nil)))
 (.ite (.fn 3 (.i (.ar .sub .i64 (.var 11) (.var 13)) (.i (.ar .sub .i64 (.var 12) (.var 13)) .nil)))
 (.ret ((.v (.one (.z (.bool (.fn 3 (.i (.ar .add .i64 (.var 11) (.var 13)) (.i (.ar .add .i64 (.var 12) (.var 13)) .nil))))))), [], 6))
 (.ret ((.v (.one (.z (.bool (.lit false))))), [], 6)))
 (.ret ((.v (.one (.z (.bool (.lit false))))), [], 5)))
 (.ret ((.v (.one (.z (.bool (.lit false))))), [], 5)))
 (.ret ((.v (.one (.z (.bool (.lit false))))), [], 5)))
 (.ite (.cmp .eql (.var 0) (.lit 4))
 (.ite (.cmp .geq (.var 14) (.lit 0))
 (.ret ((.v (.one (.z (.bool (.cmp .leq (.var 14) (.lit 100000)))))), [], 5))
 (.ret ((.v (.one (.z (.bool (.lit false))))), [], 5)))
 (.ite (.cmp .eql (.var 0) (.lit 5))
 (.ite (.cmp .geq (.var 15) (.lit 0))
 (.ret ((.v (.one (.z (.bool (.cmp .leq (.var 15) (.lit 999)))))), [], 5))
 (.ret ((.v (.one (.z (.bool (.lit false))))), [], 5)))
 (.ret ((.v (.one (.z (.bool (.lit false))))), [], 5))))))))
 (.ret ((.v (.one (.z (.bool (.lit false))))), [], 5)))
 (.ret ((.v (.one (.z (.bool (.lit false))))), [], 5)))
 (.ite (.cmp .eql (.var 0) (.lit 4))
 (.ite (.and (.cmp .eql (.var 11) (.lit 0)) (.cmp .eql (.var 12) (.lit 0)))
 (.ite (.cmp .eql (.var 13) (.lit 0))
 (.ite (.cmp .eql (.var 15) (.lit 0))
 (.ite (.not (.fn 147 (.i (.var 2) (.i (.var 3) (.i (.var 4) (.i (.var 5) (.i (.var 6) (.x (.var 7) (.i (.var 8) (.i (.var 9) (.x (.var 10) (.i (.lit 0) (.i (.lit 0) (.i (.lit 0) (.i (.lit 0) (.i (.lit 0) (.x .nil (.i (.lit 0) (.i (.lit 0) (.x .nil .nil))))))))))))))))))))
 (.ret ((.v (.one (.z (.bool (.lit false))))), [], 5))
 (.ite (.cmp .eql (.var 0) (.lit 1))
 (.ite (.cmp .eql (.var 2) (.var 1))
 (.ret ((.v (.one (.z (.bool (.fn 76 (.i (.var 2) (.i (.var 3) (.i (.var 4) (.i (.var 5) (.i (.var 6) (.x (.var 7) (.i (.var 8) (.i (.var 9) (.x (.var 10) .nil)))))))))))))), [], 5))
 (.ret ((.v (.one (.z (.bool (.lit false))))), [], 5)))
 (.ite (.cmp .eql (.var 0) (.lit 2))
 (.ret ((.v (.one (.z (.bool (.lit true))))), [], 5))
 (.ite (.cmp .eql (.var 0) (.lit 3))
 (.ite (.cmp .geq (.var 13) (.lit 0))
 (.ite (.cmp .leq (.var 13) (.lit 100000))
 (.ite (.fn 3 (.i (.var 11) (.i (.var 12) .nil)))
 (.ite (.fn 3 (.i (.ar .sub .i64 (.var 11) (.var 13)) (.i (.ar .sub .i64 (.var 12) (.var 13)) .nil)))
 (.ret ((.v (.one (.z (.bool (.fn 3 (.i (.ar .add .i64 (.var 11) (.var 13)) (.i (.ar .add .i64 (.var 12) (.var 13)) .nil))))))), [], 6))
 (.ret ((.v (.one (.z (.bool (.lit false))))), [], 6)))
 (.ret ((.v (.one (.z (.bool (.lit false))))), [], 5)))
 (.ret ((.v (.one (.z (.bool (.lit false))))), [], 5)))
 (.ret ((.v (.one (.z (.bool (.lit false))))), [], 5)))
 (.ite (.cmp .eql (.var 0) (.lit 4))
 (.ite (.cmp .geq (.var 14) (.lit 0))
 (.ret ((.v (.one (.z (.bool (.cmp .leq (.var 14) (.lit 100000)))))), [], 5))
 (.ret ((.v (.one (.z (.bool (.lit false))))), [], 5)))
 (.ite (.cmp .eql (.var 0) (.lit 5))
 (.ite (.cmp .geq (.var 15) (.lit 0))
 (.ret ((.v (.one (.z (.bool (.cmp .leq (.var 15) (.lit 999)))))), [], 5))
 (.ret ((.v (.one (.z (.bool (.lit false))))), [], 5)))
 (.ret ((.v (.one (.z (.bool (.lit false))))), [], 5))))))))
 (.ret ((.v (.one (.z (.bool (.lit false))))), [], 5)))
 (.ret ((.v (.one (.z (.bool (.lit false))))), [], 5)))
 (.ret ((.v (.one (.z (.bool (.lit false))))), [], 5)))
 (.ite (.cmp .eql (.var 0) (.lit 5))
 (.ite (.and (.cmp .eql (.var 11) (.lit 0)) (.cmp .eql (.var 12) (.lit 0)))
 (.ite (.cmp .eql (.var 13) (.lit 0))
 (.ite (.cmp .eql (.var 14) (.lit 0))
 (.ite (.not (.fn 147 (.i (.var 2) (.i (.var 3) (.i (.var 4) (.i (.var 5) (.i (.var 6) (.x (.var 7) (.i (.var 8) (.i (.var 9) (.x (.var 10) (.i (.lit 0) (.i (.lit 0) (.i (.lit 0) (.i (.lit 0) (.i (.lit 0) (.x .nil (.i (.lit 0) (.i (.lit 0) (.x .nil .nil))))))))))))))))))))
 (.ret ((.v (.one (.z (.bool (.lit false))))), [], 5))
 (.ite (.cmp .eql (.var 0) (.lit 1))
 (.ite (.cmp .eql (.var 2) (.var 1))
 (.ret ((.v (.one (.z (.bool (.fn 76 (.i (.var 2) (.i (.var 3) (.i (.var 4) (.i (.var 5) (.i (.var 6) (.x (.var 7) (.i (.var 8) (.i (.var 9) (.x (.var 10) .nil)))))))))))))), [], 5))
 (.ret ((.v (.one (.z (.bool (.lit false))))), [], 5)))
 (.ite (.cmp .eql (.var 0) (.lit 2))
 (.ret ((.v (.one (.z (.bool (.lit true))))), [], 5))
 (.ite (.cmp .eql (.var 0) (.lit 3))
 (.ite (.cmp .geq (.var 13) (.lit 0))
 (.ite (.cmp .leq (.var 13) (.lit 100000))
 (.ite (.fn 3 (.i (.var 11) (.i (.var 12) .nil)))
 (.ite (.fn 3 (.i (.ar .sub .i64 (.var 11) (.var 13)) (.i (.ar .sub .i64 (.var 12) (.var 13)) .nil)))
 (.ret ((.v (.one (.z (.bool (.fn 3 (.i (.ar .add .i64 (.var 11) (.var 13)) (.i (.ar .add .i64 (.var 12) (.var 13)) .nil))))))), [], 6))
 (.ret ((.v (.one (.z (.bool (.lit false))))), [], 6)))
 (.ret ((.v (.one (.z (.bool (.lit false))))), [], 5)))
 (.ret ((.v (.one (.z (.bool (.lit false))))), [], 5)))
 (.ret ((.v (.one (.z (.bool (.lit false))))), [], 5)))
 (.ite (.cmp .eql (.var 0) (.lit 4))
 (.ite (.cmp .geq (.var 14) (.lit 0))
 (.ret ((.v (.one (.z (.bool (.cmp .leq (.var 14) (.lit 100000)))))), [], 5))
 (.ret ((.v (.one (.z (.bool (.lit false))))), [], 5)))
 (.ite (.cmp .eql (.var 0) (.lit 5))
 (.ite (.cmp .geq (.var 15) (.lit 0))
 (.ret ((.v (.one (.z (.bool (.cmp .leq (.var 15) (.lit 999)))))), [], 5))
 (.ret ((.v (.one (.z (.bool (.lit false))))), [], 5)))
 (.ret ((.v (.one (.z (.bool (.lit false))))), [], 5))))))))
 (.ret ((.v (.one (.z (.bool (.lit false))))), [], 5)))
 (.ret ((.v (.one (.z (.bool (.lit false))))), [], 5)))
 (.ret ((.v (.one (.z (.bool (.lit false))))), [], 5)))
 (.ite (.and (.cmp .eql (.var 11) (.lit 0)) (.cmp .eql (.var 12) (.lit 0)))
 (.ite (.cmp .eql (.var 13) (.lit 0))
 (.ite (.cmp .eql (.var 14) (.lit 0))
 (.ite (.cmp .eql (.var 15) (.lit 0))
 (.ite (.not (.fn 147 (.i (.var 2) (.i (.var 3) (.i (.var 4) (.i (.var 5) (.i (.var 6) (.x (.var 7) (.i (.var 8) (.i (.var 9) (.x (.var 10) (.i (.lit 0) (.i (.lit 0) (.i (.lit 0) (.i (.lit 0) (.i (.lit 0) (.x .nil (.i (.lit 0) (.i (.lit 0) (.x .nil .nil))))))))))))))))))))
 (.ret ((.v (.one (.z (.bool (.lit false))))), [], 5))
 (.ite (.cmp .eql (.var 0) (.lit 1))
 (.ite (.cmp .eql (.var 2) (.var 1))
 (.ret ((.v (.one (.z (.bool (.fn 76 (.i (.var 2) (.i (.var 3) (.i (.var 4) (.i (.var 5) (.i (.var 6) (.x (.var 7) (.i (.var 8) (.i (.var 9) (.x (.var 10) .nil)))))))))))))), [], 5))
 (.ret ((.v (.one (.z (.bool (.lit false))))), [], 5)))
 (.ite (.cmp .eql (.var 0) (.lit 2))
 (.ret ((.v (.one (.z (.bool (.lit true))))), [], 5))
 (.ite (.cmp .eql (.var 0) (.lit 3))
 (.ite (.cmp .geq (.var 13) (.lit 0))
 (.ite (.cmp .leq (.var 13) (.lit 100000))
 (.ite (.fn 3 (.i (.var 11) (.i (.var 12) .nil)))
 (.ite (.fn 3 (.i (.ar .sub .i64 (.var 11) (.var 13)) (.i (.ar .sub .i64 (.var 12) (.var 13)) .nil)))
 (.ret ((.v (.one (.z (.bool (.fn 3 (.i (.ar .add .i64 (.var 11) (.var 13)) (.i (.ar .add .i64 (.var 12) (.var 13)) .nil))))))), [], 6))
 (.ret ((.v (.one (.z (.bool (.lit false))))), [], 6)))
 (.ret ((.v (.one (.z (.bool (.lit false))))), [], 5)))
 (.ret ((.v (.one (.z (.bool (.lit false))))), [], 5)))
 (.ret ((.v (.one (.z (.bool (.lit false))))), [], 5)))
 (.ite (.cmp .eql (.var 0) (.lit 4))
 (.ite (.cmp .geq (.var 14) (.lit 0))
 (.ret ((.v (.one (.z (.bool (.cmp .leq (.var 14) (.lit 100000)))))), [], 5))
 (.ret ((.v (.one (.z (.bool (.lit false))))), [], 5)))
 (.ite (.cmp .eql (.var 0) (.lit 5))
 (.ite (.cmp .geq (.var 15) (.lit 0))
 (.ret ((.v (.one (.z (.bool (.cmp .leq (.var 15) (.lit 999)))))), [], 5))
 (.ret ((.v (.one (.z (.bool (.lit false))))), [], 5)))
 (.ret ((.v (.one (.z (.bool (.lit false))))), [], 5))))))))
 (.ret ((.v (.one (.z (.bool (.lit false))))), [], 5)))
 (.ret ((.v (.one (.z (.bool (.lit false))))), [], 5)))
 (.ret ((.v (.one (.z (.bool (.lit false))))), [], 5)))
 (.ret ((.v (.one (.z (.bool (.lit false))))), [], 5)))))))))
-- end trNOp
set_option maxRecDepth 100000 in
theorem trNOp_is : T.norm 0 (call Tryz.prog ctN1 (Lt.of []) 100 192 (symArgs 0 [opS]) [] 0) TT.ret = trNOp := by kernel_rfl
theorem trNOp_low : trNOp.low 1000 = true := by kernel_rfl
end Go.Proofs.YtkjjkckcjgkhmaaGreat
/- Chapter 40: tables of the tide, sheets, operations of notices. -/
namespace Go.Proofs.YtkjjkckcjgkhmaaGreat
open Go.RowKit
theorem N1b140 (W : World) (ds l : List D) : (envOf N1 W ds).fb 140 l = htL l := by simp only [envOf, N1, KG, KF, KE, KD, KC, KB, KA, K9, K8, K7, K6, K5, K]
theorem N1b145 (W : World) (ds l : List D) : (envOf N1 W ds).fb 145 l = datL l := by simp only [envOf, N1, KG, KF, KE, KD, KC, KB, KA, K9, K8, K7, K6, K5, K]
theorem N1b146 (W : World) (ds l : List D) : (envOf N1 W ds).fb 146 l = listL l := by simp only [envOf, N1, KG, KF, KE, KD, KC, KB, KA, K9, K8, K7, K6, K5, K]
def tideN (r : Rows) : Nat → Nat → Bool
  | 0, _ => true
  | f + 1, i => htB (lg r i 0) (lg r i 1) && tideN r f (i + 1)
def lastT (s p : Int) (r : Rows) : Int := s + ((r.length : Int) - 1) * p
def tideB (s p : Int) (r : Rows) : Bool := timeB s && (decide (1 ≤ p ∧ p ≤ 1000 ∧ 1 ≤ r.length ∧ r.length ≤ 200) && (timeB (lastT s p r) && tideN r r.length 0))
def tideL (ds : List D) : Bool := tideB (iAt ds 0) (iAt ds 1) (rAt ds 2)
theorem tideN_iff (r : Rows) : ∀ f i, tideN r f i = true ↔ ∀ j : Nat, i ≤ j → j < i + f → htB (lg r j 0) (lg r j 1) = true
  | 0, i => by simp only [tideN, true_iff]; intro j h1 h2; omega
  | f + 1, i => by
    rw [tideN, Bool.and_eq_true, tideN_iff r f (i + 1)]
    constructor
    · rintro ⟨h1, h2⟩ j h3 h4
      by_cases e : j = i
      · subst e; exact h1
      · exact h2 j (by omega) (by omega)
    · intro h
      exact ⟨h i (by omega) (by omega), fun j h1 h2 => h j (by omega) (by omega)⟩
theorem gTiV : Gives Tryz.prog 103 [tid] (fun ds => .bool (tideL ds)) := by
  refine GivesIf.all (fn_gives N1 (by kernel_rfl) (fun ρ h => ctN1_ok (Sees.of h 150)) (by kernel_rfl) trTiV_is trTiV_low (by decide) (fun W vals ds _ _ => ?_))
  simp only [trTiV, TT.sat_ret, TT.sat_ite, B.ev, E.ev, X.ev, cmp_t, cmp_f, arEv, V.plain, V2.plain, S.plain, S0.plain, V.val, V2.val, S.val, S0.val, envOf_i, envOf_d, true_and, Bool.not_eq_true', Bool.not_eq_false', cmpP, N1b140, ht_2]
  have e : tideL ds = (timeB (iAt ds 0) && (decide (1 ≤ iAt ds 1 ∧ iAt ds 1 ≤ 1000 ∧ 1 ≤ (rAt ds 2).length ∧ (rAt ds 2).length ≤ 200) && (timeB (lastT (iAt ds 0) (iAt ds 1) (rAt ds 2)) && tideN (rAt ds 2) (rAt ds 2).length 0))) := rfl
  have H : tideL ds = true → (0 ≤ iAt ds 0 ∧ iAt ds 0 ≤ 10000000) ∧ (1 ≤ iAt ds 1 ∧ iAt ds 1 ≤ 1000 ∧ 1 ≤ (rAt ds 2).length ∧ (rAt ds 2).length ≤ 200) ∧ (0 ≤ lastT (iAt ds 0) (iAt ds 1) (rAt ds 2) ∧ lastT (iAt ds 0) (iAt ds 1) (rAt ds 2) ≤ 10000000) ∧ tideN (rAt ds 2) (rAt ds 2).length 0 = true := by
    rw [e]
    simp only [timeB, Bool.and_eq_true, decide_eq_true_eq]
    exact id
  have F : ¬ tideL ds = true → Value.bool false = Value.bool (tideL ds) := fun h => by rw [Bool.not_eq_true] at h; rw [h]
  refine ⟨fun h1 => ⟨fun h2 => F (fun q => by have := H q; omega), fun h2 => ⟨fun h3 => F (fun q => by have := H q; omega), fun h3 => ⟨fun h4 => F (fun q => by have := H q; omega), fun h4 => ⟨fun h5 => F (fun q => by have := H q; omega), fun h5 => ⟨fun h6 => F (fun q => by have := H q; omega), fun h6 => ?_⟩⟩⟩⟩⟩, fun h1 => F (fun q => by have := H q; omega)⟩
  have hm : 0 ≤ ((rAt ds 2).length - 1 : Int) * iAt ds 1 ∧ ((rAt ds 2).length - 1 : Int) * iAt ds 1 ≤ 200 * 1000 := ⟨Int.mul_nonneg (by omega) (by omega), Int.mul_le_mul (by omega) (by omega) (by omega) (by omega)⟩
  have hl : IntKind.i64.wrap (iAt ds 0 + IntKind.i64.wrap (IntKind.i64.wrap (((rAt ds 2).length : Int) - 1) * iAt ds 1)) = lastT (iAt ds 0) (iAt ds 1) (rAt ds 2) := by
    rw [wrap_in (((rAt ds 2).length : Int) - 1) (by omega) (by omega), wrap_in ((((rAt ds 2).length : Int) - 1) * iAt ds 1) (by omega) (by omega), wrap_in _ (by omega) (by omega)]
    rfl
  rw [hl]
  refine ⟨fun h7 => ⟨fun h8 => F (fun q => by have := H q; omega), fun h8 => ?_⟩, fun h7 => F (fun q => by have := H q; omega)⟩
  refine TT.sat_loop (fun v => ∃ i : Nat, v.i 0 = i ∧ i ≤ (rAt ds 2).length ∧ ∀ j : Nat, j < i → htB (lg (rAt ds 2) j 0) (lg (rAt ds 2) j 1) = true) (fun v => (rAt ds 2).length - (v.i 0).toNat) ⟨0, by simp [val_i, aget, E.ev], by omega, fun j h => absurd h (Nat.not_lt_zero _)⟩ (fun v hv => ?_)
  obtain ⟨i, i0, i1, i2⟩ := hv
  simp only [TT.sat_ret, TT.sat_ite, TT.sat_ob, TT.sat_next, put_i, put_d, put_fb, Ob.ok, B.ev, E.ev, X.ev, AL.ev, cmp_t, cmp_f, arEv, envOf_i, envOf_d, true_and, Bool.not_eq_true', Bool.not_eq_false', cell_lg, cmpP, val_i, aget, beq_self_eq_true, if_true, if_false, Nat.reduceLT, Nat.reduceSub, Nat.sub_self, Nat.lt_irrefl, i0, N1b140, ht_2]
  refine ⟨fun hc => ⟨by omega, hc, fun hb => F (fun q => ?_), fun hb => ?_⟩, fun hc => ?_⟩
  · have := (tideN_iff _ _ _).1 (H q).2.2.2 i (Nat.zero_le _) (by omega)
    rw [hb] at this
    cases this
  · rw [wrap_in _ (by omega) (by omega)]
    refine ⟨⟨i + 1, by omega, by omega, fun j hj => ?_⟩, by omega⟩
    by_cases e : j = i
    · subst e; exact hb
    · exact i2 j (by omega)
  · have : tideL ds = true := by
      rw [e]
      simp only [timeB, Bool.and_eq_true, decide_eq_true_eq]
      exact ⟨by omega, by omega, by omega, (tideN_iff _ _ _).2 (fun j _ hj => i2 j (by omega))⟩
    rw [this]
/-! Sheets -/
def doN (r : Rows) : Nat → Nat → Int → Bool
  | 0, _, _ => true
  | f + 1, i, last => decide (last < lg r i 0 ∧ lg r i 0 ≤ 10000) && doN r f (i + 1) (lg r i 0)
def sheetL (ds : List D) : Bool := doN (rAt ds 11) (rAt ds 11).length 0 0 && (decide ((rAt ds 11).length ≤ 200 ∧ (1 ≤ iAt ds 0 ∧ iAt ds 0 ≤ 1000) ∧ (1 ≤ iAt ds 1 ∧ iAt ds 1 ≤ 1000) ∧ (1 ≤ iAt ds 2 ∧ iAt ds 2 ≤ 1000) ∧ 1 ≤ iAt ds 10 ∧ iAt ds 10 ≤ 100000) &&
  (datB (iAt ds 3) (iAt ds 4) (iAt ds 5) (iAt ds 6) (iAt ds 7) (iAt ds 8) (iAt ds 9) && listB (rAt ds 12)))
theorem dat_7 (a b c d e f g : Int) : datL [.i a, .i b, .i c, .i d, .i e, .i f, .i g] = datB a b c d e f g := rfl
theorem list_1 (r : Rows) : listL [.l r] = listB r := rfl
theorem sheet_rep {W : World} {vals : List Value} {ds : List D} {sh : List Sh} (hr : repSh W (shee :: sh) vals ds) : (rAt ds 11).length ≤ 281474976710656 ∧ (rAt ds 12).length ≤ 281474976710656 := by
  obtain ⟨v, vs', d, ds', rfl, rfl, ⟨us, rfl, h⟩, _⟩ := hr
  have hl : d.length = 13 := (reps_len h).2
  have key : ∀ j k ks, sheetK[j]? = some k → k = .sl ks → j < 13 → (rAt (d ++ ds') j).length ≤ 281474976710656 := fun j k ks hj hk hlt => by
    obtain ⟨v5, d5, h1, h2, h3⟩ := reps_get (j := j) h hj
    subst hk
    rw [rep_sl] at h3
    obtain ⟨r, rfl, a, n, c, _, hs, _⟩ := h3
    have e : rAt (d ++ ds') j = r := by
      unfold rAt
      rw [List.getD_eq_getElem?_getD, List.getElem?_append_left (by omega), h2]
      rfl
    rw [e]
    have e1 := hs.len
    have e2 := hs.big
    omega
  exact ⟨key 11 _ _ rfl rfl (by omega), key 12 _ _ rfl rfl (by omega)⟩
theorem gShV : Gives Tryz.prog 56 [shee] (fun ds => .bool (sheetL ds)) := by
  refine GivesIf.all (fn_gives N1 (by kernel_rfl) (fun ρ h => ctN1_ok (Sees.of h 150)) (by kernel_rfl) trShV_is trShV_low (by decide) (fun W vals ds hr _ => ?_))
  have hlen := (sheet_rep hr).1
  simp only [trShV]
  have hO : sheetL ds = (doN (rAt ds 11) (rAt ds 11).length 0 0 && (decide ((rAt ds 11).length ≤ 200 ∧ (1 ≤ iAt ds 0 ∧ iAt ds 0 ≤ 1000) ∧ (1 ≤ iAt ds 1 ∧ iAt ds 1 ≤ 1000) ∧ (1 ≤ iAt ds 2 ∧ iAt ds 2 ≤ 1000) ∧ 1 ≤ iAt ds 10 ∧ iAt ds 10 ≤ 100000) &&
    (datB (iAt ds 3) (iAt ds 4) (iAt ds 5) (iAt ds 6) (iAt ds 7) (iAt ds 8) (iAt ds 9) && listB (rAt ds 12)))) := rfl
  clear hr
  generalize e0 : rAt ds 11 = r at *
  refine TT.sat_loop (fun v => ∃ i : Nat, v.i 1 = i ∧ i ≤ r.length ∧ doN r (r.length - i) i (v.i 0) = doN r r.length 0 0) (fun v => r.length - (v.i 1).toNat)
    ⟨0, by simp [val_i, aget, E.ev], by omega, rfl⟩ (fun v hv => ?_)
  obtain ⟨i, i0, i1, i2⟩ := hv
  simp only [TT.sat_ret, TT.sat_ite, TT.sat_ob, TT.sat_next, put_i, put_d, put_fb, Ob.ok, B.ev, E.ev, X.ev, AL.ev, cmp_t, cmp_f, arEv, V.plain, V2.plain, S.plain, S0.plain, V.val, V2.val, S.val, S0.val, envOf_i, envOf_d, true_and, cell_lg, cmpP, val_i, aget, Nat.reduceBEq, beq_self_eq_true, Bool.false_eq_true, if_true, if_false, Nat.reduceLT, Nat.reduceSub, Nat.sub_self, Nat.lt_irrefl, i0, e0, N1b145, N1b146, dat_7, list_1]
  refine ⟨fun hc => ?_, fun hc => ?_⟩
  · have hi : i < r.length := by omega
    obtain ⟨f, hf⟩ : ∃ f, r.length - i = f + 1 := ⟨r.length - i - 1, by omega⟩
    have hf' : r.length - (i + 1) = f := by omega
    rw [hf, doN] at i2
    rw [wrap_in ((i : Int) + 1) (by omega) (by omega)]
    refine ⟨by omega, by omega, fun h => ?_, fun h => ⟨fun g => ?_, fun g => ⟨⟨i + 1, rfl, by omega, ?_⟩, by omega⟩⟩⟩
    · rw [hO, ← i2, decide_eq_false (by omega)]; rfl
    · rw [hO, ← i2, decide_eq_false (by omega)]; rfl
    · rw [hf', ← i2, decide_eq_true (by omega), Bool.true_and]
  · have h0 : r.length - i = 0 := by omega
    rw [h0, doN] at i2
    have F : (¬ (r.length ≤ 200 ∧ (1 ≤ iAt ds 0 ∧ iAt ds 0 ≤ 1000) ∧ (1 ≤ iAt ds 1 ∧ iAt ds 1 ≤ 1000) ∧ (1 ≤ iAt ds 2 ∧ iAt ds 2 ≤ 1000) ∧ 1 ≤ iAt ds 10 ∧ iAt ds 10 ≤ 100000)) → Value.bool false = Value.bool (sheetL ds) := fun h => by
      rw [hO, decide_eq_false h, Bool.false_and, Bool.and_false]
    refine ⟨fun _ => ⟨fun _ => ⟨fun _ => ⟨fun _ => ⟨fun _ => ⟨fun _ => ⟨fun _ => ⟨fun _ => ⟨fun _ => ⟨fun h => ?_, fun h => ?_⟩, fun _ => F (by omega)⟩, fun _ => F (by omega)⟩, fun _ => F (by omega)⟩, fun _ => F (by omega)⟩, fun _ => F (by omega)⟩, fun _ => F (by omega)⟩, fun _ => F (by omega)⟩, fun _ => F (by omega)⟩, fun _ => F (by omega)⟩
    · rw [hO, ← i2, decide_eq_true (by omega), h]; rfl
    · rw [hO, h, Bool.false_and, Bool.and_false, Bool.and_false]
/-! Operations: what the tree reckons -/
def opL (ds : List D) : Bool := trNOp.evB (envOf N1 W00 ds)
theorem gNOp : Gives Tryz.prog 192 [opS] (fun ds => .bool (opL ds)) :=
  fn_tests N1 (by kernel_rfl) (fun ρ h => ctN1_ok (Sees.of h 150)) (by kernel_rfl) trNOp_is trNOp_low (by decide) (by kernel_rfl)
def N2 : Interp where
  fi n l := N1.fi n l
  fb n l := match n with | 150 => tideL l | 151 => sheetL l | 152 => opL l | n => N1.fb n l
  fd _ _ := []
theorem N2_N1 {ρ : Env} (h : Sees ρ N2 160) : Sees ρ N1 150 := h.trans (by decide) fun n l hn => by
  refine ⟨?_, ?_⟩
  ·
    rfl
  ·
    simp only [N2]
    split <;> first | omega | rfl
def cTiV := ctD [tid] fun al => .ret (bV (bF 150 tideL al))
theorem cTiV_ok {ρ : Env} (h : Sees ρ N2 160) : CtOne Tryz.prog ρ 103 cTiV :=
  ctD_ok gTiV (fun _ => rfl) (fun al => by simp only [iV, bV, V.s0, V.val, V2.val, S.val, S0.val, bF_ev (s := 150) (f := tideL) (fun l => by rw [(h 150 l (by decide)).2]; simp only [N2, N1, KG, KF, KE, KD, KC, KB, KA, K9, K8, K7, K6, K5, K])]; try rfl)
def cShV := ctD [shee] fun al => .ret (bV (bF 151 sheetL al))
theorem cShV_ok {ρ : Env} (h : Sees ρ N2 160) : CtOne Tryz.prog ρ 56 cShV :=
  ctD_ok gShV (fun _ => rfl) (fun al => by simp only [iV, bV, V.s0, V.val, V2.val, S.val, S0.val, bF_ev (s := 151) (f := sheetL) (fun l => by rw [(h 151 l (by decide)).2]; simp only [N2, N1, KG, KF, KE, KD, KC, KB, KA, K9, K8, K7, K6, K5, K])]; try rfl)
def cNOp := ctD [opS] fun al => .ret (bV (bF 152 opL al))
theorem cNOp_ok {ρ : Env} (h : Sees ρ N2 160) : CtOne Tryz.prog ρ 192 cNOp :=
  ctD_ok gNOp (fun _ => rfl) (fun al => by simp only [iV, bV, V.s0, V.val, V2.val, S.val, S0.val, bF_ev (s := 152) (f := opL) (fun l => by rw [(h 152 l (by decide)).2]; simp only [N2, N1, KG, KF, KE, KD, KC, KB, KA, K9, K8, K7, K6, K5, K])]; try rfl)
def ctN2 : Ct := (103, cTiV) :: (56, cShV) :: (192, cNOp) :: ctN1
theorem ctN2_ok {ρ : Env} (h : Sees ρ N2 160) : CtOk Tryz.prog ρ ctN2 := .cons (cTiV_ok h) <| .cons (cShV_ok h) <| .cons (cNOp_ok h) (ctN1_ok (N2_N1 h))
end Go.Proofs.YtkjjkckcjgkhmaaGreat
