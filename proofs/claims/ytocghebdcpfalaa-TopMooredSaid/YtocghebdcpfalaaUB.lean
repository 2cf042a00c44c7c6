/- UB, merged: TUe, Ue, TUf, Uf, TUg, Ug. -/
import Derived.Test.YtocghebdcpfalaaUA
set_option linter.unusedSimpArgs false
set_option linter.unusedVariables false
/- TopMoored: trees of what sees, of lists, of heights. -/
namespace Go.Proofs.Ytocghebdcpfalaa
open Go.RowKit
-- term trMBox: call Try.prog ctU2 (Lt.of []) 100 12 (symArgs 0 [mo, sp]) [] 0
def trMBox : TT OpR :=
(.ite (.cmp .neq (.fn 113 (.i (.var 0) (.i (.var 1) (.i (.var 2) (.i (.var 3) (.i (.var 4) (.i (.var 5) (.i (.var 6) .nil)))))))) (.lit 0))
  (.ret ((.tup [(.agg [(.z (.int .i64 (.lit 0))), (.z (.int .i64 (.lit 0))), (.z (.int .i64 (.lit 0))), (.z (.int .i64 (.lit 0)))]), (.one (.z (.int .i64 (.fn 113 (.i (.var 0) (.i (.var 1) (.i (.var 2) (.i (.var 3) (.i (.var 4) (.i (.var 5) (.i (.var 6) .nil)))))))))))]), [], 3))
  (.ret ((.tup [(.agg [(.z (.int .i64 (.fn 42 (.i (.var 0) (.i (.var 0) (.i (.var 1) (.i (.var 1) (.i (.fn 112 (.i (.var 0) (.i (.var 1) (.i (.var 2) (.i (.var 3) (.i (.var 4) (.i (.var 5) (.i (.var 6) .nil)))))))) .nil)))))))), (.z (.int .i64 (.fn 43 (.i (.var 0) (.i (.var 0) (.i (.var 1) (.i (.var 1) (.i (.fn 112 (.i (.var 0) (.i (.var 1) (.i (.var 2) (.i (.var 3) (.i (.var 4) (.i (.var 5) (.i (.var 6) .nil)))))))) .nil)))))))), (.z (.int .i64 (.fn 44 (.i (.var 0) (.i (.var 0) (.i (.var 1) (.i (.var 1) (.i (.fn 112 (.i (.var 0) (.i (.var 1) (.i (.var 2) (.i (.var 3) (.i (.var 4) (.i (.var 5) (.i (.var 6) .nil)))))))) .nil)))))))), (.z (.int .i64 (.fn 45 (.i (.var 0) (.i (.var 0) (.i (.var 1) (.i (.var 1) (.i (.fn 112 (.i (.var 0) (.i (.var 1) (.i (.var 2) (.i (.var 3) (.i (.var 4) (.i (.var 5) (.i (.var 6) .nil)))))))) .nil))))))))]), (.one (.z (.int .i64 (.fn 46 (.i (.var 0) (.i (.var 0) (.i (.var 1) (.i (.var 1) (.i (.fn 112 (.i (.var 0) (.i (.var 1) (.i (.var 2) (.i (.var 3) (.i (.var 4) (.i (.var 5) (.i (.var 6) .nil)))))))) .nil)))))))))]), [], 4)))
-- end trMBox
set_option maxRecDepth 100000 in
theorem trMBox_is : T.norm 0 (call Try.prog ctU2 (Lt.of []) 100 12 (symArgs 0 [mo, sp]) [] 0) TT.ret = trMBox := by kernel_rfl
theorem trMBox_low : trMBox.low 1000 = true := by kernel_rfl
-- term trReports: call Try.prog ctU2 (Lt.of []) 100 6 (symArgs 0 [reps]) [] 0
def trReports : TT OpR :=
(.ite (.cmp .gtr (.len (.var 0)) (.lit 60))
  (.ret ((.v (.one (.z (.bool (.lit false))))), [], 0))
  (.loop 0 1000 ⟨[(0, (.lit 0))], [], []⟩
    (.ite (.cmp .lss (.var 1000) (.len (.var 0)))
      (.ob (.tru (.cmp .leq (.lit 0) (.var 1000)))
      (.ob (.tru (.cmp .lss (.var 1000) (.len (.var 0))))
      (.ite (.not (.fn 102 (.i (.rd (.var 0) (.var 1000) 0) (.i (.rd (.var 0) (.var 1000) 1) (.i (.rd (.var 0) (.var 1000) 2) (.i (.rd (.var 0) (.var 1000) 3) (.i (.rd (.var 0) (.var 1000) 4) (.i (.rd (.var 0) (.var 1000) 5) (.i (.rd (.var 0) (.var 1000) 6) (.i (.rd (.var 0) (.var 1000) 7) (.i (.rd (.var 0) (.var 1000) 8) (.i (.rd (.var 0) (.var 1000) 9) (.i (.rd (.var 0) (.var 1000) 10) (.i (.rd (.var 0) (.var 1000) 11) (.i (.rd (.var 0) (.var 1000) 12) .nil)))))))))))))))
        (.ret ((.v (.one (.z (.bool (.lit false))))), [], 1))
        (.next 0 ⟨[(0, (.ar .add .i64 (.var 1000) (.lit 1)))], [], []⟩))))
      (.ret ((.v (.one (.z (.bool (.lit true))))), [], 1)))))
-- end trReports
set_option maxRecDepth 100000 in
theorem trReports_is : T.norm 0 (call Try.prog ctU2 (Lt.of []) 100 6 (symArgs 0 [reps]) [] 0) TT.ret = trReports := by kernel_rfl
theorem trReports_low : trReports.low 1000 = true := by kernel_rfl
-- term trSList: call Try.prog ctU2 (Lt.of []) 100 18 (symArgs 0 [reps]) [] 0
def trSList : TT OpR :=
(.ite (.cmp .leq (.len (.var 0)) (.lit 60))
  (.loop 0 1000 ⟨[(0, (.lit 0))], [], []⟩
    (.ite (.cmp .lss (.var 1000) (.len (.var 0)))
      (.ob (.tru (.cmp .leq (.lit 0) (.var 1000)))
      (.ob (.tru (.cmp .lss (.var 1000) (.len (.var 0))))
      (.ite (.not (.fn 102 (.i (.rd (.var 0) (.var 1000) 0) (.i (.rd (.var 0) (.var 1000) 1) (.i (.rd (.var 0) (.var 1000) 2) (.i (.rd (.var 0) (.var 1000) 3) (.i (.rd (.var 0) (.var 1000) 4) (.i (.rd (.var 0) (.var 1000) 5) (.i (.rd (.var 0) (.var 1000) 6) (.i (.rd (.var 0) (.var 1000) 7) (.i (.rd (.var 0) (.var 1000) 8) (.i (.rd (.var 0) (.var 1000) 9) (.i (.rd (.var 0) (.var 1000) 10) (.i (.rd (.var 0) (.var 1000) 11) (.i (.rd (.var 0) (.var 1000) 12) .nil)))))))))))))))
        (.ret ((.v (.one (.z (.bool (.not (.cmp .geq (.var 1000) (.lit 0))))))), [], 2))
        (.next 0 ⟨[(0, (.ar .add .i64 (.var 1000) (.lit 1)))], [], []⟩))))
      (.ret ((.v (.one (.z (.bool (.lit true))))), [], 2))))
  (.ret ((.v (.one (.z (.bool (.lit false))))), [], 0)))
-- end trSList
set_option maxRecDepth 100000 in
theorem trSList_is : T.norm 0 (call Try.prog ctU2 (Lt.of []) 100 18 (symArgs 0 [reps]) [] 0) TT.ret = trSList := by kernel_rfl
theorem trSList_low : trSList.low 1000 = true := by kernel_rfl
end Go.Proofs.Ytocghebdcpfalaa
/- TopMoored: the mooring's box, lists of reports, spans. -/
namespace Go.Proofs.Ytocghebdcpfalaa
open Go.RowKit
/-- A row of a list of reports. -/
def repAt (r : Rows) (i : Nat) : List D := (List.range 13).map fun c => .i (lg r i c)
theorem repAt_eq (r : Rows) (i : Nat) : [D.i (lg r i 0), .i (lg r i 1), .i (lg r i 2), .i (lg r i 3), .i (lg r i 4), .i (lg r i 5), .i (lg r i 6), .i (lg r i 7), .i (lg r i 8), .i (lg r i 9), .i (lg r i 10), .i (lg r i 11), .i (lg r i 12)] = repAt r i := rfl
def repsN (r : Rows) : Nat → Nat → Bool
  | 0, _ => true
  | f + 1, i => repL (repAt r i) && repsN r f (i + 1)
theorem repsN_iff (r : Rows) : ∀ f i, repsN r f i = true ↔ ∀ j : Nat, i ≤ j → j < i + f → repL (repAt r j) = true
  | 0, i => by simp only [repsN, true_iff]; intro j h1 h2; omega
  | f + 1, i => by
    rw [repsN, Bool.and_eq_true, repsN_iff r f (i + 1)]
    constructor
    · rintro ⟨h1, h2⟩ j h3 h4
      by_cases e : j = i
      · subst e; exact h1
      · exact h2 j (by omega) (by omega)
    · intro h
      exact ⟨h i (by omega) (by omega), fun j h1 h2 => h j (by omega) (by omega)⟩
def repsB (r : Rows) : Bool := decide (r.length ≤ 60) && repsN r r.length 0
def repsL (ds : List D) : Bool := repsB (rAt ds 0)
theorem repsB_iff {r : Rows} : repsB r = true ↔ r.length ≤ 60 ∧ ∀ j : Nat, j < r.length → repL (repAt r j) = true := by
  rw [repsB, Bool.and_eq_true, decide_eq_true_eq, repsN_iff]
  constructor
  · rintro ⟨h1, h2⟩; exact ⟨h1, fun j hj => h2 j (Nat.zero_le _) (by omega)⟩
  · rintro ⟨h1, h2⟩; exact ⟨h1, fun j _ hj => h2 j (by omega)⟩
theorem Ka2b102 (W : World) (ds l : List D) : (envOf Ka2 W ds).fb 102 l = repL l := by simp only [envOf, Ka2, Ka1, K7, K6, K5, K]
theorem Ka2i112 (W : World) (ds l : List D) : (envOf Ka2 W ds).fi 112 l = radR l := by simp only [envOf, Ka2, Ka1, K7, K6, K5, K]
theorem Ka2i113 (W : World) (ds l : List D) : (envOf Ka2 W ds).fi 113 l = radE l := by simp only [envOf, Ka2, Ka1, K7, K6, K5, K]
theorem Ka2i42 (W : World) (ds l : List D) : (envOf Ka2 W ds).fi 42 l = growA l := by simp only [envOf, Ka2, Ka1, K7, K6, K5, K]
theorem Ka2i43 (W : World) (ds l : List D) : (envOf Ka2 W ds).fi 43 l = growB l := by simp only [envOf, Ka2, Ka1, K7, K6, K5, K]
theorem Ka2i44 (W : World) (ds l : List D) : (envOf Ka2 W ds).fi 44 l = growC l := by simp only [envOf, Ka2, Ka1, K7, K6, K5, K]
theorem Ka2i45 (W : World) (ds l : List D) : (envOf Ka2 W ds).fi 45 l = growD l := by simp only [envOf, Ka2, Ka1, K7, K6, K5, K]
theorem Ka2i46 (W : World) (ds l : List D) : (envOf Ka2 W ds).fi 46 l = growE l := by simp only [envOf, Ka2, Ka1, K7, K6, K5, K]
theorem Ka2b30 (W : World) (ds l : List D) : (envOf Ka2 W ds).fb 30 l = spanL l := by simp only [envOf, Ka2, Ka1, K7, K6, K5, K]
theorem gReports : Gives Try.prog 6 [reps] (fun ds => .bool (repsL ds)) := by
  refine GivesIf.all (fn_gives Ka2 (by kernel_rfl) (fun ρ h => ctU2_ok (Sees.of h 130)) (by kernel_rfl) trReports_is trReports_low (by decide) (fun W vals ds _ _ => ?_))
  simp only [trReports, TT.sat_ret, TT.sat_ite, TT.sat_ob, TT.sat_next, TT.sat_stuck, put_i, put_b, put_d, put_fi, put_fb, put_fd, Ob.ok, B.ev, E.ev, X.ev, AL.ev, cmp_t, cmp_f, arEv, V.plain, V2.plain, S.plain, S0.plain, V.val, V2.val, S.val, S0.val, bV, iV, List.all_cons, List.all_nil, Bool.and_true, Bool.and_self, envOf_i, envOf_b, envOf_d, List.map_cons, List.map_nil, true_and, Bool.not_eq_true', Bool.not_eq_false', Bool.not_not, Bool.and_eq_true, and_f, cell_lg, cell_lb, cell_lr, cmpP, val_i, val_b, val_d, aget, Nat.reduceBEq, beq_self_eq_true, Bool.false_eq_true, if_true, if_false, Nat.reduceLT, Nat.reduceSub, Nat.sub_self, Nat.lt_irrefl]
  have F : ¬ repsL ds = true → Value.bool false = Value.bool (repsL ds) := fun h => by rw [Bool.not_eq_true] at h; rw [h]
  refine ⟨fun h => F (fun q => by have := (repsB_iff.1 q).1; omega), fun h => ?_⟩
  refine TT.sat_loop (fun v => ∃ i : Nat, v.i 0 = i ∧ i ≤ (rAt ds 0).length ∧ ∀ j : Nat, j < i → repL (repAt (rAt ds 0) j) = true) (fun v => (rAt ds 0).length - (v.i 0).toNat) ⟨0, by simp [val_i, aget, E.ev], by omega, fun j h => absurd h (Nat.not_lt_zero _)⟩ (fun v hv => ?_)
  obtain ⟨i, i0, i1, i2⟩ := hv
  simp only [TT.sat_ret, TT.sat_ite, TT.sat_ob, TT.sat_next, TT.sat_stuck, put_i, put_b, put_d, put_fi, put_fb, put_fd, Ob.ok, B.ev, E.ev, X.ev, AL.ev, cmp_t, cmp_f, arEv, V.plain, V2.plain, S.plain, S0.plain, V.val, V2.val, S.val, S0.val, bV, iV, List.all_cons, List.all_nil, Bool.and_true, Bool.and_self, envOf_i, envOf_b, envOf_d, List.map_cons, List.map_nil, true_and, Bool.not_eq_true', Bool.not_eq_false', Bool.not_not, Bool.and_eq_true, and_f, cell_lg, cell_lb, cell_lr, cmpP, val_i, val_b, val_d, aget, Nat.reduceBEq, beq_self_eq_true, Bool.false_eq_true, if_true, if_false, Nat.reduceLT, Nat.reduceSub, Nat.sub_self, Nat.lt_irrefl, i0, Ka2b102, repAt_eq]
  refine ⟨fun hc => ⟨by omega, hc, fun hb => F (fun q => ?_), fun hb => ?_⟩, fun hc => ?_⟩
  · have := (repsB_iff.1 q).2 i (by omega)
    rw [hb] at this
    cases this
  · rw [wrap_in _ (by omega) (by omega)]
    refine ⟨⟨i + 1, by omega, by omega, fun j hj => ?_⟩, by omega⟩
    by_cases e : j = i
    · subst e; exact hb
    · exact i2 j (by omega)
  · have : repsL ds = true := repsB_iff.2 ⟨by omega, fun j hj => i2 j (by omega)⟩
    rw [this]
theorem gSList : Gives Try.prog 18 [reps] (fun ds => .bool (repsL ds)) := by
  refine GivesIf.all (fn_gives Ka2 (by kernel_rfl) (fun ρ h => ctU2_ok (Sees.of h 130)) (by kernel_rfl) trSList_is trSList_low (by decide) (fun W vals ds _ _ => ?_))
  simp only [trSList, TT.sat_ret, TT.sat_ite, TT.sat_ob, TT.sat_next, TT.sat_stuck, put_i, put_b, put_d, put_fi, put_fb, put_fd, Ob.ok, B.ev, E.ev, X.ev, AL.ev, cmp_t, cmp_f, arEv, V.plain, V2.plain, S.plain, S0.plain, V.val, V2.val, S.val, S0.val, bV, iV, List.all_cons, List.all_nil, Bool.and_true, Bool.and_self, envOf_i, envOf_b, envOf_d, List.map_cons, List.map_nil, true_and, Bool.not_eq_true', Bool.not_eq_false', Bool.not_not, Bool.and_eq_true, and_f, cell_lg, cell_lb, cell_lr, cmpP, val_i, val_b, val_d, aget, Nat.reduceBEq, beq_self_eq_true, Bool.false_eq_true, if_true, if_false, Nat.reduceLT, Nat.reduceSub, Nat.sub_self, Nat.lt_irrefl]
  have F : ¬ repsL ds = true → Value.bool false = Value.bool (repsL ds) := fun h => by rw [Bool.not_eq_true] at h; rw [h]
  refine ⟨fun h => ?_, fun h => F (fun q => by have := (repsB_iff.1 q).1; omega)⟩
  refine TT.sat_loop (fun v => ∃ i : Nat, v.i 0 = i ∧ i ≤ (rAt ds 0).length ∧ ∀ j : Nat, j < i → repL (repAt (rAt ds 0) j) = true) (fun v => (rAt ds 0).length - (v.i 0).toNat) ⟨0, by simp [val_i, aget, E.ev], by omega, fun j h => absurd h (Nat.not_lt_zero _)⟩ (fun v hv => ?_)
  obtain ⟨i, i0, i1, i2⟩ := hv
  simp only [TT.sat_ret, TT.sat_ite, TT.sat_ob, TT.sat_next, TT.sat_stuck, put_i, put_b, put_d, put_fi, put_fb, put_fd, Ob.ok, B.ev, E.ev, X.ev, AL.ev, cmp_t, cmp_f, arEv, V.plain, V2.plain, S.plain, S0.plain, V.val, V2.val, S.val, S0.val, bV, iV, List.all_cons, List.all_nil, Bool.and_true, Bool.and_self, envOf_i, envOf_b, envOf_d, List.map_cons, List.map_nil, true_and, Bool.not_eq_true', Bool.not_eq_false', Bool.not_not, Bool.and_eq_true, and_f, cell_lg, cell_lb, cell_lr, cmpP, val_i, val_b, val_d, aget, Nat.reduceBEq, beq_self_eq_true, Bool.false_eq_true, if_true, if_false, Nat.reduceLT, Nat.reduceSub, Nat.sub_self, Nat.lt_irrefl, i0, Ka2b102, repAt_eq]
  refine ⟨fun hc => ⟨by omega, hc, fun hb => ?_, fun hb => ?_⟩, fun hc => ?_⟩
  · rw [show (!cmpEv BinOp.geq (i : Int) 0) = false by simp [cmpEv]]
    refine F (fun q => ?_)
    have := (repsB_iff.1 q).2 i (by omega)
    rw [hb] at this
    cases this
  · rw [wrap_in _ (by omega) (by omega)]
    refine ⟨⟨i + 1, by omega, by omega, fun j hj => ?_⟩, by omega⟩
    by_cases e : j = i
    · subst e; exact hb
    · exact i2 j (by omega)
  · have : repsL ds = true := repsB_iff.2 ⟨by omega, fun j hj => i2 j (by omega)⟩
    rw [this]
/-- The box in which a buoy stays. -/
def swL (ds : List D) : List D := [.i (iAt ds 0), .i (iAt ds 0), .i (iAt ds 1), .i (iAt ds 1), .i (radR ds)]
def swA (ds : List D) : Int := if radX ds then growA (swL ds) else 0
def swB (ds : List D) : Int := if radX ds then growB (swL ds) else 0
def swC (ds : List D) : Int := if radX ds then growC (swL ds) else 0
def swD (ds : List D) : Int := if radX ds then growD (swL ds) else 0
def swE (ds : List D) : Int := if radX ds then growE (swL ds) else radE ds
theorem mo_7 (ds : List D) : radR [.i (iAt ds 0), .i (iAt ds 1), .i (iAt ds 2), .i (iAt ds 3), .i (iAt ds 4), .i (iAt ds 5), .i (iAt ds 6)] = radR ds ∧ radE [.i (iAt ds 0), .i (iAt ds 1), .i (iAt ds 2), .i (iAt ds 3), .i (iAt ds 4), .i (iAt ds 5), .i (iAt ds 6)] = radE ds := ⟨rfl, rfl⟩
theorem gMBox : Gives Try.prog 12 [mo, sp] (fun ds => .tuple #[.agg #[.int .i64 (swA ds), .int .i64 (swB ds), .int .i64 (swC ds), .int .i64 (swD ds)], .int .i64 (swE ds)]) := by
  refine GivesIf.all (fn_gives Ka2 (by kernel_rfl) (fun ρ h => ctU2_ok (Sees.of h 130)) (by kernel_rfl) trMBox_is trMBox_low (by decide) (fun W vals ds _ _ => ?_))
  simp only [trMBox, TT.sat_ret, TT.sat_ite, TT.sat_ob, TT.sat_next, TT.sat_stuck, put_i, put_b, put_d, put_fi, put_fb, put_fd, Ob.ok, B.ev, E.ev, X.ev, AL.ev, cmp_t, cmp_f, arEv, V.plain, V2.plain, S.plain, S0.plain, V.val, V2.val, S.val, S0.val, bV, iV, List.all_cons, List.all_nil, Bool.and_true, Bool.and_self, envOf_i, envOf_b, envOf_d, List.map_cons, List.map_nil, true_and, Bool.not_eq_true', Bool.not_eq_false', Bool.not_not, Bool.and_eq_true, and_f, cell_lg, cell_lb, cell_lr, cmpP, val_i, val_b, val_d, aget, Nat.reduceBEq, beq_self_eq_true, Bool.false_eq_true, if_true, if_false, Nat.reduceLT, Nat.reduceSub, Nat.sub_self, Nat.lt_irrefl, Ka2i112, Ka2i113, Ka2i42, Ka2i43, Ka2i44, Ka2i45, Ka2i46, (mo_7 ds).1, (mo_7 ds).2]
  have hE : radE ds = 0 ↔ radX ds = true := by
    unfold radE
    cases radX ds
    · simp only [Bool.false_eq_true, if_false, iff_false]
      split <;> decide
    · simp
  refine ⟨fun h => ?_, fun h => ?_⟩
  · have : radX ds = false := by rw [← Bool.not_eq_true, ← hE]; exact h
    simp [swA, swB, swC, swD, swE, this]
  · have : radX ds = true := by rw [← hE]; omega
    simp only [swA, swB, swC, swD, swE, this, if_true, swL]
/-! Spans -/
def sp22 (ds : List D) : Bool := spanB (iAt ds 0) (iAt ds 1) && spanB (iAt ds 2) (iAt ds 3)
def sjA (ds : List D) : Int := if sp22 ds then min (iAt ds 0) (iAt ds 2) else 0
def sjB (ds : List D) : Int := if sp22 ds then max (iAt ds 1) (iAt ds 3) else 0
def sjE (ds : List D) : Int := if sp22 ds then 0 else 1
def smX (ds : List D) : Bool := sp22 ds && decide (max (iAt ds 0) (iAt ds 2) ≤ min (iAt ds 1) (iAt ds 3))
def smA (ds : List D) : Int := if smX ds then max (iAt ds 0) (iAt ds 2) else 0
def smB (ds : List D) : Int := if smX ds then min (iAt ds 1) (iAt ds 3) else 0
def smE (ds : List D) : Int := if smX ds then 0 else if sp22 ds then 4 else 1
def suX (ds : List D) : Bool := sp22 ds && spanB (iAt ds 0 - iAt ds 3) (iAt ds 1 - iAt ds 2)
def suA (ds : List D) : Int := if suX ds then iAt ds 0 - iAt ds 3 else 0
def suB (ds : List D) : Int := if suX ds then iAt ds 1 - iAt ds 2 else 0
def suE (ds : List D) : Int := if suX ds then 0 else if sp22 ds then 3 else 1
theorem gSpJ : Gives Try.prog 24 [sp, sp] (fun ds => .tuple #[.agg #[.int .i64 (sjA ds), .int .i64 (sjB ds)], .int .i64 (sjE ds)]) := by
  refine GivesIf.all (fn_gives K7 (by kernel_rfl) (fun ρ h => ct6_ok (K7_K6 (Sees.of h 61))) (by kernel_rfl) trSpJoin_is trSpJoin_low (by decide) (fun W vals ds _ _ => ?_))
  simp only [trSpJoin, TT.sat_ret, TT.sat_ite, TT.sat_ob, TT.sat_next, TT.sat_stuck, put_i, put_b, put_d, put_fi, put_fb, put_fd, Ob.ok, B.ev, E.ev, X.ev, AL.ev, cmp_t, cmp_f, arEv, V.plain, V2.plain, S.plain, S0.plain, V.val, V2.val, S.val, S0.val, bV, iV, List.all_cons, List.all_nil, Bool.and_true, Bool.and_self, envOf_i, envOf_b, envOf_d, List.map_cons, List.map_nil, true_and, Bool.not_eq_true', Bool.not_eq_false', Bool.not_not, Bool.and_eq_true, and_f, cell_lg, cell_lb, cell_lr, cmpP, val_i, val_b, val_d, aget, Nat.reduceBEq, beq_self_eq_true, Bool.false_eq_true, if_true, if_false, Nat.reduceLT, Nat.reduceSub, Nat.sub_self, Nat.lt_irrefl, K7b30, span_2]
  refine ⟨fun h => ?_, fun h => ⟨fun h2 => ?_, fun h2 => ?_⟩⟩
  all_goals simp [sjA, sjB, sjE, sp22, *]
theorem gSpM : Gives Try.prog 37 [sp, sp] (fun ds => .tuple #[.agg #[.int .i64 (smA ds), .int .i64 (smB ds)], .int .i64 (smE ds)]) := by
  refine GivesIf.all (fn_gives K7 (by kernel_rfl) (fun ρ h => ct6_ok (K7_K6 (Sees.of h 61))) (by kernel_rfl) trSpMeet_is trSpMeet_low (by decide) (fun W vals ds _ _ => ?_))
  simp only [trSpMeet, TT.sat_ret, TT.sat_ite, TT.sat_ob, TT.sat_next, TT.sat_stuck, put_i, put_b, put_d, put_fi, put_fb, put_fd, Ob.ok, B.ev, E.ev, X.ev, AL.ev, cmp_t, cmp_f, arEv, V.plain, V2.plain, S.plain, S0.plain, V.val, V2.val, S.val, S0.val, bV, iV, List.all_cons, List.all_nil, Bool.and_true, Bool.and_self, envOf_i, envOf_b, envOf_d, List.map_cons, List.map_nil, true_and, Bool.not_eq_true', Bool.not_eq_false', Bool.not_not, Bool.and_eq_true, and_f, cell_lg, cell_lb, cell_lr, cmpP, val_i, val_b, val_d, aget, Nat.reduceBEq, beq_self_eq_true, Bool.false_eq_true, if_true, if_false, Nat.reduceLT, Nat.reduceSub, Nat.sub_self, Nat.lt_irrefl, K7b30, span_2]
  refine ⟨fun h => ?_, fun h => ⟨fun h2 => ?_, fun h2 => ⟨fun h3 => ?_, fun h3 => ?_⟩⟩⟩
  · simp [smA, smB, smE, smX, sp22, h]
  · simp [smA, smB, smE, smX, sp22, h2]
  · have e : smX ds = false := by rw [smX, decide_eq_false (by omega), Bool.and_false]
    simp [smA, smB, smE, e, sp22, h, h2]
  · have e : smX ds = true := by rw [smX, decide_eq_true (by omega), sp22, h, h2]; rfl
    simp [smA, smB, smE, e]
theorem gSpS : Gives Try.prog 57 [sp, sp] (fun ds => .tuple #[.agg #[.int .i64 (suA ds), .int .i64 (suB ds)], .int .i64 (suE ds)]) := by
  refine GivesIf.all (fn_gives K7 (by kernel_rfl) (fun ρ h => ct6_ok (K7_K6 (Sees.of h 61))) (by kernel_rfl) trSpSub_is trSpSub_low (by decide) (fun W vals ds _ _ => ?_))
  simp only [trSpSub, TT.sat_ret, TT.sat_ite, TT.sat_ob, TT.sat_next, TT.sat_stuck, put_i, put_b, put_d, put_fi, put_fb, put_fd, Ob.ok, B.ev, E.ev, X.ev, AL.ev, cmp_t, cmp_f, arEv, V.plain, V2.plain, S.plain, S0.plain, V.val, V2.val, S.val, S0.val, bV, iV, List.all_cons, List.all_nil, Bool.and_true, Bool.and_self, envOf_i, envOf_b, envOf_d, List.map_cons, List.map_nil, true_and, Bool.not_eq_true', Bool.not_eq_false', Bool.not_not, Bool.and_eq_true, and_f, cell_lg, cell_lb, cell_lr, cmpP, val_i, val_b, val_d, aget, Nat.reduceBEq, beq_self_eq_true, Bool.false_eq_true, if_true, if_false, Nat.reduceLT, Nat.reduceSub, Nat.sub_self, Nat.lt_irrefl, K7b30, span_2]
  refine ⟨fun h => ?_, fun h => ⟨fun h2 => ?_, fun h2 => ?_⟩⟩
  · simp [suA, suB, suE, suX, sp22, h]
  · simp [suA, suB, suE, suX, sp22, h2]
  have a1 : -1000000000000 ≤ iAt ds 0 ∧ iAt ds 0 ≤ iAt ds 1 ∧ iAt ds 1 ≤ 1000000000000 := by simpa [spanB] using h
  have a2 : -1000000000000 ≤ iAt ds 2 ∧ iAt ds 2 ≤ iAt ds 3 ∧ iAt ds 3 ≤ 1000000000000 := by simpa [spanB] using h2
  rw [wrap_in (iAt ds 0 - iAt ds 3) (by omega) (by omega), wrap_in (iAt ds 1 - iAt ds 2) (by omega) (by omega)]
  refine ⟨fun h3 => ?_, fun h3 => ?_⟩
  · have e : suX ds = false := by rw [suX, h3, Bool.and_false]
    simp [suA, suB, suE, e, sp22, h, h2]
  · have e : suX ds = true := by rw [suX, h3, sp22, h, h2]; rfl
    simp [suA, suB, suE, e]
def leadsL (ds : List D) : Bool := leadsB (iAt ds 0) (iAt ds 1) (iAt ds 2) (iAt ds 3)
theorem gLeads : Gives Try.prog 65 [sp, it, it] (fun ds => .bool (leadsL ds)) := by
  refine GivesIf.all (fn_gives Ka1 (by kernel_rfl) (fun ρ h => ctU_ok (Sees.of h 110)) (by kernel_rfl) trSLeads_is trSLeads_low (by decide) (fun W vals ds _ _ => ?_))
  simp only [trSLeads, TT.sat_ret, TT.sat_ite, TT.sat_ob, TT.sat_next, TT.sat_stuck, put_i, put_b, put_d, put_fi, put_fb, put_fd, Ob.ok, B.ev, E.ev, X.ev, AL.ev, cmp_t, cmp_f, arEv, V.plain, V2.plain, S.plain, S0.plain, V.val, V2.val, S.val, S0.val, bV, iV, List.all_cons, List.all_nil, Bool.and_true, Bool.and_self, envOf_i, envOf_b, envOf_d, List.map_cons, List.map_nil, true_and, Bool.not_eq_true', Bool.not_eq_false', Bool.not_not, Bool.and_eq_true, and_f, cell_lg, cell_lb, cell_lr, cmpP, val_i, val_b, val_d, aget, Nat.reduceBEq, beq_self_eq_true, Bool.false_eq_true, if_true, if_false, Nat.reduceLT, Nat.reduceSub, Nat.sub_self, Nat.lt_irrefl]
  repeat' (first | refine And.intro ?_ ?_ | intro _)
  all_goals (refine congrArg Value.bool ?_; rw [Bool.eq_iff_iff]; simp only [leadsL, leadsB, cmp_t, cmpP, decide_eq_true_eq, Bool.false_eq_true, false_iff, true_iff]; omega)
/-- All symbols so far. -/
def Ka3 : Interp where
  fi n l := match n with | 131 => swA l | 132 => swB l | 133 => swC l | 134 => swD l | 135 => swE l | 136 => sjA l | 137 => sjB l | 138 => sjE l | 139 => smA l | 140 => smB l | 141 => smE l | 142 => suA l | 143 => suB l | 144 => suE l | n => Ka2.fi n l
  fb n l := match n with | 130 => repsL l | 145 => leadsL l | n => Ka2.fb n l
  fd _ _ := []
theorem Ka3_Ka2 {ρ : Env} (h : Sees ρ Ka3 150) : Sees ρ Ka2 130 := h.trans (by decide) fun n l hn => by
  refine ⟨?_, ?_⟩
  ·
    simp only [Ka3]
    split <;> first | omega | rfl
  ·
    simp only [Ka3]
    split <;> first | omega | rfl
def cReports := ctD [reps] fun al => .ret (bV (bF 130 repsL al))
theorem cReports_ok {ρ : Env} (h : Sees ρ Ka3 150) : CtOne Try.prog ρ 6 cReports :=
  ctD_ok gReports (fun _ => rfl) (fun al => by simp only [iV, bV, V.s0, V.val, V2.val, S.val, S0.val, bF_ev (s := 130) (f := repsL) (fun l => by rw [(h 130 l (by decide)).2]; simp only [Ka3, Ka2, Ka1, K7, K6, K5, K])]; try rfl)
def cSList := ctD [reps] fun al => .ret (bV (bF 130 repsL al))
theorem cSList_ok {ρ : Env} (h : Sees ρ Ka3 150) : CtOne Try.prog ρ 18 cSList :=
  ctD_ok gSList (fun _ => rfl) (fun al => by simp only [iV, bV, V.s0, V.val, V2.val, S.val, S0.val, bF_ev (s := 130) (f := repsL) (fun l => by rw [(h 130 l (by decide)).2]; simp only [Ka3, Ka2, Ka1, K7, K6, K5, K])]; try rfl)
def cMBox := ctD [mo, sp] fun al => .ret (.tup [.agg [sIF 131 swA al, sIF 132 swB al, sIF 133 swC al, sIF 134 swD al], .one (sIF 135 swE al)])
theorem cMBox_ok {ρ : Env} (h : Sees ρ Ka3 150) : CtOne Try.prog ρ 12 cMBox :=
  ctD_ok gMBox (fun _ => rfl) (fun al => by simp only [V.val, V2.val, S.val, S0.val, sIF, sBF, List.map_cons, List.map_nil, iF_ev (s := 131) (f := swA) (fun l => by rw [(h 131 l (by decide)).1]; simp only [Ka3, Ka2, Ka1, K7, K6, K5, K]), iF_ev (s := 132) (f := swB) (fun l => by rw [(h 132 l (by decide)).1]; simp only [Ka3, Ka2, Ka1, K7, K6, K5, K]), iF_ev (s := 133) (f := swC) (fun l => by rw [(h 133 l (by decide)).1]; simp only [Ka3, Ka2, Ka1, K7, K6, K5, K]), iF_ev (s := 134) (f := swD) (fun l => by rw [(h 134 l (by decide)).1]; simp only [Ka3, Ka2, Ka1, K7, K6, K5, K]), iF_ev (s := 135) (f := swE) (fun l => by rw [(h 135 l (by decide)).1]; simp only [Ka3, Ka2, Ka1, K7, K6, K5, K])]; try rfl)
def cSpJ := ctD [sp, sp] fun al => .ret (.tup [.agg [sIF 136 sjA al, sIF 137 sjB al], .one (sIF 138 sjE al)])
theorem cSpJ_ok {ρ : Env} (h : Sees ρ Ka3 150) : CtOne Try.prog ρ 24 cSpJ :=
  ctD_ok gSpJ (fun _ => rfl) (fun al => by simp only [V.val, V2.val, S.val, S0.val, sIF, sBF, List.map_cons, List.map_nil, iF_ev (s := 136) (f := sjA) (fun l => by rw [(h 136 l (by decide)).1]; simp only [Ka3, Ka2, Ka1, K7, K6, K5, K]), iF_ev (s := 137) (f := sjB) (fun l => by rw [(h 137 l (by decide)).1]; simp only [Ka3, Ka2, Ka1, K7, K6, K5, K]), iF_ev (s := 138) (f := sjE) (fun l => by rw [(h 138 l (by decide)).1]; simp only [Ka3, Ka2, Ka1, K7, K6, K5, K])]; try rfl)
def cSpM := ctD [sp, sp] fun al => .ret (.tup [.agg [sIF 139 smA al, sIF 140 smB al], .one (sIF 141 smE al)])
theorem cSpM_ok {ρ : Env} (h : Sees ρ Ka3 150) : CtOne Try.prog ρ 37 cSpM :=
  ctD_ok gSpM (fun _ => rfl) (fun al => by simp only [V.val, V2.val, S.val, S0.val, sIF, sBF, List.map_cons, List.map_nil, iF_ev (s := 139) (f := smA) (fun l => by rw [(h 139 l (by decide)).1]; simp only [Ka3, Ka2, Ka1, K7, K6, K5, K]), iF_ev (s := 140) (f := smB) (fun l => by rw [(h 140 l (by decide)).1]; simp only [Ka3, Ka2, Ka1, K7, K6, K5, K]), iF_ev (s := 141) (f := smE) (fun l => by rw [(h 141 l (by decide)).1]; simp only [Ka3, Ka2, Ka1, K7, K6, K5, K])]; try rfl)
def cSpS := ctD [sp, sp] fun al => .ret (.tup [.agg [sIF 142 suA al, sIF 143 suB al], .one (sIF 144 suE al)])
theorem cSpS_ok {ρ : Env} (h : Sees ρ Ka3 150) : CtOne Try.prog ρ 57 cSpS :=
  ctD_ok gSpS (fun _ => rfl) (fun al => by simp only [V.val, V2.val, S.val, S0.val, sIF, sBF, List.map_cons, List.map_nil, iF_ev (s := 142) (f := suA) (fun l => by rw [(h 142 l (by decide)).1]; simp only [Ka3, Ka2, Ka1, K7, K6, K5, K]), iF_ev (s := 143) (f := suB) (fun l => by rw [(h 143 l (by decide)).1]; simp only [Ka3, Ka2, Ka1, K7, K6, K5, K]), iF_ev (s := 144) (f := suE) (fun l => by rw [(h 144 l (by decide)).1]; simp only [Ka3, Ka2, Ka1, K7, K6, K5, K])]; try rfl)
def cLeads := ctD [sp, it, it] fun al => .ret (bV (bF 145 leadsL al))
theorem cLeads_ok {ρ : Env} (h : Sees ρ Ka3 150) : CtOne Try.prog ρ 65 cLeads :=
  ctD_ok gLeads (fun _ => rfl) (fun al => by simp only [iV, bV, V.s0, V.val, V2.val, S.val, S0.val, bF_ev (s := 145) (f := leadsL) (fun l => by rw [(h 145 l (by decide)).2]; simp only [Ka3, Ka2, Ka1, K7, K6, K5, K])]; try rfl)
def ctU3 : Ct := (6, cReports) :: (18, cSList) :: (12, cMBox) :: (24, cSpJ) :: (37, cSpM) :: (57, cSpS) :: (65, cLeads) :: ctU2
theorem ctU3_ok {ρ : Env} (h : Sees ρ Ka3 150) : CtOk Try.prog ρ ctU3 := .cons (cReports_ok h) <| .cons (cSList_ok h) <| .cons (cMBox_ok h) <| .cons (cSpJ_ok h) <| .cons (cSpM_ok h) <| .cons (cSpS_ok h) <| .cons (cLeads_ok h) (ctU2_ok (Ka3_Ka2 h))
end Go.Proofs.Ytocghebdcpfalaa
/- TopMoored: trees of the cone and of heights. -/
namespace Go.Proofs.Ytocghebdcpfalaa
open Go.RowKit
def cone4 : Sh := .agg [.int .i64, .int .i64, .int .i64, .int .i64]
def ltC : Lt := Lt.of [(70, 0), (70, 1)]
-- term trMeets: call Try.prog ctU3 ltC 200 58 (symArgs 0 [cone4, bx]) [] 0
def trMeets : TT OpR :=
(.ite (.fn 145 (.i (.var 4) (.i (.var 5) (.i (.var 0) (.i (.var 2) .nil)))))
  (.ite (.fn 145 (.i (.var 6) (.i (.var 7) (.i (.var 1) (.i (.var 3) .nil)))))
    (.ite (.cmp .geq (.ar .sub .i64 (.ar .mul .i64 (.var 0) (.var 6)) (.ar .mul .i64 (.var 1) (.var 4))) (.lit 0))
      (.ite (.cmp .geq (.ar .sub .i64 (.ar .mul .i64 (.var 4) (.var 3)) (.ar .mul .i64 (.var 6) (.var 2))) (.lit 0))
        (.ret ((.v (.one (.z (.bool (.lit true))))), [], 28))
        (.ite (.cmp .geq (.ar .sub .i64 (.ar .mul .i64 (.var 4) (.var 3)) (.ar .mul .i64 (.var 7) (.var 2))) (.lit 0))
          (.ret ((.v (.one (.z (.bool (.lit true))))), [], 33))
          (.ite (.cmp .geq (.ar .sub .i64 (.ar .mul .i64 (.var 5) (.var 3)) (.ar .mul .i64 (.var 6) (.var 2))) (.lit 0))
            (.ret ((.v (.one (.z (.bool (.lit true))))), [], 39))
            (.ite (.cmp .geq (.ar .sub .i64 (.ar .mul .i64 (.var 5) (.var 3)) (.ar .mul .i64 (.var 7) (.var 2))) (.lit 0))
              (.ret ((.v (.one (.z (.bool (.lit true))))), [], 44))
              (.ret ((.v (.one (.z (.bool (.lit false))))), [], 44))))))
      (.ite (.cmp .geq (.ar .sub .i64 (.ar .mul .i64 (.var 0) (.var 7)) (.ar .mul .i64 (.var 1) (.var 4))) (.lit 0))
        (.ite (.cmp .geq (.ar .sub .i64 (.ar .mul .i64 (.var 4) (.var 3)) (.ar .mul .i64 (.var 6) (.var 2))) (.lit 0))
          (.ret ((.v (.one (.z (.bool (.lit true))))), [], 33))
          (.ite (.cmp .geq (.ar .sub .i64 (.ar .mul .i64 (.var 4) (.var 3)) (.ar .mul .i64 (.var 7) (.var 2))) (.lit 0))
            (.ret ((.v (.one (.z (.bool (.lit true))))), [], 38))
            (.ite (.cmp .geq (.ar .sub .i64 (.ar .mul .i64 (.var 5) (.var 3)) (.ar .mul .i64 (.var 6) (.var 2))) (.lit 0))
              (.ret ((.v (.one (.z (.bool (.lit true))))), [], 44))
              (.ite (.cmp .geq (.ar .sub .i64 (.ar .mul .i64 (.var 5) (.var 3)) (.ar .mul .i64 (.var 7) (.var 2))) (.lit 0))
                (.ret ((.v (.one (.z (.bool (.lit true))))), [], 49))
                (.ret ((.v (.one (.z (.bool (.lit false))))), [], 49))))))
        (.ite (.cmp .geq (.ar .sub .i64 (.ar .mul .i64 (.var 0) (.var 6)) (.ar .mul .i64 (.var 1) (.var 5))) (.lit 0))
          (.ite (.cmp .geq (.ar .sub .i64 (.ar .mul .i64 (.var 4) (.var 3)) (.ar .mul .i64 (.var 6) (.var 2))) (.lit 0))
            (.ret ((.v (.one (.z (.bool (.lit true))))), [], 39))
            (.ite (.cmp .geq (.ar .sub .i64 (.ar .mul .i64 (.var 4) (.var 3)) (.ar .mul .i64 (.var 7) (.var 2))) (.lit 0))
              (.ret ((.v (.one (.z (.bool (.lit true))))), [], 44))
              (.ite (.cmp .geq (.ar .sub .i64 (.ar .mul .i64 (.var 5) (.var 3)) (.ar .mul .i64 (.var 6) (.var 2))) (.lit 0))
                (.ret ((.v (.one (.z (.bool (.lit true))))), [], 50))
                (.ite (.cmp .geq (.ar .sub .i64 (.ar .mul .i64 (.var 5) (.var 3)) (.ar .mul .i64 (.var 7) (.var 2))) (.lit 0))
                  (.ret ((.v (.one (.z (.bool (.lit true))))), [], 55))
                  (.ret ((.v (.one (.z (.bool (.lit false))))), [], 55))))))
          (.ite (.cmp .geq (.ar .sub .i64 (.ar .mul .i64 (.var 0) (.var 7)) (.ar .mul .i64 (.var 1) (.var 5))) (.lit 0))
            (.ite (.cmp .geq (.ar .sub .i64 (.ar .mul .i64 (.var 4) (.var 3)) (.ar .mul .i64 (.var 6) (.var 2))) (.lit 0))
              (.ret ((.v (.one (.z (.bool (.lit true))))), [], 44))
              (.ite (.cmp .geq (.ar .sub .i64 (.ar .mul .i64 (.var 4) (.var 3)) (.ar .mul .i64 (.var 7) (.var 2))) (.lit 0))
                (.ret ((.v (.one (.z (.bool (.lit true))))), [], 49))
                (.ite (.cmp .geq (.ar .sub .i64 (.ar .mul .i64 (.var 5) (.var 3)) (.ar .mul .i64 (.var 6) (.var 2))) (.lit 0))
                  (.ret ((.v (.one (.z (.bool (.lit true))))), [], 55))
                  (.ite (.cmp .geq (.ar .sub .i64 (.ar .mul .i64 (.var 5) (.var 3)) (.ar .mul .i64 (.var 7) (.var 2))) (.lit 0))
                    (.ret ((.v (.one (.z (.bool (.lit true))))), [], 60))
                    (.ret ((.v (.one (.z (.bool (.lit false))))), [], 60))))))
            (.ret ((.v (.one (.z (.bool (.lit false))))), [], 31))))))
    (.ret ((.v (.one (.z (.bool (.lit false))))), [], 2)))
  (.ret ((.v (.one (.z (.bool (.lit false))))), [], 2)))
-- end trMeets
set_option maxRecDepth 100000 in
theorem trMeets_is : T.norm 0 (call Try.prog ctU3 ltC 200 58 (symArgs 0 [cone4, bx]) [] 0) TT.ret = trMeets := by kernel_rfl
theorem trMeets_low : trMeets.low 1000 = true := by kernel_rfl
end Go.Proofs.Ytocghebdcpfalaa
/- TopMoored: the cone. -/
namespace Go.Proofs.Ytocghebdcpfalaa
open Go.RowKit
def inM (n : Int) : Bool := decide (-1000000 ≤ n ∧ n ≤ 1000000)
def coneOk (ds : List D) : Bool := inM (iAt ds 0) && inM (iAt ds 1) && inM (iAt ds 2) && inM (iAt ds 3) && inM (iAt ds 4) && inM (iAt ds 5) && inM (iAt ds 6) && inM (iAt ds 7)
def coneL (ds : List D) : Bool := coneB (iAt ds 0) (iAt ds 1) (iAt ds 2) (iAt ds 3) (iAt ds 4) (iAt ds 5) (iAt ds 6) (iAt ds 7)
theorem leads_4 (a b c d : Int) : leadsL [.i a, .i b, .i c, .i d] = leadsB a b c d := rfl
theorem Ka3b145 (W : World) (ds l : List D) : (envOf Ka3 W ds).fb 145 l = leadsL l := by simp only [envOf, Ka3, Ka2, Ka1, K7, K6, K5, K]
theorem gMeets : GivesIf Try.prog 58 [cone4, bx] (fun ds => coneOk ds = true) (fun ds => .bool (coneL ds)) := by
  refine fn_gives Ka3 (by kernel_rfl) (fun ρ h => ctU3_ok (Sees.of h 150)) (by kernel_rfl) trMeets_is trMeets_low (by decide) (fun W vals ds _ hok => ?_)
  simp only [coneOk, inM, Bool.and_eq_true, decide_eq_true_eq] at hok
  simp only [trMeets, TT.sat_ret, TT.sat_ite, TT.sat_ob, TT.sat_next, TT.sat_stuck, put_i, put_b, put_d, put_fi, put_fb, put_fd, Ob.ok, B.ev, E.ev, X.ev, AL.ev, cmp_t, cmp_f, arEv, V.plain, V2.plain, S.plain, S0.plain, V.val, V2.val, S.val, S0.val, bV, iV, List.all_cons, List.all_nil, Bool.and_true, Bool.and_self, envOf_i, envOf_b, envOf_d, List.map_cons, List.map_nil, true_and, Bool.not_eq_true', Bool.not_eq_false', Bool.not_not, Bool.and_eq_true, and_f, cell_lg, cell_lb, cell_lr, cmpP, val_i, val_b, val_d, aget, Nat.reduceBEq, beq_self_eq_true, Bool.false_eq_true, if_true, if_false, Nat.reduceLT, Nat.reduceSub, Nat.sub_self, Nat.lt_irrefl, Ka3b145, leads_4]
  obtain ⟨⟨⟨⟨⟨⟨⟨o0, o1⟩, o2⟩, o3⟩, o4⟩, o5⟩, o6⟩, o7⟩ := hok
  rw [crs_in o0 o1 o4 o6, crs_in o0 o1 o4 o7, crs_in o0 o1 o5 o6, crs_in o0 o1 o5 o7, crs_in o4 o6 o2 o3, crs_in o4 o7 o2 o3, crs_in o5 o6 o2 o3, crs_in o5 o7 o2 o3]
  have e : coneL ds = (leadsB (iAt ds 4) (iAt ds 5) (iAt ds 0) (iAt ds 2) && (leadsB (iAt ds 6) (iAt ds 7) (iAt ds 1) (iAt ds 3) && ((decide (0 ≤ crs (iAt ds 0) (iAt ds 1) (iAt ds 4) (iAt ds 6)) || (decide (0 ≤ crs (iAt ds 0) (iAt ds 1) (iAt ds 4) (iAt ds 7)) || (decide (0 ≤ crs (iAt ds 0) (iAt ds 1) (iAt ds 5) (iAt ds 6)) || decide (0 ≤ crs (iAt ds 0) (iAt ds 1) (iAt ds 5) (iAt ds 7))))) &&
      (decide (0 ≤ crs (iAt ds 4) (iAt ds 6) (iAt ds 2) (iAt ds 3)) || (decide (0 ≤ crs (iAt ds 4) (iAt ds 7) (iAt ds 2) (iAt ds 3)) || (decide (0 ≤ crs (iAt ds 5) (iAt ds 6) (iAt ds 2) (iAt ds 3)) || decide (0 ≤ crs (iAt ds 5) (iAt ds 7) (iAt ds 2) (iAt ds 3)))))))) := rfl
  rw [e]
  clear e
  generalize leadsB (iAt ds 4) (iAt ds 5) (iAt ds 0) (iAt ds 2) = l1
  generalize leadsB (iAt ds 6) (iAt ds 7) (iAt ds 1) (iAt ds 3) = l2
  repeat' (first | refine And.intro ?_ ?_ | intro _)
  all_goals simp only [*, decide_true, decide_false, Bool.true_or, Bool.false_or, Bool.or_false, Bool.and_true, Bool.true_and, Bool.and_false, Bool.false_and]
/-- All symbols so far. -/
def Ka4 : Interp where
  fi n l := Ka3.fi n l
  fb n l := match n with | 150 => coneL l | 151 => coneOk l | n => Ka3.fb n l
  fd _ _ := []
theorem Ka4_Ka3 {ρ : Env} (h : Sees ρ Ka4 160) : Sees ρ Ka3 150 := h.trans (by decide) fun n l hn => by
  refine ⟨?_, ?_⟩
  ·
    rfl
  ·
    simp only [Ka4]
    split <;> first | omega | rfl
def cMeets := ctD [cone4, bx] fun al => .ob (.tru (bF 151 coneOk al)) (.ret (bV (bF 150 coneL al)))
theorem cMeets_ok {ρ : Env} (h : Sees ρ Ka4 160) : CtOne Try.prog ρ 58 cMeets := by
  have h5 : ∀ l, ρ.fb 151 l = coneOk l := fun l => by rw [(h 151 l (by decide)).2]; simp only [Ka4]
  have h6 : ∀ l, ρ.fb 150 l = coneL l := fun l => by rw [(h 150 l (by decide)).2]; simp only [Ka4]
  refine ctD_if gMeets (fun al v hv => ?_)
  obtain ⟨ho, hv⟩ := hv
  obtain rfl := res_ret hv
  have ho : (bF 151 coneOk al).ev ρ = true := ho
  rw [bF_ev h5] at ho
  exact ⟨rfl, ho, by simp only [bV, V.s0, V.val, V2.val, S.val, S0.val, bF_ev h6]⟩
def ctU4 : Ct := (58, cMeets) :: ctU3
theorem ctU4_ok {ρ : Env} (h : Sees ρ Ka4 160) : CtOk Try.prog ρ ctU4 := .cons (cMeets_ok h) (ctU3_ok (Ka4_Ka3 h))
end Go.Proofs.Ytocghebdcpfalaa
/- TopMoored: trees of what sees. -/
namespace Go.Proofs.Ytocghebdcpfalaa
open Go.RowKit
-- term trSees: call Try.prog ctU4 (Lt.of []) 100 35 (symArgs 0 [rep, bx]) [] 0
def trSees : TT OpR :=
(.ite (.cmp .eql (.fn 141 (.i (.fn 142 (.i (.var 13) (.i (.var 14) (.i (.var 4) (.i (.var 5) .nil))))) (.i (.fn 143 (.i (.var 13) (.i (.var 14) (.i (.var 4) (.i (.var 5) .nil))))) (.i (.ar .sub .i64 (.lit 0) (.var 12)) (.i (.var 12) .nil))))) (.lit 0))
  (.ite (.cmp .eql (.fn 141 (.i (.fn 142 (.i (.var 15) (.i (.var 16) (.i (.var 6) (.i (.var 7) .nil))))) (.i (.fn 143 (.i (.var 15) (.i (.var 16) (.i (.var 6) (.i (.var 7) .nil))))) (.i (.ar .sub .i64 (.lit 0) (.var 12)) (.i (.var 12) .nil))))) (.lit 0))
    (.ob (.tru (.fn 151 (.i (.var 8) (.i (.var 9) (.i (.var 10) (.i (.var 11) (.i (.fn 139 (.i (.fn 142 (.i (.var 13) (.i (.var 14) (.i (.var 4) (.i (.var 5) .nil))))) (.i (.fn 143 (.i (.var 13) (.i (.var 14) (.i (.var 4) (.i (.var 5) .nil))))) (.i (.ar .sub .i64 (.lit 0) (.var 12)) (.i (.var 12) .nil))))) (.i (.fn 140 (.i (.fn 142 (.i (.var 13) (.i (.var 14) (.i (.var 4) (.i (.var 5) .nil))))) (.i (.fn 143 (.i (.var 13) (.i (.var 14) (.i (.var 4) (.i (.var 5) .nil))))) (.i (.ar .sub .i64 (.lit 0) (.var 12)) (.i (.var 12) .nil))))) (.i (.fn 139 (.i (.fn 142 (.i (.var 15) (.i (.var 16) (.i (.var 6) (.i (.var 7) .nil))))) (.i (.fn 143 (.i (.var 15) (.i (.var 16) (.i (.var 6) (.i (.var 7) .nil))))) (.i (.ar .sub .i64 (.lit 0) (.var 12)) (.i (.var 12) .nil))))) (.i (.fn 140 (.i (.fn 142 (.i (.var 15) (.i (.var 16) (.i (.var 6) (.i (.var 7) .nil))))) (.i (.fn 143 (.i (.var 15) (.i (.var 16) (.i (.var 6) (.i (.var 7) .nil))))) (.i (.ar .sub .i64 (.lit 0) (.var 12)) (.i (.var 12) .nil))))) .nil))))))))))
    (.ret ((.v (.one (.z (.bool (.fn 150 (.i (.var 8) (.i (.var 9) (.i (.var 10) (.i (.var 11) (.i (.fn 139 (.i (.fn 142 (.i (.var 13) (.i (.var 14) (.i (.var 4) (.i (.var 5) .nil))))) (.i (.fn 143 (.i (.var 13) (.i (.var 14) (.i (.var 4) (.i (.var 5) .nil))))) (.i (.ar .sub .i64 (.lit 0) (.var 12)) (.i (.var 12) .nil))))) (.i (.fn 140 (.i (.fn 142 (.i (.var 13) (.i (.var 14) (.i (.var 4) (.i (.var 5) .nil))))) (.i (.fn 143 (.i (.var 13) (.i (.var 14) (.i (.var 4) (.i (.var 5) .nil))))) (.i (.ar .sub .i64 (.lit 0) (.var 12)) (.i (.var 12) .nil))))) (.i (.fn 139 (.i (.fn 142 (.i (.var 15) (.i (.var 16) (.i (.var 6) (.i (.var 7) .nil))))) (.i (.fn 143 (.i (.var 15) (.i (.var 16) (.i (.var 6) (.i (.var 7) .nil))))) (.i (.ar .sub .i64 (.lit 0) (.var 12)) (.i (.var 12) .nil))))) (.i (.fn 140 (.i (.fn 142 (.i (.var 15) (.i (.var 16) (.i (.var 6) (.i (.var 7) .nil))))) (.i (.fn 143 (.i (.var 15) (.i (.var 16) (.i (.var 6) (.i (.var 7) .nil))))) (.i (.ar .sub .i64 (.lit 0) (.var 12)) (.i (.var 12) .nil))))) .nil))))))))))))), [], 5)))
    (.ret ((.v (.one (.z (.bool (.lit false))))), [], 5)))
  (.ret ((.v (.one (.z (.bool (.lit false))))), [], 5)))
-- end trSees
set_option maxRecDepth 100000 in
theorem trSees_is : T.norm 0 (call Try.prog ctU4 (Lt.of []) 100 35 (symArgs 0 [rep, bx]) [] 0) TT.ret = trSees := by kernel_rfl
theorem trSees_low : trSees.low 1000 = true := by kernel_rfl
end Go.Proofs.Ytocghebdcpfalaa
/- TopMoored: what a report sees. -/
namespace Go.Proofs.Ytocghebdcpfalaa
open Go.RowKit
theorem sub_in {e f a b : Int} (h1 : -1000000 ≤ e ∧ e ≤ f ∧ f ≤ 1000000) (h2 : -1000000 ≤ a ∧ a ≤ b ∧ b ≤ 1000000) : suA [.i e, .i f, .i a, .i b] = e - b ∧ suB [.i e, .i f, .i a, .i b] = f - a := by
  have h : suX [.i e, .i f, .i a, .i b] = true := by
    show ((spanB e f && spanB a b) && spanB (e - b) (f - a)) = true
    simp only [spanB, Bool.and_eq_true, decide_eq_true_eq]
    omega
  unfold suA suB
  rw [h]
  exact ⟨rfl, rfl⟩
theorem meet_in {e f r : Int} (h1 : -3000000 ≤ e ∧ e ≤ f ∧ f ≤ 3000000) (h2 : 0 ≤ r ∧ r ≤ 1000000) :
    (smE [.i e, .i f, .i (-r), .i r] = 0 ↔ max e (-r) ≤ min f r) ∧ (max e (-r) ≤ min f r → smA [.i e, .i f, .i (-r), .i r] = max e (-r) ∧ smB [.i e, .i f, .i (-r), .i r] = min f r) := by
  have h0 : sp22 [.i e, .i f, .i (-r), .i r] = true := by
    show (spanB e f && spanB (-r) r) = true
    simp only [spanB, Bool.and_eq_true, decide_eq_true_eq]
    omega
  have hx : smX [.i e, .i f, .i (-r), .i r] = decide (max e (-r) ≤ min f r) := by
    show (sp22 [.i e, .i f, .i (-r), .i r] && decide (max e (-r) ≤ min f r)) = _
    rw [h0]; rfl
  by_cases h : max e (-r) ≤ min f r
  · rw [decide_eq_true h] at hx
    unfold smE smA smB
    rw [hx]
    exact ⟨⟨fun _ => h, fun _ => rfl⟩, fun _ => ⟨rfl, rfl⟩⟩
  · rw [decide_eq_false h] at hx
    unfold smE
    rw [hx, h0]
    exact ⟨⟨fun q => by simp at q, fun q => absurd q h⟩, fun q => absurd q h⟩
theorem Ka4b150 (W : World) (ds l : List D) : (envOf Ka4 W ds).fb 150 l = coneL l := by simp only [envOf, Ka4, Ka3, Ka2, Ka1, K7, K6, K5, K]
theorem Ka4b151 (W : World) (ds l : List D) : (envOf Ka4 W ds).fb 151 l = coneOk l := by simp only [envOf, Ka4, Ka3, Ka2, Ka1, K7, K6, K5, K]
theorem Ka4i139 (W : World) (ds l : List D) : (envOf Ka4 W ds).fi 139 l = smA l := by simp only [envOf, Ka4, Ka3, Ka2, Ka1, K7, K6, K5, K]
theorem Ka4i140 (W : World) (ds l : List D) : (envOf Ka4 W ds).fi 140 l = smB l := by simp only [envOf, Ka4, Ka3, Ka2, Ka1, K7, K6, K5, K]
theorem Ka4i141 (W : World) (ds l : List D) : (envOf Ka4 W ds).fi 141 l = smE l := by simp only [envOf, Ka4, Ka3, Ka2, Ka1, K7, K6, K5, K]
theorem Ka4i142 (W : World) (ds l : List D) : (envOf Ka4 W ds).fi 142 l = suA l := by simp only [envOf, Ka4, Ka3, Ka2, Ka1, K7, K6, K5, K]
theorem Ka4i143 (W : World) (ds l : List D) : (envOf Ka4 W ds).fi 143 l = suB l := by simp only [envOf, Ka4, Ka3, Ka2, Ka1, K7, K6, K5, K]
def seesOk (ds : List D) : Bool := repL ds && boxB (iAt ds 13) (iAt ds 14) (iAt ds 15) (iAt ds 16)
def seesL (ds : List D) : Bool := (repOf ds).sees (iAt ds 13) (iAt ds 14) (iAt ds 15) (iAt ds 16)
theorem gSees : GivesIf Try.prog 35 [rep, bx] (fun ds => seesOk ds = true) (fun ds => .bool (seesL ds)) := by
  refine fn_gives Ka4 (by kernel_rfl) (fun ρ h => ctU4_ok (Sees.of h 160)) (by kernel_rfl) trSees_is trSees_low (by decide) (fun W vals ds _ hok => ?_)
  simp only [seesOk, Bool.and_eq_true] at hok
  obtain ⟨hr, hb⟩ := hok
  rw [repL_eq] at hr
  simp only [Bool.and_eq_true, boxB, dirB, decide_eq_true_eq] at hr hb
  simp only [trSees, TT.sat_ret, TT.sat_ite, TT.sat_ob, TT.sat_next, TT.sat_stuck, put_i, put_b, put_d, put_fi, put_fb, put_fd, Ob.ok, B.ev, E.ev, X.ev, AL.ev, cmp_t, cmp_f, arEv, V.plain, V2.plain, S.plain, S0.plain, V.val, V2.val, S.val, S0.val, bV, iV, List.all_cons, List.all_nil, Bool.and_true, Bool.and_self, envOf_i, envOf_b, envOf_d, List.map_cons, List.map_nil, true_and, Bool.not_eq_true', Bool.not_eq_false', Bool.not_not, Bool.and_eq_true, and_f, cell_lg, cell_lb, cell_lr, cmpP, val_i, val_b, val_d, aget, Nat.reduceBEq, beq_self_eq_true, Bool.false_eq_true, if_true, if_false, Nat.reduceLT, Nat.reduceSub, Nat.sub_self, Nat.lt_irrefl, Ka4b150, Ka4b151, Ka4i139, Ka4i140, Ka4i141, Ka4i142, Ka4i143]
  have w : IntKind.i64.wrap (0 - iAt ds 12) = - iAt ds 12 := by rw [wrap_in _ (by omega) (by omega)]; omega
  obtain ⟨a1, a2⟩ := sub_in (e := iAt ds 13) (f := iAt ds 14) (a := iAt ds 4) (b := iAt ds 5) (by omega) (by omega)
  obtain ⟨a3, a4⟩ := sub_in (e := iAt ds 15) (f := iAt ds 16) (a := iAt ds 6) (b := iAt ds 7) (by omega) (by omega)
  rw [w, a1, a2, a3, a4]
  obtain ⟨m1, m2⟩ := meet_in (e := iAt ds 13 - iAt ds 5) (f := iAt ds 14 - iAt ds 4) (r := iAt ds 12) (by omega) (by omega)
  obtain ⟨m3, m4⟩ := meet_in (e := iAt ds 15 - iAt ds 7) (f := iAt ds 16 - iAt ds 6) (r := iAt ds 12) (by omega) (by omega)
  have e : seesL ds = (decide (max (iAt ds 13 - iAt ds 5) (-iAt ds 12) ≤ min (iAt ds 14 - iAt ds 4) (iAt ds 12) ∧ max (iAt ds 15 - iAt ds 7) (-iAt ds 12) ≤ min (iAt ds 16 - iAt ds 6) (iAt ds 12)) &&
      coneB (iAt ds 8) (iAt ds 9) (iAt ds 10) (iAt ds 11) (max (iAt ds 13 - iAt ds 5) (-iAt ds 12)) (min (iAt ds 14 - iAt ds 4) (iAt ds 12)) (max (iAt ds 15 - iAt ds 7) (-iAt ds 12)) (min (iAt ds 16 - iAt ds 6) (iAt ds 12))) := rfl
  rw [e]
  refine ⟨fun h1 => ⟨fun h2 => ?_, fun h2 => ?_⟩, fun h1 => ?_⟩
  · have g1 := m1.1 h1
    have g2 := m3.1 h2
    rw [(m2 g1).1, (m2 g1).2, (m4 g2).1, (m4 g2).2, decide_eq_true (p := _ ∧ _) ⟨g1, g2⟩, Bool.true_and]
    refine ⟨?_, rfl⟩
    show (inM (iAt ds 8) && inM (iAt ds 9) && inM (iAt ds 10) && inM (iAt ds 11) && inM (max (iAt ds 13 - iAt ds 5) (-iAt ds 12)) && inM (min (iAt ds 14 - iAt ds 4) (iAt ds 12)) && inM (max (iAt ds 15 - iAt ds 7) (-iAt ds 12)) && inM (min (iAt ds 16 - iAt ds 6) (iAt ds 12))) = true
    simp only [inM, Bool.and_eq_true, decide_eq_true_eq]
    omega
  · rw [decide_eq_false (p := _ ∧ _) (fun q => h2 (m3.2 q.2)), Bool.false_and]
  · rw [decide_eq_false (p := _ ∧ _) (fun q => h1 (m1.2 q.1)), Bool.false_and]
/-- All symbols so far. -/
def Ka5 : Interp where
  fi n l := Ka4.fi n l
  fb n l := match n with | 160 => seesL l | 161 => seesOk l | n => Ka4.fb n l
  fd _ _ := []
theorem Ka5_Ka4 {ρ : Env} (h : Sees ρ Ka5 170) : Sees ρ Ka4 160 := h.trans (by decide) fun n l hn => by
  refine ⟨?_, ?_⟩
  ·
    rfl
  ·
    simp only [Ka5]
    split <;> first | omega | rfl
def cSees := ctD [rep, bx] fun al => .ob (.tru (bF 161 seesOk al)) (.ret (bV (bF 160 seesL al)))
theorem cSees_ok {ρ : Env} (h : Sees ρ Ka5 170) : CtOne Try.prog ρ 35 cSees := by
  have h5 : ∀ l, ρ.fb 161 l = seesOk l := fun l => by rw [(h 161 l (by decide)).2]; simp only [Ka5]
  have h6 : ∀ l, ρ.fb 160 l = seesL l := fun l => by rw [(h 160 l (by decide)).2]; simp only [Ka5]
  refine ctD_if gSees (fun al v hv => ?_)
  obtain ⟨ho, hv⟩ := hv
  obtain rfl := res_ret hv
  have ho : (bF 161 seesOk al).ev ρ = true := ho
  rw [bF_ev h5] at ho
  exact ⟨rfl, ho, by simp only [bV, V.s0, V.val, V2.val, S.val, S0.val, bF_ev h6]⟩
def ctU5 : Ct := (35, cSees) :: ctU4
theorem ctU5_ok {ρ : Env} (h : Sees ρ Ka5 170) : CtOk Try.prog ρ ctU5 := .cons (cSees_ok h) (ctU4_ok (Ka5_Ka4 h))
end Go.Proofs.Ytocghebdcpfalaa
