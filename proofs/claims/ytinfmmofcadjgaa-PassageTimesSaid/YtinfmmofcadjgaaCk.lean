/- Chapter 38: span.JoinBox, MeetBox, GrowBox. -/
import Derived.Test.YtinfmmofcadjgaaTCk
set_option linter.unusedSimpArgs false
set_option linter.unusedVariables false
namespace Go.Proofs.Ytinfmmofcadjgaa
open Go.RowKit
def boxE (a b c d e : Int) : Value := .tuple #[.agg #[.int .i64 a, .int .i64 b, .int .i64 c, .int .i64 d], .int .i64 e]
def box8 (ds : List D) : Bool := boxB (iAt ds 0) (iAt ds 1) (iAt ds 2) (iAt ds 3) && boxB (iAt ds 4) (iAt ds 5) (iAt ds 6) (iAt ds 7)
theorem boxB_t (a b c d : Int) : (boxB a b c d = true) = ((-1000000 ≤ a ∧ a ≤ b ∧ b ≤ 1000000) ∧ -1000000 ≤ c ∧ c ≤ d ∧ d ≤ 1000000) := by simp [boxB]
theorem boxB_f (a b c d : Int) : (boxB a b c d = false) = ¬ ((-1000000 ≤ a ∧ a ≤ b ∧ b ≤ 1000000) ∧ -1000000 ≤ c ∧ c ≤ d ∧ d ≤ 1000000) := by rw [← boxB_t]; simp
theorem K2_30 (W : World) (ds l : List D) : (envOf KS2 W ds).fb 30 l = spanL l := by simp only [envOf, KS2]
theorem K2_31 (W : World) (ds l : List D) : (envOf KS2 W ds).fb 31 l = boxL l := by simp only [envOf, KS2]
theorem box_four (a b c d : Int) : boxL [.i a, .i b, .i c, .i d] = boxB a b c d := rfl
theorem box_spans {a b c d : Int} (h : boxB a b c d = true) : spanB a b = true ∧ spanB c d = true := by
  rw [boxB_t] at h; rw [spanB_t, spanB_t]; omega
def joinBV (ds : List D) : Value := if box8 ds then boxE (min (iAt ds 0) (iAt ds 4)) (max (iAt ds 1) (iAt ds 5)) (min (iAt ds 2) (iAt ds 6)) (max (iAt ds 3) (iAt ds 7)) 0 else boxE 0 0 0 0 1
theorem gJoin : Gives Try.prog 43 [bx, bx] joinBV := by
  refine GivesIf.all (fn_gives KS2 (by kernel_rfl) (fun ρ h => ctS2_ok h) (by kernel_rfl) trJoin_is trJoin_low (by decide) (fun W vals ds _ _ => ?_))
  simp only [trJoin, TT.sat_ret, TT.sat_ite, B.ev, E.ev, AL.ev, V.plain, V2.plain, S.plain, S0.plain, V.val, V2.val, S.val, S0.val, List.all_cons, List.all_nil, Bool.and_self, envOf_i, List.map_cons, List.map_nil, true_and, Bool.not_eq_true', Bool.not_eq_false', K2_30, K2_31, span_two, box_four]
  cases h1 : boxB (iAt ds 0) (iAt ds 1) (iAt ds 2) (iAt ds 3)
  · simp [joinBV, box8, h1, boxE]
  · cases h2 : boxB (iAt ds 4) (iAt ds 5) (iAt ds 6) (iAt ds 7)
    · simp [joinBV, box8, h1, h2, boxE]
    · simp [joinBV, box8, h1, h2, boxE, box_spans h1, box_spans h2]
def meetOn (ds : List D) : Bool := decide (max (iAt ds 0) (iAt ds 4) ≤ min (iAt ds 1) (iAt ds 5) ∧ max (iAt ds 2) (iAt ds 6) ≤ min (iAt ds 3) (iAt ds 7))
def meetBV (ds : List D) : Value := if box8 ds then (if meetOn ds then boxE (max (iAt ds 0) (iAt ds 4)) (min (iAt ds 1) (iAt ds 5)) (max (iAt ds 2) (iAt ds 6)) (min (iAt ds 3) (iAt ds 7)) 0 else boxE 0 0 0 0 4) else boxE 0 0 0 0 1
theorem gMeetB : Gives Try.prog 27 [bx, bx] meetBV := by
  refine GivesIf.all (fn_gives KS2 (by kernel_rfl) (fun ρ h => ctS2_ok h) (by kernel_rfl) trMeetB_is trMeetB_low (by decide) (fun W vals ds _ _ => ?_))
  simp only [trMeetB, TT.sat_ret, TT.sat_ite, B.ev, E.ev, AL.ev, cmp_t, cmp_f, V.plain, V2.plain, S.plain, S0.plain, V.val, V2.val, S.val, S0.val, List.all_cons, List.all_nil, Bool.and_self, envOf_i, List.map_cons, List.map_nil, true_and, Bool.not_eq_true', Bool.not_eq_false', cmpP, K2_30, K2_31, span_two, box_four]
  cases h1 : boxB (iAt ds 0) (iAt ds 1) (iAt ds 2) (iAt ds 3)
  · simp [meetBV, box8, h1, boxE]
  · cases h2 : boxB (iAt ds 4) (iAt ds 5) (iAt ds 6) (iAt ds 7)
    · simp [meetBV, box8, h1, h2, boxE]
    · rw [show meetBV ds = if meetOn ds = true then boxE (max (iAt ds 0) (iAt ds 4)) (min (iAt ds 1) (iAt ds 5)) (max (iAt ds 2) (iAt ds 6)) (min (iAt ds 3) (iAt ds 7)) 0 else boxE 0 0 0 0 4 from by simp [meetBV, box8, h1, h2]]
      cases h : meetOn ds <;> simp only [meetOn, decide_eq_true_eq, decide_eq_false_iff_not] at h <;> simp only [box_spans h1, box_spans h2, reduceCtorEq, if_true, if_false, false_implies, forall_const, true_and, and_true, boxE, cmpP, Bool.false_eq_true]
      · refine ⟨fun a => ?_, fun a => ⟨fun b => ?_, fun b => ?_⟩⟩ <;> first | (exfalso; omega) | simp
      · refine ⟨fun a => ?_, fun a => ⟨fun b => ?_, fun b => ?_⟩⟩ <;> first | (exfalso; omega) | simp
/-- A box with n more on each side. -/
def growV (ds : List D) : Value := if boxB (iAt ds 0) (iAt ds 1) (iAt ds 2) (iAt ds 3) ∧ 0 ≤ iAt ds 4 ∧ iAt ds 4 ≤ 3000000 then (if boxB (iAt ds 0 - iAt ds 4) (iAt ds 1 + iAt ds 4) (iAt ds 2 - iAt ds 4) (iAt ds 3 + iAt ds 4) then boxE (iAt ds 0 - iAt ds 4) (iAt ds 1 + iAt ds 4) (iAt ds 2 - iAt ds 4) (iAt ds 3 + iAt ds 4) 0 else boxE 0 0 0 0 3) else boxE 0 0 0 0 1
theorem gGrow : Gives Try.prog 47 [bx, it] growV := by
  refine GivesIf.all (fn_gives KS2 (by kernel_rfl) (fun ρ h => ctS2_ok h) (by kernel_rfl) trGrow_is trGrow_low (by decide) (fun W vals ds _ _ => ?_))
  simp only [trGrow, TT.sat_ret, TT.sat_ite, B.ev, E.ev, AL.ev, cmp_t, cmp_f, arEv, V.plain, V2.plain, S.plain, S0.plain, V.val, V2.val, S.val, S0.val, List.all_cons, List.all_nil, Bool.and_self, envOf_i, List.map_cons, List.map_nil, true_and, Bool.not_eq_true', Bool.not_eq_false', cmpP, K2_30, K2_31, span_two, box_four, cmpP]
  refine ⟨fun h1 => ?_, fun h1 => ⟨fun h2 => ?_, fun h2 => ⟨fun h3 => ?_, fun h3 => ?_⟩⟩⟩
  · simp [growV, h1, boxE]
  · rw [growV, if_neg (by omega)]; rfl
  · rw [growV, if_neg (by omega)]; rfl
  · have h4 := h1
    rw [boxB_t] at h4
    rw [wrap_in _ (by omega) (by omega), wrap_in _ (by omega) (by omega), wrap_in _ (by omega) (by omega), wrap_in _ (by omega) (by omega)]
    rw [growV, if_pos ⟨h1, by omega, by omega⟩]
    refine ⟨fun h5 => ?_, fun h5 => ?_⟩
    · rw [h5]; rfl
    · rw [h5]; rfl
end Go.Proofs.Ytinfmmofcadjgaa
