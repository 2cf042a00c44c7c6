/- Chapter 38: span.ValidBox. -/
import Derived.Test.YtinfmmofcadjgaaTCj
set_option linter.unusedSimpArgs false
set_option linter.unusedVariables false
namespace Go.Proofs.Ytinfmmofcadjgaa
open Go.RowKit
def boxB (a b c d : Int) : Bool := decide ((-1000000 ≤ a ∧ a ≤ b ∧ b ≤ 1000000) ∧ -1000000 ≤ c ∧ c ≤ d ∧ d ≤ 1000000)
def boxL (ds : List D) : Bool := boxB (iAt ds 0) (iAt ds 1) (iAt ds 2) (iAt ds 3)
theorem KS30 (W : World) (ds l : List D) : (envOf KS W ds).fb 30 l = spanL l := by simp only [envOf, KS]
theorem span_two (a b : Int) : spanL [.i a, .i b] = spanB a b := rfl
theorem spanB_t (a b : Int) : (spanB a b = true) = (-1000000000000 ≤ a ∧ a ≤ b ∧ b ≤ 1000000000000) := by simp [spanB]
theorem spanB_f (a b : Int) : (spanB a b = false) = ¬ (-1000000000000 ≤ a ∧ a ≤ b ∧ b ≤ 1000000000000) := by simp [spanB]
theorem gBoxV : Gives Try.prog 42 [bx] (fun ds => .bool (boxL ds)) := by
  refine GivesIf.all (fn_gives KS (by kernel_rfl) (fun ρ h => ctS_ok h) (by kernel_rfl) trBoxV_is trBoxV_low (by decide) (fun W vals ds _ _ => ?_))
  simp only [trBoxV, TT.sat_ret, TT.sat_ite, B.ev, E.ev, AL.ev, cmp_t, V.plain, V2.plain, S.plain, S0.plain, V.val, V2.val, S.val, S0.val, envOf_i, true_and, Bool.not_eq_true', Bool.not_eq_false', Bool.and_eq_true, and_f, cmpP, KS30, span_two, boxL, spanB_t, spanB_f]
  repeat' first
    | refine And.intro ?_ ?_
    | (intro h; skip)
  all_goals
    refine congrArg Value.bool ?_
    rw [Bool.eq_iff_iff]
    simp only [boxB, cmp_t, cmpP, decide_eq_true_eq, Bool.false_eq_true, false_iff, Bool.and_eq_true]
    omega
/-- The symbols of package span. -/
def KS2 : Interp := { fi := fun _ _ => 0, fb := fun n l => match n with | 30 => spanL l | 31 => boxL l | _ => false, fd := fun _ _ => [] }
def cBoxV := ctD [bx] fun al => .ret (bV (bF 31 boxL al))
theorem cBoxV_ok {ρ : Env} (h : ∀ l, ρ.fb 31 l = boxL l) : CtOne Try.prog ρ 42 cBoxV :=
  ctD_ok gBoxV (fun _ => rfl) (fun al => by simp only [bV, V.s0, V.val, V2.val, S.val, S0.val, bF_ev h])
def ctS2 : Ct := [(70, cSpV), (42, cBoxV)]
theorem ctS2_ok {ρ : Env} (h : ρ.has KS2) : CtOk Try.prog ρ ctS2 := .cons (cSpV_ok (fun l => by rw [h.2.1]; simp only [KS2])) <| .cons (cBoxV_ok (fun l => by rw [h.2.1]; simp only [KS2])) .nil
end Go.Proofs.Ytinfmmofcadjgaa
