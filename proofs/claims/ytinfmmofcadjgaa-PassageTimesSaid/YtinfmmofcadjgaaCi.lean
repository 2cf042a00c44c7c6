/- Chapter 38: span.Valid. -/
import Derived.Test.YtinfmmofcadjgaaTCi
set_option linter.unusedSimpArgs false
set_option linter.unusedVariables false
namespace Go.Proofs.Ytinfmmofcadjgaa
open Go.RowKit
def spanB (a b : Int) : Bool := decide (-1000000000000 ≤ a ∧ a ≤ b ∧ b ≤ 1000000000000)
def spanL (ds : List D) : Bool := spanB (iAt ds 0) (iAt ds 1)
theorem gSpV : Gives Try.prog 70 [sp] (fun ds => .bool (spanL ds)) := by
  refine GivesIf.all (fn_gives I0 (by kernel_rfl) (fun ρ _ => CtOk.nil) (by kernel_rfl) trSpV_is trSpV_low (by decide) (fun W vals ds _ _ => ?_))
  simp only [trSpV, TT.sat_ret, TT.sat_ite, B.ev, E.ev, cmp_t, cmp_f, V.plain, V2.plain, S.plain, S0.plain, V.val, V2.val, S.val, S0.val, envOf_i, true_and, cmpP, spanL]
  refine ⟨fun h1 => ⟨fun h2 => congrArg Value.bool ?_, fun h2 => congrArg Value.bool ?_⟩, fun h1 => congrArg Value.bool ?_⟩
  all_goals (rw [Bool.eq_iff_iff]; simp only [spanB, cmp_t, cmpP, decide_eq_true_eq, Bool.false_eq_true, false_iff]; omega)
/-- The symbols of package span. -/
def KS : Interp := { fi := fun _ _ => 0, fb := fun n l => match n with | 30 => spanL l | _ => false, fd := fun _ _ => [] }
def cSpV := ctD [sp] fun al => .ret (bV (bF 30 spanL al))
theorem cSpV_ok {ρ : Env} (h : ∀ l, ρ.fb 30 l = spanL l) : CtOne Try.prog ρ 70 cSpV :=
  ctD_ok gSpV (fun _ => rfl) (fun al => by simp only [bV, V.s0, V.val, V2.val, S.val, S0.val, bF_ev h])
def ctS : Ct := [(70, cSpV)]
theorem ctS_ok {ρ : Env} (h : ρ.has KS) : CtOk Try.prog ρ ctS := .cons (cSpV_ok (fun l => by rw [h.2.1]; simp only [KS])) .nil
end Go.Proofs.Ytinfmmofcadjgaa
