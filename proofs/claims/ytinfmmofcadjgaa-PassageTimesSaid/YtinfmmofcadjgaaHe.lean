/- Chapter 38: the law's head is true. -/
import Derived.Test.YtinfmmofcadjgaaTHd
set_option linter.unusedSimpArgs false
set_option linter.unusedVariables false
namespace Go.Proofs.Ytinfmmofcadjgaa
open Go.RowKit
theorem gHead : Gives Try.prog 10 [] (fun _ => .bool true) := by
  refine GivesIf.all (fn_gives K7 (by kernel_rfl) (fun ρ h => ct7_ok (Sees.of h 70)) (by kernel_rfl) trHead_is trHead_low (by decide) (fun W vals ds hr _ => ?_))
  simp only [trHead, TT.sat_ret, B.ev, V.plain, V2.plain, S.plain, S0.plain, V.val, V2.val, S.val, S0.val, true_and]
def cHead := ctD [] fun _ => .ret (bV (.lit true))
theorem cHead_ok {ρ : Env} : CtOne Try.prog ρ 10 cHead :=
  ctD_ok gHead (fun _ => rfl) (fun _ => rfl)
def ctL : Ct := (10, cHead) :: ct7
theorem ctL_ok {ρ : Env} (h : Sees ρ K7 70) : CtOk Try.prog ρ ctL := .cons cHead_ok (ct7_ok h)
section
variable (W : World) (ds l : List D)
theorem K7i21 : (envOf K7 W ds).fi 21 l = arrL l := by simp only [envOf, K7, K6, K5, K]
theorem K7i22 : (envOf K7 W ds).fi 22 l = arrH l := by simp only [envOf, K7, K6, K5, K]
theorem K7i23 : (envOf K7 W ds).fi 23 l = arrE l := by simp only [envOf, K7, K6, K5, K]
theorem K7i24 : (envOf K7 W ds).fi 24 l = durL l := by simp only [envOf, K7, K6, K5, K]
theorem K7i25 : (envOf K7 W ds).fi 25 l = durH l := by simp only [envOf, K7, K6, K5, K]
theorem K7i26 : (envOf K7 W ds).fi 26 l = durE l := by simp only [envOf, K7, K6, K5, K]
theorem K7i27 : (envOf K7 W ds).fi 27 l = restK l := by simp only [envOf, K7, K6, K5, K]
theorem K7i28 : (envOf K7 W ds).fi 28 l = restE l := by simp only [envOf, K7, K6, K5, K]
theorem K7b20 : (envOf K7 W ds).fb 20 l = psgL l := by simp only [envOf, K7, K6, K5, K]
end
/-- A passage and a number. -/
def pk (a b c : Int) (r : Rows) (k : Int) : List D := [.i a, .i b, .i c, .l r, .i k]
theorem pk_eq (a b c : Int) (r : Rows) (k : Int) : [D.i a, .i b, .i c, .l r, .i k] = pk a b c r k := rfl
end Go.Proofs.Ytinfmmofcadjgaa
