/- Chapter 38: the law's head is true. -/
import Derived.Test.YtinfmmofcadjgaaTHd
namespace Go.Proofs.Ytinfmmofcadjgaa
open Go.RowKit
theorem gHead : Gives Try.prog 10 [] (fun _ => .bool true) := by
  refine GivesIf.all (fn_gives K7 (by kernel_rfl) (fun ρ h => ct7_ok (Sees.of h 70)) (by kernel_rfl) trHead_is trHead_low (by decide) (fun W vals ds hr _ => ?_))
  simp only [trHead, TT.sat_ret, B.ev, V.plain, V2.plain, S.plain, S0.plain, V.val, V2.val, S.val, S0.val, true_and]
def cHead := ctD [] fun _ => .ret (bV (.lit true))
theorem cHead_ok {ρ : Env} : CtOne Try.prog ρ 10 cHead :=
  ctD_ok gHead (fun _ => rfl) (fun _ => rfl)
def ctL : Ct := (10, cHead) :: ct7
theorem ctL_ok {ρ : Env} (h : Sees ρ K7 70) : CtOk Try.prog ρ ctL := .cons cHead_ok (ct7_ok h)
end Go.Proofs.Ytinfmmofcadjgaa
