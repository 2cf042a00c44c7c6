/- Chapter 38: contracts of package plane's exported functions. -/
import Derived.Test.YtinfmmofcadjgaaCd
set_option linter.unusedSimpArgs false
set_option linter.unusedVariables false
namespace Go.Proofs.Ytinfmmofcadjgaa
open Go.RowKit

def distIL (ds : List D) : Int := if four4 ds then distLo (iAt ds 0) (iAt ds 1) (iAt ds 2) (iAt ds 3) else 0
def distIH (ds : List D) : Int := if four4 ds then distHi (iAt ds 0) (iAt ds 1) (iAt ds 2) (iAt ds 3) else 0
def distIE (ds : List D) : Int := if four4 ds then 0 else 1
/-- Symbols: fb 3 a valid place; fi 10, 11, 12 Dist. -/
def I2 : Interp := { fi := fun n l => match n with | 10 => distIL l | 11 => distIH l | 12 => distIE l | _ => 0, fb := fun n l => match n with | 3 => placeL l | _ => false, fd := fun _ _ => [] }
def sI (s : Nat) (al : AL) : S := .z (.int .i64 (.fn s al))
def sB (s : Nat) (al : AL) : S := .z (.bool (.fn s al))
def cDist := ctD [pt, pt] fun al => .ret (.tup [.agg [sI 10 al, sI 11 al], .one (sI 12 al)])
theorem cDist_ok {ρ : Env} (h0 : ∀ l, ρ.fi 10 l = distIL l) (h1 : ∀ l, ρ.fi 11 l = distIH l) (h2 : ∀ l, ρ.fi 12 l = distIE l) : CtOne Try.prog ρ 51 cDist :=
  ctD_ok gDist (fun _ => rfl) (fun al => by simp only [V.val, V2.val, S.val, S0.val, sI, List.map_cons, List.map_nil, E.ev, h0, h1, h2]; rfl)
def ct2 : Ct := [(38, cPlace), (51, cDist)]
theorem ct2_ok {ρ : Env} (h : ρ.has I2) : CtOk Try.prog ρ ct2 :=
  .cons (cPlace_ok (fun l => by rw [h.2.1]; rfl)) <| .cons (cDist_ok (fun l => by rw [h.1]; rfl) (fun l => by rw [h.1]; rfl) (fun l => by rw [h.1]; rfl)) .nil
def legK : List CK := [.int .i64, .int .i64, .int .i64, .int .i64, .int .i64, .int .i64]
def psg : Sh := .agg [.int .i64, .int .i64, .int .i64, .sl legK]
end Go.Proofs.Ytinfmmofcadjgaa
