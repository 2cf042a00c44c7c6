/- Chapter 38: what package plane's functions answer. -/
import Derived.Test.YtinfmmofcadjgaaTCc
set_option linter.unusedSimpArgs false
set_option linter.unusedVariables false
namespace Go.Proofs.Ytinfmmofcadjgaa
open Go.RowKit

theorem I1fb3 (W : World) (ds l : List D) : (envOf I1 W ds).fb 3 l = placeL l := rfl
theorem I1fb1 (W : World) (ds l : List D) : (envOf I1 W ds).fb 1 l = six6 l := rfl
theorem I1fb2 (W : World) (ds l : List D) : (envOf I1 W ds).fb 2 l = nearL l := rfl
theorem I1fi0 (W : World) (ds l : List D) : (envOf I1 W ds).fi 0 l = turnL l := rfl
theorem iAt0 (a : D) (l : List D) : iAt (a :: l) 0 = a.int := rfl
theorem iAtS (a : D) (l : List D) (k : Nat) : iAt (a :: l) (k + 1) = iAt l k := rfl
theorem placeL_two (a b : Int) : placeL [.i a, .i b] = placeB a b := rfl
theorem six_six (a b c d e f : Int) : six6 [.i a, .i b, .i c, .i d, .i e, .i f] = (placeB a b && placeB c d && placeB e f) := rfl
theorem turn_six (a b c d e f : Int) : turnL [.i a, .i b, .i c, .i d, .i e, .i f] = turnI a b c d e f := rfl
theorem near_sev (a b c d e f r : Int) : nearL [.i a, .i b, .i c, .i d, .i e, .i f, .i r] = nearB a b c d e f r := rfl

/-- plane.Turn: the turn, and the error. -/
def turnV (ds : List D) : Value := if six6 ds then .tuple #[.int .i64 (turnL ds), .int .i64 0] else .tuple #[.int .i64 0, .int .i64 1]
theorem gTurn : Gives Try.prog 83 [pt, pt, pt] turnV := by
  refine GivesIf.all (fn_gives I1 (by kernel_rfl) (fun ρ h => ct1_ok h) (by kernel_rfl) trTurn_is trTurn_low (by decide) (fun W vals ds _ _ => ?_))
  simp only [trTurn, TT.sat_ret, TT.sat_ite, TT.sat_ob, Ob.ok, B.ev, E.ev, AL.ev, V.plain, V2.plain, S.plain, S0.plain, V.val, V2.val, S.val, S0.val, List.all_cons, List.all_nil, Bool.and_self, envOf_i, List.map_cons, List.map_nil, true_and, Bool.not_eq_true', Bool.not_eq_false', Bool.and_eq_true, I1fb3, I1fb1, I1fi0, placeL_two, six_six, turn_six]
  simp only [turnV, six6, turnL]
  refine ⟨fun h => ?_, fun h => ⟨fun h' => ?_, fun h' => ⟨fun h'' => ?_, fun h'' => ?_⟩⟩⟩ <;> simp [*]
/-- Does a place lie on a segment? -/
def onB (px py ax ay bx by' : Int) : Bool := decide (turnI ax ay bx by' px py = 0 ∧ min ax bx ≤ px ∧ px ≤ max ax bx ∧ min ay by' ≤ py ∧ py ≤ max ay by')
def onL (ds : List D) : Bool := onB (iAt ds 0) (iAt ds 1) (iAt ds 2) (iAt ds 3) (iAt ds 4) (iAt ds 5)
theorem gOn0 : GivesIf Try.prog 68 [pt, pt, pt] (fun ds => six6 ds = true) (fun ds => .bool (onL ds)) := by
  refine fn_gives I1 (by kernel_rfl) (fun ρ h => ct1_ok h) (by kernel_rfl) trOn0_is trOn0_low (by decide) (fun W vals ds _ hok => ?_)
  simp only [six6, Bool.and_eq_true] at hok
  simp only [trOn0, TT.sat_ret, TT.sat_ite, TT.sat_ob, Ob.ok, B.ev, E.ev, AL.ev, cmp_t, cmp_f, V.plain, V2.plain, S.plain, S0.plain, V.val, V2.val, S.val, S0.val, envOf_i, true_and, Bool.and_eq_true, cmpP, I1fb3, I1fb1, I1fi0, six_six, turn_six]
  simp only [onL, onB, hok, and_self, Value.bool.injEq, true_and]
  refine ⟨fun h => ⟨fun h1 => ⟨fun h2 => ⟨fun h3 => ?_, fun h3 => ?_⟩, fun h2 => ?_⟩, fun h1 => ?_⟩, fun h => ?_⟩
  all_goals first
    | (rw [Bool.eq_iff_iff, cmp_t]; simp only [cmpP, decide_eq_true_eq]; omega)
    | (rw [Bool.eq_iff_iff]; simp only [decide_eq_true_eq, Bool.false_eq_true, false_iff]; omega)
def errV (ok : Bool) (b : Bool) : Value := .tuple #[.bool (ok && b), .int .i64 (if ok then 0 else 1)]
def distB (d : Int) : Bool := decide (0 ≤ d ∧ d ≤ 3000000)
def nearV (ds : List D) : Value := errV (six6 ds && distB (iAt ds 6)) (nearL ds)
theorem gNear : Gives Try.prog 37 [pt, pt, pt, it] nearV := by
  refine GivesIf.all (fn_gives I1 (by kernel_rfl) (fun ρ h => ct1_ok h) (by kernel_rfl) trNear_is trNear_low (by decide) (fun W vals ds _ _ => ?_))
  simp only [trNear, TT.sat_ret, TT.sat_ite, TT.sat_ob, Ob.ok, B.ev, E.ev, AL.ev, cmp_t, cmp_f, V.plain, V2.plain, S.plain, S0.plain, V.val, V2.val, S.val, S0.val, List.all_cons, List.all_nil, Bool.and_self, envOf_i, List.map_cons, List.map_nil, true_and, Bool.not_eq_true', Bool.not_eq_false', Bool.and_eq_true, cmpP, I1fb3, I1fb1, I1fb2, placeL_two, six_six, near_sev]
  simp only [nearV, errV, six6, nearL, distB]
  refine ⟨fun h => ?_, fun h => ⟨fun h' => ?_, fun h' => ⟨fun h'' => ?_, fun h'' => ⟨fun h1 => ⟨fun h2 => ?_, fun h2 => ⟨?_, ?_, ?_, ?_⟩⟩, fun h1 => ?_⟩⟩⟩⟩
  all_goals first | omega | (simp [*]; done) | (simp [*]; omega)
end Go.Proofs.Ytinfmmofcadjgaa
