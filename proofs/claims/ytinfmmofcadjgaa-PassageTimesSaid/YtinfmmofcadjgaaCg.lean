/- Chapter 38: what plane.meet computes; contracts for the exported functions of package plane. -/
import Derived.Test.YtinfmmofcadjgaaTCg
set_option linter.unusedSimpArgs false
set_option linter.unusedVariables false
namespace Go.Proofs.Ytinfmmofcadjgaa
open Go.RowKit

/-- Do two segments have a common point? -/
def meetB (ax ay bx by' cx cy dx dy : Int) : Bool :=
  decide (turnI ax ay bx by' cx cy * turnI ax ay bx by' dx dy < 0 ∧ turnI cx cy dx dy ax ay * turnI cx cy dx dy bx by' < 0) ||
  (onB ax ay cx cy dx dy || (onB bx by' cx cy dx dy || (onB cx cy ax ay bx by' || onB dx dy ax ay bx by')))
def meetL (ds : List D) : Bool := meetB (iAt ds 0) (iAt ds 1) (iAt ds 2) (iAt ds 3) (iAt ds 4) (iAt ds 5) (iAt ds 6) (iAt ds 7)
def eight (ds : List D) : Bool := placeB (iAt ds 0) (iAt ds 1) && (placeB (iAt ds 2) (iAt ds 3) && (placeB (iAt ds 4) (iAt ds 5) && placeB (iAt ds 6) (iAt ds 7)))
theorem sgn_le (n : Int) : -1 ≤ sgn n ∧ sgn n ≤ 1 := by unfold sgn; split <;> (try split) <;> omega
theorem on_six (a b c d e f : Int) : onL [.i a, .i b, .i c, .i d, .i e, .i f] = onB a b c d e f := rfl
theorem iniI_1 (W : World) (ds l : List D) : (envOf iniI W ds).fb 1 l = six6 l := rfl
theorem iniI_4 (W : World) (ds l : List D) : (envOf iniI W ds).fb 4 l = onL l := rfl
theorem iniI_0 (W : World) (ds l : List D) : (envOf iniI W ds).fi 0 l = turnL l := rfl
theorem w_sgn (a b : Int) : IntKind.i64.wrap (sgn a * sgn b) = sgn a * sgn b := by
  have h1 := sgn_le a
  have h2 := sgn_le b
  have := mul_abs (a := sgn a) (b := sgn b) (A := 1) (B := 1) (by omega) (by omega) (by omega) (by omega)
  exact wrap_in _ (by omega) (by omega)
theorem w_turn (a b c d e f a' b' c' d' e' f' : Int) : IntKind.i64.wrap (turnI a b c d e f * turnI a' b' c' d' e' f') = turnI a b c d e f * turnI a' b' c' d' e' f' := w_sgn _ _
theorem gMeet0 : GivesIf Try.prog 76 [pt, pt, pt, pt] (fun ds => eight ds = true) (fun ds => .bool (meetL ds)) := by
  refine fn_gives iniI (by kernel_rfl) (fun ρ h => ctM_ok h) (by kernel_rfl) trMeet0_is trMeet0_low (by decide) (fun W vals ds _ hok => ?_)
  simp only [eight, Bool.and_eq_true] at hok
  obtain ⟨p1, p2, p3, p4⟩ := hok
  simp only [trMeet0, TT.sat_ret, TT.sat_ite, TT.sat_ob, Ob.ok, B.ev, E.ev, AL.ev, cmp_t, cmp_f, arEv, V.plain, V2.plain, S.plain, S0.plain, V.val, V2.val, S.val, S0.val, envOf_i, true_and, Bool.and_eq_true, cmpP, iniI_1, iniI_4, iniI_0, six_six, turn_six, on_six]
  simp only [p1, p2, p3, p4, and_self, true_and, w_turn]
  simp only [meetL, meetB]
  generalize onB (iAt ds 0) (iAt ds 1) (iAt ds 4) (iAt ds 5) (iAt ds 6) (iAt ds 7) = o1
  generalize onB (iAt ds 2) (iAt ds 3) (iAt ds 4) (iAt ds 5) (iAt ds 6) (iAt ds 7) = o2
  generalize onB (iAt ds 4) (iAt ds 5) (iAt ds 0) (iAt ds 1) (iAt ds 2) (iAt ds 3) = o3
  generalize onB (iAt ds 6) (iAt ds 7) (iAt ds 0) (iAt ds 1) (iAt ds 2) (iAt ds 3) = o4
  refine ⟨fun h => ⟨fun h' => ?_, fun h' => ?_⟩, fun h => ?_⟩
  · rw [decide_eq_true ⟨h, h'⟩]; rfl
  · rw [decide_eq_false (fun q => h' q.2)]
    cases o1 <;> cases o2 <;> cases o3 <;> cases o4 <;> simp
  · rw [decide_eq_false (fun q => h q.1)]
    cases o1 <;> cases o2 <;> cases o3 <;> cases o4 <;> simp

/-! ### Contracts for plane.Close -/
def I4 : Interp := { fi := fun _ _ => 0, fb := fun n l => match n with | 1 => six6 l | 2 => nearL l | 3 => placeL l | 5 => eight l | 6 => meetL l | _ => false, fd := fun _ _ => [] }
def cMeet1 := ctD [pt, pt, pt, pt] fun al => .ob (.tru (bF 5 eight al)) (.ret (bV (bF 6 meetL al)))
def cPlace1 := ctD [pt] fun al => .ret (bV (bF 3 placeL al))
def oNear1 (al : AL) : T V := match al with
  | .i a (.i b (.i c (.i d (.i e (.i f (.i r .nil)))))) => T.obs [.tru (bF 1 six6 (.i a (.i b (.i c (.i d (.i e (.i f .nil))))))), .tru (.cmpS .leq (.lit 0) r), .tru (.cmpS .leq r (.lit 3000000))] (.ret (bV (bF 2 nearL al)))
  | _ => .stuck "near"
def cNear1 := ctD [pt, pt, pt, it] oNear1
theorem cMeet1_ok {ρ : Env} (h5 : ∀ l, ρ.fb 5 l = eight l) (h6 : ∀ l, ρ.fb 6 l = meetL l) : CtOne Try.prog ρ 76 cMeet1 := by
  refine ctD_if gMeet0 (fun al v hv => ?_)
  obtain ⟨ho, hv⟩ := hv
  obtain rfl := res_ret hv
  have ho : (bF 5 eight al).ev ρ = true := ho
  rw [bF_ev h5] at ho
  refine ⟨rfl, ho, ?_⟩
  simp only [bV, V.s0, V.val, V2.val, S.val, S0.val, bF_ev h6]
theorem cPlace1_ok {ρ : Env} (h : ∀ l, ρ.fb 3 l = placeL l) : CtOne Try.prog ρ 38 cPlace1 :=
  ctD_ok gValid (fun _ => rfl) (fun al => by simp only [bV, V.s0, V.val, V2.val, S.val, S0.val, bF_ev h, placeL])
theorem cNear1_ok {ρ : Env} (h1 : ∀ l, ρ.fb 1 l = six6 l) (h2 : ∀ l, ρ.fb 2 l = nearL l) : CtOne Try.prog ρ 56 cNear1 := by
  refine ctD_if gNear0 (fun al v hv => ?_)
  unfold oNear1 at hv
  split at hv
  · rename_i a b c d e f r
    obtain ⟨ho, hv⟩ := T.res_obs hv
    obtain rfl := res_ret hv
    have o1 := ho _ (List.mem_cons_self ..)
    have o2 := ho _ (List.mem_cons_of_mem _ (List.mem_cons_self ..))
    have o3 := ho _ (List.mem_cons_of_mem _ (List.mem_cons_of_mem _ (List.mem_cons_self ..)))
    simp only [Ob.ok, B.cmpS_ev, cmp_t, cmpP, E.ev, bF_ev h1, AL.ev] at o1 o2 o3
    have q1 := six_of o1
    refine ⟨rfl, ⟨?_, ?_, ?_⟩, ?_⟩
    · simpa [six, iAt, AL.ev] using q1
    · simpa [iAt, AL.ev, D.int] using o2
    · simpa [iAt, AL.ev, D.int] using o3
    · simp only [bV, V.s0, V.val, V2.val, S.val, S0.val, bF_ev h2]
      rfl
  · exact hv.elim
def ct4 : Ct := [(38, cPlace1), (76, cMeet1), (56, cNear1)]
theorem ct4_ok {ρ : Env} (h : ρ.has I4) : CtOk Try.prog ρ ct4 :=
  .cons (cPlace1_ok (fun l => by rw [h.2.1]; rfl)) <| .cons (cMeet1_ok (fun l => by rw [h.2.1]; rfl) (fun l => by rw [h.2.1]; rfl)) <| .cons (cNear1_ok (fun l => by rw [h.2.1]; rfl) (fun l => by rw [h.2.1]; rfl)) .nil
end Go.Proofs.Ytinfmmofcadjgaa
