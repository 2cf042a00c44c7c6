/- Chapter 38: contracts of package plane's inner functions. -/
import Derived.Test.YtinfmmofcadjgaaCb
set_option linter.unusedSimpArgs false
set_option linter.unusedVariables false
namespace Go.Proofs.Ytinfmmofcadjgaa
open Go.RowKit

def six6 (ds : List D) : Bool := placeB (iAt ds 0) (iAt ds 1) && placeB (iAt ds 2) (iAt ds 3) && placeB (iAt ds 4) (iAt ds 5)
def turnL (ds : List D) : Int := turnI (iAt ds 0) (iAt ds 1) (iAt ds 2) (iAt ds 3) (iAt ds 4) (iAt ds 5)
def nearL (ds : List D) : Bool := nearB (iAt ds 0) (iAt ds 1) (iAt ds 2) (iAt ds 3) (iAt ds 4) (iAt ds 5) (iAt ds 6)
def placeL (ds : List D) : Bool := placeB (iAt ds 0) (iAt ds 1)
/-- Symbols: fb 0 most, fb 1 three valid places, fb 2 near, fb 3 a valid place; fi 0 turn. -/
def I1 : Interp := { fi := fun n l => match n with | 0 => turnL l | _ => 0, fb := fun n l => match n with | 0 => mostB l | 1 => six6 l | 2 => nearL l | 3 => placeL l | _ => false, fd := fun _ _ => [] }
def oTurn0 (al : AL) : T V := .ob (.tru (.fn 1 al)) (.ret (iV .i64 (.fn 0 al)))
def oNear0 (al : AL) : T V := match al with
  | .i a (.i b (.i c (.i d (.i e (.i f (.i r .nil)))))) => T.obs [.tru (.fn 1 (.i a (.i b (.i c (.i d (.i e (.i f .nil))))))), .tru (.cmpS .leq (.lit 0) r), .tru (.cmpS .leq r (.lit 3000000))] (.ret (bV (.fn 2 al)))
  | _ => .stuck "near"
def cTurn0 := ctD [pt, pt, pt] oTurn0
def cNear0 := ctD [pt, pt, pt, it] oNear0
def cPlace := ctD [pt] fun al => .ret (bV (.fn 3 al))
theorem placeB_iff {x y : Int} : placeB x y = true ↔ (-1000000 ≤ x ∧ x ≤ 1000000) ∧ -1000000 ≤ y ∧ y ≤ 1000000 := by simp only [placeB, decide_eq_true_eq]; omega
theorem six_of {ds : List D} (h : six6 ds = true) : six ds := by
  simp only [six6, Bool.and_eq_true, placeB_iff] at h
  exact ⟨h.1.1.1, h.1.1.2, h.1.2.1, h.1.2.2, h.2.1, h.2.2⟩
theorem cTurn0_ok {ρ : Env} (h1 : ∀ l, ρ.fb 1 l = six6 l) (h0 : ∀ l, ρ.fi 0 l = turnL l) : CtOne Try.prog ρ 88 cTurn0 := by
  refine ctD_if gTurn0 (fun al v hv => ?_)
  obtain ⟨ho, hv⟩ := hv
  obtain rfl := res_ret hv
  have ho : ρ.fb 1 (al.ev ρ) = true := by simpa only [Ob.ok, B.ev] using ho
  rw [h1] at ho
  refine ⟨rfl, six_of ho, ?_⟩
  simp only [iV, V.s0, V.val, V2.val, S.val, S0.val, E.ev, h0, turnL]
theorem cNear0_ok {ρ : Env} (h1 : ∀ l, ρ.fb 1 l = six6 l) (h2 : ∀ l, ρ.fb 2 l = nearL l) : CtOne Try.prog ρ 56 cNear0 := by
  refine ctD_if gNear0 (fun al v hv => ?_)
  unfold oNear0 at hv
  split at hv
  · rename_i a b c d e f r
    obtain ⟨ho, hv⟩ := T.res_obs hv
    obtain rfl := res_ret hv
    have o1 := ho _ (List.mem_cons_self ..)
    have o2 := ho _ (List.mem_cons_of_mem _ (List.mem_cons_self ..))
    have o3 := ho _ (List.mem_cons_of_mem _ (List.mem_cons_of_mem _ (List.mem_cons_self ..)))
    simp only [Ob.ok, B.cmpS_ev, cmp_t, cmpP, E.ev, B.ev, AL.ev, h1] at o1 o2 o3
    have q1 := six_of o1
    refine ⟨rfl, ⟨?_, ?_, ?_⟩, ?_⟩
    · simpa [six, iAt, AL.ev] using q1
    · simpa [iAt, AL.ev, D.int] using o2
    · simpa [iAt, AL.ev, D.int] using o3
    · simp only [bV, V.s0, V.val, V2.val, S.val, S0.val, B.ev, h2]
      rfl
  · exact hv.elim
theorem cPlace_ok {ρ : Env} (h : ∀ l, ρ.fb 3 l = placeL l) : CtOne Try.prog ρ 38 cPlace :=
  ctD_ok gValid (fun _ => rfl) (fun al => by simp only [bV, V.s0, V.val, V2.val, S.val, S0.val, B.ev, h, placeL])
def ct1 : Ct := [(79, cMost), (88, cTurn0), (56, cNear0), (38, cPlace)]
def lt1 : Lt := [(54, 0), (77, 0)]
theorem ct1_ok {ρ : Env} (h : ρ.has I1) : CtOk Try.prog ρ ct1 :=
  .cons (cMost_ok (fun l => by rw [h.2.1]; rfl)) <| .cons (cTurn0_ok (fun l => by rw [h.2.1]; rfl) (fun l => by rw [h.1]; rfl)) <| .cons (cNear0_ok (fun l => by rw [h.2.1]; rfl) (fun l => by rw [h.2.1]; rfl)) <| .cons (cPlace_ok (fun l => by rw [h.2.1]; rfl)) .nil
end Go.Proofs.Ytinfmmofcadjgaa
