/- Chapter 38: what passage.Valid answers. -/
import Derived.Test.YtinfmmofcadjgaaTCe
set_option linter.unusedSimpArgs false
set_option linter.unusedVariables false
namespace Go.Proofs.Ytinfmmofcadjgaa
open Go.RowKit

/-! A leg's numbers: 0, 1 From; 2, 3 To; 4, 5 the speed. -/
def legB (r : Rows) (i : Int) : Bool := placeB (lg r i 0) (lg r i 1) && placeB (lg r i 2) (lg r i 3) && decide (¬ (lg r i 0 = lg r i 2 ∧ lg r i 1 = lg r i 3) ∧ 1 ≤ lg r i 4 ∧ lg r i 4 ≤ lg r i 5 ∧ lg r i 5 ≤ 2000)
/-- The legs from the one with the number i on are right, and begin at a place. -/
def legsFrom (r : Rows) : Nat → Nat → Int → Int → Bool
  | 0, _, _, _ => true
  | f + 1, i, x, y => legB r i && decide (lg r i 0 = x ∧ lg r i 1 = y) && legsFrom r f (i + 1) (lg r i 2) (lg r i 3)
def timeB (t : Int) : Bool := decide (0 ≤ t ∧ t ≤ 10000000)
def psgB (lo hi off : Int) (r : Rows) : Bool := timeB lo && timeB hi && decide (lo ≤ hi ∧ 0 ≤ off ∧ off ≤ 100000 ∧ 1 ≤ r.length ∧ r.length ≤ 40) && legsFrom r r.length 0 (lg r 0 0) (lg r 0 1)
def psgL (ds : List D) : Bool := psgB (iAt ds 0) (iAt ds 1) (iAt ds 2) (rAt ds 3)
theorem I2fb3 (W : World) (ds l : List D) : (envOf I2 W ds).fb 3 l = placeL l := rfl
theorem psg_len {W : World} {vals : List Value} {ds : List D} {sh : List Sh} (h : repSh W (psg :: sh) vals ds) : (rAt ds 3).length ≤ 281474976710656 := by
  obtain ⟨v, vs', d, ds', rfl, rfl, ⟨us, rfl, h⟩, _⟩ := h
  unfold CK.reps at h
  obtain ⟨_, us1, d0, ds1, rfl, rfl, _, h⟩ := h
  unfold CK.reps at h
  obtain ⟨_, us2, d1, ds2, rfl, rfl, _, h⟩ := h
  unfold CK.reps at h
  obtain ⟨_, us3, d2, ds3, rfl, rfl, _, h⟩ := h
  unfold CK.reps at h
  obtain ⟨_, us4, d3, ds4, rfl, rfl, h, _⟩ := h
  rw [rep_sl] at h
  obtain ⟨r, rfl, a, n, c, _, hs, _⟩ := h
  have e1 := hs.len
  have e2 := hs.big
  show r.length ≤ _
  omega
theorem gPValid : Gives Try.prog 11 [psg] (fun ds => .bool (psgL ds)) := by
  refine GivesIf.all (fn_gives I2 (by kernel_rfl) (fun ρ h => ct2_ok h) (by kernel_rfl) trPValid_is trPValid_low (by decide) (fun W vals ds hr _ => ?_))
  have hlen := psg_len hr
  simp only [trPValid, TT.sat_ret, TT.sat_ite, TT.sat_ob, Ob.ok, B.ev, E.ev, X.ev, cmp_t, cmp_f, V.plain, V2.plain, S.plain, S0.plain, V.val, V2.val, S.val, S0.val, envOf_i, envOf_d, true_and, Bool.not_eq_true', Bool.not_eq_false', cmpP, I2fb3, placeL_two]
  have F : ∀ (h : psgL ds = false), Value.bool false = Value.bool (psgL ds) := fun h => by rw [h]
  refine ⟨fun h1 => ⟨fun h2 => F ?_, fun h2 => ⟨fun h3 => ⟨fun h4 => F ?_, fun h4 => ⟨fun h5 => F ?_, fun h5 => ⟨fun h6 => F ?_, fun h6 => ⟨fun h7 => F ?_, fun h7 => ⟨fun h8 => F ?_, fun h8 => ⟨fun h9 => F ?_, fun h9 => ⟨?_, ?_⟩⟩⟩⟩⟩⟩⟩, fun h3 => F ?_⟩⟩, fun h1 => F ?_⟩
  case refine_8 => omega
  case refine_9 =>
    have hT : psgL ds = legsFrom (rAt ds 3) (rAt ds 3).length 0 (lg (rAt ds 3) 0 0) (lg (rAt ds 3) 0 1) := by
      have : (timeB (iAt ds 0) && timeB (iAt ds 1) && decide (iAt ds 0 ≤ iAt ds 1 ∧ 0 ≤ iAt ds 2 ∧ iAt ds 2 ≤ 100000 ∧ 1 ≤ (rAt ds 3).length ∧ (rAt ds 3).length ≤ 40)) = true := by
        simp only [timeB, Bool.and_eq_true, decide_eq_true_eq]; omega
      simp only [psgL, psgB]
      rw [this]; rfl
    refine TT.sat_loop (fun v => ∃ i : Nat, v.i 0 = i ∧ i ≤ (rAt ds 3).length ∧ legsFrom (rAt ds 3) ((rAt ds 3).length - i) i (v.i 1) (v.i 2) = psgL ds) (fun v => (rAt ds 3).length - (v.i 0).toNat)
      ⟨0, by simp [val_i, aget, E.ev], by omega, by rw [hT]; simp [val_i, aget, E.ev, X.ev, envOf_d, cell_lg]⟩ (fun v hv => ?_)
    obtain ⟨i, i0, i1, i2⟩ := hv
    simp only [TT.sat_ret, TT.sat_ite, TT.sat_ob, TT.sat_next, put_i, put_d, put_fb, Ob.ok, B.ev, E.ev, X.ev, AL.ev, cmp_t, cmp_f, arEv, envOf_i, envOf_d, true_and, Bool.not_eq_true', Bool.not_eq_false', Bool.and_eq_true, and_f, cell_lg, cmpP, val_i, aget, Nat.reduceBEq, beq_self_eq_true, Bool.false_eq_true, if_true, if_false, Nat.reduceLT, Nat.reduceSub, Nat.sub_self, Nat.lt_irrefl, I2fb3, placeL_two, i0, legK]
    refine ⟨fun hc => ⟨by omega, by omega, ?_⟩, fun hc => ?_⟩
    · obtain ⟨f, hf⟩ : ∃ f, (rAt ds 3).length - i = f + 1 := ⟨(rAt ds 3).length - i - 1, by omega⟩
      rw [hf] at i2
      simp only [legsFrom] at i2
      have e1 : IntKind.i64.wrap ((i : Int) + 1) = ((i + 1 : Nat) : Int) := by rw [wrap_in _ (by omega) (by omega)]; rfl
      rw [e1]
      refine ⟨fun b1 => ⟨fun b2 => ⟨fun b3 => ⟨fun b4 => ⟨fun b5 => ⟨fun b6 => ?_, fun b6 => ⟨fun b7 => ?_, fun b7 => ⟨⟨i + 1, rfl, by omega, ?_⟩, by omega⟩⟩⟩, fun b5 => ?_⟩, fun b4 => ?_⟩, fun b3 => ?_⟩, fun b2 => ?_⟩, fun b1 => ?_⟩
      case refine_3 =>
        rw [show (rAt ds 3).length - (i + 1) = f by omega, ← i2]
        have : legB (rAt ds 3) i = true := by simp only [legB, b1, b2, Bool.true_and, decide_eq_true_eq]; exact ⟨b3, b4, b5, b6⟩
        rw [this, decide_eq_true b7]
        rfl
      all_goals
        refine F ?_
        rw [← i2]
        simp [legB, *]
    · have : (rAt ds 3).length - i = 0 := by omega
      rw [this] at i2
      rw [← i2]
      rfl
  all_goals (simp only [psgL, psgB, timeB, Bool.and_eq_false_imp, Bool.and_eq_true, decide_eq_true_eq, decide_eq_false_iff_not]; first | omega | (intros; omega))
end Go.Proofs.Ytinfmmofcadjgaa
