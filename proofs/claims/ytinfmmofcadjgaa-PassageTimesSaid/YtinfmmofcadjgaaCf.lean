/- Chapter 38: what passage.Arrives, During and Rest answer. -/
import Derived.Test.YtinfmmofcadjgaaTCf
set_option linter.unusedSimpArgs false
set_option linter.unusedVariables false
namespace Go.Proofs.Ytinfmmofcadjgaa
open Go.RowKit

theorem I3fb20 (W : World) (ds l : List D) : (envOf I3 W ds).fb 20 l = psgL l := rfl
theorem I3fi10 (W : World) (ds l : List D) : (envOf I3 W ds).fi 10 l = distIL l := rfl
theorem I3fi11 (W : World) (ds l : List D) : (envOf I3 W ds).fi 11 l = distIH l := rfl
theorem psgL_four (a b c : Int) (r : Rows) : psgL [.i a, .i b, .i c, .l r] = psgB a b c r := rfl
theorem dl_eq (r : Rows) (i : Int) : [D.i (lg r i 0), D.i (lg r i 1), D.i (lg r i 2), D.i (lg r i 3)] = dl r i := rfl
theorem legLo_eq (r : Rows) (i : Int) : (distIL (dl r i)).tdiv (lg r i 5) = legLo r i := rfl
theorem legHi_eq (r : Rows) (i : Int) : (distIH (dl r i) + lg r i 4 - 1).tdiv (lg r i 4) = legHi r i := rfl
/-- The wraps of a leg's times. -/
theorem leg_wraps {r : Rows} {i : Int} (h : legB r i = true) : IntKind.i64.wrap (legLo r i) = legLo r i ∧ IntKind.i64.wrap (distIH (dl r i) + lg r i 4) = distIH (dl r i) + lg r i 4 ∧ IntKind.i64.wrap (distIH (dl r i) + lg r i 4 - 1) = distIH (dl r i) + lg r i 4 - 1 ∧ IntKind.i64.wrap (legHi r i) = legHi r i := by
  have h1 := leg_le h
  rw [legB_iff] at h
  exact ⟨wrap_in _ (by omega) (by omega), wrap_in _ (by omega) (by omega), wrap_in _ (by omega) (by omega), wrap_in _ (by omega) (by omega)⟩
def spanE (lo hi e : Int) : Value := .tuple #[.agg #[.int .i64 lo, .int .i64 hi], .int .i64 e]
/-- A span of times, if it is in range. -/
def inV (lo hi : Int) : Value := if 10000000 < hi then spanE 0 0 3 else spanE lo hi 0
def arrV (ds : List D) : Value := if psgB (iAt ds 0) (iAt ds 1) (iAt ds 2) (rAt ds 3) ∧ 0 ≤ iAt ds 4 ∧ iAt ds 4 ≤ (rAt ds 3).length then inV (tLo (rAt ds 3) (iAt ds 0) (iAt ds 4).toNat) (tHi (rAt ds 3) (iAt ds 1) (iAt ds 4).toNat) else spanE 0 0 1
def durV (ds : List D) : Value := if psgB (iAt ds 0) (iAt ds 1) (iAt ds 2) (rAt ds 3) ∧ 0 ≤ iAt ds 4 ∧ iAt ds 4 < (rAt ds 3).length then inV (tLo (rAt ds 3) (iAt ds 0) (iAt ds 4).toNat) (tHi (rAt ds 3) (iAt ds 1) ((iAt ds 4).toNat + 1)) else spanE 0 0 1
theorem gArr : Gives Try.prog 12 [psg, it] arrV := by
  refine GivesIf.all (fn_gives I3 (by kernel_rfl) (fun ρ h => ct3_ok h) (by kernel_rfl) trArr_is trArr_low (by decide) (fun W vals ds hr _ => ?_))
  simp only [trArr, TT.sat_ret, TT.sat_ite, B.ev, E.ev, X.ev, AL.ev, cmp_t, cmp_f, V.plain, V2.plain, S.plain, S0.plain, V.val, V2.val, S.val, S0.val, List.all_cons, List.all_nil, Bool.and_self, envOf_i, envOf_d, List.map_cons, List.map_nil, true_and, Bool.not_eq_true', Bool.not_eq_false', cmpP, I3fb20, psgL_four]
  refine ⟨fun h1 => ?_, fun h1 => ⟨fun h2 => ?_, fun h2 => ⟨fun h3 => ?_, fun h3 => ?_⟩⟩⟩
  · unfold arrV; rw [if_neg (by simp [h1])]; rfl
  · unfold arrV; rw [if_neg (by omega)]; rfl
  · unfold arrV; rw [if_neg (by omega)]; rfl
  · obtain ⟨p1, p2, p3, p4⟩ := psgB_iff h1
    have hV : arrV ds = inV (tLo (rAt ds 3) (iAt ds 0) (iAt ds 4).toNat) (tHi (rAt ds 3) (iAt ds 1) (iAt ds 4).toNat) := by
      unfold arrV; rw [if_pos ⟨h1, by omega, by omega⟩]
    have ht := t_le p4 p3.2.2.2.2 p1 p2
    refine TT.sat_loop (fun v => ∃ i : Nat, v.i 0 = i ∧ i ≤ (rAt ds 3).length ∧ (i : Int) ≤ iAt ds 4 ∧ v.i 1 = tLo (rAt ds 3) (iAt ds 0) i ∧ v.i 2 = tHi (rAt ds 3) (iAt ds 1) i ∧ v.i 3 = tLo (rAt ds 3) (iAt ds 0) i ∧ v.i 4 = tHi (rAt ds 3) (iAt ds 1) i) (fun v => (rAt ds 3).length - (v.i 0).toNat)
      ⟨0, by simp [val_i, aget, E.ev], by omega, by omega, by simp [val_i, aget, E.ev, tLo, envOf_i], by simp [val_i, aget, E.ev, tHi, envOf_i], by simp [val_i, aget, E.ev, tLo, envOf_i], by simp [val_i, aget, E.ev, tHi, envOf_i]⟩ (fun v hv => ?_)
    obtain ⟨i, i0, i1, i2, i3, i4, i5, i6⟩ := hv
    simp only [TT.sat_ret, TT.sat_ite, TT.sat_ob, TT.sat_next, put_i, put_d, put_fi, Ob.ok, B.ev, E.ev, X.ev, AL.ev, cmp_t, cmp_f, arEv, V2.plain, S.plain, S0.plain, V2.val, S.val, S0.val, List.all_cons, List.all_nil, Bool.and_self, envOf_i, envOf_d, List.map_cons, List.map_nil, true_and, cell_lg, cmpP, val_i, aget, Nat.reduceBEq, beq_self_eq_true, Bool.false_eq_true, if_true, if_false, Nat.reduceLT, Nat.reduceSub, Nat.sub_self, Nat.lt_irrefl, I3fi10, I3fi11, i0, i3, i4, i5, i6, dl_eq, legLo_eq, legHi_eq]
    refine ⟨fun hc => ⟨by omega, by omega, ?_⟩, fun hc => ?_⟩
    · have hl := p4 i (by omega)
      have hq := legB_iff.1 hl
      have hle := leg_le hl
      have hti := ht i i1
      obtain ⟨w1, w2, w3, w4⟩ := leg_wraps hl
      rw [wrap_in ((i : Int) + 1) (by omega) (by omega), w1, w2, w3, legHi_eq, w4, wrap_in (tLo _ _ i + legLo _ _) (by omega) (by omega), wrap_in (tHi _ _ i + legHi _ _) (by omega) (by omega)]
      refine ⟨by omega, by omega, fun he => ?_, fun he => ⟨⟨i + 1, by omega, by omega, by omega, rfl, rfl, rfl, rfl⟩, by omega⟩⟩
      rw [hV, ← he, Int.toNat_natCast]
      unfold inV
      exact ⟨fun q => by rw [if_pos q]; rfl, fun q => by rw [if_neg q]; rfl⟩
    · have he : (i : Int) = iAt ds 4 := by omega
      rw [hV, ← he, Int.toNat_natCast]
      unfold inV
      exact ⟨fun q => by rw [if_pos q]; rfl, fun q => by rw [if_neg q]; rfl⟩
theorem gDur : Gives Try.prog 14 [psg, it] durV := by
  refine GivesIf.all (fn_gives I3 (by kernel_rfl) (fun ρ h => ct3_ok h) (by kernel_rfl) trDur_is trDur_low (by decide) (fun W vals ds hr _ => ?_))
  simp only [trDur, TT.sat_ret, TT.sat_ite, B.ev, E.ev, X.ev, AL.ev, cmp_t, cmp_f, V.plain, V2.plain, S.plain, S0.plain, V.val, V2.val, S.val, S0.val, List.all_cons, List.all_nil, Bool.and_self, envOf_i, envOf_d, List.map_cons, List.map_nil, true_and, Bool.not_eq_true', Bool.not_eq_false', cmpP, I3fb20, psgL_four]
  refine ⟨fun h1 => ?_, fun h1 => ⟨fun h2 => ?_, fun h2 => ⟨fun h3 => ?_, fun h3 => ?_⟩⟩⟩
  · unfold durV; rw [if_neg (by simp [h1])]; rfl
  · unfold durV; rw [if_neg (by omega)]; rfl
  · unfold durV; rw [if_neg (by omega)]; rfl
  · obtain ⟨p1, p2, p3, p4⟩ := psgB_iff h1
    have hV : durV ds = inV (tLo (rAt ds 3) (iAt ds 0) (iAt ds 4).toNat) (tHi (rAt ds 3) (iAt ds 1) ((iAt ds 4).toNat + 1)) := by
      unfold durV; rw [if_pos ⟨h1, by omega, by omega⟩]
    have ht := t_le p4 p3.2.2.2.2 p1 p2
    refine TT.sat_loop (fun v => ∃ i : Nat, v.i 0 = i ∧ i ≤ (rAt ds 3).length ∧ v.i 1 = tLo (rAt ds 3) (iAt ds 0) i ∧ v.i 2 = tHi (rAt ds 3) (iAt ds 1) i ∧ (iAt ds 4 < i → v.i 3 = tLo (rAt ds 3) (iAt ds 0) (iAt ds 4).toNat ∧ v.i 4 = tHi (rAt ds 3) (iAt ds 1) ((iAt ds 4).toNat + 1))) (fun v => (rAt ds 3).length - (v.i 0).toNat)
      ⟨0, by simp [val_i, aget, E.ev], by omega, by simp [val_i, aget, E.ev, tLo, envOf_i], by simp [val_i, aget, E.ev, tHi, envOf_i], fun h => by omega⟩ (fun v hv => ?_)
    obtain ⟨i, i0, i1, i3, i4, i5⟩ := hv
    simp only [TT.sat_ret, TT.sat_ite, TT.sat_ob, TT.sat_next, put_i, put_d, put_fi, Ob.ok, B.ev, E.ev, X.ev, AL.ev, cmp_t, cmp_f, arEv, V2.plain, S.plain, S0.plain, V2.val, S.val, S0.val, List.all_cons, List.all_nil, Bool.and_self, envOf_i, envOf_d, List.map_cons, List.map_nil, true_and, cell_lg, cmpP, val_i, aget, Nat.reduceBEq, beq_self_eq_true, Bool.false_eq_true, if_true, if_false, Nat.reduceLT, Nat.reduceSub, Nat.sub_self, Nat.lt_irrefl, I3fi10, I3fi11, i0, i3, i4, dl_eq, legLo_eq, legHi_eq]
    refine ⟨fun hc => ⟨by omega, by omega, ?_⟩, fun hc => ?_⟩
    · have hl := p4 i (by omega)
      have hq := legB_iff.1 hl
      have hle := leg_le hl
      have hti := ht i i1
      obtain ⟨w1, w2, w3, w4⟩ := leg_wraps hl
      rw [wrap_in ((i : Int) + 1) (by omega) (by omega), w1, w2, w3, legHi_eq, w4, wrap_in (tLo _ _ i + legLo _ _) (by omega) (by omega), wrap_in (tHi _ _ i + legHi _ _) (by omega) (by omega)]
      refine ⟨by omega, by omega, fun he => ⟨⟨i + 1, by omega, by omega, rfl, rfl, fun _ => ?_⟩, by omega⟩, fun he => ⟨⟨i + 1, by omega, by omega, rfl, rfl, fun hlt => i5 (by omega)⟩, by omega⟩⟩
      rw [← he, Int.toNat_natCast]
      exact ⟨rfl, rfl⟩
    · obtain ⟨e3, e4⟩ := i5 (by omega)
      rw [hV, e3, e4]
      unfold inV
      exact ⟨fun q => by rw [if_pos q]; rfl, fun q => by rw [if_neg q]; rfl⟩
/-- The first leg that the ship may not have left, from the leg k on. -/
def restN (r : Rows) (hi t : Int) : Nat → Nat → Int × Int
  | 0, k => (k, 0)
  | f + 1, k => if 10000000 < tHi r hi (k + 1) then (0, 3) else if t ≤ tHi r hi (k + 1) then (k, 0) else restN r hi t f (k + 1)
def restI (ds : List D) : Int × Int := if psgB (iAt ds 0) (iAt ds 1) (iAt ds 2) (rAt ds 3) ∧ timeB (iAt ds 4) then restN (rAt ds 3) (iAt ds 1) (iAt ds 4) (rAt ds 3).length 0 else (0, 1)
def intsV (p : Int × Int) : Value := .tuple #[.int .i64 p.1, .int .i64 p.2]
theorem gRest : Gives Try.prog 13 [psg, it] (fun ds => intsV (restI ds)) := by
  refine GivesIf.all (fn_gives I3 (by kernel_rfl) (fun ρ h => ct3_ok h) (by kernel_rfl) trRest_is trRest_low (by decide) (fun W vals ds hr _ => ?_))
  simp only [trRest, TT.sat_ret, TT.sat_ite, B.ev, E.ev, X.ev, AL.ev, cmp_t, cmp_f, V.plain, V2.plain, S.plain, S0.plain, V.val, V2.val, S.val, S0.val, List.all_cons, List.all_nil, Bool.and_self, envOf_i, envOf_d, List.map_cons, List.map_nil, true_and, Bool.not_eq_true', Bool.not_eq_false', cmpP, I3fb20, psgL_four]
  refine ⟨fun h1 => ?_, fun h1 => ⟨fun h2 => ⟨fun h3 => ?_, fun h3 => ?_⟩, fun h2 => ?_⟩⟩
  · unfold restI; rw [if_neg (by simp [h1])]; rfl
  · unfold restI; rw [if_neg (by simp only [timeB, decide_eq_true_eq]; omega)]; rfl
  · obtain ⟨p1, p2, p3, p4⟩ := psgB_iff h1
    have hV : restI ds = restN (rAt ds 3) (iAt ds 1) (iAt ds 4) (rAt ds 3).length 0 := by
      unfold restI; rw [if_pos ⟨h1, by simp only [timeB, decide_eq_true_eq]; omega⟩]
    have ht := t_le p4 p3.2.2.2.2 p1 p2
    refine TT.sat_loop (fun v => ∃ i : Nat, v.i 0 = i ∧ i ≤ (rAt ds 3).length ∧ v.i 1 = tLo (rAt ds 3) (iAt ds 0) i ∧ v.i 2 = tHi (rAt ds 3) (iAt ds 1) i ∧ restN (rAt ds 3) (iAt ds 1) (iAt ds 4) ((rAt ds 3).length - i) i = restI ds) (fun v => (rAt ds 3).length - (v.i 0).toNat)
      ⟨0, by simp [val_i, aget, E.ev], by omega, by simp [val_i, aget, E.ev, tLo, envOf_i], by simp [val_i, aget, E.ev, tHi, envOf_i], by rw [hV]; rfl⟩ (fun v hv => ?_)
    obtain ⟨i, i0, i1, i3, i4, i5⟩ := hv
    simp only [TT.sat_ret, TT.sat_ite, TT.sat_ob, TT.sat_next, put_i, put_d, put_fi, Ob.ok, B.ev, E.ev, X.ev, AL.ev, cmp_t, cmp_f, arEv, V2.plain, S.plain, S0.plain, V2.val, S.val, S0.val, List.all_cons, List.all_nil, Bool.and_self, envOf_i, envOf_d, List.map_cons, List.map_nil, true_and, cell_lg, cmpP, val_i, aget, Nat.reduceBEq, beq_self_eq_true, Bool.false_eq_true, if_true, if_false, Nat.reduceLT, Nat.reduceSub, Nat.sub_self, Nat.lt_irrefl, I3fi10, I3fi11, i0, i3, i4, dl_eq, legLo_eq, legHi_eq]
    refine ⟨fun hc => ⟨by omega, by omega, ?_⟩, fun hc => ?_⟩
    · have hl := p4 i (by omega)
      have hq := legB_iff.1 hl
      have hle := leg_le hl
      have hti := ht i i1
      obtain ⟨w1, w2, w3, w4⟩ := leg_wraps hl
      rw [wrap_in ((i : Int) + 1) (by omega) (by omega), w1, w2, w3, legHi_eq, w4, wrap_in (tLo _ _ i + legLo _ _) (by omega) (by omega), wrap_in (tHi _ _ i + legHi _ _) (by omega) (by omega)]
      have eT : tHi (rAt ds 3) (iAt ds 1) (i + 1) = tHi (rAt ds 3) (iAt ds 1) i + legHi (rAt ds 3) i := rfl
      obtain ⟨f, hf⟩ : ∃ f, (rAt ds 3).length - i = f + 1 := ⟨(rAt ds 3).length - i - 1, by omega⟩
      rw [hf] at i5
      simp only [restN, eT] at i5
      refine ⟨by omega, by omega, fun q => ?_, fun q => ⟨fun q' => ?_, fun q' => ⟨⟨i + 1, by omega, by omega, rfl, rfl, ?_⟩, by omega⟩⟩⟩
      · rw [if_pos q] at i5; rw [← i5]; rfl
      · rw [if_neg q, if_pos q'] at i5; rw [← i5]; rfl
      · rw [if_neg q, if_neg q'] at i5
        rw [show (rAt ds 3).length - (i + 1) = f by omega]; exact i5
    · rw [show (rAt ds 3).length - i = 0 by omega] at i5
      rw [← i5, show i = (rAt ds 3).length by omega]; rfl
  · unfold restI; rw [if_neg (by simp only [timeB, decide_eq_true_eq]; omega)]; rfl
end Go.Proofs.Ytinfmmofcadjgaa
