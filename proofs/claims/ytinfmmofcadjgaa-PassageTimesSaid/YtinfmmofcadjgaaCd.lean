/- Chapter 38: what plane.Dist answers. -/
import Derived.Test.YtinfmmofcadjgaaCc
set_option linter.unusedSimpArgs false
set_option linter.unusedVariables false
namespace Go.Proofs.Ytinfmmofcadjgaa
open Go.RowKit

/-- The square root, rounded down, bit by bit. -/
def rootN : Nat → Int → Int → Int
  | 0, r, _ => r
  | k + 1, r, n => rootN k (if (r + ((2 ^ k : Nat) : Int)) * (r + ((2 ^ k : Nat) : Int)) ≤ n then r + ((2 ^ k : Nat) : Int) else r) n
theorem rootN_spec : ∀ (k : Nat) (r n : Int), 0 ≤ r → r * r ≤ n → n < (r + ((2 ^ k : Nat) : Int)) * (r + ((2 ^ k : Nat) : Int)) → 0 ≤ rootN k r n ∧ rootN k r n * rootN k r n ≤ n ∧ n < (rootN k r n + 1) * (rootN k r n + 1)
  | 0, r, n, h0, h1, h2 => by simpa [rootN] using ⟨h0, h1, h2⟩
  | k + 1, r, n, h0, h1, h2 => by
    simp only [rootN]
    have hp : 0 < 2 ^ k := Nat.pow_pos (by omega)
    have e : ((2 ^ (k + 1) : Nat) : Int) = ((2 ^ k : Nat) : Int) + ((2 ^ k : Nat) : Int) := by
      rw [Nat.pow_succ]; omega
    split
    · rename_i h
      refine rootN_spec k _ n (by omega) h ?_
      rw [Int.add_assoc, ← e]
      exact h2
    · rename_i h
      exact rootN_spec k r n h0 h1 (by omega)
def rootI (n : Int) : Int := rootN 23 0 n
def bitN : Nat → Int | 0 => 0 | k + 1 => ((2 ^ k : Nat) : Int)
theorem bitN_pos {k : Nat} (h : 0 < bitN k) : ∃ j, k = j + 1 := by cases k with | zero => simp [bitN] at h | succ j => exact ⟨j, rfl⟩
theorem bitN_half (k : Nat) : (((2 ^ k : Nat) : Int)).fdiv 2 = bitN k := by
  cases k with
  | zero => rfl
  | succ k => simp only [bitN, Nat.pow_succ]; rw [Int.fdiv_eq_ediv_of_nonneg _ (by omega)]; omega
def distLo (ax ay bx by' : Int) : Int := rootI (dist2 ax ay bx by')
def distHi (ax ay bx by' : Int) : Int := if distLo ax ay bx by' * distLo ax ay bx by' = dist2 ax ay bx by' then distLo ax ay bx by' else distLo ax ay bx by' + 1
def four4 (ds : List D) : Bool := placeB (iAt ds 0) (iAt ds 1) && placeB (iAt ds 2) (iAt ds 3)
def distV (ds : List D) : Value := .tuple #[.agg #[.int .i64 (if four4 ds then distLo (iAt ds 0) (iAt ds 1) (iAt ds 2) (iAt ds 3) else 0), .int .i64 (if four4 ds then distHi (iAt ds 0) (iAt ds 1) (iAt ds 2) (iAt ds 3) else 0)], .int .i64 (if four4 ds then 0 else 1)]
theorem dist_self (x y : Int) : distLo x y x y = 0 ∧ distHi x y x y = 0 := by
  have e : dist2 x y x y = 0 := by unfold dist2; simp
  have h : distLo x y x y = 0 := by unfold distLo; rw [e]; kernel_rfl
  refine ⟨h, ?_⟩
  unfold distHi
  rw [h, e]
  rfl
theorem dist2_le {ax ay bx by' : Int} (h1 : placeB ax ay = true) (h2 : placeB bx by' = true) : 0 ≤ dist2 ax ay bx by' ∧ dist2 ax ay bx by' ≤ 8000000000000 := by
  rw [placeB_iff] at h1 h2
  have a1 := w_mul h2.1 h1.1 h2.1 h1.1
  have a2 := w_mul h2.2 h1.2 h2.2 h1.2
  have n1 := sq_nn (bx - ax)
  have n2 := sq_nn (by' - ay)
  unfold dist2
  omega
theorem gDist : Gives Try.prog 51 [pt, pt] distV := by
  refine GivesIf.all (fn_gives I1 (by kernel_rfl) (fun ρ h => ct1_ok h) (by kernel_rfl) trDist_is trDist_low (by decide) (fun W vals ds _ _ => ?_))
  simp only [trDist, TT.sat_ret, TT.sat_ite, B.ev, E.ev, AL.ev, cmp_t, V.plain, V2.plain, S.plain, S0.plain, V.val, V2.val, S.val, S0.val, List.all_cons, List.all_nil, Bool.and_self, envOf_i, List.map_cons, List.map_nil, true_and, Bool.not_eq_true', Bool.not_eq_false', Bool.and_eq_true, and_f, cmpP, I1fb3, placeL_two]
  refine ⟨fun h => ?_, fun h => ⟨fun h' => ?_, fun h' => ⟨fun h'' => ?_, fun h'' => ?_⟩⟩⟩
  · simp [distV, four4, h]
  · simp [distV, four4, h']
  · have e1 : iAt ds 0 = iAt ds 2 := h''.1
    have e2 : iAt ds 1 = iAt ds 3 := h''.2
    have := dist_self (iAt ds 2) (iAt ds 3)
    simp only [distV, four4, e1, e2, this.1, this.2]
    simp [← e1, ← e2, h]
  · have hd := dist2_le h h'
    have p1 := placeB_iff.1 h
    have p2 := placeB_iff.1 h'
    have w1 := w_sub p2.1 p1.1
    have w2 := w_sub p2.2 p1.2
    have w3 := w_mul1 p2.1 p1.1 p2.1 p1.1
    have w4 := w_mul1 p2.2 p1.2 p2.2 p1.2
    have w5 := w_add p2.1 p1.1 p2.1 p1.1 p2.2 p1.2 p2.2 p1.2
    refine TT.sat_loop (fun v => ∃ k, k ≤ 23 ∧ v.i 1 = bitN k ∧ 0 ≤ v.i 0 ∧ v.i 0 + ((2 ^ k : Nat) : Int) ≤ 8388608 ∧ rootN k (v.i 0) (dist2 (iAt ds 0) (iAt ds 1) (iAt ds 2) (iAt ds 3)) = distLo (iAt ds 0) (iAt ds 1) (iAt ds 2) (iAt ds 3)) (fun v => (v.i 1).toNat)
      ⟨23, by omega, by simp [val_i, aget, E.ev, bitN], by simp [val_i, aget, E.ev], by simp [val_i, aget, E.ev], by simp [val_i, aget, E.ev, distLo, rootI]⟩ (fun v hv => ?_)
    obtain ⟨k, k1, k2, k3, k4, k5⟩ := hv
    simp only [TT.sat_ret, TT.sat_ite, TT.sat_next, put_i, B.ev, E.ev, cmp_t, cmp_f, arEv, V2.plain, S.plain, S0.plain, V2.val, S.val, S0.val, List.all_cons, List.all_nil, Bool.and_self, envOf_i, List.map_cons, List.map_nil, true_and, cmpP, val_i, aget, Nat.reduceBEq, beq_self_eq_true, Bool.false_eq_true, if_true, if_false, Nat.reduceLT, Nat.reduceSub, Nat.sub_self, Nat.lt_irrefl, w1, w2, w3, w4, w5]
    refine ⟨fun hb => ?_, fun hb => ?_⟩
    · rw [k2] at hb
      obtain ⟨j, rfl⟩ := bitN_pos hb
      have e2 : ((2 ^ (j + 1) : Nat) : Int) = ((2 ^ j : Nat) : Int) + ((2 ^ j : Nat) : Int) := by rw [Nat.pow_succ]; omega
      have hp : 0 < 2 ^ j := Nat.pow_pos (by omega)
      simp only [bitN] at k2
      rw [k2]
      have wt : IntKind.i64.wrap (v.i 0 + ((2 ^ j : Nat) : Int)) = v.i 0 + ((2 ^ j : Nat) : Int) := wrap_in _ (by omega) (by omega)
      have ht := mul_abs (a := v.i 0 + ((2 ^ j : Nat) : Int)) (b := v.i 0 + ((2 ^ j : Nat) : Int)) (A := 8388608) (B := 8388608) (by omega) (by omega) (by omega) (by omega)
      have wtt := wrap_in ((v.i 0 + ((2 ^ j : Nat) : Int)) * (v.i 0 + ((2 ^ j : Nat) : Int))) (by omega) (by omega)
      have hs : arEv .shr .i64 ((2 ^ j : Nat) : Int) 1 = bitN j := bitN_half j
      have hlt : (bitN j).toNat < (((2 ^ j : Nat) : Int)).toNat := by
        rw [← bitN_half j, Int.fdiv_eq_ediv_of_nonneg _ (by omega)]; omega
      simp only [arEv] at hs
      rw [wt, wtt, hs]
      refine ⟨fun hc => ⟨⟨j, by omega, rfl, by omega, by omega, ?_⟩, hlt⟩, fun hc => ⟨⟨j, by omega, rfl, by omega, by omega, ?_⟩, hlt⟩⟩
      · rw [← k5]
        simp only [rootN]
        rw [if_pos (by unfold dist2; exact hc)]
      · rw [← k5]
        simp only [rootN]
        rw [if_neg (by unfold dist2; exact hc)]
    · have hk : k = 0 := by
        cases k with
        | zero => rfl
        | succ j =>
          exfalso
          rw [k2] at hb
          have hp : 0 < 2 ^ j := Nat.pow_pos (by omega)
          simp only [bitN] at hb
          omega
      subst hk
      simp only [rootN] at k5
      have hr := mul_abs (a := v.i 0) (b := v.i 0) (A := 8388608) (B := 8388608) (by omega) (by omega) (by omega) (by omega)
      rw [wrap_in (v.i 0 * v.i 0) (by omega) (by omega), wrap_in (v.i 0 + 1) (by omega) (by omega), k5]
      simp only [distV, four4, h, h', Bool.and_self, if_true, distHi]
      refine ⟨fun hc => ?_, fun hc => ?_⟩
      · rw [if_pos (by unfold dist2; exact hc)]
      · rw [if_neg (by unfold dist2; exact hc)]
end Go.Proofs.Ytinfmmofcadjgaa
