/- Chapter 38: the law PassageTimes. -/
import Derived.Test.YtinfmmofcadjgaaTLa
set_option linter.unusedSimpArgs false
set_option linter.unusedVariables false
namespace Go.Proofs.Ytinfmmofcadjgaa
open Go.RowKit
theorem tdiv_mul {a b : Int} (ha : 0 ≤ a) (hb : 1 ≤ b) : a.tdiv b * b ≤ a ∧ a < a.tdiv b * b + b := by
  rw [Int.tdiv_eq_ediv_of_nonneg ha]
  have h1 := Int.mul_ediv_add_emod a b
  have h2 := Int.emod_nonneg a (show b ≠ 0 by omega)
  have h3 := Int.emod_lt_of_pos a (show 0 < b by omega)
  rw [Int.mul_comm] at h1
  omega
theorem arr_of {a b c : Int} {r : Rows} (hp : psgB a b c r = true) (k : Nat) (hk : k ≤ r.length) :
    (tHi r b k ≤ 10000000 ∧ arrE (pk a b c r k) = 0 ∧ arrL (pk a b c r k) = tLo r a k ∧ arrH (pk a b c r k) = tHi r b k) ∨ (10000000 < tHi r b k ∧ arrE (pk a b c r k) = 3) := by
  have h1 : arrO (pk a b c r k) = true := by
    show (psgB a b c r && decide (0 ≤ (k : Int) ∧ (k : Int) ≤ r.length)) = true
    rw [hp, decide_eq_true ⟨by omega, by omega⟩]; rfl
  have h2 : arrX (pk a b c r k) = !decide (10000000 < tHi r b k) := by
    show (arrO (pk a b c r k) && !decide (10000000 < tHi r b ((k : Int).toNat))) = _
    rw [h1, Int.toNat_natCast]; rfl
  unfold arrE arrL arrH
  by_cases q : 10000000 < tHi r b k
  · rw [decide_eq_true q] at h2
    rw [if_pos h1, h2]
    exact Or.inr ⟨q, rfl⟩
  · rw [decide_eq_false q] at h2
    rw [if_pos h1, h2]
    exact Or.inl ⟨by omega, rfl, rfl, rfl⟩
/-- What a leg's times say of its speed. -/
theorem leg_times {r : Rows} {i : Int} (h : legB r i = true) {s : Int} (h1 : lg r i 4 ≤ s) (h2 : s ≤ lg r i 5) :
    (0 ≤ legLo r i * s ∧ legLo r i * s ≤ distIL (dl r i)) ∧ distIH (dl r i) ≤ legHi r i * s := by
  have hl := leg_le h
  rw [legB_iff] at h
  obtain ⟨_, _, h4, h5, h6⟩ := h
  have t1 := tdiv_mul (a := distIL (dl r i)) (b := lg r i 5) (by omega) (by omega)
  have t2 := tdiv_mul (a := distIH (dl r i) + lg r i 4 - 1) (b := lg r i 4) (by omega) (by omega)
  have m1 : legLo r i * s ≤ legLo r i * lg r i 5 := Int.mul_le_mul_of_nonneg_left h2 (by omega)
  have m2 : legHi r i * lg r i 4 ≤ legHi r i * s := Int.mul_le_mul_of_nonneg_left h1 (by omega)
  have m0 : 0 ≤ legLo r i * s := Int.mul_nonneg (by omega) (by omega)
  unfold legLo at m0 m1 ⊢
  unfold legHi at m2 ⊢
  omega
theorem leg_order {r : Rows} {i : Int} (h : legB r i = true) : legLo r i ≤ legHi r i := by
  have hl := leg_le h
  have h0 := h
  rw [legB_iff] at h0
  obtain ⟨p, _, h4, h5, h6⟩ := h0
  obtain ⟨⟨a1, a2⟩, a3⟩ := leg_times h (Int.le_refl _) h5
  obtain ⟨d1, d2, d3, d4, _⟩ := distI_le (ds := dl r i) (by simp only [four4, Bool.and_eq_true]; exact p)
  exact Int.le_of_mul_le_mul_right (show legLo r i * lg r i 4 ≤ legHi r i * lg r i 4 by omega) (by omega)
theorem gTimesLaw : Gives Try.prog 3 [psg, it, it] (fun _ => .bool true) := by
  refine GivesIf.all (fn_gives K7 (by kernel_rfl) (fun ρ h => ctL_ok (Sees.of h 70)) (by kernel_rfl) trTimesLaw_is trTimesLaw_low (by decide) (fun W vals ds hr _ => ?_))
  simp only [trTimesLaw, TT.sat_ret, TT.sat_ite, TT.sat_ob, TT.sat_next, TT.sat_stuck, put_i, put_b, put_d, put_fi, put_fb, put_fd, Ob.ok, B.ev, E.ev, X.ev, AL.ev, cmp_t, cmp_f, arEv, V.plain, V2.plain, S.plain, S0.plain, V.val, V2.val, S.val, S0.val, bV, iV, List.all_cons, List.all_nil, Bool.and_true, Bool.and_self, envOf_i, envOf_b, envOf_d, List.map_cons, List.map_nil, true_and, Bool.not_eq_true', Bool.not_eq_false', Bool.not_not, Bool.and_eq_true, and_f, cell_lg, cell_lb, cell_lr, cmpP, val_i, val_b, val_d, aget, Nat.reduceBEq, beq_self_eq_true, Bool.false_eq_true, if_true, if_false, Nat.reduceLT, Nat.reduceSub, Nat.sub_self, Nat.lt_irrefl, K7i21, K7i22, K7i23, K7b20, psgL_four, pk_eq, legK]
  refine ⟨fun _ => trivial, fun hp => ⟨fun _ => trivial, fun hk0 => ⟨fun _ => trivial, fun hk1 => ?_⟩⟩⟩
  obtain ⟨p1, p2, p3, p4⟩ := psgB_iff hp
  obtain ⟨k, hk⟩ := Int.eq_ofNat_of_zero_le (a := iAt ds 4) (by omega)
  have hl := p4 k (by omega)
  have hle := leg_le hl
  have hw : IntKind.i64.wrap (iAt ds 4 + 1) = ((k + 1 : Nat) : Int) := by rw [wrap_in _ (by omega) (by omega), hk]; rfl
  have ht := t_le p4 p3.2.2.2.2 p1 p2 k (by omega)
  have G : ∀ a b : Int, b = a → Value.bool (cmpEv BinOp.eql a b) = Value.bool true := fun a b h => congrArg Value.bool (by rw [cmp_t]; exact h.symm)
  have A := arr_of hp k (by omega)
  have B := arr_of hp (k + 1) (by omega)
  rw [hw, hk]
  have e1 : tLo (rAt ds 3) (iAt ds 0) (k + 1) = tLo (rAt ds 3) (iAt ds 0) k + legLo (rAt ds 3) k := rfl
  have e2 : tHi (rAt ds 3) (iAt ds 1) (k + 1) = tHi (rAt ds 3) (iAt ds 1) k + legHi (rAt ds 3) k := rfl
  rcases A with ⟨a0, a1, a2, a3⟩ | ⟨a0, a1⟩
  · rcases B with ⟨b0, b1, b2, b3⟩ | ⟨b0, b1⟩
    · rw [a1, a2, a3, b1, b2, b3, e1, e2]
      have hq := legB_iff.1 hl
      have hord := leg_order hl
      rw [wrap_in (tLo _ _ k + legLo _ _ - tLo _ _ k) (by omega) (by omega), wrap_in (tHi _ _ k + legHi _ _ - tHi _ _ k) (by omega) (by omega)]
      rw [show tLo (rAt ds 3) (iAt ds 0) k + legLo (rAt ds 3) k - tLo (rAt ds 3) (iAt ds 0) k = legLo (rAt ds 3) k by omega, show tHi (rAt ds 3) (iAt ds 1) k + legHi (rAt ds 3) k - tHi (rAt ds 3) (iAt ds 1) k = legHi (rAt ds 3) k by omega]
      refine ⟨fun h => absurd rfl h, fun _ => ⟨fun h => absurd rfl h, fun _ => ⟨by omega, by omega, fun h => by omega, fun _ => ⟨fun h => by omega, fun _ => ⟨fun h => by omega, fun _ => ⟨fun h => by omega, fun _ => ⟨fun _ => trivial, fun s1 => ⟨fun _ => trivial, fun s2 => ?_⟩⟩⟩⟩⟩⟩⟩⟩
      obtain ⟨⟨m0, m1⟩, m2⟩ := leg_times hl (s := iAt ds 5) (by omega) (by omega)
      obtain ⟨d1, d2, d3, d4, d5', d6'⟩ := distI_le (ds := dl (rAt ds 3) k) (by simp only [four4, Bool.and_eq_true]; exact hq.1)
      have d5 : distIL (dl (rAt ds 3) k) * distIL (dl (rAt ds 3) k) ≤ (lg (rAt ds 3) k 2 - lg (rAt ds 3) k 0) * (lg (rAt ds 3) k 2 - lg (rAt ds 3) k 0) + (lg (rAt ds 3) k 3 - lg (rAt ds 3) k 1) * (lg (rAt ds 3) k 3 - lg (rAt ds 3) k 1) := d5'
      have d6 : (lg (rAt ds 3) k 2 - lg (rAt ds 3) k 0) * (lg (rAt ds 3) k 2 - lg (rAt ds 3) k 0) + (lg (rAt ds 3) k 3 - lg (rAt ds 3) k 1) * (lg (rAt ds 3) k 3 - lg (rAt ds 3) k 1) ≤ distIH (dl (rAt ds 3) k) * distIH (dl (rAt ds 3) k) := d6'
      clear d5' d6'
      have hq1 := hq.1
      rw [placeB_iff, placeB_iff] at hq1
      obtain ⟨⟨qa, qb⟩, qc, qd⟩ := hq1
      have wx := wrap_in (lg (rAt ds 3) k 2 - lg (rAt ds 3) k 0) (by omega) (by omega)
      have wy := wrap_in (lg (rAt ds 3) k 3 - lg (rAt ds 3) k 1) (by omega) (by omega)
      have wxx := (w_mul qc qa qc qa).1
      have wyy := (w_mul qd qb qd qb).1
      have wxy := w_add qc qa qc qa qd qb qd qb
      have n1 : legLo (rAt ds 3) k * iAt ds 5 * legLo (rAt ds 3) k ≤ 2828427 * 2828427 := Int.mul_le_mul (by omega) (by omega) (by omega) (by decide)
      have n0 : 0 ≤ legLo (rAt ds 3) k * iAt ds 5 * legLo (rAt ds 3) k := Int.mul_nonneg m0 (by omega)
      have n2 : legLo (rAt ds 3) k * iAt ds 5 * legLo (rAt ds 3) k * iAt ds 5 = (legLo (rAt ds 3) k * iAt ds 5) * (legLo (rAt ds 3) k * iAt ds 5) := by rw [Int.mul_assoc (legLo (rAt ds 3) k * iAt ds 5)]
      have n3 : (legLo (rAt ds 3) k * iAt ds 5) * (legLo (rAt ds 3) k * iAt ds 5) ≤ distIL (dl (rAt ds 3) k) * distIL (dl (rAt ds 3) k) := Int.mul_le_mul m1 m1 m0 d1
      have n4 : distIL (dl (rAt ds 3) k) * distIL (dl (rAt ds 3) k) ≤ 2828427 * 2828427 := Int.mul_le_mul d2 d2 d1 (by decide)
      have n5 : 0 ≤ (legLo (rAt ds 3) k * iAt ds 5) * (legLo (rAt ds 3) k * iAt ds 5) := Int.mul_nonneg m0 m0
      have n6 : legHi (rAt ds 3) k * iAt ds 5 ≤ 2830428 * 2000 := Int.mul_le_mul (by omega) (by omega) (by omega) (by decide)
      have n7 : distIH (dl (rAt ds 3) k) ≤ min (legHi (rAt ds 3) k * iAt ds 5) 3000000 := by omega
      have n8 : distIH (dl (rAt ds 3) k) * distIH (dl (rAt ds 3) k) ≤ min (legHi (rAt ds 3) k * iAt ds 5) 3000000 * min (legHi (rAt ds 3) k * iAt ds 5) 3000000 := Int.mul_le_mul n7 n7 (by omega) (by omega)
      have n9 : min (legHi (rAt ds 3) k * iAt ds 5) 3000000 * min (legHi (rAt ds 3) k * iAt ds 5) 3000000 ≤ 3000000 * 3000000 := Int.mul_le_mul (by omega) (by omega) (by omega) (by decide)
      have n10 : 0 ≤ distIH (dl (rAt ds 3) k) * distIH (dl (rAt ds 3) k) := Int.mul_nonneg (by omega) (by omega)
      have w1 := wrap_in (legLo (rAt ds 3) k * iAt ds 5) (by omega) (by omega)
      have w2 := wrap_in (legLo (rAt ds 3) k * iAt ds 5 * legLo (rAt ds 3) k) (by omega) (by omega)
      have w3 := wrap_in (legLo (rAt ds 3) k * iAt ds 5 * legLo (rAt ds 3) k * iAt ds 5) (by omega) (by omega)
      have w4 := wrap_in (legHi (rAt ds 3) k * iAt ds 5) (by omega) (by omega)
      have w5 := wrap_in (min (legHi (rAt ds 3) k * iAt ds 5) 3000000 * min (legHi (rAt ds 3) k * iAt ds 5) 3000000) (by omega) (by omega)
      simp only [w1, w2, w3, w4, w5, wx, wy, wxx, wyy, wxy]
      exact ⟨fun _ => ⟨fun _ => congrArg Value.bool (by rw [cmp_t]; simp only [cmpP]; omega), fun h => by omega⟩, fun h => by omega⟩
    · rw [a1, b1]
      refine ⟨fun h => absurd rfl h, fun _ => ⟨fun _ => ⟨fun _ => G _ _ rfl, fun h => absurd rfl h⟩, fun h => absurd (show (3 : Int) ≠ 0 by decide) h⟩⟩
  · rcases B with ⟨b0, b1, b2, b3⟩ | ⟨b0, b1⟩
    · omega
    · rw [a1, b1]
      refine ⟨fun _ => ⟨fun h => by omega, fun _ => ⟨fun _ => G _ _ rfl, fun h => absurd rfl h⟩⟩, fun h => absurd (show (3 : Int) ≠ 0 by decide) h⟩
end Go.Proofs.Ytinfmmofcadjgaa
