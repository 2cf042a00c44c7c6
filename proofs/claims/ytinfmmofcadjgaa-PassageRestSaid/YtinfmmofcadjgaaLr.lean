/- Chapter 38: the law PassageRest. -/
import Derived.Test.YtinfmmofcadjgaaTLa
namespace Go.Proofs.Ytinfmmofcadjgaa
open Go.RowKit
section
variable (W : World) (ds l : List D)
theorem K7i21 : (envOf K7 W ds).fi 21 l = arrL l := by simp only [envOf, K7, K6, K5, K]
theorem K7i22 : (envOf K7 W ds).fi 22 l = arrH l := by simp only [envOf, K7, K6, K5, K]
theorem K7i23 : (envOf K7 W ds).fi 23 l = arrE l := by simp only [envOf, K7, K6, K5, K]
theorem K7i24 : (envOf K7 W ds).fi 24 l = durL l := by simp only [envOf, K7, K6, K5, K]
theorem K7i25 : (envOf K7 W ds).fi 25 l = durH l := by simp only [envOf, K7, K6, K5, K]
theorem K7i26 : (envOf K7 W ds).fi 26 l = durE l := by simp only [envOf, K7, K6, K5, K]
theorem K7i27 : (envOf K7 W ds).fi 27 l = restK l := by simp only [envOf, K7, K6, K5, K]
theorem K7i28 : (envOf K7 W ds).fi 28 l = restE l := by simp only [envOf, K7, K6, K5, K]
theorem K7b20 : (envOf K7 W ds).fb 20 l = psgL l := by simp only [envOf, K7, K6, K5, K]
end
/-- A passage and a number. -/
def pk (a b c : Int) (r : Rows) (k : Int) : List D := [.i a, .i b, .i c, .l r, .i k]
theorem pk_eq (a b c : Int) (r : Rows) (k : Int) : [D.i a, .i b, .i c, .l r, .i k] = pk a b c r k := rfl
theorem restN_spec (r : Rows) (hi t : Int) : ∀ (f k : Nat), restN r hi t f k = (0, 3) ∨ ∃ n : Nat, restN r hi t f k = ((n : Int), 0) ∧ k ≤ n ∧ n ≤ k + f ∧ (∀ j, k ≤ j → j < n → tHi r hi (j + 1) ≤ 10000000 ∧ tHi r hi (j + 1) < t) ∧ (n < k + f → tHi r hi (n + 1) ≤ 10000000 ∧ t ≤ tHi r hi (n + 1))
  | 0, k => Or.inr ⟨k, rfl, by omega, by omega, fun j h1 h2 => by omega, fun h => by omega⟩
  | f + 1, k => by
    rw [restN]
    split
    · exact Or.inl rfl
    · split
      · exact Or.inr ⟨k, rfl, by omega, by omega, fun j h1 h2 => by omega, fun _ => ⟨by omega, by omega⟩⟩
      · rcases restN_spec r hi t f (k + 1) with h | ⟨n, h, h1, h2, h3, h4⟩
        · exact Or.inl h
        · refine Or.inr ⟨n, h, by omega, by omega, fun j g1 g2 => ?_, fun g => h4 (by omega)⟩
          by_cases e : j = k
          · subst e; omega
          · exact h3 j (by omega) g2
theorem rest_spec (a b c : Int) (r : Rows) (t : Int) : (restE (pk a b c r t) = 1 ∨ restE (pk a b c r t) = 3) ∨ (restE (pk a b c r t) = 0 ∧ psgB a b c r = true ∧ ∃ n : Nat, restK (pk a b c r t) = n ∧ n ≤ r.length ∧ (∀ j, j < n → tHi r b (j + 1) ≤ 10000000 ∧ tHi r b (j + 1) < t) ∧ (n < r.length → tHi r b (n + 1) ≤ 10000000 ∧ t ≤ tHi r b (n + 1))) := by
  have e : restI (pk a b c r t) = if psgB a b c r ∧ timeB t then restN r b t r.length 0 else (0, 1) := rfl
  unfold restE restK
  by_cases h : psgB a b c r = true ∧ timeB t = true
  · rw [e, if_pos h]
    rcases restN_spec r b t r.length 0 with h' | ⟨n, h1, _, h2, h3, h4⟩
    · rw [h']; exact Or.inl (Or.inr rfl)
    · rw [h1]; exact Or.inr ⟨rfl, h.1, n, rfl, by omega, fun j hj => h3 j (by omega) hj, fun g => h4 (by omega)⟩
  · rw [e, if_neg h]; exact Or.inl (Or.inl rfl)
theorem dur_of {a b c : Int} {r : Rows} (hp : psgB a b c r = true) (j : Nat) (hj : j < r.length) (ht : tHi r b (j + 1) ≤ 10000000) : durE (pk a b c r j) = 0 ∧ durL (pk a b c r j) = tLo r a j ∧ durH (pk a b c r j) = tHi r b (j + 1) := by
  have h1 : durO (pk a b c r j) = true := by
    show (psgB a b c r && decide (0 ≤ (j : Int) ∧ (j : Int) < r.length)) = true
    rw [hp, decide_eq_true ⟨by omega, by omega⟩]; rfl
  have h2 : durX (pk a b c r j) = true := by
    show (durO (pk a b c r j) && !decide (10000000 < tHi r b ((j : Int).toNat + 1))) = true
    rw [h1, decide_eq_false (by rw [Int.toNat_natCast]; omega)]; rfl
  unfold durE durL durH
  rw [if_pos h1, if_pos h2, if_pos h2, if_pos h2]
  exact ⟨rfl, rfl, rfl⟩
theorem gRestLaw : Gives Try.prog 4 [psg, it, it] (fun _ => .bool true) := by
  refine GivesIf.all (fn_gives K7 (by kernel_rfl) (fun ρ h => ctL_ok (Sees.of h 70)) (by kernel_rfl) trRestLaw_is trRestLaw_low (by decide) (fun W vals ds hr _ => ?_))
  simp only [trRestLaw, TT.sat_ret, TT.sat_ite, B.ev, E.ev, X.ev, AL.ev, cmp_t, cmp_f, V.plain, V2.plain, S.plain, S0.plain, V.val, V2.val, S.val, S0.val, envOf_i, envOf_d, true_and, cmpP, K7i25, K7i26, K7i27, K7i28, pk_eq]
  rcases rest_spec (iAt ds 0) (iAt ds 1) (iAt ds 2) (rAt ds 3) (iAt ds 4) with h1 | ⟨h1, hp, n, hn, n1, n2, n3⟩
  · refine ⟨fun h2 => ⟨fun h3 => trivial, fun h3 => ?_⟩, fun h2 => ?_⟩
    · rw [show restE (pk (iAt ds 0) (iAt ds 1) (iAt ds 2) (rAt ds 3) (iAt ds 4)) = 3 by omega]; rfl
    · exact absurd h1 (by omega)
  · obtain ⟨p1, p2, p3, p4⟩ := psgB_iff hp
    simp only [h1, hn]
    refine ⟨fun h => absurd rfl h, fun _ => ⟨fun h => by omega, fun _ => ⟨fun h => by omega, fun _ => ⟨fun h => by omega, fun _ => ?_⟩⟩⟩⟩
    refine TT.sat_loop (fun v => v.b 0 = true ∧ ∃ i : Nat, v.i 1 = i ∧ i ≤ n) (fun v => n - (v.i 1).toNat)
      ⟨by simp [val_b, aget, B.ev], 0, by simp [val_i, aget, E.ev], by omega⟩ (fun v hv => ?_)
    obtain ⟨v0, i, i0, i1⟩ := hv
    simp only [TT.sat_ret, TT.sat_ite, TT.sat_next, put_i, put_b, put_d, put_fi, B.ev, E.ev, X.ev, AL.ev, cmp_t, cmp_f, arEv, envOf_i, envOf_b, envOf_d, true_and, cmpP, val_i, val_b, aget, beq_self_eq_true, Bool.false_eq_true, if_true, if_false, Nat.reduceLT, Nat.reduceSub, Nat.sub_self, Nat.lt_irrefl, K7i25, K7i26, K7i27, K7i28, pk_eq, h1, hn, i0, v0]
    refine ⟨fun hc => ?_, fun hc => ?_⟩
    · obtain ⟨q1, q2⟩ := n2 i (by omega)
      obtain ⟨d1, d2, d3⟩ := dur_of hp i (by omega) q1
      rw [wrap_in _ (by omega) (by omega), d1, d3]
      exact ⟨fun _ => ⟨fun _ => ⟨⟨q2, i + 1, rfl, by omega⟩, by omega⟩, fun h => absurd rfl h⟩, fun h => by cases h⟩
    · have G : ∀ a b : Int, b ≤ a → Value.bool (cmpEv BinOp.geq a b) = Value.bool true := fun a b h => congrArg Value.bool (by rw [cmp_t]; exact h)
      have hm : restE (pk (iAt ds 0) (iAt ds 1) (iAt ds 2) (rAt ds 3) (iAt ds 5)) = 0 → iAt ds 4 ≤ iAt ds 5 → (n : Int) ≤ restK (pk (iAt ds 0) (iAt ds 1) (iAt ds 2) (rAt ds 3) (iAt ds 5)) := by
        intro g1 g2
        rcases rest_spec (iAt ds 0) (iAt ds 1) (iAt ds 2) (rAt ds 3) (iAt ds 5) with h' | ⟨_, _, m, hm, m1, m2, m3⟩
        · omega
        · rw [hm]
          by_cases hlt : m < n
          · have := n2 m hlt
            have := m3 (by omega)
            omega
          · omega
      refine ⟨fun hl => ?_, fun hl => ?_⟩
      · obtain ⟨q1, q2⟩ := n3 (by omega)
        obtain ⟨d1, d2, d3⟩ := dur_of hp n (by omega) q1
        rw [d1, d3]
        exact ⟨fun _ => ⟨fun _ => ⟨fun _ => G _ _ q2, fun e2 => ⟨fun _ => G _ _ q2, fun hle => ⟨fun _ => G _ _ (hm (by omega) (by omega)), fun h => absurd q2 h⟩⟩⟩, fun h => absurd rfl h⟩, fun h => by cases h⟩
      · exact ⟨fun _ => trivial, fun e2 => ⟨fun _ => trivial, fun hle => ⟨fun _ => G _ _ (hm (by omega) (by omega)), fun h => by cases h⟩⟩⟩
end Go.Proofs.Ytinfmmofcadjgaa
