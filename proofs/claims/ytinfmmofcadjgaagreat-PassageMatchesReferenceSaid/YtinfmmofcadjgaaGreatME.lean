/- ME, merged: THd, He, TLa, Lt. -/
import Derived.Test.YtinfmmofcadjgaaGreatMD
set_option linter.unusedSimpArgs false
set_option linter.unusedVariables false
/- Chapter 38: the tree of the law's head: the examples of the chapter. -/
namespace Go.Proofs.YtinfmmofcadjgaaGreat
open Go.RowKit
-- term trHead: call Tryz.prog ct7 [(36, 0)] 100 4 [] [] 0
def trHead : TT OpR :=
(.ret ((.v (.one (.z (.bool (.lit true))))), [], 28))
-- end trHead
set_option maxRecDepth 100000 in
theorem trHead_is : T.norm 0 (call Tryz.prog ct7 [(36, 0)] 100 4 [] [] 0) TT.ret = trHead := by kernel_rfl
theorem trHead_low : trHead.low 1000 = true := by kernel_rfl
end Go.Proofs.YtinfmmofcadjgaaGreat
/- Chapter 38: the law's head is true. -/
namespace Go.Proofs.YtinfmmofcadjgaaGreat
open Go.RowKit
theorem gHead : Gives Tryz.prog 4 [] (fun _ => .bool true) := by
  refine GivesIf.all (fn_gives K7 (by kernel_rfl) (fun ρ h => ct7_ok (Sees.of h 61)) (by kernel_rfl) trHead_is trHead_low (by decide) (fun W vals ds hr _ => ?_))
  simp only [trHead, TT.sat_ret, B.ev, V.plain, V2.plain, S.plain, S0.plain, V.val, V2.val, S.val, S0.val, true_and]
def cHead := ctD [] fun _ => .ret (bV (.lit true))
theorem cHead_ok {ρ : Env} : CtOne Tryz.prog ρ 4 cHead :=
  ctD_ok gHead (fun _ => rfl) (fun _ => rfl)
def ctL : Ct := (4, cHead) :: ct7
theorem ctL_ok {ρ : Env} (h : Sees ρ K7 61) : CtOk Tryz.prog ρ ctL := .cons cHead_ok (ct7_ok h)
section
variable (W : World) (ds l : List D)
theorem K7i21 : (envOf K7 W ds).fi 21 l = arrL l := by simp only [envOf, K7, K6, K5, K]
theorem K7i22 : (envOf K7 W ds).fi 22 l = arrH l := by simp only [envOf, K7, K6, K5, K]
theorem K7i23 : (envOf K7 W ds).fi 23 l = arrE l := by simp only [envOf, K7, K6, K5, K]
theorem K7i24 : (envOf K7 W ds).fi 24 l = durL l := by simp only [envOf, K7, K6, K5, K]
theorem K7i25 : (envOf K7 W ds).fi 25 l = durH l := by simp only [envOf, K7, K6, K5, K]
theorem K7i26 : (envOf K7 W ds).fi 26 l = durE l := by simp only [envOf, K7, K6, K5, K]
theorem K7i27 : (envOf K7 W ds).fi 27 l = restK l := by simp only [envOf, K7, K6, K5, K]
theorem K7i28 : (envOf K7 W ds).fi 28 l = restE l := by simp only [envOf, K7, K6, K5, K]
theorem K7b20 : (envOf K7 W ds).fb 20 l = psgL l := by simp only [envOf, K7, K6, K5, K]
end
/-- A passage and a number. -/
def pk (a b c : Int) (r : Rows) (k : Int) : List D := [.i a, .i b, .i c, .l r, .i k]
theorem pk_eq (a b c : Int) (r : Rows) (k : Int) : [D.i a, .i b, .i c, .l r, .i k] = pk a b c r k := rfl
end Go.Proofs.YtinfmmofcadjgaaGreat
/- Chapter 38: trees of the laws. -/
namespace Go.Proofs.YtinfmmofcadjgaaGreat
open Go.RowKit
end Go.Proofs.YtinfmmofcadjgaaGreat
/- Chapter 38: the law PassageTimes. -/
namespace Go.Proofs.YtinfmmofcadjgaaGreat
open Go.RowKit
theorem tdiv_mul {a b : Int} (ha : 0 ≤ a) (hb : 1 ≤ b) : a.tdiv b * b ≤ a ∧ a < a.tdiv b * b + b := by
  rw [Int.tdiv_eq_ediv_of_nonneg ha]
  have h1 := Int.mul_ediv_add_emod a b
  have h2 := Int.emod_nonneg a (show b ≠ 0 by omega)
  have h3 := Int.emod_lt_of_pos a (show 0 < b by omega)
  rw [Int.mul_comm] at h1
  omega
theorem arr_of {a b c : Int} {r : Rows} (hp : psgB a b c r = true) (k : Nat) (hk : k ≤ r.length) :
    (tHi r b k ≤ 10000000 ∧ arrE (pk a b c r k) = 0 ∧ arrL (pk a b c r k) = tLo r a k ∧ arrH (pk a b c r k) = tHi r b k) ∨ (10000000 < tHi r b k ∧ arrE (pk a b c r k) = 3) := by
  have h1 : arrO (pk a b c r k) = true := by
    show (psgB a b c r && decide (0 ≤ (k : Int) ∧ (k : Int) ≤ r.length)) = true
    rw [hp, decide_eq_true ⟨by omega, by omega⟩]; rfl
  have h2 : arrX (pk a b c r k) = !decide (10000000 < tHi r b k) := by
    show (arrO (pk a b c r k) && !decide (10000000 < tHi r b ((k : Int).toNat))) = _
    rw [h1, Int.toNat_natCast]; rfl
  unfold arrE arrL arrH
  by_cases q : 10000000 < tHi r b k
  · rw [decide_eq_true q] at h2
    rw [if_pos h1, h2]
    exact Or.inr ⟨q, rfl⟩
  · rw [decide_eq_false q] at h2
    rw [if_pos h1, h2]
    exact Or.inl ⟨by omega, rfl, rfl, rfl⟩
/-- What a leg's times say of its speed. -/
theorem leg_times {r : Rows} {i : Int} (h : legB r i = true) {s : Int} (h1 : lg r i 4 ≤ s) (h2 : s ≤ lg r i 5) :
    (0 ≤ legLo r i * s ∧ legLo r i * s ≤ distIL (dl r i)) ∧ distIH (dl r i) ≤ legHi r i * s := by
  have hl := leg_le h
  rw [legB_iff] at h
  obtain ⟨_, _, h4, h5, h6⟩ := h
  have t1 := tdiv_mul (a := distIL (dl r i)) (b := lg r i 5) (by omega) (by omega)
  have t2 := tdiv_mul (a := distIH (dl r i) + lg r i 4 - 1) (b := lg r i 4) (by omega) (by omega)
  have m1 : legLo r i * s ≤ legLo r i * lg r i 5 := Int.mul_le_mul_of_nonneg_left h2 (by omega)
  have m2 : legHi r i * lg r i 4 ≤ legHi r i * s := Int.mul_le_mul_of_nonneg_left h1 (by omega)
  have m0 : 0 ≤ legLo r i * s := Int.mul_nonneg (by omega) (by omega)
  unfold legLo at m0 m1 ⊢
  unfold legHi at m2 ⊢
  omega
theorem leg_order {r : Rows} {i : Int} (h : legB r i = true) : legLo r i ≤ legHi r i := by
  have hl := leg_le h
  have h0 := h
  rw [legB_iff] at h0
  obtain ⟨p, _, h4, h5, h6⟩ := h0
  obtain ⟨⟨a1, a2⟩, a3⟩ := leg_times h (Int.le_refl _) h5
  obtain ⟨d1, d2, d3, d4, _⟩ := distI_le (ds := dl r i) (by simp only [four4, Bool.and_eq_true]; exact p)
  exact Int.le_of_mul_le_mul_right (show legLo r i * lg r i 4 ≤ legHi r i * lg r i 4 by omega) (by omega)
end Go.Proofs.YtinfmmofcadjgaaGreat
