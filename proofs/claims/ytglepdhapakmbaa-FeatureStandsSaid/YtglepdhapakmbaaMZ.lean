/- MZ, merged: Sa, Qq. -/
import Derived.Test.YtglepdhapakmbaaMP
import Derived.Test.YtglepdhapakmbaaMG
import Derived.Test.YtglepdhapakmbaaMY
set_option linter.unusedSimpArgs false
set_option linter.unusedVariables false
/- Plane geometry, no program: sectors' directions by angles and by cross products. -/
namespace Go.Proofs.Ytglepdhapakmbaa
open Go.RowKit
def dirB (x y : Int) : Bool := decide ((-1000000 ≤ x ∧ x ≤ 1000000) ∧ (-1000000 ≤ y ∧ y ≤ 1000000) ∧ ¬ (x = 0 ∧ y = 0))
theorem dirB_iff {x y : Int} : dirB x y = true ↔ (-1000000 ≤ x ∧ x ≤ 1000000) ∧ (-1000000 ≤ y ∧ y ≤ 1000000) ∧ ¬ (x = 0 ∧ y = 0) := by unfold dirB; exact decide_eq_true_iff
/-- The cross product. -/
def crs (a b c d : Int) : Int := a * d - b * c
def alikeP (a b c d : Int) : Prop := crs a b c d = 0 ∧ 0 < a * c + b * d
instance (a b c d : Int) : Decidable (alikeP a b c d) := by unfold alikeP; infer_instance
/-- What the reference says of a sector and a direction. -/
def hasP (a b c d x y : Int) : Prop := alikeP a b c d ∨ alikeP a b x y ∨ (¬ alikeP c d x y ∧ (if 0 < crs a b x y then (0 < crs x y c d ∨ crs a b c d ≤ 0) else (0 < crs x y c d ∧ crs a b c d < 0)))
instance (a b c d x y : Int) : Decidable (hasP a b c d x y) := by unfold hasP; infer_instance
theorem crsW_eq {a b c d : Int} (h1 : dirB a b = true) (h2 : dirB c d = true) : crsW a b c d = crs a b c d := by
  rw [dirB_iff] at h1 h2
  have m1 := mul_abs (a := a) (b := d) (A := 1000000) (B := 1000000) (by omega) (by omega) (by omega) (by omega)
  have m2 := mul_abs (a := b) (b := c) (A := 1000000) (B := 1000000) (by omega) (by omega) (by omega) (by omega)
  unfold crsW crs
  rw [wrap_in (a * d) (by omega) (by omega), wrap_in (b * c) (by omega) (by omega), wrap_in _ (by omega) (by omega)]
/-- Above 0 for the directions of the first half turn, below 0 for the others. -/
def lin (x y : Int) : Int := 1000001 * y + x
theorem lin_up {x y : Int} (h : dirB x y = true) : (0 < lin x y ↔ (0 < y ∨ (y = 0 ∧ 0 < x))) ∧ lin x y ≠ 0 := by
  rw [dirB_iff] at h
  unfold lin
  omega
theorem comp_neg {a b c d : Int} (h1 : dirB a b = true) (h2 : dirB c d = true) : compI a b c d = -1 ↔ (0 < lin a b ∧ lin c d < 0) ∨ (((0 < lin a b ∧ 0 < lin c d) ∨ (lin a b < 0 ∧ lin c d < 0)) ∧ 0 < crs a b c d) := by
  have l1 := lin_up h1
  have l2 := lin_up h2
  unfold compI
  rw [crsW_eq h1 h2]
  generalize crs a b c d = k
  (repeat' split) <;> omega
theorem comp_pos {a b c d : Int} (h1 : dirB a b = true) (h2 : dirB c d = true) : (compI a b c d = 1 ∨ ¬ compI a b c d ≤ 0) ↔ (lin a b < 0 ∧ 0 < lin c d) ∨ (((0 < lin a b ∧ 0 < lin c d) ∨ (lin a b < 0 ∧ lin c d < 0)) ∧ crs a b c d < 0) := by
  have l1 := lin_up h1
  have l2 := lin_up h2
  unfold compI
  rw [crsW_eq h1 h2]
  generalize crs a b c d = k
  (repeat' split) <;> omega
theorem comp_le {a b c d : Int} : compI a b c d ≤ 0 ↔ ¬ compI a b c d = 1 := by
  unfold compI
  (repeat' split) <;> omega
theorem comp_one {a b c d : Int} (h1 : dirB a b = true) (h2 : dirB c d = true) : compI a b c d = 1 ↔ (lin a b < 0 ∧ 0 < lin c d) ∨ (((0 < lin a b ∧ 0 < lin c d) ∨ (lin a b < 0 ∧ lin c d < 0)) ∧ crs a b c d < 0) := by
  rw [← comp_pos h1 h2]
  have := @comp_le a b c d
  omega
theorem comp_three {a b c d : Int} : compI a b c d = -1 ∨ compI a b c d = 0 ∨ compI a b c d = 1 := by
  unfold compI
  (repeat' split) <;> omega
theorem comp_zero {a b c d : Int} (h1 : compI a b c d ≠ -1) (h2 : compI a b c d ≠ 1) : compI a b c d = 0 := by
  have := @comp_three a b c d
  omega
theorem alike_iff {a b c d : Int} (h1 : dirB a b = true) (h2 : dirB c d = true) : alikeP a b c d ↔ crs a b c d = 0 ∧ ((0 < lin a b ∧ 0 < lin c d) ∨ (lin a b < 0 ∧ lin c d < 0)) := by
  unfold alikeP
  have n1 := (lin_up h1).2
  have n2 := (lin_up h2).2
  rw [dirB_iff] at h1
  have hp : 0 < a * a + b * b := by
    have q1 := sq_nn a
    have q2 := sq_nn b
    rcases Int.lt_or_le 0 (a * a + b * b) with h | h
    · exact h
    · have z1 : a * a = 0 := by omega
      have z2 : b * b = 0 := by omega
      have := Int.mul_eq_zero.mp z1
      have := Int.mul_eq_zero.mp z2
      omega
  constructor
  · rintro ⟨h, hd⟩
    refine ⟨h, ?_⟩
    have e : (a * a + b * b) * lin c d = (a * c + b * d) * lin a b := by unfold crs at h; unfold lin; grind
    have := mul_sign hp hd e
    omega
  · rintro ⟨h, hl⟩
    refine ⟨h, ?_⟩
    have e : (a * a + b * b) * lin c d = (a * c + b * d) * lin a b := by unfold crs at h; unfold lin; grind
    have s1 := sign_mul (k := (a * a + b * b) * lin c d) rfl
    have s2 := sign_mul e
    omega
/-! Signs -/
def sg (z : Int) : Ordering := if z < 0 then .lt else if z = 0 then .eq else .gt
def ms (u : Ordering) (m : Bool) : Ordering := if m then u else u.swap
/-- Signs that two numbers and their sum can have. -/
def consB (a b c : Ordering) : Bool := match a, b with
  | .gt, .lt => true
  | .lt, .gt => true
  | .eq, b => b == c
  | a, _ => a == c
def compS (l m : Bool) (w : Ordering) : Ordering := if l then (if m then w.swap else .lt) else (if m then .gt else w.swap)
def alikeS (l m : Bool) (w : Ordering) : Bool := (w == .eq) && (l == m)
def hasS (l m o : Bool) (u v w : Ordering) : Bool := match compS l m w with
  | .lt => (compS l o u != .gt) && (compS m o v.swap == .gt)
  | .gt => (compS l o u != .gt) || (compS m o v.swap == .gt)
  | .eq => true
def refS (l m o : Bool) (u v w : Ordering) : Bool := alikeS l m w || (alikeS l o u || (!alikeS m o v && (if u == .gt then (v == .gt) || (w != .gt) else (v == .gt) && (w == .lt))))
theorem sign_law : ∀ (l m o : Bool) (u v w : Ordering), consB (ms u m) (ms v l) (ms w o) = true → hasS l m o u v w = refS l m o u v w := by
  intro l m o u v w
  cases l <;> cases m <;> cases o <;> cases u <;> cases v <;> cases w <;> decide
theorem sg_lt {z : Int} : sg z = .lt ↔ z < 0 := by unfold sg; (repeat' split) <;> simp <;> omega
theorem sg_eq {z : Int} : sg z = .eq ↔ z = 0 := by unfold sg; (repeat' split) <;> simp <;> omega
theorem sg_gt {z : Int} : sg z = .gt ↔ 0 < z := by unfold sg; (repeat' split) <;> simp <;> omega
theorem sg_neg (z : Int) : sg (-z) = (sg z).swap := by
  rcases Int.lt_trichotomy z 0 with h | h | h
  · rw [sg_lt.mpr h, sg_gt.mpr (show 0 < -z by omega)]; rfl
  · subst h; rfl
  · rw [sg_gt.mpr h, sg_lt.mpr (show -z < 0 by omega)]; rfl
theorem sg_mul {u m : Int} (hm : m ≠ 0) : sg (u * m) = ms (sg u) (decide (0 < m)) := by
  have s := sign_mul (k := u * m) rfl
  unfold ms
  rcases Int.lt_trichotomy u 0 with h | h | h <;> rcases Int.lt_or_lt_of_ne hm with g | g
  · rw [sg_lt.mpr h, decide_eq_false (by omega), sg_gt.mpr (by omega)]; rfl
  · rw [sg_lt.mpr h, decide_eq_true g, sg_lt.mpr (by omega)]; rfl
  · rw [sg_eq.mpr h, sg_eq.mpr (by omega)]; split <;> rfl
  · rw [sg_eq.mpr h, sg_eq.mpr (by omega)]; split <;> rfl
  · rw [sg_gt.mpr h, decide_eq_false (by omega), sg_lt.mpr (by omega)]; rfl
  · rw [sg_gt.mpr h, decide_eq_true g, sg_gt.mpr (by omega)]; rfl
theorem sg_sum {a b c : Int} (h : a + b = c) : consB (sg a) (sg b) (sg c) = true := by
  rcases Int.lt_trichotomy a 0 with ha | ha | ha <;> rcases Int.lt_trichotomy b 0 with hb | hb | hb
  · rw [sg_lt.mpr ha, sg_lt.mpr hb, sg_lt.mpr (show c < 0 by omega)]; rfl
  · rw [sg_lt.mpr ha, sg_eq.mpr hb, sg_lt.mpr (show c < 0 by omega)]; rfl
  · rw [sg_lt.mpr ha, sg_gt.mpr hb]; rfl
  · rw [sg_eq.mpr ha, sg_lt.mpr hb, sg_lt.mpr (show c < 0 by omega)]; rfl
  · rw [sg_eq.mpr ha, sg_eq.mpr hb, sg_eq.mpr (show c = 0 by omega)]; rfl
  · rw [sg_eq.mpr ha, sg_gt.mpr hb, sg_gt.mpr (show 0 < c by omega)]; rfl
  · rw [sg_gt.mpr ha, sg_lt.mpr hb]; rfl
  · rw [sg_gt.mpr ha, sg_eq.mpr hb, sg_gt.mpr (show 0 < c by omega)]; rfl
  · rw [sg_gt.mpr ha, sg_gt.mpr hb, sg_gt.mpr (show 0 < c by omega)]; rfl
theorem comp_sg {a b c d : Int} (h1 : dirB a b = true) (h2 : dirB c d = true) : sg (compI a b c d) = compS (decide (0 < lin a b)) (decide (0 < lin c d)) (sg (crs a b c d)) := by
  have n1 := (lin_up h1).2
  have n2 := (lin_up h2).2
  have c1 := comp_neg h1 h2
  have c2 := comp_one h1 h2
  have c3 := @comp_le a b c d
  unfold compS
  by_cases l : 0 < lin a b <;> by_cases m : 0 < lin c d
  · rw [decide_eq_true l, decide_eq_true m]
    rcases Int.lt_trichotomy (crs a b c d) 0 with k | k | k
    · rw [sg_lt.mpr k, sg_gt.mpr (by omega)]; rfl
    · rw [sg_eq.mpr k, sg_eq.mpr (comp_zero (by omega) (by omega))]; rfl
    · rw [sg_gt.mpr k, sg_lt.mpr (by omega)]; rfl
  · rw [decide_eq_true l, decide_eq_false m, sg_lt.mpr (by omega)]; rfl
  · rw [decide_eq_false l, decide_eq_true m, sg_gt.mpr (by omega)]; rfl
  · rw [decide_eq_false l, decide_eq_false m]
    rcases Int.lt_trichotomy (crs a b c d) 0 with k | k | k
    · rw [sg_lt.mpr k, sg_gt.mpr (by omega)]; rfl
    · rw [sg_eq.mpr k, sg_eq.mpr (comp_zero (by omega) (by omega))]; rfl
    · rw [sg_gt.mpr k, sg_lt.mpr (by omega)]; rfl
theorem alike_sg {a b c d : Int} (h1 : dirB a b = true) (h2 : dirB c d = true) : decide (alikeP a b c d) = alikeS (decide (0 < lin a b)) (decide (0 < lin c d)) (sg (crs a b c d)) := by
  have n1 := (lin_up h1).2
  have n2 := (lin_up h2).2
  rw [Bool.eq_iff_iff, decide_eq_true_eq, alike_iff h1 h2]
  unfold alikeS
  rw [Bool.and_eq_true, beq_iff_eq, beq_iff_eq, sg_eq, decide_eq_decide]
  omega
theorem has_eq {a b c d x y : Int} (h1 : dirB a b = true) (h2 : dirB c d = true) (h3 : dirB x y = true) : hasB a b c d x y = decide (hasP a b c d x y) := by
  have n1 := (lin_up h1).2
  have n2 := (lin_up h2).2
  have n3 := (lin_up h3).2
  have e : crs a b x y * lin c d + crs x y c d * lin a b = crs a b c d * lin x y := by unfold crs lin; grind
  have hc := sg_sum e
  rw [sg_mul n2, sg_mul n1, sg_mul n3] at hc
  have r1 : crs c d x y = - crs x y c d := by unfold crs; grind
  have law := sign_law _ _ _ _ _ _ hc
  have hl : hasB a b c d x y = hasS (decide (0 < lin a b)) (decide (0 < lin c d)) (decide (0 < lin x y)) (sg (crs a b x y)) (sg (crs x y c d)) (sg (crs a b c d)) := by
    unfold hasS
    rw [← comp_sg h1 h2, ← comp_sg h1 h3, ← sg_neg, ← r1, ← comp_sg h2 h3]
    unfold hasB
    have b1 : decide (compI a b x y ≤ 0) = (sg (compI a b x y) != .gt) := by
      rw [Bool.eq_iff_iff, decide_eq_true_eq, bne_iff_ne, ne_eq, sg_gt]; omega
    have b2 : (!decide (compI c d x y ≤ 0)) = (sg (compI c d x y) == .gt) := by
      rw [Bool.eq_iff_iff, Bool.not_eq_true', decide_eq_false_iff_not, beq_iff_eq, sg_gt]; omega
    rw [b1, b2]
    have c0 := @comp_three a b c d
    by_cases p1 : compI a b c d = -1
    · rw [if_pos p1, sg_lt.mpr (show compI a b c d < 0 by omega)]
    · rw [if_neg p1]
      by_cases p2 : compI a b c d = 1
      · rw [if_pos p2, sg_gt.mpr (show 0 < compI a b c d by omega)]
      · rw [if_neg p2, sg_eq.mpr (show compI a b c d = 0 by omega)]
  rw [hl, law]
  unfold refS
  have a3 : alikeP c d x y ↔ crs x y c d = 0 ∧ ((0 < lin c d ∧ 0 < lin x y) ∨ (lin c d < 0 ∧ lin x y < 0)) := by
    rw [alike_iff h2 h3, r1]; omega
  have a3' : alikeS (decide (0 < lin c d)) (decide (0 < lin x y)) (sg (crs x y c d)) = decide (alikeP c d x y) := by
    rw [Bool.eq_iff_iff, decide_eq_true_eq, a3]
    unfold alikeS
    rw [Bool.and_eq_true, beq_iff_eq, beq_iff_eq, sg_eq, decide_eq_decide]
    omega
  rw [← alike_sg h1 h2, ← alike_sg h1 h3, a3']
  rw [Bool.eq_iff_iff, decide_eq_true_eq]
  unfold hasP
  simp only [Bool.or_eq_true, Bool.and_eq_true, Bool.not_eq_true', decide_eq_true_eq, decide_eq_false_iff_not]
  by_cases q : 0 < crs a b x y
  · rw [if_pos q, if_pos (beq_iff_eq.mpr (sg_gt.mpr q))]
    simp only [Bool.or_eq_true, beq_iff_eq, bne_iff_ne, ne_eq, sg_gt, Int.not_lt]
  · rw [if_neg q, if_neg (fun h => q (sg_gt.mp (beq_iff_eq.mp h)))]
    simp only [Bool.and_eq_true, beq_iff_eq, sg_gt, sg_lt]
end Go.Proofs.Ytglepdhapakmbaa
/- Chapter 07: lights: safer is what it should be between the turns; the law FeatureStands. -/
namespace Go.Proofs.Ytglepdhapakmbaa
open Go.RowKit
def leD (p q : Int × Int) : Prop := compI p.1 p.2 q.1 q.2 ≤ 0
def okD (p : Int × Int) : Prop := dirB p.1 p.2 = true
theorem leD_iff {p q : Int × Int} (hp : okD p) (hq : okD q) : leD p q ↔ (0 < lin p.1 p.2 ∧ lin q.1 q.2 < 0) ∨ (((0 < lin p.1 p.2 ∧ 0 < lin q.1 q.2) ∨ (lin p.1 p.2 < 0 ∧ lin q.1 q.2 < 0)) ∧ 0 ≤ crs p.1 p.2 q.1 q.2) := by
  unfold leD
  rw [comp_le, comp_one hp hq]
  have h1 := (lin_up hp).2
  have h2 := (lin_up hq).2
  omega
theorem leD_trans {p q r : Int × Int} (hp : okD p) (hq : okD q) (hr : okD r) (h1 : leD p q) (h2 : leD q r) : leD p r := by
  rw [leD_iff hp hq] at h1
  rw [leD_iff hq hr] at h2
  rw [leD_iff hp hr]
  have e : crs p.1 p.2 r.1 r.2 * lin q.1 q.2 = crs p.1 p.2 q.1 q.2 * lin r.1 r.2 + crs q.1 q.2 r.1 r.2 * lin p.1 p.2 := by unfold crs lin; grind
  have n1 := (lin_up hp).2
  have n2 := (lin_up hq).2
  have n3 := (lin_up hr).2
  generalize crs p.1 p.2 r.1 r.2 = a at *
  generalize crs p.1 p.2 q.1 q.2 = b at *
  generalize crs q.1 q.2 r.1 r.2 = c at *
  generalize lin p.1 p.2 = P at *
  generalize lin q.1 q.2 = Q at *
  generalize lin r.1 r.2 = R at *
  by_cases g : (0 < P ∧ 0 < Q ∧ 0 < R) ∨ (P < 0 ∧ Q < 0 ∧ R < 0)
  · refine .inr ⟨by omega, ?_⟩
    rcases g with g | g
    · have a1 := Int.mul_nonneg (show 0 ≤ b by omega) (show 0 ≤ R by omega)
      have a2 := Int.mul_nonneg (show 0 ≤ c by omega) (show 0 ≤ P by omega)
      rcases Int.lt_or_le a 0 with z | z
      · have := Int.mul_neg_of_neg_of_pos z g.2.1; omega
      · exact z
    · have a1 := Int.mul_nonneg (show 0 ≤ b by omega) (show 0 ≤ -R by omega)
      have a2 := Int.mul_nonneg (show 0 ≤ c by omega) (show 0 ≤ -P by omega)
      rw [Int.mul_neg] at a1 a2
      rcases Int.lt_or_le a 0 with z | z
      · have := Int.mul_pos_of_neg_of_neg z g.2.1; omega
      · exact z
  · omega
theorem leD_total {p q : Int × Int} (hp : okD p) (hq : okD q) : leD p q ∨ leD q p := by
  rw [leD_iff hp hq, leD_iff hq hp]
  have e : crs q.1 q.2 p.1 p.2 = - crs p.1 p.2 q.1 q.2 := by unfold crs; grind
  have n1 := (lin_up hp).2
  have n2 := (lin_up hq).2
  omega
/-- The last one of those that are so. -/
theorem last_of (f : Nat → Int × Int) (P : Nat → Prop) : ∀ n, (∀ k, k < n → okD (f k)) → (∃ k, k < n ∧ P k) → ∃ k, k < n ∧ P k ∧ ∀ i, i < n → P i → leD (f i) (f k)
  | 0, _, ⟨k, hk, _⟩ => by omega
  | n + 1, hok, hex => by
    rcases Classical.em (∃ k, k < n ∧ P k) with h | h
    · obtain ⟨k, hk, hp, hm⟩ := last_of f P n (fun i hi => hok i (by omega)) h
      rcases Classical.em (P n ∧ ¬ leD (f n) (f k)) with g | g
      · have hle : leD (f k) (f n) := (leD_total (hok k (by omega)) (hok n (by omega))).resolve_right g.2
        refine ⟨n, by omega, g.1, fun i hi hpi => ?_⟩
        by_cases e : i = n
        · subst e
          rcases leD_total (hok i (by omega)) (hok i (by omega)) with q | q <;> exact q
        · exact leD_trans (hok i hi) (hok k (by omega)) (hok n (by omega)) (hm i (by omega) hpi) hle
      · refine ⟨k, by omega, hp, fun i hi hpi => ?_⟩
        by_cases e : i = n
        · subst e
          rcases Classical.em (leD (f i) (f k)) with q | q
          · exact q
          · exact absurd ⟨hpi, q⟩ g
        · exact hm i (by omega) hpi
    · obtain ⟨k, hk, hp⟩ := hex
      have e : k = n := by
        by_cases e : k = n
        · exact e
        · exact absurd ⟨k, by omega, hp⟩ h
      subst e
      refine ⟨k, by omega, hp, fun i hi hpi => ?_⟩
      by_cases e : i = k
      · subst e
        rcases leD_total (hok i hi) (hok i hi) with q | q <;> exact q
      · exact absurd ⟨i, by omega, hpi⟩ h
/-- The turns of a list of sectors. -/
def turnD (r : Rows) (k : Nat) : Int × Int := (lg r (k / 2 : Nat) (2 * (k % 2)), lg r (k / 2 : Nat) (2 * (k % 2) + 1))
theorem turn_even (r : Rows) (i : Nat) : turnD r (2 * i) = (lg r i 0, lg r i 1) := by
  unfold turnD
  rw [show 2 * i / 2 = i by omega, show 2 * i % 2 = 0 by omega]
theorem turn_odd (r : Rows) (i : Nat) : turnD r (2 * i + 1) = (lg r i 2, lg r i 3) := by
  unfold turnD
  rw [show (2 * i + 1) / 2 = i by omega, show (2 * i + 1) % 2 = 1 by omega]
/-- All directions of a list are directions. -/
def dirsOk (r : Rows) : Prop := ∀ k, k < 2 * r.length → okD (turnD r k)
theorem has_by {a b c d x y x' y' : Int} (h1 : compI a b x y ≤ 0 ↔ compI a b x' y' ≤ 0) (h2 : compI c d x y ≤ 0 ↔ compI c d x' y' ≤ 0) : hasB a b c d x y = hasB a b c d x' y' := by
  unfold hasB
  simp only [h1, h2]
theorem has_none {a b c d x y x' y' : Int} (h1 : ¬ compI a b x y ≤ 0) (h2 : ¬ compI c d x y ≤ 0) (h3 : compI a b x' y' ≤ 0) (h4 : compI c d x' y' ≤ 0) : hasB a b c d x y = hasB a b c d x' y' := by
  unfold hasB
  simp only [h1, h2, h3, h4]
  (repeat' split) <;> simp_all
/-- Some turn has the same sectors as a direction. -/
theorem turn_like {r : Rows} (hr : dirsOk r) (hl : 0 < r.length) {x y : Int} (hv : dirB x y = true) : ∃ k, k < 2 * r.length ∧ ∀ i, i < r.length → hasB (lg r i 0) (lg r i 1) (lg r i 2) (lg r i 3) x y = hasB (lg r i 0) (lg r i 1) (lg r i 2) (lg r i 3) (turnD r k).1 (turnD r k).2 := by
  have hv' : okD (x, y) := hv
  rcases Classical.em (∃ k, k < 2 * r.length ∧ leD (turnD r k) (x, y)) with h | h
  · obtain ⟨k, hk, hle, hm⟩ := last_of (turnD r) (fun k => leD (turnD r k) (x, y)) _ hr h
    refine ⟨k, hk, fun i hi => ?_⟩
    have key : ∀ j, j < 2 * r.length → (leD (turnD r j) (x, y) ↔ leD (turnD r j) (turnD r k)) := fun j hj => ⟨fun q => hm j hj q, fun q => leD_trans (hr j hj) (hr k hk) hv' q hle⟩
    have k1 := key (2 * i) (by omega)
    have k2 := key (2 * i + 1) (by omega)
    rw [turn_even] at k1
    rw [turn_odd] at k2
    exact has_by k1 k2
  · obtain ⟨k, hk, _, hm⟩ := last_of (turnD r) (fun _ => True) _ hr ⟨0, by omega, trivial⟩
    refine ⟨k, hk, fun i hi => ?_⟩
    have k1 := hm (2 * i) (by omega) trivial
    have k2 := hm (2 * i + 1) (by omega) trivial
    have n1 : ¬ leD (turnD r (2 * i)) (x, y) := fun q => h ⟨_, by omega, q⟩
    have n2 : ¬ leD (turnD r (2 * i + 1)) (x, y) := fun q => h ⟨_, by omega, q⟩
    rw [turn_even] at k1 n1
    rw [turn_odd] at k2 n2
    exact has_none n1 n2 k1 k2
theorem shI_congr {r : Rows} {x y x' y' : Int} : ∀ (f i : Nat), (∀ k, i ≤ k → k < i + f → hasB (lg r k 0) (lg r k 1) (lg r k 2) (lg r k 3) x y = hasB (lg r k 0) (lg r k 1) (lg r k 2) (lg r k 3) x' y') → shI r x y f i = shI r x' y' f i
  | 0, i, _ => rfl
  | f + 1, i, h => by rw [shI, shI, h i (by omega) (by omega), shI_congr f (i + 1) (fun k g1 g2 => h k (by omega) (by omega))]
theorem lg_left {r s : Rows} {i c : Nat} (h : i < r.length) : lg (r ++ s) i c = lg r i c := by
  unfold lg cellAt
  rw [Int.toNat_natCast, List.getElem?_append_left h]
theorem lg_right {r s : Rows} {i c : Nat} : lg (r ++ s) (r.length + i : Nat) c = lg s i c := by
  unfold lg cellAt
  rw [Int.toNat_natCast, Int.toNat_natCast, List.getElem?_append_right (by omega), show r.length + i - r.length = i by omega]
theorem dirs_app {r s : Rows} (hr : dirsOk r) (hs : dirsOk s) : dirsOk (r ++ s) := fun k hk => by
  rw [List.length_append] at hk
  unfold turnD
  rcases Nat.lt_or_ge (k / 2) r.length with q | q
  · rw [lg_left q, lg_left q]
    exact hr k (by omega)
  · obtain ⟨j, hj⟩ : ∃ j, k / 2 = r.length + j := ⟨k / 2 - r.length, by omega⟩
    rw [hj, lg_right, lg_right]
    have := hs (2 * j + k % 2) (by omega)
    unfold turnD at this
    rw [show (2 * j + k % 2) / 2 = j by omega, show (2 * j + k % 2) % 2 = k % 2 by omega] at this
    exact this
theorem secs_dirs {r : Rows} (h : secsB r = true) : dirsOk r := by
  simp only [secsB, Bool.and_eq_true] at h
  have key : ∀ (f i : Nat), secN r f i = true → ∀ k, i ≤ k → k < i + f → secRow r k = true := by
    intro f
    induction f with
    | zero => intro i _ k h1 h2; omega
    | succ f ih =>
      intro i h k h1 h2
      simp only [secN, Bool.and_eq_true] at h
      by_cases e : k = i
      · subst e; exact h.1.1
      · exact ih (i + 1) h.2 k (by omega) (by omega)
  intro k hk
  have := key _ 0 h.1 (k / 2) (by omega) (by omega)
  unfold secRow secB at this
  rw [decide_eq_true_eq] at this
  unfold okD turnD
  rw [dirB_iff]
  have hm : k % 2 = 0 ∨ k % 2 = 1 := by omega
  rcases hm with e | e
  · rw [e]; simp only [Nat.mul_zero, Nat.zero_add]; omega
  · rw [e]; simp only [Nat.mul_one, Nat.reduceAdd]; omega
/-- What no turn shows to be safer, no direction does. -/
theorem safer_all {a b : Rows} (ha : secsB a = true) (hb : secsB b = true) (h : saferX a b = false) {x y : Int} (hv : dirB x y = true) : wrD b a x y = false := by
  have hs : ∀ (f i : Nat), sfN b a (b ++ a) f i = false → ∀ k, i ≤ k → k < i + f → wrD b a (lg (b ++ a) k 0) (lg (b ++ a) k 1) = false ∧ wrD b a (lg (b ++ a) k 2) (lg (b ++ a) k 3) = false := by
    intro f
    induction f with
    | zero => intro i _ k h1 h2; omega
    | succ f ih =>
      intro i h k h1 h2
      simp only [sfN, Bool.or_eq_false_iff] at h
      by_cases e : k = i
      · subst e; exact ⟨h.1, h.2.1⟩
      · exact ih (i + 1) h.2.2 k (by omega) (by omega)
  rcases Nat.eq_zero_or_pos (b ++ a).length with h0 | h0
  · have hb0 : b.length = 0 := by rw [List.length_append] at h0; omega
    have : shC b x y = 0 := by unfold shC; rw [if_neg (by omega)]
    unfold wrD
    rw [this]; rfl
  · obtain ⟨k, hk, hl⟩ := turn_like (dirs_app (secs_dirs hb) (secs_dirs ha)) h0 hv
    have eb : shI b x y b.length 0 = shI b (turnD (b ++ a) k).1 (turnD (b ++ a) k).2 b.length 0 := shI_congr _ 0 (fun i _ hi => by
      have := hl i (by rw [List.length_append]; omega)
      rw [lg_left (by omega), lg_left (by omega), lg_left (by omega), lg_left (by omega)] at this
      exact this)
    have ea : shI a x y a.length 0 = shI a (turnD (b ++ a) k).1 (turnD (b ++ a) k).2 a.length 0 := shI_congr _ 0 (fun i _ hi => by
      have := hl (b.length + i) (by rw [List.length_append]; omega)
      rw [lg_right, lg_right, lg_right, lg_right] at this
      exact this)
    have hw : wrD b a x y = wrD b a (turnD (b ++ a) k).1 (turnD (b ++ a) k).2 := by
      unfold wrD shC shR
      rw [ea, eb]
    rw [hw]
    have hk2 := hs _ 0 h (k / 2) (by omega) (by omega)
    have hm : k % 2 = 0 ∨ k % 2 = 1 := by omega
    unfold turnD
    rcases hm with e | e
    · rw [e]; exact hk2.1
    · rw [e]; exact hk2.2
theorem safer_trans {a b c : Rows} (ha : secsB a = true) (hb : secsB b = true) (hc : secsB c = true) (h1 : saferX a b = false) (h2 : saferX b c = false) : saferX a c = false := by
  have hw : ∀ x y, dirB x y = true → wrD c a x y = false := fun x y hv => by
    have g1 := safer_all ha hb h1 hv
    have g2 := safer_all hb hc h2 hv
    unfold wrD at g1 g2 ⊢
    simp only [Bool.and_eq_false_iff, Bool.or_eq_false_iff, decide_eq_false_iff_not] at g1 g2 ⊢
    omega
  have hd := dirs_app (secs_dirs hc) (secs_dirs ha)
  have hs : ∀ (f i : Nat), i + f ≤ (c ++ a).length → sfN c a (c ++ a) f i = false := by
    intro f
    induction f with
    | zero => intro i _; rfl
    | succ f ih =>
      intro i hi
      have k1 := hd (2 * i) (by omega)
      have k2 := hd (2 * i + 1) (by omega)
      rw [turn_even] at k1
      rw [turn_odd] at k2
      rw [sfN, hw _ _ k1, hw _ _ k2, ih (i + 1) (by omega)]
      rfl
  exact hs _ 0 (by omega)
end Go.Proofs.Ytglepdhapakmbaa
