/- MQ, merged: Qa, Qb, Qc, Qd, Qe, Qf, Qg, Qh, Qi, Qj. -/
import Derived.Test.YtglepdhapakmbaaMP
set_option linter.unusedSimpArgs false
set_option linter.unusedVariables false
/- Plane geometry, no program: a simple polygon with an area above 0 has its inside on the left of each edge. -/
namespace Go.Proofs.Ytglepdhapakmbaa
open Go.RowKit

/-! ### Sums -/
theorem sumZ_add (f g : Nat → Int) : ∀ n, sumZ (fun k => f k + g k) n = sumZ f n + sumZ g n
  | 0 => rfl
  | n + 1 => by simp only [sumZ, sumZ_add f g n]; omega
theorem sumZ_mul (c : Int) (f : Nat → Int) : ∀ n, sumZ (fun k => c * f k) n = c * sumZ f n
  | 0 => by simp [sumZ]
  | n + 1 => by simp only [sumZ, sumZ_mul c f n, Int.mul_add]
theorem sumZ_comm (f : Nat → Nat → Int) (m : Nat) : ∀ n, sumZ (fun k => sumZ (fun j => f k j) m) n = sumZ (fun j => sumZ (fun k => f k j) n) m
  | 0 => by simp only [sumZ]; exact (sumZ_zero m (fun _ _ => rfl)).symm
  | n + 1 => by
    simp only [sumZ]
    rw [sumZ_comm f m n, ← sumZ_add]
theorem sumZ_pos {f : Nat → Int} : ∀ n, 0 < sumZ f n → ∃ k, k < n ∧ 0 < f k
  | 0, h => by simp [sumZ] at h
  | n + 1, h => by
    simp only [sumZ] at h
    by_cases q : 0 < f n
    · exact ⟨n, by omega, q⟩
    · obtain ⟨k, hk, hp⟩ := sumZ_pos n (show 0 < sumZ f n by omega)
      exact ⟨k, by omega, hp⟩
/-- How many of the numbers from m on are less than x. -/
theorem count_below (m x : Int) : ∀ (L : Nat), m ≤ x → x ≤ m + L → sumZ (fun t => if m + t < x then (1 : Int) else 0) L = x - m := by
  have aux : ∀ (L : Nat), m ≤ x → sumZ (fun t => if m + t < x then (1 : Int) else 0) L = if x ≤ m + L then x - m else L := by
    intro L hm
    induction L with
    | zero => simp only [sumZ]; split <;> omega
    | succ n ih =>
      simp only [sumZ, ih]
      (repeat' split) <;> omega
  intro L h1 h2
  rw [aux L h1, if_pos h2]
/-- The sum of the odd numbers. -/
theorem odd_sum : ∀ h : Nat, sumZ (fun i => 2 * (i : Int) + 1) h = (h : Int) * h
  | 0 => rfl
  | h + 1 => by simp only [sumZ, odd_sum h]; grind

section
variable {X Y : Nat → Int} {n : Nat}
/-- Twice the area. -/
def area2 (X Y : Nat → Int) (n : Nat) : Int := sumZ (fun k => X k * Y (nxt n k) - Y k * X (nxt n k)) n
theorem area_trap (hn : 0 < n) : area2 X Y n = sumZ (fun k => (X k + X (nxt n k)) * (Y (nxt n k) - Y k)) n := by
  have h := sumZ_tele (fun k => X k * Y k) hn
  have e : sumZ (fun k => (X k + X (nxt n k)) * (Y (nxt n k) - Y k)) n = sumZ (fun k => (X k * Y (nxt n k) - Y k * X (nxt n k)) + ((fun k => X k * Y k) (nxt n k) - (fun k => X k * Y k) k)) n :=
    sumZ_congr n (fun k _ => by dsimp only; grind)
  rw [e, sumZ_add, h, area2]; omega
/-- Is a corner at most at the level j? -/
def uL (Y : Nat → Int) (j : Int) (k : Nat) : Int := if Y k ≤ j then 1 else 0
/-- Where an edge crosses the middle of the strip above j, all lengths times 2 D. -/
def xL (X Y : Nat → Int) (n : Nat) (D : Int) (e : Nat → Int) (j : Int) (k : Nat) : Int := 2 * D * X k + (X (nxt n k) - X k) * e k * (2 * j + 1 - 2 * Y k)
/-- One edge's share of the area, strip by strip. -/
theorem edge_strips {D : Int} {e : Nat → Int} {B : Int} {T : Nat} {k : Nat} (he : D = (Y (nxt n k) - Y k) * e k) (h1 : -B ≤ Y k ∧ Y k ≤ -B + T) (h2 : -B ≤ Y (nxt n k) ∧ Y (nxt n k) ≤ -B + T) :
    sumZ (fun t => (uL Y (-B + t) k - uL Y (-B + t) (nxt n k)) * xL X Y n D e (-B + t) k) T = D * ((X k + X (nxt n k)) * (Y (nxt n k) - Y k)) := by
  -- the sum up to a level, in closed form
  have aux : ∀ (a b : Int) (T : Nat), -B ≤ a → a ≤ b → ∀ (p q : Int), sumZ (fun t => (if a ≤ -B + (t : Int) ∧ -B + (t : Int) < b then p + q * (2 * (-B + t) + 1) else 0)) T =
      if -B + T ≤ a then 0 else if -B + T ≤ b then p * (-B + T - a) + q * ((-B + T) * (-B + T) - a * a) else p * (b - a) + q * (b * b - a * a) := by
    intro a b T ha hab p q
    induction T with
    | zero => simp only [sumZ]; rw [if_pos (by omega)]
    | succ T ih =>
      simp only [sumZ, ih]
      by_cases c1 : -B + (T : Int) < a
      · rw [if_pos (by omega), if_neg (by omega), if_pos (by omega)]; rfl
      · by_cases c2 : -B + (T : Int) < b
        · rw [if_pos (show a ≤ -B + (T : Int) ∧ -B + (T : Int) < b by omega), if_neg (show ¬ -B + ((T + 1 : Nat) : Int) ≤ a by omega), if_pos (show -B + ((T + 1 : Nat) : Int) ≤ b by omega)]
          by_cases c3 : -B + (T : Int) ≤ a
          · rw [if_pos c3]
            have : a = -B + (T : Int) := by omega
            subst this
            push_cast
            grind
          · rw [if_neg c3, if_pos (by omega)]
            push_cast
            grind
        · rw [if_neg (show ¬ (a ≤ -B + (T : Int) ∧ -B + (T : Int) < b) by omega)]
          by_cases c4 : -B + ((T : Nat) : Int) = a
          · have : a = b := by omega
            subst this
            rw [if_pos (by omega), if_neg (by push_cast; omega), if_neg (by push_cast; omega)]
            grind
          · by_cases c5 : -B + ((T : Nat) : Int) = b
            · rw [if_neg (by omega), if_pos (by omega), if_neg (by push_cast; omega), if_neg (by push_cast; omega), c5]; omega
            · rw [if_neg (by omega), if_neg (by omega), if_neg (by push_cast; omega), if_neg (by push_cast; omega)]; omega
  rcases Int.le_total (Y k) (Y (nxt n k)) with h | h
  · have e1 : sumZ (fun t => (uL Y (-B + t) k - uL Y (-B + t) (nxt n k)) * xL X Y n D e (-B + t) k) T = sumZ (fun t => (if Y k ≤ -B + (t : Int) ∧ -B + (t : Int) < Y (nxt n k) then (2 * D * X k - (X (nxt n k) - X k) * e k * (2 * Y k)) + ((X (nxt n k) - X k) * e k) * (2 * (-B + t) + 1) else 0)) T :=
      sumZ_congr T (fun t _ => by
        unfold uL xL
        by_cases c1 : Y k ≤ -B + (t : Int)
        · by_cases c2 : -B + (t : Int) < Y (nxt n k)
          · rw [if_pos c1, if_neg (by omega), if_pos ⟨c1, c2⟩]; grind
          · rw [if_pos c1, if_pos (by omega), if_neg (by omega)]; omega
        · rw [if_neg c1, if_neg (by omega), if_neg (by omega)]; omega)
    rw [e1, aux _ _ _ h1.1 h]
    by_cases c : -B + (T : Int) ≤ Y k
    · rw [if_pos c]
      have : Y (nxt n k) = Y k := by omega
      rw [this]; grind
    · rw [if_neg c]
      by_cases c' : -B + (T : Int) ≤ Y (nxt n k)
      · rw [if_pos c']
        have : -B + (T : Int) = Y (nxt n k) := by omega
        rw [this, he]; grind
      · rw [if_neg c', he]; grind
  · have e1 : sumZ (fun t => (uL Y (-B + t) k - uL Y (-B + t) (nxt n k)) * xL X Y n D e (-B + t) k) T = sumZ (fun t => (if Y (nxt n k) ≤ -B + (t : Int) ∧ -B + (t : Int) < Y k then -(2 * D * X k - (X (nxt n k) - X k) * e k * (2 * Y k)) + (-((X (nxt n k) - X k) * e k)) * (2 * (-B + t) + 1) else 0)) T :=
      sumZ_congr T (fun t _ => by
        unfold uL xL
        by_cases c1 : Y (nxt n k) ≤ -B + (t : Int)
        · by_cases c2 : -B + (t : Int) < Y k
          · rw [if_neg (by omega), if_pos c1, if_pos ⟨c1, c2⟩]; grind
          · rw [if_pos (by omega), if_pos c1, if_neg (by omega)]; omega
        · rw [if_neg (by omega), if_neg (by omega), if_neg (by omega)]; omega)
    rw [e1, aux _ _ _ h2.1 h]
    by_cases c : -B + (T : Int) ≤ Y (nxt n k)
    · rw [if_pos c]
      have : Y (nxt n k) = Y k := by omega
      rw [this]; grind
    · rw [if_neg c]
      by_cases c' : -B + (T : Int) ≤ Y k
      · rw [if_pos c']
        have : -B + (T : Int) = Y k := by omega
        rw [this, he]; grind
      · rw [if_neg c', he]; grind
end
end Go.Proofs.Ytglepdhapakmbaa
/- Plane geometry, no program: the orientation of a polygon; the winding number beside an edge. -/
namespace Go.Proofs.Ytglepdhapakmbaa
open Go.RowKit
theorem all_bound (f : Nat → Int) : ∀ n, ∃ (m : Int) (L : Nat), ∀ k, k < n → m ≤ f k ∧ f k ≤ m + L
  | 0 => ⟨0, 0, fun k h => by omega⟩
  | n + 1 => by
    obtain ⟨m, L, h⟩ := all_bound f n
    refine ⟨min m (f n), (max (m + L) (f n) - min m (f n)).toNat, fun k hk => ?_⟩
    by_cases e : k = n
    · subst e; omega
    · have := h k (by omega); omega
section
variable {X Y : Nat → Int} {n : Nat}
/-- All edges' factors. -/
theorem factors (Y : Nat → Int) (n : Nat) : ∃ e : Nat → Int, ∀ k, k < n → Y (nxt n k) ≠ Y k → hts Y n = (Y (nxt n k) - Y k) * e k := by
  have h : ∀ k, ∃ e, k < n → Y (nxt n k) ≠ Y k → hts Y n = (Y (nxt n k) - Y k) * e := fun k => by
    by_cases hk : k < n
    · by_cases hne : Y (nxt n k) = Y k
      · exact ⟨0, fun _ h => absurd hne h⟩
      · obtain ⟨e, he⟩ := hts_dvd Y n hk hne
        exact ⟨e, fun _ _ => he⟩
    · exact ⟨0, fun h => absurd h hk⟩
  exact ⟨fun k => Classical.choose (h k), fun k => Classical.choose_spec (h k)⟩
theorem area_levels (hn : 0 < n) {e : Nat → Int} (he : ∀ k, k < n → Y (nxt n k) ≠ Y k → hts Y n = (Y (nxt n k) - Y k) * e k) {B : Int} {T : Nat} (hB : ∀ k, k < n → -B ≤ Y k ∧ Y k ≤ -B + T) :
    hts Y n * area2 X Y n = sumZ (fun t => sumZ (fun k => (uL Y (-B + t) k - uL Y (-B + t) (nxt n k)) * xL X Y n (hts Y n) e (-B + t) k) n) T := by
  rw [area_trap hn, ← sumZ_mul, ← sumZ_comm]
  refine sumZ_congr n (fun k hk => ?_)
  by_cases h : Y (nxt n k) = Y k
  · rw [h, Int.sub_self, Int.mul_zero, Int.mul_zero]
    refine (sumZ_zero T (fun t _ => ?_)).symm
    unfold uL
    rw [h, Int.sub_self, Int.zero_mul]
  · exact (edge_strips (he k hk h) (hB k hk) (hB _ (nxt_lt hk))).symm
/-- An edge's crossing to the right of a place in the middle of a strip. -/
theorem sE_strip {e : Nat → Int} (he : ∀ k, k < n → Y (nxt n k) ≠ Y k → hts Y n = (Y (nxt n k) - Y k) * e k) {j q : Int} {k : Nat} (hk : k < n) :
    (Cr (fun k => 2 * hts Y n * Y k) n (2 * hts Y n * j + hts Y n) k → crossI (2 * hts Y n * X k) (2 * hts Y n * Y k) (2 * hts Y n * X (nxt n k)) (2 * hts Y n * Y (nxt n k)) (xL X Y n (hts Y n) e j k) (2 * hts Y n * j + hts Y n) = 0) ∧
    sE q (2 * hts Y n * j + hts Y n) (2 * hts Y n * X k) (2 * hts Y n * Y k) (2 * hts Y n * X (nxt n k)) (2 * hts Y n * Y (nxt n k)) = (uL Y j k - uL Y j (nxt n k)) * (if q < xL X Y n (hts Y n) e j k then 1 else 0) := by
  have hD := hts_pos Y n
  have he' := he k hk
  generalize hts Y n = D at *
  have lt : ∀ a : Int, 2 * D * a < 2 * D * j + D ↔ a ≤ j := fun a => by
    constructor
    · intro h
      rcases Int.lt_or_le j a with c | c
      · have := Int.mul_le_mul_of_nonneg_left (show j + 1 ≤ a by omega) (show 0 ≤ 2 * D by omega)
        rw [Int.mul_add] at this; omega
      · exact c
    · intro h
      have := Int.mul_le_mul_of_nonneg_left h (show 0 ≤ 2 * D by omega)
      omega
  have gt : ∀ a : Int, 2 * D * j + D < 2 * D * a ↔ j < a := fun a => by
    constructor
    · intro h
      rcases Int.lt_or_le j a with c | c
      · exact c
      · have := Int.mul_le_mul_of_nonneg_left c (show 0 ≤ 2 * D by omega)
        omega
    · intro h
      have := Int.mul_le_mul_of_nonneg_left (show j + 1 ≤ a by omega) (show 0 ≤ 2 * D by omega)
      rw [Int.mul_add] at this; omega
  have hcr : Cr (fun k => 2 * D * Y k) n (2 * D * j + D) k ↔ (Y k ≤ j ∧ j < Y (nxt n k)) ∨ (Y (nxt n k) ≤ j ∧ j < Y k) := by
    unfold Cr
    simp only [lt, gt]
  have hx : Cr (fun k => 2 * D * Y k) n (2 * D * j + D) k → crossI (2 * D * X k) (2 * D * Y k) (2 * D * X (nxt n k)) (2 * D * Y (nxt n k)) (xL X Y n D e j k) (2 * D * j + D) = 0 := fun h => by
    have hc := hcr.mp h
    have := he' (by omega)
    unfold crossI xL
    rw [this]
    grind
  refine ⟨hx, ?_⟩
  by_cases h : Cr (fun k => 2 * D * Y k) n (2 * D * j + D) k
  · have h1 := sE_level (X := fun k => 2 * D * X k) (q := q) h (hx h)
    rw [h1]
    have hc := hcr.mp h
    have hcmp : 2 * D * Y (nxt n k) < 2 * D * Y k ↔ Y (nxt n k) < Y k := ⟨fun h => Int.lt_of_mul_lt_mul_left h (by omega), fun h => Int.mul_lt_mul_of_pos_left h (by omega)⟩
    unfold uL
    by_cases q1 : q < xL X Y n D e j k
    · simp only [if_pos q1, hcmp]
      (repeat' split) <;> omega
    · simp only [if_neg q1, Int.mul_zero]
  · have hg : (fun k => 2 * D * Y k) k ≠ 2 * D * j + D ∧ (fun k => 2 * D * Y k) (nxt n k) ≠ 2 * D * j + D := by
      dsimp only
      constructor
      · intro h
        have := lt (Y k); have := gt (Y k); omega
      · intro h
        have := lt (Y (nxt n k)); have := gt (Y (nxt n k)); omega
    have h1 := sE_no (X := fun k => 2 * D * X k) (q := q) hg h
    rw [h1]
    have h' := mt hcr.mpr h
    have : uL Y j k = uL Y j (nxt n k) := by
      unfold uL
      (repeat' split) <;> omega
    rw [this, Int.sub_self, Int.zero_mul]
/-- A polygon with an area above 0 goes round some place. -/
theorem area_wind (hn : 0 < n) (ha : 0 < area2 X Y n) {e : Nat → Int} (he : ∀ k, k < n → Y (nxt n k) ≠ Y k → hts Y n = (Y (nxt n k) - Y k) * e k) :
    ∃ j q : Int, 0 < wind (fun k => 2 * hts Y n * X k) (fun k => 2 * hts Y n * Y k) n q (2 * hts Y n * j + hts Y n) := by
  obtain ⟨m0, T, hB⟩ := all_bound Y n
  have h1 := area_levels (X := X) hn he (B := -m0) (T := T) (fun k hk => by have := hB k hk; omega)
  have h2 : 0 < hts Y n * area2 X Y n := Int.mul_pos (hts_pos Y n) ha
  rw [h1] at h2
  obtain ⟨t, _, ht⟩ := sumZ_pos _ h2
  generalize (- -m0 + (t : Int)) = j at ht
  obtain ⟨m, L, hb⟩ := all_bound (fun k => xL X Y n (hts Y n) e j k) n
  have hz := sumZ_tele (uL Y j) hn
  have e1 : sumZ (fun i => wind (fun k => 2 * hts Y n * X k) (fun k => 2 * hts Y n * Y k) n (m + i) (2 * hts Y n * j + hts Y n)) L = sumZ (fun k => (uL Y j k - uL Y j (nxt n k)) * xL X Y n (hts Y n) e j k) n := by
    have e2 : sumZ (fun i => wind (fun k => 2 * hts Y n * X k) (fun k => 2 * hts Y n * Y k) n (m + i) (2 * hts Y n * j + hts Y n)) L = sumZ (fun i => sumZ (fun k => (uL Y j k - uL Y j (nxt n k)) * (if m + (i : Int) < xL X Y n (hts Y n) e j k then 1 else 0)) n) L :=
      sumZ_congr L (fun i _ => sumZ_congr n (fun k hk => (sE_strip he hk).2))
    rw [e2, ← sumZ_comm]
    have e3 : ∀ k, k < n → sumZ (fun i => (uL Y j k - uL Y j (nxt n k)) * (if m + (i : Int) < xL X Y n (hts Y n) e j k then 1 else 0)) L = (uL Y j k - uL Y j (nxt n k)) * xL X Y n (hts Y n) e j k + m * (uL Y j (nxt n k) - uL Y j k) := fun k hk => by
      have hbk := hb k hk
      rw [sumZ_mul, count_below m _ L hbk.1 hbk.2]
      grind
    rw [sumZ_congr n e3, sumZ_add, sumZ_mul, hz]; omega
  rw [← e1] at ht
  obtain ⟨i, _, hi⟩ := sumZ_pos _ ht
  exact ⟨j, m + i, hi⟩
theorem upE_scale {M ax ay bx b : Int} (hM : 0 < M) : upE (M * ax) (M * ay) (M * bx) (M * b) = upE ax ay bx b := by
  have l : ∀ u v : Int, M * u < M * v ↔ u < v := fun u v => ⟨fun h => Int.lt_of_mul_lt_mul_left h (by omega), fun h => Int.mul_lt_mul_of_pos_left h hM⟩
  have l2 : ∀ u v : Int, M * u = M * v ↔ u = v := fun u v => ⟨fun h => Int.eq_of_mul_eq_mul_left (by omega) h, fun h => by rw [h]⟩
  unfold upE
  simp only [l, l2]
theorem upE_01 (a b c d : Int) : upE a b c d = 0 ∨ upE a b c d = 1 := by unfold upE; split <;> omega
/-- On an edge: the inside is on the left. -/
theorem wind_on (hp : Simple X Y n) (ha : 0 < area2 X Y n) {j : Nat} (hj : j < n) {k s x y : Int} (hs : 0 < s) (hsk : s < k) (ho : On' k s (X j) (Y j) (X (nxt n j)) (Y (nxt n j)) x y) :
    wind X Y n x y + upE (X j) (Y j) (X (nxt n j)) (Y (nxt n j)) = 1 := by
  have hn : 0 < n := by have := hp.three; omega
  obtain ⟨e, he⟩ := factors Y n
  obtain ⟨l, q, hw⟩ := area_wind hn ha he
  have hD := hts_pos Y n
  have hM : 0 < 2 * hts Y n := by omega
  have hp2 := simple_scale hM hp
  have hev : ∀ k, k < n → 2 ∣ (fun k => 2 * hts Y n * X k) k ∧ 2 ∣ (fun k => 2 * hts Y n * Y k) k := fun k _ => ⟨⟨hts Y n * X k, by dsimp only; grind⟩, ⟨hts Y n * Y k, by dsimp only; grind⟩⟩
  have hSt : ∀ {q : Int} {k : Nat}, k < n → sE q (2 * hts Y n * l + hts Y n) (2 * hts Y n * X k) (2 * hts Y n * Y k) (2 * hts Y n * X (nxt n k)) (2 * hts Y n * Y (nxt n k)) = (uL Y l k - uL Y l (nxt n k)) * (if q < xL X Y n (hts Y n) e l k then 1 else 0) := fun hk => (sE_strip he hk).2
  have hXx : ∀ k, k < n → Cr (fun k => 2 * hts Y n * Y k) n (2 * hts Y n * l + hts Y n) k → crossI (2 * hts Y n * X k) (2 * hts Y n * Y k) (2 * hts Y n * X (nxt n k)) (2 * hts Y n * Y (nxt n k)) (xL X Y n (hts Y n) e l k) (2 * hts Y n * l + hts Y n) = 0 := fun k hk => (sE_strip (q := 0) he hk).1
  have hcr : ∀ k, Cr (fun k => 2 * hts Y n * Y k) n (2 * hts Y n * l + hts Y n) k ↔ uL Y l k - uL Y l (nxt n k) ≠ 0 := fun k => by
    have c1 : ∀ a : Int, 2 * hts Y n * a < 2 * hts Y n * l + hts Y n ↔ a ≤ l := fun a => by
      have := level (K := 2) (D := hts Y n) (a := a) (q := l) (by omega) hD
      constructor
      · intro h; exact this.1.mp (by omega)
      · intro h
        have := Int.mul_le_mul_of_nonneg_left h (show 0 ≤ 2 * hts Y n by omega)
        omega
    have c2 : ∀ a : Int, 2 * hts Y n * l + hts Y n < 2 * hts Y n * a ↔ l < a := fun a => (level (K := 2) (D := hts Y n) (a := a) (q := l) (by omega) hD).2
    unfold Cr uL
    simp only [c1, c2]
    (repeat' split) <;> omega
  generalize hxs : (fun k => xL X Y n (hts Y n) e l k) = xs at *
  have hxs' : ∀ k, xL X Y n (hts Y n) e l k = xs k := fun k => by rw [← hxs]
  simp only [hxs'] at hSt hXx
  have cu : ∀ k, uL Y l k - uL Y l (nxt n k) = 0 ∨ uL Y l k - uL Y l (nxt n k) = 1 ∧ upE (2 * hts Y n * X k) (2 * hts Y n * Y k) (2 * hts Y n * X (nxt n k)) (2 * hts Y n * Y (nxt n k)) = 1 ∨ uL Y l k - uL Y l (nxt n k) = -1 ∧ upE (2 * hts Y n * X k) (2 * hts Y n * Y k) (2 * hts Y n * X (nxt n k)) (2 * hts Y n * Y (nxt n k)) = 0 := fun k => by
    rw [upE_scale hM]
    unfold uL upE
    (repeat' split) <;> omega
  have hex : ∃ k, k < n ∧ (uL Y l k - uL Y l (nxt n k) ≠ 0 ∧ q < xs k) := by
    by_cases h : ∃ k, k < n ∧ (uL Y l k - uL Y l (nxt n k) ≠ 0 ∧ q < xs k)
    · exact h
    · have : wind (fun k => 2 * hts Y n * X k) (fun k => 2 * hts Y n * Y k) n q (2 * hts Y n * l + hts Y n) = 0 := sumZ_zero n (fun k hk => by
        rw [hSt hk]
        by_cases c : q < xs k
        · by_cases c2 : uL Y l k - uL Y l (nxt n k) = 0
          · rw [c2, Int.zero_mul]
          · exact absurd ⟨k, hk, c2, c⟩ h
        · rw [if_neg c, Int.mul_zero])
      omega
  obtain ⟨i, hi, ⟨ci, qi⟩, mi⟩ := exists_min (fun k => uL Y l k - uL Y l (nxt n k) ≠ 0 ∧ q < xs k) xs n hex
  obtain ⟨m, hm, ⟨cm, qm⟩, mm⟩ := exists_min (fun k => uL Y l k - uL Y l (nxt n k) ≠ 0 ∧ q < xs k) (fun k => - xs k) n hex
  have e1 : wind (fun k => 2 * hts Y n * X k) (fun k => 2 * hts Y n * Y k) n q (2 * hts Y n * l + hts Y n) - wind (fun k => 2 * hts Y n * X k) (fun k => 2 * hts Y n * Y k) n (xs i) (2 * hts Y n * l + hts Y n) = uL Y l i - uL Y l (nxt n i) := by
    unfold wind
    rw [← sumZ_sub, sumZ_one (i := i) n hi]
    · rw [hSt hi, hSt hi, if_pos qi, if_neg (Int.lt_irrefl _)]; omega
    · intro k hk hki
      rw [hSt hk, hSt hk]
      by_cases ck : uL Y l k - uL Y l (nxt n k) = 0
      · rw [ck]; omega
      · have hne : xs k ≠ xs i := fun e => cr_ne hp2 hi hk hki ((hcr i).mpr ci) ((hcr k).mpr ck) (hXx i hi ((hcr i).mpr ci)) (by rw [← e]; exact hXx k hk ((hcr k).mpr ck))
        by_cases c1 : q < xs k
        · have := mi k hk ⟨ck, c1⟩
          rw [if_pos c1, if_pos (show xs i < xs k by omega)]; omega
        · rw [if_neg c1, if_neg (show ¬ xs i < xs k by omega)]; omega
  have e2 : wind (fun k => 2 * hts Y n * X k) (fun k => 2 * hts Y n * Y k) n (xs m) (2 * hts Y n * l + hts Y n) = 0 := sumZ_zero n (fun k hk => by
    rw [hSt hk]
    by_cases ck : uL Y l k - uL Y l (nxt n k) = 0
    · rw [ck, Int.zero_mul]
    · by_cases c1 : q < xs k
      · have := mm k hk ⟨ck, c1⟩
        rw [if_neg (by omega), Int.mul_zero]
      · rw [if_neg (by omega), Int.mul_zero])
  obtain ⟨a, s1, s0, s2, o⟩ := cr_on (X := fun k => 2 * hts Y n * X k) ((hcr i).mpr ci) (hXx i hi ((hcr i).mpr ci))
  obtain ⟨a', s1', s0', s2', o'⟩ := cr_on (X := fun k => 2 * hts Y n * X k) ((hcr m).mpr cm) (hXx m hm ((hcr m).mpr cm))
  have w1 := wind_edge hp2 hi s0 s2 o
  have w2 := wind_edge hp2 hm s0' s2' o'
  rw [side_const hp2 hev i hi] at w1
  rw [side_const hp2 hev m hm] at w2
  have u1 := cu i
  have u2 := cu m
  have hS : side (fun k => 2 * hts Y n * X k) (fun k => 2 * hts Y n * Y k) n 0 = 1 := by omega
  have ho2 : On' k s (2 * hts Y n * X j) (2 * hts Y n * Y j) (2 * hts Y n * X (nxt n j)) (2 * hts Y n * Y (nxt n j)) (2 * hts Y n * x) (2 * hts Y n * y) := by
    obtain ⟨o1, o2⟩ := ho
    exact ⟨by grind, by grind⟩
  have w3 := wind_edge hp2 hj hs hsk ho2
  rw [side_const hp2 hev j hj, hS, wind_scale hM] at w3
  rwa [upE_scale hM] at w3
end
end Go.Proofs.Ytglepdhapakmbaa
/- Plane geometry, no program: beside an edge; segments that do not meet are apart. -/
namespace Go.Proofs.Ytglepdhapakmbaa
open Go.RowKit
/-- How the winding number changes from a point on an edge to one beside it. -/
theorem jump {ax ay bx b k s mx my qx qy : Int} (hs : 0 < s) (hsk : s < k) (ho : On' k s ax ay bx b mx my) (hc : crossI ax ay bx b qx qy ≠ 0) :
    (sE qx qy ax ay bx b - sE mx my ax ay bx b) - (gE qx qy mx my bx b - gE qx qy mx my ax ay) = upE ax ay bx b - (if 0 < crossI ax ay bx b qx qy then 0 else 1) := by
  rw [sE_col (on_cross (by omega) ho).1]
  have c1 : k * crossI qx qy mx my ax ay = s * (- crossI ax ay bx b qx qy) := by
    obtain ⟨h1, h2⟩ := ho; unfold crossI; grind
  have c2 : k * crossI qx qy mx my bx b = (k - s) * crossI ax ay bx b qx qy := by
    obtain ⟨h1, h2⟩ := ho; unfold crossI; grind
  have s1 := mul_sign (by omega) hs c1
  have s2 := mul_sign (by omega) (show 0 < k - s by omega) c2
  have f1 : crossI mx my qx qy ax ay = - crossI qx qy mx my ax ay := by unfold crossI; grind
  have f2 : crossI mx my qx qy bx b = - crossI qx qy mx my bx b := by unfold crossI; grind
  have f3 : crossI bx b ax ay qx qy = - crossI ax ay bx b qx qy := by unfold crossI; grind
  have y1 : k * (my - ay) = s * (b - ay) := by obtain ⟨h1, h2⟩ := ho; grind
  have y2 : k * (b - my) = (k - s) * (b - ay) := by obtain ⟨h1, h2⟩ := ho; grind
  have t1 := mul_sign (by omega) hs y1
  have t2 := mul_sign (by omega) (show 0 < k - s by omega) y2
  have x0 : ay = b → crossI ax ay bx b qx qy = (bx - ax) * (qy - ay) := fun h => by subst h; unfold crossI; grind
  unfold gE gIn upE
  simp only [sE_eq, decide_eq_true_eq, f1, f2, f3]
  clear c1 c2 f1 f2 f3 y1 y2 ho
  generalize crossI qx qy mx my ax ay = u at *
  generalize crossI qx qy mx my bx b = v at *
  generalize crossI ax ay bx b qx qy = c at *
  rcases Int.lt_trichotomy ay b with h | h | h
  · clear x0
    rcases Int.lt_or_gt_of_ne hc with hc | hc
    · (repeat' split) <;> omega
    · (repeat' split) <;> omega
  · have hx := sign_mul (x0 h)
    clear x0
    rcases Int.lt_or_gt_of_ne hc with hc | hc
    · (repeat' split) <;> omega
    · (repeat' split) <;> omega
  · clear x0
    rcases Int.lt_or_gt_of_ne hc with hc | hc
    · (repeat' split) <;> omega
    · (repeat' split) <;> omega
section
variable {X Y : Nat → Int} {n : Nat}
/-- Beside an edge: within on the left, without on the right. -/
theorem wind_beside (hp : Simple X Y n) (ha : 0 < area2 X Y n) {j : Nat} (hj : j < n) {k s mx my qx qy : Int} (hs : 0 < s) (hsk : s < k) (ho : On' k s (X j) (Y j) (X (nxt n j)) (Y (nxt n j)) mx my)
    (hc : crossI (X j) (Y j) (X (nxt n j)) (Y (nxt n j)) qx qy ≠ 0) (hm : ∀ i, i < n → i ≠ j → meetB qx qy mx my (X i) (Y i) (X (nxt n i)) (Y (nxt n i)) = false) :
    wind X Y n qx qy = if 0 < crossI (X j) (Y j) (X (nxt n j)) (Y (nxt n j)) qx qy then 1 else 0 := by
  have h1 := wind_on hp ha hj hs hsk ho
  have h2 := wind_diff (X := X) (Y := Y) (n := n) (x := qx) (y := qy) (vx := mx) (vy := my) (by have := hp.three; omega)
  rw [sumZ_one (i := j) n hj (fun i hi hne => by have := signed_edge (hm i hi hne); omega), jump hs hsk ho hc] at h2
  split <;> rename_i h
  · rw [if_pos h] at h2; omega
  · rw [if_neg h] at h2; omega
end
/-- Two segments are apart along some direction. -/
def Apt (ax ay bx b cx cy dx dy : Int) : Prop := ∃ p q : Int, (p * ax + q * ay < p * cx + q * cy ∧ p * ax + q * ay < p * dx + q * dy) ∧ p * bx + q * b < p * cx + q * cy ∧ p * bx + q * b < p * dx + q * dy
theorem apt_swap1 {ax ay bx b cx cy dx dy : Int} (h : Apt ax ay bx b cx cy dx dy) : Apt bx b ax ay cx cy dx dy := by
  obtain ⟨p, q, ⟨h1, h2⟩, h3, h4⟩ := h; exact ⟨p, q, ⟨h3, h4⟩, h1, h2⟩
theorem apt_comm {ax ay bx b cx cy dx dy : Int} (h : Apt ax ay bx b cx cy dx dy) : Apt cx cy dx dy ax ay bx b := by
  obtain ⟨p, q, ⟨h1, h2⟩, h3, h4⟩ := h
  refine ⟨-p, -q, ⟨?_, ?_⟩, ?_, ?_⟩ <;> grind
theorem apt_swap2 {ax ay bx b cx cy dx dy : Int} (h : Apt ax ay bx b cx cy dx dy) : Apt ax ay bx b dx dy cx cy := by
  obtain ⟨p, q, ⟨h1, h2⟩, h3, h4⟩ := h; exact ⟨p, q, ⟨h2, h1⟩, h4, h3⟩
theorem apt_side {ax ay bx b cx cy dx dy : Int} (h : (0 < crossI ax ay bx b cx cy ∧ 0 < crossI ax ay bx b dx dy) ∨ (crossI ax ay bx b cx cy < 0 ∧ crossI ax ay bx b dx dy < 0)) : Apt ax ay bx b cx cy dx dy := by
  have e1 : crossI ax ay bx b cx cy = (-(b - ay) * cx + (bx - ax) * cy) - (-(b - ay) * ax + (bx - ax) * ay) := by unfold crossI; grind
  have e2 : crossI ax ay bx b dx dy = (-(b - ay) * dx + (bx - ax) * dy) - (-(b - ay) * ax + (bx - ax) * ay) := by unfold crossI; grind
  have e3 : -(b - ay) * bx + (bx - ax) * b = -(b - ay) * ax + (bx - ax) * ay := by grind
  rcases h with ⟨h1, h2⟩ | ⟨h1, h2⟩
  · exact ⟨-(b - ay), bx - ax, ⟨by omega, by omega⟩, by omega, by omega⟩
  · refine ⟨b - ay, -(bx - ax), ⟨?_, ?_⟩, ?_, ?_⟩ <;> grind
/-- c on the line of a b, and a, b on different sides of c d: then c is between a and b. -/
theorem on_between {ax ay bx b cx cy dx dy : Int} (hz : crossI ax ay bx b cx cy = 0) (hd : crossI ax ay bx b dx dy ≠ 0)
    (h : (crossI cx cy dx dy ax ay ≤ 0 ∧ 0 ≤ crossI cx cy dx dy bx b) ∨ (0 ≤ crossI cx cy dx dy ax ay ∧ crossI cx cy dx dy bx b ≤ 0)) : onB cx cy ax ay bx b = true := by
  have hs := cross_sum ax ay bx b cx cy dx dy
  have i1 : (crossI cx cy dx dy bx b - crossI cx cy dx dy ax ay) * cx = (crossI cx cy dx dy bx b - crossI cx cy dx dy ax ay) * ax + (- crossI cx cy dx dy ax ay) * (bx - ax) := by
    unfold crossI at hz ⊢; grind
  have i2 : (crossI cx cy dx dy bx b - crossI cx cy dx dy ax ay) * cy = (crossI cx cy dx dy bx b - crossI cx cy dx dy ax ay) * ay + (- crossI cx cy dx dy ax ay) * (b - ay) := by
    unfold crossI at hz ⊢; grind
  generalize crossI cx cy dx dy ax ay = u at *
  generalize crossI cx cy dx dy bx b = v at *
  generalize crossI ax ay bx b dx dy = w at *
  rw [onB_iff]
  rcases h with ⟨h1, h2⟩ | ⟨h1, h2⟩
  · exact ⟨v - u, by omega, -u, by omega, by omega, i1, i2⟩
  · exact ⟨u - v, by omega, u, by omega, by omega, by grind, by grind⟩
end Go.Proofs.Ytglepdhapakmbaa
/- Plane geometry, no program: segments that do not meet stay apart when they are moved a little. -/
namespace Go.Proofs.Ytglepdhapakmbaa
open Go.RowKit
theorem apt_x {ax ay bx b cx cy dx dy : Int} (h : (ax < cx ∧ ax < dx ∧ bx < cx ∧ bx < dx) ∨ (cx < ax ∧ dx < ax ∧ cx < bx ∧ dx < bx)) : Apt ax ay bx b cx cy dx dy := by
  rcases h with ⟨h1, h2, h3, h4⟩ | ⟨h1, h2, h3, h4⟩
  · exact ⟨1, 0, ⟨by omega, by omega⟩, by omega, by omega⟩
  · exact ⟨-1, 0, ⟨by omega, by omega⟩, by omega, by omega⟩
theorem apt_y {ax ay bx b cx cy dx dy : Int} (h : (ay < cy ∧ ay < dy ∧ b < cy ∧ b < dy) ∨ (cy < ay ∧ dy < ay ∧ cy < b ∧ dy < b)) : Apt ax ay bx b cx cy dx dy := by
  rcases h with ⟨h1, h2, h3, h4⟩ | ⟨h1, h2, h3, h4⟩
  · exact ⟨0, 1, ⟨by omega, by omega⟩, by omega, by omega⟩
  · exact ⟨0, -1, ⟨by omega, by omega⟩, by omega, by omega⟩
theorem ne_tf {b : Bool} (h : b = false) (h' : b = true) : False := by rw [h] at h'; exact absurd h' (by decide)
theorem on_self (ax ay dx dy : Int) : onB ax ay ax ay dx dy = true := onB_iff.mpr ⟨1, by omega, 0, by omega, by omega, by omega, by omega⟩
theorem apt_of_apart {ax ay bx b cx cy dx dy : Int} (hm : meetB ax ay bx b cx cy dx dy = false) : Apt ax ay bx b cx cy dx dy := by
  obtain ⟨n1, n2, n3, n4⟩ := no_on hm
  have np := no_proper hm
  have hs := cross_sum ax ay bx b cx cy dx dy
  have f1 : crossI dx dy cx cy ax ay = - crossI cx cy dx dy ax ay := by unfold crossI; grind
  have f2 : crossI dx dy cx cy bx b = - crossI cx cy dx dy bx b := by unfold crossI; grind
  have f3 : crossI bx b ax ay cx cy = - crossI ax ay bx b cx cy := by unfold crossI; grind
  have f4 : crossI bx b ax ay dx dy = - crossI ax ay bx b dx dy := by unfold crossI; grind
  by_cases q1 : (0 < crossI ax ay bx b cx cy ∧ 0 < crossI ax ay bx b dx dy) ∨ (crossI ax ay bx b cx cy < 0 ∧ crossI ax ay bx b dx dy < 0)
  · exact apt_side q1
  by_cases q2 : (0 < crossI cx cy dx dy ax ay ∧ 0 < crossI cx cy dx dy bx b) ∨ (crossI cx cy dx dy ax ay < 0 ∧ crossI cx cy dx dy bx b < 0)
  · exact apt_comm (apt_side q2)
  by_cases z1 : crossI ax ay bx b cx cy = 0
  · by_cases z2 : crossI ax ay bx b dx dy = 0
    · -- all on one line
      have z3 : crossI cx cy dx dy ax ay = 0 := by omega
      have z4 : crossI cx cy dx dy bx b = 0 := by omega
      by_cases hx : ax = bx
      · by_cases hy : ay = b
        · subst hx hy
          by_cases hcx : cx = dx
          · by_cases hcy : cy = dy
            · subst hcx hcy
              rcases Int.lt_trichotomy ax cx with h | h | h
              · exact apt_x (.inl ⟨h, h, h, h⟩)
              · rcases Int.lt_trichotomy ay cy with h' | h' | h'
                · exact apt_y (.inl ⟨h', h', h', h'⟩)
                · subst h h'
                  exact (ne_tf n1 (on_self ..)).elim
                · exact apt_y (.inr ⟨h', h', h', h'⟩)
              · exact apt_x (.inr ⟨h, h, h, h⟩)
            · have o : ¬ (min cy dy ≤ ay ∧ ay ≤ max cy dy) := fun h => ne_tf n1 (on_of_y z3 hcy h.1 h.2)
              exact apt_y (by omega)
          · have o : ¬ (min cx dx ≤ ax ∧ ax ≤ max cx dx) := fun h => ne_tf n1 (on_of_x z3 hcx h.1 h.2)
            exact apt_x (by omega)
        · have o1 : ¬ (min ay b ≤ cy ∧ cy ≤ max ay b) := fun h => ne_tf n3 (on_of_y z1 hy h.1 h.2)
          have o2 : ¬ (min ay b ≤ dy ∧ dy ≤ max ay b) := fun h => ne_tf n4 (on_of_y z2 hy h.1 h.2)
          by_cases o3 : (cy < ay ∧ ay < dy) ∨ (dy < ay ∧ ay < cy)
          · exact (ne_tf n1 (on_of_y z3 (by omega) (by omega) (by omega))).elim
          · exact apt_y (by omega)
      · have o1 : ¬ (min ax bx ≤ cx ∧ cx ≤ max ax bx) := fun h => ne_tf n3 (on_of_x z1 hx h.1 h.2)
        have o2 : ¬ (min ax bx ≤ dx ∧ dx ≤ max ax bx) := fun h => ne_tf n4 (on_of_x z2 hx h.1 h.2)
        by_cases o3 : (cx < ax ∧ ax < dx) ∨ (dx < ax ∧ ax < cx)
        · exact (ne_tf n1 (on_of_x z3 (by omega) (by omega) (by omega))).elim
        · exact apt_x (by omega)
    · exact (ne_tf n3 (on_between z1 z2 (by omega))).elim
  · by_cases z2 : crossI ax ay bx b dx dy = 0
    · exact (ne_tf n4 (on_between z2 z1 (by omega))).elim
    · by_cases z3 : crossI cx cy dx dy ax ay = 0
      · by_cases z4 : crossI cx cy dx dy bx b = 0
        · omega
        · exact (ne_tf n1 (on_between z3 z4 (by omega))).elim
      · by_cases z4 : crossI cx cy dx dy bx b = 0
        · exact (ne_tf n2 (on_between z4 z3 (by omega))).elim
        · exact (np (by omega)).elim
theorem apart_of_apt {ax ay bx b cx cy dx dy : Int} (h : Apt ax ay bx b cx cy dx dy) : meetB ax ay bx b cx cy dx dy = false := by
  cases hm : meetB ax ay bx b cx cy dx dy with
  | false => rfl
  | true =>
    obtain ⟨k, x, y, hk, ⟨s, s0, s1, e1, e2⟩, t, t0, t1, g1, g2⟩ := common_of_meet hm
    obtain ⟨p, q, ⟨h1, h2⟩, h3, h4⟩ := h
    have a1 := Int.mul_nonneg (show 0 ≤ k - s by omega) (show 0 ≤ (p * cx + q * cy) - (p * ax + q * ay) - 1 by omega)
    have a2 := Int.mul_nonneg s0 (show 0 ≤ (p * cx + q * cy) - (p * bx + q * b) - 1 by omega)
    have a3 := Int.mul_nonneg (show 0 ≤ k - s by omega) (show 0 ≤ (p * dx + q * dy) - (p * ax + q * ay) - 1 by omega)
    have a4 := Int.mul_nonneg s0 (show 0 ≤ (p * dx + q * dy) - (p * bx + q * b) - 1 by omega)
    -- the value at the common point, from both sides
    have v1 : p * x + q * y = (k - s) * (p * ax + q * ay) + s * (p * bx + q * b) := by rw [e1, e2]; grind
    have v2 : p * x + q * y = (k - t) * (p * cx + q * cy) + t * (p * dx + q * dy) := by rw [g1, g2]; grind
    generalize p * cx + q * cy = C at *
    generalize p * dx + q * dy = E at *
    generalize p * ax + q * ay = A at *
    generalize p * bx + q * b = B at *
    have u1 : (k - s) * A + s * B + k ≤ k * C := by grind
    have u2 : (k - s) * A + s * B + k ≤ k * E := by grind
    rcases Int.le_total C E with h | h
    · have := Int.mul_le_mul_of_nonneg_left h t0
      grind
    · have := Int.mul_le_mul_of_nonneg_left h (show 0 ≤ k - t by omega)
      grind
/-- A bound for numbers of whose sum with n times 1 one asks the sign. -/
theorem apart_moved {ax ay bx b cx cy dx dy : Int} (hm : meetB ax ay bx b cx cy dx dy = false) (ux uy vx vy : Int) :
    ∃ N : Int, 0 < N ∧ ∀ n, N ≤ n → meetB (n * ax + ux) (n * ay + uy) (n * bx + vx) (n * b + vy) (n * cx) (n * cy) (n * dx) (n * dy) = false := by
  obtain ⟨p, q, ⟨h1, h2⟩, h3, h4⟩ := apt_of_apart hm
  refine ⟨max 1 (max (p * ux + q * uy) (p * vx + q * vy) + 1), by omega, fun n hn => apart_of_apt ⟨p, q, ?_⟩⟩
  have key : ∀ A C F : Int, A < C → F < n → n * A + F < n * C := fun A C F h hF => by
    have := Int.mul_le_mul_of_nonneg_left (show A + 1 ≤ C by omega) (show 0 ≤ n by omega)
    rw [Int.mul_add] at this; omega
  have e1 : p * (n * ax + ux) + q * (n * ay + uy) = n * (p * ax + q * ay) + (p * ux + q * uy) := by grind
  have e2 : p * (n * bx + vx) + q * (n * b + vy) = n * (p * bx + q * b) + (p * vx + q * vy) := by grind
  have e3 : p * (n * cx) + q * (n * cy) = n * (p * cx + q * cy) := by grind
  have e4 : p * (n * dx) + q * (n * dy) = n * (p * dx + q * dy) := by grind
  rw [e1, e2, e3, e4]
  exact ⟨⟨key _ _ _ h1 (by omega), key _ _ _ h2 (by omega)⟩, key _ _ _ h3 (by omega), key _ _ _ h4 (by omega)⟩
/-- Finitely many conditions that hold from some number on hold together from some number on. -/
theorem all_from {P : Nat → Int → Prop} : ∀ m : Nat, (∀ k, k < m → ∃ N : Int, 0 < N ∧ ∀ n, N ≤ n → P k n) → ∃ N : Int, 0 < N ∧ ∀ n, N ≤ n → ∀ k, k < m → P k n
  | 0, _ => ⟨1, by omega, fun n _ k hk => by omega⟩
  | m + 1, h => by
    obtain ⟨N, h0, h1⟩ := all_from m (fun k hk => h k (by omega))
    obtain ⟨M, g0, g1⟩ := h m (by omega)
    refine ⟨max N M, by omega, fun n hn k hk => ?_⟩
    by_cases e : k = m
    · subst e; exact g1 n (by omega)
    · exact h1 n (by omega) k (by omega)
theorem both_from {P Q : Int → Prop} (h1 : ∃ N : Int, 0 < N ∧ ∀ n, N ≤ n → P n) (h2 : ∃ N : Int, 0 < N ∧ ∀ n, N ≤ n → Q n) : ∃ N : Int, 0 < N ∧ ∀ n, N ≤ n → P n ∧ Q n := by
  obtain ⟨N, a, b⟩ := h1
  obtain ⟨M, c, d⟩ := h2
  exact ⟨max N M, by omega, fun n hn => ⟨b n (by omega), d n (by omega)⟩⟩
end Go.Proofs.Ytglepdhapakmbaa
/- Plane geometry, no program: near a corner, and near an edge, of a polygon. -/
namespace Go.Proofs.Ytglepdhapakmbaa
open Go.RowKit
section
variable (X Y : Nat → Int) (n : Nat)
/-- A place on the border. -/
def OnP (x y : Int) : Prop := ∃ k, k < n ∧ onB x y (X k) (Y k) (X (nxt n k)) (Y (nxt n k)) = true
/-- A place in a polygon, or on its border. -/
def InP (x y : Int) : Prop := OnP X Y n x y ∨ wind X Y n x y ≠ 0
/-- The polygon, M times as large. -/
def mulP (M : Int) (X : Nat → Int) : Nat → Int := fun k => M * X k
end
section
variable {X Y : Nat → Int} {n : Nat}
theorem area2_scale (M : Int) : area2 (mulP M X) (mulP M Y) n = M * M * area2 X Y n := by
  unfold area2 mulP
  rw [← sumZ_mul]
  exact sumZ_congr n (fun k _ => by grind)
theorem area2_mul {M : Int} (hM : 0 < M) (ha : 0 < area2 X Y n) : 0 < area2 (mulP M X) (mulP M Y) n := by
  rw [area2_scale]; exact Int.mul_pos (Int.mul_pos hM hM) ha
theorem simple_mul {M : Int} (hM : 0 < M) (hp : Simple X Y n) : Simple (mulP M X) (mulP M Y) n := simple_scale hM hp
theorem crossI_mul (M a b c d e f : Int) : crossI (M * a) (M * b) (M * c) (M * d) (M * e) (M * f) = M * M * crossI a b c d e f := by unfold crossI; grind
theorem mul_pos_iff {M u : Int} (hM : 0 < M) : 0 < M * M * u ↔ 0 < u := by
  have := sign_mul (u := M * M) (v := u) (k := M * M * u) rfl
  have := Int.mul_pos hM hM
  omega
theorem onB_mul {M x y a b c d : Int} (hM : 0 < M) : onB (M * x) (M * y) (M * a) (M * b) (M * c) (M * d) = onB x y a b c d := by
  rw [Bool.eq_iff_iff, onB_iff, onB_iff]
  constructor
  · rintro ⟨k, hk, s, s0, s1, e1, e2⟩
    exact ⟨k, hk, s, s0, s1, Int.eq_of_mul_eq_mul_left (show M ≠ 0 by omega) (by grind), Int.eq_of_mul_eq_mul_left (show M ≠ 0 by omega) (by grind)⟩
  · rintro ⟨k, hk, s, s0, s1, e1, e2⟩
    exact ⟨k, hk, s, s0, s1, by grind, by grind⟩
theorem OnP_mul {M x y : Int} (hM : 0 < M) : OnP (mulP M X) (mulP M Y) n (M * x) (M * y) ↔ OnP X Y n x y := by
  unfold OnP mulP
  simp only [onB_mul hM]
theorem InP_mul {M x y : Int} (hM : 0 < M) : InP (mulP M X) (mulP M Y) n (M * x) (M * y) ↔ InP X Y n x y := by
  unfold InP
  rw [OnP_mul hM, show wind (mulP M X) (mulP M Y) n (M * x) (M * y) = wind X Y n x y from wind_scale hM]
theorem mulP_mulP (M N : Int) : mulP M (mulP N X) = mulP (M * N) X := by
  funext k; unfold mulP; rw [Int.mul_assoc]
theorem meet_mul {M a b c d e f g h : Int} (hM : 0 < M) (hm : meetB a b c d e f g h = false) : meetB (M * a) (M * b) (M * c) (M * d) (M * e) (M * f) (M * g) (M * h) = false := by
  cases q : meetB (M * a) (M * b) (M * c) (M * d) (M * e) (M * f) (M * g) (M * h) with
  | false => rfl
  | true => exact (ne_tf hm (common_scale hM q)).elim
/-- A point of an edge that meets another edge. -/
theorem point_off {a b c d e f g h k s mx my : Int} (hk : 0 < k) (hs : 0 ≤ s) (hsk : s ≤ k) (ho : On' k s a b c d mx my) (hm : meetB a b c d e f g h = false) : meetB mx my mx my e f g h = false := by
  cases q : meetB mx my mx my e f g h with
  | false => rfl
  | true =>
    obtain ⟨K, x, y, hK, ⟨t, t0, t1, e1, e2⟩, h2⟩ := common_of_meet q
    obtain ⟨o1, o2⟩ := ho
    refine (ne_tf hm (meet_of_common ⟨K * k, x * k, y * k, Int.mul_pos hK hk, ⟨K * s, Int.mul_nonneg (by omega) hs, ?_, ?_, ?_⟩, seg_scale h2 (by omega)⟩)).elim
    · exact Int.mul_le_mul_of_nonneg_left hsk (by omega)
    · rw [e1]; grind
    · rw [e2]; grind
/-- Within an edge one is on no other. -/
theorem inner_off (hp : Simple X Y n) {j i : Nat} (hj : j < n) (hi : i < n) (hij : i ≠ j) {k s mx my : Int} (hs : 0 < s) (hsk : s < k) (ho : On' k s (X j) (Y j) (X (nxt n j)) (Y (nxt n j)) mx my) : meetB mx my mx my (X i) (Y i) (X (nxt n i)) (Y (nxt n i)) = false := by
  by_cases h1 : i = nxt n j
  · subst h1
    have hb := hp.bend j hj
    refine side_no_meet ?_
    have e : k * crossI (X (nxt n j)) (Y (nxt n j)) (X (nxt n (nxt n j))) (Y (nxt n (nxt n j))) mx my = (k - s) * crossI (X (nxt n j)) (Y (nxt n j)) (X (nxt n (nxt n j))) (Y (nxt n (nxt n j))) (X j) (Y j) := by
      obtain ⟨o1, o2⟩ := ho
      unfold crossI; grind
    have := mul_sign (by omega) (show 0 < k - s by omega) e
    have hc := cross_cyc (X j) (Y j) (X (nxt n j)) (Y (nxt n j)) (X (nxt n (nxt n j))) (Y (nxt n (nxt n j)))
    omega
  · by_cases h2 : j = nxt n i
    · subst h2
      have hb := hp.bend i hi
      refine side_no_meet ?_
      have e : k * crossI (X i) (Y i) (X (nxt n i)) (Y (nxt n i)) mx my = s * crossI (X i) (Y i) (X (nxt n i)) (Y (nxt n i)) (X (nxt n (nxt n i))) (Y (nxt n (nxt n i))) := by
        obtain ⟨o1, o2⟩ := ho
        unfold crossI; grind
      have := mul_sign (by omega) hs e
      omega
    · exact point_off (by omega) (by omega) (by omega) ho (hp.apart j i hj hi hij h1 h2)
/-- A corner lies on its own two edges alone. -/
theorem corner_off (hp : Simple X Y n) {j i : Nat} (hj : j < n) (hi : i < n) (hij : i ≠ j) (hpr : nxt n i ≠ j) : meetB (X j) (Y j) (X j) (Y j) (X i) (Y i) (X (nxt n i)) (Y (nxt n i)) = false := by
  by_cases h1 : i = nxt n j
  · subst h1
    have hb := hp.bend j hj
    refine side_no_meet ?_
    have hc := cross_cyc (X j) (Y j) (X (nxt n j)) (Y (nxt n j)) (X (nxt n (nxt n j))) (Y (nxt n (nxt n j)))
    omega
  · exact point_off (k := 1) (s := 0) (by omega) (by omega) (by omega) ⟨by omega, by omega⟩ (hp.apart j i hj hi hij h1 (fun h => hpr h.symm))
/-- Along an edge, from within it. -/
theorem on_along {ax ay bx b k s mx my dx dy M : Int} (hs : 0 < s) (hsk : s < k) (ho : On' k s ax ay bx b mx my) (hd : 0 < (bx - ax) * (bx - ax) + (b - ay) * (b - ay)) (hc : (bx - ax) * dy - (b - ay) * dx = 0)
    (hM : k * max (dx * (bx - ax) + dy * (b - ay)) (-(dx * (bx - ax) + dy * (b - ay))) < M) : onB (M * mx + dx) (M * my + dy) (M * ax) (M * ay) (M * bx) (M * b) = true := by
  obtain ⟨o1, o2⟩ := ho
  obtain ⟨u, rfl⟩ : ∃ u, bx = ax + u := ⟨bx - ax, by omega⟩
  obtain ⟨v, rfl⟩ : ∃ v, b = ay + v := ⟨b - ay, by omega⟩
  rw [show ax + u - ax = u by omega] at *
  rw [show ay + v - ay = v by omega] at *
  have w1 : (u * u + v * v) * dx = (dx * u + dy * v) * u := by grind
  have w2 : (u * u + v * v) * dy = (dx * u + dy * v) * v := by grind
  generalize dx * u + dy * v = w at *
  generalize u * u + v * v = L at *
  have k1 : k * w ≤ k * max w (-w) := Int.mul_le_mul_of_nonneg_left (by omega) (by omega)
  have k2 : k * (-w) ≤ k * max w (-w) := Int.mul_le_mul_of_nonneg_left (by omega) (by omega)
  have k3 : 0 ≤ k * max w (-w) := Int.mul_nonneg (by omega) (by omega)
  rw [Int.mul_neg] at k2
  have hM0 : 0 < M := by omega
  have l1 : M ≤ M * L := by
    have := Int.mul_le_mul_of_nonneg_left (show 1 ≤ L by omega) (show 0 ≤ M by omega)
    omega
  have l2 : M * L ≤ M * L * s := by
    have := Int.mul_le_mul_of_nonneg_left (show 1 ≤ s by omega) (show 0 ≤ M * L by omega)
    omega
  have l3 : M * L ≤ M * L * (k - s) := by
    have := Int.mul_le_mul_of_nonneg_left (show 1 ≤ k - s by omega) (show 0 ≤ M * L by omega)
    omega
  refine onB_iff.mpr ⟨k * L * M, Int.mul_pos (Int.mul_pos (by omega) hd) hM0, M * L * s + k * w, by omega, ?_, ?_, ?_⟩
  · have : M * L * (k - s) = k * L * M - M * L * s := by grind
    omega
  · have e1 : k * L * M * (M * mx + dx) = L * M * M * (k * mx) + k * M * (L * dx) := by grind
    rw [e1, o1, w1]; grind
  · have e1 : k * L * M * (M * my + dy) = L * M * M * (k * my) + k * M * (L * dy) := by grind
    rw [e1, o2, w2]; grind
/-- Near a point within an edge. -/
theorem near_edge (hp : Simple X Y n) (ha : 0 < area2 X Y n) {j : Nat} (hj : j < n) {k s mx my : Int} (hs : 0 < s) (hsk : s < k) (ho : On' k s (X j) (Y j) (X (nxt n j)) (Y (nxt n j)) mx my) (dx dy : Int) :
    ∃ N : Int, 0 < N ∧ ∀ M, N ≤ M →
      ((X (nxt n j) - X j) * dy - (Y (nxt n j) - Y j) * dx ≠ 0 → wind (mulP M X) (mulP M Y) n (M * mx + dx) (M * my + dy) = (if 0 < (X (nxt n j) - X j) * dy - (Y (nxt n j) - Y j) * dx then 1 else 0) ∧ ¬ OnP (mulP M X) (mulP M Y) n (M * mx + dx) (M * my + dy)) ∧
      ((X (nxt n j) - X j) * dy - (Y (nxt n j) - Y j) * dx = 0 → OnP (mulP M X) (mulP M Y) n (M * mx + dx) (M * my + dy)) := by
  obtain ⟨N, hN, hall⟩ := all_from (P := fun i M => i ≠ j → meetB (M * mx + dx) (M * my + dy) (M * mx + 0) (M * my + 0) (M * X i) (M * Y i) (M * X (nxt n i)) (M * Y (nxt n i)) = false) n (fun i hi => by
    by_cases e : i = j
    · exact ⟨1, by omega, fun _ _ h => absurd e h⟩
    · obtain ⟨N, h1, h2⟩ := apart_moved (inner_off hp hj hi e hs hsk ho) dx dy 0 0
      exact ⟨N, h1, fun M hM _ => h2 M hM⟩)
  have hsq : 0 ≤ k * max (dx * (X (nxt n j) - X j) + dy * (Y (nxt n j) - Y j)) (-(dx * (X (nxt n j) - X j) + dy * (Y (nxt n j) - Y j))) := Int.mul_nonneg (by omega) (by omega)
  refine ⟨N + k * max (dx * (X (nxt n j) - X j) + dy * (Y (nxt n j) - Y j)) (-(dx * (X (nxt n j) - X j) + dy * (Y (nxt n j) - Y j))), by omega, fun M hM => ⟨fun hc => ?_, fun hc => ?_⟩⟩
  · have h := hall M (by omega)
    have hM0 : 0 < M := by omega
    have ho' : On' k s (mulP M X j) (mulP M Y j) (mulP M X (nxt n j)) (mulP M Y (nxt n j)) (M * mx) (M * my) := by
      obtain ⟨o1, o2⟩ := ho
      unfold mulP
      exact ⟨by grind, by grind⟩
    have e : crossI (mulP M X j) (mulP M Y j) (mulP M X (nxt n j)) (mulP M Y (nxt n j)) (M * mx + dx) (M * my + dy) = M * ((X (nxt n j) - X j) * dy - (Y (nxt n j) - Y j) * dx) := by
      have hz := (on_cross (by omega) ho).1
      unfold mulP crossI at *
      grind
    have hsg := sign_mul e
    have hm : ∀ i, i < n → i ≠ j → meetB (M * mx + dx) (M * my + dy) (M * mx) (M * my) (mulP M X i) (mulP M Y i) (mulP M X (nxt n i)) (mulP M Y (nxt n i)) = false := fun i hi hij => by
      have := h i hi hij
      rwa [Int.add_zero, Int.add_zero] at this
    have hw := wind_beside (simple_mul hM0 hp) (area2_mul hM0 ha) hj hs hsk ho' (by omega) hm
    refine ⟨?_, ?_⟩
    · rw [hw]
      by_cases c : 0 < (X (nxt n j) - X j) * dy - (Y (nxt n j) - Y j) * dx
      · rw [if_pos c, if_pos (hsg.1 hM0 c)]
      · rw [if_neg c, if_neg (by omega)]
    · rintro ⟨i, hi, hon⟩
      by_cases hij : i = j
      · subst hij
        obtain ⟨K, hK, t, t0, t1, g1, g2⟩ := onB_iff.mp hon
        have : K * crossI (mulP M X i) (mulP M Y i) (mulP M X (nxt n i)) (mulP M Y (nxt n i)) (M * mx + dx) (M * my + dy) = 0 := by unfold crossI; grind
        rcases Int.mul_eq_zero.mp this with q | q
        · omega
        · omega
      · exact ne_tf (no_on (hm i hi hij)).1 hon
  · have hd : 0 < (X (nxt n j) - X j) * (X (nxt n j) - X j) + (Y (nxt n j) - Y j) * (Y (nxt n j) - Y j) := by
      have hb := hp.bend j hj
      rcases Int.lt_trichotomy (X (nxt n j) - X j) 0 with h | h | h
      · have := Int.mul_pos_of_neg_of_neg h h
        have := sq_nn (Y (nxt n j) - Y j)
        omega
      · rcases Int.lt_trichotomy (Y (nxt n j) - Y j) 0 with h' | h' | h'
        · have := Int.mul_pos_of_neg_of_neg h' h'
          have := sq_nn (X (nxt n j) - X j)
          omega
        · exfalso
          refine hb ?_
          have e1 : X (nxt n j) = X j := by omega
          have e2 : Y (nxt n j) = Y j := by omega
          unfold crossI
          rw [e1, e2]; grind
        · have := Int.mul_pos h' h'
          have := sq_nn (X (nxt n j) - X j)
          omega
      · have := Int.mul_pos h h
        have := sq_nn (Y (nxt n j) - Y j)
        omega
    exact ⟨j, hj, on_along hs hsk ho hd hc (by omega)⟩
end
end Go.Proofs.Ytglepdhapakmbaa
/- Plane geometry, no program: which ways from a corner begin in the polygon. -/
namespace Go.Proofs.Ytglepdhapakmbaa
open Go.RowKit
theorem touch_apart {ax ay bx b cx cy dx dy ex ey fx fy : Int} (h1 : 0 < crossI ex ey fx fy ax ay) (h2 : crossI ex ey fx fy bx b = 0) (h3 : crossI ex ey fx fy cx cy < 0) (h4 : crossI ex ey fx fy dx dy = 0) (hne : ¬ (bx = dx ∧ b = dy)) : meetB ax ay bx b cx cy dx dy = false := by
  cases q : meetB ax ay bx b cx cy dx dy with
  | false => rfl
  | true =>
    obtain ⟨K, x, y, hK, ⟨s, s0, s1, e1, e2⟩, t, t0, t1, g1, g2⟩ := common_of_meet q
    have v1 : (fx - ex) * (y - K * ey) - (fy - ey) * (x - K * ex) = (K - s) * crossI ex ey fx fy ax ay + s * crossI ex ey fx fy bx b := by rw [e1, e2]; unfold crossI; grind
    have v2 : (fx - ex) * (y - K * ey) - (fy - ey) * (x - K * ex) = (K - t) * crossI ex ey fx fy cx cy + t * crossI ex ey fx fy dx dy := by rw [g1, g2]; unfold crossI; grind
    rw [h2] at v1
    rw [h4] at v2
    generalize crossI ex ey fx fy ax ay = u at *
    generalize crossI ex ey fx fy cx cy = w at *
    have a1 := Int.mul_nonneg (show 0 ≤ K - s by omega) (show 0 ≤ u by omega)
    have a2 := Int.mul_nonneg (show 0 ≤ K - t by omega) (show 0 ≤ -w by omega)
    rw [Int.mul_neg] at a2
    have z1 : (K - s) * u = 0 := by omega
    have z2 : (K - t) * w = 0 := by omega
    have q1 : K = s := by rcases Int.mul_eq_zero.mp z1 with h | h <;> omega
    have q2 : K = t := by rcases Int.mul_eq_zero.mp z2 with h | h <;> omega
    subst q1
    subst q2
    refine (hne ⟨Int.eq_of_mul_eq_mul_left (show K ≠ 0 by omega) (by grind), Int.eq_of_mul_eq_mul_left (show K ≠ 0 by omega) (by grind)⟩).elim
theorem rev_cross (ax ay bx b x y : Int) : crossI bx b ax ay x y = - crossI ax ay bx b x y := by unfold crossI; grind
/-- A way that begins along an edge. -/
theorem on_start {vx vy wx wy tx ty M : Int} (hL : 0 < (wx - vx) * (wx - vx) + (wy - vy) * (wy - vy)) (hz : crossI vx vy wx wy tx ty = 0) (hw : 0 ≤ (tx - vx) * (wx - vx) + (ty - vy) * (wy - vy)) (hM : (tx - vx) * (wx - vx) + (ty - vy) * (wy - vy) < M) :
    onB (M * vx + (tx - vx)) (M * vy + (ty - vy)) (M * vx) (M * vy) (M * wx) (M * wy) = true := by
  have w1 : ((wx - vx) * (wx - vx) + (wy - vy) * (wy - vy)) * (tx - vx) = ((tx - vx) * (wx - vx) + (ty - vy) * (wy - vy)) * (wx - vx) := by unfold crossI at hz; grind
  have w2 : ((wx - vx) * (wx - vx) + (wy - vy) * (wy - vy)) * (ty - vy) = ((tx - vx) * (wx - vx) + (ty - vy) * (wy - vy)) * (wy - vy) := by unfold crossI at hz; grind
  generalize (wx - vx) * (wx - vx) + (wy - vy) * (wy - vy) = L at *
  generalize (tx - vx) * (wx - vx) + (ty - vy) * (wy - vy) = W at *
  have hLM : M ≤ L * M := by
    have := Int.mul_le_mul_of_nonneg_right (show 1 ≤ L by omega) (show 0 ≤ M by omega)
    omega
  exact onB_iff.mpr ⟨L * M, by omega, W, hw, by omega, by grind, by grind⟩
theorem onB_swap {x y a b c d : Int} (h : onB x y a b c d = true) : onB x y c d a b = true := by
  obtain ⟨k, hk, h⟩ := onB_iff.mp h
  exact onB_iff.mpr ⟨k, hk, seg_swap h⟩
theorem len_pos {ax ay bx b cx cy : Int} (h : crossI ax ay bx b cx cy ≠ 0) : 0 < (bx - ax) * (bx - ax) + (b - ay) * (b - ay) ∧ 0 < (cx - bx) * (cx - bx) + (cy - b) * (cy - b) := by
  have key : ∀ u v : Int, ¬ (u = 0 ∧ v = 0) → 0 < u * u + v * v := fun u v h => by
    have h1 := sq_nn u
    have h2 := sq_nn v
    rcases Int.lt_trichotomy u 0 with q | q | q
    · have := Int.mul_pos_of_neg_of_neg q q; omega
    · rcases Int.lt_trichotomy v 0 with r | r | r
      · have := Int.mul_pos_of_neg_of_neg r r; omega
      · exact absurd ⟨q, r⟩ h
      · have := Int.mul_pos r r; omega
    · have := Int.mul_pos q q; omega
  refine ⟨key _ _ fun ⟨h1, h2⟩ => h ?_, key _ _ fun ⟨h1, h2⟩ => h ?_⟩
  · unfold crossI; rw [h1, h2]; omega
  · have e1 : cx = bx := by omega
    have e2 : cy = b := by omega
    subst e1 e2
    unfold crossI; grind
section
variable {X Y : Nat → Int} {n : Nat}
/-- Beside the edge that begins at a corner. -/
theorem corner_side1 (hp : Simple X Y n) (ha : 0 < area2 X Y n) {p j : Nat} (hpn : p < n) (hj : j < n) (hpj : nxt n p = j) {tx ty : Int} (hc : crossI (X j) (Y j) (X (nxt n j)) (Y (nxt n j)) tx ty ≠ 0)
    (hav : (0 < crossI (X p) (Y p) (X j) (Y j) tx ty ∧ 0 < crossI (X p) (Y p) (X j) (Y j) (X (nxt n j)) (Y (nxt n j))) ∨ (crossI (X p) (Y p) (X j) (Y j) tx ty < 0 ∧ crossI (X p) (Y p) (X j) (Y j) (X (nxt n j)) (Y (nxt n j)) < 0) ∨
      (0 < crossI (X j) (Y j) (X (nxt n j)) (Y (nxt n j)) tx ty ∧ crossI (X p) (Y p) (X j) (Y j) (X (nxt n j)) (Y (nxt n j)) < 0) ∨ (crossI (X j) (Y j) (X (nxt n j)) (Y (nxt n j)) tx ty < 0 ∧ 0 < crossI (X p) (Y p) (X j) (Y j) (X (nxt n j)) (Y (nxt n j)))) :
    ∃ N : Int, 0 < N ∧ ∀ M, N ≤ M → wind (mulP M X) (mulP M Y) n (M * X j + (tx - X j)) (M * Y j + (ty - Y j)) = (if 0 < crossI (X j) (Y j) (X (nxt n j)) (Y (nxt n j)) tx ty then 1 else 0) ∧ ¬ OnP (mulP M X) (mulP M Y) n (M * X j + (tx - X j)) (M * Y j + (ty - Y j)) := by
  obtain ⟨N, hN, hall⟩ := all_from (P := fun i M => i ≠ j → i ≠ p → meetB (M * X j + (tx - X j)) (M * Y j + (ty - Y j)) (M * X j + (X (nxt n j) - X j)) (M * Y j + (Y (nxt n j) - Y j)) (M * X i) (M * Y i) (M * X (nxt n i)) (M * Y (nxt n i)) = false) n (fun i hi => by
    by_cases e : i = j
    · exact ⟨1, by omega, fun _ _ h => absurd e h⟩
    · by_cases e' : i = p
      · exact ⟨1, by omega, fun _ _ _ h => absurd e' h⟩
      · obtain ⟨N, h1, h2⟩ := apart_moved (corner_off hp hj hi e (fun h => e' (nxt_inj hi hpn (by rw [h, hpj])))) (tx - X j) (ty - Y j) (X (nxt n j) - X j) (Y (nxt n j) - Y j)
        exact ⟨N, h1, fun M hM _ _ => h2 M hM⟩)
  have hb := hp.bend p hpn
  rw [hpj] at hb
  have hl := (len_pos hb).2
  refine ⟨N + 1, by omega, fun M hM => ?_⟩
  have hM0 : 0 < M := by omega
  have h := hall M (by omega)
  have e : crossI (mulP M X j) (mulP M Y j) (mulP M X (nxt n j)) (mulP M Y (nxt n j)) (M * X j + (tx - X j)) (M * Y j + (ty - Y j)) = M * crossI (X j) (Y j) (X (nxt n j)) (Y (nxt n j)) tx ty := by
    unfold mulP crossI; grind
  have hsg := sign_mul e
  have ep : meetB (M * X j + (tx - X j)) (M * Y j + (ty - Y j)) (M * X j + (X (nxt n j) - X j)) (M * Y j + (Y (nxt n j) - Y j)) (M * X p) (M * Y p) (M * X j) (M * Y j) = false := by
    have f1 : crossI (M * X p) (M * Y p) (M * X j) (M * Y j) (M * X j + (tx - X j)) (M * Y j + (ty - Y j)) = M * crossI (X p) (Y p) (X j) (Y j) tx ty := by unfold crossI; grind
    have f2 : crossI (M * X p) (M * Y p) (M * X j) (M * Y j) (M * X j + (X (nxt n j) - X j)) (M * Y j + (Y (nxt n j) - Y j)) = M * crossI (X p) (Y p) (X j) (Y j) (X (nxt n j)) (Y (nxt n j)) := by unfold crossI; grind
    have f3 : crossI (M * X j) (M * Y j) (M * X (nxt n j)) (M * Y (nxt n j)) (M * X j + (tx - X j)) (M * Y j + (ty - Y j)) = M * crossI (X j) (Y j) (X (nxt n j)) (Y (nxt n j)) tx ty := e
    have f4 : crossI (M * X j) (M * Y j) (M * X (nxt n j)) (M * Y (nxt n j)) (M * X j + (X (nxt n j) - X j)) (M * Y j + (Y (nxt n j) - Y j)) = 0 := by unfold crossI; grind
    have f5 : crossI (M * X j) (M * Y j) (M * X (nxt n j)) (M * Y (nxt n j)) (M * X p) (M * Y p) = M * M * crossI (X p) (Y p) (X j) (Y j) (X (nxt n j)) (Y (nxt n j)) := by unfold crossI; grind
    have f6 : crossI (M * X j) (M * Y j) (M * X (nxt n j)) (M * Y (nxt n j)) (M * X j) (M * Y j) = 0 := by unfold crossI; grind
    have s1 := sign_mul f1
    have s2 := sign_mul f2
    have s5 := sign_mul f5
    have hMM := Int.mul_pos hM0 hM0
    have hne : ¬ (M * X j + (X (nxt n j) - X j) = M * X j ∧ M * Y j + (Y (nxt n j) - Y j) = M * Y j) := fun ⟨h1, h2⟩ => by
      rw [show X (nxt n j) - X j = 0 by omega, show Y (nxt n j) - Y j = 0 by omega] at hl
      omega
    rcases hav with q | q | q | q
    · exact side_no_meet (.inl ⟨s1.1 hM0 q.1, s2.1 hM0 q.2⟩)
    · exact side_no_meet (.inr ⟨s1.2.1 hM0 q.1, s2.2.1 hM0 q.2⟩)
    · exact touch_apart (ex := M * X j) (ey := M * Y j) (fx := M * X (nxt n j)) (fy := M * Y (nxt n j)) (hsg.1 hM0 q.1) f4 (s5.2.1 hMM q.2) f6 hne
    · have o : ∀ x y : Int, crossI (M * X (nxt n j)) (M * Y (nxt n j)) (M * X j) (M * Y j) x y = - crossI (M * X j) (M * Y j) (M * X (nxt n j)) (M * Y (nxt n j)) x y := fun x y => by unfold crossI; grind
      refine touch_apart (ex := M * X (nxt n j)) (ey := M * Y (nxt n j)) (fx := M * X j) (fy := M * Y j) ?_ ?_ ?_ ?_ hne
      · rw [o]; have := hsg.2.1 hM0 q.1; unfold mulP at this; omega
      · rw [o, f4]; rfl
      · rw [o]; have := s5.1 hMM q.2; omega
      · rw [o, f6]; rfl
  have hm : ∀ i, i < n → i ≠ j → meetB (M * X j + (tx - X j)) (M * Y j + (ty - Y j)) (M * X j + (X (nxt n j) - X j)) (M * Y j + (Y (nxt n j) - Y j)) (mulP M X i) (mulP M Y i) (mulP M X (nxt n i)) (mulP M Y (nxt n i)) = false := fun i hi hij => by
    by_cases e' : i = p
    · subst e'; rw [hpj]; exact ep
    · exact h i hi hij e'
  have ho' : On' M 1 (mulP M X j) (mulP M Y j) (mulP M X (nxt n j)) (mulP M Y (nxt n j)) (M * X j + (X (nxt n j) - X j)) (M * Y j + (Y (nxt n j) - Y j)) := by
    unfold mulP
    exact ⟨by grind, by grind⟩
  have hw := wind_beside (simple_mul hM0 hp) (area2_mul hM0 ha) hj (by omega) (by omega) ho' (by omega) hm
  refine ⟨?_, ?_⟩
  · rw [hw]
    by_cases c : 0 < crossI (X j) (Y j) (X (nxt n j)) (Y (nxt n j)) tx ty
    · rw [if_pos c, if_pos (hsg.1 hM0 c)]
    · rw [if_neg c, if_neg (by omega)]
  · rintro ⟨i, hi, hon⟩
    by_cases hij : i = j
    · subst hij
      obtain ⟨K, hK, t, t0, t1, g1, g2⟩ := onB_iff.mp hon
      have : K * crossI (mulP M X i) (mulP M Y i) (mulP M X (nxt n i)) (mulP M Y (nxt n i)) (M * X i + (tx - X i)) (M * Y i + (ty - Y i)) = 0 := by unfold crossI; grind
      rcases Int.mul_eq_zero.mp this with q | q
      · omega
      · omega
    · exact ne_tf (no_on (hm i hi hij)).1 hon
/-- Beside the edge that ends at a corner. -/
theorem corner_side2 (hp : Simple X Y n) (ha : 0 < area2 X Y n) {p j : Nat} (hpn : p < n) (hj : j < n) (hpj : nxt n p = j) {tx ty : Int} (hc : crossI (X p) (Y p) (X j) (Y j) tx ty ≠ 0)
    (hav : (0 < crossI (X p) (Y p) (X j) (Y j) tx ty ∧ crossI (X p) (Y p) (X j) (Y j) (X (nxt n j)) (Y (nxt n j)) < 0) ∨ (crossI (X p) (Y p) (X j) (Y j) tx ty < 0 ∧ 0 < crossI (X p) (Y p) (X j) (Y j) (X (nxt n j)) (Y (nxt n j)))) :
    ∃ N : Int, 0 < N ∧ ∀ M, N ≤ M → wind (mulP M X) (mulP M Y) n (M * X j + (tx - X j)) (M * Y j + (ty - Y j)) = (if 0 < crossI (X p) (Y p) (X j) (Y j) tx ty then 1 else 0) ∧ ¬ OnP (mulP M X) (mulP M Y) n (M * X j + (tx - X j)) (M * Y j + (ty - Y j)) := by
  obtain ⟨N, hN, hall⟩ := all_from (P := fun i M => i ≠ j → i ≠ p → meetB (M * X j + (tx - X j)) (M * Y j + (ty - Y j)) (M * X j + (X p - X j)) (M * Y j + (Y p - Y j)) (M * X i) (M * Y i) (M * X (nxt n i)) (M * Y (nxt n i)) = false) n (fun i hi => by
    by_cases e : i = j
    · exact ⟨1, by omega, fun _ _ h => absurd e h⟩
    · by_cases e' : i = p
      · exact ⟨1, by omega, fun _ _ _ h => absurd e' h⟩
      · obtain ⟨N, h1, h2⟩ := apart_moved (corner_off hp hj hi e (fun h => e' (nxt_inj hi hpn (by rw [h, hpj])))) (tx - X j) (ty - Y j) (X p - X j) (Y p - Y j)
        exact ⟨N, h1, fun M hM _ _ => h2 M hM⟩)
  have hb := hp.bend p hpn
  rw [hpj] at hb
  have hl := (len_pos hb).1
  have hjp : p ≠ j := fun h => by
    have := (nxt_ne hp.three hpn).1
    omega
  refine ⟨N + 1, by omega, fun M hM => ?_⟩
  have hM0 : 0 < M := by omega
  have h := hall M (by omega)
  have e : crossI (mulP M X p) (mulP M Y p) (mulP M X (nxt n p)) (mulP M Y (nxt n p)) (M * X j + (tx - X j)) (M * Y j + (ty - Y j)) = M * crossI (X p) (Y p) (X j) (Y j) tx ty := by
    rw [hpj]; unfold mulP crossI; grind
  have hsg := sign_mul e
  have ep : meetB (M * X j + (tx - X j)) (M * Y j + (ty - Y j)) (M * X j + (X p - X j)) (M * Y j + (Y p - Y j)) (M * X j) (M * Y j) (M * X (nxt n j)) (M * Y (nxt n j)) = false := by
    have f1 : crossI (M * X p) (M * Y p) (M * X j) (M * Y j) (M * X j + (tx - X j)) (M * Y j + (ty - Y j)) = M * crossI (X p) (Y p) (X j) (Y j) tx ty := by unfold crossI; grind
    have f4 : crossI (M * X p) (M * Y p) (M * X j) (M * Y j) (M * X j + (X p - X j)) (M * Y j + (Y p - Y j)) = 0 := by unfold crossI; grind
    have f5 : crossI (M * X p) (M * Y p) (M * X j) (M * Y j) (M * X (nxt n j)) (M * Y (nxt n j)) = M * M * crossI (X p) (Y p) (X j) (Y j) (X (nxt n j)) (Y (nxt n j)) := by unfold crossI; grind
    have f6 : crossI (M * X p) (M * Y p) (M * X j) (M * Y j) (M * X j) (M * Y j) = 0 := by unfold crossI; grind
    have s1 := sign_mul f1
    have s5 := sign_mul f5
    have hMM := Int.mul_pos hM0 hM0
    have hne : ¬ (M * X j + (X p - X j) = M * X j ∧ M * Y j + (Y p - Y j) = M * Y j) := fun ⟨h1, h2⟩ => by
      rw [show X j - X p = 0 by omega, show Y j - Y p = 0 by omega] at hl
      omega
    rw [← meet_swap2]
    rcases hav with q | q
    · exact touch_apart (ex := M * X p) (ey := M * Y p) (fx := M * X j) (fy := M * Y j) (s1.1 hM0 q.1) f4 (s5.2.1 hMM q.2) f6 hne
    · have o : ∀ x y : Int, crossI (M * X j) (M * Y j) (M * X p) (M * Y p) x y = - crossI (M * X p) (M * Y p) (M * X j) (M * Y j) x y := fun x y => by unfold crossI; grind
      refine touch_apart (ex := M * X j) (ey := M * Y j) (fx := M * X p) (fy := M * Y p) ?_ ?_ ?_ ?_ hne
      · rw [o]; have := s1.2.1 hM0 q.1; omega
      · rw [o, f4]; rfl
      · rw [o]; have := s5.1 hMM q.2; omega
      · rw [o, f6]; rfl
  have hm : ∀ i, i < n → i ≠ p → meetB (M * X j + (tx - X j)) (M * Y j + (ty - Y j)) (M * X j + (X p - X j)) (M * Y j + (Y p - Y j)) (mulP M X i) (mulP M Y i) (mulP M X (nxt n i)) (mulP M Y (nxt n i)) = false := fun i hi hip => by
    by_cases e' : i = j
    · subst e'; exact ep
    · exact h i hi e' hip
  have ho' : On' M (M - 1) (mulP M X p) (mulP M Y p) (mulP M X (nxt n p)) (mulP M Y (nxt n p)) (M * X j + (X p - X j)) (M * Y j + (Y p - Y j)) := by
    rw [hpj]
    unfold mulP
    exact ⟨by grind, by grind⟩
  have hw := wind_beside (simple_mul hM0 hp) (area2_mul hM0 ha) hpn (by omega) (by omega) ho' (by omega) hm
  refine ⟨?_, ?_⟩
  · rw [hw]
    by_cases c : 0 < crossI (X p) (Y p) (X j) (Y j) tx ty
    · rw [if_pos c, if_pos (hsg.1 hM0 c)]
    · rw [if_neg c, if_neg (by omega)]
  · rintro ⟨i, hi, hon⟩
    by_cases hij : i = p
    · subst hij
      obtain ⟨K, hK, t, t0, t1, g1, g2⟩ := onB_iff.mp hon
      have : K * crossI (mulP M X i) (mulP M Y i) (mulP M X (nxt n i)) (mulP M Y (nxt n i)) (M * X j + (tx - X j)) (M * Y j + (ty - Y j)) = 0 := by unfold crossI; grind
      rcases Int.mul_eq_zero.mp this with q | q
      · omega
      · omega
    · exact ne_tf (no_on (hm i hi hij)).1 hon
/-- Does the way from the corner j (behind p) to a place begin in the polygon? -/
def OpI (X Y : Nat → Int) (n p j : Nat) (tx ty : Int) : Prop :=
  if 0 < crossI (X p) (Y p) (X j) (Y j) (X (nxt n j)) (Y (nxt n j)) then 0 ≤ crossI (X j) (Y j) (X (nxt n j)) (Y (nxt n j)) tx ty ∧ 0 ≤ crossI (X p) (Y p) (X j) (Y j) tx ty
  else 0 ≤ crossI (X p) (Y p) (X j) (Y j) tx ty ∨ 0 ≤ crossI (X j) (Y j) (X (nxt n j)) (Y (nxt n j)) tx ty
theorem near_corner (hp : Simple X Y n) (ha : 0 < area2 X Y n) {p j : Nat} (hpn : p < n) (hj : j < n) (hpj : nxt n p = j) (tx ty : Int) :
    ∃ N : Int, 0 < N ∧ ∀ M, N ≤ M → (OpI X Y n p j tx ty → InP (mulP M X) (mulP M Y) n (M * X j + (tx - X j)) (M * Y j + (ty - Y j))) ∧ (¬ OpI X Y n p j tx ty → ¬ InP (mulP M X) (mulP M Y) n (M * X j + (tx - X j)) (M * Y j + (ty - Y j))) := by
  have hb := hp.bend p hpn
  rw [hpj] at hb
  obtain ⟨l1, l2⟩ := len_pos hb
  have i1 : ((X (nxt n j) - X j) * (X (nxt n j) - X j) + (Y (nxt n j) - Y j) * (Y (nxt n j) - Y j)) * crossI (X p) (Y p) (X j) (Y j) tx ty = ((tx - X j) * (X (nxt n j) - X j) + (ty - Y j) * (Y (nxt n j) - Y j)) * crossI (X p) (Y p) (X j) (Y j) (X (nxt n j)) (Y (nxt n j)) + ((X j - X p) * (X (nxt n j) - X j) + (Y j - Y p) * (Y (nxt n j) - Y j)) * crossI (X j) (Y j) (X (nxt n j)) (Y (nxt n j)) tx ty := by
    unfold crossI; grind
  have i2 : ((X j - X p) * (X j - X p) + (Y j - Y p) * (Y j - Y p)) * crossI (X j) (Y j) (X (nxt n j)) (Y (nxt n j)) tx ty = ((tx - X j) * (X p - X j) + (ty - Y j) * (Y p - Y j)) * crossI (X p) (Y p) (X j) (Y j) (X (nxt n j)) (Y (nxt n j)) + ((X j - X p) * (X (nxt n j) - X j) + (Y j - Y p) * (Y (nxt n j) - Y j)) * crossI (X p) (Y p) (X j) (Y j) tx ty := by
    unfold crossI; grind
  have l1' : 0 < (X p - X j) * (X p - X j) + (Y p - Y j) * (Y p - Y j) := by
    have : (X p - X j) * (X p - X j) + (Y p - Y j) * (Y p - Y j) = (X j - X p) * (X j - X p) + (Y j - Y p) * (Y j - Y p) := by grind
    omega
  have a1 : crossI (X j) (Y j) (X (nxt n j)) (Y (nxt n j)) tx ty = 0 → 0 ≤ (tx - X j) * (X (nxt n j) - X j) + (ty - Y j) * (Y (nxt n j) - Y j) → ∀ M, (tx - X j) * (X (nxt n j) - X j) + (ty - Y j) * (Y (nxt n j) - Y j) < M → InP (mulP M X) (mulP M Y) n (M * X j + (tx - X j)) (M * Y j + (ty - Y j)) := fun h1 h2 M hM =>
    .inl ⟨j, hj, on_start l2 h1 h2 hM⟩
  have a2 : crossI (X p) (Y p) (X j) (Y j) tx ty = 0 → 0 ≤ (tx - X j) * (X p - X j) + (ty - Y j) * (Y p - Y j) → ∀ M, (tx - X j) * (X p - X j) + (ty - Y j) * (Y p - Y j) < M → InP (mulP M X) (mulP M Y) n (M * X j + (tx - X j)) (M * Y j + (ty - Y j)) := fun h1 h2 M hM =>
    .inl ⟨p, hpn, by rw [hpj]; exact onB_swap (on_start l1' (by have := rev_cross (X p) (Y p) (X j) (Y j) tx ty; omega) h2 hM)⟩
  have s1 := corner_side1 hp ha hpn hj hpj (tx := tx) (ty := ty)
  have s2 := corner_side2 hp ha hpn hj hpj (tx := tx) (ty := ty)
  unfold OpI
  generalize crossI (X p) (Y p) (X j) (Y j) (X (nxt n j)) (Y (nxt n j)) = c at *
  generalize crossI (X j) (Y j) (X (nxt n j)) (Y (nxt n j)) tx ty = A at *
  generalize crossI (X p) (Y p) (X j) (Y j) tx ty = B at *
  generalize (tx - X j) * (X (nxt n j) - X j) + (ty - Y j) * (Y (nxt n j) - Y j) = W at *
  generalize (tx - X j) * (X p - X j) + (ty - Y j) * (Y p - Y j) = U at *
  generalize (X (nxt n j) - X j) * (X (nxt n j) - X j) + (Y (nxt n j) - Y j) * (Y (nxt n j) - Y j) = L at *
  generalize (X j - X p) * (X j - X p) + (Y j - Y p) * (Y j - Y p) = L' at *
  generalize (X j - X p) * (X (nxt n j) - X j) + (Y j - Y p) * (Y (nxt n j) - Y j) = Z at *
  have ins : ∀ {N : Int} {C : Prop} [Decidable C], C → (0 < N ∧ ∀ M, N ≤ M → wind (mulP M X) (mulP M Y) n (M * X j + (tx - X j)) (M * Y j + (ty - Y j)) = (if C then 1 else 0) ∧ ¬ OnP (mulP M X) (mulP M Y) n (M * X j + (tx - X j)) (M * Y j + (ty - Y j))) → ∀ M, N ≤ M → InP (mulP M X) (mulP M Y) n (M * X j + (tx - X j)) (M * Y j + (ty - Y j)) := fun hC h M hM =>
    .inr (by rw [(h.2 M hM).1, if_pos hC]; decide)
  have out : ∀ {N : Int} {C : Prop} [Decidable C], ¬ C → (0 < N ∧ ∀ M, N ≤ M → wind (mulP M X) (mulP M Y) n (M * X j + (tx - X j)) (M * Y j + (ty - Y j)) = (if C then 1 else 0) ∧ ¬ OnP (mulP M X) (mulP M Y) n (M * X j + (tx - X j)) (M * Y j + (ty - Y j))) → ∀ M, N ≤ M → ¬ InP (mulP M X) (mulP M Y) n (M * X j + (tx - X j)) (M * Y j + (ty - Y j)) := fun hC h M hM => by
    rintro (q | q)
    · exact (h.2 M hM).2 q
    · rw [(h.2 M hM).1, if_neg hC] at q; exact q rfl
  by_cases hA0 : A = 0
  · have t1 : L * B = W * c := by rw [hA0, Int.mul_zero] at i1; omega
    have u1 := sign_mul t1
    have u2 := sign_mul (show L * B = L * B from rfl)
    by_cases hB : 0 < c
    · simp only [if_pos hB]
      by_cases hW : 0 ≤ W
      · refine ⟨W + 1, by omega, fun M hM => ⟨fun _ => a1 hA0 hW M (by omega), fun h => absurd ⟨by omega, ?_⟩ h⟩⟩
        rcases Int.lt_or_le B 0 with q | q
        · have := u2.2.1 l2 q
          by_cases hW0 : W = 0
          · rw [hW0, Int.zero_mul] at t1; omega
          · have := u1.1 (by omega) hB; omega
        · exact q
      · have hB0 : B < 0 := by
          have := u1.2.2.1 (by omega) hB
          rcases Int.lt_trichotomy B 0 with q | q | q
          · exact q
          · rw [q, Int.mul_zero] at this; omega
          · have := u2.1 l2 q; omega
        have hBz : B ≠ 0 := by omega
        obtain ⟨N, hN⟩ := s2 hBz (.inr ⟨hB0, hB⟩)
        exact ⟨N, hN.1, fun M hM => ⟨fun h => absurd h.2 (by omega), fun _ => out (by omega) hN M hM⟩⟩
    · simp only [if_neg hB]
      have hcn : c < 0 := Int.lt_iff_le_and_ne.mpr ⟨Int.not_lt.mp hB, hb⟩
      by_cases hB0 : 0 < B
      · have hBz : B ≠ 0 := by omega
        obtain ⟨N, hN⟩ := s2 hBz (.inl ⟨hB0, hcn⟩)
        exact ⟨N, hN.1, fun M hM => ⟨fun _ => ins hB0 hN M hM, fun h => absurd (.inl (by omega)) h⟩⟩
      · have hW : 0 ≤ W := by
          rcases Int.lt_or_le W 0 with q | q
          · have := u1.2.2.2.1 q hcn
            rcases Int.lt_or_le B 0 with r | r
            · have := u2.2.1 l2 r; omega
            · rw [show B = 0 by omega, Int.mul_zero] at this; omega
          · exact q
        exact ⟨W + 1, by omega, fun M hM => ⟨fun _ => a1 hA0 hW M (by omega), fun h => absurd (.inr (by omega)) h⟩⟩
  · by_cases hB0 : B = 0
    · have t1 : L' * A = U * c := by rw [hB0, Int.mul_zero] at i2; omega
      have u1 := sign_mul t1
      have u2 := sign_mul (show L' * A = L' * A from rfl)
      by_cases hA : 0 < A
      · by_cases hB : 0 < c
        · simp only [if_pos hB]
          have hU : 0 ≤ U := by
            rcases Int.lt_or_le U 0 with q | q
            · have := u1.2.2.1 q hB
              have := u2.1 l1 hA; omega
            · exact q
          exact ⟨U + 1, by omega, fun M hM => ⟨fun _ => a2 hB0 hU M (by omega), fun h => absurd ⟨by omega, by omega⟩ h⟩⟩
        · simp only [if_neg hB]
          have hcn : c < 0 := Int.lt_iff_le_and_ne.mpr ⟨Int.not_lt.mp hB, hb⟩
          obtain ⟨N, hN⟩ := s1 hA0 (.inr (.inr (.inl ⟨hA, hcn⟩)))
          exact ⟨N, hN.1, fun M hM => ⟨fun _ => ins hA hN M hM, fun h => absurd (.inr (by omega)) h⟩⟩
      · by_cases hB : 0 < c
        · simp only [if_pos hB]
          have hAn : A < 0 := by omega
          obtain ⟨N, hN⟩ := s1 hA0 (.inr (.inr (.inr ⟨hAn, hB⟩)))
          exact ⟨N, hN.1, fun M hM => ⟨fun h => absurd h.1 (by omega), fun _ => out (by omega) hN M hM⟩⟩
        · simp only [if_neg hB]
          have hcn : c < 0 := Int.lt_iff_le_and_ne.mpr ⟨Int.not_lt.mp hB, hb⟩
          have hU : 0 ≤ U := by
            rcases Int.lt_or_le U 0 with q | q
            · have := u1.2.2.2.1 q (show c < 0 by omega)
              have := u2.2.1 l1 (show A < 0 by omega); omega
            · exact q
          exact ⟨U + 1, by omega, fun M hM => ⟨fun _ => a2 hB0 hU M (by omega), fun h => absurd (.inl (by omega)) h⟩⟩
    · by_cases hB : 0 < c
      · simp only [if_pos hB]
        by_cases hA : 0 < A
        · by_cases hBp : 0 < B
          · obtain ⟨N, hN⟩ := s1 hA0 (.inl ⟨hBp, hB⟩)
            exact ⟨N, hN.1, fun M hM => ⟨fun _ => ins hA hN M hM, fun h => absurd ⟨by omega, by omega⟩ h⟩⟩
          · have hBn : B < 0 := by omega
            obtain ⟨N, hN⟩ := s2 hB0 (.inr ⟨hBn, hB⟩)
            exact ⟨N, hN.1, fun M hM => ⟨fun h => absurd h.2 (by omega), fun _ => out hBp hN M hM⟩⟩
        · have hAn : A < 0 := by omega
          obtain ⟨N, hN⟩ := s1 hA0 (.inr (.inr (.inr ⟨hAn, hB⟩)))
          exact ⟨N, hN.1, fun M hM => ⟨fun h => absurd h.1 (by omega), fun _ => out hA hN M hM⟩⟩
      · simp only [if_neg hB]
        have hcn : c < 0 := Int.lt_iff_le_and_ne.mpr ⟨Int.not_lt.mp hB, hb⟩
        by_cases hA : 0 < A
        · obtain ⟨N, hN⟩ := s1 hA0 (.inr (.inr (.inl ⟨hA, hcn⟩)))
          exact ⟨N, hN.1, fun M hM => ⟨fun _ => ins hA hN M hM, fun h => absurd (.inr (by omega)) h⟩⟩
        · by_cases hBp : 0 < B
          · obtain ⟨N, hN⟩ := s2 hB0 (.inl ⟨hBp, hcn⟩)
            exact ⟨N, hN.1, fun M hM => ⟨fun _ => ins hBp hN M hM, fun h => absurd (.inl (by omega)) h⟩⟩
          · have hBn : B < 0 := by omega
            obtain ⟨N, hN⟩ := s1 hA0 (.inr (.inl ⟨hBn, hcn⟩))
            exact ⟨N, hN.1, fun M hM => ⟨fun h => by rcases h with h | h <;> omega, fun _ => out hA hN M hM⟩⟩
end
end Go.Proofs.Ytglepdhapakmbaa
/- Plane geometry, no program: a segment that begins in a polygon and leaves it nowhere. -/
namespace Go.Proofs.Ytglepdhapakmbaa
open Go.RowKit
/-- How far along the way from a to b. -/
def mu (ax ay bx b x y : Int) : Int := (x - ax) * (bx - ax) + (y - ay) * (b - ay)
theorem mu_line {ax ay bx b x y : Int} (h : crossI ax ay bx b x y = 0) :
    ((bx - ax) * (bx - ax) + (b - ay) * (b - ay)) * (x - ax) = mu ax ay bx b x y * (bx - ax) ∧ ((bx - ax) * (bx - ax) + (b - ay) * (b - ay)) * (y - ay) = mu ax ay bx b x y * (b - ay) := by
  unfold crossI at h; unfold mu; exact ⟨by grind, by grind⟩
theorem len_ne {ax ay bx b : Int} (h : ¬ (ax = bx ∧ ay = b)) : 0 < (bx - ax) * (bx - ax) + (b - ay) * (b - ay) := by
  have h1 := sq_nn (bx - ax)
  have h2 := sq_nn (b - ay)
  rcases Int.lt_trichotomy (bx - ax) 0 with q | q | q
  · have := Int.mul_pos_of_neg_of_neg q q; omega
  · rcases Int.lt_trichotomy (b - ay) 0 with r | r | r
    · have := Int.mul_pos_of_neg_of_neg r r; omega
    · exact absurd ⟨by omega, by omega⟩ h
    · have := Int.mul_pos r r; omega
  · have := Int.mul_pos q q; omega
/-- Between two points of a line. -/
theorem on_of_mu {ax ay bx b cx cy ex ey px py : Int} (hab : ¬ (ax = bx ∧ ay = b)) (hc : crossI ax ay bx b cx cy = 0) (he : crossI ax ay bx b ex ey = 0) (hp : crossI ax ay bx b px py = 0)
    (h1 : mu ax ay bx b cx cy ≤ mu ax ay bx b px py) (h2 : mu ax ay bx b px py ≤ mu ax ay bx b ex ey) : onB px py cx cy ex ey = true := by
  have hL := len_ne hab
  obtain ⟨c1, c2⟩ := mu_line hc
  obtain ⟨e1, e2⟩ := mu_line he
  obtain ⟨p1, p2⟩ := mu_line hp
  generalize mu ax ay bx b cx cy = mc at *
  generalize mu ax ay bx b ex ey = me at *
  generalize mu ax ay bx b px py = mp at *
  generalize (bx - ax) * (bx - ax) + (b - ay) * (b - ay) = L at *
  have hz : L ≠ 0 := by omega
  by_cases h : mc = me
  · have e : mp = mc := by omega
    refine onB_iff.mpr ⟨1, by omega, 0, by omega, by omega, ?_, ?_⟩
    · have : L * (px - ax) = L * (cx - ax) := by rw [p1, c1, e]
      have := Int.eq_of_mul_eq_mul_left hz this
      omega
    · have : L * (py - ay) = L * (cy - ay) := by rw [p2, c2, e]
      have := Int.eq_of_mul_eq_mul_left hz this
      omega
  · refine onB_iff.mpr ⟨me - mc, by omega, mp - mc, by omega, by omega, ?_, ?_⟩
    · refine Int.eq_of_mul_eq_mul_left hz ?_
      grind
    · refine Int.eq_of_mul_eq_mul_left hz ?_
      grind
theorem cross_seg {ax ay bx b cx cy dx dy k x y : Int} (h : Seg cx cy dx dy k x y) : ∃ s, 0 ≤ s ∧ s ≤ k ∧ (bx - ax) * (y - k * ay) - (b - ay) * (x - k * ax) = (k - s) * crossI ax ay bx b cx cy + s * crossI ax ay bx b dx dy := by
  obtain ⟨s, s0, s1, e1, e2⟩ := h
  exact ⟨s, s0, s1, by rw [e1, e2]; unfold crossI; grind⟩
theorem on_line {px py ax ay bx b : Int} (h : onB px py ax ay bx b = true) : crossI ax ay bx b px py = 0 := by
  obtain ⟨k, hk, s, s0, s1, e1, e2⟩ := onB_iff.mp h
  have : k * crossI ax ay bx b px py = 0 := by unfold crossI; grind
  rcases Int.mul_eq_zero.mp this with q | q
  · omega
  · exact q
/-- A part of a segment. -/
theorem on_trans {px py ax ay bx b zx zy : Int} (hz : onB zx zy ax ay bx b = true) (hp : onB px py ax ay zx zy = true) : onB px py ax ay bx b = true := by
  obtain ⟨k, hk, s, s0, s1, e1, e2⟩ := onB_iff.mp hz
  obtain ⟨m, hm, t, t0, t1, f1, f2⟩ := onB_iff.mp hp
  refine onB_iff.mpr ⟨k * m, Int.mul_pos hk hm, s * t, Int.mul_nonneg s0 t0, ?_, by grind, by grind⟩
  exact Int.mul_le_mul s1 t1 t0 (by omega)
section
variable {X Y : Nat → Int} {n : Nat}
theorem OpI_dir {p j : Nat} {zx zy bx b k1 k2 : Int} (h1 : 0 < k1) (h2 : 0 < k2) (ex : k1 * (zx - X j) = k2 * (bx - X j)) (ey : k1 * (zy - Y j) = k2 * (b - Y j)) (h : OpI X Y n p j bx b) : OpI X Y n p j zx zy := by
  have e1 : k1 * crossI (X j) (Y j) (X (nxt n j)) (Y (nxt n j)) zx zy = k2 * crossI (X j) (Y j) (X (nxt n j)) (Y (nxt n j)) bx b := by
    have q1 : k1 * crossI (X j) (Y j) (X (nxt n j)) (Y (nxt n j)) zx zy = (X (nxt n j) - X j) * (k1 * (zy - Y j)) - (Y (nxt n j) - Y j) * (k1 * (zx - X j)) := by unfold crossI; grind
    rw [q1, ex, ey]; unfold crossI; grind
  have e2 : k1 * crossI (X p) (Y p) (X j) (Y j) zx zy = k2 * crossI (X p) (Y p) (X j) (Y j) bx b := by
    have q1 : k1 * crossI (X p) (Y p) (X j) (Y j) zx zy = (X j - X p) * (k1 * (zy - Y j)) - (Y j - Y p) * (k1 * (zx - X j)) := by unfold crossI; grind
    rw [q1, ex, ey]; unfold crossI; grind
  have s1 := mul_sign h1 h2 e1
  have s2 := mul_sign h1 h2 e2
  unfold OpI at h ⊢
  split at h <;> rename_i hc
  · rw [if_pos hc]; omega
  · rw [if_neg hc]; omega
/-- What a segment from a to b wants, to lie in a polygon. -/
structure Stays (X Y : Nat → Int) (n : Nat) (ax ay bx b : Int) : Prop where
  ne : ¬ (ax = bx ∧ ay = b)
  start : InP X Y n ax ay
  proper : ∀ i, i < n → ¬ (((crossI ax ay bx b (X i) (Y i) < 0 ∧ 0 < crossI ax ay bx b (X (nxt n i)) (Y (nxt n i))) ∨ (0 < crossI ax ay bx b (X i) (Y i) ∧ crossI ax ay bx b (X (nxt n i)) (Y (nxt n i)) < 0)) ∧
    ((crossI (X i) (Y i) (X (nxt n i)) (Y (nxt n i)) ax ay < 0 ∧ 0 < crossI (X i) (Y i) (X (nxt n i)) (Y (nxt n i)) bx b) ∨ (0 < crossI (X i) (Y i) (X (nxt n i)) (Y (nxt n i)) ax ay ∧ crossI (X i) (Y i) (X (nxt n i)) (Y (nxt n i)) bx b < 0)))
  corner : ∀ p j, p < n → j < n → nxt n p = j → onB (X j) (Y j) ax ay bx b = true → ¬ (X j = bx ∧ Y j = b) → OpI X Y n p j bx b
  edge : ∀ j, j < n → onB ax ay (X j) (Y j) (X (nxt n j)) (Y (nxt n j)) = true → (∀ i, i < n → ¬ (X i = ax ∧ Y i = ay)) → 0 ≤ crossI (X j) (Y j) (X (nxt n j)) (Y (nxt n j)) bx b
/-- No edge meets the way from u to z, but in u. -/
def Free (X Y : Nat → Int) (n : Nat) (ux uy zx zy : Int) : Prop := ∀ i, i < n → ∀ K x y, 0 < K → Seg ux uy zx zy K x y → Seg (X i) (Y i) (X (nxt n i)) (Y (nxt n i)) K x y → x = K * ux ∧ y = K * uy
theorem free_key {ux uy zx zy M : Int} (hM : 1 < M) (hne : ¬ (ux = zx ∧ uy = zy)) (hf : Free X Y n ux uy zx zy) :
    ∀ i, i < n → meetB (M * ux + (zx - ux)) (M * uy + (zy - uy)) (M * zx) (M * zy) (mulP M X i) (mulP M Y i) (mulP M X (nxt n i)) (mulP M Y (nxt n i)) = false := by
  have key : ∀ i, i < n → meetB (M * ux + (zx - ux)) (M * uy + (zy - uy)) (M * zx) (M * zy) (mulP M X i) (mulP M Y i) (mulP M X (nxt n i)) (mulP M Y (nxt n i)) = false := fun i hi => by
    cases q : meetB (M * ux + (zx - ux)) (M * uy + (zy - uy)) (M * zx) (M * zy) (mulP M X i) (mulP M Y i) (mulP M X (nxt n i)) (mulP M Y (nxt n i)) with
    | false => rfl
    | true =>
      obtain ⟨K, x, y, hK, ⟨s, s0, s1, e1, e2⟩, t, t0, t1, g1, g2⟩ := common_of_meet q
      unfold mulP at g1 g2
      have h1 : Seg ux uy zx zy (K * M) x y := by
        refine ⟨K + s * (M - 1), ?_, ?_, by rw [e1]; grind, by rw [e2]; grind⟩
        · have := Int.mul_nonneg s0 (show 0 ≤ M - 1 by omega)
          omega
        · have := Int.mul_le_mul_of_nonneg_right s1 (show 0 ≤ M - 1 by omega)
          rw [show K * M = K + K * (M - 1) by grind]; omega
      have h2 : Seg (X i) (Y i) (X (nxt n i)) (Y (nxt n i)) (K * M) x y := by
        refine ⟨t * M, Int.mul_nonneg t0 (by omega), Int.mul_le_mul_of_nonneg_right t1 (by omega), by rw [g1]; grind, by rw [g2]; grind⟩
      obtain ⟨f1, f2⟩ := hf i hi (K * M) x y (Int.mul_pos hK (by omega)) h1 h2
      have w : 0 < K + s * (M - 1) := by
        have := Int.mul_nonneg s0 (show 0 ≤ M - 1 by omega)
        omega
      have idn : ∀ K s M u z : Int, (K + s * (M - 1)) * (z - u) = (K * (M * u + (z - u)) + s * (M * z - (M * u + (z - u)))) - K * M * u := fun K s M u z => by grind
      refine (hne ⟨?_, ?_⟩).elim
      · have : (K + s * (M - 1)) * (zx - ux) = 0 := by rw [idn, ← e1, f1]; omega
        rcases Int.mul_eq_zero.mp this with r | r <;> omega
      · have : (K + s * (M - 1)) * (zy - uy) = 0 := by rw [idn, ← e2, f2]; omega
        rcases Int.mul_eq_zero.mp this with r | r <;> omega
  exact key
theorem free_wind (hn : 0 < n) {ux uy zx zy M : Int} (hM : 1 < M) (hne : ¬ (ux = zx ∧ uy = zy)) (hf : Free X Y n ux uy zx zy) :
    ¬ OnP (mulP M X) (mulP M Y) n (M * ux + (zx - ux)) (M * uy + (zy - uy)) ∧ wind (mulP M X) (mulP M Y) n (M * ux + (zx - ux)) (M * uy + (zy - uy)) = wind X Y n zx zy := by
  have key := free_key hM hne hf
  refine ⟨fun ⟨i, hi, hon⟩ => ne_tf (no_on (key i hi)).1 hon, ?_⟩
  rw [wind_const hn key]
  exact wind_scale (by omega)
theorem free_meet {ux uy zx zy : Int} (hf : Free X Y n ux uy zx zy) (hu : ¬ OnP X Y n ux uy) : ∀ i, i < n → meetB ux uy zx zy (X i) (Y i) (X (nxt n i)) (Y (nxt n i)) = false := fun i hi => by
  cases q : meetB ux uy zx zy (X i) (Y i) (X (nxt n i)) (Y (nxt n i)) with
  | false => rfl
  | true =>
    obtain ⟨K, x, y, hK, h1, h2⟩ := common_of_meet q
    obtain ⟨f1, f2⟩ := hf i hi K x y hK h1 h2
    rw [f1, f2] at h2
    exact (hu ⟨i, hi, onB_iff.mpr ⟨K, hK, h2⟩⟩).elim
/-- A way that is free but for its beginning, and begins in the polygon. -/
theorem free_in (hn : 0 < n) {ux uy zx zy : Int} (hne : ¬ (ux = zx ∧ uy = zy)) (hf : Free X Y n ux uy zx zy) (h : ∃ N : Int, 0 < N ∧ ∀ M, N ≤ M → InP (mulP M X) (mulP M Y) n (M * ux + (zx - ux)) (M * uy + (zy - uy))) : InP X Y n zx zy := by
  obtain ⟨N, hN, h⟩ := h
  obtain ⟨f1, f2⟩ := free_wind hn (M := N + 1) (by omega) hne hf
  rcases h (N + 1) (by omega) with q | q
  · exact absurd q f1
  · rw [f2] at q; exact .inr q
end
end Go.Proofs.Ytglepdhapakmbaa
/- Plane geometry, no program: the segments that poly's has allows lie in the polygon. -/
namespace Go.Proofs.Ytglepdhapakmbaa
open Go.RowKit
theorem between2 {k s a b : Int} (h1 : 0 < s) (h2 : s < k) (h : (k - s) * a + s * b = 0) : (a = 0 ∧ b = 0) ∨ (a < 0 ∧ 0 < b) ∨ (0 < a ∧ b < 0) := between h1 h2 h
theorem aff_neg {k s u v w : Int} (hs : 0 ≤ s) (hsk : s ≤ k) (h : k * w = (k - s) * u + s * v) : (0 ≤ u → 0 ≤ v → 0 ≤ k * w) ∧ (u ≤ 0 → v ≤ 0 → k * w ≤ 0) := by
  constructor
  · intro h1 h2
    have := Int.mul_nonneg (show 0 ≤ k - s by omega) h1
    have := Int.mul_nonneg hs h2
    omega
  · intro h1 h2
    have a1 := Int.mul_nonneg (show 0 ≤ k - s by omega) (show 0 ≤ -u by omega)
    have a2 := Int.mul_nonneg hs (show 0 ≤ -v by omega)
    rw [Int.mul_neg] at a1 a2
    omega
/-- A linear form on a segment: signs. -/
theorem sign_on {ex ey fx fy ax ay bx b px py : Int} (h : onB px py ax ay bx b = true) :
    (0 ≤ crossI ex ey fx fy ax ay → 0 ≤ crossI ex ey fx fy bx b → 0 ≤ crossI ex ey fx fy px py) ∧ (crossI ex ey fx fy ax ay ≤ 0 → crossI ex ey fx fy bx b ≤ 0 → crossI ex ey fx fy px py ≤ 0) := by
  obtain ⟨k, hk, hs⟩ := onB_iff.mp h
  obtain ⟨s, s0, s1, e⟩ := cross_seg (ax := ex) (ay := ey) (bx := fx) (b := fy) hs
  have e' : k * crossI ex ey fx fy px py = (k - s) * crossI ex ey fx fy ax ay + s * crossI ex ey fx fy bx b := by rw [← e]; unfold crossI; grind
  obtain ⟨h1, h2⟩ := aff_neg s0 s1 e'
  have p := sign_mul (show k * crossI ex ey fx fy px py = k * crossI ex ey fx fy px py from rfl)
  constructor
  · intro a c
    have := h1 a c
    rcases Int.lt_or_le (crossI ex ey fx fy px py) 0 with q | q
    · have := p.2.1 hk q; omega
    · exact q
  · intro a c
    have := h2 a c
    rcases Int.lt_or_le 0 (crossI ex ey fx fy px py) with q | q
    · have := p.1 hk q; omega
    · exact q
theorem mu_on {ax ay bx b cx cy dx dy px py : Int} (h : onB px py cx cy dx dy = true) (hle : mu ax ay bx b cx cy ≤ mu ax ay bx b dx dy) : mu ax ay bx b cx cy ≤ mu ax ay bx b px py ∧ mu ax ay bx b px py ≤ mu ax ay bx b dx dy := by
  obtain ⟨k, hk, s, s0, s1, e1, e2⟩ := onB_iff.mp h
  have e : k * mu ax ay bx b px py = (k - s) * mu ax ay bx b cx cy + s * mu ax ay bx b dx dy := by
    have : k * mu ax ay bx b px py = (k * px - k * ax) * (bx - ax) + (k * py - k * ay) * (b - ay) := by unfold mu; grind
    rw [this, e1, e2]; unfold mu; grind
  have a1 := Int.mul_le_mul_of_nonneg_left hle s0
  have a2 := Int.mul_le_mul_of_nonneg_left hle (show 0 ≤ k - s by omega)
  constructor
  · refine Int.le_of_mul_le_mul_left (a := k) ?_ hk
    rw [e]; grind
  · refine Int.le_of_mul_le_mul_left (a := k) ?_ hk
    rw [e]; grind
theorem par_core {L W zx zy ux uy ax ay bx b px py qx qy : Int} (w1 : L * (zx - ux) = W * (bx - ax)) (w2 : L * (zy - uy) = W * (b - ay)) : W * (crossI ax ay bx b qx qy - crossI ax ay bx b px py) = L * (crossI px py qx qy ux uy - crossI px py qx qy zx zy) := by
  have r : L * (crossI px py qx qy ux uy - crossI px py qx qy zx zy) = (qy - py) * (L * (zx - ux)) - (qx - px) * (L * (zy - uy)) := by unfold crossI; grind
  rw [r, w1, w2]; unfold crossI; grind
section
variable {X Y : Nat → Int} {n : Nat}
theorem seg_free (hp : Simple X Y n) {ax ay bx b zx zy ux uy : Int} (hs : Stays X Y n ax ay bx b) (hz : onB zx zy ax ay bx b = true) (hzO : ¬ OnP X Y n zx zy) (hu : onB ux uy ax ay zx zy = true)
    (hlt : mu ax ay bx b ux uy < mu ax ay bx b zx zy) (hmax : ∀ j, j < n → onB (X j) (Y j) ax ay zx zy = true → mu ax ay bx b (X j) (Y j) ≤ mu ax ay bx b ux uy) : Free X Y n ux uy zx zy := by
  intro i hi K x y hK h1 h2
  have hi' := nxt_lt hi
  have lz := on_line hz
  have lu := on_line (on_trans hz hu)
  -- a corner on [u, z] is u
  have hcor : ∀ j, j < n → onB (X j) (Y j) ux uy zx zy = true → mu ax ay bx b (X j) (Y j) ≤ mu ax ay bx b ux uy := fun j hj ho =>
    hmax j hj (onB_swap (on_trans (onB_swap hu) (onB_swap ho)))
  have h1' := h1
  have h2' := h2
  obtain ⟨s, s0, s1, e1, e2⟩ := h1
  obtain ⟨t, t0, t1, f1, f2⟩ := h2
  by_cases z0 : s = 0
  · subst z0; exact ⟨by omega, by omega⟩
  exfalso
  have hKne : K ≠ 0 := by omega
  have zK : s ≠ K := fun h => by
    subst h
    refine hzO ⟨i, hi, onB_iff.mpr ⟨s, hK, ?_⟩⟩
    have q1 : x = s * zx := by rw [e1]; grind
    have q2 : y = s * zy := by rw [e2]; grind
    rw [← q1, ← q2]; exact h2'
  -- the value of mu at the common point
  have m1 : (x - K * ax) * (bx - ax) + (y - K * ay) * (b - ay) = (K - s) * mu ax ay bx b ux uy + s * mu ax ay bx b zx zy := by rw [e1, e2]; unfold mu; grind
  have m2 : (x - K * ax) * (bx - ax) + (y - K * ay) * (b - ay) = (K - t) * mu ax ay bx b (X i) (Y i) + t * mu ax ay bx b (X (nxt n i)) (Y (nxt n i)) := by rw [f1, f2]; unfold mu; grind
  have g1 : K * mu ax ay bx b ux uy < (K - s) * mu ax ay bx b ux uy + s * mu ax ay bx b zx zy := by
    have := Int.mul_lt_mul_of_pos_left hlt (show 0 < s by omega)
    grind
  have g2 : (K - s) * mu ax ay bx b ux uy + s * mu ax ay bx b zx zy < K * mu ax ay bx b zx zy := by
    have := Int.mul_lt_mul_of_pos_left hlt (show 0 < K - s by omega)
    grind
  rw [← m1] at g1 g2
  have tc : ∀ j, j < n → x = K * X j → y = K * Y j → False := fun j hj q1 q2 => by
    have ho : onB (X j) (Y j) ux uy zx zy = true := onB_iff.mpr ⟨K, hK, by rw [← q1, ← q2]; exact h1'⟩
    have := hcor j hj ho
    have r : (x - K * ax) * (bx - ax) + (y - K * ay) * (b - ay) = K * mu ax ay bx b (X j) (Y j) := by rw [q1, q2]; unfold mu; grind
    rw [r] at g1
    have := Int.mul_le_mul_of_nonneg_left this (show 0 ≤ K by omega)
    omega
  have t0' : t ≠ 0 := fun h => by subst h; exact tc i hi (by omega) (by omega)
  have tK : t ≠ K := fun h => by subst h; exact tc _ hi' (by rw [f1]; grind) (by rw [f2]; grind)
  have E1 : (K - t) * crossI ax ay bx b (X i) (Y i) + t * crossI ax ay bx b (X (nxt n i)) (Y (nxt n i)) = 0 := by
    have a1 : (bx - ax) * (y - K * ay) - (b - ay) * (x - K * ax) = (K - s) * crossI ax ay bx b ux uy + s * crossI ax ay bx b zx zy := by rw [e1, e2]; unfold crossI; grind
    have a2 : (bx - ax) * (y - K * ay) - (b - ay) * (x - K * ax) = (K - t) * crossI ax ay bx b (X i) (Y i) + t * crossI ax ay bx b (X (nxt n i)) (Y (nxt n i)) := by rw [f1, f2]; unfold crossI; grind
    rw [lu, lz] at a1
    omega
  have E2 : (K - s) * crossI (X i) (Y i) (X (nxt n i)) (Y (nxt n i)) ux uy + s * crossI (X i) (Y i) (X (nxt n i)) (Y (nxt n i)) zx zy = 0 := by
    have a1 : (X (nxt n i) - X i) * (y - K * Y i) - (Y (nxt n i) - Y i) * (x - K * X i) = (K - s) * crossI (X i) (Y i) (X (nxt n i)) (Y (nxt n i)) ux uy + s * crossI (X i) (Y i) (X (nxt n i)) (Y (nxt n i)) zx zy := by rw [e1, e2]; unfold crossI; grind
    have a2 : (X (nxt n i) - X i) * (y - K * Y i) - (Y (nxt n i) - Y i) * (x - K * X i) = 0 := by rw [f1, f2]; grind
    omega
  have B1 := between (show 0 < t by omega) (show t < K by omega) E1
  have B2 := between (show 0 < s by omega) (show s < K by omega) E2
  have hL := len_ne hs.ne
  obtain ⟨u1, u2⟩ := mu_line lu
  obtain ⟨z1, z2⟩ := mu_line lz
  by_cases hcol : crossI ax ay bx b (X i) (Y i) = 0 ∧ crossI ax ay bx b (X (nxt n i)) (Y (nxt n i)) = 0
  · -- along the segment
    have key : ∀ c d, c < n → d < n → crossI ax ay bx b (X c) (Y c) = 0 → crossI ax ay bx b (X d) (Y d) = 0 → mu ax ay bx b (X c) (Y c) ≤ mu ax ay bx b (X d) (Y d) → (onB zx zy (X c) (Y c) (X d) (Y d) = true → OnP X Y n zx zy) →
        K * mu ax ay bx b (X c) (Y c) ≤ (x - K * ax) * (bx - ax) + (y - K * ay) * (b - ay) → (x - K * ax) * (bx - ax) + (y - K * ay) * (b - ay) ≤ K * mu ax ay bx b (X d) (Y d) → False := fun c d hc hd lc ld hle hO l1 l2 => by
      have q1 : mu ax ay bx b ux uy < mu ax ay bx b (X d) (Y d) := Int.lt_of_mul_lt_mul_left (a := K) (by omega) (by omega)
      have q2 : mu ax ay bx b (X c) (Y c) < mu ax ay bx b zx zy := Int.lt_of_mul_lt_mul_left (a := K) (by omega) (by omega)
      by_cases q3 : mu ax ay bx b (X d) (Y d) ≤ mu ax ay bx b zx zy
      · have := hcor d hd (on_of_mu hs.ne lu lz ld (by omega) q3)
        omega
      · exact hzO (hO (on_of_mu hs.ne lc ld lz (by omega) (by omega)))
    rcases Int.le_total (mu ax ay bx b (X i) (Y i)) (mu ax ay bx b (X (nxt n i)) (Y (nxt n i))) with hle | hle
    · refine key i (nxt n i) hi hi' hcol.1 hcol.2 hle (fun h => ⟨i, hi, h⟩) ?_ ?_
      · rw [m2]
        have := Int.mul_le_mul_of_nonneg_left hle t0
        grind
      · rw [m2]
        have := Int.mul_le_mul_of_nonneg_left hle (show 0 ≤ K - t by omega)
        grind
    · refine key (nxt n i) i hi' hi hcol.2 hcol.1 hle (fun h => ⟨i, hi, onB_swap h⟩) ?_ ?_
      · rw [m2]
        have := Int.mul_le_mul_of_nonneg_left hle (show 0 ≤ K - t by omega)
        grind
      · rw [m2]
        have := Int.mul_le_mul_of_nonneg_left hle t0
        grind
  · -- a proper crossing
    have par : (mu ax ay bx b zx zy - mu ax ay bx b ux uy) * (crossI ax ay bx b (X (nxt n i)) (Y (nxt n i)) - crossI ax ay bx b (X i) (Y i)) = ((bx - ax) * (bx - ax) + (b - ay) * (b - ay)) * (crossI (X i) (Y i) (X (nxt n i)) (Y (nxt n i)) ux uy - crossI (X i) (Y i) (X (nxt n i)) (Y (nxt n i)) zx zy) := by
      refine par_core ?_ ?_
      · rw [show zx - ux = (zx - ax) - (ux - ax) by omega, Int.mul_sub, z1, u1, ← Int.sub_mul]
      · rw [show zy - uy = (zy - ay) - (uy - ay) by omega, Int.mul_sub, z2, u2, ← Int.sub_mul]
    have hopp : (crossI ax ay bx b (X i) (Y i) < 0 ∧ 0 < crossI ax ay bx b (X (nxt n i)) (Y (nxt n i))) ∨ (0 < crossI ax ay bx b (X i) (Y i) ∧ crossI ax ay bx b (X (nxt n i)) (Y (nxt n i)) < 0) := by
      rcases B1 with q | q
      · exact absurd q hcol
      · exact q
    have hne2 : ¬ (crossI (X i) (Y i) (X (nxt n i)) (Y (nxt n i)) ux uy = 0 ∧ crossI (X i) (Y i) (X (nxt n i)) (Y (nxt n i)) zx zy = 0) := fun ⟨q1, q2⟩ => by
      rw [q1, q2, Int.sub_self, Int.mul_zero] at par
      rcases Int.mul_eq_zero.mp par with r | r <;> omega
    have hopp2 : (crossI (X i) (Y i) (X (nxt n i)) (Y (nxt n i)) ux uy < 0 ∧ 0 < crossI (X i) (Y i) (X (nxt n i)) (Y (nxt n i)) zx zy) ∨ (0 < crossI (X i) (Y i) (X (nxt n i)) (Y (nxt n i)) ux uy ∧ crossI (X i) (Y i) (X (nxt n i)) (Y (nxt n i)) zx zy < 0) := by
      rcases B2 with q | q
      · exact absurd q hne2
      · exact q
    have sa := sign_on (ex := X i) (ey := Y i) (fx := X (nxt n i)) (fy := Y (nxt n i)) hu
    have sb := sign_on (ex := X i) (ey := Y i) (fx := X (nxt n i)) (fy := Y (nxt n i)) hz
    refine hs.proper i hi ⟨hopp, ?_⟩
    generalize crossI (X i) (Y i) (X (nxt n i)) (Y (nxt n i)) ax ay = va at *
    generalize crossI (X i) (Y i) (X (nxt n i)) (Y (nxt n i)) bx b = vb at *
    generalize crossI (X i) (Y i) (X (nxt n i)) (Y (nxt n i)) ux uy = vu at *
    generalize crossI (X i) (Y i) (X (nxt n i)) (Y (nxt n i)) zx zy = vz at *
    clear E1 E2 B1 B2 par g1 g2 m1 m2 hne2 hopp
    omega
/-- A segment that begins in a polygon and leaves it nowhere lies in it. -/
theorem seg_in (hp : Simple X Y n) (ha : 0 < area2 X Y n) {ax ay bx b zx zy : Int} (hs : Stays X Y n ax ay bx b) (hz : onB zx zy ax ay bx b = true) : InP X Y n zx zy := by
  have hn : 0 < n := by have := hp.three; omega
  by_cases hzO : OnP X Y n zx zy
  · exact .inl hzO
  by_cases hza : zx = ax ∧ zy = ay
  · rw [hza.1, hza.2]; exact hs.start
  have hL := len_ne hs.ne
  have lz := on_line hz
  obtain ⟨z1, z2⟩ := mu_line lz
  have mua : mu ax ay bx b ax ay = 0 := by unfold mu; rw [Int.sub_self, Int.sub_self]; omega
  have mub : mu ax ay bx b bx b = (bx - ax) * (bx - ax) + (b - ay) * (b - ay) := rfl
  have muz := mu_on (ax := ax) (ay := ay) (bx := bx) (b := b) hz (by rw [mua, mub]; omega)
  rw [mua, mub] at muz
  have muz0 : 0 < mu ax ay bx b zx zy := by
    rcases Int.lt_or_le 0 (mu ax ay bx b zx zy) with q | q
    · exact q
    · have e0 : mu ax ay bx b zx zy = 0 := by omega
      rw [e0, Int.zero_mul] at z1 z2
      refine (hza ⟨?_, ?_⟩).elim
      · rcases Int.mul_eq_zero.mp z1 with r | r <;> omega
      · rcases Int.mul_eq_zero.mp z2 with r | r <;> omega
  have hcornz : ∀ j, j < n → ¬ (X j = zx ∧ Y j = zy) := fun j hj h => hzO ⟨j, hj, by rw [← h.1, ← h.2]; exact on_self ..⟩
  have strict : ∀ {ux uy : Int}, onB ux uy ax ay zx zy = true → ¬ (ux = zx ∧ uy = zy) → mu ax ay bx b ux uy < mu ax ay bx b zx zy := fun {ux uy} hu hne => by
    have h1 := (mu_on (ax := ax) (ay := ay) (bx := bx) (b := b) hu (by rw [mua]; omega)).2
    rcases Int.lt_or_le (mu ax ay bx b ux uy) (mu ax ay bx b zx zy) with q | q
    · exact q
    · obtain ⟨u1, u2⟩ := mu_line (on_line (on_trans hz hu))
      have e0 : mu ax ay bx b ux uy = mu ax ay bx b zx zy := by omega
      rw [e0, ← z1] at u1
      rw [e0, ← z2] at u2
      have q1 := Int.eq_of_mul_eq_mul_left (show (bx - ax) * (bx - ax) + (b - ay) * (b - ay) ≠ 0 by omega) u1
      have q2 := Int.eq_of_mul_eq_mul_left (show (bx - ax) * (bx - ax) + (b - ay) * (b - ay) ≠ 0 by omega) u2
      exact (hne ⟨by omega, by omega⟩).elim
  by_cases hex : ∃ j, j < n ∧ onB (X j) (Y j) ax ay zx zy = true
  · obtain ⟨j, hj, hon, hmin⟩ := exists_min (fun j => onB (X j) (Y j) ax ay zx zy = true) (fun j => - mu ax ay bx b (X j) (Y j)) n hex
    have hlt := strict hon (hcornz j hj)
    have hf := seg_free hp hs hz hzO hon hlt (fun i hi ho => by have := hmin i hi ho; omega)
    have lu := on_line (on_trans hz hon)
    obtain ⟨u1, u2⟩ := mu_line lu
    have hub : mu ax ay bx b (X j) (Y j) < (bx - ax) * (bx - ax) + (b - ay) * (b - ay) := by omega
    have hjb : ¬ (X j = bx ∧ Y j = b) := fun h => by rw [h.1, h.2, mub] at hub; omega
    have hpj := nxt_prv hj
    have hop := hs.corner (prv n j) j (prv_lt hj) hj hpj (on_trans hz hon) hjb
    have hop' : OpI X Y n (prv n j) j zx zy := by
      refine OpI_dir (k1 := (bx - ax) * (bx - ax) + (b - ay) * (b - ay) - mu ax ay bx b (X j) (Y j)) (k2 := mu ax ay bx b zx zy - mu ax ay bx b (X j) (Y j)) (by omega) (by omega) ?_ ?_ hop
      · refine Int.eq_of_mul_eq_mul_left (show (bx - ax) * (bx - ax) + (b - ay) * (b - ay) ≠ 0 by omega) ?_
        generalize (bx - ax) * (bx - ax) + (b - ay) * (b - ay) = L at *
        grind
      · refine Int.eq_of_mul_eq_mul_left (show (bx - ax) * (bx - ax) + (b - ay) * (b - ay) ≠ 0 by omega) ?_
        generalize (bx - ax) * (bx - ax) + (b - ay) * (b - ay) = L at *
        grind
    obtain ⟨N, hN, h⟩ := near_corner hp ha (prv_lt hj) hj hpj zx zy
    exact free_in hn (hcornz j hj) hf ⟨N, hN, fun M hM => (h M hM).1 hop'⟩
  · have hna : ∀ i, i < n → ¬ (X i = ax ∧ Y i = ay) := fun i hi h => hex ⟨i, hi, by rw [h.1, h.2]; exact on_self ..⟩
    have hne : ¬ (ax = zx ∧ ay = zy) := fun h => hza ⟨h.1.symm, h.2.symm⟩
    have hf := seg_free hp hs hz hzO (on_self ax ay zx zy) (strict (on_self ..) hne) (fun j hj ho => absurd ⟨j, hj, ho⟩ hex)
    by_cases hO : OnP X Y n ax ay
    · obtain ⟨j, hj, hon⟩ := hO
      have he := hs.edge j hj hon hna
      have l0 := on_line hon
      obtain ⟨k, hk, s, s0, s1, e1, e2⟩ := onB_iff.mp hon
      have sn0 : s ≠ 0 := fun h => by
        subst h
        exact hna j hj ⟨(Int.eq_of_mul_eq_mul_left (show k ≠ 0 by omega) (by omega)).symm, (Int.eq_of_mul_eq_mul_left (show k ≠ 0 by omega) (by omega)).symm⟩
      have snk : s ≠ k := fun h => by
        subst h
        exact hna _ (nxt_lt hj) ⟨(Int.eq_of_mul_eq_mul_left (show s ≠ 0 by omega) (by grind)), (Int.eq_of_mul_eq_mul_left (show s ≠ 0 by omega) (by grind))⟩
      obtain ⟨N, hN, h⟩ := near_edge hp ha hj (show 0 < s by omega) (show s < k by omega) ⟨e1, e2⟩ (zx - ax) (zy - ay)
      refine free_in hn hne hf ⟨N, hN, fun M hM => ?_⟩
      obtain ⟨h1, h2⟩ := h M hM
      by_cases hc : (X (nxt n j) - X j) * (zy - ay) - (Y (nxt n j) - Y j) * (zx - ax) = 0
      · exact .inl (h2 hc)
      · have hpos : 0 < (X (nxt n j) - X j) * (zy - ay) - (Y (nxt n j) - Y j) * (zx - ax) := by
          have w : ((bx - ax) * (bx - ax) + (b - ay) * (b - ay)) * ((X (nxt n j) - X j) * (zy - ay) - (Y (nxt n j) - Y j) * (zx - ax)) = mu ax ay bx b zx zy * crossI (X j) (Y j) (X (nxt n j)) (Y (nxt n j)) bx b := by
            have w1 : crossI (X j) (Y j) (X (nxt n j)) (Y (nxt n j)) bx b = (X (nxt n j) - X j) * (b - ay) - (Y (nxt n j) - Y j) * (bx - ax) := by unfold crossI at l0 ⊢; grind
            rw [w1]
            generalize (bx - ax) * (bx - ax) + (b - ay) * (b - ay) = L at *
            grind
          have w3 := sign_mul w
          have w4 := sign_mul (show ((bx - ax) * (bx - ax) + (b - ay) * (b - ay)) * ((X (nxt n j) - X j) * (zy - ay) - (Y (nxt n j) - Y j) * (zx - ax)) = ((bx - ax) * (bx - ax) + (b - ay) * (b - ay)) * ((X (nxt n j) - X j) * (zy - ay) - (Y (nxt n j) - Y j) * (zx - ax)) from rfl)
          generalize (X (nxt n j) - X j) * (zy - ay) - (Y (nxt n j) - Y j) * (zx - ax) = c at *
          rcases Int.lt_or_lt_of_ne hc with q | q
          · have q1 := w4.2.1 hL q
            rcases Int.lt_or_le 0 (crossI (X j) (Y j) (X (nxt n j)) (Y (nxt n j)) bx b) with r | r
            · have := w3.1 muz0 r; omega
            · have := w3.2.2.2.2.2 (by omega); omega
          · exact q
        exact .inr (by rw [(h1 hc).1, if_pos hpos]; decide)
    · have hw := wind_const hn (free_meet hf hO)
      rcases hs.start with q | q
      · exact absurd q hO
      · rw [hw] at q; exact .inr q
end
end Go.Proofs.Ytglepdhapakmbaa
/- Plane geometry, no program: what lies round a polygon on its outside. -/
namespace Go.Proofs.Ytglepdhapakmbaa
open Go.RowKit
theorem sE_left {q h ax ay bx b : Int} (h1 : q < ax) (h2 : q < bx) : sE q h ax ay bx b = (if ay ≤ h then 1 else 0) - (if b ≤ h then 1 else 0) := by
  have key : ∀ {ax ay bx b : Int}, q < ax → q < bx → ay ≤ h → h < b → 0 < crossI ax ay bx b q h := fun {ax ay bx b} h1 h2 h3 h4 => by
    have e : crossI ax ay bx b q h = (bx - q) * (h - ay) + (ax - q) * (b - h) := by unfold crossI; grind
    have a1 := Int.mul_nonneg (show 0 ≤ bx - q by omega) (show 0 ≤ h - ay by omega)
    have a2 := Int.mul_pos (show 0 < ax - q by omega) (show 0 < b - h by omega)
    omega
  rw [sE_eq]
  by_cases c : b < ay
  · rw [if_pos c]
    by_cases d : b ≤ h ∧ h < ay
    · rw [if_pos ⟨d.1, d.2, key h2 h1 d.1 d.2⟩, if_neg (by omega), if_pos d.1]; rfl
    · rw [if_neg (fun g => d ⟨g.1, g.2.1⟩)]
      (repeat' split) <;> omega
  · rw [if_neg c]
    by_cases d : ay ≤ h ∧ h < b
    · rw [if_pos ⟨d.1, d.2, key h1 h2 d.1 d.2⟩, if_pos d.1, if_neg (by omega)]; rfl
    · rw [if_neg (fun g => d ⟨g.1, g.2.1⟩)]
      (repeat' split) <;> omega
section
variable {X Y : Nat → Int} {n : Nat}
/-- Left of all corners one is outside. -/
theorem left_out (hn : 0 < n) {q h : Int} (hl : ∀ k, k < n → q < X k) : ¬ OnP X Y n q h ∧ wind X Y n q h = 0 := by
  refine ⟨fun ⟨k, hk, ho⟩ => ?_, ?_⟩
  · obtain ⟨m, hm, hs⟩ := onB_iff.mp ho
    have := seg_ge hs (show q + 1 ≤ X k by have := hl k hk; omega) (show q + 1 ≤ X (nxt n k) by have := hl _ (nxt_lt hk); omega)
    rw [Int.mul_add] at this; omega
  · have e : wind X Y n q h = sumZ (fun k => (fun k => - (if Y k ≤ h then (1 : Int) else 0)) (nxt n k) - (fun k => - (if Y k ≤ h then (1 : Int) else 0)) k) n :=
      sumZ_congr n (fun k hk => by have := sE_left (h := h) (ay := Y k) (b := Y (nxt n k)) (hl k hk) (hl _ (nxt_lt hk)); dsimp only; omega)
    rw [e]
    exact sumZ_tele (fun k => - (if Y k ≤ h then (1 : Int) else 0)) hn
theorem not_InP_left (hn : 0 < n) {q h : Int} (hl : ∀ k, k < n → q < X k) : ¬ InP X Y n q h := fun h => by
  obtain ⟨h1, h2⟩ := left_out (Y := Y) hn hl
  rcases h with h | h
  · exact h1 h
  · exact h h2
end
section
variable {X Y : Nat → Int} {n : Nat} {A B : Nat → Int} {m : Nat}
/-- All points of the edges of Q lie in P. -/
def EdgesIn (X Y : Nat → Int) (n : Nat) (A B : Nat → Int) (m : Nat) : Prop := ∀ i, i < m → ∀ K x y, 0 < K → Seg (A i) (B i) (A (nxt m i)) (B (nxt m i)) K x y → InP (mulP K X) (mulP K Y) n x y
theorem seg_mul {M ax ay bx b K x y : Int} (h : Seg (M * ax) (M * ay) (M * bx) (M * b) K x y) (hM : 0 < M) : Seg ax ay bx b (K * M) x y := by
  obtain ⟨s, s0, s1, e1, e2⟩ := h
  exact ⟨s * M, Int.mul_nonneg s0 (by omega), Int.mul_le_mul_of_nonneg_right s1 (by omega), by rw [e1]; grind, by rw [e2]; grind⟩
theorem edges_mul (hE : EdgesIn X Y n A B m) {M : Int} (hM : 0 < M) : EdgesIn (mulP M X) (mulP M Y) n (mulP M A) (mulP M B) m := fun i hi K x y hK hs => by
  rw [mulP_mulP, mulP_mulP]
  exact hE i hi (K * M) x y (Int.mul_pos hK hM) (seg_mul hs hM)
/-- A step outside of P does not meet Q. -/
theorem out_step (hn : 0 < n) (hm : 0 < m) (hE : EdgesIn X Y n A B m) {ax ay bx b : Int} (hf : ∀ k, k < n → meetB ax ay bx b (X k) (Y k) (X (nxt n k)) (Y (nxt n k)) = false) (ha : ¬ InP X Y n ax ay) :
    ¬ InP X Y n bx b ∧ wind A B m ax ay = wind A B m bx b := by
  have h0 : wind X Y n ax ay = 0 := by
    rcases Decidable.em (wind X Y n ax ay = 0) with h | h
    · exact h
    · exact absurd (.inr h) ha
  refine ⟨fun h => ?_, wind_const hm (fun i hi => ?_)⟩
  · rcases h with ⟨k, hk, ho⟩ | h
    · exact ne_tf (no_on (hf k hk)).2.1 ho
    · rw [← wind_const hn hf] at h; exact h h0
  · cases q : meetB ax ay bx b (A i) (B i) (A (nxt m i)) (B (nxt m i)) with
    | false => rfl
    | true =>
      obtain ⟨K, x, y, hK, h1, h2⟩ := common_of_meet q
      have hin := hE i hi K x y hK h2
      have hk : ∀ k, k < n → meetB (K * ax) (K * ay) x y (mulP K X k) (mulP K Y k) (mulP K X (nxt n k)) (mulP K Y (nxt n k)) = false := fun k hk => by
        cases q' : meetB (K * ax) (K * ay) x y (mulP K X k) (mulP K Y k) (mulP K X (nxt n k)) (mulP K Y (nxt n k)) with
        | false => rfl
        | true =>
          obtain ⟨L, u, v, hL, g1, g2⟩ := common_of_meet q'
          obtain ⟨s, s0, s1, e1, e2⟩ := h1
          obtain ⟨t, t0, t1, f1, f2⟩ := g1
          refine (ne_tf (hf k hk) (meet_of_common ⟨L * K, u, v, Int.mul_pos hL hK, ⟨t * s, Int.mul_nonneg t0 s0, ?_, ?_, ?_⟩, seg_mul g2 hK⟩)).elim
          · exact Int.mul_le_mul t1 s1 s0 (by omega)
          · rw [f1, e1]; grind
          · rw [f2, e2]; grind
      rcases hin with ⟨k, hk', ho⟩ | hin
      · exact (ne_tf (no_on (hk k hk')).2.1 ho).elim
      · rw [← wind_const hn hk] at hin
        exact (hin (by rw [show wind (mulP K X) (mulP K Y) n (K * ax) (K * ay) = wind X Y n ax ay from wind_scale hK]; exact h0)).elim
end
section
variable {X Y : Nat → Int} {n : Nat}
/-- A corner's turn. -/
def trn (X Y : Nat → Int) (n j : Nat) : Int := crossI (X (prv n j)) (Y (prv n j)) (X j) (Y j) (X (nxt n j)) (Y (nxt n j))
/-- From a corner to the outside. -/
def oX (X Y : Nat → Int) (n j : Nat) : Int := if 0 < trn X Y n j then 2 * X j - X (prv n j) - X (nxt n j) else X (prv n j) + X (nxt n j) - 2 * X j
def oY (X Y : Nat → Int) (n j : Nat) : Int := if 0 < trn X Y n j then 2 * Y j - Y (prv n j) - Y (nxt n j) else Y (prv n j) + Y (nxt n j) - 2 * Y j
theorem trn_ne (hp : Simple X Y n) {j : Nat} (hj : j < n) : trn X Y n j ≠ 0 := by
  have := hp.bend (prv n j) (prv_lt hj)
  rwa [nxt_prv hj] at this
/-- The outside is right of both edges. -/
theorem o_right (hp : Simple X Y n) {j : Nat} (hj : j < n) :
    (X (nxt n j) - X j) * oY X Y n j - (Y (nxt n j) - Y j) * oX X Y n j < 0 ∧ (X j - X (prv n j)) * oY X Y n j - (Y j - Y (prv n j)) * oX X Y n j < 0 := by
  have h := trn_ne hp hj
  unfold oX oY
  by_cases c : 0 < trn X Y n j
  · rw [if_pos c, if_pos c]
    have e1 : (X (nxt n j) - X j) * (2 * Y j - Y (prv n j) - Y (nxt n j)) - (Y (nxt n j) - Y j) * (2 * X j - X (prv n j) - X (nxt n j)) = - trn X Y n j := by unfold trn crossI; grind
    have e2 : (X j - X (prv n j)) * (2 * Y j - Y (prv n j) - Y (nxt n j)) - (Y j - Y (prv n j)) * (2 * X j - X (prv n j) - X (nxt n j)) = - trn X Y n j := by unfold trn crossI; grind
    omega
  · rw [if_neg c, if_neg c]
    have e1 : (X (nxt n j) - X j) * (Y (prv n j) + Y (nxt n j) - 2 * Y j) - (Y (nxt n j) - Y j) * (X (prv n j) + X (nxt n j) - 2 * X j) = trn X Y n j := by unfold trn crossI; grind
    have e2 : (X j - X (prv n j)) * (Y (prv n j) + Y (nxt n j) - 2 * Y j) - (Y j - Y (prv n j)) * (X (prv n j) + X (nxt n j) - 2 * X j) = trn X Y n j := by unfold trn crossI; grind
    omega
theorem pos_from {c d : Int} (hc : c < 0) : ∃ N : Int, 0 < N ∧ ∀ M, N ≤ M → M * c + d < 0 := by
  refine ⟨max 1 (d + 1), by omega, fun M hM => ?_⟩
  have := Int.mul_le_mul_of_nonneg_left (show c ≤ -1 by omega) (show 0 ≤ M by omega)
  omega
/-- From a point of an edge, a little to its right, to its beginning: no edge is met. -/
theorem along_back (hp : Simple X Y n) {j : Nat} (hj : j < n) {k s mx my dx dy : Int} (hs : 0 < s) (hsk : s < k) (ho : On' k s (X j) (Y j) (X (nxt n j)) (Y (nxt n j)) mx my)
    (hd : (X (nxt n j) - X j) * dy - (Y (nxt n j) - Y j) * dx < 0) :
    ∃ N : Int, 0 < N ∧ ∀ M, N ≤ M → ∀ i, i < n → meetB (M * mx + dx) (M * my + dy) (M * X j + oX X Y n j) (M * Y j + oY X Y n j) (mulP M X i) (mulP M Y i) (mulP M X (nxt n i)) (mulP M Y (nxt n i)) = false := by
  have hn3 := hp.three
  have hpr := prv_lt hj
  have hnp := nxt_prv hj
  obtain ⟨r1, r2⟩ := o_right hp hj
  have hz := (on_cross (by omega) ho).1
  have ht := trn_ne hp hj
  refine all_from n (fun i hi => ?_)
  unfold mulP
  by_cases hij : i = j
  · subst hij
    refine ⟨1, by omega, fun M hM => side_no_meet (.inr ⟨?_, ?_⟩)⟩
    · have e : crossI (M * X i) (M * Y i) (M * X (nxt n i)) (M * Y (nxt n i)) (M * mx + dx) (M * my + dy) = M * M * crossI (X i) (Y i) (X (nxt n i)) (Y (nxt n i)) mx my + M * ((X (nxt n i) - X i) * dy - (Y (nxt n i) - Y i) * dx) := by unfold crossI; grind
      rw [e, hz, Int.mul_zero, Int.zero_add]
      exact Int.mul_neg_of_pos_of_neg (by omega) hd
    · have e : crossI (M * X i) (M * Y i) (M * X (nxt n i)) (M * Y (nxt n i)) (M * X i + oX X Y n i) (M * Y i + oY X Y n i) = M * ((X (nxt n i) - X i) * oY X Y n i - (Y (nxt n i) - Y i) * oX X Y n i) := by unfold crossI; grind
      rw [e]
      exact Int.mul_neg_of_pos_of_neg (by omega) r1
  · by_cases hip : i = prv n j
    · subst hip
      rw [hnp]
      by_cases c : 0 < trn X Y n j
      · -- the edge before is left of this one
        refine ⟨1, by omega, fun M hM => ?_⟩
        have hM0 : 0 < M := by omega
        have e1 : crossI (M * X j) (M * Y j) (M * X (nxt n j)) (M * Y (nxt n j)) (M * mx + dx) (M * my + dy) < 0 := by
          have e : crossI (M * X j) (M * Y j) (M * X (nxt n j)) (M * Y (nxt n j)) (M * mx + dx) (M * my + dy) = M * M * crossI (X j) (Y j) (X (nxt n j)) (Y (nxt n j)) mx my + M * ((X (nxt n j) - X j) * dy - (Y (nxt n j) - Y j) * dx) := by unfold crossI; grind
          rw [e, hz, Int.mul_zero, Int.zero_add]
          exact Int.mul_neg_of_pos_of_neg hM0 hd
        have e2 : crossI (M * X j) (M * Y j) (M * X (nxt n j)) (M * Y (nxt n j)) (M * X j + oX X Y n j) (M * Y j + oY X Y n j) < 0 := by
          have e : crossI (M * X j) (M * Y j) (M * X (nxt n j)) (M * Y (nxt n j)) (M * X j + oX X Y n j) (M * Y j + oY X Y n j) = M * ((X (nxt n j) - X j) * oY X Y n j - (Y (nxt n j) - Y j) * oX X Y n j) := by unfold crossI; grind
          rw [e]
          exact Int.mul_neg_of_pos_of_neg hM0 r1
        have e3 : 0 ≤ crossI (M * X j) (M * Y j) (M * X (nxt n j)) (M * Y (nxt n j)) (M * X (prv n j)) (M * Y (prv n j)) := by
          have e : crossI (M * X j) (M * Y j) (M * X (nxt n j)) (M * Y (nxt n j)) (M * X (prv n j)) (M * Y (prv n j)) = M * M * trn X Y n j := by unfold trn crossI; grind
          rw [e]
          exact Int.mul_nonneg (Int.mul_nonneg (by omega) (by omega)) (by omega)
        have e4 : 0 ≤ crossI (M * X j) (M * Y j) (M * X (nxt n j)) (M * Y (nxt n j)) (M * X j) (M * Y j) := by unfold crossI; grind
        refine apart_of_apt ⟨-(M * Y (nxt n j) - M * Y j), M * X (nxt n j) - M * X j, ⟨?_, ?_⟩, ?_, ?_⟩ <;> (unfold crossI at e1 e2 e3 e4; grind)
      · -- both ends are right of the edge before
        have hc : trn X Y n j < 0 := by omega
        have hsc : k * ((X j - X (prv n j)) * (my - Y j) - (Y j - Y (prv n j)) * (mx - X j)) = s * trn X Y n j := by
          obtain ⟨o1, o2⟩ := ho
          have q1 : k * ((X j - X (prv n j)) * (my - Y j) - (Y j - Y (prv n j)) * (mx - X j)) = (X j - X (prv n j)) * (k * my - k * Y j) - (Y j - Y (prv n j)) * (k * mx - k * X j) := by grind
          rw [q1, o1, o2]; unfold trn crossI; grind
        have hneg : (X j - X (prv n j)) * (my - Y j) - (Y j - Y (prv n j)) * (mx - X j) < 0 := (mul_sign (show 0 < k by omega) hs hsc).2.mpr hc
        obtain ⟨N, hN, h⟩ := pos_from (d := (X j - X (prv n j)) * dy - (Y j - Y (prv n j)) * dx) hneg
        refine ⟨N, hN, fun M hM => side_no_meet (.inr ⟨?_, ?_⟩)⟩
        · have e : crossI (M * X (prv n j)) (M * Y (prv n j)) (M * X j) (M * Y j) (M * mx + dx) (M * my + dy) = M * (M * ((X j - X (prv n j)) * (my - Y j) - (Y j - Y (prv n j)) * (mx - X j)) + ((X j - X (prv n j)) * dy - (Y j - Y (prv n j)) * dx)) := by unfold crossI; grind
          rw [e]
          exact Int.mul_neg_of_pos_of_neg (by omega) (h M hM)
        · have e : crossI (M * X (prv n j)) (M * Y (prv n j)) (M * X j) (M * Y j) (M * X j + oX X Y n j) (M * Y j + oY X Y n j) = M * ((X j - X (prv n j)) * oY X Y n j - (Y j - Y (prv n j)) * oX X Y n j) := by unfold crossI; grind
          rw [e]
          exact Int.mul_neg_of_pos_of_neg (by omega) r2
    · -- edges that are apart from the part of this one
      have hap : meetB mx my (X j) (Y j) (X i) (Y i) (X (nxt n i)) (Y (nxt n i)) = false := by
        by_cases h1 : i = nxt n j
        · subst h1
          have hb := hp.bend j hj
          refine side_no_meet ?_
          have e : k * crossI (X (nxt n j)) (Y (nxt n j)) (X (nxt n (nxt n j))) (Y (nxt n (nxt n j))) mx my = (k - s) * crossI (X (nxt n j)) (Y (nxt n j)) (X (nxt n (nxt n j))) (Y (nxt n (nxt n j))) (X j) (Y j) := by
            obtain ⟨o1, o2⟩ := ho
            unfold crossI; grind
          have := mul_sign (by omega) (show 0 < k - s by omega) e
          have hc := cross_cyc (X j) (Y j) (X (nxt n j)) (Y (nxt n j)) (X (nxt n (nxt n j))) (Y (nxt n (nxt n j)))
          omega
        · have h2 : ¬ (j = nxt n i) := fun h => hip (nxt_inj hi hpr (by rw [hnp]; exact h.symm))
          exact meet_part (by omega) (by omega) (by omega) (on_rev ho) (by rw [meet_swap1]; exact hp.apart j i hj hi hij h1 h2)
      obtain ⟨N, hN, h⟩ := apart_moved hap dx dy (oX X Y n j) (oY X Y n j)
      exact ⟨N, hN, h⟩
end
end Go.Proofs.Ytglepdhapakmbaa
/- Plane geometry, no program: what has its border in a polygon lies in it. -/
namespace Go.Proofs.Ytglepdhapakmbaa
open Go.RowKit
section
variable {X Y : Nat → Int} {n : Nat}
/-- Along a whole edge, a little to its right: no edge is met. -/
theorem along_all (hp : Simple X Y n) {j : Nat} (hj : j < n) :
    ∃ N : Int, 0 < N ∧ ∀ M, N ≤ M → ∀ i, i < n → meetB (M * X j + oX X Y n j) (M * Y j + oY X Y n j) (M * X (nxt n j) + oX X Y n (nxt n j)) (M * Y (nxt n j) + oY X Y n (nxt n j)) (mulP M X i) (mulP M Y i) (mulP M X (nxt n i)) (mulP M Y (nxt n i)) = false := by
  have hn3 := hp.three
  have hpr := prv_lt hj
  have hnp := nxt_prv hj
  have hj' := nxt_lt hj
  have hpn : prv n (nxt n j) = j := prv_nxt hj
  obtain ⟨r1, r2⟩ := o_right hp hj
  obtain ⟨q1, q2⟩ := o_right hp hj'
  rw [hpn] at q2
  have ht := trn_ne hp hj
  have ht' := trn_ne hp hj'
  -- both ends are right of this edge
  have e1 : ∀ M : Int, 0 < M → crossI (M * X j) (M * Y j) (M * X (nxt n j)) (M * Y (nxt n j)) (M * X j + oX X Y n j) (M * Y j + oY X Y n j) < 0 := fun M hM => by
    have e : crossI (M * X j) (M * Y j) (M * X (nxt n j)) (M * Y (nxt n j)) (M * X j + oX X Y n j) (M * Y j + oY X Y n j) = M * ((X (nxt n j) - X j) * oY X Y n j - (Y (nxt n j) - Y j) * oX X Y n j) := by unfold crossI; grind
    rw [e]
    exact Int.mul_neg_of_pos_of_neg hM r1
  have e2 : ∀ M : Int, 0 < M → crossI (M * X j) (M * Y j) (M * X (nxt n j)) (M * Y (nxt n j)) (M * X (nxt n j) + oX X Y n (nxt n j)) (M * Y (nxt n j) + oY X Y n (nxt n j)) < 0 := fun M hM => by
    have e : crossI (M * X j) (M * Y j) (M * X (nxt n j)) (M * Y (nxt n j)) (M * X (nxt n j) + oX X Y n (nxt n j)) (M * Y (nxt n j) + oY X Y n (nxt n j)) = M * ((X (nxt n j) - X j) * oY X Y n (nxt n j) - (Y (nxt n j) - Y j) * oX X Y n (nxt n j)) := by unfold crossI; grind
    rw [e]
    exact Int.mul_neg_of_pos_of_neg hM q2
  -- an edge on the left of this one
  have left : ∀ {M cx cy dx dy : Int}, 0 < M → 0 ≤ crossI (M * X j) (M * Y j) (M * X (nxt n j)) (M * Y (nxt n j)) cx cy → 0 ≤ crossI (M * X j) (M * Y j) (M * X (nxt n j)) (M * Y (nxt n j)) dx dy →
      meetB (M * X j + oX X Y n j) (M * Y j + oY X Y n j) (M * X (nxt n j) + oX X Y n (nxt n j)) (M * Y (nxt n j) + oY X Y n (nxt n j)) cx cy dx dy = false := fun {M cx cy dx dy} hM h1 h2 => by
    have g1 := e1 M hM
    have g2 := e2 M hM
    refine apart_of_apt ⟨-(M * Y (nxt n j) - M * Y j), M * X (nxt n j) - M * X j, ⟨?_, ?_⟩, ?_, ?_⟩ <;> (unfold crossI at g1 g2 h1 h2; grind)
  have z1 : ∀ M : Int, crossI (M * X j) (M * Y j) (M * X (nxt n j)) (M * Y (nxt n j)) (M * X j) (M * Y j) = 0 := fun M => by unfold crossI; grind
  have z2 : ∀ M : Int, crossI (M * X j) (M * Y j) (M * X (nxt n j)) (M * Y (nxt n j)) (M * X (nxt n j)) (M * Y (nxt n j)) = 0 := fun M => by unfold crossI; grind
  refine all_from n (fun i hi => ?_)
  unfold mulP
  by_cases hij : i = j
  · subst hij
    exact ⟨1, by omega, fun M hM => side_no_meet (.inr ⟨e1 M (by omega), e2 M (by omega)⟩)⟩
  · by_cases hip : i = prv n j
    · subst hip
      rw [hnp]
      by_cases c : 0 < trn X Y n j
      · refine ⟨1, by omega, fun M hM => left (by omega) ?_ (by rw [z1]; omega)⟩
        have e : crossI (M * X j) (M * Y j) (M * X (nxt n j)) (M * Y (nxt n j)) (M * X (prv n j)) (M * Y (prv n j)) = M * M * trn X Y n j := by unfold trn crossI; grind
        rw [e]
        exact Int.mul_nonneg (Int.mul_nonneg (by omega) (by omega)) (by omega)
      · have hc : trn X Y n j < 0 := by omega
        obtain ⟨N, hN, h⟩ := pos_from (d := (X j - X (prv n j)) * oY X Y n (nxt n j) - (Y j - Y (prv n j)) * oX X Y n (nxt n j)) hc
        refine ⟨N, hN, fun M hM => side_no_meet (.inr ⟨?_, ?_⟩)⟩
        · have e : crossI (M * X (prv n j)) (M * Y (prv n j)) (M * X j) (M * Y j) (M * X j + oX X Y n j) (M * Y j + oY X Y n j) = M * ((X j - X (prv n j)) * oY X Y n j - (Y j - Y (prv n j)) * oX X Y n j) := by unfold crossI; grind
          rw [e]
          exact Int.mul_neg_of_pos_of_neg (by omega) r2
        · have e : crossI (M * X (prv n j)) (M * Y (prv n j)) (M * X j) (M * Y j) (M * X (nxt n j) + oX X Y n (nxt n j)) (M * Y (nxt n j) + oY X Y n (nxt n j)) = M * (M * trn X Y n j + ((X j - X (prv n j)) * oY X Y n (nxt n j) - (Y j - Y (prv n j)) * oX X Y n (nxt n j))) := by unfold trn crossI; grind
          rw [e]
          exact Int.mul_neg_of_pos_of_neg (by omega) (h M hM)
    · by_cases hin : i = nxt n j
      · subst hin
        have et : trn X Y n (nxt n j) = crossI (X j) (Y j) (X (nxt n j)) (Y (nxt n j)) (X (nxt n (nxt n j))) (Y (nxt n (nxt n j))) := by unfold trn; rw [hpn]
        by_cases c : 0 < trn X Y n (nxt n j)
        · refine ⟨1, by omega, fun M hM => left (by omega) (by rw [z2]; omega) ?_⟩
          have e : crossI (M * X j) (M * Y j) (M * X (nxt n j)) (M * Y (nxt n j)) (M * X (nxt n (nxt n j))) (M * Y (nxt n (nxt n j))) = M * M * trn X Y n (nxt n j) := by rw [et]; unfold crossI; grind
          rw [e]
          exact Int.mul_nonneg (Int.mul_nonneg (by omega) (by omega)) (by omega)
        · have hc : trn X Y n (nxt n j) < 0 := by omega
          obtain ⟨N, hN, h⟩ := pos_from (d := (X (nxt n (nxt n j)) - X (nxt n j)) * oY X Y n j - (Y (nxt n (nxt n j)) - Y (nxt n j)) * oX X Y n j) hc
          refine ⟨N, hN, fun M hM => side_no_meet (.inr ⟨?_, ?_⟩)⟩
          · have e : crossI (M * X (nxt n j)) (M * Y (nxt n j)) (M * X (nxt n (nxt n j))) (M * Y (nxt n (nxt n j))) (M * X j + oX X Y n j) (M * Y j + oY X Y n j) = M * (M * trn X Y n (nxt n j) + ((X (nxt n (nxt n j)) - X (nxt n j)) * oY X Y n j - (Y (nxt n (nxt n j)) - Y (nxt n j)) * oX X Y n j)) := by rw [et]; unfold crossI; grind
            rw [e]
            exact Int.mul_neg_of_pos_of_neg (by omega) (h M hM)
          · have e : crossI (M * X (nxt n j)) (M * Y (nxt n j)) (M * X (nxt n (nxt n j))) (M * Y (nxt n (nxt n j))) (M * X (nxt n j) + oX X Y n (nxt n j)) (M * Y (nxt n j) + oY X Y n (nxt n j)) = M * ((X (nxt n (nxt n j)) - X (nxt n j)) * oY X Y n (nxt n j) - (Y (nxt n (nxt n j)) - Y (nxt n j)) * oX X Y n (nxt n j)) := by unfold crossI; grind
            rw [e]
            exact Int.mul_neg_of_pos_of_neg (by omega) q1
      · have h2 : ¬ (j = nxt n i) := fun h => hip (nxt_inj hi hpr (by rw [hnp]; exact h.symm))
        obtain ⟨N, hN, h⟩ := apart_moved (hp.apart j i hj hi hij hin h2) (oX X Y n j) (oY X Y n j) (oX X Y n (nxt n j)) (oY X Y n (nxt n j))
        exact ⟨N, hN, h⟩
/-- The first corner is the first one in order. -/
def First (X Y : Nat → Int) (n : Nat) : Prop := ∀ k, k < n → X 0 < X k ∨ (X 0 = X k ∧ Y 0 ≤ Y k)
theorem first_turn (hp : Simple X Y n) (ha : 0 < area2 X Y n) (hf : First X Y n) : 0 < trn X Y n 0 := by
  have hn : 0 < n := by have := hp.three; omega
  have hpr := prv_lt hn
  have h0 := trn_ne hp hn
  obtain ⟨N, hN, h⟩ := near_corner hp ha hpr hn (nxt_prv hn) (X 0 - 1) (Y 0)
  have hno : ¬ InP (mulP N X) (mulP N Y) n (N * X 0 + (X 0 - 1 - X 0)) (N * Y 0 + (Y 0 - Y 0)) := not_InP_left hn (fun k hk => by
    unfold mulP
    have := Int.mul_le_mul_of_nonneg_left (show X 0 ≤ X k by have := hf k hk; omega) (show 0 ≤ N by omega)
    omega)
  have hop : ¬ OpI X Y n (prv n 0) 0 (X 0 - 1) (Y 0) := fun ho => hno ((h N (by omega)).1 ho)
  rcases Int.lt_or_le 0 (trn X Y n 0) with q | q
  · exact q
  · exfalso
    unfold OpI at hop
    rw [if_neg (show ¬ 0 < crossI (X (prv n 0)) (Y (prv n 0)) (X 0) (Y 0) (X (nxt n 0)) (Y (nxt n 0)) by unfold trn at q; omega)] at hop
    have e1 : crossI (X (prv n 0)) (Y (prv n 0)) (X 0) (Y 0) (X 0 - 1) (Y 0) = (Y 0 - Y (prv n 0)) := by unfold crossI; grind
    have e2 : crossI (X 0) (Y 0) (X (nxt n 0)) (Y (nxt n 0)) (X 0 - 1) (Y 0) = Y (nxt n 0) - Y 0 := by unfold crossI; grind
    rw [e1, e2] at hop
    have g1 := hf _ hpr
    have g2 := hf _ (nxt_lt hn)
    have e3 : trn X Y n 0 = (X (prv n 0) - X 0) * (Y 0 - Y (nxt n 0)) + (Y (prv n 0) - Y 0) * (X (nxt n 0) - X 0) := by unfold trn crossI; grind
    have a1 := Int.mul_nonneg (show 0 ≤ X (prv n 0) - X 0 by omega) (show 0 ≤ Y 0 - Y (nxt n 0) by omega)
    have a2 := Int.mul_nonneg (show 0 ≤ Y (prv n 0) - Y 0 by omega) (show 0 ≤ X (nxt n 0) - X 0 by omega)
    omega
theorem first_out (hp : Simple X Y n) (ha : 0 < area2 X Y n) (hf : First X Y n) : oX X Y n 0 < 0 := by
  have hn : 0 < n := by have := hp.three; omega
  have ht := first_turn hp ha hf
  have g1 := hf _ (prv_lt hn)
  have g2 := hf _ (nxt_lt hn)
  unfold oX
  rw [if_pos ht]
  by_cases h : X (prv n 0) = X 0 ∧ X (nxt n 0) = X 0
  · have : trn X Y n 0 = 0 := by unfold trn crossI; rw [h.1, h.2]; grind
    omega
  · omega
end
section
variable {X Y : Nat → Int} {n : Nat} {A B : Nat → Int} {m : Nat}
/-- What has its edges in P does not go round the outside of P. -/
theorem outer_zero (hp : Simple X Y n) (ha : 0 < area2 X Y n) (hf : First X Y n) (hm : 0 < m) (hE : EdgesIn X Y n A B m) :
    ∃ N : Int, 0 < N ∧ ∀ M, N ≤ M → ∀ j, j < n → ¬ InP (mulP M X) (mulP M Y) n (M * X j + oX X Y n j) (M * Y j + oY X Y n j) ∧ wind (mulP M A) (mulP M B) m (M * X j + oX X Y n j) (M * Y j + oY X Y n j) = 0 := by
  have hn : 0 < n := by have := hp.three; omega
  obtain ⟨N, hN, hall⟩ := all_from (P := fun j M => ∀ i, i < n → meetB (M * X j + oX X Y n j) (M * Y j + oY X Y n j) (M * X (nxt n j) + oX X Y n (nxt n j)) (M * Y (nxt n j) + oY X Y n (nxt n j)) (mulP M X i) (mulP M Y i) (mulP M X (nxt n i)) (mulP M Y (nxt n i)) = false) n (fun j hj => along_all hp hj)
  have ho := first_out hp ha hf
  have hA : ∀ i, i < m → X 0 ≤ A i := fun i hi => by
    rcases Int.lt_or_le (A i) (X 0) with q | q
    · have := hE i hi 1 (1 * A i) (1 * B i) (by omega) (seg_start _ _ _ _ (by omega))
      rw [InP_mul (by omega)] at this
      · exact absurd this (not_InP_left hn (fun k hk => by have := hf k hk; omega))
    · exact q
  refine ⟨N, hN, fun M hM j => ?_⟩
  have hM0 : 0 < M := by omega
  induction j with
  | zero =>
    intro _
    constructor
    · refine not_InP_left hn (fun k hk => ?_)
      unfold mulP
      have := Int.mul_le_mul_of_nonneg_left (show X 0 ≤ X k by have := hf k hk; omega) (show 0 ≤ M by omega)
      omega
    · refine (left_out hm (fun i hi => ?_)).2
      unfold mulP
      have := Int.mul_le_mul_of_nonneg_left (hA i hi) (show 0 ≤ M by omega)
      omega
  | succ j ih =>
    intro hj
    obtain ⟨h1, h2⟩ := ih (by omega)
    have h3 := hall M hM j (by omega)
    rw [show nxt n j = j + 1 by unfold nxt; rw [if_neg (by omega)]] at h3
    obtain ⟨g1, g2⟩ := out_step hn hm (edges_mul hE hM0) h3 h1
    exact ⟨g1, by rw [← g2, h2]⟩
theorem sE_right {q h ax ay bx b : Int} (h1 : ax < q) (h2 : bx < q) : sE q h ax ay bx b = 0 := by
  rw [sE_eq]
  have key : ∀ {ax ay bx b : Int}, ax < q → bx < q → ay ≤ h → h < b → ¬ 0 < crossI ax ay bx b q h := fun {ax ay bx b} h1 h2 h3 h4 => by
    have e : crossI ax ay bx b q h = - ((q - bx) * (h - ay) + (q - ax) * (b - h)) := by unfold crossI; grind
    have a1 := Int.mul_nonneg (show 0 ≤ q - bx by omega) (show 0 ≤ h - ay by omega)
    have a2 := Int.mul_pos (show 0 < q - ax by omega) (show 0 < b - h by omega)
    omega
  by_cases c : b < ay
  · rw [if_pos c, if_neg (fun g => key h2 h1 g.1 g.2.1 g.2.2)]
  · rw [if_neg c, if_neg (fun g => key h1 h2 g.1 g.2.1 g.2.2)]
/-- Outside of P, at a level with no corner: what has its edges in P does not go round. -/
theorem level_zero (hp : Simple X Y n) (ha : 0 < area2 X Y n) (hf : First X Y n) (hm : 0 < m) (hE : EdgesIn X Y n A B m) {q h : Int} (hg : ∀ k, k < n → Y k ≠ h) {xs : Nat → Int}
    (hx : ∀ k, k < n → Cr Y n h k → crossI (X k) (Y k) (X (nxt n k)) (Y (nxt n k)) (xs k) h = 0) (hz : ¬ InP X Y n q h) : wind A B m q h = 0 := by
  have hn : 0 < n := by have := hp.three; omega
  have hoff : ∀ k, k < n → Cr Y n h k → xs k ≠ q := fun k hk hc e => by
    obtain ⟨K, s, s0, s1, o⟩ := cr_on hc (hx k hk hc)
    rw [e] at o
    exact hz (.inl ⟨k, hk, onB_iff.mpr ⟨K, by omega, on_seg (by omega) (by omega) o⟩⟩)
  by_cases hex : ∃ k, k < n ∧ (Cr Y n h k ∧ q < xs k)
  · obtain ⟨k, hk, ⟨ck, qk⟩, mk⟩ := exists_min (fun k => Cr Y n h k ∧ q < xs k) xs n hex
    have hfr : Free X Y n (xs k) h q h := fun i hi K x y hK h1 h2 => by
      have hy : y = K * h := by obtain ⟨s, _, _, _, e2⟩ := h1; rw [e2, Int.sub_self, Int.mul_zero]; omega
      have y1 := seg_le (seg_flip h2) (Int.le_max_left (Y i) (Y (nxt n i))) (Int.le_max_right (Y i) (Y (nxt n i)))
      have y2 := seg_ge (seg_flip h2) (Int.min_le_left (Y i) (Y (nxt n i))) (Int.min_le_right (Y i) (Y (nxt n i)))
      rw [hy] at y1 y2
      have y1' := Int.le_of_mul_le_mul_left y1 hK
      have y2' := Int.le_of_mul_le_mul_left y2 hK
      have hc : Cr Y n h i := by have := hg i hi; have := hg _ (nxt_lt hi); unfold Cr; omega
      have hxi := hx i hi hc
      have hne : Y (nxt n i) - Y i ≠ 0 := by unfold Cr at hc; omega
      have hxe : K * xs i = x := by
        obtain ⟨t, t0, t1, f1, f2⟩ := h2
        refine Int.eq_of_mul_eq_mul_left hne ?_
        unfold crossI at hxi
        rw [hy] at f2
        have g2 : (Y (nxt n i) - Y i) * (xs i - X i) = (X (nxt n i) - X i) * (h - Y i) := by grind
        rw [f1]
        grind
      have x1 := seg_le h1 (Int.le_max_left (xs k) q) (Int.le_max_right (xs k) q)
      have x2 := seg_ge h1 (Int.min_le_left (xs k) q) (Int.min_le_right (xs k) q)
      rw [← hxe] at x1 x2
      have x1' := Int.le_of_mul_le_mul_left x1 hK
      have x2' := Int.le_of_mul_le_mul_left x2 hK
      have := hoff i hi hc
      have := mk i hi ⟨hc, by omega⟩
      exact ⟨by rw [← hxe, show xs i = xs k by omega], hy⟩
    obtain ⟨K, s, s0, s1, o⟩ := cr_on ck (hx k hk ck)
    have hne : ¬ (xs k = q ∧ h = h) := fun e => hoff k hk ck e.1
    obtain ⟨N1, hN1, near⟩ := near_edge hp ha hk s0 s1 o (q - xs k) (h - h)
    have hcr : (X (nxt n k) - X k) * (h - h) - (Y (nxt n k) - Y k) * (q - xs k) ≠ 0 := by
      rw [Int.sub_self, Int.mul_zero]
      intro e
      have : (Y (nxt n k) - Y k) * (q - xs k) = 0 := by omega
      rcases Int.mul_eq_zero.mp this with r | r
      · unfold Cr at ck; omega
      · omega
    obtain ⟨N2, hN2, outer⟩ := outer_zero hp ha hf hm hE
    -- the place beside the edge is outside
    have beside : ∀ M : Int, 1 < M → ¬ InP (mulP M X) (mulP M Y) n (M * xs k + (q - xs k)) (M * h + (h - h)) ∧ wind (mulP M A) (mulP M B) m (M * xs k + (q - xs k)) (M * h + (h - h)) = wind A B m q h := fun M hM => by
      have hM0 : 0 < M := by omega
      have hz' : ¬ InP (mulP M X) (mulP M Y) n (M * q) (M * h) := by rw [InP_mul hM0]; exact hz
      obtain ⟨g1, g2⟩ := out_step hn hm (edges_mul hE hM0) (ax := M * q) (ay := M * h) (bx := M * xs k + (q - xs k)) (b := M * h + (h - h)) (fun i hi => by rw [meet_swap1]; exact free_key hM hne hfr i hi) hz'
      exact ⟨g1, by rw [← g2]; exact wind_scale hM0⟩
    have hright : (X (nxt n k) - X k) * (h - h) - (Y (nxt n k) - Y k) * (q - xs k) < 0 := by
      rcases Int.lt_or_lt_of_ne hcr with r | r
      · exact r
      · exfalso
        have := (near (max 2 N1) (by omega)).1 hcr
        rw [if_pos r] at this
        exact (beside (max 2 N1) (by omega)).1 (.inr (by rw [this.1]; decide))
    obtain ⟨N3, hN3, back⟩ := along_back hp hk s0 s1 o hright
    have b1 := beside (max 2 (max N2 N3)) (by omega)
    have b2 := back (max 2 (max N2 N3)) (by omega)
    have b3 := outer (max 2 (max N2 N3)) (by omega) k hk
    have b4 := out_step hn hm (edges_mul hE (show 0 < max 2 (max N2 N3) by omega)) b2 b1.1
    rw [← b1.2, b4.2, b3.2]
  · obtain ⟨R1, L1, hR1⟩ := all_bound X n
    obtain ⟨R2, L2, hR2⟩ := all_bound A m
    obtain ⟨R, hR⟩ : ∃ R, R = max q (max (R1 + L1) (R2 + L2)) + 1 := ⟨_, rfl⟩
    have hm' : ∀ k, k < n → meetB q h R h (X k) (Y k) (X (nxt n k)) (Y (nxt n k)) = false := fun k hk => by
      cases hb : meetB q h R h (X k) (Y k) (X (nxt n k)) (Y (nxt n k)) with
      | false => rfl
      | true =>
        obtain ⟨c, z1, z2⟩ := level_meet ⟨hg k hk, hg _ (nxt_lt hk)⟩ (hx k hk) hb
        have := hoff k hk c
        exact absurd ⟨k, hk, c, by omega⟩ hex
    rw [(out_step hn hm hE hm' hz).2]
    exact sumZ_zero m (fun i hi => sE_right (by have := hR2 i hi; omega) (by have := hR2 _ (nxt_lt hi); omega))
/-- What has its edges in a polygon lies in it. -/
theorem inside (hp : Simple X Y n) (ha : 0 < area2 X Y n) (hf : First X Y n) (hm : 0 < m) (hE : EdgesIn X Y n A B m) {x y : Int} (hq : InP A B m x y) : InP X Y n x y := by
  rcases Classical.em (InP X Y n x y) with h | hz
  · exact h
  exfalso
  have hn : 0 < n := by have := hp.three; omega
  have hqO : ∀ i, i < m → onB x y (A i) (B i) (A (nxt m i)) (B (nxt m i)) = false := fun i hi => by
    cases ho : onB x y (A i) (B i) (A (nxt m i)) (B (nxt m i)) with
    | false => rfl
    | true =>
      obtain ⟨k, hk, hs⟩ := onB_iff.mp ho
      have := hE i hi k _ _ hk hs
      rw [InP_mul hk] at this
      exact (hz this).elim
  have hpO : ∀ i, i < n → onB x y (X i) (Y i) (X (nxt n i)) (Y (nxt n i)) = false := fun i hi => by
    cases ho : onB x y (X i) (Y i) (X (nxt n i)) (Y (nxt n i)) with
    | false => rfl
    | true => exact (hz (.inl ⟨i, hi, ho⟩)).elim
  have hw : wind A B m x y ≠ 0 := by
    rcases hq with ⟨i, hi, ho⟩ | hq
    · exact (ne_tf (hqO i hi) ho).elim
    · exact hq
  have hwp : wind X Y n x y = 0 := by
    rcases Decidable.em (wind X Y n x y = 0) with h | h
    · exact h
    · exact (hz (.inr h)).elim
  obtain ⟨R1, L1, hR1⟩ := all_bound X n
  obtain ⟨R2, L2, hR2⟩ := all_bound A m
  obtain ⟨K, hK, hb, hb'⟩ : ∃ K : Int, 2 ≤ K ∧ (∀ i k, i < n → k < n → -K < X i - X k ∧ X i - X k < K) ∧ (∀ i k, i < m → k < m → -K < A i - A k ∧ A i - A k < K) := by
    refine ⟨2 + L1 + L2, by omega, fun i k hi hk => ?_, fun i k hi hk => ?_⟩
    · have := hR1 i hi; have := hR1 k hk; omega
    · have := hR2 i hi; have := hR2 k hk; omega
  have hD := hts_pos Y n
  obtain ⟨xs, hxs⟩ := cross_points (X := X) K (hts Y n) y (fun k hk hne => hts_dvd Y n hk hne)
  generalize hts Y n = D at *
  have hM : 0 < K * D := Int.mul_pos (by omega) hD
  have w1 : wind (mulP (K * D) X) (mulP (K * D) Y) n (K * D * x) (K * D * y + D) = wind X Y n x y := sumZ_congr n (fun k hk => sE_shift hK hD (hb _ _ (nxt_lt hk) hk) (hpO k hk))
  have w2 : wind (mulP (K * D) A) (mulP (K * D) B) m (K * D * x) (K * D * y + D) = wind A B m x y := sumZ_congr m (fun k hk => sE_shift hK hD (hb' _ _ (nxt_lt hk) hk) (hqO k hk))
  have hgen : ∀ k, k < n → mulP (K * D) Y k ≠ K * D * y + D := fun k _ h => by
    unfold mulP at h
    have h1 := (level (a := Y k) (q := y) hK hD).1.mp (by omega)
    have := Int.mul_le_mul_of_nonneg_left h1 (show 0 ≤ K * D by omega)
    omega
  have hno : ¬ InP (mulP (K * D) X) (mulP (K * D) Y) n (K * D * x) (K * D * y + D) := by
    rintro (⟨k, hk, ho⟩ | h)
    · obtain ⟨c, z1, z2⟩ := level_meet (X := mulP (K * D) X) (Y := mulP (K * D) Y) (n := n) (q := K * D * x) (x := K * D * x) (z := xs k) ⟨hgen k hk, hgen _ (nxt_lt hk)⟩ (fun hc => hxs k hk hc) (by
        obtain ⟨L, hL, hs⟩ := onB_iff.mp ho
        exact meet_of_common ⟨L, _, _, hL, seg_start _ _ _ _ (by omega), hs⟩)
      have e : xs k = K * D * x := by omega
      have h0 := hxs k hk c
      rw [e] at h0
      exact shift_off hK hD (hb _ _ (nxt_lt hk) hk) (hpO k hk) c h0
    · exact h (by rw [w1, hwp])
  have hfirst : First (mulP (K * D) X) (mulP (K * D) Y) n := fun k hk => by
    unfold mulP
    rcases hf k hk with h | ⟨h1, h2⟩
    · exact .inl (Int.mul_lt_mul_of_pos_left h hM)
    · exact .inr ⟨by rw [h1], Int.mul_le_mul_of_nonneg_left h2 (by omega)⟩
  have := level_zero (simple_mul hM hp) (area2_mul hM ha) hfirst hm (edges_mul hE hM) hgen (xs := xs) (fun k hk hc => hxs k hk hc) hno
  rw [w2] at this
  exact hw this
end
end Go.Proofs.Ytglepdhapakmbaa
