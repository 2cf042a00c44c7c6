/- NK, merged: Qa, Qk0. -/
import Derived.Test.YtglepdhapakmbaaMP
set_option linter.unusedSimpArgs false
set_option linter.unusedVariables false
/- Plane geometry, no program: a simple polygon with an area above 0 has its inside on the left of each edge. -/
namespace Go.Proofs.Ytglepdhapakmbaa
open Go.RowKit

/-! ### Sums -/
theorem sumZ_add (f g : Nat → Int) : ∀ n, sumZ (fun k => f k + g k) n = sumZ f n + sumZ g n
  | 0 => rfl
  | n + 1 => by simp only [sumZ, sumZ_add f g n]; omega
theorem sumZ_mul (c : Int) (f : Nat → Int) : ∀ n, sumZ (fun k => c * f k) n = c * sumZ f n
  | 0 => by simp [sumZ]
  | n + 1 => by simp only [sumZ, sumZ_mul c f n, Int.mul_add]
theorem sumZ_comm (f : Nat → Nat → Int) (m : Nat) : ∀ n, sumZ (fun k => sumZ (fun j => f k j) m) n = sumZ (fun j => sumZ (fun k => f k j) n) m
  | 0 => by simp only [sumZ]; exact (sumZ_zero m (fun _ _ => rfl)).symm
  | n + 1 => by
    simp only [sumZ]
    rw [sumZ_comm f m n, ← sumZ_add]
theorem sumZ_pos {f : Nat → Int} : ∀ n, 0 < sumZ f n → ∃ k, k < n ∧ 0 < f k
  | 0, h => by simp [sumZ] at h
  | n + 1, h => by
    simp only [sumZ] at h
    by_cases q : 0 < f n
    · exact ⟨n, by omega, q⟩
    · obtain ⟨k, hk, hp⟩ := sumZ_pos n (show 0 < sumZ f n by omega)
      exact ⟨k, by omega, hp⟩
/-- How many of the numbers from m on are less than x. -/
theorem count_below (m x : Int) : ∀ (L : Nat), m ≤ x → x ≤ m + L → sumZ (fun t => if m + t < x then (1 : Int) else 0) L = x - m := by
  have aux : ∀ (L : Nat), m ≤ x → sumZ (fun t => if m + t < x then (1 : Int) else 0) L = if x ≤ m + L then x - m else L := by
    intro L hm
    induction L with
    | zero => simp only [sumZ]; split <;> omega
    | succ n ih =>
      simp only [sumZ, ih]
      (repeat' split) <;> omega
  intro L h1 h2
  rw [aux L h1, if_pos h2]
/-- The sum of the odd numbers. -/
theorem odd_sum : ∀ h : Nat, sumZ (fun i => 2 * (i : Int) + 1) h = (h : Int) * h
  | 0 => rfl
  | h + 1 => by simp only [sumZ, odd_sum h]; grind

section
variable {X Y : Nat → Int} {n : Nat}
/-- Twice the area. -/
def area2 (X Y : Nat → Int) (n : Nat) : Int := sumZ (fun k => X k * Y (nxt n k) - Y k * X (nxt n k)) n
theorem area_trap (hn : 0 < n) : area2 X Y n = sumZ (fun k => (X k + X (nxt n k)) * (Y (nxt n k) - Y k)) n := by
  have h := sumZ_tele (fun k => X k * Y k) hn
  have e : sumZ (fun k => (X k + X (nxt n k)) * (Y (nxt n k) - Y k)) n = sumZ (fun k => (X k * Y (nxt n k) - Y k * X (nxt n k)) + ((fun k => X k * Y k) (nxt n k) - (fun k => X k * Y k) k)) n :=
    sumZ_congr n (fun k _ => by dsimp only; grind)
  rw [e, sumZ_add, h, area2]; omega
/-- Is a corner at most at the level j? -/
def uL (Y : Nat → Int) (j : Int) (k : Nat) : Int := if Y k ≤ j then 1 else 0
/-- Where an edge crosses the middle of the strip above j, all lengths times 2 D. -/
def xL (X Y : Nat → Int) (n : Nat) (D : Int) (e : Nat → Int) (j : Int) (k : Nat) : Int := 2 * D * X k + (X (nxt n k) - X k) * e k * (2 * j + 1 - 2 * Y k)
/-- One edge's share of the area, strip by strip. -/
theorem edge_strips {D : Int} {e : Nat → Int} {B : Int} {T : Nat} {k : Nat} (he : D = (Y (nxt n k) - Y k) * e k) (h1 : -B ≤ Y k ∧ Y k ≤ -B + T) (h2 : -B ≤ Y (nxt n k) ∧ Y (nxt n k) ≤ -B + T) :
    sumZ (fun t => (uL Y (-B + t) k - uL Y (-B + t) (nxt n k)) * xL X Y n D e (-B + t) k) T = D * ((X k + X (nxt n k)) * (Y (nxt n k) - Y k)) := by
  -- the sum up to a level, in closed form
  have aux : ∀ (a b : Int) (T : Nat), -B ≤ a → a ≤ b → ∀ (p q : Int), sumZ (fun t => (if a ≤ -B + (t : Int) ∧ -B + (t : Int) < b then p + q * (2 * (-B + t) + 1) else 0)) T =
      if -B + T ≤ a then 0 else if -B + T ≤ b then p * (-B + T - a) + q * ((-B + T) * (-B + T) - a * a) else p * (b - a) + q * (b * b - a * a) := by
    intro a b T ha hab p q
    induction T with
    | zero => simp only [sumZ]; rw [if_pos (by omega)]
    | succ T ih =>
      simp only [sumZ, ih]
      by_cases c1 : -B + (T : Int) < a
      · rw [if_pos (by omega), if_neg (by omega), if_pos (by omega)]; rfl
      · by_cases c2 : -B + (T : Int) < b
        · rw [if_pos (show a ≤ -B + (T : Int) ∧ -B + (T : Int) < b by omega), if_neg (show ¬ -B + ((T + 1 : Nat) : Int) ≤ a by omega), if_pos (show -B + ((T + 1 : Nat) : Int) ≤ b by omega)]
          by_cases c3 : -B + (T : Int) ≤ a
          · rw [if_pos c3]
            have : a = -B + (T : Int) := by omega
            subst this
            push_cast
            grind
          · rw [if_neg c3, if_pos (by omega)]
            push_cast
            grind
        · rw [if_neg (show ¬ (a ≤ -B + (T : Int) ∧ -B + (T : Int) < b) by omega)]
          by_cases c4 : -B + ((T : Nat) : Int) = a
          · have : a = b := by omega
            subst this
            rw [if_pos (by omega), if_neg (by push_cast; omega), if_neg (by push_cast; omega)]
            grind
          · by_cases c5 : -B + ((T : Nat) : Int) = b
            · rw [if_neg (by omega), if_pos (by omega), if_neg (by push_cast; omega), if_neg (by push_cast; omega), c5]; omega
            · rw [if_neg (by omega), if_neg (by omega), if_neg (by push_cast; omega), if_neg (by push_cast; omega)]; omega
  rcases Int.le_total (Y k) (Y (nxt n k)) with h | h
  · have e1 : sumZ (fun t => (uL Y (-B + t) k - uL Y (-B + t) (nxt n k)) * xL X Y n D e (-B + t) k) T = sumZ (fun t => (if Y k ≤ -B + (t : Int) ∧ -B + (t : Int) < Y (nxt n k) then (2 * D * X k - (X (nxt n k) - X k) * e k * (2 * Y k)) + ((X (nxt n k) - X k) * e k) * (2 * (-B + t) + 1) else 0)) T :=
      sumZ_congr T (fun t _ => by
        unfold uL xL
        by_cases c1 : Y k ≤ -B + (t : Int)
        · by_cases c2 : -B + (t : Int) < Y (nxt n k)
          · rw [if_pos c1, if_neg (by omega), if_pos ⟨c1, c2⟩]; grind
          · rw [if_pos c1, if_pos (by omega), if_neg (by omega)]; omega
        · rw [if_neg c1, if_neg (by omega), if_neg (by omega)]; omega)
    rw [e1, aux _ _ _ h1.1 h]
    by_cases c : -B + (T : Int) ≤ Y k
    · rw [if_pos c]
      have : Y (nxt n k) = Y k := by omega
      rw [this]; grind
    · rw [if_neg c]
      by_cases c' : -B + (T : Int) ≤ Y (nxt n k)
      · rw [if_pos c']
        have : -B + (T : Int) = Y (nxt n k) := by omega
        rw [this, he]; grind
      · rw [if_neg c', he]; grind
  · have e1 : sumZ (fun t => (uL Y (-B + t) k - uL Y (-B + t) (nxt n k)) * xL X Y n D e (-B + t) k) T = sumZ (fun t => (if Y (nxt n k) ≤ -B + (t : Int) ∧ -B + (t : Int) < Y k then -(2 * D * X k - (X (nxt n k) - X k) * e k * (2 * Y k)) + (-((X (nxt n k) - X k) * e k)) * (2 * (-B + t) + 1) else 0)) T :=
      sumZ_congr T (fun t _ => by
        unfold uL xL
        by_cases c1 : Y (nxt n k) ≤ -B + (t : Int)
        · by_cases c2 : -B + (t : Int) < Y k
          · rw [if_neg (by omega), if_pos c1, if_pos ⟨c1, c2⟩]; grind
          · rw [if_pos (by omega), if_pos c1, if_neg (by omega)]; omega
        · rw [if_neg (by omega), if_neg (by omega), if_neg (by omega)]; omega)
    rw [e1, aux _ _ _ h2.1 h]
    by_cases c : -B + (T : Int) ≤ Y (nxt n k)
    · rw [if_pos c]
      have : Y (nxt n k) = Y k := by omega
      rw [this]; grind
    · rw [if_neg c]
      by_cases c' : -B + (T : Int) ≤ Y k
      · rw [if_pos c']
        have : -B + (T : Int) = Y k := by omega
        rw [this, he]; grind
      · rw [if_neg c', he]; grind
end
end Go.Proofs.Ytglepdhapakmbaa
/- Chapter 07: twice the area of a polygon, as the machine sums it. -/
namespace Go.Proofs.Ytglepdhapakmbaa
open Go.RowKit
theorem twice_sum {r : Rows} (hpl : ∀ k, k < r.length → placeB (cx r k) (cy r k) = true) (hl : r.length ≤ 24) : ∀ (f i : Nat), i + f = r.length → twiceN r f i (sumZ (fun k => cx r k * cy r (nxt r.length k) - cy r k * cx r (nxt r.length k)) i) = area2 (cx r) (cy r) r.length := by
  have hg : ∀ k, k < r.length → (-1000000000000 ≤ cx r k * cy r (nxt r.length k) ∧ cx r k * cy r (nxt r.length k) ≤ 1000000000000) ∧ (-1000000000000 ≤ cy r k * cx r (nxt r.length k) ∧ cy r k * cx r (nxt r.length k) ≤ 1000000000000) := fun k hk => by
    obtain ⟨h0, h1⟩ := placeB_iff.1 (hpl k hk)
    obtain ⟨h2, h3⟩ := placeB_iff.1 (hpl _ (nxt_lt hk))
    have key : ∀ a b : Int, -1000000 ≤ a ∧ a ≤ 1000000 → -1000000 ≤ b ∧ b ≤ 1000000 → -1000000000000 ≤ a * b ∧ a * b ≤ 1000000000000 := fun a b ha hb => by
      have p1 := Int.mul_nonneg (show 0 ≤ 1000000 - a by omega) (show 0 ≤ 1000000 - b by omega)
      have p2 := Int.mul_nonneg (show 0 ≤ 1000000 + a by omega) (show 0 ≤ 1000000 + b by omega)
      have p3 := Int.mul_nonneg (show 0 ≤ 1000000 - a by omega) (show 0 ≤ 1000000 + b by omega)
      have p4 := Int.mul_nonneg (show 0 ≤ 1000000 + a by omega) (show 0 ≤ 1000000 - b by omega)
      constructor <;> grind
    exact ⟨key _ _ h0 h3, key _ _ h1 h2⟩
  have hs : ∀ i, i ≤ r.length → -(2000000000000 * (i : Int)) ≤ sumZ (fun k => cx r k * cy r (nxt r.length k) - cy r k * cx r (nxt r.length k)) i ∧ sumZ (fun k => cx r k * cy r (nxt r.length k) - cy r k * cx r (nxt r.length k)) i ≤ 2000000000000 * (i : Int) := by
    intro i
    induction i with
    | zero => intro _; simp [sumZ]
    | succ i ih =>
      intro hi
      have := ih (by omega)
      have := hg i (by omega)
      simp only [sumZ]
      omega
  intro f
  induction f with
  | zero => intro i hi; rw [twiceN, show i = r.length by omega]; rfl
  | succ f ih =>
    intro i hi
    rw [twiceN]
    have h1 := hg i (by omega)
    have h2 := hs i (by omega)
    have e := ih (i + 1) (by omega)
    simp only [sumZ] at e
    rw [← e]
    congr 1
    have h3 : lg r i 0 * lg r (nxt r.length i) 1 = cx r i * cy r (nxt r.length i) := rfl
    have h4 : lg r i 1 * lg r (nxt r.length i) 0 = cy r i * cx r (nxt r.length i) := rfl
    rw [h3, h4, wrap_in (cx r i * cy r (nxt r.length i)) (by omega) (by omega), wrap_in (cy r i * cx r (nxt r.length i)) (by omega) (by omega), wrap_in (cx r i * cy r (nxt r.length i) - cy r i * cx r (nxt r.length i)) (by omega) (by omega)]
    rw [wrap_in _ (by omega) (by omega)]
section
variable {r : Rows}
theorem poly_area (hr : polyB r = true) : 0 < area2 (cx r) (cy r) r.length := by
  have hl := polyB_len hr
  have h := twice_sum (fun k hk => polyB_pl hr hk) hl.2 r.length 0 (by omega)
  simp only [polyB, Bool.and_eq_true, decide_eq_true_eq] at hr
  have := hr.2.2.2.2
  rw [← h]
  exact this
end
end Go.Proofs.Ytglepdhapakmbaa
